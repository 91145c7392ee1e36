/- Own work. -/
import Derived.Test.YtjpjambjoceofaaGreatDoorEh
set_option linter.unusedVariables false
set_option linter.unusedSimpArgs false
namespace Go.Ps
open Go Go.Vc Go.Proofs List Tryz
variable{K:bz}{m:MH}{h:PH}{s:jE}{ps:ca}{ts:cq}{cb:Nat}{sc:cE}{v:QV}{t:Step}{p:Pred}{l:ca}{i:Nat}{N:Nat}{m':MH}{h':PH}{co:ca}{gr:ca}{od:cg}{ta:Int}{li:Int}{xs:List bx}{sz:Nat}{ks:List ca}{rs:ca}{r:Sl}{a:ca}{b:Nat}
theorem NR{b:ca}{l:ce}(h:∀x∈l,B9 a x.1=true/\B9 b x.2=true/\a.getD x.1.toNat 0=b.getD x.2.toNat 0)(d:(l.map Prod.fst).Nodup)(f:(l.map Prod.snd).Nodup):Good (lX a b) l:=by
 intro i x c;obtain⟨g,n,o⟩:=h x (mem_of_getElem? c);refine⟨g,n,o,λq u=>?_⟩;obtain⟨j,A,e⟩:=mem_take_iff_getElem.1 u;obtain⟨y,z⟩:=List.getElem?_eq_some_iff.1 c;rw[nodup_iff_pairwise_ne,pairwise_iff_getElem]at d f
 grind
theorem XR{b:ca}{l:ce}(h:Good (lX a b) l):(l.map Prod.fst).Nodup/\(l.map Prod.snd).Nodup:=by
 rw[nodup_iff_pairwise_ne,pairwise_iff_getElem,nodup_iff_pairwise_ne,pairwise_iff_getElem];refine⟨λi j e c d=>?_,λi j e c d=>?_⟩<;>
 .simp only[length_map]at e c;simp only[getElem_map];have:=(h j l[j] (getElem?_eq_getElem c)).2.2.2 l[i] (mem_take_iff_getElem.2 ⟨i,aD,rfl⟩)
  first|exact this.1|exact this.2
theorem aEJ{b:ca}{on:ce}(h:Good (lX a b) on):Good (lX b a) (qL on):=by
 obtain⟨f,g⟩:=XR h;refine NR (λx c=>?_) ?_ ?_
 .obtain⟨p,d,rfl⟩:=mem_map.1 c;have:=Ca (P:=λp=>B9 a p.1=true/\B9 b p.2=true/\a.getD p.1.toNat 0=b.getD p.2.toNat 0) h (λe x t=>⟨t.1,t.2.1,t.2.2.1⟩) p d
  grind
 .unfold qL;grind
 .unfold qL;grind
theorem a5J(h:Good (FE a) gr):Good (lX a a) (uD gr):=by
 have u:gr.Nodup:=by
  rw[nodup_iff_pairwise_ne,pairwise_iff_getElem];intro i j y d f e;exact(h j gr[j] (getElem?_eq_getElem d)).2 (by rw[<-e];exact mem_take_iff_getElem.2 ⟨i,aD,rfl⟩)
 refine NR (λx g=>?_) ?_ ?_
 .obtain⟨c,n,rfl⟩:=mem_map.1 g;have:=Ca (P:=λc=>B9 a c=true) h (λo x t=>t.1) c n
  grind
 .unfold uD;grind
 .unfold uD;grind
theorem aGJ{α β:Type}{f:α->β}:∀{l:List α},l.Nodup->(∀x∈l,∀y∈l,f x=f y->x=y)->(l.map f).Nodup
 |[],_,_=>bf
 |a::l,h,c=>by
  rw[nodup_cons]at h;rw[map_cons,nodup_cons];refine⟨λg=>?_,aGJ h.2 λx d y e=>c x (by simp[d]) y (by simp[e])⟩
  grind
theorem XS(h:Good (λ_ c=>B9 a c=true) co):Good (lX a (co.map λc=>a.getD c.toNat 0)) (oR co):=by
 have g:((List.range co.length).filter λi=>decide (co.idxOf (co.getD i 0)=i)).Nodup:=List.Nodup.sublist filter_sublist nodup_range;refine NR (λx e=>?_) ?_ ?_
 .obtain⟨i,j,rfl⟩:=mem_map.1 e;have d:i<co.length:=bk
  have f:co.getD i 0=co[i]:=by simp[d]
  have:=h i co[i] (getElem?_eq_getElem d);dsimp only;rw[f];refine⟨this,eJ.2 ⟨aD,bj⟩,?_⟩
  grind
 .unfold oR
  grind
 .unfold oR
  grind
theorem XQ{b:ca}:Good (lX (a++b) b) (Bg (a.length:Int) (b.length:Int)):=by
 have e:(List.range b.length).Nodup:=nodup_range;refine NR (λx c=>?_) ?_ ?_
 .unfold Bg at c;rw[Int.toNat_natCast]at c;obtain⟨i,f,rfl⟩:=mem_map.1 c;have d:i<b.length:=bk
  refine⟨eJ.2 ⟨aD,bk⟩,eJ.2 ⟨aD,aD⟩,?_⟩
  grind
 .unfold Bg
  grind
 .unfold Bg
  grind
theorem aiZ{K:ca}{a n:Nat}(h:a+n<=K.length):Good (λ_ c=>B9 K c=true) (gU a n):=by
 intro i x d;have:=mem_of_getElem? d;unfold gU at this;obtain⟨j,e,rfl⟩:=mem_map.1 this;have:j<n:=bk
 exact eJ.2 ⟨aD,aD⟩
theorem Vi{K:ca}{a n:Nat}(h:a+n<=K.length):(gU a n).map (λc=>K.getD c.toNat 0)=(K.drop a).take n:=by
 unfold gU;rw[map_map,Int.toNat_natCast];apply ext_getElem?
 grind
theorem aCX{K:ca}{n:Nat}(h:n<=K.length):(gU 0 n).map (λc=>K.getD c.toNat 0)=K.take n:=by
 have:=Vi (K:=K) (a:=0) (n:=n) aD
 grind
theorem wY{s:jE}{ts:cq}{op:Int}{on:ce}{gr:ca}{od:cg}{li:Int}{a b:Nat}(c:s.tables.length<=1000)(v:DL s ts)(d:ts.length<=100000)(e:arity op=2)(f:a<ts.length)(j:b<ts.length)(g:iB s (.mk op 0 eW [] on gr od li [aR ts a,aR ts b])):
 Bb s ts (bT ⟨op,0,eW,[],on,gr,od,li,a,b⟩ ts).1 (bT ⟨op,0,eW,[],on,gr,od,li,a,b⟩ ts).2 (.mk op 0 eW [] on gr od li [aR ts a,aR ts b]):=
 Lh (ks:=[a,b]) c v d (by rw[e];rfl) (λk n=>bk) rfl g
theorem Xp{s:jE}{ts:cq}{co:ca}{a:Nat}(c:s.tables.length<=1000)(v:DL s ts)(d:ts.length<=100000)(e:a<ts.length)(g:iB s (Ig (aR ts a) co)):
 Bb s ts (bT (nE a co) ts).1 (bT (nE a co) ts).2 (Ig (aR ts a) co):=
 Lh (ks:=[a]) c v d rfl (λk f=>bk) rfl g
theorem Bb.keep{c:cq}{k:Nat}{q:Query}(x:Bb s ts c k q)(d:i<ts.length):i<c.length/\aR c i=aR ts i:=⟨Nat.lt_of_lt_of_le d x.pre.length_le,eV x.pre x.inv.ok i d⟩
structure zO(s:jE)(ts:cq)(rs:ca)(r:cq×ca)(qs:ci):Prop where
 inv:DL s r.1
 pre:ts<+:r.1
 ex:∃ds:cv,r.2=rs++ds.map (fun(d:Nat)=>(d:Int))/\(∀d∈ds,d<r.1.length)/\ds.map (aR r.1)=qs
theorem zO.comp{e:cq}{z r:cq×ca}{f g:ci}(x:zO s ts rs z f)(j:z.1<+:e)(y:zO s e z.2 r g):zO s ts rs r (f++g):=by
 obtain⟨o,D,u,A⟩:=x.ex;obtain⟨B,E,F,C⟩:=y.ex;have c:=j.trans y.pre;refine⟨y.inv,(x.pre.trans j).trans y.pre,o++B,bk,λd n=>?_,?_⟩
 .grind
 .rw[map_append,C, <-A];congr 1;exact map_congr_left λd n=>eV c y.inv.ok d (u d n)
theorem zO.shift{c:cq}{r:cq×ca}{q:ci}(d:ts<+:c)(y:zO s c rs r q):zO s ts rs r q:=⟨y.inv,d.trans y.pre,y.ex⟩
theorem NC{q p:Query}{op:Int}{w:Pred}{on:ce}(c:op≠1)(d:op≠4):fS 4 (.mk op ta w co on gr od li [q,p])=fS 4 q+fS 4 p:=by
 rw[fS,if_neg c,if_neg d];simp[vM]
theorem cxQ{q:Query}{w:Pred}{on:ce}:fS 4 (.mk 3 ta w co on gr od li [q])=fS 4 q:=by
 rw[fS,if_neg bg,if_neg bg];simp[vM]
theorem akX{s:jE}{ts:cq}{p:PN}{gr:ca}{od:cg}{li:Int}{B b k:Nat}(j:s.tables.length<=1000)(v:DL s ts)(I:ts.length+5<=100000)(n:k<ts.length)(C:GN s ts p)(e:(aJ s [] (aR ts k)).1=(aJ s [] p.q).1)(o:lR (aJ s [] p.q).1 gr od li)(D:fS 4 p.q<=B)(J:fS 4 (aR ts k)<=b)(E:b+2*B<=8000000):
 Bb s ts (AW p k gr od li ts).1 (AW p k gr od li ts).2 (FI (lI (fL p.q) (aR ts k) (uD gr)) p.q gr od li)/\(aJ s [] (FI (lI (fL p.q) (aR ts k) (uD gr)) p.q gr od li)).1=(aJ s [] p.q).1/\fS 4 (FI (lI (fL p.q) (aR ts k) (uD gr)) p.q gr od li)<=b+2*B:=by
 obtain⟨F,u,f,x,_,G,_⟩:=C.get;have ev:=D0 _ G;have L:fS 4 (fL p.q)<=B:=Nat.le_trans ev.2.2 D;have g:(aJ s [] (aR ts p.env)).1=(aJ s [] p.q).1:=bk
 have y:=DQ (on:=uD gr) (v.good _ u) (v.good k n) (by rw[g,e];exact a5J o.group_) bk;have A:=wY (on:=uD gr) (gr:=[]) (od:=[]) (li:=0) j v aD (show arity 5=2 from rfl) u n y.1;have H:=dP (dO p.env k (uD gr)) ts;have A:Bb s ts (bT (dO p.env k (uD gr)) ts).1 (bT (dO p.env k (uD gr)) ts).2 (lI (fL p.q) (aR ts k) (uD gr)):=by rw[<-x];exact A
 rw[x]at y;have M:fS 4 (lI (fL p.q) (aR ts k) (uD gr))<=b+B:=by unfold lI;rw[NC bg bg];omega
 have c:=A.keep F;have d:(aJ s [] (lI (fL p.q) (aR ts k) (uD gr))).1=(aJ s [] p.q).1:=bk
 have z:=aEQ (gr:=gr) (od:=od) (li:=li) (A.inv.good _ A.lt) (A.inv.good _ c.1) (by rw[A.is,c.2,f,d]) (by rw[A.is,d];exact o) (by rw[A.is,c.2,f];omega);have A2:=wY (on:=[]) (gr:=gr) (od:=od) (li:=li) j A.inv aD (show arity 10=2 from rfl) A.lt c.1 z.1;rw[A.is,c.2,f]at z A2;refine⟨⟨A2.inv,A.pre.trans A2.pre,A2.lt,A2.is⟩,bk,?_⟩;unfold FI;rw[NC bg bg];omega
set_option maxHeartbeats 32000000 in
theorem vX{s:jE}(o:dK s=0):∀(p:PN)(B W b k:Nat)(ts:cq)(rs:ca),GN s ts p->DL s ts->k<ts.length->(aJ s [] (aR ts k)).1=(aJ s [] p.q).1->fS 4 p.q<=B->2*B<=W->fS 4 (aR ts k)<=b->b+W*j9 p<=8000000->ts.length+5*j9 p<=100000->
 zO s ts rs (fG p k ts rs) (pZ (xT s) p.q (aR ts k))
 |.mk (.mk op ta w co on gr od li a5) args r e wd,B,W,b,k,ts,rs,hp,v,E,f,hB,hW,hb,H,hl=>by
  have Q:=Vl o;have b4:=hp;rw[GN]at hp;obtain⟨_,_,_,_,_,g,ha,L⟩:=hp;have ha:a5=args.map PN.q:=ha;subst ha;have hB:fS 4 (.mk op ta w co on gr od li (args.map PN.q))<=B:=hB;have f:(aJ s [] (aR ts k)).1=(aJ s [] (.mk op ta w co on gr od li (args.map PN.q))).1:=f;show zO s ts rs _ (pZ (xT s) (.mk op ta w co on gr od li (args.map PN.q)) (aR ts k));obtain⟨n,b5,I,ga⟩:=g.node;have gD:=v.good k E;have J:∀a∈args,fS 4 a.q<=B:=λa h=>Nat.le_trans (atJ g (mem_map.2 ⟨a,h,rfl⟩)) hB;have eB:∀a∈args,fS 4 (fL a.q)<=B:=λa h=>Nat.le_trans (D0 _ (ga _ (mem_map.2 ⟨a,h,rfl⟩))).2.2 (J a h);have eg:∀a∈args,(aJ s [] (fL a.q)).1=(aJ s [] a.q).1:=λa h=>(D0 _ (ga _ (mem_map.2 ⟨a,h,rfl⟩))).2.1;have V:∀a∈args,a.rows<ts.length/\a.env<ts.length/\aR ts a.rows=a.q/\aR ts a.env=fL a.q/\a.width=xT s a.q/\iB s a.q:=λa h=>let x:=(L a h).get;⟨x.1,x.2.1,x.2.2.1,x.2.2.2.1,x.2.2.2.2.1,x.2.2.2.2.2.1⟩
  rw[n.out]at f;rw[length_map]at I;rw[fG.eq_def,pZ.eq_def];simp only[j9]at H hl;have a8:op=1\/op=2\/op=3\/op=9\/op=4\/op=5\/op=6\/op=7\/op=8\/op=10:=by omega
  rcases a8 with rfl|rfl|rfl|rfl|rfl|rfl|rfl|rfl|rfl|rfl
  .obtain rfl:args=[]:=eq_nil_of_length_eq_zero (by have:arity 1=0:=rfl;omega);exact⟨v,prefix_refl _,[k],rfl,λd hd=>by simp at hd;subst hd;exact E,rfl⟩
  .obtain⟨a,rfl⟩:=GV (l:=args) (by rw[I];rfl);simp only[rG]at H hl;have e1:W*(1+(j9 a+0))=W+W*j9 a:=bk
   exact vX o a B W b k ts rs (L a bf) v E f (J a bf) hW hb aD aD
  .obtain⟨a,rfl⟩:=GV (l:=args) (by rw[I];rfl);simp only[rG]at H hl;have e1:W*(1+(j9 a+0))=W+W*j9 a:=bk
   obtain⟨_,g2,_,g4,_,g6⟩:=V a bf;have g1:=eB a bf;have gE:iB s (aR ts a.env):=v.good _ g2;have M:(aJ s [] (aR ts a.env)).1=(aJ s [] a.q).1:=bk
   have R:=DQ (on:=oR co) gE gD (by rw[M,f];exact XS (n.proj rfl).2) bk;have A:=wY (on:=oR co) (gr:=[]) (od:=[]) (li:=0) Q v aD (show arity 5=2 from rfl) g2 E R.1;have a1:=dP (dO a.env k (oR co)) ts;have A:Bb s ts (bT (dO a.env k (oR co)) ts).1 (bT (dO a.env k (oR co)) ts).2 (lI (fL a.q) (aR ts k) (oR co)):=by rw[<-g4];exact A
   show zO s ts rs (fG a (bT (dO a.env k (oR co)) ts).2 (bT (dO a.env k (oR co)) ts).1 rs) (pZ (xT s) a.q (lI (fL a.q) (aR ts k) (oR co)));have:=vX o a B W (b+2*B) _ _ rs (GN.mono A.pre A.inv.ok a (L a bf)) A.inv A.lt (by rw[A.is, <-g4,R.2];exact M) (J a bf) hW (by rw[A.is];unfold lI;rw[NC bg bg];omega) aD aD;rw[A.is]at this;exact this.shift A.pre
  .obtain⟨a,rfl⟩:=GV (l:=args) (by rw[I];rfl);simp only[rG]at H hl;have e1:W*(1+(j9 a+0))=W+W*j9 a:=bk
   obtain⟨g0,g2,S,g4,_,g6⟩:=V a bf;have g1:=eB a bf;have a2:lR (aJ s [] a.q).1 gr od li:=n.rank (.inl rfl);have f:(aJ s [] (aR ts k)).1=(aJ s [] a.q).1:=f;have P:=akX (gr:=gr) (od:=od) (li:=li) Q v aD E (L a bf) f a2 (J a bf) hb aD;show zO s ts rs (fG a (AW a k gr od li ts).2 (AW a k gr od li ts).1 rs) (pZ (xT s) a.q (FI (lI (fL a.q) (aR ts k) (uD gr)) a.q gr od li));have a1:=B8 a k gr od li ts;have:=vX o a B W (b+2*B) _ _ rs (GN.mono P.1.pre P.1.inv.ok a (L a bf)) P.1.inv P.1.lt (by rw[P.1.is];exact P.2.1) (J a bf) hW (by rw[P.1.is];exact P.2.2) aD aD;rw[P.1.is]at this;exact this.shift P.1.pre
  .obtain⟨a,c,rfl⟩:=sK (l:=args) (by rw[I];rfl);simp only[rG]at H hl;have e1:W*(1+(j9 a+(j9 c+0)))=W+W*j9 a+W*j9 c:=bk
   obtain⟨g0,g2,S,g4,g5,g6⟩:=V a bf;obtain⟨k0,X,k3,T,k5,k6⟩:=V c bf;have f:(aJ s [] (aR ts k)).1=(aJ s [] a.q).1++(aJ s [] c.q).1:=f;have pa:=LM o _ g6;have pb:=LM o _ k6;have b':=kN s [] (aR ts k);rw[f,length_append]at b';have b0:=J c bf;have R:=DQ (on:=Bg a.width c.width) gD (v.good _ k0) (by rw[f,k3,g5,k5];exact XQ) bk;have A:=wY (on:=Bg a.width c.width) (gr:=[]) (od:=[]) (li:=0) Q v aD (show arity 5=2 from rfl) E k0 R.1;have A:Bb s ts (bT (dO k c.rows (Bg a.width c.width)) ts).1 (bT (dO k c.rows (Bg a.width c.width)) ts).2 (lI (aR ts k) c.q (Bg a.width c.width)):=by rw[<-k3];exact A
   have a1:=dP (dO k c.rows (Bg a.width c.width)) ts;rw[k3]at R;have a9:(aJ s [] (lI (aR ts k) c.q (Bg a.width c.width))).1=(aJ s [] a.q).1++(aJ s [] c.q).1:=bk
   have b1:∀(K1 K2:ca),0<K1.length->(gU 0 (K1.length:Int))≠[]:=λK1 K2 h e=>by
    have:=congrArg List.length e;simp[gU]at this
    grind
   have U:a.width=((aJ s [] a.q).1.length:Int):=g5;have a3:c.width=((aJ s [] c.q).1.length:Int):=k5;have bX:fS 4 (lI (aR ts k) c.q (Bg a.width c.width))<=b+B:=by unfold lI;rw[NC bg bg];omega
   have pg:=Rv (a:=lI (aR ts k) c.q (Bg a.width c.width)) (co:=gU 0 a.width) R.1 (by rw[U];exact b1 _ [] pa) (by rw[a9,U];exact aiZ (a:=0) bf) (by rw[U];simp[gU];omega) aD;rw[<-A.is]at pg;have P:=Xp (co:=gU 0 a.width) Q A.inv aD A.lt pg.1;have b6:=dP (nE (bT (dO k c.rows (Bg a.width c.width)) ts).2 (gU 0 a.width)) (bT (dO k c.rows (Bg a.width c.width)) ts).1;have a4:=A.pre.trans P.pre;rw[A.is]at pg P;have R1:=vX o a B W (b+B) _ _ rs (GN.mono a4 P.inv.ok a (L a bf)) P.inv P.lt (by rw[P.is,pg.2,a9,U,aCX bf];simp) (J a bf) hW (by rw[P.is];unfold Ig;rw[cxQ];exact bX) aD aD;rw[P.is]at R1;have R1:=R1.shift a4;have Y:=gQ a (bT (nE (bT (dO k c.rows (Bg a.width c.width)) ts).2 (gU 0 a.width)) (bT (dO k c.rows (Bg a.width c.width)) ts).1).2 (bT (nE (bT (dO k c.rows (Bg a.width c.width)) ts).2 (gU 0 a.width)) (bT (dO k c.rows (Bg a.width c.width)) ts).1).1 rs;show zO s ts rs (fG c _ _ _) (pZ (xT s) a.q (Ig (lI (aR ts k) c.q (Bg (xT s a.q) (xT s c.q))) (gU 0 (xT s a.q)))++pZ (xT s) c.q (Ig (aR ts k) (gU (xT s a.q) (xT s c.q))));rw[<-g5, <-k5];generalize hZ:fG a (bT (nE (bT (dO k c.rows (Bg a.width c.width)) ts).2 (gU 0 a.width)) (bT (dO k c.rows (Bg a.width c.width)) ts).1).2 (bT (nE (bT (dO k c.rows (Bg a.width c.width)) ts).2 (gU 0 a.width)) (bT (dO k c.rows (Bg a.width c.width)) ts).1).1 rs=Z at*
   have j:k<Z.1.length/\aR Z.1 k=aR ts k:=⟨Nat.lt_of_lt_of_le E R1.pre.length_le,eV R1.pre R1.inv.ok k E⟩
   have a6:=Rv (a:=aR Z.1 k) (co:=gU a.width c.width) (R1.inv.good k j.1) (λe=>by
    have:=congrArg List.length e;rw[a3]at this;simp[gU]at this
    grind) (by rw[j.2,f,U,a3];exact aiZ bf) (by rw[a3];simp[gU];omega) bk
   have P2:=Xp (co:=gU a.width c.width) Q R1.inv aD j.1 a6.1;have a0:=dP (nE k (gU a.width c.width)) Z.1;have y:=R1.pre.trans P2.pre;rw[j.2]at a6 P2;have R2:=vX o c B W b _ _ Z.2 (GN.mono y P2.inv.ok c (L c bf)) P2.inv P2.lt (by rw[P2.is,a6.2,f,U,a3,Vi bf];simp) (J c bf) hW (by rw[P2.is];unfold Ig;rw[cxQ];exact hb) aD aD;rw[P2.is]at R2;exact R1.comp P2.pre R2
  .obtain⟨a,c,rfl⟩:=sK (l:=args) (by rw[I];rfl);simp only[rG]at H hl;have e1:W*(1+(j9 a+(j9 c+0)))=W+W*j9 a+W*j9 c:=bk
   obtain⟨g0,g2,S,g4,g5,g6⟩:=V a bf;obtain⟨k0,X,k3,T,k5,k6⟩:=V c bf;have f:(aJ s [] (aR ts k)).1=(aJ s [] a.q).1:=f;have b2:Good (lX (aJ s [] a.q).1 (aJ s [] c.q).1) on:=n.pair (.inr rfl);have b0:=J c bf;have a7:=eB c bf;have R:=DQ (on:=on) gD (v.good _ k0) bk bk;have A:=wY (on:=on) (gr:=[]) (od:=[]) (li:=0) Q v aD (show arity 5=2 from rfl) E k0 R.1;have A:Bb s ts (bT (dO k c.rows on) ts).1 (bT (dO k c.rows on) ts).2 (lI (aR ts k) c.q on):=by rw[<-k3];exact A
   have a1:=dP (dO k c.rows on) ts;rw[k3]at R;have bX:fS 4 (lI (aR ts k) c.q on)<=b+B:=by unfold lI;rw[NC bg bg];omega
   have R1:=vX o a B W (b+B) _ _ rs (GN.mono A.pre A.inv.ok a (L a bf)) A.inv A.lt (by rw[A.is,R.2];exact f) (J a bf) hW (by rw[A.is];exact bX) aD aD;rw[A.is]at R1;have R1:=R1.shift A.pre;have Y:=gQ a (bT (dO k c.rows on) ts).2 (bT (dO k c.rows on) ts).1 rs;show zO s ts rs (fG c _ _ _) (pZ (xT s) a.q (lI (aR ts k) c.q on)++pZ (xT s) c.q (lI (fL c.q) (aR ts k) (qL on)));generalize hZ:fG a (bT (dO k c.rows on) ts).2 (bT (dO k c.rows on) ts).1 rs=Z at*
   have j:k<Z.1.length/\aR Z.1 k=aR ts k:=⟨Nat.lt_of_lt_of_le E R1.pre.length_le,eV R1.pre R1.inv.ok k E⟩
   have u:c.env<Z.1.length/\aR Z.1 c.env=aR ts c.env:=⟨Nat.lt_of_lt_of_le X R1.pre.length_le,eV R1.pre R1.inv.ok _ X⟩
   have M:(aJ s [] (fL c.q)).1=(aJ s [] c.q).1:=eg c bf;have z:=DQ (on:=qL on) (R1.inv.good _ u.1) (R1.inv.good k j.1) (by rw[u.2,j.2,T,M,f];exact aEJ b2) bk;have P2:=wY (on:=qL on) (gr:=[]) (od:=[]) (li:=0) Q R1.inv aD (show arity 5=2 from rfl) u.1 j.1 z.1;have P2:Bb s Z.1 (bT (dO c.env k (qL on)) Z.1).1 (bT (dO c.env k (qL on)) Z.1).2 (lI (fL c.q) (aR ts k) (qL on)):=by rw[<-T, <-u.2, <-j.2];exact P2
   have a0:=dP (dO c.env k (qL on)) Z.1;rw[u.2,j.2,T]at z;have y:=R1.pre.trans P2.pre;have R2:=vX o c B W (b+B) _ _ Z.2 (GN.mono y P2.inv.ok c (L c bf)) P2.inv P2.lt (by rw[P2.is,z.2];exact M) (J c bf) hW (by rw[P2.is];unfold lI;rw[NC bg bg];omega) aD aD;rw[P2.is]at R2;exact R1.comp P2.pre R2
  .obtain⟨a,c,rfl⟩:=sK (l:=args) (by rw[I];rfl);simp only[rG]at H hl;have e1:W*(1+(j9 a+(j9 c+0)))=W+W*j9 a+W*j9 c:=bk
   obtain⟨g0,g2,S,g4,g5,g6⟩:=V a bf;obtain⟨k0,X,k3,T,k5,k6⟩:=V c bf;have f:(aJ s [] (aR ts k)).1=(aJ s [] a.q).1:=f;have C:(aJ s [] a.q).1=(aJ s [] c.q).1:=n.same (.inl rfl);have be:=eB a bf;have a7:=eB c bf;have M:(aJ s [] (fL a.q)).1=(aJ s [] a.q).1:=eg a bf;have F:(aJ s [] (fL c.q)).1=(aJ s [] c.q).1:=eg c bf;have R:=zZ (v.good _ g2) gD bk bk;have A:=wY (on:=[]) (gr:=[]) (od:=[]) (li:=0) Q v aD (show arity 8=2 from rfl) g2 E R.1;have A:Bb s ts (bT (cA a.env k) ts).1 (bT (cA a.env k) ts).2 (jS (fL a.q) (aR ts k)):=by rw[<-g4];exact A
   have a1:=dP (cA a.env k) ts;rw[g4]at R;have R1:=vX o a B W (b+B) _ _ rs (GN.mono A.pre A.inv.ok a (L a bf)) A.inv A.lt (by rw[A.is,R.2];exact M) (J a bf) hW (by rw[A.is];unfold jS;rw[NC bg bg];omega) aD aD;rw[A.is]at R1;have R1:=R1.shift A.pre;have Y:=gQ a (bT (cA a.env k) ts).2 (bT (cA a.env k) ts).1 rs;show zO s ts rs (fG c _ _ _) (pZ (xT s) a.q (jS (fL a.q) (aR ts k))++pZ (xT s) c.q (jS (fL c.q) (aR ts k)));generalize hZ:fG a (bT (cA a.env k) ts).2 (bT (cA a.env k) ts).1 rs=Z at*
   have j:k<Z.1.length/\aR Z.1 k=aR ts k:=⟨Nat.lt_of_lt_of_le E R1.pre.length_le,eV R1.pre R1.inv.ok k E⟩
   have u:c.env<Z.1.length/\aR Z.1 c.env=aR ts c.env:=⟨Nat.lt_of_lt_of_le X R1.pre.length_le,eV R1.pre R1.inv.ok _ X⟩
   have z:=zZ (R1.inv.good _ u.1) (R1.inv.good k j.1) bk bk;have P2:=wY (on:=[]) (gr:=[]) (od:=[]) (li:=0) Q R1.inv aD (show arity 8=2 from rfl) u.1 j.1 z.1;have P2:Bb s Z.1 (bT (cA c.env k) Z.1).1 (bT (cA c.env k) Z.1).2 (jS (fL c.q) (aR ts k)):=by rw[<-T, <-u.2, <-j.2];exact P2
   have a0:=dP (cA c.env k) Z.1;rw[u.2,j.2,T]at z;have y:=R1.pre.trans P2.pre;have R2:=vX o c B W (b+B) _ _ Z.2 (GN.mono y P2.inv.ok c (L c bf)) P2.inv P2.lt (by rw[P2.is,z.2];exact F) (J c bf) hW (by rw[P2.is];unfold jS;rw[NC bg bg];omega) aD aD;rw[P2.is]at R2;exact R1.comp P2.pre R2
  .obtain⟨a,c,rfl⟩:=sK (l:=args) (by rw[I];rfl);simp only[rG]at H hl;have e1:W*(1+(j9 a+(j9 c+0)))=W+W*j9 a+W*j9 c:=bk
   obtain⟨g0,g2,S,g4,g5,g6⟩:=V a bf;obtain⟨k0,X,k3,T,k5,k6⟩:=V c bf;have f:(aJ s [] (aR ts k)).1=(aJ s [] a.q).1:=f;have C:(aJ s [] a.q).1=(aJ s [] c.q).1:=n.same (.inr (.inl rfl));have ba:=J a bf;have a7:=eB c bf;have F:(aJ s [] (fL c.q)).1=(aJ s [] c.q).1:=eg c bf;have R1:=vX o a B W b k ts rs (L a bf) v E f ba hW hb aD aD;have Y:=gQ a k ts rs;show zO s ts rs (fG c _ _ _) (pZ (xT s) a.q (aR ts k)++pZ (xT s) c.q (jS (jS (fL c.q) (aR ts k)) a.q));generalize hZ:fG a k ts rs=Z at*
   have j:k<Z.1.length/\aR Z.1 k=aR ts k:=⟨Nat.lt_of_lt_of_le E R1.pre.length_le,eV R1.pre R1.inv.ok k E⟩
   have u:c.env<Z.1.length/\aR Z.1 c.env=aR ts c.env:=⟨Nat.lt_of_lt_of_le X R1.pre.length_le,eV R1.pre R1.inv.ok _ X⟩
   have G:a.rows<Z.1.length/\aR Z.1 a.rows=aR ts a.rows:=⟨Nat.lt_of_lt_of_le g0 R1.pre.length_le,eV R1.pre R1.inv.ok _ g0⟩
   have z:=zZ (R1.inv.good _ u.1) (R1.inv.good k j.1) bk bk;have P2:=wY (on:=[]) (gr:=[]) (od:=[]) (li:=0) Q R1.inv aD (show arity 8=2 from rfl) u.1 j.1 z.1;have P2:Bb s Z.1 (bT (cA c.env k) Z.1).1 (bT (cA c.env k) Z.1).2 (jS (fL c.q) (aR ts k)):=by rw[<-T, <-u.2, <-j.2];exact P2
   have a0:=dP (cA c.env k) Z.1;rw[u.2,j.2,T]at z;have bX:fS 4 (jS (fL c.q) (aR ts k))<=b+B:=by unfold jS;rw[NC bg bg];omega
   have D:=P2.keep G.1;have O:=zZ (P2.inv.good _ P2.lt) (P2.inv.good _ D.1) (by rw[P2.is,D.2,G.2,S,z.2,F,C]) (by rw[P2.is,D.2,G.2,S];omega);have P3:=wY (on:=[]) (gr:=[]) (od:=[]) (li:=0) Q P2.inv aD (show arity 8=2 from rfl) P2.lt D.1 O.1;have P3:Bb s (bT (cA c.env k) Z.1).1 (bT (cA (bT (cA c.env k) Z.1).2 a.rows) (bT (cA c.env k) Z.1).1).1 (bT (cA (bT (cA c.env k) Z.1).2 a.rows) (bT (cA c.env k) Z.1).1).2 (jS (jS (fL c.q) (aR ts k)) a.q):=by rw[<-P2.is, <-S, <-G.2, <-D.2];exact P3
   have b3:=dP (cA (bT (cA c.env k) Z.1).2 a.rows) (bT (cA c.env k) Z.1).1;rw[P2.is,D.2,G.2,S]at O;have y:=(R1.pre.trans P2.pre).trans P3.pre;have R2:=vX o c B W (b+2*B) _ _ Z.2 (GN.mono y P3.inv.ok c (L c bf)) P3.inv P3.lt (by rw[P3.is,O.2,z.2];exact F) (J c bf) hW (by rw[P3.is];unfold jS at bX⊢;rw[NC bg bg];omega) aD aD;rw[P3.is]at R2;exact R1.comp (P2.pre.trans P3.pre) R2
  .obtain⟨a,c,rfl⟩:=sK (l:=args) (by rw[I];rfl);simp only[rG]at H hl;have e1:W*(1+(j9 a+(j9 c+0)))=W+W*j9 a+W*j9 c:=bk
   obtain⟨g0,g2,S,g4,g5,g6⟩:=V a bf;obtain⟨k0,X,k3,T,k5,k6⟩:=V c bf;have f:(aJ s [] (aR ts k)).1=(aJ s [] a.q).1:=f;have C:(aJ s [] a.q).1=(aJ s [] c.q).1:=n.same (.inr (.inr (.inl rfl)));have ba:=J a bf;have a7:=eB c bf;have F:(aJ s [] (fL c.q)).1=(aJ s [] c.q).1:=eg c bf;have R1:=vX o a B W b k ts rs (L a bf) v E f ba hW hb aD aD;have Y:=gQ a k ts rs;show zO s ts rs (fG c _ _ _) (pZ (xT s) a.q (aR ts k)++pZ (xT s) c.q (jS (jS (fL c.q) (aR ts k)) a.q));generalize hZ:fG a k ts rs=Z at*
   have j:k<Z.1.length/\aR Z.1 k=aR ts k:=⟨Nat.lt_of_lt_of_le E R1.pre.length_le,eV R1.pre R1.inv.ok k E⟩
   have u:c.env<Z.1.length/\aR Z.1 c.env=aR ts c.env:=⟨Nat.lt_of_lt_of_le X R1.pre.length_le,eV R1.pre R1.inv.ok _ X⟩
   have G:a.rows<Z.1.length/\aR Z.1 a.rows=aR ts a.rows:=⟨Nat.lt_of_lt_of_le g0 R1.pre.length_le,eV R1.pre R1.inv.ok _ g0⟩
   have z:=zZ (R1.inv.good _ u.1) (R1.inv.good k j.1) bk bk;have P2:=wY (on:=[]) (gr:=[]) (od:=[]) (li:=0) Q R1.inv aD (show arity 8=2 from rfl) u.1 j.1 z.1;have P2:Bb s Z.1 (bT (cA c.env k) Z.1).1 (bT (cA c.env k) Z.1).2 (jS (fL c.q) (aR ts k)):=by rw[<-T, <-u.2, <-j.2];exact P2
   have a0:=dP (cA c.env k) Z.1;rw[u.2,j.2,T]at z;have bX:fS 4 (jS (fL c.q) (aR ts k))<=b+B:=by unfold jS;rw[NC bg bg];omega
   have D:=P2.keep G.1;have O:=zZ (P2.inv.good _ P2.lt) (P2.inv.good _ D.1) (by rw[P2.is,D.2,G.2,S,z.2,F,C]) (by rw[P2.is,D.2,G.2,S];omega);have P3:=wY (on:=[]) (gr:=[]) (od:=[]) (li:=0) Q P2.inv aD (show arity 8=2 from rfl) P2.lt D.1 O.1;have P3:Bb s (bT (cA c.env k) Z.1).1 (bT (cA (bT (cA c.env k) Z.1).2 a.rows) (bT (cA c.env k) Z.1).1).1 (bT (cA (bT (cA c.env k) Z.1).2 a.rows) (bT (cA c.env k) Z.1).1).2 (jS (jS (fL c.q) (aR ts k)) a.q):=by rw[<-P2.is, <-S, <-G.2, <-D.2];exact P3
   have b3:=dP (cA (bT (cA c.env k) Z.1).2 a.rows) (bT (cA c.env k) Z.1).1;rw[P2.is,D.2,G.2,S]at O;have y:=(R1.pre.trans P2.pre).trans P3.pre;have R2:=vX o c B W (b+2*B) _ _ Z.2 (GN.mono y P3.inv.ok c (L c bf)) P3.inv P3.lt (by rw[P3.is,O.2,z.2];exact F) (J c bf) hW (by rw[P3.is];unfold jS at bX⊢;rw[NC bg bg];omega) aD aD;rw[P3.is]at R2;exact R1.comp (P2.pre.trans P3.pre) R2
  .obtain⟨a,c,rfl⟩:=sK (l:=args) (by rw[I];rfl);simp only[rG]at H hl;have e1:W*(1+(j9 a+(j9 c+0)))=W+W*j9 a+W*j9 c:=bk
   have f:(aJ s [] (aR ts k)).1=(aJ s [] a.q).1:=f;have C:(aJ s [] a.q).1=(aJ s [] c.q).1:=n.same (.inr (.inr (.inr rfl)));have a2:lR (aJ s [] a.q).1 gr od li:=n.rank (.inr rfl);rw[C]at a2;have R1:=vX o a B W b k ts rs (L a bf) v E f (J a bf) hW hb aD aD;have Y:=gQ a k ts rs;show zO s ts rs (fG c _ _ _) (pZ (xT s) a.q (aR ts k)++pZ (xT s) c.q (FI (lI (fL c.q) (aR ts k) (uD gr)) c.q gr od li));generalize hZ:fG a k ts rs=Z at*
   have j:k<Z.1.length/\aR Z.1 k=aR ts k:=⟨Nat.lt_of_lt_of_le E R1.pre.length_le,eV R1.pre R1.inv.ok k E⟩
   have P:=akX (gr:=gr) (od:=od) (li:=li) (B:=B) (b:=b) Q R1.inv aD j.1 (GN.mono R1.pre R1.inv.ok c (L c bf)) bk a2 (J c bf) bk aD;rw[j.2]at P;have a0:=B8 c k gr od li Z.1;have y:=R1.pre.trans P.1.pre;have R2:=vX o c B W (b+2*B) _ _ Z.2 (GN.mono y P.1.inv.ok c (L c bf)) P.1.inv P.1.lt (by rw[P.1.is];exact P.2.1) (J c bf) hW (by rw[P.1.is];exact P.2.2) aD aD;rw[P.1.is]at R2;exact R1.comp P.1.pre R2
 termination_by p=>SizeOf.sizeOf p
def cgX:Vc.Spec:=λd m h K=>∃(s:Sl)(g:Nat)(c:bx)(l:cd)(p:cj->Bool),d=[cS s,.val (.func (.func g) #[] ⟨c⟩)]/\Rows h s l/\l.length<=8000000/\(∀(u:Sl)(r:cj),r∈l->cF h u r->FAt Tryz.prog g 4 (cS u::c.map .val) m h (λx m' h'=>x=[.bool (p r)]/\m'=m/\h'=h))/\
 ∀e h',PH.le h h'->Rows h' e (l.filter p)->K (cS e) m h'
def chX:Vc.Spec:=λc m h K=>∃s u l r,c=[cS s,cS u,.val (.func (.func 102) #[] #[])]/\Rows h s l/\pJ l/\cF h u r/\l.length<=8000000/\K (.tup [cI ((l.countP λy=>decide (fQ y r<0):Nat):Int),cB (UX l r)]) m h
def bKX:Vc.Spec:=λc m h K=>∃s u l r,c=[cS s,cS u]/\Rows h s l/\pJ l/\cF h u r/\l.length<=8000000/\K (cB (UX l r)) m h
def TE:Vc.Spec:=λc m h K=>∃s l,c=[cS s]/\Rows h s l/\l.length<=8000000/\(∀r∈l,r.length<=1000)/\∀d h',PH.le h h'->Rows h' d l->K (cS d) m h'
def pX(r:cj):ByteArray:=⟨(r.flatMap zG).toArray⟩
def TD:Vc.Spec:=λd m h K=>∃s t r c,d=[cS s,cS t]/\cF h s r/\Ints h t c/\UP r/\jU r.length c/\gJ m/\K (Xf (pX (pick r c))) m h
def ayJ:Vc.Spec:=λc m h K=>∃n:Nat,c=[.val (.slice none 0 0),cI n]/\n<=32000000/\K (.lst 94 1 []) m h
def TF:Vc.Spec:=λc m h K=>∃f d e,c=[cS f]/\Leaves h f [d,e]/\d.length<=8000000/\e.length<=8000000/\∀g h',PH.le h h'->Rows h' g (d++e)->K (cS g) m h'
noncomputable def bwX(s:Sl)(g:Nat)(c:bx)(m:MH)(h:PH):Ctx:=
 sN [] [(3,{A:=Nat×ck,st:=λ⟨i,d⟩=>bQ 23 25 [(1,vv (.func (.func g) #[] ⟨c⟩)),(5,.at (.lst 20)),(8,sv s),(9,iv s.len),(10,iv i)] [(20,.lst 94 1 (d.map eS))] m h})] [] [] [510004] [] false
noncomputable def blX(s u:Sl)(m:MH)(h:PH):Ctx:=
 dA [(102,NB)] [(3,{A:=Nat×Nat,st:=λ⟨i,j⟩=>bQ 49 52 [(0,sv s),(1,sv u),(2,vv (.func (.func 102) #[] #[])),(8,iv s.len),(9,iv i),(10,iv j)] [] m h})] [] [] false
noncomputable def bWQ(s:Sl)(m:MH):Ctx:=
 dA [(78,UT)] [(3,{A:=Nat×ck×PH,st:=λ⟨i,c,h⟩=>bQ 23 24 [(3,.at (.lst 8)),(9,sv s),(10,iv s.len),(11,iv i)] [(8,.lst 94 1 (c.map eS))] m h})] [] [] false
noncomputable def bvX(s t:Sl)(m:MH)(h:PH):Ctx:=
 sN [(192,ckZ)] [(3,{A:=Nat×cu,st:=λ⟨i,l⟩=>bQ 23 25 [(0,sv s),(5,.at (.lst 19)),(8,sv t),(9,iv t.len),(10,iv i)] [(19,.lst 5 1 (bC l))] m h})] [] [] [] [(192,[0])] false
noncomputable def bvQ(c:Sl)(m:MH)(h:PH):Ctx:=
 dA [(193,ayJ)] [(3,{A:=Nat×Nat,st:=λ⟨i,n⟩=>bQ 36 37 [(0,sv c),(3,iv n),(9,sv c),(10,iv c.len),(11,iv i)] [] m h}),
  (11,{A:=Nat×ck,st:=λ⟨i,l⟩=>bQ 36 37 [(6,.at (.lst 24)),(25,sv c),(26,iv c.len),(27,iv i)] [(24,.lst 94 1 (l.map eS))] m h})] [] [] false
noncomputable abbrev tU(a:Nat×ck):List bx:=nN a.2
attribute [push_cast] tU
def Tf(s:Sl)(g:Nat)(c:bx)(m:MH)(h:PH)(K:bz):Prop:=
  ∃(I:Nat×ck->Prop)(n:Nat×ck->Nat),(∃(x:Nat×ck),aA (I x) (eQ (SV.at (At.val (Value.func (Fn.func g) wG (Array.mk c))))) (aA (eL 20) (aI s) (aA (bI s) (bB x.1) (aA (EF (tU x)) (m=m) (bN h h)))))/\∀(x:Nat×ck),I x->aZ (↑x.1:Int) (aH s) (eK s.a (↑x.1:Int) s (λb o y=>aU m h b (bK o x.1 1) (bA y)/\∃(R:Bool->MH->PH->Prop),BT g 4 (Db (fJ y) c) m h (λl f e=>∃(j:Bool),l=vF j/\R j f e)/\∀(j:Bool),gA (λf e=>iU (R j f e) j (nG (tU x) 24 (∃(d:Nat×ck),aA (I d) (n d<n x) (aA (eQ (SV.at (At.val (Value.func (Fn.func g) wG (Array.mk c))))) (eL 20) (aA (aI s) (bI s) (aA (bD (fZ (bE x.1 1)) d.1) (nT (eN (tU x) (bA y)) (tU d)) (aA (f=m) (e=
 h) True)))))) (∃(d:Nat×ck),aA (I d) (n d<n x) (aA (eQ (SV.at (At.val (Value.func (Fn.func g) wG (Array.mk c))))) (eL 20) (aA (aI s) (bI s) (aA (bD (fZ (bE x.1 1)) d.1) (nT (tU x) (tU d)) (aA (f=m) (e=h) True)))))))) (bO h 1 (tU x) (λu e=>K (fJ u) m e))
noncomputable abbrev JI(a:Nat×Nat):Int:=fH (Int.fdiv (Pe (bE a.1 (↑a.2:Int))) 2)
attribute [push_cast] JI
def Ss(s u:Sl)(m:MH)(h:PH)(K:bz):Prop:=
  Kg (λI x=>aA (I x) (aI s) (aA (aI u) (Ap 102) (aA (bI s) (bB x.1) (aA (bD (FP s.len) x.2) (m=m) (bN h h))))) (λI f x=>I x->aZ (↑x.1:Int) (↑x.2:Int) (eK s.a (JI x) s (λb o y=>aU m h b (fU o (JI x) 1) (bA y)/\∃(d:Sl),rJ (λt a=>∃(e:cj),aA (dT y u=dT d t) (cF h d a) (cF h t e/\aZ (fQ a e) 0 (∃(c:Nat×Nat),aA (I c) (f c<f x) (aA (aI s) (aI u) (aA (Ap 102) (bI s) (aA (bD (SV.at (At.val (eF (fH (JI x+1))))) c.1) (cM x.2 c.2) (aA (m=m) (h=h) True))))) (∃(c:Nat×Nat),aA (I c) (f c<f x) (aA (aI s) (aI u) (aA (Ap 102) (bI s) (aA (cM x.1 c.1) (bD (SV.at (At.val (eF (JI x)))) c.2) (aA (m=m) (h=h) True))))))))) (aZ (↑x.1:Int) (aH s) (eK
 s.a (↑x.1:Int) s (λb o y=>aU m h b (bK o x.1 1) (bA y)/\∃(d:Sl),rJ (λt a=>∃(e:cj),aA (dT y u=dT d t) (cF h d a) (cF h t e/\K (CV.tup (cV (fX (↑x.1:Int)) (Bc (fQ a e==0)))) m h)))) (K (CV.tup (cV (fX (↑x.1:Int)) aX)) m h)))
abbrev KA(a:Sl->Sl->cd->cj->Prop):Prop:=pW (λx c=>∃(d:cd)(e:cj),a x c d e)
attribute [push_cast] KA
def aUJ(s u:Sl)(m:MH)(h:PH)(K:bz):Prop:=
  KA (λc d l r=>aA (BN s u 102=BN c d 102) (Rows h c l) (aA (pJ l) (cF h d r) (l.length<=8000000/\K (Bc (UX l r)) m h)))
def Wq(s:Sl)(m:MH)(h:PH)(K:bz):Prop:=
  aA (bZ (aH s)) (Az s) (aA (vA s 24) (vW (aH s)) (N8 (λI x=>aA (I x) (eL 8) (aA (aI s) (bI s) (aA (bB x.1) (C6 94 s iS (qY x)) (aA (m=m) (h=mS x) True)))) (λI g x=>I x->aZ (↑x.1:Int) (aH s) (eK s.a (↑x.1:Int) s (λb o y=>aU m (mS x) b (bK o x.1 1) (bA y)/\rJ (λf r=>aA (iT y=iT f) (cF (mS x) f r) (mG r.length/\iR (λj c=>cC (mS x) c (cF c j r) (nZ (↑x.1:Int) ((↑x.1:Int)<jH (qY x)) (λe=>aA (mQ (qY x) (↑x.1:Int) e) (0<e.length) (∃(d:Nat×ck×PH),aA (I d) (g d<g x) (aA (eL 8) (aI s) (aA (bI s) (bD (fZ (bE x.1 1)) d.1) (aA (Option.some (Own.lst 94 1 (List.set (qY x) (yW x.1) (uK (fK j) 1 e)))=Option.some (Own.lst 94 1 (qY
 d))) (m=m) (bN c (mS d))))))))))))) (bO (mS x) 1 (qY x) (λf c=>K (fJ f) m c)))))
def Td(s t:Sl)(m:MH)(h:PH)(K:bz):Prop:=
  ∃(I:Nat×cu->Prop)(e:Nat×cu->Nat),(∃(x:Nat×cu),aA (I x) (aI s) (aA (eL 19) (aI t) (aA (bI t) (bB x.1) (aA (qZ 5 1 (bC x.2)) (m=m) (bN h h)))))/\∀(x:Nat×cu),I x->aZ (↑x.1:Int) (aH t) (bJ (λb o=>aA (bM t.a b o) (0<=(↑x.1:Int)) ((↑x.1:Int)<aH t/\∃(y:Int),aU m h b (bK o x.1 1) (bG y)/\bJ (λf g=>aA (bM s.a f g) (0<=y) (y<aH s/\∃(j:VV),aU m h f (fU g y 3) j.enc/\∃(d:List bx)(v:VV),aA (uY (bC x.2) (mF j)=uY d (mF v)) (gJ m) (fC (iY d v.text.size+500)/\∃(c:Nat×cu),aA (I c) (e c<e x) (aA (aI s) (eL 19) (aA (aI t) (bI t) (aA (bD (fZ (bE x.1 1)) c.1) (Option.some (Own.lst 5 1 (kU d (zG v)))=
 Option.some (Own.lst 5 1 (bC c.2))) (aA (m=m) (h=h) True)))))))))) (∃(b:cu),bC x.2=bC b/\K (kL (ByteArray.mk (Array.mk b))) m h)
def Su(n:Nat)(m:MH)(h:PH)(K:bz):Prop:=
  N9 n 0 24 iS (K (CV.lst 94 1 []) m h)
def Tc(d:Sl)(m:MH)(h:PH)(K:bz):Prop:=
  Kg (λI x=>aA (I x) (aI d) (aA (bB x.2) (aI d) (aA (bI d) (bB x.1) (aA (m=m) (h=h) True)))) (λI g x=>I x->aZ (↑x.1:Int) (aH d) (eK d.a (↑x.1:Int) d (λb o y=>aU m h b (bK o x.1 1) (bA y)/\aZ (bE x.2 (aH y)) 0 False (∃(c:Nat×Nat),aA (I c) (g c<g x) (aA (aI d) (bD (fZ (bE x.2 (aH y))) c.2) (aA (aI d) (bI d) (aA (bD (fZ (bE x.1 1)) c.1) (m=m) (bN h h))))))) (∃(n:Nat),aA (E3 x.2=E3 n) (n<=32000000) (∃(I1:Nat×ck->Prop)(j:Nat×ck->Nat),(∃(c:Nat×ck),aA (I1 c) (eL 24) (aA (aI d) (bI d) (aA (bB c.1) (EF (tU c)) (aA (m=m) (h=h) True))))/\∀(c:Nat×ck),I1 c->aZ (↑c.1:Int) (aH d) (eK d.a (↑c.1:Int) d (λb o y=>IH m h b o
 c.1 1 (bA y) (λe=>j6 1 e (cD h (iA y.a y) 1 e) (oL (tU c) e 24) (oF (tU c) e) (∃(f:Nat×ck),aA (I1 f) (j f<j c) (aA (eL 24) (aI d) (aA (bI d) (bD (fZ (bE c.1 1)) f.1) (aA (nT (tU c++e) (tU f)) (m=m) (bN h h)))))))) (bO h 1 (tU c) (λs u=>K (fJ s) m u)))))
theorem Xd{u v:VV}{r r':cu}(e:VOk u)(f:VOk v)(h:zG u++r=zG v++r'):u=v/\r=r':=by
 have z:vZ 0:=⟨bg,bg⟩
 have c:∀w:VV,VOk w->Xx ⟨0,0,w⟩:=λw d=>⟨z,z,d.kind,d.int,by have:=d.text;omega⟩
 have:=IB (o:=⟨0,0,u⟩) (o':=⟨0,0,v⟩) (r:=r) (r':=r') (c u e) (c v f) (by simp only[CA,append_assoc,h])
 grind
theorem VW:∀{a b:cj},a.length=b.length->(∀v∈a,VOk v)->(∀v∈b,VOk v)->a.flatMap zG=b.flatMap zG->a=b
 |[],[],_,_,_,_=>rfl
 |x::a,y::b,c,e,f,h=>by
  simp only[flatMap_cons]at h;obtain⟨g,j⟩:=Xd (e x (mem_cons_self ..)) (f y (mem_cons_self ..)) h;rw[g,VW bk (λv d=>e v (mem_cons_of_mem _ d)) (λv d=>f v (mem_cons_of_mem _ d)) j]
 |[],_::_,c,_,_,_=>by simp at c
 |_::_,[],c,_,_,_=>by simp at c
theorem KH:a0X pX:=⟨fun{a b} c d e=>⟨λh=>by
 simp only[pX,ByteArray.mk.injEq]at h;exact VW c d e bk,λh=>by rw[h]⟩⟩
theorem bdJ{P:Program}{f:FuncId}{T:TypeId}{c:cz}{R R':bx->MH->PH->Prop}(x:FAt P f T c m h R)(d:∀l m' h',R l m' h'->R' l m' h'):FAt P f T c m h R':=
 ⟨x.fn,λg w e j=>(x.go g w e j).mono λ_ _⟨l,m',h',n,o,u⟩=>⟨l,m',h',n,d _ _ _ o,u⟩⟩
theorem Z2:bu 112 cgX:=by
 refine hU func112 ?_;rintro E m h K ⟨s,g,c,l,p,rfl,B,P,F,G⟩;refine⟨bwX s g c m h,rfl,aG,Tf s g c m h K,bd,?_⟩;dsimp only[Tf,push_cast];have n:=bY.slen B;refine⟨λx=>x.1<=l.length/\x.2.length<=x.1/\jL h x.2 ((l.take x.1).filter p),λx=>l.length-x.1,⟨(0,[]),⟨bf,bf,bt (jL.nil h)⟩,MT⟩,?_⟩;rintro⟨i,C⟩ ⟨H,y,d⟩;dsimp only at H y d;refine aF (λf=>?_) (λz=>?_)
 .dsimp only at f⊢
  obtain⟨r,j⟩:=eT n f;obtain⟨b,o,u,I,rd,D⟩:=bY.at B j;refine⟨b,o,I,aD,aD,u,.imm rd,λt m' h'=>t=p r/\m'=m/\h'=h,bdJ (F u r (mem_of_getElem? j) D) (λx m' h'⟨J,L,M⟩=>⟨p r,J,rfl,L,M⟩),?_⟩;rintro t m' h' ⟨rfl,rfl,rfl⟩;refine aC (λe=>⟨bk,bk,(i+1,C++[u]),⟨aD,bj,?_⟩,aD,?_⟩) (λe=>⟨(i+1,C),⟨aD,bk,?_⟩,aD,?_⟩)
  .rw[A1 _ j,if_pos e];exact d.snoc D
  .rw[jO aD,map_append];exact MT
  .rw[A1 _ j,if_neg (by rw[e];simp),append_nil];exact d
  .rw[jO aD];exact MT
 .dsimp only at z⊢
  rw[take_of_length_le aD]at d;intro O h' le A;exact G O h' le ((d.mono le).rows A bk)
theorem aaZ{l:cd}{r:cj}(f:pJ l)(g:i<=l.length)(n:∀j y,j<i->l[j]? =some y->fQ y r<0)(o:∀j y,i<=j->l[j]? =some y->¬fQ y r<0):(l.countP λy=>decide (fQ y r<0))=i:=by
 have e:l.countP (λy=>decide (fQ y r<0))=(l.take i).countP (λy=>decide (fQ y r<0))+(l.drop i).countP λy=>decide (fQ y r<0):=by
  rw[<-countP_append,take_append_drop]
 have u:(l.take i).countP (λy=>decide (fQ y r<0))=(l.take i).length:=countP_eq_length.2 λy c=>by
  obtain⟨j,d⟩:=getElem?_of_mem c
  grind
 have x:(l.drop i).countP (λy=>decide (fQ y r<0))=0:=countP_eq_zero.2 λy c=>by
  obtain⟨j,d⟩:=getElem?_of_mem c
  grind
 grind
theorem Ls{l:cd}(d:pJ l){j:Nat}{x y:cj}(c:i<j)(e:l[i]? =some x)(f:l[j]? =some y):fQ x y<0:=by
 obtain⟨g,rfl⟩:=List.getElem?_eq_some_iff.1 e;obtain⟨n,rfl⟩:=List.getElem?_eq_some_iff.1 f;exact pairwise_iff_getElem.1 d i j g n c
theorem bcX{j:Nat}(h:i+j<=32000000):IntKind.i64.wrap ((IntKind.u64.wrap (IntKind.i64.wrap ((i:Int)+(j:Int)))).fdiv 2)=(((i+j)/2:Nat):Int):=by
 rw[eH (n:=(i:Int)+j) aD aD,Rg aD aD,Int.fdiv_eq_ediv_of_nonneg _ aD];have:((i:Int)+j)/2=(((i+j)/2:Nat):Int):=by omega
 rw[this,eH aD aD]
theorem Y8:bu 194 chX:=by
 refine hU func194 ?_;rintro X m h K ⟨s,u,l,r,rfl,E,d,U,Z,B⟩;refine⟨blX s u m h,rfl,aE Ct aG,Ss s u m h K,bd,?_⟩;dsimp only[Ss,push_cast];have Y:=bY.slen E;refine⟨λx=>x.1<=x.2/\x.2<=l.length/\(∀j y,j<x.1->l[j]? =some y->fQ y r<0)/\∀j y,x.2<=j->l[j]? =some y->¬fQ y r<0,λx=>x.2-x.1,⟨(0,l.length),⟨bf,bf,λj y C=>by omega,λj y C D=>bk⟩,?_⟩,?_⟩
 .grind
 rintro⟨i,j⟩ ⟨F,C,f,g⟩;dsimp only at F C f g;refine aF (λn=>?_) (λG=>?_)
 .dsimp only at n⊢
  have n:i<j:=by omega
  rw[bcX aD];have H:i<=(i+j)/2:=by omega
  have I:(i+j)/2<j:=by omega
  generalize (i+j)/2=k at H I;have c:l[k]? =some (l[k]'(by omega)):=getElem?_eq_getElem _;generalize l[k]'(by omega)=x at c;obtain⟨b,o,e,J,rd,L⟩:=bY.at E c;refine⟨b,o,J,aD,aD,e,.imm rd,e,u,x,r,rfl,L,U,aF (λM=>⟨(k+1,j),⟨aD,C,λO y P D=>?_,g⟩,aD,?_⟩) (λM=>⟨(i,k),⟨aD,aD,f,λO y P D V=>?_⟩,aD,?_⟩)⟩
  .by_cases Q:O=k
   .grind
   .exact UB (Ls d aD D c) M
  .rw[jO aD];exact MT
  .by_cases Q:O=k
   .grind
   .exact M (UB (Ls d aD c D) V)
  .exact MT
 .dsimp only at G⊢
  have:i=j:=by omega
  subst this;rw[aaZ d C f g]at B
  have z:(∀y,l[i]? =some y->fQ y r≠0)->UX l r=false:=λV=>by
   rw[Bool.eq_false_iff];intro R;obtain⟨j,S⟩:=getElem?_of_mem (amX.1 R);have hz:fQ r r=0:=nB.2 rfl;rcases Nat.lt_trichotomy j i with T|T|T
   .grind
   .grind
   .have A:i<l.length:=bk
    have c:l[i]? =some l[i]:=getElem?_eq_getElem A;have h3:=Ls d T c S
    grind
  refine aF (λn=>?_) (λW=>?_)
  .have A:i<l.length:=by omega
   have c:l[i]? =some l[i]:=getElem?_eq_getElem A;generalize l[i]=x at c;obtain⟨b,o,e,J,rd,L⟩:=bY.at E c;refine⟨b,o,J,aD,aD,e,.imm rd,e,u,x,r,rfl,L,U,?_⟩
   have:UX l r=(fQ x r==0):=by
    cases e2:fQ x r==0 with
    |true=>
     have:=nB.1 (by grind:fQ x r=0);subst this;exact amX.2 (mem_of_getElem? c)
    |false=>grind
   rw[this]at B;exact B
  .rw[z λy D=>by grind]at B;exact B
theorem Qd:bu 122 bKX:=by
 refine hU func122 ?_;rintro d m h K ⟨s,u,l,r,rfl,e,c,f,g,j⟩;refine⟨dA [(194,chX)] [] [] [] false,rfl,aE Y8 aG,aUJ s u m h K,bd,?_⟩;exact⟨s,u,l,r,rfl,e,c,f,g,j⟩
theorem aNQ:bu 69 TE:=by
 refine hU func69 ?_;rintro E m h K ⟨s,l,rfl,C,L,F,G⟩;refine⟨bWQ s m,rfl,aE RU aG,Wq s m h K,bd,?_⟩;dsimp only[Wq,push_cast];have z:=bY.slen C;refine⟨aD,aD,aD,aD,λx=>x.1<=l.length/\PH.le h x.2.2/\∃j,j.length=x.1/\x.2.1=j++replicate (l.length-x.1) ⟨none,0,0⟩/\jL x.2.2 j (l.take x.1),λx=>l.length-x.1,⟨(0,replicate l.length ⟨none,0,0⟩,h),⟨bf,.refl _,[],rfl,bf,bt (jL.nil h)⟩,?_⟩,?_⟩
 .dsimp only;rw[map_replicate,show((s.len:Int)).toNat=l.length by omega];exact MT
 rintro⟨i,M,O⟩ ⟨H,le,j,f,D,g⟩;dsimp only at H le f D g;subst D;refine aF (λy=>?_) (λA=>?_)
 .dsimp only at y⊢
  obtain⟨r,c⟩:=eT z y;obtain⟨b,o,u,I,rd,J⟩:=bY.at C c;refine⟨b,o,I,aD,aD,u,.imm (rd.mono le),u,r,rfl,cF.mono J le,F r (mem_of_getElem? c),λn h' d B=>⟨aD,bk,[lF],?_,bf,(i+1,(j++[n])++replicate (l.length-(i+1)) ⟨none,0,0⟩,h'),⟨aD,le.trans d,j++[n],by simp[f],rfl,?_⟩,aD,?_⟩⟩
  .rw[getElem?_map,Int.toNat_natCast,getElem?_append_right aD,getElem?_replicate,if_pos aD];rfl
  .dsimp only;rw[take_add_one,c];exact(g.mono d).snoc B
  .dsimp only
   have e:((j++replicate (l.length-i) (⟨none,0,0⟩:Sl)).map eS).set ((i:Int)).toNat (fK n::List.drop 1 [lF])=((j++[n])++replicate (l.length-(i+1)) (⟨none,0,0⟩:Sl)).map eS:=by
    rw[Int.toNat_natCast,show l.length-i=(l.length-(i+1))+1 by omega,replicate_succ,map_append,set_append,if_neg (by simp[f]),map_append,map_append,append_assoc];simp[f,eS]
   rw[e,jO aD];exact MT
 .dsimp only at A⊢
  have:i=l.length:=by omega
  subst this;rw[Nat.sub_self,replicate_zero,append_nil];rw[take_length]at g;intro n h' d c;exact G n h' (le.trans d) ((g.mono d).rows c aD)
theorem aYX{v:VV}(h:v.text.size<=64):(zG v).length<=200:=by
 have c:=gI [v.kind];have e:=zX v.int;have d:=gI [(v.text.size:Int)];have f:v.text.data.toList.length=v.text.size:=Array.length_toList;simp only[zG,length_append,length_cons,length_nil]at c d⊢
 omega
theorem aHJ{r:cj}(h:∀v∈r,v.text.size<=64):(r.flatMap zG).length<=200*r.length:=by
 induction r with
 |nil=>simp
 |cons v l c=>
  have d:=aYX (h v (mem_cons_self ..))
  grind
theorem Cs:bu 118 TD:=by
 refine hU func118 ?_;rintro H m h K ⟨s,t,r,d,rfl,D,E,I,y,J,L⟩;refine⟨bvX s t m h,rfl,aE Za aG,Td s t m h K,bd,?_⟩;dsimp only[Td,push_cast];have M:=bY.slen D;have z:=E.slen;have O:=y.len;have P:(pick r d).length=d.length:=by simp[pick]
 have g:∀v∈pick r d,v.text.size<=64:=λv Q=>(I.val v (VD y Q)).text;refine⟨λx=>x.1<=d.length/\x.2=((pick r d).take x.1).flatMap zG,λx=>d.length-x.1,⟨(0,[]),⟨bf,bf⟩,MT⟩,?_⟩;rintro⟨i,l⟩ ⟨R,F⟩;dsimp only at R F;subst F;refine aF (λf=>?_) (λA=>?_)
 .dsimp only at f;obtain⟨c,j⟩:=eT z f;obtain⟨b,o,e,rd⟩:=E.at j;obtain⟨v,B,n,S,X⟩:=T4 y j;obtain⟨T,U,w,V,C,rfl⟩:=bY.at D B;have Y:=aHJ (r:=(pick r d).take i) (λu W=>g u (mem_of_mem_take W));have G:=g v (mem_of_getElem? n);refine⟨b,o,e,aD,f,c,.imm bk,T,U,V,S,aD,v,.imm C,_,v,rfl,J,?_,(i+1,((pick r d).take (i+1)).flatMap zG),⟨aD,rfl⟩,bk,?_⟩
  .rw[aY]
   grind
  .dsimp only;rw[take_add_one,n,flatMap_append,dN];simp only[Option.toList_some,flatMap_cons,flatMap_nil,append_nil];exact MT
 .dsimp only at A⊢
  rw[take_of_length_le aD];exact⟨_,rfl,L⟩
theorem Y9:bu 193 ayJ:=by
 refine hU func193 ?_;rintro d m h K ⟨n,rfl,f,c⟩;refine⟨dA [] [] [] [] true,rfl,aG,Su n m h K,bd,?_⟩;dsimp only[Su,push_cast];have e:IntKind.i64.wrap ((n:Int)-0)=n:=by rw[eH aD aD];omega
 have g:IntKind.i64.wrap ((n:Int)-IntKind.i64.wrap (0-0))=n:=by rw[show IntKind.i64.wrap (0-0)=0 from by rw[eH aD aD];rfl,e]
 exact aF (λj=>⟨aD,aD,aD,aD,aD,aD,aD,c⟩) (λ_=>c)
theorem ZW:bu 120 TF:=by
 refine hU func120 ?_;rintro V m h K ⟨z,R,S,rfl,G,h1,h2,W⟩;refine⟨bvQ z m h,rfl,aE Y9 aG,Tc z m h K,bd,?_⟩;dsimp only[Tc,push_cast];have X:z.len=2:=bY.slen G
 have g:∀k∈[R,S],k.length<=8000000:=λk e=>by
  grind
 generalize A:[R,S]=ks at G g;have H:ks.length=2:=bk
 have f:∀i,i<=2->((ks.take i).map List.length).sum<=16000000:=λi j=>by
  rw[<-A]
  match i,j with
  |0,_=>simp
  |1,_=>simp;omega
  |2,_=>simp;omega
 refine⟨λx=>x.1<=2/\x.2=((ks.take x.1).map List.length).sum,λx=>2-x.1,⟨(0,0),⟨bf,bf⟩,MT⟩,?_⟩;rintro⟨i,n⟩ ⟨j,T⟩;dsimp only at j T⊢
 subst T;have Y:=f i j;refine aF (λd=>?_) (λB=>?_)
 .obtain⟨k,e⟩:=eT (l:=ks) (n:=z.len) aD d;obtain⟨b,o,y,I,r,u⟩:=bY.at G e;have H:=bY.slen u;have C:=g k (mem_of_getElem? e)
  have Z:IntKind.i64.wrap (((((ks.take i).map List.length).sum:Nat):Int)+(y.len:Int))=((((ks.take (i+1)).map List.length).sum:Nat):Int):=by
   rw[By e,eH aD aD];omega
  refine⟨b,o,I,aD,d,y,.imm r,?_⟩;rw[Z];exact aF (λU=>by omega) (λ_=>⟨(i+1,((ks.take (i+1)).map List.length).sum),⟨aD,rfl⟩,aD,by rw[jO aD];exact MT⟩)
 .refine⟨((ks.take i).map List.length).sum,rfl,aD,λx=>x.1<=2/\x.2.length<=16000000/\jL h x.2 (ks.take x.1).flatten,λx=>2-x.1,⟨(0,[]),⟨bf,bf,bt (jL.nil h)⟩,MT⟩,?_⟩;clear Y B j;rintro⟨i,us⟩ ⟨j,J,c⟩;dsimp only at j J c⊢
  have L:=c.len;rw[length_flatten]at L;refine aF (λd=>?_) (λB y h' D E=>W y h' D ?_)
  .obtain⟨k,e⟩:=eT (l:=ks) (n:=z.len) aD d;obtain⟨b,o,y,I,r,u⟩:=bY.at G e;obtain⟨⟨F,M,O,P⟩,_⟩:=u;have C:=g k (mem_of_getElem? e);have Q:=f (i+1) aD;rw[By e]at Q;refine⟨b,o,I,aD,d,y,.imm r,F.map eS,Jt _,M,bj,bj,(i+1,us++F),⟨aD,bj,?_⟩,aD,?_⟩
   .dsimp only;rw[take_add_one,e,flatten_append];simp only[Option.toList_some,flatten_cons,flatten_nil,append_nil];exact c.app ⟨O.symm,P⟩
   .rw[jO aD,map_append];exact MT
  .rw[take_of_length_le aD, <-A]at c;simp only[flatten_cons,flatten_nil,append_nil]at c;exact(c.mono D).rows E bj
def QO:Vc.Spec:=λc m h K=>∃s t d v od a b,c=[cS s,cS t,cP d]/\m d=some (.cells ⟨vY.enc v⟩ 123 (0,0))/\jT h v.order od/\cF h s a/\cF h t b/\K (cI (mI od a b)) m h
def auZ:Vc.Spec:=λd m h K=>∃(s:Sl)(e:Nat)(v:vY)(od:cg)(w:Nat)(ps:de),d=[cS s,.val (.func (.func 195) #[] #[.pointer (some ⟨e,0,none⟩)])]/\m e=some (.cells ⟨vY.enc v⟩ 123 (0,0))/\(∀i,s.a≠some ⟨e,i,none⟩)/\jT h v.order od/\dC m s 94 1 (ps.map λp=>eS p.1)/\(∀p∈ps,cF h p.1 p.2)/\(∀p∈ps,p.2.length=w)/\ps.length<=140737488355328/\
 ∀(c:de)(m':MH),c.Perm ps->c.Pairwise (λp q=>¬mI od q.2 p.2<0)->dC m' s 94 1 (c.map λp=>eS p.1)->(∀b,(∀i,s.a≠some ⟨b,i,none⟩)->m' b=m b)->K (.tup []) m' h
def XB:Vc.Spec:=λc m h K=>∃v s gr od l w,c=[aT v,cS s]/\Ints h v.group gr/\jT h v.order od/\Rows h s l/\iK w l/\jU w gr/\gJ m/\
 ∀y d e f g,m y=none->(∀b,b≠y->d b=m b)->PH.le h e->xL pX d e y gr od l f g->K (.val (.map (some y))) d e
noncomputable def buJ(s:Sl):Ctx:=sN [(118,TD),(189,auZ)] [(3,{A:=Nat×Nat×Nat×MH×PH,st:=λ⟨b,y,i,m,h⟩=>bQ 41 43 [(2,pv b),(5,vv (.map (some y))),(12,sv s),(13,iv s.len),(14,iv i)] [] m h}),
 (9,{A:=Nat×Nat×Nat×MH×PH,st:=λ⟨b,y,r,m,h⟩=>bQ 41 43 [(2,pv b),(5,vv (.map (some y))),(32,pv r)] [] m h})] [] [] [200002,1053,400000,0] [] false
def aTX(s t:Sl)(f:Nat)(m:MH)(h:PH)(K:bz):Prop:=
  tM m h f 18 (λy=>pW (λo c=>Ol (λd e=>∃(a b:cj),aA (fJ y::fF s (fJ t)=fJ o::fF c (fJ d)) (jT h o e) (aA (cF h c a) (cF h d b) (K (fX (mI e a b)) m h)))))
abbrev T9(a:Prop)(b:(Nat×Nat×Nat×MH×PH)->Prop):Prop:=a/\∀(x:Nat×Nat×Nat×MH×PH),b x
abbrev DD(a:Sl->cj->ca->Prop):Prop:=rJ (λx c=>∃(d:ca),a x c d)
noncomputable abbrev jB(a:cj)(b:ca):Value:=Value.string (pX (pick a b))
abbrev Hb(a b:Prop)(c:MH)(d:Nat)(e:cj)(g:ca)(i:dp->Prop)(j:dp->Sl->Prop):Prop:=aA a b (∃(x:dp)(n:Value->Prop),aA (xS c d (List.map (fun(f:Value×Sl)=>(f.1,fK f.2)) x)) (Fh n) (aA (n (jB e g)) (∀(f:Value×Sl),List.Mem f x->n f.1) (i x/\∀(f:Sl),j x f)))
abbrev AI(a:cj)(b:ca):Prop:=jU a.length b
noncomputable abbrev sA:Sl:=Sl.mk Option.none 0 0
abbrev Hc(a:Nat->Option Obj)(b:Nat)(c:cj)(d:ca)(e:cm->Prop)(g:cm->cm->Value->cm->Prop):Prop:=X6 (λx j=>aA (xW a b x) (Fh j) (aA (j (jB c d)) (fV (Instr.sameBits 10000 (jB c d) (jB c d))) (aA (∀(f:Value×Value),List.Mem f x->j f.1) ((∀(f:Value×Value),List.Mem f x->f.1=jB c d->False)->e x) (∀(f:cm)(n:Value)(o:cm),g x f n o))))
abbrev JT(a:MH)(b:Nat×Nat×Nat×MH×PH)(c:MH->Prop)(d:MH->(Nat×Nat×Nat×MH×PH)->Prop):Prop:=∀(x:MH),rM a x (jG b)->c x->∃(e:Nat×Nat×Nat×MH×PH),d x e
abbrev Pg(a:Nat->cm->cm->Prop):Prop:=∃(x:Nat)(c d:cm),a x c d
attribute [push_cast] T9 DD jB Hb AI sA Hc JT Pg
def Mr(v:vY)(s:Sl)(m:MH)(h:PH)(K:bz):Prop:=
  jY m h (λb J=>eA m J b v.enc 123) (λb J=>CO J h (λS T=>∃(I:Nat×Nat×Nat×MH×PH->Prop)(z:Nat×Nat×Nat×MH×PH->Nat),T9 (∃(x:Nat×Nat×Nat×MH×PH),aA (I x) (dG b x.1) (aA (j5 S (jG x)) (aI s) (aA (bI s) (bB (kI x)) (aA (bH T (rT x)) (h=fW x) True)))) (λx=>I x->aZ (↑(kI x):Int) (aH s) (eK s.a (↑(kI x):Int) s (λH o y=>aU (nH x) (fW x) H (bK o (kI x) 1) (bA y)/\∃(P:Sl),aU (nH x) (fW x) x.1 17 (bA P)/\∃(A:Sl),DD (λt r c=>aA (dT y P=dT A t) (cF (fW x) A r) (aA (Ints (fW x) t c) (UP r) (Hb (AI r c) (gJ (nH x)) (nH x) (jG x) r c (λk=>zU (∀(e:Value×Sl),List.Mem e k->e.1=jB r c->False) (λd=>aA (dC (nH
 x) sA 94 1 d) (fC (iY d 1*24)) (jQ d/\lD (λC j=>eD (nH x) j sA C 94 1 (eN d (bA y))->Hc j (jG x) r c (λn=>JT j x (λg=>xW g (jG x) (n++DB (jB r c) (fK C))) (λg f=>aA (I f) (z f<z x) (aA (dG x.1 f.1) (j5 (jG x) (jG f)) (aA (aI s) (bI s) (aA (bD (fZ (bE (kI x) 1)) (kI f)) (bH g (rT f)) (bN (fW x) (fW f))))))) (λn l E B=>n=l++(jB r c,E)::B->JT j x (λg=>xW g (jG x) (l++(jB r c,fK C)::B)) (λg f=>aA (I f) (z f<z x) (aA (dG x.1 f.1) (j5 (jG x) (jG f)) (aA (aI s) (bI s) (aA (bD (fZ (bE (kI x) 1)) (kI f)) (bH g (rT f)) (bN (fW x) (fW f))))))))))) (λk G=>zU (List.Mem
 (jB r c,G) k) (λd=>aA (dC (nH x) (iA G.a G) 94 1 d) (fC (iY d 1*24)) (jQ d/\lD (λC j=>eD (nH x) j (iA G.a G) C 94 1 (eN d (bA y))->Hc j (jG x) r c (λn=>JT j x (λg=>xW g (jG x) (n++DB (jB r c) (fK C))) (λg f=>aA (I f) (z f<z x) (aA (dG x.1 f.1) (j5 (jG x) (jG f)) (aA (aI s) (bI s) (aA (bD (fZ (bE (kI x) 1)) (kI f)) (bH g (rT f)) (bN (fW x) (fW f))))))) (λn l E B=>n=l++(jB r c,E)::B->JT j x (λg=>xW g (jG x) (l++(jB r c,fK C)::B)) (λg f=>aA (I f) (z f<z x) (aA (dG x.1 f.1) (j5 (jG x) (jG f)) (aA (aI s) (bI s) (aA (bD (fZ (bE (kI x) 1)) (kI f)) (bH g (rT f))
 (bN (fW x) (fW f)))))))))))))))) (∃(k:cm),p7 (xW (nH x) (jG x) k) (λr=>∀(j:MH),mH (nH x) (fW x) r->rM (nH x) j r->nA j (jG x) r k k->∃(I1:Nat×Nat×Nat×MH×PH->Prop)(g:Nat×Nat×Nat×MH×PH->Nat),T9 (∃(d:Nat×Nat×Nat×MH×PH),aA (I1 d) (dG x.1 d.1) (aA (j5 (jG x) (jG d)) (dG r (kI d)) (aA (bH j (rT d)) (fW x=fW d) True))) (λd=>I1 d->Pg (λH n l=>aA (nA (nH d) H (kI d) n l) (l=[]->K (CV.val (Value.map (Option.some (jG d)))) (nH d) (fW d)) (∀(B:cm)(f:Value×Value)(Q:cm),l=B++f::Q->∀(F:MH),rM (nH d) F (kI d)->FD F H (kI d) n (B++Q) f->Pg (λU V W=>∃
 (R:Value×Value),FD F U (kI d) V W R/\∃(A:Sl)(L:Nat)(E:vY)(o:cg)(w:Nat)(p:de),aA (cV (CV.val R.2) (Cm 195 (Array.mk (Aw d.1)))=fF A (Cm 195 (Array.mk (Aw L)))) (F L=Option.some (oU (Array.mk E.enc) 123 0)) (aA (∀(i:Nat),yF (bM A.a L i)) (jT (fW d) E.order o) (aA (JU F A 1 p) (∀(u:Sl×cj),List.Mem u p->cF (fW d) u.1 u.2) (aA (∀(u:Sl×cj),List.Mem u p->u.2.length=w) (fC p.length) (∀(u:de)(M:MH),List.Perm u p->List.Pairwise (fun(X:Sl×cj)=>fun(q:Sl×cj)=>¬(mI o q.2 X.2<0)) u->JU M A 1 u->(∀(O:Nat),(∀(i:Nat),yF (bM A.a O i))->M O=F O)->∃(D:Nat×Nat×Nat×MH×PH),aA (I1 D) (g D<g d) (aA
 (dG d.1 D.1) (j5 (jG d) (jG D)) (bP (dG (kI d) (kI D)) (bH M (rT D)) (fW d=fW D))))))))))))))))
theorem Y7:bu 195 QO:=by
 refine hU func195 ?_;rintro c m h K ⟨s,t,d,v,od,a,b,rfl,e,f,g,j,n⟩;refine⟨sN [(64,QT)] [] [] [] [0] [] false,rfl,aE RY aG,aTX s t d m h K,bd,?_⟩;exact⟨v.order,.of_m e rfl,v.order,s,t,od,a,b,rfl,f,g,j,n⟩
theorem WL:bu 189 auZ:=by
 refine⟨⟨Tryz.f189,func189,rfl,bg⟩,?_⟩;rintro j f m h w K ⟨s,c,v,od,n,ps,rfl,I,u,z,A,B,C,D,E⟩ d
 obtain⟨F,e,rfl⟩:∃v e,f=[v,e]:=by
  have:=(sH d.args).1
  match f,this with
  |[v,e],_=>grind
 have G:F=s.val:=d.args.1;have H:e= .func (.func 195) #[] #[.pointer (some ⟨c,0,none⟩)]:=d.args.2.1;subst G H;refine Rp (R:=λl=>l.length=n) (g:=195) (cb:=[.pointer (some ⟨c,0,none⟩)]) (m2:=λb=>if b=c then m c else none) (cf:=mI od) rfl d ⟨Tryz.f195,func195,rfl,bg⟩ A B C D (byJ od) ⟨QO,Y7,λx y=>⟨x.s,y.s,c,v,od,x.l,y.l,rfl,bk,z,x.ok,y.ok,rfl,rfl,rfl⟩⟩ (λb o J=>?_) E
 grind
theorem sO.appV{m0:MH}{y:Nat}{kk:ct}{us:ByteArray->ck}{key:ByteArray}{s e:Sl}{Q:MH->Prop}(g:sO m0 m y kk us)(z:∃o,m0 y=some o)(D:(us key).length<=502633886983)
 (A:∀m' f,sO m0 m' y f (OD us key e)->Q m')(n:FO kk key s):
 ∃xs:List bx,dC m (Sl.mk s.a s.len s.cap) 94 1 xs/\(xs.length+1)*24<=140737488355328/\xs.length<140737488355328/\∀(j:Sl)(d:MH),eD m d (Sl.mk s.a s.len s.cap) j 94 1 (xs++[[fK e]])->
 ∃(c:cm)(Ok:Value->Prop),xW d y c/\KeyLaw Tryz.prog 9 Ok/\Ok (.string key)/\Instr.sameBits 10000 (Value.string key) (Value.string key)=true/\(∀e,List.Mem e c->Ok e.1)/\((∀e,List.Mem e c->e.1=Value.string key->False)->∀m':MH,rM d m' y->xW m' y (c++[(Value.string key,fK j)])->Q m')/\
  ∀(u:cm)(B:Value)(x:cm),c=u++(Value.string key,B)::x->∀m':MH,rM d m' y->xW m' y (u++(Value.string key,fK j)::x)->Q m':=
 ⟨_,(n.row g).1,bj,bj,λ_ _ C=>g.put z n C A⟩
theorem ZT:bu 124 XB:=by
 refine V7 func124 ?_;rintro b9 m h K ⟨v,s,gr,od,l,w,rfl,a7,a8,Z,c,H,hT,hK⟩;refine⟨buJ s,rfl,aE Cs (aE WL aG),Mr v s m h (fY h K),bd,?_⟩;show Mr v s m h (fY h K);dsimp only[Mr,push_cast];intro bq m1 a' B y I J C;obtain⟨s1,nq⟩:=wP (Sub.refl m) a' B;obtain⟨s2,ny⟩:=wP s1 J C;have D:bq≠y:=λe=>by have:=J.m_;rw[<-e,B.at_]at this;cases this
 have L:I bq=some (.cells ⟨vY.enc v⟩ 123 (0,0)):=by rw[C.other bq D];exact B.at_
 have n:I y=some (.map #[] 0):=C.at_;have a9:=bY.slen Z;have b':=c.len;clear B C a' J s1;have a0:∀{E kk us},sO I E y kk us->Sub m E:=λg z o j=>g.old z o (s2 z o j) (λF=>bk);refine⟨λx=>x.1=bq/\x.2.1=y/\x.2.2.1<=l.length/\x.2.2.2.2=h/\afX I x.2.2.2.1 h y (pG pX gr (l.take x.2.2.1)),λx=>l.length-x.2.2.1,⟨(bq,y,0,I,h),⟨rfl,rfl,Nat.zero_le _,rfl,⟨[],_,sO.new n,λk=>by simpa[pG]using jL.nil h⟩⟩,MT⟩,?_⟩;rintro⟨M,O,i,E,P⟩ ⟨Q,j,hi,F,⟨kk,uk,g,hg⟩⟩;dsimp only at Q j hi F g hg⊢
 subst Q j F;refine aF (λb0=>?_) (λc'=>?_)
 .obtain⟨r,hr⟩:=eT a9 b0;obtain⟨b,o,u,ea,rd,hv⟩:=bY.at Z hr;have a1:=mem_of_getElem? hr;have rq:aU E P M 17 [fK v.group]:=.of_m (g.old M _ L D) rfl
  have hl:(uk (pX (pick r gr))).length<=502633886983:=by
   have h5:=(hg (pX (pick r gr))).len;have h6:(pG pX gr (l.take i) (pX (pick r gr))).length<=(l.take i).length:=length_filter_le _ _
   grind
  rw[jO aD];have nx:∀(m':MH)(d:ct),sO I m' O d (OD uk (pX (pick r gr)) u)->afX I m' P O (pG pX gr (l.take (i+1))):=λm' d g'=>afX.upd g' hg hv (by rw[pG,A1 _ hr,if_pos bf];rfl) (λk2 c0=>by rw[pG,A1 _ hr,if_neg bk,append_nil];rfl);exact⟨b,o,ea,aD,aD,u,.imm rd,v.group,rq,u,v.group,r,gr,rfl,hv,a7,c.row r a1,by rw[c.wid r a1];exact H,hT.sub (a0 g),g.get2 (λZ=>g.appV ⟨_,n⟩ hl (λm' d g'=>⟨(M,O,i+1,m',P),⟨rfl,rfl,bk,rfl,nx m' d g'⟩,bk,MT⟩) Z) (λs Z=>g.appV ⟨_,n⟩ hl (λm' d g'=>⟨(M,O,i+1,m',P),⟨rfl,rfl,bk,rfl,nx m' d g'⟩,bk,MT⟩) Z)⟩
 .rw[take_of_length_le aD]at hg;have mq:=g.old M _ L D;refine⟨_,g.map_,λr m5 b3 b4 it=>?_⟩;have b5:E r=none:=b3.m_
  have a2:∀{z o},E z=some o->m5 z=E z/\z≠r:=fun{z o} j=>by
   have:z≠r:=λF=>bk
   exact⟨b4.other z this,this⟩
  have R:∀p∈kk,∀x i,p.2.a=some ⟨x,i,none⟩->∃o,E x=some o:=λp hp x i j=>⟨_,((g.row p hp).blk j).choose_spec⟩
  refine⟨λz=>z.1=M/\z.2.1=O/\z.2.2.1=r/\z.2.2.2.2=P/\(∀b o,E b=some o->(∀p∈kk,∀i,p.2.a≠some ⟨b,i,none⟩)->z.2.2.2.1 b=some o)/\∃left,nA z.2.2.2.1 O r (kk.map λp=>(Value.string p.1,fK p.2)) left/\∀p∈kk,caQ z.2.2.2.1 P od p (pG pX gr l) ((Value.string p.1,fK p.2)∉left),λz=>leftOf z.2.2.2.1 z.2.2.1,⟨(M,O,r,m5,P),⟨rfl,rfl,rfl,rfl,λb o e _=>(a2 e).1.trans e,_,it,λp hp=>?_⟩,MT⟩,?_⟩
  .obtain⟨ps,Q,j,F⟩:=cwJ (hg p.1);refine⟨ps,?_,F,by rw[j],λhn=>(hn (mem_map_of_mem (f:=λp:ByteArray×Sl=>(Value.string p.1,fK p.2)) hp)).elim⟩;have e5:(ps.map λq=>eS q.1)=(uk p.1).map eS:=by rw[<-Q,map_map];rfl
   rw[e5];exact dC.keep (g.row p hp) λb i e=>(a2 (R p hp b i e).choose_spec).1
  .rintro⟨c1,c2,c3,mz,hz⟩ ⟨Q,j,F,e4,S,left,G,A⟩;dsimp only at Q j F e4 S G A⊢
   subst Q j F e4;refine⟨c2,_,left,G,λT=>?_,λl1 x l2 b6 m6 b7 a3=>?_⟩
   .subst T;exact V4 s2 ny n g hg (.refl _) b' S G A hK
   .obtain⟨p0,ps,rfl,a4,a5,hv,hw,c4,U⟩:=V3 (m4y:=n) g c b5 S G A b6 b7 a3;have hb:=a4 c1 _ L D;refine⟨c2,_,_,_,a3,p0.2,c1,v,od,w,ps,rfl,hb.1,hb.2,a8,a5,hv,hw,aD,λb8 m7 V W X a6=>?_⟩;obtain⟨k1,⟨Y,k2,k3⟩,k4⟩:=U b8 m7 V W X a6;exact⟨(c1,c2,c3,m7,hz),⟨rfl,rfl,rfl,rfl,k1,Y,k2,k3⟩,k4,rfl,rfl,rfl,rfl,rfl,trivial⟩
def bHQ:Vc.Spec:=λe m h K=>∃v on f g c d,e=[aT v,cS f,cS g]/\iF h v.on on/\Rows h f c/\Rows h g d/\gJ m/\bOJ on [c,d]/\c.length*d.length<=8000000/\∀j h',PH.le h h'->Rows h' j (c.flatMap (qI on d))->K (cS j) m h'
noncomputable def bvZ:Ctx:=sN [(117,adJ),(118,TD),(190,XE),(191,XC)] [(4,{A:=Nat×Nat×Sl×Sl×Sl×Sl×MH×PH,st:=λ⟨i,y,l,a,b,r,m,h⟩=>bQ 76 79 [(1,sv l),(7,sv a),(8,sv b),(9,vv (.map (some y))),(25,sv r),(26,iv r.len),(27,iv i)] [] m h}),
 (12,{A:=Nat×Nat×Sl×Sl×ck×MH×PH,st:=λ⟨i,y,l,a,c,m,h⟩=>bQ 76 79 [(7,sv a),(9,vv (.map (some y))),(13,.at (.lst 72)),(46,sv l),(47,iv l.len),(48,iv i)] [(72,.lst 94 1 (c.map eS))] m h}),
 (16,{A:=Nat×Nat×Nat×Sl×Sl×Sl×Sl×ck×MH×PH,st:=λ⟨j,i,y,l,a,e,g,c,m,h⟩=>bQ 76 79 [(7,sv a),(9,vv (.map (some y))),(13,.at (.lst 72)),(15,sv e),(46,sv l),(47,iv l.len),(48,iv i),(60,sv g),(61,iv g.len),(62,iv j)] [(72,.lst 94 1 (c.map eS))] m h})] [] [] [1053,400000,0] [] false
noncomputable abbrev tQ(a:Nat×Nat×Sl×Sl×Sl×Sl×MH×PH):Sl:=a.2.2.1
noncomputable abbrev tP(a:Nat×Nat×Sl×Sl×Sl×Sl×MH×PH):Sl:=a.2.2.2.2.1
noncomputable abbrev pR(a:Nat×Nat×Sl×Sl×Sl×Sl×MH×PH):Nat:=a.2.1
noncomputable abbrev kS(a:Nat×Nat×Sl×Sl×Sl×Sl×MH×PH):Sl×MH×PH:=a.2.2.2.2.2
noncomputable abbrev qR(a:Nat×Nat×Sl×Sl×Sl×Sl×MH×PH):Sl:=(kS a).1
abbrev JV(a:MH)(b:Nat×Nat×Sl×Sl×Sl×Sl×MH×PH)(c:MH->Prop)(d:MH->(Nat×Nat×Sl×Sl×Sl×Sl×MH×PH)->Prop):Prop:=∀(x:MH),rM a x (pR b)->c x->∃(e:Nat×Nat×Sl×Sl×Sl×Sl×MH×PH),d x e
abbrev Hl(a b:Nat×Nat×Sl×Sl×Sl×Sl×MH×PH):Prop:=bS a.2.2.2.1 b.2.2.2.1
abbrev Hm(a b:Nat×Nat×Sl×Sl×Sl×Sl×MH×PH)(c:Nat->Option Obj):Prop:=bP (bD (fZ (bE a.1 1)) b.1) (bH c (kS b).2) (fP (kS a)=fP (kS b))
noncomputable abbrev Aq(a:Nat×Nat×Sl×Sl×ck×MH×PH):Sl:=a.2.2.2.1
noncomputable abbrev nX(a:Nat×Nat×Sl×Sl×ck×MH×PH):Sl:=a.2.2.1
noncomputable abbrev BQ(a:Nat×Nat×Sl×Sl×ck×MH×PH):List bx:=nN a.2.2.2.2.1
noncomputable abbrev iI(a:Sl×Sl×ck×MH×PH):MH×PH:=a.2.2.2
noncomputable abbrev tR(a:Nat×Nat×Sl×Sl×ck×MH×PH):Nat->Nat->Option Value:=(iI a.2.2).2
noncomputable abbrev C2(a:Nat×Nat×Sl×Sl×ck×MH×PH):Nat->Option Obj:=(iI a.2.2).1
abbrev JX(a:dp)(b:cj)(c:ca)(d:Prop):Prop:=(∀(x:Value×Sl),List.Mem x a->x.1=jB b c->False)->d
noncomputable abbrev BO(a:Nat×Nat×Nat×Sl×Sl×Sl×Sl×ck×MH×PH):Sl:=a.2.2.2.2.1
noncomputable abbrev BP(a:Nat×Nat×Nat×Sl×Sl×Sl×Sl×ck×MH×PH):Nat:=a.2.2.1
noncomputable abbrev oM(a:Nat×Nat×Nat×Sl×Sl×Sl×Sl×ck×MH×PH):Sl×Sl×ck×MH×PH:=a.2.2.2.2.2
noncomputable abbrev oY(a:Nat×Nat×Nat×Sl×Sl×Sl×Sl×ck×MH×PH):Sl:=a.2.2.2.1
noncomputable abbrev rR(a:Nat×Nat×Nat×Sl×Sl×Sl×Sl×ck×MH×PH):Sl:=(oM a).2.1
noncomputable abbrev yV(a:Nat×Nat×Nat×Sl×Sl×Sl×Sl×ck×MH×PH):List bx:=nN (oM a).2.2.1
noncomputable abbrev yR(a:Nat×Nat×Nat×Sl×Sl×Sl×Sl×ck×MH×PH):Nat->Nat->Option Value:=(iI (oM a)).2
abbrev Oa(a:PH)(b c:Sl)(d:Sl->PH->Sl->cd->Prop):Prop:=bO a 1 (j4 (bA b) (bA c)) (λx e=>∃(f:Sl)(g:cd),d x e f g)
attribute [push_cast] tQ tP pR kS qR JV Hl Hm Aq nX BQ iI tR C2 JX BO BP oM oY rR yV yR Oa
def Ms(v:vY)(Y W:Sl)(m:MH)(h:PH)(K:bz):Prop:=
  Ks v.on h (λo=>∀(a:Sl),iR (λb H=>cC h H (Ints H a (pD o)) (Ints H b (jF o)->CO m H (λZ m1=>∃(I:Nat×Nat×Sl×Sl×Sl×Sl×MH×PH->Prop)(C:Nat×Nat×Sl×Sl×Sl×Sl×MH×PH->Nat),(∃(x:Nat×Nat×Sl×Sl×Sl×Sl×MH×PH),aA (I x) (bS Y (tQ x)) (aA (bS a x.2.2.2.1) (bS b (tP x)) (aA (j5 Z (pR x)) (kE W (kS x)) (aA (cG W (qR x)) (bB x.1) (aA (bH m1 (kS x).2) (H=fP (kS x)) True)))))/\∀(x:Nat×Nat×Sl×Sl×Sl×Sl×MH×PH),I x->aZ (↑x.1:Int) (aH (qR x)) (eK (qR x).a (↑x.1:Int) (qR x) (λR S y=>aU (eU (kS x)) (fP (kS x)) R (bK S x.1 1) (bA y)/\∃(s:Sl),DD (λt r c=>aA (dT y (tP x)=dT s t) (cF (fP (kS x)) s r) (aA (Ints
 (fP (kS x)) t c) (AI r c) (branch (List.all (pick r c) oC) (∃(J:Sl),DD (λL j u=>aA (dT y (tP x)=dT J L) (cF (fP (kS x)) J j) (aA (Ints (fP (kS x)) L u) (UP j) (Hb (AI j u) (gJ (eU (kS x))) (eU (kS x)) (pR x) j u (λk=>zU (∀(e:Value×Sl),List.Mem e k->e.1=jB j u->False) (λf=>aA (dC (eU (kS x)) sA 94 1 f) (fC (iY f 1*24)) (jQ f/\lD (λB z=>eD (eU (kS x)) z sA B 94 1 (eN f (bA y))->Hc z (pR x) j u (λE=>JV z x (λn=>xW n (pR x) (E++DB (jB j u) (fK B))) (λn d=>aA (I d) (C d<C x) (aA (bS (tQ x) (tQ d)) (Hl x d) (aA (bS (tP x) (tP d)) (j5 (pR x) (pR d)) (aA
 (kE (qR x) (kS d)) (cG (qR x) (qR d)) (Hm x d n)))))) (λE l T M=>E=l++(jB j u,T)::M->JV z x (λn=>xW n (pR x) (l++(jB j u,fK B)::M)) (λn d=>aA (I d) (C d<C x) (aA (bS (tQ x) (tQ d)) (Hl x d) (aA (bS (tP x) (tP d)) (j5 (pR x) (pR d)) (aA (kE (qR x) (kS d)) (cG (qR x) (qR d)) (Hm x d n)))))))))) (λk A=>zU (List.Mem (jB j u,A) k) (λf=>aA (dC (eU (kS x)) (iA A.a A) 94 1 f) (fC (iY f 1*24)) (jQ f/\lD (λB z=>eD (eU (kS x)) z (iA A.a A) B 94 1 (eN f (bA y))->Hc z (pR x) j u (λE=>JV z x (λn=>xW n (pR x) (E++DB (jB j u) (fK B))) (λn d=>aA (I d) (C
 d<C x) (aA (bS (tQ x) (tQ d)) (Hl x d) (aA (bS (tP x) (tP d)) (j5 (pR x) (pR d)) (aA (kE (qR x) (kS d)) (cG (qR x) (qR d)) (Hm x d n)))))) (λE l T M=>E=l++(jB j u,T)::M->JV z x (λn=>xW n (pR x) (l++(jB j u,fK B)::M)) (λn d=>aA (I d) (C d<C x) (aA (bS (tQ x) (tQ d)) (Hl x d) (aA (bS (tP x) (tP d)) (j5 (pR x) (pR d)) (aA (kE (qR x) (kS d)) (cG (qR x) (qR d)) (Hm x d n)))))))))))))) (∃(f:Nat×Nat×Sl×Sl×Sl×Sl×MH×PH),aA (I f) (C f<C x) (aA (bS (tQ x) (tQ f)) (Hl x f) (aA (bS (tP x) (tP f)) (j5 (pR x) (pR f)) (aA (kE (qR x) (kS f)) (cG (qR x) (qR
 f)) (Hm x f (eU (kS x)))))))))))) (∃(I1:Nat×Nat×Sl×Sl×ck×MH×PH->Prop)(z:Nat×Nat×Sl×Sl×ck×MH×PH->Nat),(∃(f:Nat×Nat×Sl×Sl×ck×MH×PH),aA (I1 f) (bS x.2.2.2.1 (Aq f)) (aA (j5 (pR x) f.2.1) (eL 72) (aA (bS (tQ x) (nX f)) (cG (tQ x) (nX f)) (aA (bB f.1) (EF (BQ f)) (aA (bH (eU (kS x)) (iI f.2.2)) (fP (kS x)=tR f) True)))))/\∀(f:Nat×Nat×Sl×Sl×ck×MH×PH),I1 f->aZ (↑f.1:Int) (aH (nX f)) (eK (nX f).a (↑f.1:Int) (nX f) (λR S y=>aU (C2 f) (tR f) R (bK S f.1 1) (bA y)/\∃(s:Sl),DD (λt r c=>aA (dT y (Aq f)=dT s t) (cF (tR f) s r) (aA (Ints (tR f) t c) (AI r c) (iM (List.all
 (pick r c) oC) (∃(d:Nat×Nat×Sl×Sl×ck×MH×PH),aA (I1 d) (z d<z f) (aA (bS (Aq f) (Aq d)) (j5 f.2.1 d.2.1) (aA (eL 72) (bS (nX f) (nX d)) (aA (cG (nX f) (nX d)) (bD (fZ (bE f.1 1)) d.1) (bP (nT (BQ f) (BQ d)) (bH (C2 f) (iI d.2.2)) (tR f=tR d)))))) (∃(J:Sl),DD (λL j u=>aA (dT y (Aq f)=dT J L) (cF (tR f) J j) (aA (Ints (tR f) L u) (UP j) (Hb (AI j u) (gJ (C2 f)) (C2 f) f.2.1 j u (λk=>JX k j u (∃(I2:Nat×Nat×Nat×Sl×Sl×Sl×Sl×ck×MH×PH->Prop)(n:Nat×Nat×Nat×Sl×Sl×Sl×Sl×ck×MH×PH->Nat),(∃(d:Nat×Nat×Nat×Sl×Sl×Sl×Sl×ck×MH×PH),aA (I2 d) (bS (Aq f) (BO d))
 (aA (j5 f.2.1 (BP d)) (eL 72) (aA (bS y (oM d).1) (bS (nX f) (oY d)) (aA (cG (nX f) (oY d)) (cM f.1 d.2.1) (aA (sQn=sQs (rR d)) (bB (rR d).len) (aA (bB d.1) (nT (BQ f) (yV d)) (aA (bH (C2 f) (iI (oM d))) (tR f=yR d) True)))))))/\∀(d:Nat×Nat×Nat×Sl×Sl×Sl×Sl×ck×MH×PH),I2 d->aZ (↑d.1:Int) (aH (rR d)) (eK (rR d).a (↑d.1:Int) (rR d) (λU V A=>aU (iI (oM d)).1 (yR d) U (bK V d.1 1) (bA A)/\Oa (yR d) (oM d).1 A (λB F O D=>aA (iT B=iT O) (Rows F O D) (aA (D.length<=10) (∀(P:cj),List.Mem P D->P.length<=12) (iR (λQ G=>cC F G (cF G Q D.flatten) (nG (yV d) 24 (∃(g:Nat
 ×Nat×Nat×Sl×Sl×Sl×Sl×ck×MH×PH),aA (I2 g) (n g<n d) (aA (bS (BO d) (BO g)) (j5 (BP d) (BP g)) (aA (eL 72) (bS (oM d).1 (oM g).1) (aA (bS (oY d) (oY g)) (cG (oY d) (oY g)) (aA (cM d.2.1 g.2.1) (bS (rR d) (rR g)) (aA (cG (rR d) (rR g)) (bD (fZ (bE d.1 1)) g.1) (bP (nT (eN (yV d) (bA Q)) (yV g)) (bH (iI (oM d)).1 (iI (oM g))) (G=yR g))))))))))))))) (∃(g:Nat×Nat×Sl×Sl×ck×MH×PH),aA (I1 g) (z g<z f) (aA (bS (BO d) (Aq g)) (j5 (BP d) g.2.1) (aA (eL 72) (bS (oY d) (nX g)) (aA (cG (oY d) (nX g)) (bD (fZ (bE d.2.1 1)) g.1) (bP (nT (yV d) (BQ g)) (bH (iI
 (oM d)).1 (iI g.2.2)) (yR d=tR g)))))))) (λk A=>List.Mem (jB j u,A) k->∃(I2:Nat×Nat×Nat×Sl×Sl×Sl×Sl×ck×MH×PH->Prop)(n:Nat×Nat×Nat×Sl×Sl×Sl×Sl×ck×MH×PH->Nat),(∃(d:Nat×Nat×Nat×Sl×Sl×Sl×Sl×ck×MH×PH),aA (I2 d) (bS (Aq f) (BO d)) (aA (j5 f.2.1 (BP d)) (eL 72) (aA (bS y (oM d).1) (bS (nX f) (oY d)) (aA (cG (nX f) (oY d)) (cM f.1 d.2.1) (aA (bS A (rR d)) (cG A (rR d)) (aA (bB d.1) (nT (BQ f) (yV d)) (aA (bH (C2 f) (iI (oM d))) (tR f=yR d) True)))))))/\∀(d:Nat×Nat×Nat×Sl×Sl×Sl×Sl×ck×MH×PH),I2 d->aZ (↑d.1:Int) (aH (rR d)) (eK (rR d).a (↑d.1:Int) (rR d)
 (λU V X=>aU (iI (oM d)).1 (yR d) U (bK V d.1 1) (bA X)/\Oa (yR d) (oM d).1 X (λB F O D=>aA (iT B=iT O) (Rows F O D) (aA (D.length<=10) (∀(P:cj),List.Mem P D->P.length<=12) (iR (λQ G=>cC F G (cF G Q D.flatten) (nG (yV d) 24 (∃(g:Nat×Nat×Nat×Sl×Sl×Sl×Sl×ck×MH×PH),aA (I2 g) (n g<n d) (aA (bS (BO d) (BO g)) (j5 (BP d) (BP g)) (aA (eL 72) (bS (oM d).1 (oM g).1) (aA (bS (oY d) (oY g)) (cG (oY d) (oY g)) (aA (cM d.2.1 g.2.1) (bS (rR d) (rR g)) (aA (cG (rR d) (rR g)) (bD (fZ (bE d.1 1)) g.1) (bP (nT (eN (yV d) (bA Q)) (yV g)) (bH (iI (oM d)).1 (iI (oM
 g))) (G=yR g))))))))))))))) (∃(g:Nat×Nat×Sl×Sl×ck×MH×PH),aA (I1 g) (z g<z f) (aA (bS (BO d) (Aq g)) (j5 (BP d) g.2.1) (aA (eL 72) (bS (oY d) (nX g)) (aA (cG (oY d) (nX g)) (bD (fZ (bE d.2.1 1)) g.1) (bP (nT (yV d) (BQ g)) (bH (iI (oM d)).1 (iI g.2.2)) (yR d=tR g)))))))))))))))) (bO (tR f) 1 (BQ f) (λs F=>K (fJ s) (C2 f) F)))))))
theorem Qe:bu 117 adJ:=by
 refine hU func117 ?_;rintro c m h K ⟨s,on,rfl,d,e⟩;refine⟨bhX s m h,rfl,aG,Ma s m h K,bd,?_⟩;exact b1X d e
theorem Zc:bu 190 XE:=by
 refine hU func190 ?_;rintro d m h K ⟨s,t,r,c,rfl,e,f,g,j⟩;refine⟨bhQ s t m h,rfl,aE IS aG,L9 s t m h K,bd,?_⟩;exact b1Q e f g j
theorem sO.get1{m0:MH}{y:Nat}{kk:ct}{us:ByteArray->ck}{key:ByteArray}{K0:Prop}{K:Sl->Prop}(g:sO m0 m y kk us)(d:∀s,FO kk key s->K s)(e:K ⟨none,0,0⟩=K0):
 ∃(c:dp)(Ok:Value->Prop),xS m y (c.map λp=>(p.1,fK p.2))/\KeyLaw Tryz.prog 9 Ok/\Ok (.string key)/\(∀e,List.Mem e c->Ok e.1)/\((∀e,List.Mem e c->e.1=Value.string key->False)->K0)/\∀t,List.Mem (Value.string key,t) c->K t:=g.get2 (λf=>e▸d _ f) d
theorem ZY:bu 116 bHQ:=by
 refine V7 func116 ?_;rintro c9 m h K ⟨v,on,s1,s2,D,f,rfl,ho,L,M,hT,c',d',hK⟩;refine⟨bvZ,rfl,aE Qe (aE Cs (aE Zc (aE Zb aG))),Ms v s1 s2 m h (fY h K),bd,?_⟩;show Ms v s1 s2 m h (fY h K);dsimp only[Ms,push_cast];obtain⟨-,wa,wb,n,c,c0,a8⟩:=c';have n:iK wa D:=n;have c:iK wb f:=c;have d0:=n.len;have c6:=c.len;refine⟨v.on,on,rfl,ho,λsa sb h1 B O a9 y m2 b' a0=>?_⟩;obtain⟨st,ny⟩:=wP (Sub.refl m) b' a0;have b0:m2 y=some (.map #[] 0):=a0.at_;have U:∀{mx kk us},sO m2 mx y kk us->Sub m mx:=λg z o J=>g.old z o (st z o J) (λP=>bk);clear a0 b';have L:=bY.mono L B (λ_ _ h=>cF.mono h B);have M:=bY.mono M B (λ_ _ h=>cF.mono h B);have b1:=bY.slen L;have b2:=bY.slen M;refine⟨λx=>x.1<=f.length/\x.2.1=y/\x.2.2.1=s1/\x.2.2.2.1=sa/\x.2.2.2.2.1=sb/\x.2.2.2.2.2.1=s2/\x.2.2.2.2.2.2.2=h1/\afX m2 x.2.2.2.2.2.2.1 h1 y (under pX (jF on) (f.take x.1)),λx=>f.length-x.1,⟨(0,y,s1,sa,sb,s2,m2,h1),⟨Nat.zero_le _,rfl,rfl,rfl,rfl,rfl,rfl,⟨[],_,sO.new b0,λk=>by simpa[under]using jL.nil h1⟩⟩,MT⟩,?_⟩;rintro⟨i,y',t1,ta,tb,t2,mx,hx⟩ ⟨hi,V,J,P,W,e5,e6,⟨kk,uk,g,hg⟩⟩;dsimp only at hi V J P W e5 e6 g hg⊢
 subst V J P W e5 e6;refine aF (λa1=>?_) (λb3=>?_)
 .obtain⟨r,E⟩:=eT b2 a1;obtain⟨b,o,u,ea,rd,Q⟩:=bY.at M E;have A:=mem_of_getElem? E;have C:jU r.length (jF on):=by rw[c.wid r A];exact a8
  rw[jO aD];refine⟨b,o,ea,aD,aD,u,.imm rd,u,tb,r,jF on,rfl,Q,a9,C,aC (λd=>?_) (λd=>?_)⟩
  .have hl:(uk (pX (pick r (jF on)))).length<=502633886983:=by
    have h5:=(hg (pX (pick r (jF on)))).len;have h6:(under pX (jF on) (f.take i) (pX (pick r (jF on)))).length<=(f.take i).length:=length_filter_le _ _
    grind
   exact⟨u,tb,r,jF on,rfl,Q,a9,c.row r A,C,hT.sub (U g),g.get1 (λs hs=>g.appV ⟨_,b0⟩ hl (λm' d1 g'=>⟨(i+1,y',t1,ta,tb,t2,m',hx),⟨aD,rfl,rfl,rfl,rfl,rfl,rfl,afX.upd g' hg Q (by rw[Is E,if_pos];simpa[Ei]using d) (λk2 d2=>by rw[Is E,if_neg,append_nil];grind)⟩,aD,MT⟩) hs) rfl⟩
  .refine⟨(i+1,y',t1,ta,tb,t2,mx,hx),⟨aD,rfl,rfl,rfl,rfl,rfl,rfl,⟨kk,uk,g,λk2=>?_⟩⟩,aD,MT⟩;dsimp only;rw[Is E,if_neg,append_nil]
   .exact hg k2
   .simp[Ei,d]
 .rw[take_of_length_le aD]at hg;have gx:∀{X},PH.le hx X->∀key,jL X (uk key) (under pX (jF on) f key):=λle key=>(hg key).mono le;have sx:=U g;refine⟨λx=>x.1<=D.length/\x.2.1=y'/\x.2.2.1=t1/\x.2.2.2.1=ta/\x.2.2.2.2.2.1=mx/\PH.le hx x.2.2.2.2.2.2/\jL x.2.2.2.2.2.2 x.2.2.2.2.1 ((D.take x.1).flatMap (qI on f)),λx=>D.length-x.1,⟨(0,y',t1,ta,[],mx,hx),⟨Nat.zero_le _,rfl,rfl,rfl,rfl,.refl _,bt (jL.nil hx)⟩,MT⟩,?_⟩;rintro⟨k,y2,a2,F,us,my,hy⟩ ⟨hk,V,J,P,W,le,R⟩;dsimp only at hk V J P W le R⊢
  subst V J P W;refine aF (λa1=>?_) (λb3=>?_)
  .obtain⟨r,E⟩:=eT b1 a1;obtain⟨b,o,u,ea,rd,Q⟩:=bY.at L E;have A:=mem_of_getElem? E;have C:jU r.length (pD on):=by rw[n.wid r A];exact c0
   have Q:=cF.mono Q le;have O:=O.mono le;rw[jO aD];refine⟨b,o,ea,aD,aD,u,.imm (rd.mono le),u,F,r,pD on,rfl,Q,O,C,aC (λd=>?_) (λd=>?_)⟩
   .refine⟨(k+1,y2,a2,F,us,my,hy),⟨aD,rfl,rfl,rfl,rfl,le,?_⟩,aD,MT⟩;have:qI on f r=[]:=if_neg (by simpa[Ei]using d);dsimp only;rw[Fq _ E,this,append_nil];exact R
   .have d:(pick r (pD on)).all oC=true:=bk
    have c1:under pX (jF on) f (pX (pick r (pD on)))=f.filter λy=>Ei (jF on) y&&agree on r y:=by
     refine filter_congr λz X=>?_;congr 1;have h5:=LQ KH (n.row r A) (c.row z X) C (by rw[c.wid z X];exact a8)
     grind
    have a3:qI on f r=(under pX (jF on) f (pX (pick r (pD on)))).map (r++ ·):=by rw[c1];exact if_pos (by simpa[Ei]using d)
    have b4:((D.take k).flatMap (qI on f)).length+(under pX (jF on) f (pX (pick r (pD on)))).length<=8000000:=by
     have h5:((D.take (k+1)).flatMap (qI on f)).length<=(D.take (k+1)).length*f.length:=A0 λx _=>Dk;rw[Fq _ E,length_append,a3,length_map]at h5;have h6:(D.take (k+1)).length*f.length<=D.length*f.length:=Nat.mul_le_mul_right _ bk;omega
    have a4:=gx le (pX (pick r (pD on)));generalize hG:under pX (jF on) f (pX (pick r (pD on)))=G at a3 b4 a4;have c2:=a4.len;refine⟨u,F,r,pD on,rfl,Q,O,n.row r A,C,hT.sub sx,g.get1 (λs hs=>?_) rfl⟩;refine⟨λz=>z.1<=G.length/\z.2.1=k/\z.2.2.1=y2/\z.2.2.2.1=a2/\z.2.2.2.2.1=F/\z.2.2.2.2.2.1=u/\z.2.2.2.2.2.2.1=s/\z.2.2.2.2.2.2.2.2.1=my/\PH.le hy z.2.2.2.2.2.2.2.2.2/\jL z.2.2.2.2.2.2.2.2.2 z.2.2.2.2.2.2.2.1 ((D.take k).flatMap (qI on f)++(G.take z.1).map (r++ ·)),λz=>G.length-z.1,⟨(0,k,y2,a2,F,u,s,us,my,hy),⟨Nat.zero_le _,rfl,rfl,rfl,rfl,rfl,rfl,rfl,.refl _,bk⟩,MT⟩,?_⟩;rintro⟨j,k',y3,Y,Z,ee,gg,b5,mz,X⟩ ⟨S,V,J,P,W,e5,e6,e7,H,a5⟩;dsimp only at S V J P W e5 e6 e7 H a5⊢
    subst V J P W e5 e6 e7;have a':=(hs.row g).1;have c3:=a'.slen;rw[length_map,c2]at c3;refine aF (λc7=>?_) (λb3=>?_)
    .have b6:j<G.length:=by omega
     obtain⟨w,hw,c4⟩:=a4.at_ j _ (getElem?_eq_getElem b6);obtain⟨b8,e8,d3⟩:=a'.rd (h:=X) (i:=j) (e:=[fK w]) (by rw[getElem?_map,hw];rfl);have b7:=a5.len;simp only[length_append,length_map,length_take]at b7;rw[jO aD];refine⟨b8,0,e8,aD,aD,w,bk,λc5 h3 T a6=>⟨c5,[r,G[j]],rfl,?_,bf,?_,λsl h4 b9 c8=>⟨bk,bk,(j+1,k',y3,Y,Z,ee,gg,b5++[sl],mz,h4),⟨aD,rfl,rfl,rfl,rfl,rfl,rfl,rfl,H.trans (T.trans b9),?_⟩,aD,?_⟩⟩⟩
     .refine jL.rows (us:=[ee,w]) ?_ a6 bf;refine⟨rfl,λj z S=>?_⟩
      match j,S with
      |0,S=>
       simp at S;subst S;exact⟨ee,rfl,cF.mono Q (H.trans T)⟩
      |1,S=>
       simp at S;subst S;exact⟨w,rfl,cF.mono c4 (H.trans T)⟩
     .intro z I;have I:z∈[r,G[j]]:=I;rcases mem_cons.1 I with rfl|I
      .exact(n.row _ A).len
      .have e7:=mem_singleton.1 I
       have:z∈f:=by
        have h9:z∈under pX (jF on) f (pX (pick r (pD on))):=bk
        grind
       exact(c.row _ this).len
     .have e7:(G.take (j+1)).map (r++ ·)=(G.take j).map (r++ ·)++[r++G[j]]:=by rw[take_add_one,getElem?_eq_getElem b6,map_append];rfl
      dsimp only;rw[e7, <-append_assoc];exact(a5.mono (T.trans b9)).snoc bk
     .dsimp only;rw[map_append];exact MT
    .have:j=G.length:=by omega
     subst this;rw[jO aD];refine⟨(k'+1,y3,Y,Z,b5,mz,X),⟨aD,rfl,rfl,rfl,rfl,le.trans H,?_⟩,aD,MT⟩;dsimp only;rw[Fq _ E,a3]
     grind
  .rw[take_of_length_le aD]at R
   refineλs h' a7 a6=>fY.sub sx (B.trans (le.trans a7)) (hK s h' (B.trans (le.trans a7)) ((R.mono a7).rows a6 ?_))
   have h5:(D.flatMap (qI on f)).length<=D.length*f.length:=A0 λx _=>Dk;omega
def afZ:Vc.Spec:=λc m h K=>∃u b v w r,c=[cS u,cP b]/\m b=some (.cells ⟨vY.enc v⟩ 123 (0,0))/\dD h w v.where_/\cF h u r/\K (cB (oP r w)) m h
def bHZ(t:Bool):Vc.Spec:=λc m h K=>∃u b s l r,c=[cS u,cP b]/\m b=some (.cells #[.slice s.a s.len s.cap] 53 (0,0))/\Rows h s l/\pJ l/\cF h u r/\l.length<=8000000/\K (cB (UX l r==t)) m h
def bCZ:Vc.Spec:=λe m h K=>∃u d f y s r c ks,e=[cS u,cP d,cP f]/\m d=some (.cells #[.map (some y)] 169 (0,0))/\m f=some (.cells #[.slice s.a s.len s.cap] 33 (0,0))/\DJ m y ks/\Ints h s c/\cF h u r/\UP r/\jU r.length c/\gJ m/\∀t:Bool,(t=true↔pX (pick r c)∈ks)->K (cB t) m h
def bLQ:Vc.Spec:=λc m h K=>∃i:Nat,∃d e f v od g s rs r x,c=[cI i,cP d,cP e,cP f]/\m d=some (.cells ⟨vY.enc v⟩ 123 (0,0))/\m e=some (.cells #[Sl.val g] 53 (0,0))/\m f=some (.cells #[Sl.val s] 94 (0,0))/\jT h v.order od/\Rows h g rs/\cF h s r/\rs[i]? =some x/\
 K (cB (decide (mI od x r>=0))) m h
def Xt:Vc.Spec:=λc m h K=>∃(n d e f:Nat)(v:vY)(od:cg)(g s:Sl)(rs:cd)(r:cj)(w:Nat),c=[cI n,.val (.func (.func 127) #[] #[.pointer (some ⟨d,0,none⟩),.pointer (some ⟨e,0,none⟩),.pointer (some ⟨f,0,none⟩)])]/\
 m d=some (.cells ⟨vY.enc v⟩ 123 (0,0))/\m e=some (.cells #[Sl.val g] 53 (0,0))/\m f=some (.cells #[Sl.val s] 94 (0,0))/\jT h v.order od/\Rows h g rs/\cF h s r/\rs.length=n/\vL od rs/\(∀x∈rs,x.length=w)/\r.length=w/\
 K (cI ((rs.countP λy=>decide (mI od y r<0):Nat):Int)) m h
def aeJ:Vc.Spec:=λc m h K=>∃u d e v y gr od l f g r w,c=[cS u,cP d,cP e]/\m d=some (.cells #[.map (some y)] 173 (0,0))/\m e=some (.cells ⟨vY.enc v⟩ 123 (0,0))/\xL pX m h y gr od l f g/\iK w l/\jU w gr/\Ints h v.group gr/\jT h v.order od/\cF h u r/\UP r/\r.length=w/\gJ m/\
 K (cB (decide (((l.countP λy=>M1 gr r y&&decide (mI od y r<0):Nat):Int)<v.limit))) m h
def Xu:Vc.Spec:=λe m h K=>∃v t f g c d,e=[aT v,cS f,cS g]/\uB h t v/\Rows h f c/\Rows h g d/\gJ m/\2<=t.op/\t.op<=10/\Q5 t.op t.query [c,d]/\c.length<=8000000/\d.length<=8000000/\∀j h',PH.le h h'->Rows h' j (opF t.op t.query [c,d])->K (cS j) m h'
noncomputable def buZ:Ctx:=sN [(118,TD),(126,Xt)] [] [(2,{A:=Nat×Nat×Nat×MH×PH,st:=λ⟨q,e,g,m,h⟩=>bQ 21 24 [(2,pv q),(3,pv e),(5,pv g)] [] m h})] [] [200003,200005,0] [] false
noncomputable def bWX:Ctx:=sN [(112,cgX),(115,cDZ),(116,bHQ),(117,adJ),(118,TD),(120,TF),(124,XB)] [(7,{A:=Nat×Nat×Sl×ck×MH×PH,st:=λ⟨i,b,s,c,m,h⟩=>bQ 140 143 [(3,pv b),(7,.at (.lst 33)),(34,sv s),(35,iv s.len),(36,iv i)] [(33,.lst 94 1 (c.map eS))] m h}),
 (11,{A:=Nat×Nat×Nat×Sl×Sl×Sl×ck×cj×MH×PH,st:=λ⟨k,i,b,s,u,co,c,l,m,h⟩=>bQ 140 143 [(3,pv b),(7,.at (.lst 33)),(9,sv u),(10,.at (.lst 43)),(34,sv s),(35,iv s.len),(36,iv i),(45,sv co),(46,iv co.len),(47,iv k)] [(33,.lst 94 1 (c.map eS)),(43,.lst 27 3 (l.map VV.enc))] m h}),
 (24,{A:=Nat×Nat×Nat×Sl×Sl×Sl×MH×PH,st:=λ⟨i,a,b,s,t,r,m,h⟩=>bQ 140 143 [(1,sv s),(13,pv a),(14,sv t),(15,pv b),(82,sv r),(83,iv r.len),(84,iv i)] [] m h}),
 (38,{A:=Nat×ck×Nat×MH×PH,st:=λ⟨b,c,r,m,h⟩=>bQ 140 143 [(3,pv b),(18,.at (.lst 131)),(118,pv r)] [(131,.lst 94 1 (c.map eS))] m h})] [] [] [200003,200005,200013,200015,200021,400000,410000,0] [] false
def aVZ(u:Sl)(b:Nat)(m:MH)(h:PH)(K:bz):Prop:=
  ∃(y:PV),aU m h b 2 y.enc/\BX (λv s p r=>aA (BR y u=BR v s) (dD h p v) (cF h s r/\K (Bc (oP r p)) m h))
def aVX(u:Sl)(a b:Nat)(m:MH)(h:PH)(K:bz):Prop:=
  ∃(y:Nat),aU m h a 0 (nY y)/\∃(d:Sl),aA (aU m h b 0 (bA d)) (aU m h a 0 (nY y)) (∃(s:Sl),DD (λt r c=>aA (dT u d=dT s t) (cF h s r) (aA (Ints h t c) (UP r) (aA (AI r c) (gJ m) (aA (aU m h a 0 (nY y)) (aU m h b 0 (bA d)) (JW m y (λO=>O (jB r c)) (λe=>e.1=jB r c) (K aX m h) (λk f=>List.Mem (jB r c,f) k->K (Bc f) m h)))))))
def aVQ(u:Sl)(b:Nat)(m:MH)(h:PH)(K:bz):Prop:=
  tM m h b 0 (λy=>KA (λs c l r=>aA (dT y u=dT s c) (Rows h s l) (aA (pJ l) (cF h c r) (l.length<=8000000/\K (CV.val (Value.bool (!(UX l r)))) m h))))
def aUZ(u:Sl)(b:Nat)(m:MH)(h:PH)(K:bz):Prop:=
  tM m h b 0 (λy=>KA (λs c l r=>aA (dT y u=dT s c) (Rows h s l) (aA (pJ l) (cF h c r) (l.length<=8000000/\K (Bc (UX l r)) m h))))
def Tb(i:Nat)(u d x:Nat)(m:MH)(h:PH)(K:bz):Prop:=
  ∃(y:Sl),aU m h u 18 (bA y)/\∃(c:Sl),aU m h d 0 (bA c)/\eK c.a (↑i:Int) c (λb o e=>aU m h b (bK o i 1) (bA e)/\∃(f:Sl),aA (aU m h x 0 (bA f)) (aU m h d 0 (bA c)) (pW (λg s=>Ol (λt j=>∃(a n:cj),aA (fJ y::fF e (fJ f)=fJ g::fF s (fJ t)) (jT h g j) (aA (cF h s a) (cF h t n) (aU m h d 0 (bA c)/\K (Bc (decide (mI j a n>=0))) m h))))))
abbrev Ez(a:MH)(b:Nat)(c:Value)(d:MH->(Nat×Nat×Nat×MH×PH)->Prop):Prop:=wD (λx e=>aA (Ib a b (oU x e 0)) (0<x.size) (∀(f:MH),eA a f b (uK c 1 x.toList) e->∃(g:Nat×Nat×Nat×MH×PH),d f g))
attribute [push_cast] Ez
def Mq(u:Sl)(a b:Nat)(m:MH)(h:PH)(K:bz):Prop:=
  jY m h (λz d=>eA m d z (bA u) 94) (λz d=>∃(I:Nat×Nat×Nat×MH×PH->Prop),T9 (∃(y:Nat),aU d h a 0 (nY y)/\∃(A:Sl),aU d h z 0 (bA A)/\∃(B:Sl),aA (aU d h b 17 (bA B)) (aU d h a 0 (nY y)/\∃(s:Sl),DD (λt r c=>aA (dT A B=dT s t) (cF h s r) (aA (Ints h t c) (UP r) (aA (AI r c) (gJ d) (aA (aU d h a 0 (nY y)) (Hb (aU d h z 0 (bA A)) (aU d h b 17 (bA B)) d y r c (λk=>JX k r c (aA (aU d h a 0 (nY y)) (aU d h z 0 (bA A)) (aU d h b 17 (bA B)/\jY d h (λf j=>eA d j f iS 53) (λf j=>Ez j f lF (λC x=>aA (I x) (dG b x.1) (aA (dG z (jG x)) (dG f (kI x)) (aA (bH C (rT x)) (h=fW x) True))))))) (λk D=>List.Mem (jB
 r c,D) k->aA (aU d h a 0 (nY y)) (aU d h z 0 (bA A)) (aU d h b 17 (bA B)/\jY d h (λf j=>eA d j f iS 53) (λf j=>Ez j f (fK D) (λC x=>aA (I x) (dG b x.1) (aA (dG z (jG x)) (dG f (kI x)) (aA (bH C (rT x)) (h=fW x) True))))))) (aA (aU d h a 0 (nY y)) (aU d h z 0 (bA A)) (aU d h b 17 (bA B)/\jY d h (λf j=>eA d j f iS 53) (λf j=>Hb (aU j h z 0 (bA A)) (aU j h b 17 (bA B)) j y r c (λk=>JX k r c (Ez j f lF (λC x=>aA (I x) (dG b x.1) (aA (dG z (jG x)) (dG f (kI x)) (aA (bH C (rT x)) (h=fW x) True))))) (λk D=>List.Mem (jB r c,D) k->Ez j f (fK D) (λC x=>aA (I x) (dG b x.1) (aA (dG z (jG x))
 (dG f (kI x)) (aA (bH C (rT x)) (h=fW x) True)))))))))))) (aA (aU d h a 0 (nY y)) (aU d h z 0 (bA A)) (aU d h b 17 (bA B)/\jY d h (λf j=>eA d j f iS 53) (λf j=>aU j h a 0 (nY y)/\∃(s:Sl),DD (λt r c=>aA (dT A B=dT s t) (cF h s r) (aA (Ints h t c) (UP r) (aA (AI r c) (gJ j) (aA (aU j h a 0 (nY y)) (aU j h z 0 (bA A)) (aU j h b 17 (bA B)/\∃(k:dp)(O:Value->Prop),aA (xS j y (List.map (fun(p:Value×Sl)=>(p.1,fK p.2)) k)) (Fh O) (aA (O (jB r c)) (∀(e:Value×Sl),List.Mem e k->O e.1) (JX k r c (Ez j f lF (λC x=>aA (I x) (dG b x.1) (aA (dG z (jG x)) (dG f (kI x)) (aA (bH C (rT x)) (h=fW x) True))))/\∀(D:Sl),List.Mem
 (jB r c,D) k->Ez j f (fK D) (λC x=>aA (I x) (dG b x.1) (aA (dG z (jG x)) (dG f (kI x)) (aA (bH C (rT x)) (h=fW x) True)))))))))))))) (λx=>I x->tM (nH x) (fW x) (kI x) 0 (λy=>bJ (λn f=>bJ (λF G=>∃(v:vY)(o:cg),KA (λg s r E=>∃(w:Nat),aA (cV (fX (aH y)) (Cm 127 (Hn x.1 (kI x) (jG x)))=cV (fX (↑n:Int)) (Cm 127 (Hn f F G))) ((rT x).1 f=Option.some (oU (Array.mk v.enc) 123 0)) (aA ((rT x).1 F=Option.some (oU (Array.mk (bA g)) 53 0)) ((rT x).1 G=Option.some (oU (Array.mk (bA s)) 94 0)) (aA (jT (fW x) v.order o) (Rows (fW x) g r) (aA (cF (fW x) s E) (r.length=n) (aA (vL o r) (∀(H:cj),List.Mem H r->H.length=w) (E.length
 =w/\tN (nH x) (fW x) x.1 19 (λA=>K (CV.val (Value.bool (decide ((↑(countP (fun(B:cj)=>decide (mI o B E<0)) r):Int)<A)))) (nH x) (fW x)))))))))))))
abbrev IG(a:cd):Prop:=a.length<=8000000
abbrev Hd(a:Sl)(b:Nat)(c:bx)(d:PH)(e:Nat->bx->cd->(cj->Bool)->Sl->cj->Prop)(g:bz)(i:MH):Prop:=∃(x:Sl)(o:Nat)(u:bx)(j:cd)(y:cj->Bool),aA (fF a (Cm b (Array.mk c))=fF x (Cm o (Array.mk u))) (Rows d x j) (aA (IG j) (∀(n:Sl)(f:cj),e o u j y n f) (iR (λn f=>cC d f (Rows f n (filter y j)) (g (fJ n) i f))))
noncomputable abbrev Au(a:Nat×Nat×Sl×ck×MH×PH):Sl:=a.2.2.1
noncomputable abbrev Ki(a:Nat×Nat×Sl×ck×MH×PH):List bx:=nN a.2.2.2.1
noncomputable abbrev C3(a:Nat×Nat×Sl×ck×MH×PH):Nat->Nat->Option Value:=a.2.2.2.2.2
noncomputable abbrev E6(a:Nat×Nat×Sl×ck×MH×PH):Nat->Option Obj:=a.2.2.2.2.1
noncomputable abbrev Ho(a:Nat×Nat×Nat×Sl×Sl×Sl×ck×cj×MH×PH):Sl:=a.2.2.2.2.1
noncomputable abbrev BS(a:Nat×Nat×Nat×Sl×Sl×Sl×ck×cj×MH×PH):Sl:=a.2.2.2.1
noncomputable abbrev As(a:Nat×Nat×Nat×Sl×Sl×Sl×ck×cj×MH×PH):Sl:=a.2.2.2.2.2.1
noncomputable abbrev Hz(a:Nat×Nat×Nat×Sl×Sl×Sl×ck×cj×MH×PH):List bx:=nN a.2.2.2.2.2.2.1
noncomputable abbrev E5(a:Nat×Nat×Nat×Sl×Sl×Sl×ck×cj×MH×PH):List bx:=List.map VV.enc a.2.2.2.2.2.2.2.1
noncomputable abbrev E4(a:Nat×Nat×Nat×Sl×Sl×Sl×ck×cj×MH×PH):Nat->Nat->Option Value:=a.2.2.2.2.2.2.2.2.2
noncomputable abbrev Kh(a:Nat×Nat×Nat×Sl×Sl×Sl×ck×cj×MH×PH):Nat->Option Obj:=a.2.2.2.2.2.2.2.2.1
abbrev Pd(a:Sl->Sl->cd->cd->Prop):Prop:=pW (λx c=>∃(d e:cd),a x c d e)
noncomputable abbrev E8(a:Nat×Nat×Nat×Sl×Sl×Sl×MH×PH):Sl:=a.2.2.2.1
noncomputable abbrev E7(a:Nat×Nat×Nat×Sl×Sl×Sl×MH×PH):Sl:=a.2.2.2.2.1
noncomputable abbrev Av(a:Nat×Nat×Nat×Sl×Sl×Sl×MH×PH):Nat:=a.2.2.1
noncomputable abbrev kH(a:Nat×Nat×Nat×Sl×Sl×Sl×MH×PH):Sl×MH×PH:=a.2.2.2.2.2
noncomputable abbrev qH(a:Nat×Nat×Nat×Sl×Sl×Sl×MH×PH):Nat->Nat->Option Value:=fP (kH a)
noncomputable abbrev C4(a:Nat×ck×Nat×MH×PH):Nat:=a.2.2.1
noncomputable abbrev Ay(a:Sl)(b:Int):Int:=ite (aH a<b) (aH a) b
attribute [push_cast] IG Hd Au Ki C3 E6 Ho BS As Hz E5 E4 Kh Pd E8 E7 Av kH qH C4 Ay
def PL(v:vY)(J s2:Sl)(m:MH)(h:PH)(K:bz):Prop:=
  jY m h (λb Y=>eA m Y b v.enc 123) (λb Y=>jY Y h (λU j=>eA Y j U (bA s2) 53) (λU j=>tN j h b 0 (λy=>cW (y==2) (Hd J 113 (Aw b) h (λg c l p u r=>List.Mem r l->cF h u r->BT g 4 (Db (fJ u) c) j h (λx z f=>aA (x=vF (p r)) (z=j) (f=h))) K j) (y==3) (aA (bZ 0) (bZ (aH J)) (aA (vA J 24) (vW (aH J)) (∃(I:Nat×Nat×Sl×ck×MH×PH->Prop)(z:Nat×Nat×Sl×ck×MH×PH->Nat),(∃(x:Nat×Nat×Sl×ck×MH×PH),aA (I x) (dG b x.2.1) (aA (eL 33) (bS J (Au x)) (aA (cG J (Au x)) (bB x.1) (aA (EF (Ki x)) (bH j x.2.2.2.2) (bN h (C3 x))))))/\∀(x:Nat×Nat×Sl×ck×MH×PH),I x->aZ (↑x.1:Int) (aH (Au x)) (eK (Au x).a (↑x.1:
 Int) (Au x) (λB o G=>aU (E6 x) (C3 x) B (bK o x.1 1) (bA G)/\∃(A:Sl),aA (aU (E6 x) (C3 x) x.2.1 15 (bA A)) (bZ (aH A)) (aA (Az A) (vA A 32) (vW (aH A)/\tM (E6 x) (C3 x) x.2.1 15 (λH=>∃(I1:Nat×Nat×Nat×Sl×Sl×Sl×ck×cj×MH×PH->Prop)(L:Nat×Nat×Nat×Sl×Sl×Sl×ck×cj×MH×PH->Nat),(∃(d:Nat×Nat×Nat×Sl×Sl×Sl×ck×cj×MH×PH),aA (I1 d) (dG x.2.1 d.2.2.1) (aA (eL 33) (bS G (Ho d)) (aA (eL 43) (bS (Au x) (BS d)) (aA (cG (Au x) (BS d)) (cM x.1 d.2.1) (aA (bS H (As d)) (cG H (As d)) (aA (bB d.1) (nT (Ki x) (Hz d)) (bP (Option.some (Own.lst 27 3 (replicate (aH A).toNat Ar))=Option.some
 (Own.lst 27 3 (E5 d))) (bH (E6 x) d.2.2.2.2.2.2.2.2) (C3 x=E4 d))))))))/\∀(d:Nat×Nat×Nat×Sl×Sl×Sl×ck×cj×MH×PH),I1 d->aZ (↑d.1:Int) (aH (As d)) (bJ (λR Z=>aA (bM (As d).a R Z) (0<=(↑d.1:Int)) ((↑d.1:Int)<aH (As d)/\∃(C:Int),aU (Kh d) (E4 d) R (bK Z d.1 1) (bG C)/\bJ (λb4 o2=>aA (bM (Ho d).a b4 o2) (0<=C) (C<aH (Ho d)/\∃(y5:VV),E9 (aU (Kh d) (E4 d) b4 (fU o2 C 3) y5.enc) 0 (↑d.1:Int) (E5 d) (λe=>aA (mQ (E5 d) (↑d.1:Int) e) (3<=e.length) (∃(n:Nat×Nat×Nat×Sl×Sl×Sl×ck×cj×MH×PH),aA (I1 n) (L n<L d) (aA (dG d.2.2.1 n.2.2.1) (eL 33) (aA (bS (Ho d) (Ho n)) (eL 43) (aA (bS
 (BS d) (BS n)) (cG (BS d) (BS n)) (aA (cM d.2.1 n.2.1) (bS (As d) (As n)) (aA (cG (As d) (As n)) (bD (fZ (bE d.1 1)) n.1) (aA (nT (Hz d) (Hz n)) (Option.some (Own.lst 27 3 (List.set (E5 d) (yW d.1) (aM (eF y5.kind) (eF y5.int) (uK (Value.string y5.text) 3 e))))=Option.some (Own.lst 27 3 (E5 n))) (aA (bH (Kh d) n.2.2.2.2.2.2.2.2) (E4 d=E4 n) True)))))))))))))) (bO (E4 d) 3 (E5 d) (λs f=>nG (Hz d) 24 (∃(n:Nat×Nat×Sl×ck×MH×PH),aA (I n) (z n<z x) (aA (dG d.2.2.1 n.2.1) (eL 33) (aA (bS (BS d) (Au n)) (cG (BS d) (Au n)) (aA (bD (fZ (bE d.2.1 1)) n.1) (nT (eN (Hz d) (bA s)) (Ki n)) (aA (bH (Kh d)
 n.2.2.2.2) (f=C3 n) True)))))))))))) (bO (C3 x) 1 (Ki x) (λs f=>∃(D:Sl)(u:ck)(l:cd),aA (iT s=iT D) (mJ (E6 x) f D 1 (nN u)) (aA (jL f u l) (l.length<=502633886983) (iR (λP E=>cC f E (Rows E P (Ef l)) (K (fJ P) (E6 x) E))))))))) (cW (y==4) (∃(G:vY),aU j h b 0 G.enc/\∃(A:Sl),aU j h U 0 (bA A)/\∃(M:vY)(o:ce),Pd (λs D l F=>aA (oH G::fF J (fJ A)=oH M::fF s (fJ D)) (iF h M.on o) (aA (Rows h s l) (Rows h D F) (aA (gJ j) (bOJ o [l,F]) (l.length*F.length<=8000000/\iR (λP f=>cC h f (Rows f P (flatMap (qI o F) l)) (K (fJ P) j f))))))) (y==5) (tM j h b 16 (λG=>Ks G h (λo=>∀(a:Sl),iR (λB f=>cC h
 f (Ints f a (pD o)) (Ints f B (jF o)->jY j f (λR z=>eA j z R iS 33) (λR z=>kC z R (fK a) (λL=>CO L f (λb4 S=>jY S f (λb5 O=>eA S O b5 (oK (Value.map Option.none)) 169) (λb5 O=>kC O b5 (Value.map (Option.some b4)) (λm7=>tM m7 f U 0 (λA=>∃(I:Nat×Nat×Nat×Sl×Sl×Sl×MH×PH->Prop)(m8:Nat×Nat×Nat×Sl×Sl×Sl×MH×PH->Nat),(∃(x:Nat×Nat×Nat×Sl×Sl×Sl×MH×PH),aA (I x) (bS J (E8 x)) (aA (dG R x.2.1) (bS B (E7 x)) (aA (dG b5 (Av x)) (kE A (kH x)) (aA (cG A (kH x).1) (bB x.1) (aA (bH m7 (kH x).2) (f=qH x) True)))))/\∀(x:Nat×Nat×Nat×Sl×Sl×Sl×MH×PH),I x->aZ (↑x.1:Int) (aH (kH x).1) (eK (kH x).1.a (↑x.1:Int) (kH
 x).1 (λb6 Z H=>aU (eU (kH x)) (qH x) b6 (bK Z x.1 1) (bA H)/\∃(C:Nat),aA (aU (eU (kH x)) (qH x) (Av x) 0 (nY C)) (aU (eU (kH x)) (qH x) (Av x) 0 (nY C)) (∃(s:Sl),DD (λt r c=>aA (dT H (E7 x)=dT s t) (cF (qH x) s r) (aA (Ints (qH x) t c) (UP r) (aA (AI r c) (gJ (eU (kH x))) (aU (eU (kH x)) (qH x) (Av x) 0 (nY C)/\Hc (eU (kH x)) C r c (λk=>∀(T:MH),rM (eU (kH x)) T C->xW T C (k++DB (jB r c) Bk)->∃(d:Nat×Nat×Nat×Sl×Sl×Sl×MH×PH),aA (I d) (m8 d<m8 x) (aA (bS (E8 x) (E8 d)) (dG x.2.1 d.2.1) (aA (bS (E7 x) (E7 d)) (dG (Av x) (Av d)) (aA (kE (kH x).1 (kH d)) (cG
 (kH x).1 (kH d).1) (bP (bD (fZ (bE x.1 1)) d.1) (bH T (kH d).2) (qH x=qH d)))))) (λk l M F=>k=l++(jB r c,M)::F->∀(T:MH),rM (eU (kH x)) T C->xW T C (l++(jB r c,Bk)::F)->∃(d:Nat×Nat×Nat×Sl×Sl×Sl×MH×PH),aA (I d) (m8 d<m8 x) (aA (bS (E8 x) (E8 d)) (dG x.2.1 d.2.1) (aA (bS (E7 x) (E7 d)) (dG (Av x) (Av d)) (aA (kE (kH x).1 (kH d)) (cG (kH x).1 (kH d).1) (bP (bD (fZ (bE x.1 1)) d.1) (bH T (kH d).2) (qH x=qH d))))))))))))) (Hd (E8 x) 119 (jK (vQp (Av x) 0) (vQp x.2.1 0)) (qH x) (λg c l p u r=>List.Mem r l->cF (qH x) u r->BT g 4 (Db (fJ u) c) (eU (kH x)) (qH x) (λd T E=>aA (d=
 vF (p r)) (bH T (kH x).2) (E=qH x))) K (eU (kH x)))))))))))))) (cW (y==6) (tM j h U 0 (λG=>Oa h J G (λs f D l=>∃(F:cd),aA (iT s=iT D) (Leaves f D [l,F]) (aA (IG l) (IG F) (iR (λP E=>cC f E (Rows E P (l++F)) (∃(X:Sl)(u:ck)(Q:cd),aA (iT P=iT X) (mJ j E X 1 (nN u)) (aA (jL E u Q) (Q.length<=502633886983) (iR (λs6 V=>cC E V (Rows V s6 (Ef Q)) (K (fJ s6) j V))))))))))) (y==7) (Hd J 121 (Aw U) h (λg c l p u r=>List.Mem r l->cF h u r->BT g 4 (Db (fJ u) c) j h (λx z f=>aA (x=vF (p r)) (z=j) (f=h))) K j) (cW (y==8) (Hd J 123 (Aw U) h (λg c l p u r=>List.Mem r l->cF h u r->BT g 4 (Db (fJ u)
 c) j h (λx z f=>aA (x=vF (p r)) (z=j) (f=h))) K j) (y==9) (∃(G:vY),aU j h b 0 G.enc/\∃(M:vY),Pf (λs g o=>∃(l:cd)(w:Nat),aA (cV (oH G) (fJ J)=cV (oH M) (fJ s)) (Ints h M.group g) (aA (jT h M.order o) (Rows h s l) (aA (iK w l) (jU w g) (gJ j/\∀(A:Nat),gA (λz f=>∀(k:ct)(g1:ByteArray->cd),j A=Option.none->(∀(B:Nat),yF (B=A)->z B=j B)->cC h f (xL pX z f A g o l k g1) (∃(k1:cm),p7 (xW z A k1) (λr=>∀(L:MH),mH z f r->rM z L r->nA L A r k1 k1->∃(I:Nat×ck×Nat×MH×PH->Prop)(S:Nat×ck×Nat×MH×PH->Nat),(∃(x:Nat×ck×Nat×MH×PH),aA (I x) (dG b x.1) (aA (eL 131) (dG r (C4
 x)) (bP (EF (nN x.2.1)) (bH L x.2.2.2) (f=iW x.2.2))))/\∀(x:Nat×ck×Nat×MH×PH),I x->Pg (λB k2 F=>aA (nA (mT x.2.2) B (C4 x) k2 F) (F=[]->bO (iW x.2.2) 1 (nN x.2.1) (λD E=>∃(P:Sl)(u:ck)(Q:cd),aA (iT D=iT P) (mJ (mT x.2.2) E P 1 (nN u)) (aA (jL E u Q) (Q.length<=502633886983) (iR (λX V=>cC E V (Rows V X (Ef Q)) (K (fJ X) (mT x.2.2) V)))))) (∀(Q:cm)(d:Value×Value)(l3:cm),F=Q++d::l3->∀(O:MH),rM (mT x.2.2) O (C4 x)->FD O B (C4 x) k2 (Q++l3) d->Pg (λR k3 l4=>∃(n:Value×Value),FD O R (C4 x) k3 l4 n/\∃(D:Sl),n.2=fK D/\∃(H:Int),aA (aU O (iW x.2.2) x.1 19
 (bG H)) (0<=Ay D H) (Ay D H<=(↑D.cap:Int)/\∃(C:List bx),j6 1 C (mJ O (iW x.2.2) (Sl.mk D.a (Ay D H).toNat D.cap) 1 C) (oL (nN x.2.1) C 24) (oF (nN x.2.1) C) (∃(W:Nat×ck×Nat×MH×PH),aA (I W) (S W<S x) (aA (dG x.1 W.1) (eL 131) (aA (dG (C4 x) (C4 W)) (nT (nN x.2.1++C) (nN W.2.1)) (aA (bH O W.2.2.2) (iW x.2.2=iW W.2.2) True)))))))))))))))) (∃(G:vY),aU j h b 0 G.enc/\∃(A:Sl),aU j h U 0 (bA A)/\∃(M:vY),Pf (λs g o=>∃(l:cd)(w:Nat),aA (cV (oH G) (fJ A)=cV (oH M) (fJ s)) (Ints h M.group g) (aA (jT h M.order o) (Rows h s l) (aA (iK w l) (jU w g) (gJ j/\∀(H:Nat),gA (λz f=>∀(k:ct)(g1:ByteArray
 ->cd),j H=Option.none->(∀(B:Nat),yF (B=H)->z B=j B)->cC h f (xL pX z f H g o l k g1) (jY z f (λB L=>eA z L B (oK (Value.map Option.none)) 173) (λB L=>kC L B (Value.map (Option.some H)) (λS=>Hd J 125 (jK (vQp B 0) (vQp b 0)) f (λg2 c F p u r=>List.Mem r F->cF f u r->BT g2 4 (Db (fJ u) c) S f (λx O E=>aA (x=vF (p r)) (O=S) (E=f))) K S)))))))))))))))
theorem Z1:bu 113 afZ:=by
 refine hU func113 ?_;rintro c m h K ⟨u,b,v,w,r,rfl,d,e,f,g⟩;refine⟨sN [(114,bIQ)] [] [] [] [0] [] false,rfl,aE Z0 aG,aVZ u b m h K,bd,?_⟩;exact⟨v.where_,.of_m d rfl,v.where_,u,w,r,rfl,e,f,g⟩
theorem ZX:bu 119 bCZ:=by
 refine hU func119 ?_;rintro j m h K ⟨u,e,n,y,s,r,c,ks,rfl,f,g,o,x,z,A,d,B,C⟩;refine⟨sN [(118,TD)] [] [] [] [0] [] false,rfl,aE Cs aG,aVX u e n m h K,bd,?_⟩;exact⟨y,.of_m f rfl,s,.of_m g rfl,.of_m f rfl,u,s,r,c,rfl,z,x,A,d,B,.of_m f rfl,.of_m g rfl,o.get C⟩
theorem ZV:bu 121 (bHZ false):=by
 refine hU func121 ?_;rintro e m h K ⟨u,b,s,l,r,rfl,f,g,c,j,n,d⟩;refine⟨sN [(122,bKX)] [] [] [] [0] [] false,rfl,aE Qd aG,aVQ u b m h K,bd,?_⟩;exact⟨s,.of_m f rfl,s,u,l,r,rfl,g,c,j,n,by rw[show(UX l r==false)= !UX l r by grind]at d;exact d⟩
theorem ZU:bu 123 (bHZ true):=by
 refine hU func123 ?_;rintro e m h K ⟨u,b,s,l,r,rfl,f,g,c,j,n,d⟩;refine⟨sN [(122,bKX)] [] [] [] [0] [] false,rfl,aE Qd aG,aUZ u b m h K,bd,?_⟩;exact⟨s,.of_m f rfl,s,u,l,r,rfl,g,c,j,n,by rw[show(UX l r==true)=UX l r by grind]at d;exact d⟩
theorem ZR:bu 127 bLQ:=by
 refine hU func127 ?_;rintro j m h K ⟨i,n,e,o,v,od,g,s,rs,r,x,rfl,y,z,A,B,c,C,f,D⟩;refine⟨sN [(64,QT)] [] [] [] [0] [] false,rfl,aE RY aG,Tb i n e o m h K,bd,?_⟩;dsimp only[Tb,push_cast];have J:=bY.slen c;have L:=(List.getElem?_eq_some_iff.1 f).1;obtain⟨E,F,u,G,H,I⟩:=bY.at c f;have d:aU m h e 0 [fK g]:=.of_m z rfl;exact⟨v.order,.of_m y rfl,g,d,E,F,G,aD,aD,u,.imm H,s,.of_m A rfl,d,v.order,u,s,od,x,r,rfl,B,I,C,d,D⟩
theorem WZ:bu 126 Xt:=XK ZR λy m h K⟨n,j,o,u,v,od,g,s,rs,r,z,e,A,B,C,D,c,E,F,d,G,f,H⟩=>⟨n,j,o,u,z,od,rs,r,e,by have:=c.len;omega,F,d,G,f,λi x I=>⟨i,j,o,u,v,od,g,s,rs,r,x,rfl,A,B,C,D,c,E,I,rfl,rfl,rfl⟩,H⟩
structure cdJ(m:MH)(h:PH)(v:vY)(bq be:Nat)(e:Sl)(Gk:cd)(c:Nat×Nat×Nat×MH×PH):Prop where
 c1:c.1=bq
 c2:c.2.1=be
 c3:c.2.2.2.2=h
 sub:Sub m c.2.2.2.1
 q_:c.2.2.2.1 bq=some (.cells ⟨vY.enc v⟩ 123 (0,0))
 e_:c.2.2.2.1 be=some (.cells #[Sl.val e] 94 (0,0))
 g_:∃s,c.2.2.2.1 c.2.2.1=some (.cells #[Sl.val s] 53 (0,0))/\Rows h s Gk
theorem ZS:bu 125 aeJ:=by
 refine V7 func125 ?_;rintro a9 m h K ⟨u,ba,L,v,y,gr,od,l,kk,G,r,w,rfl,W,F,X,J,M,Y,a6,hu,hr,Z,hT,hK⟩;refine⟨buZ,rfl,aE Cs (aE WZ aG),Mq u ba L m h (fY h K),bd,?_⟩;show Mq u ba L m h (fY h K);dsimp only[Mq,push_cast];intro S C a7 a';obtain⟨D,n1⟩:=wP (Sub.refl m) a7 a';have H:C S=some (.cells #[Sl.val u] 94 (0,0)):=a'.at_;have a0:jU r.length gr:=bk
 have g1:=X.keep (λo e=>D _ o e) (.refl _)
 have a1:∀{g j},mH C h g->iL C j g (.cells #[lF] 53 (0,0))->∀z o,C z=some o->j z=some o:=fun{g j} f d z o A=>by
  have:z≠g:=λT=>by rw[T,f.m_]at A;cases A
  rw[d.other z this];exact A
 have fin:∀s,FO kk (pX (pick r gr)) s->∀g j,mH C h g->iL C j g (.cells #[lF] 53 (0,0))->∃(cs:Array Value)(E:TypeId),Ib j g (.cells cs E (0,0))/\0<cs.size/\∀m9,iL j m9 g (.cells (Array.mk (fK s::cs.toList.drop 1)) E (0,0))->
  ∃c:Nat×Nat×Nat×MH×PH,cdJ m h v L S u (G (pX (pick r gr))) c/\sQo L 0=sQo c.1 0/\sQo S 0=sQo c.2.1 0/\sQo g 0=sQo c.2.2.1 0/\m9=c.2.2.2.1/\h=c.2.2.2.2/\True:=λs x g j f d=>by
  refine⟨_,_,⟨d.at_⟩,bf,λm9 a2=>⟨(L,S,g,m9,h),?_,MT⟩⟩
  have O:∀z o,C z=some o->m9 z=some o:=λz o A=>by
   have:z≠g:=λT=>by rw[T,f.m_]at A;cases A
   rw[a2.other z this,d.other z this];exact A
  exact⟨rfl,rfl,rfl,λz o A=>O z o (D z o A),O _ _ (D _ _ F),O _ _ H,s,a2.at_,X.at_ x⟩
 have P:aU C h ba 0 [Value.map (some y)]:=.of_m (D _ _ W) rfl;have U:aU C h S 0 [fK u]:=.of_m H rfl;have V:aU C h L 17 [fK v.group]:=.of_m (D _ _ F) rfl;refine⟨cdJ m h v L S u (G (pX (pick r gr))),⟨y,P,u,U,v.group,V,⟨P,u,v.group,r,gr,rfl,hu,Y,hr,a0,hT.sub D,P,⟨U,V,g1.get2 (λx=>⟨P,U,V,fin _ x⟩) (λs x=>⟨P,U,V,fin _ x⟩)⟩,P,U,V,λg j f d=>?_⟩,P,U,V,λg j f d=>?_⟩,?_⟩
 .have I:=a1 f d;exact⟨.of_m (I _ _ H) rfl,.of_m (I _ _ (D _ _ F)) rfl,(g1.keep (I y) (.refl _)).get2 (λx=>fin _ x g j f d) (λs x=>fin _ x g j f d)⟩
 .have I:=a1 f d;have a3:aU j h ba 0 [Value.map (some y)]:=.of_m (I _ _ (D _ _ W)) rfl;exact⟨a3,u,v.group,r,gr,rfl,hu,Y,hr,a0,(hT.sub D).sub I,a3,.of_m (I _ _ H) rfl,.of_m (I _ _ (D _ _ F)) rfl,(g1.keep (I y) (.refl _)).get2 (λx=>fin _ x g j f d) (λs x=>fin _ x g j f d)⟩
 .rintro⟨c1,c2,g,mz,hz⟩ ⟨e1,A,T,a4,Q,a5,s,R,B⟩;dsimp only at e1 A T a4 Q a5 R⊢
  subst e1 A T;have n:=Nk KH (od:=od) J M hr Z;rw[<-(X.perm _).countP_eq]at n;refine⟨s,.of_m R rfl,s.len,c1,g,c2,v,od,s,u,G (pX (pick r gr)),r,w,rfl,Q,R,a5,a6,B,hu,B.slen.symm,X.sort _,λz a8=>?_,Z,v.limit,.of_m Q rfl,?_⟩
  .have:=(X.perm _).mem_iff.1 (show z∈_ from a8);exact J.wid z (mem_filter.1 this).1
  .rw[n];exact fY.keep a4 (.refl _) hK
theorem cGZ(x:Value):Vc.valOf Tryz.prog 4 [x]=x:=bd
theorem Le{g:Nat}{S:Vc.Spec}{u:Sl}{c:bx}{b:Bool}(d:bu g S)(e:∀K:CV->MH->PH->Prop,K (cB b) m h->S (cS u::c.map .val) m h K):FAt Tryz.prog g 4 (cS u::c.map .val) m h λx m' h'=>x=[.bool b]/\m'=m/\h'=h:=
 Sound.fat (vs:=Sl.val u::c) d (e _ ⟨[.bool b],(congrArg CV.val (cGZ _)).symm,rfl,rfl,rfl⟩)
structure StM(m m2:MH)(b b2:Nat)(v:vY)(s2:Sl):Prop where
 sub:Sub m m2
 b_:m2 b=some (.cells ⟨vY.enc v⟩ 123 (0,0))
 s_:m2 b2=some (.cells #[Sl.val s2] 53 (0,0))
 tab:gJ m2
theorem aNX:bu 68 Xu:=by
 refine V7 func68 ?_;rintro k' m h K ⟨v,t,R,S,n,B,rfl,U,G,I,hT,h2,g8,P,W,b0,J⟩;refine⟨bWX,rfl,aE Z2 (aE ZZ (aE ZY (aE Qe (aE Cs (aE ZW (aE ZT aG)))))),PL v R S m h (fY h K),bd,?_⟩;show PL v R S m h (fY h K);dsimp only[PL,push_cast];obtain⟨op,ta,w,co,on,gr,od,li,lf,rt⟩:=t;dsimp only[Step.query]at P J h2 g8;intro b m1 d1 a5 b2 m2 b1 a6
 have M:StM m m2 b b2 v S:=by
  obtain⟨R,n1⟩:=wP (Sub.refl m) d1 a5;obtain⟨st,n2⟩:=wP R b1 a6;have g9:b≠b2:=λe=>by have:=b1.m_;rw[<-e,a5.at_]at this;cases this
  exact⟨st,by rw[a6.other b g9];exact a5.at_,a6.at_,hT.sub st⟩
 clear d1 a5 b1 a6;have d2:=bY.slen G;have d3:=bY.slen I;have e0:v.op=op:=U.op_;have go:∀k,(v.op==k)=true->op=k:=λk e=>e0.symm.trans (eq_of_beq e);have b6:∀{m' h'},m' b=some (.cells ⟨vY.enc v⟩ 123 (0,0))->aU m' h' b 0 (vY.enc v):=λh=>.of_m h (take_length ..);refine⟨v.op,.of_m M.b_ rfl,aC (λe=>?_) (λn2=>aC (λe=>?_) (λn3=>aC (λe=>?_) (λn4=>aC (λe=>?_) (λn5=>aC (λe=>?_) (λn6=>aC (λe=>?_) (λn7=>aC (λe=>?_) (λn8=>aC (λe=>?_) (λn9=>?_))))))))⟩
 .obtain rfl:=go _ e;exact⟨R,113,[.pointer (some ⟨b,0,none⟩)],n,λr=>oP r w,rfl,G,W,λu r j X=>Le Z1 λK J=>⟨u,b,v,w,r,rfl,M.b_,U.where_,X,J⟩,λL h' le j=>fY.sub M.sub le (J L h' le j)⟩
 .obtain rfl:=go _ e;obtain⟨_,k0,wd,d,C⟩:=(show a7Z (.mk 3 ta w co on gr od li []) [n,B]from P)
  have d:iK wd n:=d;have hc:Ints h v.columns co:=U.columns_;have h4:=hc.slen;refine⟨aD,aD,aD,aD,λx=>x.1<=n.length/\x.2.1=b/\x.2.2.1=R/\x.2.2.2.2.1=m2/\PH.le h x.2.2.2.2.2/\jL x.2.2.2.2.2 x.2.2.2.1 ((n.take x.1).map λr=>pick r co),λx=>n.length-x.1,⟨(0,b,R,[],m2,h),⟨Nat.zero_le _,rfl,rfl,rfl,.refl _,bt (jL.nil h)⟩,MT⟩,?_⟩;rintro⟨i,b',t1,us,mx,Y⟩ ⟨hi,e1,A,O,le,j⟩;dsimp only at hi e1 A O le j⊢
  subst e1 A O;refine aF (λb7=>?_) (λd4=>?_)
  .obtain⟨r,D⟩:=eT d2 b7;obtain⟨bb,o,u,ea,rd,X⟩:=bY.at G D;have k3:=d.wid r (mem_of_getElem? D);have d5:=cF.mono X le;have k4:=bY.slen d5;have k5:(pick r co).length=co.length:=by simp[pick]
   have d6:=j.len;rw[length_map,length_take]at d6;refine⟨bb,o,ea,aD,aD,u,.imm (rd.mono le),v.columns,.of_m M.b_ rfl,aD,aD,aD,aD,v.columns,.of_m M.b_ rfl,λz=>z.1<=co.length/\z.2.1=i/\z.2.2.1=b'/\z.2.2.2.1=t1/\z.2.2.2.2.1=u/\z.2.2.2.2.2.1=v.columns/\z.2.2.2.2.2.2.1=us/\z.2.2.2.2.2.2.2.1=(pick r co).take z.1++replicate (co.length-z.1) zeroV/\z.2.2.2.2.2.2.2.2.1=mx/\z.2.2.2.2.2.2.2.2.2=Y,λz=>co.length-z.1,⟨(0,i,b',t1,u,v.columns,us,replicate co.length zeroV,mx,Y),⟨Nat.zero_le _,rfl,rfl,rfl,rfl,rfl,rfl,bf,rfl,rfl⟩,?_⟩,?_⟩
   .dsimp only;rw[map_replicate,show((v.columns.len:Int)).toNat=co.length by omega];exact MT
   .rintro⟨k,i',d7,d8,u',cc,d9,cells,my,hy⟩ ⟨hk,e1,A,O,e4,e5,e6,e7,e8,e9⟩;dsimp only at hk e1 A O e4 e5 e6 e7 e8 e9⊢
    subst e1 A O e4 e5 e6 e7 e8 e9;refine aF (λe'=>?_) (λd4=>?_)
    .obtain⟨c,f'⟩:=eT h4 e';obtain⟨b4,o4,e4,k6⟩:=(hc.mono le).at f';obtain⟨y,h7,h8,h0,h1⟩:=T4 (r:=r) bk f';obtain⟨b5,o5,y',e5,h9,rfl⟩:=bY.at d5 h7;have f0:k<co.length:=by omega
     have f1:=a5Z h8 f0;refine⟨b4,o4,e4,aD,aD,c,.imm bk,b5,o5,e5,h0,aD,y,.imm h9,aD,bj,_,aEX f0,by simp[VV.enc],(k+1,i',d7,d8,u',v.columns,d9,(pick r co).take (k+1)++replicate (co.length-(k+1)) zeroV,my,hy),⟨aD,rfl,rfl,rfl,rfl,rfl,rfl,rfl,rfl,rfl⟩,aD,?_⟩;dsimp only;refine⟨rfl,rfl,rfl,rfl,rfl,rfl,rfl,rfl,rfl,by rw[jO aD],rfl,?_,rfl,rfl,trivial⟩;rw[<-f1,map_set];rfl
    .have:k=co.length:=by omega
     subst this;rw[take_of_length_le aD,Nat.sub_self,replicate_zero,append_nil]
     refineλs3 h3 E T=>⟨bk,bk,(i'+1,d7,d8,d9++[s3],my,h3),⟨aD,rfl,rfl,rfl,le.trans E,?_⟩,aD,?_⟩
     .dsimp only;rw[take_add_one,D,map_append];exact(j.mono E).snoc ⟨⟨_,T,rfl,λi x Y=>⟨x,Y,rfl⟩⟩,bk⟩
     .dsimp only;rw[jO aD,map_append];exact MT
  .rw[take_of_length_le aD]at j
   exactλs3 h3 E T=>⟨s3,us,_,rfl,.imm T,j.mono E,bj,λL h' a' b8=>fY.sub M.sub (le.trans (E.trans a')) (J L h' (le.trans (E.trans a')) b8)⟩
 .obtain rfl:=go _ e;obtain⟨h5,h6⟩:=(show a8X (.mk 4 ta w co on gr od li []) [n,B]from P)
  exact⟨v,b6 M.b_,S,.of_m M.s_ rfl,v,on,R,S,n,B,rfl,U.on_,G,I,M.tab,h5,h6,λL h' le j=>fY.sub M.sub le (J L h' le j)⟩
 .obtain rfl:=go _ e;obtain⟨_,wa,wb,d,f,f2,b9⟩:=(show a6J (.mk 5 ta w co on gr od li []) [n,B]from P)
  have d:iK wa n:=d;have f:iK wb B:=f;refine⟨v.on,.of_m M.b_ rfl,v.on,on,rfl,U.on_,λsa sb h1 F i0 i1 b3 m3 f3 c'=>⟨_,_,⟨c'.at_⟩,bf,λm4 a0 y m5 i2 Z b4 m6 f4 c0=>⟨_,_,⟨c0.at_⟩,bf,λm7 c5=>?_⟩⟩⟩;obtain⟨k7,n3⟩:=wP M.sub f3 c'
  have Q:∀{z o},m2 z=some o->m4 z=some o:=fun{z o} A=>by
   have:z≠b3:=λO=>by rw[O,f3.m_]at A;cases A
   rw[a0.other z this,c'.other z this];exact A
  have c6:∀{z o},m4 z=some o->m7 z=some o/\z≠y:=fun{z o} A=>by
   have O:z≠y:=λO=>by rw[O,i2.m_]at A;cases A
   have e5:m5 z=some o:=by rw[Z.other z O];exact A
   have e4:z≠b4:=λe4=>by rw[e4,f4.m_]at e5;cases e5
   exact⟨by rw[c5.other z e4,c0.other z e4];exact e5,O⟩
  have y4:y≠b4:=λe=>by have:=f4.m_;rw[<-e,Z.at_]at this;cases this
  have i3:m7 y=some (.map #[] 0):=by rw[c5.other y y4,c0.other y y4];exact Z.at_
  have i4:m7 b2=some (.cells #[Sl.val S] 53 (0,0)):=(c6 (Q M.s_)).1;have f5:=c6 a0.at_;have V:∀{z o},m z=some o->m7 z=some o/\z≠y:=fun{z o} e=>c6 (Q (M.sub z o e));have G:=bY.mono G F (λ_ _ h=>cF.mono h F);have I:=bY.mono I F (λ_ _ h=>cF.mono h F);refine⟨S,.of_m i4 rfl,λz=>z.1<=B.length/\z.2.1=b3/\z.2.2.1=b4/\z.2.2.2.1=R/\z.2.2.2.2.1=sb/\z.2.2.2.2.2.1=S/\z.2.2.2.2.2.2.2=h1/\(∀x o,m7 x=some o->x≠y->z.2.2.2.2.2.2.1 x=some o)/\DJ z.2.2.2.2.2.2.1 y ((B.take z.1).map λr=>pX (pick r (jF on))),λz=>B.length-z.1,⟨(0,b3,b4,R,sb,S,m7,h1),⟨Nat.zero_le _,rfl,rfl,rfl,rfl,rfl,rfl,λ_ _ e _=>e,bt (DJ.new i3)⟩,MT⟩,?_⟩;rintro⟨i,c3,c4,t1,tb,t2,mx,Y⟩ ⟨hi,e1,A,O,e4,e5,e6,a1,a7⟩;dsimp only at hi e1 A O e4 e5 e6 a1 a7⊢
  subst e1 A O e4 e5 e6;have T7:gJ mx:=hT.sub λz o e=>a1 z o (V e).1 (V e).2;have f6:mx c4=some (.cells #[.map (some y)] 169 (0,0)):=a1 c4 _ c5.at_ (Ne.symm y4);refine aF (λb7=>?_) (λd4=>?_)
  .obtain⟨r,D⟩:=eT d3 b7;obtain⟨bb,o,u,ea,rd,X⟩:=bY.at I D;have f7:=mem_of_getElem? D;have r4:aU mx Y c4 0 [Value.map (some y)]:=.of_m f6 rfl;rw[jO aD];refine⟨bb,o,ea,aD,aD,u,.imm rd,y,r4,r4,u,tb,r,jF on,rfl,X,i1,f.row r f7,by rw[f.wid r f7];exact b9,T7,r4,a7.put (λm' i5 f8=>⟨(i+1,c3,c4,t1,tb,t2,m',Y),⟨aD,rfl,rfl,rfl,rfl,rfl,rfl,λz o A c7=>by dsimp only;rw[i5.other z c7];grind,?_⟩,aD,MT⟩)⟩;obtain⟨kk,h5,h6⟩:=f8.ex;exact⟨kk,h5,λq=>by rw[h6,take_add_one,D];grind⟩
  .rw[take_of_length_le aD]at a7;refine⟨t1,119,[.pointer (some ⟨c4,0,none⟩),.pointer (some ⟨c3,0,none⟩)],n,λx=>B.any λy=>agree on x y,rfl,G,W,λu r j X=>Le ZX λK J=>⟨u,c4,c3,y,sa,r,pD on,_,rfl,f6,a1 c3 _ f5.1 f5.2,a7,i0,X,d.row r j,by rw[d.wid r j];exact f2,T7,λt U=>?_⟩,λL h' le j=>fY.sub (λz o e=>a1 z o (V e).1 (V e).2) (F.trans le) (J L h' (F.trans le) j)⟩;have f9:jU r.length (pD on):=by rw[d.wid r j];exact f2
   have h1:(pX (pick r (pD on))∈B.map λz=>pX (pick z (jF on)))↔(B.any λy=>agree on r y)=true:=by
    rw[mem_map,any_eq_true];constructor
    .rintro⟨z,hz,A⟩;exact⟨z,hz,(LQ KH (d.row r j) (f.row z hz) f9 (by rw[f.wid z hz];exact b9)).1 A.symm⟩
    .rintro⟨z,hz,A⟩;exact⟨z,hz,((LQ KH (d.row r j) (f.row z hz) f9 (by rw[f.wid z hz];exact b9)).2 A).symm⟩
   grind
 .obtain rfl:=go _ e;refine⟨S,.of_m M.s_ rfl,λs h1 F D=>⟨s,n,B,rfl,⟨⟨[R,S],D,rfl,λi x Y=>?_⟩,bf⟩,W,b0,λsl h2 H j=>?_⟩⟩
  .match i,Y with
   |0,Y=>cases Y;exact⟨R,rfl,bY.mono G F (λ_ _ h=>cF.mono h F)⟩
   |1,Y=>cases Y;exact⟨S,rfl,bY.mono I F (λ_ _ h=>cF.mono h F)⟩
  .obtain⟨⟨us,D,g',i8⟩,_⟩:=j;exact⟨sl,us,n++B,rfl,.imm D,⟨g'.symm,i8⟩,aD,λL h3 E T=>fY.sub M.sub (F.trans (H.trans E)) (J L h3 (F.trans (H.trans E)) T)⟩
 .obtain rfl:=go _ e;obtain⟨_,wd,d⟩:=(show T5 (.mk 7 ta w co on gr od li []) [n,B]from P)
  exact⟨R,121,[.pointer (some ⟨b2,0,none⟩)],n,λr=>UX B r==false,rfl,G,W,λu r j X=>Le ZV λK J=>⟨u,b2,S,B,r,rfl,M.s_,I,(d B bf).srt,X,b0,J⟩,λL h' le j=>fY.sub M.sub le (J L h' le j)⟩
 .obtain rfl:=go _ e;obtain⟨_,wd,d⟩:=(show T5 (.mk 8 ta w co on gr od li []) [n,B]from P)
  exact⟨R,123,[.pointer (some ⟨b2,0,none⟩)],n,λr=>UX B r==true,rfl,G,W,λu r j X=>Le ZU λK J=>⟨u,b2,S,B,r,rfl,M.s_,I,(d B bf).srt,X,b0,J⟩,λL h' le j=>fY.sub M.sub le (J L h' le j)⟩
 .obtain rfl:=go _ e;obtain⟨_,⟨wd,d,C⟩,g0⟩:=(show a7Q (.mk 9 ta w co on gr od li []) [n,B]from P)
  have d:iK wd n:=d;refine⟨v,b6 M.b_,v,R,gr,od,n,wd,rfl,U.group_,U.order_,G,d,C,M.tab,λy m3 h2 kk g hy g1 H hg=>⟨_,hg.map_,λr m4 c8 i9 it=>?_⟩⟩;have a2:∀{z o},m2 z=some o->m3 z=some o:=fun{z o} e=>bk
  have Q:∀{z o},m2 z=some o->m4 z=some o/\z≠r:=fun{z o} e=>by
   have:z≠r:=λA=>by have:=a2 e;rw[A,c8.m_]at this;cases this
   exact⟨by rw[i9.other z this];exact a2 e,this⟩
  refine⟨λz=>z.1=b/\z.2.2.1=r/\z.2.2.2.2=h2/\(∀x o,m4 x=some o->x≠r->z.2.2.2.1 x=some o)/\∃left a3,nA z.2.2.2.1 y r (kk.map λp=>(Value.string p.1,fK p.2)) left/\jL h2 z.2.1 a3/\GK pX gr li n kk g left a3,λz=>leftOf z.2.2.2.1 z.2.2.1,⟨(b,[],r,m4,h2),⟨rfl,rfl,rfl,λ_ _ e _=>e,_,[],it,jL.nil _,.start⟩,MT⟩,?_⟩;rintro⟨b',us,r',mz,hz⟩ ⟨e1,A,O,c9,left,a3,a4,a8,rk⟩;dsimp only at e1 A O c9 a4 a8 rk⊢
  subst e1 A O;have d6:=a8.len;have j2:=rk.cnt;refine⟨y,_,left,a4,λd' s3 h3 E T=>?_,λk1 x1 k2 g2 m5 g3 d0=>?_⟩
  .subst d';refine⟨s3,us,a3,rfl,.imm T,a8.mono E,aD,λL h' a' b8=>fY.sub (λz o e=>c9 z o (Q (M.sub z o e)).1 (Q (M.sub z o e)).2) (H.trans (E.trans a')) (J L h' (H.trans (E.trans a')) ?_)⟩;show Rows h' L (LW gr od li n n);rw[rk.done KH hg d C g0];exact b8
  .have j':x1∈left:=bk
   obtain⟨p0,g4,rfl⟩:=mem_map.1 (nA.mem a4 j');have g5:v.limit=li:=U.limit_;have j0:m5 b'=some (.cells ⟨vY.enc v⟩ 123 (0,0)):=by rw[g3.other b' (Q M.b_).2];exact c9 b' _ (Q M.b_).1 (Q M.b_).2
   obtain⟨c1,c2,g6,D,j1,g'⟩:=a3Z (li:=li) (hg.rows p0 g4) g0;have k8:=(hg.perm p0.1).length_eq;have j3:(pG pX gr n p0.1).length<=n.length:=length_filter_le _ _;refine⟨y,_,_,_,d0,p0.2,rfl,li,.of_m j0 (by rw[<-g5];rfl),c1,c2,g6.map eS,Jt _,.imm D,bk,bk,(b',us++g6,r',m5,hz),⟨rfl,rfl,rfl,λx o e c7=>by dsimp only;rw[g3.other x c7];grind,_,a3++(g p0.1).take li.toNat,d0.it,a8.app j1,rk.step hg a4 g4 g2⟩,?_,bk⟩;show leftOf m5 r'<leftOf mz r';rw[nA.left_ d0.it,nA.left_ a4,g2];simp
 .have n2:=ne_of_beq_false n2;have n3:=ne_of_beq_false n3;have n4:=ne_of_beq_false n4;have n5:=ne_of_beq_false n5;have n6:=ne_of_beq_false n6;have n7:=ne_of_beq_false n7;have n8:=ne_of_beq_false n8;have n9:=ne_of_beq_false n9;obtain rfl:op=10:=by omega
  obtain⟨_,wd,d,f,C⟩:=(show VL (.mk 10 ta w co on gr od li []) [n,B]from P)
  have d:iK wd n:=d;have f:iK wd B:=f;refine⟨v,b6 M.b_,S,.of_m M.s_ rfl,v,S,gr,od,B,wd,rfl,U.group_,U.order_,I,f,C,M.tab,λy m3 h2 kk g hy g1 H hg b4 m4 c8 a0=>⟨_,_,⟨a0.at_⟩,bf,λm5 Z=>?_⟩⟩
  have g7:∀{z o},m3 z=some o->m5 z=some o:=fun{z o} e=>by
   have:z≠b4:=λA=>by rw[A,c8.m_]at e;cases e
   rw[Z.other z this,a0.other z this];exact e
  have a2:∀{z o},m2 z=some o->m5 z=some o:=fun{z o} e=>g7 bk;have a9:Sub m m5:=λz o e=>a2 (M.sub z o e);exact⟨R,125,[.pointer (some ⟨b4,0,none⟩),.pointer (some ⟨b,0,none⟩)],n,λr=>decide (((B.countP λy=>M1 gr r y&&decide (mI od y r<0):Nat):Int)<v.limit),rfl,bY.mono G H (λ_ _ h=>cF.mono h H),W,λu r j X=>Le ZS λK J=>⟨u,b4,b,v,y,gr,od,B,kk,g,r,wd,rfl,Z.at_,a2 M.b_,hg.keep (λo=>g7) (.refl _),f,C,U.group_.mono H,U.order_.mono H,X,d.row r j,d.wid r j,hT.sub a9,J⟩,λL h' le j=>fY.sub a9 (H.trans le) (J L h' (H.trans le) (by have e:v.limit=li:=U.limit_;rw[e]at j;exact j))⟩
def aSt(s:Sl):CV:=.val (.agg ⟨[.slice s.a s.len s.cap]⟩)
def cfJ:Vc.Spec:=λc m h K=>∃v s,c=[aS v,cI 3]/\gZ h s v/\K (cI (dK s)) m h
def zE(st:List cd):Int:=(st.map λl=>(l.length:Int)).sum
def azX:Vc.Spec:=λc m h K=>∃s d,c=[aSt s]/\Leaves h s d/\d.length<=1000/\K (cI (zE d)) m h
def aJZ(s:jE)(t:Int)(r:cj):Bool:=CB s t&&(match s.tables[t.toNat]? with|some c=>Gz c r|none=>false)
def VU(s:jE)(t:Int)(r:cj):cj:=match(if CB s t then s.tables[t.toNat]? else none)with|some c=>Gr c r|none=>[]
def chQ:Vc.Spec:=λc m h K=>∃v s t d r,c=[aS v,cI t,cS d,cI 3]/\gZ h s v/\cF h d r/\K (cB (aJZ s t r)) m h
def awQ:Vc.Spec:=λc m h K=>∃v s t d r,c=[aS v,cI t,cS d]/\gZ h s v/\cF h d r/\∀e,cF h e (VU s t r)->K (cS e) m h
def Nz:Vc.Spec:=λc m h K=>∃v s e d,c=[aS v,cI 3,aSt e]/\gZ h s v/\Leaves h e d/\d.length<=1000/\K (cI (mV s d)) m h
noncomputable def bwZ:Ctx:=dA [(175,cwQ),(176,Qt)] [(7,{A:=Nat×cK×Sl×MH×PH,st:=λ⟨i,t,s,m,h⟩=>bQ 95 99 [(3,iv 3),(9,.at (.ptr 9 0)),(41,sv s),(42,iv s.len),(43,iv i)] [(9,.cells 87 (t.enc.map .val))] m h})] [(12,{A:=Nat×cK×VV×Sl×Bool×MH×PH,st:=λ⟨i,t,v,s,b,m,h⟩=>bQ 95 99 [(3,iv 3),(9,.at (.ptr 9 0)),(10,iv i),(11,.at (.ptr 11 0)),(12,bv b),(41,sv s),(42,iv s.len),(43,iv i)] [(9,.cells 87 (t.enc.map .val)),(11,.cells 27 (v.enc.map .val))] m h}),
 (13,{A:=Nat×cK×VV×Sl×Bool×Bool×MH×PH,st:=λ⟨i,t,v,s,b,c,m,h⟩=>bQ 95 99 [(3,iv 3),(9,.at (.ptr 9 0)),(10,iv i),(11,.at (.ptr 11 0)),(12,bv b),(13,bv c),(41,sv s),(42,iv s.len),(43,iv i)] [(9,.cells 87 (t.enc.map .val)),(11,.cells 27 (v.enc.map .val))] m h})] [] false
noncomputable def bwJ(s:Sl)(m:MH)(h:PH):Ctx:=dA [] [(3,{A:=Nat×Int,st:=λ⟨i,n⟩=>bQ 19 20 [(3,iv n),(7,sv s),(8,iv s.len),(9,iv i)] [] m h})] [] [] false
noncomputable def f58_ctx(v:cE)(s:Sl)(m:MH)(h:PH):Ctx:=dA [(99,cfJ),(100,azX),(101,chQ),(103,awQ),(102,NB)] [(9,{A:=Nat,st:=λi=>bQ 69 72 [(1,iv 3),(3,.at (.ptr 3 0)),(29,sv s),(30,iv s.len),(31,iv i)] [(3,.cells 43 (v.enc.map .val))] m h}),
 (12,{A:=Nat×Sl×Nat,st:=λ⟨i,u,j⟩=>bQ 69 72 [(1,iv 3),(3,.at (.ptr 3 0)),(8,iv i),(9,sv u),(29,sv s),(30,iv s.len),(31,iv i),(36,sv u),(37,iv u.len),(38,iv j)] [(3,.cells 43 (v.enc.map .val))] m h})] [] [] false
def Wa(v:cE)(m:MH)(h:PH)(K:bz):Prop:=
  JY v h (λs=>K (fX (dK s)) m h) (K (fX 0) m h)
def Tk(s:Sl)(m:MH)(h:PH)(K:bz):Prop:=
  ∃(I:Nat×Int->Prop)(d:Nat×Int->Nat),(∃(x:Nat×Int),aA (I x) (dW 0 x.2) (aA (aI s) (bI s) (bP (bB x.1) (m=m) (h=h))))/\∀(x:Nat×Int),I x->aZ (↑x.1:Int) (aH s) (eK s.a (↑x.1:Int) s (λb o y=>aU m h b (bK o x.1 1) (bA y)/\∃(c:Nat×Int),aA (I c) (d c<d x) (aA (dW (fH (x.2+aH y)) c.2) (aI s) (aA (bI s) (bD (fZ (bE x.1 1)) c.1) (aA (m=m) (h=h) True))))) (K (fX x.2) m h)
abbrev qC:Prop:=gY 3
noncomputable abbrev i7(a:Nat×cK×Sl×MH×PH):Sl×MH×PH:=a.2.2
noncomputable abbrev Gg(a:Nat×cK×Sl×MH×PH):cK:=a.2.1
noncomputable abbrev Kj(a:Nat×cK×VV×Sl×Bool×MH×PH):Bool:=a.2.2.2.2.1
noncomputable abbrev BU(a:Nat×cK×VV×Sl×Bool×MH×PH):Sl:=a.2.2.2.1
noncomputable abbrev LI(a:Nat×cK×VV×Sl×Bool×MH×PH):cK:=a.2.1
noncomputable abbrev BV(a:Nat×cK×VV×Sl×Bool×MH×PH):MH×PH:=a.2.2.2.2.2
noncomputable abbrev yS(a:Nat×cK×VV×Sl×Bool×Bool×MH×PH):Sl:=a.2.2.2.1
noncomputable abbrev Gf(a:Nat×cK×VV×Sl×Bool×Bool×MH×PH):cK:=a.2.1
noncomputable abbrev C5(a:Nat×cK×VV×Sl×Bool×Bool×MH×PH):Nat->Nat->Option Value:=a.2.2.2.2.2.2.2
noncomputable abbrev Hp(a:Nat×cK×VV×Sl×Bool×Bool×MH×PH):Nat->Option Obj:=a.2.2.2.2.2.2.1
attribute [push_cast] qC i7 Gg Kj BU LI BV yS Gf C5 Hp
def Tj(v:cE)(t:Int)(s:Sl)(m:MH)(h:PH)(K:bz):Prop:=
  xG (λj n=>∃(u:Int),aA (aW (cJ v) t=aW (cJ j) u) (gZ h n j) (iM (CB n u) (K aX m h) (G0 v t (λb o=>∃(y:cK),aU m h b (fU o t 5) (Ax y)/\eC (aH s) (AJ y) (K aX m h) (∃(I:Nat×cK×Sl×MH×PH->Prop)(f:Nat×cK×Sl×MH×PH->Nat),(∃(x:Nat×cK×Sl×MH×PH),aA (I x) qC (aA (eP 9) (kE s (i7 x)) (aA (cG s (i7 x).1) (bB x.1) (aA (oQ 87 (gX y)=oQ 87 (gX (Gg x))) (bH m (i7 x).2) (bN h (fP (i7 x)))))))/\∀(x:Nat×cK×Sl×MH×PH),I x->aZ (↑x.1:Int) (aH (i7 x).1) (bJ (λz A=>aA (bM (i7 x).1.a z A) (0<=(↑x.1:Int)) ((↑x.1:Int)<aH (i7 x).1/\∃(g:VV),aU (eU (i7 x)) (fP (i7 x)) z (bK A x.1 3) g.enc/\∃(B:VV),qF (mF
 g) (mF B) (iM (mK B) (K aX (eU (i7 x)) (fP (i7 x))) (∃(I1:Nat×cK×VV×Sl×Bool×MH×PH->Prop),eO g.kind 2 (∃(d:Nat×cK×VV×Sl×Bool×MH×PH),aA (I1 d) qC (aA (eP 9) (cM x.1 d.1) (aA (eP 11) (lC (decide ((↑x.1:Int)>=(Gg x).key)) (Kj d)) (aA (bS (i7 x).1 (BU d)) (cG (i7 x).1 (BU d)) (aA (cM x.1 d.1) (oQ 87 (gX (Gg x))=oQ 87 (gX (LI d))) (aA (nL 27 g.enc=nL 27 d.2.2.1.enc) (bH (eU (i7 x)) (BV d)) (bN (fP (i7 x)) (BV d).2))))))) (∃(d:Nat×cK×VV×Sl×Bool×MH×PH),aA (I1 d) qC (aA (eP 9) (cM x.1 d.1) (aA (eP 11) (DA (Kj d)) (aA (bS (i7 x).1 (BU d)) (cG (i7 x).1 (BU d)) (aA (cM x.1 d.1) (oQ 87 (gX (Gg x))=oQ
 87 (gX (LI d))) (aA (nL 27 g.enc=nL 27 d.2.2.1.enc) (bH (eU (i7 x)) (BV d)) (bN (fP (i7 x)) (BV d).2)))))))/\∀(d:Nat×cK×VV×Sl×Bool×MH×PH),I1 d->∃(I2:Nat×cK×VV×Sl×Bool×Bool×MH×PH->Prop),eO d.2.2.1.kind 1 (∃(c:Nat×cK×VV×Sl×Bool×Bool×MH×PH),aA (I2 c) qC (aA (eP 9) (cM d.1 c.1) (aA (eP 11) (lC (Kj d) c.2.2.2.2.1) (aA (lC (decide ((↑d.1:Int)>=(LI d).key)) c.2.2.2.2.2.1) (bS (BU d) (yS c)) (aA (cG (BU d) (yS c)) (cM d.1 c.1) (aA (oQ 87 (gX (LI d))=oQ 87 (gX (Gf c))) (nL 27 d.2.2.1.enc=nL 27 c.2.2.1.enc) (aA (bH (BV d).1 c.2.2.2.2.2.2) ((BV d).2=C5 c) True))))))) (∃(c:Nat×cK×VV×Sl×Bool×Bool×MH×PH),aA (I2
 c) qC (aA (eP 9) (cM d.1 c.1) (aA (eP 11) (lC (Kj d) c.2.2.2.2.1) (aA (DA c.2.2.2.2.2.1) (bS (BU d) (yS c)) (aA (cG (BU d) (yS c)) (cM d.1 c.1) (aA (oQ 87 (gX (LI d))=oQ 87 (gX (Gf c))) (nL 27 d.2.2.1.enc=nL 27 c.2.2.1.enc) (aA (bH (BV d).1 c.2.2.2.2.2.2) ((BV d).2=C5 c) True)))))))/\∀(c:Nat×cK×VV×Sl×Bool×Bool×MH×PH),I2 c->bJ (λC D=>aA (bM (Gf c).columns.a C D) (0<=(↑c.1:Int)) ((↑c.1:Int)<aH (Gf c).columns/\∃(E:Int),aU (Hp c) (C5 c) C (bK D c.1 2+1) (bG E)/\eC c.2.2.1.kind E (iM c.2.2.2.2.1 (iM c.2.2.2.2.2.1 (K aX (Hp c) (C5 c)) (∃(e:Nat×cK×Sl×MH×PH),aA (I e) (f e<f x) (aA qC (eP 9) (aA (kE
 (yS c) (i7 e)) (cG (yS c) (i7 e).1) (aA (bD (fZ (bE c.1 1)) e.1) (oQ 87 (gX (Gf c))=oQ 87 (gX (Gg e))) (aA (bH (Hp c) (i7 e).2) (C5 c=fP (i7 e)) True)))))) (∃(e:Nat×cK×Sl×MH×PH),aA (I e) (f e<f x) (aA qC (eP 9) (aA (kE (yS c) (i7 e)) (cG (yS c) (i7 e).1) (aA (bD (fZ (bE c.1 1)) e.1) (oQ 87 (gX (Gf c))=oQ 87 (gX (Gg e))) (aA (bH (Hp c) (i7 e).2) (C5 c=fP (i7 e)) True)))))) (∃(e:Nat×cK×Sl×MH×PH),aA (I e) (f e<f x) (aA qC (eP 9) (aA (kE (yS c) (i7 e)) (cG (yS c) (i7 e).1) (aA (bD (fZ (bE c.1 1)) e.1) (oQ 87 (gX (Gf c))=oQ 87 (gX (Gg e))) (aA (bH (Hp c) (i7 e).2)
 (C5 c=fP (i7 e)) True)))))))))))) (gK K (eU (i7 x)) (fP (i7 x))))))))
def Ti(v:cE)(t:Int)(s:Sl)(m:MH)(h:PH)(K:bz):Prop:=
  aZ t 0 (K j8 m h) (gM t (mD v) (K j8 m h) (bJ (λb o=>aA (bM (yI v) b o) (0<=t) (t<aH v.tables/\∃(y:Int),aA (aU m h b (fU o t 5+2) (bG y)) (0<=ite (Ay s y>0) (Ay s y) 0) (ite (Ay s y>0) (Ay s y) 0<=(↑s.cap:Int)/\K (CV.val (Value.slice s.a (ite (Ay s y>0) (Ay s y) 0).toNat s.cap)) m h)))))
noncomputable abbrev pP(a:Nat×Sl×Nat):Sl:=a.2.1
noncomputable abbrev Kq(a:Nat×Sl×Nat):Int:=fH ((↑a.2.2:Int)-1)
attribute [push_cast] pP Kq
def ai(v:cE)(s:Sl)(m:MH)(h:PH)(K:bz):Prop:=
  xG (λA g=>aA (aW (cJ v) 3=aW (cJ A) 3) (gZ h g A) (eC (dK g) 0 (K (fX (dK g)) m h) (∃(B:Sl)(j:List cd),aA (oB (lS (bA s))=oB (lS (bA B))) (Leaves h B j) (mG j.length/\cW (decide (zE j>512)) (K (fX 2) m h) (aH s !=mD v) (K (fX 80) m h) (sZ (λI x=>aA (I x) qC (aA bV (aI s) (aA (bI s) (bB x) (aA (cL v) (m=m) (bN h h))))) (λI C x=>I x->aZ (↑x:Int) (aH s) (eK s.a (↑x:Int) s (λb o y=>aU m h b (bK o x 1) (bA y)/\∃(I1:Nat×Sl×Nat->Prop)(e:Nat×Sl×Nat->Nat),(∃(c:Nat×Sl×Nat),aA (I1 c) qC (aA bV (cM x c.1) (aA (bS y (pP c)) (aI s) (aA (bI s) (cM x c.1) (aA (bS y (pP c)) (cG y (pP c)) (aA (bB c.2.2) (cL v)
 (aA (m=m) (h=h) True)))))))/\∀(c:Nat×Sl×Nat),I1 c->aZ (↑c.2.2:Int) (aH (pP c)) (eK (pP c).a (↑c.2.2:Int) (pP c) (λY Z n=>aU m h Y (bK Z c.2.2 1) (bA n)/\xG (λD E=>∃(t:Int),rJ (λF r=>aA (cJ v::fX (↑c.1:Int)::iO n 3=cJ D::fX t::iO F 3) (gZ h E D) (cF h F r/\nK (!(aJZ E t r)) (K (fX 80) m h) (↑c.2.2:Int) 0 (eK (pP c).a (Kq c) (pP c) (λu z f=>aU m h u (fU z (Kq c) 1) (bA f)/\xG (λG H=>∃(J:Int),rJ (λL M=>aA (iN (cJ v) (↑c.1:Int) (fJ f)=iN (cJ G) J (fJ L)) (gZ h H G) (cF h L M/\∀(O:Sl),cF h O (VU H J M)->bL h u (fU z (Kq c) 1) (bA f)/\xG (λP Q=>∃(R:Int),rJ (λa S=>aA
 (iN (cJ v) (↑c.1:Int) (fJ n)=iN (cJ P) R (fJ a)) (gZ h Q P) (cF h a S/\∀(T:Sl),cF h T (VU Q R S)->bL h u (fU z (Kq c) 1) (bA f)/\∃(U:Sl),rJ (λV W=>∃(X:cj),aA (dT O T=dT U V) (cF h U W) (cF h V X/\gM (fQ W X) 0 (K (fX 80) m h) (∃(d:Nat×Sl×Nat),aA (I1 d) (e d<e c) (aA qC bV (aA (cM c.1 d.1) (bS (pP c) (pP d)) (aA (aI s) (bI s) (aA (cM c.1 d.1) (bS (pP c) (pP d)) (aA (cG (pP c) (pP d)) (bD (fZ (bE c.2.2 1)) d.2.2) (bP (cL v) (m=m) (h=h)))))))))))))))))) (∃(d:Nat×Sl×Nat),aA (I1 d) (e d<e c) (aA qC bV (aA (cM c.1 d.1) (bS (pP c) (pP d)) (aA (aI s) (bI s) (aA (cM c.1 d.1) (bS
 (pP c) (pP d)) (aA (cG (pP c) (pP d)) (bD (fZ (bE c.2.2 1)) d.2.2) (bP (cL v) (m=m) (h=h))))))))))))) (∃(d:Nat),aA (I d) (C d<C x) (aA qC bV (aA (aI s) (bI s) (aA (bD (fZ (bE c.1 1)) d) (cL v) (aA (m=m) (h=h) True))))))) (K (fX 0) m h)))))))
theorem cF.cut{a:Option Addr}{len c:Nat}{r:cj}(x:cF h ⟨a,len,c⟩ r){n:Nat}(f:n<=r.length):cF h ⟨a,n,c⟩ (r.take n):=by
 obtain⟨⟨d,e,g,j⟩,o⟩:=x;refine⟨⟨d.take n,by rw[map_take];exact cD.cut e n bk,bk,λi x u=>?_⟩,bk⟩
 grind
theorem crZ{v:cE}(d:gZ h s v)(c:K (cI (dK s)) m h):Wa v m h K:=
 ⟨v,s,rfl,d,aC (λ_=>c) (λe=>by rw[show dK s=0 by simpa using e]at c;exact c)⟩
theorem aKX:bu 99 cfJ:=by
 refine hU func99 ?_;rintro c m h K ⟨v,s,rfl,d,e⟩;refine⟨dA [(90,z6)] [] [] [] false,rfl,aE HK aG,Wa v m h K,bd,?_⟩;exact crZ d e
theorem Leaves.lens{s:Sl}{st:List cd}(c:Leaves h s st){l:cd}(d:l∈st):l.length<=502633886983:=by
 obtain⟨i,e,rfl⟩:=mem_iff_getElem.1 d;obtain⟨_,_,_,_,_,f⟩:=bY.at c (getElem?_eq_getElem e);exact f.len
theorem GD:∀{l:List cd},(∀x∈l,x.length<=502633886983)->0<=zE l/\zE l<=(l.length:Int)*502633886983
 |[],_=>by simp[zE]
 |a::l,h=>by
  have e:=h a (mem_cons_self ..);have c:=GD (l:=l) λx d=>h x (mem_cons_of_mem _ d);simp only[zE,map_cons,sum_cons,length_cons]at c⊢
  omega
theorem aaX{st:List cd}{l:cd}(h:st[i]? =some l):zE (st.take (i+1))=zE (st.take i)+(l.length:Int):=by
 rw[take_add_one,h];simp[zE]
theorem Z6:bu 100 azX:=by
 refine hU func100 ?_;rintro A m h K ⟨s,c,rfl,f,J,B⟩;refine⟨bwJ s m h,rfl,aG,Tk s m h K,bd,?_⟩;dsimp only[Tk,push_cast];have g:=bY.slen f;refine⟨λz=>z.1<=c.length/\z.2=zE (c.take z.1),λz=>c.length-z.1,⟨(0,0),⟨bf,by simp[zE]⟩,MT⟩,?_⟩;rintro⟨i,n⟩ ⟨C,e⟩;dsimp only at C e⊢
 subst e;refine aF (λj=>?_) (λD=>?_)
 .obtain⟨l,d⟩:=eT g j;obtain⟨b,o,u,E,rd,F⟩:=bY.at f d;have y:=bY.slen F;have G:=GD (l:=c.take (i+1)) λx d=>f.lens (mem_of_mem_take d);have H:=(GD (l:=c.take i) λx d=>f.lens (mem_of_mem_take d)).1;have I:=aaX d;rw[length_take]at G;refine⟨b,o,E,aD,aD,u,.imm rd,(i+1,zE (c.take (i+1))),⟨aD,rfl⟩,aD,?_⟩;rw[eH aD aD,y, <-I];exact MT
 .rw[take_of_length_le aD];exact B
theorem KN{t:Dr}{r:cj}:Gz t r=true↔r.length=t.columns.length/\∀i,i<r.length->IN t.key (t.columns.getD i ⟨⟨#[]⟩,0⟩).kind i (r.getD i zeroV)=true:=by
 simp only[Gz,Bool.and_eq_true,decide_eq_true_eq,all_eq_true,mem_range]
theorem V8{t:Int}{r:cj}{c:Dr}(d:s.tables[t.toNat]? =some c)(h:CB s t=true):aJZ s t r=Gz c r:=by
 simp only[aJZ,h,d,Bool.true_and]
theorem Z5:bu 101 chQ:=by
 refine hU func101 ?_;rintro a' m h K ⟨v,s,t,L,r,rfl,M,O,C⟩;refine⟨bwZ,rfl,aE P5 (aE P4 aG),Tj v t L m h K,bd,?_⟩;dsimp only[Tj,push_cast];have a0:=M.tables.slen;have a1:=bY.slen O;refine⟨v,s,t,rfl,M,aC (λe=>?_) (λe=>?_)⟩
 .have e:CB s t=false:=bt e
  simp only[aJZ,e,Bool.false_and]at C;exact C
 have e:CB s t=true:=bt e
 have Z:=e;simp only[CB,Bool.and_eq_true,decide_eq_true_eq]at Z;obtain⟨d,E⟩:∃d,s.tables[t.toNat]? =some d:=⟨_,getElem?_eq_getElem aD⟩
 obtain⟨b,o,y,ea,rd,P⟩:=bY.at M.tables E;rw[V8 E e]at C;have a2:=bY.slen P.columns;have hk:=P.key;refine⟨b,o,ea,Z.1,aD,y,.imm rd,aC (λH=>?_) (λH=>?_)⟩
 .have:Gz d r=false:=by
   cases f:Gz d r with
   |false=>rfl
   |true=>
    have:=(KN.1 f).1
    grind
  rw[this]at C;exact C
 have Q:r.length=d.columns.length:=bk
 have bad:∀i,i<r.length->IN d.key (d.columns.getD i ⟨⟨#[]⟩,0⟩).kind i (r.getD i zeroV)=false->K (cB false) m h:=λi R F=>by
  have:Gz d r=false:=by
   cases f:Gz d r with
   |false=>rfl
   |true=>rw[(KN.1 f).2 i R]at F;cases F
  grind
 refine⟨λz=>z.2.1=y/\z.2.2.1=L/\z.2.2.2.1=m/\z.2.2.2.2=h/\z.1<=r.length/\∀j,j<z.1->IN d.key (d.columns.getD j ⟨⟨#[]⟩,0⟩).kind j (r.getD j zeroV)=true,λz=>r.length-z.1,⟨(0,y,L,m,h),⟨rfl,rfl,rfl,rfl,bf,λj S=>by simp at S⟩,MT⟩,?_⟩;rintro⟨i,n,A,m',h'⟩ ⟨H,f,I,J,R,B⟩;dsimp only at H f I J R B⊢
 subst H f I J;refine aF (λa3=>?_) (λa4=>?_)
 .have T:i<r.length:=by omega
  have hx:r[i]? =some (r.getD i zeroV):=bk
  obtain⟨b2,o2,x,U,G,V⟩:=bY.at O hx;subst V;have hc:d.columns[i]? =some (d.columns.getD i ⟨⟨#[]⟩,0⟩):=bk
  obtain⟨b3,o3,c,W,X,Y⟩:=bY.at P.columns hc;have g:=bad i T
  have u:IN d.key (d.columns.getD i ⟨⟨#[]⟩,0⟩).kind i (r.getD i zeroV)=true->∀j,j<i+1->IN d.key (d.columns.getD j ⟨⟨#[]⟩,0⟩).kind j (r.getD j zeroV)=true:=λF j S=>by
   grind
  generalize r.getD i zeroV=x at g u G hx;rw[Y]at g u;have go:IN d.key c.kind i x=true->∃z:Nat×cK×Sl×MH×PH,(z.2.1=n/\z.2.2.1=A/\z.2.2.2.1=m'/\z.2.2.2.2=h'/\z.1<=r.length/\∀j,j<z.1->IN d.key (d.columns.getD j ⟨⟨#[]⟩,0⟩).kind j (r.getD j zeroV)=true)/\r.length-z.1<r.length-i/\z=(i+1,n,A,m',h'):=λF=>⟨_,⟨rfl,rfl,rfl,rfl,aD,u F⟩,aD,rfl⟩
  refine⟨b2,o2,U,aD,aD,x,.imm G,x,rfl,aC (λev=>g ?_) (λev=>?_)⟩
  .have ev:mK x=false:=bk
   simp[IN,ev]
  have ev:mK x=true:=bk
  refine⟨λz=>z=(i,n,x,A,(x.kind==2&&decide ((i:Int)>=n.key)),m',h'),aC (λf=>⟨_,rfl,by rw[f];exact MT⟩) (λf=>⟨_,rfl,by rw[f];exact MT⟩),?_⟩;rintro _ rfl;dsimp only;refine⟨λz=>z=(i,n,x,A,(x.kind==2&&decide ((i:Int)>=n.key)),(x.kind==1&&decide ((i:Int)>=n.key)),m',h'),aC (λf=>⟨_,rfl,by rw[f];exact MT⟩) (λf=>⟨_,rfl,by rw[f];exact MT⟩),?_⟩;rintro _ rfl;dsimp only
  have D:IN d.key c.kind i x=(x.kind==c.kind||((x.kind==2&&decide ((i:Int)>=n.key))||(x.kind==1&&decide ((i:Int)>=n.key)))):=by
   rw[hk];simp only[IN,ev,Bool.true_and,ge_iff_le,Bool.and_or_distrib_right]
  generalize a5:(x.kind==2&&decide ((i:Int)>=n.key))=B1 at D⊢
  generalize a6:(x.kind==1&&decide ((i:Int)>=n.key))=B2 at D⊢
  refine⟨b3,o3,W,aD,aD,c.kind,.imm (bL.part X 1 1),aC (λI=>aC (λJ=>aC (λe5=>g ?_) (λe5=>?_)) (λJ=>?_)) (λI=>?_)⟩
  .grind
  all_goals
   obtain⟨_,g1,g2,rfl⟩:=go (by rw[D];simp_all);refine⟨_,g1,g2,?_⟩;dsimp only;rw[jO (by have:=bY.len O;omega)];exact MT
 .have:Gz d r=true:=KN.2 ⟨Q,λj S=>B j aD⟩;rw[this]at C;exact C
theorem Z4:bu 103 awQ:=by
 refine hU func103 ?_;rintro C m h K ⟨v,s,t,x,r,rfl,z,n,A⟩;refine⟨dA [] [] [] [] false,rfl,aG,Ti v t x m h K,bd,?_⟩;dsimp only[Ti,push_cast];have D:=z.tables.slen;have d:=bY.slen n;have c:CB s t=false->K j8 m h:=λe=>A ⟨none,0,0⟩ (by simp only[VU,e];exact bY.nil _ _ _ _);refine aF (λE=>c (by simp[CB];omega)) (λE=>aF (λF=>c (by simp[CB];omega)) (λF=>?_));have e:CB s t=true:=by simp[CB];omega
 obtain⟨f,g⟩:∃f,s.tables[t.toNat]? =some f:=⟨_,getElem?_eq_getElem aD⟩
 obtain⟨b,o,y,G,rd,H⟩:=bY.at z.tables g;have L:=H.key;obtain⟨a,len,j⟩:=x;have B:len<=j:=by obtain⟨M,I,_⟩:=n.ex;exact I.cap
 have d:len=r.length:=d
 have u:(if(if(len:Int)<y.key then(len:Int)else y.key)>0 then(if(len:Int)<y.key then(len:Int)else y.key)else 0)=max 0 (min f.key r.length):=by
  omega
 refine⟨b,o,G,aD,aD,y.key,.imm (bL.part rd 2 1),?_⟩;dsimp only;rw[u];refine⟨aD,aD,A ⟨a,(max 0 (min f.key r.length)).toNat,j⟩ ?_⟩;have J:VU s t r=r.take (max 0 (min f.key r.length)).toNat:=by simp only[VU,e,if_true,g];rfl
 rw[J];exact n.cut aD
theorem On{t:Nat}{c:Dr}(h:s.tables[t]? =some c)(r:cj):VU s t r=Gr c r:=by
 have:t<s.tables.length:=(List.getElem?_eq_some_iff.1 h).1;have e:CB s (t:Int)=true:=by simp[CB];omega
 simp only[VU,e,if_true,Int.toNat_natCast,h]
theorem anZ{t:Nat}{c:Dr}(h:s.tables[t]? =some c)(r:cj):aJZ s t r=Gz c r:=by
 have:t<s.tables.length:=(List.getElem?_eq_some_iff.1 h).1;have e:CB s (t:Int)=true:=by simp[CB];omega
 exact V8 (bt h) e
theorem aw:bu 58 Nz:=by
 refine hU func58 ?_;rintro a9 m h K ⟨v,s,W,F,rfl,J,X,Y,d⟩;refine⟨f58_ctx v W m h,rfl,aE aKX (aE Z6 (aE Z5 (aE Z4 (aE Ct aG)))),ai v W m h K,bd,?_⟩;dsimp only[ai,push_cast];have b':=J.tables.slen;have Z:=bY.slen X;unfold mV at d;refine⟨v,s,rfl,J,aC (λe=>?_) (λe=>⟨W,F,rfl,X,Y,aF (λG=>?_) (λG=>aC (λe3=>?_) (λe3=>?_))⟩)⟩
 .rw[if_pos (bt e)]at d;exact d
 all_goals rw[if_neg (bt e)]at d
 .rw[if_pos (by unfold zE at G;omega)]at d;exact d
 all_goals rw[if_neg (by unfold zE at G;omega)]at d
 .rw[if_pos bk]at d;exact d
 have L:F.length=s.tables.length:=bk
 rw[if_neg (by simp[L])]at d;have bad:¬XI s F->K (cI 80) m h:=λhb=>bk
 refine⟨λi=>i<=F.length/\∀(j:Nat) t l,j<i->s.tables[j]? =some t->F[j]? =some l->aiQ t l,λi=>F.length-i,⟨0,⟨bf,λj t l hj=>by omega⟩,MT⟩,?_⟩;rintro i ⟨hi,M⟩;refine aF (λa'=>?_) (λb0=>?_)
 .obtain⟨l,hx⟩:=eT Z a';obtain⟨b,o,u,ea,rd,H⟩:=bY.at X hx;have a0:=bY.slen H;have b1:=bY.len H;obtain⟨x,c⟩:∃x,s.tables[i]? =some x:=⟨_,getElem?_eq_getElem aD⟩
  have y:¬aiQ x l->K (cI 80) m h:=λhb=>bad λf=>hb (f i x l c hx);refine⟨b,o,ea,aD,aD,u,.imm rd,λz=>z.1=i/\z.2.1=u/\z.2.2<=l.length/\(∀k r,k<z.2.2->l[k]? =some r->Gz x r=true)/\∀k r I,k+1<z.2.2->l[k]? =some r->l[k+1]? =some I->fQ (Gr x r) (Gr x I)<0,λz=>l.length-z.2.2,⟨(i,u,0),⟨rfl,rfl,bf,λk r C=>by simp at C,λk r I C=>by simp at C⟩,MT⟩,?_⟩;rintro⟨D,u',j⟩ ⟨e1,G,hj,A,B⟩;dsimp only at e1 G hj A B⊢
  subst e1 G;refine aF (λO=>?_) (λa8=>?_)
  .obtain⟨r,P⟩:=eT a0 O;obtain⟨b2,o2,w,a1,a2,hv⟩:=bY.at H P;refine⟨b2,o2,a1,aD,aD,w,.imm a2,v,s,D,w,r,rfl,J,hv,aC (λU=>y λf=>?_) (λU=>?_)⟩
   .rw[anZ c,f.1 r (mem_of_getElem? P)]at U;cases U
   have hf:Gz x r=true:=by rw[anZ c]at U;grind
   have g:∀k r,k<j+1->l[k]? =some r->Gz x r=true:=λk I C b4=>by
    grind
   refine aF (λa3=>?_) (λa3=>?_)
   .have hw:IntKind.i64.wrap ((j:Int)-1)=((j-1:Nat):Int):=by rw[eH aD aD];omega
    obtain⟨V,Q⟩:∃V,l[j-1]? =some V:=⟨_,getElem?_eq_getElem aD⟩
    obtain⟨b3,o3,w3,a4,E,a5⟩:=bY.at H Q;rw[hw];refine⟨b3,o3,a4,aD,aD,w3,.imm E,v,s,D,w3,V,rfl,J,a5,λs1 a6=>⟨E,v,s,D,w,r,rfl,J,hv,λs2 a7=>⟨E,s1,s2,_,_,rfl,a6,a7,aF (λhc=>y λf=>?_) (λhc=>?_)⟩⟩⟩
    .rw[On c,On c]at hc;have:=f.2 (j-1) V r Q bk;omega
    .rw[On c,On c]at hc;refine⟨(D,u',j+1),⟨rfl,rfl,bk,g,λk r1 r2 C R S=>?_⟩,bk,?_⟩
     .grind
     .dsimp only;rw[jO aD];exact MT
   .refine⟨(D,u',j+1),⟨rfl,rfl,bk,g,λk r1 r2 C R S=>bk⟩,bk,?_⟩;dsimp only;rw[jO aD];exact MT
  .refine⟨D+1,⟨aD,λk t l' C ht T=>?_⟩,aD,?_⟩
   .by_cases e5:k=D
    .subst e5;rw[c]at ht;cases ht;rw[hx]at T;cases T;refine⟨λr H=>?_,λk r I R S=>B k r I ?_ R S⟩
     .obtain⟨n,Y,rfl⟩:=mem_iff_getElem.1 H;exact A n _ aD (getElem?_eq_getElem Y)
     grind
    grind
   .rw[jO aD];exact MT
 .rw[if_pos]at d
  .exact d
  .exactλj t l R S=>M j t l bk R S
structure Qw(h:PH)(sl:Sl)(st:List cd):Prop where
 lea:Leaves h sl st
 len:st.length<=1000
 val:StV st
theorem Qw.mono{sl:Sl}{st:List cd}(x:Qw h sl st)(le:PH.le h h'):Qw h' sl st:=⟨bY.mono x.lea le λl s c=>bY.mono c le λr t d=>cF.mono d le,x.len,x.val⟩
noncomputable def nD(st:List cd)(ts:cq):List cd:=(List.range ts.length).map λi=>vO st (aR ts i)
structure H9(s:jE)(st:List cd)(ts:cq):Prop where
 ar:∀(i:Nat) t,ts[i]? =some t->0<=arity t.op
 fit:∀(i:Nat) t,ts[i]? =some t->oT i t
 kinds:∀i,i<ts.length->(aJ s [] (aR ts i)).2=0
 bnd:∃c,1<=c/\(∀l∈st,l.length<=c)/\∀i,i<ts.length->fS c (aR ts i)<=8000000
def cEQ:Vc.Spec:=λd m h K=>∃sc e p r s c ts rs,d=[aS sc,aSt e,aPl p r]/\gZ h s sc/\Qw h e c/\qJ h p r ts rs/\gJ m/\(iC s ts rs=0->mV s c=0->H9 s c ts)/\
 (iC s ts rs≠0->K (.tup [j8,cI (iC s ts rs)]) m h)/\(iC s ts rs=0->mV s c≠0->K (.tup [j8,cI (mV s c)]) m h)/\(iC s ts rs=0->mV s c=0->∀f h',PH.le h h'->Leaves h' f (nD c ts)->K (.tup [cS f,cI 0]) m h')
noncomputable def b2Q(sl p:Sl):Ctx:=dA [(38,QF),(58,Nz),(68,Xu),(69,TE)] [(9,{A:=Nat×ck×MH×PH,st:=λ⟨i,c,m,h⟩=>bQ 85 88 [(4,.at (.ptr 4 0)),(11,.at (.lst 34)),(36,sv p),(37,iv p.len),(38,iv i)] [(4,.cells 25 [.val (.slice sl.a sl.len sl.cap)]),(34,.lst 53 1 (c.map eS))] m h}),
 (16,{A:=Nat×Nat×ck×MH×PH,st:=λ⟨i,n,c,m,h⟩=>bQ 85 88 [(11,.at (.lst 34)),(71,.at (.lst 34)),(72,iv n),(73,iv i)] [(34,.lst 53 1 (c.map eS))] m h})] [] [] false
noncomputable abbrev mP(a:Nat×ck×MH×PH):List bx:=nN a.2.1
noncomputable abbrev oZ(a:Nat×ck×MH×PH):Nat->Nat->Option Value:=a.2.2.2
attribute [push_cast] mP oZ
def PZ(sc:cE)(sl p r:Sl)(m:MH)(h:PH)(K:bz):Prop:=
  ∃(s:cE),pW (λH J=>∃(D:jE)(t:cq)(E:ca),aA (cV (cJ sc) (lS (jK (fK p) (fK r)))=cV (cJ s) (lS (jK (fK H) (fK J)))) (gZ h D s) (qJ h H J t E/\∀(_:Sl),eC (iC D t E) 0 (K (CV.tup (aW j8 (iC D t E))) m h) (xG (λv F=>∃(L:Sl)(A:List cd),aA (iN (cJ sc) 3 (lS (bA sl))=iN (cJ v) 3 (lS (bA L))) (gZ h F v) (aA (Leaves h L A) (mG A.length) (eC (mV F A) 0 (K (CV.tup (aW j8 (mV F A))) m h) (aA (bZ (aH p)) (Az p) (aA (vA p 24) (vW (aH p)) (∃(I:Nat×ck×MH×PH->Prop)(B:Nat×ck×MH×PH->Nat),(∃(x:Nat×ck×MH×PH),aA (I x) i6 (aA (eL 34) (aI p) (aA (bI p) (bB x.1) (aA (eQ (oQ 25 (oD (vK sl)))) (C6 53 p iS
 (mP x)) (aA (bH m x.2.2) (h=oZ x) True)))))/\∀(x:Nat×ck×MH×PH),I x->aZ (↑x.1:Int) (aH p) (bJ (λb o=>aA (bM p.a b o) (0<=(↑x.1:Int)) ((↑x.1:Int)<aH p/\∃(y:vY),aU x.2.2.1 (oZ x) b (bK o x.1 22) y.enc/\eO y.op 1 (eK sl.a y.table sl (λS T n=>E9 (aU x.2.2.1 (oZ x) S (fU T y.table 1) (bA n)) 0 (↑x.1:Int) (mP x) (λe=>aA (mQ (mP x) (↑x.1:Int) e) (0<e.length) (∃(c:Nat×ck×MH×PH),aA (I c) (B c<B x) (aA i6 (eL 34) (aA (aI p) (bI p) (aA (bD (fZ (bE x.1 1)) c.1) (eQ (oQ 25 (oD (vK sl)))) (bP (Option.some (Own.lst 53 1 (List.set (mP x) (yW x.1) (uK (fK n) 1 e)))=Option.some (Own.lst 53 1 (mP c))) (bH x.2.2.1 c.2.2) (oZ x=oZ c))))))))) (nZ y.left (y.left<
 jH (mP x)) (λe=>mQ (mP x) y.left e/\∃(n:Sl),E9 (qB 1 e (bA n)) 0 y.right (mP x) (λj=>mQ (mP x) y.right j/\∃(M:Sl),qB 1 j (bA M)/\Ph (λO d=>Pd (λu z l C=>aA (oH y::fF n (fJ M)=oH O::fF u (fJ z)) (uB (oZ x) d O) (aA (Rows (oZ x) u l) (Rows (oZ x) z C) (aA (gJ x.2.2.1) (2<=d.op) (aA (d.op<=10) (Q5 d.op (Query.mk d.op d.table d.wher d.columns d.on d.group d.order d.limit []) [l,C]) (aA (IG l) (IG C) (iR (λP f=>cC (oZ x) f (Rows f P (opF d.op (Query.mk d.op d.table d.wher d.columns d.on d.group d.order d.limit []) [l,C])) (nZ (↑x.1:Int) ((↑x.1:Int)<jH (mP x)) (λG=>aA (mQ (mP x) (↑x.1:Int) G) (0<G.length) (∃(c:Nat×ck×MH
 ×PH),aA (I c) (B c<B x) (aA i6 (eL 34) (aA (aI p) (bI p) (aA (bD (fZ (bE x.1 1)) c.1) (eQ (oQ 25 (oD (vK sl)))) (bP (Option.some (Own.lst 53 1 (List.set (mP x) (yW x.1) (uK (fK P) 1 G)))=Option.some (Own.lst 53 1 (mP c))) (bH x.2.2.1 c.2.2) (f=oZ c)))))))))))))))))))))) (∃(I1:Nat×Nat×ck×MH×PH->Prop)(Q:Nat×Nat×ck×MH×PH->Nat),(∃(c:Nat×Nat×ck×MH×PH),aA (I1 c) (eL 34) (aA (eL 34) (cM (mP x).length c.2.1) (aA (bB c.1) (Option.some (Own.lst 53 1 (mP x))=Option.some (Own.lst 53 1 (mP c.2))) (aA (bH x.2.2.1 c.2.2.2) (oZ x=oZ c.2) True))))/\∀(c:Nat×Nat×ck×MH×PH),I1 c->aZ (↑c.1:Int) (↑c.2.1:Int) (nZ (↑c.1:Int) ((↑c.1:Int)<jH (mP c.2)) (λe=>mQ (mP
 c.2) (↑c.1:Int) e/\∃(y:Sl),qB 1 e (bA y)/\∃(u:Sl)(l:cd),aA (iT y=iT u) (Rows (oZ c.2) u l) (aA (IG l) (∀(R:cj),List.Mem R l->mG R.length) (iR (λz f=>cC (oZ c.2) f (Rows f z l) (nZ (↑c.1:Int) ((↑c.1:Int)<jH (mP c.2)) (λj=>aA (mQ (mP c.2) (↑c.1:Int) j) (0<j.length) (∃(g:Nat×Nat×ck×MH×PH),aA (I1 g) (Q g<Q c) (aA (eL 34) (eL 34) (aA (cM c.2.1 g.2.1) (bD (fZ (bE c.1 1)) g.1) (aA (Option.some (Own.lst 53 1 (List.set (mP c.2) (yW c.1) (uK (fK z) 1 j)))=Option.some (Own.lst 53 1 (mP g.2))) (bH c.2.2.2.1 g.2.2.2) (bN f (oZ g.2))))))))))))) (yN (oZ c.2) (mP c.2) K c.2.2.2.1)))))))))))
theorem Lu(st:List cd):∀l,Js st l=l.map (vO st)
 |[]=>by simp[Js]
 |q::l=>by rw[Js,Lu st l];rfl
theorem a6Z{op o:Int}{w:Pred}{on:ce}{args:ci}{ls:List cd}:opF op (.mk o ta w co on gr od li args) ls=opF op (.mk o ta w co on gr od li []) ls:=rfl
theorem Rz{op o:Int}{w:Pred}{on:ce}{args:ci}{ls:List cd}:Q5 op (.mk o ta w co on gr od li args) ls=Q5 op (.mk o ta w co on gr od li []) ls:=rfl
theorem a2X{st:List cd}{ts:cq}(ok:B7 ts){i:Nat}{t:Step}(c:ts[i]? =some t)(d:t.op≠1):vO st (aR ts i)=opF t.op t.query ((A7 t).map λa=>vO st (aR ts a.toNat)):=by
 rw[pY ok c,vO,if_neg d,Lu,Cw,map_map];exact a6Z
theorem a8Q{st:List cd}{op:Int}{w:Pred}{on:ce}{args:ci}{ks:ca}{c:Nat}(e:mV s st=0)(g:StV st)(n:∀l∈st,l.length<=c)(o:1<=c)(f:aJ s ps (.mk op ta w co on gr od li args)=(ks,0))(u:fS c (.mk op ta w co on gr od li args)<=8000000)(d:op≠1):
 Q5 op (.mk op ta w co on gr od li args) (Js st args):=by
 have x:=(XJ e g n o f u).1;rw[okQ,if_neg d]at x;obtain⟨z,A,_,_⟩:=xJ f;have B:qM (.mk op ta w co on gr od li args)=lT args:=by simp[qM,d]
 have y:=IX (st:=st) (ls:=B3 st (.mk op ta w co on gr od li args)) (k:=0) A ⟨λj t h=>by
  rw[getD_eq_getElem?_getD,Nat.zero_add,B3,B,getElem?_map,h];rfl⟩
 grind
theorem bOZ{c d:cd}(h:arity t.op=1):opF t.op t.query [c,d]=opF t.op t.query [c]:=by
 obtain⟨op,ta,w,co,on,gr,od,li,a,b⟩:=t;have h:arity op=1:=h
 have:op=2\/op=3\/op=9:=by
  unfold arity at h
  grind
 rcases this with rfl|rfl|rfl<;>rfl
theorem a7J{d e:cd}(h:arity t.op=1)(x:Q5 t.op t.query [d])(f:∃w,iK w e):Q5 t.op t.query [d,e]:=by
 obtain⟨op,ta,w,co,on,gr,od,li,a,b⟩:=t;have h:arity op=1:=h
 have:op=2\/op=3\/op=9:=by
  unfold arity at h
  grind
 rcases this with rfl|rfl|rfl
 .obtain⟨_,c⟩:=x;refine⟨bf,λl g=>?_⟩
  grind
 .obtain⟨_,c⟩:=x;exact⟨bf,c⟩
 .obtain⟨_,c⟩:=x;exact⟨bf,c⟩
theorem a6X{op:Int}(h:0<arity op):2<=op/\op<=10:=by
 unfold arity at h
 grind
theorem cuQ{sl p:Sl}{st:List cd}(hs:gZ h s sc)(C:Qw h sl st)(x:qJ h p r ts rs)(hT:gJ m)(hb:iC s ts rs=0->mV s st=0->H9 s st ts)
 (k1:iC s ts rs≠0->K (.tup [j8,cI (iC s ts rs)]) m h)(k2:iC s ts rs=0->mV s st≠0->K (.tup [j8,cI (mV s st)]) m h)(k3:iC s ts rs=0->mV s st=0->∀A h',PH.le h h'->Leaves h' A (nD st ts)->K (.tup [cS A,cI 0]) m h'):PZ sc sl p r m h K:=by
 dsimp only[PZ,push_cast];obtain⟨a7,_⟩:=x.slen;have b8:=x.len;refine⟨sc,p,r,s,ts,rs,rfl,hs,x,λkk=>aC (λe=>k1 (bt e)) (λe=>?_)⟩;have e1:iC s ts rs=0:=bt e
 refine⟨sc,s,sl,st,rfl,hs,C.lea,C.len,aC (λe=>k2 e1 (bt e)) (λe=>?_)⟩;have V:mV s st=0:=bt e
 have B:=hb e1 V;obtain⟨c,W,X,Y⟩:=B.bnd;have ok:B7 ts:=λi t e=>⟨B.ar i t e,KM (B.ar i t e) (B.fit i t e)⟩
 have kq:∀j,j<ts.length->aJ s [] (aR ts j)=((aJ s [] (aR ts j)).1,0):=λj D=>Prod.ext rfl (B.kinds j D);have R:∀j,j<ts.length->∃w,iK w (vO st (aR ts j)):=λj D=>⟨_,(XJ V C.val X W (kq j D) (Y j D)).2.2.1⟩
 refine⟨aD,aD,aD,aD,λx=>x.1<=ts.length/\x.2.2.1=m/\PH.le h x.2.2.2/\∃G:ck,G.length=x.1/\x.2.1=G++replicate (ts.length-x.1) ⟨none,0,0⟩/\∀j,j<x.1->∃u,G[j]? =some u/\Rows x.2.2.2 u (vO st (aR ts j)),λx=>ts.length-x.1,⟨(0,replicate ts.length ⟨none,0,0⟩,m,h),⟨Nat.zero_le _,rfl,.refl _,[],rfl,bf,λj D=>by omega⟩,?_⟩,?_⟩
 .dsimp only;rw[map_replicate,show((p.len:Int)).toNat=ts.length by omega];exact MT
 rintro⟨i,vs,mx,hx⟩ ⟨hi,Z,le,G,H,hv,g⟩;dsimp only at hi Z le H hv g⊢
 subst Z hv;refine aF (λa'=>?_) (λa8=>?_)
 .obtain⟨t,f⟩:=eT a7 a';obtain⟨b,o,y,ea,rd,U⟩:=x.at f;have P:i<ts.length:=by omega
  have nx:∀(A:Sl)(h':PH),PH.le hx h'->Rows h' A (vO st (aR ts i))->∃e,((G++replicate (ts.length-i) (⟨none,0,0⟩:Sl)).map eS)[((i:Nat):Int).toNat]? =some e/\0<e.length/\∃E:ck,(((G++replicate (ts.length-i) (⟨none,0,0⟩:Sl)).map eS).set ((i:Nat):Int).toNat (fK A::List.drop 1 e))=List.map eS E/\∃Q:ck,Q.length=i+1/\E=Q++replicate (ts.length-(i+1)) ⟨none,0,0⟩/\∀j,j<i+1->∃u,Q[j]? =some u/\Rows h' u (vO st (aR ts j)):=λA h' d L=>by
   refine⟨[lF],?_,bf,(G++[A])++replicate (ts.length-(i+1)) ⟨none,0,0⟩,?_,G++[A],by simp[H],rfl,λj D=>?_⟩
   .rw[getElem?_map,Int.toNat_natCast,getElem?_append_right aD,getElem?_replicate,if_pos aD];rfl
   .rw[Int.toNat_natCast,show ts.length-i=(ts.length-(i+1))+1 by omega,replicate_succ,map_append,set_append,if_neg (by simp[H]),map_append,map_append,append_assoc];simp[H,eS]
   .by_cases a0:j<i
    .obtain⟨u,S,J⟩:=g j a0;exact⟨u,bk,bY.mono J d (λ_ _ h=>cF.mono h d)⟩
    grind
  have a1:((List.map eS (G++replicate (ts.length-i) (⟨none,0,0⟩:Sl))).length:Int)=ts.length:=bk
  rw[a1,jO aD];refine⟨b,o,ea,aD,aD,y,.imm (rd.mono le),aC (λe=>?_) (λe=>?_)⟩
  .have F:t.op=1:=by rw[<-U.op_];grind
   have hq:=kq i P;rw[pY ok f]at hq;have a9:=OQ hq t.table (by rw[qM,if_pos F];simp);have b9:=bY.slen C.lea;have b7:=(Vg V).2.1;have a2:st[t.table.toNat]? =some (st.getD t.table.toNat []):=bk
   obtain⟨b2,o2,u,b',b0,hu⟩:=bY.at C.lea a2;have hF:vO st (aR ts i)=st.getD t.table.toNat []:=by rw[pY ok f,vO,if_pos F]
   obtain⟨e,S,J,E,h3,h4⟩:=nx u hx (.refl _) (by rw[hF];exact bY.mono hu le (λ_ _ h=>cF.mono h le));rw[U.table_];exact⟨b2,o2,b',a9.1,aD,u,.imm (b0.mono le),aD,aD,e,S,J,(i+1,E,mx,hx),⟨aD,rfl,le,h4⟩,aD,bk⟩
  .have F:t.op≠1:=by rw[<-U.op_];grind
   have h0:=B.ar i t f;have J:=D5 t.op;have c':arity t.op≠0:=λe=>F (Qp e);have M:=a6X (op:=t.op) aD;have a3:=(ok i t f).2;have hA:arity t.op=1\/arity t.op=2:=by omega
   have hL:0<=t.left/\t.left<i:=a3 _ (by rcases hA with e|e<;>simp[A7,e])
   have hR:0<=t.right/\t.right<i:=by
    rcases hA with e|e
    .have:=(bdX (B.fit i t f)).2 aD;omega
    .exact a3 _ (by simp[A7,e])
   obtain⟨u1,b1,b3⟩:=g t.left.toNat aD;obtain⟨u2,b4,b5⟩:=g t.right.toNat aD
   have I:∀{j:Nat}{u:Sl},G[j]? =some u->((G++replicate (ts.length-i) (⟨none,0,0⟩:Sl)).map eS)[j]? =some (eS u):=fun{j u} h=>by
    grind
   have len:∀{j},j<ts.length->(vO st (aR ts j)).length<=8000000:=fun{j} D=>(R j D).elim λ_ h=>h.len;have hq:=kq i P;have a4:=Y i P;rw[pY ok f]at hq a4;have x1:=a8Q V C.val X W hq a4 F;rw[Lu,Cw,map_map]at x1;have x2:=a2X (st:=st) ok f F
   have x3:Q5 t.op t.query [vO st (aR ts t.left.toNat),vO st (aR ts t.right.toNat)]/\vO st (aR ts i)=opF t.op t.query [vO st (aR ts t.left.toNat),vO st (aR ts t.right.toNat)]:=by
    rcases hA with e|e
    .rw[show A7 t=[t.left]by simp[A7,e]]at x1 x2;exact⟨a7J e (Rz▸x1) (R _ aD),by rw[x2,bOZ e];rfl⟩
    .rw[show A7 t=[t.left,t.right]by simp[A7,e]]at x1 x2;exact⟨Rz▸x1,x2⟩
   rw[U.left_,U.right_];refine⟨hL.1,aD,eS u1,I b1,u1,rfl,hR.1,aD,eS u2,I b4,u2,rfl,y,t,u1,u2,_,_,rfl,U.mono le,b3,b5,hT,M.1,M.2,x3.1,len aD,len aD,λA h' d L=>?_⟩;obtain⟨e,S,J,E,h3,h4⟩:=nx A h' d (by rw[x3.2];exact L);exact⟨aD,aD,e,S,J,(i+1,E,mx,h'),⟨aD,rfl,le.trans d,h4⟩,aD,bk⟩
 .have:i=ts.length:=by omega
  subst this;rw[Nat.sub_self,replicate_zero,append_nil];refine⟨λx=>x.1<=ts.length/\x.2.1=ts.length/\x.2.2.2.1=mx/\PH.le h x.2.2.2.2/\x.2.2.1.length=ts.length/\∀j,j<ts.length->∃u,x.2.2.1[j]? =some u/\Rows x.2.2.2.2 u (vO st (aR ts j)),λx=>ts.length-x.1,⟨(0,ts.length,G,mx,hx),⟨Nat.zero_le _,rfl,rfl,le,H,g⟩,bk⟩,?_⟩;rintro⟨i,n,vs,my,hy⟩ ⟨hi,Z,e4,le,T,L⟩;dsimp only at hi Z e4 le T L⊢
  subst Z e4;refine aF (λa'=>?_) (λa8=>?_)
  .obtain⟨u,hu,g⟩:=L i aD;obtain⟨w,O⟩:=R i aD;have I:(vs.map eS)[((i:Nat):Int).toNat]? =some (eS u):=bk
   rw[length_map,T,jO aD];refine⟨aD,aD,eS u,I,u,rfl,u,_,rfl,g,O.len,λr L=>by have:=(O.row r L).len;omega,λA h' d c0=>⟨aD,aD,eS u,I,by simp[eS],(i+1,ts.length,vs.set i A,my,h'),⟨aD,rfl,rfl,le.trans d,bk,λj D=>?_⟩,aD,?_⟩⟩
   .dsimp only;rw[getElem?_set];by_cases a0:i=j
    .grind
    .obtain⟨u',S,J⟩:=L j D;exact⟨u',bk,bY.mono J d (λ_ _ h=>cF.mono h d)⟩
   .dsimp only;rw[map_set,Int.toNat_natCast];exact MT
  .refineλA h' d b6=>k3 e1 V A h' (le.trans d) ⟨⟨vs,b6,by simp[nD,T],λj z hz=>?_⟩,by simp[nD];omega⟩
   unfold nD at hz;rw[getElem?_map]at hz;cases D:(List.range ts.length)[j]? with
   |none=>grind
   |some k=>
    rw[D]at hz;obtain⟨a5,a6⟩:=List.getElem?_eq_some_iff.1 D;rw[length_range]at a5;rw[getElem_range]at a6;subst a6;have hz:vO st (aR ts j)=z:=bk
    subst hz;obtain⟨u,S,J⟩:=L j a5;exact⟨u,S,bY.mono J d (λ_ _ h=>cF.mono h d)⟩
theorem aQZ:bu 25 cEQ:=by
 refine hU func25 ?_;rintro e m h K ⟨sc,d,p,r,s,y,ts,rs,rfl,f,c,g,j,n,o,u,x⟩;refine⟨b2Q d p,rfl,aE aOJ (aE aw (aE aNX (aE aNQ aG))),PZ sc d p r m h K,bd,?_⟩;exact cuQ f c g j n o u x
noncomputable def LB(st:List cd)(p:cq×ca):List cd:=p.2.map λr=>(nD st p.1).getD r.toNat []
noncomputable def Bf(s:jE)(ts:cq)(rs:ca)(st:List cd):Int:=if iC s ts rs≠0 then iC s ts rs else mV s st
def UR(s:jE)(q:Query):Prop:=(dZ s [] q).2=0->z8 q/\Ia (eY s q []).1/\j9 (eY s q []).1<=100/\sG q<=100
theorem Lr{P:Program}{f:FuncId}{S S':Vc.Spec}(x:Sound P f S)(d:∀c m h K,S' c m h K->S c m h K):Sound P f S':=⟨x.1,λc e m h w K g=>x.2 c e m h w K (d _ _ _ _ g)⟩
def TB:Vc.Spec:=λc m h K=>∃sc v s q,c=[aS sc,aQ v]/\gZ h s sc/\bU h q v/\nC q=true/\gJ m/\UR s q/\∀p r h',PH.le h h'->((dZ s [] q).2=0->qJ h' p r (kO s q).1 (kO s q).2)->K (.tup [aPl p r,cI (dZ s [] q).2]) m h'
theorem Ym:bu 36 TB:=Lr aPQ λ_ m h K⟨sc,v,s,q,e,f,g,c,j,n,o⟩=>⟨sc,v,s,q,e,f,g,c,j,n,λd=>o _ _ h (.refl _) (λe=>(d e).elim),λd p r h' le u=>bk⟩
def ceZ:Vc.Spec:=λd m h K=>∃sc e p r s c ts rs,d=[aS sc,aSt e,aPl p r]/\gZ h s sc/\Qw h e c/\qJ h p r ts rs/\gJ m/\(iC s ts rs=0->mV s c=0->H9 s c ts)/\
 ∀f h',PH.le h h'->(Bf s ts rs c=0->Leaves h' f (nD c ts))->K (.tup [cS f,cI (Bf s ts rs c)]) m h'
theorem YA:bu 25 ceZ:=Lr aQZ λ_ m h K⟨sc,j,p,r,s,n,ts,rs,e,o,d,u,x,y,f⟩=>⟨sc,j,p,r,s,n,ts,rs,e,o,d,u,x,y,
 λc=>by have:=f bR h (.refl _) (λe=>by unfold Bf at e;omega);unfold Bf at this;rw[if_pos c]at this;exact this,
 λc g=>by have:=f bR h (.refl _) (λe=>by unfold Bf at e;omega);unfold Bf at this;rw[if_neg (by simp[c])]at this;exact this,
 λc g z h' le A=>by have:=f z h' le (λ_=>A);unfold Bf at this;grind⟩
def aZZ:Vc.Spec:=λd m h K=>∃sc e v s c q,d=[aS sc,aSt e,aQ v]/\gZ h s sc/\Qw h e c/\bU h q v/\nC q=true/\gJ m/\UR s q/\
 ((dZ s [] q).2=0->iC s (kO s q).1 (kO s q).2=0/\(mV s c=0->H9 s c (kO s q).1/\∀l∈nD c (kO s q).1,l.length<=8000000/\∀r∈l,r.length<=1000))/\
 ((dZ s [] q).2≠0->∀h',PH.le h h'->K (.tup [j8,cI (dZ s [] q).2]) m h')/\((dZ s [] q).2=0->mV s c≠0->∀h',PH.le h h'->K (.tup [j8,cI (mV s c)]) m h')/\
 ((dZ s [] q).2=0->mV s c=0->∀f h',PH.le h h'->Leaves h' f (LB c (kO s q))->K (.tup [cS f,cI 0]) m h')
noncomputable def bZJ:Ctx:=sN [(36,TB),(25,ceZ),(78,UT)] [(9,{A:=Nat×Sl×Sl×ck×MH×PH,st:=λ⟨i,rs,c,d,m,h⟩=>bQ 77 80 [(10,sv rs),(11,.at (.lst 38)),(40,sv c),(41,iv c.len),(42,iv i)] [(38,.lst 53 1 (d.map eS))] m h}),
 (13,{A:=Nat×Nat×Sl×Sl×Sl×ck×MH×PH,st:=λ⟨j,i,rs,c,t,d,m,h⟩=>bQ 77 80 [(10,sv rs),(11,.at (.lst 38)),(12,iv i),(40,sv c),(41,iv c.len),(42,iv i),(59,sv t),(60,iv t.len),(61,iv j)] [(38,.lst 53 1 (d.map eS))] m h})] [] [] [2053] [] false
abbrev Ko(a:cE->QV->jE->Query->Prop):Prop:=∃(x:cE)(c:QV)(d:jE)(e:Query),a x c d e
noncomputable abbrev Dx(a:jE)(b:Query):Int:=yJ a [] b
noncomputable abbrev AB(a:Nat×Sl×Sl×ck×MH×PH):Sl:=a.2.2.1
noncomputable abbrev Fa(a:Nat×Sl×Sl×ck×MH×PH):List bx:=nN a.2.2.2.1
noncomputable abbrev BW(a:Nat×Sl×Sl×ck×MH×PH):Nat->Nat->Option Value:=(iI a.2).2
noncomputable abbrev nJ(a:Nat×Nat×Sl×Sl×Sl×ck×MH×PH):Sl×Sl×ck×MH×PH:=a.2.2.2
noncomputable abbrev AA(a:Nat×Nat×Sl×Sl×Sl×ck×MH×PH):Sl:=(nJ a).2.1
noncomputable abbrev C7(a:Nat×Nat×Sl×Sl×Sl×ck×MH×PH):List bx:=nN (nJ a).2.2.1
attribute [push_cast] Ko Dx AB Fa BW nJ AA C7
def PR(sc:cE)(sl:Sl)(v:QV)(m:MH)(h:PH)(K:bz):Prop:=
  Ko (λs M g q=>aA (cV (cJ sc) (cN v)=cV (cJ s) (cN M)) (gZ h g s) (aA (bU h q M) (fV (nC q)) (aA (gJ m) (UR g q) (∀(p:Sl),iR (λr j=>cC h j (Dx g q=0->qJ j p r (kO g q).1 (kO g q).2) (eC (Dx g q) 0 (K (CV.tup (cV j8 (CV.val (eF (Dx g q))))) m j) (∃(O:cE),pW (λP Q=>∃(R:Sl)(n:jE)(u:List cd)(t:cq)(A:ca),aA (cJ sc::cV (lS (bA sl)) (lS (jK (fK p) (fK r)))=cJ O::cV (lS (bA P)) (lS (jK (fK Q) (fK R)))) (gZ j n O) (aA (Qw j P u) (qJ j Q R t A) (aA (gJ m) (iC n t A=0->mV n u=0->H9 n u t) (iR (λS B=>cC j B (Bf n t A u=0->Leaves B S (nD u t)) (eC (Bf n t A u) 0 (K (CV.tup (aW
 j8 (Bf n t A u))) m B) (aA (bZ (aH r)) (Az r) (aA (vA r 24) (vW (aH r)) (∃(I:Nat×Sl×Sl×ck×MH×PH->Prop)(T:Nat×Sl×Sl×ck×MH×PH->Nat),(∃(x:Nat×Sl×Sl×ck×MH×PH),aA (I x) (bS S x.2.1) (aA (eL 38) (bS r (AB x)) (aA (cG r (AB x)) (bB x.1) (aA (C6 53 r iS (Fa x)) (bH m (iI x.2)) (bN B (BW x))))))/\∀(x:Nat×Sl×Sl×ck×MH×PH),I x->aZ (↑x.1:Int) (aH (AB x)) (bJ (λb o=>aA (bM (AB x).a b o) (0<=(↑x.1:Int)) ((↑x.1:Int)<aH (AB x)/\∃(y:Int),aU (iI x.2).1 (BW x) b (bK o x.1 1) (bG y)/\eK x.2.1.a y x.2.1 (λb1 o1 z=>aA (aU (iI x.2).1 (BW x) b1 (fU o1 y 1) (bA z)) (bZ (aH z)) (aA (Az z) (vA z 24) (vW
 (aH z)/\lD (λU D=>rE (iI x.2).1 D (BW x) U 94 1 (replicate (aH z).toNat iS)->nZ (↑x.1:Int) ((↑x.1:Int)<jH (Fa x)) (λe=>aA (mQ (Fa x) (↑x.1:Int) e) (0<e.length) (eK x.2.1.a y x.2.1 (λb2 o2 F=>aU D (BW x) b2 (fU o2 y 1) (bA F)/\∃(I1:Nat×Nat×Sl×Sl×Sl×ck×MH×PH->Prop)(V:Nat×Nat×Sl×Sl×Sl×ck×MH×PH->Nat),(∃(d:Nat×Nat×Sl×Sl×Sl×ck×MH×PH),aA (I1 d) (bS x.2.1 d.2.2.1) (aA (eL 38) (cM x.1 d.2.1) (aA (bS (AB x) (nJ d).1) (cG (AB x) (nJ d).1) (aA (cM x.1 d.2.1) (bS F (AA d)) (aA (cG F (AA d)) (bB d.1) (aA (Option.some (Own.lst 53 1 (List.set (Fa x) (yW x.1) (uK (fK U) 1 e)))=Option.some (Own.lst 53 1 (C7 d))) (bH D
 (iI (nJ d))) (bN (BW x) (iI (nJ d)).2)))))))/\∀(d:Nat×Nat×Sl×Sl×Sl×ck×MH×PH),I1 d->aZ (↑d.1:Int) (aH (AA d)) (eK (AA d).a (↑d.1:Int) (AA d) (λb3 o3 W=>E9 (aU (iI (nJ d)).1 (iI (nJ d)).2 b3 (bK o3 d.1 1) (bA W)) 0 (↑d.2.1:Int) (C7 d) (λX=>mQ (C7 d) (↑d.2.1:Int) X/\∃(C:Sl),aA (qB 1 X (bA C)) (∃(Y:bx),mQ (C7 d) (↑d.2.1:Int) Y/\qB 1 Y (bA C)) (rJ (λZ G=>aA (iT W=iT Z) (cF (iI (nJ d)).2 Z G) (mG G.length/\iR (λs9 H=>cC (iI (nJ d)).2 H (cF H s9 G) (bJ (λJ L=>aA (bM C.a J L) (0<=(↑d.1:Int)) ((↑d.1:Int)<aH C/\wD (λc E=>aA (Ib (iI (nJ d)).1 J (oU c E 0))
 (bK L d.1 1<c.size) (∀(m4:MH),eA (iI (nJ d)).1 m4 J (w9 c (bK L d.1 1) (bA s9)) E->∃(f:Nat×Nat×Sl×Sl×Sl×ck×MH×PH),aA (I1 f) (V f<V d) (aA (bS d.2.2.1 f.2.2.1) (eL 38) (aA (cM d.2.1 f.2.1) (bS (nJ d).1 (nJ f).1) (aA (cG (nJ d).1 (nJ f).1) (cM d.2.1 f.2.1) (aA (bS (AA d) (AA f)) (cG (AA d) (AA f)) (aA (bD (fZ (bE d.1 1)) f.1) (Option.some (Own.lst 53 1 (C7 d))=Option.some (Own.lst 53 1 (C7 f))) (aA (bH m4 (iI (nJ f))) (H=(iI (nJ f)).2) True)))))))))))))))))) (∃(f:Nat×Sl×Sl×ck×MH×PH),aA (I f) (T f<T x) (aA (bS d.2.2.1 f.2.1) (eL 38) (aA (bS (nJ d).1 (AB f)) (cG (nJ d).1 (AB f)) (aA (bD (fZ (bE d.2.1 1)) f.1)
 (Option.some (Own.lst 53 1 (C7 d))=Option.some (Own.lst 53 1 (Fa f))) (aA (bH (iI (nJ d)).1 (iI f.2)) ((iI (nJ d)).2=BW f) True))))))))))))))) (yN (BW x) (Fa x) K (iI x.2).1)))))))))))))))))
structure zJ(m0 m:MH)(h:PH)(w:Sl)(l:cd)(j:Nat):Prop where
 ex:∃vs:ck,vs.length=l.length/\jJ m0 m w 94 1 (vs.map eS)/\∀k r,k<j->l[k]? =some r->∃v,vs[k]? =some v/\cF h v r
theorem zJ.mono{m0:MH}{w:Sl}{l:cd}{j:Nat}(x:zJ m0 m h w l j)(le:PH.le h h'):zJ m0 m h' w l j:=by
 obtain⟨c,d,e,f⟩:=x.ex;exact⟨c,d,e,λk r g n=>let⟨v,e1,e2⟩:=f k r g n;⟨v,e1,e2.mono le⟩⟩
theorem zJ.keep{m0:MH}{w:Sl}{l:cd}{j:Nat}(x:zJ m0 m h w l j)(d:∀b i,w.a=some ⟨b,i,none⟩->m' b=m b):zJ m0 m' h w l j:=by
 obtain⟨e,f,c,g⟩:=x.ex;exact⟨e,f,⟨dC.keep c.row d,c.fresh⟩,g⟩
theorem zJ.blk{m0:MH}{w:Sl}{l:cd}{j:Nat}(x:zJ m0 m h w l j)(e:w.a=some ⟨b,i,none⟩):∃o,m b=some o:=by
 obtain⟨f,_,c,_⟩:=x.ex;obtain⟨d,h⟩:=dC.blk c.row e
 grind
theorem zJ.slen{m0:MH}{w:Sl}{l:cd}{j:Nat}(x:zJ m0 m h w l j):w.len=l.length:=by
 obtain⟨d,e,c,_⟩:=x.ex;have:=dC.slen c.row
 grind
theorem Un:∀vs:ck,(vs.map eS).flatten=vs.map λs=>fK s
 |[]=>rfl
 |v::vs=>by rw[map_cons,flatten_cons,Un vs];rfl
theorem zJ.put{m0:MH}{w u:Sl}{l:cd}{j:Nat}{r:cj}(x:zJ m0 m h w l j)(D:l[j]? =some r)(J:cF h u r):∃b,w.a=some ⟨b,0,none⟩/\∃(cs:Array Value)(E:TypeId),m b=some (.cells cs E (0,0))/\0+j*1<cs.size/\∀m',iL m m' b (.cells ⟨splice cs.toList (0+j*1) [fK u]⟩ E (0,0))->zJ m0 m' h w l (j+1):=by
 obtain⟨f,F,g,L⟩:=x.ex;have M:=(List.getElem?_eq_some_iff.1 D).1;have O:=dC.slen g.row;rcases g.row.ex with⟨rfl,e⟩|⟨b,d,c,rfl,G,n,o,H,B⟩
 .grind
 .rw[length_map]at n;refine⟨b,rfl,c,94,G,aD,λm' y=>⟨f.set j u,by simp[F],⟨⟨⟨?_,?_⟩,.inr ⟨b,d,⟨splice c.toList (0+j*1) [fK u]⟩,bf,y.at_,bj,o,?_,?_⟩⟩,g.fresh⟩,λk P Q I=>?_⟩⟩
  .intro e z;obtain⟨s,_,rfl⟩:=mem_map.1 z;rfl
  .intro e z v C;obtain⟨s,_,rfl⟩:=mem_map.1 z;simp[eS]at C;subst C;rfl
  .show(splice c.toList (0+j*1) [fK u]).length=d*1;rw[wC _ _ _ bj];omega
  .rw[Un];show(splice c.toList (0+j*1) [fK u]).take _=_;rw[OI _ _ _ bj,take_set]
   have A:c.toList.take (((f.set j u).map eS).length*1)=f.map λs=>fK s:=by
    rw[length_map,length_set];rw[length_map,Un]at B;exact B
   rw[A,Nat.zero_add,Nat.mul_one,map_set]
  grind
theorem zJ.rows{m0:MH}{w:Sl}{l:cd}(d:Bs m h)(x:zJ m0 m h w l l.length)(u:l.length<=8000000):Rows (oO m0 m h) w l:=by
 obtain⟨e,f,g,j⟩:=x.ex
 exact⟨⟨e,jJ.ice g,f.symm,λi r c=>by
  obtain⟨v,n,o⟩:=j i r (List.getElem?_eq_some_iff.1 c).1 c;exact⟨v,n,o.mono (zB d)⟩⟩,aD⟩
theorem aPX:bu 33 aZZ:=by
 refine V7 func33 ?_;rintro d4 m h K ⟨sc,sl,v,s,W,q,rfl,hs,b6,hq,b7,ht,hn,hv,hE,b8,hK⟩;refine⟨bZJ,rfl,aE Ym (aE YA (aE RU aG)),PR sc sl v m h (fY h K),bd,?_⟩;show PR sc sl v m h (fY h K);dsimp only[PR,push_cast];refine⟨sc,v,s,q,rfl,hs,hq,b7,ht,hn,λp r h1 g hp=>aC (λX=>?_) (λX=>?_)⟩
 .exact fY.sub (Sub.refl m) g (hE bk h1 g)
 have X:(dZ s [] q).2=0:=bk
 have hp:=hp X;obtain⟨d,hb⟩:=hv X;have a':Bf s (kO s q).1 (kO s q).2 W=mV s W:=by unfold Bf;omega
 refine⟨sc,sl,p,r,s,W,(kO s q).1,(kO s q).2,rfl,hs.mono g,b6.mono g,hp,ht,λ_ e=>(hb e).1,λs1 h2 L hl=>?_⟩;rw[a']at hl⊢
 refine aC (λF=>?_) (λF=>?_)
 .exact fY.sub (Sub.refl m) (g.trans L) (b8 X bk h2 (g.trans L))
 have F:mV s W=0:=bk
 have hl:=hl F;have hK:=hK X F;have b9:=(hb F).2;have a0:=g.trans L;have a1:=(hp.roots.mono L)
 have a2:=a1.slen
 have a3:∀x∈(kO s q).2,0<=x/\x.toNat<(nD W (kO s q).1).length:=by
  intro x hx;unfold iC at d;split at d
  .contradiction
  .split at d
   .cases d
   .split at d
    .contradiction
    .split at d
     .rename_i e;have:=all_eq_true.1 e x hx;simp only[Bool.and_eq_true,decide_eq_true_eq]at this;simp only[nD,length_map,length_range];omega
     .cases d
 have d5:(kO s q).2.length<=32:=by
  unfold iC at d;omega
 generalize hR:nD W (kO s q).1=R at*
 generalize hN:(kO s q).2=N at*
 have d6:=bY.slen hl;refine⟨aD,aD,aD,aD,λx=>x.1<=N.length/\x.2.1=s1/\x.2.2.1=r/\PH.le h2 x.2.2.2.2.2/\x.2.2.2.1.length=N.length/\Sub m x.2.2.2.2.1/\∀k n,k<x.1->N[k]? =some n->∃u,x.2.2.2.1[k]? =some u/\zJ m x.2.2.2.2.1 x.2.2.2.2.2 u (R.getD n.toNat []) (R.getD n.toNat []).length,λx=>N.length-x.1,⟨(0,s1,r,replicate N.length bR,m,h2),⟨aD,rfl,rfl,.refl _,bf,Sub.refl m,λk n hk=>by simp at hk⟩,?_⟩,?_⟩
 .have e:List.map eS (replicate N.length bR)=replicate (Int.toNat (r.len:Int)) [lF]:=by rw[map_replicate,a2];rfl
  grind
 rintro⟨i,a4,ro,Y,Z,hx⟩ ⟨hi,e1,M,A,c',f,B⟩;dsimp only at hi e1 M A c' f B⊢
 subst e1 M;have lex:=a0.trans A;refine aF (λa5=>?_) (λd7=>?_)
 .obtain⟨n,a6⟩:=eT a2 a5;obtain⟨Q,G⟩:=a3 n (mem_of_getElem? a6);obtain⟨b,o,e,rd⟩:=(a1.mono A).at' a6;have c1:R[n.toNat]? =some R[n.toNat]:=getElem?_eq_getElem G;obtain⟨b',o',t,e',a7,a8⟩:=bY.at (bY.mono hl A λ_ _ z=>bY.mono z A λ_ _ y=>cF.mono y A) c1;have c2:R.getD n.toNat []=R[n.toNat]:=by simp[G]
  have c4:=b9 _ (getElem_mem G);have a9:=bY.slen a8;refine⟨b,o,e,aD,a5,n,.imm rd,b',o',e',Q,aD,t,.imm a7,aD,aD,aD,aD,λw m1 hw=>⟨aD,bk,_,by rw[getElem?_map,Int.toNat_natCast,getElem?_eq_getElem aD];rfl,by simp[eS],b',o',e',Q,aD,t,.imm a7,?_⟩⟩;have d8:∀b i,w.a=some ⟨b,i,none⟩->Z b=none:=λb i e=>(hw.fresh b i e).m_;have C:Sub Z m1:=λx o e=>by rw[hw.other x (λi e'=>bk)];exact e
  have c0:zJ m m1 hx w R[n.toNat] 0:=⟨replicate R[n.toNat].length bR,bf,⟨by
   have:=hw.row;rw[Int.toNat_natCast,a9]at this;rw[map_replicate];exact this,λb i e=>by
   cases e0:m b with
   |none=>rfl
   |some o=>have:=f b o e0;grind⟩,λk r hk=>by omega⟩
  refine⟨λx=>x.1<=R[n.toNat].length/\x.2.1=i/\x.2.2.1=a4/\x.2.2.2.1=ro/\x.2.2.2.2.1=t/\x.2.2.2.2.2.1=Y.set i w/\PH.le hx x.2.2.2.2.2.2.2/\Sub m x.2.2.2.2.2.2.1/\zJ m x.2.2.2.2.2.2.1 x.2.2.2.2.2.2.2 w R[n.toNat] x.1/\∀b o,Z b=some o->x.2.2.2.2.2.2.1 b=some o,λx=>R[n.toNat].length-x.1,⟨(0,i,a4,ro,t,Y.set i w,m1,hx),⟨aD,rfl,rfl,rfl,rfl,rfl,.refl _,λx o e=>C x o (f x o e),c0,C⟩,?_⟩,?_⟩
  .rw[Int.toNat_natCast,map_set];exact MT
  clear c0 C;rintro⟨j,S,b0,b1,t2,d9,my,hy⟩ ⟨hj,f1,f2,H,I,J,c,D,c3,c6⟩;dsimp only at hj f1 f2 H I J c D c3 c6⊢
  subst f1 f2 H I J;refine aF (λP=>?_) (λd3=>?_)
  .obtain⟨rr,T⟩:=eT a9 P;obtain⟨b2,o2,y,M,c7,c8⟩:=bY.at (bY.mono a8 c λ_ _ z=>cF.mono z c) T;have e3:S<Y.length:=by omega
   refine⟨b2,o2,M,aD,P,y,.imm c7,aD,bj,eS w,bk,w,rfl,⟨eS w,bk,rfl⟩,y,rr,rfl,c8,(c4.2 rr (mem_of_getElem? T)),λu h4 b3 hu=>?_⟩;obtain⟨wb,c9,cs,E,d',e4,LU⟩:=(c3.mono b3).put T hu;have e5:=c3.slen;refine⟨wb,0,c9,aD,aD,cs,E,⟨d'⟩,aD,λm5 O=>?_⟩;rw[Int.toNat_natCast]at O;have c5:=LU m5 O;have b4:∀x o,Z x=some o->x≠wb:=λx o e e'=>bk
   refine⟨(j+1,S,b0,b1,t2,Y.set S w,m5,h4),⟨?_,rfl,rfl,rfl,rfl,rfl,c.trans b3,λx o e=>?_,c5,λx o e=>?_⟩,?_,MT⟩
   .omega
   .show m5 x=some o;rw[O.other x (b4 x o (f x o e))];exact D x o e
   .show m5 x=some o;rw[O.other x (b4 x o e)];grind
   omega
  .have d0:j=R[n.toNat].length:=by omega
   subst d0;refine⟨(S+1,b0,b1,Y.set S w,my,hy),⟨aD,rfl,rfl,A.trans c,bk,D,λk n' hk d1=>?_⟩,aD,MT⟩;have hk:k<S+1:=hk;by_cases e:k=S
   .grind
   .obtain⟨u,e1,M⟩:=B k n' aD d1;refine⟨u,bk,(M.mono c).keep (λb i e=>?_)⟩;obtain⟨o,ho⟩:=M.blk e
    grind
 .have d2:i=N.length:=by omega
  subst d2;intro s2 h3 c hr b5;have hd:Bs Z h3:=⟨b5⟩
  have le:=(lex.trans c).trans (zB (m0:=m) hd);refine⟨m,oO m Z h3,f,le,λb i w e=>?_,hK s2 _ le ⟨⟨Y,hr.mono (zB hd),?_,λk l U=>?_⟩,?_⟩⟩
  .unfold oO at e
   grind
  .unfold LB;grind
  .unfold LB at U;rw[getElem?_map,hN,hR,Option.map_eq_some_iff]at U;obtain⟨n,V,rfl⟩:=U;obtain⟨u,e1,M⟩:=B k n (List.getElem?_eq_some_iff.1 V).1 V;obtain⟨Q,G⟩:=a3 n (mem_of_getElem? V);have c2:R.getD n.toNat []=R[n.toNat]:=by simp[G]
   exact⟨u,e1,zJ.rows hd (M.mono c) bk⟩
  .unfold LB;grind
def QP{α:Type}(T:List α->α->Prop):List α->List α->Prop
 |_,[]=>True
 |pre,x::r=>T pre x/\QP T (pre++[x]) r
theorem V5{α:Type}{T:List α->α->Prop}:∀{l c:List α},QP T c l->∀(j:Nat) x,l[j]? =some x->T (c++l.take j) x
 |[],_,_,j,x,e=>by simp at e
 |y::r,c,h,0,x,e=>by simp at e;subst e;simpa using h.1
 |y::r,c,h,j+1,x,e=>by
  have:=V5 h.2 j x (bt e)
  grind
theorem AM{α:Type}{T:List α->α->Prop}{l:List α}(h:QP T [] l):Good T l:=λj x e=>bt (V5 h j x e)
theorem aIJ{α:Type}{T:List α->α->Prop}{l:List α}(h:Good T l)(n:Nat):Good T (l.take n):=λj x e=>by
 rw[getElem?_take]at e;split at e
 .rename_i c;rw[take_take,Nat.min_eq_left aD];exact h j x e
 .cases e
theorem a2J(u:s.tables.length<=8)(g:∀t∈s.tables,t.columns.length<=8/\t.refs=[]/\t.checks=[])(y:0<=s.version)(z:s.version<=1000)(A:Good D7 s.tables):dK s=0:=by
 have c:DK s:=⟨u,λj t e=>by
  obtain⟨n,d,o⟩:=g t (mem_of_getElem? e);exact⟨n,by simp[d],by simp[o]⟩⟩
 have ok:Lj s:=⟨y,z,A,λj t e=>by
  obtain⟨n,d,o⟩:=g t (mem_of_getElem? e);unfold FN;rw[d];intro i x B;simp at B⟩
 rw[Lx c ok];refine DI _ λe f=>?_;obtain⟨i,_,f⟩:=mem_flatMap.1 f;unfold xZ at f
 grind
theorem XN{id:Int}(h:id=4\/id=5):Good D7 (xN id):=by
 have c:dJ id=true:=by rcases h with rfl|rfl<;>rfl
 refine AM ⟨⟨?_,?_,?_,?_,AM ⟨⟨?_,?_,?_⟩,⟨?_,?_,?_⟩,trivial⟩⟩,⟨?_,?_,?_,?_,AM ⟨⟨?_,?_,?_⟩,⟨?_,?_,?_⟩,⟨?_,?_,?_⟩,⟨?_,?_,?_⟩,trivial⟩⟩,⟨?_,?_,?_,?_,AM ⟨⟨?_,?_,?_⟩,⟨?_,?_,?_⟩,trivial⟩⟩,⟨?_,?_,?_,?_,AM ⟨⟨?_,?_,?_⟩,trivial⟩⟩,trivial⟩
 all_goals first|exact c|rfl|(simp;done)|decide
theorem a5X(h:QG s):dK s=0/\s.tables≠[]:=by
 obtain⟨f,n,id,g,j,o,u,c,rfl⟩:=h.ex;refine⟨a2J bk (λt d=>?_) g bk (aIJ (XN c) n),λe=>?_⟩
 .have d:=mem_of_mem_take d;simp only[xN,mem_cons,not_mem_nil,or_false]at d
  grind
 .have:=congrArg List.length e;simp[xN]at this;omega
def cEX:Vc.Spec:=λc m h K=>∃n,c=[cI n]/\K (aV ⟨4,n,⟨#[]⟩⟩) m h
def cGJ:Query->Int
 |.mk op _ _ _ _ _ _ _ _=>op
def opE(q:Query):Int:=cGJ (fL q)
structure QsU(h:PH)(us:db)(qs:ci):Prop where
 len:us.length=qs.length
 at_:∀(i:Nat) q,qs[i]? =some q->∃v,us[i]? =some v/\bU h q v
theorem QsU.mono{us:db}{c:ci}(x:QsU h us c)(le:PH.le h h'):QsU h' us c:=⟨x.len,λi q e=>let⟨v,e1,e2⟩:=x.at_ i q e;⟨v,e1,e2.mono le⟩⟩
theorem QsU.snoc{us:db}{c:ci}{q:Query}(x:QsU h us c)(g:bU h q v):QsU h (us++[v]) (c++[q]):=by
 have d:=x.len;refine⟨by simp[d],λi p e=>?_⟩;by_cases f:i<c.length
 .rw[getElem?_append_left f]at e;obtain⟨u,j,n⟩:=x.at_ i p e
  grind
 grind
def cFQ(N:Nat):Vc.Spec:=λc m h K=>∃v q s,c=[aQ v]/\bU h q v/\SizeOf.sizeOf q<N/\(aJ s [] q).2=0/\∀d h',PH.le h h'->bU h' (fL q) d->d.op=opE q->K (aQ d) m h'
def azQ:Vc.Spec:=λc m h K=>∃sc v s q,c=[aS sc,aQ v]/\gZ h s sc/\bU h q v/\(dZ s [] q).2=0/\∀d h',PH.le h h'->bU h' (fL q) d->d.op=opE q->K (.tup [aQ d,cI 0]) m h'
def cwZ:Vc.Spec:=λc m h K=>∃v q s,c=[aQ v]/\bU h q v/\(aJ s [] q).2=0/\∀d h',PH.le h h'->bU h' (fL q) d->d.op=opE q->K (aQ d) m h'
noncomputable def bVJ(N:Nat)(v:QV)(m:MH):Ctx:=
 dA [(84,bDQ),(73,cFQ N),(135,agX),(136,Oz),(137,UU)] [(5,{A:=Nat×db×PV×Sl×Sl×PH,st:=λ⟨i,c,w,s,t,h⟩=>bQ 44 45 [(2,.at (.ptr 2 0)),(3,.at (.ptr 3 0)),(29,sv v.args),(30,iv v.args.len),(31,iv i)] [(2,.cells 38 zQ),(3,.cells 38 ((QV.enc ⟨v.op,v.table,w,s,t,bR,bR,0,bR⟩).take 20 |>.map .val |>.append [.lst 40])),(40,.lst 38 21 (c.map QV.enc))] m h})] [(4,{A:=PV×Sl×Sl×PH,st:=λ⟨w,s,t,h⟩=>bQ 44 45 [(1,.at (.ptr 1 0)),(2,.at (.ptr 2 0)),(3,.at (.ptr 3 0))] [(1,.cells 38 (v.enc.map .val)),(2,.cells 38 zQ),(3,.cells 38 ((QV.enc ⟨v.op,v.table,w,s,t,bR,bR,0,bR⟩).map .val))] m h})] [] false
noncomputable abbrev Ag(a:Int):bx:=aM (eF 4) (eF a) (oK XH)
attribute [push_cast] Ag
def beJ(n:Int)(m:MH)(h:PH)(K:bz):Prop:=
  K (lS (Ag n)) m h
abbrev Hu(a:QV)(b c:Int)(d:Nat->Nat->QV->Prop):Prop:=bJ (λx e=>aA (bM a.args.a x e) (b<=c) (c<aH a.args/\∃(f:QV),d x e f))
abbrev Kx(a:jE)(b:Query):Prop:=(aJ a [] b).2=0
abbrev HF(a:Nat->Nat->Option Value)(b:Query)(c:QV->PH->Prop):Prop:=∀(x:QV)(d:PH),cC a d (bU d (fL b) x) (c x d)
abbrev EJ(a:QV)(b:Nat->Nat->Option Value)(c:Nat)(d:Query->QV->PH->Prop):Prop:=mU (λx e=>∃(f:jE),aA (kG a=kG x) (bU b e x) (aA (vV e c) (Kx f e) (HF b e (λg j=>d e g j))))
abbrev JZ(a:QV)(b:PH)(c:PV×Sl×Sl×PH->Prop)(d:Sl->(PV×Sl×Sl×PH)->Prop)(e:MH):Prop:=Ks a.on b (λx=>iR (λj f=>cC b f (iF f j x) (∃(g:PV×Sl×Sl×PH),aA (c g) eM (aA dQ bV (aA (dM a) eG (aA (d j g) (e=e) (bN f g.2.2.2)))))))
noncomputable abbrev vB(a:QV)(b:PV)(c d:Sl)(e:cw):cw:=cO (gC a.op) (pU a) (pQ b (cO (vK c) (vK d) (cO FU FU e)))
noncomputable abbrev AD(a:PV×Sl×Sl×PH):Sl:=a.2.2.1
noncomputable abbrev J0:cw:=lV fD (At.lst 40)
noncomputable abbrev pA(a:Nat×db×PV×Sl×Sl×PH):PV:=a.2.2.1
noncomputable abbrev HB(a:Nat×db×PV×Sl×Sl×PH):List bx:=List.map QV.enc a.2.1
noncomputable abbrev HA(a:Nat×db×PV×Sl×Sl×PH):Nat->Nat->Option Value:=a.2.2.2.2.2
attribute [push_cast] Hu Kx HF EJ JZ vB AD J0 pA HB HA
def Wp(N:Nat)(v:QV)(m:MH)(h:PH)(K:bz):Prop:=
  lA v.op (λo=>branch (Bt o) (Hu v 0 0 (λb u y=>aU m h b (u+0) y.enc/\EJ y h N (λq f d=>f.op=opE q->K (cN f) m d))) (∃(I:PV×Sl×Sl×PH->Prop),(pV (λf p=>aA (oB (yG v)=oB (cQ f)) (dD h p f) (Eo (λj d=>cC h d (dD d p j) (wR v.columns d (λl=>iR (λs e=>cC d e (Ints e s l) (JZ v e I (λn x=>yO (vB v j s n Dz) (vB v x.1 x.2.1 (AD x) Dz)) m/\JZ v e I (λn x=>yO (vB v j s n Dz) (vB v x.1 x.2.1 (AD x) Dz)) m)))/\wR v.columns d (λl=>iR (λs e=>cC d e (Ints e s l) (JZ v e I (λn x=>yO (vB v j s n Dz) (vB v x.1 x.2.1 (AD x) Dz)) m)))))))/\pV (λf p=>aA (oB (yG v)=oB (cQ f)) (dD h p f)
 (Eo (λj d=>cC h d (dD d p j) (wR v.columns d (λl=>iR (λs e=>cC d e (Ints e s l) (JZ v e I (λn x=>yO (vB v j s n Dz) (vB v x.1 x.2.1 (AD x) Dz)) m))))))))/\∀(x:PV×Sl×Sl×PH),I x->∃(I1:Nat×db×PV×Sl×Sl×PH->Prop)(z:Nat×db×PV×Sl×Sl×PH->Nat),(∃(c:Nat×db×PV×Sl×Sl×PH),aA (I1 c) dQ (aA bV (aI v.args) (aA (qV v) (bB c.1) (aA eG (yO (vB v x.1 x.2.1 (AD x) J0) (vB v (pA c) c.2.2.2.1 (AD c.2.2) J0)) (bP (qZ 38 21 (HB c)) (m=m) (x.2.2.2=HA c))))))/\∀(c:Nat×db×PV×Sl×Sl×PH),I1 c->aZ (↑c.1:Int) (aH v.args) (bJ (λb u=>aA (bM v.args.a b u) (0<=(↑c.1:Int)) ((↑c.1:Int)<aH v.args/\∃(y:
 QV),aU m (HA c) b (bK u c.1 21) y.enc/\EJ y (HA c) N (λq f d=>f.op=opE q->nG (HB c) 280 (∃(g:Nat×db×PV×Sl×Sl×PH),aA (I1 g) (z g<z c) (aA dQ bV (aA (aI v.args) (bI v.args) (aA (bD (fZ (bE c.1 1)) g.1) eG (tI (yO (vB v (pA c) c.2.2.2.1 (AD c.2.2) J0) (vB v (pA g) g.2.2.2.1 (AD g.2.2) J0)) (Option.some (Own.lst 38 21 (eN (HB c) f.enc))=Option.some (Own.lst 38 21 (HB g))) (m=m) d (HA g)))))))))) (bO (HA c) 21 (HB c) (λs d=>K (lS (aM (eF v.op) (oN v) (aM (eF (pA c).op) (eF (pA c).cmp) (aM (sW (pA c)) (sX (pA c)) (aM (eF (AY (pA c).left)) (rU (pA c)) (aM (rV (pA c)) (rW (pA c)) (aM (tA
 (pA c)) (tB (pA c)) (aM (tC (pA c)) (tD (pA c)) (aM (fK (pA c).args) (fK c.2.2.2.1) (aM (fK (AD c.2.2)) lF (aM lF dE (bA s)))))))))))) m d))))
def WE(sc:cE)(v:QV)(m:MH)(h:PH)(K:bz):Prop:=
  CS (cJ sc::cV j8 (cN v)) h (λs p q=>fV (nC q)/\iR (λg c=>cC h c (Ints c g (dZ s p q).1) (eC (yJ s p q) 0 (K (CV.tup (cV (lS zV) (CV.val (eF (yJ s p q))))) m c) (mU (λe d=>∃(j:jE),aA (kG v=kG e) (bU c d e) (Kx j d/\HF c d (λf n=>f.op=opE d->K (CV.tup (aW (cN f) 0)) m n)))))))
theorem aMZ:bu 77 cEX:=by
 refine hU func77 ?_;rintro c m h K ⟨n,rfl,d⟩;refine⟨dA [] [] [] [] false,rfl,aG,beJ n m h K,bd,?_⟩;exact d
theorem aqQ:∀N,bu 73 (cFQ N)
 |0=>by
  refine dU (fn:=Tryz.f73) (c:=bW Tryz.f73) func73 rfl bg ?_;rintro V m h K ⟨v,q,s,rfl,_,hN,_⟩;omega
 |N+1=>by
  refine hU func73 ?_;rintro V m h K ⟨v,q,s,rfl,hq,hN,hk,hK⟩;refine⟨bVJ N v m,rfl,aE RR (aE (aqQ N) (aE Qb (aE IU (aE Qa aG)))),Wp N v m h K,bd,?_⟩;dsimp only[Wp,push_cast];have d:=@sL q;obtain⟨op,ta,w,co,on,gr,od,li,args⟩:=q;simp only[Query.args]at d;have x:=hq.parts;have W:=x.args_.slen;have a1:=x.args_.len;obtain⟨G,a2,_⟩:=iJ hk;have C:=x.op_;refine⟨v.op,rfl,aC (λS=>?_) (λS=>⟨λz=>PH.le h z.2.2.2/\dD z.2.2.2 w z.1/\Ints z.2.2.2 z.2.1 co/\iF z.2.2.2 z.2.2.1 on,?_,?_⟩)⟩
  .rw[C]at S;have X:=T1 S
   obtain⟨a,f,rfl⟩:∃a f,args=a::f:=by
    cases args with
    |nil=>
     exfalso;have:(1:Int)<=arity op:=by rcases X with rfl|rfl|rfl<;>decide
     grind
    |cons a f=>grind
   obtain⟨b,o,u,e,r,Y⟩:=x.args_.at (i:=0) (x:=a) rfl;have Z:=d (q:=a) bf
   exact⟨b,o,e,aD,bk,u,.imm (bt r),u,a,s,rfl,Y,aD,G a bf,λv' h' le H X=>by
    have e:fL (.mk op ta w co on gr od li (a::f))=fL a:=by rw[fL,if_pos S,FK];rfl
    exact hK v' h' le bk (by rw[opE,e];exact X)⟩
  .repeat' (first
    |(refine⟨v.where_,w,rfl,x.where_,λv1 h1 D r1=>?_⟩)
    |(refine⟨v.columns,co,rfl,x.columns_.mono D,λT h2 E r2=>?_⟩)
    |(refine⟨v.on,on,rfl,x.on_.mono (D.trans E),λU I F r3=>?_⟩)
    |(exact⟨(v1,T,U,I),⟨(D.trans E).trans F,r1.mono (E.trans F),r2.mono F,r3⟩,MT⟩)
    |apply And.intro)
  .rintro⟨w',T,U,hx⟩ ⟨J,L,M,O⟩;dsimp only at J L M O⊢
   refine⟨λz=>z.1<=args.length/\z.2.1.length=z.1/\z.2.2.1=w'/\z.2.2.2.1=T/\z.2.2.2.2.1=U/\PH.le hx z.2.2.2.2.2/\QsU z.2.2.2.2.2 z.2.1 ((args.take z.1).map fL),λz=>args.length-z.1,⟨(0,[],w',T,U,hx),⟨aD,rfl,rfl,rfl,rfl,.refl _,⟨rfl,λi q e=>by simp at e⟩⟩,MT⟩,?_⟩;rintro⟨i,us,w2,t2,t3,hy⟩ ⟨hi,P,e1,e2,e3,g,j⟩;dsimp only at hi P e1 e2 e3 g j⊢
   subst e1 e2 e3;have A:=J.trans g;have n:Bt op=false:=bk
   have B:fL (.mk op ta w co on gr od li args)= .mk op ta w co on gr od li (args.map fL):=by rw[fL,if_neg (by simp[n]),D1]
   refine aF (λQ=>?_) (λa3 s4 h' le a'=>hK ⟨v.op,v.table,w2,t2,t3,bR,bR,0,s4⟩ h' (A.trans le) ?_ (by rw[opE,B];exact C))
   rotate_left
   .rw[B];rw[take_of_length_le aD]at j
    have a0:gr=[]/\od=[]/\li=0:=by
     obtain⟨_,_,a,b,_,_,I⟩:=iJ hk;unfold dY at I;by_cases c0:arity op<0\/¬cH (.mk op ta w co on gr od li args)
     .rw[if_pos c0]at I;simp[dV]at I
     .rw[not_or]at c0;obtain⟨_,_,_,_,u5⟩:cH (.mk op ta w co on gr od li args):=Classical.not_not.1 c0.2;rcases u5 with e|e|e
      .rw[e]at n;cases n
      .rw[e]at n;cases n
      .exact e
    obtain⟨rfl,rfl,rfl⟩:=a0;have lx:=g.trans le;exact kW.rep ⟨C,x.table_,L.mono lx,M.mono lx,O.mono lx,pF h',uS h',rfl,⟨⟨us,a',j.len.symm,(j.mono le).at_⟩,bk⟩⟩
   obtain⟨q,y⟩:=eT W Q;have R:=mem_of_getElem? y;obtain⟨b,o,u,e,r,Y⟩:=(x.args_.mono A).at y;have Z:=d R;have a4:=(List.getElem?_eq_some_iff.1 y).1;exact⟨b,o,e,aD,Q,u,.imm r,u,q,s,rfl,Y,aD,G q R,λv' h' le H _=>⟨bk,bk,(i+1,us++[v'],w2,t2,t3,h'),⟨aD,by simp[P],rfl,rfl,rfl,g.trans le,by dsimp only;rw[take_add_one,y,Option.toList_some,map_append];exact(j.mono le).snoc H⟩,aD,by rw[map_append];exact MT⟩⟩
theorem RX:bu 73 cwZ:=gW aqQ λ_ _ _ _⟨v,q,s,e,c,d,f⟩=>⟨SizeOf.sizeOf q+1,v,q,s,e,c,aD,d,f⟩
theorem ctJ{q:Query}(j:gZ h s sc)(f:bU h q v)(g:(dZ s [] q).2=0)(n:∀c h',PH.le h h'->bU h' (fL q) c->c.op=opE q->K (.tup [aQ c,cI 0]) m h'):WE sc v m h K:=
 ⟨sc,bR,v,s,[],q,rfl,j,Pv h,f,(F8 g).2.2.1,λ_ x d _=>aC (λe=>bk) (λ_=>⟨v,q,s,rfl,f.mono d,(CJ g).1,λc h' le o u=>n c h' (d.trans le) o u⟩)⟩
theorem aQX:bu 29 azQ:=by
 refine hU func29 ?_;rintro c m h K ⟨sc,v,s,q,rfl,d,e,f,g⟩;refine⟨dA [(57,GL),(73,cwZ)] [] [] [] false,rfl,aE ah (aE RX aG),WE sc v m h K,bd,?_⟩;exact ctJ d e f g
theorem a5Q{q:Query}{B:Nat}(c:dK s=0)(g:iB s q)(C:sG q<=24)(E:fS 4 q<=B)(n:B*60<=8000000):
 zO s [] [] (kO s q) (pZ (xT s) q (fL q))/\(kO s q).1.length<=200/\(kO s q).2.length<=24/\Ia (eY s q []).1/\j9 (eY s q []).1=sG q:=by
 have o:=Vl c;obtain⟨u,_,d,e⟩:=U3 o q [] g (DL.nil s) bj;obtain⟨x,f⟩:=a4J _ d;rw[e]at f;have j:=d.get;rw[e]at j;obtain⟨_,y,_,z,_,_,_⟩:=j;have ev:=D0 q g;have A:=CF s q [];simp only[length_nil,Nat.zero_add]at A;have F:2*B*j9 (eY s q []).1<=2*B*24:=Nat.mul_le_mul_left _ aD;have G:=gQ (eY s q []).1 ((eY s q []).1.env:Int) (eY s q []).2 [];have D:=vX c (eY s q []).1 B (2*B) B (eY s q []).1.env (eY s q []).2 [] d u y bk bk (Nat.le_refl _) bk aD aD;rw[e,z]at D;refine⟨D.shift (nil_prefix),?_,?_,x,f⟩
 .show(fG _ _ _ _).1.length<=200;omega
 .show(fG _ _ _ _).2.length<=24
  grind
structure axZ(s:jE)(q:Query):Prop where
 ok:UR s q
 valid:iC s (kO s q).1 (kO s q).2=0
 run:∀st,mV s st=0->StV st->(∀l∈st,l.length<=4)->H9 s st (kO s q).1/\(∀l∈nD st (kO s q).1,l.length<=8000000/\∀r∈l,r.length<=1000)/\LB st (kO s q)=(pZ (xT s) q (fL q)).map (vO st)
theorem aGZ{s:jE}{q:Query}{B:Nat}(e:dK s=0)(g:iB s q)(E:sG q<=24)(F:fS 4 q<=B)(j:B*60<=8000000):axZ s q:=by
 obtain⟨D,L,M,G,O⟩:=a5Q e g E F j;obtain⟨P,o,H,I⟩:=D.ex;rw[nil_append]at o;refine⟨λh=>⟨aDJ h,G,aD,aD⟩,Vz D.inv e aD aD λr u=>?_,λy n J z=>?_⟩
 .grind
 .have f:∀i,i<(kO s q).1.length->iK (aJ s [] (aR (kO s q).1 i)).1.length (vO y (aR (kO s q).1 i))/\(vO y (aR (kO s q).1 i)).length<=8000000:=λi c=>by
   have x:=XJ n J z aD (D.inv.good i c).k (D.inv.good i c).bnd
   grind
  refine⟨⟨D.inv.ar,D.inv.fit,λi c=>(D.inv.good i c).kinds,4,aD,z,λi c=>(D.inv.good i c).bnd⟩,λl A=>?_,?_⟩
  .unfold nD at A;obtain⟨i,c,rfl⟩:=mem_map.1 A;have c:i<(kO s q).1.length:=bk
   refine⟨(f i c).2,λr u=>?_⟩;have Q:=(f i c).1.wid r u;have R:=kN s [] (aR (kO s q).1 i);omega
  .unfold LB;rw[o, <-I,map_map,map_map];refine map_congr_left λd C=>?_;have C:=H d C;simp only[Function.comp,Int.toNat_natCast,nD]
   grind
end Go.Ps
