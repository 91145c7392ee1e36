/-
  Part 9 of a proof that a law of the given program returns true: a condition generator that is proved sound, and contracts of functions. No condition of its own. Own work, joined by a program (pack2.py).
-/
import Derived.Test.YtmecdlibgejboaaGreatDoorNh
set_option linter.unusedVariables false
set_option linter.unusedSimpArgs false
namespace Go.Ps
open Go Go.Vc Go.Proofs List Tryz
variable{K:bu}{m:MH}{h:PH}{s:iJ}{ps:bt}{ts:ck}{cb:Nat}{sc:cN}{v:QV}{t:Step}{p:Pred}{l:bt}{i:Nat}{N:Nat}{m':MH}{h':PH}{co:bt}{gr:bt}{od:ca}{ta:Int}{li:Int}{xs:List bw}{sz:Nat}{ks:List bt}{rs:bt}{r:Sl}{a:bt}{b:Nat}
theorem Mg{b:bt}{l:bz}(h:∀x∈l,BM a x.1=true/\BM b x.2=true/\a.getD x.1.toNat 0=b.getD x.2.toNat 0)(n:(l.map Prod.fst).Nodup)(o:(l.map Prod.snd).Nodup):Good (kX a b) l:=by
 intro i x u;obtain⟨A,B,C⟩:=h x (mem_of_getElem? u);refine⟨A,B,C,λq D=>?_⟩;obtain⟨j,E,e⟩:=mem_take_iff_getElem.1 D;obtain⟨c,g⟩:=List.getElem?_eq_some_iff.1 u;rw[nodup_iff_pairwise_ne,pairwise_iff_getElem]at n o;have d:j<l.length:=by omega
 have f:j<i:=by omega
 have y:=n j i (bo d) (bo c) f;have z:=o j i (bo d) (bo c) f;simp only[getElem_map,e,g]at y z;exact⟨y,z⟩
theorem VH{b:bt}{l:bz}(h:Good (kX a b) l):(l.map Prod.fst).Nodup/\(l.map Prod.snd).Nodup:=by
 rw[nodup_iff_pairwise_ne,pairwise_iff_getElem,nodup_iff_pairwise_ne,pairwise_iff_getElem];refine⟨λi j e c d=>?_,λi j e c d=>?_⟩<;>
 .simp only[length_map]at e c;simp only[getElem_map];have:=(h j l[j] (getElem?_eq_getElem c)).2.2.2 l[i] (mem_take_iff_getElem.2 ⟨i,aD,rfl⟩)
  first|exact this.1|exact this.2
theorem Zi{b:bt}{on:bz}(h:Good (kX a b) on):Good (kX b a) (oJ on):=by
 obtain⟨c,d⟩:=VH h;refine Mg (λx e=>?_) ?_ ?_
 .obtain⟨p,f,rfl⟩:=mem_map.1 e;have:=Bg (P:=λp=>BM a p.1=true/\BM b p.2=true/\a.getD p.1.toNat 0=b.getD p.2.toNat 0) h (λg x t=>⟨t.1,t.2.1,t.2.2.1⟩) p f;exact⟨this.2.1,this.1,this.2.2.symm⟩
 .unfold oJ;rw[map_map];exact d
 .unfold oJ;rw[map_map];exact c
theorem arX(h:Good (EI a) gr):Good (kX a a) (rG gr):=by
 have d:gr.Nodup:=by
  rw[nodup_iff_pairwise_ne,pairwise_iff_getElem];intro i j y f g e;exact(h j gr[j] (getElem?_eq_getElem f)).2 (by rw[<-e];exact mem_take_iff_getElem.2 ⟨i,aD,rfl⟩)
 refine Mg (λx n=>?_) ?_ ?_
 .obtain⟨c,o,rfl⟩:=mem_map.1 n;have:=Bg (P:=λc=>BM a c=true) h (λu x t=>t.1) c o;exact⟨this,this,rfl⟩
 .unfold rG;rw[map_map];simpa[Function.comp_def]using d
 .unfold rG;rw[map_map];simpa[Function.comp_def]using d
theorem C5{α β:Type}{f:α->β}:∀{l:List α},l.Nodup->(∀x∈l,∀y∈l,f x=f y->x=y)->(l.map f).Nodup
 |[],_,_=>bj
 |a::l,h,d=>by
  rw[nodup_cons]at h;rw[map_cons,nodup_cons];refine⟨λg=>?_,C5 h.2 λx c y j=>d x (by simp[c]) y (by simp[j])⟩;obtain⟨x,c,e⟩:=mem_map.1 g;have:=d x (by simp[c]) a bj e;subst this;exact h.1 c
theorem VI(h:Good (λ_ c=>BM a c=true) co):Good (kX a (co.map λc=>a.getD c.toNat 0)) (mU co):=by
 have j:((List.range co.length).filter λi=>decide (co.idxOf (co.getD i 0)=i)).Nodup:=List.Nodup.sublist filter_sublist nodup_range;refine Mg (λx f=>?_) ?_ ?_
 .obtain⟨i,n,rfl⟩:=mem_map.1 f;have d:i<co.length:=by have:=(mem_filter.1 n).1;simpa using this
  have o:co.getD i 0=co[i]:=by simp[d]
  have:=h i co[i] (getElem?_eq_getElem d);dsimp only;rw[o];refine⟨this,dW.2 ⟨aD,by simp;omega⟩,?_⟩;rw[Int.toNat_natCast,getD_eq_getElem?_getD (l:=List.map _ co),getElem?_map,getElem?_eq_getElem d];rfl
 .unfold mU;rw[map_map];refine C5 j λx f y g e=>?_;have f:=of_decide_eq_true (mem_filter.1 f).2;have g:=of_decide_eq_true (mem_filter.1 g).2;have e:co.getD x 0=co.getD y 0:=e;rw[<-f, <-g,e]
 .unfold mU;rw[map_map];refine C5 j λx f y g e=>?_;have e:(x:Int)=(y:Int):=e;omega
theorem VG{b:bt}:Good (kX (a++b) b) (Am (a.length:Int) (b.length:Int)):=by
 have d:(List.range b.length).Nodup:=nodup_range;refine Mg (λx c=>?_) ?_ ?_
 .unfold Am at c;rw[Int.toNat_natCast]at c;obtain⟨i,f,rfl⟩:=mem_map.1 c;have g:i<b.length:=bo f
  refine⟨dW.2 ⟨by dsimp only;omega,by simp only[length_append];omega⟩,dW.2 ⟨by dsimp only;omega,by dsimp only;omega⟩,?_⟩;dsimp only;rw[show((a.length:Int)+(i:Int)).toNat=a.length+i by omega,Int.toNat_natCast,getD_eq_getElem?_getD,getD_eq_getElem?_getD,getElem?_append_right aD];rw[Nat.add_sub_cancel_left]
 .unfold Am;rw[Int.toNat_natCast,map_map];refine C5 d λx c y j e=>?_;have e:(a.length:Int)+(x:Int)=(a.length:Int)+(y:Int):=e;omega
 .unfold Am;rw[Int.toNat_natCast,map_map];refine C5 d λx c y j e=>?_;have e:(x:Int)=(y:Int):=e;omega
theorem X3{K:bt}{a n:Nat}(h:a+n<=K.length):Good (λ_ c=>BM K c=true) (gH a n):=by
 intro i x d;have:=mem_of_getElem? d;unfold gH at this;obtain⟨j,e,rfl⟩:=mem_map.1 this;have:j<n:=bo e
 exact dW.2 ⟨aD,aD⟩
theorem Te{K:bt}{a n:Nat}(h:a+n<=K.length):(gH a n).map (λc=>K.getD c.toNat 0)=(K.drop a).take n:=by
 unfold gH;rw[map_map,Int.toNat_natCast];apply ext_getElem?;intro i;by_cases d:i<n
 .rw[getElem?_map,getElem?_range d,getElem?_take,if_pos d,getElem?_drop,getElem?_eq_getElem (by omega:a+i<K.length)];simp only[Option.map_some,Function.comp];rw[show((a:Int)+(i:Int)).toNat=a+i by omega,getD_eq_getElem?_getD,getElem?_eq_getElem (by omega:a+i<K.length)];rfl
 .rw[getElem?_eq_none (by simp;omega),getElem?_eq_none (by simp;omega)]
theorem Y9{K:bt}{n:Nat}(h:n<=K.length):(gH 0 n).map (λc=>K.getD c.toNat 0)=K.take n:=by
 have:=Te (K:=K) (a:=0) (n:=n) aD;simpa using this
theorem uW{s:iJ}{ts:ck}{op:Int}{on:bz}{gr:bt}{od:ca}{li:Int}{a b:Nat}(d:s.tables.length<=1000)(v:CX s ts)(e:ts.length<=100000)(f:arity op=2)(j:a<ts.length)(n:b<ts.length)(g:fN s (.mk op 0 eJ [] on gr od li [aM ts a,aM ts b])):
 Aj s ts (bR ⟨op,0,eJ,[],on,gr,od,li,a,b⟩ ts).1 (bR ⟨op,0,eJ,[],on,gr,od,li,a,b⟩ ts).2 (.mk op 0 eJ [] on gr od li [aM ts a,aM ts b]):=
 JH (ks:=[a,b]) d v e (by rw[f];rfl) (λk c=>by simp at c;rcases c with rfl|rfl<;>assumption) rfl g
theorem Vh{s:iJ}{ts:ck}{co:bt}{a:Nat}(d:s.tables.length<=1000)(v:CX s ts)(e:ts.length<=100000)(f:a<ts.length)(g:fN s (BZ (aM ts a) co)):
 Aj s ts (bR (lZ a co) ts).1 (bR (lZ a co) ts).2 (BZ (aM ts a) co):=
 JH (ks:=[a]) d v e rfl (λk c=>by simp at c;subst c;assumption) rfl g
theorem Aj.keep{c:ck}{k:Nat}{q:Query}(x:Aj s ts c k q)(d:i<ts.length):i<c.length/\aM c i=aM ts i:=⟨Nat.lt_of_lt_of_le d x.pre.length_le,eA x.pre x.inv.ok i d⟩
structure xO(s:iJ)(ts:ck)(rs:bt)(r:ck×bt)(qs:cg):Prop where
 inv:CX s r.1
 pre:ts<+:r.1
 ex:∃ds:cu,r.2=rs++ds.map (fun(d:Nat)=>(d:Int))/\(∀d∈ds,d<r.1.length)/\ds.map (aM r.1)=qs
theorem xO.comp{f:ck}{z r:ck×bt}{g j:cg}(x:xO s ts rs z g)(n:z.1<+:f)(y:xO s f z.2 r j):xO s ts rs r (g++j):=by
 obtain⟨u,A,o,B⟩:=x.ex;obtain⟨C,D,E,F⟩:=y.ex;have e:=n.trans y.pre;refine⟨y.inv,(x.pre.trans n).trans y.pre,u++C,by rw[D,A];simp,λd c=>?_,?_⟩
 .rcases mem_append.1 c with c|c
  .exact Nat.lt_of_lt_of_le (o d c) e.length_le
  .exact E d c
 .rw[map_append,F, <-B];congr 1;exact map_congr_left λd c=>eA e y.inv.ok d (o d c)
theorem xO.shift{c:ck}{r:ck×bt}{q:cg}(d:ts<+:c)(y:xO s c rs r q):xO s ts rs r q:=⟨y.inv,d.trans y.pre,y.ex⟩
theorem L0{q p:Query}{op:Int}{w:Pred}{on:bz}(c:op≠1)(d:op≠4):fE 4 (.mk op ta w co on gr od li [q,p])=fE 4 q+fE 4 p:=by
 rw[fE,if_neg c,if_neg d];simp[sB]
theorem bLX{q:Query}{w:Pred}{on:bz}:fE 4 (.mk 3 ta w co on gr od li [q])=fE 4 q:=by
 rw[fE,if_neg bk,if_neg bk];simp[sB]
theorem X9{s:iJ}{ts:ck}{p:PN}{gr:bt}{od:ca}{li:Int}{B b k:Nat}(u:s.tables.length<=1000)(v:CX s ts)(I:ts.length+5<=100000)(x:k<ts.length)(C:FQ s ts p)(f:(aK s [] (aM ts k)).1=(aK s [] p.q).1)(y:kT (aK s [] p.q).1 gr od li)(D:fE 4 p.q<=B)(J:fE 4 (aM ts k)<=b)(E:b+2*B<=1000000):
 Aj s ts (z6 p k gr od li ts).1 (z6 p k gr od li ts).2 (Aw (jR (gI p.q) (aM ts k) (rG gr)) p.q gr od li)/\(aK s [] (Aw (jR (gI p.q) (aM ts k) (rG gr)) p.q gr od li)).1=(aK s [] p.q).1/\fE 4 (Aw (jR (gI p.q) (aM ts k) (rG gr)) p.q gr od li)<=b+2*B:=by
 obtain⟨F,z,g,e,_,G,_⟩:=C.get;have ev:=Dd _ G;have L:fE 4 (gI p.q)<=B:=Nat.le_trans ev.2.2 D;have j:(aK s [] (aM ts p.env)).1=(aK s [] p.q).1:=by rw[e];exact ev.2.1
 have n:=C2 (on:=rG gr) (v.good _ z) (v.good k x) (by rw[j,f];exact arX y.group_) (by rw[e];omega);have A:=uW (on:=rG gr) (gr:=[]) (od:=[]) (li:=0) u v aD (show arity 5=2 from rfl) z x n.1;have H:=dH (dE p.env k (rG gr)) ts;have A:Aj s ts (bR (dE p.env k (rG gr)) ts).1 (bR (dE p.env k (rG gr)) ts).2 (jR (gI p.q) (aM ts k) (rG gr)):=by rw[<-e];exact A
 rw[e]at n;have M:fE 4 (jR (gI p.q) (aM ts k) (rG gr))<=b+B:=by unfold jR;rw[L0 bk bk];omega
 have c:=A.keep F;have d:(aK s [] (jR (gI p.q) (aM ts k) (rG gr))).1=(aK s [] p.q).1:=by rw[n.2];exact ev.2.1
 have o:=Zf (gr:=gr) (od:=od) (li:=li) (A.inv.good _ A.lt) (A.inv.good _ c.1) (by rw[A.is,c.2,g,d]) (by rw[A.is,d];exact y) (by rw[A.is,c.2,g];omega);have A2:=uW (on:=[]) (gr:=gr) (od:=od) (li:=li) u A.inv aD (show arity 10=2 from rfl) A.lt c.1 o.1;rw[A.is,c.2,g]at o A2;refine⟨⟨A2.inv,A.pre.trans A2.pre,A2.lt,A2.is⟩,by rw[o.2,d],?_⟩;unfold Aw;rw[L0 bk bk];omega
set_option maxHeartbeats 4000000 in
theorem uB{s:iJ}(o:cX s=0):∀(p:PN)(B W b k:Nat)(ts:ck)(rs:bt),FQ s ts p->CX s ts->k<ts.length->(aK s [] (aM ts k)).1=(aK s [] p.q).1->fE 4 p.q<=B->2*B<=W->fE 4 (aM ts k)<=b->b+W*jI p<=1000000->ts.length+5*jI p<=100000->
 xO s ts rs (eZ p k ts rs) (j6 (pN s) p.q (aM ts k))
 |.mk (.mk op ta w co on gr od li a6) args r e wd,B,W,b,k,ts,rs,hp,v,F,j,hB,Q,hb,H,hl=>by
  have T:=Th o;have b5:=hp;rw[FQ]at hp;obtain⟨_,_,_,_,_,g,ha,M⟩:=hp;have ha:a6=args.map PN.q:=ha;subst ha;have hB:fE 4 (.mk op ta w co on gr od li (args.map PN.q))<=B:=hB;have j:(aK s [] (aM ts k)).1=(aK s [] (.mk op ta w co on gr od li (args.map PN.q))).1:=j;show xO s ts rs _ (j6 (pN s) (.mk op ta w co on gr od li (args.map PN.q)) (aM ts k));obtain⟨n,b6,I,ga⟩:=g.node;have gD:=v.good k F;have J:∀a∈args,fE 4 a.q<=B:=λa h=>Nat.le_trans (YD g (mem_map.2 ⟨a,h,rfl⟩)) hB;have eB:∀a∈args,fE 4 (gI a.q)<=B:=λa h=>Nat.le_trans (Dd _ (ga _ (mem_map.2 ⟨a,h,rfl⟩))).2.2 (J a h);have eg:∀a∈args,(aK s [] (gI a.q)).1=(aK s [] a.q).1:=λa h=>(Dd _ (ga _ (mem_map.2 ⟨a,h,rfl⟩))).2.1;have Y:∀a∈args,a.rows<ts.length/\a.env<ts.length/\aM ts a.rows=a.q/\aM ts a.env=gI a.q/\a.width=pN s a.q/\fN s a.q:=λa h=>let x:=(M a h).get;⟨x.1,x.2.1,x.2.2.1,x.2.2.2.1,x.2.2.2.2.1,x.2.2.2.2.2.1⟩
  rw[n.out]at j;rw[length_map]at I;rw[eZ.eq_def,j6.eq_def];simp only[jI]at H hl;have a9:op=1\/op=2\/op=3\/op=9\/op=4\/op=5\/op=6\/op=7\/op=8\/op=10:=by omega
  rcases a9 with rfl|rfl|rfl|rfl|rfl|rfl|rfl|rfl|rfl|rfl
  .obtain rfl:args=[]:=eq_nil_of_length_eq_zero (by have:arity 1=0:=rfl;omega);exact⟨v,prefix_refl _,[k],rfl,λd hd=>by simp at hd;subst hd;exact F,rfl⟩
  .obtain⟨a,rfl⟩:=F2 (l:=args) (by rw[I];rfl);simp only[pP]at H hl;have e1:W*(1+(jI a+0))=W+W*jI a:=by rw[Nat.mul_add,Nat.mul_one,Nat.add_zero]
   exact uB o a B W b k ts rs (M a bj) v F j (J a bj) Q hb aD aD
  .obtain⟨a,rfl⟩:=F2 (l:=args) (by rw[I];rfl);simp only[pP]at H hl;have e1:W*(1+(jI a+0))=W+W*jI a:=by rw[Nat.mul_add,Nat.mul_one,Nat.add_zero]
   obtain⟨_,g2,_,U,_,g6⟩:=Y a bj;have g1:=eB a bj;have gE:fN s (aM ts a.env):=v.good _ g2;have O:(aK s [] (aM ts a.env)).1=(aK s [] a.q).1:=by rw[U];exact eg a bj
   have R:=C2 (on:=mU co) gE gD (by rw[O,j];exact VI (n.proj rfl).2) (by rw[U];omega);have A:=uW (on:=mU co) (gr:=[]) (od:=[]) (li:=0) T v aD (show arity 5=2 from rfl) g2 F R.1;have a2:=dH (dE a.env k (mU co)) ts;have A:Aj s ts (bR (dE a.env k (mU co)) ts).1 (bR (dE a.env k (mU co)) ts).2 (jR (gI a.q) (aM ts k) (mU co)):=by rw[<-U];exact A
   show xO s ts rs (eZ a (bR (dE a.env k (mU co)) ts).2 (bR (dE a.env k (mU co)) ts).1 rs) (j6 (pN s) a.q (jR (gI a.q) (aM ts k) (mU co)));have:=uB o a B W (b+2*B) _ _ rs (FQ.mono A.pre A.inv.ok a (M a bj)) A.inv A.lt (by rw[A.is, <-U,R.2];exact O) (J a bj) Q (by rw[A.is];unfold jR;rw[L0 bk bk];omega) aD aD;rw[A.is]at this;exact this.shift A.pre
  .obtain⟨a,rfl⟩:=F2 (l:=args) (by rw[I];rfl);simp only[pP]at H hl;have e1:W*(1+(jI a+0))=W+W*jI a:=by rw[Nat.mul_add,Nat.mul_one,Nat.add_zero]
   obtain⟨g0,g2,V,U,_,g6⟩:=Y a bj;have g1:=eB a bj;have a3:kT (aK s [] a.q).1 gr od li:=n.rank (.inl rfl);have j:(aK s [] (aM ts k)).1=(aK s [] a.q).1:=j;have P:=X9 (gr:=gr) (od:=od) (li:=li) T v aD F (M a bj) j a3 (J a bj) hb aD;show xO s ts rs (eZ a (z6 a k gr od li ts).2 (z6 a k gr od li ts).1 rs) (j6 (pN s) a.q (Aw (jR (gI a.q) (aM ts k) (rG gr)) a.q gr od li));have a2:=Bf a k gr od li ts;have:=uB o a B W (b+2*B) _ _ rs (FQ.mono P.1.pre P.1.inv.ok a (M a bj)) P.1.inv P.1.lt (by rw[P.1.is];exact P.2.1) (J a bj) Q (by rw[P.1.is];exact P.2.2) aD aD;rw[P.1.is]at this;exact this.shift P.1.pre
  .obtain⟨a,c,rfl⟩:=qT (l:=args) (by rw[I];rfl);simp only[pP]at H hl;have e1:W*(1+(jI a+(jI c+0)))=W+W*jI a+W*jI c:=by rw[Nat.mul_add,Nat.mul_one,Nat.add_zero,Nat.mul_add];omega
   obtain⟨g0,g2,V,U,g5,g6⟩:=Y a bj;obtain⟨k0,k2,k3,L,k5,k6⟩:=Y c bj;have j:(aK s [] (aM ts k)).1=(aK s [] a.q).1++(aK s [] c.q).1:=j;have pa:=Kj o _ g6;have pb:=Kj o _ k6;have b1:=jH s [] (aM ts k);rw[j,length_append]at b1;have b2:=J c bj;have R:=C2 (on:=Am a.width c.width) gD (v.good _ k0) (by rw[j,k3,g5,k5];exact VG) (by rw[k3];omega);have A:=uW (on:=Am a.width c.width) (gr:=[]) (od:=[]) (li:=0) T v aD (show arity 5=2 from rfl) F k0 R.1;have A:Aj s ts (bR (dE k c.rows (Am a.width c.width)) ts).1 (bR (dE k c.rows (Am a.width c.width)) ts).2 (jR (aM ts k) c.q (Am a.width c.width)):=by rw[<-k3];exact A
   have a2:=dH (dE k c.rows (Am a.width c.width)) ts;rw[k3]at R;have b':(aK s [] (jR (aM ts k) c.q (Am a.width c.width))).1=(aK s [] a.q).1++(aK s [] c.q).1:=by rw[R.2,j]
   have b3:∀(K1 K2:bt),0<K1.length->(gH 0 (K1.length:Int))≠[]:=λK1 K2 h e=>by
    have:=congrArg List.length e;simp[gH]at this;subst this;simp at h
   have X:a.width=((aK s [] a.q).1.length:Int):=g5;have a4:c.width=((aK s [] c.q).1.length:Int):=k5;have bX:fE 4 (jR (aM ts k) c.q (Am a.width c.width))<=b+B:=by unfold jR;rw[L0 bk bk];omega
   have pg:=Po (a:=jR (aM ts k) c.q (Am a.width c.width)) (co:=gH 0 a.width) R.1 (by rw[X];exact b3 _ [] pa) (by rw[b',X];exact X3 (a:=0) bj) (by rw[X];simp[gH];omega) aD;rw[<-A.is]at pg;have P:=Vh (co:=gH 0 a.width) T A.inv aD A.lt pg.1;have b7:=dH (lZ (bR (dE k c.rows (Am a.width c.width)) ts).2 (gH 0 a.width)) (bR (dE k c.rows (Am a.width c.width)) ts).1;have a5:=A.pre.trans P.pre;rw[A.is]at pg P;have R1:=uB o a B W (b+B) _ _ rs (FQ.mono a5 P.inv.ok a (M a bj)) P.inv P.lt (by rw[P.is,pg.2,b',X,Y9 bj];simp) (J a bj) Q (by rw[P.is];unfold BZ;rw[bLX];exact bX) aD aD;rw[P.is]at R1;have R1:=R1.shift a5;have a0:=fZ a (bR (lZ (bR (dE k c.rows (Am a.width c.width)) ts).2 (gH 0 a.width)) (bR (dE k c.rows (Am a.width c.width)) ts).1).2 (bR (lZ (bR (dE k c.rows (Am a.width c.width)) ts).2 (gH 0 a.width)) (bR (dE k c.rows (Am a.width c.width)) ts).1).1 rs;show xO s ts rs (eZ c _ _ _) (j6 (pN s) a.q (BZ (jR (aM ts k) c.q (Am (pN s a.q) (pN s c.q))) (gH 0 (pN s a.q)))++j6 (pN s) c.q (BZ (aM ts k) (gH (pN s a.q) (pN s c.q))));rw[<-g5, <-k5];generalize hZ:eZ a (bR (lZ (bR (dE k c.rows (Am a.width c.width)) ts).2 (gH 0 a.width)) (bR (dE k c.rows (Am a.width c.width)) ts).1).2 (bR (lZ (bR (dE k c.rows (Am a.width c.width)) ts).2 (gH 0 a.width)) (bR (dE k c.rows (Am a.width c.width)) ts).1).1 rs=Z at*
   have f:k<Z.1.length/\aM Z.1 k=aM ts k:=⟨Nat.lt_of_lt_of_le F R1.pre.length_le,eA R1.pre R1.inv.ok k F⟩
   have a7:=Po (a:=aM Z.1 k) (co:=gH a.width c.width) (R1.inv.good k f.1) (λe=>by
    have:=congrArg List.length e;rw[a4]at this;simp[gH]at this;rw[this]at pb;simp at pb) (by rw[f.2,j,X,a4];exact X3 bj) (by rw[a4];simp[gH];omega) (by rw[f.2];omega)
   have P2:=Vh (co:=gH a.width c.width) T R1.inv aD f.1 a7.1;have a1:=dH (lZ k (gH a.width c.width)) Z.1;have z:=R1.pre.trans P2.pre;rw[f.2]at a7 P2;have R2:=uB o c B W b _ _ Z.2 (FQ.mono z P2.inv.ok c (M c bj)) P2.inv P2.lt (by rw[P2.is,a7.2,j,X,a4,Te bj];simp) (J c bj) Q (by rw[P2.is];unfold BZ;rw[bLX];exact hb) aD aD;rw[P2.is]at R2;exact R1.comp P2.pre R2
  .obtain⟨a,c,rfl⟩:=qT (l:=args) (by rw[I];rfl);simp only[pP]at H hl;have e1:W*(1+(jI a+(jI c+0)))=W+W*jI a+W*jI c:=by rw[Nat.mul_add,Nat.mul_one,Nat.add_zero,Nat.mul_add];omega
   obtain⟨g0,g2,V,U,g5,g6⟩:=Y a bj;obtain⟨k0,k2,k3,L,k5,k6⟩:=Y c bj;have j:(aK s [] (aM ts k)).1=(aK s [] a.q).1:=j;have b0:Good (kX (aK s [] a.q).1 (aK s [] c.q).1) on:=n.pair (.inr rfl);have b2:=J c bj;have a8:=eB c bj;have R:=C2 (on:=on) gD (v.good _ k0) (by rw[j,k3];exact b0) (by rw[k3];omega);have A:=uW (on:=on) (gr:=[]) (od:=[]) (li:=0) T v aD (show arity 5=2 from rfl) F k0 R.1;have A:Aj s ts (bR (dE k c.rows on) ts).1 (bR (dE k c.rows on) ts).2 (jR (aM ts k) c.q on):=by rw[<-k3];exact A
   have a2:=dH (dE k c.rows on) ts;rw[k3]at R;have bX:fE 4 (jR (aM ts k) c.q on)<=b+B:=by unfold jR;rw[L0 bk bk];omega
   have R1:=uB o a B W (b+B) _ _ rs (FQ.mono A.pre A.inv.ok a (M a bj)) A.inv A.lt (by rw[A.is,R.2];exact j) (J a bj) Q (by rw[A.is];exact bX) aD aD;rw[A.is]at R1;have R1:=R1.shift A.pre;have a0:=fZ a (bR (dE k c.rows on) ts).2 (bR (dE k c.rows on) ts).1 rs;show xO s ts rs (eZ c _ _ _) (j6 (pN s) a.q (jR (aM ts k) c.q on)++j6 (pN s) c.q (jR (gI c.q) (aM ts k) (oJ on)));generalize hZ:eZ a (bR (dE k c.rows on) ts).2 (bR (dE k c.rows on) ts).1 rs=Z at*
   have f:k<Z.1.length/\aM Z.1 k=aM ts k:=⟨Nat.lt_of_lt_of_le F R1.pre.length_le,eA R1.pre R1.inv.ok k F⟩
   have u:c.env<Z.1.length/\aM Z.1 c.env=aM ts c.env:=⟨Nat.lt_of_lt_of_le k2 R1.pre.length_le,eA R1.pre R1.inv.ok _ k2⟩
   have O:(aK s [] (gI c.q)).1=(aK s [] c.q).1:=eg c bj;have C:=C2 (on:=oJ on) (R1.inv.good _ u.1) (R1.inv.good k f.1) (by rw[u.2,f.2,L,O,j];exact Zi b0) (by rw[u.2,f.2,L];omega);have P2:=uW (on:=oJ on) (gr:=[]) (od:=[]) (li:=0) T R1.inv aD (show arity 5=2 from rfl) u.1 f.1 C.1;have P2:Aj s Z.1 (bR (dE c.env k (oJ on)) Z.1).1 (bR (dE c.env k (oJ on)) Z.1).2 (jR (gI c.q) (aM ts k) (oJ on)):=by rw[<-L, <-u.2, <-f.2];exact P2
   have a1:=dH (dE c.env k (oJ on)) Z.1;rw[u.2,f.2,L]at C;have z:=R1.pre.trans P2.pre;have R2:=uB o c B W (b+B) _ _ Z.2 (FQ.mono z P2.inv.ok c (M c bj)) P2.inv P2.lt (by rw[P2.is,C.2];exact O) (J c bj) Q (by rw[P2.is];unfold jR;rw[L0 bk bk];omega) aD aD;rw[P2.is]at R2;exact R1.comp P2.pre R2
  .obtain⟨a,c,rfl⟩:=qT (l:=args) (by rw[I];rfl);simp only[pP]at H hl;have e1:W*(1+(jI a+(jI c+0)))=W+W*jI a+W*jI c:=by rw[Nat.mul_add,Nat.mul_one,Nat.add_zero,Nat.mul_add];omega
   obtain⟨g0,g2,V,U,g5,g6⟩:=Y a bj;obtain⟨k0,k2,k3,L,k5,k6⟩:=Y c bj;have j:(aK s [] (aM ts k)).1=(aK s [] a.q).1:=j;have y:(aK s [] a.q).1=(aK s [] c.q).1:=n.same (.inl rfl);have be:=eB a bj;have a8:=eB c bj;have O:(aK s [] (gI a.q)).1=(aK s [] a.q).1:=eg a bj;have D:(aK s [] (gI c.q)).1=(aK s [] c.q).1:=eg c bj;have R:=xX (v.good _ g2) gD (by rw[U,O,j]) (by rw[U];omega);have A:=uW (on:=[]) (gr:=[]) (od:=[]) (li:=0) T v aD (show arity 8=2 from rfl) g2 F R.1;have A:Aj s ts (bR (cK a.env k) ts).1 (bR (cK a.env k) ts).2 (iB (gI a.q) (aM ts k)):=by rw[<-U];exact A
   have a2:=dH (cK a.env k) ts;rw[U]at R;have R1:=uB o a B W (b+B) _ _ rs (FQ.mono A.pre A.inv.ok a (M a bj)) A.inv A.lt (by rw[A.is,R.2];exact O) (J a bj) Q (by rw[A.is];unfold iB;rw[L0 bk bk];omega) aD aD;rw[A.is]at R1;have R1:=R1.shift A.pre;have a0:=fZ a (bR (cK a.env k) ts).2 (bR (cK a.env k) ts).1 rs;show xO s ts rs (eZ c _ _ _) (j6 (pN s) a.q (iB (gI a.q) (aM ts k))++j6 (pN s) c.q (iB (gI c.q) (aM ts k)));generalize hZ:eZ a (bR (cK a.env k) ts).2 (bR (cK a.env k) ts).1 rs=Z at*
   have f:k<Z.1.length/\aM Z.1 k=aM ts k:=⟨Nat.lt_of_lt_of_le F R1.pre.length_le,eA R1.pre R1.inv.ok k F⟩
   have u:c.env<Z.1.length/\aM Z.1 c.env=aM ts c.env:=⟨Nat.lt_of_lt_of_le k2 R1.pre.length_le,eA R1.pre R1.inv.ok _ k2⟩
   have C:=xX (R1.inv.good _ u.1) (R1.inv.good k f.1) (by rw[u.2,f.2,L,D,j,y]) (by rw[u.2,f.2,L];omega);have P2:=uW (on:=[]) (gr:=[]) (od:=[]) (li:=0) T R1.inv aD (show arity 8=2 from rfl) u.1 f.1 C.1;have P2:Aj s Z.1 (bR (cK c.env k) Z.1).1 (bR (cK c.env k) Z.1).2 (iB (gI c.q) (aM ts k)):=by rw[<-L, <-u.2, <-f.2];exact P2
   have a1:=dH (cK c.env k) Z.1;rw[u.2,f.2,L]at C;have z:=R1.pre.trans P2.pre;have R2:=uB o c B W (b+B) _ _ Z.2 (FQ.mono z P2.inv.ok c (M c bj)) P2.inv P2.lt (by rw[P2.is,C.2];exact D) (J c bj) Q (by rw[P2.is];unfold iB;rw[L0 bk bk];omega) aD aD;rw[P2.is]at R2;exact R1.comp P2.pre R2
  .obtain⟨a,c,rfl⟩:=qT (l:=args) (by rw[I];rfl);simp only[pP]at H hl;have e1:W*(1+(jI a+(jI c+0)))=W+W*jI a+W*jI c:=by rw[Nat.mul_add,Nat.mul_one,Nat.add_zero,Nat.mul_add];omega
   obtain⟨g0,g2,V,U,g5,g6⟩:=Y a bj;obtain⟨k0,k2,k3,L,k5,k6⟩:=Y c bj;have j:(aK s [] (aM ts k)).1=(aK s [] a.q).1:=j;have y:(aK s [] a.q).1=(aK s [] c.q).1:=n.same (.inr (.inl rfl));have ba:=J a bj;have a8:=eB c bj;have D:(aK s [] (gI c.q)).1=(aK s [] c.q).1:=eg c bj;have R1:=uB o a B W b k ts rs (M a bj) v F j ba Q hb aD aD;have a0:=fZ a k ts rs;show xO s ts rs (eZ c _ _ _) (j6 (pN s) a.q (aM ts k)++j6 (pN s) c.q (iB (iB (gI c.q) (aM ts k)) a.q));generalize hZ:eZ a k ts rs=Z at*
   have f:k<Z.1.length/\aM Z.1 k=aM ts k:=⟨Nat.lt_of_lt_of_le F R1.pre.length_le,eA R1.pre R1.inv.ok k F⟩
   have u:c.env<Z.1.length/\aM Z.1 c.env=aM ts c.env:=⟨Nat.lt_of_lt_of_le k2 R1.pre.length_le,eA R1.pre R1.inv.ok _ k2⟩
   have G:a.rows<Z.1.length/\aM Z.1 a.rows=aM ts a.rows:=⟨Nat.lt_of_lt_of_le g0 R1.pre.length_le,eA R1.pre R1.inv.ok _ g0⟩
   have C:=xX (R1.inv.good _ u.1) (R1.inv.good k f.1) (by rw[u.2,f.2,L,D,j,y]) (by rw[u.2,f.2,L];omega);have P2:=uW (on:=[]) (gr:=[]) (od:=[]) (li:=0) T R1.inv aD (show arity 8=2 from rfl) u.1 f.1 C.1;have P2:Aj s Z.1 (bR (cK c.env k) Z.1).1 (bR (cK c.env k) Z.1).2 (iB (gI c.q) (aM ts k)):=by rw[<-L, <-u.2, <-f.2];exact P2
   have a1:=dH (cK c.env k) Z.1;rw[u.2,f.2,L]at C;have bX:fE 4 (iB (gI c.q) (aM ts k))<=b+B:=by unfold iB;rw[L0 bk bk];omega
   have E:=P2.keep G.1;have S:=xX (P2.inv.good _ P2.lt) (P2.inv.good _ E.1) (by rw[P2.is,E.2,G.2,V,C.2,D,y]) (by rw[P2.is,E.2,G.2,V];omega);have P3:=uW (on:=[]) (gr:=[]) (od:=[]) (li:=0) T P2.inv aD (show arity 8=2 from rfl) P2.lt E.1 S.1;have P3:Aj s (bR (cK c.env k) Z.1).1 (bR (cK (bR (cK c.env k) Z.1).2 a.rows) (bR (cK c.env k) Z.1).1).1 (bR (cK (bR (cK c.env k) Z.1).2 a.rows) (bR (cK c.env k) Z.1).1).2 (iB (iB (gI c.q) (aM ts k)) a.q):=by rw[<-P2.is, <-V, <-G.2, <-E.2];exact P3
   have b4:=dH (cK (bR (cK c.env k) Z.1).2 a.rows) (bR (cK c.env k) Z.1).1;rw[P2.is,E.2,G.2,V]at S;have z:=(R1.pre.trans P2.pre).trans P3.pre;have R2:=uB o c B W (b+2*B) _ _ Z.2 (FQ.mono z P3.inv.ok c (M c bj)) P3.inv P3.lt (by rw[P3.is,S.2,C.2];exact D) (J c bj) Q (by rw[P3.is];unfold iB at bX⊢;rw[L0 bk bk];omega) aD aD;rw[P3.is]at R2;exact R1.comp (P2.pre.trans P3.pre) R2
  .obtain⟨a,c,rfl⟩:=qT (l:=args) (by rw[I];rfl);simp only[pP]at H hl;have e1:W*(1+(jI a+(jI c+0)))=W+W*jI a+W*jI c:=by rw[Nat.mul_add,Nat.mul_one,Nat.add_zero,Nat.mul_add];omega
   obtain⟨g0,g2,V,U,g5,g6⟩:=Y a bj;obtain⟨k0,k2,k3,L,k5,k6⟩:=Y c bj;have j:(aK s [] (aM ts k)).1=(aK s [] a.q).1:=j;have y:(aK s [] a.q).1=(aK s [] c.q).1:=n.same (.inr (.inr (.inl rfl)));have ba:=J a bj;have a8:=eB c bj;have D:(aK s [] (gI c.q)).1=(aK s [] c.q).1:=eg c bj;have R1:=uB o a B W b k ts rs (M a bj) v F j ba Q hb aD aD;have a0:=fZ a k ts rs;show xO s ts rs (eZ c _ _ _) (j6 (pN s) a.q (aM ts k)++j6 (pN s) c.q (iB (iB (gI c.q) (aM ts k)) a.q));generalize hZ:eZ a k ts rs=Z at*
   have f:k<Z.1.length/\aM Z.1 k=aM ts k:=⟨Nat.lt_of_lt_of_le F R1.pre.length_le,eA R1.pre R1.inv.ok k F⟩
   have u:c.env<Z.1.length/\aM Z.1 c.env=aM ts c.env:=⟨Nat.lt_of_lt_of_le k2 R1.pre.length_le,eA R1.pre R1.inv.ok _ k2⟩
   have G:a.rows<Z.1.length/\aM Z.1 a.rows=aM ts a.rows:=⟨Nat.lt_of_lt_of_le g0 R1.pre.length_le,eA R1.pre R1.inv.ok _ g0⟩
   have C:=xX (R1.inv.good _ u.1) (R1.inv.good k f.1) (by rw[u.2,f.2,L,D,j,y]) (by rw[u.2,f.2,L];omega);have P2:=uW (on:=[]) (gr:=[]) (od:=[]) (li:=0) T R1.inv aD (show arity 8=2 from rfl) u.1 f.1 C.1;have P2:Aj s Z.1 (bR (cK c.env k) Z.1).1 (bR (cK c.env k) Z.1).2 (iB (gI c.q) (aM ts k)):=by rw[<-L, <-u.2, <-f.2];exact P2
   have a1:=dH (cK c.env k) Z.1;rw[u.2,f.2,L]at C;have bX:fE 4 (iB (gI c.q) (aM ts k))<=b+B:=by unfold iB;rw[L0 bk bk];omega
   have E:=P2.keep G.1;have S:=xX (P2.inv.good _ P2.lt) (P2.inv.good _ E.1) (by rw[P2.is,E.2,G.2,V,C.2,D,y]) (by rw[P2.is,E.2,G.2,V];omega);have P3:=uW (on:=[]) (gr:=[]) (od:=[]) (li:=0) T P2.inv aD (show arity 8=2 from rfl) P2.lt E.1 S.1;have P3:Aj s (bR (cK c.env k) Z.1).1 (bR (cK (bR (cK c.env k) Z.1).2 a.rows) (bR (cK c.env k) Z.1).1).1 (bR (cK (bR (cK c.env k) Z.1).2 a.rows) (bR (cK c.env k) Z.1).1).2 (iB (iB (gI c.q) (aM ts k)) a.q):=by rw[<-P2.is, <-V, <-G.2, <-E.2];exact P3
   have b4:=dH (cK (bR (cK c.env k) Z.1).2 a.rows) (bR (cK c.env k) Z.1).1;rw[P2.is,E.2,G.2,V]at S;have z:=(R1.pre.trans P2.pre).trans P3.pre;have R2:=uB o c B W (b+2*B) _ _ Z.2 (FQ.mono z P3.inv.ok c (M c bj)) P3.inv P3.lt (by rw[P3.is,S.2,C.2];exact D) (J c bj) Q (by rw[P3.is];unfold iB at bX⊢;rw[L0 bk bk];omega) aD aD;rw[P3.is]at R2;exact R1.comp (P2.pre.trans P3.pre) R2
  .obtain⟨a,c,rfl⟩:=qT (l:=args) (by rw[I];rfl);simp only[pP]at H hl;have e1:W*(1+(jI a+(jI c+0)))=W+W*jI a+W*jI c:=by rw[Nat.mul_add,Nat.mul_one,Nat.add_zero,Nat.mul_add];omega
   have j:(aK s [] (aM ts k)).1=(aK s [] a.q).1:=j;have y:(aK s [] a.q).1=(aK s [] c.q).1:=n.same (.inr (.inr (.inr rfl)));have a3:kT (aK s [] a.q).1 gr od li:=n.rank (.inr rfl);rw[y]at a3;have R1:=uB o a B W b k ts rs (M a bj) v F j (J a bj) Q hb aD aD;have a0:=fZ a k ts rs;show xO s ts rs (eZ c _ _ _) (j6 (pN s) a.q (aM ts k)++j6 (pN s) c.q (Aw (jR (gI c.q) (aM ts k) (rG gr)) c.q gr od li));generalize hZ:eZ a k ts rs=Z at*
   have f:k<Z.1.length/\aM Z.1 k=aM ts k:=⟨Nat.lt_of_lt_of_le F R1.pre.length_le,eA R1.pre R1.inv.ok k F⟩
   have P:=X9 (gr:=gr) (od:=od) (li:=li) (B:=B) (b:=b) T R1.inv aD f.1 (FQ.mono R1.pre R1.inv.ok c (M c bj)) (by rw[f.2,j,y]) a3 (J c bj) (by rw[f.2];exact hb) aD;rw[f.2]at P;have a1:=Bf c k gr od li Z.1;have z:=R1.pre.trans P.1.pre;have R2:=uB o c B W (b+2*B) _ _ Z.2 (FQ.mono z P.1.inv.ok c (M c bj)) P.1.inv P.1.lt (by rw[P.1.is];exact P.2.1) (J c bj) Q (by rw[P.1.is];exact P.2.2) aD aD;rw[P.1.is]at R2;exact R1.comp P.1.pre R2
 termination_by p=>SizeOf.sizeOf p
def bvJ:Vc.Spec:=λd m h K=>∃(s:Sl)(g:Nat)(c:bw)(l:bx)(p:cd->Bool),d=[cS s,.val (.func (.func g) #[] ⟨c⟩)]/\Rows h s l/\l.length<=1000000/\(∀(u:Sl)(r:cd),r∈l->cA h u r->FAt Tryz.prog g 4 (cS u::c.map .val) m h (λx m' h'=>x=[.bool (p r)]/\m'=m/\h'=h))/\
 ∀e h',PH.le h h'->Rows h' e (l.filter p)->K (cS e) m h'
def bwZ:Vc.Spec:=λc m h K=>∃s u l r,c=[cS s,cS u,.val (.func (.func 118) #[] #[])]/\Rows h s l/\j9 l/\cA h u r/\l.length<=1000000/\K (.tup [cI ((l.countP λy=>decide (dP y r<0):Nat):Int),cB (G6 l r)]) m h
def a0Z:Vc.Spec:=λc m h K=>∃s u l r,c=[cS s,cS u]/\Rows h s l/\j9 l/\cA h u r/\l.length<=1000000/\K (cB (G6 l r)) m h
def Ro:Vc.Spec:=λc m h K=>∃s l,c=[cS s]/\Rows h s l/\l.length<=1000000/\(∀r∈l,r.length<=1000)/\∀d h',PH.le h h'->Rows h' d l->K (cS d) m h'
def oH(r:cd):ByteArray:=⟨(r.flatMap xD).toArray⟩
def Rn:Vc.Spec:=λd m h K=>∃s t r c,d=[cS s,cS t]/\cA h s r/\Ints h t c/\SD r/\jC r.length c/\fM m/\K (U7 (oH (pick r c))) m h
def YW:Vc.Spec:=λc m h K=>∃n:Nat,c=[.val (.slice none 0 0),cI n]/\n<=4000000/\K (.lst 100 1 []) m h
def Rp:Vc.Spec:=λc m h K=>∃f d e,c=[cS f]/\Leaves h f [d,e]/\d.length<=1000000/\e.length<=1000000/\∀g h',PH.le h h'->Rows h' g (d++e)->K (cS g) m h'
noncomputable def aLZ(s:Sl)(g:Nat)(c:bw)(m:MH)(h:PH):Ctx:=
 uC [] [(3,{A:=Nat×ce,st:=λ⟨i,d⟩=>bY 23 25 [(1,vv (.func (.func g) #[] ⟨c⟩)),(5,.at (.lst 20)),(8,sv s),(9,iv s.len),(10,iv i)] [(20,.lst 100 1 (d.map eS))] m h})] [] [] [510004] [] false
noncomputable def aEJ(s u:Sl)(m:MH)(h:PH):Ctx:=
 cW [(118,Hh)] [(3,{A:=Nat×Nat,st:=λ⟨i,j⟩=>bY 49 52 [(0,sv s),(1,sv u),(2,vv (.func (.func 118) #[] #[])),(8,iv s.len),(9,iv i),(10,iv j)] [] m h})] [] [] false
noncomputable def bcJ(s:Sl)(m:MH):Ctx:=
 cW [(62,SI)] [(3,{A:=Nat×ce×PH,st:=λ⟨i,c,h⟩=>bY 23 24 [(3,.at (.lst 8)),(9,sv s),(10,iv s.len),(11,iv i)] [(8,.lst 100 1 (c.map eS))] m h})] [] [] false
noncomputable def aKZ(s t:Sl)(m:MH)(h:PH):Ctx:=
 uC [(174,bzZ)] [(3,{A:=Nat×cn,st:=λ⟨i,l⟩=>bY 23 25 [(0,sv s),(5,.at (.lst 19)),(8,sv t),(9,iv t.len),(10,iv i)] [(19,.lst 5 1 (bE l))] m h})] [] [] [] [(174,[0])] false
noncomputable def aKX(c:Sl)(m:MH)(h:PH):Ctx:=
 cW [(175,YW)] [(3,{A:=Nat×Nat,st:=λ⟨i,n⟩=>bY 36 37 [(0,sv c),(3,iv n),(9,sv c),(10,iv c.len),(11,iv i)] [] m h}),
  (11,{A:=Nat×ce,st:=λ⟨i,l⟩=>bY 36 37 [(6,.at (.lst 24)),(25,sv c),(26,iv c.len),(27,iv i)] [(24,.lst 100 1 (l.map eS))] m h})] [] [] false
abbrev My(a:(Nat×ce->Prop)->(Nat×ce)->Prop)(b:(Nat×ce->Prop)->(Nat×ce->Nat)->(Nat×ce)->Prop):Prop:=∃(x:Nat×ce->Prop)(d:Nat×ce->Nat),(∃(c:Nat×ce),a x c)/\∀(c:Nat×ce),b x d c
attribute [push_cast] My
def QK(s:Sl)(g:Nat)(c:bw)(m:MH)(h:PH)(K:bu):Prop:=
  My (λI x=>aA (I x) (eQ (Ev g (Array.mk c))) (aA (eL 20) (aJ s) (aA (bI s) (bF x.1) (aA (AH x.2) (m=m) (bD h h))))) (λI n x=>I x->bA (↑x.1:Int) (aG s) (aW (λb o=>aI (aX s.a b o) (0<=(↑x.1:Int)) ((↑x.1:Int)<aG s) (∃(y:Sl),aU m h b (bN o x.1 1) (aY y)/\∃(R:Bool->MH->PH->Prop),A4 g 4 (dN y::List.map CV.val c) m h (λl e f=>∃(j:Bool),l=tK j/\R j e f)/\∀(j:Bool),eX (λe f=>gL (R j e f) j (jZ (fP x.2) 24 (∃(d:Nat×ce),aA (I d) (n d<n x) (aA (eQ (Ev g (Array.mk c))) (eL 20) (aA (aJ s) (bI s) (aA (fU (bG x.1 1)=bP d.1) (qL 1 (fK (fP x.2) (aY y)) d.2) (bS (e=m) f h)))))) (∃(d:Nat×ce),aA (I d) (n d<n x) (aA (eQ (Ev g (Array.mk
 c))) (eL 20) (aA (aJ s) (bI s) (aA (fU (bG x.1 1)=bP d.1) (qM x.2 d.2) (bS (e=m) f h))))))))) (sW h (fP x.2) K m))
noncomputable abbrev F6(a:Nat×Nat):Int:=iE (Int.fdiv (Ny (bG a.1 (↑a.2:Int))) 2)
attribute [push_cast] F6
def Qc(s u:Sl)(m:MH)(h:PH)(K:bu):Prop:=
  Gx (λI x=>aA (I x) (aJ s) (aA (aJ u) (yS 118) (aA (bI s) (bF x.1) (aA (bP s.len=bP x.2) (m=m) (bD h h))))) (λI f x=>I x->bA (↑x.1:Int) (↑x.2:Int) (aW (λb o=>aI (aX s.a b o) (0<=F6 x) (F6 x<aG s) (∃(y:Sl),aU m h b (gC o (F6 x) 1) (aY y)/\∃(d:Sl),oK (λt a=>∃(e:cd),aI (dX y u=dX d t) (cA h d a) (cA h t e) (bA (dP a e) 0 (∃(c:Nat×Nat),aA (I c) (f c<f x) (aA (aJ s) (aJ u) (aA (yS 118) (bI s) (aA (SV.at (At.val (dY (iE (F6 x+1))))=bP c.1) (cJ x.2 c.2) (bS (m=m) h h))))) (∃(c:Nat×Nat),aA (I c) (f c<f x) (aA (aJ s) (aJ u) (aA (yS 118) (bI s) (aA (cJ x.1 c.1) (SV.at (At.val (dY (F6 x)))=bP c.2) (bS (m=m) h h))))))))))
 (bA (↑x.1:Int) (aG s) (aW (λb o=>aI (aX s.a b o) (0<=(↑x.1:Int)) ((↑x.1:Int)<aG s) (∃(y:Sl),aU m h b (bN o x.1 1) (aY y)/\∃(d:Sl),oK (λt a=>∃(e:cd),aI (dX y u=dX d t) (cA h d a) (cA h t e) (K (CV.tup (bK (eG (↑x.1:Int)) (xZ (dP a e==0)))) m h))))) (K (CV.tup (bK (eG (↑x.1:Int)) bB)) m h)))
abbrev Kb(a:Sl->Sl->bx->cd->Prop):Prop:=lE (λx c=>∃(d:bx)(e:cd),a x c d e)
abbrev Bv(a:bx):Prop:=a.length<=1000000
attribute [push_cast] Kb Bv
def agX(s u:Sl)(m:MH)(h:PH)(K:bu):Prop:=
  Kb (λc d l r=>aA (AU s u 118=AU c d 118) (Rows h c l) (aA (j9 l) (cA h d r) (Bv l/\K (xZ (G6 l r)) m h)))
abbrev IC(a:Sl)(b:Nat->Nat->Option Value)(c:Sl->PH->Prop):Prop:=oK (λx d=>aI (iN a=iN x) (cA b x d) (lR d.length) (∀(f:Sl)(e:PH),cD b e (cA e f d) (c f e)))
attribute [push_cast] IC
def Ui(s:Sl)(m:MH)(h:PH)(K:bu):Prop:=
  aA (bZ (aG s)) (y7 s) (aA (tF s 24) (rF (aG s)) (Mv (λI x=>aA (I x) (eL 8) (aA (aJ s) (bI s) (aA (bF x.1) (qL 1 (wC (aG s) iT) x.2.1) (aA (m=m) (h=mB x) True)))) (λI d x=>I x->bA (↑x.1:Int) (aG s) (aW (λb o=>aI (aX s.a b o) (0<=(↑x.1:Int)) ((↑x.1:Int)<aG s) (∃(y:Sl),aU m (mB x) b (bN o x.1 1) (aY y)/\IC y (mB x) (λf g=>qK (↑x.1:Int) (wD x) (λe=>aA (oA (wD x) (↑x.1:Int) e) (0<e.length) (∃(c:Nat×ce×PH),aA (I c) (d c<d x) (aA (eL 8) (aJ s) (aA (bI s) (fU (bG x.1 1)=bP c.1) (aA (qL 1 (List.set (wD x) (↑x.1:Int).toNat (tZ (gU f) 1 e)) c.2.1) (m=m) (bD g (mB c))))))))))) (sW (mB x) (wD x) K m))))
def QH(s t:Sl)(m:MH)(h:PH)(K:bu):Prop:=
  ∃(I:Nat×cn->Prop)(e:Nat×cn->Nat),(∃(x:Nat×cn),aA (I x) (aJ s) (aA (eL 19) (aJ t) (aA (bI t) (bF x.1) (aA (tY 5 1 (bE x.2)) (m=m) (bD h h)))))/\∀(x:Nat×cn),I x->bA (↑x.1:Int) (aG t) (aW (λb o=>aI (aX t.a b o) (0<=(↑x.1:Int)) ((↑x.1:Int)<aG t) (∃(y:Int),aU m h b (bN o x.1 1) (bJ y)/\aW (λf g=>aI (aX s.a f g) (0<=y) (y<aG s) (∃(j:VV),aU m h f (gC g y 3) j.enc/\∃(d:List bw)(v:VV),aI (sU (bE x.2) (hX j)=sU d (hX v)) (fM m) (oL (jJ d v.text.size+500)) (∃(c:Nat×cn),aA (I c) (e c<e x) (aA (aJ s) (eL 19) (aA (aJ t) (bI t) (aA (fU (bG x.1 1)=bP c.1) (cH 5 1 (gZ d (xD v))=cH 5 1 (bE
 c.2)) (bS (m=m) h h)))))))))) (∃(b:cn),bE x.2=bE b/\K (jU (ByteArray.mk (Array.mk b))) m h)
def Qd(n:Nat)(m:MH)(h:PH)(K:bu):Prop:=
  gM (iE ((↑n:Int)-iE ((0:Int)-0))) 0 (aA (bZ 0) (bZ 0) (aA (0<iE ((↑n:Int)-0)) (Hz (iE ((↑n:Int)-0)*24)) (aI (Hz (iE ((↑n:Int)-0))) ((0:Int)<=0) (bZ (qF (wC (iE ((↑n:Int)-0)) iT))) (K (CV.lst 100 1 []) m h)))) (K (CV.lst 100 1 []) m h)
def QG(d:Sl)(m:MH)(h:PH)(K:bu):Prop:=
  Gx (λI x=>aA (I x) (aJ d) (aA (bF x.2) (aJ d) (aA (bI d) (bF x.1) (aA (m=m) (h=h) True)))) (λI g x=>I x->bA (↑x.1:Int) (aG d) (aW (λb o=>aI (aX d.a b o) (0<=(↑x.1:Int)) ((↑x.1:Int)<aG d) (∃(y:Sl),aU m h b (bN o x.1 1) (aY y)/\bA (bG x.2 (aG y)) 0 False (∃(c:Nat×Nat),aA (I c) (g c<g x) (aA (aJ d) (fU (bG x.2 (aG y))=bP c.2) (aA (aJ d) (bI d) (aA (fU (bG x.1 1)=bP c.1) (m=m) (bD h h)))))))) (∃(n:Nat),aA (Eb x.2=Eb n) (n<=4000000) (My (λI1 c=>aA (I1 c) (eL 24) (aA (aJ d) (bI d) (aA (bF c.1) (AH c.2) (aA (m=m) (h=h) True)))) (λI1 j c=>I1 c->bA (↑c.1:Int) (aG d) (aW (λb o=>aI (aX d.a b o) (0<=(↑c.1:Int)) ((↑c.1:Int)<
 aG d) (∃(y:Sl),aU m h b (bN o c.1 1) (aY y)/\∃(e:List bw),aA (eW 1 e) (dK h (Sl.mk y.a y.len y.cap) 1 e) (aA (tS (fP c.2) e 24) (oS (fP c.2) e) (∃(f:Nat×ce),aA (I1 f) (j f<j c) (aA (eL 24) (aJ d) (aA (bI d) (fU (bG c.1 1)=bP f.1) (aA (qL 1 (fP c.2++e) f.2) (m=m) (bD h h))))))))) (sW h (fP c.2) K m)))))
theorem U5{u v:VV}{r r':cn}(e:VOk u)(f:VOk v)(h:xD u++r=xD v++r'):u=v/\r=r':=by
 have z:tN 0:=⟨bk,bk⟩
 have c:∀w:VV,VOk w->Vp ⟨0,0,w⟩:=λw d=>⟨z,z,d.kind,d.int,by have:=d.text;show w.text.size<=_;omega⟩
 have:=Hs (o:=⟨0,0,u⟩) (o':=⟨0,0,v⟩) (r:=r) (r':=r') (c u e) (c v f) (by simp only[BL,append_assoc,h]);exact⟨by injection this.1,this.2⟩
theorem TM:∀{a b:cd},a.length=b.length->(∀v∈a,VOk v)->(∀v∈b,VOk v)->a.flatMap xD=b.flatMap xD->a=b
 |[],[],_,_,_,_=>rfl
 |x::a,y::b,c,e,f,h=>by
  simp only[flatMap_cons]at h;obtain⟨g,j⟩:=U5 (e x (mem_cons_self ..)) (f y (mem_cons_self ..)) h;rw[g,TM (bo c) (λv d=>e v (mem_cons_of_mem _ d)) (λv d=>f v (mem_cons_of_mem _ d)) j]
 |[],_::_,c,_,_,_=>by simp at c
 |_::_,[],c,_,_,_=>by simp at c
theorem Ji:amZ oH:=⟨fun{a b} c d e=>⟨λh=>by
 simp only[oH,ByteArray.mk.injEq]at h;exact TM c d e (bo (congrArg Array.toList h)),λh=>by rw[h]⟩⟩
theorem aAQ{P:Program}{f:FuncId}{T:TypeId}{c:ct}{R R':bw->MH->PH->Prop}(x:FAt P f T c m h R)(d:∀l m' h',R l m' h'->R' l m' h'):FAt P f T c m h R':=
 ⟨x.fn,λg w e j=>(x.go g w e j).mono λ_ _⟨l,m',h',n,o,u⟩=>⟨l,m',h',n,d _ _ _ o,u⟩⟩
theorem Xi:br 120 bvJ:=by
 refine hJ func120 ?_;rintro E m h K ⟨s,g,c,l,p,rfl,B,P,F,G⟩;refine⟨aLZ s g c m h,rfl,aH,QK s g c m h K,bi,?_⟩;dsimp only[QK,push_cast];have n:=bV.slen B;refine⟨λx=>x.1<=l.length/\x.2.length<=x.1/\gS h x.2 ((l.take x.1).filter p),λx=>l.length-x.1,⟨(0,[]),⟨bj,bj,bo (gS.nil h)⟩,MT⟩,?_⟩;rintro⟨i,C⟩ ⟨H,y,d⟩;dsimp only at H y d;refine aF (λf=>?_) (λz=>?_)
 .dsimp only at f⊢
  obtain⟨r,j⟩:=eF n f;obtain⟨b,o,u,I,rd,D⟩:=bV.at B j;refine⟨b,o,I,aD,aD,u,.imm rd,λt m' h'=>t=p r/\m'=m/\h'=h,aAQ (F u r (mem_of_getElem? j) D) (λx m' h'⟨J,L,M⟩=>⟨p r,J,rfl,L,M⟩),?_⟩;rintro t m' h' ⟨rfl,rfl,rfl⟩;refine aC (λe=>⟨by rw[length_map];omega,by rw[length_map];omega,(i+1,C++[u]),⟨by dsimp only;omega,by simp;omega,?_⟩,by dsimp only;omega,?_⟩) (λe=>⟨(i+1,C),⟨by dsimp only;omega,by dsimp only;omega,?_⟩,by dsimp only;omega,?_⟩)
  .rw[vO _ j,if_pos e];exact d.snoc D
  .rw[kA aD,map_append];exact MT
  .rw[vO _ j,if_neg (by rw[e];simp),append_nil];exact d
  .rw[kA aD];exact MT
 .dsimp only at z⊢
  rw[take_of_length_le aD]at d;intro O h' le A;exact G O h' le ((d.mono le).rows A (by have:=d.len;omega))
theorem Xy{l:bx}{r:cd}(x:j9 l)(z:i<=l.length)(g:∀j y,j<i->l[j]? =some y->dP y r<0)(n:∀j y,i<=j->l[j]? =some y->¬dP y r<0):(l.countP λy=>decide (dP y r<0))=i:=by
 have e:l.countP (λy=>decide (dP y r<0))=(l.take i).countP (λy=>decide (dP y r<0))+(l.drop i).countP λy=>decide (dP y r<0):=by
  rw[<-countP_append,take_append_drop]
 have o:(l.take i).countP (λy=>decide (dP y r<0))=(l.take i).length:=countP_eq_length.2 λy d=>by
  obtain⟨j,c⟩:=getElem?_of_mem d;have f:=(List.getElem?_eq_some_iff.1 c).1;rw[length_take]at f;rw[getElem?_take,if_pos aD]at c;simpa using g j y aD c
 have u:(l.drop i).countP (λy=>decide (dP y r<0))=0:=countP_eq_zero.2 λy d=>by
  obtain⟨j,c⟩:=getElem?_of_mem d;rw[getElem?_drop]at c;simpa using n (i+j) y aD c
 rw[e,o,u,length_take];omega
theorem JV{l:bx}(d:j9 l){j:Nat}{x y:cd}(c:i<j)(e:l[i]? =some x)(f:l[j]? =some y):dP x y<0:=by
 obtain⟨g,rfl⟩:=List.getElem?_eq_some_iff.1 e;obtain⟨n,rfl⟩:=List.getElem?_eq_some_iff.1 f;exact pairwise_iff_getElem.1 d i j g n c
theorem ayQ{j:Nat}(h:i+j<=4000000):IntKind.i64.wrap ((IntKind.u64.wrap (IntKind.i64.wrap ((i:Int)+(j:Int)))).fdiv 2)=(((i+j)/2:Nat):Int):=by
 rw[dT (n:=(i:Int)+j) aD aD,Pb aD aD,Int.fdiv_eq_ediv_of_nonneg _ aD];have:((i:Int)+j)/2=(((i+j)/2:Nat):Int):=by omega
 rw[this,dT aD aD]
theorem WC:br 176 bwZ:=by
 refine hJ func176 ?_;rintro Z m h K ⟨s,u,l,r,rfl,L,g,W,hl,F⟩;refine⟨aEJ s u m h,rfl,aE BC aH,Qc s u m h K,bi,?_⟩;dsimp only[Qc,push_cast];have M:=bV.slen L;refine⟨λx=>x.1<=x.2/\x.2<=l.length/\(∀j y,j<x.1->l[j]? =some y->dP y r<0)/\∀j y,x.2<=j->l[j]? =some y->¬dP y r<0,λx=>x.2-x.1,⟨(0,l.length),⟨bj,bj,λj y G=>by omega,λj y G c=>by have:=(List.getElem?_eq_some_iff.1 c).1;omega⟩,?_⟩,?_⟩
 .rw[M];exact MT
 rintro⟨i,j⟩ ⟨O,G,n,z⟩;dsimp only at O G n z;refine aF (λB=>?_) (λP=>?_)
 .dsimp only at B⊢
  have B:i<j:=by omega
  rw[ayQ aD];have Q:i<=(i+j)/2:=by omega
  have R:(i+j)/2<j:=by omega
  generalize (i+j)/2=k at Q R;have d:l[k]? =some (l[k]'(by omega)):=getElem?_eq_getElem _;generalize l[k]'(by omega)=x at d;obtain⟨b,o,e,S,rd,T⟩:=bV.at L d;refine⟨b,o,S,aD,aD,e,.imm rd,e,u,x,r,rfl,T,W,aF (λH=>⟨(k+1,j),⟨by dsimp only;omega,G,λU y C c=>?_,z⟩,by dsimp only;omega,?_⟩) (λH=>⟨(i,k),⟨by dsimp only;omega,by dsimp only;omega,n,λU y C c J=>?_⟩,by dsimp only;omega,?_⟩)⟩
  .by_cases D:U=k
   .subst D;rw[d]at c;cases c;exact H
   .exact EF (JV g (by dsimp only at C;omega) c d) H
  .rw[kA aD];exact MT
  .by_cases D:U=k
   .subst D;rw[d]at c;cases c;exact H J
   .exact H (EF (JV g (by dsimp only at C;omega) d c) J)
  .exact MT
 .dsimp only at P⊢
  have:i=j:=by omega
  subst this;rw[Xy g G n z]at F
  have f:(∀y,l[i]? =some y->dP y r≠0)->G6 l r=false:=λJ=>by
   rw[Bool.eq_false_iff];intro V;obtain⟨j,A⟩:=getElem?_of_mem (GJ.1 V);have hz:dP r r=0:=jM.2 rfl;rcases Nat.lt_trichotomy j i with I|I|I
   .have:=n j r I A;omega
   .subst I;exact J r A hz
   .have E:i<l.length:=by have:=(List.getElem?_eq_some_iff.1 A).1;omega
    have d:l[i]? =some l[i]:=getElem?_eq_getElem E;have h3:=JV g I d A;exact z i _ (Nat.le_refl _) d h3
  refine aF (λB=>?_) (λX=>?_)
  .have E:i<l.length:=by omega
   have d:l[i]? =some l[i]:=getElem?_eq_getElem E;generalize l[i]=x at d;obtain⟨b,o,e,S,rd,T⟩:=bV.at L d;refine⟨b,o,S,aD,aD,e,.imm rd,e,u,x,r,rfl,T,W,?_⟩
   have:G6 l r=(dP x r==0):=by
    cases Y:dP x r==0 with
    |true=>
     have:=jM.1 (by simpa using Y:dP x r=0);subst this;exact GJ.2 (mem_of_getElem? d)
    |false=>exact f λy c=>by rw[d]at c;cases c;simpa using Y
   rw[this]at F;exact F
  .rw[f λy c=>by have:=(List.getElem?_eq_some_iff.1 c).1;omega]at F;exact F
theorem Ol:br 130 a0Z:=by
 refine hJ func130 ?_;rintro d m h K ⟨s,u,l,r,rfl,e,c,f,g,j⟩;refine⟨cW [(176,bwZ)] [] [] [] false,rfl,aE WC aH,agX s u m h K,bi,?_⟩;exact⟨s,u,l,r,rfl,e,c,f,g,j⟩
theorem Z0:br 69 Ro:=by
 refine hJ func69 ?_;rintro E m h K ⟨s,l,rfl,C,L,F,G⟩;refine⟨bcJ s m,rfl,aE PO aH,Ui s m h K,bi,?_⟩;dsimp only[Ui,push_cast];have z:=bV.slen C;refine⟨aD,aD,aD,aD,λx=>x.1<=l.length/\PH.le h x.2.2/\∃j,j.length=x.1/\x.2.1=j++replicate (l.length-x.1) ⟨none,0,0⟩/\gS x.2.2 j (l.take x.1),λx=>l.length-x.1,⟨(0,replicate l.length ⟨none,0,0⟩,h),⟨bj,.refl _,[],rfl,bj,bo (gS.nil h)⟩,?_⟩,?_⟩
 .dsimp only;rw[map_replicate,show((s.len:Int)).toNat=l.length by omega];exact MT
 rintro⟨i,M,O⟩ ⟨H,le,j,c,D,g⟩;dsimp only at H le c D g;subst D;refine aF (λy=>?_) (λA=>?_)
 .dsimp only at y⊢
  obtain⟨r,d⟩:=eF z y;obtain⟨b,o,u,I,rd,J⟩:=bV.at C d;refine⟨b,o,I,aD,aD,u,.imm (rd.mono le),u,r,rfl,cA.mono J le,F r (mem_of_getElem? d),λn h' f B=>⟨aD,by simp[c];omega,[pO],?_,bj,(i+1,(j++[n])++replicate (l.length-(i+1)) ⟨none,0,0⟩,h'),⟨by dsimp only;omega,le.trans f,j++[n],by simp[c],rfl,?_⟩,by dsimp only;omega,?_⟩⟩
  .rw[getElem?_map,Int.toNat_natCast,getElem?_append_right aD,getElem?_replicate,if_pos aD];rfl
  .dsimp only;rw[take_add_one,d];exact(g.mono f).snoc B
  .dsimp only
   have e:((j++replicate (l.length-i) (⟨none,0,0⟩:Sl)).map eS).set ((i:Int)).toNat (gU n::List.drop 1 [pO])=((j++[n])++replicate (l.length-(i+1)) (⟨none,0,0⟩:Sl)).map eS:=by
    rw[Int.toNat_natCast,show l.length-i=(l.length-(i+1))+1 by omega,replicate_succ,map_append,set_append,if_neg (by simp[c]),map_append,map_append,append_assoc];simp[c,eS]
   rw[e,kA aD];exact MT
 .dsimp only at A⊢
  have:i=l.length:=by omega
  subst this;rw[Nat.sub_self,replicate_zero,append_nil];rw[take_length]at g;intro n h' f d;exact G n h' (le.trans f) ((g.mono f).rows d aD)
theorem akX{v:VV}(h:v.text.size<=64):(xD v).length<=200:=by
 have c:=fS [v.kind];have e:=xV v.int;have d:=fS [(v.text.size:Int)];have f:v.text.data.toList.length=v.text.size:=Array.length_toList;simp only[xD,length_append,length_cons,length_nil]at c d⊢
 omega
theorem Zu{r:cd}(h:∀v∈r,v.text.size<=64):(r.flatMap xD).length<=200*r.length:=by
 induction r with
 |nil=>simp
 |cons v l c=>
  have f:=akX (h v (mem_cons_self ..));have d:=c (λu e=>h u (mem_cons_of_mem _ e));simp only[flatMap_cons,length_append,length_cons]at d⊢
  omega
theorem BB:br 126 Rn:=by
 refine hJ func126 ?_;rintro H m h K ⟨s,t,r,d,rfl,D,E,I,y,J,L⟩;refine⟨aKZ s t m h,rfl,aE WE aH,QH s t m h K,bi,?_⟩;dsimp only[QH,push_cast];have M:=bV.slen D;have z:=E.slen;have O:=y.len;have P:(pick r d).length=d.length:=by simp[pick]
 have g:∀v∈pick r d,v.text.size<=64:=λv Q=>(I.val v (Tx y Q)).text;refine⟨λx=>x.1<=d.length/\x.2=((pick r d).take x.1).flatMap xD,λx=>d.length-x.1,⟨(0,[]),⟨bj,bj⟩,MT⟩,?_⟩;rintro⟨i,l⟩ ⟨R,F⟩;dsimp only at R F;subst F;refine aF (λf=>?_) (λA=>?_)
 .dsimp only at f;obtain⟨c,j⟩:=eF z f;obtain⟨b,o,e,rd⟩:=E.at j;obtain⟨v,B,n,S,Y⟩:=RS y j;obtain⟨T,U,w,V,C,rfl⟩:=bV.at D B;have W:=Zu (r:=(pick r d).take i) (λu X=>g u (mem_of_mem_take X));have G:=g v (mem_of_getElem? n);refine⟨b,o,e,by dsimp only;omega,f,c,.imm (bo rd),T,U,V,S,aD,v,.imm C,_,v,rfl,J,?_,(i+1,((pick r d).take (i+1)).flatMap xD),⟨by dsimp only;omega,rfl⟩,(by dsimp only;omega),?_⟩
  .rw[aZ];rw[length_take]at W;dsimp only;omega
  .dsimp only;rw[take_add_one,n,flatMap_append,dD];simp only[Option.toList_some,flatMap_cons,flatMap_nil,append_nil];exact MT
 .dsimp only at A⊢
  rw[take_of_length_le aD];exact⟨_,rfl,L⟩
theorem WD:br 175 YW:=by
 refine hJ func175 ?_;rintro d m h K ⟨n,rfl,f,c⟩;refine⟨cW [] [] [] [] true,rfl,aH,Qd n m h K,bi,?_⟩;dsimp only[Qd,push_cast];have e:IntKind.i64.wrap ((n:Int)-0)=n:=by rw[dT aD aD];omega
 have g:IntKind.i64.wrap ((n:Int)-IntKind.i64.wrap (0-0))=n:=by rw[show IntKind.i64.wrap (0-0)=0 from by rw[dT aD aD];rfl,e]
 exact aF (λj=>⟨aD,aD,aD,aD,aD,aD,aD,c⟩) (λ_=>c)
theorem Xc:br 128 Rp:=by
 refine hJ func128 ?_;rintro V m h K ⟨A,R,S,rfl,G,W,X,Y⟩;refine⟨aKX A m h,rfl,aE WD aH,QG A m h K,bi,?_⟩;dsimp only[QG,push_cast];have Z:A.len=2:=bV.slen G
 have g:∀k∈[R,S],k.length<=1000000:=λk d=>by
  rcases mem_cons.1 d with rfl|d
  .exact W
  .rw[mem_singleton.1 d];exact X
 generalize j:[R,S]=ks at G g;have H:ks.length=2:=by rw[<-j];rfl
 have f:∀i,i<=2->((ks.take i).map List.length).sum<=2000000:=λi u=>by
  rw[<-j]
  match i,u with
  |0,_=>simp
  |1,_=>simp;omega
  |2,_=>simp;omega
 refine⟨λx=>x.1<=2/\x.2=((ks.take x.1).map List.length).sum,λx=>2-x.1,⟨(0,0),⟨bj,bj⟩,MT⟩,?_⟩;rintro⟨i,n⟩ ⟨u,T⟩;dsimp only at u T⊢
 subst T;have hb:=f i u;refine aF (λe=>?_) (λB=>?_)
 .obtain⟨k,d⟩:=eF (l:=ks) (n:=A.len) aD e;obtain⟨b,o,z,I,r,y⟩:=bV.at G d;have H:=bV.slen y;have C:=g k (mem_of_getElem? d)
  have hw:IntKind.i64.wrap (((((ks.take i).map List.length).sum:Nat):Int)+(z.len:Int))=((((ks.take (i+1)).map List.length).sum:Nat):Int):=by
   rw[AB d,dT aD aD];omega
  refine⟨b,o,I,aD,e,z,.imm r,?_⟩;rw[hw];exact aF (λU=>by omega) (λ_=>⟨(i+1,((ks.take (i+1)).map List.length).sum),⟨by dsimp only;omega,rfl⟩,by dsimp only;omega,by rw[kA aD];exact MT⟩)
 .refine⟨((ks.take i).map List.length).sum,rfl,aD,λx=>x.1<=2/\x.2.length<=2000000/\gS h x.2 (ks.take x.1).flatten,λx=>2-x.1,⟨(0,[]),⟨bj,bj,bo (gS.nil h)⟩,MT⟩,?_⟩;clear hb B u;rintro⟨i,us⟩ ⟨u,J,c⟩;dsimp only at u J c⊢
  have L:=c.len;rw[length_flatten]at L;refine aF (λe=>?_) (λB z h' D E=>Y z h' D ?_)
  .obtain⟨k,d⟩:=eF (l:=ks) (n:=A.len) aD e;obtain⟨b,o,z,I,r,y⟩:=bV.at G d;obtain⟨⟨F,M,O,P⟩,_⟩:=y;have C:=g k (mem_of_getElem? d);have Q:=f (i+1) aD;rw[AB d]at Q;refine⟨b,o,I,aD,e,z,.imm r,F.map eS,H7 _,M,by simp;omega,by simp;omega,(i+1,us++F),⟨by dsimp only;omega,by simp;omega,?_⟩,by dsimp only;omega,?_⟩
   .dsimp only;rw[take_add_one,d,flatten_append];simp only[Option.toList_some,flatten_cons,flatten_nil,append_nil];exact c.app ⟨O.symm,P⟩
   .rw[kA aD,map_append];exact MT
  .rw[take_of_length_le aD, <-j]at c;simp only[flatten_cons,flatten_nil,append_nil]at c;exact(c.mono D).rows E (by simp;omega)
def ON:Vc.Spec:=λc m h K=>∃s t d v od a b,c=[cS s,cS t,cP d]/\m d=some (.cells ⟨uD.enc v⟩ 111 (0,0))/\jD h v.order od/\cA h s a/\cA h t b/\K (cI (lF od a b)) m h
def YG:Vc.Spec:=λd m h K=>∃(s:Sl)(e:Nat)(v:uD)(od:ca)(w:Nat)(ps:cz),d=[cS s,.val (.func (.func 177) #[] #[.pointer (some ⟨e,0,none⟩)])]/\m e=some (.cells ⟨uD.enc v⟩ 111 (0,0))/\(∀i,s.a≠some ⟨e,i,none⟩)/\jD h v.order od/\eC m s 100 1 (ps.map λp=>eS p.1)/\(∀p∈ps,cA h p.1 p.2)/\(∀p∈ps,p.2.length=w)/\ps.length<=140737488355328/\
 ∀(c:cz)(m':MH),c.Perm ps->c.Pairwise (λp q=>¬lF od q.2 p.2<0)->eC m' s 100 1 (c.map λp=>eS p.1)->(∀b,(∀i,s.a≠some ⟨b,i,none⟩)->m' b=m b)->K (.tup []) m' h
def Vr:Vc.Spec:=λc m h K=>∃v s gr od l w,c=[aT v,cS s]/\Ints h v.group gr/\jD h v.order od/\Rows h s l/\hU w l/\jC w gr/\fM m/\
 ∀y d e f g,m y=none->(∀b,b≠y->d b=m b)->PH.le h e->vJ oH d e y gr od l f g->K (.val (.map (some y))) d e
noncomputable def aKQ(s:Sl):Ctx:=uC [(126,Rn),(171,YG)]
 [(3,{A:=Nat×Nat×Nat×MH×PH,st:=λ⟨b,y,i,m,h⟩=>bY 41 43 [(2,pv b),(5,vv (.map (some y))),(12,sv s),(13,iv s.len),(14,iv i)] [] m h}),
  (9,{A:=Nat×Nat×Nat×MH×PH,st:=λ⟨b,y,r,m,h⟩=>bY 41 43 [(2,pv b),(5,vv (.map (some y))),(32,pv r)] [] m h})] [] [] [200002,1068,400000,0] [] false
def afQ(s t:Sl)(f:Nat)(m:MH)(h:PH)(K:bu):Prop:=
  wO m h f 18 (λy=>lE (λo c=>RW (λd e=>∃(a b:cd),aA (dN y::bK (dN s) (dN t)=dN o::bK (dN c) (dN d)) (jD h o e) (aA (cA h c a) (cA h d b) (K (eG (lF e a b)) m h)))))
abbrev RX(a:Prop)(b:(Nat×Nat×Nat×MH×PH)->Prop):Prop:=a/\∀(x:Nat×Nat×Nat×MH×PH),b x
noncomputable abbrev iY(a:Nat×Nat×Nat×MH×PH):Nat:=a.2.1
noncomputable abbrev jT(a:Nat×Nat×Nat×MH×PH):Nat:=a.2.2.1
noncomputable abbrev rE(a:Nat×Nat×Nat×MH×PH):MH×PH:=a.2.2.2
noncomputable abbrev iK(a:Nat×Nat×Nat×MH×PH):Nat->Nat->Option Value:=a.2.2.2.2
noncomputable abbrev mJ(a:Nat×Nat×Nat×MH×PH):Nat->Option Obj:=(rE a).1
abbrev CN(a:Sl->cd->bt->Prop):Prop:=oK (λx c=>∃(d:bt),a x c d)
noncomputable abbrev iM(a:cd)(b:bt):Value:=Value.string (oH (pick a b))
abbrev Gg(a b:Prop)(c:MH)(d:Nat)(e:cd)(g:bt)(i:dj->Prop)(j:dj->Sl->Prop):Prop:=aA a b (∃(x:dj)(n:Value->Prop),aA (vR c d (List.map (fun(f:Value×Sl)=>(f.1,gU f.2)) x)) (Et n) (aA (n (iM e g)) (∀(f:Value×Sl),List.Mem f x->n f.1) (i x/\∀(f:Sl),j x f)))
abbrev zL(a:cd)(b:bt):Prop:=jC a.length b
abbrev Gh(a:Nat->Option Obj)(b:Nat)(c:cd)(d:bt)(e:ci->Prop)(g:ci->ci->Value->ci->Prop):Prop:=VS (λx j=>aA (vT a b x) (Et j) (aA (j (iM c d)) (C4 (Instr.sameBits 10000 (iM c d) (iM c d))) (aA (∀(f:Value×Value),List.Mem f x->j f.1) ((∀(f:Value×Value),List.Mem f x->f.1=iM c d->False)->e x) (∀(f:ci)(n:Value)(o:ci),g x f n o))))
abbrev Ix(a:MH)(b:Nat×Nat×Nat×MH×PH)(c:MH->Prop)(d:MH->(Nat×Nat×Nat×MH×PH)->Prop):Prop:=∀(x:MH),pX a x (iY b)->c x->∃(e:Nat×Nat×Nat×MH×PH),d x e
abbrev NA(a:Nat->ci->ci->Prop):Prop:=∃(x:Nat)(c d:ci),a x c d
attribute [push_cast] RX iY jT rE iK mJ CN iM Gg zL Gh Ix NA
def KM(v:uD)(s:Sl)(m:MH)(h:PH)(K:bu):Prop:=
  ∀(b:Nat)(O:MH),fC m h b->gO m O b v.enc 111->B7 O h (λS T=>∃(I:Nat×Nat×Nat×MH×PH->Prop)(z:Nat×Nat×Nat×MH×PH->Nat),RX (∃(x:Nat×Nat×Nat×MH×PH),aA (I x) (eU b x.1) (aA (jG S (iY x)) (aJ s) (aA (bI s) (bF (jT x)) (aA (cV T (rE x)) (h=iK x) True)))) (λx=>I x->bA (↑(jT x):Int) (aG s) (aW (λH o=>aI (aX s.a H o) (0<=(↑(jT x):Int)) ((↑(jT x):Int)<aG s) (∃(y:Sl),aU (mJ x) (iK x) H (bN o (jT x) 1) (aY y)/\∃(P:Sl),aU (mJ x) (iK x) x.1 17 (aY P)/\∃(A:Sl),CN (λt r c=>aA (dX y P=dX A t) (cA (iK x) A r) (aA (Ints (iK x) t c) (SD r) (Gg (zL r c) (fM (mJ x)) (mJ x) (iY x) r c (λk=>DE (∀(e:Value×
 Sl),List.Mem e k->e.1=iM r c->False) (λd=>aI (eC (mJ x) (Sl.mk Option.none 0 0) 100 1 d) (iF (jJ d 1) 24) (lO d) (oD (λC j=>jP (mJ x) j (Sl.mk Option.none 0 0) C 100 1 (fK d (aY y))->Gh j (iY x) r c (λn=>Ix j x (λg=>vT g (iY x) (n++CL (iM r c) (gU C))) (λg f=>aA (I f) (z f<z x) (aA (eU x.1 f.1) (jG (iY x) (iY f)) (aA (aJ s) (bI s) (aA (fU (bG (jT x) 1)=bP (jT f)) (cV g (rE f)) (bD (iK x) (iK f))))))) (λn l F B=>n=l++(iM r c,F)::B->Ix j x (λg=>vT g (iY x) (l++(iM r c,gU C)::B)) (λg f=>aA (I f) (z f<z x) (aA (eU x.1 f.1) (jG (iY x) (iY f)) (aA (aJ s) (bI s) (aA (fU (bG (jT x) 1)=
 bP (jT f)) (cV g (rE f)) (bD (iK x) (iK f))))))))))) (λk D=>DE (List.Mem (iM r c,D) k) (λd=>aI (eC (mJ x) (Sl.mk D.a D.len D.cap) 100 1 d) (iF (jJ d 1) 24) (lO d) (oD (λC j=>jP (mJ x) j (Sl.mk D.a D.len D.cap) C 100 1 (fK d (aY y))->Gh j (iY x) r c (λn=>Ix j x (λg=>vT g (iY x) (n++CL (iM r c) (gU C))) (λg f=>aA (I f) (z f<z x) (aA (eU x.1 f.1) (jG (iY x) (iY f)) (aA (aJ s) (bI s) (aA (fU (bG (jT x) 1)=bP (jT f)) (cV g (rE f)) (bD (iK x) (iK f))))))) (λn l F B=>n=l++(iM r c,F)::B->Ix j x (λg=>vT g (iY x) (l++(iM r c,gU C)::B)) (λg f=>aA (I f) (z f<z x) (aA (eU x.1 f.1)
 (jG (iY x) (iY f)) (aA (aJ s) (bI s) (aA (fU (bG (jT x) 1)=bP (jT f)) (cV g (rE f)) (bD (iK x) (iK f))))))))))))))))) (∃(k:ci),jO (vT (mJ x) (iY x) k) (λr=>∀(j:MH),fC (mJ x) (iK x) r->pX (mJ x) j r->lV j (iY x) r k k->∃(I1:Nat×Nat×Nat×MH×PH->Prop)(g:Nat×Nat×Nat×MH×PH->Nat),RX (∃(d:Nat×Nat×Nat×MH×PH),aA (I1 d) (eU x.1 d.1) (aA (jG (iY x) (iY d)) (eU r (jT d)) (bS (cV j (rE d)) (iK x) (iK d)))) (λd=>I1 d->NA (λH n l=>aA (lV (mJ d) H (jT d) n l) (l=[]->K (CV.val (Value.map (Option.some (iY d)))) (mJ d) (iK d)) (∀(B:ci)(f:Value×Value)(Q:ci),l=
 B++f::Q->∀(G:MH),pX (mJ d) G (jT d)->EH G H (jT d) n (B++Q) f->NA (λU V W=>∃(R:Value×Value),EH G U (jT d) V W R/\∃(A:Sl)(J:Nat)(F:uD)(o:ca)(w:Nat)(p:cz),aA (bK (CV.val R.2) (Bu 177 (Array.mk (AZ d.1)))=bK (dN A) (Bu 177 (Array.mk (AZ J)))) (G J=Option.some (B5 (Array.mk F.enc) 111 0)) (aA (∀(i:Nat),zK (aX A.a J i)) (jD (iK d) F.order o) (aA (Iy G A 1 p) (∀(u:Sl×cd),List.Mem u p->cA (iK d) u.1 u.2) (aA (∀(u:Sl×cd),List.Mem u p->u.2.length=w) (oL p.length) (∀(u:cz)(L:MH),List.Perm u p->List.Pairwise (fun(X:Sl×cd)=>fun(q:Sl×cd)=>¬(lF o q.2 X.2<0)) u->Iy L A 1 u->
 (∀(M:Nat),(∀(i:Nat),zK (aX A.a M i))->L M=G M)->∃(E:Nat×Nat×Nat×MH×PH),aA (I1 E) (g E<g d) (aA (eU d.1 E.1) (jG (iY d) (iY E)) (aI (eU (jT d) (jT E)) (cV L (rE E)) (iK d=iK E) True))))))))))))))
theorem WB:br 177 ON:=by
 refine hJ func177 ?_;rintro c m h K ⟨s,t,d,v,od,a,b,rfl,e,f,g,j,n⟩;refine⟨uC [(136,OR)] [] [] [] [0] [] false,rfl,aE Oj aH,afQ s t d m h K,bi,?_⟩;exact⟨v.order,.of_m e rfl,v.order,s,t,od,a,b,rfl,f,g,j,n⟩
theorem UI:br 171 YG:=by
 refine⟨⟨Tryz.f171,func171,rfl,bk⟩,?_⟩;rintro z u m h w K ⟨s,c,v,od,A,ps,rfl,B,n,C,D,E,F,G,H⟩ j
 obtain⟨I,d,rfl⟩:∃v d,u=[v,d]:=by
  have:=(qS j.args).1
  match u,this with
  |[v,d],_=>exact⟨v,d,rfl⟩
 have J:I=s.val:=j.args.1;have L:d= .func (.func 177) #[] #[.pointer (some ⟨c,0,none⟩)]:=j.args.2.1;subst J L;refine Ph (R:=λl=>l.length=A) (g:=177) (cb:=[.pointer (some ⟨c,0,none⟩)]) (m2:=λb=>if b=c then m c else none) (cf:=lF od) rfl j ⟨Tryz.f177,func177,rfl,bk⟩ D E F G (aQX od) ⟨ON,WB,λx y=>⟨x.s,y.s,c,v,od,x.l,y.l,rfl,bo B,C,x.ok,y.ok,rfl,rfl,rfl⟩⟩ (λb o f=>?_) H;have f:(if b=c then m c else none)=some o:=f;split at f
 .rename_i e;subst e;exact⟨f,n⟩
 .cases f
theorem qW.appV{m0:MH}{y:Nat}{kk:cm}{us:ByteArray->ce}{key:ByteArray}{s e:Sl}{Q:MH->Prop}(g:qW m0 m y kk us)(z:∃o,m0 y=some o)(D:(us key).length<=502633886983)
 (A:∀m' f,qW m0 m' y f (MW us key e)->Q m')(n:ET kk key s):
 ∃xs:List bw,eC m (Sl.mk s.a s.len s.cap) 100 1 xs/\(xs.length+1)*24<=140737488355328/\xs.length<140737488355328/\∀(j:Sl)(d:MH),jP m d (Sl.mk s.a s.len s.cap) j 100 1 (xs++[[gU e]])->
 ∃(c:ci)(Ok:Value->Prop),vT d y c/\KeyLaw Tryz.prog 9 Ok/\Ok (.string key)/\Instr.sameBits 10000 (Value.string key) (Value.string key)=true/\(∀e,List.Mem e c->Ok e.1)/\((∀e,List.Mem e c->e.1=Value.string key->False)->∀m':MH,pX d m' y->vT m' y (c++[(Value.string key,gU j)])->Q m')/\
  ∀(u:ci)(B:Value)(x:ci),c=u++(Value.string key,B)::x->∀m':MH,pX d m' y->vT m' y (u++(Value.string key,gU j)::x)->Q m':=
 ⟨_,(n.row g).1,by simp;omega,by simp;omega,λ_ _ C=>g.put z n C A⟩
theorem W9:br 132 Vr:=by
 refine TZ func132 ?_;rintro c' m h K ⟨v,s,gr,od,l,w,rfl,a8,a9,Z,d,H,hT,hK⟩;refine⟨aKQ s,rfl,aE BB (aE UI aH),KM v s m h (fW h K),bi,?_⟩;show KM v s m h (fW h K);dsimp only[KM,push_cast];intro bq m1 a' C y I J D;obtain⟨s1,nq⟩:=Dy (Sub.refl m) a' C;obtain⟨s2,ny⟩:=Dy s1 J D;have E:bq≠y:=λe=>by have:=J.m_;rw[<-e,C.at_]at this;cases this
 have L:I bq=some (.cells ⟨uD.enc v⟩ 111 (0,0)):=by rw[D.other bq E];exact C.at_
 have n:I y=some (.map #[] 0):=D.at_;have b':=bV.slen Z;have b0:=d.len;clear C D a' J s1;have a0:∀{F kk us},qW I F y kk us->Sub m F:=λg z o c=>g.old z o (s2 z o c) (λA=>by rw[A,ny]at c;cases c);refine⟨λx=>x.1=bq/\x.2.1=y/\x.2.2.1<=l.length/\x.2.2.2.2=h/\XR I x.2.2.2.1 h y (nK oH gr (l.take x.2.2.1)),λx=>l.length-x.2.2.1,⟨(bq,y,0,I,h),⟨rfl,rfl,Nat.zero_le _,rfl,⟨[],_,qW.new n,λk=>by simpa[nK]using gS.nil h⟩⟩,MT⟩,?_⟩;rintro⟨M,O,i,F,P⟩ ⟨Q,c,hi,A,⟨kk,uk,g,hg⟩⟩;dsimp only at Q c hi A g hg⊢
 subst Q c A;refine aF (λb3=>?_) (λc0=>?_)
 .obtain⟨r,hr⟩:=eF b' b3;obtain⟨b,o,u,ea,rd,hv⟩:=bV.at Z hr;have a1:=mem_of_getElem? hr;have rq:aU F P M 17 [gU v.group]:=.of_m (g.old M _ L E) rfl
  have hl:(uk (oH (pick r gr))).length<=502633886983:=by
   have h5:=(hg (oH (pick r gr))).len;have h6:(nK oH gr (l.take i) (oH (pick r gr))).length<=(l.take i).length:=length_filter_le _ _;rw[length_take]at h6;omega
  rw[kA aD];have nx:∀(m':MH)(j:cm),qW I m' O j (MW uk (oH (pick r gr)) u)->XR I m' P O (nK oH gr (l.take (i+1))):=λm' j g'=>XR.upd g' hg hv (by rw[nK,vO _ hr,if_pos bj];rfl) (λk2 b4=>by rw[nK,vO _ hr,if_neg (by simp[Ne.symm b4]),append_nil];rfl);exact⟨b,o,ea,aD,aD,u,.imm rd,v.group,rq,u,v.group,r,gr,rfl,hv,a8,d.row r a1,by rw[d.wid r a1];exact H,hT.sub (a0 g),g.get2 (λZ=>g.appV ⟨_,n⟩ hl (λm' j g'=>⟨(M,O,i+1,m',P),⟨rfl,rfl,by dsimp only;omega,rfl,nx m' j g'⟩,by dsimp only;omega,MT⟩) Z) (λs Z=>g.appV ⟨_,n⟩ hl (λm' j g'=>⟨(M,O,i+1,m',P),⟨rfl,rfl,by dsimp only;omega,rfl,nx m' j g'⟩,by dsimp only;omega,MT⟩) Z)⟩
 .rw[take_of_length_le aD]at hg;have mq:=g.old M _ L E;refine⟨_,g.map_,λr m5 a2 b5 it=>?_⟩;have b6:F r=none:=a2.m_
  have a3:∀{z o},F z=some o->m5 z=F z/\z≠r:=fun{z o} c=>by
   have:z≠r:=λA=>by rw[A,a2.m_]at c;cases c
   exact⟨b5.other z this,this⟩
  have R:∀p∈kk,∀x i,p.2.a=some ⟨x,i,none⟩->∃o,F x=some o:=λp hp x i c=>⟨_,((g.row p hp).blk c).choose_spec⟩
  refine⟨λz=>z.1=M/\z.2.1=O/\z.2.2.1=r/\z.2.2.2.2=P/\(∀b o,F b=some o->(∀p∈kk,∀i,p.2.a≠some ⟨b,i,none⟩)->z.2.2.2.1 b=some o)/\∃left,lV z.2.2.2.1 O r (kk.map λp=>(Value.string p.1,gU p.2)) left/\∀p∈kk,bpZ z.2.2.2.1 P od p (nK oH gr l) ((Value.string p.1,gU p.2)∉left),λz=>leftOf z.2.2.2.1 z.2.2.1,⟨(M,O,r,m5,P),⟨rfl,rfl,rfl,rfl,λb o e _=>(a3 e).1.trans e,_,it,λp hp=>?_⟩,MT⟩,?_⟩
  .obtain⟨ps,Q,c,A⟩:=bLQ (hg p.1);refine⟨ps,?_,A,by rw[c],λhn=>(hn (mem_map_of_mem (f:=λp:ByteArray×Sl=>(Value.string p.1,gU p.2)) hp)).elim⟩;have e5:(ps.map λq=>eS q.1)=(uk p.1).map eS:=by rw[<-Q,map_map];rfl
   rw[e5];exact eC.keep (g.row p hp) λb i e=>(a3 (R p hp b i e).choose_spec).1
  .rintro⟨c1,c2,c3,mz,hz⟩ ⟨Q,c,A,e4,S,left,G,B⟩;dsimp only at Q c A e4 S G B⊢
   subst Q c A e4;refine⟨c2,_,left,G,λT=>?_,λl1 x l2 b7 m6 b8 a4=>?_⟩
   .subst T;exact TV s2 ny n g hg (.refl _) b0 S G B hK
   .obtain⟨p0,ps,rfl,a5,a6,hv,hw,c4,U⟩:=TU (m4y:=n) g d b6 S G B b7 b8 a4;have hb:=a5 c1 _ L E;refine⟨c2,_,_,_,a4,p0.2,c1,v,od,w,ps,rfl,hb.1,hb.2,a9,a6,hv,hw,aD,λb9 m7 V W X a7=>?_⟩;obtain⟨k1,⟨Y,k2,k3⟩,k4⟩:=U b9 m7 V W X a7;exact⟨(c1,c2,c3,m7,hz),⟨rfl,rfl,rfl,rfl,k1,Y,k2,k3⟩,k4,rfl,rfl,rfl,rfl,rfl,trivial⟩
def aYQ:Vc.Spec:=λe m h K=>∃v on f g c d,e=[aT v,cS f,cS g]/\iD h v.on on/\Rows h f c/\Rows h g d/\fM m/\a4Z on [c,d]/\c.length*d.length<=1000000/\∀j h',PH.le h h'->Rows h' j (c.flatMap (oX on d))->K (cS j) m h'
noncomputable def aKJ:Ctx:=uC [(125,XK),(126,Rn),(172,Vu),(173,Vs)]
 [(4,{A:=Nat×Nat×Sl×Sl×Sl×Sl×MH×PH,st:=λ⟨i,y,l,a,b,r,m,h⟩=>bY 76 79 [(1,sv l),(7,sv a),(8,sv b),(9,vv (.map (some y))),(25,sv r),(26,iv r.len),(27,iv i)] [] m h}),
  (12,{A:=Nat×Nat×Sl×Sl×ce×MH×PH,st:=λ⟨i,y,l,a,c,m,h⟩=>bY 76 79 [(7,sv a),(9,vv (.map (some y))),(13,.at (.lst 72)),(46,sv l),(47,iv l.len),(48,iv i)] [(72,.lst 100 1 (c.map eS))] m h}),
  (16,{A:=Nat×Nat×Nat×Sl×Sl×Sl×Sl×ce×MH×PH,st:=λ⟨j,i,y,l,a,e,g,c,m,h⟩=>bY 76 79 [(7,sv a),(9,vv (.map (some y))),(13,.at (.lst 72)),(15,sv e),(46,sv l),(47,iv l.len),(48,iv i),(60,sv g),(61,iv g.len),(62,iv j)] [(72,.lst 100 1 (c.map eS))] m h})] [] [] [1068,400000,0] [] false
noncomputable abbrev rP(a:Nat×Nat×Sl×Sl×Sl×Sl×MH×PH):Sl:=a.2.2.1
noncomputable abbrev tD(a:Nat×Nat×Sl×Sl×Sl×Sl×MH×PH):Sl:=a.2.2.2.1
noncomputable abbrev mT(a:Nat×Nat×Sl×Sl×Sl×Sl×MH×PH):Sl×Sl×MH×PH:=a.2.2.2.2
noncomputable abbrev nZ(a:Nat×Nat×Sl×Sl×Sl×Sl×MH×PH):Nat:=a.2.1
noncomputable abbrev kP(a:Nat×Nat×Sl×Sl×Sl×Sl×MH×PH):Sl:=(mT a).2.1
noncomputable abbrev uU(a:Nat×Nat×Sl×Sl×Sl×Sl×MH×PH):Nat->Nat->Option Value:=(pU (mT a)).2
noncomputable abbrev Ch(a:Nat×Nat×Sl×Sl×Sl×Sl×MH×PH):Nat->Option Obj:=(pU (mT a)).1
abbrev Iz(a:MH)(b:Nat×Nat×Sl×Sl×Sl×Sl×MH×PH)(c:MH->Prop)(d:MH->(Nat×Nat×Sl×Sl×Sl×Sl×MH×PH)->Prop):Prop:=∀(x:MH),pX a x (nZ b)->c x->∃(e:Nat×Nat×Sl×Sl×Sl×Sl×MH×PH),d x e
abbrev IU(a b:Nat×Nat×Sl×Sl×Sl×Sl×MH×PH)(c:MH):Prop:=aI (fU (bG a.1 1)=bP b.1) (cV c (pU (mT b))) (uU a=uU b) True
noncomputable abbrev sD(a:Nat×Nat×Sl×Sl×ce×MH×PH):Sl×Sl×ce×MH×PH:=a.2.2
noncomputable abbrev yT(a:Nat×Nat×Sl×Sl×ce×MH×PH):Sl:=(sD a).2.1
noncomputable abbrev mI(a:Nat×Nat×Sl×Sl×ce×MH×PH):Sl:=(sD a).1
noncomputable abbrev Ci(a:Nat×Nat×Sl×Sl×ce×MH×PH):ce:=(sD a).2.2.1
noncomputable abbrev fX(a:Sl×Sl×ce×MH×PH):MH×PH:=a.2.2.2
noncomputable abbrev rQ(a:Nat×Nat×Sl×Sl×ce×MH×PH):Nat->Nat->Option Value:=(fX (sD a)).2
abbrev IB(a:dj)(b:cd)(c:bt)(d:Prop):Prop:=(∀(x:Value×Sl),List.Mem x a->x.1=iM b c->False)->d
noncomputable abbrev AV(a:Nat×Nat×Nat×Sl×Sl×Sl×Sl×ce×MH×PH):Sl:=a.2.2.2.2.1
noncomputable abbrev AW(a:Nat×Nat×Nat×Sl×Sl×Sl×Sl×ce×MH×PH):Nat:=a.2.2.1
noncomputable abbrev mC(a:Nat×Nat×Nat×Sl×Sl×Sl×Sl×ce×MH×PH):Sl×Sl×ce×MH×PH:=a.2.2.2.2.2
noncomputable abbrev nD(a:Nat×Nat×Nat×Sl×Sl×Sl×Sl×ce×MH×PH):Sl:=a.2.2.2.1
noncomputable abbrev p8(a:Nat×Nat×Nat×Sl×Sl×Sl×Sl×ce×MH×PH):Sl:=(mC a).2.1
noncomputable abbrev Ec(a:Nat×Nat×Nat×Sl×Sl×Sl×Sl×ce×MH×PH):ce:=(mC a).2.2.1
noncomputable abbrev wS(a:Nat×Nat×Nat×Sl×Sl×Sl×Sl×ce×MH×PH):Nat->Nat->Option Value:=(fX (mC a)).2
noncomputable abbrev I6(a:Nat×Nat×Nat×Sl×Sl×Sl×Sl×ce×MH×PH):List bw:=fP (mC a).2.2.1
attribute [push_cast] rP tD mT nZ kP uU Ch Iz IU sD yT mI Ci fX rQ IB AV AW mC nD p8 Ec wS I6
def KN(v:uD)(Y W:Sl)(m:MH)(h:PH)(K:bu):Prop:=
  I0 v.on h (λo=>∀(a b:Sl)(G:PH),cD h G (Ints G a (nI o)) (Ints G b (iQ o)->B7 m G (λZ m1=>∃(I:Nat×Nat×Sl×Sl×Sl×Sl×MH×PH->Prop)(C:Nat×Nat×Sl×Sl×Sl×Sl×MH×PH->Nat),(∃(x:Nat×Nat×Sl×Sl×Sl×Sl×MH×PH),aA (I x) (bH Y (rP x)) (aA (bH a (tD x)) (bH b (mT x).1) (aA (jG Z (nZ x)) (bH W (kP x)) (aA (cF W (kP x)) (bF x.1) (bS (cV m1 (pU (mT x))) G (uU x))))))/\∀(x:Nat×Nat×Sl×Sl×Sl×Sl×MH×PH),I x->bA (↑x.1:Int) (aG (kP x)) (aW (λH J=>aI (aX (kP x).a H J) (0<=(↑x.1:Int)) ((↑x.1:Int)<aG (kP x)) (∃(y:Sl),aU (Ch x) (uU x) H (bN J x.1 1) (aY y)/\∃(s:Sl),CN (λt r c=>aA (dX y (mT x).1=dX s t) (cA (uU
 x) s r) (aA (Ints (uU x) t c) (zL r c) (branch (List.all (pick r c) lY) (∃(L:Sl),CN (λM j u=>aA (dX y (mT x).1=dX L M) (cA (uU x) L j) (aA (Ints (uU x) M u) (SD j) (Gg (zL j u) (fM (Ch x)) (Ch x) (nZ x) j u (λk=>DE (∀(e:Value×Sl),List.Mem e k->e.1=iM j u->False) (λf=>aI (eC (Ch x) (Sl.mk Option.none 0 0) 100 1 f) (iF (jJ f 1) 24) (lO f) (oD (λB z=>jP (Ch x) z (Sl.mk Option.none 0 0) B 100 1 (fK f (aY y))->Gh z (nZ x) j u (λE=>Iz z x (λn=>vT n (nZ x) (E++CL (iM j u) (gU B))) (λn d=>aA (I d) (C d<C x) (aA (bH (rP x) (rP d)) (bH (tD x) (tD d)) (aA (bH (mT x).1 (mT d).1) (jG (nZ x) (nZ
 d)) (aA (bH (kP x) (kP d)) (cF (kP x) (kP d)) (IU x d n)))))) (λE l V O=>E=l++(iM j u,V)::O->Iz z x (λn=>vT n (nZ x) (l++(iM j u,gU B)::O)) (λn d=>aA (I d) (C d<C x) (aA (bH (rP x) (rP d)) (bH (tD x) (tD d)) (aA (bH (mT x).1 (mT d).1) (jG (nZ x) (nZ d)) (aA (bH (kP x) (kP d)) (cF (kP x) (kP d)) (IU x d n)))))))))) (λk A=>DE (List.Mem (iM j u,A) k) (λf=>aI (eC (Ch x) (Sl.mk A.a A.len A.cap) 100 1 f) (iF (jJ f 1) 24) (lO f) (oD (λB z=>jP (Ch x) z (Sl.mk A.a A.len A.cap) B 100 1 (fK f (aY y))->Gh z (nZ x) j u (λE=>Iz z x (λn=>vT n (nZ x) (E++CL (iM j u) (gU
 B))) (λn d=>aA (I d) (C d<C x) (aA (bH (rP x) (rP d)) (bH (tD x) (tD d)) (aA (bH (mT x).1 (mT d).1) (jG (nZ x) (nZ d)) (aA (bH (kP x) (kP d)) (cF (kP x) (kP d)) (IU x d n)))))) (λE l V O=>E=l++(iM j u,V)::O->Iz z x (λn=>vT n (nZ x) (l++(iM j u,gU B)::O)) (λn d=>aA (I d) (C d<C x) (aA (bH (rP x) (rP d)) (bH (tD x) (tD d)) (aA (bH (mT x).1 (mT d).1) (jG (nZ x) (nZ d)) (aA (bH (kP x) (kP d)) (cF (kP x) (kP d)) (IU x d n)))))))))))))) (∃(f:Nat×Nat×Sl×Sl×Sl×Sl×MH×PH),aA (I f) (C f<C x) (aA (bH (rP x) (rP f)) (bH (tD x) (tD f)) (aA (bH (mT x).1 (mT f).1)
 (jG (nZ x) (nZ f)) (aA (bH (kP x) (kP f)) (cF (kP x) (kP f)) (aI (fU (bG x.1 1)=bP f.1) (fO (pU (mT x)) (pU (mT f))) (uU x=uU f) True))))))))))) (∃(I1:Nat×Nat×Sl×Sl×ce×MH×PH->Prop)(z:Nat×Nat×Sl×Sl×ce×MH×PH->Nat),(∃(f:Nat×Nat×Sl×Sl×ce×MH×PH),aA (I1 f) (bH (tD x) (yT f)) (aA (jG (nZ x) f.2.1) (eL 72) (aA (bH (rP x) (mI f)) (cF (rP x) (mI f)) (aA (bF f.1) (AH (Ci f)) (bS (fO (pU (mT x)) (fX (sD f))) (uU x) (rQ f))))))/\∀(f:Nat×Nat×Sl×Sl×ce×MH×PH),I1 f->bA (↑f.1:Int) (aG (mI f)) (aW (λH J=>aI (aX (mI f).a H J) (0<=(↑f.1:Int)) ((↑f.1:Int)<aG (mI f)) (∃
 (y:Sl),aU (fX (sD f)).1 (rQ f) H (bN J f.1 1) (aY y)/\∃(s:Sl),CN (λt r c=>aA (dX y (yT f)=dX s t) (cA (rQ f) s r) (aA (Ints (rQ f) t c) (zL r c) (qB (List.all (pick r c) lY) (∃(d:Nat×Nat×Sl×Sl×ce×MH×PH),aA (I1 d) (z d<z f) (aA (bH (yT f) (yT d)) (jG f.2.1 d.2.1) (aA (eL 72) (bH (mI f) (mI d)) (aA (cF (mI f) (mI d)) (fU (bG f.1 1)=bP d.1) (aI (qM (Ci f) (Ci d)) (fO (fX (sD f)) (fX (sD d))) (rQ f=rQ d) True))))) (∃(L:Sl),CN (λM j u=>aA (dX y (yT f)=dX L M) (cA (rQ f) L j) (aA (Ints (rQ f) M u) (SD j) (Gg (zL j u) (fM (fX (sD f)).1) (fX (sD f)).1 f.2.1 j u
 (λk=>IB k j u (∃(I2:Nat×Nat×Nat×Sl×Sl×Sl×Sl×ce×MH×PH->Prop)(n:Nat×Nat×Nat×Sl×Sl×Sl×Sl×ce×MH×PH->Nat),(∃(d:Nat×Nat×Nat×Sl×Sl×Sl×Sl×ce×MH×PH),aA (I2 d) (bH (yT f) (AV d)) (aA (jG f.2.1 (AW d)) (eL 72) (aA (bH y (mC d).1) (bH (mI f) (nD d)) (aA (cF (mI f) (nD d)) (cJ f.1 d.2.1) (aA (sQn=sQs (p8 d)) (bF (p8 d).len) (aA (bF d.1) (qM (Ci f) (Ec d)) (bS (fO (fX (sD f)) (fX (mC d))) (rQ f) (wS d))))))))/\∀(d:Nat×Nat×Nat×Sl×Sl×Sl×Sl×ce×MH×PH),I2 d->bA (↑d.1:Int) (aG (p8 d)) (aW (λP Q=>aI (aX (p8 d).a P Q) (0<=(↑d.1:Int)) ((↑d.1:Int)<aG (p8 d)) (∃(A:Sl),
 aU (fX (mC d)).1 (wS d) P (bN Q d.1 1) (aY A)/\cG (wS d) 1 (zB (mC d).1 A) (λB R=>∃(S:Sl)(D:bx),aA (iN B=iN S) (Rows R S D) (aA (D.length<=10) (∀(T:cd),List.Mem T D->T.length<=12) (∀(U:Sl)(F:PH),cD R F (cA F U D.flatten) (jZ (I6 d) 24 (∃(g:Nat×Nat×Nat×Sl×Sl×Sl×Sl×ce×MH×PH),aA (I2 g) (n g<n d) (aA (bH (AV d) (AV g)) (jG (AW d) (AW g)) (aA (eL 72) (bH (mC d).1 (mC g).1) (aA (bH (nD d) (nD g)) (cF (nD d) (nD g)) (aA (cJ d.2.1 g.2.1) (bH (p8 d) (p8 g)) (aA (cF (p8 d) (p8 g)) (fU (bG d.1 1)=bP g.1) (aI (qL 1 (fK (I6 d) (aY U)) (Ec g)) (fO (fX (mC
 d)) (fX (mC g))) (F=wS g) True)))))))))))))) (∃(g:Nat×Nat×Sl×Sl×ce×MH×PH),aA (I1 g) (z g<z f) (aA (bH (AV d) (yT g)) (jG (AW d) g.2.1) (aA (eL 72) (bH (nD d) (mI g)) (aA (cF (nD d) (mI g)) (fU (bG d.2.1 1)=bP g.1) (aI (qM (Ec d) (Ci g)) (fO (fX (mC d)) (fX (sD g))) (wS d=rQ g) True))))))) (λk A=>List.Mem (iM j u,A) k->∃(I2:Nat×Nat×Nat×Sl×Sl×Sl×Sl×ce×MH×PH->Prop)(n:Nat×Nat×Nat×Sl×Sl×Sl×Sl×ce×MH×PH->Nat),(∃(d:Nat×Nat×Nat×Sl×Sl×Sl×Sl×ce×MH×PH),aA (I2 d) (bH (yT f) (AV d)) (aA (jG f.2.1 (AW d)) (eL 72) (aA (bH y (mC d).1) (bH (mI f) (nD d)) (aA (cF (mI
 f) (nD d)) (cJ f.1 d.2.1) (aA (bH A (p8 d)) (cF A (p8 d)) (aA (bF d.1) (qM (Ci f) (Ec d)) (bS (fO (fX (sD f)) (fX (mC d))) (rQ f) (wS d))))))))/\∀(d:Nat×Nat×Nat×Sl×Sl×Sl×Sl×ce×MH×PH),I2 d->bA (↑d.1:Int) (aG (p8 d)) (aW (λP Q=>aI (aX (p8 d).a P Q) (0<=(↑d.1:Int)) ((↑d.1:Int)<aG (p8 d)) (∃(X:Sl),aU (fX (mC d)).1 (wS d) P (bN Q d.1 1) (aY X)/\cG (wS d) 1 (zB (mC d).1 X) (λB R=>∃(S:Sl)(D:bx),aA (iN B=iN S) (Rows R S D) (aA (D.length<=10) (∀(T:cd),List.Mem T D->T.length<=12) (∀(U:Sl)(F:PH),cD R F (cA F U D.flatten) (jZ (I6 d) 24 (∃(g:Nat×Nat×Nat×Sl×Sl
 ×Sl×Sl×ce×MH×PH),aA (I2 g) (n g<n d) (aA (bH (AV d) (AV g)) (jG (AW d) (AW g)) (aA (eL 72) (bH (mC d).1 (mC g).1) (aA (bH (nD d) (nD g)) (cF (nD d) (nD g)) (aA (cJ d.2.1 g.2.1) (bH (p8 d) (p8 g)) (aA (cF (p8 d) (p8 g)) (fU (bG d.1 1)=bP g.1) (aI (qL 1 (fK (I6 d) (aY U)) (Ec g)) (fO (fX (mC d)) (fX (mC g))) (F=wS g) True)))))))))))))) (∃(g:Nat×Nat×Sl×Sl×ce×MH×PH),aA (I1 g) (z g<z f) (aA (bH (AV d) (yT g)) (jG (AW d) g.2.1) (aA (eL 72) (bH (nD d) (mI g)) (aA (cF (nD d) (mI g)) (fU (bG d.2.1 1)=bP g.1) (aI (qM (Ec d) (Ci g)) (fO (fX (mC d)) (fX
 (sD g))) (wS d=rQ g) True)))))))))))))))) (sW (rQ f) (fP (sD f).2.2.1) K (fX (sD f)).1)))))
theorem Om:br 125 XK:=by
 refine hJ func125 ?_;rintro c m h K ⟨s,on,rfl,d,e⟩;refine⟨aDZ s m h,rfl,aH,Kz s m h K,bi,?_⟩;exact bjQ d e
theorem WH:br 172 Vu:=by
 refine hJ func172 ?_;rintro d m h K ⟨s,t,r,c,rfl,e,f,g,j⟩;refine⟨aDX s t m h,rfl,aE HF aH,Ky s t m h K,bi,?_⟩;exact biJ e f g j
theorem qW.get1{m0:MH}{y:Nat}{kk:cm}{us:ByteArray->ce}{key:ByteArray}{K0:Prop}{K:Sl->Prop}(g:qW m0 m y kk us)(d:∀s,ET kk key s->K s)(e:K ⟨none,0,0⟩=K0):
 ∃(c:dj)(Ok:Value->Prop),vR m y (c.map λp=>(p.1,gU p.2))/\KeyLaw Tryz.prog 9 Ok/\Ok (.string key)/\(∀e,List.Mem e c->Ok e.1)/\((∀e,List.Mem e c->e.1=Value.string key->False)->K0)/\∀t,List.Mem (Value.string key,t) c->K t:=g.get2 (λf=>e▸d _ f) d
theorem Xe:br 124 aYQ:=by
 refine TZ func124 ?_;rintro d1 m h K ⟨v,on,s1,s2,E,f,rfl,ho,P,Q,hT,c1,d2,hK⟩;refine⟨aKJ,rfl,aE Om (aE BB (aE WH (aE WG aH))),KN v s1 s2 m h (fW h K),bi,?_⟩;show KN v s1 s2 m h (fW h K);dsimp only[KN,push_cast];obtain⟨-,wa,wb,n,d,c2,a9⟩:=c1;have n:hU wa E:=n;have d:hU wb f:=d;have d3:=n.len;have d':=d.len;refine⟨v.on,on,rfl,ho,λsa sb h1 B R b' y m2 b0 a2=>?_⟩;obtain⟨st,ny⟩:=Dy (Sub.refl m) b0 a2;have b1:m2 y=some (.map #[] 0):=a2.at_;have W:∀{mx kk us},qW m2 mx y kk us->Sub m mx:=λg z o F=>g.old z o (st z o F) (λO=>by rw[O,ny]at F;cases F);clear a2 b0;have P:=bV.mono P B (λ_ _ h=>cA.mono h B);have Q:=bV.mono Q B (λ_ _ h=>cA.mono h B);have b2:=bV.slen P;have b3:=bV.slen Q;refine⟨λx=>x.1<=f.length/\x.2.1=y/\x.2.2.1=s1/\x.2.2.2.1=sa/\x.2.2.2.2.1=sb/\x.2.2.2.2.2.1=s2/\x.2.2.2.2.2.2.2=h1/\XR m2 x.2.2.2.2.2.2.1 h1 y (under oH (iQ on) (f.take x.1)),λx=>f.length-x.1,⟨(0,y,s1,sa,sb,s2,m2,h1),⟨Nat.zero_le _,rfl,rfl,rfl,rfl,rfl,rfl,⟨[],_,qW.new b1,λk=>by simpa[under]using gS.nil h1⟩⟩,MT⟩,?_⟩;rintro⟨i,y',t1,ta,tb,t2,mx,hx⟩ ⟨hi,X,F,O,Y,S,e6,⟨kk,uk,g,hg⟩⟩;dsimp only at hi X F O Y S e6 g hg⊢
 subst X F O Y S e6;refine aF (λa3=>?_) (λb4=>?_)
 .obtain⟨r,H⟩:=eF b3 a3;obtain⟨b,o,u,ea,rd,T⟩:=bV.at Q H;have A:=mem_of_getElem? H;have C:jC r.length (iQ on):=by rw[d.wid r A];exact a9
  rw[kA aD];refine⟨b,o,ea,aD,aD,u,.imm rd,u,tb,r,iQ on,rfl,T,b',C,aC (λc=>?_) (λc=>?_)⟩
  .have hl:(uk (oH (pick r (iQ on)))).length<=502633886983:=by
    have h5:=(hg (oH (pick r (iQ on)))).len;have h6:(under oH (iQ on) (f.take i) (oH (pick r (iQ on)))).length<=(f.take i).length:=length_filter_le _ _;rw[length_take]at h6;omega
   exact⟨u,tb,r,iQ on,rfl,T,b',d.row r A,C,hT.sub (W g),g.get1 (λs hs=>g.appV ⟨_,b1⟩ hl (λm' d4 g'=>⟨(i+1,y',t1,ta,tb,t2,m',hx),⟨by dsimp only;omega,rfl,rfl,rfl,rfl,rfl,rfl,XR.upd g' hg T (by rw[Hi H,if_pos];simpa[Dt]using c) (λk2 c3=>by rw[Hi H,if_neg,append_nil];simp[Ne.symm c3])⟩,by dsimp only;omega,MT⟩) hs) rfl⟩
  .refine⟨(i+1,y',t1,ta,tb,t2,mx,hx),⟨by dsimp only;omega,rfl,rfl,rfl,rfl,rfl,rfl,⟨kk,uk,g,λk2=>?_⟩⟩,by dsimp only;omega,MT⟩;dsimp only;rw[Hi H,if_neg,append_nil]
   .exact hg k2
   .simp[Dt,c]
 .rw[take_of_length_le aD]at hg;have gx:∀{Z},PH.le hx Z->∀key,gS Z (uk key) (under oH (iQ on) f key):=λle key=>(hg key).mono le;have sx:=W g;refine⟨λx=>x.1<=E.length/\x.2.1=y'/\x.2.2.1=t1/\x.2.2.2.1=ta/\x.2.2.2.2.2.1=mx/\PH.le hx x.2.2.2.2.2.2/\gS x.2.2.2.2.2.2 x.2.2.2.2.1 ((E.take x.1).flatMap (oX on f)),λx=>E.length-x.1,⟨(0,y',t1,ta,[],mx,hx),⟨Nat.zero_le _,rfl,rfl,rfl,rfl,.refl _,bo (gS.nil hx)⟩,MT⟩,?_⟩;rintro⟨k,y2,a4,I,us,my,hy⟩ ⟨hk,X,F,O,Y,le,D⟩;dsimp only at hk X F O Y le D⊢
  subst X F O Y;refine aF (λa3=>?_) (λb4=>?_)
  .obtain⟨r,H⟩:=eF b2 a3;obtain⟨b,o,u,ea,rd,T⟩:=bV.at P H;have A:=mem_of_getElem? H;have C:jC r.length (nI on):=by rw[n.wid r A];exact c2
   have T:=cA.mono T le;have R:=R.mono le;rw[kA aD];refine⟨b,o,ea,aD,aD,u,.imm (rd.mono le),u,I,r,nI on,rfl,T,R,C,aC (λc=>?_) (λc=>?_)⟩
   .refine⟨(k+1,y2,a4,I,us,my,hy),⟨by dsimp only;omega,rfl,rfl,rfl,rfl,le,?_⟩,by dsimp only;omega,MT⟩;have:oX on f r=[]:=if_neg (by simpa[Dt]using c);dsimp only;rw[EA _ H,this,append_nil];exact D
   .have c:(pick r (nI on)).all lY=true:=bo c
    have c4:under oH (iQ on) f (oH (pick r (nI on)))=f.filter λy=>Dt (iQ on) y&&agree on r y:=by
     refine filter_congr λz Z=>?_;congr 1;have h5:=Ko Ji (n.row r A) (d.row z Z) C (by rw[d.wid z Z];exact a9);cases S:agree on r z with
     |true=>exact decide_eq_true (h5.2 S).symm
     |false=>exact decide_eq_false λe6=>by rw[h5.1 e6.symm]at S;cases S
    have a5:oX on f r=(under oH (iQ on) f (oH (pick r (nI on)))).map (r++ ·):=by rw[c4];exact if_pos (by simpa[Dt]using c)
    have b5:((E.take k).flatMap (oX on f)).length+(under oH (iQ on) f (oH (pick r (nI on)))).length<=1000000:=by
     have h5:((E.take (k+1)).flatMap (oX on f)).length<=(E.take (k+1)).length*f.length:=Ab λx _=>Cu;rw[EA _ H,length_append,a5,length_map]at h5;have h6:(E.take (k+1)).length*f.length<=E.length*f.length:=Nat.mul_le_mul_right _ (by rw[length_take];omega);omega
    have a6:=gx le (oH (pick r (nI on)));generalize hG:under oH (iQ on) f (oH (pick r (nI on)))=G at a5 b5 a6;have c5:=a6.len;refine⟨u,I,r,nI on,rfl,T,R,n.row r A,C,hT.sub sx,g.get1 (λs hs=>?_) rfl⟩;refine⟨λz=>z.1<=G.length/\z.2.1=k/\z.2.2.1=y2/\z.2.2.2.1=a4/\z.2.2.2.2.1=I/\z.2.2.2.2.2.1=u/\z.2.2.2.2.2.2.1=s/\z.2.2.2.2.2.2.2.2.1=my/\PH.le hy z.2.2.2.2.2.2.2.2.2/\gS z.2.2.2.2.2.2.2.2.2 z.2.2.2.2.2.2.2.1 ((E.take k).flatMap (oX on f)++(G.take z.1).map (r++ ·)),λz=>G.length-z.1,⟨(0,k,y2,a4,I,u,s,us,my,hy),⟨Nat.zero_le _,rfl,rfl,rfl,rfl,rfl,rfl,rfl,.refl _,bo D⟩,MT⟩,?_⟩;rintro⟨j,k',y3,a',a0,ee,gg,b6,mz,Z⟩ ⟨U,X,F,O,Y,S,e6,e7,J,L⟩;dsimp only at U X F O Y S e6 e7 J L⊢
    subst X F O Y S e6 e7;have a1:=(hs.row g).1;have c6:=a1.slen;rw[length_map,c5]at c6;refine aF (λd0=>?_) (λb4=>?_)
    .have b7:j<G.length:=by omega
     obtain⟨w,hw,c7⟩:=a6.at_ j _ (getElem?_eq_getElem b7);obtain⟨b8,e8,c8⟩:=a1.rd (h:=Z) (i:=j) (e:=[gU w]) (by rw[getElem?_map,hw];rfl);have b9:=L.len;simp only[length_append,length_map,length_take]at b9;rw[kA aD];refine⟨b8,0,e8,aD,aD,w,bo c8,λc9 h3 V a7=>⟨c9,[r,G[j]],rfl,?_,bj,?_,λsl h4 c' c0=>⟨by rw[length_map];omega,by rw[length_map];omega,(j+1,k',y3,a',a0,ee,gg,b6++[sl],mz,h4),⟨by dsimp only;omega,rfl,rfl,rfl,rfl,rfl,rfl,rfl,J.trans (V.trans c'),?_⟩,by dsimp only;omega,?_⟩⟩⟩
     .refine gS.rows (us:=[ee,w]) ?_ a7 bj;refine⟨rfl,λj z U=>?_⟩
      match j,U with
      |0,U=>
       simp at U;subst U;exact⟨ee,rfl,cA.mono T (J.trans V)⟩
      |1,U=>
       simp at U;subst U;exact⟨w,rfl,cA.mono c7 (J.trans V)⟩
     .intro z M;have M:z∈[r,G[j]]:=M;rcases mem_cons.1 M with rfl|M
      .exact(n.row _ A).len
      .have e7:=mem_singleton.1 M
       have:z∈f:=by
        have h9:z∈under oH (iQ on) f (oH (pick r (nI on))):=by rw[hG,e7];exact getElem_mem _
        exact(mem_filter.1 h9).1
       exact(d.row _ this).len
     .have e7:(G.take (j+1)).map (r++ ·)=(G.take j).map (r++ ·)++[r++G[j]]:=by rw[take_add_one,getElem?_eq_getElem b7,map_append];rfl
      dsimp only;rw[e7, <-append_assoc];exact(L.mono (V.trans c')).snoc (bo c0)
     .dsimp only;rw[map_append];exact MT
    .have:j=G.length:=by omega
     subst this;rw[kA aD];refine⟨(k'+1,y3,a',a0,b6,mz,Z),⟨by dsimp only;omega,rfl,rfl,rfl,rfl,le.trans J,?_⟩,by dsimp only;omega,MT⟩;dsimp only;rw[EA _ H,a5];rw[take_length]at L;exact L
  .rw[take_of_length_le aD]at D
   refineλs h' a8 a7=>fW.sub sx (B.trans (le.trans a8)) (hK s h' (B.trans (le.trans a8)) ((D.mono a8).rows a7 ?_))
   have h5:(E.flatMap (oX on f)).length<=E.length*f.length:=Ab λx _=>Cu;have h6:=D.len;omega
def XT:Vc.Spec:=λc m h K=>∃u b v w r,c=[cS u,cP b]/\m b=some (.cells ⟨uD.enc v⟩ 111 (0,0))/\eH h w v.where_/\cA h u r/\K (cB (mE r w)) m h
def aYZ(t:Bool):Vc.Spec:=λc m h K=>∃u b s l r,c=[cS u,cP b]/\m b=some (.cells #[.slice s.a s.len s.cap] 68 (0,0))/\Rows h s l/\j9 l/\cA h u r/\l.length<=1000000/\K (cB (G6 l r==t)) m h
def aTZ:Vc.Spec:=λe m h K=>∃u d f y s r c ks,e=[cS u,cP d,cP f]/\m d=some (.cells #[.map (some y)] 182 (0,0))/\m f=some (.cells #[.slice s.a s.len s.cap] 30 (0,0))/\CU m y ks/\Ints h s c/\cA h u r/\SD r/\jC r.length c/\fM m/\∀t:Bool,(t=true↔oH (pick r c)∈ks)->K (cB t) m h
def a1X:Vc.Spec:=λc m h K=>∃i:Nat,∃d e f v od g s rs r x,c=[cI i,cP d,cP e,cP f]/\m d=some (.cells ⟨uD.enc v⟩ 111 (0,0))/\m e=some (.cells #[Sl.val g] 68 (0,0))/\m f=some (.cells #[Sl.val s] 100 (0,0))/\jD h v.order od/\Rows h g rs/\cA h s r/\rs[i]? =some x/\
 K (cB (decide (lF od x r>=0))) m h
def Vl:Vc.Spec:=λc m h K=>∃(n d e f:Nat)(v:uD)(od:ca)(g s:Sl)(rs:bx)(r:cd)(w:Nat),c=[cI n,.val (.func (.func 135) #[] #[.pointer (some ⟨d,0,none⟩),.pointer (some ⟨e,0,none⟩),.pointer (some ⟨f,0,none⟩)])]/\
 m d=some (.cells ⟨uD.enc v⟩ 111 (0,0))/\m e=some (.cells #[Sl.val g] 68 (0,0))/\m f=some (.cells #[Sl.val s] 100 (0,0))/\jD h v.order od/\Rows h g rs/\cA h s r/\rs.length=n/\tM od rs/\(∀x∈rs,x.length=w)/\r.length=w/\
 K (cI ((rs.countP λy=>decide (lF od y r<0):Nat):Int)) m h
def XO:Vc.Spec:=λc m h K=>∃u d e v y gr od l f g r w,c=[cS u,cP d,cP e]/\m d=some (.cells #[.map (some y)] 185 (0,0))/\m e=some (.cells ⟨uD.enc v⟩ 111 (0,0))/\vJ oH m h y gr od l f g/\hU w l/\jC w gr/\Ints h v.group gr/\jD h v.order od/\cA h u r/\SD r/\r.length=w/\fM m/\
 K (cB (decide (((l.countP λy=>H6 gr r y&&decide (lF od y r<0):Nat):Int)<v.limit))) m h
def Vm:Vc.Spec:=λe m h K=>∃v t f g c d,e=[aT v,cS f,cS g]/\sA h t v/\Rows h f c/\Rows h g d/\fM m/\2<=t.op/\t.op<=10/\O0 t.op t.query [c,d]/\c.length<=1000000/\d.length<=1000000/\∀j h',PH.le h h'->Rows h' j (SL t.op t.query [c,d])->K (cS j) m h'
noncomputable def aJJ:Ctx:=uC [(126,Rn),(134,Vl)] [] [(2,{A:=Nat×Nat×Nat×MH×PH,st:=λ⟨q,e,g,m,h⟩=>bY 21 24 [(2,pv q),(3,pv e),(5,pv g)] [] m h})] [] [200003,200005,0] [] false
noncomputable def bdQ:Ctx:=uC [(120,bvJ),(123,bPZ),(124,aYQ),(125,XK),(126,Rn),(128,Rp),(132,Vr)]
 [(7,{A:=Nat×Nat×Sl×ce×MH×PH,st:=λ⟨i,b,s,c,m,h⟩=>bY 140 143 [(3,pv b),(7,.at (.lst 33)),(34,sv s),(35,iv s.len),(36,iv i)] [(33,.lst 100 1 (c.map eS))] m h}),
  (11,{A:=Nat×Nat×Nat×Sl×Sl×Sl×ce×cd×MH×PH,st:=λ⟨k,i,b,s,u,co,c,l,m,h⟩=>bY 140 143 [(3,pv b),(7,.at (.lst 33)),(9,sv u),(10,.at (.lst 43)),(34,sv s),(35,iv s.len),(36,iv i),(45,sv co),(46,iv co.len),(47,iv k)] [(33,.lst 100 1 (c.map eS)),(43,.lst 24 3 (l.map VV.enc))] m h}),
  (24,{A:=Nat×Nat×Nat×Sl×Sl×Sl×MH×PH,st:=λ⟨i,a,b,s,t,r,m,h⟩=>bY 140 143 [(1,sv s),(13,pv a),(14,sv t),(15,pv b),(82,sv r),(83,iv r.len),(84,iv i)] [] m h}),
  (38,{A:=Nat×ce×Nat×MH×PH,st:=λ⟨b,c,r,m,h⟩=>bY 140 143 [(3,pv b),(18,.at (.lst 131)),(118,pv r)] [(131,.lst 100 1 (c.map eS))] m h})] [] [] [200003,200005,200013,200015,200021,400000,410000,0] [] false
def ahQ(u:Sl)(b:Nat)(m:MH)(h:PH)(K:bu):Prop:=
  ∃(y:PV),aU m h b 2 y.enc/\IV (λv s p r=>aI (AX y u=AX v s) (eH h p v) (cA h s r) (K (xZ (mE r p)) m h))
def agJ(u:Sl)(a b:Nat)(m:MH)(h:PH)(K:bu):Prop:=
  ∃(y:Nat),aU m h a 0 (mK y)/\∃(d:Sl),aA (aU m h b 0 (aY d)) (aU m h a 0 (mK y)) (∃(s:Sl),CN (λt r c=>aA (dX u d=dX s t) (cA h s r) (aA (Ints h t c) (SD r) (aA (zL r c) (fM m) (aA (aU m h a 0 (mK y)) (aU m h b 0 (aY d)) (IA m y (λO=>O (iM r c)) (λe=>e.1=iM r c) (K bB m h) (λk f=>List.Mem (iM r c,f) k->K (xZ f) m h)))))))
def agZ(u:Sl)(b:Nat)(m:MH)(h:PH)(K:bu):Prop:=
  wO m h b 0 (λy=>Kb (λs c l r=>aA (dX y u=dX s c) (Rows h s l) (aA (j9 l) (cA h c r) (Bv l/\K (CV.val (Value.bool (!(G6 l r)))) m h))))
def agQ(u:Sl)(b:Nat)(m:MH)(h:PH)(K:bu):Prop:=
  wO m h b 0 (λy=>Kb (λs c l r=>aA (dX y u=dX s c) (Rows h s l) (aA (j9 l) (cA h c r) (Bv l/\K (xZ (G6 l r)) m h))))
def QF(i:Nat)(u d x:Nat)(m:MH)(h:PH)(K:bu):Prop:=
  ∃(y:Sl),aU m h u 18 (aY y)/\∃(c:Sl),aU m h d 0 (aY c)/\aW (λb o=>aI (aX c.a b o) (0<=(↑i:Int)) ((↑i:Int)<aG c) (∃(e:Sl),aU m h b (bN o i 1) (aY e)/\∃(f:Sl),aA (aU m h x 0 (aY f)) (aU m h d 0 (aY c)) (lE (λg s=>RW (λt j=>∃(a n:cd),aA (dN y::bK (dN e) (dN f)=dN g::bK (dN s) (dN t)) (jD h g j) (aA (cA h s a) (cA h t n) (aU m h d 0 (aY c)/\K (xZ (decide (lF j a n>=0))) m h)))))))
abbrev DI(a:MH)(b:Nat)(c:Value)(d:MH->(Nat×Nat×Nat×MH×PH)->Prop):Prop:=MG a b 0 (λx f e=>gO a e b (tZ c 1 x.toList) f->∃(g:Nat×Nat×Nat×MH×PH),d e g)
attribute [push_cast] DI
def KL(u:Sl)(a b:Nat)(m:MH)(h:PH)(K:bu):Prop:=
  ∀(z:Nat)(d:MH),fC m h z->gO m d z (aY u) 100->∃(I:Nat×Nat×Nat×MH×PH->Prop),RX (∃(y:Nat),aU d h a 0 (mK y)/\∃(A:Sl),aU d h z 0 (aY A)/\∃(B:Sl),aA (aU d h b 17 (aY B)) (aU d h a 0 (mK y)/\∃(s:Sl),CN (λt r c=>aA (dX A B=dX s t) (cA h s r) (aA (Ints h t c) (SD r) (aA (zL r c) (fM d) (aA (aU d h a 0 (mK y)) (Gg (aU d h z 0 (aY A)) (aU d h b 17 (aY B)) d y r c (λk=>IB k r c (aI (aU d h a 0 (mK y)) (aU d h z 0 (aY A)) (aU d h b 17 (aY B)) (∀(f:Nat)(j:MH),fC d h f->gO d j f iT 68->DI j f pO (λC x=>aA (I x) (eU b x.1) (aA (eU z (iY x)) (eU f (jT x)) (bS (cV C (rE x)) h (iK x))))))) (λk D=>List.Mem
 (iM r c,D) k->aI (aU d h a 0 (mK y)) (aU d h z 0 (aY A)) (aU d h b 17 (aY B)) (∀(f:Nat)(j:MH),fC d h f->gO d j f iT 68->DI j f (gU D) (λC x=>aA (I x) (eU b x.1) (aA (eU z (iY x)) (eU f (jT x)) (bS (cV C (rE x)) h (iK x))))))) (aI (aU d h a 0 (mK y)) (aU d h z 0 (aY A)) (aU d h b 17 (aY B)) (∀(f:Nat)(j:MH),fC d h f->gO d j f iT 68->Gg (aU j h z 0 (aY A)) (aU j h b 17 (aY B)) j y r c (λk=>IB k r c (DI j f pO (λC x=>aA (I x) (eU b x.1) (aA (eU z (iY x)) (eU f (jT x)) (bS (cV C (rE x)) h (iK x)))))) (λk D=>List.Mem (iM r c,D) k->DI j f (gU D) (λC x=>aA (I x) (eU b x.1) (aA (eU z (iY
 x)) (eU f (jT x)) (bS (cV C (rE x)) h (iK x)))))))))))) (aA (aU d h a 0 (mK y)) (aU d h z 0 (aY A)) (aU d h b 17 (aY B)/\∀(f:Nat)(j:MH),fC d h f->gO d j f iT 68->aU j h a 0 (mK y)/\∃(s:Sl),CN (λt r c=>aA (dX A B=dX s t) (cA h s r) (aA (Ints h t c) (SD r) (aA (zL r c) (fM j) (aA (aU j h a 0 (mK y)) (aU j h z 0 (aY A)) (aU j h b 17 (aY B)/\∃(k:dj)(O:Value->Prop),aA (vR j y (List.map (fun(p:Value×Sl)=>(p.1,gU p.2)) k)) (Et O) (aA (O (iM r c)) (∀(e:Value×Sl),List.Mem e k->O e.1) (IB k r c (DI j f pO (λC x=>aA (I x) (eU b x.1) (aA (eU z (iY x)) (eU f (jT x)) (bS (cV C (rE x)) h (iK x)))))/\∀(D:Sl),List.Mem
 (iM r c,D) k->DI j f (gU D) (λC x=>aA (I x) (eU b x.1) (aA (eU z (iY x)) (eU f (jT x)) (bS (cV C (rE x)) h (iK x)))))))))))))) (λx=>I x->wO (mJ x) (iK x) (jT x) 0 (λy=>aW (λn f=>aW (λF G=>∃(v:uD)(o:ca),Kb (λg s r E=>∃(w:Nat),aA (bK (eG (aG y)) (Bu 135 (Gt x.1 (jT x) (iY x)))=bK (eG (↑n:Int)) (Bu 135 (Gt f F G))) ((rE x).1 f=Option.some (B5 (Array.mk v.enc) 111 0)) (aA ((rE x).1 F=Option.some (B5 (Array.mk (aY g)) 68 0)) ((rE x).1 G=Option.some (B5 (Array.mk (aY s)) 100 0)) (aA (jD (iK x) v.order o) (Rows (iK x) g r) (aA (cA (iK x) s E) (r.length=n) (aI (tM o r) (∀(H:cd),List.Mem H r->H.length=w) (E.length=w)
 (AJ (mJ x) (iK x) x.1 19 (λA=>K (CV.val (Value.bool (decide ((↑(countP (fun(B:cd)=>decide (lF o B E<0)) r):Int)<A)))) (mJ x) (iK x))))))))))))
abbrev Gi(a:Sl)(b:Nat)(c:bw)(d:PH)(e:Nat->bw->bx->(cd->Bool)->Sl->cd->Prop)(g:bu)(i:MH):Prop:=∃(x:Sl)(o:Nat)(u:bw)(j:bx)(y:cd->Bool),aA (bK (dN a) (Bu b (Array.mk c))=bK (dN x) (Bu o (Array.mk u))) (Rows d x j) (aA (Bv j) (∀(n:Sl)(f:cd),e o u j y n f) (∀(n:Sl)(f:PH),cD d f (Rows f n (filter y j)) (g (dN n) i f)))
noncomputable abbrev yW(a:Nat×Nat×Sl×ce×MH×PH):Sl:=a.2.2.1
noncomputable abbrev oR(a:Nat×Nat×Sl×ce×MH×PH):MH×PH:=a.2.2.2.2
noncomputable abbrev Gu(a:Nat×Nat×Nat×Sl×Sl×Sl×ce×cd×MH×PH):Sl:=a.2.2.2.2.1
noncomputable abbrev AY(a:Nat×Nat×Nat×Sl×Sl×Sl×ce×cd×MH×PH):Sl:=a.2.2.2.1
noncomputable abbrev yV(a:Nat×Nat×Nat×Sl×Sl×Sl×ce×cd×MH×PH):Sl:=a.2.2.2.2.2.1
noncomputable abbrev Ed(a:Nat×Nat×Nat×Sl×Sl×Sl×ce×cd×MH×PH):List bw:=DO a.2.2.2.2.2.2.2.1
noncomputable abbrev tE(a:Nat×Nat×Nat×Sl×Sl×Sl×ce×cd×MH×PH):MH×PH:=a.2.2.2.2.2.2.2.2
abbrev HB(a:bx->bx->Prop):Prop:=∃(x c:bx),a x c
noncomputable abbrev Ee(a:Nat×Nat×Nat×Sl×Sl×Sl×MH×PH):Sl:=a.2.2.2.1
noncomputable abbrev wH(a:Nat×Nat×Nat×Sl×Sl×Sl×MH×PH):Sl×Sl×MH×PH:=a.2.2.2.2
noncomputable abbrev yX(a:Nat×Nat×Nat×Sl×Sl×Sl×MH×PH):Nat:=a.2.2.1
noncomputable abbrev rR(a:Nat×Nat×Nat×Sl×Sl×Sl×MH×PH):Sl:=(wH a).2.1
noncomputable abbrev oW(a:Nat×Nat×Nat×Sl×Sl×Sl×MH×PH):Nat->Nat->Option Value:=(pU (wH a)).2
noncomputable abbrev wT(a:Nat×Nat×Nat×Sl×Sl×Sl×MH×PH):Nat->Option Obj:=(pU (wH a)).1
noncomputable abbrev Cj(a:Nat×ce×Nat×MH×PH):Nat:=a.2.2.1
noncomputable abbrev oU(a:Sl)(b:Int):Int:=ite (aG a<b) (aG a) b
attribute [push_cast] Gi yW oR Gu AY yV Ed tE HB Ee wH yX rR oW wT Cj oU
def N2(v:uD)(J s2:Sl)(m:MH)(h:PH)(K:bu):Prop:=
  ∀(b:Nat)(m1:MH),fC m h b->gO m m1 b v.enc 111->∀(U:Nat)(j:MH),fC m1 h U->gO m1 j U (aY s2) 68->AJ j h b 0 (λy=>dJ (y==2) (Gi J 121 (AZ b) h (λg c l p u r=>List.Mem r l->cA h u r->A4 g 4 (dN u::List.map CV.val c) j h (λx z f=>aA (x=tK (p r)) (z=j) (f=h))) K j) (y==3) (aA (bZ 0) (bZ (aG J)) (aA (tF J 24) (rF (aG J)) (∃(I:Nat×Nat×Sl×ce×MH×PH->Prop)(z:Nat×Nat×Sl×ce×MH×PH->Nat),(∃(x:Nat×Nat×Sl×ce×MH×PH),aA (I x) (eU b x.2.1) (aA (eL 33) (bH J (yW x)) (aA (cF J (yW x)) (bF x.1) (aA (AH x.2.2.2.1) (cV j (oR x)) (bD h (oR x).2)))))/\∀(x:Nat×Nat×Sl×ce×MH×PH),I x->bA (↑x.1:Int) (aG (yW x)) (aW
 (λA o=>aI (aX (yW x).a A o) (0<=(↑x.1:Int)) ((↑x.1:Int)<aG (yW x)) (∃(G:Sl),aU (oR x).1 (oR x).2 A (bN o x.1 1) (aY G)/\∃(B:Sl),aA (aU (oR x).1 (oR x).2 x.2.1 15 (aY B)) (bZ (aG B)) (aA (y7 B) (tF B 32) (rF (aG B)/\wO (oR x).1 (oR x).2 x.2.1 15 (λH=>∃(I1:Nat×Nat×Nat×Sl×Sl×Sl×ce×cd×MH×PH->Prop)(M:Nat×Nat×Nat×Sl×Sl×Sl×ce×cd×MH×PH->Nat),(∃(d:Nat×Nat×Nat×Sl×Sl×Sl×ce×cd×MH×PH),aA (I1 d) (eU x.2.1 d.2.2.1) (aA (eL 33) (bH G (Gu d)) (aA (eL 43) (bH (yW x) (AY d)) (aA (cF (yW x) (AY d)) (cJ x.1 d.2.1) (aA (bH H (yV d)) (cF H (yV d)) (aA (bF d.1) (qM x.2.2.2.1
 d.2.2.2.2.2.2.1) (aI (cH 24 3 (wC (aG B) yU)=cH 24 3 (Ed d)) (fO (oR x) (tE d)) ((oR x).2=(tE d).2) True)))))))/\∀(d:Nat×Nat×Nat×Sl×Sl×Sl×ce×cd×MH×PH),I1 d->bA (↑d.1:Int) (aG (yV d)) (aW (λR X=>aI (aX (yV d).a R X) (0<=(↑d.1:Int)) ((↑d.1:Int)<aG (yV d)) (∃(C:Int),aU (tE d).1 (tE d).2 R (bN X d.1 1) (bJ C)/\aW (λZ o2=>aI (aX (Gu d).a Z o2) (0<=C) (C<aG (Gu d)) (∃(y5:VV),Eg (aU (tE d).1 (tE d).2 Z (gC o2 C 3) y5.enc) 0 (↑d.1:Int) (Ed d) (λe=>aA (oA (Ed d) (↑d.1:Int) e) (3<=e.length) (∃(n:Nat×Nat×Nat×Sl×Sl×Sl×ce×cd×MH×PH),aA (I1 n) (M n<M d) (aA (eU d.2.2.1
 n.2.2.1) (eL 33) (aA (bH (Gu d) (Gu n)) (eL 43) (aA (bH (AY d) (AY n)) (cF (AY d) (AY n)) (aA (cJ d.2.1 n.2.1) (bH (yV d) (yV n)) (aA (cF (yV d) (yV n)) (fU (bG d.1 1)=bP n.1) (aA (qM d.2.2.2.2.2.2.1 n.2.2.2.2.2.2.1) (cH 24 3 (List.set (Ed d) (↑d.1:Int).toNat (aR (dY y5.kind) (dY y5.int) (tZ (Value.string y5.text) 3 e)))=cH 24 3 (Ed n)) (aA (fO (tE d) (tE n)) ((tE d).2=(tE n).2) True)))))))))))))) (cG (tE d).2 3 (Ed d) (λs f=>jZ (fP d.2.2.2.2.2.2.1) 24 (∃(n:Nat×Nat×Sl×ce×MH×PH),aA (I n) (z n<z x) (aA (eU d.2.2.1 n.2.1) (eL 33) (aA (bH (AY d) (yW n)) (cF (AY d) (yW n)) (aA (fU (bG d.2.1 1)=bP n.1) (qL 1
 (fK (fP d.2.2.2.2.2.2.1) (aY s)) n.2.2.2.1) (bS (fO (tE d) (oR n)) f (oR n).2))))))))))))) (cG (oR x).2 1 (fP x.2.2.2.1) (λs f=>∃(D:Sl)(u:ce)(l:bx),aA (iN s=iN D) (sM (oR x).1 f D 1 (fP u)) (aA (gS f u l) (l.length<=502633886983) (∀(O:Sl)(E:PH),cD f E (Rows E O (Dq l)) (K (dN O) (oR x).1 E)))))))) (dJ (y==4) (∃(G:uD),aU j h b 0 G.enc/\∃(B:Sl),aU j h U 0 (aY B)/\∃(L:uD)(o:bz),lE (λs D=>HB (λl F=>aA (mQ G::bK (dN J) (dN B)=mQ L::bK (dN s) (dN D)) (iD h L.on o) (aA (Rows h s l) (Rows h D F) (aI (fM j) (a4Z o [l,F]) (l.length*F.length<=1000000) (∀(O:Sl)(f:PH),cD h f (Rows f O (flatMap (oX o F) l))
 (K (dN O) j f))))))) (y==5) (wO j h b 16 (λG=>I0 G h (λo=>∀(a A:Sl)(f:PH),cD h f (Ints f a (nI o)) (Ints f A (iQ o)->∀(R:Nat)(z:MH),fC j f R->gO j z R iT 30->uM z R (gU a) (λM=>B7 M f (λZ S=>∀(b5:Nat)(P:MH),fC S f b5->gO S P b5 (kL (Value.map Option.none)) 182->uM P b5 (Value.map (Option.some Z)) (λm7=>wO m7 f U 0 (λB=>∃(I:Nat×Nat×Nat×Sl×Sl×Sl×MH×PH->Prop)(m8:Nat×Nat×Nat×Sl×Sl×Sl×MH×PH->Nat),(∃(x:Nat×Nat×Nat×Sl×Sl×Sl×MH×PH),aA (I x) (bH J (Ee x)) (aA (eU R x.2.1) (bH A (wH x).1) (aA (eU b5 (yX x)) (bH B (rR x)) (aA (cF B (rR x)) (bF x.1) (bS (cV m7 (pU (wH x))) f (oW x))))))/\∀(x:Nat×
 Nat×Nat×Sl×Sl×Sl×MH×PH),I x->bA (↑x.1:Int) (aG (rR x)) (aW (λb6 X=>aI (aX (rR x).a b6 X) (0<=(↑x.1:Int)) ((↑x.1:Int)<aG (rR x)) (∃(H:Sl),aU (wT x) (oW x) b6 (bN X x.1 1) (aY H)/\∃(C:Nat),aA (aU (wT x) (oW x) (yX x) 0 (mK C)) (aU (wT x) (oW x) (yX x) 0 (mK C)) (∃(s:Sl),CN (λt r c=>aA (dX H (wH x).1=dX s t) (cA (oW x) s r) (aA (Ints (oW x) t c) (SD r) (aI (zL r c) (fM (wT x)) (aU (wT x) (oW x) (yX x) 0 (mK C)) (Gh (wT x) C r c (λk=>∀(T:MH),pX (wT x) T C->vT T C (k++CL (iM r c) Ap)->∃(d:Nat×Nat×Nat×Sl×Sl×Sl×MH×PH),aA (I d) (m8 d<m8 x) (aA (bH (Ee x) (Ee d)) (eU x.2.1
 d.2.1) (aA (bH (wH x).1 (wH d).1) (eU (yX x) (yX d)) (aA (bH (rR x) (rR d)) (cF (rR x) (rR d)) (aI (fU (bG x.1 1)=bP d.1) (cV T (pU (wH d))) (oW x=oW d) True))))) (λk l L F=>k=l++(iM r c,L)::F->∀(T:MH),pX (wT x) T C->vT T C (l++(iM r c,Ap)::F)->∃(d:Nat×Nat×Nat×Sl×Sl×Sl×MH×PH),aA (I d) (m8 d<m8 x) (aA (bH (Ee x) (Ee d)) (eU x.2.1 d.2.1) (aA (bH (wH x).1 (wH d).1) (eU (yX x) (yX d)) (aA (bH (rR x) (rR d)) (cF (rR x) (rR d)) (aI (fU (bG x.1 1)=bP d.1) (cV T (pU (wH d))) (oW x=oW d) True))))))))))))) (Gi (Ee x) 127 (nA (vQp (yX x) 0) (vQp x.2.1 0)) (oW x) (λg c l p u r
 =>List.Mem r l->cA (oW x) u r->A4 g 4 (dN u::List.map CV.val c) (wT x) (oW x) (λd T E=>aA (d=tK (p r)) (cV T (pU (wH x))) (E=oW x))) K (wT x)))))))))) (dJ (y==6) (wO j h U 0 (λG=>cG h 1 (zB J G) (λs f=>∃(D:Sl),HB (λl F=>aA (iN s=iN D) (Leaves f D [l,F]) (aA (Bv l) (Bv F) (∀(O:Sl)(E:PH),cD f E (Rows E O (l++F)) (∃(Y:Sl)(u:ce)(Q:bx),aA (iN O=iN Y) (sM j E Y 1 (fP u)) (aA (gS E u Q) (Q.length<=502633886983) (∀(s6:Sl)(V:PH),cD E V (Rows V s6 (Dq Q)) (K (dN s6) j V)))))))))) (y==7) (Gi J 129 (AZ U) h (λg c l p u r=>List.Mem r l->cA h u r->A4 g 4 (dN u::List.map CV.val c) j h (λx z f=>aA (x=tK (p
 r)) (z=j) (f=h))) K j) (dJ (y==8) (Gi J 131 (AZ U) h (λg c l p u r=>List.Mem r l->cA h u r->A4 g 4 (dN u::List.map CV.val c) j h (λx z f=>aA (x=tK (p r)) (z=j) (f=h))) K j) (y==9) (∃(G:uD),aU j h b 0 G.enc/\∃(L:uD),Nz (λs g o=>∃(l:bx)(w:Nat),aA (bK (mQ G) (dN J)=bK (mQ L) (dN s)) (Ints h L.group g) (aA (jD h L.order o) (Rows h s l) (aI (hU w l) (jC w g) (fM j) (∀(B:Nat),eX (λz f=>∀(k:cm)(g1:ByteArray->bx),j B=Option.none->(∀(A:Nat),zK (A=B)->z A=j A)->cD h f (vJ oH z f B g o l k g1) (∃(k1:ci),jO (vT z B k1) (λr=>∀(M:MH),fC z f r->pX z M r->lV M B r k1 k1->∃(I:Nat×ce
 ×Nat×MH×PH->Prop)(S:Nat×ce×Nat×MH×PH->Nat),(∃(x:Nat×ce×Nat×MH×PH),aA (I x) (eU b x.1) (aA (eL 131) (eU r (Cj x)) (aI (AH x.2.1) (cV M x.2.2.2) (f=x.2.2.2.2) True)))/\∀(x:Nat×ce×Nat×MH×PH),I x->NA (λA k2 F=>aA (lV x.2.2.2.1 A (Cj x) k2 F) (F=[]->cG x.2.2.2.2 1 (fP x.2.1) (λD E=>∃(O:Sl)(u:ce)(Q:bx),aA (iN D=iN O) (sM x.2.2.2.1 E O 1 (fP u)) (aA (gS E u Q) (Q.length<=502633886983) (∀(Y:Sl)(V:PH),cD E V (Rows V Y (Dq Q)) (K (dN Y) x.2.2.2.1 V))))) (∀(Q:ci)(d:Value×Value)(l3:ci),F=Q++d::l3->∀(P:MH),pX x.2.2.2.1 P (Cj x)->EH P A (Cj x) k2 (Q++l3) d->NA (λR k3 l4=>∃(n:
 Value×Value),EH P R (Cj x) k3 l4 n/\∃(D:Sl),n.2=gU D/\∃(H:Int),aI (aU P x.2.2.2.2 x.1 19 (bJ H)) (0<=oU D H) (oU D H<=(↑D.cap:Int)) (∃(C:List bw),aA (eW 1 C) (sM P x.2.2.2.2 (Sl.mk D.a (oU D H).toNat D.cap) 1 C) (aA (tS (fP x.2.1) C 24) (oS (fP x.2.1) C) (∃(W:Nat×ce×Nat×MH×PH),aA (I W) (S W<S x) (aA (eU x.1 W.1) (eL 131) (aA (eU (Cj x) (Cj W)) (qL 1 (fP x.2.1++C) W.2.1) (aA (cV P W.2.2.2) (x.2.2.2.2=W.2.2.2.2) True))))))))))))))))) (∃(G:uD),aU j h b 0 G.enc/\∃(B:Sl),aU j h U 0 (aY B)/\∃(L:uD),Nz (λs g o=>∃(l:bx)(w:Nat),aA (bK (mQ G) (dN B)=bK (mQ L) (dN s)) (Ints h L.group g) (aA (jD h L.order o) (Rows h s
 l) (aI (hU w l) (jC w g) (fM j) (∀(H:Nat),eX (λz f=>∀(k:cm)(g1:ByteArray->bx),j H=Option.none->(∀(A:Nat),zK (A=H)->z A=j A)->cD h f (vJ oH z f H g o l k g1) (∀(A:Nat)(M:MH),fC z f A->gO z M A (kL (Value.map Option.none)) 185->uM M A (Value.map (Option.some H)) (λS=>Gi J 133 (nA (vQp A 0) (vQp b 0)) f (λg2 c F p u r=>List.Mem r F->cA f u r->A4 g2 4 (dN u::List.map CV.val c) S f (λx P E=>aA (x=tK (p r)) (P=S) (E=f))) K S))))))))))))
theorem Xh:br 121 XT:=by
 refine hJ func121 ?_;rintro c m h K ⟨u,b,v,w,r,rfl,d,e,f,g⟩;refine⟨uC [(122,aZQ)] [] [] [] [0] [] false,rfl,aE Xg aH,ahQ u b m h K,bi,?_⟩;exact⟨v.where_,.of_m d rfl,v.where_,u,w,r,rfl,e,f,g⟩
theorem Xd:br 127 aTZ:=by
 refine hJ func127 ?_;rintro j m h K ⟨u,e,n,y,s,r,c,ks,rfl,f,g,o,x,z,A,d,B,C⟩;refine⟨uC [(126,Rn)] [] [] [] [0] [] false,rfl,aE BB aH,agJ u e n m h K,bi,?_⟩;exact⟨y,.of_m f rfl,s,.of_m g rfl,.of_m f rfl,u,s,r,c,rfl,z,x,A,d,B,.of_m f rfl,.of_m g rfl,o.get C⟩
theorem Xb:br 129 (aYZ false):=by
 refine hJ func129 ?_;rintro e m h K ⟨u,b,s,l,r,rfl,f,g,c,j,n,d⟩;refine⟨uC [(130,a0Z)] [] [] [] [0] [] false,rfl,aE Ol aH,agZ u b m h K,bi,?_⟩;exact⟨s,.of_m f rfl,s,u,l,r,rfl,g,c,j,n,by rw[show(G6 l r==false)= !G6 l r by cases G6 l r<;>rfl]at d;exact d⟩
theorem Xa:br 131 (aYZ true):=by
 refine hJ func131 ?_;rintro e m h K ⟨u,b,s,l,r,rfl,f,g,c,j,n,d⟩;refine⟨uC [(130,a0Z)] [] [] [] [0] [] false,rfl,aE Ol aH,agQ u b m h K,bi,?_⟩;exact⟨s,.of_m f rfl,s,u,l,r,rfl,g,c,j,n,by rw[show(G6 l r==true)=G6 l r by cases G6 l r<;>rfl]at d;exact d⟩
theorem W7:br 135 a1X:=by
 refine hJ func135 ?_;rintro j m h K ⟨i,n,e,o,v,od,g,s,rs,r,x,rfl,y,z,A,B,c,C,f,D⟩;refine⟨uC [(136,OR)] [] [] [] [0] [] false,rfl,aE Oj aH,QF i n e o m h K,bi,?_⟩;dsimp only[QF,push_cast];have J:=bV.slen c;have L:=(List.getElem?_eq_some_iff.1 f).1;obtain⟨E,F,u,G,H,I⟩:=bV.at c f;have d:aU m h e 0 [gU g]:=.of_m z rfl;exact⟨v.order,.of_m y rfl,g,d,E,F,G,aD,aD,u,.imm H,s,.of_m A rfl,d,v.order,u,s,od,x,r,rfl,B,I,C,d,D⟩
theorem UP:br 134 Vl:=Vz W7 λy m h K⟨n,j,o,u,v,od,g,s,rs,r,z,e,A,B,C,D,c,E,F,d,G,f,H⟩=>⟨n,j,o,u,z,od,rs,r,e,by have:=c.len;omega,F,d,G,f,λi x I=>⟨i,j,o,u,v,od,g,s,rs,r,x,rfl,A,B,C,D,c,E,I,rfl,rfl,rfl⟩,H⟩
structure btQ(m:MH)(h:PH)(v:uD)(bq be:Nat)(e:Sl)(Gk:bx)(c:Nat×Nat×Nat×MH×PH):Prop where
 c1:c.1=bq
 c2:c.2.1=be
 c3:c.2.2.2.2=h
 sub:Sub m c.2.2.2.1
 q_:c.2.2.2.1 bq=some (.cells ⟨uD.enc v⟩ 111 (0,0))
 e_:c.2.2.2.1 be=some (.cells #[Sl.val e] 100 (0,0))
 g_:∃s,c.2.2.2.1 c.2.2.1=some (.cells #[Sl.val s] 68 (0,0))/\Rows h s Gk
theorem W8:br 133 XO:=by
 refine TZ func133 ?_;rintro a9 m h K ⟨u,ba,M,v,y,gr,od,l,kk,G,r,w,rfl,X,H,Y,L,B,Z,a6,hu,hr,O,hT,hK⟩;refine⟨aJJ,rfl,aE BB (aE UP aH),KL u ba M m h (fW h K),bi,?_⟩;show KL u ba M m h (fW h K);dsimp only[KL,push_cast];intro T D a7 a';obtain⟨F,n1⟩:=Dy (Sub.refl m) a7 a';have I:D T=some (.cells #[Sl.val u] 100 (0,0)):=a'.at_;have a0:jC r.length gr:=by rw[O];exact B
 have g1:=Y.keep (λo e=>F _ o e) (.refl _)
 have a1:∀{g j},fC D h g->iV D j g (.cells #[pO] 68 (0,0))->∀z o,D z=some o->j z=some o:=fun{g j} f d z o A=>by
  have:z≠g:=λU=>by rw[U,f.m_]at A;cases A
  rw[d.other z this];exact A
 have fin:∀s,ET kk (oH (pick r gr)) s->∀g j,fC D h g->iV D j g (.cells #[pO] 68 (0,0))->∃(cs:Array Value)(E:TypeId),MAt j g (.cells cs E (0,0))/\0<cs.size/\∀m9,iV j m9 g (.cells (Array.mk (gU s::cs.toList.drop 1)) E (0,0))->
  ∃c:Nat×Nat×Nat×MH×PH,btQ m h v M T u (G (oH (pick r gr))) c/\sQo M 0=sQo c.1 0/\sQo T 0=sQo c.2.1 0/\sQo g 0=sQo c.2.2.1 0/\m9=c.2.2.2.1/\h=c.2.2.2.2/\True:=λs x g j f d=>by
  refine⟨_,_,⟨d.at_⟩,bj,λm9 a2=>⟨(M,T,g,m9,h),?_,MT⟩⟩
  have P:∀z o,D z=some o->m9 z=some o:=λz o A=>by
   have:z≠g:=λU=>by rw[U,f.m_]at A;cases A
   rw[a2.other z this,d.other z this];exact A
  exact⟨rfl,rfl,rfl,λz o A=>P z o (F z o A),P _ _ (F _ _ H),P _ _ I,s,a2.at_,Y.at_ x⟩
 have Q:aU D h ba 0 [Value.map (some y)]:=.of_m (F _ _ X) rfl;have V:aU D h T 0 [gU u]:=.of_m I rfl;have W:aU D h M 17 [gU v.group]:=.of_m (F _ _ H) rfl;refine⟨btQ m h v M T u (G (oH (pick r gr))),⟨y,Q,u,V,v.group,W,⟨Q,u,v.group,r,gr,rfl,hu,Z,hr,a0,hT.sub F,Q,⟨V,W,g1.get2 (λx=>⟨Q,V,W,fin _ x⟩) (λs x=>⟨Q,V,W,fin _ x⟩)⟩,Q,V,W,λg j f d=>?_⟩,Q,V,W,λg j f d=>?_⟩,?_⟩
 .have J:=a1 f d;exact⟨.of_m (J _ _ I) rfl,.of_m (J _ _ (F _ _ H)) rfl,(g1.keep (J y) (.refl _)).get2 (λx=>fin _ x g j f d) (λs x=>fin _ x g j f d)⟩
 .have J:=a1 f d;have a3:aU j h ba 0 [Value.map (some y)]:=.of_m (J _ _ (F _ _ X)) rfl;exact⟨a3,u,v.group,r,gr,rfl,hu,Z,hr,a0,(hT.sub F).sub J,a3,.of_m (J _ _ I) rfl,.of_m (J _ _ (F _ _ H)) rfl,(g1.keep (J y) (.refl _)).get2 (λx=>fin _ x g j f d) (λs x=>fin _ x g j f d)⟩
 .rintro⟨c1,c2,g,mz,hz⟩ ⟨e1,A,U,a4,R,a5,s,S,C⟩;dsimp only at e1 A U a4 R a5 S⊢
  subst e1 A U;have n:=LJ Ji (od:=od) L B hr O;rw[<-(Y.perm _).countP_eq]at n;refine⟨s,.of_m S rfl,s.len,c1,g,c2,v,od,s,u,G (oH (pick r gr)),r,w,rfl,R,S,a5,a6,C,hu,C.slen.symm,Y.sort _,λz a8=>?_,O,v.limit,.of_m R rfl,?_⟩
  .have:=(Y.perm _).mem_iff.1 (show z∈_ from a8);exact L.wid z (mem_filter.1 this).1
  .rw[n];exact fW.keep a4 (.refl _) hK
theorem bTQ(x:Value):Vc.valOf Tryz.prog 4 [x]=x:=bi
theorem JE{g:Nat}{S:Vc.Spec}{u:Sl}{c:bw}{b:Bool}(d:br g S)(e:∀K:CV->MH->PH->Prop,K (cB b) m h->S (cS u::c.map .val) m h K):FAt Tryz.prog g 4 (cS u::c.map .val) m h λx m' h'=>x=[.bool b]/\m'=m/\h'=h:=
 Sound.fat (vs:=Sl.val u::c) d (e _ ⟨[.bool b],(congrArg CV.val (bTQ _)).symm,rfl,rfl,rfl⟩)
structure StM(m m2:MH)(b b2:Nat)(v:uD)(s2:Sl):Prop where
 sub:Sub m m2
 b_:m2 b=some (.cells ⟨uD.enc v⟩ 111 (0,0))
 s_:m2 b2=some (.cells #[Sl.val s2] 68 (0,0))
 tab:fM m2
theorem Z1:br 68 Vm:=by
 refine TZ func68 ?_;rintro k4 m h K ⟨v,t,R,S,B,C,rfl,T,G,J,hT,h2,g8,P,W,b7,I⟩;refine⟨bdQ,rfl,aE Xi (aE Xf (aE Xe (aE Om (aE BB (aE Xc (aE W9 aH)))))),N2 v R S m h (fW h K),bi,?_⟩;show N2 v R S m h (fW h K);dsimp only[N2,push_cast];obtain⟨op,ta,w,co,on,gr,od,li,lf,rt⟩:=t;dsimp only[Step.query]at P I h2 g8;intro b m1 d3 a7 b2 m2 b8 a8
 have M:StM m m2 b b2 v S:=by
  obtain⟨R,n1⟩:=Dy (Sub.refl m) d3 a7;obtain⟨st,n2⟩:=Dy R b8 a8;have g9:b≠b2:=λe=>by have:=b8.m_;rw[<-e,a7.at_]at this;cases this
  exact⟨st,by rw[a8.other b g9];exact a7.at_,a8.at_,hT.sub st⟩
 clear d3 a7 b8 a8;have d4:=bV.slen G;have d5:=bV.slen J;have e0:v.op=op:=T.op_;have go:∀k,(v.op==k)=true->op=k:=λk e=>e0.symm.trans (eq_of_beq e);have b9:∀{m' h'},m' b=some (.cells ⟨uD.enc v⟩ 111 (0,0))->aU m' h' b 0 (uD.enc v):=λh=>.of_m h (take_length ..);refine⟨v.op,.of_m M.b_ rfl,aC (λe=>?_) (λn2=>aC (λe=>?_) (λn3=>aC (λe=>?_) (λn4=>aC (λe=>?_) (λn5=>aC (λe=>?_) (λn6=>aC (λe=>?_) (λn7=>aC (λe=>?_) (λn8=>aC (λe=>?_) (λn9=>?_))))))))⟩
 .obtain rfl:=go _ e;exact⟨R,121,[.pointer (some ⟨b,0,none⟩)],B,λr=>mE r w,rfl,G,W,λu r n X=>JE Xh λK I=>⟨u,b,v,w,r,rfl,M.b_,T.where_,X,I⟩,λL h' le n=>fW.sub M.sub le (I L h' le n)⟩
 .obtain rfl:=go _ e;obtain⟨_,k5,wd,d,A⟩:=(show atQ (.mk 3 ta w co on gr od li []) [B,C]from P)
  have d:hU wd B:=d;have hc:Ints h v.columns co:=T.columns_;have h4:=hc.slen;refine⟨aD,aD,aD,aD,λx=>x.1<=B.length/\x.2.1=b/\x.2.2.1=R/\x.2.2.2.2.1=m2/\PH.le h x.2.2.2.2.2/\gS x.2.2.2.2.2 x.2.2.2.1 ((B.take x.1).map λr=>pick r co),λx=>B.length-x.1,⟨(0,b,R,[],m2,h),⟨Nat.zero_le _,rfl,rfl,rfl,.refl _,bo (gS.nil h)⟩,MT⟩,?_⟩;rintro⟨i,b',t1,us,mx,Y⟩ ⟨hi,e1,j,O,le,n⟩;dsimp only at hi e1 j O le n⊢
  subst e1 j O;refine aF (λc'=>?_) (λd6=>?_)
  .obtain⟨r,D⟩:=eF d4 c';obtain⟨bb,o,u,ea,rd,X⟩:=bV.at G D;have h7:=d.wid r (mem_of_getElem? D);have d7:=cA.mono X le;have k6:=bV.slen d7;have h8:(pick r co).length=co.length:=by simp[pick]
   have d8:=n.len;rw[length_map,length_take]at d8;refine⟨bb,o,ea,aD,aD,u,.imm (rd.mono le),v.columns,.of_m M.b_ rfl,aD,aD,aD,aD,v.columns,.of_m M.b_ rfl,λz=>z.1<=co.length/\z.2.1=i/\z.2.2.1=b'/\z.2.2.2.1=t1/\z.2.2.2.2.1=u/\z.2.2.2.2.2.1=v.columns/\z.2.2.2.2.2.2.1=us/\z.2.2.2.2.2.2.2.1=(pick r co).take z.1++replicate (co.length-z.1) zeroV/\z.2.2.2.2.2.2.2.2.1=mx/\z.2.2.2.2.2.2.2.2.2=Y,λz=>co.length-z.1,⟨(0,i,b',t1,u,v.columns,us,replicate co.length zeroV,mx,Y),⟨Nat.zero_le _,rfl,rfl,rfl,rfl,rfl,rfl,bj,rfl,rfl⟩,?_⟩,?_⟩
   .dsimp only;rw[map_replicate,show((v.columns.len:Int)).toNat=co.length by omega];exact MT
   .rintro⟨k,i',d9,e',u',cc,f',cells,my,hy⟩ ⟨hk,e1,j,O,e4,e5,e6,e7,e8,e9⟩;dsimp only at hk e1 j O e4 e5 e6 e7 e8 e9⊢
    subst e1 j O e4 e5 e6 e7 e8 e9;refine aF (λf0=>?_) (λd6=>?_)
    .obtain⟨c,f1⟩:=eF h4 f0;obtain⟨b4,o4,e4,h9⟩:=(hc.mono le).at f1;obtain⟨y,i0,i1,h0,h1⟩:=RS (r:=r) (by rw[h7];exact A) f1;obtain⟨b5,o5,y',e5,i2,rfl⟩:=bV.at d7 i0;have f2:k<co.length:=by omega
     have f3:=arQ i1 f2;refine⟨b4,o4,e4,aD,aD,c,.imm (bo h9),b5,o5,e5,h0,aD,y,.imm i2,aD,by simp;omega,_,Zg f2,by simp[VV.enc],(k+1,i',d9,e',u',v.columns,f',(pick r co).take (k+1)++replicate (co.length-(k+1)) zeroV,my,hy),⟨by dsimp only;omega,rfl,rfl,rfl,rfl,rfl,rfl,rfl,rfl,rfl⟩,(by dsimp only;omega),?_⟩;dsimp only;refine⟨rfl,rfl,rfl,rfl,rfl,rfl,rfl,rfl,rfl,by rw[kA aD],rfl,?_,rfl,rfl,trivial⟩;rw[<-f3,map_set];rfl
    .have:k=co.length:=by omega
     subst this;rw[take_of_length_le aD,Nat.sub_self,replicate_zero,append_nil]
     refineλs3 h3 E U=>⟨by rw[length_map];omega,by rw[length_map];omega,(i'+1,d9,e',f'++[s3],my,h3),⟨by dsimp only;omega,rfl,rfl,rfl,le.trans E,?_⟩,by dsimp only;omega,?_⟩
     .dsimp only;rw[take_add_one,D,map_append];exact(n.mono E).snoc ⟨⟨_,U,rfl,λi x Y=>⟨x,Y,rfl⟩⟩,by rw[h8];omega⟩
     .dsimp only;rw[kA aD,map_append];exact MT
  .rw[take_of_length_le aD]at n
   exactλs3 h3 E U=>⟨s3,us,_,rfl,.imm U,n.mono E,by simp;omega,λL h' a0 c0=>fW.sub M.sub (le.trans (E.trans a0)) (I L h' (le.trans (E.trans a0)) c0)⟩
 .obtain rfl:=go _ e;obtain⟨h5,h6⟩:=(show atJ (.mk 4 ta w co on gr od li []) [B,C]from P)
  exact⟨v,b9 M.b_,S,.of_m M.s_ rfl,v,on,R,S,B,C,rfl,T.on_,G,J,M.tab,h5,h6,λL h' le n=>fW.sub M.sub le (I L h' le n)⟩
 .obtain rfl:=go _ e;obtain⟨_,wa,wb,d,f,f4,c5⟩:=(show asX (.mk 5 ta w co on gr od li []) [B,C]from P)
  have d:hU wa B:=d;have f:hU wb C:=f;refine⟨v.on,.of_m M.b_ rfl,v.on,on,rfl,T.on_,λsa sb h1 F i3 i4 b3 m3 f5 c6=>⟨_,_,⟨c6.at_⟩,bj,λm4 a1 y m5 i5 Z b4 m6 f6 c7=>⟨_,_,⟨c7.at_⟩,bj,λm7 c8=>?_⟩⟩⟩;obtain⟨k7,n3⟩:=Dy M.sub f5 c6
  have Q:∀{z o},m2 z=some o->m4 z=some o:=fun{z o} j=>by
   have:z≠b3:=λO=>by rw[O,f5.m_]at j;cases j
   rw[a1.other z this,c6.other z this];exact j
  have c9:∀{z o},m4 z=some o->m7 z=some o/\z≠y:=fun{z o} j=>by
   have O:z≠y:=λO=>by rw[O,i5.m_]at j;cases j
   have e5:m5 z=some o:=by rw[Z.other z O];exact j
   have e4:z≠b4:=λe4=>by rw[e4,f6.m_]at e5;cases e5
   exact⟨by rw[c8.other z e4,c7.other z e4];exact e5,O⟩
  have y4:y≠b4:=λe=>by have:=f6.m_;rw[<-e,Z.at_]at this;cases this
  have i8:m7 y=some (.map #[] 0):=by rw[c8.other y y4,c7.other y y4];exact Z.at_
  have i9:m7 b2=some (.cells #[Sl.val S] 68 (0,0)):=(c9 (Q M.s_)).1;have f7:=c9 a1.at_;have V:∀{z o},m z=some o->m7 z=some o/\z≠y:=fun{z o} e=>c9 (Q (M.sub z o e));have G:=bV.mono G F (λ_ _ h=>cA.mono h F);have J:=bV.mono J F (λ_ _ h=>cA.mono h F);refine⟨S,.of_m i9 rfl,λz=>z.1<=C.length/\z.2.1=b3/\z.2.2.1=b4/\z.2.2.2.1=R/\z.2.2.2.2.1=sb/\z.2.2.2.2.2.1=S/\z.2.2.2.2.2.2.2=h1/\(∀x o,m7 x=some o->x≠y->z.2.2.2.2.2.2.1 x=some o)/\CU z.2.2.2.2.2.2.1 y ((C.take z.1).map λr=>oH (pick r (iQ on))),λz=>C.length-z.1,⟨(0,b3,b4,R,sb,S,m7,h1),⟨Nat.zero_le _,rfl,rfl,rfl,rfl,rfl,rfl,λ_ _ e _=>e,bo (CU.new i8)⟩,MT⟩,?_⟩;rintro⟨i,c3,c4,t1,tb,t2,mx,Y⟩ ⟨hi,e1,j,O,e4,e5,e6,a',a9⟩;dsimp only at hi e1 j O e4 e5 e6 a' a9⊢
  subst e1 j O e4 e5 e6;have T7:fM mx:=hT.sub λz o e=>a' z o (V e).1 (V e).2;have f8:mx c4=some (.cells #[.map (some y)] 182 (0,0)):=a' c4 _ c8.at_ (Ne.symm y4);refine aF (λc'=>?_) (λd6=>?_)
  .obtain⟨r,D⟩:=eF d5 c';obtain⟨bb,o,u,ea,rd,X⟩:=bV.at J D;have f9:=mem_of_getElem? D;have r4:aU mx Y c4 0 [Value.map (some y)]:=.of_m f8 rfl;rw[kA aD];refine⟨bb,o,ea,aD,aD,u,.imm rd,y,r4,r4,u,tb,r,iQ on,rfl,X,i4,f.row r f9,by rw[f.wid r f9];exact c5,T7,r4,a9.put (λm' j' g'=>⟨(i+1,c3,c4,t1,tb,t2,m',Y),⟨by dsimp only;omega,rfl,rfl,rfl,rfl,rfl,rfl,λz o j a2=>by dsimp only;rw[j'.other z a2];exact a' z o j a2,?_⟩,by dsimp only;omega,MT⟩)⟩;obtain⟨kk,h5,h6⟩:=g'.ex;exact⟨kk,h5,λq=>by rw[h6,take_add_one,D];simp[or_comm]⟩
  .rw[take_of_length_le aD]at a9;refine⟨t1,127,[.pointer (some ⟨c4,0,none⟩),.pointer (some ⟨c3,0,none⟩)],B,λx=>C.any λy=>agree on x y,rfl,G,W,λu r n X=>JE Xd λK I=>⟨u,c4,c3,y,sa,r,nI on,_,rfl,f8,a' c3 _ f7.1 f7.2,a9,i3,X,d.row r n,by rw[d.wid r n];exact f4,T7,λt T=>?_⟩,λL h' le n=>fW.sub (λz o e=>a' z o (V e).1 (V e).2) (F.trans le) (I L h' (F.trans le) n)⟩;have g0:jC r.length (nI on):=by rw[d.wid r n];exact f4
   have h1:(oH (pick r (nI on))∈C.map λz=>oH (pick z (iQ on)))↔(C.any λy=>agree on r y)=true:=by
    rw[mem_map,any_eq_true];constructor
    .rintro⟨z,hz,j⟩;exact⟨z,hz,(Ko Ji (d.row r n) (f.row z hz) g0 (by rw[f.wid z hz];exact c5)).1 j.symm⟩
    .rintro⟨z,hz,j⟩;exact⟨z,hz,((Ko Ji (d.row r n) (f.row z hz) g0 (by rw[f.wid z hz];exact c5)).2 j).symm⟩
   rw[h1]at T;have:(C.any λy=>agree on r y)=t:=Bool.eq_iff_iff.2 T.symm;dsimp only at I;rw[this]at I;exact I
 .obtain rfl:=go _ e;refine⟨S,.of_m M.s_ rfl,λs h1 F D=>⟨s,B,C,rfl,⟨⟨[R,S],D,rfl,λi x Y=>?_⟩,bj⟩,W,b7,λsl h2 H n=>?_⟩⟩
  .match i,Y with
   |0,Y=>cases Y;exact⟨R,rfl,bV.mono G F (λ_ _ h=>cA.mono h F)⟩
   |1,Y=>cases Y;exact⟨S,rfl,bV.mono J F (λ_ _ h=>cA.mono h F)⟩
  .obtain⟨⟨us,D,g1,j0⟩,_⟩:=n;exact⟨sl,us,B++C,rfl,.imm D,⟨g1.symm,j0⟩,by rw[length_append];omega,λL h3 E U=>fW.sub M.sub (F.trans (H.trans E)) (I L h3 (F.trans (H.trans E)) U)⟩
 .obtain rfl:=go _ e;obtain⟨_,wd,d⟩:=(show RT (.mk 7 ta w co on gr od li []) [B,C]from P)
  exact⟨R,129,[.pointer (some ⟨b2,0,none⟩)],B,λr=>G6 C r==false,rfl,G,W,λu r n X=>JE Xb λK I=>⟨u,b2,S,C,r,rfl,M.s_,J,(d C bj).srt,X,b7,I⟩,λL h' le n=>fW.sub M.sub le (I L h' le n)⟩
 .obtain rfl:=go _ e;obtain⟨_,wd,d⟩:=(show RT (.mk 8 ta w co on gr od li []) [B,C]from P)
  exact⟨R,131,[.pointer (some ⟨b2,0,none⟩)],B,λr=>G6 C r==true,rfl,G,W,λu r n X=>JE Xa λK I=>⟨u,b2,S,C,r,rfl,M.s_,J,(d C bj).srt,X,b7,I⟩,λL h' le n=>fW.sub M.sub le (I L h' le n)⟩
 .obtain rfl:=go _ e;obtain⟨_,⟨wd,d,A⟩,g2⟩:=(show asZ (.mk 9 ta w co on gr od li []) [B,C]from P)
  have d:hU wd B:=d;refine⟨v,b9 M.b_,v,R,gr,od,B,wd,rfl,T.group_,T.order_,G,d,A,M.tab,λy m3 h2 kk g hy a3 H hg=>⟨_,hg.map_,λr m4 d' j1 it=>?_⟩⟩;have a4:∀{z o},m2 z=some o->m3 z=some o:=fun{z o} e=>by rw[a3 z (λj=>by rw[j,hy]at e;cases e)];exact e
  have Q:∀{z o},m2 z=some o->m4 z=some o/\z≠r:=fun{z o} e=>by
   have:z≠r:=λj=>by have:=a4 e;rw[j,d'.m_]at this;cases this
   exact⟨by rw[j1.other z this];exact a4 e,this⟩
  refine⟨λz=>z.1=b/\z.2.2.1=r/\z.2.2.2.2=h2/\(∀x o,m4 x=some o->x≠r->z.2.2.2.1 x=some o)/\∃left a5,lV z.2.2.2.1 y r (kk.map λp=>(Value.string p.1,gU p.2)) left/\gS h2 z.2.1 a5/\FP oH gr li B kk g left a5,λz=>leftOf z.2.2.2.1 z.2.2.1,⟨(b,[],r,m4,h2),⟨rfl,rfl,rfl,λ_ _ e _=>e,_,[],it,gS.nil _,.start⟩,MT⟩,?_⟩;rintro⟨b',us,r',mz,hz⟩ ⟨e1,j,O,b0,left,a5,a6,b1,rk⟩;dsimp only at e1 j O b0 a6 b1 rk⊢
  subst e1 j O;have d8:=b1.len;have k0:=rk.cnt;refine⟨y,_,left,a6,λd0 s3 h3 E U=>?_,λk1 x1 k2 d1 m5 g3 d2=>?_⟩
  .subst d0;refine⟨s3,us,a5,rfl,.imm U,b1.mono E,aD,λL h' a0 c0=>fW.sub (λz o e=>b0 z o (Q (M.sub z o e)).1 (Q (M.sub z o e)).2) (H.trans (E.trans a0)) (I L h' (H.trans (E.trans a0)) ?_)⟩;show Rows h' L (HD gr od li B B);rw[rk.done Ji hg d A g2];exact c0
  .have j2:x1∈left:=by rw[d1];simp
   obtain⟨p0,g4,rfl⟩:=mem_map.1 (lV.mem a6 j2);have g5:v.limit=li:=T.limit_;have j3:m5 b'=some (.cells ⟨uD.enc v⟩ 111 (0,0)):=by rw[g3.other b' (Q M.b_).2];exact b0 b' _ (Q M.b_).1 (Q M.b_).2
   obtain⟨c1,c2,g6,D,k',g1⟩:=apZ (li:=li) (hg.rows p0 g4) g2;have k8:=(hg.perm p0.1).length_eq;have k3:(nK oH gr B p0.1).length<=B.length:=length_filter_le _ _;refine⟨y,_,_,_,d2,p0.2,rfl,li,.of_m j3 (by rw[<-g5];rfl),c1,c2,g6.map eS,H7 _,.imm D,by rw[length_map,length_map];omega,by rw[length_map,length_map];omega,(b',us++g6,r',m5,hz),⟨rfl,rfl,rfl,λx o e a2=>by dsimp only;rw[g3.other x a2];exact b0 x o e a2,_,a5++(g p0.1).take li.toNat,d2.it,b1.app k',rk.step hg a6 g4 d1⟩,?_,by rw[map_append];exact MT⟩;show leftOf m5 r'<leftOf mz r';rw[lV.left_ d2.it,lV.left_ a6,d1];simp
 .have n2:=ne_of_beq_false n2;have n3:=ne_of_beq_false n3;have n4:=ne_of_beq_false n4;have n5:=ne_of_beq_false n5;have n6:=ne_of_beq_false n6;have n7:=ne_of_beq_false n7;have n8:=ne_of_beq_false n8;have n9:=ne_of_beq_false n9;obtain rfl:op=10:=by omega
  obtain⟨_,wd,d,f,A⟩:=(show TE (.mk 10 ta w co on gr od li []) [B,C]from P)
  have d:hU wd B:=d;have f:hU wd C:=f;refine⟨v,b9 M.b_,S,.of_m M.s_ rfl,v,S,gr,od,C,wd,rfl,T.group_,T.order_,J,f,A,M.tab,λy m3 h2 kk g hy a3 H hg b4 m4 d' a1=>⟨_,_,⟨a1.at_⟩,bj,λm5 Z=>?_⟩⟩
  have g7:∀{z o},m3 z=some o->m5 z=some o:=fun{z o} e=>by
   have:z≠b4:=λj=>by rw[j,d'.m_]at e;cases e
   rw[Z.other z this,a1.other z this];exact e
  have a4:∀{z o},m2 z=some o->m5 z=some o:=fun{z o} e=>g7 (by rw[a3 z (λj=>by rw[j,hy]at e;cases e)];exact e);have b6:Sub m m5:=λz o e=>a4 (M.sub z o e);exact⟨R,133,[.pointer (some ⟨b4,0,none⟩),.pointer (some ⟨b,0,none⟩)],B,λr=>decide (((C.countP λy=>H6 gr r y&&decide (lF od y r<0):Nat):Int)<v.limit),rfl,bV.mono G H (λ_ _ h=>cA.mono h H),W,λu r n X=>JE W8 λK I=>⟨u,b4,b,v,y,gr,od,C,kk,g,r,wd,rfl,Z.at_,a4 M.b_,hg.keep (λo=>g7) (.refl _),f,A,T.group_.mono H,T.order_.mono H,X,d.row r n,d.wid r n,hT.sub b6,I⟩,λL h' le n=>fW.sub b6 (H.trans le) (I L h' (H.trans le) (by have e:v.limit=li:=T.limit_;rw[e]at n;exact n))⟩
def aSt(s:Sl):CV:=.val (.agg ⟨[.slice s.a s.len s.cap]⟩)
def bvX:Vc.Spec:=λc m h K=>∃v s,c=[aS v,cI 3]/\gA h s v/\K (cI (cX s)) m h
def xB(st:List bx):Int:=(st.map λl=>(l.length:Int)).sum
def YY:Vc.Spec:=λc m h K=>∃s d,c=[aSt s]/\Leaves h s d/\d.length<=1000/\K (cI (xB d)) m h
def ZA(s:iJ)(t:Int)(r:cd):Bool:=xY s t&&(match s.tables[t.toNat]? with|some c=>EV c r|none=>false)
def Jh(s:iJ)(t:Int)(r:cd):cd:=match(if xY s t then s.tables[t.toNat]? else none)with|some c=>lH c r|none=>[]
def bwX:Vc.Spec:=λc m h K=>∃v s t d r,c=[aS v,cI t,cS d,cI 3]/\gA h s v/\cA h d r/\K (cB (ZA s t r)) m h
def YL:Vc.Spec:=λc m h K=>∃v s t d r,c=[aS v,cI t,cS d]/\gA h s v/\cA h d r/\∀e,cA h e (Jh s t r)->K (cS e) m h
def LX:Vc.Spec:=λc m h K=>∃v s e d,c=[aS v,cI 3,aSt e]/\gA h s v/\Leaves h e d/\d.length<=1000/\K (cI (kN s d)) m h
noncomputable def aLJ:Ctx:=cW [(143,bKZ),(164,OA)] [(7,{A:=Nat×cM×Sl×MH×PH,st:=λ⟨i,t,s,m,h⟩=>bY 95 99 [(3,iv 3),(9,.at (.ptr 9 0)),(41,sv s),(42,iv s.len),(43,iv i)] [(9,.cells 82 (t.enc.map .val))] m h})] [(12,{A:=Nat×cM×VV×Sl×Bool×MH×PH,st:=λ⟨i,t,v,s,b,m,h⟩=>bY 95 99 [(3,iv 3),(9,.at (.ptr 9 0)),(10,iv i),(11,.at (.ptr 11 0)),(12,bv b),(41,sv s),(42,iv s.len),(43,iv i)] [(9,.cells 82 (t.enc.map .val)),(11,.cells 24 (v.enc.map .val))] m h}),
 (13,{A:=Nat×cM×VV×Sl×Bool×Bool×MH×PH,st:=λ⟨i,t,v,s,b,c,m,h⟩=>bY 95 99 [(3,iv 3),(9,.at (.ptr 9 0)),(10,iv i),(11,.at (.ptr 11 0)),(12,bv b),(13,bv c),(41,sv s),(42,iv s.len),(43,iv i)] [(9,.cells 82 (t.enc.map .val)),(11,.cells 24 (v.enc.map .val))] m h})] [] false
noncomputable def aMQ(s:Sl)(m:MH)(h:PH):Ctx:=cW [] [(3,{A:=Nat×Int,st:=λ⟨i,n⟩=>bY 19 20 [(3,iv n),(7,sv s),(8,iv s.len),(9,iv i)] [] m h})] [] [] false
noncomputable def bdX(v:cN)(s:Sl)(m:MH)(h:PH):Ctx:=cW [(115,bvX),(116,YY),(117,bwX),(119,YL),(118,Hh)] [(9,{A:=Nat,st:=λi=>bY 69 72 [(1,iv 3),(3,.at (.ptr 3 0)),(29,sv s),(30,iv s.len),(31,iv i)] [(3,.cells 40 (v.enc.map .val))] m h}),
 (12,{A:=Nat×Sl×Nat,st:=λ⟨i,u,j⟩=>bY 69 72 [(1,iv 3),(3,.at (.ptr 3 0)),(8,iv i),(9,sv u),(29,sv s),(30,iv s.len),(31,iv i),(36,sv u),(37,iv u.len),(38,iv j)] [(3,.cells 40 (v.enc.map .val))] m h})] [] [] false
def QP(v:cN)(m:MH)(h:PH)(K:bu):Prop:=
  oG (λc s=>oB (bQ v) (bQ c) (gA h s c) (dC (cX s) 0 (K (eG (cX s)) m h) (K (eG 0) m h)))
def QO(s:Sl)(m:MH)(h:PH)(K:bu):Prop:=
  ∃(I:Nat×Int->Prop)(d:Nat×Int->Nat),(∃(x:Nat×Int),aA (I x) (dA 0 x.2) (aA (aJ s) (bI s) (aI (bF x.1) (m=m) (h=h) True)))/\∀(x:Nat×Int),I x->bA (↑x.1:Int) (aG s) (aW (λb o=>aI (aX s.a b o) (0<=(↑x.1:Int)) ((↑x.1:Int)<aG s) (∃(y:Sl),aU m h b (bN o x.1 1) (aY y)/\∃(c:Nat×Int),aA (I c) (d c<d x) (aA (dA (iE (x.2+aG y)) c.2) (aJ s) (aA (bI s) (fU (bG x.1 1)=bP c.1) (aA (m=m) (h=h) True)))))) (K (eG x.2) m h)
noncomputable abbrev oT(a:Nat×cM×Sl×MH×PH):Sl:=a.2.2.1
noncomputable abbrev Fo(a:Nat×cM×Sl×MH×PH):cM:=a.2.1
noncomputable abbrev yZ(a:Nat×cM×Sl×MH×PH):Nat->Nat->Option Value:=a.2.2.2.2
noncomputable abbrev IW(a:Nat×cM×VV×Sl×Bool×MH×PH):Bool:=a.2.2.2.2.1
noncomputable abbrev A0(a:Nat×cM×VV×Sl×Bool×MH×PH):Sl:=a.2.2.2.1
noncomputable abbrev Kc(a:Nat×cM×VV×Sl×Bool×MH×PH):cM:=a.2.1
noncomputable abbrev A1(a:Nat×cM×VV×Sl×Bool×MH×PH):MH×PH:=a.2.2.2.2.2
noncomputable abbrev wU(a:Nat×cM×VV×Sl×Bool×Bool×MH×PH):Sl:=a.2.2.2.1
noncomputable abbrev Fm(a:Nat×cM×VV×Sl×Bool×Bool×MH×PH):cM:=a.2.1
noncomputable abbrev qJ(a:Nat×cM×VV×Sl×Bool×Bool×MH×PH):MH×PH:=a.2.2.2.2.2.2
attribute [push_cast] oT Fo yZ IW A0 Kc A1 wU Fm qJ
def QN(v:cN)(t:Int)(s:Sl)(m:MH)(h:PH)(K:bu):Prop:=
  oG (λj n=>∃(u:Int),aA (bT (bQ v) t=bT (bQ j) u) (gA h n j) (qB (xY n u) (K bB m h) (F7 v t (λb o=>∃(y:cM),aU m h b (gC o t 5) (yY y)/\dC (aG s) (zM y) (K bB m h) (∃(I:Nat×cM×Sl×MH×PH->Prop)(f:Nat×cM×Sl×MH×PH->Nat),(∃(x:Nat×cM×Sl×MH×PH),aA (I x) (dO 3) (aA (eP 9) (bH s (oT x)) (aA (cF s (oT x)) (bF x.1) (aA (oQ 82 (gK y)=oQ 82 (gK (Fo x))) (cV m x.2.2.2) (bD h (yZ x))))))/\∀(x:Nat×cM×Sl×MH×PH),I x->bA (↑x.1:Int) (aG (oT x)) (aW (λz A=>aI (aX (oT x).a z A) (0<=(↑x.1:Int)) ((↑x.1:Int)<aG (oT x)) (∃(g:VV),aU x.2.2.2.1 (yZ x) z (bN A x.1 3) g.enc/\∃(B:VV),fB (nE (hX g) (hX B))
 (!(kY B)) (K bB x.2.2.2.1 (yZ x)) (∃(I1:Nat×cM×VV×Sl×Bool×MH×PH->Prop),dZ g.kind 2 (∃(d:Nat×cM×VV×Sl×Bool×MH×PH),aA (I1 d) (dO 3) (aA (eP 9) (cJ x.1 d.1) (aA (eP 11) (i7 (decide ((↑x.1:Int)>=(Fo x).key)) (IW d)) (aA (bH (oT x) (A0 d)) (cF (oT x) (A0 d)) (aA (cJ x.1 d.1) (oQ 82 (gK (Fo x))=oQ 82 (gK (Kc d))) (aA (mZ 24 g.enc=mZ 24 d.2.2.1.enc) (fO x.2.2.2 (A1 d)) (bD (yZ x) (A1 d).2))))))) (∃(d:Nat×cM×VV×Sl×Bool×MH×PH),aA (I1 d) (dO 3) (aA (eP 9) (cJ x.1 d.1) (aA (eP 11) (CK (IW d)) (aA (bH (oT x) (A0 d)) (cF (oT x) (A0 d)) (aA (cJ x.1 d.1) (oQ 82 (gK (Fo x))=oQ 82 (gK (Kc d))) (aA (mZ 24 g.enc=mZ
 24 d.2.2.1.enc) (fO x.2.2.2 (A1 d)) (bD (yZ x) (A1 d).2)))))))/\∀(d:Nat×cM×VV×Sl×Bool×MH×PH),I1 d->∃(I2:Nat×cM×VV×Sl×Bool×Bool×MH×PH->Prop),dZ d.2.2.1.kind 1 (∃(c:Nat×cM×VV×Sl×Bool×Bool×MH×PH),aA (I2 c) (dO 3) (aA (eP 9) (cJ d.1 c.1) (aA (eP 11) (i7 (IW d) c.2.2.2.2.1) (aA (i7 (decide ((↑d.1:Int)>=(Kc d).key)) c.2.2.2.2.2.1) (bH (A0 d) (wU c)) (aA (cF (A0 d) (wU c)) (cJ d.1 c.1) (aA (oQ 82 (gK (Kc d))=oQ 82 (gK (Fm c))) (mZ 24 d.2.2.1.enc=mZ 24 c.2.2.1.enc) (bS (fO (A1 d) (qJ c)) (A1 d).2 (qJ c).2))))))) (∃(c:Nat×cM×VV×Sl×Bool×Bool×MH×PH),aA (I2 c) (dO 3) (aA (eP 9) (cJ d.1 c.1) (aA (eP 11) (i7 (IW d)
 c.2.2.2.2.1) (aA (CK c.2.2.2.2.2.1) (bH (A0 d) (wU c)) (aA (cF (A0 d) (wU c)) (cJ d.1 c.1) (aA (oQ 82 (gK (Kc d))=oQ 82 (gK (Fm c))) (mZ 24 d.2.2.1.enc=mZ 24 c.2.2.1.enc) (bS (fO (A1 d) (qJ c)) (A1 d).2 (qJ c).2)))))))/\∀(c:Nat×cM×VV×Sl×Bool×Bool×MH×PH),I2 c->aW (λC D=>aI (aX (Fm c).columns.a C D) (0<=(↑c.1:Int)) ((↑c.1:Int)<aG (Fm c).columns) (∃(E:Int),aU (qJ c).1 (qJ c).2 C (bN D c.1 2+1) (bJ E)/\dC c.2.2.1.kind E (qB c.2.2.2.2.1 (qB c.2.2.2.2.2.1 (K bB (qJ c).1 (qJ c).2) (∃(e:Nat×cM×Sl×MH×PH),aA (I e) (f e<f x) (aA (dO 3) (eP 9) (aA (bH (wU c) (oT e)) (cF (wU c) (oT e)) (aA (fU
 (bG c.1 1)=bP e.1) (oQ 82 (gK (Fm c))=oQ 82 (gK (Fo e))) (bS (fO (qJ c) e.2.2.2) (qJ c).2 (yZ e))))))) (∃(e:Nat×cM×Sl×MH×PH),aA (I e) (f e<f x) (aA (dO 3) (eP 9) (aA (bH (wU c) (oT e)) (cF (wU c) (oT e)) (aA (fU (bG c.1 1)=bP e.1) (oQ 82 (gK (Fm c))=oQ 82 (gK (Fo e))) (bS (fO (qJ c) e.2.2.2) (qJ c).2 (yZ e))))))) (∃(e:Nat×cM×Sl×MH×PH),aA (I e) (f e<f x) (aA (dO 3) (eP 9) (aA (bH (wU c) (oT e)) (cF (wU c) (oT e)) (aA (fU (bG c.1 1)=bP e.1) (oQ 82 (gK (Fm c))=oQ 82 (gK (Fo e))) (bS (fO (qJ c) e.2.2.2) (qJ c).2 (yZ e)))))))))))) (fJ K x.2.2.2.1 (yZ x)))))))
def QL(v:cN)(t:Int)(s:Sl)(m:MH)(h:PH)(K:bu):Prop:=
  bA t 0 (K CZ m h) (fQ t (i6 v) (K CZ m h) (aW (λb o=>aI (aX (tX v) b o) (0<=t) (t<aG v.tables) (∃(y:Int),aI (aU m h b (gC o t 5+2) (bJ y)) (0<=ite (oU s y>0) (oU s y) 0) (ite (oU s y>0) (oU s y) 0<=(↑s.cap:Int)) (K (CV.val (Value.slice s.a (ite (oU s y>0) (oU s y) 0).toNat s.cap)) m h)))))
noncomputable abbrev nX(a:Nat×Sl×Nat):Sl:=a.2.1
noncomputable abbrev Gv(a:Nat×Sl×Nat):Int:=iE ((↑a.2.2:Int)-1)
attribute [push_cast] nX Gv
def Uj(v:cN)(s:Sl)(m:MH)(h:PH)(K:bu):Prop:=
  oG (λA n=>aA (bT (bQ v) 3=bT (bQ A) 3) (gA h n A) (dC (cX n) 0 (K (eG (cX n)) m h) (∃(B:Sl)(u:List bx),aI (oF (lG (aY s))=oF (lG (aY B))) (Leaves h B u) (lR u.length) (dJ (decide (xB u>512)) (K (eG 2) m h) (aG s !=i6 v) (K (eG 80) m h) (mP (λI x=>aA (I x) (dO 3) (aA dR (aJ s) (aA (bI s) (bF x) (aA (cE v) (m=m) (bD h h))))) (λI C x=>I x->bA (↑x:Int) (aG s) (aW (λb o=>aI (aX s.a b o) (0<=(↑x:Int)) ((↑x:Int)<aG s) (∃(y:Sl),aU m h b (bN o x 1) (aY y)/\∃(I1:Nat×Sl×Nat->Prop)(e:Nat×Sl×Nat->Nat),(∃(c:Nat×Sl×Nat),aA (I1 c) (dO 3) (aA dR (cJ x c.1) (aA (bH y (nX c)) (aJ s) (aA (bI s) (cJ x c.1) (aA (bH y
 (nX c)) (cF y (nX c)) (aA (bF c.2.2) (cE v) (bS (m=m) h h)))))))/\∀(c:Nat×Sl×Nat),I1 c->bA (↑c.2.2:Int) (aG (nX c)) (aW (λD E=>aI (aX (nX c).a D E) (0<=(↑c.2.2:Int)) ((↑c.2.2:Int)<aG (nX c)) (∃(z:Sl),aU m h D (bN E c.2.2 1) (aY z)/\oG (λF G=>∃(t:Int),oK (λH r=>aI (bQ v::eG (↑c.1:Int)::bT (dN z) 3=bQ F::eG t::bT (dN H) 3) (gA h G F) (cA h H r) (mS (!(ZA G t r)) (K (eG 80) m h) (↑c.2.2:Int) 0 (aW (λf g=>aI (aX (nX c).a f g) (0<=Gv c) (Gv c<aG (nX c)) (∃(j:Sl),aU m h f (gC g (Gv c) 1) (aY j)/\oG (λJ L=>∃(M:Int),oK (λO P=>aI (bQ v::bK (eG (↑c.1:Int)) (dN j)=bQ J::bK (eG M)
 (dN O)) (gA h L J) (cA h O P) (∀(Q:Sl),cA h Q (Jh L M P)->bO h f (gC g (Gv c) 1) (aY j)/\oG (λR S=>∃(T:Int),oK (λa U=>aI (bQ v::bK (eG (↑c.1:Int)) (dN z)=bQ R::bK (eG T) (dN a)) (gA h S R) (cA h a U) (∀(V:Sl),cA h V (Jh S T U)->bO h f (gC g (Gv c) 1) (aY j)/\∃(W:Sl),oK (λX Y=>∃(Z:cd),aI (dX Q V=dX W X) (cA h W Y) (cA h X Z) (fQ (dP Y Z) 0 (K (eG 80) m h) (∃(d:Nat×Sl×Nat),aA (I1 d) (e d<e c) (aA (dO 3) dR (aA (cJ c.1 d.1) (bH (nX c) (nX d)) (aA (aJ s) (bI s) (aA (cJ c.1 d.1) (bH (nX c) (nX d)) (aA (cF (nX c) (nX d)) (fU (bG c.2.2 1)=bP d.2.2) (aI (cE v) (m=m) (h=h)
 True)))))))))))))))))) (∃(d:Nat×Sl×Nat),aA (I1 d) (e d<e c) (aA (dO 3) dR (aA (cJ c.1 d.1) (bH (nX c) (nX d)) (aA (aJ s) (bI s) (aA (cJ c.1 d.1) (bH (nX c) (nX d)) (aA (cF (nX c) (nX d)) (fU (bG c.2.2 1)=bP d.2.2) (aI (cE v) (m=m) (h=h) True))))))))))))) (∃(d:Nat),aA (I d) (C d<C x) (aA (dO 3) dR (aA (aJ s) (bI s) (aA (fU (bG c.1 1)=bP d) (cE v) (bS (m=m) h h)))))))) (K (eG 0) m h)))))))
theorem cA.cut{a:Option Addr}{len c:Nat}{r:cd}(x:cA h ⟨a,len,c⟩ r){n:Nat}(z:n<=r.length):cA h ⟨a,n,c⟩ (r.take n):=by
 obtain⟨⟨e,f,g,j⟩,A⟩:=x;refine⟨⟨e.take n,by rw[map_take];exact dK.cut f n (by rw[length_map];omega),by rw[length_take,length_take,g],λi x d=>?_⟩,by rw[length_take];omega⟩;rw[getElem?_take]at d;split at d
 .rename_i o;obtain⟨v,u,y⟩:=j i x d;exact⟨v,by rw[getElem?_take,if_pos o];exact u,y⟩
 .cases d
theorem bnZ{v:cN}(d:gA h s v)(c:K (cI (cX s)) m h):QP v m h K:=
 ⟨v,s,rfl,d,aC (λ_=>c) (λe=>by rw[show cX s=0 by simpa using e]at c;exact c)⟩
theorem Xm:br 115 bvX:=by
 refine hJ func115 ?_;rintro c m h K ⟨v,s,rfl,d,e⟩;refine⟨cW [(54,Bk)] [] [] [] false,rfl,aE ag aH,QP v m h K,bi,?_⟩;exact bnZ d e
theorem Leaves.lens{s:Sl}{st:List bx}(c:Leaves h s st){l:bx}(d:l∈st):l.length<=502633886983:=by
 obtain⟨i,e,rfl⟩:=mem_iff_getElem.1 d;obtain⟨_,_,_,_,_,f⟩:=bV.at c (getElem?_eq_getElem e);exact f.len
theorem FI:∀{l:List bx},(∀x∈l,x.length<=502633886983)->0<=xB l/\xB l<=(l.length:Int)*502633886983
 |[],_=>by simp[xB]
 |a::l,h=>by
  have e:=h a (mem_cons_self ..);have c:=FI (l:=l) λx d=>h x (mem_cons_of_mem _ d);simp only[xB,map_cons,sum_cons,length_cons]at c⊢
  omega
theorem Xx{st:List bx}{l:bx}(h:st[i]? =some l):xB (st.take (i+1))=xB (st.take i)+(l.length:Int):=by
 rw[take_add_one,h];simp[xB]
theorem Xl:br 116 YY:=by
 refine hJ func116 ?_;rintro A m h K ⟨s,c,rfl,f,J,B⟩;refine⟨aMQ s m h,rfl,aH,QO s m h K,bi,?_⟩;dsimp only[QO,push_cast];have g:=bV.slen f;refine⟨λz=>z.1<=c.length/\z.2=xB (c.take z.1),λz=>c.length-z.1,⟨(0,0),⟨bj,by simp[xB]⟩,MT⟩,?_⟩;rintro⟨i,n⟩ ⟨C,e⟩;dsimp only at C e⊢
 subst e;refine aF (λj=>?_) (λD=>?_)
 .obtain⟨l,d⟩:=eF g j;obtain⟨b,o,u,E,rd,F⟩:=bV.at f d;have y:=bV.slen F;have G:=FI (l:=c.take (i+1)) λx d=>f.lens (mem_of_mem_take d);have H:=(FI (l:=c.take i) λx d=>f.lens (mem_of_mem_take d)).1;have I:=Xx d;rw[length_take]at G;refine⟨b,o,E,aD,aD,u,.imm rd,(i+1,xB (c.take (i+1))),⟨by show i+1<=c.length;omega,rfl⟩,by show c.length-(i+1)<c.length-i;omega,?_⟩;rw[dT aD aD,y, <-I];exact MT
 .rw[take_of_length_le aD];exact B
theorem FF{t:yB}{r:cd}:EV t r=true↔r.length=t.columns.length/\∀i,i<r.length->A9 t.key (t.columns.getD i ⟨⟨#[]⟩,0⟩).kind i (r.getD i zeroV)=true:=by
 simp only[EV,Bool.and_eq_true,decide_eq_true_eq,all_eq_true,mem_range]
theorem T0{t:Int}{r:cd}{c:yB}(d:s.tables[t.toNat]? =some c)(h:xY s t=true):ZA s t r=EV c r:=by
 simp only[ZA,h,d,Bool.true_and]
theorem Xk:br 117 bwX:=by
 refine hJ func117 ?_;rintro a' m h K ⟨v,s,t,O,r,rfl,P,Q,B⟩;refine⟨aLJ,rfl,aE Oi (aE Of aH),QN v t O m h K,bi,?_⟩;dsimp only[QN,push_cast];have a0:=P.tables.slen;have a1:=bV.slen Q;refine⟨v,s,t,rfl,P,aC (λe=>?_) (λe=>?_)⟩
 .have e:xY s t=false:=bo e
  simp only[ZA,e,Bool.false_and]at B;exact B
 have e:xY s t=true:=bo e
 have he:=e;simp only[xY,Bool.and_eq_true,decide_eq_true_eq]at he;obtain⟨d,J⟩:∃d,s.tables[t.toNat]? =some d:=⟨_,getElem?_eq_getElem aD⟩
 obtain⟨b,o,y,ea,rd,R⟩:=bV.at P.tables J;rw[T0 J e]at B;have a2:=bV.slen R.columns;have hk:=R.key;refine⟨b,o,ea,he.1,aD,y,.imm rd,aC (λG=>?_) (λG=>?_)⟩
 .have:EV d r=false:=by
   cases f:EV d r with
   |false=>rfl
   |true=>
    have:=(FF.1 f).1;simp at G;omega
  rw[this]at B;exact B
 have S:r.length=d.columns.length:=by simp at G;omega
 have bad:∀i,i<r.length->A9 d.key (d.columns.getD i ⟨⟨#[]⟩,0⟩).kind i (r.getD i zeroV)=false->K (cB false) m h:=λi T H=>by
  have:EV d r=false:=by
   cases f:EV d r with
   |false=>rfl
   |true=>rw[(FF.1 f).2 i T]at H;cases H
  rw[this]at B;exact B
 refine⟨λz=>z.2.1=y/\z.2.2.1=O/\z.2.2.2.1=m/\z.2.2.2.2=h/\z.1<=r.length/\∀j,j<z.1->A9 d.key (d.columns.getD j ⟨⟨#[]⟩,0⟩).kind j (r.getD j zeroV)=true,λz=>r.length-z.1,⟨(0,y,O,m,h),⟨rfl,rfl,rfl,rfl,bj,λj U=>by simp at U⟩,MT⟩,?_⟩;rintro⟨i,n,C,m',h'⟩ ⟨G,f,E,F,T,u⟩;dsimp only at G f E F T u⊢
 subst G f E F;refine aF (λa3=>?_) (λa4=>?_)
 .have L:i<r.length:=by omega
  have hx:r[i]? =some (r.getD i zeroV):=by rw[getD_eq_getElem?_getD,getElem?_eq_getElem L];rfl
  obtain⟨b2,o2,x,V,M,W⟩:=bV.at Q hx;subst W;have hc:d.columns[i]? =some (d.columns.getD i ⟨⟨#[]⟩,0⟩):=by rw[getD_eq_getElem?_getD,getElem?_eq_getElem aD];rfl
  obtain⟨b3,o3,c,X,Y,Z⟩:=bV.at R.columns hc;have g:=bad i L
  have A:A9 d.key (d.columns.getD i ⟨⟨#[]⟩,0⟩).kind i (r.getD i zeroV)=true->∀j,j<i+1->A9 d.key (d.columns.getD j ⟨⟨#[]⟩,0⟩).kind j (r.getD j zeroV)=true:=λH j U=>by
   by_cases I:j=i
   .rw[I];exact H
   .exact u j aD
  generalize r.getD i zeroV=x at g A M hx;rw[Z]at g A;have go:A9 d.key c.kind i x=true->∃z:Nat×cM×Sl×MH×PH,(z.2.1=n/\z.2.2.1=C/\z.2.2.2.1=m'/\z.2.2.2.2=h'/\z.1<=r.length/\∀j,j<z.1->A9 d.key (d.columns.getD j ⟨⟨#[]⟩,0⟩).kind j (r.getD j zeroV)=true)/\r.length-z.1<r.length-i/\z=(i+1,n,C,m',h'):=λH=>⟨_,⟨rfl,rfl,rfl,rfl,by show i+1<=r.length;omega,A H⟩,by show r.length-(i+1)<r.length-i;omega,rfl⟩
  refine⟨b2,o2,V,aD,aD,x,.imm M,x,rfl,aC (λev=>g ?_) (λev=>?_)⟩
  .have ev:kY x=false:=bo ev
   simp[A9,ev]
  have ev:kY x=true:=bo ev
  refine⟨λz=>z=(i,n,x,C,(x.kind==2&&decide ((i:Int)>=n.key)),m',h'),aC (λf=>⟨_,rfl,by rw[f];exact MT⟩) (λf=>⟨_,rfl,by rw[f];exact MT⟩),?_⟩;rintro _ rfl;dsimp only;refine⟨λz=>z=(i,n,x,C,(x.kind==2&&decide ((i:Int)>=n.key)),(x.kind==1&&decide ((i:Int)>=n.key)),m',h'),aC (λf=>⟨_,rfl,by rw[f];exact MT⟩) (λf=>⟨_,rfl,by rw[f];exact MT⟩),?_⟩;rintro _ rfl;dsimp only
  have D:A9 d.key c.kind i x=(x.kind==c.kind||((x.kind==2&&decide ((i:Int)>=n.key))||(x.kind==1&&decide ((i:Int)>=n.key)))):=by
   rw[hk];simp only[A9,ev,Bool.true_and,ge_iff_le,Bool.and_or_distrib_right]
  generalize a5:(x.kind==2&&decide ((i:Int)>=n.key))=B1 at D⊢
  generalize a6:(x.kind==1&&decide ((i:Int)>=n.key))=B2 at D⊢
  refine⟨b3,o3,X,aD,aD,c.kind,.imm (bO.part Y 1 1),aC (λE=>aC (λF=>aC (λI=>g ?_) (λI=>?_)) (λF=>?_)) (λE=>?_)⟩
  .have E:(x.kind==c.kind)=false:=bo E
   have F:B1=false:=bo F
   have I:B2=false:=bo I
   rw[D,E,F,I];rfl
  all_goals
   obtain⟨_,g1,g2,rfl⟩:=go (by rw[D];simp_all);refine⟨_,g1,g2,?_⟩;dsimp only;rw[kA (by have:=bV.len Q;omega)];exact MT
 .have:EV d r=true:=FF.2 ⟨S,λj U=>u j aD⟩;rw[this]at B;exact B
theorem Xj:br 119 YL:=by
 refine hJ func119 ?_;rintro C m h K ⟨v,s,t,x,r,rfl,z,n,A⟩;refine⟨cW [] [] [] [] false,rfl,aH,QL v t x m h K,bi,?_⟩;dsimp only[QL,push_cast];have D:=z.tables.slen;have d:=bV.slen n;have c:xY s t=false->K CZ m h:=λe=>A ⟨none,0,0⟩ (by simp only[Jh,e];exact bV.nil _ _ _ _);refine aF (λE=>c (by simp[xY];omega)) (λE=>aF (λF=>c (by simp[xY];omega)) (λF=>?_));have e:xY s t=true:=by simp[xY];omega
 obtain⟨f,g⟩:∃f,s.tables[t.toNat]? =some f:=⟨_,getElem?_eq_getElem aD⟩
 obtain⟨b,o,y,G,rd,H⟩:=bV.at z.tables g;have I:=H.key;obtain⟨a,len,j⟩:=x;have B:len<=j:=by obtain⟨M,J,_⟩:=n.ex;exact J.cap
 have d:len=r.length:=d
 have u:(if(if(len:Int)<y.key then(len:Int)else y.key)>0 then(if(len:Int)<y.key then(len:Int)else y.key)else 0)=max 0 (min f.key r.length):=by
  rw[<-I];split<;>split<;>omega
 refine⟨b,o,G,aD,aD,y.key,.imm (bO.part rd 2 1),?_⟩;dsimp only;rw[u];refine⟨aD,aD,A ⟨a,(max 0 (min f.key r.length)).toNat,j⟩ ?_⟩;have L:Jh s t r=r.take (max 0 (min f.key r.length)).toNat:=by simp only[Jh,e,if_true,g];rfl
 rw[L];exact n.cut aD
theorem GI{t:Nat}{c:yB}(h:s.tables[t]? =some c)(r:cd):Jh s t r=lH c r:=by
 have:t<s.tables.length:=(List.getElem?_eq_some_iff.1 h).1;have e:xY s (t:Int)=true:=by simp[xY];omega
 simp only[Jh,e,if_true,Int.toNat_natCast,h]
theorem Yi{t:Nat}{c:yB}(h:s.tables[t]? =some c)(r:cd):ZA s t r=EV c r:=by
 have:t<s.tables.length:=(List.getElem?_eq_some_iff.1 h).1;have e:xY s (t:Int)=true:=by simp[xY];omega
 exact T0 (bo h) e
theorem Z2:br 67 LX:=by
 refine hJ func67 ?_;rintro b' m h K ⟨v,s,Y,P,rfl,S,Z,hn,d⟩;refine⟨bdX v Y m h,rfl,aE Xm (aE Xl (aE Xk (aE Xj (aE BC aH)))),Uj v Y m h K,bi,?_⟩;dsimp only[Uj,push_cast];have b0:=S.tables.slen;have a':=bV.slen Z;unfold kN at d;refine⟨v,s,rfl,S,aC (λe=>?_) (λe=>⟨Y,P,rfl,Z,hn,aF (λQ=>?_) (λQ=>aC (λe3=>?_) (λe3=>?_))⟩)⟩
 .rw[if_pos (bo e)]at d;exact d
 all_goals rw[if_neg (bo e)]at d
 .rw[if_pos (by unfold xB at Q;omega)]at d;exact d
 all_goals rw[if_neg (by unfold xB at Q;omega)]at d
 .rw[if_pos (by simp at e3;omega)]at d;exact d
 have T:P.length=s.tables.length:=by simp at e3;omega
 rw[if_neg (by simp[T])]at d;have bad:¬MZ s P->K (cI 80) m h:=λhb=>by rw[if_neg hb]at d;exact d
 refine⟨λi=>i<=P.length/\∀(j:Nat) t l,j<i->s.tables[j]? =some t->P[j]? =some l->X1 t l,λi=>P.length-i,⟨0,⟨bj,λj t l hj=>by omega⟩,MT⟩,?_⟩;rintro i ⟨hi,E⟩;refine aF (λa0=>?_) (λb1=>?_)
 .obtain⟨l,hx⟩:=eF a' a0;obtain⟨b,o,u,ea,rd,R⟩:=bV.at Z hx;have a1:=bV.slen R;have b4:=bV.len R;obtain⟨C,c⟩:∃C,s.tables[i]? =some C:=⟨_,getElem?_eq_getElem aD⟩
  have F:¬X1 C l->K (cI 80) m h:=λhb=>bad λf=>hb (f i C l c hx);refine⟨b,o,ea,aD,aD,u,.imm rd,λz=>z.1=i/\z.2.1=u/\z.2.2<=l.length/\(∀k r,k<z.2.2->l[k]? =some r->EV C r=true)/\∀k r H,k+1<z.2.2->l[k]? =some r->l[k+1]? =some H->dP (lH C r) (lH C H)<0,λz=>l.length-z.2.2,⟨(i,u,0),⟨rfl,rfl,bj,λk r D=>by simp at D,λk r H D=>by simp at D⟩,MT⟩,?_⟩;rintro⟨I,u',j⟩ ⟨e1,Q,hj,g,x⟩;dsimp only at e1 Q hj g x⊢
  subst e1 Q;refine aF (λU=>?_) (λa9=>?_)
  .obtain⟨r,y⟩:=eF a1 U;obtain⟨b2,o2,w,a2,a3,hv⟩:=bV.at R y;refine⟨b2,o2,a2,aD,aD,w,.imm a3,v,s,I,w,r,rfl,S,hv,aC (λV=>F λf=>?_) (λV=>?_)⟩
   .rw[Yi c,f.1 r (mem_of_getElem? y)]at V;cases V
   have hf:EV C r=true:=by rw[Yi c]at V;simpa using V
   have A:∀k r,k<j+1->l[k]? =some r->EV C r=true:=λk H D J=>by
    by_cases W:k=j
    .subst W;rw[y]at J;cases J;exact hf
    .exact g k H aD J
   refine aF (λa4=>?_) (λa4=>?_)
   .have hw:IntKind.i64.wrap ((j:Int)-1)=((j-1:Nat):Int):=by rw[dT aD aD];omega
    obtain⟨X,L⟩:∃X,l[j-1]? =some X:=⟨_,getElem?_eq_getElem aD⟩
    obtain⟨b3,o3,w3,a5,M,a6⟩:=bV.at R L;rw[hw];refine⟨b3,o3,a5,aD,aD,w3,.imm M,v,s,I,w3,X,rfl,S,a6,λs1 a7=>⟨M,v,s,I,w,r,rfl,S,hv,λs2 a8=>⟨M,s1,s2,_,_,rfl,a7,a8,aF (λhc=>F λf=>?_) (λhc=>?_)⟩⟩⟩
    .rw[GI c,GI c]at hc;have:=f.2 (j-1) X r L (by rw[show j-1+1=j by omega];exact y);omega
    .rw[GI c,GI c]at hc;refine⟨(I,u',j+1),⟨rfl,rfl,by show j+1<=l.length;omega,A,λk r1 r2 D G B=>?_⟩,by show l.length-(j+1)<l.length-j;omega,?_⟩
     .by_cases W:k+1=j
      .have:k=j-1:=by omega
       subst this;rw[L]at G;rw[W,y]at B;cases G;cases B;omega
      .exact x k r1 r2 (by have:k+1<j+1:=D;omega) G B
     .dsimp only;rw[kA aD];exact MT
   .refine⟨(I,u',j+1),⟨rfl,rfl,by show j+1<=l.length;omega,A,λk r1 r2 D G B=>by have:k+1<j+1:=D;omega⟩,by show l.length-(j+1)<l.length-j;omega,?_⟩;dsimp only;rw[kA aD];exact MT
  .refine⟨I+1,⟨aD,λk t l' D ht O=>?_⟩,aD,?_⟩
   .by_cases W:k=I
    .subst W;rw[c]at ht;cases ht;rw[hx]at O;cases O;refine⟨λr R=>?_,λk r H G B=>x k r H ?_ G B⟩
     .obtain⟨n,hn,rfl⟩:=mem_iff_getElem.1 R;exact g n _ aD (getElem?_eq_getElem hn)
     .have:=(List.getElem?_eq_some_iff.1 B).1;omega
    .exact E k t l' aD ht O
   .rw[kA aD];exact MT
 .rw[if_pos]at d
  .exact d
  .exactλj t l G B=>E j t l (by have:=(List.getElem?_eq_some_iff.1 B).1;omega) G B
structure EW(h:PH)(sl:Sl)(st:List bx):Prop where
 lea:Leaves h sl st
 len:st.length<=1000
 val:StV st
theorem EW.mono{sl:Sl}{st:List bx}(x:EW h sl st)(le:PH.le h h'):EW h' sl st:=⟨bV.mono x.lea le λl s c=>bV.mono c le λr t d=>cA.mono d le,x.len,x.val⟩
noncomputable def lX(st:List bx)(ts:ck):List bx:=(List.range ts.length).map λi=>jS st (aM ts i)
structure G5(s:iJ)(st:List bx)(ts:ck):Prop where
 ar:∀(i:Nat) t,ts[i]? =some t->0<=arity t.op
 fit:∀(i:Nat) t,ts[i]? =some t->mY i t
 kinds:∀i,i<ts.length->(aK s [] (aM ts i)).2=0
 bnd:∃c,1<=c/\(∀l∈st,l.length<=c)/\∀i,i<ts.length->fE c (aM ts i)<=1000000
def bPJ:Vc.Spec:=λd m h K=>∃sc e p r s c ts rs,d=[aS sc,aSt e,aPl p r]/\gA h s sc/\EW h e c/\oY h p r ts rs/\fM m/\(gR s ts rs=0->kN s c=0->G5 s c ts)/\
 (gR s ts rs≠0->K (.tup [CZ,cI (gR s ts rs)]) m h)/\(gR s ts rs=0->kN s c≠0->K (.tup [CZ,cI (kN s c)]) m h)/\(gR s ts rs=0->kN s c=0->∀f h',PH.le h h'->Leaves h' f (lX c ts)->K (.tup [cS f,cI 0]) m h')
noncomputable def biQ(sl p:Sl):Ctx:=cW [(17,OJ),(67,LX),(68,Vm),(69,Ro)]
 [(9,{A:=Nat×ce×MH×PH,st:=λ⟨i,c,m,h⟩=>bY 85 88 [(4,.at (.ptr 4 0)),(11,.at (.lst 34)),(36,sv p),(37,iv p.len),(38,iv i)] [(4,.cells 63 [.val (.slice sl.a sl.len sl.cap)]),(34,.lst 68 1 (c.map eS))] m h}),
  (16,{A:=Nat×Nat×ce×MH×PH,st:=λ⟨i,n,c,m,h⟩=>bY 85 88 [(11,.at (.lst 34)),(71,.at (.lst 34)),(72,iv n),(73,iv i)] [(34,.lst 68 1 (c.map eS))] m h})] [] [] false
abbrev xT(a:At):Prop:=eQ (oQ 63 (rI a))
noncomputable abbrev Ef(a:Nat×ce×MH×PH):Option Go.Vc.Own:=cH 68 1 (List.map eS a.2.1)
noncomputable abbrev vA(a:Nat×ce×MH×PH):MH×PH:=a.2.2
noncomputable abbrev nF(a:Nat×ce×MH×PH):Nat->Nat->Option Value:=(vA a).2
noncomputable abbrev mL(a:Nat×ce×MH×PH):List bw:=fP a.2.1
attribute [push_cast] xT Ef vA nF mL
def N6(sc:cN)(sl p r:Sl)(m:MH)(h:PH)(K:bu):Prop:=
  ∃(s:cN),lE (λH J=>∃(D:iJ)(t:ck)(E:bt),aI (bK (bQ sc) (rT p r)=bK (bQ s) (rT H J)) (gA h D s) (oY h H J t E) (∀(_:Sl),dC (gR D t E) 0 (bU K (gR D t E) m h) (oG (λv F=>∃(L:Sl)(A:List bx),aA (bQ sc::bK (eG 3) (lG (aY sl))=bQ v::bK (eG 3) (lG (aY L))) (gA h F v) (aA (Leaves h L A) (lR A.length) (dC (kN F A) 0 (bU K (kN F A) m h) (aA (bZ (aG p)) (y7 p) (aA (tF p 24) (rF (aG p)) (∃(I:Nat×ce×MH×PH->Prop)(B:Nat×ce×MH×PH->Nat),(∃(x:Nat×ce×MH×PH),aA (I x) (eP 4) (aA (eL 34) (aJ p) (aA (bI p) (bF x.1) (aA (xT (oM sl)) (cH 68 1 (wC (aG p) iT)=Ef x) (bS (cV m (vA x)) h
 (nF x))))))/\∀(x:Nat×ce×MH×PH),I x->bA (↑x.1:Int) (aG p) (aW (λb o=>aI (aX p.a b o) (0<=(↑x.1:Int)) ((↑x.1:Int)<aG p) (∃(y:uD),aU (vA x).1 (nF x) b (bN o x.1 22) y.enc/\dZ y.op 1 (aW (λM O=>aI (aX sl.a M O) (0<=y.table) (y.table<aG sl) (∃(n:Sl),Eg (aU (vA x).1 (nF x) M (gC O y.table 1) (aY n)) 0 (↑x.1:Int) (mL x) (λe=>aA (oA (mL x) (↑x.1:Int) e) (0<e.length) (∃(c:Nat×ce×MH×PH),aA (I c) (B c<B x) (aA (eP 4) (eL 34) (aA (aJ p) (bI p) (aA (fU (bG x.1 1)=bP c.1) (xT (oM sl)) (aI (cH 68 1 (List.set (mL x) (↑x.1:Int).toNat (tZ (gU n) 1 e))=Ef c) (fO (vA x) (vA c)) (nF x=nF c) True))))))))) (qK y.left (mL x) (λe=>
 oA (mL x) y.left e/\∃(n:Sl),Eg (rL 1 e (aY n)) 0 y.right (mL x) (λj=>oA (mL x) y.right j/\∃(P:Sl),rL 1 j (aY P)/\NB (λQ d=>lE (λu z=>HB (λl C=>aA (mQ y::bK (dN n) (dN P)=mQ Q::bK (dN u) (dN z)) (sA (nF x) d Q) (aA (Rows (nF x) u l) (Rows (nF x) z C) (aA (fM (vA x).1) (2<=d.op) (aA (d.op<=10) (O0 d.op (Query.mk d.op d.table d.wher d.columns d.on d.group d.order d.limit []) [l,C]) (aA (Bv l) (Bv C) (∀(R:Sl)(f:PH),cD (nF x) f (Rows f R (SL d.op (Query.mk d.op d.table d.wher d.columns d.on d.group d.order d.limit []) [l,C])) (qK (↑x.1:Int) (mL x) (λG=>aA (oA (mL x) (↑x.1:Int) G) (0<G.length) (∃(c:Nat×ce×MH×PH),aA (I
 c) (B c<B x) (aA (eP 4) (eL 34) (aA (aJ p) (bI p) (aA (fU (bG x.1 1)=bP c.1) (xT (oM sl)) (aI (cH 68 1 (List.set (mL x) (↑x.1:Int).toNat (tZ (gU R) 1 G))=Ef c) (fO (vA x) (vA c)) (f=nF c) True))))))))))))))))))))) (∃(I1:Nat×Nat×ce×MH×PH->Prop)(S:Nat×Nat×ce×MH×PH->Nat),(∃(c:Nat×Nat×ce×MH×PH),aA (I1 c) (eL 34) (aA (eL 34) (cJ (mL x).length c.2.1) (aA (bF c.1) (Ef x=Ef c.2) (aA (fO (vA x) (vA c.2)) (nF x=nF c.2) True))))/\∀(c:Nat×Nat×ce×MH×PH),I1 c->bA (↑c.1:Int) (↑c.2.1:Int) (qK (↑c.1:Int) (mL c.2) (λe=>oA (mL c.2) (↑c.1:Int) e/\∃(y:Sl),rL 1 e (aY y)/\∃(u:Sl)(l:bx),aA (iN y=iN u)
 (Rows (nF c.2) u l) (aA (Bv l) (∀(T:cd),List.Mem T l->lR T.length) (∀(z:Sl)(f:PH),cD (nF c.2) f (Rows f z l) (qK (↑c.1:Int) (mL c.2) (λj=>aA (oA (mL c.2) (↑c.1:Int) j) (0<j.length) (∃(g:Nat×Nat×ce×MH×PH),aA (I1 g) (S g<S c) (aA (eL 34) (eL 34) (aA (cJ c.2.1 g.2.1) (fU (bG c.1 1)=bP g.1) (aA (cH 68 1 (List.set (mL c.2) (↑c.1:Int).toNat (tZ (gU z) 1 j))=Ef g.2) (fO (vA c.2) (vA g.2)) (bD f (nF g.2)))))))))))) (rN (nF c.2) (mL c.2) K (vA c.2).1)))))))))))
theorem JY(st:List bx):∀l,BV st l=l.map (jS st)
 |[]=>by simp[BV]
 |q::l=>by rw[BV,JY st l];rfl
theorem asQ{op o:Int}{w:Pred}{on:bz}{args:cg}{ls:List bx}:SL op (.mk o ta w co on gr od li args) ls=SL op (.mk o ta w co on gr od li []) ls:=rfl
theorem Pt{op o:Int}{w:Pred}{on:bz}{args:cg}{ls:List bx}:O0 op (.mk o ta w co on gr od li args) ls=O0 op (.mk o ta w co on gr od li []) ls:=rfl
theorem aoJ{st:List bx}{ts:ck}(ok:Bb ts){i:Nat}{t:Step}(c:ts[i]? =some t)(d:t.op≠1):jS st (aM ts i)=SL t.op t.query ((Ag t).map λa=>jS st (aM ts a.toNat)):=by
 rw[oI ok c,jS,if_neg d,JY,BF,map_map];exact asQ
theorem atZ{st:List bx}{op:Int}{w:Pred}{on:bz}{args:cg}{ks:bt}{c:Nat}(e:kN s st=0)(g:StV st)(n:∀l∈st,l.length<=c)(o:1<=c)(f:aK s ps (.mk op ta w co on gr od li args)=(ks,0))(u:fE c (.mk op ta w co on gr od li args)<=1000000)(d:op≠1):
 O0 op (.mk op ta w co on gr od li args) (BV st args):=by
 have x:=(RL e g n o f u).1;rw[okQ,if_neg d]at x;obtain⟨z,A,_,_⟩:=sH f;have B:pA (.mk op ta w co on gr od li args)=kU args:=by simp[pA,d]
 have y:=HL (st:=st) (ls:=A6 st (.mk op ta w co on gr od li args)) (k:=0) A ⟨λj t h=>by
  rw[getD_eq_getElem?_getD,Nat.zero_add,A6,B,getElem?_map,h];rfl⟩
 rw[y]at x;exact x.1
theorem a4X{c d:bx}(h:arity t.op=1):SL t.op t.query [c,d]=SL t.op t.query [c]:=by
 obtain⟨op,ta,w,co,on,gr,od,li,a,b⟩:=t;have h:arity op=1:=h
 have:op=2\/op=3\/op=9:=by
  unfold arity at h;split at h
  .omega
  .split at h
   .rename_i e;simp at e;omega
   .split at h<;>omega
 rcases this with rfl|rfl|rfl<;>rfl
theorem atX{f g:bx}(h:arity t.op=1)(x:O0 t.op t.query [f])(j:∃w,hU w g):O0 t.op t.query [f,g]:=by
 obtain⟨op,ta,w,co,on,gr,od,li,a,b⟩:=t;have h:arity op=1:=h
 have:op=2\/op=3\/op=9:=by
  unfold arity at h;split at h
  .omega
  .split at h
   .rename_i e;simp at e;omega
   .split at h<;>omega
 rcases this with rfl|rfl|rfl
 .obtain⟨_,c⟩:=x;refine⟨bj,λl d=>?_⟩;rcases mem_cons.1 d with rfl|d
  .exact c _ bj
  .rw[mem_singleton.1 d];exact j
 .obtain⟨_,c⟩:=x;exact⟨bj,c⟩
 .obtain⟨_,c⟩:=x;exact⟨bj,c⟩
theorem arJ{op:Int}(h:0<arity op):2<=op/\op<=10:=by
 unfold arity at h;simp only[beq_iff_eq,Bool.or_eq_true]at h;split at h
 .omega
 .split at h
  .omega
  .split at h<;>omega
theorem bJX{sl p:Sl}{st:List bx}(hs:gA h s sc)(E:EW h sl st)(x:oY h p r ts rs)(hT:fM m)(hb:gR s ts rs=0->kN s st=0->G5 s st ts)
 (k1:gR s ts rs≠0->K (.tup [CZ,cI (gR s ts rs)]) m h)(k2:gR s ts rs=0->kN s st≠0->K (.tup [CZ,cI (kN s st)]) m h)(k3:gR s ts rs=0->kN s st=0->∀A h',PH.le h h'->Leaves h' A (lX st ts)->K (.tup [cS A,cI 0]) m h'):N6 sc sl p r m h K:=by
 dsimp only[N6,push_cast];obtain⟨a7,_⟩:=x.slen;have b9:=x.len;refine⟨sc,p,r,s,ts,rs,rfl,hs,x,λkk=>aC (λe=>k1 (bo e)) (λe=>?_)⟩;have e1:gR s ts rs=0:=bo e
 refine⟨sc,s,sl,st,rfl,hs,E.lea,E.len,aC (λe=>k2 e1 (bo e)) (λe=>?_)⟩;have X:kN s st=0:=bo e
 have B:=hb e1 X;obtain⟨c,Y,Z,a'⟩:=B.bnd;have ok:Bb ts:=λi t e=>⟨B.ar i t e,Jl (B.ar i t e) (B.fit i t e)⟩
 have kq:∀j,j<ts.length->aK s [] (aM ts j)=((aK s [] (aM ts j)).1,0):=λj C=>Prod.ext rfl (B.kinds j C);have R:∀j,j<ts.length->∃w,hU w (jS st (aM ts j)):=λj C=>⟨_,(RL X E.val Z Y (kq j C) (a' j C)).2.2.1⟩
 refine⟨aD,aD,aD,aD,λx=>x.1<=ts.length/\x.2.2.1=m/\PH.le h x.2.2.2/\∃H:ce,H.length=x.1/\x.2.1=H++replicate (ts.length-x.1) ⟨none,0,0⟩/\∀j,j<x.1->∃u,H[j]? =some u/\Rows x.2.2.2 u (jS st (aM ts j)),λx=>ts.length-x.1,⟨(0,replicate ts.length ⟨none,0,0⟩,m,h),⟨Nat.zero_le _,rfl,.refl _,[],rfl,bj,λj C=>by dsimp only at C;omega⟩,?_⟩,?_⟩
 .dsimp only;rw[map_replicate,show((p.len:Int)).toNat=ts.length by omega];exact MT
 rintro⟨i,vs,mx,hx⟩ ⟨hi,e3,le,H,f,hv,D⟩;dsimp only at hi e3 le f hv D⊢
 subst e3 hv;refine aF (λa0=>?_) (λa8=>?_)
 .obtain⟨t,g⟩:=eF a7 a0;obtain⟨b,o,y,ea,rd,W⟩:=x.at g;have U:i<ts.length:=by omega
  have nx:∀(A:Sl)(h':PH),PH.le hx h'->Rows h' A (jS st (aM ts i))->∃e,((H++replicate (ts.length-i) (⟨none,0,0⟩:Sl)).map eS)[((i:Nat):Int).toNat]? =some e/\0<e.length/\∃F:ce,(((H++replicate (ts.length-i) (⟨none,0,0⟩:Sl)).map eS).set ((i:Nat):Int).toNat (gU A::List.drop 1 e))=List.map eS F/\∃V:ce,V.length=i+1/\F=V++replicate (ts.length-(i+1)) ⟨none,0,0⟩/\∀j,j<i+1->∃u,V[j]? =some u/\Rows h' u (jS st (aM ts j)):=λA h' d J=>by
   refine⟨[pO],?_,bj,(H++[A])++replicate (ts.length-(i+1)) ⟨none,0,0⟩,?_,H++[A],by simp[f],rfl,λj C=>?_⟩
   .rw[getElem?_map,Int.toNat_natCast,getElem?_append_right aD,getElem?_replicate,if_pos aD];rfl
   .rw[Int.toNat_natCast,show ts.length-i=(ts.length-(i+1))+1 by omega,replicate_succ,map_append,set_append,if_neg (by simp[f]),map_append,map_append,append_assoc];simp[f,eS]
   .by_cases M:j<i
    .obtain⟨u,O,L⟩:=D j M;exact⟨u,by rw[getElem?_append_left aD];exact O,bV.mono L d (λ_ _ h=>cA.mono h d)⟩
    .have:j=i:=by omega
     subst this;exact⟨A,by rw[getElem?_append_right aD,f,Nat.sub_self];rfl,J⟩
  have a1:((List.map eS (H++replicate (ts.length-i) (⟨none,0,0⟩:Sl))).length:Int)=ts.length:=by simp[f];omega
  rw[a1,kA aD];refine⟨b,o,ea,aD,aD,y,.imm (rd.mono le),aC (λe=>?_) (λe=>?_)⟩
  .have G:t.op=1:=by rw[<-W.op_];exact eq_of_beq e
   have hq:=kq i U;rw[oI ok g]at hq;have a9:=Nb hq t.table (by rw[pA,if_pos G];simp);have c':=bV.slen E.lea;have b8:=(Tc X).2.1;have a2:st[t.table.toNat]? =some (st.getD t.table.toNat []):=by rw[getD_eq_getElem?_getD,getElem?_eq_getElem aD];rfl
   obtain⟨b2,o2,u,b',b0,hu⟩:=bV.at E.lea a2;have hF:jS st (aM ts i)=st.getD t.table.toNat []:=by rw[oI ok g,jS,if_pos G]
   obtain⟨e,O,L,F,h3,h4⟩:=nx u hx (.refl _) (by rw[hF];exact bV.mono hu le (λ_ _ h=>cA.mono h le));rw[W.table_];exact⟨b2,o2,b',a9.1,aD,u,.imm (b0.mono le),aD,aD,e,O,L,(i+1,F,mx,hx),⟨by dsimp only;omega,rfl,le,h4⟩,by dsimp only;omega,by rw[h3];exact MT⟩
  .have G:t.op≠1:=by rw[<-W.op_];exact ne_of_beq_false e
   have h0:=B.ar i t g;have L:=Dg t.op;have c0:arity t.op≠0:=λe=>G (Ow e);have Q:=arJ (op:=t.op) aD;have a3:=(ok i t g).2;have hA:arity t.op=1\/arity t.op=2:=by omega
   have hL:0<=t.left/\t.left<i:=a3 _ (by rcases hA with e|e<;>simp[Ag,e])
   have hR:0<=t.right/\t.right<i:=by
    rcases hA with e|e
    .have:=(azQ (B.fit i t g)).2 aD;omega
    .exact a3 _ (by simp[Ag,e])
   obtain⟨u1,b1,b3⟩:=D t.left.toNat aD;obtain⟨u2,b4,b5⟩:=D t.right.toNat aD
   have I:∀{j:Nat}{u:Sl},H[j]? =some u->((H++replicate (ts.length-i) (⟨none,0,0⟩:Sl)).map eS)[j]? =some (eS u):=fun{j u} h=>by
    have:=(List.getElem?_eq_some_iff.1 h).1;rw[getElem?_map,getElem?_append_left this,h];rfl
   have len:∀{j},j<ts.length->(jS st (aM ts j)).length<=1000000:=fun{j} C=>(R j C).elim λ_ h=>h.len;have hq:=kq i U;have a4:=a' i U;rw[oI ok g]at hq a4;have x1:=atZ X E.val Z Y hq a4 G;rw[JY,BF,map_map]at x1;have x2:=aoJ (st:=st) ok g G
   have x3:O0 t.op t.query [jS st (aM ts t.left.toNat),jS st (aM ts t.right.toNat)]/\jS st (aM ts i)=SL t.op t.query [jS st (aM ts t.left.toNat),jS st (aM ts t.right.toNat)]:=by
    rcases hA with e|e
    .rw[show Ag t=[t.left]by simp[Ag,e]]at x1 x2;exact⟨atX e (Pt▸x1) (R _ aD),by rw[x2,a4X e];rfl⟩
    .rw[show Ag t=[t.left,t.right]by simp[Ag,e]]at x1 x2;exact⟨Pt▸x1,x2⟩
   rw[W.left_,W.right_];refine⟨hL.1,aD,eS u1,I b1,u1,rfl,hR.1,aD,eS u2,I b4,u2,rfl,y,t,u1,u2,_,_,rfl,W.mono le,b3,b5,hT,Q.1,Q.2,x3.1,len aD,len aD,λA h' d J=>?_⟩;obtain⟨e,O,L,F,h3,h4⟩:=nx A h' d (by rw[x3.2];exact J);exact⟨aD,aD,e,O,L,(i+1,F,mx,h'),⟨by dsimp only;omega,rfl,le.trans d,h4⟩,by dsimp only;omega,by rw[h3];exact MT⟩
 .have:i=ts.length:=by omega
  subst this;rw[Nat.sub_self,replicate_zero,append_nil];refine⟨λx=>x.1<=ts.length/\x.2.1=ts.length/\x.2.2.2.1=mx/\PH.le h x.2.2.2.2/\x.2.2.1.length=ts.length/\∀j,j<ts.length->∃u,x.2.2.1[j]? =some u/\Rows x.2.2.2.2 u (jS st (aM ts j)),λx=>ts.length-x.1,⟨(0,ts.length,H,mx,hx),⟨Nat.zero_le _,rfl,rfl,le,f,D⟩,by rw[length_map,f];exact MT⟩,?_⟩;rintro⟨i,n,vs,my,hy⟩ ⟨hi,e3,e4,le,P,J⟩;dsimp only at hi e3 e4 le P J⊢
  subst e3 e4;refine aF (λa0=>?_) (λa8=>?_)
  .obtain⟨u,hu,D⟩:=J i aD;obtain⟨w,S⟩:=R i aD;have I:(vs.map eS)[((i:Nat):Int).toNat]? =some (eS u):=by rw[getElem?_map,Int.toNat_natCast,hu];rfl
   rw[length_map,P,kA aD];refine⟨aD,aD,eS u,I,u,rfl,u,_,rfl,D,S.len,λr J=>by have:=(S.row r J).len;omega,λA h' d b6=>⟨aD,aD,eS u,I,by simp[eS],(i+1,ts.length,vs.set i A,my,h'),⟨by dsimp only;omega,rfl,rfl,le.trans d,by dsimp only;rw[length_set];exact P,λj C=>?_⟩,by dsimp only;omega,?_⟩⟩
   .dsimp only;rw[getElem?_set];by_cases M:i=j
    .subst M;exact⟨A,by rw[if_pos rfl,if_pos aD],b6⟩
    .obtain⟨u',O,L⟩:=J j C;exact⟨u',by rw[if_neg M];exact O,bV.mono L d (λ_ _ h=>cA.mono h d)⟩
   .dsimp only;rw[map_set,Int.toNat_natCast];exact MT
  .refineλA h' d b7=>k3 e1 X A h' (le.trans d) ⟨⟨vs,b7,by simp[lX,P],λj z T=>?_⟩,by simp[lX];omega⟩
   unfold lX at T;rw[getElem?_map]at T;cases C:(List.range ts.length)[j]? with
   |none=>rw[C]at T;cases T
   |some k=>
    rw[C]at T;obtain⟨a5,a6⟩:=List.getElem?_eq_some_iff.1 C;rw[length_range]at a5;rw[getElem_range]at a6;subst a6;have T:jS st (aM ts j)=z:=bo T
    subst T;obtain⟨u,O,L⟩:=J j a5;exact⟨u,O,bV.mono L d (λ_ _ h=>cA.mono h d)⟩
theorem abZ:br 25 bPJ:=by
 refine hJ func25 ?_;rintro e m h K ⟨sc,d,p,r,s,y,ts,rs,rfl,f,c,g,j,n,o,u,x⟩;refine⟨biQ d p,rfl,aE aeJ (aE Z2 (aE Z1 (aE Z0 aH))),N6 sc d p r m h K,bi,?_⟩;exact bJX f c g j n o u x
noncomputable def J2(st:List bx)(p:ck×bt):List bx:=p.2.map λr=>(lX st p.1).getD r.toNat []
noncomputable def Al(s:iJ)(ts:ck)(rs:bt)(st:List bx):Int:=if gR s ts rs≠0 then gR s ts rs else kN s st
def SF(s:iJ)(q:Query):Prop:=(dU s [] q).2=0->BI q/\G7 (eK s q []).1/\jI (eK s q []).1<=100/\vS q<=100
theorem JU{P:Program}{f:FuncId}{S S':Vc.Spec}(x:Sound P f S)(d:∀c m h K,S' c m h K->S c m h K):Sound P f S':=⟨x.1,λc e m h w K g=>x.2 c e m h w K (d _ _ _ _ g)⟩
def Rl:Vc.Spec:=λc m h K=>∃sc v s q,c=[aS sc,aQ v]/\gA h s sc/\eO h q v/\fM m/\SF s q/\∀p r h',PH.le h h'->((dU s [] q).2=0->oY h' p r (jV s q).1 (jV s q).2)->K (.tup [aPl p r,cI (dU s [] q).2]) m h'
theorem WQ:br 15 Rl:=JU afX λ_ m h K⟨sc,v,s,q,e,f,g,j,n,d⟩=>⟨sc,v,s,q,e,f,g,j,n,λc=>d _ _ h (.refl _) (λe=>(c e).elim),λc p r h' le o=>by have:=d p r h' le (λ_=>o);rw[c]at this;exact this⟩
def btJ:Vc.Spec:=λd m h K=>∃sc e p r s c ts rs,d=[aS sc,aSt e,aPl p r]/\gA h s sc/\EW h e c/\oY h p r ts rs/\fM m/\(gR s ts rs=0->kN s c=0->G5 s c ts)/\
 ∀f h',PH.le h h'->(Al s ts rs c=0->Leaves h' f (lX c ts))->K (.tup [cS f,cI (Al s ts rs c)]) m h'
theorem V2:br 25 btJ:=JU abZ λ_ m h K⟨sc,j,p,r,s,n,ts,rs,e,o,f,u,x,y,g⟩=>⟨sc,j,p,r,s,n,ts,rs,e,o,f,u,x,y,
 λc=>by have:=g bW h (.refl _) (λe=>by unfold Al at e;rw[if_pos c]at e;exact(c e).elim);unfold Al at this;rw[if_pos c]at this;exact this,
 λc d=>by have:=g bW h (.refl _) (λe=>by unfold Al at e;rw[if_neg (by simp[c])]at e;exact(d e).elim);unfold Al at this;rw[if_neg (by simp[c])]at this;exact this,
 λc d z h' le A=>by have:=g z h' le (λ_=>A);unfold Al at this;rw[if_neg (by simp[c]),d]at this;exact this⟩
def alJ:Vc.Spec:=λd m h K=>∃sc e v s c q,d=[aS sc,aSt e,aQ v]/\gA h s sc/\EW h e c/\eO h q v/\fM m/\SF s q/\
 ((dU s [] q).2=0->gR s (jV s q).1 (jV s q).2=0/\(kN s c=0->G5 s c (jV s q).1/\∀l∈lX c (jV s q).1,l.length<=1000000/\∀r∈l,r.length<=1000))/\
 ((dU s [] q).2≠0->∀h',PH.le h h'->K (.tup [CZ,cI (dU s [] q).2]) m h')/\((dU s [] q).2=0->kN s c≠0->∀h',PH.le h h'->K (.tup [CZ,cI (kN s c)]) m h')/\
 ((dU s [] q).2=0->kN s c=0->∀f h',PH.le h h'->Leaves h' f (J2 c (jV s q))->K (.tup [cS f,cI 0]) m h')
noncomputable def bkQ:Ctx:=uC [(15,Rl),(25,btJ),(62,SI)]
 [(9,{A:=Nat×Sl×Sl×ce×MH×PH,st:=λ⟨i,rs,c,d,m,h⟩=>bY 77 80 [(10,sv rs),(11,.at (.lst 38)),(40,sv c),(41,iv c.len),(42,iv i)] [(38,.lst 68 1 (d.map eS))] m h}),
  (13,{A:=Nat×Nat×Sl×Sl×Sl×ce×MH×PH,st:=λ⟨j,i,rs,c,t,d,m,h⟩=>bY 77 80 [(10,sv rs),(11,.at (.lst 38)),(12,iv i),(40,sv c),(41,iv c.len),(42,iv i),(59,sv t),(60,iv t.len),(61,iv j)] [(38,.lst 68 1 (d.map eS))] m h})] [] [] [2068] [] false
noncomputable abbrev By(a:iJ)(b:Query):Int:=(dU a [] b).2
noncomputable abbrev y9(a:Nat×Sl×Sl×ce×MH×PH):Sl:=a.2.2.1
noncomputable abbrev A3(a:Nat×Sl×Sl×ce×MH×PH):Nat->Nat->Option Value:=(fX a.2).2
noncomputable abbrev kI(a:Nat×Nat×Sl×Sl×Sl×ce×MH×PH):Sl×Sl×ce×MH×PH:=a.2.2.2
noncomputable abbrev y8(a:Nat×Nat×Sl×Sl×Sl×ce×MH×PH):Sl:=(kI a).2.1
attribute [push_cast] By y9 A3 kI y8
def Ob(sc:cN)(sl:Sl)(v:QV)(m:MH)(h:PH)(K:bu):Prop:=
  ∃(s:cN)(E:QV)(f:iJ)(q:Query),aA (bK (bQ sc) (cC v)=bK (bQ s) (cC E)) (gA h f s) (aA (eO h q E) (fM m) (SF f q/\∀(p r:Sl)(g:PH),cD h g (By f q=0->oY g p r (jV f q).1 (jV f q).2) (dC (By f q) 0 (K (CV.tup (bK CZ (CV.val (dY (By f q))))) m g) (∃(F:cN),lE (λG H=>∃(J:Sl)(j:iJ)(n:List bx)(t:ck)(z:bt),aA (bQ sc::bK (lG (aY sl)) (rT p r)=bQ F::bK (lG (aY G)) (rT H J)) (gA g j F) (aA (EW g G n) (oY g H J t z) (aA (fM m) (gR j t z=0->kN j n=0->G5 j n t) (∀(L:Sl)(A:PH),cD g A (Al j t z n=0->Leaves A L (lX n t)) (dC (Al j t z n) 0 (bU K (Al j t z n) m A) (aA (bZ
 (aG r)) (y7 r) (aA (tF r 24) (rF (aG r)) (∃(I:Nat×Sl×Sl×ce×MH×PH->Prop)(M:Nat×Sl×Sl×ce×MH×PH->Nat),(∃(x:Nat×Sl×Sl×ce×MH×PH),aA (I x) (bH L x.2.1) (aA (eL 38) (bH r (y9 x)) (aA (cF r (y9 x)) (bF x.1) (aA (cH 68 1 (wC (aG r) iT)=cH 68 1 (List.map eS x.2.2.2.1)) (cV m (fX x.2)) (bD A (A3 x))))))/\∀(x:Nat×Sl×Sl×ce×MH×PH),I x->bA (↑x.1:Int) (aG (y9 x)) (aW (λb o=>aI (aX (y9 x).a b o) (0<=(↑x.1:Int)) ((↑x.1:Int)<aG (y9 x)) (∃(y:Int),aU (fX x.2).1 (A3 x) b (bN o x.1 1) (bJ y)/\aW (λO P=>aI (aX x.2.1.a O P) (0<=y) (y<aG x.2.1) (∃(u:Sl),aA (aU (fX x.2).1 (A3 x) O (gC P y 1) (aY u)) (bZ (aG u))
 (aA (y7 u) (tF u 24) (rF (aG u)/\oD (λQ C=>pM (fX x.2).1 C (A3 x) Q 100 1 (wC (aG u) iT)->qK (↑x.1:Int) (fP x.2.2.2.1) (λe=>aA (oA (fP x.2.2.2.1) (↑x.1:Int) e) (0<e.length) (aW (λR S=>aI (aX x.2.1.a R S) (0<=y) (y<aG x.2.1) (∃(D:Sl),aU C (A3 x) R (gC S y 1) (aY D)/\∃(I1:Nat×Nat×Sl×Sl×Sl×ce×MH×PH->Prop)(T:Nat×Nat×Sl×Sl×Sl×ce×MH×PH->Nat),(∃(c:Nat×Nat×Sl×Sl×Sl×ce×MH×PH),aA (I1 c) (bH x.2.1 c.2.2.1) (aA (eL 38) (cJ x.1 c.2.1) (aA (bH (y9 x) (kI c).1) (cF (y9 x) (kI c).1) (aA (cJ x.1 c.2.1) (bH D (y8 c)) (aA (cF D (y8 c)) (bF c.1) (aA (cH 68 1 (List.set (fP x.2.2.2.1) (↑x.1:Int).toNat (tZ
 (gU Q) 1 e))=cH 68 1 (List.map eS (kI c).2.2.1)) (cV C (fX (kI c))) (bD (A3 x) (fX (kI c)).2)))))))/\∀(c:Nat×Nat×Sl×Sl×Sl×ce×MH×PH),I1 c->bA (↑c.1:Int) (aG (y8 c)) (aW (λU V=>aI (aX (y8 c).a U V) (0<=(↑c.1:Int)) ((↑c.1:Int)<aG (y8 c)) (∃(W:Sl),Eg (aU (fX (kI c)).1 (fX (kI c)).2 U (bN V c.1 1) (aY W)) 0 (↑c.2.1:Int) (fP (kI c).2.2.1) (λX=>oA (fP (kI c).2.2.1) (↑c.2.1:Int) X/\∃(B:Sl),aA (rL 1 X (aY B)) (∃(Y:bw),oA (fP (kI c).2.2.1) (↑c.2.1:Int) Y/\rL 1 Y (aY B)) (IC W (fX (kI c)).2 (λs8 h3=>aW (λZ o4=>aI (aX B.a Z o4) (0<=(↑c.1:Int)) ((↑c.1:Int)<aG B) (rO (fX (kI
 c)).1 Z (bN o4 c.1 1) (aY s8) (λm4=>∃(d:Nat×Nat×Sl×Sl×Sl×ce×MH×PH),aA (I1 d) (T d<T c) (aA (bH c.2.2.1 d.2.2.1) (eL 38) (aA (cJ c.2.1 d.2.1) (bH (kI c).1 (kI d).1) (aA (cF (kI c).1 (kI d).1) (cJ c.2.1 d.2.1) (aA (bH (y8 c) (y8 d)) (cF (y8 c) (y8 d)) (aA (fU (bG c.1 1)=bP d.1) (cH 68 1 (List.map eS (kI c).2.2.1)=cH 68 1 (List.map eS (kI d).2.2.1)) (bS (cV m4 (fX (kI d))) h3 (fX (kI d)).2))))))))))))))) (∃(d:Nat×Sl×Sl×ce×MH×PH),aA (I d) (M d<M x) (aA (bH c.2.2.1 d.2.1) (eL 38) (aA (bH (kI c).1 (y9 d)) (cF (kI c).1 (y9 d)) (aA (fU (bG c.2.1 1)=bP d.1) (cH 68 1 (List.map eS (kI c).2.2.1)=cH 68 1 (List.map eS
 d.2.2.2.1)) (bS (fO (fX (kI c)) (fX d.2)) (fX (kI c)).2 (A3 d)))))))))))))))))) (rN (A3 x) (fP x.2.2.2.1) K (fX x.2).1)))))))))))))
structure xH(m0 m:MH)(h:PH)(w:Sl)(l:bx)(j:Nat):Prop where
 ex:∃vs:ce,vs.length=l.length/\tO m0 m w 100 1 (vs.map eS)/\∀k r,k<j->l[k]? =some r->∃v,vs[k]? =some v/\cA h v r
theorem xH.mono{m0:MH}{w:Sl}{l:bx}{j:Nat}(x:xH m0 m h w l j)(le:PH.le h h'):xH m0 m h' w l j:=by
 obtain⟨c,d,e,f⟩:=x.ex;exact⟨c,d,e,λk r g n=>let⟨v,e1,e2⟩:=f k r g n;⟨v,e1,e2.mono le⟩⟩
theorem xH.keep{m0:MH}{w:Sl}{l:bx}{j:Nat}(x:xH m0 m h w l j)(d:∀b i,w.a=some ⟨b,i,none⟩->m' b=m b):xH m0 m' h w l j:=by
 obtain⟨e,f,c,g⟩:=x.ex;exact⟨e,f,⟨eC.keep c.row d,c.fresh⟩,g⟩
theorem xH.blk{m0:MH}{w:Sl}{l:bx}{j:Nat}(x:xH m0 m h w l j)(e:w.a=some ⟨b,i,none⟩):∃o,m b=some o:=by
 obtain⟨f,_,c,_⟩:=x.ex;obtain⟨d,h⟩:=eC.blk c.row e;exact⟨_,h⟩
theorem xH.slen{m0:MH}{w:Sl}{l:bx}{j:Nat}(x:xH m0 m h w l j):w.len=l.length:=by
 obtain⟨d,e,c,_⟩:=x.ex;have:=eC.slen c.row;rw[length_map]at this;omega
theorem Sa:∀vs:ce,(vs.map eS).flatten=vs.map λs=>gU s
 |[]=>rfl
 |v::vs=>by rw[map_cons,flatten_cons,Sa vs];rfl
theorem xH.put{m0:MH}{w u:Sl}{l:bx}{j:Nat}{r:cd}(x:xH m0 m h w l j)(F:l[j]? =some r)(J:cA h u r):∃b,w.a=some ⟨b,0,none⟩/\∃(cs:Array Value)(E:TypeId),m b=some (.cells cs E (0,0))/\0+j*1<cs.size/\∀m',iV m m' b (.cells ⟨splice cs.toList (0+j*1) [gU u]⟩ E (0,0))->xH m0 m' h w l (j+1):=by
 obtain⟨g,G,n,L⟩:=x.ex;have M:=(List.getElem?_eq_some_iff.1 F).1;have R:=eC.slen n.row;rcases n.row.ex with⟨rfl,e⟩|⟨b,f,c,rfl,O,o,y,z,H⟩
 .have A:=congrArg List.length e;rw[length_map,length_nil]at A;omega
 .rw[length_map]at o;refine⟨b,rfl,c,100,O,aD,λm' B=>⟨g.set j u,by simp[G],⟨⟨⟨?_,?_⟩,.inr ⟨b,f,⟨splice c.toList (0+j*1) [gU u]⟩,bj,B.at_,by simp;omega,y,?_,?_⟩⟩,n.fresh⟩,λk P S d=>?_⟩⟩
  .intro e C;obtain⟨s,_,rfl⟩:=mem_map.1 C;rfl
  .intro e C v I;obtain⟨s,_,rfl⟩:=mem_map.1 C;simp[eS]at I;subst I;rfl
  .show(splice c.toList (0+j*1) [gU u]).length=f*1;rw[CE _ _ _ (by simp;omega)];simpa using z
  .rw[Sa];show(splice c.toList (0+j*1) [gU u]).take _=_;rw[M3 _ _ _ (by simp;omega),take_set]
   have D:c.toList.take (((g.set j u).map eS).length*1)=g.map λs=>gU s:=by
    rw[length_map,length_set];rw[length_map,Sa]at H;exact H
   rw[D,Nat.zero_add,Nat.mul_one,map_set]
  .by_cases e:k=j
   .subst e;rw[F]at d;cases d;exact⟨u,by simp[G,M],J⟩
   .obtain⟨v,Q,A⟩:=L k P aD d;exact⟨v,by rw[getElem?_set_ne (Ne.symm e)];exact Q,A⟩
theorem xH.rows{m0:MH}{w:Sl}{l:bx}(d:EZ m h)(x:xH m0 m h w l l.length)(u:l.length<=1000000):Rows (A8 m0 m h) w l:=by
 obtain⟨e,f,g,j⟩:=x.ex
 exact⟨⟨e,tO.ice g,f.symm,λi r c=>by
  obtain⟨v,n,o⟩:=j i r (List.getElem?_eq_some_iff.1 c).1 c;exact⟨v,n,o.mono (CR d)⟩⟩,aD⟩
theorem acZ:br 20 alJ:=by
 refine TZ func20 ?_;rintro d1 m h K ⟨sc,sl,v,s,st,q,rfl,hs,b9,hq,ht,hn,hv,hE,c',hK⟩;refine⟨bkQ,rfl,aE WQ (aE V2 (aE PO aH)),Ob sc sl v m h (fW h K),bi,?_⟩;show Ob sc sl v m h (fW h K);dsimp only[Ob,push_cast];refine⟨sc,v,s,q,rfl,hs,hq,ht,hn,λp r h1 g hp=>aC (λO=>?_) (λO=>?_)⟩
 .exact fW.sub (Sub.refl m) g (hE (bo O) h1 g)
 have O:(dU s [] q).2=0:=bo O
 have hp:=hp O;obtain⟨c,hb⟩:=hv O;have a':Al s (jV s q).1 (jV s q).2 st=kN s st:=by unfold Al;rw[if_neg (by simp[c])]
 refine⟨sc,sl,p,r,s,st,(jV s q).1,(jV s q).2,rfl,hs.mono g,b9.mono g,hp,ht,λ_ e=>(hb e).1,λs1 h2 J hl=>?_⟩;rw[a']at hl⊢
 refine aC (λA=>?_) (λA=>?_)
 .exact fW.sub (Sub.refl m) (g.trans J) (c' O (bo A) h2 (g.trans J))
 have A:kN s st=0:=bo A
 have hl:=hl A;have hK:=hK O A;have a0:=(hb A).2;have a1:=g.trans J;have a2:=(hp.roots.mono J)
 have a3:=a2.slen
 have a4:∀x∈(jV s q).2,0<=x/\x.toNat<(lX st (jV s q).1).length:=by
  intro x hx;unfold gR at c;split at c
  .contradiction
  .split at c
   .cases c
   .split at c
    .contradiction
    .split at c
     .rename_i e;have:=all_eq_true.1 e x hx;simp only[Bool.and_eq_true,decide_eq_true_eq]at this;simp only[lX,length_map,length_range];omega
     .cases c
 have d2:(jV s q).2.length<=32:=by
  unfold gR at c;split at c
  .contradiction
  .split at c
   .cases c
   .rename_i e;omega
 generalize hR:lX st (jV s q).1=R at*
 generalize hN:(jV s q).2=N at*
 have d3:=bV.slen hl;refine⟨aD,aD,aD,aD,λx=>x.1<=N.length/\x.2.1=s1/\x.2.2.1=r/\PH.le h2 x.2.2.2.2.2/\x.2.2.2.1.length=N.length/\Sub m x.2.2.2.2.1/\∀k n,k<x.1->N[k]? =some n->∃u,x.2.2.2.1[k]? =some u/\xH m x.2.2.2.2.1 x.2.2.2.2.2 u (R.getD n.toNat []) (R.getD n.toNat []).length,λx=>N.length-x.1,⟨(0,s1,r,replicate N.length bW,m,h2),⟨by show 0<=_;omega,rfl,rfl,.refl _,bj,Sub.refl m,λk n hk=>by simp at hk⟩,?_⟩,?_⟩
 .have e:List.map eS (replicate N.length bW)=replicate (Int.toNat (r.len:Int)) [pO]:=by rw[map_replicate,a3];rfl
  rw[e];exact MT
 rintro⟨i,a5,ro,us,mx,hx⟩ ⟨hi,e1,L,B,Q,f,C⟩;dsimp only at hi e1 L B Q f C⊢
 subst e1 L;have lex:=a1.trans B;refine aF (λa6=>?_) (λd4=>?_)
 .obtain⟨n,S⟩:=eF a3 a6;obtain⟨T,G⟩:=a4 n (mem_of_getElem? S);obtain⟨b,o,e,rd⟩:=(a2.mono B).at' S;have c1:R[n.toNat]? =some R[n.toNat]:=getElem?_eq_getElem G;obtain⟨b',o',t,e',a7,a8⟩:=bV.at (bV.mono hl B λ_ _ z=>bV.mono z B λ_ _ y=>cA.mono y B) c1;have U:R.getD n.toNat []=R[n.toNat]:=by simp[G]
  have c2:=a0 _ (getElem_mem G);have a9:=bV.slen a8;refine⟨b,o,e,aD,a6,n,.imm rd,b',o',e',T,aD,t,.imm a7,aD,aD,aD,aD,λw m1 hw=>⟨aD,by simp only[length_map];omega,_,by rw[getElem?_map,Int.toNat_natCast,getElem?_eq_getElem aD];rfl,by simp[eS],b',o',e',T,aD,t,.imm a7,?_⟩⟩;have V:∀b i,w.a=some ⟨b,i,none⟩->mx b=none:=λb i e=>(hw.fresh b i e).m_;have D:Sub mx m1:=λx o e=>by rw[hw.other x (λi e'=>by rw[V x i e']at e;cases e)];exact e
  have c0:xH m m1 hx w R[n.toNat] 0:=⟨replicate R[n.toNat].length bW,bj,⟨by
   have:=hw.row;rw[Int.toNat_natCast,a9]at this;rw[map_replicate];exact this,λb i e=>by
   cases e0:m b with
   |none=>rfl
   |some o=>have:=f b o e0;rw[V b i e]at this;cases this⟩,λk r hk=>by omega⟩
  refine⟨λx=>x.1<=R[n.toNat].length/\x.2.1=i/\x.2.2.1=a5/\x.2.2.2.1=ro/\x.2.2.2.2.1=t/\x.2.2.2.2.2.1=us.set i w/\PH.le hx x.2.2.2.2.2.2.2/\Sub m x.2.2.2.2.2.2.1/\xH m x.2.2.2.2.2.2.1 x.2.2.2.2.2.2.2 w R[n.toNat] x.1/\∀b o,mx b=some o->x.2.2.2.2.2.2.1 b=some o,λx=>R[n.toNat].length-x.1,⟨(0,i,a5,ro,t,us.set i w,m1,hx),⟨by show 0<=_;omega,rfl,rfl,rfl,rfl,rfl,.refl _,λx o e=>D x o (f x o e),c0,D⟩,?_⟩,?_⟩
  .rw[Int.toNat_natCast,map_set];exact MT
  clear c0 D;rintro⟨j,I,b0,b1,t2,d5,my,hy⟩ ⟨hj,f1,f2,f3,f4,f5,d,F,c3,W⟩;dsimp only at hj f1 f2 f3 f4 f5 d F c3 W⊢
  subst f1 f2 f3 f4 f5;refine aF (λP=>?_) (λd0=>?_)
  .obtain⟨rr,H⟩:=eF a9 P;obtain⟨b2,o2,y,L,c4,c6⟩:=bV.at (bV.mono a8 d λ_ _ z=>cA.mono z d) H;have b3:I<us.length:=by omega
   refine⟨b2,o2,L,aD,P,y,.imm c4,aD,by simp;omega,eS w,by rw[getElem?_map,Int.toNat_natCast,getElem?_set_self b3];rfl,w,rfl,⟨eS w,by rw[getElem?_map,Int.toNat_natCast,getElem?_set_self b3];rfl,rfl⟩,y,rr,rfl,c6,(c2.2 rr (mem_of_getElem? H)),λu h4 b4 hu=>?_⟩;obtain⟨wb,b5,cs,E,c7,c8,b6⟩:=(c3.mono b4).put H hu;have d6:=c3.slen;refine⟨wb,0,b5,aD,by have:=(List.getElem?_eq_some_iff.1 H).1;omega,cs,E,⟨c7⟩,by rw[Int.toNat_natCast];exact c8,λm5 M=>?_⟩;rw[Int.toNat_natCast]at M;have c5:=b6 m5 M;have b7:∀x o,mx x=some o->x≠wb:=λx o e e'=>by rw[e',V wb 0 b5]at e;cases e
   refine⟨(j+1,I,b0,b1,t2,us.set I w,m5,h4),⟨?_,rfl,rfl,rfl,rfl,rfl,d.trans b4,λx o e=>?_,c5,λx o e=>?_⟩,?_,MT⟩
   .have:=(List.getElem?_eq_some_iff.1 H).1;show j+1<=_;omega
   .show m5 x=some o;rw[M.other x (b7 x o (f x o e))];exact F x o e
   .show m5 x=some o;rw[M.other x (b7 x o e)];exact W x o e
   .have:=(List.getElem?_eq_some_iff.1 H).1;show R[n.toNat].length-(j+1)<R[n.toNat].length-j;omega
  .have c9:j=R[n.toNat].length:=by omega
   subst c9;refine⟨(I+1,b0,b1,us.set I w,my,hy),⟨by show I+1<=_;omega,rfl,rfl,B.trans d,bo Q,F,λk n' hk X=>?_⟩,by show N.length-(I+1)<N.length-I;omega,MT⟩;have hk:k<I+1:=hk;by_cases e:k=I
   .subst e;rw[S]at X;cases X;exact⟨w,getElem?_set_self aD,by rw[U];exact c3⟩
   .obtain⟨u,e1,L⟩:=C k n' aD X;refine⟨u,by rw[getElem?_set_ne (Ne.symm e)];exact e1,(L.mono d).keep (λb i e=>?_)⟩;obtain⟨o,ho⟩:=L.blk e;rw[ho];exact W b o ho
 .have d':i=N.length:=by omega
  subst d';intro s2 h3 d hr b8;have hd:EZ mx h3:=⟨b8⟩
  have le:=(lex.trans d).trans (CR (m0:=m) hd);refine⟨m,A8 m mx h3,f,le,λb i w e=>?_,hK s2 _ le ⟨⟨us,hr.mono (CR hd),?_,λk l Y=>?_⟩,?_⟩⟩
  .unfold A8 at e;split at e
   .rename_i cs E fz g1 g2;exact .inr ⟨cs,E,fz,g2,e,g1⟩
   .exact .inl e
  .unfold J2;rw[length_map,hN,Q]
  .unfold J2 at Y;rw[getElem?_map,hN,hR,Option.map_eq_some_iff]at Y;obtain⟨n,Z,rfl⟩:=Y;obtain⟨u,e1,L⟩:=C k n (List.getElem?_eq_some_iff.1 Z).1 Z;obtain⟨T,G⟩:=a4 n (mem_of_getElem? Z);have U:R.getD n.toNat []=R[n.toNat]:=by simp[G]
   exact⟨u,e1,xH.rows hd (L.mono d) (by rw[U];exact(a0 _ (getElem_mem G)).1)⟩
  .unfold J2;rw[length_map,hN];omega
end Go.Ps
