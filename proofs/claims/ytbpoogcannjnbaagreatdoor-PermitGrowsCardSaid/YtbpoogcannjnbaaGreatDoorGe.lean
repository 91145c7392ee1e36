/- Own work. -/
import Derived.RangeFuncLeaves
import Derived.RangeFuncCalls
import Derived.Test.YtbpoogcannjnbaaGreatDoorGd
set_option linter.unusedVariables false
set_option linter.unusedSimpArgs false
namespace Go.Vc
open Go List
section
variable{B:rL}{C:Ctx}{ι:dj}{σ:St}{a:Act}{w:World}{o:Oper}{K:St->Prop}
theorem Vr(h:Rb C o σ K):∀c,o.op≠ .defer c:=by
 intro c b;unfold Rb at h;rw[b]at h;unfold QH at h
 grind
theorem Im(l:Nat){P:Program}{next:Act->World->Prop}{Q:Exit->Act->World->Prop}(e:∀c,o.op≠ .defer c)(h:o.wpIn Fence.wide 0 P a w next Q):o.wpIn (Fence.wide.inRound l) 0 P a w next Q:=by
 refine⟨λ_ _=>trivial,?_⟩;have b:o.uponIn Fence.wide 0 P a next Q ((execOp a.eval o).run P w):=h.2
 show o.uponIn (Fence.wide.inRound l) 0 P a next Q ((o.semAt (some l) a.eval).run P w)
 rw[Oper.semAt_eq _ _ _ e];cases d:(execOp a.eval o).run P w with
 |ok x f=>
  rw[d]at b;cases x<;>exact b
 |halt x f=>
  rw[d]at b;cases x<;>exact b
theorem OC(l:Nat)(b:∀g S,assoc C.specs g=some S->Sound C.P g S){ops:Array Oper}{Q:Exit->Act->World->Prop}{R:St->Prop}(p:∀ι σ a w,aK B ι σ a w->R σ->Q .normal a w):
 ∀(c:List Oper)(s:Nat)(ι:dj)(σ:St)(a:Act)(w:World),(∀j,c[j]? =ops.toList[s+j]?)->aK B ι σ a w->Q1 C ops c σ R->wpOpsIn (Fence.wide.inRound l) 0 C.P ops Q (range' s c.length) a w
 |[],s,ι,σ,a,w,_,k,h=>p ι σ a w k h
 |o::c,s,ι,σ,a,w,q,k,h=>by
  have r:ops[s]? =some o:=by have:=q 0;grind
  simp only[cq,range'_succ,wpOpsIn,r]
  have next:∀m e f i,aK B m e f i->Q1 C ops c e R->wpOpsIn (Fence.wide.inRound l) 0 C.P ops Q (range' (s+1) c.length) f i:=λm e f i t u=>
   OC l b p c (s+1) m e f i (λj=>by have:=q (j+1);grind) t u
  obtain⟨z,d,v,y⟩:=Dp k h;rcases y with⟨n,h⟩|⟨n,h⟩
  .rw[if_pos n];exact Im l (Vr h) (Ra b d h _ Q next)
  .rw[if_neg (by simp[n])];exact⟨λ_ _=>trivial,next ι _ _ _ (d.put o.dst (x:=.at (.val undef)) rfl) h⟩
def kU(C:Ctx):Code->Bool
 |.skip=>true
 |.ret=>true
 |.exit _=>true
 |.region id _ d=> !d&&(Lo C id).isEmpty
 |.seq x y=>(akQ C y).isNone&&(P5 C y).isNone&&kU C x&&kU C y
 |.cond _ x y=>kU C x&&kU C y
 |.block _ c=>kU C c
 |_=>false
theorem QU(l:Nat)(n:∀g S,assoc C.specs g=some S->Sound C.P g S):∀(c:Code),kU C c=true->∀(σ:St)(Q:AZ->St->Prop)(ι:dj)(a:Act)(w:World),aK B ι σ a w->VC C c σ Q->c.wpIn (Fence.wide.inRound l) 0 C.P (QD B Q) a w:=by
 intro c
 induction c with
 |skip=>intro _ σ Q ι a w d h;exact wpIn_skip ⟨ι,σ,d,h⟩
 |exit id=>intro _ σ Q ι a w d h;exact wpIn_exit ⟨ι,σ,d,h⟩
 |ret=>intro _ σ Q ι a w d h;exact wpIn_ret ⟨ι,σ,d,h⟩
 |label l=>intro b;simp[kU]at b
 |goto l=>intro b;simp[kU]at b
 |refuse J=>intro b;simp[kU]at b
 |scope u D=>intro b;simp[kU]at b
 |loop u D=>intro b;simp[kU]at b
 |rangeFunc f U x y p q=>intro b;simp[kU]at b
 |region id ops v=>
  intro b σ Q ι a w d h;cases v with
  |true=>simp[kU]at b
  |false=>
   have E:Lo C id=[]:=by simpa[kU,isEmpty_iff]using b
   refine wpIn_region ?_;have h:abQ C ops (Lo C id) ops.toList σ (Q .normal):=h;rw[E]at h;have:=OC l n (ops:=ops) (Q:=QD B Q) (R:=Q .normal) (λι σ a w d h=>⟨ι,σ,d,h⟩) ops.toList 0 ι σ a w (λj=>bf) d h;rw[range_eq_range'];omega
 |seq x y p q=>
  intro b σ Q ι a w d h;simp only[kU,cg,Option.isNone_iff_eq_none]at b;obtain⟨⟨⟨L,M⟩,N⟩,O⟩:=b;simp only[VC,L,M]at h;refine wpIn_seq (wpIn_mono (p N σ _ ι a w d h) ?_);intro e H I k;cases e with
  |normal=>
   obtain⟨z,A,r,s⟩:=k;exact q O A Q z H I r s
  |exit id=>exact k
  |ret=>exact k
  |goto l=>exact k
  |panic T=>exact k
  |outgrown=>exact k
 |cond c x y p q=>
  intro b σ Q ι a w d h;simp only[kU,cg]at b;simp only[VC]at h;split at h
  .rename_i t F;have m:=d.ev c;rw[F]at m;have m:a.eval c= .bool t:=m;rcases tQ h with⟨rfl,h⟩|⟨rfl,h⟩
   .exact wpIn_cond_true m (p b.1 _ Q ι a w (d.setTmp F) h)
   .exact wpIn_cond_false m (q b.2 _ Q ι a w (d.setTmp F) h)
  grind
 |block id c D=>
  intro b σ Q ι a w d h;refine wpIn_block (wpIn_mono (D b σ _ ι a w d h) ?_);intro e H I k;cases e with
  |normal=>exact k
  |exit i=>
   obtain⟨z,A,r,s⟩:=k;show if i=id then _ else _
   simp only at s;split at s
   .rename_i G;rw[if_pos (ci G)];exact⟨z,A,r,s⟩
   .rename_i G;rw[if_neg (λe=>by subst e;simp at G)];exact⟨z,A,r,s⟩
  |ret=>exact k
  |goto l=>exact k
  |panic T=>exact k
  |outgrown=>exact k
def M7:Nat->Code->Code
 |n+1,.seq x y=>.seq x (M7 n y)
 |_,_=>.skip
def CH:Nat->Code->Code
 |n+1,.seq _ y=>CH n y
 |_,c=>c
def thenS(Q2:St->Prop)(Q:AZ->St->Prop):AZ->St->Prop:=λe τ=>match e with|.normal=>Q2 τ|e=>Q e τ
theorem UL(b:∀g S,assoc C.specs g=some S->Sound C.P g S)(r:C.cuts=[])(m:C.cuts2=[]){Q2:St->Prop}{Q:AZ->St->Prop}{R:Exit->Act->World->Prop}:
 ∀(n:Nat)(c:Code)(ι:dj)(σ:St)(a:Act)(w:World),aK B ι σ a w->VC C (M7 n c) σ (thenS Q2 Q)->
  (∀ι τ a w,aK B ι τ a w->Q2 τ->(CH n c).wp C.P R a w)->(∀e a w,QD B Q e a w->e≠ .normal->R e a w)->c.wp C.P R a w:=by
 have f:∀y,akQ C y=none:=λy=>by unfold akQ;split<;>simp[r,assoc]
 have i:∀y,P5 C y=none:=λy=>by unfold P5;split<;>simp[m,assoc]
 intro n
 induction n with
 |zero=>intro c ι σ a w j h k _;exact k ι σ a w j h
 |succ n s=>
  intro c;cases c with
  |seq x y=>
   intro ι σ a w j h k p;simp only[M7,VC,f,i]at h;refine wp_seq (wp_mono (I0 b x σ _ ι a w j h) ?_);intro e t u d;cases e with
   |normal=>
    obtain⟨v,z,q,A⟩:=d;exact s y v z t u q A k p
   |exit id=>exact p _ _ _ d bf
   |ret=>exact p _ _ _ d bf
   |goto l=>exact d.elim
   |panic D=>exact d.elim
   |outgrown=>exact d.elim
  |_=>intro ι σ a w j h k _;exact k ι σ a w j h
def cdZ(B:rL)(C:Ctx)(fn:Func)(K:dc):Exit->Act->World->Prop
 |.normal,a,w=>∃ι σ,aK B ι σ a w/\DR C fn K σ
 |.ret,a,w=>∃ι σ,aK B ι σ a w/\DR C fn K σ
 |_,_,_=>False
theorem X5(b:∀g S,assoc C.specs g=some S->Sound C.P g S)(f:aK B ι σ a w){fn:Func}{c:Code}{K:dc}(h:tM C fn c σ K):c.wp C.P (cdZ B C fn K) a w:=by
 refine wp_mono (I0 b c σ _ ι a w f h) ?_;intro e i j d;cases e with
 |normal=>exact d
 |ret=>exact d
 |exit id=>obtain⟨_,_,_,h⟩:=d;exact h.elim
 |goto l=>exact d.elim
 |panic k=>exact d.elim
 |outgrown=>exact d.elim
theorem aK.putM(j:aK B ι σ a w){b:Nat}{ob h:Obj}{m':MH}(q:σ.m b=some ob)(r:gR σ.m m' b h):aK B ι {σ with m:=m'} a (w.putObj b h):=by
 have f:=j.wrel;have s:b<w.heap.size:=(Array.getElem?_eq_some_iff.1 (f.msat b ob q)).1;have g:∀d,d≠b->(w.putObj b h).heap[d]? =w.heap[d]? :=λd n=>World.putObj_heap_other (λe=>n e)
 have l:∀k o,nth σ.own k=some (some o)->∀d,blk (ι k)=some d->d≠b:=λk o p d c e=>by
  have:=(j.fresh k o d p c).2.1
  grind
 refine⟨j.slots,j.defers,λk o p=>(j.own k o p).world (λd c=>g d (l k o p d c)),j.dist,?_,?_,j.one⟩
 .intro k o d p c;obtain⟨u,y,z⟩:=j.fresh k o d p c;exact⟨u,by show m' d=none;rw[r.other d (l k o p d c)];exact y,z⟩
 .refine⟨f.tape,f.os,f.output,f.drawn,by have:=f.size;simpa using this,?_,?_,?_,?_,f.hle,f.hold,?_⟩
  .intro d A D;rw[g d (λe=>?_)]
   .exact f.frame d A D
   .subst e;rcases f.mfr d ob q with E|E
    .omega
    grind
  .intro d i v t;have n:d≠b:=λe=>by rw[e,f.disj b ob q i]at t;cases t
   rw[World.cell?_of_block (w:=w) (w':=w.putObj b h) (a:=⟨d,i,none⟩) (g d n)];exact f.hsat d i v t
  .intro d o c;have c:m' d=some o:=c;by_cases e:d=b
   .subst e;rw[r.at_]at c;cases c;exact World.putObj_heap_same s
   .rw[r.other d e]at c;rw[g d e];exact f.msat d o c
  .intro d o c i;have c:m' d=some o:=c;by_cases e:d=b
   .subst e;exact f.disj d ob q i
   .rw[r.other d e]at c;exact f.disj d o c i
  .intro d o c;have c:m' d=some o:=c;by_cases e:d=b
   .subst e;exact f.mfr d ob q
   .rw[r.other d e]at c;exact f.mfr d o c
theorem aK.putD(l:aK B ι σ a w){D:Nat}{ob:Obj}(m:Obj)(s:w.heap[D]? =some ob)(r:ob.isCells=false)(t:D<B.w0.heap.size)(u:¬B.E D):
 aK {B with E:=λb=>B.E b\/b=D} ι σ a (w.putObj D m):=by
 have h:=l.wrel;have f:∀c,c≠D->(w.putObj D m).heap[c]? =w.heap[c]? :=λc j=>World.putObj_heap_other (λe=>j e)
 have p:∀k o,nth σ.own k=some (some o)->∀c,blk (ι k)=some c->c≠D:=λk o n c d e=>by
  rcases(l.fresh k o c n d).1 with g|g
  .omega
  grind
 refine⟨l.slots,l.defers,λk o n=>(l.own k o n).world (λc d=>f c (p k o n c d)),l.dist,?_,?_,l.one⟩
 .intro k o c n d;obtain⟨z,A,F⟩:=l.fresh k o c n d
  grind
 .refine⟨h.tape,h.os,h.output,h.drawn,by have:=h.size;simpa using this,?_,?_,?_,h.disj,h.hle,?_,?_⟩
  .intro c g q;rw[f c (λe=>q (.inr e))];exact h.frame c g (λe=>q (.inl e))
  .intro c i v y;have g:=h.hsat c i v y
   have j:c≠D:=λe=>by
    unfold World.cell? at g;rw[e]at g;dsimp only at g;rw[s]at g;cases ob<;>simp[Obj.isCells]at r g
   rw[World.cell?_of_block (w:=w) (w':=w.putObj D m) (a:=⟨c,i,none⟩) (f c j)];exact g
  .intro c o d
   have j:c≠D:=λe=>by
    rcases h.mfr c o d with g|g
    .omega
    grind
   rw[f c j];exact h.msat c o d
  .intro c g q;exact h.hold c g (λe=>q (.inl e))
  .intro c o d;exact(h.mfr c o d).imp id .inl
theorem XY{F:Fence}{n D:Nat}(j:aK B ι σ a w)(l:B.dfs=[{target:=.collected D,args:= #[]}])(k:w.heap[D]? =some (.deferred (some [])))(d:D<B.w0.heap.size)(e:¬B.E D)
 {fn:Func}{K:dc}(h:DR C fn K σ){R:Ending->World->Prop}
 (m:∀u w',(∃r m' c,K r m' c/\Ea w' r u/\xC {B with E:=λb=>B.E b\/b=D} m' c w'/\∀b,gA r u=some b->(B.w0.heap.size<=b\/(B.E b\/b=D))/\m' b=none/\∀i,c b i=none)->R (.returned u) w'):
 LeavesInM F n C.P fn a.tmps R a.defers .returning w:=by
 rw[j.defers,l];refine⟨bf,.inl ⟨D,_,rfl,run_takeDeferred k,?_⟩⟩;have f:=j.putD (.deferred none) k rfl d e;obtain⟨u,p,r,m',c,q,g,s,t⟩:=GM f h;exact⟨u,p,m u _ ⟨r,m',c,q,g,s,t⟩⟩
theorem Mn:∀(n i:Nat)(l:eo)(vs:cv),vs.length=n->(∀j x v,assoc l (i+j)=some x->vs[j]? =some v->Dnt ι x v)->DenS ι (vV (.at .junk) l n i) vs
 |0,i,l,[],_,_=>trivial
 |0,i,l,_::_,h,_=>by simp at h
 |n+1,i,l,[],h,_=>by simp at h
 |n+1,i,l,v::vs,h,b=>by
  refine⟨?_,Mn n (i+1) l vs (br h) (λj x u c d=>b (j+1) x u bk bk)⟩;have:=b 0;cases e:assoc l i with
  |none=>trivial
  |some x=>grind
end
end Go.Vc
namespace Go.Ps
open Go Go.Vc Go.Proofs List Tryz
variable{K:dc}{m:MH}{h:PH}{s:j4}{ps:dd}{cb:Nat}{sc:bJ}{v:QV}{q:Query}{p:Pred}{l:dd}{i:Nat}{N:Nat}{m':MH}{h':PH}{co:dd}{gr:dd}{od:dg}{w:Pred}{ta:Int}{li:Int}{xs:List cv}{sz:Nat}{k:Nat}{ks:List dd}{rs:dd}{r:Sl}{a:dd}{b:Nat}
def zJ(b:Nat):SV:=.at (.val (.pointer (some ⟨b,0,none⟩)))
def KE:Code->Code
 |.seq x _=>x
 |c=>c
noncomputable def cY:Ctx:=dD [] [] [] [] false
noncomputable def AH(sc:bJ)(p:Sl)(v:QV)(m:MH)(h:PH):Ctx:=
 dD [(66,z7),(111,S4)] [(5,{A:=Nat,st:=λi=>bU 53 56 [(1,sv p),(3,.at (.ptr 3 0)),(5,.at (.ptr 5 0)),(6,.at (.ptr 6 0)),(7,.at (.ptr 7 0)),(18,sv p),(19,iv p.len),(20,iv i)] [(3,.cells 29 (sc.enc.map .val)),(5,.cells 68 (v.enc.map .val)),(6,.cells 31 [.val (.slice none 0 0)]),(7,.cells 47 [.val (.int .i64 0)])] m h})] [] [] false
def Ek(sc:bJ)(p:Sl)(v:QV)(b:Nat)(m:MH)(h:PH):St:=
 bU 53 56 [(1,sv p),(3,.at (.ptr 3 0)),(5,.at (.ptr 5 0)),(6,.at (.ptr 6 0)),(7,.at (.ptr 7 0)),(11,.at (.ptr 11 0)),(36,vv (.func (.func 147) #[] #[.pointer (some ⟨b,0,none⟩)]))] [(3,.cells 29 (sc.enc.map .val)),(5,.cells 68 (v.enc.map .val)),(6,.cells 31 [.val (.slice none 0 0)]),(7,.cells 47 [.val (.int .i64 0)]),(11,.cells 3 [.val (.int .i64 0)])] m h
def vW(sc:bJ)(p:Sl)(v:QV)(e:Int)(m:MH)(h:PH):St:=
 bU 53 56 [(1,sv p),(3,.at (.ptr 3 0)),(5,.at (.ptr 5 0)),(6,.at (.ptr 6 0)),(7,.at (.ptr 7 0))] [(3,.cells 29 (sc.enc.map .val)),(5,.cells 68 (v.enc.map .val)),(6,.cells 31 [.val (.slice none 0 0)]),(7,.cells 47 [.val (.int .i64 e)])] m h
end Go.Ps
namespace Go.Vc
open Go.Ps Go.Proofs List
noncomputable def aiQ(sc:bJ)(p:Sl)(v:QV)(m:MH)(h:PH)(G:Prop):St->Prop:=λτ=>G/\∃b m',dL m h b/\gR m m' b (.cells ⟨v.enc⟩ 68 (0,0))/\yO τ (Ek sc p v b m' h) True
noncomputable def Ws(sc:bJ)(p:Sl)(v:QV)(m:MH)(h:PH)(G:Prop):St->Prop:=λτ=>VC (AH sc p v m h) (M7 1 (KE (CH 4 (cK Tryz.f68)))) τ (thenS (aiQ sc p v m h G) (λ_ _=>False))
noncomputable def Rz(sc:bJ)(p:Sl)(v:QV)(m:MH)(h:PH)(K:dc):AZ->St->Prop:=λe τ=>match e with|.ret=>DR (AH sc p v m h) Tryz.f68 K τ|_=>False
end Go.Vc
namespace Go.Ps
open Go Go.Vc Go.Proofs List Tryz
variable{K:dc}{m:MH}{h:PH}{s:j4}{ps:dd}{cb:Nat}{sc:bJ}{v:QV}{q:Query}{p:Pred}{l:dd}{i:Nat}{N:Nat}{m':MH}{h':PH}{co:dd}{gr:dd}{od:dg}{w:Pred}{ta:Int}{li:Int}{xs:List cv}{sz:Nat}{k:Nat}{ks:List dd}{rs:dd}{r:Sl}{a:dd}{b:Nat}
def bDX(c:Int)(d e f:Nat)(m:MH)(h:PH):Prop:=
  aA (bZ e) (bZ f) (aA (bZ d) (bL c) (dP m m h h))
theorem chZ(c:Int)(d f g:Nat)(m:MH)(h:PH):bDX c d f g m h=(VC cY rfA (bU 53 53 [(37,iv c),(11,zJ d),(6,zJ f),(7,zJ g)] [] m h) (λe τ=>match e with|.normal=>yO τ (bU 53 53 [(12,iv c),(11,zJ d),(6,zJ f),(7,zJ g)] [] m h) True|_=>False)):=be
def T3(d:Int)(t u z:Nat)(m:MH)(h:PH)(N T:MH->PH->Prop):Prop:=
  sO m h t 0 (λy=>mH (λc E=>aA (CA m t (jI c E 0)) (0<c.size) (∀(e:MH),cL m e t (jJ (cV (eE (y+1))) 1 c) E->sO e h t 0 (λA=>kK A 24 (mH (λf E1=>aA (CA e u (jI f E1 0)) (0<f.size) (∀(g:MH),cL e g u (jJ tE 1 f) E1->mH (λj E2=>aA (CA g z (jI j E2 0)) (0<j.size) (∀(n:MH),cL g n z (jJ (cV 2) 1 j) E2->T n h))))) (kK d 8 (mH (λf E1=>aA (CA e u (jI f E1 0)) (0<f.size) (∀(g:MH),cL e g u (jJ tE 1 f) E1->mH (λj E2=>aA (CA g z (jI j E2 0)) (0<j.size) (∀(n:MH),cL g n z (jJ (cV 2) 1 j) E2->T n h))))) (N e h))))))
theorem chQ(c:Int)(d f g:Nat)(m:MH)(h:PH)(N T:MH->PH->Prop):T3 c d f g m h N T=(VC cY rfB (bU 53 53 [(12,iv c),(11,zJ d),(6,zJ f),(7,zJ g)] [] m h) (λe τ=>match e with|.normal=>N τ.m τ.h|.ret=>T τ.m τ.h|_=>False)):=be
abbrev G1:Prop:=eQ (oQ 31 (rN BV))
abbrev EV(a:Nat):Prop:=eQ (oQ a (rN dA))
attribute [push_cast] G1 EV
def LN(sc:bJ)(p:Sl)(v:QV)(m:MH)(h:PH)(G:Prop)(K:dc):Prop:=
  G7 sc h (λs=>branch (dK s !=0) (K (sH (dK s)) m h) (nG (λI x=>aA (I x) (aH p) (aA (eP 3) bS (aA jH hX (aA (aH p) (bI p) (aA (bE x) (aU sc) (aA (fE v) G1 (cF (EV 47) m m h h))))))) (λI d x=>I x->aY (↑x:Int) (aG p) (bD (λb o=>aI (bF p.a b o) (0<=(↑x:Int)) ((↑x:Int)<aG p) (∃(y:Int),aJ m h b (bB o x 1) (bG y)/\nK y 3 (nK y 4 (branch (y !=5) (K (sH 1) m h) (∃(c:Nat),aA (I c) (d c<d x) (aA (aH p) fW (aA bS jH (aA hX (aH p) (aA (bI p) (fJ (aW x 1)=bY c) (aA (aU sc) (fE v) (aA G1 (EV 47) (aA (m=m) (h=h) True))))))))) (∃(c:Nat),aA (I c) (d c<d x) (aA (aH p) fW (aA bS jH (aA hX (aH p) (aA (bI p) (fJ (aW x
 1)=bY c) (aA (aU sc) (fE v) (aA G1 (EV 47) (aA (m=m) (h=h) True))))))))) (∃(c:Nat),aA (I c) (d c<d x) (aA (aH p) fW (aA bS jH (aA hX (aH p) (aA (bI p) (fJ (aW x 1)=bY c) (aA (aU sc) (fE v) (aA G1 (EV 47) (aA (m=m) (h=h) True))))))))))) (∃(f:QV),jK (eW (eH v) (eH f)) (λb=>∀(g:MH),aR (dL m h b) (cL m g b f.enc 68) (G/\∃(e:Nat)(j:MH),aA (dL m h e) (cL m j e v.enc 68) (aA (aH p) fW (aA bS jH (aA hX gW (aA (De (Fn.func 147) (Eu b)=De (Fn.func 147) (Eu e)) (aU sc) (aA (fE v) G1 (aA (EV 47) (EV 3) (aA (g=j) (h=h) True)))))))))))))
theorem bIZ(sc:bJ)(p:Sl)(v:QV)(m:MH)(h:PH)(G:Prop)(K:dc):LN sc p v m h G K=(VC (AH sc p v m h) (M7 4 (cK Tryz.f68)) (entry 53 [aS sc,cS p,aQ v] m h) (thenS (Ws sc p v m h G) (Rz sc p v m h K))):=be
def Rw(N:Nat)(sc:bJ)(p:Sl)(v:QV)(m:MH)(h:PH)(K:dc):Prop:=
  JF sc p v h (λf s d q=>aA (dR h q f) (sD q N) (lE (λe c=>cR h c (Ints c e (cJ s d q).1) (K (CV.tup (fP e (CV.val (cV (cJ s d q).2)))) m c))))
theorem bIQ(N:Nat)(sc:bJ)(p:Sl)(v:QV)(m:MH)(h:PH)(K:dc):Rw N sc p v m h K=(tM (dD [(112,BW N)] [] [] [] false) Tryz.f68 (CH 5 (cK Tryz.f68)) (vW sc p v 0 m h) K):=be
def Rx(sc:bJ)(p:Sl)(v:QV)(m:MH)(h:PH)(K:dc):Prop:=
  K (sH 2) m h
theorem bIX(sc:bJ)(p:Sl)(v:QV)(m:MH)(h:PH)(K:dc):Rx sc p v m h K=(DR cY Tryz.f68 K (vW sc p v 2 m h)):=be
theorem axX:CH 1 (KE (CH 4 (cK Tryz.f68)))= .block 2 (.rangeFunc (.tmp 36) #[37,38] rfA rfB):=be
theorem aWQ:CH 4 (cK Tryz.f68)= .seq (KE (CH 4 (cK Tryz.f68))) (CH 5 (cK Tryz.f68)):=be
theorem avZ:kU cY rfA=true:=by kernel_rfl
theorem avX:kU cY rfB=true:=be
theorem chX{d:Int}{l:Nat}{R:LR}{n:Int}{y:MH}{N T:MH->PH->Prop}(D:z8 m l R n)(h0:0<=n)(h1:n<=24){ob:Obj}(j:gR m y l ob)
 (U:∀m',¬(24<n+1\/8<d)->gR y m' R.bn (tP (n+1))->N m' h)
 (V:∀m',(24<n+1\/8<d)->m' l=some ob->m' R.b6=some Ii->m' R.b7=some (GB 2)->(∃x,m' R.bn=some x)->(∀b,b≠l->b≠R.bn->b≠R.b6->b≠R.b7->m' b=m b)->T m' h):T3 d R.bn R.b6 R.b7 y h N T:=by
 dsimp only[T3,push_cast];obtain⟨J,L,M,O,P,Q⟩:=D.ne;have z:y R.bn=some (tP n):=by rw[j.other _ (λe=>J e.symm)];exact D.n_
 have W:IntKind.i64.wrap (n+1)=n+1:=dO aC aC;refine⟨n,.of_m z rfl,_,_,⟨z⟩,bf,λu c=>?_⟩;rw[W]at c;have c:gR y u R.bn (tP (n+1)):=c;have X:u R.b6=some Ii:=by rw[c.other _ O,j.other _ (λe=>L e.symm)];exact D.k_
 have Y:u R.b7=some (GB 0):=by rw[c.other _ P,j.other _ (λe=>M e.symm)];exact D.e_
 have t:(24<n+1\/8<d)->∃(cs:Array Value)(E:TypeId),CA u R.b6 (.cells cs E (0,0))/\0<cs.size/\∀m',gR u m' R.b6 (.cells ⟨Value.slice none 0 0::cs.toList.drop 1⟩ E (0,0))->∃(cs:Array Value)(E:TypeId),CA m' R.b7 (.cells cs E (0,0))/\0<cs.size/\∀A,gR m' A R.b7 (.cells ⟨Value.int .i64 2::cs.toList.drop 1⟩ E (0,0))->T A h:=by
  intro F;refine⟨_,_,⟨X⟩,bf,λG f=>?_⟩;have f:gR u G R.b6 Ii:=f;have H:G R.b7=some (GB 0):=by rw[f.other _ (λe=>Q e.symm)];exact Y
  refine⟨_,_,⟨H⟩,bf,λS g=>?_⟩;have g:gR G S R.b7 (GB 2):=g;refine V S F ?_ ?_ g.at_ ⟨tP (n+1),?_⟩ (λb Z b2 b3 b4=>?_)
  .rw[g.other _ M,f.other _ L,c.other _ J];exact j.at_
  .rw[g.other _ Q];exact f.at_
  .rw[g.other _ (λe=>P e.symm),f.other _ (λe=>O e.symm)];exact c.at_
  .rw[g.other _ b4,f.other _ b3,c.other _ b2,j.other _ Z]
 refine⟨n+1,.of_m c.at_ rfl,aE (λF=>t aC) (λF=>aE (λI=>t aC) (λI=>U u aC c))⟩
end Go.Ps
namespace Go.Vc
open Go.Ps Go.Proofs List
theorem xC.framed{w:World}{m:MH}{h:PH}{m':MH}{h':PH}{w':World}{ds:List Deferred}(c:xC ⟨w,λb=>m b≠none,h,ds⟩ m' h' w'):Qu w m h m' h' w':=
 ⟨c.tape,c.os,c.output,c.drawn,c.size,λb d f=>c.frame b d (λe=>e f),⟨c.hsat,c.msat,c.disj⟩,⟨c.hle⟩,λb d f=>c.hold b d (λe=>e f),λb o d=>c.mfr b o d⟩
end Go.Vc
namespace Go.Ps
open Go Go.Vc Go.Proofs List Tryz
variable{K:dc}{m:MH}{h:PH}{s:j4}{ps:dd}{cb:Nat}{sc:bJ}{v:QV}{q:Query}{p:Pred}{l:dd}{i:Nat}{N:Nat}{m':MH}{h':PH}{co:dd}{gr:dd}{od:dg}{w:Pred}{ta:Int}{li:Int}{xs:List cv}{sz:Nat}{k:Nat}{ks:List dd}{rs:dd}{r:Sl}{a:dd}{b:Nat}
theorem aUJ:Mw Tryz.prog YS:=by
 refine⟨λl vs m h w K hS hH=>?_⟩;obtain⟨f,c,v,R,n,he,F,h0,h1,hf,ht⟩:=hS
 obtain⟨rfl,rfl⟩:f=l/\vs=[.int .i64 c,.agg ⟨v.enc⟩]:=by
  simp only[yv,cI,aQ,List.cons.injEq,CV.val.injEq,Value.func.injEq,Fn.yield.injEq,and_true]at he;refine⟨he.1.symm,?_⟩;have:=he.2
  match vs,this with
  |[a,b],h=>grind
  |[],h=>simp at h
  |[_],h=>simp at h
  |_::_::_::_,h=>simp at h
 have hl:=hH.msat f _ F.loop;have W:=run_yield (P:=Tryz.prog) (args:= #[.int .i64 c,.agg ⟨v.enc⟩]) hl rfl;refine⟨_,_,_,_,W,roundIn_of_wpIn trivial ?_⟩;obtain⟨J,X⟩:∃J,((qK R .ready none).params.zip #[Value.int .i64 c,.agg ⟨v.enc⟩]).foldl (λtmps(t,a)=>tmps.setIfInBounds t a) (qK R .ready none).tmps=J:=⟨_,rfl⟩
 rw[X];have Y:J=(R.tmps.setIfInBounds 37 (.int .i64 c)).setIfInBounds 38 (.agg ⟨v.enc⟩):=by rw[<-X];simp[qK]
 have a6:J.size=53:=by rw[Y];simp[F.size]
 have get:∀j,j≠37->j≠38->J[j]? =R.tmps[j]? :=λj h1 h2=>by
  grind
 have L:J[37]? =some (.int .i64 c):=by
  grind
 have hM:aK ⟨w,λb=>m b≠none,h,[]⟩ (λ_=>.slice none 0 0) (bU 53 53 [(37,iv c),(11,zJ R.bn),(6,zJ R.b6),(7,zJ R.b7)] [] m h) {tmps:=J,defers:=[]} w:=by
  refine⟨?_,rfl,?_,?_,?_,?_,λ_=>rfl⟩
  .show DenS _ (vV (.at .junk) [(37,iv c),(11,zJ R.bn),(6,zJ R.b6),(7,zJ R.b7)] 53 0) J.toList;refine Mn 53 0 _ _ aC (λj x u z g=>?_);rw[cn]at g;simp only[assoc,Nat.zero_add]at z;split at z
   .rename_i e;have:=ci e;subst this;rw[L]at g;simp at z g;subst z g;rfl
   .split at z
    .rename_i e;have:=ci e;subst this;rw[get 11 aC aC,F.t11]at g;simp at z g;subst z g;rfl
    .split at z
     .rename_i e;have:=ci e;subst this;rw[get 6 aC aC,F.t6]at g;simp at z g;subst z g;rfl
     .split at z
      .rename_i e;have:=ci e;subst this;rw[get 7 aC aC,F.t7]at g;simp at z g;subst z g;rfl
      .cases z
  .intro k o Z;rw[jN]at Z;have:(bU 53 53 [(37,iv c),(11,zJ R.bn),(6,zJ R.b6),(7,zJ R.b7)] [] m h).own=replicate 53 none:=by rfl
   grind
  .intro k k' o o' b Z;rw[jN]at Z;have:(bU 53 53 [(37,iv c),(11,zJ R.bn),(6,zJ R.b6),(7,zJ R.b7)] [] m h).own=replicate 53 none:=by rfl
   grind
  .intro k o b Z;rw[jN]at Z;have:(bU 53 53 [(37,iv c),(11,zJ R.bn),(6,zJ R.b6),(7,zJ R.b7)] [] m h).own=replicate 53 none:=by rfl
   grind
  .exact⟨rfl,rfl,rfl,Nat.le_refl _,Nat.le_refl _,λ_ _ _=>rfl,hH.hsat,hH.msat,hH.disj,λ_ _ _ e=>e,λ_ _ _=>rfl,λb o G=>.inr (by show m b≠none;rw[show m b=some o from G];simp)⟩
 have hA:=QU (C:=cY) f aF rfA avZ _ _ _ _ _ hM (by
  rw[<-chZ c R.bn R.b6 R.b7 m h];exact MT)
 refine wpIn_mono hA ?_;intro e a1 w1 V;cases e with
 |normal=>
  obtain⟨ι1,τ,a0,a3⟩:=V;obtain⟨ι2,a',_⟩:=lK a0 a3;have a4:w1.heap[f]? =some (.loop (qK R .ready none)):=a'.wrel.msat f _ F.loop;refine⟨_,run_beginRound a4 rfl,?_⟩;obtain⟨M,H⟩:∃M,gR m M f (.loop {qK R .ready none with state:=.busy}):=⟨λb=>if b=f then some (.loop {qK R .ready none with state:=.busy})else m b,bf,λb G=>by simp[G]⟩
  have a5:aK ⟨w,λb=>m b≠none,h,[]⟩ ι2 (bU 53 53 [(12,iv c),(11,zJ R.bn),(6,zJ R.b6),(7,zJ R.b7)] [] M h) a1 _:=a'.putM (m':=M) F.loop H
  have hB:=QU (C:=cY) f aF rfB avX _ (λe τ=>match e with
   |.normal=>(∃m',τ.m=m'/\τ.h=h/\¬(24<n+1\/8<c)/\gR M m' R.bn (tP (n+1)))
   |.ret=>(∃m',τ.m=m'/\τ.h=h/\(24<n+1\/8<c)/\m' f=some (.loop {qK R .ready none with state:=.busy})/\m' R.b6=some Ii/\m' R.b7=some (GB 2)/\(∃x,m' R.bn=some x)/\(∀b,b≠f->b≠R.bn->b≠R.b6->b≠R.b7->m' b=m b))
   |_=>False) _ _ _ a5 (by
   rw[<-chQ c R.bn R.b6 R.b7 M h (λm2 h2=>∃m',m2=m'/\h2=h/\¬(24<n+1\/8<c)/\gR M m' R.bn (tP (n+1))) (λm2 h2=>∃m',m2=m'/\h2=h/\(24<n+1\/8<c)/\m' f=some (.loop {qK R .ready none with state:=.busy})/\m' R.b6=some Ii/\m' R.b7=some (GB 2)/\(∃x,m' R.bn=some x)/\(∀b,b≠f->b≠R.bn->b≠R.b6->b≠R.b7->m' b=m b))];exact chX F h0 h1 H (λm' O g=>⟨m',rfl,rfl,O,g⟩) (λm' O k1 k2 k3 k4 k5=>⟨m',rfl,rfl,O,k1,k2,k3,k4,k5⟩))
  refine wpIn_mono hB ?_;obtain⟨n1,n2,n3,n4,n5,n6⟩:=F.ne;intro e a2 w2 A;cases e with
  |normal=>
   obtain⟨ι3,Q,D,m',y,S,O,g⟩:=A;have E:Q.m f=some (.loop {qK R .ready none with state:=.busy}):=by rw[y,g.other _ n1];exact H.at_
   have T:=D.wrel.msat f _ E;obtain⟨I,d⟩:∃I,gR Q.m I f (.loop (qK R .ready none)):=⟨λb=>if b=f then some (.loop (qK R .ready none))else Q.m b,bf,λb G=>by simp[G]⟩
   have U:=D.putM E d;refine⟨_,_,run_endRound none T,_,I,h,rfl,ht I O ⟨?_,λb G=>?_⟩,?_⟩
   .rw[d.other _ (λe=>n1 e.symm),y];exact g.at_
   .by_cases e:b=f
    .subst e;rw[d.at_];exact F.loop.symm
    .rw[d.other _ e,y,g.other _ G,H.other _ e]
   .have:=U.wrel;rw[S]at this;exact this.framed
  |ret=>
   obtain⟨ι3,Q,D,m',y,S,O,k1,k2,k3,k4,k5⟩:=A;have E:Q.m f=some (.loop {qK R .ready none with state:=.busy}):=bk
   have T:=D.wrel.msat f _ E;obtain⟨I,d⟩:∃I,gR Q.m I f (.loop (qK R .done (some .ret))):=⟨λb=>if b=f then some (.loop (qK R .done (some .ret)))else Q.m b,bf,λb G=>by simp[G]⟩
   have U:=D.putM E d;refine⟨_,_,run_endRound (some .ret) T,_,I,h,rfl,hf I O ⟨d.at_,?_,?_,?_,λb b1 b2 b3 b4=>?_⟩,?_⟩
   .rw[d.other _ (λe=>n2 e.symm),y];exact k2
   .rw[d.other _ (λe=>n3 e.symm),y];exact k3
   .rw[d.other _ (λe=>n1 e.symm),y];exact k4
   .rw[d.other _ b1,y];grind
   .have:=U.wrel;rw[S]at this;exact this.framed
  |exit id=>obtain⟨_,_,_,h⟩:=A;exact h.elim
  |goto t=>exact A.elim
  |panic ch=>exact A.elim
  |outgrown=>exact A.elim
 |ret=>obtain⟨_,_,_,h⟩:=V;exact h.elim
 |exit id=>obtain⟨_,_,_,h⟩:=V;exact h.elim
 |goto t=>exact V.elim
 |panic ch=>exact V.elim
 |outgrown=>exact V.elim
theorem bIJ{p:Sl}{G:Prop}(y:dM h s sc)(n:Ints h p ps)(g:KR K m h (eG s ps q))(z:dK s=0->ps.all cX=true->G):LN sc p v m h G K:=by
 dsimp only[LN,push_cast];have A:=n.slen;have t:=n.len;unfold eG at g;refine⟨sc,s,rfl,y,aB (λj=>g.err (.refl _) (if_neg bk)) (λj=>?_)⟩;have j:dK s=0:=bk
 rw[if_pos j]at g;refine⟨λi=>i<=ps.length/\(ps.take i).all cX=true,λi=>ps.length-i,⟨0,⟨aC,bf⟩,MT⟩,λi⟨M,d⟩=>aE (λf=>?_) (λD=>⟨v,rfl,λb m' E F=>⟨z j ?_,b,m',E,F,MT⟩⟩)⟩
 .obtain⟨x,u⟩:=eO A f;obtain⟨b,o,e,r⟩:=n.at' u;refine⟨b,o,e,aC,f,x,.imm r,?_⟩;have c:cX x=true->(ps.take (i+1)).all cX=true:=λH=>by rw[Ct u,d,H];rfl
  refine aB (λI=>aB (λJ=>aB (λL=>g.err (.refl _) (if_neg λe=>?_)) (λL=>⟨i+1,⟨aC,c ?_⟩,bk,MT⟩)) (λJ=>⟨i+1,⟨aC,c ?_⟩,bk,MT⟩)) (λI=>⟨i+1,⟨aC,c ?_⟩,bk,MT⟩)
  .have:cX x=false:=by simp_all [cX]
   grind
  .simp_all [cX]
  .simp_all [cX]
  .simp_all [cX]
 grind
theorem Vt{α:Type}(d:α)(l:List (Nat×α)):∀(n i k:Nat),nth (vV d l n i) k=if k<n then some (match assoc l (i+k)with|some x=>x|none=>d)else none
 |0,i,k=>by simp[vV,nth]
 |n+1,i,0=>by rw[if_pos aC];rfl
 |n+1,i,k+1=>by
  simp only[vV,nth];rw[Vt d l n (i+1) k,show i+1+k=i+(k+1)by omega]
  grind
theorem IT{p:Sl}{e:Int}{o:Vc.Own}(c:nth (vW sc p v e m h).own k=some (some o)):
 (k=3/\o= .cells 29 (sc.enc.map .val))\/(k=5/\o= .cells 68 (v.enc.map .val))\/(k=6/\o= .cells 31 [.val (.slice none 0 0)])\/(k=7/\o= .cells 47 [.val (.int .i64 e)]):=by
 have:(vW sc p v e m h).own=vV none [(3,some (.cells 29 (sc.enc.map .val))),(5,some (.cells 68 (v.enc.map .val))),(6,some (.cells 31 [.val (.slice none 0 0)])),(7,some (.cells 47 [.val (.int .i64 e)]))] 56 0:=rfl;rw[this,Vt]at c;split at c
 .simp only[Nat.zero_add,ce]at c;split at c
  .rename_i x d;subst c;simp only[assoc]at d;split at d
   .rename_i e;have:=ci e;grind
   .split at d
    .rename_i e;have:=ci e;grind
    .split at d
     .rename_i e;have:=ci e;grind
     .split at d
      .rename_i e;have:=ci e;grind
      .cases d
  .cases c
 .cases c
def mark(D:Nat):Deferred:={target:=.collected D,args:= #[]}
theorem Ga{B:rL}{ι:dj}{σ:St}{a:Act}{w:World}(d:aK B ι σ a w){T:Nat}{l:cv}(e:nth σ.own k=some (some (.cells T (l.map .val)))):∃b,ι k= .pointer (some ⟨b,0,none⟩)/\w.heap[b]? =some (.cells ⟨l⟩ T (0,0)):=by
 obtain⟨b,j,f,g,c⟩:=w9 d e;rw[iM.vals]at c;refine⟨b,f,?_⟩;rw[g, <-c]
theorem OA{B:rL}{ι:dj}{σ:St}{a:Act}{w:World}(c:aK B ι σ a w){t:Nat}(d:σ.sl[t]? =some (.at (.ptr k 0)))(e:ι k= .pointer (some ⟨b,0,none⟩)):a.tmps[t]? =some (.pointer (some ⟨b,0,none⟩)):=by
 obtain⟨v,f,g,j,n⟩:=c.slots.get t _ d
 grind
theorem aYJ{B:rL}{ι:dj}{a:Act}{w:World}{p:Sl}{z:Nat}(A:aK B ι (Ek sc p v z m' h) a w)(e0:B.dfs=[])(c0:dL m h z)(a0:gR m m' z (.cells ⟨v.enc⟩ 68 (0,0)))(hq:dR h q v){Q:Exit->Act->World->Prop}
 (e1:∀(e:Int)(D:Nat)(E:Nat->Prop)(a':Act)(w':World),aK ⟨w',E,h,[mark D]⟩ ι (vW sc p v e m h) a' w'->xC B m h w'->(∀b,E b->B.w0.heap.size<=b\/B.E b)->B.w0.heap.size<=D->w'.heap[D]? =some (.deferred (some []))->¬E D->
  ((xB q 8 0).1=true->e=0->Q .normal a' w')/\((xB q 8 0).1=false->e=2->Q .ret a' w')):
 (Code.rangeFunc (.tmp 36) #[37,38] rfA rfB).wp Tryz.prog Q a w:=by
 have J:=A.wrel;obtain⟨b3,c1,c2⟩:=Ga A (k:=3) (T:=29) (l:=sc.enc) rfl;obtain⟨b5,c3,c4⟩:=Ga A (k:=5) (T:=68) (l:=v.enc) rfl;obtain⟨M,a7,c5⟩:=Ga A (k:=6) (T:=31) (l:=[.slice none 0 0]) rfl;obtain⟨O,a8,c6⟩:=Ga A (k:=7) (T:=47) (l:=[.int .i64 0]) rfl;obtain⟨bn,c7,c8⟩:=Ga A (k:=11) (T:=3) (l:=[.int .i64 0]) rfl;have e2:=OA A (t:=11) (k:=11) rfl c7;have t6:=OA A (t:=6) (k:=6) rfl a7;have t7:=OA A (t:=7) (k:=7) rfl a8;have e3:a.tmps.size=53:=by have:=A.slots.length;rw[Array.length_toList]at this;rw[<-this];rfl
 have e4:a.eval (.tmp 36)= .func (.func 147) #[] #[.pointer (some ⟨z,0,none⟩)]:=A.ev (.tmp 36);have a2:w.heap[z]? =some (.cells ⟨v.enc⟩ 68 (0,0)):=J.msat z _ a0.at_;have e5:=(Array.getElem?_eq_some_iff.1 c2).1;have e6:=(Array.getElem?_eq_some_iff.1 c4).1;have e7:=(Array.getElem?_eq_some_iff.1 c5).1;have e8:=(Array.getElem?_eq_some_iff.1 c6).1;have e9:=(Array.getElem?_eq_some_iff.1 c8).1;have h6:=(Array.getElem?_eq_some_iff.1 a2).1;have a9:=A.fresh 3 _ b3 rfl (by rw[c1];rfl);have b':=A.fresh 5 _ b5 rfl (by rw[c3];rfl);have H:=A.fresh 6 _ M rfl (by rw[a7];rfl);have f7:=A.fresh 7 _ O rfl (by rw[a8];rfl);have a3:=A.fresh 11 _ bn rfl (by rw[c7];rfl);have f':b3≠M:=λe=>bk
 have f0:b3≠O:=λe=>bk
 have f1:b3≠bn:=λe=>bk
 have f2:b5≠M:=λe=>bk
 have f3:b5≠O:=λe=>bk
 have f4:b5≠bn:=λe=>bk
 have f5:M≠O:=λe=>bk
 have c9:M≠bn:=λe=>bk
 have d':O≠bn:=λe=>bk
 have Y:∀b,m' b=none->b≠z:=λb f e=>by rw[e,a0.at_]at f;cases f
 have q3:=Y b3 a9.2.1;have q5:=Y b5 b'.2.1;have q6:=Y M H.2.1;have q7:=Y O f7.2.1;have qn:=Y bn a3.2.1;refine(wpIn_wide (n:=0)).1 (wpIn_rangeFunc ?_);intro fn h7;obtain⟨l,hl⟩:∃l,l=w.heap.size+1:=⟨_,rfl⟩
 obtain⟨D,hD⟩:∃D,D=w.heap.size:=⟨_,rfl⟩
 let R:LR:=⟨fn,a.tmps,bn,M,O,D⟩
 obtain⟨W1,I⟩:∃W1,(w.alloc (.deferred (some []))).alloc (.loop (qK R .ready none))=W1:=⟨_,rfl⟩
 have s1:W1.heap.size=w.heap.size+2:=by rw[<-I];simp
 have a4:∀b,b<w.heap.size->W1.heap[b]? =w.heap[b]? :=λb f=>by
  rw[<-I,fH _ _ bj,fH _ _ f]
 have d0:W1.heap[D]? =some (.deferred (some [])):=by
  rw[<-I,hD,fH _ _ bf];exact kM w _
 have h0:W1.heap[l]? =some (.loop (qK R .ready none)):=by
  rw[<-I,hl];have:=kM (w.alloc (.deferred (some []))) (.loop (qK R .ready none))
  rwa [World.size_alloc]at this
 let L:MH:=λb=>if b=l then some (.loop (qK R .ready none))else if b=bn then some (tP 0)else if b=M then some Ii else if b=O then some (GB 0)else if b=z then some (.cells ⟨v.enc⟩ 68 (0,0))else none
 have d5:L l=some (.loop (qK R .ready none)):=by simp[L]
 have d6:L bn=some (tP 0):=(if_neg aC).trans (if_pos rfl);have b0:L M=some Ii:=(if_neg aC).trans ((if_neg c9).trans (if_pos rfl));have b1:L O=some (GB 0):=(if_neg aC).trans ((if_neg d').trans ((if_neg (Ne.symm f5)).trans (if_pos rfl)));have f6:L z=some (.cells ⟨v.enc⟩ 68 (0,0)):=(if_neg aC).trans ((if_neg (Ne.symm qn)).trans ((if_neg (Ne.symm q6)).trans ((if_neg (Ne.symm q7)).trans (if_pos rfl))));have a1:∀b,b≠l->b≠bn->b≠M->b≠O->b≠z->L b=none:=λb h1 h2 h3 h4 h5=>(if_neg h1).trans ((if_neg h2).trans ((if_neg h3).trans ((if_neg h4).trans (if_neg h5))))
 have d7:∀b o,L b=some o->b=l\/b=bn\/b=M\/b=O\/b=z:=λb o f=>by
  grind
 have b2:∀b i x,h b i=some x->b<w.heap.size:=λb i x g=>World.block_lt_of_cell? w ⟨b,i,none⟩ (J.hsat b i x g);have hL:z8 L l R 0:=⟨d5,d6,b0,b1,e3,e2,t6,t7⟩
 have d8:AK W1 L h [yv l,ZQ z] [.func (.yield l) #[] #[],.pointer (some ⟨z,0,none⟩)]:=by
  refine⟨⟨rfl,rfl,trivial⟩,?_,?_,?_,?_,?_⟩
  .intro b i x g;rw[World.cell?_of_block (w:=w) (w':=W1) (a:=⟨b,i,none⟩) (a4 b (b2 b i x g))];exact J.hsat b i x g
  .intro b o f;rcases d7 b o f with rfl|rfl|rfl|rfl|rfl
   .grind
   .rw[d6]at f;cases f;rw[a4 _ e9];exact c8
   .rw[b0]at f;cases f;rw[a4 _ e7];exact c5
   .rw[b1]at f;cases f;rw[a4 _ e8];exact c6
   grind
  .intro b o f i;rcases d7 b o f with rfl|rfl|rfl|rfl|rfl
   .cases e:h b i with
    |none=>rfl
    |some x=>grind
   .exact a3.2.2 i
   .exact H.2.2 i
   .exact f7.2.2 i
   .exact c0.h_ i
  .intro i j c d u u' b F hu hj hv f
   have:∃x,c= .val x:=by
    match i,F with
    |0,F=>simp[yv]at F;grind
    |1,F=>simp[ZQ]at F;grind
    |_+2,F=>simp at F
   obtain⟨x,rfl⟩:=this;simp[gA]at f
  .intro i c u b F hu f
   have:∃x,c= .val x:=by
    match i,F with
    |0,F=>simp[yv]at F;grind
    |1,F=>simp[ZQ]at F;grind
    |_+2,F=>simp at F
   obtain⟨x,rfl⟩:=this;simp[gA]at f
 have b4:=(Zi aUJ).2 [yv l,ZQ z] [.func (.yield l) #[] #[],.pointer (some ⟨z,0,none⟩)] L h W1 (λ_ mm hh=>hh=h/\(((xB q 8 0).1=false/\AJ L mm l R)\/((xB q 8 0).1=true/\∃n,gR L mm bn (tP n))))
  ⟨v,q,l,z,R,rfl,f6,hq,hL,λmm hv hs=>⟨rfl,.inl ⟨hv,hs⟩⟩,λmm hv hu=>⟨rfl,.inr ⟨hv,_,hu⟩⟩⟩ d8
 have b8:(Instr.enterLoop fn a.tmps #[37,38] rfA rfB Fence.wide.round).run Tryz.prog w= .ok (l,[mark D]) W1:=by
  subst hD hl;rw[<-I];exact run_enterLoop_outer _ _ _ _ _
 refine⟨l,[mark D],W1,{target:=.fn (.func 147) #[.pointer (some ⟨z,0,none⟩)],args:= #[.func (.yield l) #[] #[]]},W1,147, #[.func (.yield l) #[] #[],.pointer (some ⟨z,0,none⟩)],W1,b8,?_,λ_ _=>trivial,?_,λe=>by simp[Fence.wide]at e,callsIn_wide.2 ?_⟩
 .simp only[resolve,rangeCall,e4];simp[go_sem]
 .have hf:Tryz.prog.funcs[147]? =some Tryz.f147:=func147;have f8:¬Tryz.f147.body=none:=by intro e;have:Tryz.f147.body=some (cK Tryz.f147):=rfl;grind
  have f9:¬Tryz.f147.name= "runtime.NumGoroutine" :=bg
  simp only[invoke,callFunc];simp[program,Sem.run,hf,f9,f8]
 refine b4.mono ?_;rintro e P ⟨r,u,mm,hh,rfl,⟨b9,d9⟩,h8,G,_⟩;have b9:=b9.symm;subst b9
 have Z:∀b,L b=none->¬tA L [yv l,ZQ z] [.func (.yield l) #[] #[],.pointer (some ⟨z,0,none⟩)] b:=by
  rintro b f (h1|⟨i,c,u,F,hu,hc⟩)
  .exact h1 f
  .have:∃x,c= .val x:=by
    match i,F with
    |0,F=>simp[yv]at F;grind
    |1,F=>simp[ZQ]at F;grind
    |_+2,F=>simp at F
   obtain⟨x,rfl⟩:=this;simp[gA]at hc
 have c':∀b,b<W1.heap.size->L b=none->P.heap[b]? =W1.heap[b]? :=λb f hn=>G.frame b f (Z b hn);have V:=G.size;have V:W1.heap.size<=P.heap.size:=V;obtain⟨n1,n2,n3,n4,n5,n6⟩:=hL.ne
 have key:∀(e:Int)(st:LoopState)(pe:Option Code),st≠ .busy->mm l=some (.loop (qK R st pe))->mm M=some Ii->mm O=some (GB e)->
  (Instr.endLoop l).run Tryz.prog P= .ok pe (P.putObj l (.loop {qK R st pe with state:=.exhausted}))/\
  ((xB q 8 0).1=true->e=0->Q .normal {a with defers:=[mark D]++a.defers} (P.putObj l (.loop {qK R st pe with state:=.exhausted})))/\
  ((xB q 8 0).1=false->e=2->Q .ret {a with defers:=[mark D]++a.defers} (P.putObj l (.loop {qK R st pe with state:=.exhausted}))):=by
  intro e st pe g' kl k6 k7;have g0:=G.msat l _ kl;refine⟨run_endLoop g0 g',?_⟩;obtain⟨W,S⟩:∃W,P.putObj l (.loop {qK R st pe with state:=.exhausted})=W:=⟨_,rfl⟩
  rw[S];have a5:∀b,b≠l->W.heap[b]? =P.heap[b]? :=λb f=>by rw[<-S];exact World.putObj_heap_other (λe=>f e)
  have s4:W.heap.size=P.heap.size:=by rw[<-S];simp
  have X:∀b,b<w.heap.size->L b=none->W.heap[b]? =w.heap[b]? :=λb f hn=>by
   grind
  have U:∀b o,m b=some o->L b=none/\b<w.heap.size/\m' b=some o:=λb o f=>by
   have a2:b≠z:=λe=>by rw[e,c0.m_]at f;cases f
   have a6:m' b=some o:=by rw[a0.other b a2];exact f
   have g4:=(Array.getElem?_eq_some_iff.1 (J.msat b o a6)).1
   have ne:∀c,(Ek sc p v z m' h).m c=none->b≠c:=λc hc e=>by
    have hc:m' c=none:=hc
    grind
   exact⟨a1 b aC (ne _ a3.2.1) (ne _ H.2.1) (ne _ f7.2.1) a2,g4,a6⟩
  have e':∀b i x,h b i=some x->W.cell? ⟨b,i,none⟩=some x:=λb i x g=>by
   have f:b≠l:=λe=>bk
   rw[World.cell?_of_block (w:=P) (w':=W) (a:=⟨b,i,none⟩) (a5 b f)];exact G.hsat b i x g
  have wr:xC B m h W:=by
   refine⟨?_,?_,?_,?_,?_,?_,e',?_,?_,J.hle,J.hold,?_⟩
   .have:W.tape=P.tape:=by rw[<-S];rfl
    rw[this,G.tape];show W1.tape=_;rw[<-I];exact J.tape
   .have:W.os=P.os:=by rw[<-S];rfl
    rw[this,G.os];show W1.os=_;rw[<-I];exact J.os
   .have:W.output=P.output:=by rw[<-S];rfl
    rw[this,G.output];show W1.output=_;rw[<-I];exact J.output
   .have d4:W.drawn=P.drawn:=by rw[<-S];rfl
    have d3:W1.drawn<=P.drawn:=G.drawn;have d2:W1.drawn=w.drawn:=by rw[<-I];rfl
    have d1:B.w0.drawn<=w.drawn:=J.drawn;omega
   .have:=J.size;omega
   .intro b f g5;have g6:b<w.heap.size:=ct f J.size
    have ne:∀c,(B.w0.heap.size<=c\/B.E c)->b≠c:=λc hc e=>by
     grind
    rw[X b g6 (a1 b aC (ne _ a3.1) (ne _ H.1) (ne _ f7.1) (ne _ (J.mfr z _ a0.at_)))];exact J.frame b f g5
   .intro b o f;obtain⟨k1,k2,k3⟩:=U b o f;rw[X b k2 k1];exact J.msat b o k3
   .intro b o f i;exact J.disj b o (U b o f).2.2 i
   .intro b o f;exact J.mfr b o (U b o f).2.2
  have g7:W.heap[D]? =some (.deferred (some [])):=by
   rw[a5 D aC,c' D aC (a1 D aC aC aC aC aC)];exact d0
  refine e1 e D (λb=>m b≠none\/∃k o,nth (Ek sc p v z m' h).own k=some (some o)/\blk (ι k)=some b) {a with defers:=[mark D]++a.defers} W ⟨?_,?_,?_,?_,?_,?_,A.one⟩ wr ?_ ?_ g7 ?_
  .show DenS ι (vV (.at .junk) [(1,sv p),(3,.at (.ptr 3 0)),(5,.at (.ptr 5 0)),(6,.at (.ptr 6 0)),(7,.at (.ptr 7 0))] 53 0) a.tmps.toList;refine Mn 53 0 _ _ aC (λj x u g hu=>?_)
   have get:∀(t:Nat)(y:SV),(Ek sc p v z m' h).sl[t]? =some y->t=j->Dnt ι y u:=λt y ht e=>by
    obtain⟨v',h9,i'⟩:=A.slots.get t y ht
    grind
   simp only[assoc,Nat.zero_add]at g;split at g
   .rename_i e;simp at g;subst g;exact get 1 _ rfl (ci e)
   .split at g
    .rename_i e;simp at g;subst g;exact get 3 _ rfl (ci e)
    .split at g
     .rename_i e;simp at g;subst g;exact get 5 _ rfl (ci e)
     .split at g
      .rename_i e;simp at g;subst g;exact get 6 _ rfl (ci e)
      .split at g
       .rename_i e;simp at g;subst g;exact get 7 _ rfl (ci e)
       .cases g
  .show[mark D]++a.defers=[mark D]
   rw[A.defers,e0];rfl
  .intro k o hk;rcases IT hk with⟨rfl,rfl⟩|⟨rfl,rfl⟩|⟨rfl,rfl⟩|⟨rfl,rfl⟩
   .exact⟨b3,_,c1,by rw[X b3 e5 (a1 b3 aC f1 f' f0 q3)];exact c2,iM.vals.2 rfl,λ_ e=>by cases e⟩
   .exact⟨b5,_,c3,by rw[X b5 e6 (a1 b5 aC f4 f2 f3 q5)];exact c4,iM.vals.2 rfl,λ_ e=>by cases e⟩
   .exact⟨M,_,a7,by rw[a5 M aC];exact G.msat M _ k6,iM.vals (l:=[.slice none 0 0]).2 rfl,λ_ e=>by cases e⟩
   .exact⟨O,_,a8,by rw[a5 O aC];exact G.msat O _ k7,iM.vals (l:=[.int .i64 e]).2 rfl,λ_ e=>by cases e⟩
  .have up:∀k o,nth (vW sc p v e m h).own k=some (some o)->∃o',nth (Ek sc p v z m' h).own k=some (some o'):=λk o hk=>by
    rcases IT hk with⟨rfl,rfl⟩|⟨rfl,rfl⟩|⟨rfl,rfl⟩|⟨rfl,rfl⟩<;>exact⟨_,rfl⟩
   intro k k' o o' b hk g8 f a6;obtain⟨x,g⟩:=up k o hk;obtain⟨x',g9⟩:=up k' o' g8;exact A.dist k k' x x' b g g9 f a6
  .have up:∀k o,nth (vW sc p v e m h).own k=some (some o)->∃o',nth (Ek sc p v z m' h).own k=some (some o'):=λk o hk=>by
    rcases IT hk with⟨rfl,rfl⟩|⟨rfl,rfl⟩|⟨rfl,rfl⟩|⟨rfl,rfl⟩<;>exact⟨_,rfl⟩
   intro k o b hk f;obtain⟨x,g⟩:=up k o hk;obtain⟨g1,g2,g3⟩:=A.fresh k x b g f;refine⟨.inr (.inr ⟨k,x,g,f⟩),?_,g3⟩;show m b=none;have g2:m' b=none:=g2;rw[<-a0.other b (Y b g2)];exact g2
  .exact⟨rfl,rfl,rfl,Nat.le_refl _,Nat.le_refl _,λ_ _ _=>rfl,e',wr.msat,wr.disj,λ_ _ _ e=>e,λ_ _ _=>rfl,λb o f=>.inr (.inl (by rw[show m b=some o from f];simp))⟩
  .rintro b (h1|⟨k,o,hk,f⟩)
   .cases e:m b with
    |none=>grind
    |some o=>exact wr.mfr b o e
   .exact(A.fresh k o b hk f).1
  .rw[hD];exact J.size
  .rintro(h1|⟨k,o,hk,f⟩)
   .cases e:m D with
    |none=>exact h1 e
    |some o=>grind
   .have:=qG (A.own k o hk) f;omega
 rcases d9 with⟨hv,hs⟩|⟨hv,n,hu⟩
 .obtain⟨r1,_,r3⟩:=key 2 .done (some .ret) bf hs.loop hs.k_ hs.e_;exact⟨_,_,r1,wpIn_ret (r3 hv rfl)⟩
 .obtain⟨r1,r2,_⟩:=key 0 .ready none bf (by rw[hu.other l n1];exact d5) (by rw[hu.other M c9];exact b0) (by rw[hu.other O d'];exact b1);exact⟨_,_,r1,r2 hv rfl⟩
set_option maxRecDepth 100000 in
theorem Ry:cu 68 tV:=by
 refine⟨⟨Tryz.f68,func68,rfl,bg⟩,?_⟩;rintro b7 vs m h w K ⟨sc,p,v,s,ps,q,rfl,hs,hp,J,U⟩ a4;refine callsIn_wide.1 (callsIn_of_wp_marks (n:=0) func68 (show Tryz.f68.body=some (cK Tryz.f68)from rfl) trivial (wpIn_wide.2 ?_));have W:=FB Tryz.f68.ntmps a4;have hn:Tryz.f68.ntmps=53:=be
 rw[hn]at W⊢
 obtain⟨B,hB⟩:∃B:rL,B=⟨w,tA m [aS sc,cS p,aQ v] vs,h,[]⟩:=⟨_,rfl⟩
 rw[<-hB]at W;have a6:B.dfs=[]:=by rw[hB]
 have t:∀g S,assoc (AH sc p v m h).specs g=some S->Sound (AH sc p v m h).P g S:=aD HK (aD Zy aF)
 have y:∀u A,(∃r m' h',K r m' h'/\Ea A r u/\xC B m' h' A/\∀b,gA r u=some b->(B.w0.heap.size<=b\/B.E b)/\m' b=none/\∀i,h' b i=none)->
  ∃r u' m' h',Ending.returned u= .returned u'/\K r m' h'/\Ea A r u'/\xC ⟨w,tA m [aS sc,cS p,aQ v] vs,h,[]⟩ m' h' A/\(∀b,gA r u'=some b->(w.heap.size<=b\/tA m [aS sc,cS p,aQ v] vs b)/\m' b=none/\∀i,h' b i=none):=by
  rintro u A ⟨r,m',h',X,h2,h3,h4⟩;subst hB;exact⟨r,u,m',h',rfl,X,h2,h3,h4⟩
 have hV:VC (AH sc p v m h) (M7 4 (cK Tryz.f68)) (entry 53 [aS sc,cS p,aQ v] m h) (thenS (Ws sc p v m h (dK s=0/\ps.all cX=true)) (Rz sc p v m h K)):=by
  rw[<-bIZ sc p v m h (dK s=0/\ps.all cX=true) K];exact bIJ hs hp U (λX h2=>⟨X,h2⟩)
 have key:=λR=>UL (C:=AH sc p v m h) (Q2:=Ws sc p v m h (dK s=0/\ps.all cX=true)) (Q:=Rz sc p v m h K) (R:=R) t rfl rfl 4 (cK Tryz.f68) _ _ _ _ W;generalize f:VC (AH sc p v m h) (M7 4 (cK Tryz.f68)) (entry 53 [aS sc,cS p,aQ v] m h) (thenS (Ws sc p v m h (dK s=0/\ps.all cX=true)) (Rz sc p v m h K))=V at hV key;clear f;refine key _ hV ?_ ?_
 .intro ι τ a1 w1 b1 X;unfold Ws at X;rw[aWQ];have L:=λR=>UL (C:=AH sc p v m h) (Q2:=aiQ sc p v m h (dK s=0/\ps.all cX=true)) (Q:=λ_ _=>False) (R:=R) t rfl rfl 1 (KE (CH 4 (cK Tryz.f68))) _ _ _ _ b1;generalize f:VC (AH sc p v m h) (M7 1 (KE (CH 4 (cK Tryz.f68)))) τ (thenS (aiQ sc p v m h (dK s=0/\ps.all cX=true)) (λ_ _=>False))=V at X L;clear f;refine wp_seq (L _ X ?_ ?_)
  .intro ι2 τ2 a2 w2 b2 h2;unfold aiQ at h2;obtain⟨⟨g1,g2⟩,bq,m',b3,b4,b5⟩:=h2;obtain⟨ι3,b6,_⟩:=lK b2 b5;rw[axX];refine wp_block (aYJ b6 a6 b3 b4 J ?_);intro e D E a' A a7 a8 hE hD a9 b';have M:D<A.heap.size:=(Array.getElem?_eq_some_iff.1 a9).1
   have j:∀{C:Ctx},C.P=Tryz.prog->∀(ι5:dj)(Y:St)(Z:Act)(w5:World),aK ⟨A,E,h,[mark D]⟩ ι5 Y Z w5->DR C Tryz.f68 K Y->∀{R:Ending->World->Prop},(∀u d,(∃r m' h',K r m' h'/\Ea d r u/\xC B m' h' d/\∀b,gA r u=some b->(B.w0.heap.size<=b\/B.E b)/\m' b=none/\∀i,h' b i=none)->R (.returned u) d)->LeavesInM Fence.wide 0 Tryz.prog Tryz.f68 Z.tmps R Z.defers .returning w5:=by
    intro C hC ι5 Y Z w5 F H R hR;rw[<-hC];refine XY (C:=C) F rfl ?_ M b' H (λu d=>?_)
    .rw[F.wrel.frame D M b'];exact a9
    .rintro⟨r,mf,hf,k1,k2,z,k4⟩
     have b0:∀b,(E b\/b=D)->B.w0.heap.size<=b\/B.E b:=by
      rintro b (e|rfl)
      .exact hE b e
      .exact .inl hD
     refine hR u d ⟨r,mf,hf,k1,k2,a8.trans (E:=λb=>E b\/b=D) ⟨z.tape,z.os,z.output,z.drawn,z.size,z.frame,z.hsat,z.msat,z.disj,z.hle,z.hold,z.mfr⟩ b0,λb hb=>?_⟩;obtain⟨j1,j2,j3⟩:=k4 b hb;refine⟨?_,j2,j3⟩;rcases j1 with j1|j1
     .exact .inl (cr a8.size j1)
     .exact b0 b j1
   refine⟨λhv he=>?_,λhv he=>?_⟩
   .subst he;show(CH 5 (cK Tryz.f68)).wp _ _ a' A;have a0:wK q=true:=by rw[<-QT];exact hv
    have ht:Rw (SizeOf.sizeOf q+1) sc p v m h K:=by
     unfold eG at U;rw[if_pos g1,if_pos g2,if_pos a0]at U;exact⟨sc,p,v,s,ps,q,rfl,hs,BX g1,hp,J,aC,U⟩
    rw[bIQ]at ht;have O:=X5 (C:=dD [(112,BW (SizeOf.sizeOf q+1))] [] [] [] false) (fn:=Tryz.f68) (c:=CH 5 (cK Tryz.f68)) (K:=K) (aD (Zx _) aF) a7;generalize f:tM (dD [(112,BW (SizeOf.sizeOf q+1))] [] [] [] false) Tryz.f68 (CH 5 (cK Tryz.f68)) (vW sc p v 0 m h) K=V at ht O;clear f;refine wp_mono (O ht) ?_;intro e Z w5 G;cases e with
    |normal=>
     obtain⟨ι5,Y,F,H⟩:=G;exact j rfl ι5 Y Z w5 F H (λu d hx=>y u d hx)
    |ret=>
     obtain⟨ι5,Y,F,H⟩:=G;exact j rfl ι5 Y Z w5 F H (λu d hx=>y u d hx)
    |exit id=>exact G.elim
    |goto l=>exact G.elim
    |panic ch=>exact G.elim
    |outgrown=>exact G.elim
   .subst he;have a0:¬wK q=true:=by rw[<-QT,hv];simp
    have H:Rx sc p v m h K:=by
     unfold eG at U;rw[if_pos g1,if_pos g2,if_neg a0]at U;exact U.err (.refl _) rfl
    rw[bIX]at H;have T:=@j cY rfl ι3 (vW sc p v 2 m h) a' A a7;generalize f:DR cY Tryz.f68 K (vW sc p v 2 m h)=V at H T;clear f;exact T H (λu d hx=>y u d hx)
  .rintro e a w J a3;cases e with
   |normal=>exact(a3 rfl).elim
   |exit id=>obtain⟨_,_,_,h⟩:=J;exact h.elim
   |ret=>obtain⟨_,_,_,h⟩:=J;exact h.elim
   |goto l=>exact J.elim
   |panic ch=>exact J.elim
   |outgrown=>exact J.elim
 .rintro e a' A I a3;cases e with
  |normal=>exact(a3 rfl).elim
  |exit id=>
   obtain⟨_,_,_,h⟩:=I;simp only[Rz]at h
  |ret=>
   obtain⟨ι,σ,hM,H⟩:=I;simp only[Rz]at H;obtain⟨u,hu,r,m',h',k1,k2,z,k4⟩:=GM hM H;show LeavesInM Fence.wide 0 Tryz.prog Tryz.f68 a'.tmps _ a'.defers .returning A;rw[hM.defers,a6];exact⟨u,hu,y u A ⟨r,m',h',k1,k2,z,k4⟩⟩
  |goto l=>exact I.elim
  |panic ch=>exact I.elim
  |outgrown=>exact I.elim
end Go.Ps
