/- Own work. -/
import Derived.RangeFuncLeaves
import Derived.RangeFuncCalls
import Derived.Test.YtjpjambjoceofaaGreatDoorVd
set_option linter.unusedVariables false
set_option linter.unusedSimpArgs false
namespace Go.Vc
open Go List
section
variable{B:qE}{C:Ctx}{ι:dv}{σ:St}{a:Act}{w:World}{o:Oper}{K:St->Prop}
theorem Ue(h:PT C o σ K):∀c,o.op≠ .defer c:=by
 intro c b;unfold PT at h;rw[b]at h;unfold Pg at h
 grind
theorem G9(l:Nat){P:Program}{next:Act->World->Prop}{Q:Exit->Act->World->Prop}(e:∀c,o.op≠ .defer c)(h:o.wpIn Fence.wide 0 P a w next Q):o.wpIn (Fence.wide.inRound l) 0 P a w next Q:=by
 refine⟨λ_ _=>trivial,?_⟩;have b:o.uponIn Fence.wide 0 P a next Q ((execOp a.eval o).run P w):=h.2
 show o.uponIn (Fence.wide.inRound l) 0 P a next Q ((o.semAt (some l) a.eval).run P w)
 rw[Oper.semAt_eq _ _ _ e];cases d:(execOp a.eval o).run P w with
 |ok x f=>
  rw[d]at b;cases x<;>exact b
 |halt x f=>
  rw[d]at b;cases x<;>exact b
theorem Nj(l:Nat)(b:∀g S,assoc C.specs g=some S->Sound C.P g S){ops:Array Oper}{Q:Exit->Act->World->Prop}{R:St->Prop}(q:∀ι σ a w,aJ B ι σ a w->R σ->Q .normal a w):
 ∀(c:List Oper)(s:Nat)(ι:dv)(σ:St)(a:Act)(w:World),(∀j,c[j]? =ops.toList[s+j]?)->aJ B ι σ a w->PG C ops c σ R->wpOpsIn (Fence.wide.inRound l) 0 C.P ops Q (range' s c.length) a w
 |[],s,ι,σ,a,w,_,m,h=>q ι σ a w m h
 |o::c,s,ι,σ,a,w,r,m,h=>by
  have t:ops[s]? =some o:=by have:=r 0;grind
  simp only[de,range'_succ,wpOpsIn,t]
  have next:∀n e f i,aJ B n e f i->PG C ops c e R->wpOpsIn (Fence.wide.inRound l) 0 C.P ops Q (range' (s+1) c.length) f i:=λn e f i u v=>
   Nj l b q c (s+1) n e f i (λj=>by have:=r (j+1);grind) u v
  obtain⟨A,d,y,z⟩:=Ce m h;rcases z with⟨p,h⟩|⟨p,h⟩
  .rw[if_pos p];exact G9 l (Ue h) (PS b d h _ Q next)
  .rw[if_neg (by simp[p])];exact⟨λ_ _=>trivial,next ι _ _ _ (d.put o.dst (x:=.at (.val undef)) rfl) h⟩
def kI(C:Ctx):Code->Bool
 |.skip=>true
 |.ret=>true
 |.exit _=>true
 |.region id _ d=> !d&&(JR C id).isEmpty
 |.seq x y=>(Zu C y).isNone&&(OH C y).isNone&&kI C x&&kI C y
 |.cond _ x y=>kI C x&&kI C y
 |.block _ c=>kI C c
 |_=>false
theorem Pw(l:Nat)(p:∀g S,assoc C.specs g=some S->Sound C.P g S):∀(c:Code),kI C c=true->∀(σ:St)(Q:zO->St->Prop)(ι:dv)(a:Act)(w:World),aJ B ι σ a w->VC C c σ Q->c.wpIn (Fence.wide.inRound l) 0 C.P (QD B Q) a w:=by
 intro c
 induction c with
 |skip=>intro _ σ Q ι a w d h;exact wpIn_skip ⟨ι,σ,d,h⟩
 |exit id=>intro _ σ Q ι a w d h;exact wpIn_exit ⟨ι,σ,d,h⟩
 |ret=>intro _ σ Q ι a w d h;exact wpIn_ret ⟨ι,σ,d,h⟩
 |label l=>intro b;simp[kI]at b
 |goto l=>intro b;simp[kI]at b
 |refuse L=>intro b;simp[kI]at b
 |scope v E=>intro b;simp[kI]at b
 |loop v E=>intro b;simp[kI]at b
 |rangeFunc f V x y q r=>intro b;simp[kI]at b
 |region id ops z=>
  intro b σ Q ι a w d h;cases z with
  |true=>simp[kI]at b
  |false=>
   have F:JR C id=[]:=by simpa[kI,isEmpty_iff]using b
   refine wpIn_region ?_;have h:YT C ops (JR C id) ops.toList σ (Q .normal):=h;rw[F]at h;have:=Nj l p (ops:=ops) (Q:=QD B Q) (R:=Q .normal) (λι σ a w d h=>⟨ι,σ,d,h⟩) ops.toList 0 ι σ a w (λj=>bx) d h;rw[range_eq_range'];omega
 |seq x y q r=>
  intro b σ Q ι a w d h;simp only[kI,cz,Option.isNone_iff_eq_none]at b;obtain⟨⟨⟨M,N⟩,O⟩,T⟩:=b;simp only[VC,M,N]at h;refine wpIn_seq (wpIn_mono (q O σ _ ι a w d h) ?_);intro e I J m;cases e with
  |normal=>
   obtain⟨A,D,s,u⟩:=m;exact r T D Q A I J s u
  |exit id=>exact m
  |ret=>exact m
  |goto l=>exact m
  |panic U=>exact m
  |outgrown=>exact m
 |cond c x y q r=>
  intro b σ Q ι a w d h;simp only[kI,cz]at b;simp only[VC]at h;split at h
  .rename_i t G;have n:=d.ev c;rw[G]at n;have n:a.eval c= .bool t:=n;rcases sE h with⟨rfl,h⟩|⟨rfl,h⟩
   .exact wpIn_cond_true n (q b.1 _ Q ι a w (d.setTmp G) h)
   .exact wpIn_cond_false n (r b.2 _ Q ι a w (d.setTmp G) h)
  grind
 |block id c E=>
  intro b σ Q ι a w d h;refine wpIn_block (wpIn_mono (E b σ _ ι a w d h) ?_);intro e I J m;cases e with
  |normal=>exact m
  |exit i=>
   obtain⟨A,D,s,u⟩:=m;show if i=id then _ else _
   simp only at u;split at u
   .rename_i H;rw[if_pos (da H)];exact⟨A,D,s,u⟩
   .rename_i H;rw[if_neg (λe=>by subst e;simp at H)];exact⟨A,D,s,u⟩
  |ret=>exact m
  |goto l=>exact m
  |panic U=>exact m
  |outgrown=>exact m
def LI:Nat->Code->Code
 |n+1,.seq x y=>.seq x (LI n y)
 |_,_=>.skip
def BI:Nat->Code->Code
 |n+1,.seq _ y=>BI n y
 |_,c=>c
def thenS(Q2:St->Prop)(Q:zO->St->Prop):zO->St->Prop:=λe τ=>match e with|.normal=>Q2 τ|e=>Q e τ
theorem TD(b:∀g S,assoc C.specs g=some S->Sound C.P g S)(s:C.cuts=[])(p:C.cuts2=[]){Q2:St->Prop}{Q:zO->St->Prop}{R:Exit->Act->World->Prop}:
 ∀(n:Nat)(c:Code)(ι:dv)(σ:St)(a:Act)(w:World),aJ B ι σ a w->VC C (LI n c) σ (thenS Q2 Q)->
  (∀ι τ a w,aJ B ι τ a w->Q2 τ->(BI n c).wp C.P R a w)->(∀e a w,QD B Q e a w->e≠ .normal->R e a w)->c.wp C.P R a w:=by
 have f:∀y,Zu C y=none:=λy=>by unfold Zu;split<;>simp[s,assoc]
 have i:∀y,OH C y=none:=λy=>by unfold OH;split<;>simp[p,assoc]
 intro n
 induction n with
 |zero=>intro c ι σ a w j h m _;exact m ι σ a w j h
 |succ n t=>
  intro c;cases c with
  |seq x y=>
   intro ι σ a w j h m q;simp only[LI,VC,f,i]at h;refine wp_seq (wp_mono (HS b x σ _ ι a w j h) ?_);intro e u v d;cases e with
   |normal=>
    obtain⟨z,A,r,D⟩:=d;exact t y z A u v r D m q
   |exit id=>exact q _ _ _ d bx
   |ret=>exact q _ _ _ d bx
   |goto l=>exact d.elim
   |panic E=>exact d.elim
   |outgrown=>exact d.elim
  |_=>intro ι σ a w j h m _;exact m ι σ a w j h
def bSZ(B:qE)(C:Ctx)(fn:Func)(K:dk):Exit->Act->World->Prop
 |.normal,a,w=>∃ι σ,aJ B ι σ a w/\CI C fn K σ
 |.ret,a,w=>∃ι σ,aJ B ι σ a w/\CI C fn K σ
 |_,_,_=>False
theorem WD(b:∀g S,assoc C.specs g=some S->Sound C.P g S)(f:aJ B ι σ a w){fn:Func}{c:Code}{K:dk}(h:Bx C fn c σ K):c.wp C.P (bSZ B C fn K) a w:=by
 refine wp_mono (HS b c σ _ ι a w f h) ?_;intro e i j d;cases e with
 |normal=>exact d
 |ret=>exact d
 |exit id=>obtain⟨_,_,_,h⟩:=d;exact h.elim
 |goto l=>exact d.elim
 |panic m=>exact d.elim
 |outgrown=>exact d.elim
theorem aJ.putM(j:aJ B ι σ a w){b:Nat}{ob h:Obj}{m':MH}(q:σ.m b=some ob)(r:gI σ.m m' b h):aJ B ι {σ with m:=m'} a (w.putObj b h):=by
 have f:=j.wrel;have s:b<w.heap.size:=(Array.getElem?_eq_some_iff.1 (f.msat b ob q)).1;have g:∀d,d≠b->(w.putObj b h).heap[d]? =w.heap[d]? :=λd n=>World.putObj_heap_other (λe=>n e)
 have l:∀k o,nth σ.own k=some (some o)->∀d,blk (ι k)=some d->d≠b:=λk o p d c e=>by
  have:=(j.fresh k o d p c).2.1
  grind
 refine⟨j.slots,j.defers,λk o p=>(j.own k o p).world (λd c=>g d (l k o p d c)),j.dist,?_,?_,j.one⟩
 .intro k o d p c;obtain⟨u,y,z⟩:=j.fresh k o d p c;exact⟨u,by show m' d=none;rw[r.other d (l k o p d c)];exact y,z⟩
 .refine⟨f.tape,f.os,f.output,f.drawn,by have:=f.size;simpa using this,?_,?_,?_,?_,f.hle,f.hold,?_⟩
  .intro d A D;rw[g d (λe=>?_)]
   .exact f.frame d A D
   .subst e;rcases f.mfr d ob q with E|E
    .omega
    grind
  .intro d i v t;have n:d≠b:=λe=>by rw[e,f.disj b ob q i]at t;cases t
   rw[World.cell?_of_block (w:=w) (w':=w.putObj b h) (a:=⟨d,i,none⟩) (g d n)];exact f.hsat d i v t
  .intro d o c;have c:m' d=some o:=c;by_cases e:d=b
   .subst e;rw[r.at_]at c;cases c;exact World.putObj_heap_same s
   .rw[r.other d e]at c;rw[g d e];exact f.msat d o c
  .intro d o c i;have c:m' d=some o:=c;by_cases e:d=b
   .subst e;exact f.disj d ob q i
   .rw[r.other d e]at c;exact f.disj d o c i
  .intro d o c;have c:m' d=some o:=c;by_cases e:d=b
   .subst e;exact f.mfr d ob q
   .rw[r.other d e]at c;exact f.mfr d o c
theorem aJ.putD(l:aJ B ι σ a w){D:Nat}{ob:Obj}(m:Obj)(s:w.heap[D]? =some ob)(r:ob.isCells=false)(t:D<B.w0.heap.size)(u:¬B.E D):
 aJ {B with E:=λb=>B.E b\/b=D} ι σ a (w.putObj D m):=by
 have h:=l.wrel;have f:∀c,c≠D->(w.putObj D m).heap[c]? =w.heap[c]? :=λc j=>World.putObj_heap_other (λe=>j e)
 have p:∀k o,nth σ.own k=some (some o)->∀c,blk (ι k)=some c->c≠D:=λk o n c d e=>by
  rcases(l.fresh k o c n d).1 with g|g
  .omega
  grind
 refine⟨l.slots,l.defers,λk o n=>(l.own k o n).world (λc d=>f c (p k o n c d)),l.dist,?_,?_,l.one⟩
 .intro k o c n d;obtain⟨z,A,F⟩:=l.fresh k o c n d
  grind
 .refine⟨h.tape,h.os,h.output,h.drawn,by have:=h.size;simpa using this,?_,?_,?_,h.disj,h.hle,?_,?_⟩
  .intro c g q;rw[f c (λe=>q (.inr e))];exact h.frame c g (λe=>q (.inl e))
  .intro c i v y;have g:=h.hsat c i v y
   have j:c≠D:=λe=>by
    unfold World.cell? at g;rw[e]at g;dsimp only at g;rw[s]at g;cases ob<;>simp[Obj.isCells]at r g
   rw[World.cell?_of_block (w:=w) (w':=w.putObj D m) (a:=⟨c,i,none⟩) (f c j)];exact g
  .intro c o d
   have j:c≠D:=λe=>by
    rcases h.mfr c o d with g|g
    .omega
    grind
   rw[f c j];exact h.msat c o d
  .intro c g q;exact h.hold c g (λe=>q (.inl e))
  .intro c o d;exact(h.mfr c o d).imp id .inl
theorem Ww{F:Fence}{n D:Nat}(j:aJ B ι σ a w)(m:B.dfs=[{target:=.collected D,args:= #[]}])(l:w.heap[D]? =some (.deferred (some [])))(d:D<B.w0.heap.size)(e:¬B.E D)
 {fn:Func}{K:dk}(h:CI C fn K σ){R:Ending->World->Prop}
 (p:∀u w',(∃r m' c,K r m' c/\C5 w' r u/\vN {B with E:=λb=>B.E b\/b=D} m' c w'/\∀b,gK r u=some b->(B.w0.heap.size<=b\/(B.E b\/b=D))/\m' b=none/\∀i,c b i=none)->R (.returned u) w'):
 LeavesInM F n C.P fn a.tmps R a.defers .returning w:=by
 rw[j.defers,m];refine⟨bx,.inl ⟨D,_,rfl,run_takeDeferred l,?_⟩⟩;have f:=j.putD (.deferred none) l rfl d e;obtain⟨u,q,r,m',c,s,g,t,v⟩:=FO f h;exact⟨u,q,p u _ ⟨r,m',c,s,g,t,v⟩⟩
theorem KZ:∀(n i:Nat)(l:fh)(vs:dj),vs.length=n->(∀j x v,assoc l (i+j)=some x->vs[j]? =some v->Den ι x v)->DenS ι (tV (.at .junk) l n i) vs
 |0,i,l,[],_,_=>trivial
 |0,i,l,_::_,h,_=>by simp at h
 |n+1,i,l,[],h,_=>by simp at h
 |n+1,i,l,v::vs,h,b=>by
  refine⟨?_,KZ n (i+1) l vs (cm h) (λj x u c d=>b (j+1) x u cg cg)⟩;have:=b 0;cases e:assoc l i with
  |none=>trivial
  |some x=>grind
end
end Go.Vc
namespace Go.Ps
open Go Go.Vc Go.Proofs List Tryz
variable{K:dk}{m:MH}{h:PH}{s:oL}{ps:dm}{cb:Nat}{sc:bW}{v:QV}{q:Query}{p:Pred}{l:dm}{i:Nat}{N:Nat}{m':MH}{h':PH}{co:dm}{gr:dm}{od:dr}{w:Pred}{ta:Int}{li:Int}{xs:List dj}{sz:Nat}{ks:List dm}{rs:dm}{r:Sl}{a:dm}{b:Nat}
def xK(b:Nat):SV:=.at (.val (.pointer (some ⟨b,0,none⟩)))
def Jn:Code->Code
 |.seq x _=>x
 |c=>c
noncomputable def cY:Ctx:=dG [] [] [] [] false
noncomputable def f57_ctx(sc:bW)(p:Sl)(v:QV)(m:MH)(h:PH):Ctx:=
 dG [(90,Ba),(97,RX)] [(5,{A:=Nat,st:=λi=>bK 53 56 [(1,sv p),(3,.at (.ptr 3 0)),(5,.at (.ptr 5 0)),(6,.at (.ptr 6 0)),(7,.at (.ptr 7 0)),(18,sv p),(19,iv p.len),(20,iv i)] [(3,.cells 43 (sc.enc.map .val)),(5,.cells 38 (v.enc.map .val)),(6,.cells 33 [.val (.slice none 0 0)]),(7,.cells 54 [.val (.int .i64 0)])] m h})] [] [] false
def Dc(sc:bW)(p:Sl)(v:QV)(b:Nat)(m:MH)(h:PH):St:=
 bK 53 56 [(1,sv p),(3,.at (.ptr 3 0)),(5,.at (.ptr 5 0)),(6,.at (.ptr 6 0)),(7,.at (.ptr 7 0)),(11,.at (.ptr 11 0)),(36,vv (.func (.func 172) #[] #[.pointer (some ⟨b,0,none⟩)]))] [(3,.cells 43 (sc.enc.map .val)),(5,.cells 38 (v.enc.map .val)),(6,.cells 33 [.val (.slice none 0 0)]),(7,.cells 54 [.val (.int .i64 0)]),(11,.cells 3 [.val (.int .i64 0)])] m h
def tY(sc:bW)(p:Sl)(v:QV)(e:Int)(m:MH)(h:PH):St:=
 bK 53 56 [(1,sv p),(3,.at (.ptr 3 0)),(5,.at (.ptr 5 0)),(6,.at (.ptr 6 0)),(7,.at (.ptr 7 0))] [(3,.cells 43 (sc.enc.map .val)),(5,.cells 38 (v.enc.map .val)),(6,.cells 33 [.val (.slice none 0 0)]),(7,.cells 54 [.val (.int .i64 e)])] m h
end Go.Ps
namespace Go.Vc
open Go.Ps Go.Proofs List
noncomputable def Zl(sc:bW)(p:Sl)(v:QV)(m:MH)(h:PH)(G:Prop):St->Prop:=λτ=>G/\∃b m',dZ m h b/\gI m m' b (.cells ⟨v.enc⟩ 38 (0,0))/\wV τ (Dc sc p v b m' h) True
noncomputable def U3(sc:bW)(p:Sl)(v:QV)(m:MH)(h:PH)(G:Prop):St->Prop:=λτ=>VC (f57_ctx sc p v m h) (LI 1 (Jn (BI 4 (cL Tryz.f57)))) τ (thenS (Zl sc p v m h G) (λ_ _=>False))
noncomputable def f57Qr(sc:bW)(p:Sl)(v:QV)(m:MH)(h:PH)(K:dk):zO->St->Prop:=λe τ=>match e with|.ret=>CI (f57_ctx sc p v m h) Tryz.f57 K τ|_=>False
end Go.Vc
namespace Go.Ps
open Go Go.Vc Go.Proofs List Tryz
variable{K:dk}{m:MH}{h:PH}{s:oL}{ps:dm}{cb:Nat}{sc:bW}{v:QV}{q:Query}{p:Pred}{l:dm}{i:Nat}{N:Nat}{m':MH}{h':PH}{co:dm}{gr:dm}{od:dr}{w:Pred}{ta:Int}{li:Int}{xs:List dj}{sz:Nat}{ks:List dm}{rs:dm}{r:Sl}{a:dm}{b:Nat}
def blZ(c:Int)(d e f:Nat)(m:MH)(h:PH):Prop:=
  aA (dN e) (dN f) (aA (dN d) (jR c) (bE (m=m) h h))
theorem bVQ(c:Int)(d f g:Nat)(m:MH)(h:PH):blZ c d f g m h=(VC cY rfA (bK 53 53 [(37,iv c),(11,xK d),(6,xK f),(7,xK g)] [] m h) (λe τ=>match e with|.normal=>wV τ (bK 53 53 [(12,iv c),(11,xK d),(6,xK f),(7,xK g)] [] m h) True|_=>False)):=bu
def SM(d:Int)(t u z:Nat)(m:MH)(h:PH)(N T:MH->PH->Prop):Prop:=
  sP m h t 0 (λy=>gE (λc E=>aA (sK m t (fC c E 0)) (fE 0 c) (∀(e:MH),bL m e t (jC (fB (iJ (y+1))) 1 c) E->sP e h t 0 (λA=>cH (decide (A>24)) (gE (λf E1=>aA (sK e u (fC f E1 0)) (fE 0 f) (∀(g:MH),bL e g u (jC sJ 1 f) E1->gE (λj E2=>aA (sK g z (fC j E2 0)) (fE 0 j) (∀(n:MH),bL g n z (jC (fB 2) 1 j) E2->T n h))))) (decide (d>8)) (gE (λf E1=>aA (sK e u (fC f E1 0)) (fE 0 f) (∀(g:MH),bL e g u (jC sJ 1 f) E1->gE (λj E2=>aA (sK g z (fC j E2 0)) (fE 0 j) (∀(n:MH),bL g n z (jC (fB 2) 1 j) E2->T n h))))) (N e h)))))
theorem bUZ(c:Int)(d f g:Nat)(m:MH)(h:PH)(N T:MH->PH->Prop):SM c d f g m h N T=(VC cY rfB (bK 53 53 [(12,iv c),(11,xK d),(6,xK f),(7,xK g)] [] m h) (λe τ=>match e with|.normal=>N τ.m τ.h|.ret=>T τ.m τ.h|_=>False)):=bu
abbrev F3:Prop:=eQ (oQ 33 (vH LV))
abbrev DO(a:Nat):Prop:=eQ (oQ a (vH pX))
attribute [push_cast] F3 DO
def aa(sc:bW)(p:Sl)(v:QV)(m:MH)(h:PH)(G:Prop)(K:dk):Prop:=
  IJ sc h (λs=>K (CV.tup (bA nK (fA s))) m h) (kX (λI x=>aA (I x) (aG p) (aA cA dC (aA (eP 6) (eP 7) (aA (aG p) (a7 p) (aA (aY x) (bM sc) (aA (cG v) F3 (bG (DO 54) (m=m) (h=h)))))))) (λI d x=>I x->aR (↑x:Int) (aH p) (eU p.a 0 (↑x:Int) p (λb o y=>aK m h b (bC o x 1) (cO y)/\gR (y !=3) (gR (y !=4) (gR (y !=5) (K (CV.tup (bA nK 1)) m h) (λc=>aA (I c) (d c<d x) (aA (aG p) cA (aA dC (eP 6) (aA (eP 7) (aG p) (aA (a7 p) (aU (aW x 1) c) (aA (bM sc) (cG v) (aA F3 (DO 54) (aA (m=m) (h=h) True))))))))) (λc=>aA (I c) (d c<d x) (aA (aG p) cA (aA dC (eP 6) (aA (eP 7) (aG p) (aA (a7 p) (aU (aW x 1) c) (aA (bM sc) (cG v) (aA F3
 (DO 54) (aA (m=m) (h=h) True))))))))) (λc=>aA (I c) (d c<d x) (aA (aG p) cA (aA dC (eP 6) (aA (eP 7) (aG p) (aA (a7 p) (aU (aW x 1) c) (aA (bM sc) (cG v) (aA F3 (DO 54) (aA (m=m) (h=h) True)))))))))) (∃(f:QV),mD (uK v f) (λb=>∀(g:MH),aT (dZ m h b) (bL m g b f.enc 38) (G/\∃(e:Nat)(j:MH),aA (dZ m h e) (bL m j e v.enc 38) (aA (aG p) cA (aA dC (eP 6) (aA (eP 7) (eP 11) (aA (Je (Fn.func 172) (Dm b)=Je (Fn.func 172) (Dm e)) (bM sc) (aA (cG v) F3 (aA (DO 54) (DO 3) (aA (g=j) (h=h) True))))))))))))
theorem ba(sc:bW)(p:Sl)(v:QV)(m:MH)(h:PH)(G:Prop)(K:dk):aa sc p v m h G K=(VC (f57_ctx sc p v m h) (LI 4 (cL Tryz.f57)) (entry 53 [aS sc,cS p,aQ v] m h) (thenS (U3 sc p v m h G) (f57Qr sc p v m h K))):=bu
def ag(N:Nat)(sc:bW)(p:Sl)(v:QV)(m:MH)(h:PH)(K:dk):Prop:=
  Ix sc p v h (λd s c q=>aA (bR h q d) (lX q N) (E5 h (bZ s c q) (λe f=>K (CV.tup (dW e (CV.val (fB (bZ s c q).2)))) m f)))
theorem bd(N:Nat)(sc:bW)(p:Sl)(v:QV)(m:MH)(h:PH)(K:dk):ag N sc p v m h K=(Bx (dG [(98,A3 N)] [] [] [] false) Tryz.f57 (BI 5 (cL Tryz.f57)) (tY sc p v 0 m h) K):=bu
def ah(sc:bW)(p:Sl)(v:QV)(m:MH)(h:PH)(K:dk):Prop:=
  K (CV.tup (bA nK 2)) m h
theorem be(sc:bW)(p:Sl)(v:QV)(m:MH)(h:PH)(K:dk):ah sc p v m h K=(CI cY Tryz.f57 K (tY sc p v 2 m h)):=bu
theorem acX:BI 1 (Jn (BI 4 (cL Tryz.f57)))= .block 2 (.rangeFunc (.tmp 36) #[37,38] rfA rfB):=bu
theorem awX:BI 4 (cL Tryz.f57)= .seq (Jn (BI 4 (cL Tryz.f57))) (BI 5 (cL Tryz.f57)):=bu
theorem aaZ:kI cY rfA=true:=bu
theorem aaX:kI cY rfB=true:=bu
theorem bUJ{d:Int}{l:Nat}{R:LR}{n:Int}{z:MH}{N T:MH->PH->Prop}(F:xX m l R n)(h0:0<=n)(h1:n<=24){ob:Obj}(j:gI m z l ob)
 (V:∀m',¬(24<n+1\/8<d)->gI z m' R.bn (sC (n+1))->N m' h)
 (W:∀m',(24<n+1\/8<d)->m' l=some ob->m' R.b6=some G6->m' R.b7=some (FC 2)->(∃x,m' R.bn=some x)->(∀b,b≠l->b≠R.bn->b≠R.b6->b≠R.b7->m' b=m b)->T m' h):SM d R.bn R.b6 R.b7 z h N T:=by
 dsimp only[SM,push_cast];obtain⟨L,M,O,P,Q,S⟩:=F.ne;have A:z R.bn=some (sC n):=by rw[j.other _ (λe=>L e.symm)];exact F.n_
 have X:IntKind.i64.wrap (n+1)=n+1:=dR aC aC;refine⟨n,.of_m A rfl,_,_,⟨A⟩,bx,λu c=>?_⟩;rw[X]at c;have c:gI z u R.bn (sC (n+1)):=c;have Y:u R.b6=some G6:=by rw[c.other _ P,j.other _ (λe=>M e.symm)];exact F.k_
 have Z:u R.b7=some (FC 0):=by rw[c.other _ Q,j.other _ (λe=>O e.symm)];exact F.e_
 have t:(24<n+1\/8<d)->∃(y:Array Value)(E:TypeId),sK u R.b6 (.cells y E (0,0))/\0<y.size/\∀m',gI u m' R.b6 (.cells ⟨Value.slice none 0 0::y.toList.drop 1⟩ E (0,0))->∃(y:Array Value)(E:TypeId),sK m' R.b7 (.cells y E (0,0))/\0<y.size/\∀D,gI m' D R.b7 (.cells ⟨Value.int .i64 2::y.toList.drop 1⟩ E (0,0))->T D h:=by
  intro G;refine⟨_,_,⟨Y⟩,bx,λH f=>?_⟩;have f:gI u H R.b6 G6:=f;have I:H R.b7=some (FC 0):=by rw[f.other _ (λe=>S e.symm)];exact Z
  refine⟨_,_,⟨I⟩,bx,λU g=>?_⟩;have g:gI H U R.b7 (FC 2):=g;refine W U G ?_ ?_ g.at_ ⟨sC (n+1),?_⟩ (λb b1 b2 b3 b4=>?_)
  .rw[g.other _ O,f.other _ M,c.other _ L];exact j.at_
  .rw[g.other _ S];exact f.at_
  .rw[g.other _ (λe=>Q e.symm),f.other _ (λe=>P e.symm)];exact c.at_
  .rw[g.other _ b4,f.other _ b3,c.other _ b2,j.other _ b1]
 refine⟨n+1,.of_m c.at_ rfl,aE (λG=>t aC) (λG=>aE (λJ=>t aC) (λJ=>V u aC c))⟩
end Go.Ps
namespace Go.Vc
open Go.Ps Go.Proofs List
theorem vN.framed{w:World}{m:MH}{h:PH}{m':MH}{h':PH}{w':World}{ds:List Deferred}(c:vN ⟨w,λb=>m b≠none,h,ds⟩ m' h' w'):O6 w m h m' h' w':=
 ⟨c.tape,c.os,c.output,c.drawn,c.size,λb d f=>c.frame b d (λe=>e f),⟨c.hsat,c.msat,c.disj⟩,⟨c.hle⟩,λb d f=>c.hold b d (λe=>e f),λb o d=>c.mfr b o d⟩
end Go.Vc
namespace Go.Ps
open Go Go.Vc Go.Proofs List Tryz
variable{K:dk}{m:MH}{h:PH}{s:oL}{ps:dm}{cb:Nat}{sc:bW}{v:QV}{q:Query}{p:Pred}{l:dm}{i:Nat}{N:Nat}{m':MH}{h':PH}{co:dm}{gr:dm}{od:dr}{w:Pred}{ta:Int}{li:Int}{xs:List dj}{sz:Nat}{ks:List dm}{rs:dm}{r:Sl}{a:dm}{b:Nat}
theorem avQ:La Tryz.prog YS:=by
 refine⟨λl vs m h w K hS hH=>?_⟩;obtain⟨f,c,v,R,n,he,F,h0,h1,hf,ht⟩:=hS
 obtain⟨rfl,rfl⟩:f=l/\vs=[.int .i64 c,.agg ⟨v.enc⟩]:=by
  simp only[yv,cI,aQ,List.cons.injEq,CV.val.injEq,Value.func.injEq,Fn.yield.injEq,and_true]at he;refine⟨he.1.symm,?_⟩;have:=he.2
  match vs,this with
  |[a,b],h=>grind
  |[],h=>simp at h
  |[_],h=>simp at h
  |_::_::_::_,h=>simp at h
 have hl:=hH.msat f _ F.loop;have W:=run_yield (P:=Tryz.prog) (args:= #[.int .i64 c,.agg ⟨v.enc⟩]) hl rfl;refine⟨_,_,_,_,W,roundIn_of_wpIn trivial ?_⟩;obtain⟨J,X⟩:∃J,((pI R .ready none).params.zip #[Value.int .i64 c,.agg ⟨v.enc⟩]).foldl (λtmps(t,a)=>tmps.setIfInBounds t a) (pI R .ready none).tmps=J:=⟨_,rfl⟩
 rw[X];have Y:J=(R.tmps.setIfInBounds 37 (.int .i64 c)).setIfInBounds 38 (.agg ⟨v.enc⟩):=by rw[<-X];simp[pI]
 have a6:J.size=53:=by rw[Y];simp[F.size]
 have get:∀j,j≠37->j≠38->J[j]? =R.tmps[j]? :=λj h1 h2=>by
  grind
 have L:J[37]? =some (.int .i64 c):=by
  grind
 have hM:aJ ⟨w,λb=>m b≠none,h,[]⟩ (λ_=>.slice none 0 0) (bK 53 53 [(37,iv c),(11,xK R.bn),(6,xK R.b6),(7,xK R.b7)] [] m h) {tmps:=J,defers:=[]} w:=by
  refine⟨?_,rfl,?_,?_,?_,?_,λ_=>rfl⟩
  .show DenS _ (tV (.at .junk) [(37,iv c),(11,xK R.bn),(6,xK R.b6),(7,xK R.b7)] 53 0) J.toList;refine KZ 53 0 _ _ aC (λj x u z g=>?_);rw[dd]at g;simp only[assoc,Nat.zero_add]at z;split at z
   .rename_i e;have:=da e;subst this;rw[L]at g;simp at z g;subst z g;rfl
   .split at z
    .rename_i e;have:=da e;subst this;rw[get 11 aC aC,F.t11]at g;simp at z g;subst z g;rfl
    .split at z
     .rename_i e;have:=da e;subst this;rw[get 6 aC aC,F.t6]at g;simp at z g;subst z g;rfl
     .split at z
      .rename_i e;have:=da e;subst this;rw[get 7 aC aC,F.t7]at g;simp at z g;subst z g;rfl
      .cases z
  .intro k o Z;rw[jI]at Z;have:(bK 53 53 [(37,iv c),(11,xK R.bn),(6,xK R.b6),(7,xK R.b7)] [] m h).own=replicate 53 none:=by rfl
   grind
  .intro k k' o o' b Z;rw[jI]at Z;have:(bK 53 53 [(37,iv c),(11,xK R.bn),(6,xK R.b6),(7,xK R.b7)] [] m h).own=replicate 53 none:=by rfl
   grind
  .intro k o b Z;rw[jI]at Z;have:(bK 53 53 [(37,iv c),(11,xK R.bn),(6,xK R.b6),(7,xK R.b7)] [] m h).own=replicate 53 none:=by rfl
   grind
  .exact⟨rfl,rfl,rfl,Nat.le_refl _,Nat.le_refl _,λ_ _ _=>rfl,hH.hsat,hH.msat,hH.disj,λ_ _ _ e=>e,λ_ _ _=>rfl,λb o G=>.inr (by show m b≠none;rw[show m b=some o from G];simp)⟩
 have hA:=Pw (C:=cY) f aF rfA aaZ _ _ _ _ _ hM (by
  rw[<-bVQ c R.bn R.b6 R.b7 m h];exact MT)
 refine wpIn_mono hA ?_;intro e a1 w1 V;cases e with
 |normal=>
  obtain⟨ι1,τ,a0,a3⟩:=V;obtain⟨ι2,a',_⟩:=lA a0 a3;have a4:w1.heap[f]? =some (.loop (pI R .ready none)):=a'.wrel.msat f _ F.loop;refine⟨_,run_beginRound a4 rfl,?_⟩;obtain⟨M,H⟩:∃M,gI m M f (.loop {pI R .ready none with state:=.busy}):=⟨λb=>if b=f then some (.loop {pI R .ready none with state:=.busy})else m b,bx,λb G=>by simp[G]⟩
  have a5:aJ ⟨w,λb=>m b≠none,h,[]⟩ ι2 (bK 53 53 [(12,iv c),(11,xK R.bn),(6,xK R.b6),(7,xK R.b7)] [] M h) a1 _:=a'.putM (m':=M) F.loop H
  have hB:=Pw (C:=cY) f aF rfB aaX _ (λe τ=>match e with
   |.normal=>(∃m',τ.m=m'/\τ.h=h/\¬(24<n+1\/8<c)/\gI M m' R.bn (sC (n+1)))
   |.ret=>(∃m',τ.m=m'/\τ.h=h/\(24<n+1\/8<c)/\m' f=some (.loop {pI R .ready none with state:=.busy})/\m' R.b6=some G6/\m' R.b7=some (FC 2)/\(∃x,m' R.bn=some x)/\(∀b,b≠f->b≠R.bn->b≠R.b6->b≠R.b7->m' b=m b))
   |_=>False) _ _ _ a5 (by
   rw[<-bUZ c R.bn R.b6 R.b7 M h (λm2 h2=>∃m',m2=m'/\h2=h/\¬(24<n+1\/8<c)/\gI M m' R.bn (sC (n+1))) (λm2 h2=>∃m',m2=m'/\h2=h/\(24<n+1\/8<c)/\m' f=some (.loop {pI R .ready none with state:=.busy})/\m' R.b6=some G6/\m' R.b7=some (FC 2)/\(∃x,m' R.bn=some x)/\(∀b,b≠f->b≠R.bn->b≠R.b6->b≠R.b7->m' b=m b))];exact bUJ F h0 h1 H (λm' O g=>⟨m',rfl,rfl,O,g⟩) (λm' O k1 k2 k3 k4 k5=>⟨m',rfl,rfl,O,k1,k2,k3,k4,k5⟩))
  refine wpIn_mono hB ?_;obtain⟨n1,n2,n3,n4,n5,n6⟩:=F.ne;intro e a2 w2 A;cases e with
  |normal=>
   obtain⟨ι3,Q,D,m',y,S,O,g⟩:=A;have E:Q.m f=some (.loop {pI R .ready none with state:=.busy}):=by rw[y,g.other _ n1];exact H.at_
   have T:=D.wrel.msat f _ E;obtain⟨I,d⟩:∃I,gI Q.m I f (.loop (pI R .ready none)):=⟨λb=>if b=f then some (.loop (pI R .ready none))else Q.m b,bx,λb G=>by simp[G]⟩
   have U:=D.putM E d;refine⟨_,_,run_endRound none T,_,I,h,rfl,ht I O ⟨?_,λb G=>?_⟩,?_⟩
   .rw[d.other _ (λe=>n1 e.symm),y];exact g.at_
   .by_cases e:b=f
    .subst e;rw[d.at_];exact F.loop.symm
    .rw[d.other _ e,y,g.other _ G,H.other _ e]
   .have:=U.wrel;rw[S]at this;exact this.framed
  |ret=>
   obtain⟨ι3,Q,D,m',y,S,O,k1,k2,k3,k4,k5⟩:=A;have E:Q.m f=some (.loop {pI R .ready none with state:=.busy}):=cg
   have T:=D.wrel.msat f _ E;obtain⟨I,d⟩:∃I,gI Q.m I f (.loop (pI R .done (some .ret))):=⟨λb=>if b=f then some (.loop (pI R .done (some .ret)))else Q.m b,bx,λb G=>by simp[G]⟩
   have U:=D.putM E d;refine⟨_,_,run_endRound (some .ret) T,_,I,h,rfl,hf I O ⟨d.at_,?_,?_,?_,λb b1 b2 b3 b4=>?_⟩,?_⟩
   .rw[d.other _ (λe=>n2 e.symm),y];exact k2
   .rw[d.other _ (λe=>n3 e.symm),y];exact k3
   .rw[d.other _ (λe=>n1 e.symm),y];exact k4
   .rw[d.other _ b1,y];grind
   .have:=U.wrel;rw[S]at this;exact this.framed
  |exit id=>obtain⟨_,_,_,h⟩:=A;exact h.elim
  |goto t=>exact A.elim
  |panic ch=>exact A.elim
  |outgrown=>exact A.elim
 |ret=>obtain⟨_,_,_,h⟩:=V;exact h.elim
 |exit id=>obtain⟨_,_,_,h⟩:=V;exact h.elim
 |goto t=>exact V.elim
 |panic ch=>exact V.elim
 |outgrown=>exact V.elim
theorem bf{p:Sl}{G:Prop}(y:iP h s sc)(n:Ints h p ps)(g:KR K m h (fR s ps q))(z:fA s=0->ps.all eM=true->G):aa sc p v m h G K:=by
 dsimp only[aa,push_cast];have A:=n.slen;have t:=n.len;unfold fR at g;refine⟨sc,s,rfl,y,aB (λj=>g.err (.refl _) (if_neg cg)) (λj=>?_)⟩;have j:fA s=0:=cg
 rw[if_pos j]at g;refine⟨λi=>i<=ps.length/\(ps.take i).all eM=true,λi=>ps.length-i,⟨0,⟨aC,bx⟩,MT⟩,λi⟨M,d⟩=>aE (λf=>?_) (λD=>⟨v,rfl,λb m' E F=>⟨z j ?_,b,m',E,F,MT⟩⟩)⟩
 .obtain⟨x,u⟩:=eN A f;obtain⟨b,o,e,r⟩:=n.at' u;refine⟨b,o,e,aC,f,x,.imm r,?_⟩;have c:eM x=true->(ps.take (i+1)).all eM=true:=λH=>by rw[BB u,d,H];rfl
  refine aB (λI=>aB (λJ=>aB (λL=>g.err (.refl _) (if_neg λe=>?_)) (λL=>⟨i+1,⟨aC,c ?_⟩,cg,MT⟩)) (λJ=>⟨i+1,⟨aC,c ?_⟩,cg,MT⟩)) (λI=>⟨i+1,⟨aC,c ?_⟩,cg,MT⟩)
  .have:eM x=false:=by simp_all [eM]
   grind
  .simp_all [eM]
  .simp_all [eM]
  .simp_all [eM]
 grind
theorem Uh{α:Type}(d:α)(l:List (Nat×α)):∀(n i k:Nat),nth (tV d l n i) k=if k<n then some (match assoc l (i+k)with|some x=>x|none=>d)else none
 |0,i,k=>by simp[tV,nth]
 |n+1,i,0=>by rw[if_pos aC];rfl
 |n+1,i,k+1=>by
  simp only[tV,nth];rw[Uh d l n (i+1) k,show i+1+k=i+(k+1)by omega]
  grind
theorem HI{p:Sl}{e:Int}{k:Nat}{o:Vc.Own}(c:nth (tY sc p v e m h).own k=some (some o)):
 (k=3/\o= .cells 43 (sc.enc.map .val))\/(k=5/\o= .cells 38 (v.enc.map .val))\/(k=6/\o= .cells 33 [.val (.slice none 0 0)])\/(k=7/\o= .cells 54 [.val (.int .i64 e)]):=by
 have:(tY sc p v e m h).own=tV none [(3,some (.cells 43 (sc.enc.map .val))),(5,some (.cells 38 (v.enc.map .val))),(6,some (.cells 33 [.val (.slice none 0 0)])),(7,some (.cells 54 [.val (.int .i64 e)]))] 56 0:=rfl;rw[this,Uh]at c;split at c
 .simp only[Nat.zero_add,cw]at c;split at c
  .rename_i x d;subst c;simp only[assoc]at d;split at d
   .rename_i e;have:=da e;grind
   .split at d
    .rename_i e;have:=da e;grind
    .split at d
     .rename_i e;have:=da e;grind
     .split at d
      .rename_i e;have:=da e;grind
      .cases d
  .cases c
 .cases c
def mark(D:Nat):Deferred:={target:=.collected D,args:= #[]}
theorem EX{B:qE}{ι:dv}{σ:St}{a:Act}{w:World}(d:aJ B ι σ a w){k T:Nat}{l:dj}(e:nth σ.own k=some (some (.cells T (l.map .val)))):∃b,ι k= .pointer (some ⟨b,0,none⟩)/\w.heap[b]? =some (.cells ⟨l⟩ T (0,0)):=by
 obtain⟨b,j,f,g,c⟩:=vF d e;rw[iK.vals]at c;refine⟨b,f,?_⟩;rw[g, <-c]
theorem Nh{B:qE}{ι:dv}{σ:St}{a:Act}{w:World}(c:aJ B ι σ a w){t k:Nat}(d:σ.sl[t]? =some (.at (.ptr k 0)))(e:ι k= .pointer (some ⟨b,0,none⟩)):a.tmps[t]? =some (.pointer (some ⟨b,0,none⟩)):=by
 obtain⟨v,f,g,j,n⟩:=c.slots.get t _ d
 grind
theorem ayJ{B:qE}{ι:dv}{a:Act}{w:World}{p:Sl}{z:Nat}(A:aJ B ι (Dc sc p v z m' h) a w)(e2:B.dfs=[])(c2:dZ m h z)(a0:gI m m' z (.cells ⟨v.enc⟩ 38 (0,0)))(hq:bR h q v){Q:Exit->Act->World->Prop}
 (e3:∀(e:Int)(D:Nat)(E:Nat->Prop)(a':Act)(w':World),aJ ⟨w',E,h,[mark D]⟩ ι (tY sc p v e m h) a' w'->vN B m h w'->(∀b,E b->B.w0.heap.size<=b\/B.E b)->B.w0.heap.size<=D->w'.heap[D]? =some (.deferred (some []))->¬E D->
  ((vJ q 8 0).1=true->e=0->Q .normal a' w')/\((vJ q 8 0).1=false->e=2->Q .ret a' w')):
 (Code.rangeFunc (.tmp 36) #[37,38] rfA rfB).wp Tryz.prog Q a w:=by
 have I:=A.wrel;obtain⟨b3,c3,c4⟩:=EX A (k:=3) (T:=43) (l:=sc.enc) rfl;obtain⟨b5,c5,c6⟩:=EX A (k:=5) (T:=38) (l:=v.enc) rfl;obtain⟨L,a4,c7⟩:=EX A (k:=6) (T:=33) (l:=[.slice none 0 0]) rfl;obtain⟨M,a5,c8⟩:=EX A (k:=7) (T:=54) (l:=[.int .i64 0]) rfl;obtain⟨bn,c9,d'⟩:=EX A (k:=11) (T:=3) (l:=[.int .i64 0]) rfl;have e4:=Nh A (t:=11) (k:=11) rfl c9;have t6:=Nh A (t:=6) (k:=6) rfl a4;have t7:=Nh A (t:=7) (k:=7) rfl a5;have e5:a.tmps.size=53:=by have:=A.slots.length;rw[Array.length_toList]at this;rw[<-this];rfl
 have e6:a.eval (.tmp 36)= .func (.func 172) #[] #[.pointer (some ⟨z,0,none⟩)]:=A.ev (.tmp 36);have a6:w.heap[z]? =some (.cells ⟨v.enc⟩ 38 (0,0)):=I.msat z _ a0.at_;have e7:=(Array.getElem?_eq_some_iff.1 c4).1;have e8:=(Array.getElem?_eq_some_iff.1 c6).1;have e9:=(Array.getElem?_eq_some_iff.1 c7).1;have f':=(Array.getElem?_eq_some_iff.1 c8).1;have f0:=(Array.getElem?_eq_some_iff.1 d').1;have h7:=(Array.getElem?_eq_some_iff.1 a6).1;have a9:=A.fresh 3 _ b3 rfl (by rw[c3];rfl);have b':=A.fresh 5 _ b5 rfl (by rw[c5];rfl);have O:=A.fresh 6 _ L rfl (by rw[a4];rfl);have f8:=A.fresh 7 _ M rfl (by rw[a5];rfl);have b0:=A.fresh 11 _ bn rfl (by rw[c9];rfl);have f1:b3≠L:=λe=>cg
 have f2:b3≠M:=λe=>cg
 have f3:b3≠bn:=λe=>cg
 have f4:b5≠L:=λe=>cg
 have f5:b5≠M:=λe=>cg
 have f6:b5≠bn:=λe=>cg
 have f7:L≠M:=λe=>cg
 have d0:L≠bn:=λe=>cg
 have d5:M≠bn:=λe=>cg
 have Y:∀b,m' b=none->b≠z:=λb f e=>by rw[e,a0.at_]at f;cases f
 have q3:=Y b3 a9.2.1;have q5:=Y b5 b'.2.1;have q6:=Y L O.2.1;have q7:=Y M f8.2.1;have qn:=Y bn b0.2.1;refine(wpIn_wide (n:=0)).1 (wpIn_rangeFunc ?_);intro fn h8;obtain⟨l,hl⟩:∃l,l=w.heap.size+1:=⟨_,rfl⟩
 obtain⟨D,hD⟩:∃D,D=w.heap.size:=⟨_,rfl⟩
 let R:LR:=⟨fn,a.tmps,bn,L,M,D⟩
 obtain⟨W1,H⟩:∃W1,(w.alloc (.deferred (some []))).alloc (.loop (pI R .ready none))=W1:=⟨_,rfl⟩
 have s1:W1.heap.size=w.heap.size+2:=by rw[<-H];simp
 have a1:∀b,b<w.heap.size->W1.heap[b]? =w.heap[b]? :=λb f=>by
  rw[<-H,fK _ _ ce,fK _ _ f]
 have d6:W1.heap[D]? =some (.deferred (some [])):=by
  rw[<-H,hD,fK _ _ bx];exact j9 w _
 have h6:W1.heap[l]? =some (.loop (pI R .ready none)):=by
  rw[<-H,hl];have:=j9 (w.alloc (.deferred (some []))) (.loop (pI R .ready none))
  rwa [World.size_alloc]at this
 let J:MH:=λb=>if b=l then some (.loop (pI R .ready none))else if b=bn then some (sC 0)else if b=L then some G6 else if b=M then some (FC 0)else if b=z then some (.cells ⟨v.enc⟩ 38 (0,0))else none
 have d7:J l=some (.loop (pI R .ready none)):=by simp[J]
 have d8:J bn=some (sC 0):=(if_neg aC).trans (if_pos rfl);have b1:J L=some G6:=(if_neg aC).trans ((if_neg d0).trans (if_pos rfl));have b2:J M=some (FC 0):=(if_neg aC).trans ((if_neg d5).trans ((if_neg (Ne.symm f7)).trans (if_pos rfl)));have f9:J z=some (.cells ⟨v.enc⟩ 38 (0,0)):=(if_neg aC).trans ((if_neg (Ne.symm qn)).trans ((if_neg (Ne.symm q6)).trans ((if_neg (Ne.symm q7)).trans (if_pos rfl))));have a2:∀b,b≠l->b≠bn->b≠L->b≠M->b≠z->J b=none:=λb h1 h2 h3 h4 h5=>(if_neg h1).trans ((if_neg h2).trans ((if_neg h3).trans ((if_neg h4).trans (if_neg h5))))
 have d9:∀b o,J b=some o->b=l\/b=bn\/b=L\/b=M\/b=z:=λb o f=>by
  grind
 have b4:∀b i x,h b i=some x->b<w.heap.size:=λb i x g=>World.block_lt_of_cell? w ⟨b,i,none⟩ (I.hsat b i x g);have hL:xX J l R 0:=⟨d7,d8,b1,b2,e5,e4,t6,t7⟩
 have e':zD W1 J h [yv l,Yt z] [.func (.yield l) #[] #[],.pointer (some ⟨z,0,none⟩)]:=by
  refine⟨⟨rfl,rfl,trivial⟩,?_,?_,?_,?_,?_⟩
  .intro b i x g;rw[World.cell?_of_block (w:=w) (w':=W1) (a:=⟨b,i,none⟩) (a1 b (b4 b i x g))];exact I.hsat b i x g
  .intro b o f;rcases d9 b o f with rfl|rfl|rfl|rfl|rfl
   .grind
   .rw[d8]at f;cases f;rw[a1 _ f0];exact d'
   .rw[b1]at f;cases f;rw[a1 _ e9];exact c7
   .rw[b2]at f;cases f;rw[a1 _ f'];exact c8
   grind
  .intro b o f i;rcases d9 b o f with rfl|rfl|rfl|rfl|rfl
   .cases e:h b i with
    |none=>rfl
    |some x=>grind
   .exact b0.2.2 i
   .exact O.2.2 i
   .exact f8.2.2 i
   .exact c2.h_ i
  .intro i j c d u u' b F hu hj hv f
   have:∃x,c= .val x:=by
    match i,F with
    |0,F=>simp[yv]at F;grind
    |1,F=>simp[Yt]at F;grind
    |_+2,F=>simp at F
   obtain⟨x,rfl⟩:=this;simp[gK]at f
  .intro i c u b F hu f
   have:∃x,c= .val x:=by
    match i,F with
    |0,F=>simp[yv]at F;grind
    |1,F=>simp[Yt]at F;grind
    |_+2,F=>simp at F
   obtain⟨x,rfl⟩:=this;simp[gK]at f
 have b8:=(X0 avQ).2 [yv l,Yt z] [.func (.yield l) #[] #[],.pointer (some ⟨z,0,none⟩)] J h W1 (λ_ mm hh=>hh=h/\(((vJ q 8 0).1=false/\zC J mm l R)\/((vJ q 8 0).1=true/\∃n,gI J mm bn (sC n))))
  ⟨v,q,l,z,R,rfl,f9,hq,hL,λmm hv hs=>⟨rfl,.inl ⟨hv,hs⟩⟩,λmm hv hu=>⟨rfl,.inr ⟨hv,_,hu⟩⟩⟩ e'
 have b9:(Instr.enterLoop fn a.tmps #[37,38] rfA rfB Fence.wide.round).run Tryz.prog w= .ok (l,[mark D]) W1:=by
  subst hD hl;rw[<-H];exact run_enterLoop_outer _ _ _ _ _
 refine⟨l,[mark D],W1,{target:=.fn (.func 172) #[.pointer (some ⟨z,0,none⟩)],args:= #[.func (.yield l) #[] #[]]},W1,172, #[.func (.yield l) #[] #[],.pointer (some ⟨z,0,none⟩)],W1,b9,?_,λ_ _=>trivial,?_,λe=>by simp[Fence.wide]at e,callsIn_wide.2 ?_⟩
 .simp only[resolve,rangeCall,e6];simp[go_sem]
 .have hf:Tryz.prog.funcs[172]? =some Tryz.f172:=func172;have g':¬Tryz.f172.body=none:=by intro e;have:Tryz.f172.body=some (cL Tryz.f172):=rfl;grind
  have g0:¬Tryz.f172.name= "runtime.NumGoroutine" :=bz
  simp only[invoke,callFunc];simp[program,Sem.run,hf,g0,g']
 refine b8.mono ?_;rintro e P ⟨r,u,mm,hh,rfl,⟨c',e0⟩,h9,G,_⟩;have c':=c'.symm;subst c'
 have Z:∀b,J b=none->¬sI J [yv l,Yt z] [.func (.yield l) #[] #[],.pointer (some ⟨z,0,none⟩)] b:=by
  rintro b f (h1|⟨i,c,u,F,hu,hc⟩)
  .exact h1 f
  .have:∃x,c= .val x:=by
    match i,F with
    |0,F=>simp[yv]at F;grind
    |1,F=>simp[Yt]at F;grind
    |_+2,F=>simp at F
   obtain⟨x,rfl⟩:=this;simp[gK]at hc
 have c0:∀b,b<W1.heap.size->J b=none->P.heap[b]? =W1.heap[b]? :=λb f hn=>G.frame b f (Z b hn);have V:=G.size;have V:W1.heap.size<=P.heap.size:=V;obtain⟨n1,n2,n3,n4,n5,n6⟩:=hL.ne
 have key:∀(e:Int)(st:LoopState)(pe:Option Code),st≠ .busy->mm l=some (.loop (pI R st pe))->mm L=some G6->mm M=some (FC e)->
  (Instr.endLoop l).run Tryz.prog P= .ok pe (P.putObj l (.loop {pI R st pe with state:=.exhausted}))/\
  ((vJ q 8 0).1=true->e=0->Q .normal {a with defers:=[mark D]++a.defers} (P.putObj l (.loop {pI R st pe with state:=.exhausted})))/\
  ((vJ q 8 0).1=false->e=2->Q .ret {a with defers:=[mark D]++a.defers} (P.putObj l (.loop {pI R st pe with state:=.exhausted}))):=by
  intro e st pe g4 kl k6 k7;have g5:=G.msat l _ kl;refine⟨run_endLoop g5 g4,?_⟩;obtain⟨W,S⟩:∃W,P.putObj l (.loop {pI R st pe with state:=.exhausted})=W:=⟨_,rfl⟩
  rw[S];have a3:∀b,b≠l->W.heap[b]? =P.heap[b]? :=λb f=>by rw[<-S];exact World.putObj_heap_other (λe=>f e)
  have s4:W.heap.size=P.heap.size:=by rw[<-S];simp
  have X:∀b,b<w.heap.size->J b=none->W.heap[b]? =w.heap[b]? :=λb f hn=>by
   grind
  have U:∀b o,m b=some o->J b=none/\b<w.heap.size/\m' b=some o:=λb o f=>by
   have a6:b≠z:=λe=>by rw[e,c2.m_]at f;cases f
   have c1:m' b=some o:=by rw[a0.other b a6];exact f
   have i':=(Array.getElem?_eq_some_iff.1 (I.msat b o c1)).1
   have ne:∀c,(Dc sc p v z m' h).m c=none->b≠c:=λc hc e=>by
    have hc:m' c=none:=hc
    grind
   grind
  have e1:∀b i x,h b i=some x->W.cell? ⟨b,i,none⟩=some x:=λb i x g=>by
   have f:b≠l:=λe=>cg
   rw[World.cell?_of_block (w:=P) (w':=W) (a:=⟨b,i,none⟩) (a3 b f)];exact G.hsat b i x g
  have wr:vN B m h W:=by
   refine⟨?_,?_,?_,?_,?_,?_,e1,?_,?_,I.hle,I.hold,?_⟩
   .have:W.tape=P.tape:=by rw[<-S];rfl
    rw[this,G.tape];show W1.tape=_;rw[<-H];exact I.tape
   .have:W.os=P.os:=by rw[<-S];rfl
    rw[this,G.os];show W1.os=_;rw[<-H];exact I.os
   .have:W.output=P.output:=by rw[<-S];rfl
    rw[this,G.output];show W1.output=_;rw[<-H];exact I.output
   .have d4:W.drawn=P.drawn:=by rw[<-S];rfl
    have d3:W1.drawn<=P.drawn:=G.drawn;have d2:W1.drawn=w.drawn:=by rw[<-H];rfl
    have d1:B.w0.drawn<=w.drawn:=I.drawn;omega
   .have:=I.size;omega
   .intro b f g6;have g7:b<w.heap.size:=dh f I.size
    have ne:∀c,(B.w0.heap.size<=c\/B.E c)->b≠c:=λc hc e=>by
     grind
    rw[X b g7 (a2 b aC (ne _ b0.1) (ne _ O.1) (ne _ f8.1) (ne _ (I.mfr z _ a0.at_)))];exact I.frame b f g6
   .intro b o f;obtain⟨k1,k2,k3⟩:=U b o f;rw[X b k2 k1];exact I.msat b o k3
   .intro b o f i;exact I.disj b o (U b o f).2.2 i
   .intro b o f;exact I.mfr b o (U b o f).2.2
  have g8:W.heap[D]? =some (.deferred (some [])):=by
   rw[a3 D aC,c0 D aC (a2 D aC aC aC aC aC)];exact d6
  refine e3 e D (λb=>m b≠none\/∃k o,nth (Dc sc p v z m' h).own k=some (some o)/\blk (ι k)=some b) {a with defers:=[mark D]++a.defers} W ⟨?_,?_,?_,?_,?_,?_,A.one⟩ wr ?_ ?_ g8 ?_
  .show DenS ι (tV (.at .junk) [(1,sv p),(3,.at (.ptr 3 0)),(5,.at (.ptr 5 0)),(6,.at (.ptr 6 0)),(7,.at (.ptr 7 0))] 53 0) a.tmps.toList;refine KZ 53 0 _ _ aC (λj x u g hu=>?_)
   have get:∀(t:Nat)(y:SV),(Dc sc p v z m' h).sl[t]? =some y->t=j->Den ι y u:=λt y ht e=>by
    obtain⟨v',i0,i1⟩:=A.slots.get t y ht
    grind
   simp only[assoc,Nat.zero_add]at g;split at g
   .rename_i e;simp at g;subst g;exact get 1 _ rfl (da e)
   .split at g
    .rename_i e;simp at g;subst g;exact get 3 _ rfl (da e)
    .split at g
     .rename_i e;simp at g;subst g;exact get 5 _ rfl (da e)
     .split at g
      .rename_i e;simp at g;subst g;exact get 6 _ rfl (da e)
      .split at g
       .rename_i e;simp at g;subst g;exact get 7 _ rfl (da e)
       .cases g
  .show[mark D]++a.defers=[mark D]
   rw[A.defers,e2];rfl
  .intro k o hk;rcases HI hk with⟨rfl,rfl⟩|⟨rfl,rfl⟩|⟨rfl,rfl⟩|⟨rfl,rfl⟩
   .exact⟨b3,_,c3,by rw[X b3 e7 (a2 b3 aC f3 f1 f2 q3)];exact c4,iK.vals.2 rfl,λ_ e=>by cases e⟩
   .exact⟨b5,_,c5,by rw[X b5 e8 (a2 b5 aC f6 f4 f5 q5)];exact c6,iK.vals.2 rfl,λ_ e=>by cases e⟩
   .exact⟨L,_,a4,by rw[a3 L aC];exact G.msat L _ k6,iK.vals (l:=[.slice none 0 0]).2 rfl,λ_ e=>by cases e⟩
   .exact⟨M,_,a5,by rw[a3 M aC];exact G.msat M _ k7,iK.vals (l:=[.int .i64 e]).2 rfl,λ_ e=>by cases e⟩
  .have up:∀k o,nth (tY sc p v e m h).own k=some (some o)->∃o',nth (Dc sc p v z m' h).own k=some (some o'):=λk o hk=>by
    rcases HI hk with⟨rfl,rfl⟩|⟨rfl,rfl⟩|⟨rfl,rfl⟩|⟨rfl,rfl⟩<;>exact⟨_,rfl⟩
   intro k k' o o' b hk g9 f c1;obtain⟨x,g⟩:=up k o hk;obtain⟨x',h0⟩:=up k' o' g9;exact A.dist k k' x x' b g h0 f c1
  .have up:∀k o,nth (tY sc p v e m h).own k=some (some o)->∃o',nth (Dc sc p v z m' h).own k=some (some o'):=λk o hk=>by
    rcases HI hk with⟨rfl,rfl⟩|⟨rfl,rfl⟩|⟨rfl,rfl⟩|⟨rfl,rfl⟩<;>exact⟨_,rfl⟩
   intro k o b hk f;obtain⟨x,g⟩:=up k o hk;obtain⟨g1,g2,g3⟩:=A.fresh k x b g f;refine⟨.inr (.inr ⟨k,x,g,f⟩),?_,g3⟩;show m b=none;have g2:m' b=none:=g2;rw[<-a0.other b (Y b g2)];exact g2
  .exact⟨rfl,rfl,rfl,Nat.le_refl _,Nat.le_refl _,λ_ _ _=>rfl,e1,wr.msat,wr.disj,λ_ _ _ e=>e,λ_ _ _=>rfl,λb o f=>.inr (.inl (by rw[show m b=some o from f];simp))⟩
  .rintro b (h1|⟨k,o,hk,f⟩)
   .cases e:m b with
    |none=>grind
    |some o=>exact wr.mfr b o e
   .exact(A.fresh k o b hk f).1
  .rw[hD];exact I.size
  .rintro(h1|⟨k,o,hk,f⟩)
   .cases e:m D with
    |none=>exact h1 e
    |some o=>grind
   .have:=pB (A.own k o hk) f;omega
 rcases e0 with⟨hv,hs⟩|⟨hv,n,hu⟩
 .obtain⟨r1,_,r3⟩:=key 2 .done (some .ret) bx hs.loop hs.k_ hs.e_;exact⟨_,_,r1,wpIn_ret (r3 hv rfl)⟩
 .obtain⟨r1,r2,_⟩:=key 0 .ready none bx (by rw[hu.other l n1];exact d7) (by rw[hu.other L d0];exact b1) (by rw[hu.other M d5];exact b2);exact⟨_,_,r1,r2 hv rfl⟩
set_option maxRecDepth 100000 in
theorem bg:di 57 zR:=by
 refine⟨⟨Tryz.f57,func57,rfl,bz⟩,?_⟩;rintro b9 vs m h w K ⟨sc,p,v,s,ps,q,rfl,hs,hp,J,U⟩ a4;refine callsIn_wide.1 (callsIn_of_wp_marks (n:=0) func57 (show Tryz.f57.body=some (cL Tryz.f57)from rfl) trivial (wpIn_wide.2 ?_));have W:=Ei Tryz.f57.ntmps a4;have hn:Tryz.f57.ntmps=53:=bu
 rw[hn]at W⊢
 obtain⟨B,hB⟩:∃B:qE,B=⟨w,sI m [aS sc,cS p,aQ v] vs,h,[]⟩:=⟨_,rfl⟩
 rw[<-hB]at W;have a6:B.dfs=[]:=by rw[hB]
 have t:∀g S,assoc (f57_ctx sc p v m h).specs g=some S->Sound (f57_ctx sc p v m h).P g S:=aD Qb (aD ahX aF)
 have y:∀u A,(∃r m' h',K r m' h'/\C5 A r u/\vN B m' h' A/\∀b,gK r u=some b->(B.w0.heap.size<=b\/B.E b)/\m' b=none/\∀i,h' b i=none)->
  ∃r u' m' h',Ending.returned u= .returned u'/\K r m' h'/\C5 A r u'/\vN ⟨w,sI m [aS sc,cS p,aQ v] vs,h,[]⟩ m' h' A/\(∀b,gK r u'=some b->(w.heap.size<=b\/sI m [aS sc,cS p,aQ v] vs b)/\m' b=none/\∀i,h' b i=none):=by
  rintro u A ⟨r,m',h',X,h2,h3,h4⟩;subst hB;exact⟨r,u,m',h',rfl,X,h2,h3,h4⟩
 have hV:VC (f57_ctx sc p v m h) (LI 4 (cL Tryz.f57)) (entry 53 [aS sc,cS p,aQ v] m h) (thenS (U3 sc p v m h (fA s=0/\ps.all eM=true)) (f57Qr sc p v m h K)):=by
  rw[<-ba sc p v m h (fA s=0/\ps.all eM=true) K];exact bf hs hp U (λX h2=>⟨X,h2⟩)
 have key:=λR=>TD (C:=f57_ctx sc p v m h) (Q2:=U3 sc p v m h (fA s=0/\ps.all eM=true)) (Q:=f57Qr sc p v m h K) (R:=R) t rfl rfl 4 (cL Tryz.f57) _ _ _ _ W;generalize f:VC (f57_ctx sc p v m h) (LI 4 (cL Tryz.f57)) (entry 53 [aS sc,cS p,aQ v] m h) (thenS (U3 sc p v m h (fA s=0/\ps.all eM=true)) (f57Qr sc p v m h K))=V at hV key;clear f;refine key _ hV ?_ ?_
 .intro ι τ a1 w1 b3 X;unfold U3 at X;rw[awX];have L:=λR=>TD (C:=f57_ctx sc p v m h) (Q2:=Zl sc p v m h (fA s=0/\ps.all eM=true)) (Q:=λ_ _=>False) (R:=R) t rfl rfl 1 (Jn (BI 4 (cL Tryz.f57))) _ _ _ _ b3;generalize f:VC (f57_ctx sc p v m h) (LI 1 (Jn (BI 4 (cL Tryz.f57)))) τ (thenS (Zl sc p v m h (fA s=0/\ps.all eM=true)) (λ_ _=>False))=V at X L;clear f;refine wp_seq (L _ X ?_ ?_)
  .intro ι2 τ2 a2 w2 b4 h2;unfold Zl at h2;obtain⟨⟨g1,g2⟩,bq,m',b5,b6,b7⟩:=h2;obtain⟨ι3,b8,_⟩:=lA b4 b7;rw[acX];refine wp_block (ayJ b8 a6 b5 b6 J ?_);intro e D E a' A a9 b' hE hD b0 b1;have M:D<A.heap.size:=(Array.getElem?_eq_some_iff.1 b0).1
   have j:∀{C:Ctx},C.P=Tryz.prog->∀(ι5:dv)(Y:St)(Z:Act)(w5:World),aJ ⟨A,E,h,[mark D]⟩ ι5 Y Z w5->CI C Tryz.f57 K Y->∀{R:Ending->World->Prop},(∀u d,(∃r m' h',K r m' h'/\C5 d r u/\vN B m' h' d/\∀b,gK r u=some b->(B.w0.heap.size<=b\/B.E b)/\m' b=none/\∀i,h' b i=none)->R (.returned u) d)->LeavesInM Fence.wide 0 Tryz.prog Tryz.f57 Z.tmps R Z.defers .returning w5:=by
    intro C hC ι5 Y Z w5 F H R hR;rw[<-hC];refine Ww (C:=C) F rfl ?_ M b1 H (λu d=>?_)
    .rw[F.wrel.frame D M b1];exact b0
    .rintro⟨r,mf,hf,k1,k2,z,k4⟩
     have b2:∀b,(E b\/b=D)->B.w0.heap.size<=b\/B.E b:=by
      rintro b (e|rfl)
      .exact hE b e
      .exact .inl hD
     refine hR u d ⟨r,mf,hf,k1,k2,b'.trans (E:=λb=>E b\/b=D) ⟨z.tape,z.os,z.output,z.drawn,z.size,z.frame,z.hsat,z.msat,z.disj,z.hle,z.hold,z.mfr⟩ b2,λb hb=>?_⟩;obtain⟨j1,j2,j3⟩:=k4 b hb;refine⟨?_,j2,j3⟩;rcases j1 with j1|j1
     .exact .inl (dg b'.size j1)
     .exact b2 b j1
   refine⟨λhv he=>?_,λhv he=>?_⟩
   .subst he;show(BI 5 (cL Tryz.f57)).wp _ _ a' A;have a0:uQ q=true:=by rw[<-Pv];exact hv
    have ht:ag (SizeOf.sizeOf q+1) sc p v m h K:=by
     unfold fR at U;rw[if_pos g1,if_pos g2,if_pos a0]at U;exact⟨sc,p,v,s,ps,q,rfl,hs,PE g1,hp,J,aC,U⟩
    rw[bd]at ht;have O:=WD (C:=dG [(98,A3 (SizeOf.sizeOf q+1))] [] [] [] false) (fn:=Tryz.f57) (c:=BI 5 (cL Tryz.f57)) (K:=K) (aD (ahQ _) aF) a9;generalize f:Bx (dG [(98,A3 (SizeOf.sizeOf q+1))] [] [] [] false) Tryz.f57 (BI 5 (cL Tryz.f57)) (tY sc p v 0 m h) K=V at ht O;clear f;refine wp_mono (O ht) ?_;intro e Z w5 G;cases e with
    |normal=>
     obtain⟨ι5,Y,F,H⟩:=G;exact j rfl ι5 Y Z w5 F H (λu d hx=>y u d hx)
    |ret=>
     obtain⟨ι5,Y,F,H⟩:=G;exact j rfl ι5 Y Z w5 F H (λu d hx=>y u d hx)
    |exit id=>exact G.elim
    |goto l=>exact G.elim
    |panic ch=>exact G.elim
    |outgrown=>exact G.elim
   .subst he;have a0:¬uQ q=true:=by rw[<-Pv,hv];simp
    have H:ah sc p v m h K:=by
     unfold fR at U;rw[if_pos g1,if_pos g2,if_neg a0]at U;exact U.err (.refl _) rfl
    rw[be]at H;have T:=@j cY rfl ι3 (tY sc p v 2 m h) a' A a9;generalize f:CI cY Tryz.f57 K (tY sc p v 2 m h)=V at H T;clear f;exact T H (λu d hx=>y u d hx)
  .rintro e a w J a3;cases e with
   |normal=>exact(a3 rfl).elim
   |exit id=>obtain⟨_,_,_,h⟩:=J;exact h.elim
   |ret=>obtain⟨_,_,_,h⟩:=J;exact h.elim
   |goto l=>exact J.elim
   |panic ch=>exact J.elim
   |outgrown=>exact J.elim
 .rintro e a' A I a3;cases e with
  |normal=>exact(a3 rfl).elim
  |exit id=>
   obtain⟨_,_,_,h⟩:=I;simp only[f57Qr]at h
  |ret=>
   obtain⟨ι,σ,hM,H⟩:=I;simp only[f57Qr]at H;obtain⟨u,hu,r,m',h',k1,k2,z,k4⟩:=FO hM H;show LeavesInM Fence.wide 0 Tryz.prog Tryz.f57 a'.tmps _ a'.defers .returning A;rw[hM.defers,a6];exact⟨u,hu,y u A ⟨r,m',h',k1,k2,z,k4⟩⟩
  |goto l=>exact I.elim
  |panic ch=>exact I.elim
  |outgrown=>exact I.elim
end Go.Ps
