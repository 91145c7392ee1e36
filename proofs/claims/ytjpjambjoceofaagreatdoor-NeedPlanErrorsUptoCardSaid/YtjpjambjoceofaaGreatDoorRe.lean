/- Own work. -/
import Derived.RangeFuncLeaves
import Derived.RangeFuncCalls
import Derived.Test.YtjpjambjoceofaaGreatDoorRd
set_option linter.unusedVariables false
set_option linter.unusedSimpArgs false
namespace Go.Vc
open Go List
section
variable{B:tW}{C:Ctx}{ι:dc}{σ:St}{a:Act}{w:World}{o:Oper}{K:St->Prop}
theorem UB(h:Qp C o σ K):∀c,o.op≠ .defer c:=by
 intro c b;unfold Qp at h;rw[b]at h;unfold PR at h
 grind
theorem Wu(l:Nat){P:Program}{next:Act->World->Prop}{Q:Exit->Act->World->Prop}(e:∀c,o.op≠ .defer c)(h:o.wpIn Fence.wide 0 P a w next Q):o.wpIn (Fence.wide.inRound l) 0 P a w next Q:=by
 refine⟨λ_ _=>trivial,?_⟩;have b:o.uponIn Fence.wide 0 P a next Q ((execOp a.eval o).run P w):=h.2
 show o.uponIn (Fence.wide.inRound l) 0 P a next Q ((o.semAt (some l) a.eval).run P w)
 rw[Oper.semAt_eq _ _ _ e];cases d:(execOp a.eval o).run P w with
 |ok x f=>
  rw[d]at b;cases x<;>exact b
 |halt x f=>
  rw[d]at b;cases x<;>exact b
theorem NN(l:Nat)(b:∀g S,assoc C.specs g=some S->Sound C.P g S){ops:Array Oper}{Q:Exit->Act->World->Prop}{R:St->Prop}(r:∀ι σ a w,aK B ι σ a w->R σ->Q .normal a w):
 ∀(c:List Oper)(s:Nat)(ι:dc)(σ:St)(a:Act)(w:World),(∀j,c[j]? =ops.toList[s+j]?)->aK B ι σ a w->Qg C ops c σ R->wpOpsIn (Fence.wide.inRound l) 0 C.P ops Q (range' s c.length) a w
 |[],s,ι,σ,a,w,_,m,h=>r ι σ a w m h
 |o::c,s,ι,σ,a,w,t,m,h=>by
  have u:ops[s]? =some o:=by have:=t 0;grind
  simp only[ci,range'_succ,wpOpsIn,u]
  have next:∀n e f i,aK B n e f i->Qg C ops c e R->wpOpsIn (Fence.wide.inRound l) 0 C.P ops Q (range' (s+1) c.length) f i:=λn e f i v y=>
   NN l b r c (s+1) n e f i (λj=>by have:=t (j+1);grind) v y
  obtain⟨D,d,z,A⟩:=CW m h;rcases A with⟨p,h⟩|⟨p,h⟩
  .rw[if_pos p];exact Wu l (UB h) (Qo b d h _ Q next)
  .rw[if_neg (by simp[p])];exact⟨λ_ _=>trivial,next ι _ _ _ (d.put o.dst (x:=.at (.val undef)) rfl) h⟩
def kS(C:Ctx):Code->Bool
 |.skip=>true
 |.ret=>true
 |.exit _=>true
 |.region id _ d=> !d&&(NO C id).isEmpty
 |.seq x y=>(Z7 C y).isNone&&(Tv C y).isNone&&kS C x&&kS C y
 |.cond _ x y=>kS C x&&kS C y
 |.block _ c=>kS C c
 |_=>false
theorem Qa(l:Nat)(p:∀g S,assoc C.specs g=some S->Sound C.P g S):∀(c:Code),kS C c=true->∀(σ:St)(Q:Kr->St->Prop)(ι:dc)(a:Act)(w:World),aK B ι σ a w->VC C c σ Q->c.wpIn (Fence.wide.inRound l) 0 C.P (QD B Q) a w:=by
 intro c
 induction c with
 |skip=>intro _ σ Q ι a w d h;exact wpIn_skip ⟨ι,σ,d,h⟩
 |exit id=>intro _ σ Q ι a w d h;exact wpIn_exit ⟨ι,σ,d,h⟩
 |ret=>intro _ σ Q ι a w d h;exact wpIn_ret ⟨ι,σ,d,h⟩
 |label l=>intro b;simp[kS]at b
 |goto l=>intro b;simp[kS]at b
 |refuse M=>intro b;simp[kS]at b
 |scope z F=>intro b;simp[kS]at b
 |loop z F=>intro b;simp[kS]at b
 |rangeFunc f W x y r s=>intro b;simp[kS]at b
 |region id ops A=>
  intro b σ Q ι a w d h;cases A with
  |true=>simp[kS]at b
  |false=>
   have G:NO C id=[]:=by simpa[kS,isEmpty_iff]using b
   refine wpIn_region ?_;have h:Zy C ops (NO C id) ops.toList σ (Q .normal):=h;rw[G]at h;have:=NN l p (ops:=ops) (Q:=QD B Q) (R:=Q .normal) (λι σ a w d h=>⟨ι,σ,d,h⟩) ops.toList 0 ι σ a w (λj=>ay) d h;rw[range_eq_range'];omega
 |seq x y r s=>
  intro b σ Q ι a w d h;simp only[kS,bz,Option.isNone_iff_eq_none]at b;obtain⟨⟨⟨N,O⟩,T⟩,U⟩:=b;simp only[VC,N,O]at h;refine wpIn_seq (wpIn_mono (r T σ _ ι a w d h) ?_);intro e J L m;cases e with
  |normal=>
   obtain⟨D,E,u,v⟩:=m;exact s U E Q D J L u v
  |exit id=>exact m
  |ret=>exact m
  |goto l=>exact m
  |panic V=>exact m
  |outgrown=>exact m
 |cond c x y r s=>
  intro b σ Q ι a w d h;simp only[kS,bz]at b;simp only[VC]at h;split at h
  .rename_i t H;have n:=d.ev c;rw[H]at n;have n:a.eval c= .bool t:=n;rcases AL h with⟨rfl,h⟩|⟨rfl,h⟩
   .exact wpIn_cond_true n (r b.1 _ Q ι a w (d.setTmp H) h)
   .exact wpIn_cond_false n (s b.2 _ Q ι a w (d.setTmp H) h)
  grind
 |block id c F=>
  intro b σ Q ι a w d h;refine wpIn_block (wpIn_mono (F b σ _ ι a w d h) ?_);intro e J L m;cases e with
  |normal=>exact m
  |exit i=>
   obtain⟨D,E,u,v⟩:=m;show if i=id then _ else _
   simp only at v;split at v
   .rename_i I;rw[if_pos (ca I)];exact⟨D,E,u,v⟩
   .rename_i I;rw[if_neg (λe=>by subst e;simp at I)];exact⟨D,E,u,v⟩
  |ret=>exact m
  |goto l=>exact m
  |panic V=>exact m
  |outgrown=>exact m
def Mw:Nat->Code->Code
 |n+1,.seq x y=>.seq x (Mw n y)
 |_,_=>.skip
def Cn:Nat->Code->Code
 |n+1,.seq _ y=>Cn n y
 |_,c=>c
def thenS(Q2:St->Prop)(Q:Kr->St->Prop):Kr->St->Prop:=λe τ=>match e with|.normal=>Q2 τ|e=>Q e τ
theorem TZ(b:∀g S,assoc C.specs g=some S->Sound C.P g S)(t:C.cuts=[])(p:C.cuts2=[]){Q2:St->Prop}{Q:Kr->St->Prop}{R:Exit->Act->World->Prop}:
 ∀(n:Nat)(c:Code)(ι:dc)(σ:St)(a:Act)(w:World),aK B ι σ a w->VC C (Mw n c) σ (thenS Q2 Q)->
  (∀ι τ a w,aK B ι τ a w->Q2 τ->(Cn n c).wp C.P R a w)->(∀e a w,QD B Q e a w->e≠ .normal->R e a w)->c.wp C.P R a w:=by
 have f:∀y,Z7 C y=none:=λy=>by unfold Z7;split<;>simp[t,assoc]
 have i:∀y,Tv C y=none:=λy=>by unfold Tv;split<;>simp[p,assoc]
 intro n
 induction n with
 |zero=>intro c ι σ a w j h m _;exact m ι σ a w j h
 |succ n u=>
  intro c;cases c with
  |seq x y=>
   intro ι σ a w j h m r;simp only[Mw,VC,f,i]at h;refine wp_seq (wp_mono (NB b x σ _ ι a w j h) ?_);intro e v z d;cases e with
   |normal=>
    obtain⟨A,D,s,E⟩:=d;exact u y A D v z s E m r
   |exit id=>exact r _ _ _ d (by simp)
   |ret=>exact r _ _ _ d (by simp)
   |goto l=>exact d.elim
   |panic F=>exact d.elim
   |outgrown=>exact d.elim
  |_=>intro ι σ a w j h m _;exact m ι σ a w j h
def b7J(B:tW)(C:Ctx)(fn:Func)(K:cr):Exit->Act->World->Prop
 |.normal,a,w=>∃ι σ,aK B ι σ a w/\Fc C fn K σ
 |.ret,a,w=>∃ι σ,aK B ι σ a w/\Fc C fn K σ
 |_,_,_=>False
theorem W7(b:∀g S,assoc C.specs g=some S->Sound C.P g S)(f:aK B ι σ a w){fn:Func}{c:Code}{K:cr}(h:tQ C fn c σ K):c.wp C.P (b7J B C fn K) a w:=by
 refine wp_mono (NB b c σ _ ι a w f h) ?_;intro e i j d;cases e with
 |normal=>exact d
 |ret=>exact d
 |exit id=>obtain⟨_,_,_,h⟩:=d;exact h.elim
 |goto l=>exact d.elim
 |panic m=>exact d.elim
 |outgrown=>exact d.elim
theorem aK.putM(j:aK B ι σ a w){b:Nat}{ob h:Obj}{m':MH}(r:σ.m b=some ob)(s:iP σ.m m' b h):aK B ι {σ with m:=m'} a (w.putObj b h):=by
 have f:=j.wrel;have t:b<w.heap.size:=(Array.getElem?_eq_some_iff.1 (f.msat b ob r)).1;have g:∀d,d≠b->(w.putObj b h).heap[d]? =w.heap[d]? :=λd n=>World.putObj_heap_other (λe=>n e)
 have l:∀k o,nth σ.own k=some (some o)->∀d,blk (ι k)=some d->d≠b:=λk o p d c e=>by
  have:=(j.fresh k o d p c).2.1
  grind
 refine⟨j.slots,j.defers,λk o p=>(j.own k o p).world (λd c=>g d (l k o p d c)),j.dist,?_,?_,j.one⟩
 .intro k o d p c;obtain⟨x,y,z⟩:=j.fresh k o d p c;exact⟨x,by show m' d=none;rw[s.other d (l k o p d c)];exact y,z⟩
 .refine⟨f.tape,f.os,f.output,f.drawn,by have:=f.size;simpa using this,?_,?_,?_,?_,f.hle,f.hold,?_⟩
  .intro d A D;rw[g d (λe=>?_)]
   .exact f.frame d A D
   .subst e;rcases f.mfr d ob r with E|E
    .omega
    grind
  .intro d i v u;have n:d≠b:=λe=>by rw[e,f.disj b ob r i]at u;cases u
   rw[World.cell?_of_block (w:=w) (w':=w.putObj b h) (a:=⟨d,i,none⟩) (g d n)];exact f.hsat d i v u
  .intro d o c;have c:m' d=some o:=c;by_cases e:d=b
   .subst e;rw[s.at_]at c;cases c;exact World.putObj_heap_same t
   .rw[s.other d e]at c;rw[g d e];exact f.msat d o c
  .intro d o c i;have c:m' d=some o:=c;by_cases e:d=b
   .subst e;exact f.disj d ob r i
   .rw[s.other d e]at c;exact f.disj d o c i
  .intro d o c;have c:m' d=some o:=c;by_cases e:d=b
   .subst e;exact f.mfr d ob r
   .rw[s.other d e]at c;exact f.mfr d o c
theorem aK.putD(l:aK B ι σ a w){D:Nat}{ob:Obj}(m:Obj)(t:w.heap[D]? =some ob)(s:ob.isCells=false)(u:D<B.w0.heap.size)(x:¬B.E D):
 aK {B with E:=λb=>B.E b\/b=D} ι σ a (w.putObj D m):=by
 have h:=l.wrel;have f:∀c,c≠D->(w.putObj D m).heap[c]? =w.heap[c]? :=λc j=>World.putObj_heap_other (λe=>j e)
 have p:∀k o,nth σ.own k=some (some o)->∀c,blk (ι k)=some c->c≠D:=λk o n c d e=>by
  rcases(l.fresh k o c n d).1 with g|g
  .omega
  grind
 refine⟨l.slots,l.defers,λk o n=>(l.own k o n).world (λc d=>f c (p k o n c d)),l.dist,?_,?_,l.one⟩
 .intro k o c n d;obtain⟨z,A,F⟩:=l.fresh k o c n d
  grind
 .refine⟨h.tape,h.os,h.output,h.drawn,by have:=h.size;simpa using this,?_,?_,?_,h.disj,h.hle,?_,?_⟩
  .intro c g r;rw[f c (λe=>r (.inr e))];exact h.frame c g (λe=>r (.inl e))
  .intro c i v y;have g:=h.hsat c i v y
   have j:c≠D:=λe=>by
    unfold World.cell? at g;rw[e]at g;dsimp only at g;rw[t]at g;cases ob<;>simp[Obj.isCells]at s g
   rw[World.cell?_of_block (w:=w) (w':=w.putObj D m) (a:=⟨c,i,none⟩) (f c j)];exact g
  .intro c o d
   have j:c≠D:=λe=>by
    rcases h.mfr c o d with g|g
    .omega
    grind
   rw[f c j];exact h.msat c o d
  .intro c g r;exact h.hold c g (λe=>r (.inl e))
  .intro c o d;exact(h.mfr c o d).imp id .inl
theorem W3{F:Fence}{n D:Nat}(j:aK B ι σ a w)(m:B.dfs=[{target:=.collected D,args:= #[]}])(l:w.heap[D]? =some (.deferred (some [])))(d:D<B.w0.heap.size)(e:¬B.E D)
 {fn:Func}{K:cr}(h:Fc C fn K σ){R:Ending->World->Prop}
 (p:∀u w',(∃r m' c,K r m' c/\Gi w' r u/\AO {B with E:=λb=>B.E b\/b=D} m' c w'/\∀b,iL r u=some b->(B.w0.heap.size<=b\/(B.E b\/b=D))/\m' b=none/\∀i,c b i=none)->R (.returned u) w'):
 LeavesInM F n C.P fn a.tmps R a.defers .returning w:=by
 rw[j.defers,m];refine⟨ay,.inl ⟨D,_,rfl,run_takeDeferred l,?_⟩⟩;have f:=j.putD (.deferred none) l rfl d e;obtain⟨u,s,r,m',c,t,g,v,x⟩:=KH f h;exact⟨u,s,p u _ ⟨r,m',c,t,g,v,x⟩⟩
theorem LF:∀(n i:Nat)(l:List (Nat×SV))(vs:cn),vs.length=n->(∀j x v,assoc l (i+j)=some x->vs[j]? =some v->Den ι x v)->DenS ι (vK (.at .junk) l n i) vs
 |0,i,l,[],_,_=>trivial
 |0,i,l,_::_,h,_=>by simp at h
 |n+1,i,l,[],h,_=>by simp at h
 |n+1,i,l,v::vs,h,b=>by
  refine⟨?_,LF n (i+1) l vs (bk h) (λj x u c d=>b (j+1) x u bg bg)⟩;have:=b 0;cases e:assoc l i with
  |none=>trivial
  |some x=>grind
end
end Go.Vc
namespace Go.Ps
open Go Go.Vc Go.Proofs List Tryz
variable{K:cr}{m:MH}{h:PH}{s:jB}{ps:cq}{cb:Nat}{sc:bW}{v:QV}{p:Pred}{l:cq}{i:Nat}{N:Nat}{m':MH}{h':PH}{co:cq}{gr:cq}{od:cv}{ta:Int}{li:Int}{xs:List cn}{sz:Nat}{ks:List cq}{rs:cq}{r:Sl}{a:cq}{b:Nat}
def yV(b:Nat):SV:=.at (.val (.pointer (some ⟨b,0,none⟩)))
def J2:Code->Code
 |.seq x _=>x
 |c=>c
noncomputable def cY:Ctx:=dD [] [] [] [] false
noncomputable def f57_ctx(sc:bW)(p:Sl)(v:QV)(m:MH)(h:PH):Ctx:=
 dD [(90,BQ),(97,Sq)] [(5,{A:=Nat,st:=λi=>bQ 53 56 [(1,sv p),(3,.at (.ptr 3 0)),(5,.at (.ptr 5 0)),(6,.at (.ptr 6 0)),(7,.at (.ptr 7 0)),(18,sv p),(19,iv p.len),(20,iv i)] [(3,.cells 43 (sc.enc.map .val)),(5,.cells 38 (v.enc.map .val)),(6,.cells 33 [.val (.slice none 0 0)]),(7,.cells 54 [.val (.int .i64 0)])] m h})] [] [] false
def DT(sc:bW)(p:Sl)(v:QV)(b:Nat)(m:MH)(h:PH):St:=
 bQ 53 56 [(1,sv p),(3,.at (.ptr 3 0)),(5,.at (.ptr 5 0)),(6,.at (.ptr 6 0)),(7,.at (.ptr 7 0)),(11,.at (.ptr 11 0)),(36,vv (.func (.func 172) #[] #[.pointer (some ⟨b,0,none⟩)]))] [(3,.cells 43 (sc.enc.map .val)),(5,.cells 38 (v.enc.map .val)),(6,.cells 33 [.val (.slice none 0 0)]),(7,.cells 54 [.val (.int .i64 0)]),(11,.cells 3 [.val (.int .i64 0)])] m h
def vM(sc:bW)(p:Sl)(v:QV)(e:Int)(m:MH)(h:PH):St:=
 bQ 53 56 [(1,sv p),(3,.at (.ptr 3 0)),(5,.at (.ptr 5 0)),(6,.at (.ptr 6 0)),(7,.at (.ptr 7 0))] [(3,.cells 43 (sc.enc.map .val)),(5,.cells 38 (v.enc.map .val)),(6,.cells 33 [.val (.slice none 0 0)]),(7,.cells 54 [.val (.int .i64 e)])] m h
end Go.Ps
namespace Go.Vc
open Go.Ps Go.Proofs List
noncomputable def ZX(sc:bW)(p:Sl)(v:QV)(m:MH)(h:PH)(G:Prop):St->Prop:=λτ=>G/\∃b m',mL m h b/\iP m m' b (.cells ⟨v.enc⟩ 38 (0,0))/\yA τ (DT sc p v b m' h) True
noncomputable def Vp(sc:bW)(p:Sl)(v:QV)(m:MH)(h:PH)(G:Prop):St->Prop:=λτ=>VC (f57_ctx sc p v m h) (Mw 1 (J2 (Cn 4 (cA Tryz.f57)))) τ (thenS (ZX sc p v m h G) (λ_ _=>False))
noncomputable def f57Qr(sc:bW)(p:Sl)(v:QV)(m:MH)(h:PH)(K:cr):Kr->St->Prop:=λe τ=>match e with|.ret=>Fc (f57_ctx sc p v m h) Tryz.f57 K τ|_=>False
end Go.Vc
namespace Go.Ps
open Go Go.Vc Go.Proofs List Tryz
variable{K:cr}{m:MH}{h:PH}{s:jB}{ps:cq}{cb:Nat}{sc:bW}{v:QV}{p:Pred}{l:cq}{i:Nat}{N:Nat}{m':MH}{h':PH}{co:cq}{gr:cq}{od:cv}{ta:Int}{li:Int}{xs:List cn}{sz:Nat}{ks:List cq}{rs:cq}{r:Sl}{a:cq}{b:Nat}
def bvX(c:Int)(d e f:Nat)(m:MH)(h:PH):Prop:=
  aA (cR e) (cR f) (aA (cR d) (gW c) (bP (m=m) h h))
theorem ccX(c:Int)(d f g:Nat)(m:MH)(h:PH):bvX c d f g m h=(VC cY rfA (bQ 53 53 [(37,iv c),(11,yV d),(6,yV f),(7,yV g)] [] m h) (λe τ=>match e with|.normal=>yA τ (bQ 53 53 [(12,iv c),(11,yV d),(6,yV f),(7,yV g)] [] m h) True|_=>False)):=ax
def Tm(d:Int)(t u x:Nat)(m:MH)(h:PH)(N T:MH->PH->Prop):Prop:=
  Bi m h t 0 (λy=>j9 (λc E=>aA (E8 m t (kI c E 0)) (0<c.size) (∀(e:MH),dQ m e t (kW (eN (fI (y+1))) 1 c.toList) E->Bi e h t 0 (λz=>nX (decide (z>24)) (j9 (λf E1=>aA (E8 e u (kI f E1 0)) (0<f.size) (∀(g:MH),dQ e g u (kW lI 1 f.toList) E1->j9 (λj E2=>aA (E8 g x (kI j E2 0)) (0<j.size) (∀(n:MH),dQ g n x (kW (eN 2) 1 j.toList) E2->T n h))))) d 8 (j9 (λf E1=>aA (E8 e u (kI f E1 0)) (0<f.size) (∀(g:MH),dQ e g u (kW lI 1 f.toList) E1->j9 (λj E2=>aA (E8 g x (kI j E2 0)) (0<j.size) (∀(n:MH),dQ g n x (kW (eN 2) 1 j.toList) E2->T n h))))) (N e h)))))
theorem cbJ(c:Int)(d f g:Nat)(m:MH)(h:PH)(N T:MH->PH->Prop):Tm c d f g m h N T=(VC cY rfB (bQ 53 53 [(12,iv c),(11,yV d),(6,yV f),(7,yV g)] [] m h) (λe τ=>match e with|.normal=>N τ.m τ.h|.ret=>T τ.m τ.h|_=>False)):=ax
abbrev Gx:Prop:=eQ (oQ 33 (nL Fq))
abbrev Ek(a:Nat):Prop:=eQ (oQ a (nL fD))
attribute [push_cast] Gx Ek
def aa(sc:bW)(p:Sl)(v:QV)(m:MH)(h:PH)(G:Prop)(K:cr):Prop:=
  Jg sc h (λs=>dC (dH s) 0 (K (CV.tup (bC jQ (dH s))) m h) (nO (λI x=>aA (I x) (aI p) (aA cG dN (aA (eP 6) (eP 7) (aA (aI p) (bJ p) (aA (bB x) (cM sc) (aA (eY v) Gx (bO (Ek 54) (m=m) (h=h)))))))) (λI d x=>I x->aX (↑x:Int) (aH p) (bI (λb o=>aA (bK p.a b o) (0<=(↑x:Int)) ((↑x:Int)<aH p/\∃(y:Int),aU m h b (bN o x 1) (bG y)/\dC y 3 (dC y 4 (dC y 5 (K (CV.tup (bC jQ 1)) m h) (∃(c:Nat),aA (I c) (d c<d x) (aA (aI p) cG (aA dN (eP 6) (aA (eP 7) (aI p) (aA (bJ p) (bD (gG (bF x 1)) c) (aA (cM sc) (eY v) (aA Gx (Ek 54) (aA (m=m) (h=h) True))))))))) (∃(c:Nat),aA (I c) (d c<d x) (aA (aI p) cG (aA dN (eP 6) (aA (eP 7) (aI p) (aA
 (bJ p) (bD (gG (bF x 1)) c) (aA (cM sc) (eY v) (aA Gx (Ek 54) (aA (m=m) (h=h) True))))))))) (∃(c:Nat),aA (I c) (d c<d x) (aA (aI p) cG (aA dN (eP 6) (aA (eP 7) (aI p) (aA (bJ p) (bD (gG (bF x 1)) c) (aA (cM sc) (eY v) (aA Gx (Ek 54) (aA (m=m) (h=h) True))))))))))) (∃(f:QV),kA (fP (eC v) (eC f)) (λb=>∀(g:MH),mL m h b->dQ m g b f.enc 38->G/\∃(e:Nat)(j:MH),aA (mL m h e) (dQ m j e v.enc 38) (aA (aI p) cG (aA dN (eP 6) (aA (eP 7) (eP 11) (aA (EO 172 (Array.mk (Bw b))=EO 172 (Array.mk (Bw e))) (cM sc) (aA (eY v) Gx (aA (Ek 54) (Ek 3) (aA (g=j) (h=h) True))))))))))))
theorem am(sc:bW)(p:Sl)(v:QV)(m:MH)(h:PH)(G:Prop)(K:cr):aa sc p v m h G K=(VC (f57_ctx sc p v m h) (Mw 4 (cA Tryz.f57)) (entry 53 [aS sc,cS p,aQ v] m h) (thenS (Vp sc p v m h G) (f57Qr sc p v m h K))):=ax
def ab(N:Nat)(sc:bW)(p:Sl)(v:QV)(m:MH)(h:PH)(K:cr):Prop:=
  I7 sc p v h N (λs c q d e=>K (CV.tup (jA d (CV.val (eN (aJ s c q).2)))) m e)
theorem ao(N:Nat)(sc:bW)(p:Sl)(v:QV)(m:MH)(h:PH)(K:cr):ab N sc p v m h K=(tQ (dD [(98,BJ N)] [] [] [] false) Tryz.f57 (Cn 5 (cA Tryz.f57)) (vM sc p v 0 m h) K):=ax
def ae(sc:bW)(p:Sl)(v:QV)(m:MH)(h:PH)(K:cr):Prop:=
  K (CV.tup (bC jQ 2)) m h
theorem ap(sc:bW)(p:Sl)(v:QV)(m:MH)(h:PH)(K:cr):ae sc p v m h K=(Fc cY Tryz.f57 K (vM sc p v 2 m h)):=ax
theorem ajQ:Cn 1 (J2 (Cn 4 (cA Tryz.f57)))= .block 2 (.rangeFunc (.tmp 36) #[37,38] rfA rfB):=ax
theorem aGZ:Cn 4 (cA Tryz.f57)= .seq (J2 (Cn 4 (cA Tryz.f57))) (Cn 5 (cA Tryz.f57)):=ax
theorem ahQ:kS cY rfA=true:=ax
theorem agJ:kS cY rfB=true:=ax
theorem ccQ{d:Int}{l:Nat}{R:LR}{n:Int}{z:MH}{N T:MH->PH->Prop}(F:zI m l R n)(h0:0<=n)(h1:n<=24){ob:Obj}(j:iP m z l ob)
 (V:∀m',¬(24<n+1\/8<d)->iP z m' R.bn (tS (n+1))->N m' h)
 (W:∀m',(24<n+1\/8<d)->m' l=some ob->m' R.b6=some HG->m' R.b7=some (F8 2)->(∃x,m' R.bn=some x)->(∀b,b≠l->b≠R.bn->b≠R.b6->b≠R.b7->m' b=m b)->T m' h):Tm d R.bn R.b6 R.b7 z h N T:=by
 dsimp only[Tm,push_cast];obtain⟨L,M,O,P,Q,S⟩:=F.ne;have A:z R.bn=some (tS n):=by rw[j.other _ (λe=>L e.symm)];exact F.n_
 have X:IntKind.i64.wrap (n+1)=n+1:=dY aD aD;refine⟨n,.of_m A rfl,_,_,⟨A⟩,ay,λu c=>?_⟩;rw[X]at c;have c:iP z u R.bn (tS (n+1)):=c;have Y:u R.b6=some HG:=by rw[c.other _ P,j.other _ (λe=>M e.symm)];exact F.k_
 have Z:u R.b7=some (F8 0):=by rw[c.other _ Q,j.other _ (λe=>O e.symm)];exact F.e_
 have t:(24<n+1\/8<d)->∃(y:Array Value)(E:TypeId),E8 u R.b6 (.cells y E (0,0))/\0<y.size/\∀m',iP u m' R.b6 (.cells ⟨Value.slice none 0 0::y.toList.drop 1⟩ E (0,0))->∃(y:Array Value)(E:TypeId),E8 m' R.b7 (.cells y E (0,0))/\0<y.size/\∀D,iP m' D R.b7 (.cells ⟨Value.int .i64 2::y.toList.drop 1⟩ E (0,0))->T D h:=by
  intro G;refine⟨_,_,⟨Y⟩,ay,λH f=>?_⟩;have f:iP u H R.b6 HG:=f;have I:H R.b7=some (F8 0):=by rw[f.other _ (λe=>S e.symm)];exact Z
  refine⟨_,_,⟨I⟩,ay,λU g=>?_⟩;have g:iP H U R.b7 (F8 2):=g;refine W U G ?_ ?_ g.at_ ⟨tS (n+1),?_⟩ (λb b1 b2 b3 b4=>?_)
  .rw[g.other _ O,f.other _ M,c.other _ L];exact j.at_
  .rw[g.other _ S];exact f.at_
  .rw[g.other _ (λe=>Q e.symm),f.other _ (λe=>P e.symm)];exact c.at_
  .rw[g.other _ b4,f.other _ b3,c.other _ b2,j.other _ b1]
 refine⟨n+1,.of_m c.at_ rfl,aF (λG=>t aD) (λG=>aF (λJ=>t aD) (λJ=>V u aD c))⟩
end Go.Ps
namespace Go.Vc
open Go.Ps Go.Proofs List
theorem AO.framed{w:World}{m:MH}{h:PH}{m':MH}{h':PH}{w':World}{g:List Deferred}(c:AO ⟨w,λb=>m b≠none,h,g⟩ m' h' w'):Zl w m h m' h' w':=
 ⟨c.tape,c.os,c.output,c.drawn,c.size,λb d f=>c.frame b d (λe=>e f),⟨c.hsat,c.msat,c.disj⟩,⟨c.hle⟩,λb d f=>c.hold b d (λe=>e f),λb o d=>c.mfr b o d⟩
end Go.Vc
namespace Go.Ps
open Go Go.Vc Go.Proofs List Tryz
variable{K:cr}{m:MH}{h:PH}{s:jB}{ps:cq}{cb:Nat}{sc:bW}{v:QV}{p:Pred}{l:cq}{i:Nat}{N:Nat}{m':MH}{h':PH}{co:cq}{gr:cq}{od:cv}{ta:Int}{li:Int}{xs:List cn}{sz:Nat}{ks:List cq}{rs:cq}{r:Sl}{a:cq}{b:Nat}
theorem aFZ:Pm Tryz.prog YS:=by
 refine⟨λl vs m h w K hS hH=>?_⟩;obtain⟨f,c,v,R,n,he,F,h0,h1,hf,ht⟩:=hS
 obtain⟨rfl,rfl⟩:f=l/\vs=[.int .i64 c,.agg ⟨v.enc⟩]:=by
  simp only[yv,cI,aQ,List.cons.injEq,CV.val.injEq,Value.func.injEq,Fn.yield.injEq,and_true]at he;refine⟨he.1.symm,?_⟩;have:=he.2
  match vs,this with
  |[a,b],h=>grind
  |[],h=>simp at h
  |[_],h=>simp at h
  |_::_::_::_,h=>simp at h
 have hl:=hH.msat f _ F.loop;have W:=run_yield (P:=Tryz.prog) (args:= #[.int .i64 c,.agg ⟨v.enc⟩]) hl rfl;refine⟨_,_,_,_,W,roundIn_of_wpIn trivial ?_⟩;obtain⟨J,X⟩:∃J,((qM R .ready none).params.zip #[Value.int .i64 c,.agg ⟨v.enc⟩]).foldl (λtmps(t,a)=>tmps.setIfInBounds t a) (qM R .ready none).tmps=J:=⟨_,rfl⟩
 rw[X];have Y:J=(R.tmps.setIfInBounds 37 (.int .i64 c)).setIfInBounds 38 (.agg ⟨v.enc⟩):=by rw[<-X];simp[qM]
 have a6:J.size=53:=by rw[Y];simp[F.size]
 have get:∀j,j≠37->j≠38->J[j]? =R.tmps[j]? :=λj h1 h2=>by
  grind
 have L:J[37]? =some (.int .i64 c):=by
  grind
 have hM:aK ⟨w,λb=>m b≠none,h,[]⟩ (λ_=>.slice none 0 0) (bQ 53 53 [(37,iv c),(11,yV R.bn),(6,yV R.b6),(7,yV R.b7)] [] m h) {tmps:=J,defers:=[]} w:=by
  refine⟨?_,rfl,?_,?_,?_,?_,λ_=>rfl⟩
  .show DenS _ (vK (.at .junk) [(37,iv c),(11,yV R.bn),(6,yV R.b6),(7,yV R.b7)] 53 0) J.toList;refine LF 53 0 _ _ aD (λj x u z g=>?_);rw[cg]at g;simp only[assoc,Nat.zero_add]at z;split at z
   .rename_i e;have:=ca e;subst this;rw[L]at g;simp at z g;subst z g;rfl
   .split at z
    .rename_i e;have:=ca e;subst this;rw[get 11 aD aD,F.t11]at g;simp at z g;subst z g;rfl
    .split at z
     .rename_i e;have:=ca e;subst this;rw[get 6 aD aD,F.t6]at g;simp at z g;subst z g;rfl
     .split at z
      .rename_i e;have:=ca e;subst this;rw[get 7 aD aD,F.t7]at g;simp at z g;subst z g;rfl
      .cases z
  .intro k o Z;rw[jS]at Z;have:(bQ 53 53 [(37,iv c),(11,yV R.bn),(6,yV R.b6),(7,yV R.b7)] [] m h).own=replicate 53 none:=by rfl
   grind
  .intro k k' o o' b Z;rw[jS]at Z;have:(bQ 53 53 [(37,iv c),(11,yV R.bn),(6,yV R.b6),(7,yV R.b7)] [] m h).own=replicate 53 none:=by rfl
   grind
  .intro k o b Z;rw[jS]at Z;have:(bQ 53 53 [(37,iv c),(11,yV R.bn),(6,yV R.b6),(7,yV R.b7)] [] m h).own=replicate 53 none:=by rfl
   grind
  .exact⟨rfl,rfl,rfl,Nat.le_refl _,Nat.le_refl _,λ_ _ _=>rfl,hH.hsat,hH.msat,hH.disj,λ_ _ _ e=>e,λ_ _ _=>rfl,λb o G=>.inr (by show m b≠none;rw[show m b=some o from G];simp)⟩
 have hA:=Qa (C:=cY) f aG rfA ahQ _ _ _ _ _ hM (by
  rw[<-ccX c R.bn R.b6 R.b7 m h];exact MT)
 refine wpIn_mono hA ?_;intro e a1 w1 V;cases e with
 |normal=>
  obtain⟨ι1,τ,a0,a3⟩:=V;obtain⟨ι2,a',_⟩:=qS a0 a3;have a4:w1.heap[f]? =some (.loop (qM R .ready none)):=a'.wrel.msat f _ F.loop;refine⟨_,run_beginRound a4 rfl,?_⟩;obtain⟨M,H⟩:∃M,iP m M f (.loop {qM R .ready none with state:=.busy}):=⟨λb=>if b=f then some (.loop {qM R .ready none with state:=.busy})else m b,ay,λb G=>by simp[G]⟩
  have a5:aK ⟨w,λb=>m b≠none,h,[]⟩ ι2 (bQ 53 53 [(12,iv c),(11,yV R.bn),(6,yV R.b6),(7,yV R.b7)] [] M h) a1 _:=a'.putM (m':=M) F.loop H
  have hB:=Qa (C:=cY) f aG rfB agJ _ (λe τ=>match e with
   |.normal=>(∃m',τ.m=m'/\τ.h=h/\¬(24<n+1\/8<c)/\iP M m' R.bn (tS (n+1)))
   |.ret=>(∃m',τ.m=m'/\τ.h=h/\(24<n+1\/8<c)/\m' f=some (.loop {qM R .ready none with state:=.busy})/\m' R.b6=some HG/\m' R.b7=some (F8 2)/\(∃x,m' R.bn=some x)/\(∀b,b≠f->b≠R.bn->b≠R.b6->b≠R.b7->m' b=m b))
   |_=>False) _ _ _ a5 (by
   rw[<-cbJ c R.bn R.b6 R.b7 M h (λm2 h2=>∃m',m2=m'/\h2=h/\¬(24<n+1\/8<c)/\iP M m' R.bn (tS (n+1))) (λm2 h2=>∃m',m2=m'/\h2=h/\(24<n+1\/8<c)/\m' f=some (.loop {qM R .ready none with state:=.busy})/\m' R.b6=some HG/\m' R.b7=some (F8 2)/\(∃x,m' R.bn=some x)/\(∀b,b≠f->b≠R.bn->b≠R.b6->b≠R.b7->m' b=m b))];exact ccQ F h0 h1 H (λm' O g=>⟨m',rfl,rfl,O,g⟩) (λm' O k1 k2 k3 k4 k5=>⟨m',rfl,rfl,O,k1,k2,k3,k4,k5⟩))
  refine wpIn_mono hB ?_;obtain⟨n1,n2,n3,n4,n5,n6⟩:=F.ne;intro e a2 w2 A;cases e with
  |normal=>
   obtain⟨ι3,Q,D,m',y,S,O,g⟩:=A;have E:Q.m f=some (.loop {qM R .ready none with state:=.busy}):=by rw[y,g.other _ n1];exact H.at_
   have T:=D.wrel.msat f _ E;obtain⟨I,d⟩:∃I,iP Q.m I f (.loop (qM R .ready none)):=⟨λb=>if b=f then some (.loop (qM R .ready none))else Q.m b,ay,λb G=>by simp[G]⟩
   have U:=D.putM E d;refine⟨_,_,run_endRound none T,_,I,h,rfl,ht I O ⟨?_,λb G=>?_⟩,?_⟩
   .rw[d.other _ (λe=>n1 e.symm),y];exact g.at_
   .by_cases e:b=f
    .subst e;rw[d.at_];exact F.loop.symm
    .rw[d.other _ e,y,g.other _ G,H.other _ e]
   .have:=U.wrel;rw[S]at this;exact this.framed
  |ret=>
   obtain⟨ι3,Q,D,m',y,S,O,k1,k2,k3,k4,k5⟩:=A;have E:Q.m f=some (.loop {qM R .ready none with state:=.busy}):=bg
   have T:=D.wrel.msat f _ E;obtain⟨I,d⟩:∃I,iP Q.m I f (.loop (qM R .done (some .ret))):=⟨λb=>if b=f then some (.loop (qM R .done (some .ret)))else Q.m b,ay,λb G=>by simp[G]⟩
   have U:=D.putM E d;refine⟨_,_,run_endRound (some .ret) T,_,I,h,rfl,hf I O ⟨d.at_,?_,?_,?_,λb b1 b2 b3 b4=>?_⟩,?_⟩
   .rw[d.other _ (λe=>n2 e.symm),y];exact k2
   .rw[d.other _ (λe=>n3 e.symm),y];exact k3
   .rw[d.other _ (λe=>n1 e.symm),y];exact k4
   .rw[d.other _ b1,y];grind
   .have:=U.wrel;rw[S]at this;exact this.framed
  |exit id=>obtain⟨_,_,_,h⟩:=A;exact h.elim
  |goto t=>exact A.elim
  |panic ch=>exact A.elim
  |outgrown=>exact A.elim
 |ret=>obtain⟨_,_,_,h⟩:=V;exact h.elim
 |exit id=>obtain⟨_,_,_,h⟩:=V;exact h.elim
 |goto t=>exact V.elim
 |panic ch=>exact V.elim
 |outgrown=>exact V.elim
theorem aq{p:Sl}{q:Query}{G:Prop}(y:iA h s sc)(n:Ints h p ps)(g:KR K m h (dU s ps q))(z:dH s=0->ps.all eT=true->G):aa sc p v m h G K:=by
 dsimp only[aa,push_cast];have A:=n.slen;have t:=n.len;unfold dU at g;refine⟨sc,s,rfl,y,aC (λj=>g.err (.refl _) (if_neg bg)) (λj=>?_)⟩;have j:dH s=0:=bg
 rw[if_pos j]at g;refine⟨λi=>i<=ps.length/\(ps.take i).all eT=true,λi=>ps.length-i,⟨0,⟨aD,ay⟩,MT⟩,λi⟨M,d⟩=>aF (λf=>?_) (λD=>⟨v,rfl,λb m' E F=>⟨z j ?_,b,m',E,F,MT⟩⟩)⟩
 .obtain⟨x,u⟩:=eU A f;obtain⟨b,o,e,r⟩:=n.at' u;refine⟨b,o,e,aD,f,x,.imm r,?_⟩;have c:eT x=true->(ps.take (i+1)).all eT=true:=λH=>by rw[AN u,d,H];rfl
  refine aC (λI=>aC (λJ=>aC (λL=>g.err (.refl _) (if_neg λe=>?_)) (λL=>⟨i+1,⟨aD,c ?_⟩,bg,MT⟩)) (λJ=>⟨i+1,⟨aD,c ?_⟩,bg,MT⟩)) (λI=>⟨i+1,⟨aD,c ?_⟩,bg,MT⟩)
  .have:eT x=false:=by simp_all [eT]
   grind
  .simp_all [eT]
  .simp_all [eT]
  .simp_all [eT]
 grind
theorem UD{α:Type}(d:α)(l:List (Nat×α)):∀(n i k:Nat),nth (vK d l n i) k=if k<n then some (match assoc l (i+k)with|some x=>x|none=>d)else none
 |0,i,k=>by simp[vK,nth]
 |n+1,i,0=>by rw[if_pos aD];rfl
 |n+1,i,k+1=>by
  simp only[vK,nth];rw[UD d l n (i+1) k,show i+1+k=i+(k+1)by omega]
  grind
theorem Ih{p:Sl}{e:Int}{k:Nat}{o:Vc.Own}(c:nth (vM sc p v e m h).own k=some (some o)):
 (k=3/\o= .cells 43 (sc.enc.map .val))\/(k=5/\o= .cells 38 (v.enc.map .val))\/(k=6/\o= .cells 33 [.val (.slice none 0 0)])\/(k=7/\o= .cells 54 [.val (.int .i64 e)]):=by
 have:(vM sc p v e m h).own=vK none [(3,some (.cells 43 (sc.enc.map .val))),(5,some (.cells 38 (v.enc.map .val))),(6,some (.cells 33 [.val (.slice none 0 0)])),(7,some (.cells 54 [.val (.int .i64 e)]))] 56 0:=rfl;rw[this,UD]at c;split at c
 .simp only[Nat.zero_add,bx]at c;split at c
  .rename_i x d;subst c;simp only[assoc]at d;split at d
   .rename_i e;have:=ca e;grind
   .split at d
    .rename_i e;have:=ca e;grind
    .split at d
     .rename_i e;have:=ca e;grind
     .split at d
      .rename_i e;have:=ca e;grind
      .cases d
  .cases c
 .cases c
def mark(D:Nat):Deferred:={target:=.collected D,args:= #[]}
theorem FF{B:tW}{ι:dc}{σ:St}{a:Act}{w:World}(d:aK B ι σ a w){k T:Nat}{l:cn}(e:nth σ.own k=some (some (.cells T (l.map .val)))):∃b,ι k= .pointer (some ⟨b,0,none⟩)/\w.heap[b]? =some (.cells ⟨l⟩ T (0,0)):=by
 obtain⟨b,j,f,g,c⟩:=wN d e;rw[iN.vals]at c;refine⟨b,f,?_⟩;rw[g, <-c]
theorem NM{B:tW}{ι:dc}{σ:St}{a:Act}{w:World}(c:aK B ι σ a w){t k:Nat}(d:σ.sl[t]? =some (.at (.ptr k 0)))(e:ι k= .pointer (some ⟨b,0,none⟩)):a.tmps[t]? =some (.pointer (some ⟨b,0,none⟩)):=by
 obtain⟨v,f,g,j,n⟩:=c.slots.get t _ d
 grind
theorem aIZ{B:tW}{ι:dc}{a:Act}{w:World}{p:Sl}{q:Query}{z:Nat}(A:aK B ι (DT sc p v z m' h) a w)(e0:B.dfs=[])(c0:mL m h z)(a0:iP m m' z (.cells ⟨v.enc⟩ 38 (0,0)))(hq:cJ h q v){Q:Exit->Act->World->Prop}
 (e1:∀(e:Int)(D:Nat)(E:Nat->Prop)(a':Act)(w':World),aK ⟨w',E,h,[mark D]⟩ ι (vM sc p v e m h) a' w'->AO B m h w'->(∀b,E b->B.w0.heap.size<=b\/B.E b)->B.w0.heap.size<=D->w'.heap[D]? =some (.deferred (some []))->¬E D->
  ((wU q 8 0).1=true->e=0->Q .normal a' w')/\((wU q 8 0).1=false->e=2->Q .ret a' w')):
 (Code.rangeFunc (.tmp 36) #[37,38] rfA rfB).wp Tryz.prog Q a w:=by
 have I:=A.wrel;obtain⟨b3,c1,c2⟩:=FF A (k:=3) (T:=43) (l:=sc.enc) rfl;obtain⟨b5,c3,c4⟩:=FF A (k:=5) (T:=38) (l:=v.enc) rfl;obtain⟨L,a4,c5⟩:=FF A (k:=6) (T:=33) (l:=[.slice none 0 0]) rfl;obtain⟨M,a5,c6⟩:=FF A (k:=7) (T:=54) (l:=[.int .i64 0]) rfl;obtain⟨bn,c7,c8⟩:=FF A (k:=11) (T:=3) (l:=[.int .i64 0]) rfl;have e2:=NM A (t:=11) (k:=11) rfl c7;have t6:=NM A (t:=6) (k:=6) rfl a4;have t7:=NM A (t:=7) (k:=7) rfl a5;have e3:a.tmps.size=53:=by have:=A.slots.length;rw[Array.length_toList]at this;rw[<-this];rfl
 have e4:a.eval (.tmp 36)= .func (.func 172) #[] #[.pointer (some ⟨z,0,none⟩)]:=A.ev (.tmp 36);have a6:w.heap[z]? =some (.cells ⟨v.enc⟩ 38 (0,0)):=I.msat z _ a0.at_;have e5:=(Array.getElem?_eq_some_iff.1 c2).1;have e6:=(Array.getElem?_eq_some_iff.1 c4).1;have e7:=(Array.getElem?_eq_some_iff.1 c5).1;have e8:=(Array.getElem?_eq_some_iff.1 c6).1;have e9:=(Array.getElem?_eq_some_iff.1 c8).1;have h0:=(Array.getElem?_eq_some_iff.1 a6).1;have a7:=A.fresh 3 _ b3 rfl (by rw[c1];rfl);have a8:=A.fresh 5 _ b5 rfl (by rw[c3];rfl);have O:=A.fresh 6 _ L rfl (by rw[a4];rfl);have f8:=A.fresh 7 _ M rfl (by rw[a5];rfl);have a9:=A.fresh 11 _ bn rfl (by rw[c7];rfl);have f':b3≠L:=λe=>bg
 have f0:b3≠M:=λe=>bg
 have f1:b3≠bn:=λe=>bg
 have f2:b5≠L:=λe=>bg
 have f3:b5≠M:=λe=>bg
 have f4:b5≠bn:=λe=>bg
 have f5:L≠M:=λe=>bg
 have c9:L≠bn:=λe=>bg
 have d':M≠bn:=λe=>bg
 have Y:∀b,m' b=none->b≠z:=λb f e=>by rw[e,a0.at_]at f;cases f
 have q3:=Y b3 a7.2.1;have q5:=Y b5 a8.2.1;have q6:=Y L O.2.1;have q7:=Y M f8.2.1;have qn:=Y bn a9.2.1;refine(wpIn_wide (n:=0)).1 (wpIn_rangeFunc ?_);intro fn h6;obtain⟨l,hl⟩:∃l,l=w.heap.size+1:=⟨_,rfl⟩
 obtain⟨D,hD⟩:∃D,D=w.heap.size:=⟨_,rfl⟩
 let R:LR:=⟨fn,a.tmps,bn,L,M,D⟩
 obtain⟨W1,H⟩:∃W1,(w.alloc (.deferred (some []))).alloc (.loop (qM R .ready none))=W1:=⟨_,rfl⟩
 have s1:W1.heap.size=w.heap.size+2:=by rw[<-H];simp
 have a1:∀b,b<w.heap.size->W1.heap[b]? =w.heap[b]? :=λb f=>by
  rw[<-H,fL _ _ bf,fL _ _ f]
 have d0:W1.heap[D]? =some (.deferred (some [])):=by
  rw[<-H,hD,fL _ _ ay];exact kK w _
 have g9:W1.heap[l]? =some (.loop (qM R .ready none)):=by
  rw[<-H,hl];have:=kK (w.alloc (.deferred (some []))) (.loop (qM R .ready none))
  rwa [World.size_alloc]at this
 let J:MH:=λb=>if b=l then some (.loop (qM R .ready none))else if b=bn then some (tS 0)else if b=L then some HG else if b=M then some (F8 0)else if b=z then some (.cells ⟨v.enc⟩ 38 (0,0))else none
 have d5:J l=some (.loop (qM R .ready none)):=by simp[J]
 have d6:J bn=some (tS 0):=(if_neg aD).trans (if_pos rfl);have b':J L=some HG:=(if_neg aD).trans ((if_neg c9).trans (if_pos rfl));have b0:J M=some (F8 0):=(if_neg aD).trans ((if_neg d').trans ((if_neg (Ne.symm f5)).trans (if_pos rfl)));have f6:J z=some (.cells ⟨v.enc⟩ 38 (0,0)):=(if_neg aD).trans ((if_neg (Ne.symm qn)).trans ((if_neg (Ne.symm q6)).trans ((if_neg (Ne.symm q7)).trans (if_pos rfl))));have a2:∀b,b≠l->b≠bn->b≠L->b≠M->b≠z->J b=none:=λb h1 h2 h3 h4 h5=>(if_neg h1).trans ((if_neg h2).trans ((if_neg h3).trans ((if_neg h4).trans (if_neg h5))))
 have d7:∀b o,J b=some o->b=l\/b=bn\/b=L\/b=M\/b=z:=λb o f=>by
  grind
 have b1:∀b i x,h b i=some x->b<w.heap.size:=λb i x g=>World.block_lt_of_cell? w ⟨b,i,none⟩ (I.hsat b i x g);have hL:zI J l R 0:=⟨d5,d6,b',b0,e3,e2,t6,t7⟩
 have d8:BK W1 J h [yv l,Y5 z] [.func (.yield l) #[] #[],.pointer (some ⟨z,0,none⟩)]:=by
  refine⟨⟨rfl,rfl,trivial⟩,?_,?_,?_,?_,?_⟩
  .intro b i x g;rw[World.cell?_of_block (w:=w) (w':=W1) (a:=⟨b,i,none⟩) (a1 b (b1 b i x g))];exact I.hsat b i x g
  .intro b o f;rcases d7 b o f with rfl|rfl|rfl|rfl|rfl
   .grind
   .rw[d6]at f;cases f;rw[a1 _ e9];exact c8
   .rw[b']at f;cases f;rw[a1 _ e7];exact c5
   .rw[b0]at f;cases f;rw[a1 _ e8];exact c6
   grind
  .intro b o f i;rcases d7 b o f with rfl|rfl|rfl|rfl|rfl
   .cases e:h b i with
    |none=>rfl
    |some x=>grind
   .exact a9.2.2 i
   .exact O.2.2 i
   .exact f8.2.2 i
   .exact c0.h_ i
  .intro i j c d u u' b F hu hj hv f
   have:∃x,c= .val x:=by
    match i,F with
    |0,F=>simp[yv]at F;grind
    |1,F=>simp[Y5]at F;grind
    |_+2,F=>simp at F
   obtain⟨x,rfl⟩:=this;simp[iL]at f
  .intro i c u b F hu f
   have:∃x,c= .val x:=by
    match i,F with
    |0,F=>simp[yv]at F;grind
    |1,F=>simp[Y5]at F;grind
    |_+2,F=>simp at F
   obtain⟨x,rfl⟩:=this;simp[iL]at f
 have b2:=(Ya aFZ).2 [yv l,Y5 z] [.func (.yield l) #[] #[],.pointer (some ⟨z,0,none⟩)] J h W1 (λ_ mm hh=>hh=h/\(((wU q 8 0).1=false/\Ax J mm l R)\/((wU q 8 0).1=true/\∃n,iP J mm bn (tS n))))
  ⟨v,q,l,z,R,rfl,f6,hq,hL,λmm hv hs=>⟨rfl,.inl ⟨hv,hs⟩⟩,λmm hv hu=>⟨rfl,.inr ⟨hv,_,hu⟩⟩⟩ d8
 have b4:(Instr.enterLoop fn a.tmps #[37,38] rfA rfB Fence.wide.round).run Tryz.prog w= .ok (l,[mark D]) W1:=by
  subst hD hl;rw[<-H];exact run_enterLoop_outer _ _ _ _ _
 refine⟨l,[mark D],W1,{target:=.fn (.func 172) #[.pointer (some ⟨z,0,none⟩)],args:= #[.func (.yield l) #[] #[]]},W1,172, #[.func (.yield l) #[] #[],.pointer (some ⟨z,0,none⟩)],W1,b4,?_,λ_ _=>trivial,?_,λe=>by simp[Fence.wide]at e,callsIn_wide.2 ?_⟩
 .simp only[resolve,rangeCall,e4];simp[go_sem]
 .have hf:Tryz.prog.funcs[172]? =some Tryz.f172:=func172;have f7:¬Tryz.f172.body=none:=by intro e;have:Tryz.f172.body=some (cA Tryz.f172):=rfl;grind
  have f9:¬Tryz.f172.name= "runtime.NumGoroutine" :=az
  simp only[invoke,callFunc];simp[program,Sem.run,hf,f9,f7]
 refine b2.mono ?_;rintro e P ⟨r,u,mm,hh,rfl,⟨b8,d9⟩,h7,G,_⟩;have b8:=b8.symm;subst b8
 have Z:∀b,J b=none->¬yI J [yv l,Y5 z] [.func (.yield l) #[] #[],.pointer (some ⟨z,0,none⟩)] b:=by
  rintro b f (h1|⟨i,c,u,F,hu,hc⟩)
  .exact h1 f
  .have:∃x,c= .val x:=by
    match i,F with
    |0,F=>simp[yv]at F;grind
    |1,F=>simp[Y5]at F;grind
    |_+2,F=>simp at F
   obtain⟨x,rfl⟩:=this;simp[iL]at hc
 have b9:∀b,b<W1.heap.size->J b=none->P.heap[b]? =W1.heap[b]? :=λb f hn=>G.frame b f (Z b hn);have V:=G.size;have V:W1.heap.size<=P.heap.size:=V;obtain⟨n1,n2,n3,n4,n5,n6⟩:=hL.ne
 have key:∀(e:Int)(st:LoopState)(pe:Option Code),st≠ .busy->mm l=some (.loop (qM R st pe))->mm L=some HG->mm M=some (F8 e)->
  (Instr.endLoop l).run Tryz.prog P= .ok pe (P.putObj l (.loop {qM R st pe with state:=.exhausted}))/\
  ((wU q 8 0).1=true->e=0->Q .normal {a with defers:=[mark D]++a.defers} (P.putObj l (.loop {qM R st pe with state:=.exhausted})))/\
  ((wU q 8 0).1=false->e=2->Q .ret {a with defers:=[mark D]++a.defers} (P.putObj l (.loop {qM R st pe with state:=.exhausted}))):=by
  intro e st pe g' kl k6 k7;have g0:=G.msat l _ kl;refine⟨run_endLoop g0 g',?_⟩;obtain⟨W,S⟩:∃W,P.putObj l (.loop {qM R st pe with state:=.exhausted})=W:=⟨_,rfl⟩
  rw[S];have a3:∀b,b≠l->W.heap[b]? =P.heap[b]? :=λb f=>by rw[<-S];exact World.putObj_heap_other (λe=>f e)
  have s4:W.heap.size=P.heap.size:=by rw[<-S];simp
  have X:∀b,b<w.heap.size->J b=none->W.heap[b]? =w.heap[b]? :=λb f hn=>by
   grind
  have U:∀b o,m b=some o->J b=none/\b<w.heap.size/\m' b=some o:=λb o f=>by
   have a6:b≠z:=λe=>by rw[e,c0.m_]at f;cases f
   have c':m' b=some o:=by rw[a0.other b a6];exact f
   have h8:=(Array.getElem?_eq_some_iff.1 (I.msat b o c')).1
   have ne:∀c,(DT sc p v z m' h).m c=none->b≠c:=λc hc e=>by
    have hc:m' c=none:=hc
    grind
   grind
  have e':∀b i x,h b i=some x->W.cell? ⟨b,i,none⟩=some x:=λb i x g=>by
   have f:b≠l:=λe=>bg
   rw[World.cell?_of_block (w:=P) (w':=W) (a:=⟨b,i,none⟩) (a3 b f)];exact G.hsat b i x g
  have wr:AO B m h W:=by
   refine⟨?_,?_,?_,?_,?_,?_,e',?_,?_,I.hle,I.hold,?_⟩
   .have:W.tape=P.tape:=by rw[<-S];rfl
    rw[this,G.tape];show W1.tape=_;rw[<-H];exact I.tape
   .have:W.os=P.os:=by rw[<-S];rfl
    rw[this,G.os];show W1.os=_;rw[<-H];exact I.os
   .have:W.output=P.output:=by rw[<-S];rfl
    rw[this,G.output];show W1.output=_;rw[<-H];exact I.output
   .have d4:W.drawn=P.drawn:=by rw[<-S];rfl
    have d3:W1.drawn<=P.drawn:=G.drawn;have d2:W1.drawn=w.drawn:=by rw[<-H];rfl
    have d1:B.w0.drawn<=w.drawn:=I.drawn;omega
   .have:=I.size;omega
   .intro b f g4;have g5:b<w.heap.size:=ck f I.size
    have ne:∀c,(B.w0.heap.size<=c\/B.E c)->b≠c:=λc hc e=>by
     grind
    rw[X b g5 (a2 b aD (ne _ a9.1) (ne _ O.1) (ne _ f8.1) (ne _ (I.mfr z _ a0.at_)))];exact I.frame b f g4
   .intro b o f;obtain⟨k1,k2,k3⟩:=U b o f;rw[X b k2 k1];exact I.msat b o k3
   .intro b o f i;exact I.disj b o (U b o f).2.2 i
   .intro b o f;exact I.mfr b o (U b o f).2.2
  have g6:W.heap[D]? =some (.deferred (some [])):=by
   rw[a3 D aD,b9 D aD (a2 D aD aD aD aD aD)];exact d0
  refine e1 e D (λb=>m b≠none\/∃k o,nth (DT sc p v z m' h).own k=some (some o)/\blk (ι k)=some b) {a with defers:=[mark D]++a.defers} W ⟨?_,?_,?_,?_,?_,?_,A.one⟩ wr ?_ ?_ g6 ?_
  .show DenS ι (vK (.at .junk) [(1,sv p),(3,.at (.ptr 3 0)),(5,.at (.ptr 5 0)),(6,.at (.ptr 6 0)),(7,.at (.ptr 7 0))] 53 0) a.tmps.toList;refine LF 53 0 _ _ aD (λj x u g hu=>?_)
   have get:∀(t:Nat)(y:SV),(DT sc p v z m' h).sl[t]? =some y->t=j->Den ι y u:=λt y ht e=>by
    obtain⟨v',h9,i'⟩:=A.slots.get t y ht
    grind
   simp only[assoc,Nat.zero_add]at g;split at g
   .rename_i e;simp at g;subst g;exact get 1 _ rfl (ca e)
   .split at g
    .rename_i e;simp at g;subst g;exact get 3 _ rfl (ca e)
    .split at g
     .rename_i e;simp at g;subst g;exact get 5 _ rfl (ca e)
     .split at g
      .rename_i e;simp at g;subst g;exact get 6 _ rfl (ca e)
      .split at g
       .rename_i e;simp at g;subst g;exact get 7 _ rfl (ca e)
       .cases g
  .show[mark D]++a.defers=[mark D]
   rw[A.defers,e0];rfl
  .intro k o hk;rcases Ih hk with⟨rfl,rfl⟩|⟨rfl,rfl⟩|⟨rfl,rfl⟩|⟨rfl,rfl⟩
   .exact⟨b3,_,c1,by rw[X b3 e5 (a2 b3 aD f1 f' f0 q3)];exact c2,iN.vals.2 rfl,λ_ e=>by cases e⟩
   .exact⟨b5,_,c3,by rw[X b5 e6 (a2 b5 aD f4 f2 f3 q5)];exact c4,iN.vals.2 rfl,λ_ e=>by cases e⟩
   .exact⟨L,_,a4,by rw[a3 L aD];exact G.msat L _ k6,iN.vals (l:=[.slice none 0 0]).2 rfl,λ_ e=>by cases e⟩
   .exact⟨M,_,a5,by rw[a3 M aD];exact G.msat M _ k7,iN.vals (l:=[.int .i64 e]).2 rfl,λ_ e=>by cases e⟩
  .have up:∀k o,nth (vM sc p v e m h).own k=some (some o)->∃o',nth (DT sc p v z m' h).own k=some (some o'):=λk o hk=>by
    rcases Ih hk with⟨rfl,rfl⟩|⟨rfl,rfl⟩|⟨rfl,rfl⟩|⟨rfl,rfl⟩<;>exact⟨_,rfl⟩
   intro k k' o o' b hk g7 f c';obtain⟨x,g⟩:=up k o hk;obtain⟨x',g8⟩:=up k' o' g7;exact A.dist k k' x x' b g g8 f c'
  .have up:∀k o,nth (vM sc p v e m h).own k=some (some o)->∃o',nth (DT sc p v z m' h).own k=some (some o'):=λk o hk=>by
    rcases Ih hk with⟨rfl,rfl⟩|⟨rfl,rfl⟩|⟨rfl,rfl⟩|⟨rfl,rfl⟩<;>exact⟨_,rfl⟩
   intro k o b hk f;obtain⟨x,g⟩:=up k o hk;obtain⟨g1,g2,g3⟩:=A.fresh k x b g f;refine⟨.inr (.inr ⟨k,x,g,f⟩),?_,g3⟩;show m b=none;have g2:m' b=none:=g2;rw[<-a0.other b (Y b g2)];exact g2
  .exact⟨rfl,rfl,rfl,Nat.le_refl _,Nat.le_refl _,λ_ _ _=>rfl,e',wr.msat,wr.disj,λ_ _ _ e=>e,λ_ _ _=>rfl,λb o f=>.inr (.inl (by rw[show m b=some o from f];simp))⟩
  .rintro b (h1|⟨k,o,hk,f⟩)
   .cases e:m b with
    |none=>grind
    |some o=>exact wr.mfr b o e
   .exact(A.fresh k o b hk f).1
  .rw[hD];exact I.size
  .rintro(h1|⟨k,o,hk,f⟩)
   .cases e:m D with
    |none=>exact h1 e
    |some o=>grind
   .have:=rH (A.own k o hk) f;omega
 rcases d9 with⟨hv,hs⟩|⟨hv,n,hu⟩
 .obtain⟨r1,_,r3⟩:=key 2 .done (some .ret) ay hs.loop hs.k_ hs.e_;exact⟨_,_,r1,wpIn_ret (r3 hv rfl)⟩
 .obtain⟨r1,r2,_⟩:=key 0 .ready none ay (by rw[hu.other l n1];exact d5) (by rw[hu.other L c9];exact b') (by rw[hu.other M d'];exact b0);exact⟨_,_,r1,r2 hv rfl⟩
set_option maxRecDepth 100000 in
theorem af:cm 57 wR:=by
 refine⟨⟨Tryz.f57,func57,rfl,az⟩,?_⟩;rintro b6 vs m h w K ⟨sc,p,v,s,ps,q,rfl,hs,hp,I,T⟩ a3;refine callsIn_wide.1 (callsIn_of_wp_marks (n:=0) func57 (show Tryz.f57.body=some (cA Tryz.f57)from rfl) trivial (wpIn_wide.2 ?_));have U:=J9 Tryz.f57.ntmps a3;have hn:Tryz.f57.ntmps=53:=ax
 rw[hn]at U⊢
 obtain⟨B,hB⟩:∃B:tW,B=⟨w,yI m [aS sc,cS p,aQ v] vs,h,[]⟩:=⟨_,rfl⟩
 rw[<-hB]at U;have a4:B.dfs=[]:=by rw[hB]
 have t:∀g S,assoc (f57_ctx sc p v m h).specs g=some S->Sound (f57_ctx sc p v m h).P g S:=aE K8 (aE apZ aG)
 have x:∀u z,(∃r m' h',K r m' h'/\Gi z r u/\AO B m' h' z/\∀b,iL r u=some b->(B.w0.heap.size<=b\/B.E b)/\m' b=none/\∀i,h' b i=none)->
  ∃r u' m' h',Ending.returned u= .returned u'/\K r m' h'/\Gi z r u'/\AO ⟨w,yI m [aS sc,cS p,aQ v] vs,h,[]⟩ m' h' z/\(∀b,iL r u'=some b->(w.heap.size<=b\/yI m [aS sc,cS p,aQ v] vs b)/\m' b=none/\∀i,h' b i=none):=by
  rintro u z ⟨r,m',h',W,h2,h3,h4⟩;subst hB;exact⟨r,u,m',h',rfl,W,h2,h3,h4⟩
 have hV:VC (f57_ctx sc p v m h) (Mw 4 (cA Tryz.f57)) (entry 53 [aS sc,cS p,aQ v] m h) (thenS (Vp sc p v m h (dH s=0/\ps.all eT=true)) (f57Qr sc p v m h K)):=by
  rw[<-am sc p v m h (dH s=0/\ps.all eT=true) K];exact aq hs hp T (λW h2=>⟨W,h2⟩)
 have key:=λR=>TZ (C:=f57_ctx sc p v m h) (Q2:=Vp sc p v m h (dH s=0/\ps.all eT=true)) (Q:=f57Qr sc p v m h K) (R:=R) t rfl rfl 4 (cA Tryz.f57) _ _ _ _ U;generalize f:VC (f57_ctx sc p v m h) (Mw 4 (cA Tryz.f57)) (entry 53 [aS sc,cS p,aQ v] m h) (thenS (Vp sc p v m h (dH s=0/\ps.all eT=true)) (f57Qr sc p v m h K))=V at hV key;clear f;refine key _ hV ?_ ?_
 .intro ι τ a1 w1 b0 W;unfold Vp at W;rw[aGZ];have J:=λR=>TZ (C:=f57_ctx sc p v m h) (Q2:=ZX sc p v m h (dH s=0/\ps.all eT=true)) (Q:=λ_ _=>False) (R:=R) t rfl rfl 1 (J2 (Cn 4 (cA Tryz.f57))) _ _ _ _ b0;generalize f:VC (f57_ctx sc p v m h) (Mw 1 (J2 (Cn 4 (cA Tryz.f57)))) τ (thenS (ZX sc p v m h (dH s=0/\ps.all eT=true)) (λ_ _=>False))=V at W J;clear f;refine wp_seq (J _ W ?_ ?_)
  .intro ι2 τ2 a2 w2 b1 h2;unfold ZX at h2;obtain⟨⟨g1,g2⟩,bq,m',b2,b3,b4⟩:=h2;obtain⟨ι3,b5,_⟩:=qS b1 b4;rw[ajQ];refine wp_block (aIZ b5 a4 b2 b3 I ?_);intro e D E a' z a6 a7 hE hD a8 a9;have L:D<z.heap.size:=(Array.getElem?_eq_some_iff.1 a8).1
   have j:∀{C:Ctx},C.P=Tryz.prog->∀(ι5:dc)(X:St)(Y:Act)(w5:World),aK ⟨z,E,h,[mark D]⟩ ι5 X Y w5->Fc C Tryz.f57 K X->∀{R:Ending->World->Prop},(∀u d,(∃r m' h',K r m' h'/\Gi d r u/\AO B m' h' d/\∀b,iL r u=some b->(B.w0.heap.size<=b\/B.E b)/\m' b=none/\∀i,h' b i=none)->R (.returned u) d)->LeavesInM Fence.wide 0 Tryz.prog Tryz.f57 Y.tmps R Y.defers .returning w5:=by
    intro C hC ι5 X Y w5 A G R hR;rw[<-hC];refine W3 (C:=C) A rfl ?_ L a9 G (λu d=>?_)
    .rw[A.wrel.frame D L a9];exact a8
    .rintro⟨r,mf,hf,k1,k2,y,k4⟩
     have b':∀b,(E b\/b=D)->B.w0.heap.size<=b\/B.E b:=by
      rintro b (e|rfl)
      .exact hE b e
      .exact .inl hD
     refine hR u d ⟨r,mf,hf,k1,k2,a7.trans (E:=λb=>E b\/b=D) ⟨y.tape,y.os,y.output,y.drawn,y.size,y.frame,y.hsat,y.msat,y.disj,y.hle,y.hold,y.mfr⟩ b',λb hb=>?_⟩;obtain⟨j1,j2,j3⟩:=k4 b hb;refine⟨?_,j2,j3⟩;rcases j1 with j1|j1
     .exact .inl (cj a7.size j1)
     .exact b' b j1
   refine⟨λhv he=>?_,λhv he=>?_⟩
   .subst he;show(Cn 5 (cA Tryz.f57)).wp _ _ a' z;have Z:yU q=true:=by rw[<-P9];exact hv
    have ht:ab (SizeOf.sizeOf q+1) sc p v m h K:=by
     unfold dU at T;rw[if_pos g1,if_pos g2,if_pos Z]at T;exact⟨sc,p,v,s,ps,q,rfl,hs,Qf g1,hp,I,aD,T⟩
    rw[ao]at ht;have M:=W7 (C:=dD [(98,BJ (SizeOf.sizeOf q+1))] [] [] [] false) (fn:=Tryz.f57) (c:=Cn 5 (cA Tryz.f57)) (K:=K) (aE (apX _) aG) a6;generalize f:tQ (dD [(98,BJ (SizeOf.sizeOf q+1))] [] [] [] false) Tryz.f57 (Cn 5 (cA Tryz.f57)) (vM sc p v 0 m h) K=V at ht M;clear f;refine wp_mono (M ht) ?_;intro e Y w5 F;cases e with
    |normal=>
     obtain⟨ι5,X,A,G⟩:=F;exact j rfl ι5 X Y w5 A G (λu d hx=>x u d hx)
    |ret=>
     obtain⟨ι5,X,A,G⟩:=F;exact j rfl ι5 X Y w5 A G (λu d hx=>x u d hx)
    |exit id=>exact F.elim
    |goto l=>exact F.elim
    |panic ch=>exact F.elim
    |outgrown=>exact F.elim
   .subst he;have Z:¬yU q=true:=by rw[<-P9,hv];simp
    have G:ae sc p v m h K:=by
     unfold dU at T;rw[if_pos g1,if_pos g2,if_neg Z]at T;exact T.err (.refl _) rfl
    rw[ap]at G;have O:=@j cY rfl ι3 (vM sc p v 2 m h) a' z a6;generalize f:Fc cY Tryz.f57 K (vM sc p v 2 m h)=V at G O;clear f;exact O G (λu d hx=>x u d hx)
  .rintro e a w I a0;cases e with
   |normal=>exact(a0 rfl).elim
   |exit id=>obtain⟨_,_,_,h⟩:=I;exact h.elim
   |ret=>obtain⟨_,_,_,h⟩:=I;exact h.elim
   |goto l=>exact I.elim
   |panic ch=>exact I.elim
   |outgrown=>exact I.elim
 .rintro e a' z H a0;cases e with
  |normal=>exact(a0 rfl).elim
  |exit id=>
   obtain⟨_,_,_,h⟩:=H;simp only[f57Qr]at h
  |ret=>
   obtain⟨ι,σ,hM,G⟩:=H;simp only[f57Qr]at G;obtain⟨u,hu,r,m',h',k1,k2,y,k4⟩:=KH hM G;show LeavesInM Fence.wide 0 Tryz.prog Tryz.f57 a'.tmps _ a'.defers .returning z;rw[hM.defers,a4];exact⟨u,hu,x u z ⟨r,m',h',k1,k2,y,k4⟩⟩
  |goto l=>exact H.elim
  |panic ch=>exact H.elim
  |outgrown=>exact H.elim
end Go.Ps
