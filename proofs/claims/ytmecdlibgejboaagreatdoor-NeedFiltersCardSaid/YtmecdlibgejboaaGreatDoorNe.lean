/-
  Part 5 of a proof that a law of the given program returns true: a condition generator that is proved sound, and contracts of functions. No condition of its own. Own work, joined by a program (pack2.py).
-/
import Derived.RangeFuncLeaves
import Derived.RangeFuncCalls
import Derived.Test.YtmecdlibgejboaaGreatDoorNd
set_option linter.unusedVariables false
set_option linter.unusedSimpArgs false
namespace Go.Vc
open Go List
section
variable{B:sP}{C:Ctx}{ι:cj}{σ:St}{a:Act}{w:World}{o:Oper}{K:St->Prop}
theorem TD(h:Pr C o σ K):∀c,o.op≠ .defer c:=by
 intro c b;unfold Pr at h;rw[b]at h;unfold OZ at h;rw[b]at h;exact h
theorem Vw(l:Nat){P:Program}{next:Act->World->Prop}{Q:Exit->Act->World->Prop}(e:∀c,o.op≠ .defer c)(h:o.wpIn Fence.wide 0 P a w next Q):o.wpIn (Fence.wide.inRound l) 0 P a w next Q:=by
 refine⟨λ_ _=>trivial,?_⟩;have b:o.uponIn Fence.wide 0 P a next Q ((execOp a.eval o).run P w):=h.2
 show o.uponIn (Fence.wide.inRound l) 0 P a next Q ((o.semAt (some l) a.eval).run P w)
 rw[Oper.semAt_eq _ _ _ e];cases d:(execOp a.eval o).run P w with
 |ok x f=>
  rw[d]at b;cases x<;>exact b
 |halt x f=>
  rw[d]at b;cases x<;>exact b
theorem M8(l:Nat)(b:∀g S,assoc C.specs g=some S->Sound C.P g S){ops:Array Oper}{Q:Exit->Act->World->Prop}{R:St->Prop}(r:∀ι σ a w,aL B ι σ a w->R σ->Q .normal a w):
 ∀(c:List Oper)(s:Nat)(ι:cj)(σ:St)(a:Act)(w:World),(∀j,c[j]? =ops.toList[s+j]?)->aL B ι σ a w->Pk C ops c σ R->wpOpsIn (Fence.wide.inRound l) 0 C.P ops Q (range' s c.length) a w
 |[],s,ι,σ,a,w,_,m,h=>r ι σ a w m h
 |o::c,s,ι,σ,a,w,t,m,h=>by
  have u:ops[s]? =some o:=by have:=t 0;simp at this;exact this.symm
  simp only[length_cons,range'_succ,wpOpsIn,u]
  have next:∀n e f i,aL B n e f i->Pk C ops c e R->wpOpsIn (Fence.wide.inRound l) 0 C.P ops Q (range' (s+1) c.length) f i:=λn e f i v y=>
   M8 l b r c (s+1) n e f i (λj=>by have:=t (j+1);simp only[getElem?_cons_succ]at this;rw[this];congr 1;omega) v y
  obtain⟨D,d,z,A⟩:=Cv m h;rcases A with⟨p,h⟩|⟨p,h⟩
  .rw[if_pos p];exact Vw l (TD h) (Pq b d h _ Q next)
  .rw[if_neg (by simp[p])];exact⟨λ_ _=>trivial,next ι _ _ _ (d.put o.dst (x:=.at (.val undef)) rfl) h⟩
def kB(C:Ctx):Code->Bool
 |.skip=>true
 |.ret=>true
 |.exit _=>true
 |.region id _ d=> !d&&(M9 C id).isEmpty
 |.seq x y=>(YB C y).isNone&&(Sm C y).isNone&&kB C x&&kB C y
 |.cond _ x y=>kB C x&&kB C y
 |.block _ c=>kB C c
 |_=>false
theorem Pf(l:Nat)(p:∀g S,assoc C.specs g=some S->Sound C.P g S):∀(c:Code),kB C c=true->∀(σ:St)(Q:JL->St->Prop)(ι:cj)(a:Act)(w:World),aL B ι σ a w->VC C c σ Q->c.wpIn (Fence.wide.inRound l) 0 C.P (QD B Q) a w:=by
 intro c
 induction c with
 |skip=>intro _ σ Q ι a w d h;exact wpIn_skip ⟨ι,σ,d,h⟩
 |exit id=>intro _ σ Q ι a w d h;exact wpIn_exit ⟨ι,σ,d,h⟩
 |ret=>intro _ σ Q ι a w d h;exact wpIn_ret ⟨ι,σ,d,h⟩
 |label l=>intro b;simp[kB]at b
 |goto l=>intro b;simp[kB]at b
 |refuse M=>intro b;simp[kB]at b
 |scope z F=>intro b;simp[kB]at b
 |loop z F=>intro b;simp[kB]at b
 |rangeFunc f W x y r s=>intro b;simp[kB]at b
 |region id ops A=>
  intro b σ Q ι a w d h;cases A with
  |true=>simp[kB]at b
  |false=>
   have G:M9 C id=[]:=by simpa[kB,isEmpty_iff]using b
   refine wpIn_region ?_;have h:X5 C ops (M9 C id) ops.toList σ (Q .normal):=h;rw[G]at h;have:=M8 l p (ops:=ops) (Q:=QD B Q) (R:=Q .normal) (λι σ a w d h=>⟨ι,σ,d,h⟩) ops.toList 0 ι σ a w (λj=>bj) d h;rw[range_eq_range'];simpa using this
 |seq x y r s=>
  intro b σ Q ι a w d h;simp only[kB,Bool.and_eq_true,Option.isNone_iff_eq_none]at b;obtain⟨⟨⟨N,O⟩,T⟩,U⟩:=b;simp only[VC,N,O]at h;refine wpIn_seq (wpIn_mono (r T σ _ ι a w d h) ?_);intro e J L m;cases e with
  |normal=>
   obtain⟨D,E,u,v⟩:=m;exact s U E Q D J L u v
  |exit id=>exact m
  |ret=>exact m
  |goto l=>exact m
  |panic V=>exact m
  |outgrown=>exact m
 |cond c x y r s=>
  intro b σ Q ι a w d h;simp only[kB,Bool.and_eq_true]at b;simp only[VC]at h;split at h
  .rename_i t H;have n:=d.ev c;rw[H]at n;have n:a.eval c= .bool t:=n;rcases Af h with⟨rfl,h⟩|⟨rfl,h⟩
   .exact wpIn_cond_true n (r b.1 _ Q ι a w (d.setTmp H) h)
   .exact wpIn_cond_false n (s b.2 _ Q ι a w (d.setTmp H) h)
  .exact h.elim
 |block id c F=>
  intro b σ Q ι a w d h;refine wpIn_block (wpIn_mono (F b σ _ ι a w d h) ?_);intro e J L m;cases e with
  |normal=>exact m
  |exit i=>
   obtain⟨D,E,u,v⟩:=m;show if i=id then _ else _
   simp only at v;split at v
   .rename_i I;rw[if_pos (Nat.eq_of_beq_eq_true I)];exact⟨D,E,u,v⟩
   .rename_i I;rw[if_neg (λe=>by subst e;simp at I)];exact⟨D,E,u,v⟩
  |ret=>exact m
  |goto l=>exact m
  |panic V=>exact m
  |outgrown=>exact m
def LN:Nat->Code->Code
 |n+1,.seq x y=>.seq x (LN n y)
 |_,_=>.skip
def BS:Nat->Code->Code
 |n+1,.seq _ y=>BS n y
 |_,c=>c
def thenS(Q2:St->Prop)(Q:JL->St->Prop):JL->St->Prop:=λe τ=>match e with|.normal=>Q2 τ|e=>Q e τ
theorem SU(b:∀g S,assoc C.specs g=some S->Sound C.P g S)(t:C.cuts=[])(p:C.cuts2=[]){Q2:St->Prop}{Q:JL->St->Prop}{R:Exit->Act->World->Prop}:
 ∀(n:Nat)(c:Code)(ι:cj)(σ:St)(a:Act)(w:World),aL B ι σ a w->VC C (LN n c) σ (thenS Q2 Q)->
  (∀ι τ a w,aL B ι τ a w->Q2 τ->(BS n c).wp C.P R a w)->(∀e a w,QD B Q e a w->e≠ .normal->R e a w)->c.wp C.P R a w:=by
 have f:∀y,YB C y=none:=λy=>by unfold YB;split<;>simp[t,assoc]
 have i:∀y,Sm C y=none:=λy=>by unfold Sm;split<;>simp[p,assoc]
 intro n
 induction n with
 |zero=>intro c ι σ a w j h m _;exact m ι σ a w j h
 |succ n u=>
  intro c;cases c with
  |seq x y=>
   intro ι σ a w j h m r;simp only[LN,VC,f,i]at h;refine wp_seq (wp_mono (MV b x σ _ ι a w j h) ?_);intro e v z d;cases e with
   |normal=>
    obtain⟨A,D,s,E⟩:=d;exact u y A D v z s E m r
   |exit id=>exact r _ _ _ d bj
   |ret=>exact r _ _ _ d bj
   |goto l=>exact d.elim
   |panic F=>exact d.elim
   |outgrown=>exact d.elim
  |_=>intro ι σ a w j h m _;exact m ι σ a w j h
def bKJ(B:sP)(C:Ctx)(fn:Func)(K:bu):Exit->Act->World->Prop
 |.normal,a,w=>∃ι σ,aL B ι σ a w/\EL C fn K σ
 |.ret,a,w=>∃ι σ,aL B ι σ a w/\EL C fn K σ
 |_,_,_=>False
theorem V1(b:∀g S,assoc C.specs g=some S->Sound C.P g S)(f:aL B ι σ a w){fn:Func}{c:Code}{K:bu}(h:sI C fn c σ K):c.wp C.P (bKJ B C fn K) a w:=by
 refine wp_mono (MV b c σ _ ι a w f h) ?_;intro e i j d;cases e with
 |normal=>exact d
 |ret=>exact d
 |exit id=>obtain⟨_,_,_,h⟩:=d;exact h.elim
 |goto l=>exact d.elim
 |panic m=>exact d.elim
 |outgrown=>exact d.elim
theorem aL.putM(j:aL B ι σ a w){b:Nat}{ob h:Obj}{m':MH}(r:σ.m b=some ob)(s:iV σ.m m' b h):aL B ι {σ with m:=m'} a (w.putObj b h):=by
 have f:=j.wrel;have t:b<w.heap.size:=(Array.getElem?_eq_some_iff.1 (f.msat b ob r)).1;have g:∀d,d≠b->(w.putObj b h).heap[d]? =w.heap[d]? :=λd n=>World.putObj_heap_other (λe=>n e)
 have l:∀k o,nth σ.own k=some (some o)->∀d,blk (ι k)=some d->d≠b:=λk o p d c e=>by
  have:=(j.fresh k o d p c).2.1;rw[e,r]at this;cases this
 refine⟨j.slots,j.defers,λk o p=>(j.own k o p).world (λd c=>g d (l k o p d c)),j.dist,?_,?_,j.one⟩
 .intro k o d p c;obtain⟨z,A,D⟩:=j.fresh k o d p c;exact⟨z,by show m' d=none;rw[s.other d (l k o p d c)];exact A,D⟩
 .refine⟨f.tape,f.os,f.output,f.drawn,by have:=f.size;simpa using this,?_,?_,?_,?_,f.hle,f.hold,?_⟩
  .intro d E x;rw[g d (λe=>?_)]
   .exact f.frame d E x
   .subst e;rcases f.mfr d ob r with y|y
    .omega
    .exact x y
  .intro d i v u;have n:d≠b:=λe=>by rw[e,f.disj b ob r i]at u;cases u
   rw[World.cell?_of_block (w:=w) (w':=w.putObj b h) (a:=⟨d,i,none⟩) (g d n)];exact f.hsat d i v u
  .intro d o c;have c:m' d=some o:=c;by_cases e:d=b
   .subst e;rw[s.at_]at c;cases c;exact World.putObj_heap_same t
   .rw[s.other d e]at c;rw[g d e];exact f.msat d o c
  .intro d o c i;have c:m' d=some o:=c;by_cases e:d=b
   .subst e;exact f.disj d ob r i
   .rw[s.other d e]at c;exact f.disj d o c i
  .intro d o c;have c:m' d=some o:=c;by_cases e:d=b
   .subst e;exact f.mfr d ob r
   .rw[s.other d e]at c;exact f.mfr d o c
theorem aL.putD(l:aL B ι σ a w){D:Nat}{ob:Obj}(m:Obj)(u:w.heap[D]? =some ob)(t:ob.isCells=false)(x:D<B.w0.heap.size)(p:¬B.E D):
 aL {B with E:=λb=>B.E b\/b=D} ι σ a (w.putObj D m):=by
 have h:=l.wrel;have g:∀c,c≠D->(w.putObj D m).heap[c]? =w.heap[c]? :=λc j=>World.putObj_heap_other (λe=>j e)
 have r:∀k o,nth σ.own k=some (some o)->∀c,blk (ι k)=some c->c≠D:=λk o n c d e=>by
  rcases(l.fresh k o c n d).1 with f|f
  .omega
  .exact p (e▸f)
 refine⟨l.slots,l.defers,λk o n=>(l.own k o n).world (λc d=>g c (r k o n c d)),l.dist,?_,?_,l.one⟩
 .intro k o c n d;obtain⟨y,z,A⟩:=l.fresh k o c n d;exact⟨y.imp id .inl,z,A⟩
 .refine⟨h.tape,h.os,h.output,h.drawn,by have:=h.size;simpa using this,?_,?_,?_,h.disj,h.hle,?_,?_⟩
  .intro c f s;rw[g c (λe=>s (.inr e))];exact h.frame c f (λe=>s (.inl e))
  .intro c i v F;have f:=h.hsat c i v F
   have j:c≠D:=λe=>by
    unfold World.cell? at f;rw[e]at f;dsimp only at f;rw[u]at f;cases ob<;>simp[Obj.isCells]at t f
   rw[World.cell?_of_block (w:=w) (w':=w.putObj D m) (a:=⟨c,i,none⟩) (g c j)];exact f
  .intro c o d
   have j:c≠D:=λe=>by
    rcases h.mfr c o d with f|f
    .omega
    .exact p (e▸f)
   rw[g c j];exact h.msat c o d
  .intro c f s;exact h.hold c f (λe=>s (.inl e))
  .intro c o d;exact(h.mfr c o d).imp id .inl
theorem VX{F:Fence}{n D:Nat}(j:aL B ι σ a w)(m:B.dfs=[{target:=.collected D,args:= #[]}])(l:w.heap[D]? =some (.deferred (some [])))(d:D<B.w0.heap.size)(e:¬B.E D)
 {fn:Func}{K:bu}(h:EL C fn K σ){R:Ending->World->Prop}
 (p:∀u w',(∃r m' c,K r m' c/\FW w' r u/\Ai {B with E:=λb=>B.E b\/b=D} m' c w'/\∀b,iC r u=some b->(B.w0.heap.size<=b\/(B.E b\/b=D))/\m' b=none/\∀i,c b i=none)->R (.returned u) w'):
 LeavesInM F n C.P fn a.tmps R a.defers .returning w:=by
 rw[j.defers,m];refine⟨bj,.inl ⟨D,_,rfl,run_takeDeferred l,?_⟩⟩;have f:=j.putD (.deferred none) l rfl d e;obtain⟨u,s,r,m',c,t,g,v,x⟩:=J3 f h;exact⟨u,s,p u _ ⟨r,m',c,t,g,v,x⟩⟩
theorem KV:∀(n i:Nat)(l:List (Nat×SV))(vs:bw),vs.length=n->(∀j x v,assoc l (i+j)=some x->vs[j]? =some v->Den ι x v)->DenS ι (uH (.at .junk) l n i) vs
 |0,i,l,[],_,_=>trivial
 |0,i,l,_::_,h,_=>by simp at h
 |n+1,i,l,[],h,_=>by simp at h
 |n+1,i,l,v::vs,h,b=>by
  refine⟨?_,KV n (i+1) l vs (bo h) (λj x u c d=>b (j+1) x u (by rw[<-c];congr 1;omega) (bo d))⟩;have:=b 0;cases e:assoc l i with
  |none=>trivial
  |some x=>exact this x v (bo e) rfl
end
end Go.Vc
namespace Go.Ps
open Go Go.Vc Go.Proofs List Tryz
variable{K:bu}{m:MH}{h:PH}{s:iJ}{ps:bt}{cb:Nat}{sc:cN}{v:QV}{p:Pred}{l:bt}{i:Nat}{N:Nat}{m':MH}{h':PH}{co:bt}{gr:bt}{od:ca}{ta:Int}{li:Int}{xs:List bw}{sz:Nat}{ks:List bt}{rs:bt}{r:Sl}{a:bt}{b:Nat}
def xS(b:Nat):SV:=.at (.val (.pointer (some ⟨b,0,none⟩)))
def Jm:Code->Code
 |.seq x _=>x
 |c=>c
noncomputable def cY:Ctx:=cW [] [] [] [] false
noncomputable def zS(sc:cN)(p:Sl)(v:QV)(m:MH)(h:PH):Ctx:=
 cW [(54,Bk),(76,Rm)] [(5,{A:=Nat,st:=λi=>bY 53 56 [(1,sv p),(3,.at (.ptr 3 0)),(5,.at (.ptr 5 0)),(6,.at (.ptr 6 0)),(7,.at (.ptr 7 0)),(18,sv p),(19,iv p.len),(20,iv i)] [(3,.cells 40 (sc.enc.map .val)),(5,.cells 35 (v.enc.map .val)),(6,.cells 30 [.val (.slice none 0 0)]),(7,.cells 44 [.val (.int .i64 0)])] m h})] [] [] false
def Du(sc:cN)(p:Sl)(v:QV)(b:Nat)(m:MH)(h:PH):St:=
 bY 53 56 [(1,sv p),(3,.at (.ptr 3 0)),(5,.at (.ptr 5 0)),(6,.at (.ptr 6 0)),(7,.at (.ptr 7 0)),(11,.at (.ptr 11 0)),(36,vv (.func (.func 140) #[] #[.pointer (some ⟨b,0,none⟩)]))] [(3,.cells 40 (sc.enc.map .val)),(5,.cells 35 (v.enc.map .val)),(6,.cells 30 [.val (.slice none 0 0)]),(7,.cells 44 [.val (.int .i64 0)]),(11,.cells 3 [.val (.int .i64 0)])] m h
def uJ(sc:cN)(p:Sl)(v:QV)(e:Int)(m:MH)(h:PH):St:=
 bY 53 56 [(1,sv p),(3,.at (.ptr 3 0)),(5,.at (.ptr 5 0)),(6,.at (.ptr 6 0)),(7,.at (.ptr 7 0))] [(3,.cells 40 (sc.enc.map .val)),(5,.cells 35 (v.enc.map .val)),(6,.cells 30 [.val (.slice none 0 0)]),(7,.cells 44 [.val (.int .i64 e)])] m h
end Go.Ps
namespace Go.Vc
open Go.Ps Go.Proofs List
noncomputable def Yt(sc:cN)(p:Sl)(v:QV)(m:MH)(h:PH)(G:Prop):St->Prop:=λτ=>G/\∃b m',fC m h b/\iV m m' b (.cells ⟨v.enc⟩ 35 (0,0))/\w6 τ (Du sc p v b m' h) True
noncomputable def Uy(sc:cN)(p:Sl)(v:QV)(m:MH)(h:PH)(G:Prop):St->Prop:=λτ=>VC (zS sc p v m h) (LN 1 (Jm (BS 4 (cL Tryz.f39)))) τ (thenS (Yt sc p v m h G) (λ_ _=>False))
noncomputable def PY(sc:cN)(p:Sl)(v:QV)(m:MH)(h:PH)(K:bu):JL->St->Prop:=λe τ=>match e with|.ret=>EL (zS sc p v m h) Tryz.f39 K τ|_=>False
end Go.Vc
namespace Go.Ps
open Go Go.Vc Go.Proofs List Tryz
variable{K:bu}{m:MH}{h:PH}{s:iJ}{ps:bt}{cb:Nat}{sc:cN}{v:QV}{p:Pred}{l:bt}{i:Nat}{N:Nat}{m':MH}{h':PH}{co:bt}{gr:bt}{od:ca}{ta:Int}{li:Int}{xs:List bw}{sz:Nat}{ks:List bt}{rs:bt}{r:Sl}{a:bt}{b:Nat}
def a7X(c:Int)(d e f:Nat)(m:MH)(h:PH):Prop:=
  aA (cQ e) (cQ f) (aA (cQ d) (dO c) (bS (m=m) h h))
theorem bOX(c:Int)(d f g:Nat)(m:MH)(h:PH):a7X c d f g m h=(VC cY rfA (bY 53 53 [(37,iv c),(11,xS d),(6,xS f),(7,xS g)] [] m h) (λe τ=>match e with|.normal=>w6 τ (bY 53 53 [(12,iv c),(11,xS d),(6,xS f),(7,xS g)] [] m h) True|_=>False)):=bi
def Se(c:Int)(e j n:Nat)(m:MH)(h:PH)(N T:MH->PH->Prop):Prop:=
  AJ m h e 0 (λy=>uM m e (dY (iE (y+1))) (λd=>AJ d h e 0 (λt=>mS (decide (t>24)) (uM d j pO (λf=>uM f n (dY 2) (λg=>T g h))) c 8 (uM d j pO (λf=>uM f n (dY 2) (λg=>T g h))) (N d h))))
theorem bNJ(c:Int)(d f g:Nat)(m:MH)(h:PH)(N T:MH->PH->Prop):Se c d f g m h N T=(VC cY rfB (bY 53 53 [(12,iv c),(11,xS d),(6,xS f),(7,xS g)] [] m h) (λe τ=>match e with|.normal=>N τ.m τ.h|.ret=>T τ.m τ.h|_=>False)):=bi
abbrev Gd:Prop:=eQ (oQ 30 (rI FM))
abbrev D2(a:Nat):Prop:=eQ (oQ a (rI jA))
attribute [push_cast] Gd D2
def Ku(sc:cN)(p:Sl)(v:QV)(m:MH)(h:PH)(G:Prop)(K:bu):Prop:=
  oG (λf s=>oB (bQ sc) (bQ f) (gA h s f) (dC (cX s) 0 (bU K (cX s) m h) (mP (λI x=>aA (I x) (aJ p) (aA dR dL (aA (eP 6) iR (aA (aJ p) (bI p) (aA (bF x) (cE sc) (aA (fA v) Gd (aI (D2 44) (m=m) (h=h) True))))))) (λI d x=>I x->bA (↑x:Int) (aG p) (aW (λb o=>aI (aX p.a b o) (0<=(↑x:Int)) ((↑x:Int)<aG p) (∃(y:Int),aU m h b (bN o x 1) (bJ y)/\dC y 3 (dC y 4 (dC y 5 (bU K 1 m h) (∃(c:Nat),aA (I c) (d c<d x) (aA (aJ p) dR (aA dL (eP 6) (aA iR (aJ p) (aA (bI p) (fU (bG x 1)=bP c) (aA (cE sc) (fA v) (aA Gd (D2 44) (aA (m=m) (h=h) True))))))))) (∃(c:Nat),aA (I c) (d c<d x) (aA (aJ p) dR (aA dL (eP 6) (aA iR
 (aJ p) (aA (bI p) (fU (bG x 1)=bP c) (aA (cE sc) (fA v) (aA Gd (D2 44) (aA (m=m) (h=h) True))))))))) (∃(c:Nat),aA (I c) (d c<d x) (aA (aJ p) dR (aA dL (eP 6) (aA iR (aJ p) (aA (bI p) (fU (bG x 1)=bP c) (aA (cE sc) (fA v) (aA Gd (D2 44) (aA (m=m) (h=h) True))))))))))) (∃(g:QV),jO (nE (cC v) (cC g)) (λb=>∀(j:MH),fC m h b->gO m j b g.enc 35->G/\∃(e:Nat)(n:MH),aA (fC m h e) (gO m n e v.enc 35) (aA (aJ p) dR (aA dL (eP 6) (aA iR (eP 11) (aA (Ev 140 (Array.mk (AZ b))=Ev 140 (Array.mk (AZ e))) (cE sc) (aA (fA v) Gd (aA (D2 44) (D2 3) (aA (j=n) (h=h) True)))))))))))))
theorem bgX(sc:cN)(p:Sl)(v:QV)(m:MH)(h:PH)(G:Prop)(K:bu):Ku sc p v m h G K=(VC (zS sc p v m h) (LN 4 (cL Tryz.f39)) (entry 53 [aS sc,cS p,aQ v] m h) (thenS (Uy sc p v m h G) (PY sc p v m h K))):=bi
def PT(N:Nat)(sc:cN)(p:Sl)(v:QV)(m:MH)(h:PH)(K:bu):Prop:=
  It sc p v h N (λs c q d e=>K (CV.tup (bK (dN d) (CV.val (dY (aK s c q).2)))) m e)
theorem bfJ(N:Nat)(sc:cN)(p:Sl)(v:QV)(m:MH)(h:PH)(K:bu):PT N sc p v m h K=(sI (cW [(77,Bc N)] [] [] [] false) Tryz.f39 (BS 5 (cL Tryz.f39)) (uJ sc p v 0 m h) K):=bi
def PU(sc:cN)(p:Sl)(v:QV)(m:MH)(h:PH)(K:bu):Prop:=
  bU K 2 m h
theorem bgQ(sc:cN)(p:Sl)(v:QV)(m:MH)(h:PH)(K:bu):PU sc p v m h K=(EL cY Tryz.f39 K (uJ sc p v 2 m h)):=bi
theorem Zd:BS 1 (Jm (BS 4 (cL Tryz.f39)))= .block 2 (.rangeFunc (.tmp 36) #[37,38] rfA rfB):=bi
theorem aoX:BS 4 (cL Tryz.f39)= .seq (Jm (BS 4 (cL Tryz.f39))) (BS 5 (cL Tryz.f39)):=bi
theorem Y6:kB cY rfA=true:=bi
theorem Y5:kB cY rfB=true:=bi
theorem bOQ{d:Int}{l:Nat}{R:LR}{n:Int}{z:MH}{N T:MH->PH->Prop}(F:yC m l R n)(h0:0<=n)(h1:n<=24){ob:Obj}(j:iV m z l ob)
 (V:∀m',¬(24<n+1\/8<d)->iV z m' R.bn (sJ (n+1))->N m' h)
 (W:∀m',(24<n+1\/8<d)->m' l=some ob->m' R.b6=some Hg->m' R.b7=some (FK 2)->(∃x,m' R.bn=some x)->(∀b,b≠l->b≠R.bn->b≠R.b6->b≠R.b7->m' b=m b)->T m' h):Se d R.bn R.b6 R.b7 z h N T:=by
 dsimp only[Se,push_cast];obtain⟨L,M,O,P,Q,S⟩:=F.ne;have A:z R.bn=some (sJ n):=by rw[j.other _ (λe=>L e.symm)];exact F.n_
 have X:IntKind.i64.wrap (n+1)=n+1:=dT aD aD;refine⟨n,.of_m A rfl,_,_,⟨A⟩,bj,λu c=>?_⟩;rw[X]at c;have c:iV z u R.bn (sJ (n+1)):=c;have Y:u R.b6=some Hg:=by rw[c.other _ P,j.other _ (λe=>M e.symm)];exact F.k_
 have Z:u R.b7=some (FK 0):=by rw[c.other _ Q,j.other _ (λe=>O e.symm)];exact F.e_
 have t:(24<n+1\/8<d)->∃(y:Array Value)(E:TypeId),MAt u R.b6 (.cells y E (0,0))/\0<y.size/\∀m',iV u m' R.b6 (.cells ⟨Value.slice none 0 0::y.toList.drop 1⟩ E (0,0))->∃(y:Array Value)(E:TypeId),MAt m' R.b7 (.cells y E (0,0))/\0<y.size/\∀D,iV m' D R.b7 (.cells ⟨Value.int .i64 2::y.toList.drop 1⟩ E (0,0))->T D h:=by
  intro G;refine⟨_,_,⟨Y⟩,bj,λH f=>?_⟩;have f:iV u H R.b6 Hg:=f;have I:H R.b7=some (FK 0):=by rw[f.other _ (λe=>S e.symm)];exact Z
  refine⟨_,_,⟨I⟩,bj,λU g=>?_⟩;have g:iV H U R.b7 (FK 2):=g;refine W U G ?_ ?_ g.at_ ⟨sJ (n+1),?_⟩ (λb b1 b2 b3 b4=>?_)
  .rw[g.other _ O,f.other _ M,c.other _ L];exact j.at_
  .rw[g.other _ S];exact f.at_
  .rw[g.other _ (λe=>Q e.symm),f.other _ (λe=>P e.symm)];exact c.at_
  .rw[g.other _ b4,f.other _ b3,c.other _ b2,j.other _ b1]
 refine⟨n+1,.of_m c.at_ rfl,aF (λG=>t aD) (λG=>aF (λJ=>t aD) (λJ=>V u aD c))⟩
end Go.Ps
namespace Go.Vc
open Go.Ps Go.Proofs List
theorem Ai.framed{w:World}{m:MH}{h:PH}{m':MH}{h':PH}{w':World}{g:List Deferred}(c:Ai ⟨w,λb=>m b≠none,h,g⟩ m' h' w'):XS w m h m' h' w':=
 ⟨c.tape,c.os,c.output,c.drawn,c.size,λb d f=>c.frame b d (λe=>e f),⟨c.hsat,c.msat,c.disj⟩,⟨c.hle⟩,λb d f=>c.hold b d (λe=>e f),λb o d=>c.mfr b o d⟩
end Go.Vc
namespace Go.Ps
open Go Go.Vc Go.Proofs List Tryz
variable{K:bu}{m:MH}{h:PH}{s:iJ}{ps:bt}{cb:Nat}{sc:cN}{v:QV}{p:Pred}{l:bt}{i:Nat}{N:Nat}{m':MH}{h':PH}{co:bt}{gr:bt}{od:ca}{ta:Int}{li:Int}{xs:List bw}{sz:Nat}{ks:List bt}{rs:bt}{r:Sl}{a:bt}{b:Nat}
theorem anQ:Oz Tryz.prog YS:=by
 refine⟨λl vs m h w K hS hH=>?_⟩;obtain⟨f,c,v,R,n,he,E,h0,h1,hf,ht⟩:=hS
 obtain⟨rfl,rfl⟩:f=l/\vs=[.int .i64 c,.agg ⟨v.enc⟩]:=by
  simp only[yv,cI,aQ,List.cons.injEq,CV.val.injEq,Value.func.injEq,Fn.yield.injEq,and_true]at he;refine⟨he.1.symm,?_⟩;have:=he.2
  match vs,this with
  |[a,b],h=>simp at h;simp[h.1,h.2]
  |[],h=>simp at h
  |[_],h=>simp at h
  |_::_::_::_,h=>simp at h
 have hl:=hH.msat f _ E.loop;have Y:=run_yield (P:=Tryz.prog) (args:= #[.int .i64 c,.agg ⟨v.enc⟩]) hl rfl;refine⟨_,_,_,_,Y,roundIn_of_wpIn trivial ?_⟩;obtain⟨M,Z⟩:∃M,((pR R .ready none).params.zip #[Value.int .i64 c,.agg ⟨v.enc⟩]).foldl (λtmps(t,a)=>tmps.setIfInBounds t a) (pR R .ready none).tmps=M:=⟨_,rfl⟩
 rw[Z];have F:M=(R.tmps.setIfInBounds 37 (.int .i64 c)).setIfInBounds 38 (.agg ⟨v.enc⟩):=by rw[<-Z];simp[pR]
 have a0:M.size=53:=by rw[F];simp[E.size]
 have get:∀j,j≠37->j≠38->M[j]? =R.tmps[j]? :=λj h1 h2=>by
  rw[F,Array.getElem?_setIfInBounds_ne aD,Array.getElem?_setIfInBounds_ne aD]
 have O:M[37]? =some (.int .i64 c):=by
  rw[F,Array.getElem?_setIfInBounds_ne aD,Array.getElem?_setIfInBounds_self_of_lt (by rw[E.size];omega)]
 have hM:aL ⟨w,λb=>m b≠none,h,[]⟩ (λ_=>.slice none 0 0) (bY 53 53 [(37,iv c),(11,xS R.bn),(6,xS R.b6),(7,xS R.b7)] [] m h) {tmps:=M,defers:=[]} w:=by
  refine⟨?_,rfl,?_,?_,?_,?_,λ_=>rfl⟩
  .show DenS _ (uH (.at .junk) [(37,iv c),(11,xS R.bn),(6,xS R.b6),(7,xS R.b7)] 53 0) M.toList;refine KV 53 0 _ _ (by rw[Array.length_toList];exact a0) (λj x u z g=>?_);rw[Array.getElem?_toList]at g;simp only[assoc,Nat.zero_add]at z;split at z
   .rename_i e;have:=Nat.eq_of_beq_eq_true e;subst this;rw[O]at g;simp at z g;subst z g;rfl
   .split at z
    .rename_i e;have:=Nat.eq_of_beq_eq_true e;subst this;rw[get 11 aD aD,E.t11]at g;simp at z g;subst z g;rfl
    .split at z
     .rename_i e;have:=Nat.eq_of_beq_eq_true e;subst this;rw[get 6 aD aD,E.t6]at g;simp at z g;subst z g;rfl
     .split at z
      .rename_i e;have:=Nat.eq_of_beq_eq_true e;subst this;rw[get 7 aD aD,E.t7]at g;simp at z g;subst z g;rfl
      .cases z
  .intro k o A;rw[jE]at A;have:(bY 53 53 [(37,iv c),(11,xS R.bn),(6,xS R.b6),(7,xS R.b7)] [] m h).own=replicate 53 none:=by rfl
   rw[this,getElem?_replicate]at A;split at A<;>cases A
  .intro k k' o o' b A;rw[jE]at A;have:(bY 53 53 [(37,iv c),(11,xS R.bn),(6,xS R.b6),(7,xS R.b7)] [] m h).own=replicate 53 none:=by rfl
   rw[this,getElem?_replicate]at A;split at A<;>cases A
  .intro k o b A;rw[jE]at A;have:(bY 53 53 [(37,iv c),(11,xS R.bn),(6,xS R.b6),(7,xS R.b7)] [] m h).own=replicate 53 none:=by rfl
   rw[this,getElem?_replicate]at A;split at A<;>cases A
  .exact⟨rfl,rfl,rfl,Nat.le_refl _,Nat.le_refl _,λ_ _ _=>rfl,hH.hsat,hH.msat,hH.disj,λ_ _ _ e=>e,λ_ _ _=>rfl,λb o I=>.inr (by show m b≠none;rw[show m b=some o from I];simp)⟩
 have hA:=Pf (C:=cY) f aH rfA Y6 _ _ _ _ _ hM (by
  rw[<-bOX c R.bn R.b6 R.b7 m h];exact MT)
 refine wpIn_mono hA ?_;intro e a1 w1 X;cases e with
 |normal=>
  obtain⟨ι1,τ,a3,a4⟩:=X;obtain⟨ι2,a',_⟩:=pV a3 a4;have a5:w1.heap[f]? =some (.loop (pR R .ready none)):=a'.wrel.msat f _ E.loop;refine⟨_,run_beginRound a5 rfl,?_⟩;obtain⟨Q,J⟩:∃Q,iV m Q f (.loop {pR R .ready none with state:=.busy}):=⟨λb=>if b=f then some (.loop {pR R .ready none with state:=.busy})else m b,bj,λb I=>by simp[I]⟩
  have a6:aL ⟨w,λb=>m b≠none,h,[]⟩ ι2 (bY 53 53 [(12,iv c),(11,xS R.bn),(6,xS R.b6),(7,xS R.b7)] [] Q h) a1 _:=a'.putM (m':=Q) E.loop J
  have hB:=Pf (C:=cY) f aH rfB Y5 _ (λe τ=>match e with
   |.normal=>(∃m',τ.m=m'/\τ.h=h/\¬(24<n+1\/8<c)/\iV Q m' R.bn (sJ (n+1)))
   |.ret=>(∃m',τ.m=m'/\τ.h=h/\(24<n+1\/8<c)/\m' f=some (.loop {pR R .ready none with state:=.busy})/\m' R.b6=some Hg/\m' R.b7=some (FK 2)/\(∃x,m' R.bn=some x)/\(∀b,b≠f->b≠R.bn->b≠R.b6->b≠R.b7->m' b=m b))
   |_=>False) _ _ _ a6 (by
   rw[<-bNJ c R.bn R.b6 R.b7 Q h (λm2 h2=>∃m',m2=m'/\h2=h/\¬(24<n+1\/8<c)/\iV Q m' R.bn (sJ (n+1))) (λm2 h2=>∃m',m2=m'/\h2=h/\(24<n+1\/8<c)/\m' f=some (.loop {pR R .ready none with state:=.busy})/\m' R.b6=some Hg/\m' R.b7=some (FK 2)/\(∃x,m' R.bn=some x)/\(∀b,b≠f->b≠R.bn->b≠R.b6->b≠R.b7->m' b=m b))];exact bOQ E h0 h1 J (λm' S g=>⟨m',rfl,rfl,S,g⟩) (λm' S k1 k2 k3 k4 k5=>⟨m',rfl,rfl,S,k1,k2,k3,k4,k5⟩))
  refine wpIn_mono hB ?_;obtain⟨n1,n2,n3,n4,n5,n6⟩:=E.ne;intro e a2 w2 D;cases e with
  |normal=>
   obtain⟨ι3,T,G,m',y,U,S,g⟩:=D;have H:T.m f=some (.loop {pR R .ready none with state:=.busy}):=by rw[y,g.other _ n1];exact J.at_
   have V:=G.wrel.msat f _ H;obtain⟨L,d⟩:∃L,iV T.m L f (.loop (pR R .ready none)):=⟨λb=>if b=f then some (.loop (pR R .ready none))else T.m b,bj,λb I=>by simp[I]⟩
   have W:=G.putM H d;refine⟨_,_,run_endRound none V,_,L,h,rfl,ht L S ⟨?_,λb I=>?_⟩,?_⟩
   .rw[d.other _ (λe=>n1 e.symm),y];exact g.at_
   .by_cases e:b=f
    .subst e;rw[d.at_];exact E.loop.symm
    .rw[d.other _ e,y,g.other _ I,J.other _ e]
   .have:=W.wrel;rw[U]at this;exact this.framed
  |ret=>
   obtain⟨ι3,T,G,m',y,U,S,k1,k2,k3,k4,k5⟩:=D;have H:T.m f=some (.loop {pR R .ready none with state:=.busy}):=by rw[y];exact k1
   have V:=G.wrel.msat f _ H;obtain⟨L,d⟩:∃L,iV T.m L f (.loop (pR R .done (some .ret))):=⟨λb=>if b=f then some (.loop (pR R .done (some .ret)))else T.m b,bj,λb I=>by simp[I]⟩
   have W:=G.putM H d;refine⟨_,_,run_endRound (some .ret) V,_,L,h,rfl,hf L S ⟨d.at_,?_,?_,?_,λb b1 b2 b3 b4=>?_⟩,?_⟩
   .rw[d.other _ (λe=>n2 e.symm),y];exact k2
   .rw[d.other _ (λe=>n3 e.symm),y];exact k3
   .rw[d.other _ (λe=>n1 e.symm),y];exact k4
   .rw[d.other _ b1,y];exact k5 b b1 b2 b3 b4
   .have:=W.wrel;rw[U]at this;exact this.framed
  |exit id=>obtain⟨_,_,_,h⟩:=D;exact h.elim
  |goto t=>exact D.elim
  |panic ch=>exact D.elim
  |outgrown=>exact D.elim
 |ret=>obtain⟨_,_,_,h⟩:=X;exact h.elim
 |exit id=>obtain⟨_,_,_,h⟩:=X;exact h.elim
 |goto t=>exact X.elim
 |panic ch=>exact X.elim
 |outgrown=>exact X.elim
theorem bgZ{p:Sl}{q:Query}{G:Prop}(u:gA h s sc)(j:Ints h p ps)(g:KR K m h (dU s ps q))(y:cX s=0->ps.all eD=true->G):Ku sc p v m h G K:=by
 dsimp only[Ku,push_cast];have z:=j.slen;have t:=j.len;unfold dU at g;refine⟨sc,s,rfl,u,aC (λd=>g.err (.refl _) (if_neg (bo d))) (λd=>?_)⟩;have d:cX s=0:=bo d
 rw[if_pos d]at g;refine⟨λi=>i<=ps.length/\(ps.take i).all eD=true,λi=>ps.length-i,⟨0,⟨aD,bj⟩,MT⟩,λi⟨L,c⟩=>aF (λf=>?_) (λA=>⟨v,rfl,λb m' D E=>⟨y d ?_,b,m',D,E,MT⟩⟩)⟩
 .obtain⟨x,n⟩:=eF z f;obtain⟨b,o,e,r⟩:=j.at' n;refine⟨b,o,e,aD,f,x,.imm r,?_⟩;have good:eD x=true->(ps.take (i+1)).all eD=true:=λF=>by rw[Ah n,c,F];rfl
  refine aC (λH=>aC (λI=>aC (λJ=>g.err (.refl _) (if_neg λe=>?_)) (λJ=>⟨i+1,⟨aD,good ?_⟩,by show ps.length-(i+1)<ps.length-i;omega,MT⟩)) (λI=>⟨i+1,⟨aD,good ?_⟩,by show ps.length-(i+1)<ps.length-i;omega,MT⟩)) (λH=>⟨i+1,⟨aD,good ?_⟩,by show ps.length-(i+1)<ps.length-i;omega,MT⟩)
  .have:eD x=false:=by simp_all [eD]
   rw[Cz n this]at e;cases e
  .simp_all [eD]
  .simp_all [eD]
  .simp_all [eD]
 .rw[take_of_length_le aD]at c;exact c
theorem TF{α:Type}(d:α)(l:List (Nat×α)):∀(n i k:Nat),nth (uH d l n i) k=if k<n then some (match assoc l (i+k)with|some x=>x|none=>d)else none
 |0,i,k=>by simp[uH,nth]
 |n+1,i,0=>by rw[if_pos aD];rfl
 |n+1,i,k+1=>by
  simp only[uH,nth];rw[TF d l n (i+1) k,show i+1+k=i+(k+1)by omega];by_cases h:k<n
  .rw[if_pos h,if_pos aD]
  .rw[if_neg h,if_neg aD]
theorem HN{p:Sl}{e:Int}{k:Nat}{o:Vc.Own}(d:nth (uJ sc p v e m h).own k=some (some o)):
 (k=3/\o= .cells 40 (sc.enc.map .val))\/(k=5/\o= .cells 35 (v.enc.map .val))\/(k=6/\o= .cells 30 [.val (.slice none 0 0)])\/(k=7/\o= .cells 44 [.val (.int .i64 e)]):=by
 have:(uJ sc p v e m h).own=uH none [(3,some (.cells 40 (sc.enc.map .val))),(5,some (.cells 35 (v.enc.map .val))),(6,some (.cells 30 [.val (.slice none 0 0)])),(7,some (.cells 44 [.val (.int .i64 e)]))] 56 0:=rfl;rw[this,TF]at d;split at d
 .simp only[Nat.zero_add,Option.some.injEq]at d;split at d
  .rename_i x c;subst d;simp only[assoc]at c;split at c
   .rename_i e;have:=Nat.eq_of_beq_eq_true e;simp at c;exact .inl ⟨this.symm,c.symm⟩
   .split at c
    .rename_i e;have:=Nat.eq_of_beq_eq_true e;simp at c;exact .inr (.inl ⟨this.symm,c.symm⟩)
    .split at c
     .rename_i e;have:=Nat.eq_of_beq_eq_true e;simp at c;exact .inr (.inr (.inl ⟨this.symm,c.symm⟩))
     .split at c
      .rename_i e;have:=Nat.eq_of_beq_eq_true e;simp at c;exact .inr (.inr (.inr ⟨this.symm,c.symm⟩))
      .cases c
  .cases d
 .cases d
def mark(D:Nat):Deferred:={target:=.collected D,args:= #[]}
theorem Fj{B:sP}{ι:cj}{σ:St}{a:Act}{w:World}(d:aL B ι σ a w){k T:Nat}{l:bw}(e:nth σ.own k=some (some (.cells T (l.map .val)))):∃b,ι k= .pointer (some ⟨b,0,none⟩)/\w.heap[b]? =some (.cells ⟨l⟩ T (0,0)):=by
 obtain⟨b,j,f,g,c⟩:=vN d e;rw[iG.vals]at c;refine⟨b,f,?_⟩;rw[g, <-c]
theorem M7{B:sP}{ι:cj}{σ:St}{a:Act}{w:World}(e:aL B ι σ a w){t k:Nat}(f:σ.sl[t]? =some (.at (.ptr k 0)))(g:ι k= .pointer (some ⟨b,0,none⟩)):a.tmps[t]? =some (.pointer (some ⟨b,0,none⟩)):=by
 obtain⟨v,j,n,c,d⟩:=e.slots.get t _ f;rw[g]at c;simp only[Value.pointer.injEq,Option.some.injEq,Addr.mk.injEq,and_true]at c;rw[<-c]at d;rw[<-Array.getElem?_toList,j,d]
theorem aqQ{B:sP}{ι:cj}{a:Act}{w:World}{p:Sl}{q:Query}{F:Nat}(g:aL B ι (Du sc p v F m' h) a w)(e2:B.dfs=[])(c1:fC m h F)(a5:iV m m' F (.cells ⟨v.enc⟩ 35 (0,0)))(hq:eO h q v){Q:Exit->Act->World->Prop}
 (e3:∀(e:Int)(D:Nat)(E:Nat->Prop)(a':Act)(w':World),aL ⟨w',E,h,[mark D]⟩ ι (uJ sc p v e m h) a' w'->Ai B m h w'->(∀b,E b->B.w0.heap.size<=b\/B.E b)->B.w0.heap.size<=D->w'.heap[D]? =some (.deferred (some []))->¬E D->
  ((uX q 8 0).1=true->e=0->Q .normal a' w')/\((uX q 8 0).1=false->e=2->Q .ret a' w')):
 (Code.rangeFunc (.tmp 36) #[37,38] rfA rfB).wp Tryz.prog Q a w:=by
 have J:=g.wrel;obtain⟨b3,a6,c2⟩:=Fj g (k:=3) (T:=40) (l:=sc.enc) rfl;obtain⟨b5,a7,c3⟩:=Fj g (k:=5) (T:=35) (l:=v.enc) rfl;obtain⟨L,P,c4⟩:=Fj g (k:=6) (T:=30) (l:=[.slice none 0 0]) rfl;obtain⟨O,S,c5⟩:=Fj g (k:=7) (T:=44) (l:=[.int .i64 0]) rfl;obtain⟨bn,a0,c6⟩:=Fj g (k:=11) (T:=3) (l:=[.int .i64 0]) rfl;have e4:=M7 g (t:=11) (k:=11) rfl a0;have t6:=M7 g (t:=6) (k:=6) rfl P;have t7:=M7 g (t:=7) (k:=7) rfl S;have c7:a.tmps.size=53:=by have:=g.slots.length;rw[Array.length_toList]at this;rw[<-this];rfl
 have e5:a.eval (.tmp 36)= .func (.func 140) #[] #[.pointer (some ⟨F,0,none⟩)]:=g.ev (.tmp 36);have a8:w.heap[F]? =some (.cells ⟨v.enc⟩ 35 (0,0)):=J.msat F _ a5.at_;have e6:=(Array.getElem?_eq_some_iff.1 c2).1;have e7:=(Array.getElem?_eq_some_iff.1 c3).1;have e8:=(Array.getElem?_eq_some_iff.1 c4).1;have e9:=(Array.getElem?_eq_some_iff.1 c5).1;have f':=(Array.getElem?_eq_some_iff.1 c6).1;have f0:=(Array.getElem?_eq_some_iff.1 a8).1;have f3:=g.fresh 3 _ b3 rfl (by rw[a6];rfl);have f5:=g.fresh 5 _ b5 rfl (by rw[a7];rfl);have f6:=g.fresh 6 _ L rfl (by rw[P];rfl);have f7:=g.fresh 7 _ O rfl (by rw[S];rfl);have b1:=g.fresh 11 _ bn rfl (by rw[a0];rfl);have f1:b3≠L:=λe=>by have:=g.dist 3 6 _ _ b3 rfl rfl (by rw[a6];rfl) (by rw[P,e];rfl);omega
 have f2:b3≠O:=λe=>by have:=g.dist 3 7 _ _ b3 rfl rfl (by rw[a6];rfl) (by rw[S,e];rfl);omega
 have f4:b3≠bn:=λe=>by have:=g.dist 3 11 _ _ b3 rfl rfl (by rw[a6];rfl) (by rw[a0,e];rfl);omega
 have f8:b5≠L:=λe=>by have:=g.dist 5 6 _ _ b5 rfl rfl (by rw[a7];rfl) (by rw[P,e];rfl);omega
 have f9:b5≠O:=λe=>by have:=g.dist 5 7 _ _ b5 rfl rfl (by rw[a7];rfl) (by rw[S,e];rfl);omega
 have g':b5≠bn:=λe=>by have:=g.dist 5 11 _ _ b5 rfl rfl (by rw[a7];rfl) (by rw[a0,e];rfl);omega
 have g0:L≠O:=λe=>by have:=g.dist 6 7 _ _ L rfl rfl (by rw[P];rfl) (by rw[S,e];rfl);omega
 have c8:L≠bn:=λe=>by have:=g.dist 6 11 _ _ L rfl rfl (by rw[P];rfl) (by rw[a0,e];rfl);omega
 have c9:O≠bn:=λe=>by have:=g.dist 7 11 _ _ O rfl rfl (by rw[S];rfl) (by rw[a0,e];rfl);omega
 have a1:∀b,m' b=none->b≠F:=λb f e=>by rw[e,a5.at_]at f;cases f
 have q3:=a1 b3 f3.2.1;have q5:=a1 b5 f5.2.1;have q6:=a1 L f6.2.1;have q7:=a1 O f7.2.1;have qn:=a1 bn b1.2.1;refine(wpIn_wide (n:=0)).1 (wpIn_rangeFunc ?_);intro fn h9;obtain⟨l,hl⟩:∃l,l=w.heap.size+1:=⟨_,rfl⟩
 obtain⟨D,hD⟩:∃D,D=w.heap.size:=⟨_,rfl⟩
 let R:LR:=⟨fn,a.tmps,bn,L,O,D⟩
 obtain⟨W1,H⟩:∃W1,(w.alloc (.deferred (some []))).alloc (.loop (pR R .ready none))=W1:=⟨_,rfl⟩
 have s1:W1.heap.size=w.heap.size+2:=by rw[<-H];simp
 have a2:∀b,b<w.heap.size->W1.heap[b]? =w.heap[b]? :=λb f=>by
  rw[<-H,fI _ _ (by simp;omega),fI _ _ f]
 have d':W1.heap[D]? =some (.deferred (some [])):=by
  rw[<-H,hD,fI _ _ bj];exact jX w _
 have d0:W1.heap[l]? =some (.loop (pR R .ready none)):=by
  rw[<-H,hl];have:=jX (w.alloc (.deferred (some []))) (.loop (pR R .ready none))
  rwa [World.size_alloc]at this
 let M:MH:=λb=>if b=l then some (.loop (pR R .ready none))else if b=bn then some (sJ 0)else if b=L then some Hg else if b=O then some (FK 0)else if b=F then some (.cells ⟨v.enc⟩ 35 (0,0))else none
 have b2:M l=some (.loop (pR R .ready none)):=by simp[M]
 have d5:M bn=some (sJ 0):=(if_neg aD).trans (if_pos rfl);have b4:M L=some Hg:=(if_neg aD).trans ((if_neg c8).trans (if_pos rfl));have b8:M O=some (FK 0):=(if_neg aD).trans ((if_neg c9).trans ((if_neg (Ne.symm g0)).trans (if_pos rfl)));have d6:M F=some (.cells ⟨v.enc⟩ 35 (0,0)):=(if_neg aD).trans ((if_neg (Ne.symm qn)).trans ((if_neg (Ne.symm q6)).trans ((if_neg (Ne.symm q7)).trans (if_pos rfl))));have a3:∀b,b≠l->b≠bn->b≠L->b≠O->b≠F->M b=none:=λb h1 h2 h3 h4 h5=>(if_neg h1).trans ((if_neg h2).trans ((if_neg h3).trans ((if_neg h4).trans (if_neg h5))))
 have d7:∀b o,M b=some o->b=l\/b=bn\/b=L\/b=O\/b=F:=λb o f=>by
  refine Classical.byContradiction λhn=>?_;rw[a3 b (λe=>hn (.inl e)) (λe=>hn (.inr (.inl e))) (λe=>hn (.inr (.inr (.inl e)))) (λe=>hn (.inr (.inr (.inr (.inl e))))) (λe=>hn (.inr (.inr (.inr (.inr e)))))]at f;cases f
 have U:∀b i x,h b i=some x->b<w.heap.size:=λb i x z=>World.block_lt_of_cell? w ⟨b,i,none⟩ (J.hsat b i x z);have hL:yC M l R 0:=⟨b2,d5,b4,b8,c7,e4,t6,t7⟩
 have d8:Bd W1 M h [yv l,XC F] [.func (.yield l) #[] #[],.pointer (some ⟨F,0,none⟩)]:=by
  refine⟨⟨rfl,rfl,trivial⟩,?_,?_,?_,?_,?_⟩
  .intro b i x z;rw[World.cell?_of_block (w:=w) (w':=W1) (a:=⟨b,i,none⟩) (a2 b (U b i x z))];exact J.hsat b i x z
  .intro b o f;rcases d7 b o f with rfl|rfl|rfl|rfl|rfl
   .rw[b2]at f;cases f;exact d0
   .rw[d5]at f;cases f;rw[a2 _ f'];exact c6
   .rw[b4]at f;cases f;rw[a2 _ e8];exact c4
   .rw[b8]at f;cases f;rw[a2 _ e9];exact c5
   .rw[d6]at f;cases f;rw[a2 _ f0];exact a8
  .intro b o f i;rcases d7 b o f with rfl|rfl|rfl|rfl|rfl
   .cases e:h b i with
    |none=>rfl
    |some x=>have:=U _ _ _ e;omega
   .exact b1.2.2 i
   .exact f6.2.2 i
   .exact f7.2.2 i
   .exact c1.h_ i
  .intro i j c d u u' b A hu hj hv f
   have:∃x,c= .val x:=by
    match i,A with
    |0,A=>simp[yv]at A;exact⟨_,A.symm⟩
    |1,A=>simp[XC]at A;exact⟨_,A.symm⟩
    |_+2,A=>simp at A
   obtain⟨x,rfl⟩:=this;simp[iC]at f
  .intro i c u b A hu f
   have:∃x,c= .val x:=by
    match i,A with
    |0,A=>simp[yv]at A;exact⟨_,A.symm⟩
    |1,A=>simp[XC]at A;exact⟨_,A.symm⟩
    |_+2,A=>simp at A
   obtain⟨x,rfl⟩:=this;simp[iC]at f
 have b9:=(W5 anQ).2 [yv l,XC F] [.func (.yield l) #[] #[],.pointer (some ⟨F,0,none⟩)] M h W1 (λ_ mm hh=>hh=h/\(((uX q 8 0).1=false/\zX M mm l R)\/((uX q 8 0).1=true/\∃n,iV M mm bn (sJ n))))
  ⟨v,q,l,F,R,rfl,d6,hq,hL,λmm hv hs=>⟨rfl,.inl ⟨hv,hs⟩⟩,λmm hv hu=>⟨rfl,.inr ⟨hv,_,hu⟩⟩⟩ d8
 have c':(Instr.enterLoop fn a.tmps #[37,38] rfA rfB Fence.wide.round).run Tryz.prog w= .ok (l,[mark D]) W1:=by
  subst hD hl;rw[<-H];exact run_enterLoop_outer _ _ _ _ _
 refine⟨l,[mark D],W1,{target:=.fn (.func 140) #[.pointer (some ⟨F,0,none⟩)],args:= #[.func (.yield l) #[] #[]]},W1,140, #[.func (.yield l) #[] #[],.pointer (some ⟨F,0,none⟩)],W1,c',?_,λ_ _=>trivial,?_,λe=>by simp[Fence.wide]at e,callsIn_wide.2 ?_⟩
 .simp only[resolve,rangeCall,e5];simp[go_sem]
 .have hf:Tryz.prog.funcs[140]? =some Tryz.f140:=func140;have g4:¬Tryz.f140.body=none:=by intro e;have:Tryz.f140.body=some (cL Tryz.f140):=rfl;rw[this]at e;cases e
  have g5:¬Tryz.f140.name= "runtime.NumGoroutine" :=bk
  simp only[invoke,callFunc];simp[program,Sem.run,hf,g5,g4]
 refine b9.mono ?_;rintro e V ⟨r,u,mm,hh,rfl,⟨c0,d9⟩,i',G,_⟩;have c0:=c0.symm;subst c0
 have a4:∀b,M b=none->¬xG M [yv l,XC F] [.func (.yield l) #[] #[],.pointer (some ⟨F,0,none⟩)] b:=by
  rintro b f (h1|⟨i,c,u,A,hu,hc⟩)
  .exact h1 f
  .have:∃x,c= .val x:=by
    match i,A with
    |0,A=>simp[yv]at A;exact⟨_,A.symm⟩
    |1,A=>simp[XC]at A;exact⟨_,A.symm⟩
    |_+2,A=>simp at A
   obtain⟨x,rfl⟩:=this;simp[iC]at hc
 have a9:∀b,b<W1.heap.size->M b=none->V.heap[b]? =W1.heap[b]? :=λb f hn=>G.frame b f (a4 b hn);have X:=G.size;have X:W1.heap.size<=V.heap.size:=X;obtain⟨n1,n2,n3,n4,n5,n6⟩:=hL.ne
 have key:∀(e:Int)(st:LoopState)(pe:Option Code),st≠ .busy->mm l=some (.loop (pR R st pe))->mm L=some Hg->mm O=some (FK e)->
  (Instr.endLoop l).run Tryz.prog V= .ok pe (V.putObj l (.loop {pR R st pe with state:=.exhausted}))/\
  ((uX q 8 0).1=true->e=0->Q .normal {a with defers:=[mark D]++a.defers} (V.putObj l (.loop {pR R st pe with state:=.exhausted})))/\
  ((uX q 8 0).1=false->e=2->Q .ret {a with defers:=[mark D]++a.defers} (V.putObj l (.loop {pR R st pe with state:=.exhausted}))):=by
  intro e st pe g6 kl k6 k7;have g7:=G.msat l _ kl;refine⟨run_endLoop g7 g6,?_⟩;obtain⟨Y,W⟩:∃Y,V.putObj l (.loop {pR R st pe with state:=.exhausted})=Y:=⟨_,rfl⟩
  rw[W];have b':∀b,b≠l->Y.heap[b]? =V.heap[b]? :=λb f=>by rw[<-W];exact World.putObj_heap_other (λe=>f e)
  have s4:Y.heap.size=V.heap.size:=by rw[<-W];simp
  have Z:∀b,b<w.heap.size->M b=none->Y.heap[b]? =w.heap[b]? :=λb f hn=>by
   rw[b' b aD,a9 b aD hn,a2 b f]
  have I:∀b o,m b=some o->M b=none/\b<w.heap.size/\m' b=some o:=λb o f=>by
   have a8:b≠F:=λe=>by rw[e,c1.m_]at f;cases f
   have b0:m' b=some o:=by rw[a5.other b a8];exact f
   have g8:=(Array.getElem?_eq_some_iff.1 (J.msat b o b0)).1
   have ne:∀c,(Du sc p v F m' h).m c=none->b≠c:=λc hc e=>by
    have hc:m' c=none:=hc;rw[<-e,b0]at hc;cases hc
   exact⟨a3 b aD (ne _ b1.2.1) (ne _ f6.2.1) (ne _ f7.2.1) a8,g8,b0⟩
  have e':∀b i x,h b i=some x->Y.cell? ⟨b,i,none⟩=some x:=λb i x z=>by
   have f:b≠l:=λe=>by have:=U b i x z;omega
   rw[World.cell?_of_block (w:=V) (w':=Y) (a:=⟨b,i,none⟩) (b' b f)];exact G.hsat b i x z
  have wr:Ai B m h Y:=by
   refine⟨?_,?_,?_,?_,?_,?_,e',?_,?_,J.hle,J.hold,?_⟩
   .have:Y.tape=V.tape:=by rw[<-W];rfl
    rw[this,G.tape];show W1.tape=_;rw[<-H];exact J.tape
   .have:Y.os=V.os:=by rw[<-W];rfl
    rw[this,G.os];show W1.os=_;rw[<-H];exact J.os
   .have:Y.output=V.output:=by rw[<-W];rfl
    rw[this,G.output];show W1.output=_;rw[<-H];exact J.output
   .have d4:Y.drawn=V.drawn:=by rw[<-W];rfl
    have d3:W1.drawn<=V.drawn:=G.drawn;have d2:W1.drawn=w.drawn:=by rw[<-H];rfl
    have d1:B.w0.drawn<=w.drawn:=J.drawn;omega
   .have:=J.size;omega
   .intro b f e0;have g9:b<w.heap.size:=Nat.lt_of_lt_of_le f J.size
    have ne:∀c,(B.w0.heap.size<=c\/B.E c)->b≠c:=λc hc e=>by
     subst e;rcases hc with h1|h1
     .omega
     .exact e0 h1
    rw[Z b g9 (a3 b aD (ne _ b1.1) (ne _ f6.1) (ne _ f7.1) (ne _ (J.mfr F _ a5.at_)))];exact J.frame b f e0
   .intro b o f;obtain⟨k1,k2,k3⟩:=I b o f;rw[Z b k2 k1];exact J.msat b o k3
   .intro b o f i;exact J.disj b o (I b o f).2.2 i
   .intro b o f;exact J.mfr b o (I b o f).2.2
  have h0:Y.heap[D]? =some (.deferred (some [])):=by
   rw[b' D aD,a9 D aD (a3 D aD aD aD aD aD)];exact d'
  refine e3 e D (λb=>m b≠none\/∃k o,nth (Du sc p v F m' h).own k=some (some o)/\blk (ι k)=some b) {a with defers:=[mark D]++a.defers} Y ⟨?_,?_,?_,?_,?_,?_,g.one⟩ wr ?_ ?_ h0 ?_
  .show DenS ι (uH (.at .junk) [(1,sv p),(3,.at (.ptr 3 0)),(5,.at (.ptr 5 0)),(6,.at (.ptr 6 0)),(7,.at (.ptr 7 0))] 53 0) a.tmps.toList;refine KV 53 0 _ _ (by rw[Array.length_toList];exact c7) (λj x u z hu=>?_)
   have get:∀(t:Nat)(y:SV),(Du sc p v F m' h).sl[t]? =some y->t=j->Den ι y u:=λt y ht e=>by
    obtain⟨v',e1,h6⟩:=g.slots.get t y ht;subst e;rw[hu]at e1;cases e1;exact h6
   simp only[assoc,Nat.zero_add]at z;split at z
   .rename_i e;simp at z;subst z;exact get 1 _ rfl (Nat.eq_of_beq_eq_true e)
   .split at z
    .rename_i e;simp at z;subst z;exact get 3 _ rfl (Nat.eq_of_beq_eq_true e)
    .split at z
     .rename_i e;simp at z;subst z;exact get 5 _ rfl (Nat.eq_of_beq_eq_true e)
     .split at z
      .rename_i e;simp at z;subst z;exact get 6 _ rfl (Nat.eq_of_beq_eq_true e)
      .split at z
       .rename_i e;simp at z;subst z;exact get 7 _ rfl (Nat.eq_of_beq_eq_true e)
       .cases z
  .show[mark D]++a.defers=[mark D]
   rw[g.defers,e2];rfl
  .intro k o hk;rcases HN hk with⟨rfl,rfl⟩|⟨rfl,rfl⟩|⟨rfl,rfl⟩|⟨rfl,rfl⟩
   .exact⟨b3,_,a6,by rw[Z b3 e6 (a3 b3 aD f4 f1 f2 q3)];exact c2,iG.vals.2 rfl,λ_ e=>by cases e⟩
   .exact⟨b5,_,a7,by rw[Z b5 e7 (a3 b5 aD g' f8 f9 q5)];exact c3,iG.vals.2 rfl,λ_ e=>by cases e⟩
   .exact⟨L,_,P,by rw[b' L aD];exact G.msat L _ k6,iG.vals (l:=[.slice none 0 0]).2 rfl,λ_ e=>by cases e⟩
   .exact⟨O,_,S,by rw[b' O aD];exact G.msat O _ k7,iG.vals (l:=[.int .i64 e]).2 rfl,λ_ e=>by cases e⟩
  .have up:∀k o,nth (uJ sc p v e m h).own k=some (some o)->∃o',nth (Du sc p v F m' h).own k=some (some o'):=λk o hk=>by
    rcases HN hk with⟨rfl,rfl⟩|⟨rfl,rfl⟩|⟨rfl,rfl⟩|⟨rfl,rfl⟩<;>exact⟨_,rfl⟩
   intro k k' o o' b hk h7 f b0;obtain⟨x,z⟩:=up k o hk;obtain⟨x',h8⟩:=up k' o' h7;exact g.dist k k' x x' b z h8 f b0
  .have up:∀k o,nth (uJ sc p v e m h).own k=some (some o)->∃o',nth (Du sc p v F m' h).own k=some (some o'):=λk o hk=>by
    rcases HN hk with⟨rfl,rfl⟩|⟨rfl,rfl⟩|⟨rfl,rfl⟩|⟨rfl,rfl⟩<;>exact⟨_,rfl⟩
   intro k o b hk f;obtain⟨x,z⟩:=up k o hk;obtain⟨g1,g2,g3⟩:=g.fresh k x b z f;refine⟨.inr (.inr ⟨k,x,z,f⟩),?_,g3⟩;show m b=none;have g2:m' b=none:=g2;rw[<-a5.other b (a1 b g2)];exact g2
  .exact⟨rfl,rfl,rfl,Nat.le_refl _,Nat.le_refl _,λ_ _ _=>rfl,e',wr.msat,wr.disj,λ_ _ _ e=>e,λ_ _ _=>rfl,λb o f=>.inr (.inl (by rw[show m b=some o from f];simp))⟩
  .rintro b (h1|⟨k,o,hk,f⟩)
   .cases e:m b with
    |none=>exact(h1 e).elim
    |some o=>exact wr.mfr b o e
   .exact(g.fresh k o b hk f).1
  .rw[hD];exact J.size
  .rintro(h1|⟨k,o,hk,f⟩)
   .cases e:m D with
    |none=>exact h1 e
    |some o=>have:=(I D o e).2.1;omega
   .have:=qR (g.own k o hk) f;omega
 rcases d9 with⟨hv,hs⟩|⟨hv,n,hu⟩
 .obtain⟨r1,_,r3⟩:=key 2 .done (some .ret) bj hs.loop hs.k_ hs.e_;exact⟨_,_,r1,wpIn_ret (r3 hv rfl)⟩
 .obtain⟨r1,r2,_⟩:=key 0 .ready none bj (by rw[hu.other l n1];exact b2) (by rw[hu.other L c8];exact b4) (by rw[hu.other O c9];exact b8);exact⟨_,_,r1,r2 hv rfl⟩
set_option maxRecDepth 100000 in
theorem PX:br 39 vQ:=by
 refine⟨⟨Tryz.f39,func39,rfl,bk⟩,?_⟩;rintro b6 vs m h w K ⟨sc,p,v,s,ps,q,rfl,hs,hp,I,T⟩ a3;refine callsIn_wide.1 (callsIn_of_wp_marks (n:=0) func39 (show Tryz.f39.body=some (cL Tryz.f39)from rfl) trivial (wpIn_wide.2 ?_));have U:=Jt Tryz.f39.ntmps a3;have hn:Tryz.f39.ntmps=53:=bi
 rw[hn]at U⊢
 obtain⟨B,hB⟩:∃B:sP,B=⟨w,xG m [aS sc,cS p,aQ v] vs,h,[]⟩:=⟨_,rfl⟩
 rw[<-hB]at U;have a4:B.dfs=[]:=by rw[hB]
 have t:∀g S,assoc (zS sc p v m h).specs g=some S->Sound (zS sc p v m h).P g S:=aE ag (aE ZY aH)
 have x:∀u z,(∃r m' h',K r m' h'/\FW z r u/\Ai B m' h' z/\∀b,iC r u=some b->(B.w0.heap.size<=b\/B.E b)/\m' b=none/\∀i,h' b i=none)->
  ∃r u' m' h',Ending.returned u= .returned u'/\K r m' h'/\FW z r u'/\Ai ⟨w,xG m [aS sc,cS p,aQ v] vs,h,[]⟩ m' h' z/\(∀b,iC r u'=some b->(w.heap.size<=b\/xG m [aS sc,cS p,aQ v] vs b)/\m' b=none/\∀i,h' b i=none):=by
  rintro u z ⟨r,m',h',W,h2,h3,h4⟩;subst hB;exact⟨r,u,m',h',rfl,W,h2,h3,h4⟩
 have hV:VC (zS sc p v m h) (LN 4 (cL Tryz.f39)) (entry 53 [aS sc,cS p,aQ v] m h) (thenS (Uy sc p v m h (cX s=0/\ps.all eD=true)) (PY sc p v m h K)):=by
  rw[<-bgX sc p v m h (cX s=0/\ps.all eD=true) K];exact bgZ hs hp T (λW h2=>⟨W,h2⟩)
 have key:=λR=>SU (C:=zS sc p v m h) (Q2:=Uy sc p v m h (cX s=0/\ps.all eD=true)) (Q:=PY sc p v m h K) (R:=R) t rfl rfl 4 (cL Tryz.f39) _ _ _ _ U;generalize f:VC (zS sc p v m h) (LN 4 (cL Tryz.f39)) (entry 53 [aS sc,cS p,aQ v] m h) (thenS (Uy sc p v m h (cX s=0/\ps.all eD=true)) (PY sc p v m h K))=V at hV key;clear f;refine key _ hV ?_ ?_
 .intro ι τ a1 w1 b0 W;unfold Uy at W;rw[aoX];have J:=λR=>SU (C:=zS sc p v m h) (Q2:=Yt sc p v m h (cX s=0/\ps.all eD=true)) (Q:=λ_ _=>False) (R:=R) t rfl rfl 1 (Jm (BS 4 (cL Tryz.f39))) _ _ _ _ b0;generalize f:VC (zS sc p v m h) (LN 1 (Jm (BS 4 (cL Tryz.f39)))) τ (thenS (Yt sc p v m h (cX s=0/\ps.all eD=true)) (λ_ _=>False))=V at W J;clear f;refine wp_seq (J _ W ?_ ?_)
  .intro ι2 τ2 a2 w2 b1 h2;unfold Yt at h2;obtain⟨⟨g1,g2⟩,bq,m',b2,b3,b4⟩:=h2;obtain⟨ι3,b5,_⟩:=pV b1 b4;rw[Zd];refine wp_block (aqQ b5 a4 b2 b3 I ?_);intro e D E a' z a6 a7 hE hD a8 a9;have L:D<z.heap.size:=(Array.getElem?_eq_some_iff.1 a8).1
   have j:∀{C:Ctx},C.P=Tryz.prog->∀(ι5:cj)(X:St)(Y:Act)(w5:World),aL ⟨z,E,h,[mark D]⟩ ι5 X Y w5->EL C Tryz.f39 K X->∀{R:Ending->World->Prop},(∀u d,(∃r m' h',K r m' h'/\FW d r u/\Ai B m' h' d/\∀b,iC r u=some b->(B.w0.heap.size<=b\/B.E b)/\m' b=none/\∀i,h' b i=none)->R (.returned u) d)->LeavesInM Fence.wide 0 Tryz.prog Tryz.f39 Y.tmps R Y.defers .returning w5:=by
    intro C hC ι5 X Y w5 A G R hR;rw[<-hC];refine VX (C:=C) A rfl ?_ L a9 G (λu d=>?_)
    .rw[A.wrel.frame D L a9];exact a8
    .rintro⟨r,mf,hf,k1,k2,y,k4⟩
     have b':∀b,(E b\/b=D)->B.w0.heap.size<=b\/B.E b:=by
      rintro b (e|rfl)
      .exact hE b e
      .exact .inl hD
     refine hR u d ⟨r,mf,hf,k1,k2,a7.trans (E:=λb=>E b\/b=D) ⟨y.tape,y.os,y.output,y.drawn,y.size,y.frame,y.hsat,y.msat,y.disj,y.hle,y.hold,y.mfr⟩ b',λb hb=>?_⟩;obtain⟨j1,j2,j3⟩:=k4 b hb;refine⟨?_,j2,j3⟩;rcases j1 with j1|j1
     .exact .inl (Nat.le_trans a7.size j1)
     .exact b' b j1
   refine⟨λhv he=>?_,λhv he=>?_⟩
   .subst he;show(BS 5 (cL Tryz.f39)).wp _ _ a' z;have Z:uY q=true:=by rw[<-Pe];exact hv
    have ht:PT (SizeOf.sizeOf q+1) sc p v m h K:=by
     unfold dU at T;rw[if_pos g1,if_pos g2,if_pos Z]at T;exact⟨sc,p,v,s,ps,q,rfl,hs,Pj g1,hp,I,aD,T⟩
    rw[bfJ]at ht;have M:=V1 (C:=cW [(77,Bc (SizeOf.sizeOf q+1))] [] [] [] false) (fn:=Tryz.f39) (c:=BS 5 (cL Tryz.f39)) (K:=K) (aE (ZX _) aH) a6;generalize f:sI (cW [(77,Bc (SizeOf.sizeOf q+1))] [] [] [] false) Tryz.f39 (BS 5 (cL Tryz.f39)) (uJ sc p v 0 m h) K=V at ht M;clear f;refine wp_mono (M ht) ?_;intro e Y w5 F;cases e with
    |normal=>
     obtain⟨ι5,X,A,G⟩:=F;exact j rfl ι5 X Y w5 A G (λu d hx=>x u d hx)
    |ret=>
     obtain⟨ι5,X,A,G⟩:=F;exact j rfl ι5 X Y w5 A G (λu d hx=>x u d hx)
    |exit id=>exact F.elim
    |goto l=>exact F.elim
    |panic ch=>exact F.elim
    |outgrown=>exact F.elim
   .subst he;have Z:¬uY q=true:=by rw[<-Pe,hv];simp
    have G:PU sc p v m h K:=by
     unfold dU at T;rw[if_pos g1,if_pos g2,if_neg Z]at T;exact T.err (.refl _) rfl
    rw[bgQ]at G;have O:=@j cY rfl ι3 (uJ sc p v 2 m h) a' z a6;generalize f:EL cY Tryz.f39 K (uJ sc p v 2 m h)=V at G O;clear f;exact O G (λu d hx=>x u d hx)
  .rintro e a w I a0;cases e with
   |normal=>exact(a0 rfl).elim
   |exit id=>obtain⟨_,_,_,h⟩:=I;exact h.elim
   |ret=>obtain⟨_,_,_,h⟩:=I;exact h.elim
   |goto l=>exact I.elim
   |panic ch=>exact I.elim
   |outgrown=>exact I.elim
 .rintro e a' z H a0;cases e with
  |normal=>exact(a0 rfl).elim
  |exit id=>
   obtain⟨_,_,_,h⟩:=H;simp only[PY]at h
  |ret=>
   obtain⟨ι,σ,hM,G⟩:=H;simp only[PY]at G;obtain⟨u,hu,r,m',h',k1,k2,y,k4⟩:=J3 hM G;show LeavesInM Fence.wide 0 Tryz.prog Tryz.f39 a'.tmps _ a'.defers .returning z;rw[hM.defers,a4];exact⟨u,hu,x u z ⟨r,m',h',k1,k2,y,k4⟩⟩
  |goto l=>exact H.elim
  |panic ch=>exact H.elim
  |outgrown=>exact H.elim
end Go.Ps
