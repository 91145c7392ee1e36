/-
  Part 5 of a proof that a law of the given program returns true: a condition generator that is proved sound, and contracts of functions. No condition of its own. Own work, joined by a program (pack2.py).
-/
import Derived.RangeFuncLeaves
import Derived.RangeFuncCalls
import Derived.Test.YtmecdlibgejboaaGreatDoorPd
set_option linter.unusedVariables false
set_option linter.unusedSimpArgs false
namespace Go.Vc
open Go List
section
variable{B:qJ}{C:Ctx}{ι:cg}{σ:St}{a:Act}{w:World}{o:Oper}{K:St->Prop}
theorem UH(h:Qo C o σ K):∀c,o.op≠ .defer c:=by
 intro c b;unfold Qo at h;rw[b]at h;unfold PT at h;rw[b]at h;exact h
theorem Hk(l:Nat){P:Program}{next:Act->World->Prop}{Q:Exit->Act->World->Prop}(e:∀c,o.op≠ .defer c)(h:o.wpIn Fence.wide 0 P a w next Q):o.wpIn (Fence.wide.inRound l) 0 P a w next Q:=by
 refine⟨λ_ _=>trivial,?_⟩;have b:o.uponIn Fence.wide 0 P a next Q ((execOp a.eval o).run P w):=h.2
 show o.uponIn (Fence.wide.inRound l) 0 P a next Q ((o.semAt (some l) a.eval).run P w)
 rw[Oper.semAt_eq _ _ _ e];cases d:(execOp a.eval o).run P w with
 |ok x f=>
  rw[d]at b;cases x<;>exact b
 |halt x f=>
  rw[d]at b;cases x<;>exact b
theorem NG(l:Nat)(b:∀g S,assoc C.specs g=some S->Sound C.P g S){ops:Array Oper}{Q:Exit->Act->World->Prop}{R:St->Prop}(p:∀ι σ a w,aI B ι σ a w->R σ->Q .normal a w):
 ∀(c:List Oper)(s:Nat)(ι:cg)(σ:St)(a:Act)(w:World),(∀j,c[j]? =ops.toList[s+j]?)->aI B ι σ a w->Qf C ops c σ R->wpOpsIn (Fence.wide.inRound l) 0 C.P ops Q (range' s c.length) a w
 |[],s,ι,σ,a,w,_,k,h=>p ι σ a w k h
 |o::c,s,ι,σ,a,w,q,k,h=>by
  have r:ops[s]? =some o:=by have:=q 0;simp at this;exact this.symm
  simp only[length_cons,range'_succ,wpOpsIn,r]
  have next:∀m e f i,aI B m e f i->Qf C ops c e R->wpOpsIn (Fence.wide.inRound l) 0 C.P ops Q (range' (s+1) c.length) f i:=λm e f i t u=>
   NG l b p c (s+1) m e f i (λj=>by have:=q (j+1);simp only[getElem?_cons_succ]at this;rw[this];congr 1;omega) t u
  obtain⟨z,d,v,y⟩:=CL k h;rcases y with⟨n,h⟩|⟨n,h⟩
  .rw[if_pos n];exact Hk l (UH h) (Qn b d h _ Q next)
  .rw[if_neg (by simp[n])];exact⟨λ_ _=>trivial,next ι _ _ _ (d.put o.dst (x:=.at (.val undef)) rfl) h⟩
def kB(C:Ctx):Code->Bool
 |.skip=>true
 |.ret=>true
 |.exit _=>true
 |.region id _ d=> !d&&(J5 C id).isEmpty
 |.seq x y=>(ZU C y).isNone&&(Pc C y).isNone&&kB C x&&kB C y
 |.cond _ x y=>kB C x&&kB C y
 |.block _ c=>kB C c
 |_=>false
theorem Qa(l:Nat)(n:∀g S,assoc C.specs g=some S->Sound C.P g S):∀(c:Code),kB C c=true->∀(σ:St)(Q:Az->St->Prop)(ι:cg)(a:Act)(w:World),aI B ι σ a w->VC C c σ Q->c.wpIn (Fence.wide.inRound l) 0 C.P (QD B Q) a w:=by
 intro c
 induction c with
 |skip=>intro _ σ Q ι a w d h;exact wpIn_skip ⟨ι,σ,d,h⟩
 |exit id=>intro _ σ Q ι a w d h;exact wpIn_exit ⟨ι,σ,d,h⟩
 |ret=>intro _ σ Q ι a w d h;exact wpIn_ret ⟨ι,σ,d,h⟩
 |label l=>intro b;simp[kB]at b
 |goto l=>intro b;simp[kB]at b
 |refuse J=>intro b;simp[kB]at b
 |scope u D=>intro b;simp[kB]at b
 |loop u D=>intro b;simp[kB]at b
 |rangeFunc f U x y p q=>intro b;simp[kB]at b
 |region id ops v=>
  intro b σ Q ι a w d h;cases v with
  |true=>simp[kB]at b
  |false=>
   have E:J5 C id=[]:=by simpa[kB,isEmpty_iff]using b
   refine wpIn_region ?_;have h:Zh C ops (J5 C id) ops.toList σ (Q .normal):=h;rw[E]at h;have:=NG l n (ops:=ops) (Q:=QD B Q) (R:=Q .normal) (λι σ a w d h=>⟨ι,σ,d,h⟩) ops.toList 0 ι σ a w (λj=>bg) d h;rw[range_eq_range'];simpa using this
 |seq x y p q=>
  intro b σ Q ι a w d h;simp only[kB,Bool.and_eq_true,Option.isNone_iff_eq_none]at b;obtain⟨⟨⟨L,M⟩,N⟩,O⟩:=b;simp only[VC,L,M]at h;refine wpIn_seq (wpIn_mono (p N σ _ ι a w d h) ?_);intro e H I k;cases e with
  |normal=>
   obtain⟨z,A,r,s⟩:=k;exact q O A Q z H I r s
  |exit id=>exact k
  |ret=>exact k
  |goto l=>exact k
  |panic T=>exact k
  |outgrown=>exact k
 |cond c x y p q=>
  intro b σ Q ι a w d h;simp only[kB,Bool.and_eq_true]at b;simp only[VC]at h;split at h
  .rename_i t F;have m:=d.ev c;rw[F]at m;have m:a.eval c= .bool t:=m;rcases sG h with⟨rfl,h⟩|⟨rfl,h⟩
   .exact wpIn_cond_true m (p b.1 _ Q ι a w (d.setTmp F) h)
   .exact wpIn_cond_false m (q b.2 _ Q ι a w (d.setTmp F) h)
  .exact h.elim
 |block id c D=>
  intro b σ Q ι a w d h;refine wpIn_block (wpIn_mono (D b σ _ ι a w d h) ?_);intro e H I k;cases e with
  |normal=>exact k
  |exit i=>
   obtain⟨z,A,r,s⟩:=k;show if i=id then _ else _
   simp only at s;split at s
   .rename_i G;rw[if_pos (Nat.eq_of_beq_eq_true G)];exact⟨z,A,r,s⟩
   .rename_i G;rw[if_neg (λe=>by subst e;simp at G)];exact⟨z,A,r,s⟩
  |ret=>exact k
  |goto l=>exact k
  |panic T=>exact k
  |outgrown=>exact k
def L1:Nat->Code->Code
 |n+1,.seq x y=>.seq x (L1 n y)
 |_,_=>.skip
def B4:Nat->Code->Code
 |n+1,.seq _ y=>B4 n y
 |_,c=>c
def thenS(Q2:St->Prop)(Q:Az->St->Prop):Az->St->Prop:=λe τ=>match e with|.normal=>Q2 τ|e=>Q e τ
theorem T3(b:∀g S,assoc C.specs g=some S->Sound C.P g S)(r:C.cuts=[])(m:C.cuts2=[]){Q2:St->Prop}{Q:Az->St->Prop}{R:Exit->Act->World->Prop}:
 ∀(n:Nat)(c:Code)(ι:cg)(σ:St)(a:Act)(w:World),aI B ι σ a w->VC C (L1 n c) σ (thenS Q2 Q)->
  (∀ι τ a w,aI B ι τ a w->Q2 τ->(B4 n c).wp C.P R a w)->(∀e a w,QD B Q e a w->e≠ .normal->R e a w)->c.wp C.P R a w:=by
 have f:∀y,ZU C y=none:=λy=>by unfold ZU;split<;>simp[r,assoc]
 have i:∀y,Pc C y=none:=λy=>by unfold Pc;split<;>simp[m,assoc]
 intro n
 induction n with
 |zero=>intro c ι σ a w j h k _;exact k ι σ a w j h
 |succ n s=>
  intro c;cases c with
  |seq x y=>
   intro ι σ a w j h k p;simp only[L1,VC,f,i]at h;refine wp_seq (wp_mono (HW b x σ _ ι a w j h) ?_);intro e t u d;cases e with
   |normal=>
    obtain⟨v,z,q,A⟩:=d;exact s y v z t u q A k p
   |exit id=>exact p _ _ _ d bg
   |ret=>exact p _ _ _ d bg
   |goto l=>exact d.elim
   |panic D=>exact d.elim
   |outgrown=>exact d.elim
  |_=>intro ι σ a w j h k _;exact k ι σ a w j h
def bTZ(B:qJ)(C:Ctx)(fn:Func)(K:bo):Exit->Act->World->Prop
 |.normal,a,w=>∃ι σ,aI B ι σ a w/\Df C fn K σ
 |.ret,a,w=>∃ι σ,aI B ι σ a w/\Df C fn K σ
 |_,_,_=>False
theorem W5(b:∀g S,assoc C.specs g=some S->Sound C.P g S)(f:aI B ι σ a w){fn:Func}{c:Code}{K:bo}(h:sC C fn c σ K):c.wp C.P (bTZ B C fn K) a w:=by
 refine wp_mono (HW b c σ _ ι a w f h) ?_;intro e i j d;cases e with
 |normal=>exact d
 |ret=>exact d
 |exit id=>obtain⟨_,_,_,h⟩:=d;exact h.elim
 |goto l=>exact d.elim
 |panic k=>exact d.elim
 |outgrown=>exact d.elim
theorem aI.putM(j:aI B ι σ a w){b:Nat}{ob h:Obj}{m':MH}(q:σ.m b=some ob)(r:gG σ.m m' b h):aI B ι {σ with m:=m'} a (w.putObj b h):=by
 have f:=j.wrel;have s:b<w.heap.size:=(Array.getElem?_eq_some_iff.1 (f.msat b ob q)).1;have g:∀d,d≠b->(w.putObj b h).heap[d]? =w.heap[d]? :=λd n=>World.putObj_heap_other (λe=>n e)
 have l:∀k o,nth σ.own k=some (some o)->∀d,blk (ι k)=some d->d≠b:=λk o p d c e=>by
  have:=(j.fresh k o d p c).2.1;rw[e,q]at this;cases this
 refine⟨j.slots,j.defers,λk o p=>(j.own k o p).world (λd c=>g d (l k o p d c)),j.dist,?_,?_,j.one⟩
 .intro k o d p c;obtain⟨z,A,D⟩:=j.fresh k o d p c;exact⟨z,by show m' d=none;rw[r.other d (l k o p d c)];exact A,D⟩
 .refine⟨f.tape,f.os,f.output,f.drawn,by have:=f.size;simpa using this,?_,?_,?_,?_,f.hle,f.hold,?_⟩
  .intro d E u;rw[g d (λe=>?_)]
   .exact f.frame d E u
   .subst e;rcases f.mfr d ob q with y|y
    .omega
    .exact u y
  .intro d i v t;have n:d≠b:=λe=>by rw[e,f.disj b ob q i]at t;cases t
   rw[World.cell?_of_block (w:=w) (w':=w.putObj b h) (a:=⟨d,i,none⟩) (g d n)];exact f.hsat d i v t
  .intro d o c;have c:m' d=some o:=c;by_cases e:d=b
   .subst e;rw[r.at_]at c;cases c;exact World.putObj_heap_same s
   .rw[r.other d e]at c;rw[g d e];exact f.msat d o c
  .intro d o c i;have c:m' d=some o:=c;by_cases e:d=b
   .subst e;exact f.disj d ob q i
   .rw[r.other d e]at c;exact f.disj d o c i
  .intro d o c;have c:m' d=some o:=c;by_cases e:d=b
   .subst e;exact f.mfr d ob q
   .rw[r.other d e]at c;exact f.mfr d o c
theorem aI.putD(l:aI B ι σ a w){D:Nat}{ob:Obj}(m:Obj)(t:w.heap[D]? =some ob)(s:ob.isCells=false)(u:D<B.w0.heap.size)(p:¬B.E D):
 aI {B with E:=λb=>B.E b\/b=D} ι σ a (w.putObj D m):=by
 have h:=l.wrel;have g:∀c,c≠D->(w.putObj D m).heap[c]? =w.heap[c]? :=λc j=>World.putObj_heap_other (λe=>j e)
 have q:∀k o,nth σ.own k=some (some o)->∀c,blk (ι k)=some c->c≠D:=λk o n c d e=>by
  rcases(l.fresh k o c n d).1 with f|f
  .omega
  .exact p (e▸f)
 refine⟨l.slots,l.defers,λk o n=>(l.own k o n).world (λc d=>g c (q k o n c d)),l.dist,?_,?_,l.one⟩
 .intro k o c n d;obtain⟨y,z,A⟩:=l.fresh k o c n d;exact⟨y.imp id .inl,z,A⟩
 .refine⟨h.tape,h.os,h.output,h.drawn,by have:=h.size;simpa using this,?_,?_,?_,h.disj,h.hle,?_,?_⟩
  .intro c f r;rw[g c (λe=>r (.inr e))];exact h.frame c f (λe=>r (.inl e))
  .intro c i v F;have f:=h.hsat c i v F
   have j:c≠D:=λe=>by
    unfold World.cell? at f;rw[e]at f;dsimp only at f;rw[t]at f;cases ob<;>simp[Obj.isCells]at s f
   rw[World.cell?_of_block (w:=w) (w':=w.putObj D m) (a:=⟨c,i,none⟩) (g c j)];exact f
  .intro c o d
   have j:c≠D:=λe=>by
    rcases h.mfr c o d with f|f
    .omega
    .exact p (e▸f)
   rw[g c j];exact h.msat c o d
  .intro c f r;exact h.hold c f (λe=>r (.inl e))
  .intro c o d;exact(h.mfr c o d).imp id .inl
theorem WY{F:Fence}{n D:Nat}(j:aI B ι σ a w)(l:B.dfs=[{target:=.collected D,args:= #[]}])(k:w.heap[D]? =some (.deferred (some [])))(d:D<B.w0.heap.size)(e:¬B.E D)
 {fn:Func}{K:bo}(h:Df C fn K σ){R:Ending->World->Prop}
 (m:∀u w',(∃r m' c,K r m' c/\Du w' r u/\vR {B with E:=λb=>B.E b\/b=D} m' c w'/\∀b,gE r u=some b->(B.w0.heap.size<=b\/(B.E b\/b=D))/\m' b=none/\∀i,c b i=none)->R (.returned u) w'):
 LeavesInM F n C.P fn a.tmps R a.defers .returning w:=by
 rw[j.defers,l];refine⟨bg,.inl ⟨D,_,rfl,run_takeDeferred k,?_⟩⟩;have f:=j.putD (.deferred none) k rfl d e;obtain⟨u,p,r,m',c,q,g,s,t⟩:=F0 f h;exact⟨u,p,m u _ ⟨r,m',c,q,g,s,t⟩⟩
theorem K9:∀(n i:Nat)(l:dk)(vs:bm),vs.length=n->(∀j x v,assoc l (i+j)=some x->vs[j]? =some v->Den ι x v)->DenS ι (uG (.at .junk) l n i) vs
 |0,i,l,[],_,_=>trivial
 |0,i,l,_::_,h,_=>by simp at h
 |n+1,i,l,[],h,_=>by simp at h
 |n+1,i,l,v::vs,h,b=>by
  refine⟨?_,K9 n (i+1) l vs (bj h) (λj x u c d=>b (j+1) x u (by rw[<-c];congr 1;omega) (bj d))⟩;have:=b 0;cases e:assoc l i with
  |none=>trivial
  |some x=>exact this x v (bj e) rfl
end
end Go.Vc
namespace Go.Ps
open Go Go.Vc Go.Proofs List Tryz
variable{K:bo}{m:MH}{h:PH}{s:mI}{ps:br}{cb:Nat}{sc:bY}{v:QV}{q:Query}{p:Pred}{l:br}{i:Nat}{N:Nat}{m':MH}{h':PH}{co:br}{gr:br}{od:bz}{w:Pred}{ta:Int}{li:Int}{xs:List bm}{sz:Nat}{k:Nat}{ks:List br}{rs:br}{r:Sl}{a:br}{b:Nat}
def yE(b:Nat):SV:=.at (.val (.pointer (some ⟨b,0,none⟩)))
def Jp:Code->Code
 |.seq x _=>x
 |c=>c
noncomputable def cY:Ctx:=dG [] [] [] [] false
noncomputable def Ad(sc:bY)(p:Sl)(v:QV)(m:MH)(h:PH):Ctx:=
 dG [(54,vO),(76,Sq)] [(5,{A:=Nat,st:=λi=>bO 53 56 [(1,sv p),(3,.at (.ptr 3 0)),(5,.at (.ptr 5 0)),(6,.at (.ptr 6 0)),(7,.at (.ptr 7 0)),(18,sv p),(19,iv p.len),(20,iv i)] [(3,.cells 40 (sc.enc.map .val)),(5,.cells 35 (v.enc.map .val)),(6,.cells 30 [.val (.slice none 0 0)]),(7,.cells 44 [.val (.int .i64 0)])] m h})] [] [] false
def DB(sc:bY)(p:Sl)(v:QV)(b:Nat)(m:MH)(h:PH):St:=
 bO 53 56 [(1,sv p),(3,.at (.ptr 3 0)),(5,.at (.ptr 5 0)),(6,.at (.ptr 6 0)),(7,.at (.ptr 7 0)),(11,.at (.ptr 11 0)),(36,vv (.func (.func 140) #[] #[.pointer (some ⟨b,0,none⟩)]))] [(3,.cells 40 (sc.enc.map .val)),(5,.cells 35 (v.enc.map .val)),(6,.cells 30 [.val (.slice none 0 0)]),(7,.cells 44 [.val (.int .i64 0)]),(11,.cells 3 [.val (.int .i64 0)])] m h
def uI(sc:bY)(p:Sl)(v:QV)(e:Int)(m:MH)(h:PH):St:=
 bO 53 56 [(1,sv p),(3,.at (.ptr 3 0)),(5,.at (.ptr 5 0)),(6,.at (.ptr 6 0)),(7,.at (.ptr 7 0))] [(3,.cells 40 (sc.enc.map .val)),(5,.cells 35 (v.enc.map .val)),(6,.cells 30 [.val (.slice none 0 0)]),(7,.cells 44 [.val (.int .i64 e)])] m h
end Go.Ps
namespace Go.Vc
open Go.Ps Go.Proofs List
noncomputable def ZK(sc:bY)(p:Sl)(v:QV)(m:MH)(h:PH)(G:Prop):St->Prop:=λτ=>G/\∃b m',bW m h b/\gG m m' b (.cells ⟨v.enc⟩ 35 (0,0))/\xB τ (DB sc p v b m' h) True
noncomputable def Vt(sc:bY)(p:Sl)(v:QV)(m:MH)(h:PH)(G:Prop):St->Prop:=λτ=>VC (Ad sc p v m h) (L1 1 (Jp (B4 4 (cC Tryz.f39)))) τ (thenS (ZK sc p v m h G) (λ_ _=>False))
noncomputable def QY(sc:bY)(p:Sl)(v:QV)(m:MH)(h:PH)(K:bo):Az->St->Prop:=λe τ=>match e with|.ret=>Df (Ad sc p v m h) Tryz.f39 K τ|_=>False
end Go.Vc
namespace Go.Ps
open Go Go.Vc Go.Proofs List Tryz
variable{K:bo}{m:MH}{h:PH}{s:mI}{ps:br}{cb:Nat}{sc:bY}{v:QV}{q:Query}{p:Pred}{l:br}{i:Nat}{N:Nat}{m':MH}{h':PH}{co:br}{gr:br}{od:bz}{w:Pred}{ta:Int}{li:Int}{xs:List bm}{sz:Nat}{k:Nat}{ks:List br}{rs:br}{r:Sl}{a:br}{b:Nat}
def bnQ(c:Int)(d e f:Nat)(m:MH)(h:PH):Prop:=
  aA (dD e) (dD f) (aA (dD d) (mQ c) (dW m m h h))
theorem bVX(c:Int)(d f g:Nat)(m:MH)(h:PH):bnQ c d f g m h=(VC cY rfA (bO 53 53 [(37,iv c),(11,yE d),(6,yE f),(7,yE g)] [] m h) (λe τ=>match e with|.normal=>xB τ (bO 53 53 [(12,iv c),(11,yE d),(6,yE f),(7,yE g)] [] m h) True|_=>False)):=bf
def Tq(c:Int)(e j n:Nat)(m:MH)(h:PH)(N T:MH->PH->Prop):Prop:=
  uN m h e 0 (λy=>fN m e (fD (eT (y+1))) (λd=>uN d h e 0 (λt=>mR (decide (t>24)) (fN d j rV (λf=>fN f n (fD 2) (λg=>T g h))) c 8 (fN d j rV (λf=>fN f n (fD 2) (λg=>T g h))) (N d h))))
theorem bUJ(c:Int)(d f g:Nat)(m:MH)(h:PH)(N T:MH->PH->Prop):Tq c d f g m h N T=(VC cY rfB (bO 53 53 [(12,iv c),(11,yE d),(6,yE f),(7,yE g)] [] m h) (λe τ=>match e with|.normal=>N τ.m τ.h|.ret=>T τ.m τ.h|_=>False)):=bf
abbrev Ge:Prop:=eQ (oQ 30 (rG PO))
abbrev Ec(a:Nat):Prop:=eQ (oQ a (rG jF))
attribute [push_cast] Ge Ec
def KC(sc:bY)(p:Sl)(v:QV)(m:MH)(h:PH)(G:Prop)(K:bo):Prop:=
  Gj sc h (λs=>K (CV.tup (aW jG (dH s))) m h) (nR (λI x=>aA (I x) (aH p) (aA (eP 3) dY (aA (eP 6) (eP 7) (aA (aH p) (bG p) (aA (bC x) (bM sc) (aA (fL v) Ge (dK (Ec 44) m m h h))))))) (λI d x=>I x->aZ (↑x:Int) (aG p) (aK (λb o=>aA (aL p.a b o) (0<=(↑x:Int)) ((↑x:Int)<aG p/\∃(y:Int),aJ m h b (bK o x 1) (bL y)/\cO y 3 (cO y 4 (cO y 5 (K (CV.tup (aW jG 1)) m h) (∃(c:Nat),aA (I c) (d c<d x) (aA (aH p) iM (aA dY (eP 6) (aA (eP 7) (aH p) (aA (bG p) (bD (fP (bE x 1)) c) (aA (bM sc) (fL v) (aA Ge (Ec 44) (aA (m=m) (h=h) True))))))))) (∃(c:Nat),aA (I c) (d c<d x) (aA (aH p) iM (aA dY (eP 6) (aA (eP 7) (aH p) (aA (bG p) (bD (fP (bE x
 1)) c) (aA (bM sc) (fL v) (aA Ge (Ec 44) (aA (m=m) (h=h) True))))))))) (∃(c:Nat),aA (I c) (d c<d x) (aA (aH p) iM (aA dY (eP 6) (aA (eP 7) (aH p) (aA (bG p) (bD (fP (bE x 1)) c) (aA (bM sc) (fL v) (aA Ge (Ec 44) (aA (m=m) (h=h) True))))))))))) (∃(f:QV),tT (dL v)=tT (dL f)/\fR (λb g=>aY (bW m h b) (cM m g b f.enc 35) (G/\∃(e:Nat)(j:MH),aA (bW m h e) (cM m j e v.enc 35) (aA (aH p) iM (aA dY (eP 6) (aA (eP 7) (eP 11) (aA (Fk (Fn.func 140) (Array.mk (jD (WE b 0)))=Fk (Fn.func 140) (Array.mk (jD (WE e 0)))) (bM sc) (aA (fL v) Ge (aA (Ec 44) (Ec 3) (aA (g=j) (h=h) True))))))))))))
theorem buQ(sc:bY)(p:Sl)(v:QV)(m:MH)(h:PH)(G:Prop)(K:bo):KC sc p v m h G K=(VC (Ad sc p v m h) (L1 4 (cC Tryz.f39)) (entry 53 [aS sc,cS p,aQ v] m h) (thenS (Vt sc p v m h G) (QY sc p v m h K))):=bf
def QU(N:Nat)(sc:bY)(p:Sl)(v:QV)(m:MH)(h:PH)(K:bo):Prop:=
  Gi sc p v h (λf s d q=>aA (dQ h q f) (oR q N) (∀(e:Sl)(c:PH),dA h c (Ints c e (bH s d q).1) (K (CV.tup (eJ e (CV.val (fD (bH s d q).2)))) m c)))
theorem btZ(N:Nat)(sc:bY)(p:Sl)(v:QV)(m:MH)(h:PH)(K:bo):QU N sc p v m h K=(sC (dG [(77,Ak N)] [] [] [] false) Tryz.f39 (B4 5 (cC Tryz.f39)) (uI sc p v 0 m h) K):=bf
def QX(sc:bY)(p:Sl)(v:QV)(m:MH)(h:PH)(K:bo):Prop:=
  K (CV.tup (aW jG 2)) m h
theorem btJ(sc:bY)(p:Sl)(v:QV)(m:MH)(h:PH)(K:bo):QX sc p v m h K=(Df cY Tryz.f39 K (uI sc p v 2 m h)):=bf
theorem agX:B4 1 (Jp (B4 4 (cC Tryz.f39)))= .block 2 (.rangeFunc (.tmp 36) #[37,38] rfA rfB):=bf
theorem aFZ:B4 4 (cC Tryz.f39)= .seq (Jp (B4 4 (cC Tryz.f39))) (B4 5 (cC Tryz.f39)):=bf
theorem aeJ:kB cY rfA=true:=bf
theorem aeZ:kB cY rfB=true:=bf
theorem bVQ{d:Int}{l:Nat}{R:LR}{n:Int}{z:MH}{N T:MH->PH->Prop}(F:yQ m l R n)(h0:0<=n)(h1:n<=24){ob:Obj}(j:gG m z l ob)
 (V:∀m',¬(24<n+1\/8<d)->gG z m' R.bn (sE (n+1))->N m' h)
 (W:∀m',(24<n+1\/8<d)->m' l=some ob->m' R.b6=some Hi->m' R.b7=some (FM 2)->(∃x,m' R.bn=some x)->(∀b,b≠l->b≠R.bn->b≠R.b6->b≠R.b7->m' b=m b)->T m' h):Tq d R.bn R.b6 R.b7 z h N T:=by
 dsimp only[Tq,push_cast];obtain⟨L,M,O,P,Q,S⟩:=F.ne;have A:z R.bn=some (sE n):=by rw[j.other _ (λe=>L e.symm)];exact F.n_
 have X:IntKind.i64.wrap (n+1)=n+1:=eG aC aC;refine⟨n,.of_m A rfl,_,_,⟨A⟩,bg,λu c=>?_⟩;rw[X]at c;have c:gG z u R.bn (sE (n+1)):=c;have Y:u R.b6=some Hi:=by rw[c.other _ P,j.other _ (λe=>M e.symm)];exact F.k_
 have Z:u R.b7=some (FM 0):=by rw[c.other _ Q,j.other _ (λe=>O e.symm)];exact F.e_
 have t:(24<n+1\/8<d)->∃(y:Array Value)(E:TypeId),Lo u R.b6 (.cells y E (0,0))/\0<y.size/\∀m',gG u m' R.b6 (.cells ⟨Value.slice none 0 0::y.toList.drop 1⟩ E (0,0))->∃(y:Array Value)(E:TypeId),Lo m' R.b7 (.cells y E (0,0))/\0<y.size/\∀D,gG m' D R.b7 (.cells ⟨Value.int .i64 2::y.toList.drop 1⟩ E (0,0))->T D h:=by
  intro G;refine⟨_,_,⟨Y⟩,bg,λH f=>?_⟩;have f:gG u H R.b6 Hi:=f;have I:H R.b7=some (FM 0):=by rw[f.other _ (λe=>S e.symm)];exact Z
  refine⟨_,_,⟨I⟩,bg,λU g=>?_⟩;have g:gG H U R.b7 (FM 2):=g;refine W U G ?_ ?_ g.at_ ⟨sE (n+1),?_⟩ (λb b1 b2 b3 b4=>?_)
  .rw[g.other _ O,f.other _ M,c.other _ L];exact j.at_
  .rw[g.other _ S];exact f.at_
  .rw[g.other _ (λe=>Q e.symm),f.other _ (λe=>P e.symm)];exact c.at_
  .rw[g.other _ b4,f.other _ b3,c.other _ b2,j.other _ b1]
 refine⟨n+1,.of_m c.at_ rfl,aE (λG=>t aC) (λG=>aE (λJ=>t aC) (λJ=>V u aC c))⟩
end Go.Ps
namespace Go.Vc
open Go.Ps Go.Proofs List
theorem vR.framed{w:World}{m:MH}{h:PH}{m':MH}{h':PH}{w':World}{ds:List Deferred}(c:vR ⟨w,λb=>m b≠none,h,ds⟩ m' h' w'):PD w m h m' h' w':=
 ⟨c.tape,c.os,c.output,c.drawn,c.size,λb d f=>c.frame b d (λe=>e f),⟨c.hsat,c.msat,c.disj⟩,⟨c.hle⟩,λb d f=>c.hold b d (λe=>e f),λb o d=>c.mfr b o d⟩
end Go.Vc
namespace Go.Ps
open Go Go.Vc Go.Proofs List Tryz
variable{K:bo}{m:MH}{h:PH}{s:mI}{ps:br}{cb:Nat}{sc:bY}{v:QV}{q:Query}{p:Pred}{l:br}{i:Nat}{N:Nat}{m':MH}{h':PH}{co:br}{gr:br}{od:bz}{w:Pred}{ta:Int}{li:Int}{xs:List bm}{sz:Nat}{k:Nat}{ks:List br}{rs:br}{r:Sl}{a:br}{b:Nat}
theorem aEZ:Li Tryz.prog YS:=by
 refine⟨λl vs m h w K hS hH=>?_⟩;obtain⟨f,c,v,R,n,he,E,h0,h1,hf,ht⟩:=hS
 obtain⟨rfl,rfl⟩:f=l/\vs=[.int .i64 c,.agg ⟨v.enc⟩]:=by
  simp only[yv,cI,aQ,List.cons.injEq,CV.val.injEq,Value.func.injEq,Fn.yield.injEq,and_true]at he;refine⟨he.1.symm,?_⟩;have:=he.2
  match vs,this with
  |[a,b],h=>simp at h;simp[h.1,h.2]
  |[],h=>simp at h
  |[_],h=>simp at h
  |_::_::_::_,h=>simp at h
 have hl:=hH.msat f _ E.loop;have Y:=run_yield (P:=Tryz.prog) (args:= #[.int .i64 c,.agg ⟨v.enc⟩]) hl rfl;refine⟨_,_,_,_,Y,roundIn_of_wpIn trivial ?_⟩;obtain⟨M,Z⟩:∃M,((pG R .ready none).params.zip #[Value.int .i64 c,.agg ⟨v.enc⟩]).foldl (λtmps(t,a)=>tmps.setIfInBounds t a) (pG R .ready none).tmps=M:=⟨_,rfl⟩
 rw[Z];have F:M=(R.tmps.setIfInBounds 37 (.int .i64 c)).setIfInBounds 38 (.agg ⟨v.enc⟩):=by rw[<-Z];simp[pG]
 have a0:M.size=53:=by rw[F];simp[E.size]
 have get:∀j,j≠37->j≠38->M[j]? =R.tmps[j]? :=λj h1 h2=>by
  rw[F,Array.getElem?_setIfInBounds_ne aC,Array.getElem?_setIfInBounds_ne aC]
 have O:M[37]? =some (.int .i64 c):=by
  rw[F,Array.getElem?_setIfInBounds_ne aC,Array.getElem?_setIfInBounds_self_of_lt (by rw[E.size];omega)]
 have hM:aI ⟨w,λb=>m b≠none,h,[]⟩ (λ_=>.slice none 0 0) (bO 53 53 [(37,iv c),(11,yE R.bn),(6,yE R.b6),(7,yE R.b7)] [] m h) {tmps:=M,defers:=[]} w:=by
  refine⟨?_,rfl,?_,?_,?_,?_,λ_=>rfl⟩
  .show DenS _ (uG (.at .junk) [(37,iv c),(11,yE R.bn),(6,yE R.b6),(7,yE R.b7)] 53 0) M.toList;refine K9 53 0 _ _ (by rw[Array.length_toList];exact a0) (λj x u z g=>?_);rw[Array.getElem?_toList]at g;simp only[assoc,Nat.zero_add]at z;split at z
   .rename_i e;have:=Nat.eq_of_beq_eq_true e;subst this;rw[O]at g;simp at z g;subst z g;rfl
   .split at z
    .rename_i e;have:=Nat.eq_of_beq_eq_true e;subst this;rw[get 11 aC aC,E.t11]at g;simp at z g;subst z g;rfl
    .split at z
     .rename_i e;have:=Nat.eq_of_beq_eq_true e;subst this;rw[get 6 aC aC,E.t6]at g;simp at z g;subst z g;rfl
     .split at z
      .rename_i e;have:=Nat.eq_of_beq_eq_true e;subst this;rw[get 7 aC aC,E.t7]at g;simp at z g;subst z g;rfl
      .cases z
  .intro k o A;rw[jB]at A;have:(bO 53 53 [(37,iv c),(11,yE R.bn),(6,yE R.b6),(7,yE R.b7)] [] m h).own=replicate 53 none:=by rfl
   rw[this,getElem?_replicate]at A;split at A<;>cases A
  .intro k k' o o' b A;rw[jB]at A;have:(bO 53 53 [(37,iv c),(11,yE R.bn),(6,yE R.b6),(7,yE R.b7)] [] m h).own=replicate 53 none:=by rfl
   rw[this,getElem?_replicate]at A;split at A<;>cases A
  .intro k o b A;rw[jB]at A;have:(bO 53 53 [(37,iv c),(11,yE R.bn),(6,yE R.b6),(7,yE R.b7)] [] m h).own=replicate 53 none:=by rfl
   rw[this,getElem?_replicate]at A;split at A<;>cases A
  .exact⟨rfl,rfl,rfl,Nat.le_refl _,Nat.le_refl _,λ_ _ _=>rfl,hH.hsat,hH.msat,hH.disj,λ_ _ _ e=>e,λ_ _ _=>rfl,λb o I=>.inr (by show m b≠none;rw[show m b=some o from I];simp)⟩
 have hA:=Qa (C:=cY) f aF rfA aeJ _ _ _ _ _ hM (by
  rw[<-bVX c R.bn R.b6 R.b7 m h];exact MT)
 refine wpIn_mono hA ?_;intro e a1 w1 X;cases e with
 |normal=>
  obtain⟨ι1,τ,a3,a4⟩:=X;obtain⟨ι2,a',_⟩:=kT a3 a4;have a5:w1.heap[f]? =some (.loop (pG R .ready none)):=a'.wrel.msat f _ E.loop;refine⟨_,run_beginRound a5 rfl,?_⟩;obtain⟨Q,J⟩:∃Q,gG m Q f (.loop {pG R .ready none with state:=.busy}):=⟨λb=>if b=f then some (.loop {pG R .ready none with state:=.busy})else m b,bg,λb I=>by simp[I]⟩
  have a6:aI ⟨w,λb=>m b≠none,h,[]⟩ ι2 (bO 53 53 [(12,iv c),(11,yE R.bn),(6,yE R.b6),(7,yE R.b7)] [] Q h) a1 _:=a'.putM (m':=Q) E.loop J
  have hB:=Qa (C:=cY) f aF rfB aeZ _ (λe τ=>match e with
   |.normal=>(∃m',τ.m=m'/\τ.h=h/\¬(24<n+1\/8<c)/\gG Q m' R.bn (sE (n+1)))
   |.ret=>(∃m',τ.m=m'/\τ.h=h/\(24<n+1\/8<c)/\m' f=some (.loop {pG R .ready none with state:=.busy})/\m' R.b6=some Hi/\m' R.b7=some (FM 2)/\(∃x,m' R.bn=some x)/\(∀b,b≠f->b≠R.bn->b≠R.b6->b≠R.b7->m' b=m b))
   |_=>False) _ _ _ a6 (by
   rw[<-bUJ c R.bn R.b6 R.b7 Q h (λm2 h2=>∃m',m2=m'/\h2=h/\¬(24<n+1\/8<c)/\gG Q m' R.bn (sE (n+1))) (λm2 h2=>∃m',m2=m'/\h2=h/\(24<n+1\/8<c)/\m' f=some (.loop {pG R .ready none with state:=.busy})/\m' R.b6=some Hi/\m' R.b7=some (FM 2)/\(∃x,m' R.bn=some x)/\(∀b,b≠f->b≠R.bn->b≠R.b6->b≠R.b7->m' b=m b))];exact bVQ E h0 h1 J (λm' S g=>⟨m',rfl,rfl,S,g⟩) (λm' S k1 k2 k3 k4 k5=>⟨m',rfl,rfl,S,k1,k2,k3,k4,k5⟩))
  refine wpIn_mono hB ?_;obtain⟨n1,n2,n3,n4,n5,n6⟩:=E.ne;intro e a2 w2 D;cases e with
  |normal=>
   obtain⟨ι3,T,G,m',y,U,S,g⟩:=D;have H:T.m f=some (.loop {pG R .ready none with state:=.busy}):=by rw[y,g.other _ n1];exact J.at_
   have V:=G.wrel.msat f _ H;obtain⟨L,d⟩:∃L,gG T.m L f (.loop (pG R .ready none)):=⟨λb=>if b=f then some (.loop (pG R .ready none))else T.m b,bg,λb I=>by simp[I]⟩
   have W:=G.putM H d;refine⟨_,_,run_endRound none V,_,L,h,rfl,ht L S ⟨?_,λb I=>?_⟩,?_⟩
   .rw[d.other _ (λe=>n1 e.symm),y];exact g.at_
   .by_cases e:b=f
    .subst e;rw[d.at_];exact E.loop.symm
    .rw[d.other _ e,y,g.other _ I,J.other _ e]
   .have:=W.wrel;rw[U]at this;exact this.framed
  |ret=>
   obtain⟨ι3,T,G,m',y,U,S,k1,k2,k3,k4,k5⟩:=D;have H:T.m f=some (.loop {pG R .ready none with state:=.busy}):=by rw[y];exact k1
   have V:=G.wrel.msat f _ H;obtain⟨L,d⟩:∃L,gG T.m L f (.loop (pG R .done (some .ret))):=⟨λb=>if b=f then some (.loop (pG R .done (some .ret)))else T.m b,bg,λb I=>by simp[I]⟩
   have W:=G.putM H d;refine⟨_,_,run_endRound (some .ret) V,_,L,h,rfl,hf L S ⟨d.at_,?_,?_,?_,λb b1 b2 b3 b4=>?_⟩,?_⟩
   .rw[d.other _ (λe=>n2 e.symm),y];exact k2
   .rw[d.other _ (λe=>n3 e.symm),y];exact k3
   .rw[d.other _ (λe=>n1 e.symm),y];exact k4
   .rw[d.other _ b1,y];exact k5 b b1 b2 b3 b4
   .have:=W.wrel;rw[U]at this;exact this.framed
  |exit id=>obtain⟨_,_,_,h⟩:=D;exact h.elim
  |goto t=>exact D.elim
  |panic ch=>exact D.elim
  |outgrown=>exact D.elim
 |ret=>obtain⟨_,_,_,h⟩:=X;exact h.elim
 |exit id=>obtain⟨_,_,_,h⟩:=X;exact h.elim
 |goto t=>exact X.elim
 |panic ch=>exact X.elim
 |outgrown=>exact X.elim
theorem buX{p:Sl}{G:Prop}(y:gO h s sc)(n:Ints h p ps)(j:KR K m h (fE s ps q))(z:dH s=0->ps.all dC=true->G):KC sc p v m h G K:=by
 dsimp only[KC,push_cast];have A:=n.slen;have u:=n.len;unfold fE at j;refine⟨sc,s,rfl,y,aB (λf=>j.err (.refl _) (if_neg (bj f))) (λf=>?_)⟩;have f:dH s=0:=bj f
 rw[if_pos f]at j;refine⟨λi=>i<=ps.length/\(ps.take i).all dC=true,λi=>ps.length-i,⟨0,⟨aC,bg⟩,MT⟩,λi⟨M,c⟩=>aE (λg=>?_) (λD=>⟨v,rfl,λb m' E F=>⟨z f ?_,b,m',E,F,MT⟩⟩)⟩
 .obtain⟨x,t⟩:=eN A g;obtain⟨b,o,e,r⟩:=n.at' t;refine⟨b,o,e,aC,g,x,.imm r,?_⟩;have d:dC x=true->(ps.take (i+1)).all dC=true:=λH=>by rw[xL t,c,H];rfl
  refine aB (λI=>aB (λJ=>aB (λL=>j.err (.refl _) (if_neg λe=>?_)) (λL=>⟨i+1,⟨aC,d ?_⟩,by show ps.length-(i+1)<ps.length-i;omega,MT⟩)) (λJ=>⟨i+1,⟨aC,d ?_⟩,by show ps.length-(i+1)<ps.length-i;omega,MT⟩)) (λI=>⟨i+1,⟨aC,d ?_⟩,by show ps.length-(i+1)<ps.length-i;omega,MT⟩)
  .have:dC x=false:=by simp_all [dC]
   rw[Bm t this]at e;cases e
  .simp_all [dC]
  .simp_all [dC]
  .simp_all [dC]
 .rw[take_of_length_le aC]at c;exact c
theorem UJ{α:Type}(d:α)(l:List (Nat×α)):∀(n i k:Nat),nth (uG d l n i) k=if k<n then some (match assoc l (i+k)with|some x=>x|none=>d)else none
 |0,i,k=>by simp[uG,nth]
 |n+1,i,0=>by rw[if_pos aC];rfl
 |n+1,i,k+1=>by
  simp only[uG,nth];rw[UJ d l n (i+1) k,show i+1+k=i+(k+1)by omega];by_cases h:k<n
  .rw[if_pos h,if_pos aC]
  .rw[if_neg h,if_neg aC]
theorem HO{p:Sl}{e:Int}{o:Vc.Own}(d:nth (uI sc p v e m h).own k=some (some o)):
 (k=3/\o= .cells 40 (sc.enc.map .val))\/(k=5/\o= .cells 35 (v.enc.map .val))\/(k=6/\o= .cells 30 [.val (.slice none 0 0)])\/(k=7/\o= .cells 44 [.val (.int .i64 e)]):=by
 have:(uI sc p v e m h).own=uG none [(3,some (.cells 40 (sc.enc.map .val))),(5,some (.cells 35 (v.enc.map .val))),(6,some (.cells 30 [.val (.slice none 0 0)])),(7,some (.cells 44 [.val (.int .i64 e)]))] 56 0:=rfl;rw[this,UJ]at d;split at d
 .simp only[Nat.zero_add,Option.some.injEq]at d;split at d
  .rename_i x c;subst d;simp only[assoc]at c;split at c
   .rename_i e;have:=Nat.eq_of_beq_eq_true e;simp at c;exact .inl ⟨this.symm,c.symm⟩
   .split at c
    .rename_i e;have:=Nat.eq_of_beq_eq_true e;simp at c;exact .inr (.inl ⟨this.symm,c.symm⟩)
    .split at c
     .rename_i e;have:=Nat.eq_of_beq_eq_true e;simp at c;exact .inr (.inr (.inl ⟨this.symm,c.symm⟩))
     .split at c
      .rename_i e;have:=Nat.eq_of_beq_eq_true e;simp at c;exact .inr (.inr (.inr ⟨this.symm,c.symm⟩))
      .cases c
  .cases d
 .cases d
def mark(D:Nat):Deferred:={target:=.collected D,args:= #[]}
theorem Fg{B:qJ}{ι:cg}{σ:St}{a:Act}{w:World}(d:aI B ι σ a w){T:Nat}{l:bm}(e:nth σ.own k=some (some (.cells T (l.map .val)))):∃b,ι k= .pointer (some ⟨b,0,none⟩)/\w.heap[b]? =some (.cells ⟨l⟩ T (0,0)):=by
 obtain⟨b,j,f,g,c⟩:=vM d e;rw[iC.vals]at c;refine⟨b,f,?_⟩;rw[g, <-c]
theorem ND{B:qJ}{ι:cg}{σ:St}{a:Act}{w:World}(e:aI B ι σ a w){t:Nat}(f:σ.sl[t]? =some (.at (.ptr k 0)))(g:ι k= .pointer (some ⟨b,0,none⟩)):a.tmps[t]? =some (.pointer (some ⟨b,0,none⟩)):=by
 obtain⟨v,j,n,c,d⟩:=e.slots.get t _ f;rw[g]at c;simp only[Value.pointer.injEq,Option.some.injEq,Addr.mk.injEq,and_true]at c;rw[<-c]at d;rw[<-Array.getElem?_toList,j,d]
theorem aIQ{B:qJ}{ι:cg}{a:Act}{w:World}{p:Sl}{F:Nat}(g:aI B ι (DB sc p v F m' h) a w)(e2:B.dfs=[])(c1:bW m h F)(a5:gG m m' F (.cells ⟨v.enc⟩ 35 (0,0)))(hq:dQ h q v){Q:Exit->Act->World->Prop}
 (e3:∀(e:Int)(D:Nat)(E:Nat->Prop)(a':Act)(w':World),aI ⟨w',E,h,[mark D]⟩ ι (uI sc p v e m h) a' w'->vR B m h w'->(∀b,E b->B.w0.heap.size<=b\/B.E b)->B.w0.heap.size<=D->w'.heap[D]? =some (.deferred (some []))->¬E D->
  ((uY q 8 0).1=true->e=0->Q .normal a' w')/\((uY q 8 0).1=false->e=2->Q .ret a' w')):
 (Code.rangeFunc (.tmp 36) #[37,38] rfA rfB).wp Tryz.prog Q a w:=by
 have J:=g.wrel;obtain⟨b3,a6,c2⟩:=Fg g (k:=3) (T:=40) (l:=sc.enc) rfl;obtain⟨b5,a7,c3⟩:=Fg g (k:=5) (T:=35) (l:=v.enc) rfl;obtain⟨L,P,c4⟩:=Fg g (k:=6) (T:=30) (l:=[.slice none 0 0]) rfl;obtain⟨O,S,c5⟩:=Fg g (k:=7) (T:=44) (l:=[.int .i64 0]) rfl;obtain⟨bn,a0,c6⟩:=Fg g (k:=11) (T:=3) (l:=[.int .i64 0]) rfl;have e4:=ND g (t:=11) (k:=11) rfl a0;have t6:=ND g (t:=6) (k:=6) rfl P;have t7:=ND g (t:=7) (k:=7) rfl S;have c7:a.tmps.size=53:=by have:=g.slots.length;rw[Array.length_toList]at this;rw[<-this];rfl
 have e5:a.eval (.tmp 36)= .func (.func 140) #[] #[.pointer (some ⟨F,0,none⟩)]:=g.ev (.tmp 36);have a8:w.heap[F]? =some (.cells ⟨v.enc⟩ 35 (0,0)):=J.msat F _ a5.at_;have e6:=(Array.getElem?_eq_some_iff.1 c2).1;have e7:=(Array.getElem?_eq_some_iff.1 c3).1;have e8:=(Array.getElem?_eq_some_iff.1 c4).1;have e9:=(Array.getElem?_eq_some_iff.1 c5).1;have f':=(Array.getElem?_eq_some_iff.1 c6).1;have f0:=(Array.getElem?_eq_some_iff.1 a8).1;have f3:=g.fresh 3 _ b3 rfl (by rw[a6];rfl);have f5:=g.fresh 5 _ b5 rfl (by rw[a7];rfl);have f6:=g.fresh 6 _ L rfl (by rw[P];rfl);have f7:=g.fresh 7 _ O rfl (by rw[S];rfl);have b1:=g.fresh 11 _ bn rfl (by rw[a0];rfl);have f1:b3≠L:=λe=>by have:=g.dist 3 6 _ _ b3 rfl rfl (by rw[a6];rfl) (by rw[P,e];rfl);omega
 have f2:b3≠O:=λe=>by have:=g.dist 3 7 _ _ b3 rfl rfl (by rw[a6];rfl) (by rw[S,e];rfl);omega
 have f4:b3≠bn:=λe=>by have:=g.dist 3 11 _ _ b3 rfl rfl (by rw[a6];rfl) (by rw[a0,e];rfl);omega
 have f8:b5≠L:=λe=>by have:=g.dist 5 6 _ _ b5 rfl rfl (by rw[a7];rfl) (by rw[P,e];rfl);omega
 have f9:b5≠O:=λe=>by have:=g.dist 5 7 _ _ b5 rfl rfl (by rw[a7];rfl) (by rw[S,e];rfl);omega
 have g':b5≠bn:=λe=>by have:=g.dist 5 11 _ _ b5 rfl rfl (by rw[a7];rfl) (by rw[a0,e];rfl);omega
 have g0:L≠O:=λe=>by have:=g.dist 6 7 _ _ L rfl rfl (by rw[P];rfl) (by rw[S,e];rfl);omega
 have c8:L≠bn:=λe=>by have:=g.dist 6 11 _ _ L rfl rfl (by rw[P];rfl) (by rw[a0,e];rfl);omega
 have c9:O≠bn:=λe=>by have:=g.dist 7 11 _ _ O rfl rfl (by rw[S];rfl) (by rw[a0,e];rfl);omega
 have a1:∀b,m' b=none->b≠F:=λb f e=>by rw[e,a5.at_]at f;cases f
 have q3:=a1 b3 f3.2.1;have q5:=a1 b5 f5.2.1;have q6:=a1 L f6.2.1;have q7:=a1 O f7.2.1;have qn:=a1 bn b1.2.1;refine(wpIn_wide (n:=0)).1 (wpIn_rangeFunc ?_);intro fn h9;obtain⟨l,hl⟩:∃l,l=w.heap.size+1:=⟨_,rfl⟩
 obtain⟨D,hD⟩:∃D,D=w.heap.size:=⟨_,rfl⟩
 let R:LR:=⟨fn,a.tmps,bn,L,O,D⟩
 obtain⟨W1,H⟩:∃W1,(w.alloc (.deferred (some []))).alloc (.loop (pG R .ready none))=W1:=⟨_,rfl⟩
 have s1:W1.heap.size=w.heap.size+2:=by rw[<-H];simp
 have a2:∀b,b<w.heap.size->W1.heap[b]? =w.heap[b]? :=λb f=>by
  rw[<-H,fG _ _ (by simp;omega),fG _ _ f]
 have d':W1.heap[D]? =some (.deferred (some [])):=by
  rw[<-H,hD,fG _ _ bg];exact j5 w _
 have d0:W1.heap[l]? =some (.loop (pG R .ready none)):=by
  rw[<-H,hl];have:=j5 (w.alloc (.deferred (some []))) (.loop (pG R .ready none))
  rwa [World.size_alloc]at this
 let M:MH:=λb=>if b=l then some (.loop (pG R .ready none))else if b=bn then some (sE 0)else if b=L then some Hi else if b=O then some (FM 0)else if b=F then some (.cells ⟨v.enc⟩ 35 (0,0))else none
 have b2:M l=some (.loop (pG R .ready none)):=by simp[M]
 have d5:M bn=some (sE 0):=(if_neg aC).trans (if_pos rfl);have b4:M L=some Hi:=(if_neg aC).trans ((if_neg c8).trans (if_pos rfl));have b8:M O=some (FM 0):=(if_neg aC).trans ((if_neg c9).trans ((if_neg (Ne.symm g0)).trans (if_pos rfl)));have d6:M F=some (.cells ⟨v.enc⟩ 35 (0,0)):=(if_neg aC).trans ((if_neg (Ne.symm qn)).trans ((if_neg (Ne.symm q6)).trans ((if_neg (Ne.symm q7)).trans (if_pos rfl))));have a3:∀b,b≠l->b≠bn->b≠L->b≠O->b≠F->M b=none:=λb h1 h2 h3 h4 h5=>(if_neg h1).trans ((if_neg h2).trans ((if_neg h3).trans ((if_neg h4).trans (if_neg h5))))
 have d7:∀b o,M b=some o->b=l\/b=bn\/b=L\/b=O\/b=F:=λb o f=>by
  refine Classical.byContradiction λhn=>?_;rw[a3 b (λe=>hn (.inl e)) (λe=>hn (.inr (.inl e))) (λe=>hn (.inr (.inr (.inl e)))) (λe=>hn (.inr (.inr (.inr (.inl e))))) (λe=>hn (.inr (.inr (.inr (.inr e)))))]at f;cases f
 have U:∀b i x,h b i=some x->b<w.heap.size:=λb i x z=>World.block_lt_of_cell? w ⟨b,i,none⟩ (J.hsat b i x z);have hL:yQ M l R 0:=⟨b2,d5,b4,b8,c7,e4,t6,t7⟩
 have d8:Al W1 M h [yv l,YR F] [.func (.yield l) #[] #[],.pointer (some ⟨F,0,none⟩)]:=by
  refine⟨⟨rfl,rfl,trivial⟩,?_,?_,?_,?_,?_⟩
  .intro b i x z;rw[World.cell?_of_block (w:=w) (w':=W1) (a:=⟨b,i,none⟩) (a2 b (U b i x z))];exact J.hsat b i x z
  .intro b o f;rcases d7 b o f with rfl|rfl|rfl|rfl|rfl
   .rw[b2]at f;cases f;exact d0
   .rw[d5]at f;cases f;rw[a2 _ f'];exact c6
   .rw[b4]at f;cases f;rw[a2 _ e8];exact c4
   .rw[b8]at f;cases f;rw[a2 _ e9];exact c5
   .rw[d6]at f;cases f;rw[a2 _ f0];exact a8
  .intro b o f i;rcases d7 b o f with rfl|rfl|rfl|rfl|rfl
   .cases e:h b i with
    |none=>rfl
    |some x=>have:=U _ _ _ e;omega
   .exact b1.2.2 i
   .exact f6.2.2 i
   .exact f7.2.2 i
   .exact c1.h_ i
  .intro i j c d u u' b A hu hj hv f
   have:∃x,c= .val x:=by
    match i,A with
    |0,A=>simp[yv]at A;exact⟨_,A.symm⟩
    |1,A=>simp[YR]at A;exact⟨_,A.symm⟩
    |_+2,A=>simp at A
   obtain⟨x,rfl⟩:=this;simp[gE]at f
  .intro i c u b A hu f
   have:∃x,c= .val x:=by
    match i,A with
    |0,A=>simp[yv]at A;exact⟨_,A.symm⟩
    |1,A=>simp[YR]at A;exact⟨_,A.symm⟩
    |_+2,A=>simp at A
   obtain⟨x,rfl⟩:=this;simp[gE]at f
 have b9:=(Yk aEZ).2 [yv l,YR F] [.func (.yield l) #[] #[],.pointer (some ⟨F,0,none⟩)] M h W1 (λ_ mm hh=>hh=h/\(((uY q 8 0).1=false/\Aj M mm l R)\/((uY q 8 0).1=true/\∃n,gG M mm bn (sE n))))
  ⟨v,q,l,F,R,rfl,d6,hq,hL,λmm hv hs=>⟨rfl,.inl ⟨hv,hs⟩⟩,λmm hv hu=>⟨rfl,.inr ⟨hv,_,hu⟩⟩⟩ d8
 have c':(Instr.enterLoop fn a.tmps #[37,38] rfA rfB Fence.wide.round).run Tryz.prog w= .ok (l,[mark D]) W1:=by
  subst hD hl;rw[<-H];exact run_enterLoop_outer _ _ _ _ _
 refine⟨l,[mark D],W1,{target:=.fn (.func 140) #[.pointer (some ⟨F,0,none⟩)],args:= #[.func (.yield l) #[] #[]]},W1,140, #[.func (.yield l) #[] #[],.pointer (some ⟨F,0,none⟩)],W1,c',?_,λ_ _=>trivial,?_,λe=>by simp[Fence.wide]at e,callsIn_wide.2 ?_⟩
 .simp only[resolve,rangeCall,e5];simp[go_sem]
 .have hf:Tryz.prog.funcs[140]? =some Tryz.f140:=func140;have g4:¬Tryz.f140.body=none:=by intro e;have:Tryz.f140.body=some (cC Tryz.f140):=rfl;rw[this]at e;cases e
  have g5:¬Tryz.f140.name= "runtime.NumGoroutine" :=bh
  simp only[invoke,callFunc];simp[program,Sem.run,hf,g5,g4]
 refine b9.mono ?_;rintro e V ⟨r,u,mm,hh,rfl,⟨c0,d9⟩,i',G,_⟩;have c0:=c0.symm;subst c0
 have a4:∀b,M b=none->¬rU M [yv l,YR F] [.func (.yield l) #[] #[],.pointer (some ⟨F,0,none⟩)] b:=by
  rintro b f (h1|⟨i,c,u,A,hu,hc⟩)
  .exact h1 f
  .have:∃x,c= .val x:=by
    match i,A with
    |0,A=>simp[yv]at A;exact⟨_,A.symm⟩
    |1,A=>simp[YR]at A;exact⟨_,A.symm⟩
    |_+2,A=>simp at A
   obtain⟨x,rfl⟩:=this;simp[gE]at hc
 have a9:∀b,b<W1.heap.size->M b=none->V.heap[b]? =W1.heap[b]? :=λb f hn=>G.frame b f (a4 b hn);have X:=G.size;have X:W1.heap.size<=V.heap.size:=X;obtain⟨n1,n2,n3,n4,n5,n6⟩:=hL.ne
 have key:∀(e:Int)(st:LoopState)(pe:Option Code),st≠ .busy->mm l=some (.loop (pG R st pe))->mm L=some Hi->mm O=some (FM e)->
  (Instr.endLoop l).run Tryz.prog V= .ok pe (V.putObj l (.loop {pG R st pe with state:=.exhausted}))/\
  ((uY q 8 0).1=true->e=0->Q .normal {a with defers:=[mark D]++a.defers} (V.putObj l (.loop {pG R st pe with state:=.exhausted})))/\
  ((uY q 8 0).1=false->e=2->Q .ret {a with defers:=[mark D]++a.defers} (V.putObj l (.loop {pG R st pe with state:=.exhausted}))):=by
  intro e st pe g6 kl k6 k7;have g7:=G.msat l _ kl;refine⟨run_endLoop g7 g6,?_⟩;obtain⟨Y,W⟩:∃Y,V.putObj l (.loop {pG R st pe with state:=.exhausted})=Y:=⟨_,rfl⟩
  rw[W];have b':∀b,b≠l->Y.heap[b]? =V.heap[b]? :=λb f=>by rw[<-W];exact World.putObj_heap_other (λe=>f e)
  have s4:Y.heap.size=V.heap.size:=by rw[<-W];simp
  have Z:∀b,b<w.heap.size->M b=none->Y.heap[b]? =w.heap[b]? :=λb f hn=>by
   rw[b' b aC,a9 b aC hn,a2 b f]
  have I:∀b o,m b=some o->M b=none/\b<w.heap.size/\m' b=some o:=λb o f=>by
   have a8:b≠F:=λe=>by rw[e,c1.m_]at f;cases f
   have b0:m' b=some o:=by rw[a5.other b a8];exact f
   have g8:=(Array.getElem?_eq_some_iff.1 (J.msat b o b0)).1
   have ne:∀c,(DB sc p v F m' h).m c=none->b≠c:=λc hc e=>by
    have hc:m' c=none:=hc;rw[<-e,b0]at hc;cases hc
   exact⟨a3 b aC (ne _ b1.2.1) (ne _ f6.2.1) (ne _ f7.2.1) a8,g8,b0⟩
  have e':∀b i x,h b i=some x->Y.cell? ⟨b,i,none⟩=some x:=λb i x z=>by
   have f:b≠l:=λe=>by have:=U b i x z;omega
   rw[World.cell?_of_block (w:=V) (w':=Y) (a:=⟨b,i,none⟩) (b' b f)];exact G.hsat b i x z
  have wr:vR B m h Y:=by
   refine⟨?_,?_,?_,?_,?_,?_,e',?_,?_,J.hle,J.hold,?_⟩
   .have:Y.tape=V.tape:=by rw[<-W];rfl
    rw[this,G.tape];show W1.tape=_;rw[<-H];exact J.tape
   .have:Y.os=V.os:=by rw[<-W];rfl
    rw[this,G.os];show W1.os=_;rw[<-H];exact J.os
   .have:Y.output=V.output:=by rw[<-W];rfl
    rw[this,G.output];show W1.output=_;rw[<-H];exact J.output
   .have d4:Y.drawn=V.drawn:=by rw[<-W];rfl
    have d3:W1.drawn<=V.drawn:=G.drawn;have d2:W1.drawn=w.drawn:=by rw[<-H];rfl
    have d1:B.w0.drawn<=w.drawn:=J.drawn;omega
   .have:=J.size;omega
   .intro b f e0;have g9:b<w.heap.size:=Nat.lt_of_lt_of_le f J.size
    have ne:∀c,(B.w0.heap.size<=c\/B.E c)->b≠c:=λc hc e=>by
     subst e;rcases hc with h1|h1
     .omega
     .exact e0 h1
    rw[Z b g9 (a3 b aC (ne _ b1.1) (ne _ f6.1) (ne _ f7.1) (ne _ (J.mfr F _ a5.at_)))];exact J.frame b f e0
   .intro b o f;obtain⟨k1,k2,k3⟩:=I b o f;rw[Z b k2 k1];exact J.msat b o k3
   .intro b o f i;exact J.disj b o (I b o f).2.2 i
   .intro b o f;exact J.mfr b o (I b o f).2.2
  have h0:Y.heap[D]? =some (.deferred (some [])):=by
   rw[b' D aC,a9 D aC (a3 D aC aC aC aC aC)];exact d'
  refine e3 e D (λb=>m b≠none\/∃k o,nth (DB sc p v F m' h).own k=some (some o)/\blk (ι k)=some b) {a with defers:=[mark D]++a.defers} Y ⟨?_,?_,?_,?_,?_,?_,g.one⟩ wr ?_ ?_ h0 ?_
  .show DenS ι (uG (.at .junk) [(1,sv p),(3,.at (.ptr 3 0)),(5,.at (.ptr 5 0)),(6,.at (.ptr 6 0)),(7,.at (.ptr 7 0))] 53 0) a.tmps.toList;refine K9 53 0 _ _ (by rw[Array.length_toList];exact c7) (λj x u z hu=>?_)
   have get:∀(t:Nat)(y:SV),(DB sc p v F m' h).sl[t]? =some y->t=j->Den ι y u:=λt y ht e=>by
    obtain⟨v',e1,h6⟩:=g.slots.get t y ht;subst e;rw[hu]at e1;cases e1;exact h6
   simp only[assoc,Nat.zero_add]at z;split at z
   .rename_i e;simp at z;subst z;exact get 1 _ rfl (Nat.eq_of_beq_eq_true e)
   .split at z
    .rename_i e;simp at z;subst z;exact get 3 _ rfl (Nat.eq_of_beq_eq_true e)
    .split at z
     .rename_i e;simp at z;subst z;exact get 5 _ rfl (Nat.eq_of_beq_eq_true e)
     .split at z
      .rename_i e;simp at z;subst z;exact get 6 _ rfl (Nat.eq_of_beq_eq_true e)
      .split at z
       .rename_i e;simp at z;subst z;exact get 7 _ rfl (Nat.eq_of_beq_eq_true e)
       .cases z
  .show[mark D]++a.defers=[mark D]
   rw[g.defers,e2];rfl
  .intro k o hk;rcases HO hk with⟨rfl,rfl⟩|⟨rfl,rfl⟩|⟨rfl,rfl⟩|⟨rfl,rfl⟩
   .exact⟨b3,_,a6,by rw[Z b3 e6 (a3 b3 aC f4 f1 f2 q3)];exact c2,iC.vals.2 rfl,λ_ e=>by cases e⟩
   .exact⟨b5,_,a7,by rw[Z b5 e7 (a3 b5 aC g' f8 f9 q5)];exact c3,iC.vals.2 rfl,λ_ e=>by cases e⟩
   .exact⟨L,_,P,by rw[b' L aC];exact G.msat L _ k6,iC.vals (l:=[.slice none 0 0]).2 rfl,λ_ e=>by cases e⟩
   .exact⟨O,_,S,by rw[b' O aC];exact G.msat O _ k7,iC.vals (l:=[.int .i64 e]).2 rfl,λ_ e=>by cases e⟩
  .have up:∀k o,nth (uI sc p v e m h).own k=some (some o)->∃o',nth (DB sc p v F m' h).own k=some (some o'):=λk o hk=>by
    rcases HO hk with⟨rfl,rfl⟩|⟨rfl,rfl⟩|⟨rfl,rfl⟩|⟨rfl,rfl⟩<;>exact⟨_,rfl⟩
   intro k k' o o' b hk h7 f b0;obtain⟨x,z⟩:=up k o hk;obtain⟨x',h8⟩:=up k' o' h7;exact g.dist k k' x x' b z h8 f b0
  .have up:∀k o,nth (uI sc p v e m h).own k=some (some o)->∃o',nth (DB sc p v F m' h).own k=some (some o'):=λk o hk=>by
    rcases HO hk with⟨rfl,rfl⟩|⟨rfl,rfl⟩|⟨rfl,rfl⟩|⟨rfl,rfl⟩<;>exact⟨_,rfl⟩
   intro k o b hk f;obtain⟨x,z⟩:=up k o hk;obtain⟨g1,g2,g3⟩:=g.fresh k x b z f;refine⟨.inr (.inr ⟨k,x,z,f⟩),?_,g3⟩;show m b=none;have g2:m' b=none:=g2;rw[<-a5.other b (a1 b g2)];exact g2
  .exact⟨rfl,rfl,rfl,Nat.le_refl _,Nat.le_refl _,λ_ _ _=>rfl,e',wr.msat,wr.disj,λ_ _ _ e=>e,λ_ _ _=>rfl,λb o f=>.inr (.inl (by rw[show m b=some o from f];simp))⟩
  .rintro b (h1|⟨k,o,hk,f⟩)
   .cases e:m b with
    |none=>exact(h1 e).elim
    |some o=>exact wr.mfr b o e
   .exact(g.fresh k o b hk f).1
  .rw[hD];exact J.size
  .rintro(h1|⟨k,o,hk,f⟩)
   .cases e:m D with
    |none=>exact h1 e
    |some o=>have:=(I D o e).2.1;omega
   .have:=pA (g.own k o hk) f;omega
 rcases d9 with⟨hv,hs⟩|⟨hv,n,hu⟩
 .obtain⟨r1,_,r3⟩:=key 2 .done (some .ret) bg hs.loop hs.k_ hs.e_;exact⟨_,_,r1,wpIn_ret (r3 hv rfl)⟩
 .obtain⟨r1,r2,_⟩:=key 0 .ready none bg (by rw[hu.other l n1];exact b2) (by rw[hu.other L c8];exact b4) (by rw[hu.other O c9];exact b8);exact⟨_,_,r1,r2 hv rfl⟩
set_option maxRecDepth 100000 in
theorem aqJ:bk 39 AB:=by
 refine⟨⟨Tryz.f39,func39,rfl,bh⟩,?_⟩;rintro b7 vs m h w K ⟨sc,p,v,s,ps,q,rfl,hs,hp,J,U⟩ a4;refine callsIn_wide.1 (callsIn_of_wp_marks (n:=0) func39 (show Tryz.f39.body=some (cC Tryz.f39)from rfl) trivial (wpIn_wide.2 ?_));have W:=EM Tryz.f39.ntmps a4;have hn:Tryz.f39.ntmps=53:=bf
 rw[hn]at W⊢
 obtain⟨B,hB⟩:∃B:qJ,B=⟨w,rU m [aS sc,cS p,aQ v] vs,h,[]⟩:=⟨_,rfl⟩
 rw[<-hB]at W;have a6:B.dfs=[]:=by rw[hB]
 have t:∀g S,assoc (Ad sc p v m h).specs g=some S->Sound (Ad sc p v m h).P g S:=aD aa (aD aoX aF)
 have y:∀u A,(∃r m' h',K r m' h'/\Du A r u/\vR B m' h' A/\∀b,gE r u=some b->(B.w0.heap.size<=b\/B.E b)/\m' b=none/\∀i,h' b i=none)->
  ∃r u' m' h',Ending.returned u= .returned u'/\K r m' h'/\Du A r u'/\vR ⟨w,rU m [aS sc,cS p,aQ v] vs,h,[]⟩ m' h' A/\(∀b,gE r u'=some b->(w.heap.size<=b\/rU m [aS sc,cS p,aQ v] vs b)/\m' b=none/\∀i,h' b i=none):=by
  rintro u A ⟨r,m',h',X,h2,h3,h4⟩;subst hB;exact⟨r,u,m',h',rfl,X,h2,h3,h4⟩
 have hV:VC (Ad sc p v m h) (L1 4 (cC Tryz.f39)) (entry 53 [aS sc,cS p,aQ v] m h) (thenS (Vt sc p v m h (dH s=0/\ps.all dC=true)) (QY sc p v m h K)):=by
  rw[<-buQ sc p v m h (dH s=0/\ps.all dC=true) K];exact buX hs hp U (λX h2=>⟨X,h2⟩)
 have key:=λR=>T3 (C:=Ad sc p v m h) (Q2:=Vt sc p v m h (dH s=0/\ps.all dC=true)) (Q:=QY sc p v m h K) (R:=R) t rfl rfl 4 (cC Tryz.f39) _ _ _ _ W;generalize f:VC (Ad sc p v m h) (L1 4 (cC Tryz.f39)) (entry 53 [aS sc,cS p,aQ v] m h) (thenS (Vt sc p v m h (dH s=0/\ps.all dC=true)) (QY sc p v m h K))=V at hV key;clear f;refine key _ hV ?_ ?_
 .intro ι τ a1 w1 b1 X;unfold Vt at X;rw[aFZ];have L:=λR=>T3 (C:=Ad sc p v m h) (Q2:=ZK sc p v m h (dH s=0/\ps.all dC=true)) (Q:=λ_ _=>False) (R:=R) t rfl rfl 1 (Jp (B4 4 (cC Tryz.f39))) _ _ _ _ b1;generalize f:VC (Ad sc p v m h) (L1 1 (Jp (B4 4 (cC Tryz.f39)))) τ (thenS (ZK sc p v m h (dH s=0/\ps.all dC=true)) (λ_ _=>False))=V at X L;clear f;refine wp_seq (L _ X ?_ ?_)
  .intro ι2 τ2 a2 w2 b2 h2;unfold ZK at h2;obtain⟨⟨g1,g2⟩,bq,m',b3,b4,b5⟩:=h2;obtain⟨ι3,b6,_⟩:=kT b2 b5;rw[agX];refine wp_block (aIQ b6 a6 b3 b4 J ?_);intro e D E a' A a7 a8 hE hD a9 b';have M:D<A.heap.size:=(Array.getElem?_eq_some_iff.1 a9).1
   have j:∀{C:Ctx},C.P=Tryz.prog->∀(ι5:cg)(Y:St)(Z:Act)(w5:World),aI ⟨A,E,h,[mark D]⟩ ι5 Y Z w5->Df C Tryz.f39 K Y->∀{R:Ending->World->Prop},(∀u d,(∃r m' h',K r m' h'/\Du d r u/\vR B m' h' d/\∀b,gE r u=some b->(B.w0.heap.size<=b\/B.E b)/\m' b=none/\∀i,h' b i=none)->R (.returned u) d)->LeavesInM Fence.wide 0 Tryz.prog Tryz.f39 Z.tmps R Z.defers .returning w5:=by
    intro C hC ι5 Y Z w5 F H R hR;rw[<-hC];refine WY (C:=C) F rfl ?_ M b' H (λu d=>?_)
    .rw[F.wrel.frame D M b'];exact a9
    .rintro⟨r,mf,hf,k1,k2,z,k4⟩
     have b0:∀b,(E b\/b=D)->B.w0.heap.size<=b\/B.E b:=by
      rintro b (e|rfl)
      .exact hE b e
      .exact .inl hD
     refine hR u d ⟨r,mf,hf,k1,k2,a8.trans (E:=λb=>E b\/b=D) ⟨z.tape,z.os,z.output,z.drawn,z.size,z.frame,z.hsat,z.msat,z.disj,z.hle,z.hold,z.mfr⟩ b0,λb hb=>?_⟩;obtain⟨j1,j2,j3⟩:=k4 b hb;refine⟨?_,j2,j3⟩;rcases j1 with j1|j1
     .exact .inl (Nat.le_trans a8.size j1)
     .exact b0 b j1
   refine⟨λhv he=>?_,λhv he=>?_⟩
   .subst he;show(B4 5 (cC Tryz.f39)).wp _ _ a' A;have a0:lP q=true:=by rw[<-FY];exact hv
    have ht:QU (SizeOf.sizeOf q+1) sc p v m h K:=by
     unfold fE at U;rw[if_pos g1,if_pos g2,if_pos a0]at U;exact⟨sc,p,v,s,ps,q,rfl,hs,Qe g1,hp,J,aC,U⟩
    rw[btZ]at ht;have O:=W5 (C:=dG [(77,Ak (SizeOf.sizeOf q+1))] [] [] [] false) (fn:=Tryz.f39) (c:=B4 5 (cC Tryz.f39)) (K:=K) (aD (QO _) aF) a7;generalize f:sC (dG [(77,Ak (SizeOf.sizeOf q+1))] [] [] [] false) Tryz.f39 (B4 5 (cC Tryz.f39)) (uI sc p v 0 m h) K=V at ht O;clear f;refine wp_mono (O ht) ?_;intro e Z w5 G;cases e with
    |normal=>
     obtain⟨ι5,Y,F,H⟩:=G;exact j rfl ι5 Y Z w5 F H (λu d hx=>y u d hx)
    |ret=>
     obtain⟨ι5,Y,F,H⟩:=G;exact j rfl ι5 Y Z w5 F H (λu d hx=>y u d hx)
    |exit id=>exact G.elim
    |goto l=>exact G.elim
    |panic ch=>exact G.elim
    |outgrown=>exact G.elim
   .subst he;have a0:¬lP q=true:=by rw[<-FY,hv];simp
    have H:QX sc p v m h K:=by
     unfold fE at U;rw[if_pos g1,if_pos g2,if_neg a0]at U;exact U.err (.refl _) rfl
    rw[btJ]at H;have T:=@j cY rfl ι3 (uI sc p v 2 m h) a' A a7;generalize f:Df cY Tryz.f39 K (uI sc p v 2 m h)=V at H T;clear f;exact T H (λu d hx=>y u d hx)
  .rintro e a w J a3;cases e with
   |normal=>exact(a3 rfl).elim
   |exit id=>obtain⟨_,_,_,h⟩:=J;exact h.elim
   |ret=>obtain⟨_,_,_,h⟩:=J;exact h.elim
   |goto l=>exact J.elim
   |panic ch=>exact J.elim
   |outgrown=>exact J.elim
 .rintro e a' A I a3;cases e with
  |normal=>exact(a3 rfl).elim
  |exit id=>
   obtain⟨_,_,_,h⟩:=I;simp only[QY]at h
  |ret=>
   obtain⟨ι,σ,hM,H⟩:=I;simp only[QY]at H;obtain⟨u,hu,r,m',h',k1,k2,z,k4⟩:=F0 hM H;show LeavesInM Fence.wide 0 Tryz.prog Tryz.f39 a'.tmps _ a'.defers .returning A;rw[hM.defers,a6];exact⟨u,hu,y u A ⟨r,m',h',k1,k2,z,k4⟩⟩
  |goto l=>exact I.elim
  |panic ch=>exact I.elim
  |outgrown=>exact I.elim
end Go.Ps
