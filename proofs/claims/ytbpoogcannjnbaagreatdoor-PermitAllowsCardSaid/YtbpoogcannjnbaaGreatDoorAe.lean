/- Own work. -/
import Derived.RangeFuncLeaves
import Derived.RangeFuncCalls
import Derived.Test.YtbpoogcannjnbaaGreatDoorAd
noncomputable section
namespace Go.Vc
open Go List
section
variable{B:vU}{C:bk}{ι:tv}{σ:St}{a:Act}{w:World}{o:Oper}{K:St->Prop}
theorem ZJ(h:UY C o σ K):∀c,o.op≠ .defer c:=by
 grind[UY,Ut]
theorem K6 l{P next Q}(e:∀c,o.op≠ .defer c)(h:o.wpIn Fence.wide 0 P a w next Q):o.wpIn (Fence.wide.inRound l) 0 P a w next Q:=by
 refine⟨λ_ _=>trivial,?_⟩;have b:o.uponIn Fence.wide 0 P a next Q ((execOp a.eval o).run P w):=h.2
 show o.uponIn (Fence.wide.inRound l) 0 P a next Q ((o.semAt (some l) a.eval).run P w)
 rw[Oper.semAt_eq _ _ _ e];cases d:(execOp a.eval o).run P w with
 |ok x f=>
  rw[d]at b;cases x<;>exact b
 |halt x f=>
  rw[d]at b;cases x<;>exact b
theorem Sr(l:Nat)(b:∀g S,cg C.cq g=some S->af C.P g S){ops:Array Oper}{Q:Exit->Act->World->Prop}{R:St->Prop}(q:∀ι σ a w,aL B ι σ a w->R σ->Q .normal a w):
 ∀(c:List Oper)(s:Nat)(ι:tv)(σ:St)(a:Act)(w:World),(∀j,c[j]?=ops.toList[s+j]?)->aL B ι σ a w->UN C ops c σ R->wpOpsIn (Fence.wide.inRound l) 0 C.P ops Q (range' s c.length) a w
 |[],s,ι,σ,a,w,_,m,h=>q ι σ a w m h
 |o::c,s,ι,σ,a,w,r,m,h=>by
  have t:ops[s]?=some o:=by have:=r 0;grind
  simp only[te,range'_succ,wpOpsIn,t]
  have next:∀n e f i,aL B n e f i->UN C ops c e R->wpOpsIn (Fence.wide.inRound l) 0 C.P ops Q (range' (s+1) c.length) f i:=λn e f i u v=>
   Sr l b q c (s+1) n e f i (λj=>by have:=r (j+1);grind) u v
  have⟨A,d,y,z⟩:=FO m h;rcases z with⟨p,h⟩|⟨p,h⟩
  .rw[if_pos p];exact K6 l (ZJ h) (UX b d h _ Q next)
  .rw[if_neg (by simp[p])];exact⟨λ_ _=>trivial,next ι _ _ _ (d.put o.dst (x:=.at (.val undef)) rfl) h⟩
def nM(C:bk):Code->Bool
 |.skip=>true
 |.ret=>true
 |.exit _=>true
 |.region id _ d=>!d&&(OP C id).isEmpty
 |.seq x y=>(byZ C y).isNone&&(TU C y).isNone&&nM C x&&nM C y
 |.cond _ x y=>nM C x&&nM C y
 |.block _ c=>nM C c
 |_=>false
theorem UI l(n:∀g S,cg C.cq g=some S->af C.P g S):∀c,nM C c=true->∀σ Q ι a w,aL B ι σ a w->VC C c σ Q->c.wpIn (Fence.wide.inRound l) 0 C.P (QD B Q) a w:=by
 intro c
 induction c with
 |skip=>intro _ σ Q ι a w b h;exact wpIn_skip ⟨ι,σ,b,h⟩
 |exit id=>intro _ σ Q ι a w b h;exact wpIn_exit ⟨ι,σ,b,h⟩
 |ret=>intro _ σ Q ι a w b h;exact wpIn_ret ⟨ι,σ,b,h⟩
 |label l=>grind[nM]
 |goto l=>grind[nM]
 |refuse L=>grind[nM]
 |scope v E=>grind[nM]
 |loop v E=>grind[nM]
 |rangeFunc f V x y p q=>grind[nM]
 |region id ops z=>
  intro r σ Q ι a w b h;cases z with
  |true=>grind[nM]
  |false=>
   have F:OP C id=[]:=by grind[nM,isEmpty_iff]
   refine wpIn_region ?_;have h:boX C ops (OP C id) ops.toList σ (Q .normal):=h;rw[F]at h;have:=Sr l n (ops:=ops) (Q:=QD B Q) (R:=Q .normal) (λι σ a w b h=>⟨ι,σ,b,h⟩) ops.toList 0 ι σ a w (λj=>bu) b h
   grind[range_eq_range']
 |seq x y p q=>
  intro r σ Q ι a w b h;simp only[nM,su,Option.isNone_iff_eq_none]at r;obtain⟨⟨⟨M,N⟩,O⟩,T⟩:=r;simp only[VC,M,N]at h;refine wpIn_seq (wpIn_mono (p O σ _ ι a w b h) ?_);intro e I J d;cases e with
  |normal=>
   obtain⟨A,D,s,u⟩:=d;exact q T D Q A I J s u
  |exit id=>exact d
  |ret=>exact d
  |goto l=>exact d
  |panic U=>exact d
  |outgrown=>exact d
 |cond c x y p q=>
  intro r σ Q ι a w b h;simp only[nM,su]at r;simp only[VC]at h;split at h
  .rename_i t G;have m:=b.ev c;rw[G]at m;have m:a.eval c=.bool t:=m;rcases xW h with⟨rfl,h⟩|⟨rfl,h⟩
   .exact wpIn_cond_true m (p r.1 _ Q ι a w (b.dk G) h)
   .exact wpIn_cond_false m (q r.2 _ Q ι a w (b.dk G) h)
  grind
 |block id c E=>
  intro r σ Q ι a w b h;refine wpIn_block (wpIn_mono (E r σ _ ι a w b h) ?_);intro e I J d;cases e with
  |normal=>exact d
  |exit i=>
   obtain⟨A,D,s,u⟩:=d;show if i=id then _ else _
   simp only at u;split at u
   .rename_i H;rw[if_pos (sw H)];exact⟨A,D,s,u⟩
   .rename_i H;rw[if_neg (λe=>by subst e;simp at H)];exact⟨A,D,s,u⟩
  |ret=>exact d
  |goto l=>exact d
  |panic U=>exact d
  |outgrown=>exact d
def QP:Nat->Code->Code
 |n+1,.seq x y=>.seq x (QP n y)
 |_,_=>.skip
def EW:Nat->Code->Code
 |n+1,.seq _ y=>EW n y
 |_,c=>c
def kf(Q2:St->Prop)(Q:CW->St->Prop):CW->St->Prop:=λe τ=>match e with|.normal=>Q2 τ|e=>Q e τ
theorem Y7(b:∀g S,cg C.cq g=some S->af C.P g S)(D:C.iu=[])(r:C.ki=[]){Q2 Q R}:
 ∀n c ι σ a w,aL B ι σ a w->VC C (QP n c) σ (kf Q2 Q)->
  (∀ι τ a w,aL B ι τ a w->Q2 τ->(EW n c).wp C.P R a w)->(∀e a w,QD B Q e a w->e≠ .normal->R e a w)->c.wp C.P R a w:=by
 have f:∀y,byZ C y=none:=λy=>by grind[byZ,cg]
 have i:∀y,TU C y=none:=λy=>by grind[TU,cg]
 intro n
 induction n with
 |zero=>intro c ι σ a w j h m _;exact m ι σ a w j h
 |succ n s=>
  intro c;cases c with
  |seq x y=>
   intro ι σ a w j h m p;simp only[QP,VC,f,i]at h;refine wp_seq (wp_mono (LX b x σ _ ι a w j h) ?_);intro e t u d;cases e with
   |normal=>
    obtain⟨v,z,q,A⟩:=d;exact s y v z t u q A m p
   |exit id=>exact p _ _ _ d bu
   |ret=>exact p _ _ _ d bu
   |goto l=>exact d.elim
   |panic E=>exact d.elim
   |outgrown=>exact d.elim
  |_=>intro ι σ a w j h m _;exact m ι σ a w j h
def dSX(B:vU)(C:bk)(fn:Func)(K:tt):Exit->Act->World->Prop
 |.normal,a,w=>∃ι σ,aL B ι σ a w/\Gi C fn K σ
 |.ret,a,w=>∃ι σ,aL B ι σ a w/\Gi C fn K σ
 |_,_,_=>False
theorem aMZ(b:∀g S,cg C.cq g=some S->af C.P g S)(f:aL B ι σ a w){fn c K}(h:xS C fn c σ K):c.wp C.P (dSX B C fn K) a w:=by
 refine wp_mono (LX b c σ _ ι a w f h) ?_;intro e i j d;cases e with
 |normal=>exact d
 |ret=>exact d
 |exit id=>obtain⟨_,_,_,h⟩:=d;exact h.elim
 |goto l=>exact d.elim
 |panic m=>exact d.elim
 |outgrown=>exact d.elim
theorem aL.putM(j:aL B ι σ a w){b ob h m'}(q:σ.m b=some ob)(r:iZ σ.m m' b h):aL B ι {σ with m:=m'} a (w.putObj b h):=by
 have f:=j.g;have t:b<w.heap.size:=(Array.getElem?_eq_some_iff.1 (f.t b ob q)).1;have g:∀d,d≠b->(w.putObj b h).heap[d]?=w.heap[d]? :=λd n=>World.putObj_heap_other (λe=>n e)
 have l:∀k o,cr σ.own k=some (some o)->∀d,cj (ι k)=some d->d≠b:=λk o p d c e=>by
  have:=(j.f k o d p c).2.1
  grind
 refine⟨j.dq,j.defers,λk o p=>(j.own k o p).world (λd c=>g d (l k o p d c)),j.eh,?_,?_,j.one⟩
 .intro k o d p c;have⟨u,y,z⟩:=j.f k o d p c;exact⟨u,by show m' d=none;rw[r.ai d (l k o p d c)];exact y,z⟩
 .refine⟨f.tape,f.os,f.output,f.drawn,by have:=f.size;simpa using this,?_,?_,?_,?_,f.iz,f.hold,?_⟩
  .intro d A D;rw[g d (λe=>?_)]
   .exact f.frame d A D
   .subst e;rcases f.gc d ob q with E|E
    .omega
    grind
  .intro d i v s;have n:d≠b:=λe=>by rw[e,f.z b ob q i]at s;cases s
   rw[World.cell?_of_block (w:=w) (w':=w.putObj b h) (a:=⟨d,i,none⟩) (g d n)];exact f.F d i v s
  .intro d o c;have c:m' d=some o:=c;by_cases e:d=b
   .subst e;rw[r.y]at c
    grind[World.putObj_heap_same]
   .rw[r.ai d e]at c;rw[g d e];exact f.t d o c
  .intro d o c i;have c:m' d=some o:=c;by_cases e:d=b
   .subst e;exact f.z d ob q i
   .rw[r.ai d e]at c;exact f.z d o c i
  .intro d o c;have c:m' d=some o:=c;by_cases e:d=b
   .subst e;exact f.gc d ob q
   .rw[r.ai d e]at c;exact f.gc d o c
theorem aL.putD(h:aL B ι σ a w){D ob} n(y:w.heap[D]?=some ob)(r:ob.isCells=false)(s:D<B.w0.heap.size)(t:¬B.E D):
 aL {B with E:=λb=>B.E b\/b=D} ι σ a (w.putObj D n):=by
 have f:=h.g;have g:∀c,c≠D->(w.putObj D n).heap[c]?=w.heap[c]? :=λc l=>World.putObj_heap_other (λe=>l e)
 have p:∀k o,cr σ.own k=some (some o)->∀c,cj (ι k)=some c->c≠D:=λk o m c d e=>by
  rcases(h.f k o c m d).1 with j|j
  .omega
  grind
 refine⟨h.dq,h.defers,λk o m=>(h.own k o m).world (λc d=>g c (p k o m c d)),h.eh,?_,?_,h.one⟩
 .intro k o c m d;have⟨z,A,F⟩:=h.f k o c m d
  grind
 .refine⟨f.tape,f.os,f.output,f.drawn,by have:=f.size;simpa using this,?_,?_,?_,f.z,f.iz,?_,?_⟩
  .intro c j q;rw[g c (λe=>q (.inr e))];exact f.frame c j (λe=>q (.inl e))
  .intro c i v u;have j:=f.F c i v u
   grind[World.cell?,Obj.isCells,World.cell?_of_block]
  .intro c o d
   have l:c≠D:=λe=>by
    rcases f.gc c o d with j|j
    .omega
    grind
   rw[g c l];exact f.t c o d
  .intro c j q;exact f.hold c j (λe=>q (.inl e))
  .intro c o d;exact(f.gc c o d).imp id .inl
theorem aKJ{F n D}(j:aL B ι σ a w)(m:B.dfs=[{target:=.collected D,args:=#[]}])(l:w.heap[D]?=some (.deferred (some [])))(d:D<B.w0.heap.size)(e:¬B.E D){fn K}(h:Gi C fn K σ){R}(p:∀u w',(∃r m' c,K r m' c/\GD w' r u/\AV {B with E:=λb=>B.E b\/b=D} m' c w'/\∀b,jC r u=some b->(B.w0.heap.size<=b\/(B.E b\/b=D))/\m' b=none/\∀i,c b i=none)->R (.returned u) w'):
 LeavesInM F n C.P fn a.tmps R a.defers .returning w:=by
 rw[j.defers,m];refine⟨bu,.inl ⟨D,_,rfl,run_takeDeferred l,?_⟩⟩;have f:=j.putD (.deferred none) l rfl d e;have⟨u,q,r,m',c,s,g,t,v⟩:=Jk f h;exact⟨u,q,p u _ ⟨r,m',c,s,g,t,v⟩⟩
theorem P1:∀(n i:Nat)(l:uw)(vs:tm),vs.length=n->(∀j x v,cg l (i+j)=some x->vs[j]?=some v->fw ι x v)->dp ι (zZ (.at .di) l n i) vs
 |0,i,l,[],_,_=>trivial
 |0,i,l,_::_,h,_=>by simp at h
 |n+1,i,l,[],h,_=>by simp at h
 |n+1,i,l,v::vs,h,b=>by
  refine⟨?_,P1 n (i+1) l vs (mp h) (λj x u c d=>b (j+1) x u da da)⟩;have:=b 0;cases e:cg l i with
  |none=>trivial
  |some x=>grind
end
end Go.Vc
namespace Go.Ps
open Go Go.Vc Go.Proofs List Tryz
variable{m:MH}{h:PH}{sc:bQ}{v:QV}{p:ao}{i b:Nat}
def BM(b:Nat):SV:=.at (.val (.pointer (some ⟨b,0,none⟩)))
def N4:Code->Code
 |.seq x _=>x
 |c=>c
def cY:=WP []
def CG(sc:bQ)(p:Sl)(v:QV)(m:MH)(h:PH):=
 dD [(66,yY),(111,Xm)] [(5,{A:=Nat,st:=λi=>bO 53 56 ([(1,sv p),SW 3,SW 5,SW 6,SW 7]++WF 18 p i) [UV 3 29 sc.ag,UV 5 68 v.ag,(6,.cells 31 [.val (.slice none 0 0)]),(7,.cells 47 [.val (.int .i64 0)])] m h})] [] [] false
def GN(sc:bQ)(p:Sl)(v:QV)(b:Nat)(m:MH)(h:PH):=
 bO 53 56 [(1,sv p),SW 3,SW 5,SW 6,SW 7,SW 11,(36,vv (.func (.func 147) #[] #[.pointer (some ⟨b,0,none⟩)]))] [UV 3 29 sc.ag,UV 5 68 v.ag,(6,.cells 31 [.val (.slice none 0 0)]),(7,.cells 47 [.val (.int .i64 0)]),(11,.cells 3 [.val (.int .i64 0)])] m h
def z6(sc:bQ)(p:Sl)(v:QV)(e:Int)(m:MH)(h:PH):=
 bO 53 56 [(1,sv p),SW 3,SW 5,SW 6,SW 7] [UV 3 29 sc.ag,UV 5 68 v.ag,(6,.cells 31 [.val (.slice none 0 0)]),(7,.cells 47 [.val (.int .i64 e)])] m h
end Go.Ps
namespace Go.Vc
open Go.Ps Go.Proofs List
def bwZ sc p v m h G:=λτ=>G/\∃b m',eT m h b/\iZ m m' b (.cells ⟨v.ag⟩ 68 (0,0))/\Bx τ (GN sc p v b m' h) True
def alQ sc p v m h G:=λτ=>VC (CG sc p v m h) (QP 1 (N4 (EW 4 (cZ Tryz.f68)))) τ (kf (bwZ sc p v m h G) (λ_ _=>False))
def Vo(sc:bQ)(p:Sl)(v:QV)(m:MH)(h:PH)(K:tt):CW->St->Prop:=λe τ=>match e with|.ret=>Gi (CG sc p v m h) Tryz.f68 K τ|_=>False
end Go.Vc
namespace Go.Ps
open Go Go.Vc Go.Proofs List Tryz
variable{K:tt}{m:MH}{h:PH}{s:kD}{sc:bQ}{v:QV}{q:ae}{p:ao}{l:ti}{i N:Nat}{m':MH}{a:ti}{b:Nat}
def daX(c:Int)(d e f:Nat)(m:MH)(h:PH):=
  cK e/\cK f/\cK d/\bM c/\eV (m=m) (h=h)
theorem dVJ c d f g m h:daX c d f g m h=(VC cY rfA (bO 53 53 [(37,iv c),(11,BM d),(6,BM f),(7,BM g)] [] m h) (λe τ=>match e with|.normal=>Bx τ (bO 53 53 [(12,iv c),(11,BM d),(6,BM f),(7,BM g)] [] m h) True|_=>False)):=bt
def Ye(d:Int)(t u z:Nat)(m:MH)(h:PH)(N T:MH->PH->Prop):=
  wY m h t 0 (λy=>aj m t (pW (j6 y 1)) (λe=>wY e h t 0 (λA=>wQ (decide (A>24)) (aj e u B8 (λg=>aj g z (pW 2) (λn=>T n h))) d 8 (aj e u B8 (λg=>aj g z (pW 2) (λn=>T n h))) (N e h))))
theorem dVX c d f g m h N T:Ye c d f g m h N T=(VC cY rfB (bO 53 53 [(12,iv c),(11,BM d),(6,BM f),(7,BM g)] [] m h) (λe τ=>match e with|.normal=>N τ.m τ.h|.ret=>T τ.m τ.h|_=>False)):=bt
abbrev JB:=eQ (oQ 31 A8)
abbrev Hl a:=eQ (oQ a [fZ])
attribute [push_cast] JB Hl
def Pl sc p v m h G K:=
 Dx sc h (λs=>cM (dO s) 0 (fR K (dO s) m h) (mF (λI x=>I x/\aH p/\eP 3/\bY/\jW/\eP 7/\aH p/\aY p/\bB x/\aW sc/\eJ v/\JB/\bX (Hl 47) m m h h) (λI d x=>I x->aX x (aF p) (aM (λb o=>aR p.a b o/\0<=(↑x:Int)/\x<aF p/\∃y,let A:=∃c,I c/\d c<d x/\aH p/\cR/\bY/\jW/\eP 7/\aH p/\aY p/\fI (bA x 1)=bR c/\aW sc/\eJ v/\JB/\Hl 47/\m=m/\h=h/\True;aK m h b (bI o x 1) (bV y)/\cM y 3 (cM y 4 (cM y 5 (fR K 1 m h) A) A) A)) (∃f,lN (eO (i7 v) (i7 f)) (λb=>∀g,eT m h b->cF m g b f.ag 68->G/\∃e j,eT m h e/\cF m j e v.ag 68/\aH p/\cR/\bY/\jW/\eP 7/\nF/\FE (Fn.func 147) (D7 b)=FE (Fn.func 147) (D7 e)/\aW sc/\eJ v/\JB/\Hl 47/\Hl 3/\g=j/\h=h/\True)))))
theorem dhQ sc p v m h G K:Pl sc p v m h G K=(VC (CG sc p v m h) (QP 4 (cZ Tryz.f68)) (entry 53 [aS sc,cS p,aQ v] m h) (kf (alQ sc p v m h G) (Vo sc p v m h K))):=bt
def Vl(N:Nat)(sc:bQ)(p:Sl)(v:QV):ST:=λm h K=>MC sc p v h (λd s c q=>cQ h q d/\pR q N/\GS h (cX s c q) (λe f=>K (CV.dg (j8 e (.val (pW (cX s c q).2)))) m f))
theorem dgZ N sc p v m h K:Vl N sc p v m h K=(xS (WP [(112,Ef N)]) Tryz.f68 (EW 5 (cZ Tryz.f68)) (z6 sc p v 0 m h) K):=bt
def Vm(sc:bQ)(p:Sl)(v:QV):=λm h K=>fR K 2 m h
theorem dgJ sc p v m h K:Vm sc p v m h K=(Gi cY Tryz.f68 K (z6 sc p v 2 m h)):=bt
theorem bOZ:EW 1 (N4 (EW 4 (cZ Tryz.f68)))=.block 2 (.rangeFunc (.tmp 36) #[37,38] rfA rfB):=bt
theorem ceJ:EW 4 (cZ Tryz.f68)=.seq (N4 (EW 4 (cZ Tryz.f68))) (EW 5 (cZ Tryz.f68)):=bt
theorem bMX:nM cY rfA=true:=bt
theorem bMQ:nM cY rfB=true:=bt
theorem dVZ{d l R n y N T}(D:B3 m l R n)(h0:0<=n)(h1:n<=24){ob}(j:iZ m y l ob)(U:∀m',¬(24<n+1\/8<d)->iZ y m' R.bn (xV (n+1))->N m' h)(V:∀m',(24<n+1\/8<d)->m' l=some ob->m' R.b6=some K1->m' R.b7=some (IZ 2)->(∃x,m' R.bn=some x)->(∀b,b≠l->b≠R.bn->b≠R.b6->b≠R.b7->m' b=m b)->T m' h):Ye d R.bn R.b6 R.b7 y h N T:=by
 dsimp only[Ye,push_cast];have⟨J,L,M,O,P,Q⟩:=D.ne;have z:y R.bn=some (xV n):=by rw[j.ai _ (λe=>J e.symm)];exact D.n_
 have W:IntKind.i64.wrap (n+1)=n+1:=dW aC aC;refine⟨n,.i z rfl,_,_,⟨z⟩,bu,λu c=>?_⟩;rw[W]at c;have c:iZ y u R.bn (xV (n+1)):=c;have X:u R.b6=some K1:=by rw[c.ai _ O,j.ai _ (λe=>L e.symm)];exact D.k_
 have Y:u R.b7=some (IZ 0):=by rw[c.ai _ P,j.ai _ (λe=>M e.symm)];exact D.e_
 have t:(24<n+1\/8<d)->∃(cs:Array Value)(E:TypeId),yA u R.b6 (.cells cs E (0,0))/\0<cs.size/\∀m',iZ u m' R.b6 (.cells ⟨Value.slice none 0 0::cs.toList.drop 1⟩ E (0,0))->∃(cs:Array Value)(E:TypeId),yA m' R.b7 (.cells cs E (0,0))/\0<cs.size/\∀A,iZ m' A R.b7 (.cells ⟨Value.int .i64 2::cs.toList.drop 1⟩ E (0,0))->T A h:=by
  intro F;refine⟨_,_,⟨X⟩,bu,λG f=>?_⟩;have f:iZ u G R.b6 K1:=f;have H:G R.b7=some (IZ 0):=by rw[f.ai _ (λe=>Q e.symm)];exact Y
  refine⟨_,_,⟨H⟩,bu,λS g=>?_⟩;have g:iZ G S R.b7 (IZ 2):=g;refine V S F ?_ ?_ g.y ⟨xV (n+1),?_⟩ (λb Z b2 b3 b4=>?_)
  .rw[g.ai _ M,f.ai _ L,c.ai _ J];exact j.y
  .rw[g.ai _ Q];exact f.y
  .rw[g.ai _ (λe=>P e.symm),f.ai _ (λe=>O e.symm)];exact c.y
  .rw[g.ai _ b4,f.ai _ b3,c.ai _ b2,j.ai _ Z]
 refine⟨n+1,.i c.y rfl,aE (λF=>t aC) (λF=>aE (λI=>t aC) (λI=>U u aC c))⟩
end Go.Ps
namespace Go.Vc
open Go.Ps Go.Proofs List
theorem AV.qv{w m h m' h' w' ds}(c:AV ⟨w,λb=>m b≠none,h,ds⟩ m' h' w'):Ui w m h m' h' w':=
 ⟨c.tape,c.os,c.output,c.drawn,c.size,λb d f=>c.frame b d (λe=>e f),⟨c.F,c.t,c.z⟩,⟨c.iz⟩,λb d f=>c.hold b d (λe=>e f),λb o d=>c.gc b o d⟩
end Go.Vc
namespace Go.Ps
open Go Go.Vc Go.Proofs List Tryz
variable{K:tt}{m:MH}{h:PH}{s:kD}{ps:ti}{sc:bQ}{v:QV}{q:ae}{p:ao}{l:ti}{i:Nat}{m':MH}{h':PH}{w:ao}{r:Sl}{a:ti}{b:Nat}
theorem cdX:Qb Tryz.prog YS:=by
 refine⟨λl vs m h w K hS hH=>?_⟩;obtain⟨f,c,v,R,n,he,F,h0,h1,hf,ht⟩:=hS
 obtain⟨rfl,rfl⟩:f=l/\vs=[.int .i64 c,.agg ⟨v.ag⟩]:=by
  simp only[yv,cI,aQ,List.cons.injEq,CV.val.injEq,Value.func.injEq,Fn.yield.injEq,and_true]at he;refine⟨he.1.symm,?_⟩;have:=he.2
  match vs,this with
  |[a,b],h=>grind
  |[],h=>simp at h
  |[_],h=>simp at h
  |_::_::_::_,h=>simp at h
 have hl:=hH.t f _ F.loop;have W:=run_yield (P:=Tryz.prog) (args:=#[.int .i64 c,.agg ⟨v.ag⟩]) hl rfl;refine⟨_,_,_,_,W,roundIn_of_wpIn trivial ?_⟩;obtain⟨J,X⟩:∃J,((uR R .ready none).params.zip #[Value.int .i64 c,.agg ⟨v.ag⟩]).foldl (λtmps(t,a)=>tmps.setIfInBounds t a) (uR R .ready none).tmps=J:=⟨_,rfl⟩
 rw[X];have Y:J=(R.tmps.setIfInBounds 37 (.int .i64 c)).setIfInBounds 38 (.agg ⟨v.ag⟩):=by rw[<-X];simp[uR]
 have a6:J.size=53:=by rw[Y];simp[F.size]
 have get:∀j,j≠37->j≠38->J[j]?=R.tmps[j]? :=λj h1 h2=>by
  grind
 have L:J[37]?=some (.int .i64 c):=by
  grind
 have hM:aL ⟨w,λb=>m b≠none,h,[]⟩ (λ_=>.slice none 0 0) (bO 53 53 [(37,iv c),(11,BM R.bn),(6,BM R.b6),(7,BM R.b7)] [] m h) {tmps:=J,defers:=[]} w:=by
  refine⟨?_,rfl,?_,?_,?_,?_,λ_=>rfl⟩
  .show dp _ (zZ (.at .di) [(37,iv c),(11,BM R.bn),(6,BM R.b6),(7,BM R.b7)] 53 0) J.toList;refine P1 53 0 _ _ aC (λj x u z g=>?_);rw[td]at g;simp only[cg,Nat.zero_add]at z;split at z
   .rename_i e;have:=sw e;subst this;rw[L]at g;simp at z g;subst z g;rfl
   .split at z
    .rename_i e;have:=sw e;subst this;rw[get 11 aC aC,F.t11]at g;simp at z g;subst z g;rfl
    .split at z
     .rename_i e;have:=sw e;subst this;rw[get 6 aC aC,F.t6]at g;simp at z g;subst z g;rfl
     .split at z
      .rename_i e;have:=sw e;subst this;rw[get 7 aC aC,F.t7]at g;simp at z g;subst z g;rfl
      .cases z
  .intro k o Z;rw[mK]at Z;have:(bO 53 53 [(37,iv c),(11,BM R.bn),(6,BM R.b6),(7,BM R.b7)] [] m h).own=replicate 53 none:=by rfl
   grind
  .intro k k' o o' b Z;rw[mK]at Z;have:(bO 53 53 [(37,iv c),(11,BM R.bn),(6,BM R.b6),(7,BM R.b7)] [] m h).own=replicate 53 none:=by rfl
   grind
  .intro k o b Z;rw[mK]at Z;have:(bO 53 53 [(37,iv c),(11,BM R.bn),(6,BM R.b6),(7,BM R.b7)] [] m h).own=replicate 53 none:=by rfl
   grind
  .exact⟨rfl,rfl,rfl,Nat.le_refl _,Nat.le_refl _,λ_ _ _=>rfl,hH.F,hH.t,hH.z,λ_ _ _ e=>e,λ_ _ _=>rfl,λb o G=>.inr (by show m b≠none;rw[show m b=some o from G];simp)⟩
 have hA:=UI (C:=cY) f aG rfA bMX _ _ _ _ _ hM (by
  rw[<-dVJ c R.bn R.b6 R.b7 m h];exact MT)
 refine wpIn_mono hA ?_;intro e a1 w1 V;cases e with
 |normal=>
  obtain⟨ι1,τ,a0,a3⟩:=V;have⟨ι2,a',_⟩:=oP a0 a3;have a4:w1.heap[f]?=some (.loop (uR R .ready none)):=a'.g.t f _ F.loop;refine⟨_,run_beginRound a4 rfl,?_⟩;obtain⟨M,H⟩:∃M,iZ m M f (.loop {uR R .ready none with state:=.busy}):=⟨λb=>if b=f then some (.loop {uR R .ready none with state:=.busy})else m b,bu,λb G=>by simp[G]⟩
  have a5:aL ⟨w,λb=>m b≠none,h,[]⟩ ι2 (bO 53 53 [(12,iv c),(11,BM R.bn),(6,BM R.b6),(7,BM R.b7)] [] M h) a1 _:=a'.putM (m':=M) F.loop H
  have hB:=UI (C:=cY) f aG rfB bMQ _ (λe τ=>match e with
   |.normal=>(∃m',τ.m=m'/\τ.h=h/\¬(24<n+1\/8<c)/\iZ M m' R.bn (xV (n+1)))
   |.ret=>(∃m',τ.m=m'/\τ.h=h/\(24<n+1\/8<c)/\m' f=some (.loop {uR R .ready none with state:=.busy})/\m' R.b6=some K1/\m' R.b7=some (IZ 2)/\(∃x,m' R.bn=some x)/\(∀b,b≠f->b≠R.bn->b≠R.b6->b≠R.b7->m' b=m b))
   |_=>False) _ _ _ a5 (by
   rw[<-dVX c R.bn R.b6 R.b7 M h (λm2 h2=>∃m',m2=m'/\h2=h/\¬(24<n+1\/8<c)/\iZ M m' R.bn (xV (n+1))) (λm2 h2=>∃m',m2=m'/\h2=h/\(24<n+1\/8<c)/\m' f=some (.loop {uR R .ready none with state:=.busy})/\m' R.b6=some K1/\m' R.b7=some (IZ 2)/\(∃x,m' R.bn=some x)/\(∀b,b≠f->b≠R.bn->b≠R.b6->b≠R.b7->m' b=m b))];exact dVZ F h0 h1 H (λm' O g=>⟨m',rfl,rfl,O,g⟩) (λm' O k1 k2 k3 k4 k5=>⟨m',rfl,rfl,O,k1,k2,k3,k4,k5⟩))
  refine wpIn_mono hB ?_;have⟨n1,n2,n3,n4,n5,n6⟩:=F.ne;intro e a2 w2 A;cases e with
  |normal=>
   obtain⟨ι3,Q,D,m',y,S,O,g⟩:=A;have E:Q.m f=some (.loop {uR R .ready none with state:=.busy}):=by rw[y,g.ai _ n1];exact H.y
   have T:=D.g.t f _ E;obtain⟨I,d⟩:∃I,iZ Q.m I f (.loop (uR R .ready none)):=⟨λb=>if b=f then some (.loop (uR R .ready none))else Q.m b,bu,λb G=>by simp[G]⟩
   have U:=D.putM E d;refine⟨_,_,run_endRound none T,_,I,h,rfl,ht I O ⟨?_,λb G=>?_⟩,?_⟩
   .rw[d.ai _ (λe=>n1 e.symm),y];exact g.y
   .by_cases e:b=f
    .subst e;rw[d.y];exact F.loop.symm
    .rw[d.ai _ e,y,g.ai _ G,H.ai _ e]
   .have:=U.g;rw[S]at this;exact this.qv
  |ret=>
   obtain⟨ι3,Q,D,m',y,S,O,k1,k2,k3,k4,k5⟩:=A;have E:Q.m f=some (.loop {uR R .ready none with state:=.busy}):=da
   have T:=D.g.t f _ E;obtain⟨I,d⟩:∃I,iZ Q.m I f (.loop (uR R .done (some .ret))):=⟨λb=>if b=f then some (.loop (uR R .done (some .ret)))else Q.m b,bu,λb G=>by simp[G]⟩
   have U:=D.putM E d;refine⟨_,_,run_endRound (some .ret) T,_,I,h,rfl,hf I O ⟨d.y,?_,?_,?_,λb b1 b2 b3 b4=>?_⟩,?_⟩
   .rw[d.ai _ (λe=>n2 e.symm),y];exact k2
   .rw[d.ai _ (λe=>n3 e.symm),y];exact k3
   .rw[d.ai _ (λe=>n1 e.symm),y];exact k4
   .rw[d.ai _ b1,y];grind
   .have:=U.g;rw[S]at this;exact this.qv
  |exit id=>obtain⟨_,_,_,h⟩:=A;exact h.elim
  |goto t=>exact A.elim
  |panic ch=>exact A.elim
  |outgrown=>exact A.elim
 |ret=>obtain⟨_,_,_,h⟩:=V;exact h.elim
 |exit id=>obtain⟨_,_,_,h⟩:=V;exact h.elim
 |goto t=>exact V.elim
 |panic ch=>exact V.elim
 |outgrown=>exact V.elim
theorem dhX{p G}(u:dV h s sc)(j:an h p ps)(f:KR K m h (iG s ps q))(y:dO s=0->ps.all eA=true->G):Pl sc p v m h G K:=by
 dsimp only[Pl,push_cast];have z:=j.e;have n:=j.len;unfold iG at f;refine⟨sc,s,rfl,u,aB (λg=>f.fj (.refl _) (if_neg da)) (λg=>?_)⟩;have g:dO s=0:=da
 rw[if_pos g]at f;refine⟨λi=>i<=ps.length/\(ps.take i).all eA=true,λi=>ps.length-i,⟨0,⟨aC,bu⟩,MT⟩,λi⟨L,t⟩=>aE (λd=>?_) (λA=>⟨v,rfl,λb m' D E=>⟨y g ?_,b,m',D,E,MT⟩⟩)⟩
 .have⟨x,F⟩:=eF z d;have⟨b,o,e,r⟩:=j.im F;refine⟨b,o,e,aC,d,x,.ay r,?_⟩;have c:eA x=true->(ps.take (i+1)).all eA=true:=λM=>by grind[EI]
  refine aB (λH=>aB (λI=>aB (λJ=>f.fj (.refl _) (if_neg λe=>?_)) (λJ=>⟨i+1,⟨aC,c ?_⟩,da,MT⟩)) (λI=>⟨i+1,⟨aC,c ?_⟩,da,MT⟩)) (λH=>⟨i+1,⟨aC,c ?_⟩,da,MT⟩)
  .grind[eA]
  .simp_all[eA]
  .simp_all[eA]
  .simp_all[eA]
 grind
theorem ZM{α:Type}(d:α)(l:List (Nat×α)):∀(n i k:Nat),cr (zZ d l n i) k=if k<n then some (match cg l (i+k)with|some x=>x|none=>d)else none
 |0,i,k=>by simp[zZ,cr]
 |n+1,i,0=>by rw[if_pos aC];rfl
 |n+1,i,k+1=>by
  simp only[zZ,cr];rw[ZM d l n (i+1) k,show i+1+k=i+(k+1)by omega]
  grind
theorem LJ{p e k o}(c:cr (z6 sc p v e m h).own k=some (some o)):
 (k=3/\o=.cells 29 (sc.ag.map .val))\/(k=5/\o=.cells 68 (v.ag.map .val))\/(k=6/\o=.cells 31 [.val (.slice none 0 0)])\/(k=7/\o=.cells 47 [.val (.int .i64 e)]):=by
 have:(z6 sc p v e m h).own=zZ none [(3,some (.cells 29 (sc.ag.map .val))),(5,some (.cells 68 (v.ag.map .val))),(6,some (.cells 31 [.val (.slice none 0 0)])),(7,some (.cells 47 [.val (.int .i64 e)]))] 56 0:=rfl;rw[this,ZM]at c;split at c
 .simp only[Nat.zero_add,ss]at c;split at c
  .rename_i x d;subst c;simp only[cg]at d;split at d
   .simp_all
   grind[sw]
  .cases c
 .cases c
def mark(D:Nat):Deferred:={target:=.collected D,args:=#[]}
theorem It{B ι σ a w}(d:aL B ι σ a w){k T l}(e:cr σ.own k=some (some (.cells T (l.map .val)))):∃b,ι k=.pointer (some ⟨b,0,none⟩)/\w.heap[b]?=some (.cells ⟨l⟩ T (0,0)):=by
 have⟨b,j,f,g,c⟩:=AM d e;rw[kB.fk]at c;refine⟨b,f,?_⟩;rw[g,<-c]
theorem Sp{B ι σ a w}(c:aL B ι σ a w){t:Nat}{k}(d:σ.sl[t]?=some (.at (.ptr k 0)))(e:ι k=.pointer (some ⟨b,0,none⟩)):a.tmps[t]?=some (.pointer (some ⟨b,0,none⟩)):=by
 have⟨v,f,g,j,n⟩:=c.dq.get t _ d
 grind
theorem chJ{B ι a w p z}(A:aL B ι (GN sc p v z m' h) a w)(e0:B.dfs=[])(c0:eT m h z)(a0:iZ m m' z (.cells ⟨v.ag⟩ 68 (0,0)))(hq:cQ h q v){Q}(e1:∀e D E a' w',aL ⟨w',E,h,[mark D]⟩ ι (z6 sc p v e m h) a' w'->AV B m h w'->(∀b,E b->B.w0.heap.size<=b\/B.E b)->B.w0.heap.size<=D->w'.heap[D]?=some (.deferred (some []))->¬E D->
  ((AS q 8 0).1=true->e=0->Q .normal a' w')/\((AS q 8 0).1=false->e=2->Q .ret a' w')):
 (Code.rangeFunc (.tmp 36) #[37,38] rfA rfB).wp Tryz.prog Q a w:=by
 have J:=A.g;have⟨b3,c1,c2⟩:=It A (k:=3) (T:=29) (l:=sc.ag) rfl;have⟨b5,c3,c4⟩:=It A (k:=5) (T:=68) (l:=v.ag) rfl;have⟨M,a7,c5⟩:=It A (k:=6) (T:=31) (l:=[.slice none 0 0]) rfl;have⟨O,a8,c6⟩:=It A (k:=7) (T:=47) (l:=[.int .i64 0]) rfl;have⟨bn,c7,c8⟩:=It A (k:=11) (T:=3) (l:=[.int .i64 0]) rfl;have e2:=Sp A (t:=11) (k:=11) rfl c7;have t6:=Sp A (t:=6) (k:=6) rfl a7;have t7:=Sp A (t:=7) (k:=7) rfl a8;have e3:a.tmps.size=53:=by have:=A.dq.length;rw[Array.length_toList]at this;rw[<-this];rfl
 have e4:a.eval (.tmp 36)=.func (.func 147) #[] #[.pointer (some ⟨z,0,none⟩)]:=A.ev (.tmp 36);have a2:w.heap[z]?=some (.cells ⟨v.ag⟩ 68 (0,0)):=J.t z _ a0.y;have e5:=(Array.getElem?_eq_some_iff.1 c2).1;have e6:=(Array.getElem?_eq_some_iff.1 c4).1;have e7:=(Array.getElem?_eq_some_iff.1 c5).1;have e8:=(Array.getElem?_eq_some_iff.1 c6).1;have e9:=(Array.getElem?_eq_some_iff.1 c8).1;have h6:=(Array.getElem?_eq_some_iff.1 a2).1;have a9:=A.f 3 _ b3 rfl (by rw[c1];rfl);have b':=A.f 5 _ b5 rfl (by rw[c3];rfl);have H:=A.f 6 _ M rfl (by rw[a7];rfl);have f7:=A.f 7 _ O rfl (by rw[a8];rfl);have a3:=A.f 11 _ bn rfl (by rw[c7];rfl);have f':b3≠M:=λe=>da
 have f0:b3≠O:=λe=>da
 have f1:b3≠bn:=λe=>da
 have f2:b5≠M:=λe=>da
 have f3:b5≠O:=λe=>da
 have f4:b5≠bn:=λe=>da
 have f5:M≠O:=λe=>da
 have c9:M≠bn:=λe=>da
 have d':O≠bn:=λe=>da
 have Y:∀b,m' b=none->b≠z:=λb f e=>by rw[e,a0.y]at f;cases f
 have q3:=Y b3 a9.2.1;have q5:=Y b5 b'.2.1;have q6:=Y M H.2.1;have q7:=Y O f7.2.1;have qn:=Y bn a3.2.1;refine(wpIn_wide (n:=0)).1 (wpIn_rangeFunc ?_);intro fn h7;obtain⟨l,hl⟩:∃l,l=w.heap.size+1:=⟨_,rfl⟩
 obtain⟨D,hD⟩:∃D,D=w.heap.size:=⟨_,rfl⟩
 let R:LR:=⟨fn,a.tmps,bn,M,O,D⟩
 obtain⟨W1,I⟩:∃W1,(w.alloc (.deferred (some []))).alloc (.loop (uR R .ready none))=W1:=⟨_,rfl⟩
 have s1:W1.heap.size=w.heap.size+2:=by rw[<-I];simp
 have a4:∀b,b<w.heap.size->W1.heap[b]?=w.heap[b]? :=λb f=>by
  rw[<-I,iF _ _ cv,iF _ _ f]
 have d0:W1.heap[D]?=some (.deferred (some [])):=by
  rw[<-I,hD,iF _ _ bu];exact nA w _
 have h0:W1.heap[l]?=some (.loop (uR R .ready none)):=by
  rw[<-I,hl];have:=nA (w.alloc (.deferred (some []))) (.loop (uR R .ready none))
  rwa [World.size_alloc]at this
 let L:MH:=λb=>if b=l then some (.loop (uR R .ready none))else if b=bn then some (xV 0)else if b=M then some K1 else if b=O then some (IZ 0)else if b=z then some (.cells ⟨v.ag⟩ 68 (0,0))else none
 have d5:L l=some (.loop (uR R .ready none)):=by simp[L]
 have d6:L bn=some (xV 0):=(if_neg aC).trans (if_pos rfl);have b0:L M=some K1:=(if_neg aC).trans ((if_neg c9).trans (if_pos rfl));have b1:L O=some (IZ 0):=(if_neg aC).trans ((if_neg d').trans ((if_neg (Ne.symm f5)).trans (if_pos rfl)));have f6:L z=some (.cells ⟨v.ag⟩ 68 (0,0)):=(if_neg aC).trans ((if_neg (Ne.symm qn)).trans ((if_neg (Ne.symm q6)).trans ((if_neg (Ne.symm q7)).trans (if_pos rfl))));have a1:∀b,b≠l->b≠bn->b≠M->b≠O->b≠z->L b=none:=λb h1 h2 h3 h4 h5=>(if_neg h1).trans ((if_neg h2).trans ((if_neg h3).trans ((if_neg h4).trans (if_neg h5))))
 have d7:∀b o,L b=some o->b=l\/b=bn\/b=M\/b=O\/b=z:=λb o f=>by
  grind
 have b2:∀b i x,h b i=some x->b<w.heap.size:=λb i x g=>World.block_lt_of_cell? w ⟨b,i,none⟩ (J.F b i x g);have hL:B3 L l R 0:=⟨d5,d6,b0,b1,e3,e2,t6,t7⟩
 have d8:CJ W1 L h [yv l,biQ z] [.func (.yield l) #[] #[],.pointer (some ⟨z,0,none⟩)]:=by
  refine⟨⟨rfl,rfl,trivial⟩,?_,?_,?_,?_,?_⟩
  .intro b i x g;rw[World.cell?_of_block (w:=w) (w':=W1) (a:=⟨b,i,none⟩) (a4 b (b2 b i x g))];exact J.F b i x g
  .intro b o f;rcases d7 b o f with rfl|rfl|rfl|rfl|rfl
   .grind
   .rw[d6]at f;cases f;rw[a4 _ e9];exact c8
   .rw[b0]at f;cases f;rw[a4 _ e7];exact c5
   .rw[b1]at f;cases f;rw[a4 _ e8];exact c6
   grind
  .intro b o f i;rcases d7 b o f with rfl|rfl|rfl|rfl|rfl
   .cases e:h b i with
    |none=>rfl
    |some x=>grind
   .exact a3.2.2 i
   .exact H.2.2 i
   .exact f7.2.2 i
   .exact c0.h_ i
  .intro i j c d u u' b F hu hj hv f
   have:∃x,c=.val x:=by
    match i,F with
    |0,F=>simp[yv]at F;grind
    |1,F=>simp[biQ]at F;grind
    |_+2,F=>simp at F
   obtain⟨x,rfl⟩:=this;simp[jC]at f
  .intro i c u b F hu f
   have:∃x,c=.val x:=by
    match i,F with
    |0,F=>simp[yv]at F;grind
    |1,F=>simp[biQ]at F;grind
    |_+2,F=>simp at F
   obtain⟨x,rfl⟩:=this;simp[jC]at f
 have b4:=(a9Q cdX).2 [yv l,biQ z] [.func (.yield l) #[] #[],.pointer (some ⟨z,0,none⟩)] L h W1 (λ_ mm hh=>hh=h/\(((AS q 8 0).1=false/\CI L mm l R)\/((AS q 8 0).1=true/\∃n,iZ L mm bn (xV n))))
  ⟨v,q,l,z,R,rfl,f6,hq,hL,λmm hv hs=>⟨rfl,.inl ⟨hv,hs⟩⟩,λmm hv hu=>⟨rfl,.inr ⟨hv,_,hu⟩⟩⟩ d8
 have b8:(Instr.enterLoop fn a.tmps #[37,38] rfA rfB Fence.wide.round).run Tryz.prog w=.ok (l,[mark D]) W1:=by
  subst hD hl;rw[<-I];exact run_enterLoop_outer _ _ _ _ _
 refine⟨l,[mark D],W1,{target:=.fn (.func 147) #[.pointer (some ⟨z,0,none⟩)],args:=#[.func (.yield l) #[] #[]]},W1,147, #[.func (.yield l) #[] #[],.pointer (some ⟨z,0,none⟩)],W1,b8,?_,λ_ _=>trivial,?_,λe=>by simp[Fence.wide]at e,callsIn_wide.2 ?_⟩
 .simp only[resolve,e4];simp[go_sem]
 .have hf:Tryz.prog.funcs[147]?=some Tryz.f147:=func147;have f8:¬Tryz.f147.body=none:=by intro e;have:Tryz.f147.body=some (cZ Tryz.f147):=rfl;grind
  have f9:¬Tryz.f147.name= "runtime.NumGoroutine" :=bx
  simp only[invoke,callFunc];simp[program,Sem.run,hf,f9,f8]
 refine b4.mono ?_;rintro e P⟨r,u,mm,hh,rfl,⟨b9,d9⟩,h8,G,_⟩;have b9:=b9.symm;subst b9
 have Z:∀b,L b=none->¬xL L [yv l,biQ z] [.func (.yield l) #[] #[],.pointer (some ⟨z,0,none⟩)] b:=by
  rintro b f (h1|⟨i,c,u,F,hu,hc⟩)
  .exact h1 f
  .have:∃x,c=.val x:=by
    match i,F with
    |0,F=>simp[yv]at F;grind
    |1,F=>simp[biQ]at F;grind
    |_+2,F=>simp at F
   obtain⟨x,rfl⟩:=this;simp[jC]at hc
 have c':∀b,b<W1.heap.size->L b=none->P.heap[b]?=W1.heap[b]? :=λb f hn=>G.frame b f (Z b hn);have V:=G.size;have V:W1.heap.size<=P.heap.size:=V;have⟨n1,n2,n3,n4,n5,n6⟩:=hL.ne
 have key:∀(e:Int)(st:LoopState)(pe:Option Code),st≠ .busy->mm l=some (.loop (uR R st pe))->mm M=some K1->mm O=some (IZ e)->
  (Instr.endLoop l).run Tryz.prog P=.ok pe (P.putObj l (.loop {uR R st pe with state:=.exhausted}))/\
  ((AS q 8 0).1=true->e=0->Q .normal {a with defers:=[mark D]++a.defers} (P.putObj l (.loop {uR R st pe with state:=.exhausted})))/\
  ((AS q 8 0).1=false->e=2->Q .ret {a with defers:=[mark D]++a.defers} (P.putObj l (.loop {uR R st pe with state:=.exhausted}))):=by
  intro e st pe g' kl k6 k7;have g0:=G.t l _ kl;refine⟨run_endLoop g0 g',?_⟩;obtain⟨W,S⟩:∃W,P.putObj l (.loop {uR R st pe with state:=.exhausted})=W:=⟨_,rfl⟩
  rw[S];have a5:∀b,b≠l->W.heap[b]?=P.heap[b]? :=λb f=>by rw[<-S];exact World.putObj_heap_other (λe=>f e)
  have s4:W.heap.size=P.heap.size:=by rw[<-S];simp
  have X:∀b,b<w.heap.size->L b=none->W.heap[b]?=w.heap[b]? :=λb f hn=>by
   grind
  have U:∀b o,m b=some o->L b=none/\b<w.heap.size/\m' b=some o:=λb o f=>by
   have a2:b≠z:=λe=>by rw[e,c0.m_]at f;cases f
   have a6:m' b=some o:=by rw[a0.ai b a2];exact f
   have g4:=(Array.getElem?_eq_some_iff.1 (J.t b o a6)).1
   have ne:∀c,(GN sc p v z m' h).m c=none->b≠c:=λc hc e=>by
    have hc:m' c=none:=hc
    grind
   exact⟨a1 b aC (ne _ a3.2.1) (ne _ H.2.1) (ne _ f7.2.1) a2,g4,a6⟩
  have e':∀b i x,h b i=some x->W.cell? ⟨b,i,none⟩=some x:=λb i x g=>by
   have f:b≠l:=λe=>da
   rw[World.cell?_of_block (w:=P) (w':=W) (a:=⟨b,i,none⟩) (a5 b f)];exact G.F b i x g
  have wr:AV B m h W:=by
   refine⟨?_,?_,?_,?_,?_,?_,e',?_,?_,J.iz,J.hold,?_⟩
   .have:W.tape=P.tape:=by rw[<-S];rfl
    rw[this,G.tape];show W1.tape=_;rw[<-I];exact J.tape
   .have:W.os=P.os:=by rw[<-S];rfl
    rw[this,G.os];show W1.os=_;rw[<-I];exact J.os
   .have:W.output=P.output:=by rw[<-S];rfl
    rw[this,G.output];show W1.output=_;rw[<-I];exact J.output
   .have d4:W.drawn=P.drawn:=by rw[<-S];rfl
    have d3:W1.drawn<=P.drawn:=G.drawn;have d2:W1.drawn=w.drawn:=by rw[<-I];rfl
    have d1:B.w0.drawn<=w.drawn:=J.drawn;omega
   .have:=J.size;omega
   .intro b f g5;have g6:b<w.heap.size:=tg f J.size
    have ne:∀c,(B.w0.heap.size<=c\/B.E c)->b≠c:=λc hc e=>by
     grind
    rw[X b g6 (a1 b aC (ne _ a3.1) (ne _ H.1) (ne _ f7.1) (ne _ (J.gc z _ a0.y)))];exact J.frame b f g5
   .intro b o f;have⟨k1,k2,k3⟩:=U b o f;rw[X b k2 k1];exact J.t b o k3
   .intro b o f i;exact J.z b o (U b o f).2.2 i
   .intro b o f;exact J.gc b o (U b o f).2.2
  have g7:W.heap[D]?=some (.deferred (some [])):=by
   rw[a5 D aC,c' D aC (a1 D aC aC aC aC aC)];exact d0
  refine e1 e D (λb=>m b≠none\/∃k o,cr (GN sc p v z m' h).own k=some (some o)/\cj (ι k)=some b) {a with defers:=[mark D]++a.defers} W ⟨?_,?_,?_,?_,?_,?_,A.one⟩ wr ?_ ?_ g7 ?_
  .show dp ι (zZ (.at .di) [(1,sv p),SW 3,SW 5,SW 6,SW 7] 53 0) a.tmps.toList;refine P1 53 0 _ _ aC (λj x u g hu=>?_)
   have get:∀(t:Nat)(y:SV),(GN sc p v z m' h).sl[t]?=some y->t=j->fw ι y u:=λt y ht e=>by
    have⟨v',h9,i'⟩:=A.dq.get t y ht
    grind
   simp only[cg,Nat.zero_add]at g;split at g
   .rename_i e;simp at g;subst g;exact get 1 _ rfl (sw e)
   .split at g
    .rename_i e;simp at g;subst g;exact get 3 _ rfl (sw e)
    .split at g
     .rename_i e;simp at g;subst g;exact get 5 _ rfl (sw e)
     .split at g
      .rename_i e;simp at g;subst g;exact get 6 _ rfl (sw e)
      .split at g
       .rename_i e;simp at g;subst g;exact get 7 _ rfl (sw e)
       .cases g
  .show[mark D]++a.defers=[mark D]
   rw[A.defers,e0];rfl
  .intro k o hk;rcases LJ hk with⟨rfl,rfl⟩|⟨rfl,rfl⟩|⟨rfl,rfl⟩|⟨rfl,rfl⟩
   .exact⟨b3,_,c1,by rw[X b3 e5 (a1 b3 aC f1 f' f0 q3)];exact c2,kB.fk.2 rfl,λ_ e=>by cases e⟩
   .exact⟨b5,_,c3,by rw[X b5 e6 (a1 b5 aC f4 f2 f3 q5)];exact c4,kB.fk.2 rfl,λ_ e=>by cases e⟩
   .exact⟨M,_,a7,by rw[a5 M aC];exact G.t M _ k6,kB.fk (l:=[.slice none 0 0]).2 rfl,λ_ e=>by cases e⟩
   .exact⟨O,_,a8,by rw[a5 O aC];exact G.t O _ k7,kB.fk (l:=[.int .i64 e]).2 rfl,λ_ e=>by cases e⟩
  .have up:∀k o,cr (z6 sc p v e m h).own k=some (some o)->∃o',cr (GN sc p v z m' h).own k=some (some o'):=λk o hk=>by
    rcases LJ hk with⟨rfl,rfl⟩|⟨rfl,rfl⟩|⟨rfl,rfl⟩|⟨rfl,rfl⟩<;>exact⟨_,rfl⟩
   intro k k' o o' b hk g8 f a6;have⟨x,g⟩:=up k o hk;have⟨x',g9⟩:=up k' o' g8;exact A.eh k k' x x' b g g9 f a6
  .have up:∀k o,cr (z6 sc p v e m h).own k=some (some o)->∃o',cr (GN sc p v z m' h).own k=some (some o'):=λk o hk=>by
    rcases LJ hk with⟨rfl,rfl⟩|⟨rfl,rfl⟩|⟨rfl,rfl⟩|⟨rfl,rfl⟩<;>exact⟨_,rfl⟩
   intro k o b hk f;have⟨x,g⟩:=up k o hk;have⟨g1,g2,g3⟩:=A.f k x b g f;refine⟨.inr (.inr ⟨k,x,g,f⟩),?_,g3⟩;show m b=none;have g2:m' b=none:=g2;rw[<-a0.ai b (Y b g2)];exact g2
  .exact⟨rfl,rfl,rfl,Nat.le_refl _,Nat.le_refl _,λ_ _ _=>rfl,e',wr.t,wr.z,λ_ _ _ e=>e,λ_ _ _=>rfl,λb o f=>.inr (.inl (by rw[show m b=some o from f];simp))⟩
  .rintro b (h1|⟨k,o,hk,f⟩)
   .cases e:m b with
    |none=>grind
    |some o=>exact wr.gc b o e
   .exact(A.f k o b hk f).1
  .rw[hD];exact J.size
  .rintro(h1|⟨k,o,hk,f⟩)
   .cases e:m D with
    |none=>exact h1 e
    |some o=>grind
   .have:=uM (A.own k o hk) f;omega
 rcases d9 with⟨hv,hs⟩|⟨hv,n,hu⟩
 .have⟨r1,_,r3⟩:=key 2 .done (some .ret) bu hs.loop hs.k_ hs.e_;exact⟨_,_,r1,wpIn_ret (r3 hv rfl)⟩
 .have⟨r1,r2,_⟩:=key 0 .ready none bu (by rw[hu.ai l n1];exact d5) (by rw[hu.ai M c9];exact b0) (by rw[hu.ai O d'];exact b1);exact⟨_,_,r1,r2 hv rfl⟩
set_option maxRecDepth 100000 in
theorem Vn:uz 68 uW:=by
 refine⟨⟨Tryz.f68,func68,rfl,bx⟩,?_⟩;rintro b7 vs m h w K⟨sc,p,v,s,ps,q,rfl,hs,hp,J,U⟩ a4;refine callsIn_wide.1 (callsIn_of_wp_marks (n:=0) func68 (show Tryz.f68.body=some (cZ Tryz.f68)from rfl) trivial (wpIn_wide.2 ?_));have W:=HU Tryz.f68.ntmps a4;have hn:Tryz.f68.ntmps=53:=bt
 rw[hn]at W⊢
 obtain⟨B,hB⟩:∃B:vU,B=⟨w,xL m [aS sc,cS p,aQ v] vs,h,[]⟩:=⟨_,rfl⟩
 rw[<-hB]at W;have a6:B.dfs=[]:=by rw[hB]
 have t:∀g S,cg (CG sc p v m h).cq g=some S->af (CG sc p v m h).P g S:=aD Kk (aD bdJ aG)
 have y:∀u A,(∃r m' h',K r m' h'/\GD A r u/\AV B m' h' A/\∀b,jC r u=some b->(B.w0.heap.size<=b\/B.E b)/\m' b=none/\∀i,h' b i=none)->
  ∃r u' m' h',Ending.returned u=.returned u'/\K r m' h'/\GD A r u'/\AV ⟨w,xL m [aS sc,cS p,aQ v] vs,h,[]⟩ m' h' A/\(∀b,jC r u'=some b->(w.heap.size<=b\/xL m [aS sc,cS p,aQ v] vs b)/\m' b=none/\∀i,h' b i=none):=by
  rintro u A⟨r,m',h',X,h2,h3,h4⟩;subst hB;exact⟨r,u,m',h',rfl,X,h2,h3,h4⟩
 have hV:VC (CG sc p v m h) (QP 4 (cZ Tryz.f68)) (entry 53 [aS sc,cS p,aQ v] m h) (kf (alQ sc p v m h (dO s=0/\ps.all eA=true)) (Vo sc p v m h K)):=by
  rw[<-dhQ sc p v m h (dO s=0/\ps.all eA=true) K];exact dhX hs hp U (λX h2=>⟨X,h2⟩)
 have key:=λR=>Y7 (C:=CG sc p v m h) (Q2:=alQ sc p v m h (dO s=0/\ps.all eA=true)) (Q:=Vo sc p v m h K) (R:=R) t rfl rfl 4 (cZ Tryz.f68) _ _ _ _ W;generalize f:VC (CG sc p v m h) (QP 4 (cZ Tryz.f68)) (entry 53 [aS sc,cS p,aQ v] m h) (kf (alQ sc p v m h (dO s=0/\ps.all eA=true)) (Vo sc p v m h K))=V at hV key;clear f;refine key _ hV ?_ ?_
 .intro ι τ a1 w1 b1 X;unfold alQ at X;rw[ceJ];have L:=λR=>Y7 (C:=CG sc p v m h) (Q2:=bwZ sc p v m h (dO s=0/\ps.all eA=true)) (Q:=λ_ _=>False) (R:=R) t rfl rfl 1 (N4 (EW 4 (cZ Tryz.f68))) _ _ _ _ b1;generalize f:VC (CG sc p v m h) (QP 1 (N4 (EW 4 (cZ Tryz.f68)))) τ (kf (bwZ sc p v m h (dO s=0/\ps.all eA=true)) (λ_ _=>False))=V at X L;clear f;refine wp_seq (L _ X ?_ ?_)
  .intro ι2 τ2 a2 w2 b2 h2;unfold bwZ at h2;obtain⟨⟨g1,g2⟩,bq,m',b3,b4,b5⟩:=h2;have⟨ι3,b6,_⟩:=oP b2 b5;rw[bOZ];refine wp_block (chJ b6 a6 b3 b4 J ?_);intro e D E a' A a7 a8 hE hD a9 b';have M:D<A.heap.size:=(Array.getElem?_eq_some_iff.1 a9).1
   have j:∀{C:bk},C.P=Tryz.prog->∀(ι5:tv)(Y:St)(Z:Act)(w5:World),aL ⟨A,E,h,[mark D]⟩ ι5 Y Z w5->Gi C Tryz.f68 K Y->∀{R:Ending->World->Prop},(∀u d,(∃r m' h',K r m' h'/\GD d r u/\AV B m' h' d/\∀b,jC r u=some b->(B.w0.heap.size<=b\/B.E b)/\m' b=none/\∀i,h' b i=none)->R (.returned u) d)->LeavesInM Fence.wide 0 Tryz.prog Tryz.f68 Z.tmps R Z.defers .returning w5:=by
    intro C hC ι5 Y Z w5 F H R hR;rw[<-hC];refine aKJ (C:=C) F rfl ?_ M b' H (λu d=>?_)
    .rw[F.g.frame D M b'];exact a9
    .rintro⟨r,mf,hf,k1,k2,z,k4⟩
     have b0:∀b,(E b\/b=D)->B.w0.heap.size<=b\/B.E b:=by
      rintro b (e|rfl)
      .exact hE b e
      .exact .inl hD
     refine hR u d ⟨r,mf,hf,k1,k2,a8.trans (E:=λb=>E b\/b=D) ⟨z.tape,z.os,z.output,z.drawn,z.size,z.frame,z.F,z.t,z.z,z.iz,z.hold,z.gc⟩ b0,λb hb=>?_⟩;have⟨j1,j2,j3⟩:=k4 b hb;refine⟨?_,j2,j3⟩;rcases j1 with j1|j1
     .exact .inl (tf a8.size j1)
     .exact b0 b j1
   refine⟨λhv he=>?_,λhv he=>?_⟩
   .subst he;show(EW 5 (cZ Tryz.f68)).wp _ _ a' A;have a0:y9 q=true:=by rw[<-UH];exact hv
    have ht:Vl (SizeOf.sizeOf q+1) sc p v m h K:=by
     unfold iG at U;rw[if_pos g1,if_pos g2,if_pos a0]at U;exact⟨sc,p,v,s,ps,q,rfl,hs,BK g1,hp,J,aC,U⟩
    rw[dgZ]at ht;have O:=aMZ (C:=WP [(112,Ef (SizeOf.sizeOf q+1))]) (fn:=Tryz.f68) (c:=EW 5 (cZ Tryz.f68)) (K:=K) (aD (bdZ _) aG) a7;generalize f:xS (WP [(112,Ef (SizeOf.sizeOf q+1))]) Tryz.f68 (EW 5 (cZ Tryz.f68)) (z6 sc p v 0 m h) K=V at ht O;clear f;refine wp_mono (O ht) ?_;intro e Z w5 G;cases e with
    |normal=>
     obtain⟨ι5,Y,F,H⟩:=G;exact j rfl ι5 Y Z w5 F H (λu d hx=>y u d hx)
    |ret=>
     obtain⟨ι5,Y,F,H⟩:=G;exact j rfl ι5 Y Z w5 F H (λu d hx=>y u d hx)
    |exit id=>exact G.elim
    |goto l=>exact G.elim
    |panic ch=>exact G.elim
    |outgrown=>exact G.elim
   .subst he;have a0:¬y9 q=true:=by rw[<-UH,hv];simp
    have H:Vm sc p v m h K:=by
     unfold iG at U;rw[if_pos g1,if_pos g2,if_neg a0]at U;exact U.fj (.refl _) rfl
    rw[dgJ]at H;have T:=@j cY rfl ι3 (z6 sc p v 2 m h) a' A a7;generalize f:Gi cY Tryz.f68 K (z6 sc p v 2 m h)=V at H T;clear f;exact T H (λu d hx=>y u d hx)
  .rintro e a w J a3;cases e with
   |normal=>exact(a3 rfl).elim
   |exit id=>obtain⟨_,_,_,h⟩:=J;exact h.elim
   |ret=>obtain⟨_,_,_,h⟩:=J;exact h.elim
   |goto l=>exact J.elim
   |panic ch=>exact J.elim
   |outgrown=>exact J.elim
 .rintro e a' A I a3;cases e with
  |normal=>exact(a3 rfl).elim
  |exit id=>
   obtain⟨_,_,_,h⟩:=I;simp only[Vo]at h
  |ret=>
   obtain⟨ι,σ,hM,H⟩:=I;simp only[Vo]at H;have⟨u,hu,r,m',h',k1,k2,z,k4⟩:=Jk hM H;show LeavesInM Fence.wide 0 Tryz.prog Tryz.f68 a'.tmps _ a'.defers .returning A;rw[hM.defers,a6];exact⟨u,hu,y u A ⟨r,m',h',k1,k2,z,k4⟩⟩
  |goto l=>exact I.elim
  |panic ch=>exact I.elim
  |outgrown=>exact I.elim
end Go.Ps
