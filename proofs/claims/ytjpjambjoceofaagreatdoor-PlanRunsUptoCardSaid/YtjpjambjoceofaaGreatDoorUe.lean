/- Own work. -/
import Derived.RangeFuncLeaves
import Derived.RangeFuncCalls
import Derived.Test.YtjpjambjoceofaaGreatDoorUd
set_option linter.unusedVariables false
set_option linter.unusedSimpArgs false
namespace Go.Vc
open Go List
section
variable{B:tI}{C:Ctx}{ι:du}{σ:St}{a:Act}{w:World}{o:Oper}{K:St->Prop}
theorem V0(h:RS C o σ K):∀c,o.op≠ .defer c:=by
 intro c b;unfold RS at h;rw[b]at h;unfold Rf at h
 grind
theorem X5(l:Nat){P:Program}{next:Act->World->Prop}{Q:Exit->Act->World->Prop}(e:∀c,o.op≠ .defer c)(h:o.wpIn Fence.wide 0 P a w next Q):o.wpIn (Fence.wide.inRound l) 0 P a w next Q:=by
 refine⟨λ_ _=>trivial,?_⟩;have b:o.uponIn Fence.wide 0 P a next Q ((execOp a.eval o).run P w):=h.2
 show o.uponIn (Fence.wide.inRound l) 0 P a next Q ((o.semAt (some l) a.eval).run P w)
 rw[Oper.semAt_eq _ _ _ e];cases d:(execOp a.eval o).run P w with
 |ok x f=>
  rw[d]at b;cases x<;>exact b
 |halt x f=>
  rw[d]at b;cases x<;>exact b
theorem OT(l:Nat)(b:∀g S,assoc C.specs g=some S->Sound C.P g S){ops:Array Oper}{Q:Exit->Act->World->Prop}{R:St->Prop}(p:∀ι σ a w,aL B ι σ a w->R σ->Q .normal a w):
 ∀(c:List Oper)(s:Nat)(ι:du)(σ:St)(a:Act)(w:World),(∀j,c[j]? =ops.toList[s+j]?)->aL B ι σ a w->RH C ops c σ R->wpOpsIn (Fence.wide.inRound l) 0 C.P ops Q (range' s c.length) a w
 |[],s,ι,σ,a,w,_,k,h=>p ι σ a w k h
 |o::c,s,ι,σ,a,w,q,k,h=>by
  have r:ops[s]? =some o:=by have:=q 0;grind
  simp only[de,range'_succ,wpOpsIn,r]
  have next:∀m e f i,aL B m e f i->RH C ops c e R->wpOpsIn (Fence.wide.inRound l) 0 C.P ops Q (range' (s+1) c.length) f i:=λm e f i t u=>
   OT l b p c (s+1) m e f i (λj=>by have:=q (j+1);grind) t u
  obtain⟨z,d,v,y⟩:=Dz k h;rcases y with⟨n,h⟩|⟨n,h⟩
  .rw[if_pos n];exact X5 l (V0 h) (RR b d h _ Q next)
  .rw[if_neg (by simp[n])];exact⟨λ_ _=>trivial,next ι _ _ _ (d.put o.dst (x:=.at (.val undef)) rfl) h⟩
def kL(C:Ctx):Code->Bool
 |.skip=>true
 |.ret=>true
 |.exit _=>true
 |.region id _ d=> !d&&(OU C id).isEmpty
 |.seq x y=>(avQ C y).isNone&&(UP C y).isNone&&kL C x&&kL C y
 |.cond _ x y=>kL C x&&kL C y
 |.block _ c=>kL C c
 |_=>false
theorem Rv(l:Nat)(n:∀g S,assoc C.specs g=some S->Sound C.P g S):∀(c:Code),kL C c=true->∀(σ:St)(Q:Lr->St->Prop)(ι:du)(a:Act)(w:World),aL B ι σ a w->VC C c σ Q->c.wpIn (Fence.wide.inRound l) 0 C.P (QD B Q) a w:=by
 intro c
 induction c with
 |skip=>intro _ σ Q ι a w d h;exact wpIn_skip ⟨ι,σ,d,h⟩
 |exit id=>intro _ σ Q ι a w d h;exact wpIn_exit ⟨ι,σ,d,h⟩
 |ret=>intro _ σ Q ι a w d h;exact wpIn_ret ⟨ι,σ,d,h⟩
 |label l=>intro b;simp[kL]at b
 |goto l=>intro b;simp[kL]at b
 |refuse J=>intro b;simp[kL]at b
 |scope u D=>intro b;simp[kL]at b
 |loop u D=>intro b;simp[kL]at b
 |rangeFunc f U x y p q=>intro b;simp[kL]at b
 |region id ops v=>
  intro b σ Q ι a w d h;cases v with
  |true=>simp[kL]at b
  |false=>
   have E:OU C id=[]:=by simpa[kL,isEmpty_iff]using b
   refine wpIn_region ?_;have h:anQ C ops (OU C id) ops.toList σ (Q .normal):=h;rw[E]at h;have:=OT l n (ops:=ops) (Q:=QD B Q) (R:=Q .normal) (λι σ a w d h=>⟨ι,σ,d,h⟩) ops.toList 0 ι σ a w (λj=>bx) d h;rw[range_eq_range'];omega
 |seq x y p q=>
  intro b σ Q ι a w d h;simp only[kL,cz,Option.isNone_iff_eq_none]at b;obtain⟨⟨⟨L,M⟩,N⟩,O⟩:=b;simp only[VC,L,M]at h;refine wpIn_seq (wpIn_mono (p N σ _ ι a w d h) ?_);intro e H I k;cases e with
  |normal=>
   obtain⟨z,A,r,s⟩:=k;exact q O A Q z H I r s
  |exit id=>exact k
  |ret=>exact k
  |goto l=>exact k
  |panic T=>exact k
  |outgrown=>exact k
 |cond c x y p q=>
  intro b σ Q ι a w d h;simp only[kL,cz]at b;simp only[VC]at h;split at h
  .rename_i t F;have m:=d.ev c;rw[F]at m;have m:a.eval c= .bool t:=m;rcases A6 h with⟨rfl,h⟩|⟨rfl,h⟩
   .exact wpIn_cond_true m (p b.1 _ Q ι a w (d.setTmp F) h)
   .exact wpIn_cond_false m (q b.2 _ Q ι a w (d.setTmp F) h)
  grind
 |block id c D=>
  intro b σ Q ι a w d h;refine wpIn_block (wpIn_mono (D b σ _ ι a w d h) ?_);intro e H I k;cases e with
  |normal=>exact k
  |exit i=>
   obtain⟨z,A,r,s⟩:=k;show if i=id then _ else _
   simp only at s;split at s
   .rename_i G;rw[if_pos (da G)];exact⟨z,A,r,s⟩
   .rename_i G;rw[if_neg (λe=>by subst e;simp at G)];exact⟨z,A,r,s⟩
  |ret=>exact k
  |goto l=>exact k
  |panic T=>exact k
  |outgrown=>exact k
def No:Nat->Code->Code
 |n+1,.seq x y=>.seq x (No n y)
 |_,_=>.skip
def CK:Nat->Code->Code
 |n+1,.seq _ y=>CK n y
 |_,c=>c
def thenS(Q2:St->Prop)(Q:Lr->St->Prop):Lr->St->Prop:=λe τ=>match e with|.normal=>Q2 τ|e=>Q e τ
theorem Vp(b:∀g S,assoc C.specs g=some S->Sound C.P g S)(r:C.cuts=[])(m:C.cuts2=[]){Q2:St->Prop}{Q:Lr->St->Prop}{R:Exit->Act->World->Prop}:
 ∀(n:Nat)(c:Code)(ι:du)(σ:St)(a:Act)(w:World),aL B ι σ a w->VC C (No n c) σ (thenS Q2 Q)->
  (∀ι τ a w,aL B ι τ a w->Q2 τ->(CK n c).wp C.P R a w)->(∀e a w,QD B Q e a w->e≠ .normal->R e a w)->c.wp C.P R a w:=by
 have f:∀y,avQ C y=none:=λy=>by unfold avQ;split<;>simp[r,assoc]
 have i:∀y,UP C y=none:=λy=>by unfold UP;split<;>simp[m,assoc]
 intro n
 induction n with
 |zero=>intro c ι σ a w j h k _;exact k ι σ a w j h
 |succ n s=>
  intro c;cases c with
  |seq x y=>
   intro ι σ a w j h k p;simp only[No,VC,f,i]at h;refine wp_seq (wp_mono (OI b x σ _ ι a w j h) ?_);intro e t u d;cases e with
   |normal=>
    obtain⟨v,z,q,A⟩:=d;exact s y v z t u q A k p
   |exit id=>exact p _ _ _ d bx
   |ret=>exact p _ _ _ d bx
   |goto l=>exact d.elim
   |panic D=>exact d.elim
   |outgrown=>exact d.elim
  |_=>intro ι σ a w j h k _;exact k ι σ a w j h
def cxZ(B:tI)(C:Ctx)(fn:Func)(K:dk):Exit->Act->World->Prop
 |.normal,a,w=>∃ι σ,aL B ι σ a w/\FY C fn K σ
 |.ret,a,w=>∃ι σ,aL B ι σ a w/\FY C fn K σ
 |_,_,_=>False
theorem Yy(b:∀g S,assoc C.specs g=some S->Sound C.P g S)(f:aL B ι σ a w){fn:Func}{c:Code}{K:dk}(h:tB C fn c σ K):c.wp C.P (cxZ B C fn K) a w:=by
 refine wp_mono (OI b c σ _ ι a w f h) ?_;intro e i j d;cases e with
 |normal=>exact d
 |ret=>exact d
 |exit id=>obtain⟨_,_,_,h⟩:=d;exact h.elim
 |goto l=>exact d.elim
 |panic k=>exact d.elim
 |outgrown=>exact d.elim
theorem aL.putM(j:aL B ι σ a w){b:Nat}{ob h:Obj}{m':MH}(q:σ.m b=some ob)(r:iD σ.m m' b h):aL B ι {σ with m:=m'} a (w.putObj b h):=by
 have f:=j.wrel;have s:b<w.heap.size:=(Array.getElem?_eq_some_iff.1 (f.msat b ob q)).1;have g:∀d,d≠b->(w.putObj b h).heap[d]? =w.heap[d]? :=λd n=>World.putObj_heap_other (λe=>n e)
 have l:∀k o,nth σ.own k=some (some o)->∀d,blk (ι k)=some d->d≠b:=λk o p d c e=>by
  have:=(j.fresh k o d p c).2.1
  grind
 refine⟨j.slots,j.defers,λk o p=>(j.own k o p).world (λd c=>g d (l k o p d c)),j.dist,?_,?_,j.one⟩
 .intro k o d p c;obtain⟨u,x,y⟩:=j.fresh k o d p c;exact⟨u,by show m' d=none;rw[r.other d (l k o p d c)];exact x,y⟩
 .refine⟨f.tape,f.os,f.output,f.drawn,by have:=f.size;simpa using this,?_,?_,?_,?_,f.hle,f.hold,?_⟩
  .intro d z A;rw[g d (λe=>?_)]
   .exact f.frame d z A
   .subst e;rcases f.mfr d ob q with D|D
    .omega
    grind
  .intro d i v t;have n:d≠b:=λe=>by rw[e,f.disj b ob q i]at t;cases t
   rw[World.cell?_of_block (w:=w) (w':=w.putObj b h) (a:=⟨d,i,none⟩) (g d n)];exact f.hsat d i v t
  .intro d o c;have c:m' d=some o:=c;by_cases e:d=b
   .subst e;rw[r.at_]at c;cases c;exact World.putObj_heap_same s
   .rw[r.other d e]at c;rw[g d e];exact f.msat d o c
  .intro d o c i;have c:m' d=some o:=c;by_cases e:d=b
   .subst e;exact f.disj d ob q i
   .rw[r.other d e]at c;exact f.disj d o c i
  .intro d o c;have c:m' d=some o:=c;by_cases e:d=b
   .subst e;exact f.mfr d ob q
   .rw[r.other d e]at c;exact f.mfr d o c
theorem aL.putD(l:aL B ι σ a w){D:Nat}{ob:Obj}(m:Obj)(s:w.heap[D]? =some ob)(r:ob.isCells=false)(t:D<B.w0.heap.size)(u:¬B.E D):
 aL {B with E:=λb=>B.E b\/b=D} ι σ a (w.putObj D m):=by
 have h:=l.wrel;have f:∀c,c≠D->(w.putObj D m).heap[c]? =w.heap[c]? :=λc j=>World.putObj_heap_other (λe=>j e)
 have p:∀k o,nth σ.own k=some (some o)->∀c,blk (ι k)=some c->c≠D:=λk o n c d e=>by
  rcases(l.fresh k o c n d).1 with g|g
  .omega
  grind
 refine⟨l.slots,l.defers,λk o n=>(l.own k o n).world (λc d=>f c (p k o n c d)),l.dist,?_,?_,l.one⟩
 .intro k o c n d;obtain⟨y,z,A⟩:=l.fresh k o c n d
  grind
 .refine⟨h.tape,h.os,h.output,h.drawn,by have:=h.size;simpa using this,?_,?_,?_,h.disj,h.hle,?_,?_⟩
  .intro c g q;rw[f c (λe=>q (.inr e))];exact h.frame c g (λe=>q (.inl e))
  .intro c i v x;have g:=h.hsat c i v x
   have j:c≠D:=λe=>by
    unfold World.cell? at g;rw[e]at g;dsimp only at g;rw[s]at g;cases ob<;>simp[Obj.isCells]at r g
   rw[World.cell?_of_block (w:=w) (w':=w.putObj D m) (a:=⟨c,i,none⟩) (f c j)];exact g
  .intro c o d
   have j:c≠D:=λe=>by
    rcases h.mfr c o d with g|g
    .omega
    grind
   rw[f c j];exact h.msat c o d
  .intro c g q;exact h.hold c g (λe=>q (.inl e))
  .intro c o d;exact(h.mfr c o d).imp id .inl
theorem Yt{F:Fence}{n D:Nat}(j:aL B ι σ a w)(l:B.dfs=[{target:=.collected D,args:= #[]}])(k:w.heap[D]? =some (.deferred (some [])))(d:D<B.w0.heap.size)(e:¬B.E D)
 {fn:Func}{K:dk}(h:FY C fn K σ){R:Ending->World->Prop}
 (m:∀u w',(∃r m' c,K r m' c/\G5 w' r u/\A7 {B with E:=λb=>B.E b\/b=D} m' c w'/\∀b,iG r u=some b->(B.w0.heap.size<=b\/(B.E b\/b=D))/\m' b=none/\∀i,c b i=none)->R (.returned u) w'):
 LeavesInM F n C.P fn a.tmps R a.defers .returning w:=by
 rw[j.defers,l];refine⟨bx,.inl ⟨D,_,rfl,run_takeDeferred k,?_⟩⟩;have f:=j.putD (.deferred none) k rfl d e;obtain⟨u,p,r,m',c,q,g,s,t⟩:=LG f h;exact⟨u,p,m u _ ⟨r,m',c,q,g,s,t⟩⟩
theorem MB:∀(n i:Nat)(l:List (Nat×SV))(vs:dj),vs.length=n->(∀j x v,assoc l (i+j)=some x->vs[j]? =some v->Den ι x v)->DenS ι (vK (.at .junk) l n i) vs
 |0,i,l,[],_,_=>trivial
 |0,i,l,_::_,h,_=>by simp at h
 |n+1,i,l,[],h,_=>by simp at h
 |n+1,i,l,v::vs,h,b=>by
  refine⟨?_,MB n (i+1) l vs (cm h) (λj x u c d=>b (j+1) x u cg cg)⟩;have:=b 0;cases e:assoc l i with
  |none=>trivial
  |some x=>grind
end
end Go.Vc
namespace Go.Ps
open Go Go.Vc Go.Proofs List Tryz
variable{K:dk}{m:MH}{h:PH}{s:lL}{ps:dl}{cb:Nat}{sc:bX}{v:QV}{q:Query}{p:Pred}{l:dl}{i:Nat}{N:Nat}{m':MH}{h':PH}{co:dl}{gr:dl}{od:dr}{w:Pred}{ta:Int}{li:Int}{xs:List dj}{sz:Nat}{k:Nat}{ks:List dl}{rs:dl}{r:Sl}{a:dl}{b:Nat}
def zJ(b:Nat):SV:=.at (.val (.pointer (some ⟨b,0,none⟩)))
def KY:Code->Code
 |.seq x _=>x
 |c=>c
noncomputable def cY:Ctx:=cT [] [] [] [] false
noncomputable def f57_ctx(sc:bX)(p:Sl)(v:QV)(m:MH)(h:PH):Ctx:=
 cT [(90,uP),(97,TX)] [(5,{A:=Nat,st:=λi=>bO 53 56 [(1,sv p),(3,.at (.ptr 3 0)),(5,.at (.ptr 5 0)),(6,.at (.ptr 6 0)),(7,.at (.ptr 7 0)),(18,sv p),(19,iv p.len),(20,iv i)] [(3,.cells 43 (sc.enc.map .val)),(5,.cells 38 (v.enc.map .val)),(6,.cells 33 [.val (.slice none 0 0)]),(7,.cells 54 [.val (.int .i64 0)])] m h})] [] [] false
def Eg(sc:bX)(p:Sl)(v:QV)(b:Nat)(m:MH)(h:PH):St:=
 bO 53 56 [(1,sv p),(3,.at (.ptr 3 0)),(5,.at (.ptr 5 0)),(6,.at (.ptr 6 0)),(7,.at (.ptr 7 0)),(11,.at (.ptr 11 0)),(36,vv (.func (.func 172) #[] #[.pointer (some ⟨b,0,none⟩)]))] [(3,.cells 43 (sc.enc.map .val)),(5,.cells 38 (v.enc.map .val)),(6,.cells 33 [.val (.slice none 0 0)]),(7,.cells 54 [.val (.int .i64 0)]),(11,.cells 3 [.val (.int .i64 0)])] m h
def vN(sc:bX)(p:Sl)(v:QV)(e:Int)(m:MH)(h:PH):St:=
 bO 53 56 [(1,sv p),(3,.at (.ptr 3 0)),(5,.at (.ptr 5 0)),(6,.at (.ptr 6 0)),(7,.at (.ptr 7 0))] [(3,.cells 43 (sc.enc.map .val)),(5,.cells 38 (v.enc.map .val)),(6,.cells 33 [.val (.slice none 0 0)]),(7,.cells 54 [.val (.int .i64 e)])] m h
end Go.Ps
namespace Go.Vc
open Go.Ps Go.Proofs List
noncomputable def asZ(sc:bX)(p:Sl)(v:QV)(m:MH)(h:PH)(G:Prop):St->Prop:=λτ=>G/\∃b m',lZ m h b/\iD m m' b (.cells ⟨v.enc⟩ 38 (0,0))/\yQ τ (Eg sc p v b m' h) True
noncomputable def WN(sc:bX)(p:Sl)(v:QV)(m:MH)(h:PH)(G:Prop):St->Prop:=λτ=>VC (f57_ctx sc p v m h) (No 1 (KY (CK 4 (cM Tryz.f57)))) τ (thenS (asZ sc p v m h G) (λ_ _=>False))
noncomputable def f57Qr(sc:bX)(p:Sl)(v:QV)(m:MH)(h:PH)(K:dk):Lr->St->Prop:=λe τ=>match e with|.ret=>FY (f57_ctx sc p v m h) Tryz.f57 K τ|_=>False
end Go.Vc
namespace Go.Ps
open Go Go.Vc Go.Proofs List Tryz
variable{K:dk}{m:MH}{h:PH}{s:lL}{ps:dl}{cb:Nat}{sc:bX}{v:QV}{q:Query}{p:Pred}{l:dl}{i:Nat}{N:Nat}{m':MH}{h':PH}{co:dl}{gr:dl}{od:dr}{w:Pred}{ta:Int}{li:Int}{xs:List dj}{sz:Nat}{k:Nat}{ks:List dl}{rs:dl}{r:Sl}{a:dl}{b:Nat}
def bVJ(c:Int)(d e f:Nat)(m:MH)(h:PH):Prop:=
  aA (dE e) (dE f) (aA (dE d) (iF c) (bG m m h h))
theorem cCQ(c:Int)(d f g:Nat)(m:MH)(h:PH):bVJ c d f g m h=(VC cY rfA (bO 53 53 [(37,iv c),(11,zJ d),(6,zJ f),(7,zJ g)] [] m h) (λe τ=>match e with|.normal=>yQ τ (bO 53 53 [(12,iv c),(11,zJ d),(6,zJ f),(7,zJ g)] [] m h) True|_=>False)):=bu
def UJ(c:Int)(e j n:Nat)(m:MH)(h:PH)(N T:MH->PH->Prop):Prop:=
  xV m h e 0 (λy=>vR m e (fE (bF (y+1))) (λd=>xV d h e 0 (λt=>mY (decide (t>24)) (vR d j sC (λf=>vR f n (fE 2) (λg=>T g h))) c 8 (vR d j sC (λf=>vR f n (fE 2) (λg=>T g h))) (N d h))))
theorem cBZ(c:Int)(d f g:Nat)(m:MH)(h:PH)(N T:MH->PH->Prop):UJ c d f g m h N T=(VC cY rfB (bO 53 53 [(12,iv c),(11,zJ d),(6,zJ f),(7,zJ g)] [] m h) (λe τ=>match e with|.normal=>N τ.m τ.h|.ret=>T τ.m τ.h|_=>False)):=bu
abbrev Hn:Prop:=eQ (oQ 33 (kM Q9))
abbrev Ho:Prop:=eQ (oQ 54 (kM dV))
attribute [push_cast] Hn Ho
def aa(sc:bX)(p:Sl)(v:QV)(m:MH)(h:PH)(G:Prop)(K:dk):Prop:=
  An sc h (λs=>cK (cQ s) 0 (K (CV.tup (bD iO (cQ s))) m h) (j6 (λI x=>aA (I x) (aH p) (aA bJ dM (aA gO gI (aA (aH p) (aY p) (aA (aZ x) (bP sc) (aA (dJ v) Hn (bS Ho m m h h))))))) (λI d x=>I x->aW (↑x:Int) (aF p) (aJ (λb o=>aI (aK p.a b o) (0<=(↑x:Int)) ((↑x:Int)<aF p) (∃(y:Int),aR m h b (bE o x 1) (bQ y)/\cK y 3 (cK y 4 (cK y 5 (K (CV.tup (bD iO 1)) m h) (∃(c:Nat),aA (I c) (d c<d x) (aA (aH p) bJ (aA dM gO (aA gI (aH p) (aA (aY p) (eR (bF ((↑x:Int)+1))=bL c) (aA (bP sc) (dJ v) (aA Hn Ho (aA (m=m) (h=h) True))))))))) (∃(c:Nat),aA (I c) (d c<d x) (aA (aH p) bJ (aA dM gO (aA gI (aH p) (aA (aY p)
 (eR (bF ((↑x:Int)+1))=bL c) (aA (bP sc) (dJ v) (aA Hn Ho (aA (m=m) (h=h) True))))))))) (∃(c:Nat),aA (I c) (d c<d x) (aA (aH p) bJ (aA dM gO (aA gI (aH p) (aA (aY p) (eR (bF ((↑x:Int)+1))=bL c) (aA (bP sc) (dJ v) (aA Hn Ho (aA (m=m) (h=h) True))))))))))) (∃(f:QV),pX (gK v.enc=gK f.enc) (λb=>∀(g:MH),lZ m h b->gP m g b f.enc 38->G/\∃(e:Nat)(j:MH),aA (lZ m h e) (gP m j e v.enc 38) (aA (aH p) bJ (aA dM gO (aA gI (eP 11) (aA (Fv 172 (Array.mk (xQ b))=Fv 172 (Array.mk (xQ e))) (bP sc) (aA (dJ v) Hn (aA Ho (eQ (oQ 3 (kM dV))) (aA (g=j) (h=h) True))))))))))))
theorem ay(sc:bX)(p:Sl)(v:QV)(m:MH)(h:PH)(G:Prop)(K:dk):aa sc p v m h G K=(VC (f57_ctx sc p v m h) (No 4 (cM Tryz.f57)) (entry 53 [aS sc,cS p,aQ v] m h) (thenS (WN sc p v m h G) (f57Qr sc p v m h K))):=bu
def ag(N:Nat)(sc:bX)(p:Sl)(v:QV)(m:MH)(h:PH)(K:dk):Prop:=
  JZ sc p v h (λf s d q=>aA (dZ h q f) (sB q N) (fT (λe c=>dN h c (Ints c e (bM s d q).1) (K (CV.tup (fP e (CV.val (fE (bM s d q).2)))) m c))))
theorem az(N:Nat)(sc:bX)(p:Sl)(v:QV)(m:MH)(h:PH)(K:dk):ag N sc p v m h K=(tB (cT [(98,B8 N)] [] [] [] false) Tryz.f57 (CK 5 (cM Tryz.f57)) (vN sc p v 0 m h) K):=bu
def ah(sc:bX)(p:Sl)(v:QV)(m:MH)(h:PH)(K:dk):Prop:=
  K (CV.tup (bD iO 2)) m h
theorem bd(sc:bX)(p:Sl)(v:QV)(m:MH)(h:PH)(K:dk):ah sc p v m h K=(FY cY Tryz.f57 K (vN sc p v 2 m h)):=bu
theorem aJX:CK 1 (KY (CK 4 (cM Tryz.f57)))= .block 2 (.rangeFunc (.tmp 36) #[37,38] rfA rfB):=bu
theorem a6X:CK 4 (cM Tryz.f57)= .seq (KY (CK 4 (cM Tryz.f57))) (CK 5 (cM Tryz.f57)):=bu
theorem aGQ:kL cY rfA=true:=bu
theorem aFJ:kL cY rfB=true:=bu
theorem cBJ{d:Int}{l:Nat}{R:LR}{n:Int}{z:MH}{N T:MH->PH->Prop}(F:Ae m l R n)(h0:0<=n)(h1:n<=24){ob:Obj}(j:iD m z l ob)
 (V:∀m',¬(24<n+1\/8<d)->iD z m' R.bn (tD (n+1))->N m' h)
 (W:∀m',(24<n+1\/8<d)->m' l=some ob->m' R.b6=some IJ->m' R.b7=some (GR 2)->(∃x,m' R.bn=some x)->(∀b,b≠l->b≠R.bn->b≠R.b6->b≠R.b7->m' b=m b)->T m' h):UJ d R.bn R.b6 R.b7 z h N T:=by
 dsimp only[UJ,push_cast];obtain⟨L,M,O,P,Q,S⟩:=F.ne;have A:z R.bn=some (tD n):=by rw[j.other _ (λe=>L e.symm)];exact F.n_
 have X:IntKind.i64.wrap (n+1)=n+1:=dL aC aC;refine⟨n,.of_m A rfl,_,_,⟨A⟩,bx,λu c=>?_⟩;rw[X]at c;have c:iD z u R.bn (tD (n+1)):=c;have Y:u R.b6=some IJ:=by rw[c.other _ P,j.other _ (λe=>M e.symm)];exact F.k_
 have Z:u R.b7=some (GR 0):=by rw[c.other _ Q,j.other _ (λe=>O e.symm)];exact F.e_
 have t:(24<n+1\/8<d)->∃(y:Array Value)(E:TypeId),Gc u R.b6 (.cells y E (0,0))/\0<y.size/\∀m',iD u m' R.b6 (.cells ⟨Value.slice none 0 0::y.toList.drop 1⟩ E (0,0))->∃(y:Array Value)(E:TypeId),Gc m' R.b7 (.cells y E (0,0))/\0<y.size/\∀D,iD m' D R.b7 (.cells ⟨Value.int .i64 2::y.toList.drop 1⟩ E (0,0))->T D h:=by
  intro G;refine⟨_,_,⟨Y⟩,bx,λH f=>?_⟩;have f:iD u H R.b6 IJ:=f;have I:H R.b7=some (GR 0):=by rw[f.other _ (λe=>S e.symm)];exact Z
  refine⟨_,_,⟨I⟩,bx,λU g=>?_⟩;have g:iD H U R.b7 (GR 2):=g;refine W U G ?_ ?_ g.at_ ⟨tD (n+1),?_⟩ (λb b1 b2 b3 b4=>?_)
  .rw[g.other _ O,f.other _ M,c.other _ L];exact j.at_
  .rw[g.other _ S];exact f.at_
  .rw[g.other _ (λe=>Q e.symm),f.other _ (λe=>P e.symm)];exact c.at_
  .rw[g.other _ b4,f.other _ b3,c.other _ b2,j.other _ b1]
 refine⟨n+1,.of_m c.at_ rfl,aD (λG=>t aC) (λG=>aD (λJ=>t aC) (λJ=>V u aC c))⟩
end Go.Ps
namespace Go.Vc
open Go.Ps Go.Proofs List
theorem A7.framed{w:World}{m:MH}{h:PH}{m':MH}{h':PH}{w':World}{g:List Deferred}(c:A7 ⟨w,λb=>m b≠none,h,g⟩ m' h' w'):akQ w m h m' h' w':=
 ⟨c.tape,c.os,c.output,c.drawn,c.size,λb d f=>c.frame b d (λe=>e f),⟨c.hsat,c.msat,c.disj⟩,⟨c.hle⟩,λb d f=>c.hold b d (λe=>e f),λb o d=>c.mfr b o d⟩
end Go.Vc
namespace Go.Ps
open Go Go.Vc Go.Proofs List Tryz
variable{K:dk}{m:MH}{h:PH}{s:lL}{ps:dl}{cb:Nat}{sc:bX}{v:QV}{q:Query}{p:Pred}{l:dl}{i:Nat}{N:Nat}{m':MH}{h':PH}{co:dl}{gr:dl}{od:dr}{w:Pred}{ta:Int}{li:Int}{xs:List dj}{sz:Nat}{k:Nat}{ks:List dl}{rs:dl}{r:Sl}{a:dl}{b:Nat}
theorem a5X:QO Tryz.prog YS:=by
 refine⟨λl vs m h w K hS hH=>?_⟩;obtain⟨f,c,v,R,n,he,F,h0,h1,hf,ht⟩:=hS
 obtain⟨rfl,rfl⟩:f=l/\vs=[.int .i64 c,.agg ⟨v.enc⟩]:=by
  simp only[yv,cI,aQ,List.cons.injEq,CV.val.injEq,Value.func.injEq,Fn.yield.injEq,and_true]at he;refine⟨he.1.symm,?_⟩;have:=he.2
  match vs,this with
  |[a,b],h=>grind
  |[],h=>simp at h
  |[_],h=>simp at h
  |_::_::_::_,h=>simp at h
 have hl:=hH.msat f _ F.loop;have W:=run_yield (P:=Tryz.prog) (args:= #[.int .i64 c,.agg ⟨v.enc⟩]) hl rfl;refine⟨_,_,_,_,W,roundIn_of_wpIn trivial ?_⟩;obtain⟨J,X⟩:∃J,((qG R .ready none).params.zip #[Value.int .i64 c,.agg ⟨v.enc⟩]).foldl (λtmps(t,a)=>tmps.setIfInBounds t a) (qG R .ready none).tmps=J:=⟨_,rfl⟩
 rw[X];have Y:J=(R.tmps.setIfInBounds 37 (.int .i64 c)).setIfInBounds 38 (.agg ⟨v.enc⟩):=by rw[<-X];simp[qG]
 have a6:J.size=53:=by rw[Y];simp[F.size]
 have get:∀j,j≠37->j≠38->J[j]? =R.tmps[j]? :=λj h1 h2=>by
  grind
 have L:J[37]? =some (.int .i64 c):=by
  grind
 have hM:aL ⟨w,λb=>m b≠none,h,[]⟩ (λ_=>.slice none 0 0) (bO 53 53 [(37,iv c),(11,zJ R.bn),(6,zJ R.b6),(7,zJ R.b7)] [] m h) {tmps:=J,defers:=[]} w:=by
  refine⟨?_,rfl,?_,?_,?_,?_,λ_=>rfl⟩
  .show DenS _ (vK (.at .junk) [(37,iv c),(11,zJ R.bn),(6,zJ R.b6),(7,zJ R.b7)] 53 0) J.toList;refine MB 53 0 _ _ aC (λj x u z g=>?_);rw[dd]at g;simp only[assoc,Nat.zero_add]at z;split at z
   .rename_i e;have:=da e;subst this;rw[L]at g;simp at z g;subst z g;rfl
   .split at z
    .rename_i e;have:=da e;subst this;rw[get 11 aC aC,F.t11]at g;simp at z g;subst z g;rfl
    .split at z
     .rename_i e;have:=da e;subst this;rw[get 6 aC aC,F.t6]at g;simp at z g;subst z g;rfl
     .split at z
      .rename_i e;have:=da e;subst this;rw[get 7 aC aC,F.t7]at g;simp at z g;subst z g;rfl
      .cases z
  .intro k o Z;rw[jI]at Z;have:(bO 53 53 [(37,iv c),(11,zJ R.bn),(6,zJ R.b6),(7,zJ R.b7)] [] m h).own=replicate 53 none:=by rfl
   grind
  .intro k k' o o' b Z;rw[jI]at Z;have:(bO 53 53 [(37,iv c),(11,zJ R.bn),(6,zJ R.b6),(7,zJ R.b7)] [] m h).own=replicate 53 none:=by rfl
   grind
  .intro k o b Z;rw[jI]at Z;have:(bO 53 53 [(37,iv c),(11,zJ R.bn),(6,zJ R.b6),(7,zJ R.b7)] [] m h).own=replicate 53 none:=by rfl
   grind
  .exact⟨rfl,rfl,rfl,Nat.le_refl _,Nat.le_refl _,λ_ _ _=>rfl,hH.hsat,hH.msat,hH.disj,λ_ _ _ e=>e,λ_ _ _=>rfl,λb o G=>.inr (by show m b≠none;rw[show m b=some o from G];simp)⟩
 have hA:=Rv (C:=cY) f aG rfA aGQ _ _ _ _ _ hM (by
  rw[<-cCQ c R.bn R.b6 R.b7 m h];exact MT)
 refine wpIn_mono hA ?_;intro e a1 w1 V;cases e with
 |normal=>
  obtain⟨ι1,τ,a0,a3⟩:=V;obtain⟨ι2,a',_⟩:=qK a0 a3;have a4:w1.heap[f]? =some (.loop (qG R .ready none)):=a'.wrel.msat f _ F.loop;refine⟨_,run_beginRound a4 rfl,?_⟩;obtain⟨M,H⟩:∃M,iD m M f (.loop {qG R .ready none with state:=.busy}):=⟨λb=>if b=f then some (.loop {qG R .ready none with state:=.busy})else m b,bx,λb G=>by simp[G]⟩
  have a5:aL ⟨w,λb=>m b≠none,h,[]⟩ ι2 (bO 53 53 [(12,iv c),(11,zJ R.bn),(6,zJ R.b6),(7,zJ R.b7)] [] M h) a1 _:=a'.putM (m':=M) F.loop H
  have hB:=Rv (C:=cY) f aG rfB aFJ _ (λe τ=>match e with
   |.normal=>(∃m',τ.m=m'/\τ.h=h/\¬(24<n+1\/8<c)/\iD M m' R.bn (tD (n+1)))
   |.ret=>(∃m',τ.m=m'/\τ.h=h/\(24<n+1\/8<c)/\m' f=some (.loop {qG R .ready none with state:=.busy})/\m' R.b6=some IJ/\m' R.b7=some (GR 2)/\(∃x,m' R.bn=some x)/\(∀b,b≠f->b≠R.bn->b≠R.b6->b≠R.b7->m' b=m b))
   |_=>False) _ _ _ a5 (by
   rw[<-cBZ c R.bn R.b6 R.b7 M h (λm2 h2=>∃m',m2=m'/\h2=h/\¬(24<n+1\/8<c)/\iD M m' R.bn (tD (n+1))) (λm2 h2=>∃m',m2=m'/\h2=h/\(24<n+1\/8<c)/\m' f=some (.loop {qG R .ready none with state:=.busy})/\m' R.b6=some IJ/\m' R.b7=some (GR 2)/\(∃x,m' R.bn=some x)/\(∀b,b≠f->b≠R.bn->b≠R.b6->b≠R.b7->m' b=m b))];exact cBJ F h0 h1 H (λm' O g=>⟨m',rfl,rfl,O,g⟩) (λm' O k1 k2 k3 k4 k5=>⟨m',rfl,rfl,O,k1,k2,k3,k4,k5⟩))
  refine wpIn_mono hB ?_;obtain⟨n1,n2,n3,n4,n5,n6⟩:=F.ne;intro e a2 w2 A;cases e with
  |normal=>
   obtain⟨ι3,Q,D,m',y,S,O,g⟩:=A;have E:Q.m f=some (.loop {qG R .ready none with state:=.busy}):=by rw[y,g.other _ n1];exact H.at_
   have T:=D.wrel.msat f _ E;obtain⟨I,d⟩:∃I,iD Q.m I f (.loop (qG R .ready none)):=⟨λb=>if b=f then some (.loop (qG R .ready none))else Q.m b,bx,λb G=>by simp[G]⟩
   have U:=D.putM E d;refine⟨_,_,run_endRound none T,_,I,h,rfl,ht I O ⟨?_,λb G=>?_⟩,?_⟩
   .rw[d.other _ (λe=>n1 e.symm),y];exact g.at_
   .by_cases e:b=f
    .subst e;rw[d.at_];exact F.loop.symm
    .rw[d.other _ e,y,g.other _ G,H.other _ e]
   .have:=U.wrel;rw[S]at this;exact this.framed
  |ret=>
   obtain⟨ι3,Q,D,m',y,S,O,k1,k2,k3,k4,k5⟩:=A;have E:Q.m f=some (.loop {qG R .ready none with state:=.busy}):=cg
   have T:=D.wrel.msat f _ E;obtain⟨I,d⟩:∃I,iD Q.m I f (.loop (qG R .done (some .ret))):=⟨λb=>if b=f then some (.loop (qG R .done (some .ret)))else Q.m b,bx,λb G=>by simp[G]⟩
   have U:=D.putM E d;refine⟨_,_,run_endRound (some .ret) T,_,I,h,rfl,hf I O ⟨d.at_,?_,?_,?_,λb b1 b2 b3 b4=>?_⟩,?_⟩
   .rw[d.other _ (λe=>n2 e.symm),y];exact k2
   .rw[d.other _ (λe=>n3 e.symm),y];exact k3
   .rw[d.other _ (λe=>n1 e.symm),y];exact k4
   .rw[d.other _ b1,y];grind
   .have:=U.wrel;rw[S]at this;exact this.framed
  |exit id=>obtain⟨_,_,_,h⟩:=A;exact h.elim
  |goto t=>exact A.elim
  |panic ch=>exact A.elim
  |outgrown=>exact A.elim
 |ret=>obtain⟨_,_,_,h⟩:=V;exact h.elim
 |exit id=>obtain⟨_,_,_,h⟩:=V;exact h.elim
 |goto t=>exact V.elim
 |panic ch=>exact V.elim
 |outgrown=>exact V.elim
theorem bf{p:Sl}{G:Prop}(y:fR h s sc)(n:Ints h p ps)(g:KR K m h (eF s ps q))(z:cQ s=0->ps.all eH=true->G):aa sc p v m h G K:=by
 dsimp only[aa,push_cast];have A:=n.slen;have t:=n.len;unfold eF at g;refine⟨sc,s,rfl,y,aB (λj=>g.err (.refl _) (if_neg cg)) (λj=>?_)⟩;have j:cQ s=0:=cg
 rw[if_pos j]at g;refine⟨λi=>i<=ps.length/\(ps.take i).all eH=true,λi=>ps.length-i,⟨0,⟨aC,bx⟩,MT⟩,λi⟨M,d⟩=>aD (λf=>?_) (λD=>⟨v,rfl,λb m' E F=>⟨z j ?_,b,m',E,F,MT⟩⟩)⟩
 .obtain⟨x,u⟩:=dO A f;obtain⟨b,o,e,r⟩:=n.at' u;refine⟨b,o,e,aC,f,x,.imm r,?_⟩;have c:eH x=true->(ps.take (i+1)).all eH=true:=λH=>by rw[yX u,d,H];rfl
  refine aB (λI=>aB (λJ=>aB (λL=>g.err (.refl _) (if_neg λe=>?_)) (λL=>⟨i+1,⟨aC,c ?_⟩,cg,MT⟩)) (λJ=>⟨i+1,⟨aC,c ?_⟩,cg,MT⟩)) (λI=>⟨i+1,⟨aC,c ?_⟩,cg,MT⟩)
  .have:eH x=false:=by simp_all [eH]
   grind
  .simp_all [eH]
  .simp_all [eH]
  .simp_all [eH]
 grind
theorem V3{α:Type}(d:α)(l:List (Nat×α)):∀(n i k:Nat),nth (vK d l n i) k=if k<n then some (match assoc l (i+k)with|some x=>x|none=>d)else none
 |0,i,k=>by simp[vK,nth]
 |n+1,i,0=>by rw[if_pos aC];rfl
 |n+1,i,k+1=>by
  simp only[vK,nth];rw[V3 d l n (i+1) k,show i+1+k=i+(k+1)by omega]
  grind
theorem Jo{p:Sl}{e:Int}{o:Vc.Own}(c:nth (vN sc p v e m h).own k=some (some o)):
 (k=3/\o= .cells 43 (sc.enc.map .val))\/(k=5/\o= .cells 38 (v.enc.map .val))\/(k=6/\o= .cells 33 [.val (.slice none 0 0)])\/(k=7/\o= .cells 54 [.val (.int .i64 e)]):=by
 have:(vN sc p v e m h).own=vK none [(3,some (.cells 43 (sc.enc.map .val))),(5,some (.cells 38 (v.enc.map .val))),(6,some (.cells 33 [.val (.slice none 0 0)])),(7,some (.cells 54 [.val (.int .i64 e)]))] 56 0:=rfl;rw[this,V3]at c;split at c
 .simp only[Nat.zero_add,cw]at c;split at c
  .rename_i x d;subst c;simp only[assoc]at d;split at d
   .rename_i e;have:=da e;grind
   .split at d
    .rename_i e;have:=da e;grind
    .split at d
     .rename_i e;have:=da e;grind
     .split at d
      .rename_i e;have:=da e;grind
      .cases d
  .cases c
 .cases c
def mark(D:Nat):Deferred:={target:=.collected D,args:= #[]}
theorem Gr{B:tI}{ι:du}{σ:St}{a:Act}{w:World}(d:aL B ι σ a w){T:Nat}{l:dj}(e:nth σ.own k=some (some (.cells T (l.map .val)))):∃b,ι k= .pointer (some ⟨b,0,none⟩)/\w.heap[b]? =some (.cells ⟨l⟩ T (0,0)):=by
 obtain⟨b,j,f,g,c⟩:=wS d e;rw[iW.vals]at c;refine⟨b,f,?_⟩;rw[g, <-c]
theorem OS{B:tI}{ι:du}{σ:St}{a:Act}{w:World}(c:aL B ι σ a w){t:Nat}(d:σ.sl[t]? =some (.at (.ptr k 0)))(e:ι k= .pointer (some ⟨b,0,none⟩)):a.tmps[t]? =some (.pointer (some ⟨b,0,none⟩)):=by
 obtain⟨v,f,g,j,n⟩:=c.slots.get t _ d
 grind
theorem a8Z{B:tI}{ι:du}{a:Act}{w:World}{p:Sl}{z:Nat}(A:aL B ι (Eg sc p v z m' h) a w)(e0:B.dfs=[])(c0:lZ m h z)(a0:iD m m' z (.cells ⟨v.enc⟩ 38 (0,0)))(hq:dZ h q v){Q:Exit->Act->World->Prop}
 (e1:∀(e:Int)(D:Nat)(E:Nat->Prop)(a':Act)(w':World),aL ⟨w',E,h,[mark D]⟩ ι (vN sc p v e m h) a' w'->A7 B m h w'->(∀b,E b->B.w0.heap.size<=b\/B.E b)->B.w0.heap.size<=D->w'.heap[D]? =some (.deferred (some []))->¬E D->
  ((wY q 8 0).1=true->e=0->Q .normal a' w')/\((wY q 8 0).1=false->e=2->Q .ret a' w')):
 (Code.rangeFunc (.tmp 36) #[37,38] rfA rfB).wp Tryz.prog Q a w:=by
 have I:=A.wrel;obtain⟨b3,c1,c2⟩:=Gr A (k:=3) (T:=43) (l:=sc.enc) rfl;obtain⟨b5,c3,c4⟩:=Gr A (k:=5) (T:=38) (l:=v.enc) rfl;obtain⟨L,a4,c5⟩:=Gr A (k:=6) (T:=33) (l:=[.slice none 0 0]) rfl;obtain⟨M,a5,c6⟩:=Gr A (k:=7) (T:=54) (l:=[.int .i64 0]) rfl;obtain⟨bn,c7,c8⟩:=Gr A (k:=11) (T:=3) (l:=[.int .i64 0]) rfl;have e2:=OS A (t:=11) (k:=11) rfl c7;have t6:=OS A (t:=6) (k:=6) rfl a4;have t7:=OS A (t:=7) (k:=7) rfl a5;have e3:a.tmps.size=53:=by have:=A.slots.length;rw[Array.length_toList]at this;rw[<-this];rfl
 have e4:a.eval (.tmp 36)= .func (.func 172) #[] #[.pointer (some ⟨z,0,none⟩)]:=A.ev (.tmp 36);have a6:w.heap[z]? =some (.cells ⟨v.enc⟩ 38 (0,0)):=I.msat z _ a0.at_;have e5:=(Array.getElem?_eq_some_iff.1 c2).1;have e6:=(Array.getElem?_eq_some_iff.1 c4).1;have e7:=(Array.getElem?_eq_some_iff.1 c5).1;have e8:=(Array.getElem?_eq_some_iff.1 c6).1;have e9:=(Array.getElem?_eq_some_iff.1 c8).1;have h0:=(Array.getElem?_eq_some_iff.1 a6).1;have a7:=A.fresh 3 _ b3 rfl (by rw[c1];rfl);have a8:=A.fresh 5 _ b5 rfl (by rw[c3];rfl);have O:=A.fresh 6 _ L rfl (by rw[a4];rfl);have f8:=A.fresh 7 _ M rfl (by rw[a5];rfl);have a9:=A.fresh 11 _ bn rfl (by rw[c7];rfl);have f':b3≠L:=λe=>cg
 have f0:b3≠M:=λe=>cg
 have f1:b3≠bn:=λe=>cg
 have f2:b5≠L:=λe=>cg
 have f3:b5≠M:=λe=>cg
 have f4:b5≠bn:=λe=>cg
 have f5:L≠M:=λe=>cg
 have c9:L≠bn:=λe=>cg
 have d':M≠bn:=λe=>cg
 have Y:∀b,m' b=none->b≠z:=λb f e=>by rw[e,a0.at_]at f;cases f
 have q3:=Y b3 a7.2.1;have q5:=Y b5 a8.2.1;have q6:=Y L O.2.1;have q7:=Y M f8.2.1;have qn:=Y bn a9.2.1;refine(wpIn_wide (n:=0)).1 (wpIn_rangeFunc ?_);intro fn h6;obtain⟨l,hl⟩:∃l,l=w.heap.size+1:=⟨_,rfl⟩
 obtain⟨D,hD⟩:∃D,D=w.heap.size:=⟨_,rfl⟩
 let R:LR:=⟨fn,a.tmps,bn,L,M,D⟩
 obtain⟨W1,H⟩:∃W1,(w.alloc (.deferred (some []))).alloc (.loop (qG R .ready none))=W1:=⟨_,rfl⟩
 have s1:W1.heap.size=w.heap.size+2:=by rw[<-H];simp
 have a1:∀b,b<w.heap.size->W1.heap[b]? =w.heap[b]? :=λb f=>by
  rw[<-H,fG _ _ ce,fG _ _ f]
 have d0:W1.heap[D]? =some (.deferred (some [])):=by
  rw[<-H,hD,fG _ _ bx];exact kC w _
 have g9:W1.heap[l]? =some (.loop (qG R .ready none)):=by
  rw[<-H,hl];have:=kC (w.alloc (.deferred (some []))) (.loop (qG R .ready none))
  rwa [World.size_alloc]at this
 let J:MH:=λb=>if b=l then some (.loop (qG R .ready none))else if b=bn then some (tD 0)else if b=L then some IJ else if b=M then some (GR 0)else if b=z then some (.cells ⟨v.enc⟩ 38 (0,0))else none
 have d5:J l=some (.loop (qG R .ready none)):=by simp[J]
 have d6:J bn=some (tD 0):=(if_neg aC).trans (if_pos rfl);have b':J L=some IJ:=(if_neg aC).trans ((if_neg c9).trans (if_pos rfl));have b0:J M=some (GR 0):=(if_neg aC).trans ((if_neg d').trans ((if_neg (Ne.symm f5)).trans (if_pos rfl)));have f6:J z=some (.cells ⟨v.enc⟩ 38 (0,0)):=(if_neg aC).trans ((if_neg (Ne.symm qn)).trans ((if_neg (Ne.symm q6)).trans ((if_neg (Ne.symm q7)).trans (if_pos rfl))));have a2:∀b,b≠l->b≠bn->b≠L->b≠M->b≠z->J b=none:=λb h1 h2 h3 h4 h5=>(if_neg h1).trans ((if_neg h2).trans ((if_neg h3).trans ((if_neg h4).trans (if_neg h5))))
 have d7:∀b o,J b=some o->b=l\/b=bn\/b=L\/b=M\/b=z:=λb o f=>by
  grind
 have b1:∀b i x,h b i=some x->b<w.heap.size:=λb i x g=>World.block_lt_of_cell? w ⟨b,i,none⟩ (I.hsat b i x g);have hL:Ae J l R 0:=⟨d5,d6,b',b0,e3,e2,t6,t7⟩
 have d8:B9 W1 J h [yv l,afX z] [.func (.yield l) #[] #[],.pointer (some ⟨z,0,none⟩)]:=by
  refine⟨⟨rfl,rfl,trivial⟩,?_,?_,?_,?_,?_⟩
  .intro b i x g;rw[World.cell?_of_block (w:=w) (w':=W1) (a:=⟨b,i,none⟩) (a1 b (b1 b i x g))];exact I.hsat b i x g
  .intro b o f;rcases d7 b o f with rfl|rfl|rfl|rfl|rfl
   .grind
   .rw[d6]at f;cases f;rw[a1 _ e9];exact c8
   .rw[b']at f;cases f;rw[a1 _ e7];exact c5
   .rw[b0]at f;cases f;rw[a1 _ e8];exact c6
   grind
  .intro b o f i;rcases d7 b o f with rfl|rfl|rfl|rfl|rfl
   .cases e:h b i with
    |none=>rfl
    |some x=>grind
   .exact a9.2.2 i
   .exact O.2.2 i
   .exact f8.2.2 i
   .exact c0.h_ i
  .intro i j c d u u' b F hu hj hv f
   have:∃x,c= .val x:=by
    match i,F with
    |0,F=>simp[yv]at F;grind
    |1,F=>simp[afX]at F;grind
    |_+2,F=>simp at F
   obtain⟨x,rfl⟩:=this;simp[iG]at f
  .intro i c u b F hu f
   have:∃x,c= .val x:=by
    match i,F with
    |0,F=>simp[yv]at F;grind
    |1,F=>simp[afX]at F;grind
    |_+2,F=>simp at F
   obtain⟨x,rfl⟩:=this;simp[iG]at f
 have b2:=(ZG a5X).2 [yv l,afX z] [.func (.yield l) #[] #[],.pointer (some ⟨z,0,none⟩)] J h W1 (λ_ mm hh=>hh=h/\(((wY q 8 0).1=false/\AY J mm l R)\/((wY q 8 0).1=true/\∃n,iD J mm bn (tD n))))
  ⟨v,q,l,z,R,rfl,f6,hq,hL,λmm hv hs=>⟨rfl,.inl ⟨hv,hs⟩⟩,λmm hv hu=>⟨rfl,.inr ⟨hv,_,hu⟩⟩⟩ d8
 have b4:(Instr.enterLoop fn a.tmps #[37,38] rfA rfB Fence.wide.round).run Tryz.prog w= .ok (l,[mark D]) W1:=by
  subst hD hl;rw[<-H];exact run_enterLoop_outer _ _ _ _ _
 refine⟨l,[mark D],W1,{target:=.fn (.func 172) #[.pointer (some ⟨z,0,none⟩)],args:= #[.func (.yield l) #[] #[]]},W1,172, #[.func (.yield l) #[] #[],.pointer (some ⟨z,0,none⟩)],W1,b4,?_,λ_ _=>trivial,?_,λe=>by simp[Fence.wide]at e,callsIn_wide.2 ?_⟩
 .simp only[resolve,rangeCall,e4];simp[go_sem]
 .have hf:Tryz.prog.funcs[172]? =some Tryz.f172:=func172;have f7:¬Tryz.f172.body=none:=by intro e;have:Tryz.f172.body=some (cM Tryz.f172):=rfl;grind
  have f9:¬Tryz.f172.name= "runtime.NumGoroutine" :=bz
  simp only[invoke,callFunc];simp[program,Sem.run,hf,f9,f7]
 refine b2.mono ?_;rintro e P ⟨r,u,mm,hh,rfl,⟨b8,d9⟩,h7,G,_⟩;have b8:=b8.symm;subst b8
 have Z:∀b,J b=none->¬y7 J [yv l,afX z] [.func (.yield l) #[] #[],.pointer (some ⟨z,0,none⟩)] b:=by
  rintro b f (h1|⟨i,c,u,F,hu,hc⟩)
  .exact h1 f
  .have:∃x,c= .val x:=by
    match i,F with
    |0,F=>simp[yv]at F;grind
    |1,F=>simp[afX]at F;grind
    |_+2,F=>simp at F
   obtain⟨x,rfl⟩:=this;simp[iG]at hc
 have b9:∀b,b<W1.heap.size->J b=none->P.heap[b]? =W1.heap[b]? :=λb f hn=>G.frame b f (Z b hn);have V:=G.size;have V:W1.heap.size<=P.heap.size:=V;obtain⟨n1,n2,n3,n4,n5,n6⟩:=hL.ne
 have key:∀(e:Int)(st:LoopState)(pe:Option Code),st≠ .busy->mm l=some (.loop (qG R st pe))->mm L=some IJ->mm M=some (GR e)->
  (Instr.endLoop l).run Tryz.prog P= .ok pe (P.putObj l (.loop {qG R st pe with state:=.exhausted}))/\
  ((wY q 8 0).1=true->e=0->Q .normal {a with defers:=[mark D]++a.defers} (P.putObj l (.loop {qG R st pe with state:=.exhausted})))/\
  ((wY q 8 0).1=false->e=2->Q .ret {a with defers:=[mark D]++a.defers} (P.putObj l (.loop {qG R st pe with state:=.exhausted}))):=by
  intro e st pe g' kl k6 k7;have g0:=G.msat l _ kl;refine⟨run_endLoop g0 g',?_⟩;obtain⟨W,S⟩:∃W,P.putObj l (.loop {qG R st pe with state:=.exhausted})=W:=⟨_,rfl⟩
  rw[S];have a3:∀b,b≠l->W.heap[b]? =P.heap[b]? :=λb f=>by rw[<-S];exact World.putObj_heap_other (λe=>f e)
  have s4:W.heap.size=P.heap.size:=by rw[<-S];simp
  have X:∀b,b<w.heap.size->J b=none->W.heap[b]? =w.heap[b]? :=λb f hn=>by
   grind
  have U:∀b o,m b=some o->J b=none/\b<w.heap.size/\m' b=some o:=λb o f=>by
   have a6:b≠z:=λe=>by rw[e,c0.m_]at f;cases f
   have c':m' b=some o:=by rw[a0.other b a6];exact f
   have h8:=(Array.getElem?_eq_some_iff.1 (I.msat b o c')).1
   have ne:∀c,(Eg sc p v z m' h).m c=none->b≠c:=λc hc e=>by
    have hc:m' c=none:=hc
    grind
   grind
  have e':∀b i x,h b i=some x->W.cell? ⟨b,i,none⟩=some x:=λb i x g=>by
   have f:b≠l:=λe=>cg
   rw[World.cell?_of_block (w:=P) (w':=W) (a:=⟨b,i,none⟩) (a3 b f)];exact G.hsat b i x g
  have wr:A7 B m h W:=by
   refine⟨?_,?_,?_,?_,?_,?_,e',?_,?_,I.hle,I.hold,?_⟩
   .have:W.tape=P.tape:=by rw[<-S];rfl
    rw[this,G.tape];show W1.tape=_;rw[<-H];exact I.tape
   .have:W.os=P.os:=by rw[<-S];rfl
    rw[this,G.os];show W1.os=_;rw[<-H];exact I.os
   .have:W.output=P.output:=by rw[<-S];rfl
    rw[this,G.output];show W1.output=_;rw[<-H];exact I.output
   .have d4:W.drawn=P.drawn:=by rw[<-S];rfl
    have d3:W1.drawn<=P.drawn:=G.drawn;have d2:W1.drawn=w.drawn:=by rw[<-H];rfl
    have d1:B.w0.drawn<=w.drawn:=I.drawn;omega
   .have:=I.size;omega
   .intro b f g4;have g5:b<w.heap.size:=dh f I.size
    have ne:∀c,(B.w0.heap.size<=c\/B.E c)->b≠c:=λc hc e=>by
     grind
    rw[X b g5 (a2 b aC (ne _ a9.1) (ne _ O.1) (ne _ f8.1) (ne _ (I.mfr z _ a0.at_)))];exact I.frame b f g4
   .intro b o f;obtain⟨k1,k2,k3⟩:=U b o f;rw[X b k2 k1];exact I.msat b o k3
   .intro b o f i;exact I.disj b o (U b o f).2.2 i
   .intro b o f;exact I.mfr b o (U b o f).2.2
  have g6:W.heap[D]? =some (.deferred (some [])):=by
   rw[a3 D aC,b9 D aC (a2 D aC aC aC aC aC)];exact d0
  refine e1 e D (λb=>m b≠none\/∃k o,nth (Eg sc p v z m' h).own k=some (some o)/\blk (ι k)=some b) {a with defers:=[mark D]++a.defers} W ⟨?_,?_,?_,?_,?_,?_,A.one⟩ wr ?_ ?_ g6 ?_
  .show DenS ι (vK (.at .junk) [(1,sv p),(3,.at (.ptr 3 0)),(5,.at (.ptr 5 0)),(6,.at (.ptr 6 0)),(7,.at (.ptr 7 0))] 53 0) a.tmps.toList;refine MB 53 0 _ _ aC (λj x u g hu=>?_)
   have get:∀(t:Nat)(y:SV),(Eg sc p v z m' h).sl[t]? =some y->t=j->Den ι y u:=λt y ht e=>by
    obtain⟨v',h9,i'⟩:=A.slots.get t y ht
    grind
   simp only[assoc,Nat.zero_add]at g;split at g
   .rename_i e;simp at g;subst g;exact get 1 _ rfl (da e)
   .split at g
    .rename_i e;simp at g;subst g;exact get 3 _ rfl (da e)
    .split at g
     .rename_i e;simp at g;subst g;exact get 5 _ rfl (da e)
     .split at g
      .rename_i e;simp at g;subst g;exact get 6 _ rfl (da e)
      .split at g
       .rename_i e;simp at g;subst g;exact get 7 _ rfl (da e)
       .cases g
  .show[mark D]++a.defers=[mark D]
   rw[A.defers,e0];rfl
  .intro k o hk;rcases Jo hk with⟨rfl,rfl⟩|⟨rfl,rfl⟩|⟨rfl,rfl⟩|⟨rfl,rfl⟩
   .exact⟨b3,_,c1,by rw[X b3 e5 (a2 b3 aC f1 f' f0 q3)];exact c2,iW.vals.2 rfl,λ_ e=>by cases e⟩
   .exact⟨b5,_,c3,by rw[X b5 e6 (a2 b5 aC f4 f2 f3 q5)];exact c4,iW.vals.2 rfl,λ_ e=>by cases e⟩
   .exact⟨L,_,a4,by rw[a3 L aC];exact G.msat L _ k6,iW.vals (l:=[.slice none 0 0]).2 rfl,λ_ e=>by cases e⟩
   .exact⟨M,_,a5,by rw[a3 M aC];exact G.msat M _ k7,iW.vals (l:=[.int .i64 e]).2 rfl,λ_ e=>by cases e⟩
  .have up:∀k o,nth (vN sc p v e m h).own k=some (some o)->∃o',nth (Eg sc p v z m' h).own k=some (some o'):=λk o hk=>by
    rcases Jo hk with⟨rfl,rfl⟩|⟨rfl,rfl⟩|⟨rfl,rfl⟩|⟨rfl,rfl⟩<;>exact⟨_,rfl⟩
   intro k k' o o' b hk g7 f c';obtain⟨x,g⟩:=up k o hk;obtain⟨x',g8⟩:=up k' o' g7;exact A.dist k k' x x' b g g8 f c'
  .have up:∀k o,nth (vN sc p v e m h).own k=some (some o)->∃o',nth (Eg sc p v z m' h).own k=some (some o'):=λk o hk=>by
    rcases Jo hk with⟨rfl,rfl⟩|⟨rfl,rfl⟩|⟨rfl,rfl⟩|⟨rfl,rfl⟩<;>exact⟨_,rfl⟩
   intro k o b hk f;obtain⟨x,g⟩:=up k o hk;obtain⟨g1,g2,g3⟩:=A.fresh k x b g f;refine⟨.inr (.inr ⟨k,x,g,f⟩),?_,g3⟩;show m b=none;have g2:m' b=none:=g2;rw[<-a0.other b (Y b g2)];exact g2
  .exact⟨rfl,rfl,rfl,Nat.le_refl _,Nat.le_refl _,λ_ _ _=>rfl,e',wr.msat,wr.disj,λ_ _ _ e=>e,λ_ _ _=>rfl,λb o f=>.inr (.inl (by rw[show m b=some o from f];simp))⟩
  .rintro b (h1|⟨k,o,hk,f⟩)
   .cases e:m b with
    |none=>grind
    |some o=>exact wr.mfr b o e
   .exact(A.fresh k o b hk f).1
  .rw[hD];exact I.size
  .rintro(h1|⟨k,o,hk,f⟩)
   .cases e:m D with
    |none=>exact h1 e
    |some o=>grind
   .have:=rC (A.own k o hk) f;omega
 rcases d9 with⟨hv,hs⟩|⟨hv,n,hu⟩
 .obtain⟨r1,_,r3⟩:=key 2 .done (some .ret) bx hs.loop hs.k_ hs.e_;exact⟨_,_,r1,wpIn_ret (r3 hv rfl)⟩
 .obtain⟨r1,r2,_⟩:=key 0 .ready none bx (by rw[hu.other l n1];exact d5) (by rw[hu.other L c9];exact b') (by rw[hu.other M d'];exact b0);exact⟨_,_,r1,r2 hv rfl⟩
set_option maxRecDepth 100000 in
theorem bg:di 57 wW:=by
 refine⟨⟨Tryz.f57,func57,rfl,bz⟩,?_⟩;rintro b6 vs m h w K ⟨sc,p,v,s,ps,q,rfl,hs,hp,I,T⟩ a3;refine callsIn_wide.1 (callsIn_of_wp_marks (n:=0) func57 (show Tryz.f57.body=some (cM Tryz.f57)from rfl) trivial (wpIn_wide.2 ?_));have U:=K9 Tryz.f57.ntmps a3;have hn:Tryz.f57.ntmps=53:=bu
 rw[hn]at U⊢
 obtain⟨B,hB⟩:∃B:tI,B=⟨w,y7 m [aS sc,cS p,aQ v] vs,h,[]⟩:=⟨_,rfl⟩
 rw[<-hB]at U;have a4:B.dfs=[]:=by rw[hB]
 have t:∀g S,assoc (f57_ctx sc p v m h).specs g=some S->Sound (f57_ctx sc p v m h).P g S:=aE Ih (aE aOZ aG)
 have x:∀u z,(∃r m' h',K r m' h'/\G5 z r u/\A7 B m' h' z/\∀b,iG r u=some b->(B.w0.heap.size<=b\/B.E b)/\m' b=none/\∀i,h' b i=none)->
  ∃r u' m' h',Ending.returned u= .returned u'/\K r m' h'/\G5 z r u'/\A7 ⟨w,y7 m [aS sc,cS p,aQ v] vs,h,[]⟩ m' h' z/\(∀b,iG r u'=some b->(w.heap.size<=b\/y7 m [aS sc,cS p,aQ v] vs b)/\m' b=none/\∀i,h' b i=none):=by
  rintro u z ⟨r,m',h',W,h2,h3,h4⟩;subst hB;exact⟨r,u,m',h',rfl,W,h2,h3,h4⟩
 have hV:VC (f57_ctx sc p v m h) (No 4 (cM Tryz.f57)) (entry 53 [aS sc,cS p,aQ v] m h) (thenS (WN sc p v m h (cQ s=0/\ps.all eH=true)) (f57Qr sc p v m h K)):=by
  rw[<-ay sc p v m h (cQ s=0/\ps.all eH=true) K];exact bf hs hp T (λW h2=>⟨W,h2⟩)
 have key:=λR=>Vp (C:=f57_ctx sc p v m h) (Q2:=WN sc p v m h (cQ s=0/\ps.all eH=true)) (Q:=f57Qr sc p v m h K) (R:=R) t rfl rfl 4 (cM Tryz.f57) _ _ _ _ U;generalize f:VC (f57_ctx sc p v m h) (No 4 (cM Tryz.f57)) (entry 53 [aS sc,cS p,aQ v] m h) (thenS (WN sc p v m h (cQ s=0/\ps.all eH=true)) (f57Qr sc p v m h K))=V at hV key;clear f;refine key _ hV ?_ ?_
 .intro ι τ a1 w1 b0 W;unfold WN at W;rw[a6X];have J:=λR=>Vp (C:=f57_ctx sc p v m h) (Q2:=asZ sc p v m h (cQ s=0/\ps.all eH=true)) (Q:=λ_ _=>False) (R:=R) t rfl rfl 1 (KY (CK 4 (cM Tryz.f57))) _ _ _ _ b0;generalize f:VC (f57_ctx sc p v m h) (No 1 (KY (CK 4 (cM Tryz.f57)))) τ (thenS (asZ sc p v m h (cQ s=0/\ps.all eH=true)) (λ_ _=>False))=V at W J;clear f;refine wp_seq (J _ W ?_ ?_)
  .intro ι2 τ2 a2 w2 b1 h2;unfold asZ at h2;obtain⟨⟨g1,g2⟩,bq,m',b2,b3,b4⟩:=h2;obtain⟨ι3,b5,_⟩:=qK b1 b4;rw[aJX];refine wp_block (a8Z b5 a4 b2 b3 I ?_);intro e D E a' z a6 a7 hE hD a8 a9;have L:D<z.heap.size:=(Array.getElem?_eq_some_iff.1 a8).1
   have j:∀{C:Ctx},C.P=Tryz.prog->∀(ι5:du)(X:St)(Y:Act)(w5:World),aL ⟨z,E,h,[mark D]⟩ ι5 X Y w5->FY C Tryz.f57 K X->∀{R:Ending->World->Prop},(∀u d,(∃r m' h',K r m' h'/\G5 d r u/\A7 B m' h' d/\∀b,iG r u=some b->(B.w0.heap.size<=b\/B.E b)/\m' b=none/\∀i,h' b i=none)->R (.returned u) d)->LeavesInM Fence.wide 0 Tryz.prog Tryz.f57 Y.tmps R Y.defers .returning w5:=by
    intro C hC ι5 X Y w5 A G R hR;rw[<-hC];refine Yt (C:=C) A rfl ?_ L a9 G (λu d=>?_)
    .rw[A.wrel.frame D L a9];exact a8
    .rintro⟨r,mf,hf,k1,k2,y,k4⟩
     have b':∀b,(E b\/b=D)->B.w0.heap.size<=b\/B.E b:=by
      rintro b (e|rfl)
      .exact hE b e
      .exact .inl hD
     refine hR u d ⟨r,mf,hf,k1,k2,a7.trans (E:=λb=>E b\/b=D) ⟨y.tape,y.os,y.output,y.drawn,y.size,y.frame,y.hsat,y.msat,y.disj,y.hle,y.hold,y.mfr⟩ b',λb hb=>?_⟩;obtain⟨j1,j2,j3⟩:=k4 b hb;refine⟨?_,j2,j3⟩;rcases j1 with j1|j1
     .exact .inl (dg a7.size j1)
     .exact b' b j1
   refine⟨λhv he=>?_,λhv he=>?_⟩
   .subst he;show(CK 5 (cM Tryz.f57)).wp _ _ a' z;have Z:uT q=true:=by rw[<-G8];exact hv
    have ht:ag (SizeOf.sizeOf q+1) sc p v m h K:=by
     unfold eF at T;rw[if_pos g1,if_pos g2,if_pos Z]at T;exact⟨sc,p,v,s,ps,q,rfl,hs,RE g1,hp,I,aC,T⟩
    rw[az]at ht;have M:=Yy (C:=cT [(98,B8 (SizeOf.sizeOf q+1))] [] [] [] false) (fn:=Tryz.f57) (c:=CK 5 (cM Tryz.f57)) (K:=K) (aE (aOX _) aG) a6;generalize f:tB (cT [(98,B8 (SizeOf.sizeOf q+1))] [] [] [] false) Tryz.f57 (CK 5 (cM Tryz.f57)) (vN sc p v 0 m h) K=V at ht M;clear f;refine wp_mono (M ht) ?_;intro e Y w5 F;cases e with
    |normal=>
     obtain⟨ι5,X,A,G⟩:=F;exact j rfl ι5 X Y w5 A G (λu d hx=>x u d hx)
    |ret=>
     obtain⟨ι5,X,A,G⟩:=F;exact j rfl ι5 X Y w5 A G (λu d hx=>x u d hx)
    |exit id=>exact F.elim
    |goto l=>exact F.elim
    |panic ch=>exact F.elim
    |outgrown=>exact F.elim
   .subst he;have Z:¬uT q=true:=by rw[<-G8,hv];simp
    have G:ah sc p v m h K:=by
     unfold eF at T;rw[if_pos g1,if_pos g2,if_neg Z]at T;exact T.err (.refl _) rfl
    rw[bd]at G;have O:=@j cY rfl ι3 (vN sc p v 2 m h) a' z a6;generalize f:FY cY Tryz.f57 K (vN sc p v 2 m h)=V at G O;clear f;exact O G (λu d hx=>x u d hx)
  .rintro e a w I a0;cases e with
   |normal=>exact(a0 rfl).elim
   |exit id=>obtain⟨_,_,_,h⟩:=I;exact h.elim
   |ret=>obtain⟨_,_,_,h⟩:=I;exact h.elim
   |goto l=>exact I.elim
   |panic ch=>exact I.elim
   |outgrown=>exact I.elim
 .rintro e a' z H a0;cases e with
  |normal=>exact(a0 rfl).elim
  |exit id=>
   obtain⟨_,_,_,h⟩:=H;simp only[f57Qr]at h
  |ret=>
   obtain⟨ι,σ,hM,G⟩:=H;simp only[f57Qr]at G;obtain⟨u,hu,r,m',h',k1,k2,y,k4⟩:=LG hM G;show LeavesInM Fence.wide 0 Tryz.prog Tryz.f57 a'.tmps _ a'.defers .returning z;rw[hM.defers,a4];exact⟨u,hu,x u z ⟨r,m',h',k1,k2,y,k4⟩⟩
  |goto l=>exact H.elim
  |panic ch=>exact H.elim
  |outgrown=>exact H.elim
end Go.Ps
