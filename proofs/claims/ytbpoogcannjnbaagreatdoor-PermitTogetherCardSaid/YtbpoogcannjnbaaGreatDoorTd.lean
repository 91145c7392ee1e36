/- Own work. -/
import Derived.RangeFuncLeaves
import Derived.RangeFuncCalls
import Derived.Test.YtbpoogcannjnbaaGreatDoorTc
set_option linter.unusedVariables false
set_option linter.unusedSimpArgs false
namespace Go.Vc
open Go
section
variable{B:mH}{C:Ctx}{ι:Nat->Value}{σ:St}{a:Act}{w:World}{o:Oper}{K:St->Prop}
theorem OA(h:KN C o σ K):∀c,o.op≠ .defer c:=by
 intro c hc;unfold KN at h;rw[hc]at h;unfold Ki at h;rw[hc]at h;exact h
theorem Dy(l:Nat){P:Program}{next:Act->World->Prop}{Q:Exit->Act->World->Prop}(hd:∀c,o.op≠ .defer c)(h:o.wpIn Fence.wide 0 P a w next Q):o.wpIn (Fence.wide.inRound l) 0 P a w next Q:=by
 refine⟨λ_ _=>trivial,?_⟩;have h2:o.uponIn Fence.wide 0 P a next Q ((execOp a.eval o).run P w):=h.2
 show o.uponIn (Fence.wide.inRound l) 0 P a next Q ((o.semAt (some l) a.eval).run P w)
 rw[Oper.semAt_eq _ _ _ hd];cases hr:(execOp a.eval o).run P w with
 |ok x w'=>
  rw[hr]at h2;cases x<;>exact h2
 |halt x w'=>
  rw[hr]at h2;cases x<;>exact h2
theorem Ir(l:Nat)(hspecs:∀g S,assoc C.specs g=some S->Sound C.P g S){ops:Array Oper}{Q:Exit->Act->World->Prop}{R:St->Prop}(hQ:∀ι σ a w,aG B ι σ a w->R σ->Q .normal a w):
 ∀(os:List Oper)(s:Nat)(ι:Nat->Value)(σ:St)(a:Act)(w:World),(∀j,os[j]? =ops.toList[s+j]?)->aG B ι σ a w->Kz C ops os σ R->wpOpsIn (Fence.wide.inRound l) 0 C.P ops Q (List.range' s os.length) a w
 |[],s,ι,σ,a,w,_,hM,h=>hQ ι σ a w hM h
 |o::os,s,ι,σ,a,w,hl,hM,h=>by
  have ho:ops[s]? =some o:=by have:=hl 0;simp at this;exact this.symm
  simp only[List.length_cons,List.range'_succ,wpOpsIn,ho]
  have next:∀ι' σ' a' w',aG B ι' σ' a' w'->Kz C ops os σ' R->wpOpsIn (Fence.wide.inRound l) 0 C.P ops Q (List.range' (s+1) os.length) a' w':=λι' σ' a' w' h1 h2=>
   Ir l hspecs hQ os (s+1) ι' σ' a' w' (λj=>by have:=hl (j+1);simp only[List.getElem?_cons_succ]at this;rw[this];congr 1;omega) h1 h2
  obtain⟨σ1,hM1,hfz,hc⟩:=yA hM h;rcases hc with⟨hw,h⟩|⟨hw,h⟩
  .rw[if_pos hw];exact Dy l (OA h) (KM hspecs hM1 h _ Q next)
  .rw[if_neg (by simp[hw])];exact⟨λ_ _=>trivial,next ι _ _ _ (hM1.put o.dst (x:=.at (.val undef)) rfl) h⟩
def hU(C:Ctx):Code->Bool
 |.skip=>true
 |.ret=>true
 |.exit _=>true
 |.region id _ d=> !d&&(FR C id).isEmpty
 |.seq x y=>(S4 C y).isNone&&(JN C y).isNone&&hU C x&&hU C y
 |.cond _ x y=>hU C x&&hU C y
 |.block _ c=>hU C c
 |_=>false
theorem Kv(l:Nat)(hspecs:∀g S,assoc C.specs g=some S->Sound C.P g S):∀(c:Code),hU C c=true->∀(σ:St)(Q:uM->St->Prop)(ι:Nat->Value)(a:Act)(w:World),aG B ι σ a w->VC C c σ Q->c.wpIn (Fence.wide.inRound l) 0 C.P (QD B Q) a w:=by
 intro c
 induction c with
 |skip=>intro _ σ Q ι a w hM h;exact wpIn_skip ⟨ι,σ,hM,h⟩
 |exit id=>intro _ σ Q ι a w hM h;exact wpIn_exit ⟨ι,σ,hM,h⟩
 |ret=>intro _ σ Q ι a w hM h;exact wpIn_ret ⟨ι,σ,hM,h⟩
 |label l=>intro hs;simp[hU]at hs
 |goto l=>intro hs;simp[hU]at hs
 |refuse why=>intro hs;simp[hU]at hs
 |scope body ih=>intro hs;simp[hU]at hs
 |loop body ih=>intro hs;simp[hU]at hs
 |rangeFunc f ps x y ihx ihy=>intro hs;simp[hU]at hs
 |region id ops draw=>
  intro hs σ Q ι a w hM h;cases draw with
  |true=>simp[hU]at hs
  |false=>
   have hsg:FR C id=[]:=by simpa[hU,List.isEmpty_iff]using hs
   refine wpIn_region ?_;have h:Sr C ops (FR C id) ops.toList σ (Q .normal):=h;rw[hsg]at h;have:=Ir l hspecs (ops:=ops) (Q:=QD B Q) (R:=Q .normal) (λι σ a w hM h=>⟨ι,σ,hM,h⟩) ops.toList 0 ι σ a w (λj=>by simp) hM h;rw[List.range_eq_range'];simpa using this
 |seq x y ihx ihy=>
  intro hs σ Q ι a w hM h;simp only[hU,Bool.and_eq_true,Option.isNone_iff_eq_none]at hs;obtain⟨⟨⟨h1,h2⟩,h3⟩,h4⟩:=hs;simp only[VC,h1,h2]at h;refine wpIn_seq (wpIn_mono (ihx h3 σ _ ι a w hM h) ?_);intro e a' w' hq;cases e with
  |normal=>
   obtain⟨ι',σ',hM',h'⟩:=hq;exact ihy h4 σ' Q ι' a' w' hM' h'
  |exit id=>exact hq
  |ret=>exact hq
  |goto l=>exact hq
  |panic ch=>exact hq
  |outgrown=>exact hq
 |cond c x y ihx ihy=>
  intro hs σ Q ι a w hM h;simp only[hU,Bool.and_eq_true]at hs;simp only[VC]at h;split at h
  .rename_i t hc;have hev:=hM.ev c;rw[hc]at hev;have hev:a.eval c= .bool t:=hev;rcases nN h with⟨rfl,h⟩|⟨rfl,h⟩
   .exact wpIn_cond_true hev (ihx hs.1 _ Q ι a w (hM.setTmp hc) h)
   .exact wpIn_cond_false hev (ihy hs.2 _ Q ι a w (hM.setTmp hc) h)
  .exact h.elim
 |block id c ih=>
  intro hs σ Q ι a w hM h;refine wpIn_block (wpIn_mono (ih hs σ _ ι a w hM h) ?_);intro e a' w' hq;cases e with
  |normal=>exact hq
  |exit i=>
   obtain⟨ι',σ',hM',h'⟩:=hq;show if i=id then _ else _
   simp only at h';split at h'
   .rename_i hb;rw[if_pos (Nat.eq_of_beq_eq_true hb)];exact⟨ι',σ',hM',h'⟩
   .rename_i hb;rw[if_neg (λe=>by subst e;simp at hb)];exact⟨ι',σ',hM',h'⟩
  |ret=>exact hq
  |goto l=>exact hq
  |panic ch=>exact hq
  |outgrown=>exact hq
def Hd:Nat->Code->Code
 |n+1,.seq x y=>.seq x (Hd n y)
 |_,_=>.skip
def wY:Nat->Code->Code
 |n+1,.seq _ y=>wY n y
 |_,c=>c
def thenS(Q2:St->Prop)(Q:uM->St->Prop):uM->St->Prop:=λe τ=>match e with|.normal=>Q2 τ|e=>Q e τ
theorem NY(hspecs:∀g S,assoc C.specs g=some S->Sound C.P g S)(hc:C.cuts=[])(hc2:C.cuts2=[]){Q2:St->Prop}{Q:uM->St->Prop}{R:Exit->Act->World->Prop}:
 ∀(n:Nat)(c:Code)(ι:Nat->Value)(σ:St)(a:Act)(w:World),aG B ι σ a w->VC C (Hd n c) σ (thenS Q2 Q)->
  (∀ι τ a w,aG B ι τ a w->Q2 τ->(wY n c).wp C.P R a w)->(∀e a w,QD B Q e a w->e≠ .normal->R e a w)->c.wp C.P R a w:=by
 have cut0:∀y,S4 C y=none:=λy=>by unfold S4;split<;>simp[hc,assoc]
 have cut2:∀y,JN C y=none:=λy=>by unfold JN;split<;>simp[hc2,assoc]
 intro n
 induction n with
 |zero=>intro c ι σ a w hM h ht _;exact ht ι σ a w hM h
 |succ n ih=>
  intro c;cases c with
  |seq x y=>
   intro ι σ a w hM h ht hR;simp only[Hd,VC,cut0,cut2]at h;refine wp_seq (wp_mono (D5 hspecs x σ _ ι a w hM h) ?_);intro e a' w' hq;cases e with
   |normal=>
    obtain⟨ι',σ',hM',h'⟩:=hq;exact ih y ι' σ' a' w' hM' h' ht hR
   |exit id=>exact hR _ _ _ hq (by simp)
   |ret=>exact hR _ _ _ hq (by simp)
   |goto l=>exact hq.elim
   |panic ch=>exact hq.elim
   |outgrown=>exact hq.elim
  |_=>intro ι σ a w hM h ht _;exact ht ι σ a w hM h
def ZN(B:mH)(C:Ctx)(fn:Func)(K:CV->MH->PH->Prop):Exit->Act->World->Prop
 |.normal,a,w=>∃ι σ,aG B ι σ a w/\zA C fn K σ
 |.ret,a,w=>∃ι σ,aG B ι σ a w/\zA C fn K σ
 |_,_,_=>False
theorem Qv(hspecs:∀g S,assoc C.specs g=some S->Sound C.P g S)(hM:aG B ι σ a w){fn:Func}{c:Code}{K:CV->MH->PH->Prop}(h:qI C fn c σ K):c.wp C.P (ZN B C fn K) a w:=by
 refine wp_mono (D5 hspecs c σ _ ι a w hM h) ?_;intro e a' w' hq;cases e with
 |normal=>exact hq
 |ret=>exact hq
 |exit id=>obtain⟨_,_,_,h⟩:=hq;exact h.elim
 |goto l=>exact hq.elim
 |panic ch=>exact hq.elim
 |outgrown=>exact hq.elim
theorem aG.putM(hM:aG B ι σ a w){b:Nat}{ob ob':Obj}{m':MH}(hb:σ.m b=some ob)(hu:eW σ.m m' b ob'):aG B ι {σ with m:=m'} a (w.putObj b ob'):=by
 have hw:=hM.wrel;have hlt:b<w.heap.size:=(Array.getElem?_eq_some_iff.1 (hw.msat b ob hb)).1;have hoth:∀b',b'≠b->(w.putObj b ob').heap[b']? =w.heap[b']? :=λb' hne=>World.putObj_heap_other (λe=>hne e)
 have hown:∀k o,nth σ.own k=some (some o)->∀b',blk (ι k)=some b'->b'≠b:=λk o hk b' hb' e=>by
  have:=(hM.fresh k o b' hk hb').2.1;rw[e,hb]at this;cases this
 refine⟨hM.slots,hM.defers,λk o hk=>(hM.own k o hk).world (λb' hb'=>hoth b' (hown k o hk b' hb')),hM.dist,?_,?_,hM.one⟩
 .intro k o b' hk hb';obtain⟨f1,f2,f3⟩:=hM.fresh k o b' hk hb';exact⟨f1,by show m' b'=none;rw[hu.other b' (hown k o hk b' hb')];exact f2,f3⟩
 .refine⟨hw.tape,hw.os,hw.output,hw.drawn,by have:=hw.size;simpa using this,?_,?_,?_,?_,hw.hle,hw.hold,?_⟩
  .intro b' h1 h2;rw[hoth b' (λe=>?_)]
   .exact hw.frame b' h1 h2
   .subst e;rcases hw.mfr b' ob hb with h3|h3
    .omega
    .exact h2 h3
  .intro b' i v hv;have hne:b'≠b:=λe=>by rw[e,hw.disj b ob hb i]at hv;cases hv
   rw[World.cell?_of_block (w:=w) (w':=w.putObj b ob') (a:=⟨b',i,none⟩) (hoth b' hne)];exact hw.hsat b' i v hv
  .intro b' o hb';have hb':m' b'=some o:=hb';by_cases e:b'=b
   .subst e;rw[hu.at_]at hb';cases hb';exact World.putObj_heap_same hlt
   .rw[hu.other b' e]at hb';rw[hoth b' e];exact hw.msat b' o hb'
  .intro b' o hb' i;have hb':m' b'=some o:=hb';by_cases e:b'=b
   .subst e;exact hw.disj b' ob hb i
   .rw[hu.other b' e]at hb';exact hw.disj b' o hb' i
  .intro b' o hb';have hb':m' b'=some o:=hb';by_cases e:b'=b
   .subst e;exact hw.mfr b' ob hb
   .rw[hu.other b' e]at hb';exact hw.mfr b' o hb'
theorem aG.putD(hM:aG B ι σ a w){D:Nat}{ob:Obj}(ob':Obj)(hD:w.heap[D]? =some ob)(hnc:ob.isCells=false)(hlt:D<B.w0.heap.size)(hnE:¬B.E D):
 aG {B with E:=λb=>B.E b\/b=D} ι σ a (w.putObj D ob'):=by
 have hw:=hM.wrel;have hoth:∀b',b'≠D->(w.putObj D ob').heap[b']? =w.heap[b']? :=λb' hne=>World.putObj_heap_other (λe=>hne e)
 have hown:∀k o,nth σ.own k=some (some o)->∀b',blk (ι k)=some b'->b'≠D:=λk o hk b' hb' e=>by
  rcases(hM.fresh k o b' hk hb').1 with h1|h1
  .omega
  .exact hnE (e▸h1)
 refine⟨hM.slots,hM.defers,λk o hk=>(hM.own k o hk).world (λb' hb'=>hoth b' (hown k o hk b' hb')),hM.dist,?_,?_,hM.one⟩
 .intro k o b' hk hb';obtain⟨f1,f2,f3⟩:=hM.fresh k o b' hk hb';exact⟨f1.imp id .inl,f2,f3⟩
 .refine⟨hw.tape,hw.os,hw.output,hw.drawn,by have:=hw.size;simpa using this,?_,?_,?_,hw.disj,hw.hle,?_,?_⟩
  .intro b' h1 h2;rw[hoth b' (λe=>h2 (.inr e))];exact hw.frame b' h1 (λe=>h2 (.inl e))
  .intro b' i v hv;have h1:=hw.hsat b' i v hv
   have hne:b'≠D:=λe=>by
    unfold World.cell? at h1;rw[e]at h1;dsimp only at h1;rw[hD]at h1;cases ob<;>simp[Obj.isCells]at hnc h1
   rw[World.cell?_of_block (w:=w) (w':=w.putObj D ob') (a:=⟨b',i,none⟩) (hoth b' hne)];exact h1
  .intro b' o hb'
   have hne:b'≠D:=λe=>by
    rcases hw.mfr b' o hb' with h1|h1
    .omega
    .exact hnE (e▸h1)
   rw[hoth b' hne];exact hw.msat b' o hb'
  .intro b' h1 h2;exact hw.hold b' h1 (λe=>h2 (.inl e))
  .intro b' o hb';exact(hw.mfr b' o hb').imp id .inl
theorem Qp{F:Fence}{n D:Nat}(hM:aG B ι σ a w)(hd:B.dfs=[{target:=.collected D,args:= #[]}])(hD:w.heap[D]? =some (.deferred (some [])))(hlt:D<B.w0.heap.size)(hnE:¬B.E D)
 {fn:Func}{K:CV->MH->PH->Prop}(h:zA C fn K σ){R:Ending->World->Prop}
 (hR:∀u w',(∃r m' h',K r m' h'/\zU w' r u/\qS {B with E:=λb=>B.E b\/b=D} m' h' w'/\∀b,eJ r u=some b->(B.w0.heap.size<=b\/(B.E b\/b=D))/\m' b=none/\∀i,h' b i=none)->R (.returned u) w'):
 LeavesInM F n C.P fn a.tmps R a.defers .returning w:=by
 rw[hM.defers,hd];refine⟨by simp,.inl ⟨D,_,rfl,run_takeDeferred hD,?_⟩⟩;have hM2:=hM.putD (.deferred none) hD rfl hlt hnE;obtain⟨u,hu,r,m',h',hK,hok,hw,hb⟩:=Cd hM2 h;exact⟨u,hu,hR u _ ⟨r,m',h',hK,hok,hw,hb⟩⟩
theorem GF:∀(n i:Nat)(l:List (Nat×SV))(vs:List Value),vs.length=n->(∀j x v,assoc l (i+j)=some x->vs[j]? =some v->Den ι x v)->DenS ι (pF (.at .junk) l n i) vs
 |0,i,l,[],_,_=>trivial
 |0,i,l,_::_,h,_=>by simp at h
 |n+1,i,l,[],h,_=>by simp at h
 |n+1,i,l,v::vs,h,hd=>by
  refine⟨?_,GF n (i+1) l vs (by simpa using h) (λj x u hx hu=>hd (j+1) x u (by rw[<-hx];congr 1;omega) (by simpa using hu))⟩;have:=hd 0;cases e:assoc l i with
  |none=>trivial
  |some x=>exact this x v (by simpa using e) rfl
end
end Go.Vc
namespace Go.Ps
open Go Go.Vc Go.Proofs
variable{K:CV->MH->PH->Prop}{m:MH}{h:PH}{s:jR}{ps:List Int}{cb:Nat}{sc:bN}{v:QV}{q:Query}{p:Pred}{l:List Int}{i:Nat}{N:Nat}{m':MH}{h':PH}{co:List Int}{gr:List Int}{on:List (Int×Int)}{od:List (Int×Bool)}{w:Pred}{ta:Int}{li:Int}{xs:List (List Value)}{sz:Nat}{k:Nat}{ks:List (List Int)}{rs:List Int}{r:Sl}{a:List Int}{b:Nat}
def sM(b:Nat):SV:=.at (.val (.pointer (some ⟨b,0,none⟩)))
def Fj:Code->Code
 |.seq x _=>x
 |c=>c
noncomputable def cY:Ctx:=dL [] [] [] [] false
noncomputable def tZ(sc:bN)(p:Sl)(v:QV)(m:MH)(h:PH):Ctx:=
 dL [(66,zO),(111,Mk)] [(5,{A:=Nat,st:=λi=>cM 53 56 [(1,sv p),(3,.at (.ptr 3 0)),(5,.at (.ptr 5 0)),(6,.at (.ptr 6 0)),(7,.at (.ptr 7 0)),(18,sv p),(19,iv p.len),(20,iv i)] [(3,.cells 29 (sc.enc.map .val)),(5,.cells 68 (v.enc.map .val)),(6,.cells 31 [.val (.slice none 0 0)]),(7,.cells 47 [.val (.int .i64 0)])] m h})] [] [] false
def z8(sc:bN)(p:Sl)(v:QV)(b:Nat)(m:MH)(h:PH):St:=
 cM 53 56 [(1,sv p),(3,.at (.ptr 3 0)),(5,.at (.ptr 5 0)),(6,.at (.ptr 6 0)),(7,.at (.ptr 7 0)),(11,.at (.ptr 11 0)),(36,vv (.func (.func 147) #[] #[.pointer (some ⟨b,0,none⟩)]))] [(3,.cells 29 (sc.enc.map .val)),(5,.cells 68 (v.enc.map .val)),(6,.cells 31 [.val (.slice none 0 0)]),(7,.cells 47 [.val (.int .i64 0)]),(11,.cells 3 [.val (.int .i64 0)])] m h
def pH(sc:bN)(p:Sl)(v:QV)(e:Int)(m:MH)(h:PH):St:=
 cM 53 56 [(1,sv p),(3,.at (.ptr 3 0)),(5,.at (.ptr 5 0)),(6,.at (.ptr 6 0)),(7,.at (.ptr 7 0))] [(3,.cells 29 (sc.enc.map .val)),(5,.cells 68 (v.enc.map .val)),(6,.cells 31 [.val (.slice none 0 0)]),(7,.cells 47 [.val (.int .i64 e)])] m h
end Go.Ps
namespace Go.Vc
open Go.Ps Go.Proofs
noncomputable def SU(sc:bN)(p:Sl)(v:QV)(m:MH)(h:PH)(G:Prop):St->Prop:=λτ=>G/\∃b m',bY m h b/\eW m m' b (.cells ⟨v.enc⟩ 68 (0,0))/\rT τ (z8 sc p v b m' h) True
noncomputable def Pm(sc:bN)(p:Sl)(v:QV)(m:MH)(h:PH)(G:Prop):St->Prop:=λτ=>VC (tZ sc p v m h) (Hd 1 (Fj (wY 4 (bU Tryz.f68)))) τ (thenS (SU sc p v m h G) (λ_ _=>False))
noncomputable def La(sc:bN)(p:Sl)(v:QV)(m:MH)(h:PH)(K:CV->MH->PH->Prop):uM->St->Prop:=λe τ=>match e with|.ret=>zA (tZ sc p v m h) Tryz.f68 K τ|_=>False
end Go.Vc
namespace Go.Ps
open Go Go.Vc Go.Proofs
variable{K:CV->MH->PH->Prop}{m:MH}{h:PH}{s:jR}{ps:List Int}{cb:Nat}{sc:bN}{v:QV}{q:Query}{p:Pred}{l:List Int}{i:Nat}{N:Nat}{m':MH}{h':PH}{co:List Int}{gr:List Int}{on:List (Int×Int)}{od:List (Int×Bool)}{w:Pred}{ta:Int}{li:Int}{xs:List (List Value)}{sz:Nat}{k:Nat}{ks:List (List Int)}{rs:List Int}{r:Sl}{a:List Int}{b:Nat}
def XL(level:Int)(bn b6 b7:Nat)(m:MH)(h:PH):Prop:=
  aA (lC b6) (lC b7) (aA (lC bn) (aW level) (bZ m m h h))
theorem Z7(level:Int)(bn b6 b7:Nat)(m:MH)(h:PH):XL level bn b6 b7 m h=(VC cY Zs (cM 53 53 [(37,iv level),(11,sM bn),(6,sM b6),(7,sM b7)] [] m h) (λe τ=>match e with|.normal=>rT τ (cM 53 53 [(12,iv level),(11,sM bn),(6,sM b6),(7,sM b7)] [] m h) True|_=>False)):=by kernel_rfl
def Ng(level:Int)(bn b6 b7:Nat)(m:MH)(h:PH)(N T:MH->PH->Prop):Prop:=
  tL m h bn 0 (λy=>iE (λc E=>aA (wS m bn (fN c E 0)) (0<c.size) (∀(m1:MH),bG m m1 bn (gN (cJ (qO (y+1))) 1 c) E->tL m1 h bn 0 (λy1=>sT y1 24 (iE (λc1 E1=>aA (wS m1 b6 (fN c1 E1 0)) (0<c1.size) (∀(m2:MH),bG m1 m2 b6 (gN nV 1 c1) E1->iE (λc2 E2=>aA (wS m2 b7 (fN c2 E2 0)) (0<c2.size) (∀(m3:MH),bG m2 m3 b7 (gN (cJ 2) 1 c2) E2->T m3 h))))) (sT level 8 (iE (λc1 E1=>aA (wS m1 b6 (fN c1 E1 0)) (0<c1.size) (∀(m2:MH),bG m1 m2 b6 (gN nV 1 c1) E1->iE (λc2 E2=>aA (wS m2 b7 (fN c2 E2 0)) (0<c2.size) (∀(m3:MH),bG m2 m3 b7 (gN (cJ 2) 1 c2) E2->T m3 h))))) (N m1 h))))))
theorem Z5(level:Int)(bn b6 b7:Nat)(m:MH)(h:PH)(N T:MH->PH->Prop):Ng level bn b6 b7 m h N T=(VC cY Zr (cM 53 53 [(12,iv level),(11,sM bn),(6,sM b6),(7,sM b7)] [] m h) (λe τ=>match e with|.normal=>N τ.m τ.h|.ret=>T τ.m τ.h|_=>False)):=by kernel_rfl
abbrev Ct:Prop:=eQ (oQ 31 (Be WR))
abbrev Av(a:Nat):Prop:=eQ (oQ a (Be (iQ 0)))
attribute [push_cast] Ct Av
def Ga(sc:bN)(p:Sl)(v:QV)(m:MH)(h:PH)(G:Prop)(K:CV->MH->PH->Prop):Prop:=
  kB (λv1 s=>aA (eV (bJ sc) (bJ v1)) (dV h s v1) (branch (cZ s !=0) (K (wH (cZ s)) m h) (rB (λI x=>aA (I x) (aL p) (aA dT dJ (aA (eP 6) (eP 7) (aA (aL p) (aX p) (aA (bI x) (bO sc) (aA (pK v) Ct (bT (Av 47) m m h h))))))) (λI m1 x=>I x->bE (↑x:Int) (aH p) (bK (λb o=>aA (bL p.a b o) (0<=(↑x:Int)) ((↑x:Int)<aH p/\∃(y:Int),aI m h b (o+aZ x 1) (bR y)/\nG y 3 (nG y 4 (branch (y !=5) (K (wH 1) m h) (∃(x1:Nat),aA (I x1) (m1 x1<m1 x) (aA (aL p) dT (aA dJ (eP 6) (aA (eP 7) (aL p) (aA (aX p) (bD (gI (bC x 1)) x1) (aA (bO sc) (pK v) (aA Ct (Av 47) (aA (m=m) (h=h) True))))))))) (∃(x1:Nat),aA (I x1) (m1 x1<m1 x) (aA (aL p) dT (aA dJ (eP 6)
 (aA (eP 7) (aL p) (aA (aX p) (bD (gI (bC x 1)) x1) (aA (bO sc) (pK v) (aA Ct (Av 47) (aA (m=m) (h=h) True))))))))) (∃(x1:Nat),aA (I x1) (m1 x1<m1 x) (aA (aL p) dT (aA dJ (eP 6) (aA (eP 7) (aL p) (aA (aX p) (bD (gI (bC x 1)) x1) (aA (bO sc) (pK v) (aA Ct (Av 47) (aA (m=m) (h=h) True))))))))))) (∃(v2:QV),eV (cW v) (cW v2)/\gA (λb m2=>bY m h b->bG m m2 b v2.enc 68->G/\∃(b1:Nat)(m3:MH),aA (bY m h b1) (bG m m3 b1 v.enc 68) (aA (aL p) dT (aA dJ (eP 6) (aA (eP 7) (eP 11) (aA (BA (Fn.func 147) (lY b)=BA (Fn.func 147) (lY b1)) (bO sc) (aA (pK v) Ct (aA (Av 47) (Av 3) (aA (m2=m3) (h=h) True)))))))))))))
theorem X1(sc:bN)(p:Sl)(v:QV)(m:MH)(h:PH)(G:Prop)(K:CV->MH->PH->Prop):Ga sc p v m h G K=(VC (tZ sc p v m h) (Hd 4 (bU Tryz.f68)) (entry 53 [aS sc,cS p,aQ v] m h) (thenS (Pm sc p v m h G) (La sc p v m h K))):=by kernel_rfl
def K7(N:Nat)(sc:bN)(p:Sl)(v:QV)(m:MH)(h:PH)(K:CV->MH->PH->Prop):Prop:=
  EX (λs p1 v1 s1 p2 q=>aA (bJ sc::aK (dG p) (cW v)=bJ s::aK (dG p1) (cW v1)) (dV h s1 s) (aA (uP s1) (Ints h p1 p2) (aA (fF h q v1) (uU q N) (gT (λs2 h1=>dZ h h1 (Ints h1 s2 (cR s1 p2 q).1) (K (CV.tup (aK (dG s2) (CV.val (cJ (cR s1 p2 q).2)))) m h1))))))
theorem XZ(N:Nat)(sc:bN)(p:Sl)(v:QV)(m:MH)(h:PH)(K:CV->MH->PH->Prop):K7 N sc p v m h K=(qI (dL [(112,Di N)] [] [] [] false) Tryz.f68 (wY 5 (bU Tryz.f68)) (pH sc p v 0 m h) K):=by kernel_rfl
def K8(sc:bN)(p:Sl)(v:QV)(m:MH)(h:PH)(K:CV->MH->PH->Prop):Prop:=
  K (wH 2) m h
theorem X0(sc:bN)(p:Sl)(v:QV)(m:MH)(h:PH)(K:CV->MH->PH->Prop):K8 sc p v m h K=(zA cY Tryz.f68 K (pH sc p v 2 m h)):=by kernel_rfl
theorem TC:wY 1 (Fj (wY 4 (bU Tryz.f68)))= .block 2 (.rangeFunc (.tmp 36) #[37,38] Zs Zr):=by kernel_rfl
theorem Ve:wY 4 (bU Tryz.f68)= .seq (Fj (wY 4 (bU Tryz.f68))) (wY 5 (bU Tryz.f68)):=by kernel_rfl
theorem Tw:hU cY Zs=true:=by kernel_rfl
theorem Tv:hU cY Zr=true:=by kernel_rfl
theorem Z6{level:Int}{l:Nat}{R:LR}{n:Int}{m1:MH}{N T:MH->PH->Prop}(hL:tB m l R n)(h0:0<=n)(h1:n<=24){ob:Obj}(hu1:eW m m1 l ob)
 (hN:∀m',¬(24<n+1\/8<level)->eW m1 m' R.bn (nM (n+1))->N m' h)
 (hT:∀m',(24<n+1\/8<level)->m' l=some ob->m' R.b6=some Dv->m' R.b7=some (BY 2)->(∃x,m' R.bn=some x)->(∀b,b≠l->b≠R.bn->b≠R.b6->b≠R.b7->m' b=m b)->T m' h):Ng level R.bn R.b6 R.b7 m1 h N T:=by
 dsimp only[Ng,push_cast];obtain⟨n1,n2,n3,n4,n5,n6⟩:=hL.ne;have hbn:m1 R.bn=some (nM n):=by rw[hu1.other _ (λe=>n1 e.symm)];exact hL.n_
 have hw:IntKind.i64.wrap (n+1)=n+1:=gD aC aC;refine⟨n,.of_m hbn rfl,_,_,⟨hbn⟩,by simp,λm2 hu2=>?_⟩;rw[hw]at hu2;have hu2:eW m1 m2 R.bn (nM (n+1)):=hu2;have h6:m2 R.b6=some Dv:=by rw[hu2.other _ n4,hu1.other _ (λe=>n2 e.symm)];exact hL.k_
 have h7:m2 R.b7=some (BY 0):=by rw[hu2.other _ n5,hu1.other _ (λe=>n3 e.symm)];exact hL.e_
 have stop:(24<n+1\/8<level)->∃(cs:Array Value)(E:TypeId),wS m2 R.b6 (.cells cs E (0,0))/\0<cs.size/\∀m',eW m2 m' R.b6 (.cells ⟨Value.slice none 0 0::cs.toList.drop 1⟩ E (0,0))->∃(cs:Array Value)(E:TypeId),wS m' R.b7 (.cells cs E (0,0))/\0<cs.size/\∀m'',eW m' m'' R.b7 (.cells ⟨Value.int .i64 2::cs.toList.drop 1⟩ E (0,0))->T m'' h:=by
  intro hc;refine⟨_,_,⟨h6⟩,by simp,λm3 hu3=>?_⟩;have hu3:eW m2 m3 R.b6 Dv:=hu3;have h7':m3 R.b7=some (BY 0):=by rw[hu3.other _ (λe=>n6 e.symm)];exact h7
  refine⟨_,_,⟨h7'⟩,by simp,λm4 hu4=>?_⟩;have hu4:eW m3 m4 R.b7 (BY 2):=hu4;refine hT m4 hc ?_ ?_ hu4.at_ ⟨nM (n+1),?_⟩ (λb b1 b2 b3 b4=>?_)
  .rw[hu4.other _ n3,hu3.other _ n2,hu2.other _ n1];exact hu1.at_
  .rw[hu4.other _ n6];exact hu3.at_
  .rw[hu4.other _ (λe=>n5 e.symm),hu3.other _ (λe=>n4 e.symm)];exact hu2.at_
  .rw[hu4.other _ b4,hu3.other _ b3,hu2.other _ b2,hu1.other _ b1]
 refine⟨n+1,.of_m hu2.at_ rfl,aE (λhc=>stop aC) (λhc=>aE (λhc2=>stop aC) (λhc2=>hN m2 aC hu2))⟩
end Go.Ps
namespace Go.Vc
open Go.Ps Go.Proofs
theorem qS.framed{w:World}{m:MH}{h:PH}{m':MH}{h':PH}{w':World}{ds:List Deferred}(hw:qS ⟨w,λb=>m b≠none,h,ds⟩ m' h' w'):J9 w m h m' h' w':=
 ⟨hw.tape,hw.os,hw.output,hw.drawn,hw.size,λb hb hn=>hw.frame b hb (λe=>e hn),⟨hw.hsat,hw.msat,hw.disj⟩,⟨hw.hle⟩,λb hb hn=>hw.hold b hb (λe=>e hn),λb o hb=>hw.mfr b o hb⟩
end Go.Vc
namespace Go.Ps
open Go Go.Vc Go.Proofs
variable{K:CV->MH->PH->Prop}{m:MH}{h:PH}{s:jR}{ps:List Int}{cb:Nat}{sc:bN}{v:QV}{q:Query}{p:Pred}{l:List Int}{i:Nat}{N:Nat}{m':MH}{h':PH}{co:List Int}{gr:List Int}{on:List (Int×Int)}{od:List (Int×Bool)}{w:Pred}{ta:Int}{li:Int}{xs:List (List Value)}{sz:Nat}{k:Nat}{ks:List (List Int)}{rs:List Int}{r:Sl}{a:List Int}{b:Nat}
theorem U6:GM Tryz.prog YS:=by
 refine⟨λl vs m h w K hS hH=>?_⟩;obtain⟨l',level,v,R,n,he,hL,h0,h1,hf,ht⟩:=hS
 obtain⟨rfl,rfl⟩:l'=l/\vs=[.int .i64 level,.agg ⟨v.enc⟩]:=by
  simp only[yv,cI,aQ,List.cons.injEq,CV.val.injEq,Value.func.injEq,Fn.yield.injEq,and_true]at he;refine⟨he.1.symm,?_⟩;have:=he.2
  match vs,this with
  |[a,b],h=>simp at h;simp[h.1,h.2]
  |[],h=>simp at h
  |[_],h=>simp at h
  |_::_::_::_,h=>simp at h
 have hl:=hH.msat l' _ hL.loop;have hrun:=run_yield (P:=Tryz.prog) (args:= #[.int .i64 level,.agg ⟨v.enc⟩]) hl rfl;refine⟨_,_,_,_,hrun,roundIn_of_wpIn trivial ?_⟩;obtain⟨ts,hts⟩:∃ts,((lL R .ready none).params.zip #[Value.int .i64 level,.agg ⟨v.enc⟩]).foldl (λtmps(t,a)=>tmps.setIfInBounds t a) (lL R .ready none).tmps=ts:=⟨_,rfl⟩
 rw[hts];have hts2:ts=(R.tmps.setIfInBounds 37 (.int .i64 level)).setIfInBounds 38 (.agg ⟨v.enc⟩):=by rw[<-hts];simp[lL]
 have hsz:ts.size=53:=by rw[hts2];simp[hL.size]
 have get:∀j,j≠37->j≠38->ts[j]? =R.tmps[j]? :=λj h1 h2=>by
  rw[hts2,Array.getElem?_setIfInBounds_ne aC,Array.getElem?_setIfInBounds_ne aC]
 have get37:ts[37]? =some (.int .i64 level):=by
  rw[hts2,Array.getElem?_setIfInBounds_ne aC,Array.getElem?_setIfInBounds_self_of_lt (by rw[hL.size];omega)]
 have hM:aG ⟨w,λb=>m b≠none,h,[]⟩ (λ_=>.slice none 0 0) (cM 53 53 [(37,iv level),(11,sM R.bn),(6,sM R.b6),(7,sM R.b7)] [] m h) {tmps:=ts,defers:=[]} w:=by
  refine⟨?_,rfl,?_,?_,?_,?_,λ_=>rfl⟩
  .show DenS _ (pF (.at .junk) [(37,iv level),(11,sM R.bn),(6,sM R.b6),(7,sM R.b7)] 53 0) ts.toList;refine GF 53 0 _ _ (by rw[Array.length_toList];exact hsz) (λj x u hx hu=>?_);rw[Array.getElem?_toList]at hu;simp only[assoc,Nat.zero_add]at hx;split at hx
   .rename_i e;have:=Nat.eq_of_beq_eq_true e;subst this;rw[get37]at hu;simp at hx hu;subst hx hu;rfl
   .split at hx
    .rename_i e;have:=Nat.eq_of_beq_eq_true e;subst this;rw[get 11 aC aC,hL.t11]at hu;simp at hx hu;subst hx hu;rfl
    .split at hx
     .rename_i e;have:=Nat.eq_of_beq_eq_true e;subst this;rw[get 6 aC aC,hL.t6]at hu;simp at hx hu;subst hx hu;rfl
     .split at hx
      .rename_i e;have:=Nat.eq_of_beq_eq_true e;subst this;rw[get 7 aC aC,hL.t7]at hu;simp at hx hu;subst hx hu;rfl
      .cases hx
  .intro k o hk;rw[fV]at hk;have:(cM 53 53 [(37,iv level),(11,sM R.bn),(6,sM R.b6),(7,sM R.b7)] [] m h).own=List.replicate 53 none:=by rfl
   rw[this,List.getElem?_replicate]at hk;split at hk<;>cases hk
  .intro k k' o o' b hk;rw[fV]at hk;have:(cM 53 53 [(37,iv level),(11,sM R.bn),(6,sM R.b6),(7,sM R.b7)] [] m h).own=List.replicate 53 none:=by rfl
   rw[this,List.getElem?_replicate]at hk;split at hk<;>cases hk
  .intro k o b hk;rw[fV]at hk;have:(cM 53 53 [(37,iv level),(11,sM R.bn),(6,sM R.b6),(7,sM R.b7)] [] m h).own=List.replicate 53 none:=by rfl
   rw[this,List.getElem?_replicate]at hk;split at hk<;>cases hk
  .exact⟨rfl,rfl,rfl,Nat.le_refl _,Nat.le_refl _,λ_ _ _=>rfl,hH.hsat,hH.msat,hH.disj,λ_ _ _ e=>e,λ_ _ _=>rfl,λb o hb=>.inr (by show m b≠none;rw[show m b=some o from hb];simp)⟩
 have hA:=Kv (C:=cY) l' aF Zs Tw _ _ _ _ _ hM (by
  rw[<-Z7 level R.bn R.b6 R.b7 m h];exact MT)
 refine wpIn_mono hA ?_;intro e a1 w1 hq;cases e with
 |normal=>
  obtain⟨ι1,τ,hM1,hmt⟩:=hq;obtain⟨ι2,hM2,_⟩:=iJ hM1 hmt;have hl1:w1.heap[l']? =some (.loop (lL R .ready none)):=hM2.wrel.msat l' _ hL.loop;refine⟨_,run_beginRound hl1 rfl,?_⟩;obtain⟨m1,hu1⟩:∃m1,eW m m1 l' (.loop {lL R .ready none with state:=.busy}):=⟨λb=>if b=l' then some (.loop {lL R .ready none with state:=.busy})else m b,by simp,λb hb=>by simp[hb]⟩
  have hM3:aG ⟨w,λb=>m b≠none,h,[]⟩ ι2 (cM 53 53 [(12,iv level),(11,sM R.bn),(6,sM R.b6),(7,sM R.b7)] [] m1 h) a1 _:=hM2.putM (m':=m1) hL.loop hu1
  have hB:=Kv (C:=cY) l' aF Zr Tv _ (λe τ=>match e with
   |.normal=>(∃m',τ.m=m'/\τ.h=h/\¬(24<n+1\/8<level)/\eW m1 m' R.bn (nM (n+1)))
   |.ret=>(∃m',τ.m=m'/\τ.h=h/\(24<n+1\/8<level)/\m' l'=some (.loop {lL R .ready none with state:=.busy})/\m' R.b6=some Dv/\m' R.b7=some (BY 2)/\(∃x,m' R.bn=some x)/\(∀b,b≠l'->b≠R.bn->b≠R.b6->b≠R.b7->m' b=m b))
   |_=>False) _ _ _ hM3 (by
   rw[<-Z5 level R.bn R.b6 R.b7 m1 h (λm2 h2=>∃m',m2=m'/\h2=h/\¬(24<n+1\/8<level)/\eW m1 m' R.bn (nM (n+1))) (λm2 h2=>∃m',m2=m'/\h2=h/\(24<n+1\/8<level)/\m' l'=some (.loop {lL R .ready none with state:=.busy})/\m' R.b6=some Dv/\m' R.b7=some (BY 2)/\(∃x,m' R.bn=some x)/\(∀b,b≠l'->b≠R.bn->b≠R.b6->b≠R.b7->m' b=m b))];exact Z6 hL h0 h1 hu1 (λm' hc hu=>⟨m',rfl,rfl,hc,hu⟩) (λm' hc k1 k2 k3 k4 k5=>⟨m',rfl,rfl,hc,k1,k2,k3,k4,k5⟩))
  refine wpIn_mono hB ?_;obtain⟨n1,n2,n3,n4,n5,n6⟩:=hL.ne;intro e a2 w2 hq2;cases e with
  |normal=>
   obtain⟨ι3,τ3,hM4,m',hm',hh',hc,hu⟩:=hq2;have hlm:τ3.m l'=some (.loop {lL R .ready none with state:=.busy}):=by rw[hm',hu.other _ n1];exact hu1.at_
   have hl2:=hM4.wrel.msat l' _ hlm;obtain⟨m4,hu4⟩:∃m4,eW τ3.m m4 l' (.loop (lL R .ready none)):=⟨λb=>if b=l' then some (.loop (lL R .ready none))else τ3.m b,by simp,λb hb=>by simp[hb]⟩
   have hM5:=hM4.putM hlm hu4;refine⟨_,_,run_endRound none hl2,_,m4,h,rfl,ht m4 hc ⟨?_,λb hb=>?_⟩,?_⟩
   .rw[hu4.other _ (λe=>n1 e.symm),hm'];exact hu.at_
   .by_cases e:b=l'
    .subst e;rw[hu4.at_];exact hL.loop.symm
    .rw[hu4.other _ e,hm',hu.other _ hb,hu1.other _ e]
   .have:=hM5.wrel;rw[hh']at this;exact this.framed
  |ret=>
   obtain⟨ι3,τ3,hM4,m',hm',hh',hc,k1,k2,k3,k4,k5⟩:=hq2;have hlm:τ3.m l'=some (.loop {lL R .ready none with state:=.busy}):=by rw[hm'];exact k1
   have hl2:=hM4.wrel.msat l' _ hlm;obtain⟨m4,hu4⟩:∃m4,eW τ3.m m4 l' (.loop (lL R .done (some .ret))):=⟨λb=>if b=l' then some (.loop (lL R .done (some .ret)))else τ3.m b,by simp,λb hb=>by simp[hb]⟩
   have hM5:=hM4.putM hlm hu4;refine⟨_,_,run_endRound (some .ret) hl2,_,m4,h,rfl,hf m4 hc ⟨hu4.at_,?_,?_,?_,λb b1 b2 b3 b4=>?_⟩,?_⟩
   .rw[hu4.other _ (λe=>n2 e.symm),hm'];exact k2
   .rw[hu4.other _ (λe=>n3 e.symm),hm'];exact k3
   .rw[hu4.other _ (λe=>n1 e.symm),hm'];exact k4
   .rw[hu4.other _ b1,hm'];exact k5 b b1 b2 b3 b4
   .have:=hM5.wrel;rw[hh']at this;exact this.framed
  |exit id=>obtain⟨_,_,_,h⟩:=hq2;exact h.elim
  |goto t=>exact hq2.elim
  |panic ch=>exact hq2.elim
  |outgrown=>exact hq2.elim
 |ret=>obtain⟨_,_,_,h⟩:=hq;exact h.elim
 |exit id=>obtain⟨_,_,_,h⟩:=hq;exact h.elim
 |goto t=>exact hq.elim
 |panic ch=>exact hq.elim
 |outgrown=>exact hq.elim
theorem X2{p:Sl}{G:Prop}(hs:dV h s sc)(hp:Ints h p ps)(hK:KR K m h (fC s ps q))(hG:cZ s=0->ps.all cA=true->G):Ga sc p v m h G K:=by
 dsimp only[Ga,push_cast];have hl:=hp.slen;have hlen:=hp.len;unfold fC at hK;refine⟨sc,s,rfl,hs,aB (λh1=>hK.err (.refl _) (if_neg (by simpa using h1))) (λh1=>?_)⟩;have h1:cZ s=0:=by simpa using h1
 rw[if_pos h1]at hK;refine⟨λi=>i<=ps.length/\(ps.take i).all cA=true,λi=>ps.length-i,⟨0,⟨aC,by simp⟩,MT⟩,λi⟨hi,hall⟩=>aE (λhlt=>?_) (λhge=>⟨v,rfl,λb m' hb hu=>⟨hG h1 ?_,b,m',hb,hu,MT⟩⟩)⟩
 .obtain⟨x,hx⟩:=fS hl hlt;obtain⟨b,o,e,r⟩:=hp.at' hx;refine⟨b,o,e,aC,hlt,x,.imm r,?_⟩;have good:cA x=true->(ps.take (i+1)).all cA=true:=λhc=>by rw[FC hx,hall,hc];rfl
  refine aB (λc1=>aB (λc2=>aB (λc3=>hK.err (.refl _) (if_neg λe=>?_)) (λc3=>⟨i+1,⟨aC,good ?_⟩,by show ps.length-(i+1)<ps.length-i;omega,MT⟩)) (λc2=>⟨i+1,⟨aC,good ?_⟩,by show ps.length-(i+1)<ps.length-i;omega,MT⟩)) (λc1=>⟨i+1,⟨aC,good ?_⟩,by show ps.length-(i+1)<ps.length-i;omega,MT⟩)
  .have:cA x=false:=by simp_all [cA]
   rw[FD hx this]at e;cases e
  .simp_all [cA]
  .simp_all [cA]
  .simp_all [cA]
 .rw[List.take_of_length_le aC]at hall;exact hall
theorem OC{α:Type}(d:α)(l:List (Nat×α)):∀(n i k:Nat),nth (pF d l n i) k=if k<n then some (match assoc l (i+k)with|some x=>x|none=>d)else none
 |0,i,k=>by simp[pF,nth]
 |n+1,i,0=>by rw[if_pos aC];rfl
 |n+1,i,k+1=>by
  simp only[pF,nth];rw[OC d l n (i+1) k,show i+1+k=i+(k+1)by omega];by_cases h:k<n
  .rw[if_pos h,if_pos aC]
  .rw[if_neg h,if_neg aC]
theorem DZ{p:Sl}{e:Int}{o:Vc.Own}(hk:nth (pH sc p v e m h).own k=some (some o)):
 (k=3/\o= .cells 29 (sc.enc.map .val))\/(k=5/\o= .cells 68 (v.enc.map .val))\/(k=6/\o= .cells 31 [.val (.slice none 0 0)])\/(k=7/\o= .cells 47 [.val (.int .i64 e)]):=by
 have:(pH sc p v e m h).own=pF none [(3,some (.cells 29 (sc.enc.map .val))),(5,some (.cells 68 (v.enc.map .val))),(6,some (.cells 31 [.val (.slice none 0 0)])),(7,some (.cells 47 [.val (.int .i64 e)]))] 56 0:=rfl;rw[this,OC]at hk;split at hk
 .simp only[Nat.zero_add,Option.some.injEq]at hk;split at hk
  .rename_i x hx;subst hk;simp only[assoc]at hx;split at hx
   .rename_i e;have:=Nat.eq_of_beq_eq_true e;simp at hx;exact .inl ⟨this.symm,hx.symm⟩
   .split at hx
    .rename_i e;have:=Nat.eq_of_beq_eq_true e;simp at hx;exact .inr (.inl ⟨this.symm,hx.symm⟩)
    .split at hx
     .rename_i e;have:=Nat.eq_of_beq_eq_true e;simp at hx;exact .inr (.inr (.inl ⟨this.symm,hx.symm⟩))
     .split at hx
      .rename_i e;have:=Nat.eq_of_beq_eq_true e;simp at hx;exact .inr (.inr (.inr ⟨this.symm,hx.symm⟩))
      .cases hx
  .cases hk
 .cases hk
def mark(D:Nat):Deferred:={target:=.collected D,args:= #[]}
theorem Bq{B:mH}{ι:Nat->Value}{σ:St}{a:Act}{w:World}(hM:aG B ι σ a w){T:Nat}{l:List Value}(hk:nth σ.own k=some (some (.cells T (l.map .val)))):∃b,ι k= .pointer (some ⟨b,0,none⟩)/\w.heap[b]? =some (.cells ⟨l⟩ T (0,0)):=by
 obtain⟨b,vs,h1,h2,h3⟩:=qN hM hk;rw[fH.vals]at h3;refine⟨b,h1,?_⟩;rw[h2, <-h3]
theorem Ip{B:mH}{ι:Nat->Value}{σ:St}{a:Act}{w:World}(hM:aG B ι σ a w){t:Nat}(ht:σ.sl[t]? =some (.at (.ptr k 0)))(hb:ι k= .pointer (some ⟨b,0,none⟩)):a.tmps[t]? =some (.pointer (some ⟨b,0,none⟩)):=by
 obtain⟨v,hv,b',h1,h2⟩:=hM.slots.get t _ ht;rw[hb]at h1;simp only[Value.pointer.injEq,Option.some.injEq,Addr.mk.injEq,and_true]at h1;rw[<-h1]at h2;rw[<-Array.getElem?_toList,hv,h2]
theorem Vl{B:mH}{ι:Nat->Value}{a:Act}{w:World}{p:Sl}{bq:Nat}(hM:aG B ι (z8 sc p v bq m' h) a w)(hdf:B.dfs=[])(hun:bY m h bq)(hup:eW m m' bq (.cells ⟨v.enc⟩ 68 (0,0)))(hq:fF h q v){Q:Exit->Act->World->Prop}
 (hgo:∀(e:Int)(D:Nat)(E:Nat->Prop)(a':Act)(w':World),aG ⟨w',E,h,[mark D]⟩ ι (pH sc p v e m h) a' w'->qS B m h w'->(∀b,E b->B.w0.heap.size<=b\/B.E b)->B.w0.heap.size<=D->w'.heap[D]? =some (.deferred (some []))->¬E D->
  ((pZ q 8 0).1=true->e=0->Q .normal a' w')/\((pZ q 8 0).1=false->e=2->Q .ret a' w')):
 (Code.rangeFunc (.tmp 36) #[37,38] Zs Zr).wp Tryz.prog Q a w:=by
 have hw:=hM.wrel;obtain⟨b3,hι3,hh3⟩:=Bq hM (k:=3) (T:=29) (l:=sc.enc) rfl;obtain⟨b5,hι5,hh5⟩:=Bq hM (k:=5) (T:=68) (l:=v.enc) rfl;obtain⟨b6,hι6,hh6⟩:=Bq hM (k:=6) (T:=31) (l:=[.slice none 0 0]) rfl;obtain⟨b7,hι7,hh7⟩:=Bq hM (k:=7) (T:=47) (l:=[.int .i64 0]) rfl;obtain⟨bn,hιn,hhn⟩:=Bq hM (k:=11) (T:=3) (l:=[.int .i64 0]) rfl;have t11:=Ip hM (t:=11) (k:=11) rfl hιn;have t6:=Ip hM (t:=6) (k:=6) rfl hι6;have t7:=Ip hM (t:=7) (k:=7) rfl hι7;have hsz:a.tmps.size=53:=by have:=hM.slots.length;rw[Array.length_toList]at this;rw[<-this];rfl
 have hev:a.eval (.tmp 36)= .func (.func 147) #[] #[.pointer (some ⟨bq,0,none⟩)]:=hM.ev (.tmp 36);have hbq:w.heap[bq]? =some (.cells ⟨v.enc⟩ 68 (0,0)):=hw.msat bq _ hup.at_;have lt3:=(Array.getElem?_eq_some_iff.1 hh3).1;have lt5:=(Array.getElem?_eq_some_iff.1 hh5).1;have lt6:=(Array.getElem?_eq_some_iff.1 hh6).1;have lt7:=(Array.getElem?_eq_some_iff.1 hh7).1;have ltn:=(Array.getElem?_eq_some_iff.1 hhn).1;have ltq:=(Array.getElem?_eq_some_iff.1 hbq).1;have f9003:=hM.fresh 3 _ b3 rfl (by rw[hι3];rfl);have f9005:=hM.fresh 5 _ b5 rfl (by rw[hι5];rfl);have f9006:=hM.fresh 6 _ b6 rfl (by rw[hι6];rfl);have f7:=hM.fresh 7 _ b7 rfl (by rw[hι7];rfl);have fn_:=hM.fresh 11 _ bn rfl (by rw[hιn];rfl);have d36:b3≠b6:=λe=>by have:=hM.dist 3 6 _ _ b3 rfl rfl (by rw[hι3];rfl) (by rw[hι6,e];rfl);omega
 have d37:b3≠b7:=λe=>by have:=hM.dist 3 7 _ _ b3 rfl rfl (by rw[hι3];rfl) (by rw[hι7,e];rfl);omega
 have d3n:b3≠bn:=λe=>by have:=hM.dist 3 11 _ _ b3 rfl rfl (by rw[hι3];rfl) (by rw[hιn,e];rfl);omega
 have d56:b5≠b6:=λe=>by have:=hM.dist 5 6 _ _ b5 rfl rfl (by rw[hι5];rfl) (by rw[hι6,e];rfl);omega
 have d57:b5≠b7:=λe=>by have:=hM.dist 5 7 _ _ b5 rfl rfl (by rw[hι5];rfl) (by rw[hι7,e];rfl);omega
 have d5n:b5≠bn:=λe=>by have:=hM.dist 5 11 _ _ b5 rfl rfl (by rw[hι5];rfl) (by rw[hιn,e];rfl);omega
 have d67:b6≠b7:=λe=>by have:=hM.dist 6 7 _ _ b6 rfl rfl (by rw[hι6];rfl) (by rw[hι7,e];rfl);omega
 have d6n:b6≠bn:=λe=>by have:=hM.dist 6 11 _ _ b6 rfl rfl (by rw[hι6];rfl) (by rw[hιn,e];rfl);omega
 have d7n:b7≠bn:=λe=>by have:=hM.dist 7 11 _ _ b7 rfl rfl (by rw[hι7];rfl) (by rw[hιn,e];rfl);omega
 have neq:∀b,m' b=none->b≠bq:=λb hb e=>by rw[e,hup.at_]at hb;cases hb
 have q3:=neq b3 f9003.2.1;have q5:=neq b5 f9005.2.1;have q6:=neq b6 f9006.2.1;have q7:=neq b7 f7.2.1;have qn:=neq bn fn_.2.1;refine(wpIn_wide (n:=0)).1 (wpIn_rangeFunc ?_);intro fn hfn;obtain⟨l,hl⟩:∃l,l=w.heap.size+1:=⟨_,rfl⟩
 obtain⟨D,hD⟩:∃D,D=w.heap.size:=⟨_,rfl⟩
 let R:LR:=⟨fn,a.tmps,bn,b6,b7,D⟩
 obtain⟨W1,hW1⟩:∃W1,(w.alloc (.deferred (some []))).alloc (.loop (lL R .ready none))=W1:=⟨_,rfl⟩
 have s1:W1.heap.size=w.heap.size+2:=by rw[<-hW1];simp
 have old:∀b,b<w.heap.size->W1.heap[b]? =w.heap[b]? :=λb hb=>by
  rw[<-hW1,dQ _ _ (by simp;omega),dQ _ _ hb]
 have newD:W1.heap[D]? =some (.deferred (some [])):=by
  rw[<-hW1,hD,dQ _ _ (by simp)];exact gU w _
 have newl:W1.heap[l]? =some (.loop (lL R .ready none)):=by
  rw[<-hW1,hl];have:=gU (w.alloc (.deferred (some []))) (.loop (lL R .ready none))
  rwa [World.size_alloc]at this
 let m1:MH:=λb=>if b=l then some (.loop (lL R .ready none))else if b=bn then some (nM 0)else if b=b6 then some Dv else if b=b7 then some (BY 0)else if b=bq then some (.cells ⟨v.enc⟩ 68 (0,0))else none
 have m1l:m1 l=some (.loop (lL R .ready none)):=by simp[m1]
 have m1n:m1 bn=some (nM 0):=(if_neg aC).trans (if_pos rfl);have m16:m1 b6=some Dv:=(if_neg aC).trans ((if_neg d6n).trans (if_pos rfl));have m17:m1 b7=some (BY 0):=(if_neg aC).trans ((if_neg d7n).trans ((if_neg (Ne.symm d67)).trans (if_pos rfl)));have m1q:m1 bq=some (.cells ⟨v.enc⟩ 68 (0,0)):=(if_neg aC).trans ((if_neg (Ne.symm qn)).trans ((if_neg (Ne.symm q6)).trans ((if_neg (Ne.symm q7)).trans (if_pos rfl))));have m1o:∀b,b≠l->b≠bn->b≠b6->b≠b7->b≠bq->m1 b=none:=λb h1 h2 h3 h4 h5=>(if_neg h1).trans ((if_neg h2).trans ((if_neg h3).trans ((if_neg h4).trans (if_neg h5))))
 have m1c:∀b o,m1 b=some o->b=l\/b=bn\/b=b6\/b=b7\/b=bq:=λb o hb=>by
  refine Classical.byContradiction λhn=>?_;rw[m1o b (λe=>hn (.inl e)) (λe=>hn (.inr (.inl e))) (λe=>hn (.inr (.inr (.inl e)))) (λe=>hn (.inr (.inr (.inr (.inl e))))) (λe=>hn (.inr (.inr (.inr (.inr e)))))]at hb;cases hb
 have hlast:∀b i x,h b i=some x->b<w.heap.size:=λb i x hx=>World.block_lt_of_cell? w ⟨b,i,none⟩ (hw.hsat b i x hx);have hL:tB m1 l R 0:=⟨m1l,m1n,m16,m17,hsz,t11,t6,t7⟩
 have hpre:uD W1 m1 h [yv l,R0 bq] [.func (.yield l) #[] #[],.pointer (some ⟨bq,0,none⟩)]:=by
  refine⟨⟨rfl,rfl,trivial⟩,?_,?_,?_,?_,?_⟩
  .intro b i x hx;rw[World.cell?_of_block (w:=w) (w':=W1) (a:=⟨b,i,none⟩) (old b (hlast b i x hx))];exact hw.hsat b i x hx
  .intro b o hb;rcases m1c b o hb with rfl|rfl|rfl|rfl|rfl
   .rw[m1l]at hb;cases hb;exact newl
   .rw[m1n]at hb;cases hb;rw[old _ ltn];exact hhn
   .rw[m16]at hb;cases hb;rw[old _ lt6];exact hh6
   .rw[m17]at hb;cases hb;rw[old _ lt7];exact hh7
   .rw[m1q]at hb;cases hb;rw[old _ ltq];exact hbq
  .intro b o hb i;rcases m1c b o hb with rfl|rfl|rfl|rfl|rfl
   .cases e:h b i with
    |none=>rfl
    |some x=>have:=hlast _ _ _ e;omega
   .exact fn_.2.2 i
   .exact f9006.2.2 i
   .exact f7.2.2 i
   .exact hun.h_ i
  .intro i j c d u u' b hi hu hj hv hb
   have:∃x,c= .val x:=by
    match i,hi with
    |0,hi=>simp[yv]at hi;exact⟨_,hi.symm⟩
    |1,hi=>simp[R0]at hi;exact⟨_,hi.symm⟩
    |_+2,hi=>simp at hi
   obtain⟨x,rfl⟩:=this;simp[eJ]at hb
  .intro i c u b hi hu hb
   have:∃x,c= .val x:=by
    match i,hi with
    |0,hi=>simp[yv]at hi;exact⟨_,hi.symm⟩
    |1,hi=>simp[R0]at hi;exact⟨_,hi.symm⟩
    |_+2,hi=>simp at hi
   obtain⟨x,rfl⟩:=this;simp[eJ]at hb
 have hcall:=(RE U6).2 [yv l,R0 bq] [.func (.yield l) #[] #[],.pointer (some ⟨bq,0,none⟩)] m1 h W1 (λ_ mm hh=>hh=h/\(((pZ q 8 0).1=false/\uC m1 mm l R)\/((pZ q 8 0).1=true/\∃n,eW m1 mm bn (nM n))))
  ⟨v,q,l,bq,R,rfl,m1q,hq,hL,λmm hv hs=>⟨rfl,.inl ⟨hv,hs⟩⟩,λmm hv hu=>⟨rfl,.inr ⟨hv,_,hu⟩⟩⟩ hpre
 have hrunl:(Instr.enterLoop fn a.tmps #[37,38] Zs Zr Fence.wide.round).run Tryz.prog w= .ok (l,[mark D]) W1:=by
  subst hD hl;rw[<-hW1];exact run_enterLoop_outer _ _ _ _ _
 refine⟨l,[mark D],W1,{target:=.fn (.func 147) #[.pointer (some ⟨bq,0,none⟩)],args:= #[.func (.yield l) #[] #[]]},W1,147, #[.func (.yield l) #[] #[],.pointer (some ⟨bq,0,none⟩)],W1,hrunl,?_,λ_ _=>trivial,?_,λe=>by simp[Fence.wide]at e,callsIn_wide.2 ?_⟩
 .simp only[resolve,rangeCall,hev];simp[go_sem]
 .have hf:Tryz.prog.funcs[147]? =some Tryz.f147:=Tryz.func147;have hbn:¬Tryz.f147.body=none:=by intro e;have:Tryz.f147.body=some (bU Tryz.f147):=rfl;rw[this]at e;cases e
  have hnm:¬Tryz.f147.name= "runtime.NumGoroutine" :=by decide
  simp only[invoke,callFunc];simp[program,Sem.run,hf,hnm,hbn]
 refine hcall.mono ?_;rintro e w3 ⟨r,u,mm,hh,rfl,⟨hhe,hres⟩,hok,hw3,_⟩;have hhe:=hhe.symm;subst hhe
 have notMoved:∀b,m1 b=none->¬mX m1 [yv l,R0 bq] [.func (.yield l) #[] #[],.pointer (some ⟨bq,0,none⟩)] b:=by
  rintro b hb (h1|⟨i,c,u,hi,hu,hc⟩)
  .exact h1 hb
  .have:∃x,c= .val x:=by
    match i,hi with
    |0,hi=>simp[yv]at hi;exact⟨_,hi.symm⟩
    |1,hi=>simp[R0]at hi;exact⟨_,hi.symm⟩
    |_+2,hi=>simp at hi
   obtain⟨x,rfl⟩:=this;simp[eJ]at hc
 have keep3:∀b,b<W1.heap.size->m1 b=none->w3.heap[b]? =W1.heap[b]? :=λb hb hn=>hw3.frame b hb (notMoved b hn);have h3size:=hw3.size;have h3size:W1.heap.size<=w3.heap.size:=h3size;obtain⟨n1,n2,n3,n4,n5,n6⟩:=hL.ne
 have key:∀(e:Int)(st:LoopState)(pe:Option Code),st≠ .busy->mm l=some (.loop (lL R st pe))->mm b6=some Dv->mm b7=some (BY e)->
  (Instr.endLoop l).run Tryz.prog w3= .ok pe (w3.putObj l (.loop {lL R st pe with state:=.exhausted}))/\
  ((pZ q 8 0).1=true->e=0->Q .normal {a with defers:=[mark D]++a.defers} (w3.putObj l (.loop {lL R st pe with state:=.exhausted})))/\
  ((pZ q 8 0).1=false->e=2->Q .ret {a with defers:=[mark D]++a.defers} (w3.putObj l (.loop {lL R st pe with state:=.exhausted}))):=by
  intro e st pe hst kl k6 k7;have hl3:=hw3.msat l _ kl;refine⟨run_endLoop hl3 hst,?_⟩;obtain⟨w4,hw4⟩:∃w4,w3.putObj l (.loop {lL R st pe with state:=.exhausted})=w4:=⟨_,rfl⟩
  rw[hw4];have ne4:∀b,b≠l->w4.heap[b]? =w3.heap[b]? :=λb hb=>by rw[<-hw4];exact World.putObj_heap_other (λe=>hb e)
  have s4:w4.heap.size=w3.heap.size:=by rw[<-hw4];simp
  have same:∀b,b<w.heap.size->m1 b=none->w4.heap[b]? =w.heap[b]? :=λb hb hn=>by
   rw[ne4 b aC,keep3 b aC hn,old b hb]
  have mnone:∀b o,m b=some o->m1 b=none/\b<w.heap.size/\m' b=some o:=λb o hb=>by
   have hbq:b≠bq:=λe=>by rw[e,hun.m_]at hb;cases hb
   have hb':m' b=some o:=by rw[hup.other b hbq];exact hb
   have hlt:=(Array.getElem?_eq_some_iff.1 (hw.msat b o hb')).1
   have ne:∀c,(z8 sc p v bq m' h).m c=none->b≠c:=λc hc e=>by
    have hc:m' c=none:=hc;rw[<-e,hb']at hc;cases hc
   exact⟨m1o b aC (ne _ fn_.2.1) (ne _ f9006.2.1) (ne _ f7.2.1) hbq,hlt,hb'⟩
  have hs4:∀b i x,h b i=some x->w4.cell? ⟨b,i,none⟩=some x:=λb i x hx=>by
   have hb:b≠l:=λe=>by have:=hlast b i x hx;omega
   rw[World.cell?_of_block (w:=w3) (w':=w4) (a:=⟨b,i,none⟩) (ne4 b hb)];exact hw3.hsat b i x hx
  have wr:qS B m h w4:=by
   refine⟨?_,?_,?_,?_,?_,?_,hs4,?_,?_,hw.hle,hw.hold,?_⟩
   .have:w4.tape=w3.tape:=by rw[<-hw4];rfl
    rw[this,hw3.tape];show W1.tape=_;rw[<-hW1];exact hw.tape
   .have:w4.os=w3.os:=by rw[<-hw4];rfl
    rw[this,hw3.os];show W1.os=_;rw[<-hW1];exact hw.os
   .have:w4.output=w3.output:=by rw[<-hw4];rfl
    rw[this,hw3.output];show W1.output=_;rw[<-hW1];exact hw.output
   .have d4:w4.drawn=w3.drawn:=by rw[<-hw4];rfl
    have d3:W1.drawn<=w3.drawn:=hw3.drawn;have d2:W1.drawn=w.drawn:=by rw[<-hW1];rfl
    have d1:B.w0.drawn<=w.drawn:=hw.drawn;omega
   .have:=hw.size;omega
   .intro b hb hnE;have hbw:b<w.heap.size:=Nat.lt_of_lt_of_le hb hw.size
    have ne:∀c,(B.w0.heap.size<=c\/B.E c)->b≠c:=λc hc e=>by
     subst e;rcases hc with h1|h1
     .omega
     .exact hnE h1
    rw[same b hbw (m1o b aC (ne _ fn_.1) (ne _ f9006.1) (ne _ f7.1) (ne _ (hw.mfr bq _ hup.at_)))];exact hw.frame b hb hnE
   .intro b o hb;obtain⟨k1,k2,k3⟩:=mnone b o hb;rw[same b k2 k1];exact hw.msat b o k3
   .intro b o hb i;exact hw.disj b o (mnone b o hb).2.2 i
   .intro b o hb;exact hw.mfr b o (mnone b o hb).2.2
  have hD4:w4.heap[D]? =some (.deferred (some [])):=by
   rw[ne4 D aC,keep3 D aC (m1o D aC aC aC aC aC)];exact newD
  refine hgo e D (λb=>m b≠none\/∃k o,nth (z8 sc p v bq m' h).own k=some (some o)/\blk (ι k)=some b) {a with defers:=[mark D]++a.defers} w4 ⟨?_,?_,?_,?_,?_,?_,hM.one⟩ wr ?_ ?_ hD4 ?_
  .show DenS ι (pF (.at .junk) [(1,sv p),(3,.at (.ptr 3 0)),(5,.at (.ptr 5 0)),(6,.at (.ptr 6 0)),(7,.at (.ptr 7 0))] 53 0) a.tmps.toList;refine GF 53 0 _ _ (by rw[Array.length_toList];exact hsz) (λj x u hx hu=>?_)
   have get:∀(t:Nat)(y:SV),(z8 sc p v bq m' h).sl[t]? =some y->t=j->Den ι y u:=λt y ht e=>by
    obtain⟨v',hv',hd'⟩:=hM.slots.get t y ht;subst e;rw[hu]at hv';cases hv';exact hd'
   simp only[assoc,Nat.zero_add]at hx;split at hx
   .rename_i e;simp at hx;subst hx;exact get 1 _ rfl (Nat.eq_of_beq_eq_true e)
   .split at hx
    .rename_i e;simp at hx;subst hx;exact get 3 _ rfl (Nat.eq_of_beq_eq_true e)
    .split at hx
     .rename_i e;simp at hx;subst hx;exact get 5 _ rfl (Nat.eq_of_beq_eq_true e)
     .split at hx
      .rename_i e;simp at hx;subst hx;exact get 6 _ rfl (Nat.eq_of_beq_eq_true e)
      .split at hx
       .rename_i e;simp at hx;subst hx;exact get 7 _ rfl (Nat.eq_of_beq_eq_true e)
       .cases hx
  .show[mark D]++a.defers=[mark D]
   rw[hM.defers,hdf];rfl
  .intro k o hk;rcases DZ hk with⟨rfl,rfl⟩|⟨rfl,rfl⟩|⟨rfl,rfl⟩|⟨rfl,rfl⟩
   .exact⟨b3,_,hι3,by rw[same b3 lt3 (m1o b3 aC d3n d36 d37 q3)];exact hh3,fH.vals.2 rfl,λ_ e=>by cases e⟩
   .exact⟨b5,_,hι5,by rw[same b5 lt5 (m1o b5 aC d5n d56 d57 q5)];exact hh5,fH.vals.2 rfl,λ_ e=>by cases e⟩
   .exact⟨b6,_,hι6,by rw[ne4 b6 aC];exact hw3.msat b6 _ k6,fH.vals (l:=[.slice none 0 0]).2 rfl,λ_ e=>by cases e⟩
   .exact⟨b7,_,hι7,by rw[ne4 b7 aC];exact hw3.msat b7 _ k7,fH.vals (l:=[.int .i64 e]).2 rfl,λ_ e=>by cases e⟩
  .have up:∀k o,nth (pH sc p v e m h).own k=some (some o)->∃o',nth (z8 sc p v bq m' h).own k=some (some o'):=λk o hk=>by
    rcases DZ hk with⟨rfl,rfl⟩|⟨rfl,rfl⟩|⟨rfl,rfl⟩|⟨rfl,rfl⟩<;>exact⟨_,rfl⟩
   intro k k' o o' b hk hk' hb hb';obtain⟨x,hx⟩:=up k o hk;obtain⟨x',hx'⟩:=up k' o' hk';exact hM.dist k k' x x' b hx hx' hb hb'
  .have up:∀k o,nth (pH sc p v e m h).own k=some (some o)->∃o',nth (z8 sc p v bq m' h).own k=some (some o'):=λk o hk=>by
    rcases DZ hk with⟨rfl,rfl⟩|⟨rfl,rfl⟩|⟨rfl,rfl⟩|⟨rfl,rfl⟩<;>exact⟨_,rfl⟩
   intro k o b hk hb;obtain⟨x,hx⟩:=up k o hk;obtain⟨g1,g2,g3⟩:=hM.fresh k x b hx hb;refine⟨.inr (.inr ⟨k,x,hx,hb⟩),?_,g3⟩;show m b=none;have g2:m' b=none:=g2;rw[<-hup.other b (neq b g2)];exact g2
  .exact⟨rfl,rfl,rfl,Nat.le_refl _,Nat.le_refl _,λ_ _ _=>rfl,hs4,wr.msat,wr.disj,λ_ _ _ e=>e,λ_ _ _=>rfl,λb o hb=>.inr (.inl (by rw[show m b=some o from hb];simp))⟩
  .rintro b (h1|⟨k,o,hk,hb⟩)
   .cases e:m b with
    |none=>exact(h1 e).elim
    |some o=>exact wr.mfr b o e
   .exact(hM.fresh k o b hk hb).1
  .rw[hD];exact hw.size
  .rintro(h1|⟨k,o,hk,hb⟩)
   .cases e:m D with
    |none=>exact h1 e
    |some o=>have:=(mnone D o e).2.1;omega
   .have:=lI (hM.own k o hk) hb;omega
 rcases hres with⟨hv,hs⟩|⟨hv,n,hu⟩
 .obtain⟨r1,_,r3⟩:=key 2 .done (some .ret) (by simp) hs.loop hs.k_ hs.e_;exact⟨_,_,r1,wpIn_ret (r3 hv rfl)⟩
 .obtain⟨r1,r2,_⟩:=key 0 .ready none (by simp) (by rw[hu.other l n1];exact m1l) (by rw[hu.other b6 d6n];exact m16) (by rw[hu.other b7 d7n];exact m17);exact⟨_,_,r1,r2 hv rfl⟩
set_option maxRecDepth 100000 in
theorem K9:Sound Tryz.prog 68 B5:=by
 refine⟨⟨Tryz.f68,Tryz.func68,rfl,by decide⟩,?_⟩;rintro cvs vs m h w K ⟨sc,p,v,s,ps,q,rfl,hs,hp,hq,hK⟩ hpre;refine callsIn_wide.1 (callsIn_of_wp_marks (n:=0) Tryz.func68 (show Tryz.f68.body=some (bU Tryz.f68)from rfl) trivial (wpIn_wide.2 ?_));have hM0:=AY Tryz.f68.ntmps hpre;have hn:Tryz.f68.ntmps=53:=by kernel_rfl
 rw[hn]at hM0⊢
 obtain⟨B,hB⟩:∃B:mH,B=⟨w,mX m [aS sc,cS p,aQ v] vs,h,[]⟩:=⟨_,rfl⟩
 rw[<-hB]at hM0;have hdf:B.dfs=[]:=by rw[hB]
 have hspecs:∀g S,assoc (tZ sc p v m h).specs g=some S->Sound (tZ sc p v m h).P g S:=aD C0 (aD RP aF)
 have hfin:∀u w',(∃r m' h',K r m' h'/\zU w' r u/\qS B m' h' w'/\∀b,eJ r u=some b->(B.w0.heap.size<=b\/B.E b)/\m' b=none/\∀i,h' b i=none)->
  ∃r u' m' h',Ending.returned u= .returned u'/\K r m' h'/\zU w' r u'/\qS ⟨w,mX m [aS sc,cS p,aQ v] vs,h,[]⟩ m' h' w'/\(∀b,eJ r u'=some b->(w.heap.size<=b\/mX m [aS sc,cS p,aQ v] vs b)/\m' b=none/\∀i,h' b i=none):=by
  rintro u w' ⟨r,m',h',h1,h2,h3,h4⟩;subst hB;exact⟨r,u,m',h',rfl,h1,h2,h3,h4⟩
 have hV:VC (tZ sc p v m h) (Hd 4 (bU Tryz.f68)) (entry 53 [aS sc,cS p,aQ v] m h) (thenS (Pm sc p v m h (cZ s=0/\ps.all cA=true)) (La sc p v m h K)):=by
  rw[<-X1 sc p v m h (cZ s=0/\ps.all cA=true) K];exact X2 hs hp hK (λh1 h2=>⟨h1,h2⟩)
 have key:=λR=>NY (C:=tZ sc p v m h) (Q2:=Pm sc p v m h (cZ s=0/\ps.all cA=true)) (Q:=La sc p v m h K) (R:=R) hspecs rfl rfl 4 (bU Tryz.f68) _ _ _ _ hM0;generalize hVe:VC (tZ sc p v m h) (Hd 4 (bU Tryz.f68)) (entry 53 [aS sc,cS p,aQ v] m h) (thenS (Pm sc p v m h (cZ s=0/\ps.all cA=true)) (La sc p v m h K))=V at hV key;clear hVe;refine key _ hV ?_ ?_
 .intro ι τ a1 w1 hM1 h1;unfold Pm at h1;rw[Ve];have key2:=λR=>NY (C:=tZ sc p v m h) (Q2:=SU sc p v m h (cZ s=0/\ps.all cA=true)) (Q:=λ_ _=>False) (R:=R) hspecs rfl rfl 1 (Fj (wY 4 (bU Tryz.f68))) _ _ _ _ hM1;generalize hVe:VC (tZ sc p v m h) (Hd 1 (Fj (wY 4 (bU Tryz.f68)))) τ (thenS (SU sc p v m h (cZ s=0/\ps.all cA=true)) (λ_ _=>False))=V at h1 key2;clear hVe;refine wp_seq (key2 _ h1 ?_ ?_)
  .intro ι2 τ2 a2 w2 hM2 h2;unfold SU at h2;obtain⟨⟨g1,g2⟩,bq,m',hun,hup,hmt⟩:=h2;obtain⟨ι3,hM3,_⟩:=iJ hM2 hmt;rw[TC];refine wp_block (Vl hM3 hdf hun hup hq ?_);intro e D E a' w' hM4 hwr hE hD hDh hnE;have hDlt:D<w'.heap.size:=(Array.getElem?_eq_some_iff.1 hDh).1
   have leave:∀{C:Ctx},C.P=Tryz.prog->∀(ι5:Nat->Value)(σ5:St)(a5:Act)(w5:World),aG ⟨w',E,h,[mark D]⟩ ι5 σ5 a5 w5->zA C Tryz.f68 K σ5->∀{R:Ending->World->Prop},(∀u w'',(∃r m' h',K r m' h'/\zU w'' r u/\qS B m' h' w''/\∀b,eJ r u=some b->(B.w0.heap.size<=b\/B.E b)/\m' b=none/\∀i,h' b i=none)->R (.returned u) w'')->LeavesInM Fence.wide 0 Tryz.prog Tryz.f68 a5.tmps R a5.defers .returning w5:=by
    intro C hC ι5 σ5 a5 w5 hM5 hr R hR;rw[<-hC];refine Qp (C:=C) hM5 rfl ?_ hDlt hnE hr (λu w''=>?_)
    .rw[hM5.wrel.frame D hDlt hnE];exact hDh
    .rintro⟨r,mf,hf,k1,k2,k3,k4⟩
     have hE':∀b,(E b\/b=D)->B.w0.heap.size<=b\/B.E b:=by
      rintro b (e|rfl)
      .exact hE b e
      .exact .inl hD
     refine hR u w'' ⟨r,mf,hf,k1,k2,hwr.trans (E:=λb=>E b\/b=D) ⟨k3.tape,k3.os,k3.output,k3.drawn,k3.size,k3.frame,k3.hsat,k3.msat,k3.disj,k3.hle,k3.hold,k3.mfr⟩ hE',λb hb=>?_⟩;obtain⟨j1,j2,j3⟩:=k4 b hb;refine⟨?_,j2,j3⟩;rcases j1 with j1|j1
     .exact .inl (Nat.le_trans hwr.size j1)
     .exact hE' b j1
   refine⟨λhv he=>?_,λhv he=>?_⟩
   .subst he;show(wY 5 (bU Tryz.f68)).wp _ _ a' w';have hsm:zZ q=true:=by rw[<-Ku];exact hv
    have ht:K7 (SizeOf.sizeOf q+1) sc p v m h K:=by
     unfold fC at hK;rw[if_pos g1,if_pos g2,if_pos hsm]at hK;exact⟨sc,p,v,s,ps,q,rfl,hs,y8 g1,hp,hq,aC,hK⟩
    rw[XZ]at ht;have key3:=Qv (C:=dL [(112,Di (SizeOf.sizeOf q+1))] [] [] [] false) (fn:=Tryz.f68) (c:=wY 5 (bU Tryz.f68)) (K:=K) (aD (RO _) aF) hM4;generalize hVe:qI (dL [(112,Di (SizeOf.sizeOf q+1))] [] [] [] false) Tryz.f68 (wY 5 (bU Tryz.f68)) (pH sc p v 0 m h) K=V at ht key3;clear hVe;refine wp_mono (key3 ht) ?_;intro e a5 w5 hq5;cases e with
    |normal=>
     obtain⟨ι5,σ5,hM5,hr⟩:=hq5;exact leave rfl ι5 σ5 a5 w5 hM5 hr (λu w'' hx=>hfin u w'' hx)
    |ret=>
     obtain⟨ι5,σ5,hM5,hr⟩:=hq5;exact leave rfl ι5 σ5 a5 w5 hM5 hr (λu w'' hx=>hfin u w'' hx)
    |exit id=>exact hq5.elim
    |goto l=>exact hq5.elim
    |panic ch=>exact hq5.elim
    |outgrown=>exact hq5.elim
   .subst he;have hsm:¬zZ q=true:=by rw[<-Ku,hv];simp
    have hr:K8 sc p v m h K:=by
     unfold fC at hK;rw[if_pos g1,if_pos g2,if_neg hsm]at hK;exact hK.err (.refl _) rfl
    rw[X0]at hr;have key4:=@leave cY rfl ι3 (pH sc p v 2 m h) a' w' hM4;generalize hVe:zA cY Tryz.f68 K (pH sc p v 2 m h)=V at hr key4;clear hVe;exact key4 hr (λu w'' hx=>hfin u w'' hx)
  .rintro e a w hq hne;cases e with
   |normal=>exact(hne rfl).elim
   |exit id=>obtain⟨_,_,_,h⟩:=hq;exact h.elim
   |ret=>obtain⟨_,_,_,h⟩:=hq;exact h.elim
   |goto l=>exact hq.elim
   |panic ch=>exact hq.elim
   |outgrown=>exact hq.elim
 .rintro e a' w' hq' hne;cases e with
  |normal=>exact(hne rfl).elim
  |exit id=>
   obtain⟨_,_,_,h⟩:=hq';simp only[La]at h
  |ret=>
   obtain⟨ι,σ,hM,hr⟩:=hq';simp only[La]at hr;obtain⟨u,hu,r,m',h',k1,k2,k3,k4⟩:=Cd hM hr;show LeavesInM Fence.wide 0 Tryz.prog Tryz.f68 a'.tmps _ a'.defers .returning w';rw[hM.defers,hdf];exact⟨u,hu,hfin u w' ⟨r,m',h',k1,k2,k3,k4⟩⟩
  |goto l=>exact hq'.elim
  |panic ch=>exact hq'.elim
  |outgrown=>exact hq'.elim
end Go.Ps
