/- Own work. -/
import Derived.MapKept
import Derived.Maps.RangeRun
import Derived.Test.YtjpjambjoceofaaGreatDoorProg
import Derived.IntWalk
import Derived.ChangeKeysEq
import Derived.Test.YtjpjambjoceofaaGreatDoorVa
set_option linter.unusedVariables false
set_option linter.unusedSimpArgs false
namespace Go.Vc
open Go List
section
variable{B:qE}{C:Ctx}{ι:dv}{σ:St}{a:Act}{w:World}{o:Oper}{K:St->Prop}
theorem aDQ(f:aJ B ι σ a w)(ob:Obj):
 aJ B ι {σ with m:=λb=>if b=w.heap.size then some ob else σ.m b} a (w.alloc ob)/\dZ σ.m σ.h w.heap.size/\∀o,HO σ ι o w (w.alloc ob):=by
 have d:=f.wrel
 have l:dZ σ.m σ.h w.heap.size:=by
  constructor
  .cases e:σ.m w.heap.size with
   |none=>rfl
   |some x=>have:=(Array.getElem?_eq_some_iff.1 (d.msat _ _ e)).1;omega
  .intro i;cases e:σ.h w.heap.size i with
   |none=>rfl
   |some x=>have:=World.block_lt_of_cell? w ⟨w.heap.size,i,none⟩ (d.hsat _ _ _ e);grind
 have q:(w.alloc ob).heap.size=w.heap.size+1:=by show(w.heap.push ob).size=_;simp
 refine⟨⟨f.slots,f.defers,λk n j=>(f.own k n j).world (λb c=>fK w ob (pB (f.own k n j) c)),f.dist,?_,?_,f.one⟩,l,λo=>⟨?_,?_,λ_ b c=>fK w ob c,λ_ b _ c _ _=>fK w ob c⟩⟩
 .intro k n b j c;obtain⟨y,z,A⟩:=f.fresh k n b j c;have s:=pB (f.own k n j) c
  grind
 .refine⟨d.tape,d.os,d.output,d.drawn,by rw[q];exact Nat.le_succ_of_le d.size,?_,?_,?_,?_,d.hle,d.hold,?_⟩
  .intro b c t;rw[fK w ob (dh c d.size)];exact d.frame b c t
  .intro b i v r;have g:=d.hsat b i v r;rw[<-g];exact World.cell?_of_block (w:=w) (w':=w.alloc ob) (a:=⟨b,i,none⟩) (fK w ob (World.block_lt_of_cell? w ⟨b,i,none⟩ g))
  .intro b x c;have c:(if b=w.heap.size then some ob else σ.m b)=some x:=c;by_cases e:b=w.heap.size
   .rw[if_pos e]at c;rw[e,j9];exact c
   .rw[if_neg e]at c;have g:=d.msat b x c;rw[fK w ob (Array.getElem?_eq_some_iff.1 g).1];exact g
  .intro b x c i;have c:(if b=w.heap.size then some ob else σ.m b)=some x:=c;by_cases e:b=w.heap.size
   .rw[e];exact l.h_ i
   .rw[if_neg e]at c;exact d.disj b x c i
  .intro b x c;have c:(if b=w.heap.size then some ob else σ.m b)=some x:=c;by_cases e:b=w.heap.size
   .left;rw[e];exact d.size
   .rw[if_neg e]at c;exact d.mfr b x c
 .intro k p T D b j _ u;exact fK w ob (pB (f.own k _ j) (by rw[u];rfl))
 .intro b i v r;have g:=d.hsat b i v r;rw[<-g];exact World.cell?_of_block (w:=w) (w':=w.alloc ob) (a:=⟨b,i,none⟩) (fK w ob (World.block_lt_of_cell? w ⟨b,i,none⟩ g))
theorem TQ(n:aJ B ι σ a w){b:Nat}{u ob:Obj}(s:σ.m b=some u):
 aJ B ι {σ with m:=λc=>if c=b then some ob else σ.m c} a {w with heap:=w.heap.setIfInBounds b ob}/\∀o,zH o.op=false->HO σ ι o w {w with heap:=w.heap.setIfInBounds b ob}:=by
 have g:=n.wrel;have y:b<w.heap.size:=(Array.getElem?_eq_some_iff.1 (g.msat _ _ s)).1
 have f:∀c,c≠b->(w.heap.setIfInBounds b ob)[c]? =w.heap[c]? :=λc l=>by
  grind
 have z:(w.heap.setIfInBounds b ob)[b]? =some ob:=by simp[y]
 have t:∀k q,nth σ.own k=some (some q)->blk (ι k)≠some b:=by
  intro k q r E;have:=(n.fresh k q b r E).2.1
  grind
 have j:∀c i v,σ.h c i=some v->({w with heap:=w.heap.setIfInBounds b ob}:World).cell? ⟨c,i,none⟩=some v:=by
  intro c i v A;have l:c≠b:=λe=>by subst e;rw[g.disj c _ s i]at A;cases A
  have D:=g.hsat c i v A;rw[<-D];exact World.cell?_of_block (w:=w) (w':={w with heap:=w.heap.setIfInBounds b ob}) (a:=⟨c,i,none⟩) (f c l)
 refine⟨⟨n.slots,n.defers,λk q r=>(n.own k q r).world (λc d=>f c (λe=>t k q r (e▸d))),n.dist,?_,?_,n.one⟩,λo H=>⟨?_,j,λh=>cg,λ_ c _ _ I _=>f c (λe=>cg)⟩⟩
 .intro k q c r d;obtain⟨J,L,M⟩:=n.fresh k q c r d
  grind
 .refine⟨g.tape,g.os,g.output,g.drawn,cm g.size,?_,j,?_,?_,g.hle,g.hold,?_⟩
  .intro c d F
   have l:c≠b:=λe=>by
    subst e;rcases g.mfr c _ s with D|D
    .omega
    grind
   rw[f c l];exact g.frame c d F
  .intro c x d;have d:(if c=b then some ob else σ.m c)=some x:=d;by_cases e:c=b
   .grind
   .rw[if_neg e]at d;rw[f c e];exact g.msat c x d
  .intro c x d i;have d:(if c=b then some ob else σ.m c)=some x:=d;by_cases e:c=b
   .rw[e];exact g.disj b _ s i
   .rw[if_neg e]at d;exact g.disj c _ d i
  .intro c x d;have d:(if c=b then some ob else σ.m c)=some x:=d;by_cases e:c=b
   .rw[e];exact g.mfr b _ s
   .rw[if_neg e]at d;exact g.mfr c _ d
 .intro k p T N c r _ G;exact f c (λe=>t k _ r (by rw[G,e];rfl))
theorem Pj(g:aJ B ι σ a w){t:Nat}{r:Option Operand}(i:o.op= .makeMap t r)(h:Kd o r σ K):Tw B C ι o σ K a w:=by
 intro next Q b
 unfold Kd at h;split at h
 .obtain⟨d,e,j⟩:=aDQ g (.map #[] 0)
  have c:(execOp a.eval o).run C.P w= .ok (.value (.map (some w.heap.size))) (w.alloc (.map #[] 0)):=by
   unfold execOp;simp[i,Instr.makeMap]
  unfold Oper.wp;rw[c,Oper.upon_value];exact b ι _ _ _ (d.put o.dst (x:=.at (.val (.map (some w.heap.size)))) rfl) (h w.heap.size _ e ⟨bx,λl f=>by simp[f]⟩) (j o)
 grind
theorem aJ.drew{B:qE}{ι:dv}{σ:St}{a:Act}{w:World}(h:aJ B ι σ a w)(k:Nat)(c:w.drawn<=k):aJ B ι σ a {w with drawn:=k}:=by
 refine⟨h.slots,h.defers,λj o d=>(h.own j o d).world (λ_ _=>rfl),h.dist,h.fresh,?_,h.one⟩;have b:=h.wrel;exact⟨b.tape,b.os,b.output,dg b.drawn c,b.size,b.frame,b.hsat,b.msat,b.disj,b.hle,b.hold,b.mfr⟩
theorem xF{α:Type}{l:List α}{j:Nat}{x:α}(h:l[j]? =some x):l=l.take j++x::l.drop (j+1):=by
 have b:=(cn h);have e:=(List.getElem?_eq_some_iff.1 h).2;rw[<-e, <-drop_eq_getElem_cons b,take_append_drop]
theorem T2(p:aJ B ι σ a w){t:Nat}{x:Operand}(y:o.op= .range t x)(h:Sk C o t x σ K):Tw B C ι o σ K a w:=by
 intro next Q f
 have d:=p.ev x;unfold Sk at h;split at h
 .rename_i s q r;rw[r]at d;have d:a.eval x= .string s:=d;obtain⟨j,l,u⟩:=aDQ p (.stringIter s 0)
  have g:(execOp a.eval o).run C.P w= .ok (.value (.pointer (some ⟨w.heap.size,0,none⟩))) (w.alloc (.stringIter s 0)):=by
   unfold execOp;simp[y,d,Instr.range,run_underlying q]
  unfold Oper.wp;rw[g,Oper.upon_value];exact f ι _ _ _ (j.put o.dst (x:=.at (.val (.pointer (some ⟨w.heap.size,0,none⟩)))) rfl) (h w.heap.size _ l ⟨bx,λz m=>by simp[m]⟩) (u o)
 .rename_i H I b q r;rw[r]at d;have d:a.eval x= .map (some b):=d;obtain⟨A,⟨D,c,E,n,i,v⟩,h⟩:=h;have F:=p.wrel.msat b _ E;obtain⟨j,l,u⟩:=aDQ p (.mapIter (some b) c #[] c)
  have g:(execOp a.eval o).run C.P w= .ok (.value (.pointer (some ⟨w.heap.size,0,none⟩))) (w.alloc (.mapIter (some b) c #[] c)):=by
   unfold execOp;simp[y,d,Instr.range,run_underlying q,MapKept.run_getObj_map F,Result.andThen]
  unfold Oper.wp;rw[g,Oper.upon_value];have G:b≠w.heap.size:=λe=>cg
  refine f ι _ _ _ (j.put o.dst (x:=.at (.val (.pointer (some ⟨w.heap.size,0,none⟩)))) rfl) (h w.heap.size _ l ⟨λz m=>by simp[m]⟩ ⟨D,c,c, #[],c,?_,n,i,v,bx,i,Nat.le_refl _,Nat.le_refl _,?_⟩) (u o)
  .grind
  .rw[<-n];congr 1;exact filter_eq_self.2 (λ_ _=>bx)
 grind
theorem Wq(u:aJ B ι σ a w){x:Operand}{st:Bool}(O:o.op= .next x st)(h:Wr o x st σ K):Tw B C ι o σ K a w:=by
 intro next Q l
 have i:=u.ev x;unfold Wr at h;split at h
 .rename_i b R;rw[R]at i;have i:a.eval x= .pointer (some ⟨b,0,none⟩):=i;obtain⟨s,q,hm,X,Y⟩:=h;have hg:=u.wrel.msat b _ hm.at_;by_cases v:q<s.size
  .obtain⟨G,Z⟩:=TQ (ob:=.stringIter s (q+(Utf8.decode s q).2)) u hm.at_
   have d:(execOp a.eval o).run C.P w= .ok (.value (.tuple #[.bool true,.int .i64 q,.int .i32 (Utf8.decode s q).1])) {w with heap:=w.heap.setIfInBounds b (.stringIter s (q+(Utf8.decode s q).2))}:=by
    unfold execOp;simp[O,i,Instr.next,getObj,setObj,Sem.run,hg,v,goInt,Result.andThen]
   unfold Oper.wp;rw[d,Oper.upon_value];refine l ι _ _ _ (G.put o.dst (x:=.tup _) ?_) (Y v _ ⟨bx,λb' H=>by simp[H]⟩) (Z o (by rw[O];rfl));exact⟨_,rfl,rfl,rfl,rfl,trivial⟩
  .have d:(execOp a.eval o).run C.P w= .ok (.value (.tuple #[.bool false])) w:=by
    unfold execOp;simp[O,i,Instr.next,getObj,Sem.run,hg,v,Result.andThen]
   unfold Oper.wp;rw[d,Oper.upon_value];refine l ι _ _ _ (u.put o.dst (x:=.tup _) ?_) (X aC) (lI u);exact⟨_,rfl,rfl,trivial⟩
 .rename_i r R;rw[R]at i;have i:a.eval x= .pointer (some ⟨r,0,none⟩):=i;obtain⟨b,a4,left,⟨p,f,g,c,c0,a',a0,I,J,S,z,a1,E,M⟩,X,Y⟩:=h;have a2:=u.wrel.msat b _ a';have a3:=u.wrel.msat r _ S;rcases run_next_at (P:=C.P) w o.type r b g c0 c p f a3 a2 z a1 with⟨h0,d⟩|⟨e,he,w1,hw1,d⟩
  .have hl:left=[]:=by
    rw[<-M];have:(leftOf p c).toList=[]:=cg
    unfold leftOf at this
    grind
   have d:(execOp a.eval o).run C.P w= .ok (.value (.tuple #[.bool false])) w:=by
    unfold execOp;simp[O,i,d,Result.andThen]
   unfold Oper.wp;rw[d,Oper.upon_value];refine l ι _ _ _ (u.put o.dst (x:=.tup _) ?_) (X hl) (lI u);exact⟨_,rfl,rfl,trivial⟩
  .have N:∃n,aJ B ι σ a w1/\w1={w with drawn:=n}:=by
    rcases hw1 with rfl|rfl
    .grind
    .exact⟨w.drawn+1,u.drew (w.drawn+1) (Nat.le_succ _),rfl⟩
   obtain⟨n,N,T⟩:=N;obtain⟨G,Z⟩:=TQ (ob:=.mapIter (some b) g (c.push e.born) f) N S
   have d:(execOp a.eval o).run C.P w= .ok (.value (.tuple #[.bool true,e.key,e.val])) {w1 with heap:=w1.heap.setIfInBounds r (.mapIter (some b) g (c.push e.born) f)}:=by
    unfold execOp;simp[O,i,d,Result.andThen,ChangeMaps.setBlock]
   have U:e∈p.toList.filter λe=> !c.contains e.born:=by
    unfold leftOf at he
    grind
   have V:e∈p.toList:=(mem_filter.1 U).1;obtain⟨j,hj⟩:=getElem?_of_mem U;have y:=xF hj;have a5:r≠b:=λe=>cg
   have t:(((p.toList.filter λe=> !c.contains e.born)).map (·.born)).Nodup:=J.sublist (filter_sublist.map _)
   have W:p.toList.filter (λx=> !(c.push e.born).contains x.born)=(p.toList.filter λe=> !c.contains e.born).take j++(p.toList.filter λe=> !c.contains e.born).drop (j+1):=by
    have h3:p.toList.filter (λx=> !(c.push e.born).contains x.born)=(p.toList.filter λe=> !c.contains e.born).filter λx=>x.born !=e.born:=by
     rw[filter_filter]
     grind
    rw[h3];generalize (p.toList.filter λe=> !c.contains e.born)=L at y t hj;have v:=(cn hj);generalize L.take j=A at y;generalize L.drop (j+1)=D at y;subst y;simp only[cv,map_cons,nodup_append,nodup_cons,mem_map,mem_cons]at t;obtain⟨_,⟨a6,_⟩,a9⟩:=t;rw[filter_append,filter_cons];simp only[bne_self_eq_false,Bool.false_eq_true,if_false];congr 1
    .refine filter_eq_self.2 λx R=>?_
     grind
    .refine filter_eq_self.2 λx R=>?_
     grind
   unfold Oper.wp;rw[d,Oper.upon_value];have F:(if b=r then some (Obj.mapIter (some b) g (c.push e.born) f)else σ.m b)=some (.map p f):=cg
   refine l ι _ _ _ (G.put o.dst (x:=.tup _) ?_) (Y (((p.toList.filter λe=> !c.contains e.born).take j).map λe=>(e.key,e.val)) (e.key,e.val) (((p.toList.filter λe=> !c.contains e.born).drop (j+1)).map λe=>(e.key,e.val)) ?_ _ ⟨λb' H=>by simp[H]⟩ ⟨⟨p,f,g,c.push e.born,f,F,a0,I,J,bx,z,E,E,?_⟩,p,f,g,c,e,F,J,bx,V,rfl⟩) ?_
   .exact⟨_,rfl,rfl,rfl,rfl,trivial⟩
   .grind
   .grind
   .have:=Z o (by rw[O];rfl);subst T;exact⟨this.cells,this.imm,this.ext,this.args⟩
 grind
theorem VE(j:aJ B ι σ a w){x:Operand}(t:o.op= .entry x)(h:SQ C o x σ K):Tw B C ι o σ K a w:=by
 intro next Q f
 have d:=j.ev x;unfold SQ at h;split at h
 .rename_i r u;rw[u]at d;have d:a.eval x= .pointer (some ⟨r,0,none⟩):=d;obtain⟨b,v,left,x,⟨_,y,g,i,l,e,m,n,p,z,rfl⟩,h⟩:=h;have c:=run_entry_at (P:=C.P) w r b i l y g e (j.wrel.msat r _ p) (j.wrel.msat b _ m) z n
  have c:(execOp a.eval o).run C.P w= .ok (.value (.tuple #[e.key,e.val])) w:=by
   unfold execOp;simp[t,d,c,Result.andThen]
  have h:K (σ.put o.dst (.tup [.inl (.val e.key),.inl (.val e.val)])):=by
   split at h
   .obtain⟨s,q,h⟩:=h;have q:e.val=Sl.val s:=q;rw[q];exact h
   .exact h
  unfold Oper.wp;rw[c,Oper.upon_value];refine f ι _ _ _ (j.put o.dst (x:=.tup _) ?_) h (lI j);exact⟨_,rfl,rfl,rfl,trivial⟩
 grind
theorem EV{P:Program}{f:TypeId}{Ok:Value->Prop}(L:KeyLaw P f Ok){k:Value}(n:Ok k)(w:World):∀(es:List MapEntry)(i:Nat),(∀e∈es,Ok e.key)->
 ((∀e∈es,e.key≠k)/\(Instr.findAsking f k es i).run P w= .ok none w)\/∃j e,es[j]? =some e/\e.key=k/\(Instr.findAsking f k es i).run P w= .ok (some (i+j,e.val)) w
 |[],i,_=>.inl ⟨λe p=>(by cases p),by simp[Instr.findAsking]⟩
 |e::es,i,b=>by
  obtain⟨r,g,l⟩:=L.eq k e.key w n (b e bx);cases r with
  |true=>exact .inr ⟨0,e,rfl,(l.1 rfl).symm,by simp[Instr.findAsking,g]⟩
  |false=>
   have q:e.key≠k:=λh=>cg
   rcases EV L n w es (i+1) (λd c=>b d (by simp[c]))with⟨s,m⟩|⟨j,d,s,m,t⟩
   .refine .inl ⟨λd c=>?_,by simp[Instr.findAsking,g,m]⟩
    grind
   .exact .inr ⟨j+1,d,cg,m,by simp[Instr.findAsking,g,t];omega⟩
theorem findNow_spec{P:Program}{n:TypeId}{Ok:Value->Prop}(L:KeyLaw P n Ok){d:TypeDesc}(c:P.underlying n=some d){k:Value}(f:Ok k):∀(es:List MapEntry)(i:Nat)(r:Option (Nat×Value)),(∀e∈es,Ok e.key)->
 Instr.findNow d k es i=some r->((∀e∈es,e.key≠k)/\r=none)\/∃j e,es[j]? =some e/\e.key=k/\r=some (i+j,e.val)
 |[],i,r,_,h=>by
  simp[Instr.findNow]at h
  grind
 |e::es,i,r,b,h=>by
  simp only[Instr.findNow]at h;split at h
  .rename_i g;simp only[cw]at h;exact .inr ⟨0,e,rfl,((L.now d k e.key true c f (b e bx) g).1 rfl).symm,cg⟩
  .rename_i g;have q:e.key≠k:=λs=>by have:=(L.now d k e.key false c f (b e bx) g).2 s.symm;cases this
   rcases findNow_spec L c f es (i+1) r (λl m=>b l (by simp[m])) h with⟨t,p⟩|⟨j,l,t,p,u⟩
   .grind
   .exact .inr ⟨j+1,l,cg,p,cg⟩
  .cases h
theorem run_findKey{P:Program}{c:TypeId}{Ok:Value->Prop}(L:KeyLaw P c Ok){k:Value}(l:Ok k)(w:World)(es:List MapEntry)(f:∀e∈es,Ok e.key):
 ((∀e∈es,e.key≠k)/\(Instr.findKey c k es).run P w= .ok none w)\/∃j e,es[j]? =some e/\e.key=k/\(Instr.findKey c k es).run P w= .ok (some (j,e.val)) w:=by
 obtain⟨d,g⟩:=L.under;cases h:Instr.findNow d k es 0 with
 |some r=>
  have b:(Instr.findKey c k es).run P w= .ok r w:=by simp[Instr.findKey,run_underlying g,h]
  rcases findNow_spec L g l es 0 r f h with⟨i,rfl⟩|⟨j,e,i,m,rfl⟩
  .grind
  grind
 |none=>
  have b:(Instr.findKey c k es).run P w=(Instr.findAsking c k es).run P w:=by simp[Instr.findKey,run_underlying g,h]
  rw[b];rcases EV L l w es 0 f with⟨i,m⟩|⟨j,e,i,m,n⟩
  .grind
  grind
theorem Tz{P:Program}{T:TypeId}{z:Value}(h:R2 P T=some z)(w:World):(zeroValue T).run P w= .ok z w:=by
 unfold R2 at h;split at h
 .rename_i i d;split at h
  .rename_i k n c;simp only[cw]at h;subst h;simp[zeroValue,typeInfo,d,c]
  .rename_i b c;simp only[cw]at h;subst h;simp[zeroValue,typeInfo,d,c]
  .rename_i c;simp only[cw]at h;subst h;simp[zeroValue,typeInfo,d,c]
  .cases h
 .cases h
theorem Sz(i:aJ B ι σ a w){t:Nat}{x k:Operand}{ok:Bool}(I:o.op= .lookup t x k ok)(h:NR C o t x k ok σ K):Tw B C ι o σ K a w:=by
 intro next Q c
 have d:=i.ev x;unfold NR at h;split at h
 .rename_i kt A b J M U D;rw[U]at d;have d:a.eval x= .map (some b):=d;have n:a.eval k=J:=(i.ev k).val? D;split at h
  .rename_i z V;obtain⟨q,Ok,⟨m,E,W,X⟩,L,r,N,l,s⟩:=h;have O:=i.wrel.msat b _ W
   have v:∀e∈m.toList,∃p∈q,e.key=p.1/\e.val=only ((C.dec A).enc p.2):=by
    intro e F
    have:(e.key,e.val)∈q.map λp=>(p.1,only ((C.dec A).enc p.2)):=by
     grind
    grind
   have y:∀e∈m.toList,Ok e.key:=λe F=>by
    grind
   have g:=L.check J w m.isEmpty r;unfold Oper.wp;rcases run_findKey L r w m.toList y with⟨R,S⟩|⟨j,e,R,S,Y⟩
   .have f:(execOp a.eval o).run C.P w= .ok (.value (if ok then .tuple #[z,.bool false]else z)) w:=by
     unfold execOp;simp[I,d,n,Instr.lookup,run_underlying M,MapKept.run_getObj_map O,g,S,Tz V,Result.andThen]
    rw[f,Oper.upon_value];refine c ι _ _ _ (i.put o.dst ?_) (l ?_) (lI i)
    .cases ok
     .rfl
     .exact⟨_,rfl,rfl,rfl,trivial⟩
    .intro p Z e1
     have:(p.1,only ((C.dec A).enc p.2))∈m.toList.map λe=>(e.key,e.val):=by
      grind
     grind
   .have F:e∈m.toList:=cr R;obtain⟨p,Z,e1,G⟩:=v e F
    have f:(execOp a.eval o).run C.P w= .ok (.value (if ok then .tuple #[e.val,.bool true]else e.val)) w:=by
     unfold execOp;simp[I,d,n,Instr.lookup,run_underlying M,MapKept.run_getObj_map O,g,Y,Result.andThen]
    have T:=s p.2 cg;rw[f,Oper.upon_value];split at T
    .rename_i u H;rw[H]at G;refine c ι _ _ _ (i.put o.dst ?_) T (lI i);cases ok
     .exact G
     .exact⟨_,rfl,G,rfl,trivial⟩
    grind
  grind
 grind
theorem L2(i:aJ B ι σ a w){t:Nat}{x k v:Operand}(I:o.op= .mapUpdate t x k v)(l:o.dst=none)(h:Ca C t x k v σ K):Tw B C ι o σ K a w:=by
 intro next Q f
 have d:=i.ev x;unfold Ca at h;split at h
 .rename_i Y Z b m u S T z U;rw[T]at d;have d:a.eval x= .map (some b):=d;have A:a.eval k=m:=(i.ev k).val? z;have D:a.eval v=u:=(i.ev v).val? U;obtain⟨E,Ok,⟨g,c,J,F⟩,L,n,p,M,V⟩:=h;have N:=i.wrel.msat b _ J;have q:∀e∈g.toList,(e.key,e.val)∈E:=λe O=>cg
  have r:∀e∈g.toList,Ok e.key:=λe O=>p _ (q e O);have s:=L.check m w false n;rcases run_findKey L n w g.toList r with⟨W,R⟩|⟨j,e,W,R,h3⟩
  .obtain⟨G,X⟩:=TQ (ob:=.map (g.push {key:=m,val:=u,born:=c}) (c+1)) i J
   have y:(execOp a.eval o).run C.P w= .ok .skip {w with heap:=w.heap.setIfInBounds b (.map (g.push {key:=m,val:=u,born:=c}) (c+1))}:=by
    unfold execOp;simp[I,d,A,D,Instr.mapUpdate,run_underlying S,MapKept.run_getObj_map N,MapKept.run_setObj_map _ N,s,R,Result.andThen]
   unfold Oper.wp;rw[y,Oper.upon_skip,show a.put o.dst undef=a by rw[l];rfl];refine f ι _ _ _ G (V _ ⟨λb' H=>by simp[H]⟩ ⟨g.push {key:=m,val:=u,born:=c},c+1,bx,?_⟩) (X o (by rw[I];rfl));simp[F]
  grind
 grind
theorem Sy(y:aJ B ι σ a w){t:Nat}{x k v:Operand}(M:o.op= .mapUpdate t x k v)(m:o.dst=none)(h:Ji C t x k v σ K):Tw B C ι o σ K a w:=by
 intro next Q f
 have g:=y.ev x;unfold Ji at h;split at h
 .rename_i kt et b l u hu hx O hv;rw[hx]at g;have g:a.eval x= .map (some b):=g;have z:a.eval k=l:=(y.ev k).val? O;have A:a.eval v=u:=(y.ev v).val? hv;obtain⟨R,Ok,⟨d,c,S,T,U,a0⟩,L,D,q,E,F,G⟩:=h;have N:=y.wrel.msat b _ S;have H:∀e∈d.toList,(e.key,e.val)∈R:=λe V=>cg
  have I:∀e∈d.toList,Ok e.key:=λe V=>E _ (H e V);have n:=L.check l w false D;rcases run_findKey L D w d.toList I with⟨W,X⟩|⟨j,e,W,X,h3⟩
  .obtain⟨r,Y⟩:=TQ (ob:=.map (d.push {key:=l,val:=u,born:=c}) (c+1)) y S
   have i:(execOp a.eval o).run C.P w= .ok .skip {w with heap:=w.heap.setIfInBounds b (.map (d.push {key:=l,val:=u,born:=c}) (c+1))}:=by
    unfold execOp;simp[M,g,z,A,Instr.mapUpdate,run_underlying hu,MapKept.run_getObj_map N,MapKept.run_setObj_map _ N,n,X,Result.andThen]
   unfold Oper.wp;rw[i,Oper.upon_skip,show a.put o.dst undef=a by rw[m];rfl];refine f ι _ _ _ r (F (λp hp e1=>?_) _ ⟨λb' s=>by simp[s]⟩ ⟨d.push {key:=l,val:=u,born:=c},c+1,bx,by simp[T],λe V=>?_,?_⟩) (Y o (by rw[M];rfl))
   .grind
   .grind
   grind
  .have J:=(cn W);have Z:d[j]? =some e:=cg
   obtain⟨r,Y⟩:=TQ (ob:=.map (d.modify j λe=>{e with key:=l,val:=u}) c) y S
   have i:(execOp a.eval o).run C.P w= .ok .skip {w with heap:=w.heap.setIfInBounds b (.map (d.modify j λe=>{e with key:=l,val:=u}) c)}:=by
    unfold execOp;simp[M,g,z,A,Instr.mapUpdate,run_underlying hu,MapKept.run_getObj_map N,MapKept.run_setObj_map _ N,n,h3,Z,X,Instr.keyThatStays,q,Result.andThen]
   have a':(d.modify j λe=>{e with key:=l,val:=u}).toList=d.toList.take j++{e with key:=l,val:=u}::d.toList.drop (j+1):=by
    rw[Array.toList_modify,modify_eq_take_cons_drop J]
    grind
   have a1:=xF W;unfold Oper.wp;rw[i,Oper.upon_skip,show a.put o.dst undef=a by rw[m];rfl];refine f ι _ _ _ r (G ((d.toList.take j).map λe=>(e.key,e.val)) e.val ((d.toList.drop (j+1)).map λe=>(e.key,e.val)) ?_ _ ⟨λb' s=>by simp[s]⟩ ⟨d.modify j λe=>{e with key:=l,val:=u},c,bx,?_,?_,?_⟩) (Y o (by rw[M];rfl))
   .grind
   .grind
   .grind
   grind
 grind
end
end Go.Vc
namespace Go.Vc
open Go List
section
variable{B:qE}{C:Ctx}{ι:dv}{σ:St}{a:Act}{w:World}{o:Oper}{K:St->Prop}
theorem aBJ(g:aJ B ι σ a w)(q:EI o.op=true)(h:Pg C o σ K):Ti C ι o σ K a w:=by
 unfold Pg at h;cases j:o.op<;>simp only[j]at h q
 case move x=>exact NP g (.inl j) h
 case assign x=>exact NP g (.inr j) h
 case pick c x y=>exact Wg g j h
 case build T ps=>exact VN g j h
 case load T x=>exact Wt g j h
 case nilCheck x=>exact NI g j h
 case binOp op tx x y ty=>
  cases op
  case eql=>
   simp only at h;split at h
   .exact ET (neg:=false) g j h
   .exact lL g (λp b=>cg) h
  case neq=>
   simp only at h;split at h
   .exact ET (neg:=true) g j h
   .exact lL g (λp b=>cg) h
  case add=>exact SX g j h
  all_goals first
   |exact lL g (λp b=>by rw[j];intro e;cases e) h
   |exact arJ g j h
 case unOp op t x=>exact lL g (λp b=>cg) h
 case convert s d x=>exact Pn g j h
 case fieldAddr T x f=>exact L5 g j h
 case field T x f=>exact UE g j h
 case indexAddr T x i=>exact L4 g j h
 case index T x i=>exact Uv g j h
 case extract x i=>exact Pm g j h
 case call c=>
  obtain⟨l,args,m⟩:=c;cases l with
  |builtin b=>
   cases b<;>simp only[EI,Bool.false_eq_true]at q
   case len=>
    simp only at h;split at h
    .rename_i x u;exact aeQ g j rfl u h
    grind
   case min=>exact lL g (λp b=>cg) h
   case max=>exact lL g (λp b=>cg) h
  |value f=>simp[EI]at q
  |invoke r n=>grind
 all_goals (first|exact h.elim|(simp[EI]at q))
theorem Ti.stp(d:aJ B ι σ a w)(h:Ti C ι o σ K a w):Tw B C ι o σ K a w:=by
 intro next Q b
 obtain⟨v,x,c,e,f⟩:=h;unfold Oper.wp;rw[c w (.inr rfl),Oper.upon_value];exact b ι _ _ _ (d.put o.dst e) f (lI d)
theorem By(e:aJ B ι σ a w):∀(i:Nat)(l:ej)(ts:fe)(b:ei),qO C.P σ [] i l ts=some b->b=(l.map a.eval).map .val
 |i,[],ts,b,h=>by simp[qO]at h;grind
 |i,x::r,ts,b,h=>by
  simp only[qO]at h;split at h
  .cases h
  .rename_i d c;have f:=By e (i+1) r ts.tail d c;simp only[contains_nil]at h;split at h
   .rename_i u g;simp only[cw]at h;subst h;simp only[map_cons,(e.ev x).val? g,f]
   .cases h
theorem JJ:∀(l b:dj),M4 (l.map .val) b=(l++b).map .val
 |[],_=>rfl
 |v::l,b=>by simp only[map_cons,M4,JJ l b,cons_append]
theorem Sv{P:Program}{T:TypeId}{cs:dj}{ι:dv}:Den ι (mk P T (cs.map .val)) (valOf P T cs):=by
 unfold mk valOf;cases Bw P T with
 |true=>exact⟨_,rfl,by simpa using(iK.vals (ι:=ι)).2 rfl⟩
 |false=>match cs with
  |[]=>exact trivial
  |[x]=>exact rfl
  |_::_::_=>exact trivial
theorem arZ(q:aJ B ι σ a w){c:Call}{g:Operand}{T:TypeId}{f:FuncId}{E cs:Array Value}(X:o.op= .call c)(hc:c.callee= .value g)
 (hg:σ.ev g= .at (.val (.func (.func f) E cs)))(a':E.toList=[])(h:a0Z C o T f cs.toList c.args.toList σ K):Tw B C ι o σ K a w:=by
 intro next Q r
 unfold a0Z at h;split at h
 .rename_i a0 t;obtain⟨R,G,h⟩:=h;have H:=By q 0 _ _ _ t;subst H;rw[JJ]at G;have F:=q.wrel;obtain⟨Y,I,J,L⟩:=G.fn;have s:=G.go _ w rfl ⟨F.hsat,F.msat,F.disj⟩;have M:a.eval g= .func (.func f) E cs:=by have:=q.ev g;rw[hg]at this;exact this
  have u:E= #[]:=cg
  subst u;have n: #[]++c.args.map a.eval++cs=(c.args.toList.map a.eval++cs.toList).toArray:=cg
  have N:¬Y.body=none:=cg
  have O:¬Y.name= "runtime.NumGoroutine" :=cg
  have y:(execOp a.eval o).run C.P w= .ok (.enter f (c.args.toList.map a.eval++cs.toList).toArray) w:=by
   unfold execOp;simp only[X,resolve,hc,M,Deferred.ofValue,Sem.run_bind,Sem.run_pure,Result.andThen_ok,invoke,callFunc];rw[n];simp[program,Sem.run,I,O,N]
  unfold Oper.wp;rw[y,Oper.upon_enter];refine Calls.mono s ?_;rintro e Z ⟨l,m',h',rfl,⟨x,rfl,hx⟩,d⟩;show next (a.put o.dst (valOf C.P T ((C.dec T).enc x))) Z
  have S:vN ⟨w,λb=>σ.m b≠none,σ.h,[]⟩ m' h' Z:=
   ⟨d.tape,d.os,d.output,d.drawn,d.size,λb i z=>d.frame b i (Classical.byContradiction z),d.heapy.hsat,d.heapy.msat,d.heapy.disj,d.hle.le,λb i z=>d.hold b i (Classical.byContradiction z),λb U i=>d.mfr b U i⟩
  have V:=q.called S (λb i=>by
   cases hm:σ.m b with
   |none=>grind
   |some U=>exact F.mfr b U hm) (λj o' b hj i z=>z (q.fresh j o' b hj i).2.1)
  refine r ι _ _ _ (V.put o.dst Sv) (h x m' h' hx) ⟨λk p T a1 b hk _ hι=>?_,λb off v H=>d.heapy.hsat b off v (d.hle.le b off v H),λA=>?_,λl b _ i W _=>d.frame b i W⟩
  .have D:blk (ι k)=some b:=by rw[hι];rfl
   exact d.frame b (pB (q.own k _ hk) D) (q.fresh k _ b hk D).2.1
  .rw[X]at A;simp[zH]at A
 grind
theorem Ud(t:∀g S,assoc C.specs g=some S->Sound C.P g S)(e:aJ B ι σ a w)(h:Pg C o σ K):Tw B C ι o σ K a w:=by
 cases O:EI o.op with
 |true=>exact(aBJ e O h).stp e
 |false=>
  unfold Pg at h;cases j:o.op<;>simp only[j]at h O
  case alloc T=>
   intro next Q u
   refine VQ e j h next Q (λA J D E i p F=>?_)
   obtain⟨R,q,s,_⟩:=xP _ _ i p
   grind
  case box T x=>
   split at h
   .intro next Q u
    obtain⟨τ,m,G,H⟩:=nH _ _ e h;refine RN m j G next Q (λA J D E i p F=>?_)
    obtain⟨R,q,s,_⟩:=xP _ _ i p;exact u A R D E q s (F.of_fz H)
   .exact RN e j h
  case buildSlice T n ps=>
   intro next Q u
   refine K7 e j h next Q (λA J D E i p F=>?_)
   obtain⟨R,q,s,_⟩:=CB _ _ i p;obtain⟨σ3,U,V,_⟩:=nH _ _ q s
   grind
  case makeFunc f x W=>
   intro next Q u
   obtain⟨τ,m,G,a0⟩:=xP _ _ e h;obtain⟨v,x,N,X,G⟩:=lL m (λW b=>cg) G;unfold Oper.wp;rw[N w (.inr rfl),Oper.upon_value];exact u ι _ _ _ (m.put o.dst X) G (lI e)
  case store T x v=>
   cases L:o.dst with
   |none=>
    rw[L]at h;intro next Q u
    obtain⟨τ,m,G,H⟩:=nH _ _ e h;exact TK m j L G next Q (λA J D E i p F=>u A J D E i p (F.of_fz H))
   |some d=>grind
  case makeSlice T l c=>
   intro next Q u
   refine L3 e j h next Q (λA J D E i p F=>?_)
   obtain⟨R,q,s,_⟩:=CB _ _ i p
   grind
  case slice T x lo hi mx=>exact TP e j h
  case makeMap T r=>exact Pj e j h
  case lookup T x k ok=>exact Sz e j h
  case mapUpdate T x k v=>
   cases L:o.dst with
   |none=>
    rw[L]at h;have h:(match Ph C.heapT 400000 with|true=>Ji C T x k v σ K|false=>Ca C T x k v σ K):=h;split at h
    .exact Sy e j L h
    .exact L2 e j L h
   |some d=>grind
  case range T x=>exact T2 e j h
  case next x b=>exact Wq e j h
  case entry x=>exact VE e j h
  case call c=>
   obtain⟨z,args,M⟩:=c;cases z with
   |builtin b=>
    cases b<;>simp only[EI,Bool.true_eq_false]at O<;>simp only at h
    case append=>
     split at h
     .rename_i x y T tx X ht;intro next Q u
      refine S6 e j rfl X ht h next Q (λA J D E i p F=>?_)
      obtain⟨σ3,U,V,_⟩:=nH _ _ i p
      grind
     grind
    case cap=>exact(lL e (λW b=>cg) h).stp e
    all_goals exact h.elim
   |value g=>
    simp only at h;split at h
    .rename_i f fs W Z;split at h
     .split at h
      .rename_i I;exact arZ e j rfl Z I h
      grind
     .split at h
      .rename_i I Y;exact Yr t e j rfl Z I Y h
      grind
    grind
   |invoke r n=>exact h.elim
  all_goals (first|exact h.elim|(simp[EI]at O))
theorem Nc(c:aJ B ι σ a w){d:Nat}{xs:Array Value}(h:σ.ev (.tmp d)= .at (.val (.tuple xs))):a.tmps[d]? =none\/∃xs,a.tmps[d]? =some (.tuple xs):=by
 have b:=c.ev (.tmp d);rw[h]at b;have b:a.eval (.tmp d)= .tuple xs:=b;simp only[Act.eval,Array.getD_eq_getD_getElem?]at b
 grind
theorem Hb(c:aJ B ι σ a w){d:Nat}{t:Bool}(h:σ.ev (.tmp d)= .at (.val (.bool t))):a.tmps[d]? =some (.bool t):=by
 have b:=c.ev (.tmp d);rw[h]at b;have b:a.eval (.tmp d)= .bool t:=b;simp only[Act.eval,Array.getD_eq_getD_getElem?]at b;cases e:a.tmps[d]? with
 |none=>rw[e]at b;simp[undef]at b
 |some v=>grind
theorem aJ.setTmp(b:aJ B ι σ a w){c:Operand}{t:Bool}(h:σ.ev c= .at (.val (.bool t))):aJ B ι (setTmp σ c t) a w:=by
 cases c with
 |tmp d=>
  refine⟨?_,b.defers,b.own,b.dist,b.fresh,b.wrel,b.one⟩;have i:=Hb b h;have:=b.slots.set d (x:=.at (.val (.bool t))) (v:=.bool t) rfl;show DenS ι (σ.sl.set d _) a.tmps.toList
  have e:a.tmps.toList.set d (.bool t)=a.tmps.toList:=by
   apply ext_getElem?
   grind
  grind
 |const v=>exact b
 |global g=>exact b
 |func f=>exact b
theorem P7{c:Operand}{t:Bool}(h:σ.ev c= .at (.val (.bool t))):Fz σ (setTmp σ c t):=by
 cases c with
 |tmp d=>
  refine⟨λ_ _ _ i h=>⟨i,h⟩,λ_ _ _ h=>h,?_,?_,rfl⟩
  .intro x k off b;cases x with
   |tmp e=>
    simp only[Vc.setTmp,St.ev,yD]at b;simp only[St.ev]
    grind
   |const v=>exact b
   |global g=>exact b
   |func f=>exact b
  .intro x k b;cases x with
   |tmp e=>
    simp only[Vc.setTmp,St.ev,yD]at b;simp only[St.ev]
    grind
   |const v=>exact b
   |global g=>exact b
   |func f=>exact b
 |const v=>exact Fz.refl σ
 |global g=>exact Fz.refl σ
 |func f=>exact Fz.refl σ
def GWp(C:Ctx)(ops:Array Oper)(o:Oper)(a:Act)(w:World)(next:Act->World->Prop)(Q:Exit->Act->World->Prop):Prop:=
 if Region.wanted o (yielded ops a.tmps)then o.wp C.P a w next Q else next (a.put o.dst undef) w
theorem Pu{ops:Array Oper}{j d:Nat}{b t:Bool}{g:Oper}(e:o.guard=some (j,b))(c:nth ops.toList j=some g)(f:g.dst=some d)(h:a.tmps[d]? =some (.bool t)):
 Region.wanted o (yielded ops a.tmps)=(t==b):=by
 unfold Region.wanted;rw[e];rw[jI,dd]at c;simp[yielded,c,f,h]
theorem HR{ops:Array Oper}{j d:Nat}{b:Bool}{g:Oper}(f:o.guard=some (j,b))(e:nth ops.toList j=some g)(h:g.dst=some d)(c:a.tmps[d]? =none\/∃xs,a.tmps[d]? =some (.tuple xs)):
 Region.wanted o (yielded ops a.tmps)=false:=by
 unfold Region.wanted;rw[f];rw[jI,dd]at e;rcases c with c|⟨xs,c⟩<;>simp[yielded,e,h,c]
theorem Ce{f:Oper->St->(St->Prop)->Prop}{ops:Array Oper}(c:aJ B ι σ a w)(h:N4 f ops o σ K):
 ∃e,aJ B ι e a w/\Fz σ e/\((Region.wanted o (yielded ops a.tmps)=true/\f o e K)\/(Region.wanted o (yielded ops a.tmps)=false/\K (e.put o.dst (.at (.val undef))))):=by
 unfold N4 at h;split at h
 .rename_i i;exact⟨σ,c,Fz.refl σ,.inl ⟨by simp[Region.wanted,i],h⟩⟩
 .rename_i j m i;split at h
  .exact h.elim
  .rename_i g n;split at h
   .exact h.elim
   .rename_i d p;split at h
    .rename_i t b;have l:=Hb c b;have q:=Pu (o:=o) (a:=a) i n p l;rcases sE h with⟨rfl,h⟩|⟨rfl,h⟩
     .refine⟨setTmp σ (.tmp d) true,c.setTmp b,P7 b,?_⟩
      grind
     .refine⟨setTmp σ (.tmp d) false,c.setTmp b,P7 b,?_⟩
      grind
    .rename_i r b;exact⟨σ,c,Fz.refl σ,.inr ⟨HR i n p (Nc c b),h⟩⟩
    grind
theorem Ux(c:∀g S,assoc C.specs g=some S->Sound C.P g S){ops:Array Oper}(m:aJ B ι σ a w)(h:SH C ops o σ K)
 (next:Act->World->Prop)(Q:Exit->Act->World->Prop)(b:∀i e f w',aJ B i e f w'->K e->HO σ ι o w w'->next f w'):GWp C ops o a w next Q:=by
 obtain⟨s,d,j,n⟩:=Ce m h;unfold GWp;rcases n with⟨l,h⟩|⟨l,h⟩
 .rw[if_pos l];exact Ud c d h next Q (λi e f w' p q r=>b i e f w' p q (r.of_fz j))
 .rw[if_neg (by simp[l])];exact b ι _ _ _ (d.put o.dst (x:=.at (.val undef)) rfl) h (lI m)
theorem M9{P:Program}{next:Act->World->Prop}{Q:Exit->Act->World->Prop}(h:o.wp P a w next Q):o.wpIn Fence.wide 0 P a w next Q:=by
 refine⟨λ_ _=>trivial,?_⟩;show o.uponIn Fence.wide 0 P a next Q ((execOp a.eval o).run P w)
 unfold Oper.wp at h;cases b:(execOp a.eval o).run P w with
 |ok x g=>
  rw[b]at h;cases x with
  |value v=>exact h
  |skip=>exact h
  |defer d=>exact h
  |enter f args=>exact⟨λe=>by simp[Fence.wide]at e,callsIn_wide.2 h⟩
  |row r args=>
   refine⟨λe=>by simp[Fence.wide]at e,λc i _=>?_⟩;obtain⟨v,j,l,m⟩:=h c i;exact⟨v,j,l,stepsIn_wide.2 m⟩
  |_=>exact h.elim
 |halt x g=>
  rw[b]at h;cases x with
  |panic v=>exact h
  |_=>exact h.elim
def a4X(B:qE)(C:Ctx)(o:Oper)(K:St->Prop)(a:Act)(w:World):Prop:=
 ∀(next:Act->World->Prop)(Q:Exit->Act->World->Prop),(∀e b c d,aJ B e b c d->K b->next c d)->o.wpIn Fence.wide 0 C.P a w next Q
theorem TA(r:aJ B ι σ a w){c:Call}{g:Operand}{l:Nat}{D cs:Array Value}(N:o.op= .call c)(O:c.callee= .value g)
 (R:σ.ev g= .at (.val (.func (.yield l) D cs)))(T:D.toList=[])(U:cs.toList=[])(h:R4 C o (.func (.yield l) #[] #[]) c.args.toList σ K):a4X B C o K a w:=by
 intro next Q p
 unfold R4 at h;split at h
 .exact h.elim
 .rename_i S hS;split at h
  .rename_i V s;obtain⟨W,h⟩:=h;have X:=By r 0 _ _ _ s;subst X;have E:=r.wrel;obtain⟨Y,t,f,v,L,i⟩:=W.go l _ σ.m σ.h w _ h ⟨E.hsat,E.msat,E.disj⟩;have G:a.eval g= .func (.yield l) D cs:=by have:=r.ev g;rw[R]at this;exact this
   have y:D= #[]:=cg
   have z:cs= #[]:=cg
   subst y z;have F:c.args.map a.eval=(c.args.toList.map a.eval).toArray:=cg
   have q:(execOp a.eval o).run C.P w= .ok (.round l Y t f v) w:=by
    unfold execOp;simp only[N,resolve,O,G,Deferred.ofValue,Sem.run_bind,Sem.run_pure,Result.andThen_ok,invoke]
    grind
   refine⟨λ_ _=>trivial,?_⟩;show o.uponIn Fence.wide 0 C.P a next Q ((execOp a.eval o).run C.P w)
   rw[q,Oper.uponIn_round];refine⟨λe=>by simp[Fence.wide]at e,i.mono ?_⟩;rintro e M ⟨u,Z,h',rfl,hK,d⟩;show next (a.put o.dst u) M
   have H:vN ⟨w,λb=>σ.m b≠none,σ.h,[]⟩ Z h' M:=
    ⟨d.tape,d.os,d.output,d.drawn,d.size,λb n A=>d.frame b n (Classical.byContradiction A),d.heapy.hsat,d.heapy.msat,d.heapy.disj,d.hle.le,λb n A=>d.hold b n (Classical.byContradiction A),λb I n=>d.mfr b I n⟩
   have J:=r.called H (λb n=>by
    cases hm:σ.m b with
    |none=>grind
    |some I=>exact E.mfr b I hm) (λj o' b hj n A=>A (r.fresh j o' b hj n).2.1)
   exact p ι _ _ _ (J.put o.dst (x:=.at (.val u)) rfl) hK
  grind
theorem PS(b:∀g S,assoc C.specs g=some S->Sound C.P g S)(f:aJ B ι σ a w)(h:PT C o σ K):a4X B C o K a w:=by
 have i:Pg C o σ K->a4X B C o K a w:=λh next Q j=>M9 (Ud b f h next Q (λm n p q r s _=>j m n p q r s))
 unfold PT at h;split at h
 .rename_i c t;split at h
  .rename_i g u;split at h
   .rename_i l y z v;split at h
    .rename_i d e;exact TA f t u v d e h
    grind
   grind
  grind
 grind
theorem Pl(c:∀g S,assoc C.specs g=some S->Sound C.P g S){ops:Array Oper}(l:aJ B ι σ a w)(h:N4 (PT C) ops o σ K)
 (next:Act->World->Prop)(Q:Exit->Act->World->Prop)(b:∀m i j w',aJ B m i j w'->K i->next j w'):
 if Region.wanted o (yielded ops a.tmps)then o.wpIn Fence.wide 0 C.P a w next Q else(∀f,o.about C.P w a.eval=some f->Fence.wide.fn f)/\next (a.put o.dst undef) w:=by
 obtain⟨q,d,n,p⟩:=Ce l h;rcases p with⟨e,h⟩|⟨e,h⟩
 .rw[if_pos e];exact PS c d h next Q b
 .rw[if_neg (by simp[e])];exact⟨λ_ _=>trivial,b ι _ _ _ (d.put o.dst (x:=.at (.val undef)) rfl) h⟩
theorem Hg(b:∀g S,assoc C.specs g=some S->Sound C.P g S){ops:Array Oper}{Q:Exit->Act->World->Prop}{R:St->Prop}{rest:eh}(d:∀ι σ a w,aJ B ι σ a w->R σ->wpOpsIn Fence.wide 0 C.P ops Q rest a w):
 ∀(l:List Oper)(s:Nat)(ι:dv)(σ:St)(a:Act)(w:World),(∀j,j<l.length->l[j]? =ops.toList[s+j]?)->aJ B ι σ a w->PG C ops l σ R->wpOpsIn Fence.wide 0 C.P ops Q (range' s l.length++rest) a w
 |[],s,ι,σ,a,w,_,c,h=>d ι σ a w c h
 |o::l,s,ι,σ,a,w,e,c,h=>by
  have f:ops[s]? =some o:=by have:=e 0 (by simp);grind
  simp only[length_cons,range'_succ,cons_append,wpOpsIn,f]
  exact Pl b c h (wpOpsIn Fence.wide 0 C.P ops Q (range' (s+1) l.length++rest)) Q (λi m n p q r=>
   Hg b d l (s+1) i m n p (λj t=>by have:=e (j+1) (by grind);grind) q r)
end
end Go.Vc
namespace Go.Vc
open Go List
def Yd(P:Program)(ops:Array Oper)(w:World)(o:Oper)(v:Value)(a:Act):Prop:=
 (Region.wanted o (yielded ops a.tmps)=true/\(execOp a.eval o).run P w= .ok (.value v) w)\/(Region.wanted o (yielded ops a.tmps)=false/\v=undef)
def Aft(ops:Array Oper)(ok:Oper)(i:Nat):Prop:=waits ok i=true\/∃j b,ops[j]? =some b/\waits ok j=true/\waits b i=true
def YB(ops:Array Oper)(b:Oper):Prop:=∀(k:Nat)(ok:Oper)(d:Nat),ops[k]? =some ok->ok.dst=some d->d∈b.looksAt ops->waits b k=true
structure a9Q(ops:Array Oper)(i:Nat)(oi:Oper):Prop where
 mv:bjJ oi.op=true
 look:∀(k:Nat)(ok:Oper)(d:Nat),ops[k]? =some ok->ok.dst=some d->d∈oi.looksAt ops->Aft ops ok i
structure Ssa(ops:Array Oper):Prop where
 look:∀(i:Nat)(oi:Oper),ops[i]? =some oi->YB ops oi\/a9Q ops i oi
 dst:∀(i k:Nat)(oi ok:Oper)(d:Nat),ops[i]? =some oi->ops[k]? =some ok->ok.dst=some d->i≠k->oi.dst≠some d
 topo:∀(i:Nat)(oi:Oper)(k:Nat),ops[i]? =some oi->waits oi k=true->k<i
 sel:∀(j:Nat)(o:Oper) cs b,ops[j]? =some o->o.op≠ .select cs b
theorem Aft.in_{ops:Array Oper}{ok:Oper}{i:Nat}{L:Array Bool}(h:Aft ops ok i)(c:∀j,waits ok j=true->L.getD j false=true)(d:∀(j:Nat)(b:Oper),ops[j]? =some b->L.getD j false=true->∀k,waits b k=true->L.getD k false=true):L.getD i false=true:=by
 rcases h with h|⟨j,b,e,f,g⟩
 .grind
 grind
theorem Ssa.self{ops:Array Oper}(c:Ssa ops){k:Nat}{o:Oper}(b:ops[k]? =some o):∀d,o.dst=some d->d∉o.looksAt ops:=λd f g=>by
 rcases c.look k o b with h|h
 .have:=c.topo k o k b (h k o d b f g);omega
 .rcases h.look k o d b f g with e|⟨j,i,l,e,m⟩
  .have:=c.topo k o k b e;omega
  .have:=c.topo k o j b e;have:=c.topo j i k l m;omega
theorem aDX{P:Program}{o:Oper}(h:bjJ o.op=true):Aq P o=false:=by
 unfold Aq;cases e:o.op<;>simp_all [bjJ]
theorem JM{o:Oper}{k:Nat}:waits o k=true↔∃e∈o.after,Region.binds .any e=true/\e.on=k:=by
 unfold waits;rw[any_eq_true];constructor
 .rintro⟨e,b,h⟩;simp only[cz]at h;exact⟨e,cg,h.1,da h.2⟩
 .rintro⟨e,b,c,d⟩;exact⟨e,cg,by simp[c,d]⟩
theorem awJ{ops:Array Oper}(h:bJZ ops=true)(s:Region.noSelect ops=true):Ssa ops:=by
 unfold bJZ at h;simp only[all_eq_true,mem_range]at h;have l:∀{i:Nat}{m:Oper},ops[i]? =some m->i<ops.toList.length:=λf=>cg
 refine⟨?_,?_,?_,Region.noSelect_spec s⟩
 .intro i m f;have c:=h i (l f);rw[jI,dd,f]at c;simp only[cz,Bool.or_eq_true,all_eq_true,mem_range]at c;rcases c.2 with p|⟨t,p⟩
  .refine .inl λk ok d g n u=>?_;have b:=p k (l g);rw[jI,dd,g]at b
   grind
  .refine .inr ⟨t,λk ok d g n u=>?_⟩;have b:=p k (l g);rw[jI,dd,g]at b;simp only[n,Bool.or_eq_true,Bool.not_eq_true',contains_eq_mem,decide_eq_false_iff_not]at b;rcases b with b|b
   .grind
   .unfold bWX at b;simp only[Bool.or_eq_true,any_eq_true,cz]at b;rcases b with b|⟨⟨v,j⟩,E,y,z⟩
    .exact .inl b
    .refine .inr ⟨j,v,?_,y,z⟩
     grind
 .intro i k m ok d f g n q;have c:=h i (l f);rw[jI,dd,f]at c;simp only[cz,all_eq_true,mem_range]at c;have b:=c.1.2 k (l g);rw[jI,dd,g]at b;simp only[n,Bool.or_eq_true]at b;rcases b with b|b
  .exact(q (da b)).elim
  grind
 .intro i m k f A;have r:i<ops.toList.length:=cg
  have c:=h i r;rw[jI,dd,f]at c;simp only[cz,all_eq_true]at c;obtain⟨e,F,D,rfl⟩:=JM.1 A;have:=c.1.1 e cg;simp only[D,Bool.not_true,Bool.false_or]at this;rw[<-Nat.blt_eq];exact this
theorem vD{ops:Array Oper}{b:Array Bool}{j:Nat}:j∈Region.ready .any ops b↔b.getD j true=false/\∃o,ops[j]? =some o/\∀k,waits o k=true->b.getD k false=true:=by
 rw[mem_ready];constructor
 .rintro⟨c,o,d,f⟩;refine⟨c,o,d,λk i=>?_⟩;obtain⟨e,g,h,rfl⟩:=JM.1 i
  grind
 .rintro⟨c,o,d,f⟩;exact⟨c,o,d,λe g h=>f e.on (JM.2 ⟨e,g,h,rfl⟩)⟩
theorem SI{l:Array Bool}{i:Nat}(h:l.getD i true=false):l.getD i false=false/\i<l.size:=by
 grind
theorem tS{l:Array Bool}{i:Nat}(h:i<l.size):(l.setIfInBounds i true).getD i false=true:=by
 simp[Array.getD,h]
theorem HC{ops:Array Oper}{o:Oper}{c e:Act}(l:∀cs b,o.op≠ .select cs b)(h:∀t∈o.looksAt ops,c.tmps[t]? =e.tmps[t]?):
 execOp c.eval o=execOp e.eval o/\Region.wanted o (yielded ops c.tmps)=Region.wanted o (yielded ops e.tmps):=by
 constructor
 .refine execOp_congr o l λx m=>?_;cases x with
  |tmp t=>
   have:t∈o.looksAt ops:=mem_append_left _ (mem_filterMap.2 ⟨.tmp t,cg,rfl⟩);simp only[Act.eval,Array.getD_eq_getD_getElem?,h t this]
  |const v=>rfl
  |global g=>rfl
  |func f=>rfl
 .unfold Region.wanted;split
  .rfl
  .rename_i j i n
   have:yielded ops c.tmps j=yielded ops e.tmps j:=by
    unfold yielded;cases p:(ops[j]?).bind (·.dst)with
    |none=>rfl
    |some d=>
     have q:d∈o.looksAt ops:=by
      unfold Oper.looksAt
      grind
     grind
   rw[this]
theorem Mf{a:Act}{d:Option Tmp}{v:Value}{t:Nat}(h:d≠some t):(a.put d v).tmps[t]? =a.tmps[t]? :=by
 cases d with
 |none=>rfl
 |some e=>
  have:e≠t:=λx=>h (by rw[x]);simp[Act.put,Array.getElem?_setIfInBounds_ne this]
theorem bgZ(a:Act)(d:Option Tmp)(u v:Value):(a.put d u).put d v=a.put d v:=by
 cases d with
 |none=>rfl
 |some e=>simp[Act.put]
structure RR(P:Program)(ops:Array Oper)(L Cl:Array Bool)(ar ac:Act)(w:World):Prop where
 szL:L.size=ops.size
 szC:Cl.size=ops.size
 sub:∀i,L.getD i false=true->Cl.getD i false=true
 rd:∀(i:Nat)(o:Oper),ops[i]? =some o->Cl.getD i false=true->L.getD i false=false->EI o.op=true
 clC:∀(i:Nat)(o:Oper),ops[i]? =some o->Cl.getD i false=true->∀k,waits o k=true->Cl.getD k false=true
 clL:∀(i:Nat)(o:Oper),ops[i]? =some o->L.getD i false=true->∀k,waits o k=true->L.getD k false=true
 tsz:ar.tmps.size=ac.tmps.size
 df:ar.defers=ac.defers
 agree:∀t,(∀(i:Nat)(o:Oper),ops[i]? =some o->Cl.getD i false=true->L.getD i false=false->o.dst≠some t)->ar.tmps[t]? =ac.tmps[t]?
 pend:∀(i:Nat)(o:Oper),ops[i]? =some o->Cl.getD i false=true->L.getD i false=false->∃v,(YB ops o->∀w'',(Aq P o=false\/w''=w)->Yd P ops w'' o v ac)/\(a9Q ops i o->∀w'',Yd P ops w'' o v ar)/\ac.put o.dst v=ac
section
variable{P:Program}{ops:Array Oper}{L Cl:Array Bool}{ar ac:Act}{w:World}
theorem Yd.congr{o:Oper}{v:Value}{a b:Act}{w:World}(h:Yd P ops w o v a)(c:execOp b.eval o=execOp a.eval o)(d:Region.wanted o (yielded ops b.tmps)=Region.wanted o (yielded ops a.tmps)):Yd P ops w o v b:=by
 unfold Yd at*
 grind
theorem RR.looks(h:RR P ops L Cl ar ac w){o:Oper}(b:YB ops o)(c:∀k,waits o k=true->L.getD k false=true):∀t∈o.looksAt ops,ar.tmps[t]? =ac.tmps[t]? :=by
 intro t d;refine h.agree t (λk ok e _ g f=>?_);have:=c k (b k ok t e f d)
 grind
theorem RR.looks'(h:RR P ops L Cl ar ac w){i:Nat}{o:Oper}(b:a9Q ops i o)(g:Cl.getD i false=false):∀t∈o.looksAt ops,ar.tmps[t]? =ac.tmps[t]? :=by
 intro t e;refine h.agree t (λk ok d c _ f=>?_);have:=(b.look k ok t d f e).in_ (h.clC k ok d c) h.clC
 grind
theorem RR.stepA(r:Ssa ops)(h:RR P ops L Cl ar ac w){i:Nat}{o:Oper}(s:ops[i]? =some o)(J:Cl.getD i false=true)(y:∀k,waits o k=true->L.getD k false=true){v:Value}(q:ac.put o.dst v=ac):
 RR P ops (L.setIfInBounds i true) Cl (ar.put o.dst v) ac w:=by
 have n:i<L.size:=by rw[h.szL];grind
 have g:∀k,(L.setIfInBounds i true).getD k false=false->L.getD k false=false/\k≠i:=by
  intro k c;by_cases e:i=k
  .subst e;rw[tS n]at c;cases c
  .rw[getD_set_ne false e]at c;grind
 refine⟨cm h.szL,h.szC,?_,λk ok c f b=>h.rd k ok c f (g k b).1,h.clC,?_,?_,?_,?_,λk ok c f b=>?_⟩
 .intro k c;by_cases e:i=k
  .grind
  .rw[getD_set_ne false e]at c;exact h.sub k c
 .intro k ok c b j z;by_cases e:i=k
  .grind
  .rw[getD_set_ne false e]at b;exact getD_set_true (h.clL k ok c b j z)
 .rw[<-h.tsz];cases o.dst<;>simp[Act.put]
 .rw[<-h.df];cases o.dst<;>rfl
 .intro t A;by_cases e:o.dst=some t
  .rw[e]at q⊢
   rw[<-q];simp only[Act.put,Array.getElem?_setIfInBounds_self,h.tsz]
  .rw[Mf e];refine h.agree t (λk ok c f b=>?_);by_cases D:i=k
   .grind
   .exact A k ok c f (by rw[getD_set_ne false D];exact b)
 .obtain⟨u,E,F,G⟩:=h.pend k ok c f (g k b).1;refine⟨u,E,λl p=>?_,G⟩
  have m:∀d,o.dst=some d->d∉ok.looksAt ops:=λd H I=>by
   have:=(l.look i o d s H I).in_ y h.clL
   grind
  exact(F l p).congr (execOp_put ok (r.sel k ok · · c) ar o.dst v m) (wanted_put ok ar o.dst v m)
theorem RR.take(s:Ssa ops)(h:RR P ops L Cl ar ac w){k:Nat}{o:Oper}(q:ops[k]? =some o)(E:Cl.getD k false=false)(W:∀j,waits o j=true->Cl.getD j false=true)(R:EI o.op=true){v:Value}
 (O:∀c,(Aq P o=false\/c=w)->Yd P ops c o v ac):RR P ops L (Cl.setIfInBounds k true) ar (ac.put o.dst v) w:=by
 have F:k<Cl.size:=by rw[h.szC];grind
 have f:∀j,(Cl.setIfInBounds k true).getD j false=true->j=k\/Cl.getD j false=true:=by
  intro j y;by_cases e:k=j
  .omega
  .rw[getD_set_ne false e]at y;grind
 have G:L.getD k false=false:=by
  cases S:L.getD k false with
  |false=>rfl
  |true=>rw[h.sub k S]at E;cases E
 have r:∀j,Cl.getD j false=true->(Cl.setIfInBounds k true).getD j false=true:=by
  intro j y;exact getD_set_true y
 have z:=s.self q;refine⟨h.szL,cm h.szC,λi g=>r i (h.sub i g),?_,?_,h.clL,?_,?_,?_,?_⟩
 .intro i l g b m;rcases f i b with rfl|b
  .grind
  .exact h.rd i l g b m
 .intro i l g b j y;rcases f i b with rfl|b
  .grind
  .exact r j (h.clC i l g b j y)
 .rw[h.tsz];cases o.dst<;>simp[Act.put]
 .rw[h.df];cases o.dst<;>rfl
 .intro t Q;have e:o.dst≠some t:=Q k o q (tS F) G;rw[Mf e];exact h.agree t (λi l g b m=>Q i l g (r i b) m)
 .intro i l g b m;by_cases e:i=k
  .subst e;rw[q]at g;cases g;refine⟨v,λ_ c H=>(O c H).congr (execOp_put o (s.sel i o · · q) ac o.dst v z) (wanted_put o ac o.dst v z),λA c=>?_,bgZ _ _ _ _⟩;obtain⟨T,I⟩:=HC (s.sel i o · · q) (h.looks' A E);exact(O c (.inl (aDX A.mv))).congr T I
  .have n:=(f i b).resolve_left e;obtain⟨u,U,J,M⟩:=h.pend i l g n m;refine⟨u,λD c H=>?_,J,?_⟩
   .have p:∀d,o.dst=some d->d∉l.looksAt ops:=λd N V=>by
     have:=h.clC i l g n k (D k o d q N V)
     grind
    exact(U D c H).congr (execOp_put l (s.sel i l · · g) ac o.dst v p) (wanted_put l ac o.dst v p)
   rw[Act.put_comm ac v u (λd N=>s.dst i k l o d g q N e),M]
theorem TB{o:Oper}{i m:Act}{w:World}{b g:Act->World->Prop}{Q:Exit->Act->World->Prop}(p:execOp m.eval o=execOp i.eval o)(h:o.wp P i w b Q)
 (q:∀v w',b (i.put o.dst v) w'->g (m.put o.dst v) w')(s:∀d w',¬b (({i with defers:=d::i.defers}:Act).put o.dst undef) w')(t:∀c a w,¬Q (.panic c) a w):o.wp P m w g Q:=by
 unfold Oper.wp at*
 rw[p];generalize (execOp i.eval o).run P w=r at*
 cases r with
 |ok n w'=>
  cases n<;>simp only[Oper.upon]at h⊢
  case value u=>grind
  case skip=>grind
  case defer d=>grind
  case enter f args=>
   refine Calls.mono h λe j l=>?_
   grind
  case row row args=>exact Rows.mono h λu j l=>q u j l
 |halt x w'=>
  cases x<;>simp only[Oper.upon]at h⊢
  grind
theorem RR.stepB(H:Ssa ops)(h:RR P ops L Cl ar ac w){j:Nat}{o:Oper}(F:ops[j]? =some o)(T:Cl.getD j false=false)(Q:∀k,waits o k=true->L.getD k false=true)(u:Value)(w':World)
 (I:∀(i:Nat)(c:Oper)(v:Value),ops[i]? =some c->Cl.getD i false=true->L.getD i false=false->Yd P ops w c v ac->Yd P ops w' c v ac\/Aq P c=false):
 RR P ops (L.setIfInBounds j true) (Cl.setIfInBounds j true) (ar.put o.dst u) (ac.put o.dst u) w':=by
 have z:j<Cl.size:=by rw[h.szC];grind
 have A:j<L.size:=by rw[h.szL];grind
 have l:∀i,(Cl.setIfInBounds j true).getD i false=true->i=j\/Cl.getD i false=true:=by
  intro i b;by_cases e:j=i
  .omega
  .rw[getD_set_ne false e]at b;grind
 have m:∀i,(L.setIfInBounds j true).getD i false=false->i≠j/\L.getD i false=false:=by
  intro i b;by_cases e:j=i
  .subst e;rw[tS A]at b;cases b
  .rw[getD_set_ne false e]at b;grind
 have r:∀i,Cl.getD i false=true->(Cl.setIfInBounds j true).getD i false=true:=λi b=>getD_set_true b;refine⟨cm h.szL,cm h.szC,?_,?_,?_,?_,?_,?_,?_,?_⟩
 .intro i b;by_cases e:j=i
  .subst e;exact tS z
  .rw[getD_set_ne false e]at b;exact r i (h.sub i b)
 .intro i c b f g;obtain⟨n,p⟩:=m i g;exact h.rd i c b ((l i f).resolve_left n) p
 .intro i c b f k G;rcases l i f with rfl|f
  .rw[F]at b;cases b;exact r k (h.sub k (Q k G))
  .exact r k (h.clC i c b f k G)
 .intro i c b g k G;by_cases e:j=i
  .grind
  .rw[getD_set_ne false e]at g;exact getD_set_true (h.clL i c b g k G)
 .cases o.dst<;>simp[Act.put,h.tsz]
 .have:=h.df;cases o.dst<;>exact this
 .intro t R;by_cases e:o.dst=some t
  .rw[e];simp only[Act.put,Array.getElem?_setIfInBounds_self,h.tsz]
  .rw[Mf e,Mf e];refine h.agree t (λi c b f g=>R i c b (r i f) ?_);have n:j≠i:=λx=>cg
   rw[getD_set_ne false n];exact g
 .intro i c b f g;obtain⟨n,p⟩:=m i g;have s:=(l i f).resolve_left n;obtain⟨v,U,J,M⟩:=h.pend i c b s p;refine⟨v,λN y V=>?_,λD y=>?_,?_⟩
  .have q:∀d,o.dst=some d->d∉c.looksAt ops:=λd E O=>by
    have:=h.clC i c b s j (N j o d F E O)
    grind
   have S:Yd P ops y c v ac:=by
    grind
   exact S.congr (execOp_put c (H.sel i c · · b) ac o.dst u q) (wanted_put c ac o.dst u q)
  .have q:∀d,o.dst=some d->d∉c.looksAt ops:=λd E O=>by
    have:=(D.look j o d F E O).in_ Q h.clL
    grind
   exact(J D y).congr (execOp_put c (H.sel i c · · b) ar o.dst u q) (wanted_put c ar o.dst u q)
  .rw[Act.put_comm ac u v (λd E=>H.dst i j c o d b F E n),M]
end
section
variable{B:qE}{C:Ctx}{ι:dv}{σ:St}{a:Act}{w:World}
theorem TN{P:Program}{b:Bool}{σ:St}{c d:Oper}{K:Prop}(h:Lr P b σ c d K):Lr P b σ c d True/\K:=by
 unfold Lr at h⊢
 repeat' split at h
 all_goals first|exact h.elim|skip
 all_goals simp_all
theorem Nd{P:Program}{e:Bool}{ops:Array Oper}{b:Array Bool}{σ:St}{c:Oper}:∀(l:List Oper)(s:Nat){K:Prop},JO P e ops b σ c s l K->
 K/\∀(i:Nat)(d:Oper),l[i]? =some d->b.getD (s+i) false=true->EI d.op=true->waits c (s+i)=false->zA ops σ d=false->Lr P e σ c d True
 |[],s,K,h=>⟨h,λi d f=>by simp at f⟩
 |o::l,s,K,h=>by
  have key:(JO P e ops b σ c (s+1) l K)/\(b.getD s false=true->EI o.op=true->waits c s=false->zA ops σ o=false->Lr P e σ c o True):=by
   simp only[JO]at h;split at h
   .obtain⟨g,j⟩:=TN h
    grind
   grind
  obtain⟨m,n⟩:=Nd l (s+1) key.1
  grind
theorem TM{σ:St}{b c:Oper}{τ:St}{K:Prop}(h:H2 σ b c τ K):H2 σ b c τ True/\K:=by
 unfold H2 at h⊢
 repeat' split at h
 all_goals simp_all
theorem Lq{ops:Array Oper}{b:Array Bool}{σ:St}{c:Oper}{τ:St}:∀(l:List Oper)(s:Nat){K:Prop},FK ops b σ c τ s l K->
 K/\∀(i:Nat)(d:Oper),l[i]? =some d->b.getD (s+i) false=true->EI d.op=true->waits c (s+i)=false->zA ops σ d=false->H2 σ c d τ True
 |[],s,K,h=>⟨h,λi d e=>by simp at e⟩
 |o::l,s,K,h=>by
  have key:(FK ops b σ c τ (s+1) l K)/\(b.getD s false=true->EI o.op=true->waits c s=false->zA ops σ o=false->H2 σ c o τ True):=by
   simp only[FK]at h;split at h
   .obtain⟨f,g⟩:=TM h
    grind
   grind
  obtain⟨j,m⟩:=Lq l (s+1) key.1
  grind
theorem SC{ops:Array Oper}{c:Oper}(e:aJ B ι σ a w)(h:zA ops σ c=true):Region.wanted c (yielded ops a.tmps)=false:=by
 unfold zA at h;split at h
 .cases h
 .rename_i j f i;split at h
  .cases h
  .rename_i g l;split at h
   .cases h
   .rename_i d m;split at h
    .rename_i t b;rw[Pu i l m (Hb e b)]
     grind
    .rename_i n b;exact HR i l m (Nc e b)
    .cases h
theorem BA(m:aJ B ι σ a w){k:Nat}{p:Own}(c:nth σ.own k=some (some p)){b:Nat}(n:blk (ι k)=some b):∀{l:ej},GZ σ k l=true->∀x∈l,∀j,(σ.ev x= .at (.lst j)\/∃off,σ.ev x= .at (.ptr j off))->blk (ι j)≠some b
 |[],_,x,d=>by cases d
 |y::r,h,x,d=>by
  simp only[GZ,cz]at h;rcases mem_cons.1 d with rfl|d
  .intro j e g;have f:=h.1;rcases e with e|⟨off,e⟩
   all_goals
    simp only[e]at f;split at f
    .rename_i q i;have:=m.dist j k _ _ b i c g n;subst this;simp at f
    .cases f
  .exact BA m c n h.2 x d
theorem bhQ{ops:Array Oper}{fl:Bool}{oj R:Oper}{v:Value}{w':World}(z:aJ B ι σ a w)(Z:HO σ ι oj w w')(f:Lr C.P fl σ oj R True)(a':fl=true->∃τ:St,vN B τ.m τ.h w'/\H2 σ oj R τ True)(hy:Yd C.P ops w R v a):Yd C.P ops w' R v a\/Aq C.P R=false:=by
 unfold Lr at f;split at f
 .grind
 .left;rcases hy with⟨hw,b6⟩|hy
  .left;refine⟨hw,?_⟩;split at f
   .rename_i T x D;split at f
    .grind
    .rename_i hT;have t:=z.ev x
     have S:∀(b off:Nat)(F:dj),a.eval x= .pointer (some ⟨b,off,none⟩)->F.length=C.P.cellsOf T->(∀j u,F[j]? =some u->w.cell? ⟨b,off+j,none⟩=some u)->(∀j u,F[j]? =some u->w'.cell? ⟨b,off+j,none⟩=some u)->
      (execOp a.eval R).run C.P w'= .ok (.value v) w':=by
      intro b off F G U hc a6;have W:=zE hT U hc;have h2:=zE hT U a6
      have e1:(execOp a.eval R).run C.P w= .ok (.value (mkV C.P T F)) w:=by
       unfold execOp;simp only[D,G,Instr.loadAt,Instr.sureAddr,Sem.run_bind,Sem.run_pure,Result.andThen_ok,W]
      have e2:(execOp a.eval R).run C.P w'= .ok (.value (mkV C.P T F)) w':=by
       unfold execOp;simp only[D,G,Instr.loadAt,Instr.sureAddr,Sem.run_bind,Sem.run_pure,Result.andThen_ok,h2]
      grind
     split at f
     .rename_i k off G;rw[G]at t;split at f
      .rename_i p T' F q;split at f
       .rename_i ht a1;have a1:=Nat.le_of_ble_eq_true a1;obtain⟨b,vs,hι,hh,a9⟩:=vF z q;obtain⟨b',a0,b0⟩:=t;rw[hι]at a0;simp only[Value.pointer.injEq,cw,Addr.mk.injEq]at a0;obtain⟨rfl, -, -⟩:=a0;have a2:=Z.cells k p T' F b q ht hι;rw[hh]at a2;have b7:F.length=vs.toList.length:=a9.length;refine S b off ((vs.toList.drop off).take (C.P.cellsOf T)) b0 cg (λj u H=>?_) (λj u H=>?_)
        .rw[cell_of_heap hh];grind
        .rw[cell_of_heap a2];grind
       grind
      grind
     .rename_i b off d G hd;rw[G]at t;have t:a.eval x= .pointer (some ⟨b,off,none⟩):=t;split at f
      .rename_i F a3;split at f
       .rename_i l U;split at f
        .rename_i A;split at f
         .rename_i V;have hc:=Db z.wrel f.1;refine S b off l t (da A) hc (λj u H=>?_);have W:=hc j u H;cases I:zH oj.op with
          |false=>
           rw[I,Bool.false_or]at V;obtain⟨τ,b1,h2⟩:=a' V;unfold H2 at h2;simp only[D,G,hd,a3,U,I]at h2;exact Db b1 h2.1 j u H
          |true=>
          have V:=I;rw[<-W];exact World.cell?_of_block (w:=w) (w':=w') (a:=⟨b,off+j,none⟩) (Z.ext V b (World.block_lt_of_cell? w ⟨b,off+j,none⟩ W))
         .refine S b off l t (da A) (λj u H=>z.wrel.hsat _ _ _ (f.1.rd j u H)) (λj u H=>Z.imm _ _ _ (f.1.rd j u H))
        grind
       grind
      grind
     .rename_i k i sz off d G hd;rw[G]at t;split at f
      .rename_i E' s Q F q a3;split at f
       .rename_i l U hs r;have hs:=da hs;subst hs;split at f
        .rename_i A;obtain⟨e,he,b2⟩:=f.1;obtain⟨J,X⟩:=qY z q;obtain⟨b,n,c,hι,hp⟩:=t
         have y:∀b,blk (ι k)=some b->w'.heap[b]? =w.heap[b]? :=by
          intro b M;have N:=pB (z.own k _ q) M;unfold S7 at r;rw[Bool.or_eq_true]at r;rcases r with r|r
          .exact Z.ext r b N
          .split at r
           .rename_i l U;refine Z.args l b U N (z.fresh k _ b q M).2.1 ?_;exact BA z q M r
           grind
         have O:w'.ownsRow 0 E' s (ι k) Q.length Q.flatten:=((z.own k _ q).world (λb M=>y b M)).2
         have rd:∀Y:World,Y.ownsRow 0 E' s (ι k) Q.length Q.flatten->∀j u,l[j]? =some u->Y.cell? ⟨b,i*s+off+j,none⟩=some u:=by
          intro Y W j u H;rw[<-b2]at H;have b3:=PC H;have hf:=nI J.len he _ _ b3;have:=W.cells (g:=b) (by rw[hι];rfl) _ _ hf;rw[Addr.add_none]at this
          grind
         exact S b (i*s+off) l hp (da A) (rd w X) (rd w' O)
        grind
       grind
      grind
     grind
   .rename_i src b8 x D;have t:=z.ev x;split at f
    .rename_i k d G hd;rw[G]at t;have t:a.eval x=ι k:=t;split at f
     .rename_i E' sz Q s q hs;split at f
      .rename_i E a4 a5;split at f
       .rename_i hE;split at f
        .rename_i r;have b4:=f.1;obtain⟨J,X⟩:=qY z q;have b5:Q=bP s.data.toList:=b4
         have y:∀b,blk (ι k)=some b->w'.heap[b]? =w.heap[b]? :=by
          intro b M;have N:=pB (z.own k _ q) M;unfold S7 at r;rw[Bool.or_eq_true]at r;rcases r with r|r
          .exact Z.ext r b N
          .split at r
           .rename_i l U;refine Z.args l b U N (z.fresh k _ b q M).2.1 ?_;exact BA z q M r
           grind
         have O:w'.ownsRow 0 E' sz (ι k) Q.length Q.flatten:=((z.own k _ q).world (λb M=>y b M)).2
         have go:∀Y:World,Y.ownsRow 0 E' sz (ι k) Q.length Q.flatten->(execOp a.eval R).run C.P Y= .ok (.value (.string ⟨s.data.toList.toArray⟩)) Y:=by
          intro Y W;subst b5;exact Ev D a4 hE a5 t W
         grind
        grind
       grind
      grind
     grind
    grind
   grind
  .exact .inr hy
theorem RP{g:Nat->Prop}:∀{l:eh},a3Q g l->∀j∈l,g j
 |[],_,j,b=>by cases b
 |[i],h,j,b=>by simp at b;subst b;exact h
 |i::k::r,h,j,b=>by
  rcases mem_cons.1 b with rfl|b
  .exact h.1
  .exact RP h.2 j b
theorem Ed{ops:Array Oper}:∀{l:eh}{i:Nat}{o:Oper},GB ops l=some (i,o)->i∈l/\ops[i]? =some o/\EI o.op=true
 |[],i,o,h=>by simp[GB]at h
 |k::r,i,o,h=>by
  simp only[GB]at h;split at h
  .rename_i ok b;split at h
   .rename_i e;simp only[cw,Prod.mk.injEq]at h;obtain⟨rfl,rfl⟩:=h;rw[jI,dd]at b
    grind
   .obtain⟨c,d⟩:=Ed h
    grind
  .obtain⟨c,d⟩:=Ed h
   grind
def tP(ops:Array Oper)(L:Array Bool):Nat:=((List.range ops.size).filter λi=> !L.getD i false).length
theorem HV{ops:Array Oper}{L:Array Bool}{i:Nat}(d:L.size=ops.size)(h:i<ops.size)(m:L.getD i false=false):tP ops (L.setIfInBounds i true)+1=tP ops L:=by
 unfold tP
 have key:∀(l:eh),l.Nodup->(l.filter λj=> !(L.setIfInBounds i true).getD j false).length+(if i∈l then 1 else 0)=(l.filter λj=> !L.getD j false).length:=by
  intro l
  induction l with
  |nil=>grind
  |cons j r f=>
   intro c;have b:=nodup_cons.1 c;have:=f b.2;by_cases e:i=j
   .subst e;have g:(L.setIfInBounds i true).getD i false=true:=tS aC
    grind
   .have g:(L.setIfInBounds i true).getD j false=L.getD j false:=getD_set_ne false e
    grind
 grind
theorem K9{ops:Array Oper}{L:Array Bool}(c:Ssa ops)(f:L.size=ops.size)(h:Region.ready .any ops L=[]):∀i,i<ops.size->L.getD i false=true:=by
 intro i
 induction i using Nat.strongRecOn with
 |_ i g=>
  intro d;cases j:L.getD i false with
  |true=>rfl
  |false=>
   exfalso;have b:ops[i]? =some ops[i]:=Array.getElem?_eq_getElem d
   have:i∈Region.ready .any ops L:=by
    rw[vD];refine⟨?_,_,b,λk e=>g k (c.topo i _ k b e) (Nat.lt_trans (c.topo i _ k b e) d)⟩
    grind
   grind
theorem CK{ops:Array Oper}{L:Array Bool}(h:∀i,i<ops.size->L.getD i false=true):Region.ready .any ops L=[]:=by
 cases b:Region.ready .any ops L with
 |nil=>rfl
 |cons i r=>
  exfalso;have:i∈Region.ready .any ops L:=cg
  obtain⟨c,o,d,_⟩:=vD.1 this
  grind
theorem RR.eq_of_all{P:Program}{ops:Array Oper}{L Cl:Array Bool}{ar ac:Act}(h:RR P ops L Cl ar ac w)(b:∀i,i<ops.size->L.getD i false=true):ar=ac:=by
 have c:ar.tmps=ac.tmps:=by
  apply Array.ext_getElem?;intro t;refine h.agree t (λi o d _ e=>?_)
  grind
 have f:=h.df;cases ar;cases ac
 grind
theorem atJ{ops:Array Oper}{R:St->Prop}{n:Nat}{Cl:Array Bool}(h:Ck C ops n Cl σ R)(b:Region.ready .any ops Cl=[]):R σ:=by
 cases n<;>simp only[Ck,b]at h<;>exact h
theorem VS{ops:Array Oper}{b:Array Bool}{σ:St}{d:Oper}{τ:St}{K:Prop}(h:JI C ops b σ d τ K):
 (Yy C=true->∀(i:Nat)(c:Oper),ops.toList[i]? =some c->b.getD (0+i) false=true->EI c.op=true->waits d (0+i)=false->zA ops σ c=false->H2 σ d c τ True)/\K:=by
 unfold JI at h;split at h
 .rename_i e;obtain⟨f,g⟩:=Lq _ 0 h
  grind
 grind
theorem RO(E:∀g S,assoc C.specs g=some S->Sound C.P g S){ops:Array Oper}(F:Ssa ops){Q:Exit->Act->World->Prop}{R:St->Prop}(hQ:∀ι σ a w,aJ B ι σ a w->R σ->Q .normal a w)
 (b0:∀c a w,¬Q (.panic c) a w):
 ∀(n:Nat)(b:Nat)(Cl:Array Bool)(ι:dv)(σ:St)(ac:Act)(w:World),aJ B ι σ ac w->Ck C ops n Cl σ R->∀(L:Array Bool)(ar:Act),RR C.P ops L Cl ar ac w->tP ops L=b->
  wpAny C.P .any ops Q b L ar w:=by
 have fin:∀(n:Nat)(Cl:Array Bool)(ι:dv)(σ:St)(ac:Act)(w:World),aJ B ι σ ac w->Ck C ops n Cl σ R->∀(L:Array Bool)(ar:Act),RR C.P ops L Cl ar ac w->Region.ready .any ops L=[]->Q .normal ar w:=by
  intro n Cl ι σ ac w m h L ar f hr;have p:=K9 F f.szL hr;rw[f.eq_of_all p];exact hQ ι σ ac w m (atJ h (CK (λi s=>f.sub i (p i s))))
 have zero:∀(n:Nat)(Cl:Array Bool)(ι:dv)(σ:St)(ac:Act)(w:World),aJ B ι σ ac w->Ck C ops n Cl σ R->∀(L:Array Bool)(ar:Act),RR C.P ops L Cl ar ac w->tP ops L=0->wpAny C.P .any ops Q 0 L ar w:=by
  intro n Cl ι σ ac w m h L ar f O
  have p:∀i,i<ops.size->L.getD i false=true:=by
   intro i s;unfold tP at O;have c0:=eq_nil_of_length_eq_zero O;cases hL:L.getD i false with
   |true=>rfl
   |false=>
    have:i∈(List.range ops.size).filter λi=> !L.getD i false:=mem_filter.2 ⟨mem_range.2 s,by simp[hL]⟩
    grind
  have hr:=CK p;exact⟨hr,fin n Cl ι σ ac w m h L ar f hr⟩
 have b1:∀(n b:Nat),(∀(Cl:Array Bool)(ι:dv)(σ:St)(ac:Act)(w:World),aJ B ι σ ac w->Ck C ops n Cl σ R->∀(L:Array Bool)(ar:Act),RR C.P ops L Cl ar ac w->tP ops L=b->wpAny C.P .any ops Q b L ar w)->
  ∀(Cl:Array Bool)(ι:dv)(σ:St)(ac:Act)(w:World),aJ B ι σ ac w->Ck C ops n Cl σ R->∀(L:Array Bool)(ar:Act),RR C.P ops L Cl ar ac w->tP ops L=b+1->
   ∀i∈Region.ready .any ops L,Cl.getD i false=true->wpOp C.P ops Q i (wpAny C.P .any ops Q b (L.setIfInBounds i true)) ar w:=by
  intro n b ih Cl ι σ ac w m h L ar f O i s Z;obtain⟨G,o,q,J⟩:=vD.1 s;obtain⟨hL,b2⟩:=SI G;obtain⟨v,hv,c2,b3⟩:=f.pend i o q Z hL
  have hy:Yd C.P ops w o v ar:=by
   rcases F.look i o q with H|c3
   .obtain⟨he,T⟩:=HC (F.sel i o · · q) (f.looks H J);exact(hv H w (.inr rfl)).congr he T
   grind
  have b4:wpAny C.P .any ops Q b (L.setIfInBounds i true) (ar.put o.dst v) w:=
   ih Cl ι σ ac w m h _ _ (f.stepA F q Z J b3) (by have:=HV f.szL cg hL;omega)
  unfold wpOp;simp only[q];rcases hy with⟨l,t⟩|⟨l,rfl⟩
  .rw[if_pos l];left;unfold Oper.wp;rw[t,Oper.upon_value];omega
  grind
 intro n
 induction n with
 |zero=>
  intro b
  induction b with
  |zero=>grind
  |succ b b5=>
   intro Cl ι σ ac w m h L ar f O;refine⟨fin 0 Cl ι σ ac w m h L ar f,λi s=>?_⟩;cases Z:Cl.getD i false with
   |true=>grind
   |false=>
    exfalso;obtain⟨G,o,q,J⟩:=vD.1 s
    have a0:i∈Region.ready .any ops Cl:=by
     rw[vD];refine⟨?_,o,q,λk hk=>f.sub k (J k hk)⟩;have:i<Cl.size:=by rw[f.szC];grind
     grind
    simp only[Ck]at h
    grind
 |succ n U=>
  intro b
  induction b with
  |zero=>grind
  |succ b b5=>
   intro Cl ι σ ac w m h L ar f O;refine⟨fin (n+1) Cl ι σ ac w m h L ar f,λi s=>?_⟩;cases Z:Cl.getD i false with
   |true=>grind
   |false=>
    obtain⟨G,o,q,J⟩:=vD.1 s;obtain⟨b6,b2⟩:=SI G
    have a0:i∈Region.ready .any ops Cl:=by
     rw[vD];refine⟨?_,o,q,λk hk=>f.sub k (J k hk)⟩;have:i<Cl.size:=by rw[f.szC];grind
     grind
    simp only[Ck]at h;split at h
    .grind
    .split at h
     ·
      rename_i k ok b7;obtain⟨b8,V,y⟩:=Ed b7;obtain⟨a1,c4,M,a2⟩:=vD.1 b8;rw[V]at M;cases M;obtain⟨a3,c1⟩:=SI a1;obtain⟨σ1,W,c5,hc⟩:=Ce m h;rcases hc with⟨l,h⟩|⟨l,h⟩
      .obtain⟨v,x,t,hx,hK⟩:=aBJ W y h;have z:=f.take F V a3 a2 y (v:=v) (λa4 a5=>.inl ⟨l,t a4 a5⟩);exact(U (b+1) _ ι _ _ w (W.put ok.dst hx) hK L ar z O).2 i s
      .have z:=f.take F V a3 a2 y (v:=undef) (λa4 _=>.inr ⟨l,rfl⟩);exact(U (b+1) _ ι _ _ w (W.put ok.dst (x:=.at (.val undef)) rfl) h L ar z O).2 i s
     ·
      have hg:=RP h i a0;split at hg
      .rename_i o' a6;rw[jI,dd,q]at a6;cases a6;obtain⟨hg,X⟩:=Nd _ 0 hg;obtain⟨he,T⟩:=HC (F.sel i o · · q) ((F.look i o q).elim (f.looks · J) (f.looks' · Z));have Y:=Ux E m hg (λa' A=>∃N r,aJ B N r a' A/\JI C ops Cl σ o r (Ck C ops n (Cl.setIfInBounds i true) r R)/\HO σ ι o w A) Q (λN r a' A h1 h2 h3=>⟨N,r,h1,h2,h3⟩)
       have hB:∀(u:Value)(A:World),(∃N r,aJ B N r (ac.put o.dst u) A/\JI C ops Cl σ o r (Ck C ops n (Cl.setIfInBounds i true) r R)/\HO σ ι o w A)->
        wpAny C.P .any ops Q b (L.setIfInBounds i true) (ar.put o.dst u) A:=by
        rintro u A ⟨N,r,I,h',b9⟩;obtain⟨c',h'⟩:=VS h';refine U b _ N r _ A I h' _ _ (f.stepB F q Z J u A ?_) (by have:=HV f.szL cg b6;omega);intro j oj v hj a9 b' hy;cases D:zA ops σ oj with
        |true=>
         have:=SC m D;rcases hy with⟨h1,_⟩|h1
         .grind
         .exact .inl (.inr h1)
        |false=>
         have c6:waits o j=false:=by
          grind
         have H:=X j oj cg cg (f.rd j oj hj a9 b') cg D;exact bhQ m b9 H (λe=>⟨r,I.wrel,c' e j oj cg cg (f.rd j oj hj a9 b') cg D⟩) hy
       unfold GWp at Y;unfold wpOp;simp only[q];rw[T];split
       .rename_i l;rw[if_pos l]at Y;left;refine TB he Y hB ?_ b0;rintro d A ⟨N,r,I,_⟩;have:=I.defers;rw[<-m.defers]at this;cases hd:o.dst<;>simp[Act.put,hd]at this
       grind
      grind
end
end Go.Vc
namespace Go.Vc
open Go List
section
variable{B:qE}{C:Ctx}{ι:dv}{σ:St}{a:Act}{w:World}
theorem yX:∀{xs e:fd}{vs:dj}{K:Prop},B9 xs e K->DenS ι xs vs->DenS ι e vs/\K
 |[],[],vs,K,h,b=>⟨b,h⟩
 |x::xs,y::e,[],K,_,b=>b.elim
 |x::xs,y::e,v::vs,K,h,b=>by
  unfold B9 at h;split at h
  .grind
  .rename_i i f g c d;simp only[List.cons.injEq]at c d;obtain⟨rfl,rfl⟩:=c;obtain⟨rfl,rfl⟩:=d;have:=yX h b.2;exact⟨⟨trivial,this.1⟩,this.2⟩
  .rename_i i f j g _ c d;simp only[List.cons.injEq]at c d;obtain⟨rfl,rfl⟩:=c;obtain⟨rfl,rfl⟩:=d;obtain⟨rfl,h⟩:=h;have:=yX h b.2;exact⟨⟨b.1,this.1⟩,this.2⟩
  grind
 |[],_::_,_,K,h,_=>by simp[B9]at h
 |_::_,[],_,K,h,_=>by simp[B9]at h
theorem wW:∀{xs c:fa}{K:Prop},wX xs c K->(∀k o,nth c k=some (some o)->nth xs k=some (some o))/\K
 |[],[],K,h=>⟨λk o b=>by omega,h⟩
 |x::xs,none::c,K,h=>by
  simp only[wX]at h;obtain⟨d,e⟩:=wW h;refine⟨λk o b=>?_,e⟩;cases k with
  |zero=>simp[nth]at b
  |succ k=>exact d k o b
 |x::xs,some y::c,K,h=>by
  simp only[wX]at h;obtain⟨rfl,h⟩:=h;obtain⟨d,e⟩:=wW h;refine⟨λk o b=>?_,e⟩;cases k with
  |zero=>exact b
  |succ k=>exact d k o b
 |[],_::_,K,h=>by simp[wX]at h
 |_::_,[],K,h=>by simp[wX]at h
theorem aJ.setSlot(b:aJ B ι σ a w){i:Nat}{x:SV}{v:Value}(c:a.tmps[i]? =some v)(hx:Den ι x v):aJ B ι (σ.put (some i) x) a w:=by
 refine⟨?_,b.defers,b.own,b.dist,b.fresh,b.wrel,b.one⟩;have:=b.slots.set i hx;show DenS ι (σ.sl.set i x) a.tmps.toList
 have e:a.tmps.toList.set i v=a.tmps.toList:=by
  apply ext_getElem?
  grind
 grind
theorem aJ.nilList(c:aJ B ι σ a w)(k E sz:Nat):aJ B (upd ι k (.slice none 0 0)) ((σ.kill k).setOwn k (some (.lst E sz []))) a w:=by
 refine c.place k _ _ (CY.refl _ _) ⟨Hi sz,World.ownsRow_nil w 0 E sz⟩ rfl (λb d=>by simp[blk]at d)
theorem sW(τ:St):∀(c:fd)(i:Nat)(ι:dv)(σ:St),aJ B ι σ a w->∃g,aJ B g (SU τ c i σ) a w
 |[],i,ι,σ,b=>⟨ι,b⟩
 |y::c,i,ι,σ,b=>by
  simp only[SU];split
  .rename_i k;split
   .rename_i e;split
    .rename_i E h j l m
     have d:a.tmps[i]? =some (.slice none 0 0):=by
      rw[jI]at e;obtain⟨v,d,f⟩:=b.slots.get i _ e;rw[dd]at d;have f:v= .slice none 0 0:=f
      grind
     exact sW τ c (i+1) _ _ ((b.nilList k E h).setSlot d (x:=.at (.lst k)) (by show _=_;simp))
    .exact sW τ c (i+1) ι σ b
   .exact sW τ c (i+1) ι σ b
  .exact sW τ c (i+1) ι σ b
theorem mX(τ:St)(q:Nat):∀(f:dz)(j:Nat)(ι:dv)(σ:St),aJ B ι σ a w->∃A,aJ B A (GQ τ q f j σ) a w
 |[],j,ι,σ,d=>⟨ι,d⟩
 |y::f,j,ι,σ,d=>by
  simp only[GQ];split
  .rename_i k;split
   .rename_i p T D s;split
    .rename_i t;split
     .rename_i E l N O Q;have g:q≠k:=λe=>cg
      have m:=d.nilList k E l
      have c:nth ((σ.kill k).setOwn k (some (.lst E l []))).own q=some (some (.cellsP p T (D.map (At.sub k (λ_=>.junk))))):=by
       simp only[MW,St.setOwn,St.sub,yD,Ay,g,false_and,if_false,s];rfl
      obtain⟨b,i,u,F,G⟩:=vF m c
      have H:i.toList[j]? =some (.slice none 0 0):=by
       obtain⟨R,I,n,J,r⟩:=vF d s;rw[jI]at t;obtain⟨v,S,h⟩:=r.get j _ t;have h:v= .slice none 0 0:=h;rw[oN _ _ g,n]at u
       grind
      have z:i.toList.set j (.slice none 0 0)=i.toList:=by
       apply ext_getElem?
       grind
      have M:aJ B (upd ι k (.slice none 0 0)) (Hf ((σ.kill k).setOwn k (some (.lst E l []))) q j (.lst k)) a w:=by
       unfold Hf;rw[c];refine m.rewrite c (CY.refl _ _) ⟨b,i,u,F,?_,λU e=>by subst e;have:=Y2 m c;grind⟩;have:=G.set j (x:=.lst k) (v:=.slice none 0 0) (by show _=_;simp)
       grind
      exact mX τ q f (j+1) _ _ M
     .exact mX τ q f (j+1) ι σ d
    .exact mX τ q f (j+1) ι σ d
   .exact mX τ q f (j+1) ι σ d
  .exact mX τ q f (j+1) ι σ d
theorem zB(τ:St):∀(b:fa)(q:Nat)(ι:dv)(σ:St),aJ B ι σ a w->∃d,aJ B d (M0 τ b q σ) a w
 |[],q,ι,σ,c=>⟨ι,c⟩
 |y::b,q,ι,σ,c=>by
  simp only[M0];split
  .rename_i T f;obtain⟨d,e⟩:=mX τ q f 0 ι σ c;exact zB τ b (q+1) d _ e
  .exact zB τ b (q+1) ι σ c
theorem lA{τ:St}{K:Prop}(s:aJ B ι σ a w)(h:wV σ τ K):∃t,aJ B t τ a w/\K:=by
 obtain⟨u,f⟩:=sW τ τ.sl 0 ι σ s;obtain⟨m,c⟩:=zB τ τ.own 0 u _ f;have c:aJ B m (conv σ τ) a w:=c;unfold wV at h;obtain⟨g,h⟩:=yX h c.slots;obtain⟨d,n,p,v⟩:=wW h;refine⟨m,⟨g,c.defers,λk o e=>c.own k o (d k o e),λk q o r b e i j l=>c.dist k q o r b (d k o e) (d q r i) j l,?_,?_,c.one⟩,v⟩
 .intro k o b e j;rw[<-n, <-p];exact c.fresh k o b (d k o e) j
 .rw[<-n, <-p];exact c.wrel
theorem aJ.froze(j:aJ B ι σ a w){m2:MH}{g:PH}(f:Av σ.m σ.h m2 g):aJ B ι {σ with m:=m2,h:=g} a w:=by
 have c:=j.wrel;refine⟨j.slots,j.defers,j.own,j.dist,λk o b t u=>?_,?_,j.one⟩
 .obtain⟨y,s,G⟩:=j.fresh k o b t u;refine⟨y,?_,λi=>?_⟩
  .show m2 b=none;cases l:m2 b with
   |none=>rfl
   |some o=>rw[f.sub b o l]at s;cases s
  .show g b i=none;cases l:g b i with
   |none=>rfl
   |some v=>
    rcases f.new b i v l with d|⟨n,E,p,d,_,_⟩
    .grind
    grind
 .refine⟨c.tape,c.os,c.output,c.drawn,c.size,c.frame,λb o v e=>?_,λb o e=>c.msat b o (f.sub b o e),λb o e i=>?_,λb o v e=>f.le.le b o v (c.hle b o v e),λb z q=>?_,λb o e=>c.mfr b o (f.sub b o e)⟩
  .rcases f.new b o v e with d|⟨n,E,p,d,r,_⟩
   .exact c.hsat b o v d
   .rw[cell_of_heap (c.msat b _ d),dd];exact r
  .show g b i=none;have e:m2 b=some o:=e;cases l:g b i with
   |none=>rfl
   |some v=>
    rcases f.new b i v l with d|⟨n,E,p,d,r,A⟩
    .rw[c.disj b o (f.sub b o e) i]at d;cases d
    grind
  .funext i;have e:=congrFun (c.hold b z q) i;show g b i=B.h0 b i;cases l:B.h0 b i with
   |some v=>exact f.le.le b i v (c.hle b i v l)
   |none=>
    cases D:g b i with
    |none=>rfl
    |some v=>
     rcases f.new b i v D with d|⟨n,E,p,d,r,A⟩
     .grind
     .rcases c.mfr b _ d with F|F
      .omega
      grind
theorem Jh{τ:St}{K:Prop}(r:aJ B ι σ a w)(h:Sx σ τ K):∃s,aJ B s τ a w/\K:=by
 obtain⟨t,g⟩:=sW τ τ.sl 0 ι σ r;obtain⟨n,c⟩:=zB τ τ.own 0 t _ g;have c:aJ B n (conv σ τ) a w:=c;unfold Sx at h;obtain⟨i,h⟩:=yX h c.slots;obtain⟨d,u,v⟩:=wW h;have e:=c.froze u;exact⟨n,⟨i,c.defers,λk o f=>c.own k o (d k o f),λk p o q b f j l m=>c.dist k p o q b (d k o f) (d p q j) l m,λk o b f l=>e.fresh k o b (d k o f) l,e.wrel,c.one⟩,v⟩
theorem zF{c:sG}{R:c.A->Prop}(b:aJ B ι σ a w)(h:Ic c R σ):∃x f,R x/\aJ B f (c.st x) a w:=by
 unfold Ic at h;split at h
 .obtain⟨x,g,d⟩:=h;obtain⟨i,e,_⟩:=lA b d
  grind
 .obtain⟨x,g,d⟩:=h ⟨b.wrel.disj⟩;obtain⟨i,e,_⟩:=Jh b d
  grind
theorem LU{c:sG}{I S:c.A->Prop}(b:aJ B ι σ a w)(h:S9 c I S σ):∃x f,I x/\S x/\aJ B f (c.st x) a w:=by
 unfold S9 at h;split at h
 .obtain⟨x,g,i,d⟩:=h;obtain⟨j,e,_⟩:=lA b d
  grind
 .obtain⟨x,g,i,d⟩:=h ⟨b.wrel.disj⟩;obtain⟨j,e,_⟩:=Jh b d
  grind
def QD(B:qE)(Q:zO->St->Prop):Exit->Act->World->Prop
 |.normal,a,w=>∃ι σ,aJ B ι σ a w/\Q .normal σ
 |.exit id,a,w=>∃ι σ,aJ B ι σ a w/\Q (.exit id) σ
 |.ret,a,w=>∃ι σ,aJ B ι σ a w/\Q .ret σ
 |_,_,_=>False
theorem JS(b:∀g S,assoc C.specs g=some S->Sound C.P g S){ops:Array Oper}{Q:zO->St->Prop}:
 ∀(c:em)(l:List Oper)(s:Nat)(ι:dv)(σ:St)(a:Act)(w:World),(∀j,l[j]? =ops.toList[s+j]?)->aJ B ι σ a w->YT C ops c l σ (Q .normal)->wpOpsIn Fence.wide 0 C.P ops (QD B Q) (range' s l.length) a w
 |[],l,s,ι,σ,a,w,e,d,h=>by
  have:=Hg b (ops:=ops) (Q:=QD B Q) (R:=Q .normal) (rest:=[]) (λι σ a w d h=>⟨ι,σ,d,h⟩) l s ι σ a w (λj _=>e j) d h
  grind
 |(n,f)::c,l,s,ι,σ,a,w,e,d,h=>by
  obtain⟨I,q,r⟩:=h
  have:=Hg b (ops:=ops) (Q:=QD B Q) (R:=λτ=>∃x,I x/\wV τ (f.st x) True) (rest:=range' (s+(l.take n).length) (l.drop n).length) (λz A t u i m=>by
   obtain⟨x,m,v⟩:=m;obtain⟨y,p,_⟩:=lA i v;refine JS b c (l.drop n) (s+(l.take n).length) y _ t u (λj=>?_) p (r x m);rw[getElem?_drop,e];by_cases D:n<=l.length
   .grind
   .have E:l[n+j]? =none:=getElem?_eq_none aC;have F:l[l.length+j]? =none:=getElem?_eq_none aC
    grind) (l.take n) s ι σ a w (λj G=>by
    grind) d q
  grind
theorem HS(r:∀g S,assoc C.specs g=some S->Sound C.P g S):∀(c:Code)(σ:St)(Q:zO->St->Prop)(ι:dv)(a:Act)(w:World),aJ B ι σ a w->VC C c σ Q->c.wp C.P (QD B Q) a w:=by
 intro c
 induction c with
 |skip=>intro σ Q ι a w d h;exact wp_skip ⟨ι,σ,d,h⟩
 |label l=>intro σ Q ι a w d h;exact wp_label ⟨ι,σ,d,h⟩
 |exit id=>intro σ Q ι a w d h;exact wp_exit ⟨ι,σ,d,h⟩
 |ret=>intro σ Q ι a w d h;exact wp_ret ⟨ι,σ,d,h⟩
 |goto l=>intro σ Q ι a w d h;exact h.elim
 |refuse a3=>intro σ Q ι a w d h;exact h.elim
 |scope a2 T=>intro σ Q ι a w d h;exact h.elim
 |rangeFunc f ps x y s G=>intro σ Q ι a w d h;exact h.elim
 |region id ops U=>
  intro σ Q ι a w d h;cases U with
  |false=>
   refine(wpIn_wide (n:=0)).1 (wpIn_region ?_);have:=JS r (ops:=ops) (Q:=Q) (JR C id) ops.toList 0 ι σ a w (λj=>bx) d h;rw[range_eq_range'];omega
  |true=>
   simp only[VC]at h;split at h
   .rename_i h1 h2 h3;have hs:=awJ h1 h2;refine wp_region_any h3 ?_;refine RO r hs (Q:=QD B Q) (R:=Q .normal) (λι σ a w d h=>⟨ι,σ,d,h⟩) (λc a w h=>h) ops.size ops.size _ ι σ a _ (d.drew (w.drawn+1) (Nat.le_succ _)) h _ a ?_ ?_
    .have E:∀i,(Array.replicate ops.size false).getD i false=true->False:=by
      intro i u;by_cases q:i<ops.size
      .simp[Array.getD,q]at u
      grind
     exact⟨bx,bx,λi u=>u,λi o _ u=>(E i u).elim,λi o _ u=>(E i u).elim,λi o _ u=>(E i u).elim,rfl,rfl,λt _=>rfl,λi o _ u=>(E i u).elim⟩
    .unfold tP;rw[filter_eq_self.2]
     .simp
     .intro i u;by_cases q:i<ops.size<;>simp[Array.getD,q]
   grind
 |seq x y s G=>
  intro σ Q ι a w d h;simp only[VC]at h;split at h
  .obtain⟨h,p⟩:=h;refine wp_seq (wp_mono (s σ _ ι a w d h) ?_);intro e A D b;cases e with
   |normal=>
    obtain⟨F,V,m,x,W,H⟩:=b;show y.wp C.P (QD B Q) A D;obtain⟨X,v,_⟩:=lA m H
    grind
   |exit id=>exact b
   |ret=>exact b
   |goto l=>exact b
   |panic Y=>exact b
   |outgrown=>exact b
  .split at h
   .obtain⟨I,h,p⟩:=h;refine wp_seq (wp_mono (s σ _ ι a w d h) ?_);intro e A D b;cases e with
    |normal=>
     obtain⟨F,V,m,H⟩:=b;show y.wp C.P (QD B Q) A D;obtain⟨x,X,W,v⟩:=zF m H
     grind
    |exit id=>exact b
    |ret=>exact b
    |goto l=>exact b
    |panic Y=>exact b
    |outgrown=>exact b
   .refine wp_seq (wp_mono (s σ _ ι a w d h) ?_);intro e A D b;cases e with
    |normal=>
     obtain⟨F,V,m,Z⟩:=b;show y.wp C.P (QD B Q) A D
     grind
    |exit id=>exact b
    |ret=>exact b
    |goto l=>exact b
    |panic Y=>exact b
    |outgrown=>exact b
 |cond c x y s G=>
  intro σ Q ι a w d h;simp only[VC]at h;split at h
  .rename_i t hc;have z:=d.ev c;rw[hc]at z;have z:a.eval c= .bool t:=z;rcases sE h with⟨rfl,h⟩|⟨rfl,h⟩
   .exact wp_cond_true z (s _ Q ι a w (d.setTmp hc) h)
   .exact wp_cond_false z (G _ Q ι a w (d.setTmp hc) h)
  grind
 |block id c T=>
  intro σ Q ι a w d h;refine wp_block (wp_mono (T σ _ ι a w d h) ?_);intro e A D b;cases e with
  |normal=>exact b
  |exit i=>
   obtain⟨F,V,m,Z⟩:=b;show if i=id then _ else _
   simp only at Z;split at Z
   .rename_i hb;rw[if_pos (da hb)];exact⟨F,V,m,Z⟩
   .rename_i hb;rw[if_neg (λe=>by subst e;simp at hb)];exact⟨F,V,m,Z⟩
  |ret=>exact b
  |goto l=>exact b
  |panic Y=>exact b
  |outgrown=>exact b
 |loop c T=>
  intro σ Q ι a w d h;simp only[VC]at h;split at h
  .rename_i l hl;obtain⟨⟨x,W,H⟩,p⟩:=h;obtain⟨X,v,_⟩:=lA d H;refine wp_loop_ghost (λn a w=>∃x ι,l.inv x/\l.mu x=n/\aJ B ι (l.st x) a w) (l.mu x) ⟨x,X,W,rfl,v⟩ ?_;rintro n A D ⟨x',F,J,rfl,m⟩;refine wp_mono (T _ _ F A D m (p x' J)) ?_;intro e a0 a1 b;cases e with
   |normal=>
    obtain⟨ι3,σ3,M,y,hy,q,N⟩:=b;obtain⟨ι4,O,_⟩:=lA M N;exact⟨l.mu y,q,y,ι4,hy,rfl,O⟩
   |exit id=>exact b
   |ret=>exact b
   |goto l=>exact b
   |panic Y=>exact b
   |outgrown=>exact b
  .split at h
   .rename_i l hl;obtain⟨I,mu,H,p⟩:=h;obtain⟨x,X,W,v⟩:=zF d H;refine wp_loop_ghost (λn a w=>∃x ι,I x/\mu x=n/\aJ B ι (l.st x) a w) (mu x) ⟨x,X,W,rfl,v⟩ ?_;rintro n A D ⟨x',F,J,rfl,m⟩;refine wp_mono (T _ _ F A D m (p x' J)) ?_;intro e a0 a1 b;cases e with
    |normal=>
     obtain⟨ι3,σ3,M,N⟩:=b;obtain⟨y,ι4,hy,q,O⟩:=LU M N;exact⟨mu y,q,y,ι4,hy,rfl,O⟩
    |exit id=>exact b
    |ret=>exact b
    |goto l=>exact b
    |panic Y=>exact b
    |outgrown=>exact b
   grind
end
end Go.Vc
namespace Go.Vc
open Go List
section
variable{B:qE}{C:Ctx}{ι:dv}{σ:St}{a:Act}{w:World}
def Km(tmps:Array Value):ResultVar->Sem Value
 |.tmp t=>pure (tmps.getD t undef)
 |.cell a t=>do loadVar t (<-asAddr (tmps.getD a undef))
theorem Np(fn:Func)(tmps:Array Value):results fn tmps=(do let vs <-fn.results.mapM (Km tmps);pure (if h:vs.size=1 then vs[0]else .tuple vs)):=by
 unfold results;congr 1
theorem TX(f:aJ B ι σ a w){r:ResultVar}{x:SV}(h:YY C σ r=some x):∃v,(Km a.tmps r).run C.P w= .ok v w/\Den ι x v:=by
 cases r with
 |tmp t=>
  simp only[YY,cw]at h;subst h;exact⟨_,rfl,f.ev (.tmp t)⟩
 |cell l T=>
  have d:=f.ev (.tmp l);simp only[YY]at h;split at h
  .rename_i k off q;rw[q]at d;split at h
   .rename_i p T' cs s;split at h
    .rename_i e u;have e:=Nat.le_of_ble_eq_true e;simp only[cw]at h;subst h;obtain⟨b,m,y,z,n⟩:=vF f s;obtain⟨F,c,A⟩:=d;rw[y]at c;simp only[Value.pointer.injEq,cw,Addr.mk.injEq]at c;obtain⟨rfl, -, -⟩:=c;have g:=(n.drop off).take (C.P.cellsOf T);have D:cs.length=m.toList.length:=n.length;have E:=zE (w:=w) (b:=b) (off:=off) (cs:=(m.toList.drop off).take (C.P.cellsOf T)) u cg (λj v G=>by rw[cell_of_heap z];grind);refine⟨_,?_,HE g⟩;have i:a.tmps.getD l undef= .pointer (some ⟨b,off,none⟩):=A;simp only[Km,i,asAddr,Sem.run_bind,Sem.run_pure,Result.andThen_ok,E]
    .cases h
   .cases h
  .cases h
theorem Ib(f:aJ B ι σ a w):∀(l:List ResultVar)(xs:fd),Hj C σ l=some xs->∃vs,(l.mapM (Km a.tmps)).run C.P w= .ok vs w/\DenS ι xs vs
 |[],xs,h=>by
  simp[Hj]at h;subst h;exact⟨[],bx,trivial⟩
 |r::l,xs,h=>by
  simp only[Hj]at h;split at h
  .rename_i x b g c;simp only[cw]at h;subst h;obtain⟨v,i,j⟩:=TX f g;obtain⟨vs,d,e⟩:=Ib f l b c;exact⟨v::vs,by simp[mapM_cons,i,d],j,e⟩
  .cases h
theorem w9(n:aJ B ι σ a w){mv:Bool}:∀(xs:fd)(ts:fe)(c:ei)(vs:dj),CW C.P σ mv xs ts=some c->DenS ι xs vs->
 c.length=vs.length/\(mv=false->c=vs.map .val)/\∀(i:Nat)(r:CV)(v:Value),c[i]? =some r->vs[i]? =some v->C5 w r v/\∀b,gK r v=some b->∃k j,nth σ.own k=some (some j)/\blk (ι k)=some b
 |[],ts,c,[],h,_=>by
  simp[CW]at h;grind
 |[],_,_,_::_,_,d=>d.elim
 |x::xs,_,_,[],_,d=>d.elim
 |x::xs,ts,c,v::vs,h,d=>by
  simp only[CW]at h;split at h
  .cases h
  .rename_i l q;obtain⟨s,t,y⟩:=w9 n xs ts.tail l vs q d.2
   have fin:∀(m:CV),c=m::l->(mv=false->m= .val v)->C5 w m v->(∀b,gK m v=some b->∃k j,nth σ.own k=some (some j)/\blk (ι k)=some b)->
    c.length=(v::vs).length/\(mv=false->c=(v::vs).map .val)/\∀(i:Nat)(r:CV)(u:Value),c[i]? =some r->(v::vs)[i]? =some u->C5 w r u/\∀b,gK r u=some b->∃k j,nth σ.own k=some (some j)/\blk (ι k)=some b:=by
    grind
   split at h
   .split at h
    .rename_i k;have f:v=ι k:=d.1;split at h
     .rename_i E F G p;simp only[cw]at h;obtain⟨A,H⟩:=qY n p;exact fin _ h.symm (λe=>by cases e) ⟨A,cg⟩ (λb g=>⟨k,_,p,by rw[<-f];exact g⟩)
     .cases h
    .have f:v= .slice none 0 0:=d.1;split at h
     .rename_i E z I;simp only[cw]at h;refine fin _ h.symm (λe=>by cases e) ⟨Hi _,by rw[f];exact World.ownsRow_nil w 0 E _⟩ (λb g=>?_);rw[f]at g;simp[gK,blk]at g
     .cases h
    .cases h
   .split at h
    .rename_i u D;simp only[cw]at h;have f:=(d.1).val? D;exact fin _ h.symm (λ_=>by rw[f]) f (λb g=>by simp[gK]at g)
    .cases h
theorem FO(I:aJ B ι σ a w){fn:Func}{K:dk}(h:CI C fn K σ):
 ∃u,(results fn a.tmps).run C.P w= .ok u w/\∃r m' s,K r m' s/\C5 w r u/\vN B m' s w/\∀b,gK r u=some b->(B.w0.heap.size<=b\/B.E b)/\m' b=none/\∀i,s b i=none:=by
 unfold CI at h;split at h
 .exact h.elim
 .rename_i V J;obtain⟨W,p,h,_⟩:=nH _ _ I h;obtain⟨τ,d,h,_⟩:=xP _ _ p h;split at h
  .exact h.elim
  .rename_i M t;obtain⟨f,y,j⟩:=Ib d _ _ t
   have G:(results fn a.tmps).run C.P w= .ok (if h:f.toArray.size=1 then f.toArray[0]else .tuple f.toArray) w:=by
    rw[Np,Array.mapM_eq_mapM_toList];simp[y]
   have g:∀(n:ei)(r:CV)(v:Value),CW C.P τ C.retMove M fn.resultTypes.toList=some n->(∃i:Nat,n[i]? =some r/\f[i]? =some v)->C5 w r v/\∀b,gK r v=some b->(B.w0.heap.size<=b\/B.E b)/\τ.m b=none/\∀i,τ.h b i=none:=by
    rintro n r v l ⟨i,q,N⟩;obtain⟨_,_,O⟩:=w9 d _ _ _ _ l j;obtain⟨z,A⟩:=O i r v q N;refine⟨z,λb D=>?_⟩;obtain⟨k,Q,R,F⟩:=A b D;exact d.fresh k Q b R F
   split at h
   .rename_i r q;obtain⟨c,_,_⟩:=w9 d _ _ _ _ q j;simp at c
    obtain⟨v,rfl⟩:∃v,f=[v]:=by
     match f,c with
     |[v],_=>grind
    obtain⟨z,A⟩:=g _ r v q ⟨0,rfl,rfl⟩;refine⟨v,cg,r,τ.m,τ.h,h,z,d.wrel,A⟩
   .rename_i n S l;split at h
    .exact h.elim
    .rename_i T;obtain⟨c,H,_⟩:=w9 d _ _ _ _ l j
     have U:f.length≠1:=by
      intro e;rw[e]at c
      match n,c with
      |[r],_=>grind
     refine⟨.tuple f.toArray,cg,.tup n,τ.m,τ.h,h,⟨f.toArray,rfl,cg⟩,d.wrel,λb D=>by simp[gK]at D⟩
   grind
def LD(n:Nat)(b:ei)(vs:dj)(k:Nat):Value:=
 match b[k-n]?,vs[k-n]? with
 |some (.lst _ _ _),some v=>v
 |_,_=>.slice none 0 0
theorem qC{w:World}:∀{b:ei}{vs:dj},CG w b vs->b.length=vs.length/\∀(i:Nat)(c:CV)(v:Value),b[i]? =some c->vs[i]? =some v->C5 w c v
 |[],[],_=>⟨rfl,λi c v h=>by simp at h⟩
 |c::cs,v::vs,h=>by
  obtain⟨f,g⟩:=qC h.2;refine⟨by simp[f],λi j l d e=>?_⟩;cases i with
  |zero=>simp at d e;subst d e;exact h.1
  |succ i=>grind
 |[],_::_,h=>h.elim
 |_::_,[],h=>h.elim
theorem LL{n:Nat}{all:ei}{avs:dj}{w:World}:∀(i:Nat)(b:ei)(vs:dj),CG w b vs->(∀j:Nat,b[j]? =all[i+j]?)->(∀j:Nat,vs[j]? =avs[i+j]?)->
 DenS (LD n all avs) (GP n i b) vs
 |i,[],[],_,_,_=>trivial
 |i,c::b,v::vs,h,e,f=>by
  have d:=LL (n:=n) (all:=all) (avs:=avs) (i+1) b vs h.2 (λj=>by have:=e (j+1);grind) (λj=>by have:=f (j+1);grind);cases c with
  |val u=>exact⟨h.1,d⟩
  |lst E m p=>
   refine⟨?_,d⟩;show v=LD n all avs (n+i);have g:=e 0;have l:=f 0;simp at g l;unfold LD
   grind
  |tup q=>exact⟨trivial,d⟩
 |i,[],_::_,h,_,_=>h.elim
 |i,_::_,[],h,_,_=>h.elim
theorem Ju:∀(b:ei)(k:Nat)(o:Own),nth (zJ b) k=some (some o)->∃E sz xs,b[k]? =some (.lst E sz xs)/\o= .lst E sz xs
 |[],k,o,h=>by simp[zJ,nth]at h
 |c::b,0,o,h=>by
  cases c<;>simp[zJ,nth]at h
  grind
 |c::b,k+1,o,h=>by
  have:nth (zJ b) k=some (some o):=by cases c<;>simpa[zJ,nth]using h
  obtain⟨E,sz,xs,d,e⟩:=Ju b k o this
  grind
theorem RH{ι:dv}:∀(n:Nat)(vs:dj),vs.length=n->DenS ι (replicate n (.at .junk)) vs
 |0,[],_=>trivial
 |n+1,v::vs,h=>⟨trivial,RH n vs cg⟩
 |0,_::_,h=>by simp at h
 |_+1,[],h=>by simp at h
theorem DenS.append{ι:dv}:∀{xs b:fd}{vs c:dj},DenS ι xs vs->DenS ι b c->DenS ι (xs++b) (vs++c)
 |[],_,[],_,_,d=>cg
 |_::_,_,_::_,_,h,d=>⟨h.1,DenS.append h.2 d⟩
 |[],_,_::_,_,h,_=>h.elim
 |_::_,_,[],_,h,_=>h.elim
theorem Ei{w:World}{m:MH}{h:PH}{c:ei}{vs:dj}(n:Nat)(r:zD w m h c vs):
 aJ ⟨w,sI m c vs,h,[]⟩ (LD n c vs) (entry n c m h) {tmps:=vs.toArray++Array.replicate (n-vs.toArray.size) undef,defers:=[]} w:=by
 obtain⟨I,p⟩:=qC r.args
 have d:∀k o,nth (entry n c m h).own k=some (some o)->n<=k/\∃E g i,c[k-n]? =some (.lst E g i)/\o= .lst E g i/\∃v,vs[k-n]? =some v/\LD n c vs k=v/\C5 w (.lst E g i) v:=by
  intro k o e;simp only[entry]at e;rw[jI]at e;by_cases s:k<n
  .grind
  .rw[getElem?_append_right cg]at e;simp only[length_replicate]at e;rw[<-jI]at e;obtain⟨E,g,i,f,z⟩:=Ju c (k-n) o e
   have A:k-n<vs.length:=by
    grind
   have q:vs[k-n]? =some vs[k-n]:=cq A;refine⟨aC,E,g,i,f,z,_,q,?_,p _ _ _ f q⟩;unfold LD
   grind
 refine⟨?_,rfl,?_,?_,?_,?_,?_⟩
 .have f:=LL (n:=n) (all:=c) (avs:=vs) 0 c vs r.args (λj=>bx) (λj=>bx);show DenS _ (GP n 0 c++replicate (n-c.length) (.at .junk)) _;have:(vs.toArray++Array.replicate (n-vs.toArray.size) undef).toList=vs++replicate (n-vs.length) undef:=bx
  rw[this];exact f.append (RH _ _ cg)
 .intro k o e;obtain⟨s,E,g,i,f,rfl,v,q,u,t⟩:=d k o e;rw[u];exact t
 .intro k J o O b e D l y;obtain⟨s,E,g,i,f,rfl,v,q,u,t⟩:=d k o e;obtain⟨M,E',Q,R,F,rfl,S,G,H,N⟩:=d J O D;rw[u]at l;rw[H]at y;have:=r.sep (k-n) (J-n) _ _ v S b f q F G l y;omega
 .intro k o b e l;obtain⟨s,E,g,i,f,rfl,v,q,u,t⟩:=d k o e;rw[u]at l;obtain⟨T,U⟩:=r.free (k-n) _ v b f q l;exact⟨.inr (.inr ⟨k-n,_,v,f,q,l⟩),T,U⟩
 .refine⟨rfl,rfl,rfl,Nat.le_refl _,Nat.le_refl _,λ_ _ _=>rfl,r.hsat,r.msat,r.disj,λ_ _ _ h=>h,λ_ _ _=>rfl,λb V l=>.inr (.inl (by have l:m b=some V:=l;grind))⟩
 .intro k;unfold LD;split
  .rename_i E g i v f z;exact Lv (p _ _ _ f z).2
  .rfl
theorem eC{P:Program}{f:FuncId}{fn:Func}{c:Code}(D:P.funcs[f]? =some fn)(F:fn.body=some c)(n:(fn.name== "runtime.NumGoroutine")=false){S:Spec}
 (y:∀d m h K,S d m h K->∃C:Ctx,C.P=P/\(∀g S,assoc C.specs g=some S->Sound P g S)/\Bx C fn c (entry fn.ntmps d m h) K):Sound P f S:=by
 refine⟨⟨fn,D,cg,n⟩,?_⟩;intro d z m h w K G H;obtain⟨C,rfl,j,I⟩:=y d m h K G;refine calls_of_wp D F ?_;refine wp_mono (HS j c _ _ _ _ w (Ei fn.ntmps H) I) ?_;intro e A q p
 have key:(∃ι σ,aJ ⟨w,sI m d z,h,[]⟩ ι σ A q/\CI C fn K σ)->A.defers=[]/\∃v,(results fn A.tmps).run C.P q= .ok v q/\∃r u s t,Ending.returned v= .returned u/\K r s t/\C5 q r u/\vN ⟨w,sI m d z,h,[]⟩ s t q/\
  ∀b,gK r u=some b->(w.heap.size<=b\/sI m d z b)/\s b=none/\∀i,t b i=none:=by
  rintro⟨ι,σ,E,J⟩;obtain⟨u,M,r,s,t,N,O,Q,R⟩:=FO E J;exact⟨E.defers,u,M,r,u,s,t,rfl,N,O,Q,R⟩
 cases e with
 |normal=>exact key p
 |ret=>exact key p
 |exit id=>obtain⟨_,_,_,h⟩:=p;grind
 |goto l=>exact p.elim
 |panic T=>exact p.elim
 |outgrown=>exact p.elim
theorem agQ{P:Program}{f:FuncId}{fn:Func}{c:Code}(H:P.funcs[f]? =some fn)(t:fn.body=some c)(p:(fn.name== "runtime.NumGoroutine")=false){S:Spec}
 (I:∀d m h K,S d m h K->∃C:Ctx,C.P=P/\(∀g S,assoc C.specs g=some S->Sound P g S)/\Bx C fn c (entry fn.ntmps d m h) (λr m' q=>∃m2 j,(∀b o,m2 b=some o->m' b=some o)/\PH.le h j/\PH.le j q/\K r m2 j)):Sound P f S:=by
 have E:=eC H t p (S:=λd m h K=>∃K',S d m h K'/\K=λr m' q=>∃m2 j,(∀b o,m2 b=some o->m' b=some o)/\PH.le h j/\PH.le j q/\K' r m2 j) (by
  grind)
 refine⟨E.1,λd J m h w K M N=>?_⟩;refine(E.2 d J m h w _ ⟨K,M,rfl⟩ N).mono ?_;rintro e V ⟨r,u,m',q,O,⟨m2,j,y,F,G,Q⟩,z,l,A⟩
 have n:∀b i,q b i=none->j b i=none:=by
  intro b i e;cases s:j b i with
  |none=>rfl
  |some v=>rw[G.le b i v s]at e;cases e
 refine⟨r,u,m2,j,O,Q,z,?_,λb t=>?_⟩
 .refine⟨l.tape,l.os,l.output,l.drawn,l.size,l.frame,λb o v e=>l.hsat b o v (G.le b o v e),λb o e=>l.msat b o (y b o e),λb o e i=>n b i (l.disj b o (y b o e) i),F.le,λb R D=>?_,λb o e=>l.mfr b o (y b o e)⟩;funext i;have e:=congrFun (l.hold b R D) i;show j b i=h b i;cases s:h b i with
  |some v=>exact(F.le b i v s)
  |none=>grind
 .obtain⟨T,W,U⟩:=A b t;refine⟨T,?_,λi=>n b i (U i)⟩;cases s:m2 b with
  |none=>rfl
  |some o=>grind
def eX(h:PH)(K:dk):CV->MH->PH->Prop:=λr c f=>(∀b o,c b=some o->∀i,f b i=none)->∃d e,(∀b o,d b=some o->c b=some o)/\PH.le h e/\
 (∀b i v,e b i=some v->f b i=some v\/∃g E j,c b=some (.cells g E j)/\g[i]? =some v/\d b=none)/\K r d e
theorem Sound.strong{P:Program}{f:FuncId}{S:Spec}(A:Sound P f (λg m h K=>∃K',S g m h K'/\K=eX h K')):Sound P f S:=by
 refine⟨A.1,λg I m h w K J M=>?_⟩;refine(A.2 g I m h w _ ⟨K,J,rfl⟩ M).mono ?_;rintro e X ⟨r,u,Y,Z,N,j,p,c,q⟩;obtain⟨D,l,s,F,t,O⟩:=j c.disj;refine⟨r,u,D,l,N,O,p,?_,λb Q=>?_⟩
 .refine⟨c.tape,c.os,c.output,c.drawn,c.size,c.frame,λb o v e=>?_,λb o e=>c.msat b o (s b o e),λb o e i=>?_,F.le,λb R y=>?_,λb o e=>c.mfr b o (s b o e)⟩
  .rcases t b o v e with d|⟨G,E,H,d,z,_⟩
   .exact c.hsat b o v d
   .rw[cell_of_heap (c.msat b _ d),dd];exact z
  .cases n:l b i with
   |none=>rfl
   |some v=>
    rcases t b i v n with d|⟨G,E,H,d,z,T⟩
    .rw[c.disj b o (s b o e) i]at d;cases d
    grind
  .funext i;have e:=congrFun (c.hold b R y) i;show l b i=h b i;cases n:h b i with
   |some v=>exact(F.le b i v n)
   |none=>
    cases U:l b i with
    |none=>rfl
    |some v=>
     rcases t b i v U with d|⟨G,E,H,d,z,T⟩
     .grind
     .rcases c.mfr b _ d with V|V
      .omega
      grind
 .obtain⟨W,f2,f3⟩:=q b Q;refine⟨W,?_,λi=>?_⟩
  .cases n:D b with
   |none=>rfl
   |some o=>grind
  .cases n:l b i with
   |none=>rfl
   |some v=>
    grind
theorem afJ{P:Program}{f:FuncId}{fn:Func}{c:Code}(e:P.funcs[f]? =some fn)(i:fn.body=some c)(d:(fn.name== "runtime.NumGoroutine")=false){S:Spec}
 (j:∀b m h K,S b m h K->∃C:Ctx,C.P=P/\(∀g S,assoc C.specs g=some S->Sound P g S)/\Bx C fn c (entry fn.ntmps b m h) (eX h K)):Sound P f S:=
 .strong (eC e i d (S:=λb m h K=>∃K',S b m h K'/\K=eX h K') (by
  grind))
end
end Go.Vc
namespace Go.Vc
open Go List
theorem aB{c:Bool}{A B:Prop}(b:c=true->A)(d:c=false->B):branch c A B:=by
 cases c
 .exact d rfl
 .exact b rfl
theorem aE{p:Prop}[Decidable p]{A B:Prop}(b:p->A)(c:¬p->B):branch (decide p) A B:=
 aB (λh=>b (of_decide_eq_true h)) (λh=>c (of_decide_eq_false h))
theorem dR{n:Int}(b: -9223372036854775808<=n)(c:n<9223372036854775808):IntKind.i64.wrap n=n:=by
 rw[IntKind.wrap_i64];omega
theorem aK.of_m{m:MH}{h:PH}{b off:Nat}{cs:Array Value}{E:TypeId}{c:Nat×Nat}{l:dj}(d:m b=some (.cells cs E c))(e:(cs.toList.drop off).take l.length=l):aK m h b off l:=.lent cs E c d e
end Go.Vc
namespace Go.Ps
open Go Go.Vc Go.Proofs List Tryz
variable{K:dk}{m:MH}{h:PH}{ps:dm}{cb:Nat}{l:dm}{i:Nat}{N:Nat}{m':MH}{h':PH}{co:dm}{gr:dm}{od:dr}{ta:Int}{li:Int}{xs:List dj}{sz:Nat}{ks:List dm}{rs:dm}{r:Sl}{a:dm}{b:Nat}
structure VV where
 kind:Int
 int:Int
 text:ByteArray
abbrev dn:=List VV
abbrev en:=List (Sl×dn)
abbrev dl:=List dn
structure OV where
 kind:Int
 index:Int
 value:VV
structure PV where
 op:Int
 cmp:Int
 left:OV
 right:OV
 args:Sl
abbrev fc:=List PV
structure QV where
 op:Int
 table:Int
 where_:PV
 columns:Sl
 on:Sl
 group:Sl
 order:Sl
 limit:Int
 args:Sl
abbrev ez:=List (Nat×QV)
abbrev eu:=List QV
variable{v:QV}
structure SV2 where
 op:Int
 table:Int
 where_:PV
 columns:Sl
 on:Sl
 group:Sl
 order:Sl
 limit:Int
 left:Int
 right:Int
structure pF where
 name:ByteArray
 kind:Int
structure EJ where
 columns:Sl
 table:Int
structure cR where
 name:ByteArray
 columns:Sl
 key:Int
 references:Sl
 checks:Sl
structure bW where
 version:Int
 tables:Sl
variable{sc:bW}
abbrev fB(n:Int):Value:=.int .i64 n
abbrev fF(s:Sl):Value:=.slice s.a s.len s.cap
abbrev sJ:Value:=.slice none 0 0
abbrev vQz:Value:=.string ⟨⟨[]⟩⟩
abbrev vQp(b o:Nat):Value:=.pointer (some ⟨b,o,none⟩)
abbrev iG(n:Int):At:=.val (.int .i64 n)
abbrev xG(s:Sl):At:=.val (.slice s.a s.len s.cap)
abbrev LV:At:=.val (.slice none 0 0)
abbrev aQz:At:=.val (.string ⟨⟨[]⟩⟩)
abbrev sQi(n:Int):SV:=.at (.val (.int .i64 n))
abbrev YW(s:Sl):SV:=.at (.val (.slice s.a s.len s.cap))
abbrev sQn:SV:=.at (.val (.slice none 0 0))
abbrev sQp(b o:Nat):SV:=.at (.ptr b o)
abbrev sQo(b o:Nat):SV:=.at (.val (.pointer (some ⟨b,o,none⟩)))
abbrev sQb(b:Bool):SV:=.at (.val (.bool b))
abbrev sQl(k:Nat):SV:=.at (.lst k)
abbrev fQ(n:Int):CV:=.val (.int .i64 n)
abbrev zU(b:Bool):CV:=.val (.bool b)
abbrev fD(s:Sl):CV:=.val (.slice s.a s.len s.cap)
abbrev nK:CV:=.val (.slice none 0 0)
abbrev cQp(b o:Nat):CV:=.val (.pointer (some ⟨b,o,none⟩))
abbrev pN(l:dj):CV:=.val (.agg ⟨l⟩)
abbrev oQ(T:TypeId)(l:dz):Option Go.Vc.Own:=some (.cells T l)
abbrev eQ{α:Type}(x:α):Prop:=x=x
abbrev eP(k:Nat):Prop:=sQp k 0=sQp k 0
abbrev eL(k:Nat):Prop:=sQl k=sQl k
abbrev Ta(s:ByteArray):At:=.val (.string s)
abbrev zQ:dz:=[iG 0,iG 0,iG 0,iG 0,iG 0,iG 0,iG 0,iG 0,aQz,iG 0,iG 0,iG 0,iG 0,aQz,LV,LV,LV,LV,LV,iG 0,LV]
abbrev zP:dz:=[iG 0,iG 0,iG 0,iG 0,iG 0,iG 0,aQz,iG 0,iG 0,iG 0,iG 0,aQz,LV]
def eI(n:Int):dj:=[.int .i64 n]
def eS(s:Sl):dj:=[.slice s.a s.len s.cap]
def VV.enc(v:VV):dj:=[.int .i64 v.kind,.int .i64 v.int,.string v.text]
def OV.enc(o:OV):dj:=[.int .i64 o.kind,.int .i64 o.index,.int .i64 o.value.kind,.int .i64 o.value.int,.string o.value.text]
def PV.enc(p:PV):dj:=
 [.int .i64 p.op,.int .i64 p.cmp,
  .int .i64 p.left.kind,.int .i64 p.left.index,.int .i64 p.left.value.kind,.int .i64 p.left.value.int,.string p.left.value.text,
  .int .i64 p.right.kind,.int .i64 p.right.index,.int .i64 p.right.value.kind,.int .i64 p.right.value.int,.string p.right.value.text,
  .slice p.args.a p.args.len p.args.cap]
def QV.enc(q:QV):dj:=
 [.int .i64 q.op,.int .i64 q.table,
  .int .i64 q.where_.op,.int .i64 q.where_.cmp,
  .int .i64 q.where_.left.kind,.int .i64 q.where_.left.index,.int .i64 q.where_.left.value.kind,.int .i64 q.where_.left.value.int,.string q.where_.left.value.text,
  .int .i64 q.where_.right.kind,.int .i64 q.where_.right.index,.int .i64 q.where_.right.value.kind,.int .i64 q.where_.right.value.int,.string q.where_.right.value.text,
  .slice q.where_.args.a q.where_.args.len q.where_.args.cap,
  .slice q.columns.a q.columns.len q.columns.cap,.slice q.on.a q.on.len q.on.cap,.slice q.group.a q.group.len q.group.cap,.slice q.order.a q.order.len q.order.cap,
  .int .i64 q.limit,.slice q.args.a q.args.len q.args.cap]
def SV2.enc(q:SV2):dj:=
 [.int .i64 q.op,.int .i64 q.table,
  .int .i64 q.where_.op,.int .i64 q.where_.cmp,
  .int .i64 q.where_.left.kind,.int .i64 q.where_.left.index,.int .i64 q.where_.left.value.kind,.int .i64 q.where_.left.value.int,.string q.where_.left.value.text,
  .int .i64 q.where_.right.kind,.int .i64 q.where_.right.index,.int .i64 q.where_.right.value.kind,.int .i64 q.where_.right.value.int,.string q.where_.right.value.text,
  .slice q.where_.args.a q.where_.args.len q.where_.args.cap,
  .slice q.columns.a q.columns.len q.columns.cap,.slice q.on.a q.on.len q.on.cap,.slice q.group.a q.group.len q.group.cap,.slice q.order.a q.order.len q.order.cap,
  .int .i64 q.limit,.int .i64 q.left,.int .i64 q.right]
def pF.enc(c:pF):dj:=[.string c.name,.int .i64 c.kind]
def EJ.enc(r:EJ):dj:=[.slice r.columns.a r.columns.len r.columns.cap,.int .i64 r.table]
def cR.enc(t:cR):dj:=[.string t.name,.slice t.columns.a t.columns.len t.columns.cap,.int .i64 t.key,.slice t.references.a t.references.len t.references.cap,.slice t.checks.a t.checks.len t.checks.cap]
def bW.enc(s:bW):dj:=[.int .i64 s.version,.slice s.tables.a s.tables.len s.tables.cap]
abbrev zV:dj:=[fB 0,fB 0,fB 0,fB 0,fB 0,fB 0,fB 0,fB 0,vQz,fB 0,fB 0,fB 0,fB 0,vQz,sJ,sJ,sJ,sJ,sJ,fB 0,sJ]
abbrev pQ(p:PV)(r:dz):dz:=iG p.op::iG p.cmp::iG p.left.kind::iG p.left.index::iG p.left.value.kind::iG p.left.value.int::Ta p.left.value.text::iG p.right.kind::iG p.right.index::iG p.right.value.kind::iG p.right.value.int::Ta p.right.value.text::xG p.args::r
abbrev qQ(q:QV)(x:At):dz:=iG q.op::iG q.table::pQ q.where_ [xG q.columns,xG q.on,xG q.group,xG q.order,iG q.limit,x]
def mJ(p:Int×Int):dj:=[.int .i64 p.1,.int .i64 p.2]
def pO(p:Int×Bool):dj:=[.int .i64 p.1,.bool p.2]
def dI:Dec:=⟨Int,eI⟩
def dS:Dec:=⟨Sl,eS⟩
def dB:Dec:=⟨Bool,λb=>[.bool b]⟩
def dU8:Dec:=⟨UInt8,λb=>[.int .u8 b.toNat]⟩
def b2X:Dec:=⟨ByteArray,λs=>[.string s]⟩
def a0X:Option Nat->Value
 |none=>.nilFunc
 |some f=>.func (.func f) #[] #[]
def dF:Dec:=⟨Option Nat,λf=>[a0X f]⟩
structure NV where
 s:bW
 params:Sl
 q:QV
 args:Sl
def NV.enc(n:NV):dj:=n.s.enc++eS n.params++n.q.enc++eS n.args
structure PlV where
 query:QV
 args:Sl
 rows:Int
 env:Int
 width:Int
def PlV.enc(x:PlV):dj:=x.query.enc++[.slice x.args.a x.args.len x.args.cap,.int .i64 x.rows,.int .i64 x.env,.int .i64 x.width]
def dec:TypeId->Dec:=λT=>match T with
 |2=>dI
 |3=>dI
 |4=>dB
 |5=>dU8
 |9=>b2X
 |54=>dI
 |22=>dS
 |23=>dS
 |25=>dS
 |30=>dS
 |33=>dS
 |34=>dS
 |35=>dS
 |36=>dS
 |41=>dS
 |53=>dS
 |94=>dS
 |84=>dS
 |85=>dS
 |79=>dS
 |43=>⟨bW,bW.enc⟩
 |27=>⟨VV,VV.enc⟩
 |29=>⟨OV,OV.enc⟩
 |32=>⟨PV,PV.enc⟩
 |38=>⟨QV,QV.enc⟩
 |87=>⟨cR,cR.enc⟩
 |101=>⟨Int×Int,mJ⟩
 |103=>⟨Int×Bool,pO⟩
 |113=>⟨pF,pF.enc⟩
 |146=>⟨EJ,EJ.enc⟩
 |218=>⟨NV,NV.enc⟩
 |219=>dF
 |235=>dF
 |226=>⟨Nat,λb=>[.func (.func 233) #[] #[.pointer (some ⟨b,0,none⟩)]]⟩
 |169=>⟨Nat,λb=>[.map (some b)]⟩
 |173=>⟨Nat,λb=>[.map (some b)]⟩
 |60=>dS
 |134=>dS
 |62=>⟨Sl×Sl,λp=>[.slice p.1.a p.1.len p.1.cap,.slice p.2.a p.2.len p.2.cap]⟩
 |123=>⟨SV2,SV2.enc⟩
 |130=>⟨Nat,λb=>[.map (some b)]⟩
 |136=>⟨PlV,PlV.enc⟩
 |133=>⟨Nat×Nat×Nat,λb=>[.func (.func 80) #[] #[.pointer (some ⟨b.1,0,none⟩),.pointer (some ⟨b.2.1,0,none⟩),.pointer (some ⟨b.2.2,0,none⟩)]]⟩
 |_=>⟨Unit,λ_=>[]⟩
def cL(f:Func):Code:=match f.body with|some c=>c|none=>.skip
noncomputable def ctx(specs:List (Nat×Vc.Spec))(loops:List (Nat×M6))(cuts:List (Nat×YJ))(moves:List (Nat×eh))(retMove:Bool):Ctx:=
 {P:=Tryz.prog,loops2:=[],cuts2:=[],rcuts:=[],heapT:=[],specs:=specs,dec:=dec,loops:=loops,cuts:=cuts,moves:=moves,retMove:=retMove,yield:=none}
noncomputable def dG(specs:List (Nat×Vc.Spec))(loops:em)(cuts:em)(moves:List (Nat×eh))(retMove:Bool):Ctx:=
 {P:=Tryz.prog,loops2:=loops,cuts2:=cuts,rcuts:=[],heapT:=[],specs:=specs,dec:=dec,loops:=[],cuts:=[],moves:=moves,retMove:=retMove,yield:=none}
noncomputable def b2Z(specs:List (Nat×Vc.Spec))(loops:em)(cuts:em)(rcuts:List (Nat×em))(moves:List (Nat×eh))(retMove:Bool):Ctx:=
 {P:=Tryz.prog,loops2:=loops,cuts2:=cuts,rcuts:=rcuts,heapT:=[],specs:=specs,dec:=dec,loops:=[],cuts:=[],moves:=moves,retMove:=retMove,yield:=none}
noncomputable def vM(specs:List (Nat×Vc.Spec))(loops:em)(cuts:em)(rcuts:List (Nat×em))(heapT:fe)(moves:List (Nat×eh))(retMove:Bool):Ctx:=
 {P:=Tryz.prog,loops2:=loops,cuts2:=cuts,rcuts:=rcuts,heapT:=heapT,specs:=specs,dec:=dec,loops:=[],cuts:=[],moves:=moves,retMove:=retMove,yield:=none}
abbrev di:=Sound Tryz.prog
theorem aF:∀g S,assoc ([]:List (Nat×Vc.Spec)) g=some S->di g S:=λg S h=>by simp[assoc]at h
theorem aD{c:Nat}{S0:Vc.Spec}{r:List (Nat×Vc.Spec)}(e:di c S0)(f:∀g S,assoc r g=some S->di g S):∀g S,assoc ((c,S0)::r) g=some S->di g S:=by
 intro g S h;simp only[assoc]at h;split at h
 .rename_i d;have:=da d
  grind
 grind
def VL(n:Int):dw->Int×dw
 |[]=>(0,[])
 |b::r=>if n<1 then(0,b::r)else((b.toNat:Int)%n,r)
structure YL(m:MH)(h:PH)(cb:Nat)(r:dw):Prop where
 ex:∃(s:Sl)(cs:dw)(k:Nat),m cb=some (.cells #[.slice s.a s.len s.cap,.int .i64 k] 83 (0,0))/\bN h s 1 (bP cs)/\k<=cs.length/\cs.length<=1000/\r=cs.drop k
structure aL(m m':MH)(cb:Nat):Prop where
 other:∀b,b≠cb->m' b=m b
end Go.Ps
namespace Go.Vc
open Go List
theorem PH.le.refl(h:PH):PH.le h h:=⟨λ_ _ _ e=>e⟩
theorem PH.le.trans{h h' c:PH}(a:PH.le h h')(b:PH.le h' c):PH.le h c:=⟨λx y v e=>b.le x y v (a.le x y v e)⟩
theorem bB.mono{h h':PH}{b o:Nat}{l:dj}(r:bB h b o l)(le:PH.le h h'):bB h' b o l:=⟨λi v e=>le.le _ _ _ (r.rd i v e)⟩
theorem bN.mono{h h':PH}{s:Sl}{sz:Nat}{xs:List dj}(r:bN h s sz xs)(le:PH.le h h'):bN h' s sz xs:=
 ⟨r.len,r.row.imp id λ⟨b,o,e,k⟩=>⟨b,o,e,λi x c=>(k i x c).mono le⟩,r.cap⟩
theorem bN.get{h:PH}{s:Sl}{sz:Nat}{xs:List dj}(r:bN h s sz xs){i:Nat}{e:dj}(c:xs[i]? =some e):
 ∃b o,s.a=some ⟨b,o,none⟩/\bB h b (o+i*sz) e:=by
 rcases r.row with rfl|⟨b,o,d,k⟩
 .simp at c
 grind
theorem cM.blk{m:MH}{s:Sl}{E sz:Nat}{xs:List dj}(h:cM m s E sz xs){b i:Nat}(e:s.a=some ⟨b,i,none⟩):∃c,m b=some (.cells c E (0,0)):=by
 rcases h.ex with⟨rfl,_⟩|⟨f,d,c,rfl,g,_⟩
 .cases e
 grind
theorem cM.slen{m:MH}{s:Sl}{E sz:Nat}{xs:List dj}(h:cM m s E sz xs):s.len=xs.length:=by
 rcases h.ex with⟨rfl,rfl⟩|⟨e,c,d,rfl,f,_⟩<;>rfl
theorem cM.keep{m m':MH}{s:Sl}{E sz:Nat}{xs:List dj}(h:cM m s E sz xs)(f:∀b i,s.a=some ⟨b,i,none⟩->m' b=m b):cM m' s E sz xs:=by
 refine⟨h.rows,?_⟩;rcases h.ex with c|⟨b,d,e,rfl,g,j⟩
 .exact .inl c
 grind
theorem bN.nil(h:PH)(sz:Nat):bN h ⟨none,0,0⟩ sz []:=⟨rfl,.inl rfl,Nat.le_refl _⟩
end Go.Vc
namespace Go.Ps
open Go Go.Vc Go.Proofs List Tryz
variable{K:dk}{m:MH}{h:PH}{ps:dm}{cb:Nat}{sc:bW}{v:QV}{l:dm}{i:Nat}{N:Nat}{m':MH}{h':PH}{co:dm}{gr:dm}{od:dr}{ta:Int}{li:Int}{xs:List dj}{sz:Nat}{ks:List dm}{rs:dm}{r:Sl}{a:dm}{b:Nat}
structure Ints(h:PH)(s:Sl)(l:dm):Prop where
 row:bN h s 1 (l.map eI)
 len:l.length<=17592186044416
theorem Ints.mono{s:Sl}(r:Ints h s l)(le:PH.le h h'):Ints h' s l:=⟨r.row.mono le,r.len⟩
theorem Ints.slen{s:Sl}(r:Ints h s l):s.len=l.length:=by have:=r.row.len;grind
structure lE(h:PH)(s:Sl)(l:dp):Prop where
 row:bN h s 2 (l.map mJ)
 len:l.length<=8796093022208
theorem lE.mono{s:Sl}{l:dp}(r:lE h s l)(le:PH.le h h'):lE h' s l:=⟨r.row.mono le,r.len⟩
theorem lE.slen{s:Sl}{l:dp}(r:lE h s l):s.len=l.length:=by have:=r.row.len;grind
structure jU(h:PH)(s:Sl)(l:dr):Prop where
 row:bN h s 2 (l.map pO)
 len:l.length<=8796093022208
theorem jU.mono{s:Sl}{l:dr}(r:jU h s l)(le:PH.le h h'):jU h' s l:=⟨r.row.mono le,r.len⟩
theorem jU.slen{s:Sl}{l:dr}(r:jU h s l):s.len=l.length:=by have:=r.row.len;grind
inductive Pred where
 |mk (op cmp:Int) (left right:OV) (args:List Pred)
abbrev dx:=List Pred
variable{p:Pred}{w:Pred}
mutual
def eA(h:PH):Pred->PV->Prop
 |.mk op c l r args,v=>v.op=op/\v.cmp=c/\v.left=l/\v.right=r/\args.length<=502633886983/\∃d:fc,bN h v.args 13 (d.map PV.enc)/\nX h args d
def nX(h:PH):dx->fc->Prop
 |[],d=>d=[]
 |p::ps,d=>∃v c,d=v::c/\eA h p v/\nX h ps c
end
mutual
theorem eA.mono{h h':PH}(le:PH.le h h'):∀{p:Pred}{v:PV},eA h p v->eA h' p v
 |.mk ..,_,⟨c,d,e,f,g,j,n,q⟩=>⟨c,d,e,f,g,j,n.mono le,nX.mono le q⟩
theorem nX.mono{h h':PH}(le:PH.le h h'):∀{ps:dx}{vs:fc},nX h ps vs->nX h' ps vs
 |[],_,h=>h
 |_::_,_,⟨v,c,d,e,f⟩=>⟨v,c,d,eA.mono le e,nX.mono le f⟩
end
theorem nX.length{h:PH}:∀{ps:dx}{vs:fc},nX h ps vs->vs.length=ps.length
 |[],_,h=>by rw[show _=[]from h];rfl
 |_::_,_,⟨_,_,c,_,d⟩=>by rw[c];simp[nX.length d]
theorem nX.get{h:PH}:∀{ps:dx}{vs:fc},nX h ps vs->∀{i:Nat}{p:Pred},ps[i]? =some p->∃v,vs[i]? =some v/\eA h p v
 |[],_,_,i,p,e=>by simp at e
 |p0::ps,_,⟨v,c,rfl,f,d⟩,0,p,e=>cg
 |p0::ps,_,⟨v,c,rfl,f,d⟩,i+1,p,e=>by simp at e;simpa using nX.get d e
inductive Query where
 |mk (op table:Int) (wher:Pred) (columns:dm) (on:dp) (group:dm) (order:dr) (limit:Int) (args:List Query)
abbrev dt:=List Query
variable{q:Query}
mutual
def bR(h:PH):Query->QV->Prop
 |.mk op table w columns on group c d args,v=>v.op=op/\v.table=table/\eA h w v.where_/\Ints h v.columns columns/\lE h v.on on/\Ints h v.group group/\jU h v.order c/\v.limit=d/\
  args.length<=502633886983/\∃e:eu,bN h v.args 21 (e.map QV.enc)/\pD h args e
def pD(h:PH):dt->eu->Prop
 |[],d=>d=[]
 |p::ps,d=>∃v c,d=v::c/\bR h p v/\pD h ps c
end
mutual
theorem bR.mono{h h':PH}(le:PH.le h h'):∀{p:Query}{v:QV},bR h p v->bR h' p v
 |.mk ..,_,⟨e,f,g,j,n,s,t,u,y,z,c,d⟩=>⟨e,f,g.mono le,j.mono le,n.mono le,s.mono le,t.mono le,u,y,z,c.mono le,pD.mono le d⟩
theorem pD.mono{h h':PH}(le:PH.le h h'):∀{ps:dt}{vs:eu},pD h ps vs->pD h' ps vs
 |[],_,h=>h
 |_::_,_,⟨v,c,d,e,f⟩=>⟨v,c,d,bR.mono le e,pD.mono le f⟩
end
theorem pD.length{h:PH}:∀{ps:dt}{vs:eu},pD h ps vs->vs.length=ps.length
 |[],_,h=>by rw[show _=[]from h];rfl
 |_::_,_,⟨_,_,c,_,d⟩=>by rw[c];simp[pD.length d]
theorem pD.get{h:PH}:∀{ps:dt}{vs:eu},pD h ps vs->∀{i:Nat}{p:Query},ps[i]? =some p->∃v,vs[i]? =some v/\bR h p v
 |[],_,_,i,p,e=>by simp at e
 |p0::ps,_,⟨v,c,rfl,f,d⟩,0,p,e=>cg
 |p0::ps,_,⟨v,c,rfl,f,d⟩,i+1,p,e=>by simp at e;simpa using pD.get d e
def iv(n:Int):SV:=.at (.val (.int .i64 n))
def sv(s:Sl):SV:=.at (.val (.slice s.a s.len s.cap))
def bv(b:Bool):SV:=.at (.val (.bool b))
def vv(v:Value):SV:=.at (.val v)
def cS(s:Sl):CV:=.val (.slice s.a s.len s.cap)
def cI(n:Int):CV:=.val (.int .i64 n)
def cB(b:Bool):CV:=.val (.bool b)
def cP(b:Nat):CV:=.val (.pointer (some ⟨b,0,none⟩))
def Fg(id:Nat)(st:Nat->St)(inv:Nat->Prop)(mu:Nat->Nat):Nat×M6:=(id,{A:=Nat,st:=st,inv:=inv,mu:=mu})
theorem fP(h:i<=140737488355328):IntKind.i64.wrap ((i:Int)+1)=((i+1:Nat):Int):=by
 rw[dR aC aC];rfl
theorem Ints.at{s:Sl}(r:Ints h s l){x:Int}(c:l[i]? =some x):∃b o,s.a=some ⟨b,o,none⟩/\bB h b (o+i) [.int .i64 x]:=by
 obtain⟨b,o,d,f⟩:=r.row.get (i:=i) (e:=eI x) (by simp[c]);exact⟨b,o,d,by simpa[eI]using f⟩
theorem MT{p:Prop}(h:p:=by repeat' (first|with_reducible rfl|exact trivial|refine⟨?_,?_⟩|rfl|(rw[fP aC];done)|(rw[fP aC]))):p:=h
def eM(k:Int):Bool:=k==3||k==4||k==5
def Cr(t:ByteArray):Bool:=t.toList==[]
def jP(v:VV):Bool:=
 if v.kind==1||v.kind==2 then v.int==0&&Cr v.text
 else if v.kind==3 then(v.int==0||v.int==1)&&Cr v.text
 else if v.kind==4 then Cr v.text
 else if v.kind==5 then v.int==0&&(v.text.size:Int)<=64
 else false
def jF(v:VV):Bool:=jP v&&v.kind>=3
def aV(v:VV):CV:=.val (.agg #[.int .i64 v.kind,.int .i64 v.int,.string v.text])
def a9Z:Vc.Spec:=λc m h K=>∃k,c=[cI k]/\K (cB (eM k)) m h
def Lc:Vc.Spec:=λc m h K=>∃v,c=[aV v]/\K (cB (jP v)) m h
def LY:Vc.Spec:=λc m h K=>∃v,c=[aV v]/\K (cB (jF v)) m h
def O4:Vc.Spec:=λc m h K=>∃s l,c=[cS s]/\Ints h s l/\K (cB (l.all eM)) m h
noncomputable def bnX(s:Sl)(l:dm)(m:MH)(h:PH):Ctx:=
 ctx [(151,a9Z)] [Fg 2 (λi=>bK 15 16 [(5,sv s),(6,iv s.len),(7,iv i)] [] m h) (λi=>i<=l.length/\(l.take i).all eM=true) (λi=>l.length-i)] [] [] false
noncomputable def aOQ(s:Sl)(l:dm)(m:MH)(h:PH):Ctx:=
 ctx [] [Fg 2 (λi=>bK 22 23 [(5,sv s),(6,iv s.len),(7,iv i)] [] m h) (λi=>i<=l.length/\(l.take i).all eM=true) (λi=>l.length-i)] [] [] false
abbrev cH(a:Bool)(b:Prop)(c:Bool)(d e:Prop):Prop:=branch a b (branch c d e)
noncomputable abbrev eW:CV:=zU true
attribute [push_cast] cH eW
def Rq(k:Int)(m:MH)(h:PH)(K:dk):Prop:=
  cH (k==3) (K eW m h) (k==4) (K eW m h) (K (zU (k==5)) m h)
abbrev dJ(a b:Int)(c d:Prop):Prop:=branch (a==b) c d
noncomputable abbrev B7(a:VV):dw:=a.text.toList
abbrev F9(a:dk)(b:VV)(c:MH)(d:PH):Prop:=a (zU (B7 b==[])) c d
noncomputable abbrev aX:CV:=zU false
attribute [push_cast] dJ B7 F9 aX
def GO(v:VV)(m:MH)(h:PH)(K:dk):Prop:=
  cH (v.kind==1) (dJ v.int 0 (F9 K v m h) (K aX m h)) (v.kind==2) (dJ v.int 0 (F9 K v m h) (K aX m h)) (cH (v.kind==3) (cH (v.int==0) (F9 K v m h) (v.int==1) (F9 K v m h) (K aX m h)) (v.kind==4) (F9 K v m h) (dJ v.kind 5 (dJ v.int 0 (K (zU (decide ((↑v.text.size:Int)<=64))) m h) (K aX m h)) (K aX m h)))
abbrev iX(a:Prop)(b:Bool)(c d:Prop):Prop:=a/\branch b c d
noncomputable abbrev DZ(a:CV):ei:=[a]
abbrev iY(a b:CV):Prop:=DZ a=DZ b
noncomputable abbrev fT(a:VV):CV:=pN a.enc
abbrev uJ(a b:VV):Prop:=iY (fT a) (fT b)
attribute [push_cast] iX DZ iY fT uJ
def Qx(v:VV)(m:MH)(h:PH)(K:dk):Prop:=
  ∃(c:VV),iX (uJ v c) (jP c) (K (zU (decide (v.kind>=3))) m h) (K aX m h)
abbrev fW(a b:Int)(c d:Prop):Prop:=branch (a !=b) c d
attribute [push_cast] fW
def Q7(v:VV)(m:MH)(h:PH)(K:dk):Prop:=
  ∃(c:VV),iX (uJ v c) (jP c) (fW v.kind 1 (K (zU (v.kind !=2)) m h) (K aX m h)) (K aX m h)
abbrev mD(a:Prop)(b:Nat->Prop):Prop:=a/\∀(x:Nat),b x
abbrev aA(a b c:Prop):Prop:=a/\b/\c
abbrev gG(a:Bool):Prop:=a=true
noncomputable abbrev Hp(a:dm):Bool:=List.all a eM
abbrev AE(a:Nat)(b:dm):Prop:=a<=b.length/\gG (Hp (List.take a b))
abbrev aG(a:Sl):Prop:=eQ (YW a)
noncomputable abbrev vK(a:Nat):SV:=sQi (↑a:Int)
abbrev a7(a:Sl):Prop:=eQ (vK a.len)
abbrev aU(a:Int)(b:Nat):Prop:=sQi a=vK b
abbrev aY(a:Nat):Prop:=aU 0 a
abbrev bE(a:Prop)(b c:Nat->Nat->Option Value):Prop:=aA a (b=c) True
abbrev aR(a b:Int)(c d:Prop):Prop:=branch (decide (a<b)) c d
noncomputable abbrev aH(a:Sl):Int:=(↑a.len:Int)
abbrev bT(a:Nat->Nat->Prop):Prop:=∃(x c:Nat),a x c
abbrev bX(a:Option Addr)(b c:Nat):Prop:=a=Option.some (Addr.mk b c Option.none)
abbrev eU(a:Option Addr)(b c:Int)(d:Sl)(e:Nat->Nat->Int->Prop):Prop:=bT (λx f=>aA (bX a x f) (b<=c) (c<aH d/\∃(g:Int),e x f g))
noncomputable abbrev cF(a:Nat)(b:Int)(c:Nat):Nat:=a+b.toNat*c
noncomputable abbrev bC(a b c:Nat):Nat:=cF a (↑b:Int) c
noncomputable abbrev nT(a:Value):dj:=[a]
noncomputable abbrev cO(a:Int):dj:=nT (fB a)
abbrev rQ(a b:Int):Prop:=iY (fQ a) (fQ b)
abbrev yF(a:Int)(b:Int->Prop):Prop:=∃(x:Int),rQ a x/\b x
abbrev gR(a:Bool)(b:Prop)(c:Nat->Prop):Prop:=branch a b (∃(x:Nat),c x)
abbrev bG(a b c:Prop):Prop:=aA a b (c/\True)
noncomputable abbrev iJ(a:Int):Int:=IntKind.wrap IntKind.i64 a
noncomputable abbrev aW(a:Nat)(b:Int):Int:=iJ ((↑a:Int)+b)
attribute [push_cast] mD aA gG Hp AE aG vK a7 aU aY bE aR aH bT bX eU cF bC nT cO rQ yF gR bG iJ aW
def UN(s:Sl)(l:dm)(m:MH)(h:PH)(K:dk):Prop:=
  mD (∃(x:Nat),aA (AE x l) (aG s) (aA (a7 s) (aY x) (bE (m=m) h h))) (λx=>AE x l->aR (↑x:Int) (aH s) (eU s.a 0 (↑x:Int) s (λb o y=>aK m h b (bC o x 1) (cO y)/\yF y (λk=>gR (!(eM k)) (K aX m h) (λc=>aA (AE c l) (l.length-c<l.length-x) (aA (aG s) (a7 s) (bG (aU (aW x 1) c) (m=m) (h=h))))))) (K eW m h))
def QJ(s:Sl)(l:dm)(m:MH)(h:PH)(K:dk):Prop:=
  mD (∃(x:Nat),aA (AE x l) (aG s) (aA (a7 s) (aY x) (bE (m=m) h h))) (λx=>AE x l->aR (↑x:Int) (aH s) (eU s.a 0 (↑x:Int) s (λb o y=>aK m h b (bC o x 1) (cO y)/\gR (y !=3) (gR (y !=4) (gR (y !=5) (K aX m h) (λc=>aA (AE c l) (l.length-c<l.length-x) (aA (aG s) (a7 s) (bG (aU (aW x 1) c) (m=m) (h=h))))) (λc=>aA (AE c l) (l.length-c<l.length-x) (aA (aG s) (a7 s) (bG (aU (aW x 1) c) (m=m) (h=h))))) (λc=>aA (AE c l) (l.length-c<l.length-x) (aA (aG s) (a7 s) (bG (aU (aW x 1) c) (m=m) (h=h)))))) (K eW m h))
theorem bvJ(v:VV)(m:MH)(h:PH)(K:dk):GO v m h K=Bx (ctx [] [] [] [] false) Tryz.f176 (cL Tryz.f176) (entry Tryz.f176.ntmps [aV v] m h) K:=bu
theorem jH{x y:Bool}(c:K (cB x) m h)(e:x=y):K (.val (.bool y)) m h:=e▸c
theorem Zo{v:VV}(c:K (cB (jP v)) m h):GO v m h K:=by
 dsimp only[GO,push_cast]
 repeat' (first|(refine aB (λ_=>?_) (λ_=>?_))|(refine jH c ?_;simp_all [jP,Cr]))
theorem gO{f:FuncId}{fn:Func}(n:Tryz.prog.funcs[f]? =some fn){S:Vc.Spec}(j:∀c m h K,S c m h K->∃C:Ctx,C.P=Tryz.prog/\(∀g S,assoc C.specs g=some S->di g S)/\∃N:Prop,N=Bx C fn (cL fn) (entry fn.ntmps c m h) K/\N)(s:fn.body=some (cL fn):=by rfl)(d:(fn.name== "runtime.NumGoroutine")=false:=by decide):di f S:=eC n s d λc m h K t=>let⟨C,hC,hs,N,e,hn⟩:=j c m h K t;⟨C,hC,hs,e▸hn⟩
theorem OC:di 151 a9Z:=by
 refine gO func151 ?_;rintro c m h K ⟨k,rfl,d⟩;refine⟨ctx [] [] [] [] false,rfl,aF,Rq k m h K,bu,?_⟩;dsimp only[Rq,push_cast]
 repeat' (first|(refine aB (λ_=>?_) (λ_=>?_))|(refine jH d ?_;simp_all [eM]))
theorem Ox:di 180 Lc:=by
 refine gO func180 ?_;rintro c m h K ⟨v,rfl,d⟩;refine⟨ctx [] [] [] [] false,rfl,aF,GO v m h K,bu,?_⟩;exact Zo d
theorem Oy:di 176 Lc:=by
 refine eC (fn:=Tryz.f176) (c:=cL Tryz.f176) func176 rfl bz ?_;rintro d m h K ⟨v,rfl,e⟩;refine⟨ctx [] [] [] [] false,rfl,aF,?_⟩;rw[<-bvJ v m h K];exact Zo e
theorem Hu:di 259 LY:=by
 refine gO func259 ?_;rintro c m h K ⟨v,rfl,d⟩;refine⟨ctx [(180,Lc)] [] [] [] false,rfl,aD Ox aF,Qx v m h K,bu,?_⟩;dsimp only[Qx,push_cast];refine⟨v,rfl,?_⟩
 repeat' (first|(refine aB (λ_=>?_) (λ_=>?_))|(refine jH d ?_;simp_all [jF]))
theorem Hw:di 186 LY:=by
 refine gO func186 ?_;rintro g m h K ⟨v,rfl,e⟩;refine⟨ctx [(176,Lc)] [] [] [] false,rfl,aD Oy aF,Q7 v m h K,bu,?_⟩;dsimp only[Q7,push_cast];refine⟨v,rfl,?_⟩;refine aB (λc=>aB (λd=>jH e ?_) (λd=>jH e ?_)) (λc=>jH e ?_)
 .have d:v.kind≠1:=cg
  by_cases f:v.kind=2
  .simp[jF,c,f]
  .have:3<=v.kind:=by
    simp only[jP]at c
    grind
   simp[jF,c,f,this]
 .have d:v.kind=1:=cg
  simp[jF,d]
 .simp[jF,c]
theorem BB{α:Type}{p:α->Bool}{l:List α}{x:α}(hx:l[i]? =some x):(l.take (i+1)).all p=((l.take i).all p&&p x):=by
 rw[db,all_append,hx];simp
theorem M1{α:Type}{p:α->Bool}{l:List α}{x:α}(hx:l[i]? =some x)(c:p x=false):l.all p=false:=by
 grind
theorem Qc:di 87 O4:=by
 refine gO func87 ?_;rintro g m h K ⟨s,l,rfl,c,e⟩;refine⟨bnX s l m h,rfl,aD OC aF,UN s l m h K,bu,?_⟩;dsimp only[UN,push_cast];have A:=c.slen;have D:=c.len;refine⟨⟨0,⟨aC,bx⟩,rfl,rfl,rfl,rfl,rfl,trivial⟩,λi j=>aE (λd=>?_) (λn=>?_)⟩
 .obtain⟨x,f⟩:∃x,l[i]? =some x:=⟨l[i]'(by omega),cq _⟩
  obtain⟨t,u,y,E⟩:=c.at f;refine⟨t,u,y,aC,d,x,.imm cg,x,rfl,aB (λz=>jH e ?_) (λz=>?_)⟩
  .grind
  .refine⟨i+1,⟨aC,?_⟩,aC,rfl,rfl,by rw[fP aC],rfl,rfl,trivial⟩;rw[BB f,j.2]
   grind
 .refine jH e ?_
  grind
theorem XA:di 218 O4:=by
 refine gO func218 ?_;rintro n m h K ⟨s,l,rfl,d,j⟩;refine⟨aOQ s l m h,rfl,aF,QJ s l m h K,bu,?_⟩;dsimp only[QJ,push_cast];have E:=d.slen;have F:=d.len;refine⟨⟨0,⟨aC,bx⟩,rfl,rfl,rfl,rfl,rfl,trivial⟩,λi t=>aE (λe=>?_) (λu=>?_)⟩
 .obtain⟨x,f⟩:∃x,l[i]? =some x:=⟨l[i]'(by omega),cq _⟩
  obtain⟨z,A,D,G⟩:=d.at f;have c:eM x=true->(l.take (i+1)).all eM=true:=λg=>by rw[BB f,t.2,g];rfl
  refine⟨z,A,D,aC,e,x,.imm cg,?_⟩;have next:eM x=true->∃(y:Nat),(y<=l.length/\(l.take y).all eM=true)/\l.length-y<l.length-i/\y=i+1:=λg=>⟨i+1,⟨aC,c g⟩,aC,rfl⟩
  repeat' (first|(refine aB (λ_=>?_) (λ_=>?_))|(refine jH j (M1 f ?_);simp_all [eM];done)|(refine⟨i+1,⟨aC,c (by simp_all [eM])⟩,aC,rfl,rfl,by rw[fP aC],rfl,rfl,trivial⟩))
 .refine jH j ?_
  grind
def Tv(a b:VV):Bool:=a.kind==b.kind&&(a.int==b.int&&(a.text.toList==b.text.toList&&true))
def Yn(a b:OV):Bool:=a.kind==b.kind&&(a.index==b.index&&(Tv a.value b.value&&true))
theorem mE{f:Field}{e:List Field}{d:Nat}{xs c:Array Value}{w:World}{x y:Value}{r r':Bool}(g:(f.name== "_")=false)(hx:zX Tryz.prog (part f.type xs f.offset)=some x)(j:zX Tryz.prog (part f.type c f.offset)=some y)
 (n:(Op.equalIn d f.type x y).run Tryz.prog w= .ok r w)(s:(Op.eqFields d xs c e).run Tryz.prog w= .ok r' w):(Op.eqFields d xs c (f::e)).run Tryz.prog w= .ok (r&&r') w:=by
 have g:f.name≠ "_" :=cg
 simp only[Op.eqFields,if_pos g,Sem.run_bind,Bc _ _ _ hx,Bc _ _ _ j,Result.andThen_ok,n];cases r
 .simp
 grind
noncomputable def Pa(t k:Nat):Field:=(Tryz.prog.fieldsOf t).toList.getD k default
theorem Zr(a b:VV)(d:Nat)(w:World):(Op.equalIn (d+2) 27 (.agg #[.int .i64 a.kind,.int .i64 a.int,.string a.text]) (.agg #[.int .i64 b.kind,.int .i64 b.int,.string b.text])).run Tryz.prog w= .ok (Tv a b) w:=by
 rw[run_equalIn_struct w (d+1) 27 _ _ bu bu,show(Tryz.prog.fieldsOf 27).toList=[Pa 27 0,Pa 27 1,Pa 27 2]by kernel_rfl];refine mE (x:=.int .i64 a.kind) (y:=.int .i64 b.kind) bu bu bu (run_equalIn_int w d _ .i64 .i64 _ _ bu) ?_;refine mE (x:=.int .i64 a.int) (y:=.int .i64 b.int) bu bu bu (run_equalIn_int w d _ .i64 .i64 _ _ bu) ?_;refine mE (x:=.string a.text) (y:=.string b.text) bu bu bu (run_equalIn_string w d _ _ _ bu) ?_;simp[Op.eqFields]
theorem byZ(a b:OV)(d:Nat)(w:World):(Op.equalIn (d+3) 29 (.agg #[.int .i64 a.kind,.int .i64 a.index,.int .i64 a.value.kind,.int .i64 a.value.int,.string a.value.text]) (.agg #[.int .i64 b.kind,.int .i64 b.index,.int .i64 b.value.kind,.int .i64 b.value.int,.string b.value.text])).run Tryz.prog w= .ok (Yn a b) w:=by
 rw[run_equalIn_struct w (d+2) 29 _ _ bu bu,show(Tryz.prog.fieldsOf 29).toList=[Pa 29 0,Pa 29 1,Pa 29 2]by kernel_rfl];refine mE (x:=.int .i64 a.kind) (y:=.int .i64 b.kind) bu bu bu (run_equalIn_int w (d+1) _ .i64 .i64 _ _ bu) ?_;refine mE (x:=.int .i64 a.index) (y:=.int .i64 b.index) bu bu bu (run_equalIn_int w (d+1) _ .i64 .i64 _ _ bu) ?_;refine mE (x:=.agg #[.int .i64 a.value.kind,.int .i64 a.value.int,.string a.value.text]) (y:=.agg #[.int .i64 b.value.kind,.int .i64 b.value.int,.string b.value.text]) bu bu bu ?_ ?_
 .rw[show(Pa 29 2).type=27 by kernel_rfl];exact Zr a.value b.value d w
 .simp[Op.eqFields]
theorem Eg(a b:VV):StructEq Tryz.prog 27 (.agg #[.int .i64 a.kind,.int .i64 a.int,.string a.text]) (.agg #[.int .i64 b.kind,.int .i64 b.int,.string b.text]) (Tv a b):=
 ⟨bu,λw=>Zr a b 9998 w⟩
theorem Cg(a b:OV):StructEq Tryz.prog 29 (.agg #[.int .i64 a.kind,.int .i64 a.index,.int .i64 a.value.kind,.int .i64 a.value.int,.string a.value.text]) (.agg #[.int .i64 b.kind,.int .i64 b.index,.int .i64 b.value.kind,.int .i64 b.value.int,.string b.value.text]) (Yn a b):=
 ⟨bu,λw=>byZ a b 9997 w⟩
theorem xU{a b:ByteArray}(h:a.toList=b.toList):a=b:=by
 rw[ByteArray.toList_eq,ByteArray.toList_eq]at h;cases a;cases b;simp only[ByteArray.mk.injEq];exact Array.toList_inj.1 h
theorem Eh{a b:VV}:Tv a b=true↔a=b:=by
 obtain⟨k,i,t⟩:=a;obtain⟨f,g,j⟩:=b;simp only[Tv,Bool.and_true,cz,beq_iff_eq,VV.mk.injEq];exact⟨λ⟨c,d,e⟩=>⟨c,d,xU e⟩,λ⟨c,d,e⟩=>⟨c,d,by rw[e]⟩⟩
theorem w8{a b:OV}:Yn a b=true↔a=b:=by
 obtain⟨k,i,t⟩:=a;obtain⟨c,d,e⟩:=b;simp only[Yn,Bool.and_true,cz,beq_iff_eq,OV.mk.injEq,Eh]
def zeroV:VV:=⟨0,0,⟨#[]⟩⟩
def dL:OV:=⟨0,0,zeroV⟩
def pC(l:dm)(o:OV):Int:=if o.index<0||o.index>=l.length|| !Tv o.value zeroV then 0 else l.getD o.index.toNat 0
def kindOf(cols params:dm)(o:OV):Int:=
 if o.kind==3 then(if o.index !=0|| !jF o.value then 0 else o.value.kind)
 else if o.kind==2 then pC params o
 else if o.kind==1 then pC cols o
 else 0
def vU(v:PV):Bool:=v.cmp==0&&Yn v.left dL&&Yn v.right dL
def aO(o:OV):CV:=.val (.agg #[.int .i64 o.kind,.int .i64 o.index,.int .i64 o.value.kind,.int .i64 o.value.int,.string o.value.text])
def aP(p:PV):CV:=.val (.agg #[.int .i64 p.op,.int .i64 p.cmp,
 .int .i64 p.left.kind,.int .i64 p.left.index,.int .i64 p.left.value.kind,.int .i64 p.left.value.int,.string p.left.value.text,
 .int .i64 p.right.kind,.int .i64 p.right.index,.int .i64 p.right.value.kind,.int .i64 p.right.value.int,.string p.right.value.text,
 .slice p.args.a p.args.len p.args.cap])
def a2S(s t:Sl):CV:=.val (.agg #[.slice s.a s.len s.cap,.slice t.a t.len t.cap])
def a7X:Vc.Spec:=λc m h K=>∃v,c=[aP v]/\K (cB (vU v)) m h
def ZU:Vc.Spec:=λe m h K=>∃s t d c o,e=[cS s,cS t,aO o]/\Ints h s d/\Ints h t c/\K (cI (kindOf d c o)) m h
def VZ:Vc.Spec:=λe m h K=>∃s t d c o,e=[a2S s t,aO o]/\Ints h s d/\Ints h t c/\K (cI (kindOf d c o)) m h
abbrev mK(a:Nat)(b c:dj)(d:Bool):Prop:=StructEq Proofs.Tryz.prog a (Value.agg (Array.mk b)) (Value.agg (Array.mk c)) d
noncomputable abbrev a8(a b:Value)(c:dj):dj:=a::b::c
noncomputable abbrev eH:Value:=fB 0
noncomputable abbrev IL:dj:=a8 eH eH (a8 eH eH (nT vQz))
attribute [push_cast] mK a8 eH IL
def QE(v:PV)(m:MH)(h:PH)(K:dk):Prop:=
  dJ v.cmp 0 (∃(r:Bool),iX (mK 29 v.left.enc IL r) r (∃(c:Bool),mK 29 v.right.enc IL c/\K (zU c) m h) (K aX m h)) (K aX m h)
noncomputable abbrev lG(a:OV):Int:=a.value.kind
abbrev fY(a b:Int)(c d:Prop):Prop:=branch (decide (a>=b)) c d
noncomputable abbrev Bl:dj:=a8 eH eH (nT vQz)
attribute [push_cast] lG fY Bl
def GN(s t:Sl)(o:OV)(m:MH)(h:PH)(K:dk):Prop:=
  cH (o.kind==3) (fW o.index 0 (K (fQ 0) m h) (∃(v:VV),iX (uJ o.value v) (!(jF v)) (K (fQ 0) m h) (K (fQ (lG o)) m h))) (o.kind==2) (aR o.index 0 (K (fQ 0) m h) (fY o.index (aH t) (K (fQ 0) m h) (∃(r:Bool),iX (mK 27 o.value.enc Bl r) (!r) (K (fQ 0) m h) (eU t.a 0 o.index t (λb c y=>aK m h b (cF c o.index 1) (cO y)/\K (fQ y) m h))))) (dJ o.kind 1 (aR o.index 0 (K (fQ 0) m h) (fY o.index (aH s) (K (fQ 0) m h) (∃(r:Bool),iX (mK 27 o.value.enc Bl r) (!r) (K (fQ 0) m h) (eU s.a 0 o.index s (λb c y=>aK m h b (cF c o.index 1) (cO y)/\K (fQ y) m h))))) (K (fQ 0) m h))
theorem Aw{x y:Int}(c:K (cI x) m h)(e:x=y):K (.val (.int .i64 y)) m h:=e▸c
theorem Ints.inb{s:Sl}(r:Ints h s l){n:Int}(d:0<=n)(f:n<(l.length:Int)):∃b o,s.a=some ⟨b,o,none⟩/\bB h b (o+n.toNat*1) [.int .i64 (l.getD n.toNat 0)]:=by
 have c:l[n.toNat]? =some (l.getD n.toNat 0):=by
  grind
 obtain⟨b,o,e,r⟩:=r.at c
 grind
theorem Zm{s t:Sl}{cols params:dm}{o:OV}(z:Ints h s cols)(A:Ints h t params)(c:K (cI (kindOf cols params o)) m h):GN s t o m h K:=by
 have D:=z.slen;have E:=A.slen;dsimp only[GN,push_cast];refine aB (λF=>aB (λu=>Aw c ?_) (λu=>⟨o.value,rfl,aB (λd=>Aw c ?_) (λd=>Aw c ?_)⟩)) (λF=>aB (λu=>?_) (λu=>aB (λd=>?_) (λd=>Aw c ?_)))
 .simp_all [kindOf]
 .simp_all [kindOf]
 .simp_all [kindOf]
 .have y:kindOf cols params o=pC params o:=by simp_all [kindOf]
  rw[y]at c;refine aE (λd=>Aw c ?_) (λd=>aE (λg=>Aw c ?_) (λg=>⟨Tv o.value zeroV,Eg o.value zeroV,aB (λf=>Aw c ?_) (λf=>?_)⟩))
  .simp[pC,d]
  .rw[E]at g;simp[pC,g]
  .simp only[Bool.not_eq_true']at f;simp[pC,f]
  .obtain⟨b,off,e,r⟩:=A.inb (n:=o.index) aC aC;refine⟨b,off,e,aC,aC,_,.imm r,Aw c ?_⟩;have j:¬o.index>=params.length:=by omega
   simp only[Bool.not_eq_false']at f;simp[pC,d,j,f]
 .have y:kindOf cols params o=pC cols o:=by simp_all [kindOf]
  rw[y]at c;refine aE (λd=>Aw c ?_) (λd=>aE (λg=>Aw c ?_) (λg=>⟨Tv o.value zeroV,Eg o.value zeroV,aB (λf=>Aw c ?_) (λf=>?_)⟩))
  .simp[pC,d]
  .rw[D]at g;simp[pC,g]
  .simp only[Bool.not_eq_true']at f;simp[pC,f]
  .obtain⟨b,off,e,r⟩:=z.inb (n:=o.index) aC aC;refine⟨b,off,e,aC,aC,_,.imm r,Aw c ?_⟩;have j:¬o.index>=cols.length:=by omega
   simp only[Bool.not_eq_false']at f;simp[pC,d,j,f]
 .simp_all [kindOf]
theorem Xy:di 223 a7X:=by
 refine gO func223 ?_;rintro d m h K ⟨v,rfl,c⟩;refine⟨ctx [] [] [] [] false,rfl,aF,QE v m h K,bu,?_⟩;dsimp only[QE,push_cast];refine aB (λe=>⟨Yn v.left dL,Cg v.left dL,aB (λf=>⟨Yn v.right dL,Cg v.right dL,jH c ?_⟩) (λf=>jH c ?_)⟩) (λe=>jH c ?_)
 all_goals simp_all [vU]
theorem Xx:di 224 ZU:=by
 refine gO func224 ?_;rintro e m h K ⟨s,t,d,c,o,rfl,f,g,j⟩;refine⟨ctx [(259,LY)] [] [] [] false,rfl,aD Hu aF,GN s t o m h K,bu,?_⟩;exact Zm f g j
theorem WZ:di 264 VZ:=by
 refine gO func264 ?_;rintro e m h K ⟨s,t,d,c,o,rfl,f,g,j⟩;refine⟨ctx [(186,LY)] [] [] [] false,rfl,aD Hw aF,GN s t o m h K,bu,?_⟩;exact Zm f g j
def Pred.args:Pred->dx
 |.mk _ _ _ _ l=>l
mutual
def oR:Pred->Int->Int
 |.mk _ _ _ _ args,n=>lF args (n+1)
def lF:dx->Int->Int
 |[],n=>n
 |p::ps,n=>if n<=24 then lF ps (oR p n)else n
end
mutual
def mN:Pred->Nat->Bool
 |.mk _ _ _ _ _,0=>true
 |.mk _ _ _ _ args,n+1=>tX args n
def tX:dx->Nat->Bool
 |[],_=>false
 |p::ps,n=>mN p n||tX ps n
end
mutual
theorem Dh:∀(p:Pred)(n:Int),n<=24->n<oR p n/\oR p n<=25
 |.mk _ _ _ _ args,n,h=>by
  have:=G2 args (n+1) aC;simp only[oR];omega
theorem G2:∀(ps:dx)(n:Int),n<=25->n<=lF ps n/\lF ps n<=25
 |[],n,h=>by simp only[lF];omega
 |p::ps,n,h=>by
  simp only[lF];split
  .rename_i c;have d:=Dh p n c;have e:=G2 ps (oR p n) d.2;omega
  .omega
end
theorem Sr(ps:dx){n:Int}(h:¬n<=24):lF ps n=n:=by
 cases ps
 .simp[lF]
 .simp only[lF,if_neg h]
theorem Jz(n:Nat):∀ps:dx,tX ps n=ps.any (mN · n)
 |[]=>by simp[tX]
 |p::ps=>by simp[tX,Jz n ps]
theorem xA{p:Pred}{q:Pred}(h:q∈p.args):SizeOf.sizeOf q<SizeOf.sizeOf p:=by
 cases p with
 |mk op c l r args=>
  have:=sizeOf_lt_of_mem h;simp only[Pred.args]at this
  grind
theorem eA.open{v:PV}(r:eA h p v):p.args.length<=502633886983/\v.args.len=p.args.length/\∀(i:Nat)(q:Pred),p.args[i]? =some q->∃b o u,v.args.a=some ⟨b,o,none⟩/\bB h b (o+i*13) (PV.enc u)/\eA h q u:=by
 cases p with
 |mk op f l s args=>
  obtain⟨t,y,z,A,g,D,c,d⟩:=r;have E:=d.length;refine⟨g,?_,λi q j=>?_⟩
  .have:=c.len;simp at this;simp only[Pred.args];omega
  .obtain⟨u,n,F⟩:=d.get j;obtain⟨b,o,e,r⟩:=c.get (i:=i) (e:=PV.enc u) (by simp[n])
   grind
def YI(N:Nat):Vc.Spec:=λc m h K=>∃v p k,c=[aP v,cI k]/\eA h p v/\SizeOf.sizeOf p<N/\0<=k/\k<=24/\K (cI (oR p k)) m h
def Tp(N:Nat):Vc.Spec:=λc m h K=>∃v p,∃k:Nat,c=[aP v,cI k]/\eA h p v/\SizeOf.sizeOf p<N/\k<=100/\K (cB (mN p k)) m h
noncomputable def aUQ(N:Nat)(v:PV)(p:Pred)(k:Int)(m:MH)(h:PH):Ctx:=
 ctx [(166,YI N)] [(3,{A:=Nat×Int,st:=λx=>bK 27 29 [(1,iv x.2),(2,.at (.ptr 2 0)),(5,iv x.1)] [(2,.cells 32 (v.enc.map .val))] m h,inv:=λx=>x.1<=p.args.length/\0<=x.2/\x.2<=25/\lF (p.args.drop x.1) x.2=oR p k,mu:=λx=>p.args.length-x.1})] [] [] false
noncomputable def aTJ(N:Nat)(v:PV)(p:Pred)(k:Nat)(m:MH)(h:PH):Ctx:=
 ctx [(167,Tp N)] [Fg 4 (λi=>bK 23 25 [(1,iv k),(2,.at (.ptr 2 0)),(10,iv v.args.len),(11,iv i)] [(2,.cells 32 (v.enc.map .val))] m h) (λi=>i<=p.args.length/\(p.args.take i).any (mN · (k-1))=false) (λi=>p.args.length-i)] [] [] false
noncomputable abbrev rT(a:Pred):Nat:=a.args.length
abbrev Mh(a:Nat×Int)(b:Pred)(c d:Int):Prop:=aA (a.1<=rT b) (0<=a.2) (a.2<=c/\lF (List.drop a.1 b.args) a.2=oR b d)
abbrev dQ(a b:Int):Prop:=sQi a=sQi b
abbrev dX:Prop:=eP 2
noncomputable abbrev Ey(a:Nat)(b:dj):Option Go.Vc.Own:=oQ a (List.map At.val b)
noncomputable abbrev uZ(a:PV):Option Go.Vc.Own:=Ey 32 a.enc
abbrev iU(a:PV):Prop:=eQ (uZ a)
abbrev Cs(a b:Int)(c d:Prop):Prop:=branch (decide (a<=b)) c d
abbrev vZ(a:PV->Pred->Prop):Prop:=∃(x:PV)(c:Pred),a x c
noncomputable abbrev bJ(a b:CV):ei:=a::DZ b
noncomputable abbrev bA(a:CV)(b:Int):ei:=bJ a (fQ b)
noncomputable abbrev dM(a:PV):CV:=pN a.enc
abbrev rU(a:Pred)(b:Nat):Prop:=SizeOf.sizeOf a<b
abbrev cC(a:Int):Prop:=0<=a
attribute [push_cast] rT Mh dQ dX Ey uZ iU Cs vZ bJ bA dM rU cC
def Rk(N:Nat)(v:PV)(p:Pred)(k:Int)(m:MH)(h:PH)(K:dk):Prop:=
  (∃(x:Nat×Int),aA (Mh x p 25 k) (dQ (iJ (k+1)) x.2) (aA dX (aY x.1) (bG (iU v) (m=m) (h=h))))/\∀(x:Nat×Int),Mh x p 25 k->aR (↑x.1:Int) (aH v.args) (Cs x.2 24 (bT (λb o=>aA (bX v.args.a b o) (0<=(↑x.1:Int)) ((↑x.1:Int)<aH v.args/\∃(y:PV),aK m h b (bC o x.1 13) y.enc/\vZ (λf e=>∃(c:Int),aA (bA (dM y) x.2=bA (dM f) c) (eA h e f) (aA (rU e N) (cC c) (c<=24/\∃(d:Nat×Int),aA (Mh d p 25 k) (rT p-d.1<rT p-x.1) (aA (dQ (oR e c) d.2) dX (aA (aU (aW x.1 1) d.1) (iU v) (aA (m=m) (h=h) True))))))))) (K (fQ x.2) m h)) (K (fQ x.2) m h)
abbrev J6(a:Bool):Prop:=a=false
abbrev Mi(a:Nat)(b:Pred)(c:Pred->Pred)(d:Nat):Prop:=a<=rT b/\J6 (List.any (List.take a b.args) (fun(x:Pred)=>mN (c x) (d-1)))
abbrev rO(a:PV):Prop:=a7 a.args
noncomputable abbrev mF(a:CV)(b:Nat):ei:=bA a (↑b:Int)
abbrev bH(a b:PH):Prop:=a=b/\True
attribute [push_cast] J6 Mi rO mF bH
def Rj(N:Nat)(v:PV)(p:Pred)(k:Nat)(m:MH)(h:PH)(K:dk):Prop:=
  dJ (↑k:Int) 0 (K eW m h) (mD (∃(x:Nat),aA (Mi x p (λc=>c) k) (eQ (vK k)) (aA dX (rO v) (aA (aY x) (iU v) (aA (m=m) (h=h) True)))) (λx=>Mi x p (λc=>c) k->aR (↑x:Int) (aH v.args) (bT (λb o=>aA (bX v.args.a b o) (0<=(↑x:Int)) ((↑x:Int)<aH v.args/\∃(y:PV),aK m h b (bC o x 13) y.enc/\vZ (λg d=>∃(e:Nat),aA (bA (dM y) (iJ ((↑k:Int)-1))=mF (dM g) e) (eA h d g) (aA (rU d N) (e<=100) (gR (mN d e) (K eW m h) (λf=>aA (Mi f p (λc=>c) k) (rT p-f<rT p-x) (aA (eQ (vK k)) dX (aA (rO v) (aU (aW x 1) f) (aA (iU v) (m=m) (bH h h))))))))))) (K aX m h)))
theorem Vo:∀N,di 166 (YI N)
 |0=>by
  refine eC (fn:=Tryz.f166) (c:=cL Tryz.f166) func166 rfl bz ?_;rintro j m h K ⟨v,p,k,rfl,z,F,_⟩;omega
 |N+1=>by
  refine gO func166 ?_;rintro j m h K ⟨v,p,k,rfl,z,F,O,Q,A⟩;refine⟨aUQ N v p k m h,rfl,aD (Vo N) aF,Rk N v p k m h K,bu,?_⟩;dsimp only[Rk,push_cast];obtain⟨R,D,e⟩:=z.open;refine⟨⟨(0,k+1),⟨bx,ce,ce,?_⟩,by rw[dR aC aC],rfl,rfl,rfl,rfl,rfl,trivial⟩,?_⟩
  .cases p;simp[oR,Pred.args]
  rintro⟨i,n⟩ ⟨G,f,s,g⟩;simp only at G f s g;refine aE (λt=>aE (λd=>?_) (λd=>Aw A ?_)) (λH=>Aw A ?_)
  .simp only at t d;obtain⟨q,E⟩:∃q,p.args[i]? =some q:=⟨p.args[i]'(by omega),cq _⟩
   obtain⟨b,o,u,I,J,y⟩:=e i q E
   have M:p.args.drop i=q::p.args.drop (i+1):=by
    rw[drop_eq_getElem_cons aC];grind
   have S:=Dh q n d;refine⟨b,o,I,bx,aC,u,.imm cg,u,q,n,rfl,y,?_,f,d,(i+1,oR q n),⟨aC,aC,aC,?_⟩,aC,rfl,rfl,by rw[fP aC],rfl,rfl,rfl,trivial⟩
   .have:=xA (cr E);omega
   .rw[M,lF,if_pos d]at g;exact g
  .rw[<-g,Sr _ d]
  .rw[<-g,drop_of_length_le aC];simp[lF]
theorem Vn:∀N,di 167 (Tp N)
 |0=>by
  refine eC (fn:=Tryz.f167) (c:=cL Tryz.f167) func167 rfl bz ?_;rintro f m h K ⟨v,p,k,rfl,t,D,_⟩;omega
 |N+1=>by
  refine gO func167 ?_;rintro f m h K ⟨v,p,k,rfl,t,D,J,e⟩;refine⟨aTJ N v p k m h,rfl,aD (Vn N) aF,Rj N v p k m h K,bu,?_⟩;dsimp only[Rj,push_cast];obtain⟨M,y,d⟩:=t.open;refine aB (λz=>jH e ?_) (λz=>?_)
  .have:k=0:=cg
   subst this;cases p;simp[mN]
  .have z:k≠0:=cg
   have g:mN p k=p.args.any (mN · (k-1)):=by
    obtain⟨A,rfl⟩:∃A,k=A+1:=⟨k-1,aC⟩
    cases p;simp[mN,Jz,Pred.args]
   rw[g]at e;refine⟨⟨0,⟨aC,bx⟩,rfl,rfl,rfl,rfl,rfl,rfl,rfl,trivial⟩,λi E=>aE (λj=>?_) (λF=>jH e ?_)⟩
   .obtain⟨q,n⟩:∃q,p.args[i]? =some q:=⟨p.args[i]'(by omega),cq _⟩
    obtain⟨b,o,u,G,H,s⟩:=d i q n;refine⟨b,o,G,aC,j,u,.imm cg,u,q,k-1,?_,s,?_,aC,aB (λI=>jH e ?_) (λI=>?_)⟩
    .rw[dR aC aC,show((k-1:Nat):Int)=(k:Int)-1 by omega]
    .have:=xA (cr n);omega
    .grind
    .refine⟨i+1,⟨aC,?_⟩,aC,rfl,rfl,rfl,by rw[fP aC],rfl,rfl,rfl,trivial⟩;rw[db,any_append,E.2,n];grind
   grind
def EW(c:Int)(l r:OV):Bool:=c==0&&Yn l dL&&Yn r dL
mutual
def jA(cols params:dm):Pred->Bool
 |.mk op c l r args=>
  if op==1||op==2 then EW c l r&&args.length==0
  else if op==3 then args.length==0&&c>=1&&c<=6&&kindOf cols params l !=0&&kindOf cols params l==kindOf cols params r
  else if op==4||op==5||(op==6&&args.length==1)then EW c l r&&vP cols params args
  else false
def vP(cols params:dm):dx->Bool
 |[]=>true
 |p::ps=>jA cols params p&&vP cols params ps
end
theorem EN(cols params:dm):∀ps:dx,vP cols params ps=ps.all (jA cols params)
 |[]=>by simp[vP]
 |p::ps=>by simp[vP,EN cols params ps]
structure L8(cols params:dm)(v:PV)(p:Pred):Prop where
 eq:jA cols params p=(vU v&&p.args.all (jA cols params))
def Td(N:Nat):Vc.Spec:=λe m h K=>∃s t d c v p,e=[cS s,cS t,aP v]/\Ints h s d/\Ints h t c/\eA h p v/\SizeOf.sizeOf p<N/\K (cB (jA d c p)) m h
def OT(N:Nat):Vc.Spec:=λe m h K=>∃s t d c v p,e=[a2S s t,aP v]/\Ints h s d/\Ints h t c/\eA h p v/\SizeOf.sizeOf p<N/\K (cB (jA d c p)) m h
noncomputable def aTZ(N:Nat)(s t:Sl)(cols params:dm)(v:PV)(p:Pred)(m:MH)(h:PH):Ctx:=
 ctx [(168,Td N),(223,a7X),(224,ZU)] [Fg 17 (λi=>bK 84 87 [(0,sv s),(1,sv t),(5,.at (.ptr 5 0)),(70,iv v.args.len),(71,iv i)] [(5,.cells 32 (v.enc.map .val))] m h) (λi=>i<=p.args.length/\(p.args.take i).all (jA cols params)=true) (λi=>p.args.length-i)] [(14,{A:=Unit,st:=λ_=>bK 84 87 [(0,sv s),(1,sv t),(5,.at (.ptr 5 0))] [(5,.cells 32 (v.enc.map .val))] m h,inv:=λ_=>L8 cols params v p})] [] false
noncomputable def aNZ(N:Nat)(s t:Sl)(cols params:dm)(v:PV)(p:Pred)(m:MH)(h:PH):Ctx:=
 ctx [(220,OT N),(264,VZ)] [Fg 18 (λi=>bK 87 89 [(2,.at (.ptr 2 0)),(3,.at (.ptr 3 0)),(76,sv v.args),(77,iv v.args.len),(78,iv i)] [(2,.cells 266 [.val (.slice s.a s.len s.cap),.val (.slice t.a t.len t.cap)]),(3,.cells 32 (v.enc.map .val))] m h) (λi=>i<=p.args.length/\(p.args.take i).all (jA cols params)=true) (λi=>p.args.length-i)] [(15,{A:=Unit,st:=λ_=>bK 87 89 [(2,.at (.ptr 2 0)),(3,.at (.ptr 3 0))] [(2,.cells 266 [.val (.slice s.a s.len s.cap),.val (.slice t.a t.len t.cap)]),(3,.cells 32 (v.enc.map .val))] m h,inv:=λ_=>L8 cols params v p})] [] false
noncomputable abbrev mS(a:PV):Int:=aH a.args
abbrev kQ(a:Sl->Sl->Prop):Prop:=∃(x c:Sl),a x c
abbrev tI(a:dm->dm->Prop):Prop:=∃(x c:dm),a x c
abbrev Iq(a:ei)(b:Sl->Sl->OV->ei)(c:PH)(d:dm->dm->OV->Prop):Prop:=kQ (λx e=>tI (λf g=>∃(j:OV),aA (a=b x e j) (Ints c x f) (Ints c e g/\d f g j)))
noncomputable abbrev dW(a:Sl)(b:CV):ei:=bJ (fD a) b
abbrev dC:Prop:=eP 5
abbrev DG(a:Nat)(b:Pred)(c d:dm):Prop:=a<=rT b/\gG (List.all (List.take a b.args) (jA c d))
attribute [push_cast] mS kQ tI Iq dW dC DG
def Ri(N:Nat)(s t:Sl)(cols params:dm)(v:PV)(p:Pred)(m:MH)(h:PH)(K:dk):Prop:=
  cH (v.op==1) (∃(d:PV),iX (iY (dM v) (dM d)) (vU d) (K (zU (mS v==0)) m h) (K aX m h)) (v.op==2) (∃(d:PV),iX (iY (dM v) (dM d)) (vU d) (K (zU (mS v==0)) m h) (K aX m h)) (cH (v.op==3) (Iq (fD s::dW t (pN v.left.enc)) (λe f o=>fD e::dW f (pN o.enc)) h (λc g o=>dJ (mS v) 0 (fY v.cmp 1 (Cs v.cmp 6 (fW (kindOf c g o) 0 (Iq (fD s::dW t (pN v.right.enc)) (λe f n=>fD e::dW f (pN n.enc)) h (λA j n=>K (zU (kindOf c g o==kindOf A j n)) m h)) (K aX m h)) (K aX m h)) (K aX m h)) (K aX m h))) (v.op==4) (∃(x:Unit),aA (L8 cols params v p) (aG s) (aA (aG t) dC (bG (iU v) (m=m) (h=h)))) (cH (v.op==5) (∃(x:Unit),aA (L8 cols params v p) (aG s) (aA (aG t)
 dC (bG (iU v) (m=m) (h=h)))) (v.op==6) (fW (mS v) 1 (K aX m h) (∃(x:Unit),aA (L8 cols params v p) (aG s) (aA (aG t) dC (bG (iU v) (m=m) (h=h))))) (K aX m h)))/\∀(_:Unit),L8 cols params v p->∃(d:PV),iX (iY (dM v) (dM d)) (!(vU d)) (K aX m h) (mD (∃(x:Nat),aA (DG x p cols params) (aG s) (aA (aG t) dC (aA (rO v) (aY x) (aA (iU v) (m=m) (bH h h))))) (λx=>DG x p cols params->aR (↑x:Int) (aH v.args) (bT (λb o=>aA (bX v.args.a b o) (0<=(↑x:Int)) ((↑x:Int)<aH v.args/\∃(y:PV),aK m h b (bC o x 13) y.enc/\kQ (λe f=>tI (λc g=>vZ (λz j=>aA (fD s::dW t (dM y)=fD e::dW f (dM z)) (Ints h e c) (aA (Ints h f g) (eA h j z) (rU j N
 /\gR (!(jA c g j)) (K aX m h) (λu=>aA (DG u p cols params) (rT p-u<rT p-x) (aA (aG s) (aG t) (aA dC (rO v) (aA (aU (aW x 1) u) (iU v) (bE (m=m) h h))))))))))))) (K eW m h)))
noncomputable abbrev kR(a b:Value):dj:=a8 a b []
noncomputable abbrev IK(a b:Sl)(c:OV):ei:=bJ (pN (kR (fF a) (fF b))) (pN c.enc)
abbrev cA:Prop:=eP 3
noncomputable abbrev eO(a b:At)(c:dz):dz:=a::b::c
noncomputable abbrev mO(a b:At):dz:=eO a b []
abbrev BR(a b:Sl):Prop:=eQ (oQ 266 (mO (xG a) (xG b)))
abbrev hU(a:Prop)(b:Bool)(c d:Prop):Prop:=a->branch b c d
attribute [push_cast] kR IK cA eO mO BR hU
def QG(N:Nat)(s t:Sl)(cols params:dm)(v:PV)(p:Pred)(m:MH)(h:PH)(K:dk):Prop:=
  cH (v.op==3) (Iq (IK s t v.left) (λd e o=>IK d e o) h (λc f o=>Iq (IK s t v.right) (λd e j=>IK d e j) h (λA g j=>dJ (mS v) 0 (fY v.cmp 1 (Cs v.cmp 6 (fW (kindOf c f o) 0 (K (zU (kindOf c f o==kindOf A g j)) m h) (K aX m h)) (K aX m h)) (K aX m h)) (K aX m h)))) (v.op==1) (fW (mS v) 0 (K aX m h) (∃(x:Unit),aA (L8 cols params v p) dX (aA cA (BR s t) (bG (iU v) (m=m) (h=h))))) (cH (v.op==2) (fW (mS v) 0 (K aX m h) (∃(x:Unit),aA (L8 cols params v p) dX (aA cA (BR s t) (bG (iU v) (m=m) (h=h))))) (v.op==6) (fW (mS v) 1 (K aX m h) (∃(x:Unit),aA (L8 cols params v p) dX (aA cA (BR s t) (bG (iU v) (m=m) (h=h))))) (cH (v.op==4) (∃(x:
 Unit),aA (L8 cols params v p) dX (aA cA (BR s t) (bG (iU v) (m=m) (h=h)))) (v.op==5) (∃(x:Unit),aA (L8 cols params v p) dX (aA cA (BR s t) (bG (iU v) (m=m) (h=h)))) (K aX m h)))/\∀(_:Unit),hU (L8 cols params v p) (v.cmp !=0) (K aX m h) (∃(r:Bool),iX (mK 29 v.left.enc IL r) (!r) (K aX m h) (∃(u:Bool),iX (mK 29 v.right.enc IL u) (!u) (K aX m h) (mD (∃(x:Nat),aA (DG x p cols params) dX (aA cA (aG v.args) (aA (rO v) (aY x) (aA (BR s t) (iU v) (bE (m=m) h h))))) (λx=>DG x p cols params->aR (↑x:Int) (aH v.args) (bT (λb o=>aA (bX v.args.a b o) (0<=(↑x:Int)) ((↑x:Int)<aH v.args/\∃(y:PV),aK m h b (bC o x 13) y.enc/\kQ (λd e=>tI (λc f=>
 vZ (λz g=>aA (bJ (pN (kR (fF s) (fF t))) (dM y)=bJ (pN (kR (fF d) (fF e))) (dM z)) (Ints h d c) (aA (Ints h e f) (eA h g z) (rU g N/\gR (!(jA c f g)) (K aX m h) (λn=>aA (DG n p cols params) (rT p-n<rT p-x) (aA dX cA (aA (aG v.args) (a7 v.args) (aA (aU (aW x 1) n) (BR s t) (bG (iU v) (m=m) (h=h)))))))))))))) (K eW m h)))))
theorem eA.top{v:PV}(r:eA h p v):p= .mk v.op v.cmp v.left v.right p.args:=by
 cases p with
 |mk op c l j args=>obtain⟨d,e,f,g,_⟩:=r;simp[Pred.args,d,e,f,g]
theorem Lm{cols params:dm}{h:PH}{p:Pred}{v:PV}(r:eA h p v):jA cols params p=if v.op==1||v.op==2 then vU v&&p.args.length==0
 else if v.op==3 then p.args.length==0&&v.cmp>=1&&v.cmp<=6&&kindOf cols params v.left !=0&&kindOf cols params v.left==kindOf cols params v.right
 else if v.op==4||v.op==5||(v.op==6&&p.args.length==1)then vU v&&p.args.all (jA cols params)
 else false:=by
 have:=r.top;generalize p.args=xs at this⊢
 subst this;rw[jA,EN];rfl
theorem b1Q{n:Nat}{k:Nat}:((n:Int)==(k:Int))=(n==k):=by
 grind
theorem Vm:∀N,di 168 (Td N)
 |0=>by
  refine eC (fn:=Tryz.f168) (c:=cL Tryz.f168) func168 rfl bz ?_;rintro n m h K ⟨s,t,cols,params,v,p,rfl,_,_,y,Q,_⟩;omega
 |N+1=>by
  refine gO func168 ?_;rintro n m h K ⟨s,t,cols,params,v,p,rfl,z,A,y,Q,d⟩;refine⟨aTZ N s t cols params v p m h,rfl,aD (Vm N) (aD Xy (aD Xx aF)),Ri N s t cols params v p m h K,bu,?_⟩;obtain⟨Y,O,f⟩:=y.open;have Z:=Lm (cols:=cols) (params:=params) y;have R:((v.args.len:Int)==0)=(p.args.length==0):=cg
  have h1:((v.args.len:Int) !=1)=(p.args.length !=1):=cg
  dsimp only[Ri,push_cast];refine⟨?_,?_⟩
  .refine aB (λe=>⟨v,rfl,aB (λg=>jH d ?_) (λg=>jH d ?_)⟩) (λe=>aB (λS=>⟨v,rfl,aB (λg=>jH d ?_) (λg=>jH d ?_)⟩) (λS=>aB (λg=>⟨s,t,cols,params,v.left,rfl,z,A,?_⟩) (λg=>?_)))
   .grind
   .grind
   .grind
   .grind
   .have D:jA cols params p=(p.args.length==0&&v.cmp>=1&&v.cmp<=6&&kindOf cols params v.left !=0&&kindOf cols params v.left==kindOf cols params v.right):=cg
    rw[D]at d;refine aB (λj=>aB (λE=>aB (λF=>aB (λG=>⟨s,t,cols,params,v.right,rfl,z,A,jH d ?_⟩) (λG=>jH d ?_)) (λF=>jH d ?_)) (λE=>jH d ?_)) (λj=>jH d ?_)
    all_goals (rw[R]at j;simp only[beq_iff_eq,dc,decide_eq_false_iff_not]at*;simp[*])
   .refine aB (λj=>⟨(),⟨cg⟩,rfl,rfl,rfl,rfl,rfl,rfl,trivial⟩) (λj=>aB (λE=>⟨(),⟨cg⟩,rfl,rfl,rfl,rfl,rfl,rfl,trivial⟩) (λE=>aB (λF=>aB (λG=>jH d ?_) (λG=>⟨(),⟨?_⟩,rfl,rfl,rfl,rfl,rfl,rfl,trivial⟩)) (λF=>jH d ?_)))
    .grind
    .grind
    grind
  .intro _ H;rw[H.eq]at d;refine⟨v,rfl,aB (λe=>jH d ?_) (λe=>?_)⟩
   .simp_all
   .have e:vU v=true:=cm e
    rw[e,Bool.true_and]at d;refine⟨⟨0,⟨aC,bx⟩,rfl,rfl,rfl,rfl,rfl,rfl,rfl,rfl,trivial⟩,λi T=>aE (λI=>?_) (λU=>jH d ?_)⟩
    .obtain⟨q,J⟩:∃q,p.args[i]? =some q:=⟨p.args[i]'(by omega),cq _⟩
     obtain⟨b,o,u,V,W,M⟩:=f i q J;refine⟨b,o,V,aC,I,u,.imm cg,s,t,cols,params,u,q,rfl,z,A,M,?_,aB (λX=>jH d ?_) (λX=>?_)⟩
     .have:=xA (cr J);omega
     .grind
     .refine⟨i+1,⟨aC,?_⟩,aC,rfl,rfl,rfl,rfl,by rw[fP aC],rfl,rfl,rfl,trivial⟩;rw[BB J,T.2];grind
    grind
theorem U7:∀N,di 220 (OT N)
 |0=>by
  refine eC (fn:=Tryz.f220) (c:=cL Tryz.f220) func220 rfl bz ?_;rintro j m h K ⟨s,t,cols,params,v,p,rfl,_,_,n,S,_⟩;omega
 |N+1=>by
  refine gO func220 ?_;rintro j m h K ⟨s,t,cols,params,v,p,rfl,y,z,n,S,d⟩;refine⟨aNZ N s t cols params v p m h,rfl,aD (U7 N) (aD WZ aF),QG N s t cols params v p m h K,bu,?_⟩;obtain⟨hl,Q,g⟩:=n.open;have hv:=Lm (cols:=cols) (params:=params) n;have T:((v.args.len:Int)==0)=(p.args.length==0):=cg
  have U:((v.args.len:Int) !=0)=(p.args.length !=0):=cg
  have h1:((v.args.len:Int) !=1)=(p.args.length !=1):=cg
  have R:p.args.length=0->p.args.all (jA cols params)=true:=λe=>cg
  dsimp only[QG,push_cast];refine⟨?_,?_⟩
  .refine aB (λA=>⟨s,t,cols,params,v.left,rfl,y,z,s,t,cols,params,v.right,rfl,y,z,?_⟩) (λA=>aB (λe=>aB (λf=>jH d ?_) (λf=>⟨(),⟨?_⟩,rfl,rfl,rfl,rfl,rfl,rfl,trivial⟩)) (λe=>aB (λD=>aB (λf=>jH d ?_) (λf=>⟨(),⟨?_⟩,rfl,rfl,rfl,rfl,rfl,rfl,trivial⟩)) (λD=>aB (λE=>aB (λF=>jH d ?_) (λF=>⟨(),⟨?_⟩,rfl,rfl,rfl,rfl,rfl,rfl,trivial⟩)) (λE=>aB (λf=>⟨(),⟨?_⟩,rfl,rfl,rfl,rfl,rfl,rfl,trivial⟩) (λf=>aB (λG=>⟨(),⟨?_⟩,rfl,rfl,rfl,rfl,rfl,rfl,trivial⟩) (λG=>jH d ?_))))))
   .have V:v.op=3:=cg
    have H:jA cols params p=(p.args.length==0&&v.cmp>=1&&v.cmp<=6&&kindOf cols params v.left !=0&&kindOf cols params v.left==kindOf cols params v.right):=cg
    rw[H]at d;refine aB (λf=>aB (λG=>aB (λE=>aB (λF=>jH d ?_) (λF=>jH d ?_)) (λE=>jH d ?_)) (λG=>jH d ?_)) (λf=>jH d ?_)
    all_goals (rw[T]at f;simp only[beq_iff_eq,dc,decide_eq_false_iff_not]at*;simp[*])
   .grind
   .grind
   .grind
   .grind
   .grind
   .grind
   .grind
   .grind
   grind
  .intro _ I;rw[I.eq]at d;refine aB (λe=>jH d ?_) (λe=>⟨Yn v.left dL,Cg v.left dL,aB (λD=>jH d ?_) (λD=>⟨Yn v.right dL,Cg v.right dL,aB (λA=>jH d ?_) (λA=>?_)⟩)⟩)
   .simp_all [vU]
   .simp_all [vU]
   .simp_all [vU]
   .have e:vU v=true:=by simp_all [vU]
    rw[e,Bool.true_and]at d;refine⟨⟨0,⟨aC,bx⟩,rfl,rfl,rfl,rfl,rfl,rfl,rfl,rfl,rfl,trivial⟩,λi W=>aE (λJ=>?_) (λX=>jH d ?_)⟩
    .obtain⟨q,M⟩:∃q,p.args[i]? =some q:=⟨p.args[i]'(by omega),cq _⟩
     obtain⟨b,o,u,Y,Z,O⟩:=g i q M;refine⟨b,o,Y,aC,J,u,.imm cg,s,t,cols,params,u,q,rfl,y,z,O,?_,aB (λhd=>jH d ?_) (λhd=>?_)⟩
     .have:=xA (cr M);omega
     .grind
     .refine⟨i+1,⟨aC,?_⟩,aC,rfl,rfl,rfl,rfl,by rw[fP aC],rfl,rfl,rfl,rfl,trivial⟩;rw[BB M,W.2];grind
    grind
theorem drop_cons{α:Type}{l:List α}{x:α}(h:l[i]? =some x):l.drop i=x::l.drop (i+1):=by
 have c:i<l.length:=(cn h);rw[drop_eq_getElem_cons c]
 grind
mutual
def lR:Pred->Nat->Int->Bool×Int
 |.mk _ _ _ _ args,k,b=>if b<1 then(false,b-1)else match k with|0=>(false,b-1)|k+1=>vR args k (b-1)
def vR:dx->Nat->Int->Bool×Int
 |[],_,b=>(true,b)
 |p::ps,k,b=>match lR p k b with|(false,c)=>(false,c)|(true,c)=>vR ps k c
end
mutual
def PB:Pred->Int
 |.mk _ _ _ _ args=>1+BD args
def BD:dx->Int
 |[]=>0
 |p::ps=>PB p+BD ps
end
mutual
theorem Sb:∀p:Pred,1<=PB p
 |.mk _ _ _ _ args=>by have:=ER args;simp only[PB];omega
theorem ER:∀ps:dx,0<=BD ps
 |[]=>by simp[BD]
 |p::ps=>by have:=Sb p;have:=ER ps;simp only[BD];omega
end
mutual
theorem FR:∀(p:Pred)(n:Int),n<=24->(n+PB p<=24->oR p n=n+PB p)/\(24<n+PB p->oR p n=25)
 |.mk _ _ _ _ args,n,h=>by
  obtain⟨c,d⟩:=NF args (n+1) aC;simp only[oR,PB];omega
theorem NF:∀(ps:dx)(n:Int),n<=25->(n+BD ps<=24->lF ps n=n+BD ps)/\(24<n+BD ps->lF ps n=25)
 |[],n,h=>by
  simp only[lF,BD];omega
 |p::ps,n,h=>by
  have e:=Sb p;have f:=ER ps;simp only[lF,BD];by_cases c:n<=24
  .rw[if_pos c];have g:=FR p n c;have d:=(Dh p n c).2;have j:=NF ps _ d;omega
  omega
end
mutual
theorem JP:∀(p:Pred)(k:Nat)(b:Int),0<=b->((lR p k b).1=true↔PB p<=b/\mN p k=false)/\((lR p k b).1=true->(lR p k b).2=b-PB p)
 |.mk _ _ _ _ args,k,b,h=>by
  have d:=ER args;simp only[lR,PB];by_cases c:b<1
  .grind
  .rw[if_neg c];cases k with
   |zero=>exact⟨⟨λe=>(by cases e),λe=>(by simp[mN]at e)⟩,λe=>(by cases e)⟩
   |succ k=>
    obtain⟨f,g⟩:=Ng args k (b-1) aC;simp only[mN]
    grind
theorem Ng:∀(ps:dx)(k:Nat)(b:Int),0<=b->((vR ps k b).1=true↔BD ps<=b/\tX ps k=false)/\((vR ps k b).1=true->(vR ps k b).2=b-BD ps)
 |[],k,b,h=>by simp[vR,BD,tX,h]
 |p::ps,k,b,h=>by
  obtain⟨c,d⟩:=JP p k b h;have j:=ER ps;simp only[vR,BD,tX];cases e:lR p k b with
  |mk r f=>
   rw[e]at c d;cases r with
   |false=>
    grind
   |true=>
    have g:=d rfl;have c:=c.1 rfl;simp only at g;obtain⟨n,s⟩:=Ng ps k f aC
    grind
end
def iL(cols params:dm)(p:Pred):Int:=
 if !cols.all eM|| !params.all eM then 1
 else if oR p 0>24||mN p 8 then 2
 else if !jA cols params p then 50 else 0
theorem abX(p:Pred):(lR p 8 24).1= !(decide (oR p 0>24)||mN p 8):=by
 have c:=(JP p 8 24 aC).1;have d:=FR p 0 aC
 grind
def sC(n:Int):Obj:=.cells #[.int .i64 n] 3 (0,0)
def YD(N:Nat):Vc.Spec:=λc m h K=>∃v p,∃k b:Nat,∃n,c=[aP v,cI (9-k),cP b]/\eA h p v/\SizeOf.sizeOf p<N/\k<=9/\0<=n/\n<=24/\m b=some (sC n)/\∀m',gI m m' b (sC (lR p k n).2)->K (cB (lR p k n).1) m' h
noncomputable def aNJ(N:Nat)(v:PV)(p:Pred)(k b:Nat)(n:Int)(m:MH)(h:PH):Ctx:=
 ctx [(219,YD N)] [(5,{A:=Nat×Int×MH,st:=λx=>bK 36 39 [(1,iv (9-k)),(2,vv (.pointer (some ⟨b,0,none⟩))),(23,sv v.args),(24,iv v.args.len),(25,iv x.1)] [] x.2.2 h,inv:=λx=>x.1<=p.args.length/\0<=x.2.1/\x.2.1<=24/\gI m x.2.2 b (sC x.2.1)/\1<=k/\vR (p.args.drop x.1) (k-1) x.2.1=lR p k n,mu:=λx=>p.args.length-x.1})] [] [] false
def vC:Vc.Spec:=λe m h K=>∃s t v d c p,e=[cS s,cS t,aP v]/\Ints h s d/\Ints h t c/\eA h p v/\K (cI (iL d c p)) m h
noncomputable def bmX(N:Nat):Ctx:=ctx [(87,O4),(166,YI N),(167,Tp N),(168,Td N)] [] [] [] false
noncomputable def aUJ(N:Nat):Ctx:=ctx [(218,O4),(219,YD N),(220,OT N)] [] [] [] false
abbrev sP(a:MH)(b:PH)(c d:Nat)(e:Int->Prop):Prop:=∃(x:Int),aK a b c d (cO x)/\e x
abbrev gE(a:(Array Value)->TypeId->Prop):Prop:=∃(x:Array Value)(c:TypeId),a x c
noncomputable abbrev fC(a:Array Value)(b:TypeId)(c:Nat):Obj:=Obj.cells a b (c,c)
abbrev fE(a:Nat)(b:Array Value):Prop:=a<b.size
abbrev bL(a b:MH)(c:Nat)(d:dj)(e:Nat):Prop:=gI a b c (fC (Array.mk d) e 0)
noncomputable abbrev jC(a:Value)(b:Nat)(c:Array Value):dj:=a::List.drop b c.toList
abbrev eR(a b:Int)(c d:Prop):Prop:=branch (decide (a>b)) c d
noncomputable abbrev sO(a:Nat):Int:=9-(↑a:Int)
noncomputable abbrev Mj(a:Nat×Int×MH)(b:Pred)(c:Nat):Bool×Int:=vR (List.drop a.1 b.args) (c-1) a.2.1
abbrev jR(a:Int):Prop:=eQ (sQi a)
abbrev dN(a:Nat):Prop:=eQ (sQo a 0)
noncomputable abbrev bY(a:Nat):CV:=cQp a 0
attribute [push_cast] sP gE fC fE bL jC eR sO Mj jR dN bY
def QH(N:Nat)(v:PV)(p:Pred)(k b:Nat)(n:Int)(m:MH)(h:PH)(K:dk):Prop:=
  sP m h b 0 (λy=>gE (λc E=>aA (sK m b (fC c E 0)) (fE 0 c) (∀(e:MH),bL m e b (jC (fB (iJ (y-1))) 1 c) E->sP e h b 0 (λD=>aR D 0 (K aX e h) (eR (sO k) 8 (K aX e h) ((∃(x:Nat×Int×MH),aA (aA (x.1<=rT p) (cC x.2.1) (aA (x.2.1<=24) (bL m x.2.2 b (cO x.2.1) 3) (1<=k/\Mj x p k=lR p k n))) (jR (sO k)) (aA (dN b) (aG v.args) (aA (rO v) (aY x.1) (aA (e=x.2.2) (h=h) True))))/\∀(x:Nat×Int×MH),aA (x.1<=rT p) (cC x.2.1) (aA (x.2.1<=24) (bL m x.2.2 b (cO x.2.1) 3) (1<=k/\Mj x p k=lR p k n))->aR (↑x.1:Int) (aH v.args) (bT (λu o=>aA (bX v.args.a u o) (0<=(↑x.1:Int)) ((↑x.1:Int)<aH v.args/\∃(z:PV),aK x.2.2 h u (bC o x.1 13) z.enc/\vZ (fun
 A g=>bT (λj s=>∃(f:Int),aA (dM z::bJ (fQ (iJ (sO k+1))) (bY b)=dM A::bJ (fQ (sO j)) (bY s)) (eA h g A) (aA (rU g N) (j<=9) (aA (cC f) (f<=24) (x.2.2 s=Option.some (fC (Array.mk (cO f)) 3 0)/\∀(t:MH),hU (bL x.2.2 t s (cO (lR g j f).2) 3) (!(lR g j f).1) (K aX t h) (∃(d:Nat×Int×MH),aA (aA (d.1<=rT p) (cC d.2.1) (aA (d.2.1<=24) (bL m d.2.2 b (cO d.2.1) 3) (1<=k/\Mj d p k=lR p k n))) (rT p-d.1<rT p-x.1) (aA (jR (sO k)) (dN b) (aA (aG v.args) (a7 v.args) (aA (aU (aW x.1 1) d.1) (t=d.2.2) (bH h h))))))))))))) (K eW x.2.2 h)))))))
abbrev Cx(a:Sl->dm->Prop):Prop:=∃(x:Sl)(c:dm),a x c
abbrev p9(a b:Sl):Prop:=iY (fD a) (fD b)
abbrev Ir(a:Sl)(b:PH)(c:dk)(d:MH)(e:Prop):Prop:=Cx (λx f=>aA (p9 a x) (Ints b x f) (branch (!(Hp f)) (c (fQ 1) d b) e))
attribute [push_cast] Cx p9 Ir
def UJ(N:Nat)(s t:Sl)(v:PV)(m:MH)(h:PH)(K:dk):Prop:=
  Ir s h K m (Ir t h K m (vZ (λg p=>∃(k:Int),aA (bA (dM v) 0=bA (dM g) k) (eA h p g) (aA (rU p N) (cC k) (k<=24/\eR (oR p k) 24 (K (fQ 2) m h) (vZ (λj d=>∃(e:Nat),aA (bA (dM v) 8=mF (dM j) e) (eA h d j) (aA (rU d N) (e<=100) (branch (mN d e) (K (fQ 2) m h) (kQ (λn u=>tI (λc y=>vZ (λz f=>aA (fD s::dW t (dM v)=fD n::dW u (dM z)) (Ints h n c) (aA (Ints h u y) (eA h f z) (iX (rU f N) (!(jA c y f)) (K (fQ 50) m h) (K (fQ 0) m h))))))))))))))))
abbrev aT(a b c:Prop):Prop:=a->b->c
attribute [push_cast] aT
def Rn(N:Nat)(s t:Sl)(v:PV)(m:MH)(h:PH)(K:dk):Prop:=
  Ir s h K m (Ir t h K m (∀(b:Nat)(e:MH),aT (dZ m h b) (bL m e b (cO 24) 3) (vZ (λj p=>bT (λk f=>∃(n:Int),aA (dM v::bJ (fQ 1) (bY b)=dM j::bJ (fQ (sO k)) (bY f)) (eA h p j) (aA (rU p N) (k<=9) (aA (cC n) (n<=24) (e f=Option.some (fC (Array.mk (cO n)) 3 0)/\∀(d:MH),hU (bL e d f (cO (lR p k n).2) 3) (!(lR p k n).1) (K (fQ 2) d h) (kQ (λu y=>tI (λc z=>vZ (λA g=>aA (bJ (pN (kR (fF s) (fF t))) (dM v)=bJ (pN (kR (fF u) (fF y))) (dM A)) (Ints h u c) (aA (Ints h y z) (eA h g A) (iX (rU g N) (!(jA c z g)) (K (fQ 50) d h) (K (fQ 0) d h)))))))))))))))
end Go.Ps
namespace Go.Vc
open Go.Ps Go.Proofs List
theorem gI.trans{m m' c:MH}{b:Nat}{o d:Obj}(j:gI m m' b o)(e:gI m' c b d):gI m c b d:=⟨e.at_,λf g=>(e.other f g).trans (j.other f g)⟩
end Go.Vc
namespace Go.Ps
open Go Go.Vc Go.Proofs List Tryz
variable{K:dk}{m:MH}{h:PH}{ps:dm}{cb:Nat}{sc:bW}{v:QV}{q:Query}{p:Pred}{l:dm}{i:Nat}{N:Nat}{m':MH}{h':PH}{co:dm}{gr:dm}{od:dr}{w:Pred}{ta:Int}{li:Int}{xs:List dj}{sz:Nat}{ks:List dm}{rs:dm}{r:Sl}{a:dm}{b:Nat}
theorem U9:∀N,di 219 (YD N)
 |0=>by
  refine eC (fn:=Tryz.f219) (c:=cL Tryz.f219) func219 rfl bz ?_;rintro E m h K ⟨v,p,k,b,n,rfl,Q,V,_⟩;omega
 |N+1=>by
  refine gO func219 ?_;rintro E m h K ⟨v,p,k,b,n,rfl,Q,V,hk,h0,h1,R,j⟩;refine⟨aNJ N v p k b n m h,rfl,aD (U9 N) aF,QH N v p k b n m h K,bu,?_⟩;dsimp only[QH,push_cast];obtain⟨hl,S,y⟩:=Q.open;have W:IntKind.i64.wrap (n-1)=n-1:=dR aC aC;refine⟨n,.of_m R rfl,_,_,⟨R⟩,bx,λm' T=>?_⟩;rw[W]at T;have f:gI m m' b (sC (n-1)):=T;refine⟨n-1,.of_m f.at_ rfl,aE (λX=>?_) (λX=>aE (λY=>?_) (λY=>?_))⟩
  .have e:lR p k n=(false,n-1):=by cases p;simp only[lR];grind
   rw[e]at j;exact j m' f
  .have F:k=0:=by omega
   subst F;have e:lR p 0 n=(false,n-1):=by cases p;simp only[lR];grind
   rw[e]at j;exact j m' f
  .refine⟨⟨(0,n-1,m'),⟨bx,cg,cg,f,aC,?_⟩,MT⟩,?_⟩
   .obtain⟨U,rfl⟩:∃U,k=U+1:=⟨k-1,aC⟩
    cases p;simp only[lR,drop_zero,Pred.args]
    grind
   .rintro⟨i,x,Z⟩ ⟨hi,s,z,g,G,d⟩;simp only at hi s z g d;refine aE (λa'=>?_) (λa0=>?_)
    .obtain⟨q,H⟩:∃q,p.args[i]? =some q:=⟨p.args[i]'(by omega),cq _⟩
     obtain⟨b1,o,u,ea,a1,I⟩:=y i q H;have hd:p.args.drop i=q::p.args.drop (i+1):=drop_cons H;refine⟨b1,o,ea,bx,aC,u,.imm cg,u,q,k-1,b,x,?_,I,?_,aC,s,z,g.at_,λJ M=>?_⟩
     .rw[dR aC aC,show(9-((k-1:Nat):Int))=9-(k:Int)+1 by omega]
     .have:=xA (cr H);omega
     .have t:gI m J b (sC (lR q (k-1) x).2):=g.trans M;rw[hd,vR]at d;obtain⟨A,D⟩:=JP q (k-1) x s;cases e:lR q (k-1) x with
      |mk r x'=>
       rw[e]at d t A D;cases r with
       |false=>
        simp only at d;rw[<-d]at j;exact j J t
       |true=>
        have a2:=A.1 rfl;have O:=D rfl;have a3:=Sb q;simp only at O d;exact⟨(i+1,x',J),⟨aC,cg,cg,t,G,d⟩,aC,MT⟩
    .rw[drop_of_length_le aC]at d;simp only[vR]at d;rw[<-d]at j;exact j Z g
theorem Kn:di 94 vC:=by
 refine gO func94 ?_;rintro n m h K ⟨s,t,v,d,c,p,rfl,g,j,f,e⟩;refine⟨bmX (SizeOf.sizeOf p+1),rfl,aD Qc (aD (Vo _) (aD (Vn _) (aD (Vm _) aF))),UJ (SizeOf.sizeOf p+1) s t v m h K,bu,?_⟩;dsimp only[UJ,push_cast];refine⟨s,d,rfl,g,aB (λu=>Aw e ?_) (λu=>⟨t,c,rfl,j,aB (λy=>Aw e ?_) (λy=>⟨v,p,0,rfl,f,aC,aC,aC,aB (λz=>Aw e ?_) (λz=>⟨v,p,8,rfl,f,aC,aC,aB (λA=>Aw e ?_) (λA=>⟨s,t,d,c,v,p,rfl,g,j,f,aC,aB (λD=>Aw e ?_) (λD=>Aw e ?_)⟩)⟩)⟩)⟩)⟩
 all_goals (simp only[iL];simp only[*,Bool.or_false,Bool.false_or,Bool.or_true,Bool.true_or,Bool.and_true,Bool.true_and,Bool.and_false,Bool.false_and,Bool.not_true,Bool.not_false,Bool.false_eq_true,if_true,if_false, ↓reduceIte])
theorem Ht{f:FuncId}{fn:Func}(s:Tryz.prog.funcs[f]? =some fn){S:Vc.Spec}(j:∀c m h K,S c m h K->∃C:Ctx,C.P=Tryz.prog/\(∀g S,assoc C.specs g=some S->di g S)/\∃N:Prop,N=Bx C fn (cL fn) (entry fn.ntmps c m h) (λr m' h'=>∃m2 n,(∀b o,m2 b=some o->m' b=some o)/\PH.le h n/\PH.le n h'/\K r m2 n)/\N)(t:fn.body=some (cL fn):=by rfl)(d:(fn.name== "runtime.NumGoroutine")=false:=by decide):di f S:=agQ s t d λc m h K u=>let⟨C,hC,hs,N,e,hn⟩:=j c m h K u;⟨C,hC,hs,e▸hn⟩
theorem OB:di 156 vC:=by
 refine Ht func156 ?_;rintro I m h K ⟨s,t,v,d,c,p,rfl,E,F,G,J⟩;refine⟨aUJ (SizeOf.sizeOf p+1),rfl,aD XA (aD (U9 _) (aD (U7 _) aF)),Rn (SizeOf.sizeOf p+1) s t v m h (λr m' h'=>∃j n,(∀b o,j b=some o->m' b=some o)/\PH.le h n/\PH.le n h'/\K r j n),bu,?_⟩;dsimp only[Rn,push_cast];have f:∀(m':MH),(∀b o,m b=some o->m' b=some o)->∀x,iL d c p=x->∃j n,(∀b o,j b=some o->m' b=some o)/\PH.le h n/\PH.le n h/\K (.val (.int .i64 x)) j n:=λm' M x e=>⟨m,h,M,.refl _,.refl _,e▸J⟩
 refine⟨s,d,rfl,E,aB (λO=>f m (λ_ _ e=>e) _ ?_) (λO=>⟨t,c,rfl,F,aB (λQ=>f m (λ_ _ e=>e) _ ?_) (λQ b U R u=>⟨v,p,8,b,24,rfl,G,aC,aC,aC,aC,u.at_,λj A=>?_⟩)⟩)⟩
 .simp only[iL];grind
 .simp only[iL];grind
 .have g:∀b o,m b=some o->j b=some o:=λD o e=>by
   have y:D≠b:=λS=>by rw[S,R.m_]at e;cases e
   rw[A.other D y,u.other D y,e]
  have z:=abX p;refine aB (λH=>f j g _ ?_) (λH=>⟨s,t,d,c,v,p,rfl,E,F,G,aC,aB (λT=>f j g _ ?_) (λT=>f j g _ ?_)⟩)
  all_goals (rw[z,Bool.not_not]at H;clear z;simp only[iL];simp only[*,Bool.or_false,Bool.false_or,Bool.or_true,Bool.true_or,Bool.and_true,Bool.true_and,Bool.and_false,Bool.false_and,Bool.not_true,Bool.not_false,Bool.false_eq_true,if_true,if_false, ↓reduceIte])
structure aZ{α β:Type}(h:PH)(sz:Nat)(enc:β->dj)(R:α->β->Prop)(s:Sl)(l:List α):Prop where
 ex:∃vs:List β,bN h s sz (vs.map enc)/\l.length=vs.length/\∀(i:Nat)(x:α),l[i]? =some x->∃v,vs[i]? =some v/\R x v
 len:l.length<=502633886983
theorem aZ.slen{α β:Type}{enc:β->dj}{R:α->β->Prop}{s:Sl}{l:List α}(r:aZ h sz enc R s l):s.len=l.length:=by
 obtain⟨d,c,e,_⟩:=r.ex;have:=c.len
 grind
theorem aZ.at{α β:Type}{enc:β->dj}{R:α->β->Prop}{s:Sl}{l:List α}(r:aZ h sz enc R s l){x:α}(c:l[i]? =some x):
 ∃b o v,s.a=some ⟨b,o,none⟩/\bB h b (o+i*sz) (enc v)/\R x v:=by
 obtain⟨j,d,_,f⟩:=r.ex;obtain⟨v,g,n⟩:=f i x c;obtain⟨b,o,e,k⟩:=d.get (i:=i) (e:=enc v) (by simp[g])
 grind
theorem aZ.mono{α β:Type}{enc:β->dj}{R R':α->β->Prop}{s:Sl}{l:List α}(r:aZ h sz enc R s l)(le:PH.le h h')(d:∀x v,R x v->R' x v):aZ h' sz enc R' s l:=by
 obtain⟨e,f,g,j⟩:=r.ex;exact⟨⟨e,f.mono le,g,λi x n=>(j i x n).imp λv c=>⟨c.1,d _ _ c.2⟩⟩,r.len⟩
theorem aZ.nil{α β:Type}(h:PH)(sz:Nat)(enc:β->dj)(R:α->β->Prop):aZ h sz enc R ⟨none,0,0⟩ ([]:List α):=
 ⟨⟨[],.nil h sz,rfl,λi x c=>by simp at c⟩,bx⟩
theorem eN{α:Type}{l:List α}{i n:Nat}(c:n=l.length)(d:(i:Int)<(n:Int)):∃x,l[i]? =some x:=⟨l[i]'(by omega),cq _⟩
def FF(h:PH)(s:Sl)(ps:dx):Prop:=aZ h 13 PV.enc (eA h) s ps
theorem FF.mono{s:Sl}{ps:dx}(r:FF h s ps)(le:PH.le h h'):FF h' s ps:=aZ.mono r le λ_ _=>eA.mono le
theorem nX.toL{s:Sl}{ps:dx}{vs:fc}(d:bN h s 13 (vs.map PV.enc))(c:nX h ps vs)(e:ps.length<=502633886983):FF h s ps:=
 ⟨⟨vs,d,c.length.symm,λ_ _ f=>c.get f⟩,e⟩
theorem nX.ofL{h:PH}:∀{ps:dx}{vs:fc},ps.length=vs.length->(∀(i:Nat)(x:Pred),ps[i]? =some x->∃v,vs[i]? =some v/\eA h x v)->nX h ps vs
 |[],[],_,_=>rfl
 |p::ps,v::vs,c,d=>by
  obtain⟨j,f,g⟩:=d 0 p rfl;simp at f;subst f;exact⟨v,vs,rfl,g,nX.ofL cg λi x e=>cm (d (i+1) x (by simpa using e))⟩
 |[],_::_,c,_=>by simp at c
 |_::_,[],c,_=>by simp at c
theorem eA.parts{op c:Int}{l r:OV}{args:dx}{v:PV}(x:eA h (.mk op c l r args) v):v.op=op/\v.cmp=c/\v.left=l/\v.right=r/\FF h v.args args:=by
 obtain⟨d,e,f,g,j,t,n,s⟩:=x;exact⟨d,e,f,g,s.toL n j⟩
theorem eA.mk{h:PH}{args:dx}{v:PV}(c:FF h v.args args):eA h (.mk v.op v.cmp v.left v.right args) v:=by
 obtain⟨d,e,f,g⟩:=c.ex;exact⟨rfl,rfl,rfl,rfl,c.len,d,e,.ofL f g⟩
def bBZ(N:Nat):Vc.Spec:=λc m h K=>∃v w p q,c=[aP v,aP w]/\eA h p v/\eA h q w/\SizeOf.sizeOf p<N/\∀r:Bool,(r=true↔p=q)->K (cB r) m h
def bGJ(N:Nat):Vc.Spec:=λc m h K=>∃s t ps qs,c=[cS s,cS t,.val (.func (.func 300) #[] #[])]/\FF h s ps/\FF h t qs/\(∀p∈ps,SizeOf.sizeOf p<N)/\∀r:Bool,(r=true↔ps=qs)->K (cB r) m h
noncomputable def aJQ(N:Nat):Ctx:=ctx [(309,bGJ N)] [] [] [] false
noncomputable def aIZ(N:Nat)(s t:Sl)(ps qs:dx)(m:MH)(h:PH):Ctx:=
 ctx [(300,bBZ N)] [Fg 4 (λi=>bK 32 35 [(1,sv t),(2,vv (.func (.func 300) #[] #[])),(15,sv s),(16,iv s.len),(17,iv i)] [] m h) (λi=>i<=ps.length/\∀j:Nat,j<i->ps[j]? =qs[j]?) (λi=>ps.length-i)] [] [] false
noncomputable def boQ(N:Nat)(v w:PV)(ps qs:dx)(m:MH)(h:PH):Ctx:=
 ctx [(76,bBZ N)] [Fg 4 (λi=>bK 60 62 [(2,.at (.ptr 2 0)),(3,.at (.ptr 3 0)),(43,iv v.args.len),(44,iv i)] [(2,.cells 32 (v.enc.map .val)),(3,.cells 32 (w.enc.map .val))] m h) (λi=>i<=ps.length/\∀j:Nat,j<i->ps[j]? =qs[j]?) (λi=>ps.length-i)] [] [] false
noncomputable abbrev vG:Array Value:=Array.mk []
noncomputable abbrev AI(a:Nat):CV:=CV.val (Value.func (Fn.func a) vG vG)
attribute [push_cast] vG AI
def Ku(N:Nat)(v w:PV)(m:MH)(h:PH)(K:dk):Prop:=
  dJ v.op w.op (dJ v.cmp w.cmp (∃(r:Bool),iX (mK 29 v.left.enc w.left.enc r) r (∃(c:Bool),iX (mK 29 v.right.enc w.right.enc c) c (kQ (λs t=>∃(p q:dx),aA (fD v.args::dW w.args (AI 300)=fD s::dW t (AI 300)) (FF h s p) (aA (FF h t q) (∀(d:Pred),List.Mem d p->rU d N) (∀(e:Bool),(gG e↔p=q)->K (zU e) m h)))) (K aX m h)) (K aX m h)) (K aX m h)) (K aX m h)
abbrev Dy(a:Nat)(b c:dx):Prop:=mD (a<=b.length) (λx=>x<a->b[x]? =c[x]?)
noncomputable abbrev Je(a:Fn)(b:Array Value):SV:=SV.at (At.val (Value.func a vG b))
abbrev D0(a:Nat):Prop:=eQ (Je (Fn.func a) vG)
abbrev IM(a:PV->PV->Pred->Pred->Prop):Prop:=∃(x:PV),vZ (λc d=>∃(e:Pred),a x c d e)
attribute [push_cast] Dy Je D0 IM
def Qj(N:Nat)(s t:Sl)(ps qs:dx)(m:MH)(h:PH)(K:dk):Prop:=
  fW (aH s) (aH t) (K aX m h) (mD (∃(x:Nat),aA (Dy x ps qs) (aG t) (aA (D0 300) (aG s) (aA (a7 s) (aY x) (aA (m=m) (h=h) True)))) (λx=>Dy x ps qs->aR (↑x:Int) (aH s) (bT (λb o=>aA (bX s.a b o) (0<=(↑x:Int)) ((↑x:Int)<aH s/\∃(y:PV),aK m h b (bC o x 13) y.enc/\bT (λd e=>aA (bX t.a d e) (0<=(↑x:Int)) ((↑x:Int)<aH t/\∃(f:PV),aK m h d (bC e x 13) f.enc/\IM (λv w p q=>aA (bJ (dM y) (dM f)=bJ (dM v) (dM w)) (eA h p v) (aA (eA h q w) (rU p N) (∀(r:Bool),(gG r↔p=q)->gR (!r) (K aX m h) (λc=>aA (Dy c ps qs) (ps.length-c<ps.length-x) (aA (aG t) (D0 300) (aA (aG s) (a7 s) (aA (aU (aW x 1) c) (m=m) (bH h h))))))))))))) (K eW
 m h)))
def Oe(N:Nat)(v w:PV)(ps qs:dx)(m:MH)(h:PH)(K:dk):Prop:=
  cH (v.op !=w.op) (K aX m h) (v.cmp !=w.cmp) (K aX m h) (∃(r:Bool),iX (mK 29 v.left.enc w.left.enc r) (!r) (K aX m h) (∃(d:Bool),mK 29 v.right.enc w.right.enc d/\cH (!d) (K aX m h) (mS v !=mS w) (K aX m h) (mD (∃(x:Nat),aA (Dy x ps qs) dX (aA cA (rO v) (aA (aY x) (iU v) (aA (iU w) (m=m) (bH h h))))) (λx=>Dy x ps qs->aR (↑x:Int) (aH v.args) (bT (λb o=>aA (bX v.args.a b o) (0<=(↑x:Int)) ((↑x:Int)<aH v.args/\∃(y:PV),aK m h b (bC o x 13) y.enc/\bT (λe f=>aA (bX w.args.a e f) (0<=(↑x:Int)) ((↑x:Int)<aH w.args/\∃(g:PV),aK m h e (bC f x 13) g.enc/\IM (λj n p q=>aA (bJ (dM y) (dM g)=bJ (dM j) (dM n)) (eA h p j) (aA (eA h q n) (rU p N)
 (∀(s:Bool),(gG s↔p=q)->gR (!s) (K aX m h) (λc=>aA (Dy c ps qs) (ps.length-c<ps.length-x) (aA dX cA (aA (rO v) (aU (aW x 1) c) (aA (iU v) (iU w) (bE (m=m) h h))))))))))))) (K eW m h)))))
theorem A9{α:Type}{a b:List α}(c:a.length=b.length)(d:a.length<=i)(h:∀j:Nat,j<i->a[j]? =b[j]?):a=b:=by
 apply ext_getElem?
 grind
theorem xV{α:Type}{a b:List α}{x y:α}(hx:a[i]? =some x)(c:b[i]? =some y)(e:x=y)(h:∀j:Nat,j<i->a[j]? =b[j]?):∀j:Nat,j<i+1->a[j]? =b[j]? :=by
 grind
theorem PX{α:Type}{a b:List α}{x y:α}(hx:a[i]? =some x)(c:b[i]? =some y)(e:x≠y):a≠b:=λh=>by
 grind
theorem NT{α β:Type}{s t:Sl}{a:List α}{b:List β}(c:s.len=a.length)(d:t.len=b.length)(e:((s.len:Int) !=(t.len:Int))=true):a.length≠b.length:=λh=>by
 grind
theorem Ke{α β:Type}{s t:Sl}{a:List α}{b:List β}(c:s.len=a.length)(d:t.len=b.length)(e:((s.len:Int) !=(t.len:Int))=false):a.length=b.length:=by
 grind
theorem brJ{v w:PV}{q:Pred}(u:eA h p v)(y:eA h q w)(H:SizeOf.sizeOf p<N+1)(s:∀r:Bool,(r=true↔p=q)->K (cB r) m h):Ku N v w m h K:=by
 dsimp only[Ku,push_cast];have d:p≠q->K (cB false) m h:=λh=>s false ⟨λe=>(by cases e),λe=>(h e).elim⟩;have c:=@xA p;obtain⟨op,z,l,r,ps⟩:=p;obtain⟨A,t,I,J,qs⟩:=q;obtain⟨rfl,rfl,rfl,rfl,j⟩:=u.parts;obtain⟨rfl,rfl,rfl,rfl,n⟩:=y.parts;refine aB (λD=>aB (λE=>⟨_,Cg _ _,aB (λf=>⟨_,Cg _ _,aB (λg=>⟨v.args,w.args,ps,qs,rfl,j,n,λp F=>?_,λr G=>s r (G.trans ?_)⟩) (λg=>d λe=>?_)⟩) (λf=>d λe=>?_)⟩) (λE=>d λe=>?_)) (λD=>d λe=>?_)
 .have:=c (q:=p) F;omega
 .rw[w8]at f g
  grind
 .injection e with _ _ _ e _;rw[w8.2 e]at g;cases g
 .injection e with _ _ e _ _;rw[w8.2 e]at f;cases f
 .grind
 grind
theorem U5:∀N,di 300 (bBZ N)
 |0=>by
  refine eC (fn:=Tryz.f300) (c:=cL Tryz.f300) func300 rfl bz ?_;rintro g m h K ⟨v,w,p,q,rfl,D,_,E,_⟩;omega
 |N+1=>by
  have z:di 309 (bGJ N):=by
   refine gO func309 ?_;rintro g m h K ⟨s,t,ps,qs,rfl,H,Q,E,F⟩;refine⟨aIZ N s t ps qs m h,rfl,aD (U5 N) aF,Qj N s t ps qs m h K,bu,?_⟩;dsimp only[Qj,push_cast];have d:=H.slen;have A:=Q.slen;have T:=H.len;have R:ps≠qs->K (cB false) m h:=λh=>F false ⟨λe=>(by cases e),λe=>(h e).elim⟩;refine aB (λI=>R (λe=>NT d A I (by rw[e]))) (λI=>?_);have U:=Ke d A I;refine⟨⟨0,⟨aC,λj hj=>by omega⟩,MT⟩,λi S=>aE (λf=>?_) (λV=>?_)⟩
   .obtain⟨x,G⟩:=eN d f;obtain⟨y,J⟩:∃y,qs[i]? =some y:=eN (n:=s.len) aC f;obtain⟨W,X,u,Y,Z,ru⟩:=H.at G;obtain⟨b2,o2,w,e2,r2,M⟩:=Q.at J;refine⟨W,X,Y,aC,f,u,.imm Z,b2,o2,e2,aC,aC,w,.imm r2,u,w,x,y,rfl,ru,M,E x (cr G),λr D=>aB (λa'=>R (PX G J (λe=>?_))) (λhe=>?_)⟩
    .grind
    .have O:r=true:=cg
     exact⟨i+1,⟨aC,xV G J (D.1 O) S.2⟩,aC,MT⟩
   .exact F true ⟨λ_=>A9 U aC S.2,λ_=>rfl⟩
  refine gO func300 ?_;rintro g m h K ⟨v,w,p,q,rfl,D,hq,E,F⟩;refine⟨aJQ N,rfl,aD z aF,Ku N v w m h K,bu,?_⟩;exact brJ D hq E F
theorem bPX{v w:PV}{q:Pred}(T:eA h p v)(U:eA h q w)(hN:SizeOf.sizeOf p<N+1)(D:∀r:Bool,(r=true↔p=q)->K (cB r) m h):Oe N v w p.args q.args m h K:=by
 dsimp only[Oe,push_cast];have c:p≠q->K (cB false) m h:=λh=>D false ⟨λe=>(by cases e),λe=>(h e).elim⟩;have d:=@xA p;obtain⟨op,V,l,r,ps⟩:=p;obtain⟨W,O,l',r',qs⟩:=q;obtain⟨rfl,rfl,rfl,rfl,E⟩:=T.parts;obtain⟨rfl,rfl,rfl,rfl,Q⟩:=U.parts;simp only[Pred.args]at d⊢
 have g:=E.slen;have F:=Q.slen;have X:=E.len;refine aB (λG=>c λe=>?_) (λG=>aB (λH=>c λe=>?_) (λH=>⟨_,Cg _ _,aB (λs=>c λe=>?_) (λs=>⟨_,Cg _ _,aB (λt=>c λe=>?_) (λt=>aB (λR=>c λe=>?_) (λR=>?_))⟩)⟩))
 .grind
 .grind
 .injection e with _ _ e _ _;rw[w8.2 e]at s;cases s
 .injection e with _ _ _ e _;rw[w8.2 e]at t;cases t
 .grind
 .have Y:=Ke g F R;have s:v.left=w.left:=w8.1 cg;have t:v.right=w.right:=w8.1 cg;have G:v.op=w.op:=cg
  have H:v.cmp=w.cmp:=cg
  rw[G,H,s,t]at D c;have c:ps≠qs->K (cB false) m h:=λA=>c λe=>A (by injection e);refine⟨⟨0,⟨aC,λj hj=>by omega⟩,MT⟩,λi S=>aE (λf=>?_) (λZ=>?_)⟩
  .obtain⟨x,I⟩:=eN g f;obtain⟨y,J⟩:∃y,qs[i]? =some y:=eN (n:=v.args.len) aC f;obtain⟨b1,o1,u,e1,r1,ru⟩:=E.at I;obtain⟨b2,o2,z,e2,r2,rz⟩:=Q.at J;refine⟨b1,o1,e1,aC,f,u,.imm r1,b2,o2,e2,aC,aC,z,.imm r2,u,z,x,y,rfl,ru,rz,?_,λr hr=>aB (λA=>c (PX I J (λe=>?_))) (λhe=>?_)⟩
   .grind
   .grind
   .have M:r=true:=cg
    exact⟨i+1,⟨aC,xV I J (hr.1 M) S.2⟩,aC,MT⟩
  .exact D true ⟨λ_=>by rw[A9 Y aC S.2],λ_=>rfl⟩
theorem Zj:∀N,di 76 (bBZ N)
 |0=>by
  refine eC (fn:=Tryz.f76) (c:=cL Tryz.f76) func76 rfl bz ?_;rintro d m h K ⟨v,w,p,q,rfl,e,_,f,_⟩;omega
 |N+1=>by
  refine gO func76 ?_;rintro d m h K ⟨v,w,p,q,rfl,e,g,f,j⟩;refine⟨boQ N v w p.args q.args m h,rfl,aD (Zj N) aF,Oe N v w p.args q.args m h K,bu,?_⟩;exact bPX e g f j
def bBJ:Vc.Spec:=λc m h K=>∃v w p q,c=[aP v,aP w]/\eA h p v/\eA h q w/\∀r:Bool,(r=true↔p=q)->K (cB r) m h
theorem jE{f:FuncId}{S:Nat->Vc.Spec}{S':Vc.Spec}(h:∀N,di f (S N))(e:∀c m h K,S' c m h K->∃N,S N c m h K):di f S':=by
 refine⟨(h 0).1,λc g m d w K j n=>?_⟩;obtain⟨N,s⟩:=e c m d K j;exact(h N).2 c g m d w K s n
theorem WQ:di 300 bBJ:=jE U5 λ_ _ _ _⟨v,w,p,q,e,c,d,f⟩=>⟨SizeOf.sizeOf p+1,v,w,p,q,e,c,d,aC,f⟩
theorem aiX:di 76 bBJ:=jE Zj λ_ _ _ _⟨v,w,p,q,e,c,d,f⟩=>⟨SizeOf.sizeOf p+1,v,w,p,q,e,c,d,aC,f⟩
theorem Jt{d e c i:Nat}{g:eh}{xs f:Array Value}{w:World}{x y:Value}{r r':Bool}(hx:zX Tryz.prog (part e xs (i*c))=some x)(j:zX Tryz.prog (part e f (i*c))=some y)
 (n:(Op.equalIn d e x y).run Tryz.prog w= .ok r w)(s:(Op.eqItems d e c xs f g).run Tryz.prog w= .ok r' w):(Op.eqItems d e c xs f (i::g)).run Tryz.prog w= .ok (r&&r') w:=by
 simp only[Op.eqItems,Sem.run_bind,Bc _ _ _ hx,Bc _ _ _ j,Result.andThen_ok,n];cases r
 .simp
 grind
def bRZ(a b:Int×Int):Bool:=a.1==b.1&&(a.2==b.2&&true)
def bRX(a b:Int×Bool):Bool:=a.1==b.1&&(a.2==b.2&&true)
theorem a0Q(a b:Int×Int):StructEq Tryz.prog 101 (.agg #[.int .i64 a.1,.int .i64 a.2]) (.agg #[.int .i64 b.1,.int .i64 b.2]) (bRZ a b):=by
 refine⟨bu,λw=>?_⟩;obtain⟨i,c⟩:=Option.isSome_iff_exists.1 (show(Tryz.prog.info? 3).isSome=true by kernel_rfl);rw[run_equalIn_array w 9999 (e:=3) (n:=2) _ _ bu c,show Tryz.prog.cellsOf 3=1 by kernel_rfl,show List.range 2=[0,1]from rfl];refine Jt (x:=.int .i64 a.1) (y:=.int .i64 b.1) bu bu (run_equalIn_int w 9998 _ .i64 .i64 _ _ bu) ?_;refine Jt (x:=.int .i64 a.2) (y:=.int .i64 b.2) bu bu (run_equalIn_int w 9998 _ .i64 .i64 _ _ bu) ?_;simp[Op.eqItems]
theorem aZJ(a b:Int×Bool):StructEq Tryz.prog 103 (.agg #[.int .i64 a.1,.bool a.2]) (.agg #[.int .i64 b.1,.bool b.2]) (bRX a b):=by
 refine⟨bu,λw=>?_⟩;rw[run_equalIn_struct w 9999 103 _ _ bu bu,show(Tryz.prog.fieldsOf 103).toList=[Pa 103 0,Pa 103 1]by kernel_rfl];refine mE (x:=.int .i64 a.1) (y:=.int .i64 b.1) bu bu bu (run_equalIn_int w 9998 _ .i64 .i64 _ _ bu) ?_;refine mE (x:=.bool a.2) (y:=.bool b.2) bu bu bu (run_equalIn_bool w 9998 _ _ _ bu) ?_;simp[Op.eqFields]
theorem VD{a b:Int×Int}:bRZ a b=true↔a=b:=by
 obtain⟨c,d⟩:=a;obtain⟨e,f⟩:=b;simp[bRZ]
theorem VB{a b:Int×Bool}:bRX a b=true↔a=b:=by
 obtain⟨c,d⟩:=a;obtain⟨e,f⟩:=b;simp[bRX]
theorem lE.at{s:Sl}{l:dp}(r:lE h s l){x:Int×Int}(c:l[i]? =some x):∃b o,s.a=some ⟨b,o,none⟩/\bB h b (o+i*2) (mJ x):=r.row.get (by simp[c])
theorem jU.at{s:Sl}{l:dr}(r:jU h s l){x:Int×Bool}(c:l[i]? =some x):∃b o,s.a=some ⟨b,o,none⟩/\bB h b (o+i*2) (pO x):=r.row.get (by simp[c])
def RT:Vc.Spec:=λc m h K=>∃(s t:Sl)(a b:dp),c=[cS s,cS t]/\lE h s a/\lE h t b/\∀r:Bool,(r=true↔a=b)->K (cB r) m h
def RS:Vc.Spec:=λc m h K=>∃(s t:Sl)(a b:dr),c=[cS s,cS t]/\jU h s a/\jU h t b/\∀r:Bool,(r=true↔a=b)->K (cB r) m h
noncomputable def U4{α:Type}(s t:Sl)(a b:List α)(m:MH)(h:PH):Ctx:=
 ctx [] [Fg 4 (λi=>bK 26 28 [(0,sv s),(1,sv t),(12,iv s.len),(13,iv i)] [] m h) (λi=>i<=a.length/\∀j:Nat,j<i->a[j]? =b[j]?) (λi=>a.length-i)] [] [] false
noncomputable abbrev wO(a:Int×Int):dj:=kR (fB a.1) (fB a.2)
attribute [push_cast] wO
def Qm(s t:Sl)(a b:dp)(m:MH)(h:PH)(K:dk):Prop:=
  fW (aH s) (aH t) (K aX m h) (mD (∃(x:Nat),aA (mD (x<=a.length) (λj=>j<x->a[j]? =b[j]?)) (aG s) (aA (aG t) (a7 s) (bG (aY x) (m=m) (h=h)))) (λx=>mD (x<=a.length) (λj=>j<x->a[j]? =b[j]?)->aR (↑x:Int) (aH s) (bT (λd o=>aA (bX s.a d o) (0<=(↑x:Int)) ((↑x:Int)<aH s/\∃(y:Int×Int),aK m h d (bC o x 2) (wO y)/\bT (λe f=>aA (bX t.a e f) (0<=(↑x:Int)) ((↑x:Int)<aH t/\∃(g:Int×Int),aK m h e (bC f x 2) (wO g)/\∃(r:Bool),mK 101 (wO y) (wO g) r/\gR (!r) (K aX m h) (λc=>aA (mD (c<=a.length) (λj=>j<c->a[j]? =b[j]?)) (a.length-c<a.length-x) (aA (aG s) (aG t) (aA (a7 s) (aU (aW x 1) c) (aA (m=m) (h=h) True))))))))) (K eW m h)))
noncomputable abbrev AS(a:Int×Bool):dj:=kR (fB a.1) (Value.bool a.2)
attribute [push_cast] AS
def Ql(s t:Sl)(a b:dr)(m:MH)(h:PH)(K:dk):Prop:=
  fW (aH s) (aH t) (K aX m h) (mD (∃(x:Nat),aA (mD (x<=a.length) (λj=>j<x->a[j]? =b[j]?)) (aG s) (aA (aG t) (a7 s) (bG (aY x) (m=m) (h=h)))) (λx=>mD (x<=a.length) (λj=>j<x->a[j]? =b[j]?)->aR (↑x:Int) (aH s) (bT (λd o=>aA (bX s.a d o) (0<=(↑x:Int)) ((↑x:Int)<aH s/\∃(y:Int×Bool),aK m h d (bC o x 2) (AS y)/\bT (λe f=>aA (bX t.a e f) (0<=(↑x:Int)) ((↑x:Int)<aH t/\∃(g:Int×Bool),aK m h e (bC f x 2) (AS g)/\∃(r:Bool),mK 103 (AS y) (AS g) r/\gR (!r) (K aX m h) (λc=>aA (mD (c<=a.length) (λj=>j<c->a[j]? =b[j]?)) (a.length-c<a.length-x) (aA (aG s) (aG t) (aA (a7 s) (aU (aW x 1) c) (aA (m=m) (h=h) True))))))))) (K eW m h)))
theorem WO:di 301 RT:=by
 refine gO func301 ?_;rintro I m h K ⟨s,t,a,b,rfl,u,E,F⟩;refine⟨U4 s t a b m h,rfl,aF,Qm s t a b m h K,bu,?_⟩;dsimp only[Qm,push_cast];have c:=u.slen;have f:=E.slen;have J:=u.len;have G:a≠b->K (cB false) m h:=λh=>F false ⟨λe=>(by cases e),λe=>(h e).elim⟩;refine aB (λz=>G (λe=>NT c f z (by rw[e]))) (λz=>?_);have M:=Ke c f z;refine⟨⟨0,⟨aC,λj Y=>by omega⟩,MT⟩,λi H=>aE (λd=>?_) (λO=>?_)⟩
 .obtain⟨x,A⟩:=eN c d;obtain⟨y,D⟩:∃y,b[i]? =some y:=eN (n:=s.len) aC d;obtain⟨Q,R,S,T⟩:=u.at A;obtain⟨U,V,W,X⟩:=E.at D;refine⟨Q,R,S,aC,d,x,.imm T,U,V,W,aC,aC,y,.imm X,_,a0Q x y,aB (λg=>G (PX A D (λe=>?_))) (λZ=>?_)⟩
  .rw[VD.2 e]at g;cases g
  .exact⟨i+1,⟨aC,xV A D (VD.1 cg) H.2⟩,aC,MT⟩
 .exact F true ⟨λ_=>A9 M aC H.2,λ_=>rfl⟩
theorem WN:di 302 RS:=by
 refine gO func302 ?_;rintro I m h K ⟨s,t,a,b,rfl,u,E,F⟩;refine⟨U4 s t a b m h,rfl,aF,Ql s t a b m h K,bu,?_⟩;dsimp only[Ql,push_cast];have c:=u.slen;have f:=E.slen;have J:=u.len;have G:a≠b->K (cB false) m h:=λh=>F false ⟨λe=>(by cases e),λe=>(h e).elim⟩;refine aB (λz=>G (λe=>NT c f z (by rw[e]))) (λz=>?_);have M:=Ke c f z;refine⟨⟨0,⟨aC,λj Y=>by omega⟩,MT⟩,λi H=>aE (λd=>?_) (λO=>?_)⟩
 .obtain⟨x,A⟩:=eN c d;obtain⟨y,D⟩:∃y,b[i]? =some y:=eN (n:=s.len) aC d;obtain⟨Q,R,S,T⟩:=u.at A;obtain⟨U,V,W,X⟩:=E.at D;refine⟨Q,R,S,aC,d,x,.imm T,U,V,W,aC,aC,y,.imm X,_,aZJ x y,aB (λg=>G (PX A D (λe=>?_))) (λZ=>?_)⟩
  .rw[VB.2 e]at g;cases g
  .exact⟨i+1,⟨aC,xV A D (VB.1 cg) H.2⟩,aC,MT⟩
 .exact F true ⟨λ_=>A9 M aC H.2,λ_=>rfl⟩
noncomputable def MZ(s t:Sl)(a b:dm)(m:MH)(h:PH):Ctx:=
 ctx [] [Fg 4 (λi=>bK 26 28 [(0,sv s),(1,sv t),(12,iv s.len),(13,iv i)] [] m h) (λi=>i<=a.length/\∀j:Nat,j<i->a[j]? =b[j]?) (λi=>a.length-i)] [] [] false
def Jr(s t:Sl)(a b:dm)(m:MH)(h:PH)(K:dk):Prop:=
  fW (aH s) (aH t) (K aX m h) (mD (∃(x:Nat),aA (mD (x<=a.length) (λj=>j<x->a[j]? =b[j]?)) (aG s) (aA (aG t) (a7 s) (bG (aY x) (m=m) (h=h)))) (λx=>mD (x<=a.length) (λj=>j<x->a[j]? =b[j]?)->aR (↑x:Int) (aH s) (eU s.a 0 (↑x:Int) s (λe o y=>aK m h e (bC o x 1) (cO y)/\eU t.a 0 (↑x:Int) t (λf g d=>aK m h f (bC g x 1) (cO d)/\gR (y !=d) (K aX m h) (λc=>aA (mD (c<=a.length) (λj=>j<c->a[j]? =b[j]?)) (a.length-c<a.length-x) (aA (aG s) (aG t) (aA (a7 s) (aU (aW x 1) c) (aA (m=m) (h=h) True))))))) (K eW m h)))
theorem bPZ(s t:Sl)(a b:dm)(m:MH)(h:PH)(K:dk):Jr s t a b m h K=(Bx (MZ s t a b m h) Tryz.f75 (cL Tryz.f75) (entry 26 [cS s,cS t] m h) K):=bu
theorem bwX(s t:Sl)(a b:dm)(m:MH)(h:PH)(K:dk):Jr s t a b m h K=(Bx (MZ s t a b m h) Tryz.f162 (cL Tryz.f162) (entry 26 [cS s,cS t] m h) K):=bu
def C0:Vc.Spec:=λc m h K=>∃(s t:Sl)(a b:dm),c=[cS s,cS t]/\Ints h s a/\Ints h t b/\∀r:Bool,(r=true↔a=b)->K (cB r) m h
theorem aHQ{s t:Sl}{b:dm}(c:Ints h s a)(f:Ints h t b)(g:∀r:Bool,(r=true↔a=b)->K (cB r) m h):Jr s t a b m h K:=by
 dsimp only[Jr,push_cast];have u:=c.slen;have z:=f.slen;have A:=c.len;have n:a≠b->K (cB false) m h:=λh=>g false ⟨λe=>by(cases e),λe=>(h e).elim⟩;refine aB (λD=>n (λe=>?_)) (λD=>?_)
 .grind
 .have T:a.length=b.length:=cg
  refine⟨⟨0,⟨aC,λj E=>by omega⟩,rfl,rfl,rfl,rfl,rfl,rfl,trivial⟩,λi U=>aE (λd=>?_) (λF=>?_)⟩
  .obtain⟨x,G⟩:∃x,a[i]? =some x:=⟨a[i]'(by omega),cq _⟩
   obtain⟨y,H⟩:∃y,b[i]? =some y:=⟨b[i]'(by omega),cq _⟩
   obtain⟨I,J,M,V⟩:=c.at G;obtain⟨O,Q,R,W⟩:=f.at H;refine⟨I,J,M,aC,d,x,.imm cg,O,Q,R,aC,aC,y,.imm cg,aB (λS=>n (λe=>?_)) (λX=>?_)⟩
   .grind
   .have:x=y:=cg
    refine⟨i+1,⟨aC,λj E=>?_⟩,aC,rfl,rfl,rfl,by rw[fP aC],rfl,rfl,trivial⟩
    grind
  .refine g true ⟨λ_=>?_,λ_=>rfl⟩;apply ext_getElem?
   grind
theorem aiZ:di 75 C0:=by
 refine eC (fn:=Tryz.f75) (c:=cL Tryz.f75) func75 rfl bz ?_;rintro d m h K ⟨s,t,a,b,rfl,e,f,g⟩;exact⟨MZ s t a b m h,rfl,aF,(bPZ s t a b m h K)▸aHQ e f g⟩
theorem Hx:di 162 C0:=by
 refine eC (fn:=Tryz.f162) (c:=cL Tryz.f162) func162 rfl bz ?_;rintro d m h K ⟨s,t,a,b,rfl,e,f,g⟩;exact⟨MZ s t a b m h,rfl,aF,(bwX s t a b m h K)▸aHQ e f g⟩
def aQ(v:QV):CV:=.val (.agg ⟨v.enc⟩)
def Query.args:Query->dt
 |.mk _ _ _ _ _ _ _ _ l=>l
theorem tQ{p:Query}{q:Query}(h:q∈p.args):SizeOf.sizeOf q<SizeOf.sizeOf p:=by
 cases p with
 |mk op t w c o g s l args=>
  have:=sizeOf_lt_of_mem h;simp only[Query.args]at this
  grind
def Cn(h:PH)(s:Sl)(ps:dt):Prop:=aZ h 21 QV.enc (bR h) s ps
theorem Cn.mono{s:Sl}{ps:dt}(r:Cn h s ps)(le:PH.le h h'):Cn h' s ps:=aZ.mono r le λ_ _=>bR.mono le
theorem pD.ofL{h:PH}:∀{ps:dt}{vs:eu},ps.length=vs.length->(∀(i:Nat)(x:Query),ps[i]? =some x->∃v,vs[i]? =some v/\bR h x v)->pD h ps vs
 |[],[],_,_=>rfl
 |p::ps,v::vs,c,d=>by
  obtain⟨j,f,g⟩:=d 0 p rfl;simp at f;subst f;exact⟨v,vs,rfl,g,pD.ofL cg λi x e=>cm (d (i+1) x (by simpa using e))⟩
 |[],_::_,c,_=>by simp at c
 |_::_,[],c,_=>by simp at c
structure qD(h:PH)(op table:Int)(w:Pred)(c:dm)(o:dp)(g:dm)(s:dr)(l:Int)(args:dt)(v:QV):Prop where
 op_:v.op=op
 table_:v.table=table
 where_:eA h w v.where_
 columns_:Ints h v.columns c
 on_:lE h v.on o
 group_:Ints h v.group g
 order_:jU h v.order s
 limit_:v.limit=l
 args_:Cn h v.args args
theorem bR.parts{op table:Int}{c:dm}{o:dp}{g:dm}{s:dr}{l:Int}{args:dt}(x:bR h (.mk op table w c o g s l args) v):qD h op table w c o g s l args v:=by
 obtain⟨f,j,n,t,u,y,z,A,D,E,e,d⟩:=x;exact⟨f,j,n,t,u,y,z,A,⟨⟨E,e,d.length.symm,λ_ _ F=>d.get F⟩,D⟩⟩
theorem qD.rep{op table:Int}{c:dm}{o:dp}{g:dm}{s:dr}{l:Int}{args:dt}(x:qD h op table w c o g s l args v):bR h (.mk op table w c o g s l args) v:=by
 obtain⟨d,e,f,j⟩:=x.args_.ex;exact⟨x.op_,x.table_,x.where_,x.columns_,x.on_,x.group_,x.order_,x.limit_,x.args_.len,d,e,.ofL f j⟩
def bZJ(N:Nat):Vc.Spec:=λc m h K=>∃v w p q,c=[aQ v,aQ w]/\bR h p v/\bR h q w/\SizeOf.sizeOf p<N/\∀r:Bool,(r=true↔p=q)->K (cB r) m h
def b0Q:Vc.Spec:=λc m h K=>∃v w p q,c=[aQ v,aQ w]/\bR h p v/\bR h q w/\∀r:Bool,(r=true↔p=q)->K (cB r) m h
def bGZ(N:Nat):Vc.Spec:=λc m h K=>∃s t ps qs,c=[cS s,cS t,.val (.func (.func 290) #[] #[])]/\Cn h s ps/\Cn h t qs/\(∀p∈ps,SizeOf.sizeOf p<N)/\∀r:Bool,(r=true↔ps=qs)->K (cB r) m h
noncomputable def aJJ(N:Nat):Ctx:=ctx [(300,bBJ),(162,C0),(301,RT),(302,RS),(303,bGZ N)] [] [] [] false
noncomputable def aIJ(N:Nat)(s t:Sl)(ps qs:dt)(m:MH)(h:PH):Ctx:=
 ctx [(290,bZJ N)] [Fg 4 (λi=>bK 32 35 [(1,sv t),(2,vv (.func (.func 290) #[] #[])),(15,sv s),(16,iv s.len),(17,iv i)] [] m h) (λi=>i<=ps.length/\∀j:Nat,j<i->ps[j]? =qs[j]?) (λi=>ps.length-i)] [] [] false
noncomputable abbrev fN(a b:Sl):ei:=dW a (fD b)
abbrev F0(a b:Sl)(c:PH)(d:dm->dm->Bool->Prop):Prop:=kQ (λx e=>tI (λf g=>aA (fN a b=fN x e) (Ints c x f) (Ints c e g/\∀(j:Bool),d f g j)))
abbrev lX(a:Query)(b:Nat):Prop:=SizeOf.sizeOf a<b
attribute [push_cast] fN F0 lX
def Kw(N:Nat)(v w:QV)(m:MH)(h:PH)(K:dk):Prop:=
  dJ v.op w.op (dJ v.table w.table (dJ v.limit w.limit (IM (λd e p q=>aA (bJ (dM v.where_) (dM w.where_)=bJ (dM d) (dM e)) (eA h p d) (eA h q e/\∀(r:Bool),hU (gG r↔p=q) r (F0 v.columns w.columns h (λa b f=>hU (gG f↔a=b) f (kQ (λs t=>∃(g j:dp),aA (fN v.on w.on=fN s t) (lE h s g) (lE h t j/\∀(n:Bool),hU (gG n↔g=j) n (F0 v.group w.group h (λM O u=>hU (gG u↔M=O) u (kQ (λy z=>∃(A D:dr),aA (fN v.order w.order=fN y z) (jU h y A) (jU h z D/\∀(E:Bool),hU (gG E↔A=D) E (kQ (λF G=>∃(c H:dt),aA (fD v.args::dW w.args (AI 290)=fD F::dW G (AI 290)) (Cn h F c) (aA (Cn h G
 H) (∀(I:Query),List.Mem I c->lX I N) (∀(J:Bool),(gG J↔c=H)->K (zU J) m h)))) (K aX m h)))) (K aX m h))) (K aX m h)))) (K aX m h))) (K aX m h)))) (K aX m h)) (K aX m h)) (K aX m h)
abbrev jD(a:QV->Query->Prop):Prop:=∃(x:QV)(c:Query),a x c
noncomputable abbrev dE(a:QV):CV:=pN a.enc
attribute [push_cast] jD dE
def Qk(N:Nat)(s t:Sl)(ps qs:dt)(m:MH)(h:PH)(K:dk):Prop:=
  fW (aH s) (aH t) (K aX m h) (mD (∃(x:Nat),aA (mD (x<=ps.length) (λj=>j<x->ps[j]? =qs[j]?)) (aG t) (aA (D0 290) (aG s) (aA (a7 s) (aY x) (aA (m=m) (h=h) True)))) (λx=>mD (x<=ps.length) (λj=>j<x->ps[j]? =qs[j]?)->aR (↑x:Int) (aH s) (bT (λb o=>aA (bX s.a b o) (0<=(↑x:Int)) ((↑x:Int)<aH s/\∃(y:QV),aK m h b (bC o x 21) y.enc/\bT (λd e=>aA (bX t.a d e) (0<=(↑x:Int)) ((↑x:Int)<aH t/\∃(f:QV),aK m h d (bC e x 21) f.enc/\∃(v:QV),jD (λw p=>∃(q:Query),aA (bJ (dE y) (dE f)=bJ (dE v) (dE w)) (bR h p v) (aA (bR h q w) (lX p N) (∀(r:Bool),(gG r↔p=q)->gR (!r) (K aX m h) (λc=>aA (mD (c<=ps.length) (λj=>j<c->ps[j]? =qs[j]?)) (ps.length-
 c<ps.length-x) (aA (aG t) (D0 290) (aA (aG s) (a7 s) (aA (aU (aW x 1) c) (m=m) (bH h h))))))))))))) (K eW m h)))
theorem bsQ{w:QV}{p:Query}(s:bR h p v)(t:bR h q w)(S:SizeOf.sizeOf p<N+1)(n:∀r:Bool,(r=true↔p=q)->K (cB r) m h):Kw N v w m h K:=by
 dsimp only[Kw,push_cast];have c:p≠q->K (cB false) m h:=λh=>n false ⟨λe=>(by cases e),λe=>(h e).elim⟩;have d:=@tQ p;obtain⟨op,ta,T,co,on,gr,od,li,ps⟩:=p;obtain⟨u,y,z,A,D,E,F,G,qs⟩:=q;have a:=s.parts;have b:=t.parts
 refine aB (λf=>aB (λg=>aB (λj=>⟨_,_,_,_,rfl,a.where_,b.where_,λU V=>aB (λH=>⟨_,_,_,_,rfl,a.columns_,b.columns_,λW X=>aB (λI=>⟨_,_,_,_,rfl,a.on_,b.on_,λY Z=>aB (λJ=>⟨_,_,_,_,rfl,a.group_,b.group_,λr7 h7=>aB (λM=>⟨_,_,_,_,rfl,a.order_,b.order_,λr8 h8=>aB (λO=>⟨_,_,_,_,rfl,a.args_,b.args_,λp Q=>?_,λr R=>n r (R.trans ?_)⟩)
  (λO=>c λe=>?_)⟩) (λM=>c λe=>?_)⟩) (λJ=>c λe=>?_)⟩) (λI=>c λe=>?_)⟩) (λH=>c λe=>?_)⟩) (λj=>c λe=>?_)) (λg=>c λe=>?_)) (λf=>c λe=>?_)
 .have:=d (q:=p) Q;omega
 .rw[a.op_,b.op_,beq_iff_eq]at f;rw[a.table_,b.table_,beq_iff_eq]at g;rw[a.limit_,b.limit_,beq_iff_eq]at j
  grind
 .grind
 .grind
 .grind
 .grind
 .grind
 .injection e with _ _ _ _ _ _ _ e _;rw[a.limit_,b.limit_,e]at j;simp at j
 .injection e with _ e _ _ _ _ _ _ _;rw[a.table_,b.table_,e]at g;simp at g
 .injection e with e _ _ _ _ _ _ _ _;rw[a.op_,b.op_,e]at f;simp at f
theorem U6:∀N,di 290 (bZJ N)
 |0=>by
  refine eC (fn:=Tryz.f290) (c:=cL Tryz.f290) func290 rfl bz ?_;rintro g m h K ⟨v,w,p,q,rfl,D,_,E,_⟩;omega
 |N+1=>by
  have z:di 303 (bGZ N):=by
   refine gO func303 ?_;rintro g m h K ⟨s,t,ps,qs,rfl,H,Q,E,F⟩;refine⟨aIJ N s t ps qs m h,rfl,aD (U6 N) aF,Qk N s t ps qs m h K,bu,?_⟩;dsimp only[Qk,push_cast];have d:=H.slen;have A:=Q.slen;have T:=H.len;have R:ps≠qs->K (cB false) m h:=λh=>F false ⟨λe=>(by cases e),λe=>(h e).elim⟩;refine aB (λI=>R (λe=>NT d A I (by rw[e]))) (λI=>?_);have U:=Ke d A I;refine⟨⟨0,⟨aC,λj hj=>by omega⟩,MT⟩,λi S=>aE (λf=>?_) (λV=>?_)⟩
   .obtain⟨x,G⟩:=eN d f;obtain⟨y,J⟩:∃y,qs[i]? =some y:=eN (n:=s.len) aC f;obtain⟨W,X,u,Y,Z,ru⟩:=H.at G;obtain⟨b2,o2,w,e2,r2,M⟩:=Q.at J;refine⟨W,X,Y,aC,f,u,.imm Z,b2,o2,e2,aC,aC,w,.imm r2,u,w,x,y,rfl,ru,M,E x (cr G),λr D=>aB (λa'=>R (PX G J (λe=>?_))) (λhe=>?_)⟩
    .grind
    .have O:r=true:=cg
     exact⟨i+1,⟨aC,xV G J (D.1 O) S.2⟩,aC,MT⟩
   .exact F true ⟨λ_=>A9 U aC S.2,λ_=>rfl⟩
  refine gO func290 ?_;rintro g m h K ⟨v,w,p,q,rfl,D,hq,E,F⟩;refine⟨aJJ N,rfl,aD WQ (aD Hx (aD WO (aD WN (aD z aF)))),Kw N v w m h K,bu,?_⟩;exact bsQ D hq E F
theorem WU:di 290 b0Q:=jE U6 λ_ _ _ _⟨v,w,p,q,e,c,d,f⟩=>⟨SizeOf.sizeOf p+1,v,w,p,q,e,c,d,aC,f⟩
structure Ref where
 columns:dm
 table:Int
structure zN where
 name:ByteArray
 columns:List pF
 key:Int
 refs:List Ref
 checks:dx
structure oL where
 version:Int
 tables:List zN
variable{s:oL}
structure Th(h:PH)(r:Ref)(v:EJ):Prop where
 columns:Ints h v.columns r.columns
 table:v.table=r.table
def EK(h:PH)(s:Sl)(l:List pF):Prop:=aZ h 2 pF.enc Eq s l
structure Le(h:PH)(t:zN)(v:cR):Prop where
 name:v.name=t.name
 columns:EK h v.columns t.columns
 key:v.key=t.key
 refs:aZ h 2 EJ.enc (Th h) v.references t.refs
 checks:FF h v.checks t.checks
structure iP(h:PH)(s:oL)(v:bW):Prop where
 version:v.version=s.version
 tables:aZ h 5 cR.enc (Le h) v.tables s.tables
theorem Th.mono{r:Ref}{v:EJ}(x:Th h r v)(le:PH.le h h'):Th h' r v:=⟨x.columns.mono le,x.table⟩
theorem Le.mono{t:zN}{v:cR}(x:Le h t v)(le:PH.le h h'):Le h' t v:=
 ⟨x.name,aZ.mono x.columns le λ_ _ e=>e,x.key,x.refs.mono le λ_ _ e=>e.mono le,x.checks.mono le⟩
theorem iP.mono{v:bW}(x:iP h s v)(le:PH.le h h'):iP h' s v:=⟨x.version,x.tables.mono le λ_ _ e=>e.mono le⟩
def lower(c:Nat):Bool:=97<=c&&c<=122
def xD(c:Nat):Bool:=lower c||(48<=c&&c<=57)||c==95
def pM(s:ByteArray):eh:=s.data.toList.map UInt8.toNat
def oS(s:ByteArray):Bool:=1<=s.size&&s.size<=32&&lower ((pM s).headD 0)&&(pM s).all xD
theorem RI(s:ByteArray):(pM s).length=s.size:=by simp[pM]
theorem asX{s:ByteArray}{c:Nat}(h:(pM s)[i]? =some c):(s.get! i).toNat=c/\c<256:=by
 simp only[pM,getElem?_map,Option.map_eq_some_iff]at h;obtain⟨b,e,rfl⟩:=h;refine⟨?_,b.toNat_lt⟩
 have f:i<s.data.size:=by
  grind
 have:s.data[i]? =some b:=cg
 cases s with
 |mk d=>
  show(d[i]!).toNat=b.toNat
  grind
theorem K1{s:ByteArray}(h:(s.get! i).toNat<128):Utf8.decode s i=((s.get! i).toNat,1):=by
 simp only[Utf8.decode,Nat.add_zero];rw[if_pos h]
theorem asQ{s:ByteArray}(h:¬(s.get! i).toNat<128):128<=(Utf8.decode s i).1:=by
 simp only[Utf8.decode,Nat.add_zero];rw[if_neg h]
 repeat' split
 all_goals simp_all [Utf8.runeError]
 all_goals omega
def SZ(s:ByteArray):CV:=.val (.string s)
def ZQ:Vc.Spec:=λc m h K=>∃s,c=[SZ s]/\K (cB (oS s)) m h
noncomputable def aOX(s:ByteArray)(m:MH)(h:PH):Ctx:=
 ctx [] [(4,{A:=Nat×Nat×MH,st:=λx=>bK 44 45 [(15,vv (.pointer (some ⟨x.2.1,0,none⟩)))] [] x.2.2 h,inv:=λx=>x.1<=s.size/\dZ m h x.2.1/\gI m x.2.2 x.2.1 (.stringIter s x.1)/\(x.1=0\/lower ((pM s).headD 0)=true)/\((pM s).take x.1).all xD=true,mu:=λx=>s.size-x.1})] [] [] false
noncomputable def aOZ(s:ByteArray)(m:MH)(h:PH):Ctx:=
 ctx [] [Fg 4 (λi=>bK 50 51 [(0,vv (.string s)),(3,iv i)] [] m h) (λi=>i<=s.size/\((pM s).take i).all xD=true) (λi=>s.size-i)] [] [] false
abbrev MU(a b:(Nat×Nat×MH)->Prop):Prop:=(∃(x:Nat×Nat×MH),a x)/\∀(x:Nat×Nat×MH),b x
abbrev Aa(a b c:Prop)(d e:PH):Prop:=aA a b (aA c (d=e) True)
noncomputable abbrev j4(a:Nat×Nat×MH):Nat:=a.2.1
noncomputable abbrev iB(a:Nat×Nat×MH):Nat->Option Obj:=a.2.2
abbrev BM(a:Nat×Nat×MH)(b:ByteArray)(c:MH)(d:PH):Prop:=aA (a.1<=b.size) (dZ c d (j4 a)) (aA (gI c (iB a) (j4 a) (Obj.stringIter b a.1)) (a.1=0\/gG (lower (headD (pM b) 0))) (gG (List.all (List.take a.1 (pM b)) xD)))
abbrev fO(a b:Nat):Prop:=sQo a 0=sQo b 0
noncomputable abbrev Dp(a:ByteArray)(b:Nat):Nat:=(Utf8.decode a b).1
abbrev AX(a:ByteArray)(b c:Nat):Prop:=a.size-b<a.size-c
abbrev FY(a:(Nat×Nat×MH)->Prop)(b:ByteArray)(c:Nat×Nat×MH)(d:MH)(e:PH):Prop:=∃(x:Nat×Nat×MH),aA (a x) (AX b x.1 c.1) (aA (fO (j4 c) (j4 x)) (d=iB x) (bH e e))
attribute [push_cast] MU Aa j4 iB BM fO Dp AX FY
def KJ(s:ByteArray)(m:MH)(h:PH)(K:dk):Prop:=
  aR (↑s.size:Int) 1 (K aX m h) (eR (↑s.size:Int) 32 (K aX m h) (∀(b:Nat)(e:MH),aT (dZ m h b) (gI m e b (Obj.stringIter s 0)) (MU (λx=>Aa (BM x s m h) (fO b (j4 x)) (e=iB x) h h) (λx=>BM x s m h->∃(c:ByteArray)(p:Nat),aA (sK (iB x) (j4 x) (Obj.stringIter c p)) (c.size<=p->K eW (iB x) h) (p<c.size->∀(d:MH),gI (iB x) d (j4 x) (Obj.stringIter c (p+(Utf8.decode c p).2))->cH (decide ((↑(Dp c p):Int)>=97)) (branch (!(decide ((↑(Dp c p):Int)<=122))) (cH ((↑p:Int)==0) (K aX d h) ((↑(Dp c p):Int) !=95) (aR (↑(Dp c p):Int) 48 (K aX d h) (eR (↑(Dp c p):Int) 57 (K aX d h) (FY (λy=>BM y s m h) s x d h))) (FY (λy=>BM y s m h) s x d h)) (FY (λy=>BM y s
 m h) s x d h)) ((↑p:Int)==0) (K aX d h) (fW (↑(Dp c p):Int) 95 (aR (↑(Dp c p):Int) 48 (K aX d h) (eR (↑(Dp c p):Int) 57 (K aX d h) (FY (λy=>BM y s m h) s x d h))) (FY (λy=>BM y s m h) s x d h)))))))
abbrev Mk(a:Prop)(b:ByteArray)(c:Nat)(d:UInt8->UInt8)(e:UInt8->Prop):Prop:=a/\∃(x:UInt8),b.data.toList[c]? =Option.some (d x)/\e x
noncomputable abbrev wS(a:UInt8):Int:=(↑a.toNat:Int)
abbrev yH(a:Nat)(b:ByteArray):Prop:=a<=b.size/\gG (List.all (List.take a (pM b)) xD)
noncomputable abbrev sU(a:Nat):Nat:=(↑a:Int).toNat
attribute [push_cast] Mk wS yH sU
def QK(s:ByteArray)(m:MH)(h:PH)(K:dk):Prop:=
  cH ((↑s.size:Int)==0) (K aX m h) (decide ((↑s.size:Int)>32)) (K aX m h) (Mk (cC 0) s 0 (λb=>b) (λb=>aR (↑b.toNat:Int) 97 (K aX m h) (Mk (cC 0) s 0 (λd=>d) (λd=>eR (wS d) 122 (K aX m h) (mD (∃(x:Nat),aA (yH x s) (eQ (SV.at (Ta s))) (aA (aY x) (m=m) (bH h h))) (λx=>yH x s->aR (↑x:Int) (↑s.size:Int) (Mk (cC (↑x:Int)) s (sU x) (λc=>c) (λc=>aR (↑c.toNat:Int) 97 (aR (↑c.toNat:Int) 48 (gR (wS c !=95) (K aX m h) (λy=>aA (yH y s) (AX s y x) (aA (eQ (SV.at (Ta s))) (aU (aW x 1) y) (bE (m=m) h h)))) (eR (wS c) 57 (gR (wS c !=95) (K aX m h) (λy=>aA (yH y s) (AX s y x) (aA (eQ (SV.at (Ta s))) (aU (aW x 1) y) (bE (m=m) h h)))) (∃(y:
 Nat),aA (yH y s) (AX s y x) (aA (eQ (SV.at (Ta s))) (aU (aW x 1) y) (bE (m=m) h h))))) (eR (wS c) 122 (aR (↑c.toNat:Int) 48 (gR (wS c !=95) (K aX m h) (λy=>aA (yH y s) (AX s y x) (aA (eQ (SV.at (Ta s))) (aU (aW x 1) y) (bE (m=m) h h)))) (eR (wS c) 57 (gR (wS c !=95) (K aX m h) (λy=>aA (yH y s) (AX s y x) (aA (eQ (SV.at (Ta s))) (aU (aW x 1) y) (bE (m=m) h h)))) (∃(y:Nat),aA (yH y s) (AX s y x) (aA (eQ (SV.at (Ta s))) (aU (aW x 1) y) (bE (m=m) h h))))) (∃(y:Nat),aA (yH y s) (AX s y x) (aA (eQ (SV.at (Ta s))) (aU (aW x 1) y) (bE (m=m) h h)))))) (K eW m h)))))))
def lQ(h:PH)(K:dk):CV->MH->PH->Prop:=λr m' h'=>∃d c,(∀b o,d b=some o->m' b=some o)/\PH.le h c/\PH.le c h'/\K r d c
theorem lQ.here{r:CV}(c:K r m h):lQ h K r m h:=⟨m,h,λ_ _ e=>e,.refl _,.refl _,c⟩
theorem lQ.sub{r:CV}(c:∀b o,m b=some o->m' b=some o)(d:K r m h):lQ h K r m' h:=⟨m,h,c,.refl _,.refl _,d⟩
theorem gI.keeps{o:Obj}(f:dZ m h b)(g:gI m m' b o):∀b o,m b=some o->m' b=some o:=λd n e=>by
 have c:d≠b:=λj=>by rw[j,f.m_]at e;cases e
 rw[g.other d c,e]
theorem XB:di 217 ZQ:=by
 refine Ht func217 ?_;rintro U m h K ⟨s,rfl,E⟩;refine⟨aOX s m h,rfl,aF,KJ s m h (λr m' h'=>∃u F,(∀b o,u b=some o->m' b=some o)/\PH.le h F/\PH.le F h'/\K r u F),bu,?_⟩;show KJ s m h (lQ h K);dsimp only[KJ,push_cast];have hl:=RI s;refine aE (λV=>?_) (λV=>aE (λF=>?_) (λF b W D G=>?_))
 .refine .here (jH E ?_);have:¬1<=s.size:=by omega
  simp[oS,this]
 .refine .here (jH E ?_);have:¬s.size<=32:=by omega
  simp[oS,this]
 refine⟨⟨(0,b,W),⟨bx,D,G,.inl rfl,bx⟩,MT⟩,?_⟩;rintro⟨d,b,mx⟩ ⟨X,D,n,g,f⟩;simp only at X D n g f;refine⟨s,d,⟨n.at_⟩,λY=>?_,λZ u H=>?_⟩
 .refine .sub (gI.keeps D n) (jH E ?_);rw[cu aC]at f
  have h3:lower ((pM s).headD 0)=true:=by
   grind
  have O:1<=s.size:=by omega
  have Q:s.size<=32:=by omega
  simp only[oS,f,h3,decide_eq_true O,decide_eq_true Q];rfl
 .have t:=n.trans H;obtain⟨c,M⟩:∃c,(pM s)[d]? =some c:=⟨(pM s)[d]'(by omega),cq _⟩
  obtain⟨T,R⟩:=asX M
  have z:d=0->(pM s).headD 0=c:=λe=>by
   subst e;cases a':pM s with
   |nil=>grind
   |cons x l=>grind
  have I:¬((97<=(Utf8.decode s d).1/\(Utf8.decode s d).1<=122)\/(d≠0/\((Utf8.decode s d).1=95\/(48<=(Utf8.decode s d).1/\(Utf8.decode s d).1<=57))))->lQ h K (.val (.bool false)) u h:=by
   intro hn;refine .sub (gI.keeps D t) (jH E ?_);by_cases j:(s.get! d).toNat<128
   .rw[K1 j,T]at hn;by_cases S:d=0
    .have:lower c=false:=by
      simp only[lower,Bool.and_eq_false_iff,decide_eq_false_iff_not];omega
     simp only[oS,z S,this,Bool.and_false,Bool.false_and]
    .have:xD c=false:=by
      simp only[xD,lower,Bool.or_eq_false_iff,Bool.and_eq_false_iff,decide_eq_false_iff_not,beq_eq_false_iff_ne];omega
     simp[oS,M1 M this]
   .have:xD c=false:=by
     simp only[xD,lower,Bool.or_eq_false_iff,Bool.and_eq_false_iff,decide_eq_false_iff_not,beq_eq_false_iff_ne];omega
    simp[oS,M1 M this]
  have J:((97<=(Utf8.decode s d).1/\(Utf8.decode s d).1<=122)\/(d≠0/\((Utf8.decode s d).1=95\/(48<=(Utf8.decode s d).1/\(Utf8.decode s d).1<=57))))->d+1<=s.size/\gI m u b (.stringIter s (d+1))/\lower ((pM s).headD 0)=true/\((pM s).take (d+1)).all xD=true:=by
   intro A
   have j:(s.get! d).toNat<128:=by
    refine Decidable.byContradiction λj=>?_;have:=asQ j;omega
   rw[K1 j]at t;rw[K1 j,T]at A;simp only at A;refine⟨aC,t,?_,?_⟩
   .rcases g with e|e
    .rw[z e];simp only[lower,cz,dc];omega
    .exact e
   .rw[BB M,f];simp only[xD,lower,Bool.true_and,Bool.or_eq_true,cz,dc,beq_iff_eq];omega
  have next:((97<=(Utf8.decode s d).1/\(Utf8.decode s d).1<=122)\/(d≠0/\((Utf8.decode s d).1=95\/(48<=(Utf8.decode s d).1/\(Utf8.decode s d).1<=57))))->_:=λA=>(⟨(d+1,b,u),⟨(J A).1,D,(J A).2.1,.inr (J A).2.2.1,(J A).2.2.2⟩,aC,MT⟩:∃(y:Nat×Nat×MH),(y.fst<=s.size/\dZ m h y.snd.fst/\gI m y.snd.2 y.snd.fst (Obj.stringIter s y.fst)/\(y.fst=0\/lower ((pM s).headD 0)=true)/\(List.take y.fst (pM s)).all xD=true)/\s.size-y.fst<s.size-d/\SV.at (At.val (Value.pointer (some (Addr.mk b 0 none))))=SV.at (At.val (Value.pointer (some (Addr.mk y.snd.fst 0 none))))/\u=y.snd.2/\h=h/\True)
  clear J t H f g z n G E
  repeat' (first|(refine aB (λ_=>?_) (λ_=>?_))|exact I (by simp only[dc,decide_eq_false_iff_not,bne_iff_ne,ne_eq,beq_iff_eq,beq_eq_false_iff_ne,bne_eq_false_iff_eq,Bool.not_eq_true',Bool.not_eq_false']at*;omega)|exact next (by simp only[dc,decide_eq_false_iff_not,bne_iff_ne,ne_eq,beq_iff_eq,beq_eq_false_iff_ne,bne_eq_false_iff_eq,Bool.not_eq_true',Bool.not_eq_false']at*;omega))
theorem XC:di 216 ZQ:=by
 refine gO func216 ?_;rintro I m h K ⟨s,rfl,j⟩;refine⟨aOZ s m h,rfl,aF,QK s m h K,bu,?_⟩;dsimp only[QK,push_cast];have T:=RI s;refine aB (λu=>jH j ?_) (λu=>aE (λJ=>jH j ?_) (λJ=>?_))
 .have:¬1<=s.size:=by have:(s.size:Int)=0:=(cm u);omega
  simp[oS,this]
 .have:¬s.size<=32:=by omega
  simp[oS,this]
 have u:s.size≠0:=by intro e;rw[e]at u;simp at u
 obtain⟨t,d⟩:∃c,s.data.toList[0]? =some c:=⟨s.data.toList[0]'(by simpa using(by omega:0<s.size)),cq _⟩
 have g:(pM s).headD 0=t.toNat:=by
  unfold pM;cases z:s.data.toList with
  |nil=>rw[z]at d;simp at d
  |cons x l=>rw[z]at d;simp at d;simp[d]
 refine⟨aC,t,d,aE (λM=>jH j ?_) (λM=>⟨aC,t,d,aE (λO=>jH j ?_) (λO=>?_)⟩)⟩
 .have:lower t.toNat=false:=by simp only[lower,Bool.and_eq_false_iff,decide_eq_false_iff_not];omega
  simp only[oS,g,this,Bool.and_false,Bool.false_and]
 .have:lower t.toNat=false:=by simp only[lower,Bool.and_eq_false_iff,decide_eq_false_iff_not];omega
  simp only[oS,g,this,Bool.and_false,Bool.false_and]
 refine⟨⟨0,⟨aC,bx⟩,MT⟩,λi D=>aE (λQ=>?_) (λR=>jH j ?_)⟩
 .obtain⟨c,H⟩:∃c,s.data.toList[i]? =some c:=⟨s.data.toList[i]'(by simpa using(by omega:i<s.size)),cq _⟩
  have n:(pM s)[i]? =some c.toNat:=by simp[pM,H]
  have f:xD c.toNat=false->K (.val (.bool false)) m h:=λe=>jH j (by simp[oS,M1 n e]);have next:xD c.toNat=true->∃(y:Nat),(y<=s.size/\(List.take y (pM s)).all xD=true)/\s.size-y<s.size-i/\SV.at (At.val (Value.string s))=SV.at (At.val (Value.string s))/\SV.at (At.val (Value.int IntKind.i64 (IntKind.i64.wrap ((i:Int)+1))))=SV.at (At.val (Value.int IntKind.i64 (y:Int)))/\m=m/\h=h/\True:=λe=>⟨i+1,⟨aC,by rw[BB n,D.2,e];rfl⟩,aC,MT⟩
  have A:xD c.toNat=true↔(97<=c.toNat/\c.toNat<=122)\/(48<=c.toNat/\c.toNat<=57)\/c.toNat=95:=by
   simp only[xD,lower,Bool.or_eq_true,cz,dc,beq_iff_eq];omega
  have E:xD c.toNat=false↔¬((97<=c.toNat/\c.toNat<=122)\/(48<=c.toNat/\c.toNat<=57)\/c.toNat=95):=by
   rw[<-A];simp
  refine⟨aC,c,cm H,?_⟩;clear j D g n E;rw[A]at next
  have f:=λe=>f (by rw[<-Bool.not_eq_true,A];exact e);clear A
  repeat' (first|(refine aB (λ_=>?_) (λ_=>?_))|exact f (by simp only[dc,decide_eq_false_iff_not,bne_iff_ne,ne_eq,beq_iff_eq,beq_eq_false_iff_ne,bne_eq_false_iff_eq,Bool.not_eq_true',Bool.not_eq_false']at*;omega)|exact next (by simp only[dc,decide_eq_false_iff_not,bne_iff_ne,ne_eq,beq_iff_eq,beq_eq_false_iff_ne,bne_eq_false_iff_eq,Bool.not_eq_true',Bool.not_eq_false']at*;omega))
 .have:=D.2;rw[cu aC]at this;have S:lower t.toNat=true:=by simp only[lower,cz,dc];omega
  have F:1<=s.size:=by omega
  have G:s.size<=32:=by omega
  simp only[oS,this,g,S,decide_eq_true F,decide_eq_true G];rfl
end Go.Ps
