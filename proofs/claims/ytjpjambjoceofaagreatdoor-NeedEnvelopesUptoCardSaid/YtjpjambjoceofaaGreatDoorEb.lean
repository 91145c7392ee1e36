/- Own work. -/
import Derived.MapKept
import Derived.Maps.RangeRun
import Derived.Test.YtjpjambjoceofaaGreatDoorProg
import Derived.IntWalk
import Derived.ChangeKeysEq
import Derived.Test.YtjpjambjoceofaaGreatDoorEa
set_option linter.unusedVariables false
set_option linter.unusedSimpArgs false
namespace Go.Vc
open Go List
section
variable{B:sJ}{C:Ctx}{ι:cn}{σ:St}{a:Act}{w:World}{o:Oper}{K:St->Prop}
theorem a8J(f:aK B ι σ a w)(ob:Obj):
 aK B ι {σ with m:=λb=>if b=w.heap.size then some ob else σ.m b} a (w.alloc ob)/\mH σ.m σ.h w.heap.size/\∀o,Jc σ ι o w (w.alloc ob):=by
 have d:=f.wrel
 have l:mH σ.m σ.h w.heap.size:=by
  constructor
  .cases e:σ.m w.heap.size with
   |none=>rfl
   |some x=>have:=(Array.getElem?_eq_some_iff.1 (d.msat _ _ e)).1;omega
  .intro i;cases e:σ.h w.heap.size i with
   |none=>rfl
   |some x=>have:=World.block_lt_of_cell? w ⟨w.heap.size,i,none⟩ (d.hsat _ _ _ e);simp at this
 have r:(w.alloc ob).heap.size=w.heap.size+1:=by show(w.heap.push ob).size=_;simp
 refine⟨⟨f.slots,f.defers,λk n j=>(f.own k n j).world (λb c=>fM w ob (rB (f.own k n j) c)),f.dist,?_,?_,f.one⟩,l,λo=>⟨?_,?_,λ_ b c=>fM w ob c,λ_ b _ c _ _=>fM w ob c⟩⟩
 .intro k n b j c;obtain⟨z,A,D⟩:=f.fresh k n b j c;have t:=rB (f.own k n j) c
  grind
 .refine⟨d.tape,d.os,d.output,d.drawn,by rw[r];exact Nat.le_succ_of_le d.size,?_,?_,?_,?_,d.hle,d.hold,?_⟩
  .intro b c u;rw[fM w ob (Nat.lt_of_lt_of_le c d.size)];exact d.frame b c u
  .intro b i v s;have g:=d.hsat b i v s;rw[<-g];exact World.cell?_of_block (w:=w) (w':=w.alloc ob) (a:=⟨b,i,none⟩) (fM w ob (World.block_lt_of_cell? w ⟨b,i,none⟩ g))
  .intro b x c;have c:(if b=w.heap.size then some ob else σ.m b)=some x:=c;by_cases e:b=w.heap.size
   .rw[if_pos e]at c;rw[e,kQ];exact c
   .rw[if_neg e]at c;have g:=d.msat b x c;rw[fM w ob (Array.getElem?_eq_some_iff.1 g).1];exact g
  .intro b x c i;have c:(if b=w.heap.size then some ob else σ.m b)=some x:=c;by_cases e:b=w.heap.size
   .rw[e];exact l.h_ i
   .rw[if_neg e]at c;exact d.disj b x c i
  .intro b x c;have c:(if b=w.heap.size then some ob else σ.m b)=some x:=c;by_cases e:b=w.heap.size
   .left;rw[e];exact d.size
   .rw[if_neg e]at c;exact d.mfr b x c
 .intro k p T E b j _ y;exact fM w ob (rB (f.own k _ j) (by rw[y];rfl))
 .intro b i v s;have g:=d.hsat b i v s;rw[<-g];exact World.cell?_of_block (w:=w) (w':=w.alloc ob) (a:=⟨b,i,none⟩) (fM w ob (World.block_lt_of_cell? w ⟨b,i,none⟩ g))
theorem Vk(n:aK B ι σ a w){b:Nat}{y ob:Obj}(t:σ.m b=some y):
 aK B ι {σ with m:=λc=>if c=b then some ob else σ.m c} a {w with heap:=w.heap.setIfInBounds b ob}/\∀o,AZ o.op=false->Jc σ ι o w {w with heap:=w.heap.setIfInBounds b ob}:=by
 have g:=n.wrel;have z:b<w.heap.size:=(Array.getElem?_eq_some_iff.1 (g.msat _ _ t)).1
 have f:∀c,c≠b->(w.heap.setIfInBounds b ob)[c]? =w.heap[c]? :=λc l=>by
  grind
 have A:(w.heap.setIfInBounds b ob)[b]? =some ob:=by simp[z]
 have u:∀k r,nth σ.own k=some (some r)->blk (ι k)≠some b:=by
  intro k r s F;have:=(n.fresh k r b s F).2.1
  grind
 have j:∀c i v,σ.h c i=some v->({w with heap:=w.heap.setIfInBounds b ob}:World).cell? ⟨c,i,none⟩=some v:=by
  intro c i v D;have l:c≠b:=λe=>by subst e;rw[g.disj c _ t i]at D;cases D
  have E:=g.hsat c i v D;rw[<-E];exact World.cell?_of_block (w:=w) (w':={w with heap:=w.heap.setIfInBounds b ob}) (a:=⟨c,i,none⟩) (f c l)
 refine⟨⟨n.slots,n.defers,λk r s=>(n.own k r s).world (λc d=>f c (λe=>u k r s (e▸d))),n.dist,?_,?_,n.one⟩,λo I=>⟨?_,j,λh=>bk,λ_ c _ _ J _=>f c (λe=>bk)⟩⟩
 .intro k r c s d;obtain⟨L,M,N⟩:=n.fresh k r c s d
  grind
 .refine⟨g.tape,g.os,g.output,g.drawn,bt g.size,?_,j,?_,?_,g.hle,g.hold,?_⟩
  .intro c d G
   have l:c≠b:=λe=>by
    subst e;rcases g.mfr c _ t with E|E
    .omega
    grind
   rw[f c l];exact g.frame c d G
  .intro c x d;have d:(if c=b then some ob else σ.m c)=some x:=d;by_cases e:c=b
   .grind
   .rw[if_neg e]at d;rw[f c e];exact g.msat c x d
  .intro c x d i;have d:(if c=b then some ob else σ.m c)=some x:=d;by_cases e:c=b
   .rw[e];exact g.disj b _ t i
   .rw[if_neg e]at d;exact g.disj c _ d i
  .intro c x d;have d:(if c=b then some ob else σ.m c)=some x:=d;by_cases e:c=b
   .rw[e];exact g.mfr b _ t
   .rw[if_neg e]at d;exact g.mfr c _ d
 .intro k p T O c s _ H;exact f c (λe=>u k _ s (by rw[H,e];rfl))
theorem Q7(g:aK B ι σ a w){t:Nat}{r:Option Operand}(i:o.op= .makeMap t r)(h:LL o r σ K):UY B C ι o σ K a w:=by
 intro next Q b
 unfold LL at h;split at h
 .obtain⟨d,e,j⟩:=a8J g (.map #[] 0)
  have c:(execOp a.eval o).run C.P w= .ok (.value (.map (some w.heap.size))) (w.alloc (.map #[] 0)):=by
   unfold execOp;simp[i,Instr.makeMap]
  unfold Oper.wp;rw[c,Oper.upon_value];exact b ι _ _ _ (d.put o.dst (x:=.at (.val (.map (some w.heap.size)))) rfl) (h w.heap.size _ e ⟨bf,λl f=>by simp[f]⟩) (j o)
 grind
theorem aK.drew{B:sJ}{ι:cn}{σ:St}{a:Act}{w:World}(h:aK B ι σ a w)(k:Nat)(c:w.drawn<=k):aK B ι σ a {w with drawn:=k}:=by
 refine⟨h.slots,h.defers,λj o d=>(h.own j o d).world (λ_ _=>rfl),h.dist,h.fresh,?_,h.one⟩;have b:=h.wrel;exact⟨b.tape,b.os,b.output,Nat.le_trans b.drawn c,b.size,b.frame,b.hsat,b.msat,b.disj,b.hle,b.hold,b.mfr⟩
theorem zN{α:Type}{l:List α}{j:Nat}{x:α}(h:l[j]? =some x):l=l.take j++x::l.drop (j+1):=by
 have b:=(List.getElem?_eq_some_iff.1 h).1;have e:=(List.getElem?_eq_some_iff.1 h).2;rw[<-e, <-drop_eq_getElem_cons b,take_append_drop]
theorem Vv(p:aK B ι σ a w){t:Nat}{x:Operand}(z:o.op= .range t x)(h:T2 C o t x σ K):UY B C ι o σ K a w:=by
 intro next Q f
 have d:=p.ev x;unfold T2 at h;split at h
 .rename_i s r u;rw[u]at d;have d:a.eval x= .string s:=d;obtain⟨j,l,v⟩:=a8J p (.stringIter s 0)
  have g:(execOp a.eval o).run C.P w= .ok (.value (.pointer (some ⟨w.heap.size,0,none⟩))) (w.alloc (.stringIter s 0)):=by
   unfold execOp;simp[z,d,Instr.range,run_underlying r]
  unfold Oper.wp;rw[g,Oper.upon_value];exact f ι _ _ _ (j.put o.dst (x:=.at (.val (.pointer (some ⟨w.heap.size,0,none⟩)))) rfl) (h w.heap.size _ l ⟨bf,λA m=>by simp[m]⟩) (v o)
 .rename_i I J b r u;rw[u]at d;have d:a.eval x= .map (some b):=d;obtain⟨D,⟨E,c,F,n,i,y⟩,h⟩:=h;have G:=p.wrel.msat b _ F;obtain⟨j,l,v⟩:=a8J p (.mapIter (some b) c #[] c)
  have g:(execOp a.eval o).run C.P w= .ok (.value (.pointer (some ⟨w.heap.size,0,none⟩))) (w.alloc (.mapIter (some b) c #[] c)):=by
   unfold execOp;simp[z,d,Instr.range,run_underlying r,MapKept.run_getObj_map G,Result.andThen]
  unfold Oper.wp;rw[g,Oper.upon_value];have H:b≠w.heap.size:=λe=>bk
  refine f ι _ _ _ (j.put o.dst (x:=.at (.val (.pointer (some ⟨w.heap.size,0,none⟩)))) rfl) (h w.heap.size _ l ⟨λA m=>by simp[m]⟩ ⟨E,c,c, #[],c,?_,n,i,y,bf,i,Nat.le_refl _,Nat.le_refl _,?_⟩) (v o)
  .grind
  .rw[<-n];congr 1;exact filter_eq_self.2 (λ_ _=>bf)
 grind
theorem X2(v:aK B ι σ a w){x:Operand}{st:Bool}(R:o.op= .next x st)(h:X3 o x st σ K):UY B C ι o σ K a w:=by
 intro next Q l
 have i:=v.ev x;unfold X3 at h;split at h
 .rename_i b S;rw[S]at i;have i:a.eval x= .pointer (some ⟨b,0,none⟩):=i;obtain⟨s,t,hm,Y,Z⟩:=h;have hg:=v.wrel.msat b _ hm.at_;by_cases y:t<s.size
  .obtain⟨H,hk⟩:=Vk (ob:=.stringIter s (t+(Utf8.decode s t).2)) v hm.at_
   have d:(execOp a.eval o).run C.P w= .ok (.value (.tuple #[.bool true,.int .i64 t,.int .i32 (Utf8.decode s t).1])) {w with heap:=w.heap.setIfInBounds b (.stringIter s (t+(Utf8.decode s t).2))}:=by
    unfold execOp;simp[R,i,Instr.next,getObj,setObj,Sem.run,hg,y,goInt,Result.andThen]
   unfold Oper.wp;rw[d,Oper.upon_value];refine l ι _ _ _ (H.put o.dst (x:=.tup _) ?_) (Z y _ ⟨bf,λb' I=>by simp[I]⟩) (hk o (by rw[R];rfl));exact⟨_,rfl,rfl,rfl,rfl,trivial⟩
  .have d:(execOp a.eval o).run C.P w= .ok (.value (.tuple #[.bool false])) w:=by
    unfold execOp;simp[R,i,Instr.next,getObj,Sem.run,hg,y,Result.andThen]
   unfold Oper.wp;rw[d,Oper.upon_value];refine l ι _ _ _ (v.put o.dst (x:=.tup _) ?_) (Y aD) (lW v);exact⟨_,rfl,rfl,trivial⟩
 .rename_i r S;rw[S]at i;have i:a.eval x= .pointer (some ⟨r,0,none⟩):=i;obtain⟨b,a4,left,⟨p,f,g,c,c0,a',a0,J,M,T,E,a1,F,N⟩,Y,Z⟩:=h;have a2:=v.wrel.msat b _ a';have a3:=v.wrel.msat r _ T;rcases run_next_at (P:=C.P) w o.type r b g c0 c p f a3 a2 E a1 with⟨h0,d⟩|⟨e,he,w1,hw1,d⟩
  .have hl:left=[]:=by
    rw[<-N];have:(leftOf p c).toList=[]:=bk
    unfold leftOf at this
    grind
   have d:(execOp a.eval o).run C.P w= .ok (.value (.tuple #[.bool false])) w:=by
    unfold execOp;simp[R,i,d,Result.andThen]
   unfold Oper.wp;rw[d,Oper.upon_value];refine l ι _ _ _ (v.put o.dst (x:=.tup _) ?_) (Y hl) (lW v);exact⟨_,rfl,rfl,trivial⟩
  .have O:∃n,aK B ι σ a w1/\w1={w with drawn:=n}:=by
    rcases hw1 with rfl|rfl
    .grind
    .exact⟨w.drawn+1,v.drew (w.drawn+1) (Nat.le_succ _),rfl⟩
   obtain⟨n,O,U⟩:=O;obtain⟨H,hk⟩:=Vk (ob:=.mapIter (some b) g (c.push e.born) f) O T
   have d:(execOp a.eval o).run C.P w= .ok (.value (.tuple #[.bool true,e.key,e.val])) {w1 with heap:=w1.heap.setIfInBounds r (.mapIter (some b) g (c.push e.born) f)}:=by
    unfold execOp;simp[R,i,d,Result.andThen,ChangeMaps.setBlock]
   have V:e∈p.toList.filter λe=> !c.contains e.born:=by
    unfold leftOf at he
    grind
   have W:e∈p.toList:=(mem_filter.1 V).1;obtain⟨j,hj⟩:=getElem?_of_mem V;have z:=zN hj;have a5:r≠b:=λe=>bk
   have u:(((p.toList.filter λe=> !c.contains e.born)).map (·.born)).Nodup:=M.sublist (filter_sublist.map _)
   have X:p.toList.filter (λx=> !(c.push e.born).contains x.born)=(p.toList.filter λe=> !c.contains e.born).take j++(p.toList.filter λe=> !c.contains e.born).drop (j+1):=by
    have h3:p.toList.filter (λx=> !(c.push e.born).contains x.born)=(p.toList.filter λe=> !c.contains e.born).filter λx=>x.born !=e.born:=by
     rw[filter_filter]
     grind
    rw[h3];generalize (p.toList.filter λe=> !c.contains e.born)=L at z u hj;have y:=(List.getElem?_eq_some_iff.1 hj).1;generalize L.take j=A at z;generalize L.drop (j+1)=D at z;subst z;simp only[map_append,map_cons,nodup_append,nodup_cons,mem_map,mem_cons]at u;obtain⟨_,⟨a6,_⟩,a7⟩:=u;rw[filter_append,filter_cons];simp only[bne_self_eq_false,Bool.false_eq_true,if_false];congr 1
    .refine filter_eq_self.2 λx S=>?_
     grind
    .refine filter_eq_self.2 λx S=>?_
     grind
   unfold Oper.wp;rw[d,Oper.upon_value];have G:(if b=r then some (Obj.mapIter (some b) g (c.push e.born) f)else σ.m b)=some (.map p f):=bk
   refine l ι _ _ _ (H.put o.dst (x:=.tup _) ?_) (Z (((p.toList.filter λe=> !c.contains e.born).take j).map λe=>(e.key,e.val)) (e.key,e.val) (((p.toList.filter λe=> !c.contains e.born).drop (j+1)).map λe=>(e.key,e.val)) ?_ _ ⟨λb' I=>by simp[I]⟩ ⟨⟨p,f,g,c.push e.born,f,G,a0,J,M,bf,E,F,F,?_⟩,p,f,g,c,e,G,M,bf,W,rfl⟩) ?_
   .exact⟨_,rfl,rfl,rfl,rfl,trivial⟩
   .grind
   .grind
   .have:=hk o (by rw[R];rfl);subst U;exact⟨this.cells,this.imm,this.ext,this.args⟩
 grind
theorem W8(j:aK B ι σ a w){x:Operand}(u:o.op= .entry x)(h:Ux C o x σ K):UY B C ι o σ K a w:=by
 intro next Q f
 have d:=j.ev x;unfold Ux at h;split at h
 .rename_i r v;rw[v]at d;have d:a.eval x= .pointer (some ⟨r,0,none⟩):=d;obtain⟨b,y,left,x,⟨_,z,g,i,l,e,m,n,p,A,rfl⟩,h⟩:=h;have c:=run_entry_at (P:=C.P) w r b i l z g e (j.wrel.msat r _ p) (j.wrel.msat b _ m) A n
  have c:(execOp a.eval o).run C.P w= .ok (.value (.tuple #[e.key,e.val])) w:=by
   unfold execOp;simp[u,d,c,Result.andThen]
  have h:K (σ.put o.dst (.tup [.inl (.val e.key),.inl (.val e.val)])):=by
   split at h
   .obtain⟨s,t,h⟩:=h;have t:e.val=Sl.val s:=t;rw[t];exact h
   .exact h
  unfold Oper.wp;rw[c,Oper.upon_value];refine f ι _ _ _ (j.put o.dst (x:=.tup _) ?_) h (lW j);exact⟨_,rfl,rfl,rfl,trivial⟩
 grind
theorem F6{P:Program}{f:TypeId}{Ok:Value->Prop}(L:KeyLaw P f Ok){k:Value}(n:Ok k)(w:World):∀(es:List MapEntry)(i:Nat),(∀e∈es,Ok e.key)->
 ((∀e∈es,e.key≠k)/\(Instr.findAsking f k es i).run P w= .ok none w)\/∃j e,es[j]? =some e/\e.key=k/\(Instr.findAsking f k es i).run P w= .ok (some (i+j,e.val)) w
 |[],i,_=>.inl ⟨λe p=>(by cases p),by simp[Instr.findAsking]⟩
 |e::es,i,b=>by
  obtain⟨r,g,l⟩:=L.eq k e.key w n (b e bf);cases r with
  |true=>exact .inr ⟨0,e,rfl,(l.1 rfl).symm,by simp[Instr.findAsking,g]⟩
  |false=>
   have s:e.key≠k:=λh=>bk
   rcases F6 L n w es (i+1) (λd c=>b d (by simp[c]))with⟨t,m⟩|⟨j,d,t,m,u⟩
   .refine .inl ⟨λd c=>?_,by simp[Instr.findAsking,g,m]⟩
    grind
   .exact .inr ⟨j+1,d,bk,m,by simp[Instr.findAsking,g,u];omega⟩
theorem findNow_spec{P:Program}{n:TypeId}{Ok:Value->Prop}(L:KeyLaw P n Ok){d:TypeDesc}(c:P.underlying n=some d){k:Value}(f:Ok k):∀(es:List MapEntry)(i:Nat)(r:Option (Nat×Value)),(∀e∈es,Ok e.key)->
 Instr.findNow d k es i=some r->((∀e∈es,e.key≠k)/\r=none)\/∃j e,es[j]? =some e/\e.key=k/\r=some (i+j,e.val)
 |[],i,r,_,h=>by
  simp[Instr.findNow]at h
  grind
 |e::es,i,r,b,h=>by
  simp only[Instr.findNow]at h;split at h
  .rename_i g;simp only[Option.some.injEq]at h;exact .inr ⟨0,e,rfl,((L.now d k e.key true c f (b e bf) g).1 rfl).symm,bk⟩
  .rename_i g;have s:e.key≠k:=λt=>by have:=(L.now d k e.key false c f (b e bf) g).2 t.symm;cases this
   rcases findNow_spec L c f es (i+1) r (λl m=>b l (by simp[m])) h with⟨u,p⟩|⟨j,l,u,p,v⟩
   .grind
   .exact .inr ⟨j+1,l,bk,p,bk⟩
  .cases h
theorem run_findKey{P:Program}{c:TypeId}{Ok:Value->Prop}(L:KeyLaw P c Ok){k:Value}(l:Ok k)(w:World)(es:List MapEntry)(f:∀e∈es,Ok e.key):
 ((∀e∈es,e.key≠k)/\(Instr.findKey c k es).run P w= .ok none w)\/∃j e,es[j]? =some e/\e.key=k/\(Instr.findKey c k es).run P w= .ok (some (j,e.val)) w:=by
 obtain⟨d,g⟩:=L.under;cases h:Instr.findNow d k es 0 with
 |some r=>
  have b:(Instr.findKey c k es).run P w= .ok r w:=by simp[Instr.findKey,run_underlying g,h]
  rcases findNow_spec L g l es 0 r f h with⟨i,rfl⟩|⟨j,e,i,m,rfl⟩
  .grind
  grind
 |none=>
  have b:(Instr.findKey c k es).run P w=(Instr.findAsking c k es).run P w:=by simp[Instr.findKey,run_underlying g,h]
  rw[b];rcases F6 L l w es 0 f with⟨i,m⟩|⟨j,e,i,m,n⟩
  .grind
  grind
theorem U0{P:Program}{T:TypeId}{z:Value}(h:TL P T=some z)(w:World):(zeroValue T).run P w= .ok z w:=by
 unfold TL at h;split at h
 .rename_i i d;split at h
  .rename_i k n c;simp only[Option.some.injEq]at h;subst h;simp[zeroValue,typeInfo,d,c]
  .rename_i b c;simp only[Option.some.injEq]at h;subst h;simp[zeroValue,typeInfo,d,c]
  .rename_i c;simp only[Option.some.injEq]at h;subst h;simp[zeroValue,typeInfo,d,c]
  .cases h
 .cases h
theorem Ud(i:aK B ι σ a w){t:Nat}{x k:Operand}{ok:Bool}(J:o.op= .lookup t x k ok)(h:Pm C o t x k ok σ K):UY B C ι o σ K a w:=by
 intro next Q c
 have d:=i.ev x;unfold Pm at h;split at h
 .rename_i kt D b M N V E;rw[V]at d;have d:a.eval x= .map (some b):=d;have n:a.eval k=M:=(i.ev k).val? E;split at h
  .rename_i z W;obtain⟨r,Ok,⟨m,F,X,Y⟩,L,s,O,l,v⟩:=h;have R:=i.wrel.msat b _ X
   have y:∀e∈m.toList,∃p∈r,e.key=p.1/\e.val=only ((C.dec D).enc p.2):=by
    intro e G
    have:(e.key,e.val)∈r.map λp=>(p.1,only ((C.dec D).enc p.2)):=by
     grind
    grind
   have A:∀e∈m.toList,Ok e.key:=λe G=>by
    grind
   have g:=L.check M w m.isEmpty s;unfold Oper.wp;rcases run_findKey L s w m.toList A with⟨S,T⟩|⟨j,e,S,T,Z⟩
   .have f:(execOp a.eval o).run C.P w= .ok (.value (if ok then .tuple #[z,.bool false]else z)) w:=by
     unfold execOp;simp[J,d,n,Instr.lookup,run_underlying N,MapKept.run_getObj_map R,g,T,U0 W,Result.andThen]
    rw[f,Oper.upon_value];refine c ι _ _ _ (i.put o.dst ?_) (l ?_) (lW i)
    .cases ok
     .rfl
     .exact⟨_,rfl,rfl,rfl,trivial⟩
    .intro p hp e1
     have:(p.1,only ((C.dec D).enc p.2))∈m.toList.map λe=>(e.key,e.val):=by
      grind
     grind
   .have G:e∈m.toList:=mem_of_getElem? S;obtain⟨p,hp,e1,H⟩:=y e G
    have f:(execOp a.eval o).run C.P w= .ok (.value (if ok then .tuple #[e.val,.bool true]else e.val)) w:=by
     unfold execOp;simp[J,d,n,Instr.lookup,run_underlying N,MapKept.run_getObj_map R,g,Z,Result.andThen]
    have U:=v p.2 bk;rw[f,Oper.upon_value];split at U
    .rename_i u I;rw[I]at H;refine c ι _ _ _ (i.put o.dst ?_) U (lW i);cases ok
     .exact H
     .exact⟨_,rfl,H,rfl,trivial⟩
    grind
  grind
 grind
theorem ND(i:aK B ι σ a w){t:Nat}{x k v:Operand}(J:o.op= .mapUpdate t x k v)(l:o.dst=none)(h:Dh C t x k v σ K):UY B C ι o σ K a w:=by
 intro next Q f
 have d:=i.ev x;unfold Dh at h;split at h
 .rename_i Z et b m u T U A V;rw[U]at d;have d:a.eval x= .map (some b):=d;have D:a.eval k=m:=(i.ev k).val? A;have E:a.eval v=u:=(i.ev v).val? V;obtain⟨F,Ok,⟨g,c,M,G⟩,L,n,p,N,W⟩:=h;have O:=i.wrel.msat b _ M;have r:∀e∈g.toList,(e.key,e.val)∈F:=λe R=>bk
  have s:∀e∈g.toList,Ok e.key:=λe R=>p _ (r e R);have y:=L.check m w false n;rcases run_findKey L n w g.toList s with⟨X,S⟩|⟨j,e,X,S,h3⟩
  .obtain⟨H,Y⟩:=Vk (ob:=.map (g.push {key:=m,val:=u,born:=c}) (c+1)) i M
   have z:(execOp a.eval o).run C.P w= .ok .skip {w with heap:=w.heap.setIfInBounds b (.map (g.push {key:=m,val:=u,born:=c}) (c+1))}:=by
    unfold execOp;simp[J,d,D,E,Instr.mapUpdate,run_underlying T,MapKept.run_getObj_map O,MapKept.run_setObj_map _ O,y,S,Result.andThen]
   unfold Oper.wp;rw[z,Oper.upon_skip,show a.put o.dst undef=a by rw[l];rfl];refine f ι _ _ _ H (W _ ⟨λb' I=>by simp[I]⟩ ⟨g.push {key:=m,val:=u,born:=c},c+1,bf,?_⟩) (Y o (by rw[J];rfl));simp[G]
  grind
 grind
theorem Uc(z:aK B ι σ a w){t:Nat}{x k v:Operand}(N:o.op= .mapUpdate t x k v)(m:o.dst=none)(h:KC C t x k v σ K):UY B C ι o σ K a w:=by
 intro next Q f
 have g:=z.ev x;unfold KC at h;split at h
 .rename_i kt et b l u hu hx R hv;rw[hx]at g;have g:a.eval x= .map (some b):=g;have A:a.eval k=l:=(z.ev k).val? R;have D:a.eval v=u:=(z.ev v).val? hv;obtain⟨S,Ok,⟨d,c,T,U,V,a1⟩,L,E,r,F,G,H⟩:=h;have O:=z.wrel.msat b _ T;have I:∀e∈d.toList,(e.key,e.val)∈S:=λe W=>bk
  have J:∀e∈d.toList,Ok e.key:=λe W=>F _ (I e W);have n:=L.check l w false E;rcases run_findKey L E w d.toList J with⟨X,Y⟩|⟨j,e,X,Y,h3⟩
  .obtain⟨s,Z⟩:=Vk (ob:=.map (d.push {key:=l,val:=u,born:=c}) (c+1)) z T
   have i:(execOp a.eval o).run C.P w= .ok .skip {w with heap:=w.heap.setIfInBounds b (.map (d.push {key:=l,val:=u,born:=c}) (c+1))}:=by
    unfold execOp;simp[N,g,A,D,Instr.mapUpdate,run_underlying hu,MapKept.run_getObj_map O,MapKept.run_setObj_map _ O,n,Y,Result.andThen]
   unfold Oper.wp;rw[i,Oper.upon_skip,show a.put o.dst undef=a by rw[m];rfl];refine f ι _ _ _ s (G (λp hp e1=>?_) _ ⟨λb' y=>by simp[y]⟩ ⟨d.push {key:=l,val:=u,born:=c},c+1,bf,by simp[U],λe W=>?_,?_⟩) (Z o (by rw[N];rfl))
   .grind
   .grind
   grind
  .have M:=(List.getElem?_eq_some_iff.1 X).1;have a':d[j]? =some e:=bk
   obtain⟨s,Z⟩:=Vk (ob:=.map (d.modify j λe=>{e with key:=l,val:=u}) c) z T
   have i:(execOp a.eval o).run C.P w= .ok .skip {w with heap:=w.heap.setIfInBounds b (.map (d.modify j λe=>{e with key:=l,val:=u}) c)}:=by
    unfold execOp;simp[N,g,A,D,Instr.mapUpdate,run_underlying hu,MapKept.run_getObj_map O,MapKept.run_setObj_map _ O,n,h3,a',Y,Instr.keyThatStays,r,Result.andThen]
   have a0:(d.modify j λe=>{e with key:=l,val:=u}).toList=d.toList.take j++{e with key:=l,val:=u}::d.toList.drop (j+1):=by
    rw[Array.toList_modify,modify_eq_take_cons_drop M]
    grind
   have a2:=zN X;unfold Oper.wp;rw[i,Oper.upon_skip,show a.put o.dst undef=a by rw[m];rfl];refine f ι _ _ _ s (H ((d.toList.take j).map λe=>(e.key,e.val)) e.val ((d.toList.drop (j+1)).map λe=>(e.key,e.val)) ?_ _ ⟨λb' y=>by simp[y]⟩ ⟨d.modify j λe=>{e with key:=l,val:=u},c,bf,?_,?_,?_⟩) (Z o (by rw[N];rfl))
   .grind
   .grind
   .grind
   grind
 grind
end
end Go.Vc
namespace Go.Vc
open Go List
section
variable{B:sJ}{C:Ctx}{ι:cn}{σ:St}{a:Act}{w:World}{o:Oper}{K:St->Prop}
theorem a6Q(g:aK B ι σ a w)(u:FQ o.op=true)(h:Q4 C o σ K):UO C ι o σ K a w:=by
 unfold Q4 at h;cases j:o.op<;>simp only[j]at h u
 case move x=>exact Pk g (.inl j) h
 case assign x=>exact Pk g (.inr j) h
 case pick c x y=>exact XO g j h
 case build T ps=>exact Xi g j h
 case load T x=>exact X7 g j h
 case nilCheck x=>exact Pb g j h
 case binOp op tx x y ty=>
  cases op
  case eql=>
   simp only at h;split at h
   .exact F4 (neg:=false) g j h
   .exact lY g (λp b=>bk) h
  case neq=>
   simp only at h;split at h
   .exact F4 (neg:=true) g j h
   .exact lY g (λp b=>bk) h
  case add=>exact UA g j h
  all_goals first
   |exact lY g (λp b=>by rw[j];intro e;cases e) h
   |exact aWZ g j h
 case unOp op t x=>exact lY g (λp b=>bk) h
 case convert s d x=>exact Rb g j h
 case fieldAddr T x f=>exact NH g j h
 case field T x f=>exact V9 g j h
 case indexAddr T x i=>exact NG g j h
 case index T x i=>exact VZ g j h
 case extract x i=>exact Ra g j h
 case call c=>
  obtain⟨l,args,m⟩:=c;cases l with
  |builtin b=>
   cases b<;>simp only[FQ,Bool.false_eq_true]at u
   case len=>
    simp only at h;split at h
    .rename_i x v;exact aHQ g j rfl v h
    grind
   case min=>exact lY g (λp b=>bk) h
   case max=>exact lY g (λp b=>bk) h
  |value f=>simp[FQ]at u
  |invoke r n=>grind
 all_goals (first|exact h.elim|(simp[FQ]at u))
theorem UO.stp(d:aK B ι σ a w)(h:UO C ι o σ K a w):UY B C ι o σ K a w:=by
 intro next Q b
 obtain⟨v,x,c,e,f⟩:=h;unfold Oper.wp;rw[c w (.inr rfl),Oper.upon_value];exact b ι _ _ _ (d.put o.dst e) f (lW d)
theorem Cv(e:aK B ι σ a w):∀(i:Nat)(l:dc)(ts:dn)(b:cz),sT C.P σ [] i l ts=some b->b=(l.map a.eval).map .val
 |i,[],ts,b,h=>by simp[sT]at h;subst h;rfl
 |i,x::r,ts,b,h=>by
  simp only[sT]at h;split at h
  .cases h
  .rename_i d c;have f:=Cv e (i+1) r ts.tail d c;simp only[contains_nil]at h;split at h
   .rename_i u g;simp only[Option.some.injEq]at h;subst h;simp only[map_cons,(e.ev x).val? g,f]
   .cases h
theorem Li:∀(l b:bx),Ov (l.map .val) b=(l++b).map .val
 |[],_=>rfl
 |v::l,b=>by simp only[map_cons,Ov,Li l b,cons_append]
theorem Ua{P:Program}{T:TypeId}{cs:bx}{ι:cn}:Den ι (mk P T (cs.map .val)) (valOf P T cs):=by
 unfold mk valOf;cases zY P T with
 |true=>exact⟨_,rfl,by simpa using(iQ.vals (ι:=ι)).2 rfl⟩
 |false=>match cs with
  |[]=>exact trivial
  |[x]=>exact rfl
  |_::_::_=>exact trivial
theorem Sound.fat{P:Program}{f:FuncId}{S:Spec}{T:TypeId}{vs:bx}{m:MH}{h:PH}{R:bx->MH->PH->Prop}(I:Sound P f S)(L:S (vs.map .val) m h (λr m' D=>∃l,r= .val (valOf P T l)/\R l m' D)):FAt P f T (vs.map .val) m h R:=by
 have E:∀{l F:bx},l.map CV.val=F.map CV.val->l=F:=fun{l F} e=>(List.map_inj_right (λx y h=>by cases h;rfl)).1 e;refine⟨I.1,λM w N G=>?_⟩;rw[<-E N]
 have s:∀(l:bx)(w:World),Cy w (l.map .val) l:=λl w=>by
  induction l with
  |nil=>trivial
  |cons a l O=>exact⟨rfl,O⟩
 have z:∀(l:bx)(i:Nat)(c:CV)(u:Value)(b:Nat),(l.map CV.val)[i]? =some c->gR c u=some b->False:=λl i c u b p g=>by
  rw[getElem?_map]at p;cases e:l[i]? with
  |none=>grind
  |some v=>rw[e]at p;simp at p;subst p;simp[gR]at g
 refine(I.2 _ vs m h w _ L ⟨s _ _,G.hsat,G.msat,G.disj,λi j c d u v b p _ _ _ g _=>(z _ i c u b p g).elim,λi c u b p _ g=>(z _ i c u b p g).elim⟩).mono ?_;rintro e U ⟨r,u,m',D,rfl,⟨l,rfl,Q⟩,t,n,_⟩;have t:u=valOf P T l:=t;subst t
 have J:∀b,m b=none->¬uC m (vs.map .val) vs b:=by
  rintro b g (A|⟨i,c,u,p,_,V⟩)
  .exact A g
  grind
 refine⟨l,m',D,rfl,Q,⟨n.tape,n.os,n.output,n.drawn,n.size,λb g H=>n.frame b g (J b H),⟨n.hsat,n.msat,n.disj⟩,⟨n.hle⟩,λb g H=>n.hold b g (J b H),λb o g=>?_⟩⟩;rcases n.mfr b o g with A|A
 .exact .inl A
 grind
theorem aWX(r:aK B ι σ a w){c:Call}{g:Operand}{T:TypeId}{f:FuncId}{F cs:Array Value}(Y:o.op= .call c)(hc:c.callee= .value g)
 (hg:σ.ev g= .at (.val (.func (.func f) F cs)))(a':F.toList=[])(h:bxJ C o T f cs.toList c.args.toList σ K):UY B C ι o σ K a w:=by
 intro next Q s
 unfold bxJ at h;split at h
 .rename_i a0 u;obtain⟨R,H,h⟩:=h;have I:=Cv r 0 _ _ _ u;subst I;rw[Li]at H;have G:=r.wrel;obtain⟨Z,J,L,M⟩:=H.fn;have t:=H.go _ w rfl ⟨G.hsat,G.msat,G.disj⟩;have N:a.eval g= .func (.func f) F cs:=by have:=r.ev g;rw[hg]at this;exact this
  have y:F= #[]:=bk
  subst y;have n: #[]++c.args.map a.eval++cs=(c.args.toList.map a.eval++cs.toList).toArray:=bk
  have O:¬Z.body=none:=bk
  have S:¬Z.name= "runtime.NumGoroutine" :=bk
  have z:(execOp a.eval o).run C.P w= .ok (.enter f (c.args.toList.map a.eval++cs.toList).toArray) w:=by
   unfold execOp;simp only[Y,resolve,hc,N,Deferred.ofValue,Sem.run_bind,Sem.run_pure,Result.andThen_ok,invoke,callFunc];rw[n];simp[program,Sem.run,J,S,O]
  unfold Oper.wp;rw[z,Oper.upon_enter];refine Calls.mono t ?_;rintro e w' ⟨l,m',h',rfl,⟨x,rfl,hx⟩,d⟩;show next (a.put o.dst (valOf C.P T ((C.dec T).enc x))) w'
  have U:xV ⟨w,λb=>σ.m b≠none,σ.h,[]⟩ m' h' w':=
   ⟨d.tape,d.os,d.output,d.drawn,d.size,λb i A=>d.frame b i (Classical.byContradiction A),d.heapy.hsat,d.heapy.msat,d.heapy.disj,d.hle.le,λb i A=>d.hold b i (Classical.byContradiction A),λb V i=>d.mfr b V i⟩
  have W:=r.called U (λb i=>by
   cases hm:σ.m b with
   |none=>grind
   |some V=>exact G.mfr b V hm) (λj o' b hj i A=>A (r.fresh j o' b hj i).2.1)
  refine s ι _ _ _ (W.put o.dst Ua) (h x m' h' hx) ⟨λk p T a1 b hk _ hι=>?_,λb off v I=>d.heapy.hsat b off v (d.hle.le b off v I),λD=>?_,λl b _ i X _=>d.frame b i X⟩
  .have E:blk (ι k)=some b:=by rw[hι];rfl
   exact d.frame b (rB (r.own k _ hk) E) (r.fresh k _ b hk E).2.1
  .rw[Y]at D;simp[AZ]at D
 grind
theorem VJ(u:∀g S,assoc C.specs g=some S->Sound C.P g S)(e:aK B ι σ a w)(h:Q4 C o σ K):UY B C ι o σ K a w:=by
 cases R:FQ o.op with
 |true=>exact(a6Q e R h).stp e
 |false=>
  unfold Q4 at h;cases j:o.op<;>simp only[j]at h R
  case alloc T=>
   intro next Q z
   refine Xm e j h next Q (λD L E F i p G=>?_)
   obtain⟨U,s,t,_⟩:=zW _ _ i p
   grind
  case box T x=>
   split at h
   .intro next Q z
    obtain⟨τ,m,H,I⟩:=pH _ _ e h;refine Tr m j H next Q (λD L E F i p G=>?_)
    obtain⟨U,s,t,_⟩:=zW _ _ i p;exact z D U E F s t (G.of_fz I)
   .exact Tr e j h
  case buildSlice T n ps=>
   intro next Q z
   refine ME e j h next Q (λD L E F i p G=>?_)
   obtain⟨U,s,t,_⟩:=DG _ _ i p;obtain⟨σ3,V,W,_⟩:=pH _ _ s t
   grind
  case makeFunc f x X=>
   intro next Q z
   obtain⟨τ,m,H,a0⟩:=zW _ _ e h;obtain⟨v,x,O,Y,H⟩:=lY m (λX b=>bk) H;unfold Oper.wp;rw[O w (.inr rfl),Oper.upon_value];exact z ι _ _ _ (m.put o.dst Y) H (lW e)
  case store T x v=>
   cases M:o.dst with
   |none=>
    rw[M]at h;intro next Q z
    obtain⟨τ,m,H,I⟩:=pH _ _ e h;exact Vb m j M H next Q (λD L E F i p G=>z D L E F i p (G.of_fz I))
   |some d=>grind
  case makeSlice T l c=>
   intro next Q z
   refine NF e j h next Q (λD L E F i p G=>?_)
   obtain⟨U,s,t,_⟩:=DG _ _ i p
   grind
  case slice T x lo hi mx=>exact Vj e j h
  case makeMap T r=>exact Q7 e j h
  case lookup T x k ok=>exact Ud e j h
  case mapUpdate T x k v=>
   cases M:o.dst with
   |none=>
    rw[M]at h;have h:(match Q6 C.heapT 400000 with|true=>KC C T x k v σ K|false=>Dh C T x k v σ K):=h;split at h
    .exact Uc e j M h
    .exact ND e j M h
   |some d=>grind
  case range T x=>exact Vv e j h
  case next x b=>exact X2 e j h
  case entry x=>exact W8 e j h
  case call c=>
   obtain⟨A,args,N⟩:=c;cases A with
   |builtin b=>
    cases b<;>simp only[FQ,Bool.true_eq_false]at R<;>simp only at h
    case append=>
     split at h
     .rename_i x y T tx Y ht;intro next Q z
      refine UD e j rfl Y ht h next Q (λD L E F i p G=>?_)
      obtain⟨σ3,V,W,_⟩:=pH _ _ i p
      grind
     grind
    case cap=>exact(lY e (λX b=>bk) h).stp e
    all_goals exact h.elim
   |value g=>
    simp only at h;split at h
    .rename_i f fs X hg;split at h
     .split at h
      .rename_i J;exact aWX e j rfl hg J h
      grind
     .split at h
      .rename_i J Z;exact abQ u e j rfl hg J Z h
      grind
    grind
   |invoke r n=>exact h.elim
  all_goals (first|exact h.elim|(simp[FQ]at R))
theorem OF(c:aK B ι σ a w){d:Nat}{xs:Array Value}(h:σ.ev (.tmp d)= .at (.val (.tuple xs))):a.tmps[d]? =none\/∃xs,a.tmps[d]? =some (.tuple xs):=by
 have b:=c.ev (.tmp d);rw[h]at b;have b:a.eval (.tmp d)= .tuple xs:=b;simp only[Act.eval,Array.getD_eq_getD_getElem?]at b
 grind
theorem It(c:aK B ι σ a w){d:Nat}{t:Bool}(h:σ.ev (.tmp d)= .at (.val (.bool t))):a.tmps[d]? =some (.bool t):=by
 have b:=c.ev (.tmp d);rw[h]at b;have b:a.eval (.tmp d)= .bool t:=b;simp only[Act.eval,Array.getD_eq_getD_getElem?]at b;cases e:a.tmps[d]? with
 |none=>rw[e]at b;simp[undef]at b
 |some v=>grind
theorem aK.setTmp(b:aK B ι σ a w){c:Operand}{t:Bool}(h:σ.ev c= .at (.val (.bool t))):aK B ι (setTmp σ c t) a w:=by
 cases c with
 |tmp d=>
  refine⟨?_,b.defers,b.own,b.dist,b.fresh,b.wrel,b.one⟩;have i:=It b h;have:=b.slots.set d (x:=.at (.val (.bool t))) (v:=.bool t) rfl;show DenS ι (σ.sl.set d _) a.tmps.toList
  have e:a.tmps.toList.set d (.bool t)=a.tmps.toList:=by
   apply ext_getElem?
   grind
  grind
 |const v=>exact b
 |global g=>exact b
 |func f=>exact b
theorem RM{c:Operand}{t:Bool}(h:σ.ev c= .at (.val (.bool t))):Fz σ (setTmp σ c t):=by
 cases c with
 |tmp d=>
  refine⟨λ_ _ _ i h=>⟨i,h⟩,λ_ _ _ h=>h,?_,?_,rfl⟩
  .intro x k off b;cases x with
   |tmp e=>
    simp only[Vc.setTmp,St.ev,Af]at b;simp only[St.ev]
    grind
   |const v=>exact b
   |global g=>exact b
   |func f=>exact b
  .intro x k b;cases x with
   |tmp e=>
    simp only[Vc.setTmp,St.ev,Af]at b;simp only[St.ev]
    grind
   |const v=>exact b
   |global g=>exact b
   |func f=>exact b
 |const v=>exact Fz.refl σ
 |global g=>exact Fz.refl σ
 |func f=>exact Fz.refl σ
def GWp(C:Ctx)(ops:Array Oper)(o:Oper)(a:Act)(w:World)(next:Act->World->Prop)(Q:Exit->Act->World->Prop):Prop:=
 if Region.wanted o (yielded ops a.tmps)then o.wp C.P a w next Q else next (a.put o.dst undef) w
theorem Rh{ops:Array Oper}{j d:Nat}{b t:Bool}{g:Oper}(e:o.guard=some (j,b))(c:nth ops.toList j=some g)(f:g.dst=some d)(h:a.tmps[d]? =some (.bool t)):
 Region.wanted o (yielded ops a.tmps)=(t==b):=by
 unfold Region.wanted;rw[e];rw[jX,Array.getElem?_toList]at c;simp[yielded,c,f,h]
theorem Jd{ops:Array Oper}{j d:Nat}{b:Bool}{g:Oper}(f:o.guard=some (j,b))(e:nth ops.toList j=some g)(h:g.dst=some d)(c:a.tmps[d]? =none\/∃xs,a.tmps[d]? =some (.tuple xs)):
 Region.wanted o (yielded ops a.tmps)=false:=by
 unfold Region.wanted;rw[f];rw[jX,Array.getElem?_toList]at e;rcases c with c|⟨xs,c⟩<;>simp[yielded,e,h,c]
theorem Dl{f:Oper->St->(St->Prop)->Prop}{ops:Array Oper}(c:aK B ι σ a w)(h:Pw f ops o σ K):
 ∃e,aK B ι e a w/\Fz σ e/\((Region.wanted o (yielded ops a.tmps)=true/\f o e K)\/(Region.wanted o (yielded ops a.tmps)=false/\K (e.put o.dst (.at (.val undef))))):=by
 unfold Pw at h;split at h
 .rename_i i;exact⟨σ,c,Fz.refl σ,.inl ⟨by simp[Region.wanted,i],h⟩⟩
 .rename_i j m i;split at h
  .exact h.elim
  .rename_i g n;split at h
   .exact h.elim
   .rename_i d p;split at h
    .rename_i t b;have l:=It c b;have r:=Rh (o:=o) (a:=a) i n p l;rcases uP h with⟨rfl,h⟩|⟨rfl,h⟩
     .refine⟨setTmp σ (.tmp d) true,c.setTmp b,RM b,?_⟩
      grind
     .refine⟨setTmp σ (.tmp d) false,c.setTmp b,RM b,?_⟩
      grind
    .rename_i s b;exact⟨σ,c,Fz.refl σ,.inr ⟨Jd i n p (OF c b),h⟩⟩
    grind
theorem V2(c:∀g S,assoc C.specs g=some S->Sound C.P g S){ops:Array Oper}(m:aK B ι σ a w)(h:Uk C ops o σ K)
 (next:Act->World->Prop)(Q:Exit->Act->World->Prop)(b:∀i e f w',aK B i e f w'->K e->Jc σ ι o w w'->next f w'):GWp C ops o a w next Q:=by
 obtain⟨t,d,j,n⟩:=Dl m h;unfold GWp;rcases n with⟨l,h⟩|⟨l,h⟩
 .rw[if_pos l];exact VJ c d h next Q (λi e f w' p r s=>b i e f w' p r (s.of_fz j))
 .rw[if_neg (by simp[l])];exact b ι _ _ _ (d.put o.dst (x:=.at (.val undef)) rfl) h (lW m)
theorem OB{P:Program}{next:Act->World->Prop}{Q:Exit->Act->World->Prop}(h:o.wp P a w next Q):o.wpIn Fence.wide 0 P a w next Q:=by
 refine⟨λ_ _=>trivial,?_⟩;show o.uponIn Fence.wide 0 P a next Q ((execOp a.eval o).run P w)
 unfold Oper.wp at h;cases b:(execOp a.eval o).run P w with
 |ok x g=>
  rw[b]at h;cases x with
  |value v=>exact h
  |skip=>exact h
  |defer d=>exact h
  |enter f args=>exact⟨λe=>by simp[Fence.wide]at e,callsIn_wide.2 h⟩
  |row r args=>
   refine⟨λe=>by simp[Fence.wide]at e,λc i _=>?_⟩;obtain⟨v,j,l,m⟩:=h c i;exact⟨v,j,l,stepsIn_wide.2 m⟩
  |_=>exact h.elim
 |halt x g=>
  rw[b]at h;cases x with
  |panic v=>exact h
  |_=>exact h.elim
def bBQ(B:sJ)(C:Ctx)(o:Oper)(K:St->Prop)(a:Act)(w:World):Prop:=
 ∀(next:Act->World->Prop)(Q:Exit->Act->World->Prop),(∀e b c d,aK B e b c d->K b->next c d)->o.wpIn Fence.wide 0 C.P a w next Q
theorem U1(s:aK B ι σ a w){c:Call}{g:Operand}{l:Nat}{E cs:Array Value}(O:o.op= .call c)(R:c.callee= .value g)
 (T:σ.ev g= .at (.val (.func (.yield l) E cs)))(U:E.toList=[])(V:cs.toList=[])(h:TN C o (.func (.yield l) #[] #[]) c.args.toList σ K):bBQ B C o K a w:=by
 intro next Q p
 unfold TN at h;split at h
 .exact h.elim
 .rename_i S hS;split at h
  .rename_i W t;obtain⟨X,h⟩:=h;have Y:=Cv s 0 _ _ _ t;subst Y;have F:=s.wrel;obtain⟨Z,v,f,y,M,i⟩:=X.go l _ σ.m σ.h w _ h ⟨F.hsat,F.msat,F.disj⟩;have H:a.eval g= .func (.yield l) E cs:=by have:=s.ev g;rw[T]at this;exact this
   have z:E= #[]:=bk
   have A:cs= #[]:=bk
   subst z A;have G:c.args.map a.eval=(c.args.toList.map a.eval).toArray:=bk
   have r:(execOp a.eval o).run C.P w= .ok (.round l Z v f y) w:=by
    unfold execOp;simp only[O,resolve,R,H,Deferred.ofValue,Sem.run_bind,Sem.run_pure,Result.andThen_ok,invoke]
    grind
   refine⟨λ_ _=>trivial,?_⟩;show o.uponIn Fence.wide 0 C.P a next Q ((execOp a.eval o).run C.P w)
   rw[r,Oper.uponIn_round];refine⟨λe=>by simp[Fence.wide]at e,i.mono ?_⟩;rintro e N ⟨u,m',h',rfl,hK,d⟩;show next (a.put o.dst u) N
   have I:xV ⟨w,λb=>σ.m b≠none,σ.h,[]⟩ m' h' N:=
    ⟨d.tape,d.os,d.output,d.drawn,d.size,λb n D=>d.frame b n (Classical.byContradiction D),d.heapy.hsat,d.heapy.msat,d.heapy.disj,d.hle.le,λb n D=>d.hold b n (Classical.byContradiction D),λb J n=>d.mfr b J n⟩
   have L:=s.called I (λb n=>by
    cases hm:σ.m b with
    |none=>grind
    |some J=>exact F.mfr b J hm) (λj o' b hj n D=>D (s.fresh j o' b hj n).2.1)
   exact p ι _ _ _ (L.put o.dst (x:=.at (.val u)) rfl) hK
  grind
theorem Rx(b:∀g S,assoc C.specs g=some S->Sound C.P g S)(f:aK B ι σ a w)(h:Ry C o σ K):bBQ B C o K a w:=by
 have i:Q4 C o σ K->bBQ B C o K a w:=λh next Q j=>OB (VJ b f h next Q (λm n p r s t _=>j m n p r s t))
 unfold Ry at h;split at h
 .rename_i c u;split at h
  .rename_i g v;split at h
   .rename_i l y z x;split at h
    .rename_i d e;exact U1 f u v x d e h
    grind
   grind
  grind
 grind
theorem Q9(c:∀g S,assoc C.specs g=some S->Sound C.P g S){ops:Array Oper}(l:aK B ι σ a w)(h:Pw (Ry C) ops o σ K)
 (next:Act->World->Prop)(Q:Exit->Act->World->Prop)(b:∀m i j w',aK B m i j w'->K i->next j w'):
 if Region.wanted o (yielded ops a.tmps)then o.wpIn Fence.wide 0 C.P a w next Q else(∀f,o.about C.P w a.eval=some f->Fence.wide.fn f)/\next (a.put o.dst undef) w:=by
 obtain⟨r,d,n,p⟩:=Dl l h;rcases p with⟨e,h⟩|⟨e,h⟩
 .rw[if_pos e];exact Rx c d h next Q b
 .rw[if_neg (by simp[e])];exact⟨λ_ _=>trivial,b ι _ _ _ (d.put o.dst (x:=.at (.val undef)) rfl) h⟩
theorem Iw(b:∀g S,assoc C.specs g=some S->Sound C.P g S){ops:Array Oper}{Q:Exit->Act->World->Prop}{R:St->Prop}{rest:cv}(d:∀ι σ a w,aK B ι σ a w->R σ->wpOpsIn Fence.wide 0 C.P ops Q rest a w):
 ∀(l:List Oper)(s:Nat)(ι:cn)(σ:St)(a:Act)(w:World),(∀j,j<l.length->l[j]? =ops.toList[s+j]?)->aK B ι σ a w->Rr C ops l σ R->wpOpsIn Fence.wide 0 C.P ops Q (range' s l.length++rest) a w
 |[],s,ι,σ,a,w,_,c,h=>d ι σ a w c h
 |o::l,s,ι,σ,a,w,e,c,h=>by
  have f:ops[s]? =some o:=by have:=e 0 bf;grind
  simp only[length_cons,range'_succ,cons_append,wpOpsIn,f]
  exact Q9 b c h (wpOpsIn Fence.wide 0 C.P ops Q (range' (s+1) l.length++rest)) Q (λi m n p r t=>
   Iw b d l (s+1) i m n p (λj u=>by have:=e (j+1) bj;grind) r t)
end
end Go.Vc
namespace Go.Vc
open Go List
def Yd(P:Program)(ops:Array Oper)(w:World)(o:Oper)(v:Value)(a:Act):Prop:=
 (Region.wanted o (yielded ops a.tmps)=true/\(execOp a.eval o).run P w= .ok (.value v) w)\/(Region.wanted o (yielded ops a.tmps)=false/\v=undef)
def Aft(ops:Array Oper)(ok:Oper)(i:Nat):Prop:=waits ok i=true\/∃j b,ops[j]? =some b/\waits ok j=true/\waits b i=true
def adQ(ops:Array Oper)(b:Oper):Prop:=∀(k:Nat)(ok:Oper)(d:Nat),ops[k]? =some ok->ok.dst=some d->d∈b.looksAt ops->waits b k=true
structure bGZ(ops:Array Oper)(i:Nat)(oi:Oper):Prop where
 mv:bQJ oi.op=true
 look:∀(k:Nat)(ok:Oper)(d:Nat),ops[k]? =some ok->ok.dst=some d->d∈oi.looksAt ops->Aft ops ok i
structure Ssa(ops:Array Oper):Prop where
 look:∀(i:Nat)(oi:Oper),ops[i]? =some oi->adQ ops oi\/bGZ ops i oi
 dst:∀(i k:Nat)(oi ok:Oper)(d:Nat),ops[i]? =some oi->ops[k]? =some ok->ok.dst=some d->i≠k->oi.dst≠some d
 topo:∀(i:Nat)(oi:Oper)(k:Nat),ops[i]? =some oi->waits oi k=true->k<i
 sel:∀(j:Nat)(o:Oper) cs b,ops[j]? =some o->o.op≠ .select cs b
theorem Aft.in_{ops:Array Oper}{ok:Oper}{i:Nat}{L:Array Bool}(h:Aft ops ok i)(c:∀j,waits ok j=true->L.getD j false=true)(d:∀(j:Nat)(b:Oper),ops[j]? =some b->L.getD j false=true->∀k,waits b k=true->L.getD k false=true):L.getD i false=true:=by
 rcases h with h|⟨j,b,e,f,g⟩
 .exact c i h
 grind
theorem Ssa.self{ops:Array Oper}(c:Ssa ops){k:Nat}{o:Oper}(b:ops[k]? =some o):∀d,o.dst=some d->d∉o.looksAt ops:=λd f g=>by
 rcases c.look k o b with h|h
 .have:=c.topo k o k b (h k o d b f g);omega
 .rcases h.look k o d b f g with e|⟨j,i,l,e,m⟩
  .have:=c.topo k o k b e;omega
  .have:=c.topo k o j b e;have:=c.topo j i k l m;omega
theorem baQ{P:Program}{o:Oper}(h:bQJ o.op=true):Bu P o=false:=by
 unfold Bu;cases e:o.op<;>simp_all [bQJ]
theorem Ln{o:Oper}{k:Nat}:waits o k=true↔∃e∈o.after,Region.binds .any e=true/\e.on=k:=by
 unfold waits;rw[any_eq_true];constructor
 .rintro⟨e,b,h⟩;simp only[Bool.and_eq_true]at h;exact⟨e,bk,h.1,Nat.eq_of_beq_eq_true h.2⟩
 .rintro⟨e,b,c,d⟩;exact⟨e,bk,by simp[c,d]⟩
theorem a2Z{ops:Array Oper}(h:cmQ ops=true)(t:Region.noSelect ops=true):Ssa ops:=by
 unfold cmQ at h;simp only[all_eq_true,mem_range]at h;have l:∀{i:Nat}{m:Oper},ops[i]? =some m->i<ops.toList.length:=λf=>bk
 refine⟨?_,?_,?_,Region.noSelect_spec t⟩
 .intro i m f;have c:=h i (l f);rw[jX,Array.getElem?_toList,f]at c;simp only[Bool.and_eq_true,Bool.or_eq_true,all_eq_true,mem_range]at c;rcases c.2 with p|⟨u,p⟩
  .refine .inl λk ok d g n v=>?_;have b:=p k (l g);rw[jX,Array.getElem?_toList,g]at b
   grind
  .refine .inr ⟨u,λk ok d g n v=>?_⟩;have b:=p k (l g);rw[jX,Array.getElem?_toList,g]at b;simp only[n,Bool.or_eq_true,Bool.not_eq_true',contains_eq_mem,decide_eq_false_iff_not]at b;rcases b with b|b
   .grind
   .unfold cCQ at b;simp only[Bool.or_eq_true,any_eq_true,Bool.and_eq_true]at b;rcases b with b|⟨⟨x,j⟩,E,y,z⟩
    .exact .inl b
    .refine .inr ⟨j,x,?_,y,z⟩
     grind
 .intro i k m ok d f g n r;have c:=h i (l f);rw[jX,Array.getElem?_toList,f]at c;simp only[Bool.and_eq_true,all_eq_true,mem_range]at c;have b:=c.1.2 k (l g);rw[jX,Array.getElem?_toList,g]at b;simp only[n,Bool.or_eq_true]at b;rcases b with b|b
  .exact(r (Nat.eq_of_beq_eq_true b)).elim
  grind
 .intro i m k f A;have s:i<ops.toList.length:=bk
  have c:=h i s;rw[jX,Array.getElem?_toList,f]at c;simp only[Bool.and_eq_true,all_eq_true]at c;obtain⟨e,F,D,rfl⟩:=Ln.1 A;have:=c.1.1 e bk;simp only[D,Bool.not_true,Bool.false_or]at this;rw[<-Nat.blt_eq];exact this
theorem xM{ops:Array Oper}{b:Array Bool}{j:Nat}:j∈Region.ready .any ops b↔b.getD j true=false/\∃o,ops[j]? =some o/\∀k,waits o k=true->b.getD k false=true:=by
 rw[mem_ready];constructor
 .rintro⟨c,o,d,f⟩;refine⟨c,o,d,λk i=>?_⟩;obtain⟨e,g,h,rfl⟩:=Ln.1 i
  grind
 .rintro⟨c,o,d,f⟩;exact⟨c,o,d,λe g h=>f e.on (Ln.2 ⟨e,g,h,rfl⟩)⟩
theorem Ul{l:Array Bool}{i:Nat}(h:l.getD i true=false):l.getD i false=false/\i<l.size:=by
 grind
theorem wI{l:Array Bool}{i:Nat}(h:i<l.size):(l.setIfInBounds i true).getD i false=true:=by
 simp[Array.getD,h]
theorem IW{ops:Array Oper}{o:Oper}{c e:Act}(l:∀cs b,o.op≠ .select cs b)(h:∀t∈o.looksAt ops,c.tmps[t]? =e.tmps[t]?):
 execOp c.eval o=execOp e.eval o/\Region.wanted o (yielded ops c.tmps)=Region.wanted o (yielded ops e.tmps):=by
 constructor
 .refine execOp_congr o l λx m=>?_;cases x with
  |tmp t=>
   have:t∈o.looksAt ops:=mem_append_left _ (mem_filterMap.2 ⟨.tmp t,bk,rfl⟩);simp only[Act.eval,Array.getD_eq_getD_getElem?,h t this]
  |const v=>rfl
  |global g=>rfl
  |func f=>rfl
 .unfold Region.wanted;split
  .rfl
  .rename_i j i n
   have:yielded ops c.tmps j=yielded ops e.tmps j:=by
    unfold yielded;cases p:(ops[j]?).bind (·.dst)with
    |none=>rfl
    |some d=>
     have r:d∈o.looksAt ops:=by
      unfold Oper.looksAt
      grind
     grind
   rw[this]
theorem NO{a:Act}{d:Option Tmp}{v:Value}{t:Nat}(h:d≠some t):(a.put d v).tmps[t]? =a.tmps[t]? :=by
 cases d with
 |none=>rfl
 |some e=>
  have:e≠t:=λx=>h (by rw[x]);simp[Act.put,Array.getElem?_setIfInBounds_ne this]
theorem bNZ(a:Act)(d:Option Tmp)(u v:Value):(a.put d u).put d v=a.put d v:=by
 cases d with
 |none=>rfl
 |some e=>simp[Act.put]
structure Tu(P:Program)(ops:Array Oper)(L Cl:Array Bool)(ar ac:Act)(w:World):Prop where
 szL:L.size=ops.size
 szC:Cl.size=ops.size
 sub:∀i,L.getD i false=true->Cl.getD i false=true
 rd:∀(i:Nat)(o:Oper),ops[i]? =some o->Cl.getD i false=true->L.getD i false=false->FQ o.op=true
 clC:∀(i:Nat)(o:Oper),ops[i]? =some o->Cl.getD i false=true->∀k,waits o k=true->Cl.getD k false=true
 clL:∀(i:Nat)(o:Oper),ops[i]? =some o->L.getD i false=true->∀k,waits o k=true->L.getD k false=true
 tsz:ar.tmps.size=ac.tmps.size
 df:ar.defers=ac.defers
 agree:∀t,(∀(i:Nat)(o:Oper),ops[i]? =some o->Cl.getD i false=true->L.getD i false=false->o.dst≠some t)->ar.tmps[t]? =ac.tmps[t]?
 pend:∀(i:Nat)(o:Oper),ops[i]? =some o->Cl.getD i false=true->L.getD i false=false->∃v,(adQ ops o->∀w'',(Bu P o=false\/w''=w)->Yd P ops w'' o v ac)/\(bGZ ops i o->∀w'',Yd P ops w'' o v ar)/\ac.put o.dst v=ac
section
variable{P:Program}{ops:Array Oper}{L Cl:Array Bool}{ar ac:Act}{w:World}
theorem Yd.congr{o:Oper}{v:Value}{a b:Act}{w:World}(h:Yd P ops w o v a)(c:execOp b.eval o=execOp a.eval o)(d:Region.wanted o (yielded ops b.tmps)=Region.wanted o (yielded ops a.tmps)):Yd P ops w o v b:=by
 unfold Yd at*
 grind
theorem Tu.looks(h:Tu P ops L Cl ar ac w){o:Oper}(b:adQ ops o)(c:∀k,waits o k=true->L.getD k false=true):∀t∈o.looksAt ops,ar.tmps[t]? =ac.tmps[t]? :=by
 intro t d;refine h.agree t (λk ok e _ g f=>?_);have:=c k (b k ok t e f d)
 grind
theorem Tu.looks'(h:Tu P ops L Cl ar ac w){i:Nat}{o:Oper}(b:bGZ ops i o)(g:Cl.getD i false=false):∀t∈o.looksAt ops,ar.tmps[t]? =ac.tmps[t]? :=by
 intro t e;refine h.agree t (λk ok d c _ f=>?_);have:=(b.look k ok t d f e).in_ (h.clC k ok d c) h.clC
 grind
theorem Tu.stepA(s:Ssa ops)(h:Tu P ops L Cl ar ac w){i:Nat}{o:Oper}(x:ops[i]? =some o)(J:Cl.getD i false=true)(y:∀k,waits o k=true->L.getD k false=true){v:Value}(r:ac.put o.dst v=ac):
 Tu P ops (L.setIfInBounds i true) Cl (ar.put o.dst v) ac w:=by
 have n:i<L.size:=by rw[h.szL];grind
 have g:∀k,(L.setIfInBounds i true).getD k false=false->L.getD k false=false/\k≠i:=by
  intro k c;by_cases e:i=k
  .subst e;rw[wI n]at c;cases c
  .rw[getD_set_ne false e]at c;grind
 refine⟨bt h.szL,h.szC,?_,λk ok c f b=>h.rd k ok c f (g k b).1,h.clC,?_,?_,?_,?_,λk ok c f b=>?_⟩
 .intro k c;by_cases e:i=k
  .grind
  .rw[getD_set_ne false e]at c;exact h.sub k c
 .intro k ok c b j z;by_cases e:i=k
  .grind
  .rw[getD_set_ne false e]at b;exact getD_set_true (h.clL k ok c b j z)
 .rw[<-h.tsz];cases o.dst<;>simp[Act.put]
 .rw[<-h.df];cases o.dst<;>rfl
 .intro t A;by_cases e:o.dst=some t
  .rw[e]at r⊢
   rw[<-r];simp only[Act.put,Array.getElem?_setIfInBounds_self,h.tsz]
  .rw[NO e];refine h.agree t (λk ok c f b=>?_);by_cases D:i=k
   .grind
   .exact A k ok c f (by rw[getD_set_ne false D];exact b)
 .obtain⟨u,E,F,G⟩:=h.pend k ok c f (g k b).1;refine⟨u,E,λl p=>?_,G⟩
  have m:∀d,o.dst=some d->d∉ok.looksAt ops:=λd H I=>by
   have:=(l.look i o d x H I).in_ y h.clL
   grind
  exact(F l p).congr (execOp_put ok (s.sel k ok · · c) ar o.dst v m) (wanted_put ok ar o.dst v m)
theorem Tu.take(y:Ssa ops)(h:Tu P ops L Cl ar ac w){k:Nat}{o:Oper}(r:ops[k]? =some o)(E:Cl.getD k false=false)(W:∀j,waits o j=true->Cl.getD j false=true)(R:FQ o.op=true){v:Value}
 (O:∀c,(Bu P o=false\/c=w)->Yd P ops c o v ac):Tu P ops L (Cl.setIfInBounds k true) ar (ac.put o.dst v) w:=by
 have F:k<Cl.size:=by rw[h.szC];grind
 have f:∀j,(Cl.setIfInBounds k true).getD j false=true->j=k\/Cl.getD j false=true:=by
  intro j x;by_cases e:k=j
  .omega
  .rw[getD_set_ne false e]at x;exact .inr x
 have G:L.getD k false=false:=by
  cases S:L.getD k false with
  |false=>rfl
  |true=>rw[h.sub k S]at E;cases E
 have s:∀j,Cl.getD j false=true->(Cl.setIfInBounds k true).getD j false=true:=by
  intro j x;exact getD_set_true x
 have z:=y.self r;refine⟨h.szL,bt h.szC,λi g=>s i (h.sub i g),?_,?_,h.clL,?_,?_,?_,?_⟩
 .intro i l g b m;rcases f i b with rfl|b
  .grind
  .exact h.rd i l g b m
 .intro i l g b j x;rcases f i b with rfl|b
  .grind
  .exact s j (h.clC i l g b j x)
 .rw[h.tsz];cases o.dst<;>simp[Act.put]
 .rw[h.df];cases o.dst<;>rfl
 .intro t Q;have e:o.dst≠some t:=Q k o r (wI F) G;rw[NO e];exact h.agree t (λi l g b m=>Q i l g (s i b) m)
 .intro i l g b m;by_cases e:i=k
  .subst e;rw[r]at g;cases g;refine⟨v,λ_ c H=>(O c H).congr (execOp_put o (y.sel i o · · r) ac o.dst v z) (wanted_put o ac o.dst v z),λA c=>?_,bNZ _ _ _ _⟩;obtain⟨T,I⟩:=IW (y.sel i o · · r) (h.looks' A E);exact(O c (.inl (baQ A.mv))).congr T I
  .have n:=(f i b).resolve_left e;obtain⟨u,U,J,M⟩:=h.pend i l g n m;refine⟨u,λD c H=>?_,J,?_⟩
   .have p:∀d,o.dst=some d->d∉l.looksAt ops:=λd N V=>by
     have:=h.clC i l g n k (D k o d r N V)
     grind
    exact(U D c H).congr (execOp_put l (y.sel i l · · g) ac o.dst v p) (wanted_put l ac o.dst v p)
   rw[Act.put_comm ac v u (λd N=>y.dst i k l o d g r N e),M]
theorem U2{o:Oper}{i m:Act}{w:World}{b g:Act->World->Prop}{Q:Exit->Act->World->Prop}(p:execOp m.eval o=execOp i.eval o)(h:o.wp P i w b Q)
 (s:∀v w',b (i.put o.dst v) w'->g (m.put o.dst v) w')(t:∀d w',¬b (({i with defers:=d::i.defers}:Act).put o.dst undef) w')(y:∀c a w,¬Q (.panic c) a w):o.wp P m w g Q:=by
 unfold Oper.wp at*
 rw[p];generalize (execOp i.eval o).run P w=r at*
 cases r with
 |ok n w'=>
  cases n<;>simp only[Oper.upon]at h⊢
  case value u=>grind
  case skip=>grind
  case defer d=>grind
  case enter f args=>
   refine Calls.mono h λe j l=>?_
   grind
  case row row args=>exact Rows.mono h λu j l=>s u j l
 |halt x w'=>
  cases x<;>simp only[Oper.upon]at h⊢
  grind
theorem Tu.stepB(I:Ssa ops)(h:Tu P ops L Cl ar ac w){j:Nat}{o:Oper}(G:ops[j]? =some o)(U:Cl.getD j false=false)(R:∀k,waits o k=true->L.getD k false=true)(u:Value)(w':World)
 (J:∀(i:Nat)(c:Oper)(v:Value),ops[i]? =some c->Cl.getD i false=true->L.getD i false=false->Yd P ops w c v ac->Yd P ops w' c v ac\/Bu P c=false):
 Tu P ops (L.setIfInBounds j true) (Cl.setIfInBounds j true) (ar.put o.dst u) (ac.put o.dst u) w':=by
 have A:j<Cl.size:=by rw[h.szC];grind
 have D:j<L.size:=by rw[h.szL];grind
 have l:∀i,(Cl.setIfInBounds j true).getD i false=true->i=j\/Cl.getD i false=true:=by
  intro i b;by_cases e:j=i
  .omega
  .rw[getD_set_ne false e]at b;exact .inr b
 have m:∀i,(L.setIfInBounds j true).getD i false=false->i≠j/\L.getD i false=false:=by
  intro i b;by_cases e:j=i
  .subst e;rw[wI D]at b;cases b
  .rw[getD_set_ne false e]at b;grind
 have s:∀i,Cl.getD i false=true->(Cl.setIfInBounds j true).getD i false=true:=λi b=>getD_set_true b;refine⟨bt h.szL,bt h.szC,?_,?_,?_,?_,?_,?_,?_,?_⟩
 .intro i b;by_cases e:j=i
  .subst e;exact wI A
  .rw[getD_set_ne false e]at b;exact s i (h.sub i b)
 .intro i c b f g;obtain⟨n,p⟩:=m i g;exact h.rd i c b ((l i f).resolve_left n) p
 .intro i c b f k H;rcases l i f with rfl|f
  .rw[G]at b;cases b;exact s k (h.sub k (R k H))
  .exact s k (h.clC i c b f k H)
 .intro i c b g k H;by_cases e:j=i
  .grind
  .rw[getD_set_ne false e]at g;exact getD_set_true (h.clL i c b g k H)
 .cases o.dst<;>simp[Act.put,h.tsz]
 .have:=h.df;cases o.dst<;>exact this
 .intro t S;by_cases e:o.dst=some t
  .rw[e];simp only[Act.put,Array.getElem?_setIfInBounds_self,h.tsz]
  .rw[NO e,NO e];refine h.agree t (λi c b f g=>S i c b (s i f) ?_);have n:j≠i:=λx=>bk
   rw[getD_set_ne false n];exact g
 .intro i c b f g;obtain⟨n,p⟩:=m i g;have y:=(l i f).resolve_left n;obtain⟨v,V,M,N⟩:=h.pend i c b y p;refine⟨v,λO z W=>?_,λE z=>?_,?_⟩
  .have r:∀d,o.dst=some d->d∉c.looksAt ops:=λd F Q=>by
    have:=h.clC i c b y j (O j o d G F Q)
    grind
   have T:Yd P ops z c v ac:=by
    grind
   exact T.congr (execOp_put c (I.sel i c · · b) ac o.dst u r) (wanted_put c ac o.dst u r)
  .have r:∀d,o.dst=some d->d∉c.looksAt ops:=λd F Q=>by
    have:=(E.look j o d G F Q).in_ R h.clL
    grind
   exact(M E z).congr (execOp_put c (I.sel i c · · b) ar o.dst u r) (wanted_put c ar o.dst u r)
  .rw[Act.put_comm ac u v (λd F=>I.dst i j c o d b G F n),N]
end
section
variable{B:sJ}{C:Ctx}{ι:cn}{σ:St}{a:Act}{w:World}
theorem Vf{P:Program}{b:Bool}{σ:St}{c d:Oper}{K:Prop}(h:MX P b σ c d K):MX P b σ c d True/\K:=by
 unfold MX at h⊢
 repeat' split at h
 all_goals first|exact h.elim|skip
 all_goals simp_all
theorem OH{P:Program}{e:Bool}{ops:Array Oper}{b:Array Bool}{σ:St}{c:Oper}:∀(l:List Oper)(s:Nat){K:Prop},Lq P e ops b σ c s l K->
 K/\∀(i:Nat)(d:Oper),l[i]? =some d->b.getD (s+i) false=true->FQ d.op=true->waits c (s+i)=false->AL ops σ d=false->MX P e σ c d True
 |[],s,K,h=>⟨h,λi d f=>by simp at f⟩
 |o::l,s,K,h=>by
  have key:(Lq P e ops b σ c (s+1) l K)/\(b.getD s false=true->FQ o.op=true->waits c s=false->AL ops σ o=false->MX P e σ c o True):=by
   simp only[Lq]at h;split at h
   .obtain⟨g,j⟩:=Vf h
    grind
   grind
  obtain⟨m,n⟩:=OH l (s+1) key.1
  grind
theorem Ve{σ:St}{b c:Oper}{τ:St}{K:Prop}(h:Jo σ b c τ K):Jo σ b c τ True/\K:=by
 unfold Jo at h⊢
 repeat' split at h
 all_goals simp_all
theorem MW{ops:Array Oper}{b:Array Bool}{σ:St}{c:Oper}{τ:St}:∀(l:List Oper)(s:Nat){K:Prop},GR ops b σ c τ s l K->
 K/\∀(i:Nat)(d:Oper),l[i]? =some d->b.getD (s+i) false=true->FQ d.op=true->waits c (s+i)=false->AL ops σ d=false->Jo σ c d τ True
 |[],s,K,h=>⟨h,λi d e=>by simp at e⟩
 |o::l,s,K,h=>by
  have key:(GR ops b σ c τ (s+1) l K)/\(b.getD s false=true->FQ o.op=true->waits c s=false->AL ops σ o=false->Jo σ c o τ True):=by
   simp only[GR]at h;split at h
   .obtain⟨f,g⟩:=Ve h
    grind
   grind
  obtain⟨j,m⟩:=MW l (s+1) key.1
  grind
theorem Ug{ops:Array Oper}{c:Oper}(e:aK B ι σ a w)(h:AL ops σ c=true):Region.wanted c (yielded ops a.tmps)=false:=by
 unfold AL at h;split at h
 .cases h
 .rename_i j f i;split at h
  .cases h
  .rename_i g l;split at h
   .cases h
   .rename_i d m;split at h
    .rename_i t b;rw[Rh i l m (It e b)]
     grind
    .rename_i n b;exact Jd i l m (OF e b)
    .cases h
theorem Cx(m:aK B ι σ a w){k:Nat}{p:Own}(c:nth σ.own k=some (some p)){b:Nat}(n:blk (ι k)=some b):∀{l:dc},H8 σ k l=true->∀x∈l,∀j,(σ.ev x= .at (.lst j)\/∃off,σ.ev x= .at (.ptr j off))->blk (ι j)≠some b
 |[],_,x,d=>by cases d
 |y::r,h,x,d=>by
  simp only[H8,Bool.and_eq_true]at h;rcases mem_cons.1 d with rfl|d
  .intro j e g;have f:=h.1;rcases e with e|⟨off,e⟩
   all_goals
    simp only[e]at f;split at f
    .rename_i s i;have:=m.dist j k _ _ b i c g n;subst this;simp at f
    .cases f
  .exact Cx m c n h.2 x d
theorem bOQ{ops:Array Oper}{fl:Bool}{oj S:Oper}{v:Value}{w':World}(A:aK B ι σ a w)(hk:Jc σ ι oj w w')(f:MX C.P fl σ oj S True)(a':fl=true->∃τ:St,xV B τ.m τ.h w'/\Jo σ oj S τ True)(hy:Yd C.P ops w S v a):Yd C.P ops w' S v a\/Bu C.P S=false:=by
 unfold MX at f;split at f
 .grind
 .left;rcases hy with⟨hw,b4⟩|hy
  .left;refine⟨hw,?_⟩;split at f
   .rename_i T x F;split at f
    .grind
    .rename_i hT;have y:=A.ev x
     have U:∀(b off:Nat)(G:bx),a.eval x= .pointer (some ⟨b,off,none⟩)->G.length=C.P.cellsOf T->(∀j u,G[j]? =some u->w.cell? ⟨b,off+j,none⟩=some u)->(∀j u,G[j]? =some u->w'.cell? ⟨b,off+j,none⟩=some u)->
      (execOp a.eval S).run C.P w'= .ok (.value v) w':=by
      intro b off G H V hc a6;have X:=AT hT V hc;have h2:=AT hT V a6
      have e1:(execOp a.eval S).run C.P w= .ok (.value (mkV C.P T G)) w:=by
       unfold execOp;simp only[F,H,Instr.loadAt,Instr.sureAddr,Sem.run_bind,Sem.run_pure,Result.andThen_ok,X]
      have e2:(execOp a.eval S).run C.P w'= .ok (.value (mkV C.P T G)) w':=by
       unfold execOp;simp only[F,H,Instr.loadAt,Instr.sureAddr,Sem.run_bind,Sem.run_pure,Result.andThen_ok,h2]
      grind
     split at f
     .rename_i k off H;rw[H]at y;split at f
      .rename_i p T' G r;split at f
       .rename_i ht a1;have a1:=Nat.le_of_ble_eq_true a1;obtain⟨b,vs,hι,hh,a7⟩:=xO A r;obtain⟨b',a0,a8⟩:=y;rw[hι]at a0;simp only[Value.pointer.injEq,Option.some.injEq,Addr.mk.injEq]at a0;obtain⟨rfl, -, -⟩:=a0;have a2:=hk.cells k p T' G b r ht hι;rw[hh]at a2;have b5:G.length=vs.toList.length:=a7.length;refine U b off ((vs.toList.drop off).take (C.P.cellsOf T)) a8 bk (λj u I=>?_) (λj u I=>?_)
        .rw[cell_of_heap hh];grind
        .rw[cell_of_heap a2];grind
       grind
      grind
     .rename_i b off d H hd;rw[H]at y;have y:a.eval x= .pointer (some ⟨b,off,none⟩):=y;split at f
      .rename_i G a3;split at f
       .rename_i l V;split at f
        .rename_i D;split at f
         .rename_i W;have hc:=Ej A.wrel f.1;refine U b off l y (Nat.eq_of_beq_eq_true D) hc (λj u I=>?_);have X:=hc j u I;cases J:AZ oj.op with
          |false=>
           rw[J,Bool.false_or]at W;obtain⟨τ,a9,h2⟩:=a' W;unfold Jo at h2;simp only[F,H,hd,a3,V,J]at h2;exact Ej a9 h2.1 j u I
          |true=>
          have W:=J;rw[<-X];exact World.cell?_of_block (w:=w) (w':=w') (a:=⟨b,off+j,none⟩) (hk.ext W b (World.block_lt_of_cell? w ⟨b,off+j,none⟩ X))
         .refine U b off l y (Nat.eq_of_beq_eq_true D) (λj u I=>A.wrel.hsat _ _ _ (f.1.rd j u I)) (λj u I=>hk.imm _ _ _ (f.1.rd j u I))
        grind
       grind
      grind
     .rename_i k i sz off d H hd;rw[H]at y;split at f
      .rename_i E' s R G r a3;split at f
       .rename_i l V hs t;have hs:=Nat.eq_of_beq_eq_true hs;subst hs;split at f
        .rename_i D;obtain⟨e,he,b0⟩:=f.1;obtain⟨M,Y⟩:=tK A r;obtain⟨b,n,c,hι,hp⟩:=y
         have z:∀b,blk (ι k)=some b->w'.heap[b]? =w.heap[b]? :=by
          intro b N;have O:=rB (A.own k _ r) N;unfold UE at t;rw[Bool.or_eq_true]at t;rcases t with t|t
          .exact hk.ext t b O
          .split at t
           .rename_i l V;refine hk.args l b V O (A.fresh k _ b r N).2.1 ?_;exact Cx A r N t
           .cases t
         have Q:w'.ownsRow 0 E' s (ι k) R.length R.flatten:=((A.own k _ r).world (λb N=>z b N)).2
         have rd:∀Z:World,Z.ownsRow 0 E' s (ι k) R.length R.flatten->∀j u,l[j]? =some u->Z.cell? ⟨b,i*s+off+j,none⟩=some u:=by
          intro Z X j u I;rw[<-b0]at I;have b1:=Ro I;have hf:=mY M.len he _ _ b1;have:=X.cells (g:=b) (by rw[hι];rfl) _ _ hf;rw[Addr.add_none]at this
          grind
         exact U b (i*s+off) l hp (Nat.eq_of_beq_eq_true D) (rd w Y) (rd w' Q)
        grind
       grind
      grind
     grind
   .rename_i src b6 x F;have y:=A.ev x;split at f
    .rename_i k d H hd;rw[H]at y;have y:a.eval x=ι k:=y;split at f
     .rename_i E' sz R s r hs;split at f
      .rename_i E a4 a5;split at f
       .rename_i hE;split at f
        .rename_i t;have b2:=f.1;obtain⟨M,Y⟩:=tK A r;have b3:R=bC s.data.toList:=b2
         have z:∀b,blk (ι k)=some b->w'.heap[b]? =w.heap[b]? :=by
          intro b N;have O:=rB (A.own k _ r) N;unfold UE at t;rw[Bool.or_eq_true]at t;rcases t with t|t
          .exact hk.ext t b O
          .split at t
           .rename_i l V;refine hk.args l b V O (A.fresh k _ b r N).2.1 ?_;exact Cx A r N t
           .cases t
         have Q:w'.ownsRow 0 E' sz (ι k) R.length R.flatten:=((A.own k _ r).world (λb N=>z b N)).2
         have go:∀Z:World,Z.ownsRow 0 E' sz (ι k) R.length R.flatten->(execOp a.eval S).run C.P Z= .ok (.value (.string ⟨s.data.toList.toArray⟩)) Z:=by
          intro Z X;subst b3;exact FH F a4 hE a5 y X
         grind
        grind
       grind
      grind
     grind
    grind
   grind
  .exact .inr hy
theorem Tt{g:Nat->Prop}:∀{l:cv},bzZ g l->∀j∈l,g j
 |[],_,j,b=>by cases b
 |[i],h,j,b=>by simp at b;subst b;exact h
 |i::k::r,h,j,b=>by
  rcases mem_cons.1 b with rfl|b
  .exact h.1
  .exact Tt h.2 j b
theorem Ft{ops:Array Oper}:∀{l:cv}{i:Nat}{o:Oper},HJ ops l=some (i,o)->i∈l/\ops[i]? =some o/\FQ o.op=true
 |[],i,o,h=>by simp[HJ]at h
 |k::r,i,o,h=>by
  simp only[HJ]at h;split at h
  .rename_i ok b;split at h
   .rename_i e;simp only[Option.some.injEq,Prod.mk.injEq]at h;obtain⟨rfl,rfl⟩:=h;rw[jX,Array.getElem?_toList]at b
    grind
   .obtain⟨c,d⟩:=Ft h
    grind
  .obtain⟨c,d⟩:=Ft h
   grind
def wB(ops:Array Oper)(L:Array Bool):Nat:=((List.range ops.size).filter λi=> !L.getD i false).length
theorem Ji{ops:Array Oper}{L:Array Bool}{i:Nat}(d:L.size=ops.size)(h:i<ops.size)(m:L.getD i false=false):wB ops (L.setIfInBounds i true)+1=wB ops L:=by
 unfold wB
 have key:∀(l:cv),l.Nodup->(l.filter λj=> !(L.setIfInBounds i true).getD j false).length+(if i∈l then 1 else 0)=(l.filter λj=> !L.getD j false).length:=by
  intro l
  induction l with
  |nil=>intro _;simp
  |cons j r f=>
   intro c;have b:=nodup_cons.1 c;have:=f b.2;by_cases e:i=j
   .subst e;have g:(L.setIfInBounds i true).getD i false=true:=wI aD
    grind
   .have g:(L.setIfInBounds i true).getD j false=L.getD j false:=getD_set_ne false e
    grind
 grind
theorem MF{ops:Array Oper}{L:Array Bool}(c:Ssa ops)(f:L.size=ops.size)(h:Region.ready .any ops L=[]):∀i,i<ops.size->L.getD i false=true:=by
 intro i
 induction i using Nat.strongRecOn with
 |_ i g=>
  intro d;cases j:L.getD i false with
  |true=>rfl
  |false=>
   exfalso;have b:ops[i]? =some ops[i]:=Array.getElem?_eq_getElem d
   have:i∈Region.ready .any ops L:=by
    rw[xM];refine⟨?_,_,b,λk e=>g k (c.topo i _ k b e) (Nat.lt_trans (c.topo i _ k b e) d)⟩
    grind
   grind
theorem DT{ops:Array Oper}{L:Array Bool}(h:∀i,i<ops.size->L.getD i false=true):Region.ready .any ops L=[]:=by
 cases b:Region.ready .any ops L with
 |nil=>rfl
 |cons i r=>
  exfalso;have:i∈Region.ready .any ops L:=bk
  obtain⟨c,o,d,_⟩:=xM.1 this
  grind
theorem Tu.eq_of_all{P:Program}{ops:Array Oper}{L Cl:Array Bool}{ar ac:Act}(h:Tu P ops L Cl ar ac w)(b:∀i,i<ops.size->L.getD i false=true):ar=ac:=by
 have c:ar.tmps=ac.tmps:=by
  apply Array.ext_getElem?;intro t;refine h.agree t (λi o d _ e=>?_)
  grind
 have f:=h.df;cases ar;cases ac
 grind
theorem aZQ{ops:Array Oper}{R:St->Prop}{n:Nat}{Cl:Array Bool}(h:Dq C ops n Cl σ R)(b:Region.ready .any ops Cl=[]):R σ:=by
 cases n<;>simp only[Dq,b]at h<;>exact h
theorem Xo{ops:Array Oper}{b:Array Bool}{σ:St}{d:Oper}{τ:St}{K:Prop}(h:Lg C ops b σ d τ K):
 (acX C=true->∀(i:Nat)(c:Oper),ops.toList[i]? =some c->b.getD (0+i) false=true->FQ c.op=true->waits d (0+i)=false->AL ops σ c=false->Jo σ d c τ True)/\K:=by
 unfold Lg at h;split at h
 .rename_i e;obtain⟨f,g⟩:=MW _ 0 h
  grind
 grind
theorem Ts(F:∀g S,assoc C.specs g=some S->Sound C.P g S){ops:Array Oper}(G:Ssa ops){Q:Exit->Act->World->Prop}{R:St->Prop}(hQ:∀ι σ a w,aK B ι σ a w->R σ->Q .normal a w)
 (b':∀c a w,¬Q (.panic c) a w):
 ∀(n:Nat)(b:Nat)(Cl:Array Bool)(ι:cn)(σ:St)(ac:Act)(w:World),aK B ι σ ac w->Dq C ops n Cl σ R->∀(L:Array Bool)(ar:Act),Tu C.P ops L Cl ar ac w->wB ops L=b->
  wpAny C.P .any ops Q b L ar w:=by
 have fin:∀(n:Nat)(Cl:Array Bool)(ι:cn)(σ:St)(ac:Act)(w:World),aK B ι σ ac w->Dq C ops n Cl σ R->∀(L:Array Bool)(ar:Act),Tu C.P ops L Cl ar ac w->Region.ready .any ops L=[]->Q .normal ar w:=by
  intro n Cl ι σ ac w m h L ar f hr;have p:=MF G f.szL hr;rw[f.eq_of_all p];exact hQ ι σ ac w m (aZQ h (DT (λi t=>f.sub i (p i t))))
 have zero:∀(n:Nat)(Cl:Array Bool)(ι:cn)(σ:St)(ac:Act)(w:World),aK B ι σ ac w->Dq C ops n Cl σ R->∀(L:Array Bool)(ar:Act),Tu C.P ops L Cl ar ac w->wB ops L=0->wpAny C.P .any ops Q 0 L ar w:=by
  intro n Cl ι σ ac w m h L ar f T
  have p:∀i,i<ops.size->L.getD i false=true:=by
   intro i t;unfold wB at T;have b9:=eq_nil_of_length_eq_zero T;cases hL:L.getD i false with
   |true=>rfl
   |false=>
    have:i∈(List.range ops.size).filter λi=> !L.getD i false:=mem_filter.2 ⟨mem_range.2 t,by simp[hL]⟩
    grind
  have hr:=DT p;exact⟨hr,fin n Cl ι σ ac w m h L ar f hr⟩
 have b0:∀(n b:Nat),(∀(Cl:Array Bool)(ι:cn)(σ:St)(ac:Act)(w:World),aK B ι σ ac w->Dq C ops n Cl σ R->∀(L:Array Bool)(ar:Act),Tu C.P ops L Cl ar ac w->wB ops L=b->wpAny C.P .any ops Q b L ar w)->
  ∀(Cl:Array Bool)(ι:cn)(σ:St)(ac:Act)(w:World),aK B ι σ ac w->Dq C ops n Cl σ R->∀(L:Array Bool)(ar:Act),Tu C.P ops L Cl ar ac w->wB ops L=b+1->
   ∀i∈Region.ready .any ops L,Cl.getD i false=true->wpOp C.P ops Q i (wpAny C.P .any ops Q b (L.setIfInBounds i true)) ar w:=by
  intro n b ih Cl ι σ ac w m h L ar f T i t hC;obtain⟨H,o,r,M⟩:=xM.1 t;obtain⟨hL,b1⟩:=Ul H;obtain⟨v,hv,c0,b2⟩:=f.pend i o r hC hL
  have hy:Yd C.P ops w o v ar:=by
   rcases G.look i o r with I|c1
   .obtain⟨he,U⟩:=IW (G.sel i o · · r) (f.looks I M);exact(hv I w (.inr rfl)).congr he U
   grind
  have V:wpAny C.P .any ops Q b (L.setIfInBounds i true) (ar.put o.dst v) w:=
   ih Cl ι σ ac w m h _ _ (f.stepA G r hC M b2) (by have:=Ji f.szL bk hL;omega)
  unfold wpOp;simp only[r];rcases hy with⟨l,y⟩|⟨l,rfl⟩
  .rw[if_pos l];left;unfold Oper.wp;rw[y,Oper.upon_value];exact V
  grind
 intro n
 induction n with
 |zero=>
  intro b
  induction b with
  |zero=>exact zero 0
  |succ b b3=>
   intro Cl ι σ ac w m h L ar f T;refine⟨fin 0 Cl ι σ ac w m h L ar f,λi t=>?_⟩;cases hC:Cl.getD i false with
   |true=>grind
   |false=>
    exfalso;obtain⟨H,o,r,M⟩:=xM.1 t
    have a1:i∈Region.ready .any ops Cl:=by
     rw[xM];refine⟨?_,o,r,λk hk=>f.sub k (M k hk)⟩;have:i<Cl.size:=by rw[f.szC];grind
     grind
    simp only[Dq]at h
    grind
 |succ n W=>
  intro b
  induction b with
  |zero=>grind
  |succ b b3=>
   intro Cl ι σ ac w m h L ar f T;refine⟨fin (n+1) Cl ι σ ac w m h L ar f,λi t=>?_⟩;cases hC:Cl.getD i false with
   |true=>grind
   |false=>
    obtain⟨H,o,r,M⟩:=xM.1 t;obtain⟨b4,b1⟩:=Ul H
    have a1:i∈Region.ready .any ops Cl:=by
     rw[xM];refine⟨?_,o,r,λk hk=>f.sub k (M k hk)⟩;have:i<Cl.size:=by rw[f.szC];grind
     grind
    simp only[Dq]at h;split at h
    .grind
    .split at h
     ·
      rename_i k ok b5;obtain⟨b6,X,z⟩:=Ft b5;obtain⟨a2,c2,N,a3⟩:=xM.1 b6;rw[X]at N;cases N;obtain⟨a4,c'⟩:=Ul a2;obtain⟨σ1,Y,c3,hc⟩:=Dl m h;rcases hc with⟨l,h⟩|⟨l,h⟩
      .obtain⟨v,x,y,hx,hK⟩:=a6Q Y z h;have A:=f.take G X a4 a3 z (v:=v) (λa5 a6=>.inl ⟨l,y a5 a6⟩);exact(W (b+1) _ ι _ _ w (Y.put ok.dst hx) hK L ar A T).2 i t
      .have A:=f.take G X a4 a3 z (v:=undef) (λa5 _=>.inr ⟨l,rfl⟩);exact(W (b+1) _ ι _ _ w (Y.put ok.dst (x:=.at (.val undef)) rfl) h L ar A T).2 i t
     ·
      have hg:=Tt h i a1;split at hg
      .rename_i o' a7;rw[jX,Array.getElem?_toList,r]at a7;cases a7;obtain⟨hg,Z⟩:=OH _ 0 hg;obtain⟨he,U⟩:=IW (G.sel i o · · r) ((G.look i o r).elim (f.looks · M) (f.looks' · hC));have a0:=V2 F m hg (λa' D=>∃O s,aK B O s a' D/\Lg C ops Cl σ o s (Dq C ops n (Cl.setIfInBounds i true) s R)/\Jc σ ι o w D) Q (λO s a' D h1 h2 h3=>⟨O,s,h1,h2,h3⟩)
       have hB:∀(u:Value)(D:World),(∃O s,aK B O s (ac.put o.dst u) D/\Lg C ops Cl σ o s (Dq C ops n (Cl.setIfInBounds i true) s R)/\Jc σ ι o w D)->
        wpAny C.P .any ops Q b (L.setIfInBounds i true) (ar.put o.dst u) D:=by
        rintro u D ⟨O,s,J,h',b7⟩;obtain⟨b8,h'⟩:=Xo h';refine W b _ O s _ D J h' _ _ (f.stepB G r hC M u D ?_) (by have:=Ji f.szL bk b4;omega);intro j oj v hj a8 a9 hy;cases E:AL ops σ oj with
        |true=>
         have:=Ug m E;rcases hy with⟨h1,_⟩|h1
         .grind
         .exact .inl (.inr h1)
        |false=>
         have c4:waits o j=false:=by
          grind
         have I:=Z j oj bk bk (f.rd j oj hj a8 a9) bk E;exact bOQ m b7 I (λe=>⟨s,J.wrel,b8 e j oj bk bk (f.rd j oj hj a8 a9) bk E⟩) hy
       unfold GWp at a0;unfold wpOp;simp only[r];rw[U];split
       .rename_i l;rw[if_pos l]at a0;left;refine U2 he a0 hB ?_ b';rintro d D ⟨O,s,J,_⟩;have:=J.defers;rw[<-m.defers]at this;cases hd:o.dst<;>simp[Act.put,hd]at this
       grind
      grind
end
end Go.Vc
namespace Go.Vc
open Go List
section
variable{B:sJ}{C:Ctx}{ι:cn}{σ:St}{a:Act}{w:World}
theorem AK:∀{xs e:dl}{vs:bx}{K:Prop},Dg xs e K->DenS ι xs vs->DenS ι e vs/\K
 |[],[],vs,K,h,b=>⟨b,h⟩
 |x::xs,y::e,[],K,_,b=>b.elim
 |x::xs,y::e,v::vs,K,h,b=>by
  unfold Dg at h;split at h
  .grind
  .rename_i i f g c d;simp only[List.cons.injEq]at c d;obtain⟨rfl,rfl⟩:=c;obtain⟨rfl,rfl⟩:=d;have:=AK h b.2;exact⟨⟨trivial,this.1⟩,this.2⟩
  .rename_i i f j g _ c d;simp only[List.cons.injEq]at c d;obtain⟨rfl,rfl⟩:=c;obtain⟨rfl,rfl⟩:=d;obtain⟨rfl,h⟩:=h;have:=AK h b.2;exact⟨⟨b.1,this.1⟩,this.2⟩
  grind
 |[],_::_,_,K,h,_=>by simp[Dg]at h
 |_::_,[],_,K,h,_=>by simp[Dg]at h
theorem y9:∀{xs c:di}{K:Prop},zA xs c K->(∀k o,nth c k=some (some o)->nth xs k=some (some o))/\K
 |[],[],K,h=>⟨λk o b=>by omega,h⟩
 |x::xs,none::c,K,h=>by
  simp only[zA]at h;obtain⟨d,e⟩:=y9 h;refine⟨λk o b=>?_,e⟩;cases k with
  |zero=>simp[nth]at b
  |succ k=>exact d k o b
 |x::xs,some y::c,K,h=>by
  simp only[zA]at h;obtain⟨rfl,h⟩:=h;obtain⟨d,e⟩:=y9 h;refine⟨λk o b=>?_,e⟩;cases k with
  |zero=>exact b
  |succ k=>exact d k o b
 |[],_::_,K,h=>by simp[zA]at h
 |_::_,[],K,h=>by simp[zA]at h
theorem aK.setSlot(b:aK B ι σ a w){i:Nat}{x:SV}{v:Value}(d:a.tmps[i]? =some v)(c:Den ι x v):aK B ι (σ.put (some i) x) a w:=by
 refine⟨?_,b.defers,b.own,b.dist,b.fresh,b.wrel,b.one⟩;have:=b.slots.set i c;show DenS ι (σ.sl.set i x) a.tmps.toList
 have e:a.tmps.toList.set i v=a.tmps.toList:=by
  apply ext_getElem?
  grind
 grind
theorem aK.nilList(c:aK B ι σ a w)(k E sz:Nat):aK B (upd ι k (.slice none 0 0)) ((σ.kill k).setOwn k (some (.lst E sz []))) a w:=by
 refine c.place k _ _ (D6.refl _ _) ⟨Ix sz,World.ownsRow_nil w 0 E sz⟩ rfl (λb d=>by simp[blk]at d)
theorem vH(τ:St):∀(c:dl)(i:Nat)(ι:cn)(σ:St),aK B ι σ a w->∃g,aK B g (Uz τ c i σ) a w
 |[],i,ι,σ,b=>⟨ι,b⟩
 |y::c,i,ι,σ,b=>by
  simp only[Uz];split
  .rename_i k;split
   .rename_i f;split
    .rename_i E h j l m
     have d:a.tmps[i]? =some (.slice none 0 0):=by
      rw[jX]at f;obtain⟨v,d,e⟩:=b.slots.get i _ f;rw[Array.getElem?_toList]at d;have e:v= .slice none 0 0:=e;rw[d,e]
     exact vH τ c (i+1) _ _ ((b.nilList k E h).setSlot d (x:=.at (.lst k)) (by show _=_;simp))
    .exact vH τ c (i+1) ι σ b
   .exact vH τ c (i+1) ι σ b
  .exact vH τ c (i+1) ι σ b
theorem oS(τ:St)(q:Nat):∀(f:cw)(j:Nat)(ι:cn)(σ:St),aK B ι σ a w->∃A,aK B A (HX τ q f j σ) a w
 |[],j,ι,σ,d=>⟨ι,d⟩
 |y::f,j,ι,σ,d=>by
  simp only[HX];split
  .rename_i k;split
   .rename_i p T D s;split
    .rename_i t;split
     .rename_i E l N O Q;have g:q≠k:=λe=>bk
      have m:=d.nilList k E l
      have c:nth ((σ.kill k).setOwn k (some (.lst E l []))).own q=some (some (.cellsP p T (D.map (At.sub k (λ_=>.junk))))):=by
       simp only[Om,St.setOwn,St.sub,Af,BC,g,false_and,if_false,s];rfl
      obtain⟨b,i,u,F,G⟩:=xO m c
      have H:i.toList[j]? =some (.slice none 0 0):=by
       obtain⟨R,I,n,J,r⟩:=xO d s;rw[jX]at t;obtain⟨v,S,h⟩:=r.get j _ t;have h:v= .slice none 0 0:=h;rw[qK _ _ g,n]at u
       grind
      have z:i.toList.set j (.slice none 0 0)=i.toList:=by
       apply ext_getElem?
       grind
      have M:aK B (upd ι k (.slice none 0 0)) (Iv ((σ.kill k).setOwn k (some (.lst E l []))) q j (.lst k)) a w:=by
       unfold Iv;rw[c];refine m.rewrite c (D6.refl _ _) ⟨b,i,u,F,?_,λU e=>by subst e;have:=akJ m c;grind⟩;have:=G.set j (x:=.lst k) (v:=.slice none 0 0) (by show _=_;simp)
       grind
      exact oS τ q f (j+1) _ _ M
     .exact oS τ q f (j+1) ι σ d
    .exact oS τ q f (j+1) ι σ d
   .exact oS τ q f (j+1) ι σ d
  .exact oS τ q f (j+1) ι σ d
theorem AO(τ:St):∀(b:di)(q:Nat)(ι:cn)(σ:St),aK B ι σ a w->∃d,aK B d (Oq τ b q σ) a w
 |[],q,ι,σ,c=>⟨ι,c⟩
 |y::b,q,ι,σ,c=>by
  simp only[Oq];split
  .rename_i T f;obtain⟨d,e⟩:=oS τ q f 0 ι σ c;exact AO τ b (q+1) d _ e
  .exact AO τ b (q+1) ι σ c
theorem lK{τ:St}{K:Prop}(t:aK B ι σ a w)(h:yZ σ τ K):∃u,aK B u τ a w/\K:=by
 obtain⟨v,f⟩:=vH τ τ.sl 0 ι σ t;obtain⟨m,c⟩:=AO τ τ.own 0 v _ f;have c:aK B m (conv σ τ) a w:=c;unfold yZ at h;obtain⟨g,h⟩:=AK h c.slots;obtain⟨d,n,p,x⟩:=y9 h;refine⟨m,⟨g,c.defers,λk o e=>c.own k o (d k o e),λk r o s b e i j l=>c.dist k r o s b (d k o e) (d r s i) j l,?_,?_,c.one⟩,x⟩
 .intro k o b e j;rw[<-n, <-p];exact c.fresh k o b (d k o e) j
 .rw[<-n, <-p];exact c.wrel
theorem aK.froze(j:aK B ι σ a w){m2:MH}{g:PH}(f:sP σ.m σ.h m2 g):aK B ι {σ with m:=m2,h:=g} a w:=by
 have c:=j.wrel;refine⟨j.slots,j.defers,j.own,j.dist,λk o b u x=>?_,?_,j.one⟩
 .obtain⟨y,t,G⟩:=j.fresh k o b u x;refine⟨y,?_,λi=>?_⟩
  .show m2 b=none;cases l:m2 b with
   |none=>rfl
   |some o=>rw[f.sub b o l]at t;cases t
  .show g b i=none;cases l:g b i with
   |none=>rfl
   |some v=>
    rcases f.new b i v l with d|⟨n,E,p,d,_,_⟩
    .grind
    grind
 .refine⟨c.tape,c.os,c.output,c.drawn,c.size,c.frame,λb o v e=>?_,λb o e=>c.msat b o (f.sub b o e),λb o e i=>?_,λb o v e=>f.le.le b o v (c.hle b o v e),λb z r=>?_,λb o e=>c.mfr b o (f.sub b o e)⟩
  .rcases f.new b o v e with d|⟨n,E,p,d,s,_⟩
   .exact c.hsat b o v d
   .rw[cell_of_heap (c.msat b _ d),Array.getElem?_toList];exact s
  .show g b i=none;have e:m2 b=some o:=e;cases l:g b i with
   |none=>rfl
   |some v=>
    rcases f.new b i v l with d|⟨n,E,p,d,s,A⟩
    .rw[c.disj b o (f.sub b o e) i]at d;cases d
    grind
  .funext i;have e:=congrFun (c.hold b z r) i;show g b i=B.h0 b i;cases l:B.h0 b i with
   |some v=>exact f.le.le b i v (c.hle b i v l)
   |none=>
    cases D:g b i with
    |none=>rfl
    |some v=>
     rcases f.new b i v D with d|⟨n,E,p,d,s,A⟩
     .grind
     .rcases c.mfr b _ d with F|F
      .omega
      grind
theorem KB{τ:St}{K:Prop}(s:aK B ι σ a w)(h:Ub σ τ K):∃t,aK B t τ a w/\K:=by
 obtain⟨u,g⟩:=vH τ τ.sl 0 ι σ s;obtain⟨n,c⟩:=AO τ τ.own 0 u _ g;have c:aK B n (conv σ τ) a w:=c;unfold Ub at h;obtain⟨i,h⟩:=AK h c.slots;obtain⟨d,v,x⟩:=y9 h;have e:=c.froze v;exact⟨n,⟨i,c.defers,λk o f=>c.own k o (d k o f),λk p o r b f j l m=>c.dist k p o r b (d k o f) (d p r j) l m,λk o b f l=>e.fresh k o b (d k o f) l,e.wrel,c.one⟩,x⟩
theorem AV{c:xQ}{R:c.A->Prop}(b:aK B ι σ a w)(h:Jx c R σ):∃x f,R x/\aK B f (c.st x) a w:=by
 unfold Jx at h;split at h
 .obtain⟨x,g,d⟩:=h;obtain⟨i,e,_⟩:=lK b d
  grind
 .obtain⟨x,g,d⟩:=h ⟨b.wrel.disj⟩;obtain⟨i,e,_⟩:=KB b d
  grind
theorem Ny{c:xQ}{I S:c.A->Prop}(b:aK B ι σ a w)(h:UG c I S σ):∃x f,I x/\S x/\aK B f (c.st x) a w:=by
 unfold UG at h;split at h
 .obtain⟨x,g,i,d⟩:=h;obtain⟨j,e,_⟩:=lK b d
  grind
 .obtain⟨x,g,i,d⟩:=h ⟨b.wrel.disj⟩;obtain⟨j,e,_⟩:=KB b d
  grind
def QD(B:sJ)(Q:A9->St->Prop):Exit->Act->World->Prop
 |.normal,a,w=>∃ι σ,aK B ι σ a w/\Q .normal σ
 |.exit id,a,w=>∃ι σ,aK B ι σ a w/\Q (.exit id) σ
 |.ret,a,w=>∃ι σ,aK B ι σ a w/\Q .ret σ
 |_,_,_=>False
theorem Lw(b:∀g S,assoc C.specs g=some S->Sound C.P g S){ops:Array Oper}{Q:A9->St->Prop}:
 ∀(c:dh)(l:List Oper)(s:Nat)(ι:cn)(σ:St)(a:Act)(w:World),(∀j,l[j]? =ops.toList[s+j]?)->aK B ι σ a w->ajQ C ops c l σ (Q .normal)->wpOpsIn Fence.wide 0 C.P ops (QD B Q) (range' s l.length) a w
 |[],l,s,ι,σ,a,w,e,d,h=>by
  have:=Iw b (ops:=ops) (Q:=QD B Q) (R:=Q .normal) (rest:=[]) (λι σ a w d h=>⟨ι,σ,d,h⟩) l s ι σ a w (λj _=>e j) d h
  grind
 |(n,f)::c,l,s,ι,σ,a,w,e,d,h=>by
  obtain⟨I,r,t⟩:=h
  have:=Iw b (ops:=ops) (Q:=QD B Q) (R:=λτ=>∃x,I x/\yZ τ (f.st x) True) (rest:=range' (s+(l.take n).length) (l.drop n).length) (λA D u v i m=>by
   obtain⟨x,m,y⟩:=m;obtain⟨z,p,_⟩:=lK i y;refine Lw b c (l.drop n) (s+(l.take n).length) z _ u v (λj=>?_) p (t x m);rw[getElem?_drop,e];by_cases E:n<=l.length
   .grind
   .have F:l[n+j]? =none:=getElem?_eq_none aD;have G:l[l.length+j]? =none:=getElem?_eq_none aD
    grind) (l.take n) s ι σ a w (λj H=>by
    grind) d r
  grind
theorem Jf(s:∀g S,assoc C.specs g=some S->Sound C.P g S):∀(c:Code)(σ:St)(Q:A9->St->Prop)(ι:cn)(a:Act)(w:World),aK B ι σ a w->VC C c σ Q->c.wp C.P (QD B Q) a w:=by
 intro c
 induction c with
 |skip=>intro σ Q ι a w d h;exact wp_skip ⟨ι,σ,d,h⟩
 |label l=>intro σ Q ι a w d h;exact wp_label ⟨ι,σ,d,h⟩
 |exit id=>intro σ Q ι a w d h;exact wp_exit ⟨ι,σ,d,h⟩
 |ret=>intro σ Q ι a w d h;exact wp_ret ⟨ι,σ,d,h⟩
 |goto l=>intro σ Q ι a w d h;exact h.elim
 |refuse a3=>intro σ Q ι a w d h;exact h.elim
 |scope a2 U=>intro σ Q ι a w d h;exact h.elim
 |rangeFunc f ps x y u H=>intro σ Q ι a w d h;exact h.elim
 |region id ops V=>
  intro σ Q ι a w d h;cases V with
  |false=>
   refine(wpIn_wide (n:=0)).1 (wpIn_region ?_);have:=Lw s (ops:=ops) (Q:=Q) (Lv C id) ops.toList 0 ι σ a w (λj=>bf) d h;rw[range_eq_range'];omega
  |true=>
   simp only[VC]at h;split at h
   .rename_i h1 h2 h3;have hs:=a2Z h1 h2;refine wp_region_any h3 ?_;refine Ts s hs (Q:=QD B Q) (R:=Q .normal) (λι σ a w d h=>⟨ι,σ,d,h⟩) (λc a w h=>h) ops.size ops.size _ ι σ a _ (d.drew (w.drawn+1) (Nat.le_succ _)) h _ a ?_ ?_
    .have F:∀i,(Array.replicate ops.size false).getD i false=true->False:=by
      intro i v;by_cases r:i<ops.size
      .simp[Array.getD,r]at v
      grind
     exact⟨bf,bf,λi v=>v,λi o _ v=>(F i v).elim,λi o _ v=>(F i v).elim,λi o _ v=>(F i v).elim,rfl,rfl,λt _=>rfl,λi o _ v=>(F i v).elim⟩
    .unfold wB;rw[filter_eq_self.2]
     .simp
     .intro i v;by_cases r:i<ops.size<;>simp[Array.getD,r]
   grind
 |seq x y u H=>
  intro σ Q ι a w d h;simp only[VC]at h;split at h
  .obtain⟨h,p⟩:=h;refine wp_seq (wp_mono (u σ _ ι a w d h) ?_);intro e D E b;cases e with
   |normal=>
    obtain⟨G,W,m,x,X,J⟩:=b;show y.wp C.P (QD B Q) D E;obtain⟨Y,z,_⟩:=lK m J
    grind
   |exit id=>exact b
   |ret=>exact b
   |goto l=>exact b
   |panic Z=>exact b
   |outgrown=>exact b
  .split at h
   .obtain⟨I,h,p⟩:=h;refine wp_seq (wp_mono (u σ _ ι a w d h) ?_);intro e D E b;cases e with
    |normal=>
     obtain⟨G,W,m,J⟩:=b;show y.wp C.P (QD B Q) D E;obtain⟨x,Y,X,z⟩:=AV m J
     grind
    |exit id=>exact b
    |ret=>exact b
    |goto l=>exact b
    |panic Z=>exact b
    |outgrown=>exact b
   .refine wp_seq (wp_mono (u σ _ ι a w d h) ?_);intro e D E b;cases e with
    |normal=>
     obtain⟨G,W,m,h'⟩:=b;show y.wp C.P (QD B Q) D E
     grind
    |exit id=>exact b
    |ret=>exact b
    |goto l=>exact b
    |panic Z=>exact b
    |outgrown=>exact b
 |cond c x y u H=>
  intro σ Q ι a w d h;simp only[VC]at h;split at h
  .rename_i t hc;have A:=d.ev c;rw[hc]at A;have A:a.eval c= .bool t:=A;rcases uP h with⟨rfl,h⟩|⟨rfl,h⟩
   .exact wp_cond_true A (u _ Q ι a w (d.setTmp hc) h)
   .exact wp_cond_false A (H _ Q ι a w (d.setTmp hc) h)
  grind
 |block id c U=>
  intro σ Q ι a w d h;refine wp_block (wp_mono (U σ _ ι a w d h) ?_);intro e D E b;cases e with
  |normal=>exact b
  |exit i=>
   obtain⟨G,W,m,h'⟩:=b;show if i=id then _ else _
   simp only at h';split at h'
   .rename_i hb;rw[if_pos (Nat.eq_of_beq_eq_true hb)];exact⟨G,W,m,h'⟩
   .rename_i hb;rw[if_neg (λe=>by subst e;simp at hb)];exact⟨G,W,m,h'⟩
  |ret=>exact b
  |goto l=>exact b
  |panic Z=>exact b
  |outgrown=>exact b
 |loop c U=>
  intro σ Q ι a w d h;simp only[VC]at h;split at h
  .rename_i l hl;obtain⟨⟨x,X,J⟩,p⟩:=h;obtain⟨Y,z,_⟩:=lK d J;refine wp_loop_ghost (λn a w=>∃x ι,l.inv x/\l.mu x=n/\aK B ι (l.st x) a w) (l.mu x) ⟨x,Y,X,rfl,z⟩ ?_;rintro n D E ⟨x',G,M,rfl,m⟩;refine wp_mono (U _ _ G D E m (p x' M)) ?_;intro e a0 a1 b;cases e with
   |normal=>
    obtain⟨ι3,σ3,N,y,hy,r,O⟩:=b;obtain⟨ι4,T,_⟩:=lK N O;exact⟨l.mu y,r,y,ι4,hy,rfl,T⟩
   |exit id=>exact b
   |ret=>exact b
   |goto l=>exact b
   |panic Z=>exact b
   |outgrown=>exact b
  .split at h
   .rename_i l hl;obtain⟨I,mu,J,p⟩:=h;obtain⟨x,Y,X,z⟩:=AV d J;refine wp_loop_ghost (λn a w=>∃x ι,I x/\mu x=n/\aK B ι (l.st x) a w) (mu x) ⟨x,Y,X,rfl,z⟩ ?_;rintro n D E ⟨x',G,M,rfl,m⟩;refine wp_mono (U _ _ G D E m (p x' M)) ?_;intro e a0 a1 b;cases e with
    |normal=>
     obtain⟨ι3,σ3,N,O⟩:=b;obtain⟨y,ι4,hy,r,T⟩:=Ny N O;exact⟨mu y,r,y,ι4,hy,rfl,T⟩
    |exit id=>exact b
    |ret=>exact b
    |goto l=>exact b
    |panic Z=>exact b
    |outgrown=>exact b
   grind
end
end Go.Vc
namespace Go.Vc
open Go List
section
variable{B:sJ}{C:Ctx}{ι:cn}{σ:St}{a:Act}{w:World}
def LV(tmps:Array Value):ResultVar->Sem Value
 |.tmp t=>pure (tmps.getD t undef)
 |.cell a t=>do loadVar t (<-asAddr (tmps.getD a undef))
theorem OS(fn:Func)(tmps:Array Value):results fn tmps=(do let vs <-fn.results.mapM (LV tmps);pure (if h:vs.size=1 then vs[0]else .tuple vs)):=by
 unfold results;congr 1
theorem Vr(f:aK B ι σ a w){r:ResultVar}{x:SV}(h:akQ C σ r=some x):∃v,(LV a.tmps r).run C.P w= .ok v w/\Den ι x v:=by
 cases r with
 |tmp t=>
  simp only[akQ,Option.some.injEq]at h;subst h;exact⟨_,rfl,f.ev (.tmp t)⟩
 |cell l T=>
  have d:=f.ev (.tmp l);simp only[akQ]at h;split at h
  .rename_i k off s;rw[s]at d;split at h
   .rename_i p T' cs u;split at h
    .rename_i e y;have e:=Nat.le_of_ble_eq_true e;simp only[Option.some.injEq]at h;subst h;obtain⟨b,m,z,A,n⟩:=xO f u;obtain⟨G,c,D⟩:=d;rw[z]at c;simp only[Value.pointer.injEq,Option.some.injEq,Addr.mk.injEq]at c;obtain⟨rfl, -, -⟩:=c;have g:=(n.drop off).take (C.P.cellsOf T);have E:cs.length=m.toList.length:=n.length;have F:=AT (w:=w) (b:=b) (off:=off) (cs:=(m.toList.drop off).take (C.P.cellsOf T)) y bk (λj v H=>by rw[cell_of_heap A];grind);refine⟨_,?_,IY g⟩;have i:a.tmps.getD l undef= .pointer (some ⟨b,off,none⟩):=D;simp only[LV,i,asAddr,Sem.run_bind,Sem.run_pure,Result.andThen_ok,F]
    .cases h
   .cases h
  .cases h
theorem Jw(f:aK B ι σ a w):∀(l:List ResultVar)(xs:dl),Iy C σ l=some xs->∃vs,(l.mapM (LV a.tmps)).run C.P w= .ok vs w/\DenS ι xs vs
 |[],xs,h=>by
  simp[Iy]at h;subst h;exact⟨[],bf,trivial⟩
 |r::l,xs,h=>by
  simp only[Iy]at h;split at h
  .rename_i x b g c;simp only[Option.some.injEq]at h;subst h;obtain⟨v,i,j⟩:=Vr f g;obtain⟨vs,d,e⟩:=Jw f l b c;exact⟨v::vs,by simp[mapM_cons,i,d],j,e⟩
  .cases h
theorem zF(m:aK B ι σ a w){mv:Bool}:∀(xs:dl)(ts:dn)(rs:cz)(vs:bx),D3 C.P σ mv xs ts=some rs->DenS ι xs vs->
 rs.length=vs.length/\(mv=false->rs=vs.map .val)/\∀(i:Nat)(r:CV)(v:Value),rs[i]? =some r->vs[i]? =some v->D9 w r v/\∀b,gR r v=some b->∃k g,nth σ.own k=some (some g)/\blk (ι k)=some b
 |[],ts,rs,[],h,_=>by
  simp[D3]at h;grind
 |[],_,_,_::_,_,c=>c.elim
 |x::xs,_,_,[],_,c=>c.elim
 |x::xs,ts,rs,v::vs,h,c=>by
  simp only[D3]at h;split at h
  .cases h
  .rename_i l p;obtain⟨s,t,y⟩:=zF m xs ts.tail l vs p c.2
   have fin:∀(j:CV),rs=j::l->(mv=false->j= .val v)->D9 w j v->(∀b,gR j v=some b->∃k g,nth σ.own k=some (some g)/\blk (ι k)=some b)->
    rs.length=(v::vs).length/\(mv=false->rs=(v::vs).map .val)/\∀(i:Nat)(r:CV)(u:Value),rs[i]? =some r->(v::vs)[i]? =some u->D9 w r u/\∀b,gR r u=some b->∃k g,nth σ.own k=some (some g)/\blk (ι k)=some b:=by
    grind
   split at h
   .split at h
    .rename_i k;have d:v=ι k:=c.1;split at h
     .rename_i E F G n;simp only[Option.some.injEq]at h;obtain⟨A,H⟩:=tK m n;exact fin _ h.symm (λe=>by cases e) ⟨A,bk⟩ (λb f=>⟨k,_,n,by rw[<-d];exact f⟩)
     .cases h
    .have d:v= .slice none 0 0:=c.1;split at h
     .rename_i E z I;simp only[Option.some.injEq]at h;refine fin _ h.symm (λe=>by cases e) ⟨Ix _,by rw[d];exact World.ownsRow_nil w 0 E _⟩ (λb f=>?_);rw[d]at f;simp[gR,blk]at f
     .cases h
    .cases h
   .split at h
    .rename_i u D;simp only[Option.some.injEq]at h;have d:=(c.1).val? D;exact fin _ h.symm (λ_=>by rw[d]) d (λb f=>by simp[gR]at f)
    .cases h
theorem GS(I:aK B ι σ a w){fn:Func}{K:bz}(h:DR C fn K σ):
 ∃u,(results fn a.tmps).run C.P w= .ok u w/\∃r m' t,K r m' t/\D9 w r u/\xV B m' t w/\∀b,gR r u=some b->(B.w0.heap.size<=b\/B.E b)/\m' b=none/\∀i,t b i=none:=by
 unfold DR at h;split at h
 .exact h.elim
 .rename_i V J;obtain⟨W,p,h,_⟩:=pH _ _ I h;obtain⟨τ,d,h,_⟩:=zW _ _ p h;split at h
  .exact h.elim
  .rename_i M x;obtain⟨f,y,j⟩:=Jw d _ _ x
   have G:(results fn a.tmps).run C.P w= .ok (if h:f.toArray.size=1 then f.toArray[0]else .tuple f.toArray) w:=by
    rw[OS,Array.mapM_eq_mapM_toList];simp[y]
   have g:∀(n:cz)(r:CV)(v:Value),D3 C.P τ C.retMove M fn.resultTypes.toList=some n->(∃i:Nat,n[i]? =some r/\f[i]? =some v)->D9 w r v/\∀b,gR r v=some b->(B.w0.heap.size<=b\/B.E b)/\τ.m b=none/\∀i,τ.h b i=none:=by
    rintro n r v l ⟨i,s,N⟩;obtain⟨_,_,O⟩:=zF d _ _ _ _ l j;obtain⟨z,A⟩:=O i r v s N;refine⟨z,λb D=>?_⟩;obtain⟨k,Q,R,F⟩:=A b D;exact d.fresh k Q b R F
   split at h
   .rename_i r s;obtain⟨c,_,_⟩:=zF d _ _ _ _ s j;simp at c
    obtain⟨v,rfl⟩:∃v,f=[v]:=by
     match f,c with
     |[v],_=>grind
    obtain⟨z,A⟩:=g _ r v s ⟨0,rfl,rfl⟩;refine⟨v,bk,r,τ.m,τ.h,h,z,d.wrel,A⟩
   .rename_i n S l;split at h
    .exact h.elim
    .rename_i T;obtain⟨c,H,_⟩:=zF d _ _ _ _ l j
     have U:f.length≠1:=by
      intro e;rw[e]at c
      match n,c with
      |[r],_=>grind
     refine⟨.tuple f.toArray,bk,.tup n,τ.m,τ.h,h,⟨f.toArray,rfl,bk⟩,d.wrel,λb D=>by simp[gR]at D⟩
   grind
def Ni(n:Nat)(b:cz)(vs:bx)(k:Nat):Value:=
 match b[k-n]?,vs[k-n]? with
 |some (.lst _ _ _),some v=>v
 |_,_=>.slice none 0 0
theorem sH{w:World}:∀{b:cz}{vs:bx},Cy w b vs->b.length=vs.length/\∀(i:Nat)(c:CV)(v:Value),b[i]? =some c->vs[i]? =some v->D9 w c v
 |[],[],_=>⟨rfl,λi c v h=>by simp at h⟩
 |c::cs,v::vs,h=>by
  obtain⟨f,g⟩:=sH h.2;refine⟨by simp[f],λi j l d e=>?_⟩;cases i with
  |zero=>simp at d e;subst d e;exact h.1
  |succ i=>grind
 |[],_::_,h=>h.elim
 |_::_,[],h=>h.elim
theorem Nr{n:Nat}{all:cz}{avs:bx}{w:World}:∀(i:Nat)(b:cz)(vs:bx),Cy w b vs->(∀j:Nat,b[j]? =all[i+j]?)->(∀j:Nat,vs[j]? =avs[i+j]?)->
 DenS (Ni n all avs) (HW n i b) vs
 |i,[],[],_,_,_=>trivial
 |i,c::b,v::vs,h,e,f=>by
  have d:=Nr (n:=n) (all:=all) (avs:=avs) (i+1) b vs h.2 (λj=>by have:=e (j+1);grind) (λj=>by have:=f (j+1);grind);cases c with
  |val u=>exact⟨h.1,d⟩
  |lst E m p=>
   refine⟨?_,d⟩;show v=Ni n all avs (n+i);have g:=e 0;have l:=f 0;simp at g l;unfold Ni
   grind
  |tup r=>exact⟨trivial,d⟩
 |i,[],_::_,h,_,_=>h.elim
 |i,_::_,[],h,_,_=>h.elim
theorem K3:∀(b:cz)(k:Nat)(o:Own),nth (A3 b) k=some (some o)->∃E sz xs,b[k]? =some (.lst E sz xs)/\o= .lst E sz xs
 |[],k,o,h=>by simp[A3,nth]at h
 |c::b,0,o,h=>by
  cases c<;>simp[A3,nth]at h
  grind
 |c::b,k+1,o,h=>by
  have:nth (A3 b) k=some (some o):=by cases c<;>simpa[A3,nth]using h
  obtain⟨E,sz,xs,d,e⟩:=K3 b k o this
  grind
theorem Tn{ι:cn}:∀(n:Nat)(vs:bx),vs.length=n->DenS ι (replicate n (.at .junk)) vs
 |0,[],_=>trivial
 |n+1,v::vs,h=>⟨trivial,Tn n vs (bt h)⟩
 |0,_::_,h=>by simp at h
 |_+1,[],h=>by simp at h
theorem DenS.append{ι:cn}:∀{xs b:dl}{vs c:bx},DenS ι xs vs->DenS ι b c->DenS ι (xs++b) (vs++c)
 |[],_,[],_,_,d=>bk
 |_::_,_,_::_,_,h,d=>⟨h.1,DenS.append h.2 d⟩
 |[],_,_::_,_,h,_=>h.elim
 |_::_,_,[],_,h,_=>h.elim
theorem Fx{w:World}{m:MH}{h:PH}{c:cz}{vs:bx}(n:Nat)(s:AR w m h c vs):
 aK ⟨w,uC m c vs,h,[]⟩ (Ni n c vs) (entry n c m h) {tmps:=vs.toArray++Array.replicate (n-vs.toArray.size) undef,defers:=[]} w:=by
 obtain⟨x,r⟩:=sH s.args
 have d:∀k o,nth (entry n c m h).own k=some (some o)->n<=k/\∃E i l,c[k-n]? =some (.lst E i l)/\o= .lst E i l/\∃v,vs[k-n]? =some v/\Ni n c vs k=v/\D9 w (.lst E i l) v:=by
  intro k o f;simp only[entry]at f;rw[jX]at f;by_cases t:k<n
  .grind
  .rw[getElem?_append_right bk]at f;simp only[length_replicate]at f;rw[<-jX]at f;obtain⟨E,i,l,e,A⟩:=K3 c (k-n) o f
   have D:k-n<vs.length:=by
    grind
   have p:vs[k-n]? =some vs[k-n]:=getElem?_eq_getElem D;refine⟨aD,E,i,l,e,A,_,p,?_,r _ _ _ e p⟩;unfold Ni;rw[e,p]
 refine⟨?_,rfl,?_,?_,?_,?_,?_⟩
 .have e:=Nr (n:=n) (all:=c) (avs:=vs) 0 c vs s.args (λj=>bf) (λj=>bf);show DenS _ (HW n 0 c++replicate (n-c.length) (.at .junk)) _;have:(vs.toArray++Array.replicate (n-vs.toArray.size) undef).toList=vs++replicate (n-vs.length) undef:=bf
  rw[this];exact e.append (Tn _ _ (by simp[x]))
 .intro k o f;obtain⟨t,E,i,l,e,rfl,v,p,y,u⟩:=d k o f;rw[y];exact u
 .intro k J o O b f F g z;obtain⟨t,E,i,l,e,rfl,v,p,y,u⟩:=d k o f;obtain⟨M,E',Q,R,G,rfl,S,H,I,N⟩:=d J O F;rw[y]at g;rw[I]at z;have:=s.sep (k-n) (J-n) _ _ v S b e p G H g z;omega
 .intro k o b f g;obtain⟨t,E,i,l,e,rfl,v,p,y,u⟩:=d k o f;rw[y]at g;obtain⟨T,U⟩:=s.free (k-n) _ v b e p g;exact⟨.inr (.inr ⟨k-n,_,v,e,p,g⟩),T,U⟩
 .refine⟨rfl,rfl,rfl,Nat.le_refl _,Nat.le_refl _,λ_ _ _=>rfl,s.hsat,s.msat,s.disj,λ_ _ _ h=>h,λ_ _ _=>rfl,λb V g=>.inr (.inl (by have g:m b=some V:=g;rw[g];simp))⟩
 .intro k;unfold Ni;split
  .rename_i E i l v e A;exact M8 (r _ _ _ e A).2
  .rfl
theorem dU{P:Program}{f:FuncId}{fn:Func}{c:Code}(D:P.funcs[f]? =some fn)(E:fn.body=some c)(n:(fn.name== "runtime.NumGoroutine")=false){S:Spec}
 (y:∀d m h K,S d m h K->∃C:Ctx,C.P=P/\(∀g S,assoc C.specs g=some S->Sound P g S)/\uM C fn c (entry fn.ntmps d m h) K):Sound P f S:=by
 refine⟨⟨fn,D,by rw[E];rfl,n⟩,?_⟩;intro d z m h w K G H;obtain⟨C,rfl,j,I⟩:=y d m h K G;refine calls_of_wp D E ?_;refine wp_mono (Jf j c _ _ _ _ w (Fx fn.ntmps H) I) ?_;intro e A s p
 have key:(∃ι σ,aK ⟨w,uC m d z,h,[]⟩ ι σ A s/\DR C fn K σ)->A.defers=[]/\∃v,(results fn A.tmps).run C.P s= .ok v s/\∃r u t x,Ending.returned v= .returned u/\K r t x/\D9 s r u/\xV ⟨w,uC m d z,h,[]⟩ t x s/\
  ∀b,gR r u=some b->(w.heap.size<=b\/uC m d z b)/\t b=none/\∀i,x b i=none:=by
  rintro⟨ι,σ,F,J⟩;obtain⟨u,M,r,t,x,N,O,Q,R⟩:=GS F J;exact⟨F.defers,u,M,r,u,t,x,rfl,N,O,Q,R⟩
 cases e with
 |normal=>exact key p
 |ret=>exact key p
 |exit id=>obtain⟨_,_,_,h⟩:=p;exact h.elim
 |goto l=>exact p.elim
 |panic T=>exact p.elim
 |outgrown=>exact p.elim
theorem RN{P:Program}{f:FuncId}{fn:Func}{c:Code}(H:P.funcs[f]? =some fn)(x:fn.body=some c)(p:(fn.name== "runtime.NumGoroutine")=false){S:Spec}
 (I:∀d m h K,S d m h K->∃C:Ctx,C.P=P/\(∀g S,assoc C.specs g=some S->Sound P g S)/\uM C fn c (entry fn.ntmps d m h) (λr m' s=>∃m2 j,(∀b o,m2 b=some o->m' b=some o)/\PH.le h j/\PH.le j s/\K r m2 j)):Sound P f S:=by
 have E:=dU H x p (S:=λd m h K=>∃K',S d m h K'/\K=λr m' s=>∃m2 j,(∀b o,m2 b=some o->m' b=some o)/\PH.le h j/\PH.le j s/\K' r m2 j) (by
  grind)
 refine⟨E.1,λd J m h w K M N=>?_⟩;refine(E.2 d J m h w _ ⟨K,M,rfl⟩ N).mono ?_;rintro e V ⟨r,u,m',s,O,⟨m2,j,y,F,G,Q⟩,z,l,A⟩
 have n:∀b i,s b i=none->j b i=none:=by
  intro b i e;cases t:j b i with
  |none=>rfl
  |some v=>rw[G.le b i v t]at e;cases e
 refine⟨r,u,m2,j,O,Q,z,?_,λb x=>?_⟩
 .refine⟨l.tape,l.os,l.output,l.drawn,l.size,l.frame,λb o v e=>l.hsat b o v (G.le b o v e),λb o e=>l.msat b o (y b o e),λb o e i=>n b i (l.disj b o (y b o e) i),F.le,λb R D=>?_,λb o e=>l.mfr b o (y b o e)⟩;funext i;have e:=congrFun (l.hold b R D) i;show j b i=h b i;cases t:h b i with
  |some v=>exact(F.le b i v t)
  |none=>grind
 .obtain⟨T,W,U⟩:=A b x;refine⟨T,?_,λi=>n b i (U i)⟩;cases t:m2 b with
  |none=>rfl
  |some o=>grind
def fY(h:PH)(K:bz):CV->MH->PH->Prop:=λr c f=>(∀b o,c b=some o->∀i,f b i=none)->∃d e,(∀b o,d b=some o->c b=some o)/\PH.le h e/\
 (∀b i v,e b i=some v->f b i=some v\/∃g E j,c b=some (.cells g E j)/\g[i]? =some v/\d b=none)/\K r d e
theorem Sound.strong{P:Program}{f:FuncId}{S:Spec}(A:Sound P f (λg m h K=>∃K',S g m h K'/\K=fY h K')):Sound P f S:=by
 refine⟨A.1,λg I m h w K J M=>?_⟩;refine(A.2 g I m h w _ ⟨K,J,rfl⟩ M).mono ?_;rintro e X ⟨r,u,Y,Z,N,j,p,c,s⟩;obtain⟨D,l,t,F,x,O⟩:=j c.disj;refine⟨r,u,D,l,N,O,p,?_,λb Q=>?_⟩
 .refine⟨c.tape,c.os,c.output,c.drawn,c.size,c.frame,λb o v e=>?_,λb o e=>c.msat b o (t b o e),λb o e i=>?_,F.le,λb R y=>?_,λb o e=>c.mfr b o (t b o e)⟩
  .rcases x b o v e with d|⟨G,E,H,d,z,_⟩
   .exact c.hsat b o v d
   .rw[cell_of_heap (c.msat b _ d),Array.getElem?_toList];exact z
  .cases n:l b i with
   |none=>rfl
   |some v=>
    rcases x b i v n with d|⟨G,E,H,d,z,T⟩
    .rw[c.disj b o (t b o e) i]at d;cases d
    grind
  .funext i;have e:=congrFun (c.hold b R y) i;show l b i=h b i;cases n:h b i with
   |some v=>exact(F.le b i v n)
   |none=>
    cases U:l b i with
    |none=>rfl
    |some v=>
     rcases x b i v U with d|⟨G,E,H,d,z,T⟩
     .grind
     .rcases c.mfr b _ d with V|V
      .omega
      grind
 .obtain⟨W,f2,f3⟩:=s b Q;refine⟨W,?_,λi=>?_⟩
  .cases n:D b with
   |none=>rfl
   |some o=>grind
  .cases n:l b i with
   |none=>rfl
   |some v=>
    grind
theorem aJX{P:Program}{f:FuncId}{fn:Func}{c:Code}(e:P.funcs[f]? =some fn)(i:fn.body=some c)(d:(fn.name== "runtime.NumGoroutine")=false){S:Spec}
 (j:∀b m h K,S b m h K->∃C:Ctx,C.P=P/\(∀g S,assoc C.specs g=some S->Sound P g S)/\uM C fn c (entry fn.ntmps b m h) (fY h K)):Sound P f S:=
 .strong (dU e i d (S:=λb m h K=>∃K',S b m h K'/\K=fY h K') (by
  grind))
end
end Go.Vc
namespace Go.Vc
open Go List
theorem aC{c:Bool}{A B:Prop}(b:c=true->A)(d:c=false->B):branch c A B:=by
 cases c
 .exact d rfl
 .exact b rfl
theorem aF{p:Prop}[Decidable p]{A B:Prop}(b:p->A)(c:¬p->B):branch (decide p) A B:=
 aC (λh=>b (of_decide_eq_true h)) (λh=>c (of_decide_eq_false h))
theorem eH{n:Int}(b: -9223372036854775808<=n)(c:n<9223372036854775808):IntKind.i64.wrap n=n:=by
 rw[IntKind.wrap_i64];omega
theorem aU.of_m{m:MH}{h:PH}{b off:Nat}{cs:Array Value}{E:TypeId}{c:Nat×Nat}{l:bx}(d:m b=some (.cells cs E c))(e:(cs.toList.drop off).take l.length=l):aU m h b off l:=.lent cs E c d e
end Go.Vc
namespace Go.Ps
open Go Go.Vc Go.Proofs List Tryz
variable{K:bz}{m:MH}{h:PH}{ps:ca}{cb:Nat}{l:ca}{i:Nat}{N:Nat}{m':MH}{h':PH}{co:ca}{gr:ca}{od:cg}{ta:Int}{li:Int}{xs:List bx}{sz:Nat}{ks:List ca}{rs:ca}{r:Sl}{a:ca}{b:Nat}
structure VV where
 kind:Int
 int:Int
 text:ByteArray
abbrev cj:=List VV
abbrev de:=List (Sl×cj)
abbrev cd:=List cj
structure OV where
 kind:Int
 index:Int
 value:VV
abbrev dt:=List OV
structure PV where
 op:Int
 cmp:Int
 left:OV
 right:OV
 args:Sl
abbrev dg:=List PV
structure QV where
 op:Int
 table:Int
 where_:PV
 columns:Sl
 on:Sl
 group:Sl
 order:Sl
 limit:Int
 args:Sl
abbrev dj:=List (Nat×QV)
abbrev db:=List QV
variable{v:QV}
structure vY where
 op:Int
 table:Int
 where_:PV
 columns:Sl
 on:Sl
 group:Sl
 order:Sl
 limit:Int
 left:Int
 right:Int
structure rF where
 name:ByteArray
 kind:Int
structure FV where
 columns:Sl
 table:Int
structure cK where
 name:ByteArray
 columns:Sl
 key:Int
 references:Sl
 checks:Sl
structure cE where
 version:Int
 tables:Sl
variable{sc:cE}
abbrev eF(n:Int):Value:=.int .i64 n
abbrev fK(s:Sl):Value:=.slice s.a s.len s.cap
abbrev lF:Value:=.slice none 0 0
abbrev XH:Value:=.string ⟨⟨[]⟩⟩
abbrev vQp(b o:Nat):Value:=.pointer (some ⟨b,o,none⟩)
abbrev gC(n:Int):At:=.val (.int .i64 n)
abbrev vK(s:Sl):At:=.val (.slice s.a s.len s.cap)
abbrev FU:At:=.val (.slice none 0 0)
abbrev aQz:At:=.val (.string ⟨⟨[]⟩⟩)
abbrev fZ(n:Int):SV:=.at (.val (.int .i64 n))
abbrev sQs(s:Sl):SV:=.at (.val (.slice s.a s.len s.cap))
abbrev sQn:SV:=.at (.val (.slice none 0 0))
abbrev sQp(b o:Nat):SV:=.at (.ptr b o)
abbrev sQo(b o:Nat):SV:=.at (.val (.pointer (some ⟨b,o,none⟩)))
abbrev sQb(b:Bool):SV:=.at (.val (.bool b))
abbrev sQl(k:Nat):SV:=.at (.lst k)
abbrev fX(n:Int):CV:=.val (.int .i64 n)
abbrev Bc(b:Bool):CV:=.val (.bool b)
abbrev fJ(s:Sl):CV:=.val (.slice s.a s.len s.cap)
abbrev j8:CV:=.val (.slice none 0 0)
abbrev cQp(b o:Nat):CV:=.val (.pointer (some ⟨b,o,none⟩))
abbrev lS(l:bx):CV:=.val (.agg ⟨l⟩)
abbrev oQ(T:TypeId)(l:cw):Option Go.Vc.Own:=some (.cells T l)
abbrev eQ{α:Type}(x:α):Prop:=x=x
abbrev eP(k:Nat):Prop:=sQp k 0=sQp k 0
abbrev eL(k:Nat):Prop:=sQl k=sQl k
abbrev UH(s:ByteArray):At:=.val (.string s)
abbrev zQ:cw:=[gC 0,gC 0,gC 0,gC 0,gC 0,gC 0,gC 0,gC 0,aQz,gC 0,gC 0,gC 0,gC 0,aQz,FU,FU,FU,FU,FU,gC 0,FU]
abbrev zP:cw:=[gC 0,gC 0,gC 0,gC 0,gC 0,gC 0,aQz,gC 0,gC 0,gC 0,gC 0,aQz,FU]
def eI(n:Int):bx:=[.int .i64 n]
def eS(s:Sl):bx:=[.slice s.a s.len s.cap]
def VV.enc(v:VV):bx:=[.int .i64 v.kind,.int .i64 v.int,.string v.text]
def OV.enc(o:OV):bx:=[.int .i64 o.kind,.int .i64 o.index,.int .i64 o.value.kind,.int .i64 o.value.int,.string o.value.text]
def PV.enc(p:PV):bx:=
 [.int .i64 p.op,.int .i64 p.cmp,
  .int .i64 p.left.kind,.int .i64 p.left.index,.int .i64 p.left.value.kind,.int .i64 p.left.value.int,.string p.left.value.text,
  .int .i64 p.right.kind,.int .i64 p.right.index,.int .i64 p.right.value.kind,.int .i64 p.right.value.int,.string p.right.value.text,
  .slice p.args.a p.args.len p.args.cap]
def QV.enc(q:QV):bx:=
 [.int .i64 q.op,.int .i64 q.table,
  .int .i64 q.where_.op,.int .i64 q.where_.cmp,
  .int .i64 q.where_.left.kind,.int .i64 q.where_.left.index,.int .i64 q.where_.left.value.kind,.int .i64 q.where_.left.value.int,.string q.where_.left.value.text,
  .int .i64 q.where_.right.kind,.int .i64 q.where_.right.index,.int .i64 q.where_.right.value.kind,.int .i64 q.where_.right.value.int,.string q.where_.right.value.text,
  .slice q.where_.args.a q.where_.args.len q.where_.args.cap,
  .slice q.columns.a q.columns.len q.columns.cap,.slice q.on.a q.on.len q.on.cap,.slice q.group.a q.group.len q.group.cap,.slice q.order.a q.order.len q.order.cap,
  .int .i64 q.limit,.slice q.args.a q.args.len q.args.cap]
def vY.enc(q:vY):bx:=
 [.int .i64 q.op,.int .i64 q.table,
  .int .i64 q.where_.op,.int .i64 q.where_.cmp,
  .int .i64 q.where_.left.kind,.int .i64 q.where_.left.index,.int .i64 q.where_.left.value.kind,.int .i64 q.where_.left.value.int,.string q.where_.left.value.text,
  .int .i64 q.where_.right.kind,.int .i64 q.where_.right.index,.int .i64 q.where_.right.value.kind,.int .i64 q.where_.right.value.int,.string q.where_.right.value.text,
  .slice q.where_.args.a q.where_.args.len q.where_.args.cap,
  .slice q.columns.a q.columns.len q.columns.cap,.slice q.on.a q.on.len q.on.cap,.slice q.group.a q.group.len q.group.cap,.slice q.order.a q.order.len q.order.cap,
  .int .i64 q.limit,.int .i64 q.left,.int .i64 q.right]
def rF.enc(c:rF):bx:=[.string c.name,.int .i64 c.kind]
def FV.enc(r:FV):bx:=[.slice r.columns.a r.columns.len r.columns.cap,.int .i64 r.table]
def cK.enc(t:cK):bx:=[.string t.name,.slice t.columns.a t.columns.len t.columns.cap,.int .i64 t.key,.slice t.references.a t.references.len t.references.cap,.slice t.checks.a t.checks.len t.checks.cap]
def cE.enc(s:cE):bx:=[.int .i64 s.version,.slice s.tables.a s.tables.len s.tables.cap]
abbrev zV:bx:=[eF 0,eF 0,eF 0,eF 0,eF 0,eF 0,eF 0,eF 0,XH,eF 0,eF 0,eF 0,eF 0,XH,lF,lF,lF,lF,lF,eF 0,lF]
abbrev pQ(p:PV)(r:cw):cw:=gC p.op::gC p.cmp::gC p.left.kind::gC p.left.index::gC p.left.value.kind::gC p.left.value.int::UH p.left.value.text::gC p.right.kind::gC p.right.index::gC p.right.value.kind::gC p.right.value.int::UH p.right.value.text::vK p.args::r
abbrev qQ(q:QV)(x:At):cw:=gC q.op::gC q.table::pQ q.where_ [vK q.columns,vK q.on,vK q.group,vK q.order,gC q.limit,x]
def kX(p:Int×Int):bx:=[.int .i64 p.1,.int .i64 p.2]
def rN(p:Int×Bool):bx:=[.int .i64 p.1,.bool p.2]
def dI:Dec:=⟨Int,eI⟩
def dS:Dec:=⟨Sl,eS⟩
def dB:Dec:=⟨Bool,λb=>[.bool b]⟩
def dU8:Dec:=⟨UInt8,λb=>[.int .u8 b.toNat]⟩
def cHX:Dec:=⟨ByteArray,λs=>[.string s]⟩
def bxZ:Option Nat->Value
 |none=>.nilFunc
 |some f=>.func (.func f) #[] #[]
def dF:Dec:=⟨Option Nat,λf=>[bxZ f]⟩
structure NV where
 s:cE
 params:Sl
 q:QV
 args:Sl
def NV.enc(n:NV):bx:=n.s.enc++eS n.params++n.q.enc++eS n.args
structure gO where
 query:QV
 args:Sl
 rows:Int
 env:Int
 width:Int
def gO.enc(x:gO):bx:=x.query.enc++[.slice x.args.a x.args.len x.args.cap,.int .i64 x.rows,.int .i64 x.env,.int .i64 x.width]
def dec:TypeId->Dec:=λT=>match T with
 |2=>dI
 |3=>dI
 |4=>dB
 |5=>dU8
 |9=>cHX
 |54=>dI
 |22=>dS
 |23=>dS
 |25=>dS
 |30=>dS
 |33=>dS
 |34=>dS
 |35=>dS
 |36=>dS
 |41=>dS
 |53=>dS
 |94=>dS
 |84=>dS
 |85=>dS
 |79=>dS
 |43=>⟨cE,cE.enc⟩
 |27=>⟨VV,VV.enc⟩
 |29=>⟨OV,OV.enc⟩
 |32=>⟨PV,PV.enc⟩
 |38=>⟨QV,QV.enc⟩
 |87=>⟨cK,cK.enc⟩
 |101=>⟨Int×Int,kX⟩
 |103=>⟨Int×Bool,rN⟩
 |113=>⟨rF,rF.enc⟩
 |146=>⟨FV,FV.enc⟩
 |218=>⟨NV,NV.enc⟩
 |219=>dF
 |235=>dF
 |226=>⟨Nat,λb=>[.func (.func 233) #[] #[.pointer (some ⟨b,0,none⟩)]]⟩
 |169=>⟨Nat,λb=>[.map (some b)]⟩
 |173=>⟨Nat,λb=>[.map (some b)]⟩
 |60=>dS
 |134=>dS
 |62=>⟨Sl×Sl,λp=>[.slice p.1.a p.1.len p.1.cap,.slice p.2.a p.2.len p.2.cap]⟩
 |123=>⟨vY,vY.enc⟩
 |130=>⟨Nat,λb=>[.map (some b)]⟩
 |136=>⟨gO,gO.enc⟩
 |133=>⟨Nat×Nat×Nat,λb=>[.func (.func 80) #[] #[.pointer (some ⟨b.1,0,none⟩),.pointer (some ⟨b.2.1,0,none⟩),.pointer (some ⟨b.2.2,0,none⟩)]]⟩
 |_=>⟨Unit,λ_=>[]⟩
def bW(f:Func):Code:=match f.body with|some c=>c|none=>.skip
noncomputable def ctx(specs:List (Nat×Vc.Spec))(loops:List (Nat×Ox))(cuts:List (Nat×afJ))(moves:List (Nat×cv))(retMove:Bool):Ctx:=
 {P:=Tryz.prog,loops2:=[],cuts2:=[],rcuts:=[],heapT:=[],specs:=specs,dec:=dec,loops:=loops,cuts:=cuts,moves:=moves,retMove:=retMove,yield:=none}
noncomputable def dA(specs:List (Nat×Vc.Spec))(loops:dh)(cuts:dh)(moves:List (Nat×cv))(retMove:Bool):Ctx:=
 {P:=Tryz.prog,loops2:=loops,cuts2:=cuts,rcuts:=[],heapT:=[],specs:=specs,dec:=dec,loops:=[],cuts:=[],moves:=moves,retMove:=retMove,yield:=none}
noncomputable def cHZ(specs:List (Nat×Vc.Spec))(loops:dh)(cuts:dh)(rcuts:List (Nat×dh))(moves:List (Nat×cv))(retMove:Bool):Ctx:=
 {P:=Tryz.prog,loops2:=loops,cuts2:=cuts,rcuts:=rcuts,heapT:=[],specs:=specs,dec:=dec,loops:=[],cuts:=[],moves:=moves,retMove:=retMove,yield:=none}
noncomputable def sN(specs:List (Nat×Vc.Spec))(loops:dh)(cuts:dh)(rcuts:List (Nat×dh))(heapT:dn)(moves:List (Nat×cv))(retMove:Bool):Ctx:=
 {P:=Tryz.prog,loops2:=loops,cuts2:=cuts,rcuts:=rcuts,heapT:=heapT,specs:=specs,dec:=dec,loops:=[],cuts:=[],moves:=moves,retMove:=retMove,yield:=none}
abbrev bu:=Sound Tryz.prog
theorem aG:∀g S,assoc ([]:List (Nat×Vc.Spec)) g=some S->bu g S:=λg S h=>by simp[assoc]at h
theorem aE{c:Nat}{S0:Vc.Spec}{r:List (Nat×Vc.Spec)}(e:bu c S0)(f:∀g S,assoc r g=some S->bu g S):∀g S,assoc ((c,S0)::r) g=some S->bu g S:=by
 intro g S h;simp only[assoc]at h;split at h
 .rename_i d;have:=Nat.eq_of_beq_eq_true d
  grind
 grind
def Xg(n:Int):cu->Int×cu
 |[]=>(0,[])
 |b::r=>if n<1 then(0,b::r)else((b.toNat:Int)%n,r)
structure agZ(m:MH)(h:PH)(cb:Nat)(r:cu):Prop where
 ex:∃(s:Sl)(cs:cu)(k:Nat),m cb=some (.cells #[.slice s.a s.len s.cap,.int .i64 k] 83 (0,0))/\cD h s 1 (bC cs)/\k<=cs.length/\cs.length<=1000/\r=cs.drop k
structure bF(m m':MH)(cb:Nat):Prop where
 other:∀b,b≠cb->m' b=m b
end Go.Ps
namespace Go.Vc
open Go List
theorem PH.le.refl(h:PH):PH.le h h:=⟨λ_ _ _ e=>e⟩
theorem PH.le.trans{h h' c:PH}(a:PH.le h h')(b:PH.le h' c):PH.le h c:=⟨λx y v e=>b.le x y v (a.le x y v e)⟩
theorem bL.mono{h h':PH}{b o:Nat}{l:bx}(r:bL h b o l)(le:PH.le h h'):bL h' b o l:=⟨λi v e=>le.le _ _ _ (r.rd i v e)⟩
theorem cD.mono{h h':PH}{s:Sl}{sz:Nat}{xs:List bx}(r:cD h s sz xs)(le:PH.le h h'):cD h' s sz xs:=
 ⟨r.len,r.row.imp id λ⟨b,o,e,k⟩=>⟨b,o,e,λi x c=>(k i x c).mono le⟩,r.cap⟩
theorem cD.get{h:PH}{s:Sl}{sz:Nat}{xs:List bx}(r:cD h s sz xs){i:Nat}{e:bx}(c:xs[i]? =some e):
 ∃b o,s.a=some ⟨b,o,none⟩/\bL h b (o+i*sz) e:=by
 rcases r.row with rfl|⟨b,o,d,k⟩
 .simp at c
 grind
theorem dC.blk{m:MH}{s:Sl}{E sz:Nat}{xs:List bx}(h:dC m s E sz xs){b i:Nat}(e:s.a=some ⟨b,i,none⟩):∃c,m b=some (.cells c E (0,0)):=by
 rcases h.ex with⟨rfl,_⟩|⟨f,d,c,rfl,g,_⟩
 .cases e
 grind
theorem dC.slen{m:MH}{s:Sl}{E sz:Nat}{xs:List bx}(h:dC m s E sz xs):s.len=xs.length:=by
 rcases h.ex with⟨rfl,rfl⟩|⟨e,c,d,rfl,f,_⟩<;>rfl
theorem dC.keep{m m':MH}{s:Sl}{E sz:Nat}{xs:List bx}(h:dC m s E sz xs)(f:∀b i,s.a=some ⟨b,i,none⟩->m' b=m b):dC m' s E sz xs:=by
 refine⟨h.rows,?_⟩;rcases h.ex with c|⟨b,d,e,rfl,g,j⟩
 .exact .inl c
 grind
theorem cD.nil(h:PH)(sz:Nat):cD h ⟨none,0,0⟩ sz []:=⟨rfl,.inl rfl,Nat.le_refl _⟩
end Go.Vc
namespace Go.Ps
open Go Go.Vc Go.Proofs List Tryz
variable{K:bz}{m:MH}{h:PH}{ps:ca}{cb:Nat}{sc:cE}{v:QV}{l:ca}{i:Nat}{N:Nat}{m':MH}{h':PH}{co:ca}{gr:ca}{od:cg}{ta:Int}{li:Int}{xs:List bx}{sz:Nat}{ks:List ca}{rs:ca}{r:Sl}{a:ca}{b:Nat}
structure Ints(h:PH)(s:Sl)(l:ca):Prop where
 row:cD h s 1 (l.map eI)
 len:l.length<=17592186044416
theorem Ints.mono{s:Sl}(r:Ints h s l)(le:PH.le h h'):Ints h' s l:=⟨r.row.mono le,r.len⟩
theorem Ints.slen{s:Sl}(r:Ints h s l):s.len=l.length:=by have:=r.row.len;grind
structure iF(h:PH)(s:Sl)(l:ce):Prop where
 row:cD h s 2 (l.map kX)
 len:l.length<=8796093022208
theorem iF.mono{s:Sl}{l:ce}(r:iF h s l)(le:PH.le h h'):iF h' s l:=⟨r.row.mono le,r.len⟩
theorem iF.slen{s:Sl}{l:ce}(r:iF h s l):s.len=l.length:=by have:=r.row.len;grind
structure jT(h:PH)(s:Sl)(l:cg):Prop where
 row:cD h s 2 (l.map rN)
 len:l.length<=8796093022208
theorem jT.mono{s:Sl}{l:cg}(r:jT h s l)(le:PH.le h h'):jT h' s l:=⟨r.row.mono le,r.len⟩
theorem jT.slen{s:Sl}{l:cg}(r:jT h s l):s.len=l.length:=by have:=r.row.len;grind
inductive Pred where
 |mk (op cmp:Int) (left right:OV) (args:List Pred)
abbrev cr:=List Pred
variable{p:Pred}
mutual
def dD(h:PH):Pred->PV->Prop
 |.mk op c l r args,v=>v.op=op/\v.cmp=c/\v.left=l/\v.right=r/\args.length<=502633886983/\∃d:dg,cD h v.args 13 (d.map PV.enc)/\p8 h args d
def p8(h:PH):cr->dg->Prop
 |[],d=>d=[]
 |p::ps,d=>∃v c,d=v::c/\dD h p v/\p8 h ps c
end
mutual
theorem dD.mono{h h':PH}(le:PH.le h h'):∀{p:Pred}{v:PV},dD h p v->dD h' p v
 |.mk ..,_,⟨c,d,e,f,g,j,n,s⟩=>⟨c,d,e,f,g,j,n.mono le,p8.mono le s⟩
theorem p8.mono{h h':PH}(le:PH.le h h'):∀{ps:cr}{vs:dg},p8 h ps vs->p8 h' ps vs
 |[],_,h=>h
 |_::_,_,⟨v,c,d,e,f⟩=>⟨v,c,d,dD.mono le e,p8.mono le f⟩
end
theorem p8.length{h:PH}:∀{ps:cr}{vs:dg},p8 h ps vs->vs.length=ps.length
 |[],_,h=>by rw[show _=[]from h];rfl
 |_::_,_,⟨_,_,c,_,d⟩=>by rw[c];simp[p8.length d]
theorem p8.get{h:PH}:∀{ps:cr}{vs:dg},p8 h ps vs->∀{i:Nat}{p:Pred},ps[i]? =some p->∃v,vs[i]? =some v/\dD h p v
 |[],_,_,i,p,e=>by simp at e
 |p0::ps,_,⟨v,c,rfl,f,d⟩,0,p,e=>bk
 |p0::ps,_,⟨v,c,rfl,f,d⟩,i+1,p,e=>by simp at e;simpa using p8.get d e
inductive Query where
 |mk (op table:Int) (wher:Pred) (columns:ca) (on:ce) (group:ca) (order:cg) (limit:Int) (args:List Query)
abbrev ci:=List Query
mutual
def bU(h:PH):Query->QV->Prop
 |.mk op table w columns on group c d args,v=>v.op=op/\v.table=table/\dD h w v.where_/\Ints h v.columns columns/\iF h v.on on/\Ints h v.group group/\jT h v.order c/\v.limit=d/\
  args.length<=502633886983/\∃e:db,cD h v.args 21 (e.map QV.enc)/\rD h args e
def rD(h:PH):ci->db->Prop
 |[],d=>d=[]
 |p::ps,d=>∃v c,d=v::c/\bU h p v/\rD h ps c
end
mutual
theorem bU.mono{h h':PH}(le:PH.le h h'):∀{p:Query}{v:QV},bU h p v->bU h' p v
 |.mk ..,_,⟨e,f,g,j,n,s,t,u,x,y,c,d⟩=>⟨e,f,g.mono le,j.mono le,n.mono le,s.mono le,t.mono le,u,x,y,c.mono le,rD.mono le d⟩
theorem rD.mono{h h':PH}(le:PH.le h h'):∀{ps:ci}{vs:db},rD h ps vs->rD h' ps vs
 |[],_,h=>h
 |_::_,_,⟨v,c,d,e,f⟩=>⟨v,c,d,bU.mono le e,rD.mono le f⟩
end
theorem rD.length{h:PH}:∀{ps:ci}{vs:db},rD h ps vs->vs.length=ps.length
 |[],_,h=>by rw[show _=[]from h];rfl
 |_::_,_,⟨_,_,c,_,d⟩=>by rw[c];simp[rD.length d]
theorem rD.get{h:PH}:∀{ps:ci}{vs:db},rD h ps vs->∀{i:Nat}{p:Query},ps[i]? =some p->∃v,vs[i]? =some v/\bU h p v
 |[],_,_,i,p,e=>by simp at e
 |p0::ps,_,⟨v,c,rfl,f,d⟩,0,p,e=>bk
 |p0::ps,_,⟨v,c,rfl,f,d⟩,i+1,p,e=>by simp at e;simpa using rD.get d e
def iv(n:Int):SV:=.at (.val (.int .i64 n))
def sv(s:Sl):SV:=.at (.val (.slice s.a s.len s.cap))
def bv(b:Bool):SV:=.at (.val (.bool b))
def vv(v:Value):SV:=.at (.val v)
def cS(s:Sl):CV:=.val (.slice s.a s.len s.cap)
def cI(n:Int):CV:=.val (.int .i64 n)
def cB(b:Bool):CV:=.val (.bool b)
def cP(b:Nat):CV:=.val (.pointer (some ⟨b,0,none⟩))
def Di(id:Nat)(st:Nat->St)(inv:Nat->Prop)(mu:Nat->Nat):Nat×Ox:=(id,{A:=Nat,st:=st,inv:=inv,mu:=mu})
theorem jO(h:i<=140737488355328):IntKind.i64.wrap ((i:Int)+1)=((i+1:Nat):Int):=by
 rw[eH aD aD];rfl
theorem Ints.at{s:Sl}(r:Ints h s l){x:Int}(c:l[i]? =some x):∃b o,s.a=some ⟨b,o,none⟩/\bL h b (o+i) [.int .i64 x]:=by
 obtain⟨b,o,d,f⟩:=r.row.get (i:=i) (e:=eI x) (by simp[c]);exact⟨b,o,d,by simpa[eI]using f⟩
theorem MT{p:Prop}(h:p:=by repeat' (first|with_reducible rfl|exact trivial|refine⟨?_,?_⟩|rfl|(rw[jO aD];done)|(rw[jO aD]))):p:=h
def dJ(k:Int):Bool:=k==3||k==4||k==5
def Gd(t:ByteArray):Bool:=t.toList==[]
def mK(v:VV):Bool:=
 if v.kind==1||v.kind==2 then v.int==0&&Gd v.text
 else if v.kind==3 then(v.int==0||v.int==1)&&Gd v.text
 else if v.kind==4 then Gd v.text
 else if v.kind==5 then v.int==0&&(v.text.size:Int)<=64
 else false
def oC(v:VV):Bool:=mK v&&v.kind>=3
def aV(v:VV):CV:=.val (.agg #[.int .i64 v.kind,.int .i64 v.int,.string v.text])
def bGJ:Vc.Spec:=λc m h K=>∃k,c=[cI k]/\K (cB (dJ k)) m h
def Qt:Vc.Spec:=λc m h K=>∃v,c=[aV v]/\K (cB (mK v)) m h
def Tx:Vc.Spec:=λc m h K=>∃v,c=[aV v]/\K (cB (oC v)) m h
def QL:Vc.Spec:=λc m h K=>∃s l,c=[cS s]/\Ints h s l/\K (cB (l.all dJ)) m h
noncomputable def bTJ(s:Sl)(l:ca)(m:MH)(h:PH):Ctx:=
 ctx [(151,bGJ)] [Di 2 (λi=>bQ 15 16 [(5,sv s),(6,iv s.len),(7,iv i)] [] m h) (λi=>i<=l.length/\(l.take i).all dJ=true) (λi=>l.length-i)] [] [] false
noncomputable def bjQ(s:Sl)(l:ca)(m:MH)(h:PH):Ctx:=
 ctx [] [Di 2 (λi=>bQ 22 23 [(5,sv s),(6,iv s.len),(7,iv i)] [] m h) (λi=>i<=l.length/\(l.take i).all dJ=true) (λi=>l.length-i)] [] [] false
abbrev cW(a:Bool)(b:Prop)(c:Bool)(d e:Prop):Prop:=branch a b (branch c d e)
abbrev gK(a:bz)(b:Nat->Option Obj)(c:Nat->Nat->Option Value):Prop:=a (Bc true) b c
attribute [push_cast] cW gK
def SU(k:Int)(m:MH)(h:PH)(K:bz):Prop:=
  cW (k==3) (gK K m h) (k==4) (gK K m h) (K (Bc (k==5)) m h)
abbrev eO(a b:Int)(c d:Prop):Prop:=branch (a==b) c d
noncomputable abbrev De(a:VV):cu:=a.text.toList
abbrev Hh(a:bz)(b:VV)(c:MH)(d:PH):Prop:=a (Bc (De b==[])) c d
noncomputable abbrev aX:CV:=Bc false
attribute [push_cast] eO De Hh aX
def HV(v:VV)(m:MH)(h:PH)(K:bz):Prop:=
  cW (v.kind==1) (eO v.int 0 (Hh K v m h) (K aX m h)) (v.kind==2) (eO v.int 0 (Hh K v m h) (K aX m h)) (cW (v.kind==3) (cW (v.int==0) (Hh K v m h) (v.int==1) (Hh K v m h) (K aX m h)) (v.kind==4) (Hh K v m h) (eO v.kind 5 (eO v.int 0 (K (Bc (decide ((↑v.text.size:Int)<=64))) m h) (K aX m h)) (K aX m h)))
noncomputable abbrev oB(a:CV):cz:=[a]
abbrev qF(a b:CV)(c:Prop):Prop:=oB a=oB b/\c
noncomputable abbrev mF(a:VV):CV:=lS a.enc
attribute [push_cast] oB qF mF
def Sb(v:VV)(m:MH)(h:PH)(K:bz):Prop:=
  ∃(c:VV),qF (mF v) (mF c) (branch (mK c) (K (Bc (decide (v.kind>=3))) m h) (K aX m h))
abbrev eC(a b:Int)(c d:Prop):Prop:=branch (a !=b) c d
attribute [push_cast] eC
def Sw(v:VV)(m:MH)(h:PH)(K:bz):Prop:=
  ∃(c:VV),qF (mF v) (mF c) (branch (mK c) (eC v.kind 1 (K (Bc (v.kind !=2)) m h) (K aX m h)) (K aX m h))
abbrev p7(a:Prop)(b:Nat->Prop):Prop:=a/\∀(x:Nat),b x
abbrev aA(a b c:Prop):Prop:=a/\b/\c
abbrev fV(a:Bool):Prop:=a=true
noncomputable abbrev DC(a:ca):Bool:=List.all a dJ
abbrev BG(a:Nat)(b:ca):Prop:=a<=b.length/\fV (DC (List.take a b))
abbrev aI(a:Sl):Prop:=eQ (sQs a)
noncomputable abbrev FP(a:Nat):SV:=fZ (↑a:Int)
abbrev bI(a:Sl):Prop:=eQ (FP a.len)
abbrev bD(a:SV)(b:Nat):Prop:=a=FP b
abbrev bB(a:Nat):Prop:=bD (fZ 0) a
abbrev aZ(a b:Int)(c d:Prop):Prop:=branch (decide (a<b)) c d
noncomputable abbrev aH(a:Sl):Int:=(↑a.len:Int)
abbrev bJ(a:Nat->Nat->Prop):Prop:=∃(x c:Nat),a x c
noncomputable abbrev RD(a b:Nat):Addr:=Addr.mk a b Option.none
abbrev bM(a:Option Addr)(b c:Nat):Prop:=a=Option.some (RD b c)
noncomputable abbrev fU(a:Nat)(b:Int)(c:Nat):Nat:=a+b.toNat*c
noncomputable abbrev bK(a b c:Nat):Nat:=fU a (↑b:Int) c
noncomputable abbrev oK(a:Value):bx:=[a]
noncomputable abbrev bG(a:Int):bx:=oK (eF a)
abbrev lA(a:Int)(b:Int->Prop):Prop:=∃(x:Int),oB (fX a)=oB (fX x)/\b x
abbrev iV(a:Bool)(b:Prop)(c:Nat->Prop):Prop:=branch a b (∃(x:Nat),c x)
abbrev bP(a b c:Prop):Prop:=aA a b (c/\True)
noncomputable abbrev fH(a:Int):Int:=IntKind.wrap IntKind.i64 a
noncomputable abbrev bE(a:Nat)(b:Int):Int:=fH ((↑a:Int)+b)
attribute [push_cast] p7 aA fV DC BG aI FP bI bD bB aZ aH bJ RD bM fU bK oK bG lA iV bP fH bE
def Wi(s:Sl)(l:ca)(m:MH)(h:PH)(K:bz):Prop:=
  p7 (∃(x:Nat),aA (BG x l) (aI s) (aA (bI s) (bB x) (aA (m=m) (h=h) True))) (λx=>BG x l->aZ (↑x:Int) (aH s) (bJ (λb o=>aA (bM s.a b o) (0<=(↑x:Int)) ((↑x:Int)<aH s/\∃(y:Int),aU m h b (bK o x 1) (bG y)/\lA y (λk=>iV (!(dJ k)) (K aX m h) (λc=>aA (BG c l) (l.length-c<l.length-x) (aA (aI s) (bI s) (bP (bD (fZ (bE x 1)) c) (m=m) (h=h)))))))) (gK K m h))
def Sj(s:Sl)(l:ca)(m:MH)(h:PH)(K:bz):Prop:=
  p7 (∃(x:Nat),aA (BG x l) (aI s) (aA (bI s) (bB x) (aA (m=m) (h=h) True))) (λx=>BG x l->aZ (↑x:Int) (aH s) (bJ (λb o=>aA (bM s.a b o) (0<=(↑x:Int)) ((↑x:Int)<aH s/\∃(y:Int),aU m h b (bK o x 1) (bG y)/\iV (y !=3) (iV (y !=4) (iV (y !=5) (K aX m h) (λc=>aA (BG c l) (l.length-c<l.length-x) (aA (aI s) (bI s) (bP (bD (fZ (bE x 1)) c) (m=m) (h=h))))) (λc=>aA (BG c l) (l.length-c<l.length-x) (aA (aI s) (bI s) (bP (bD (fZ (bE x 1)) c) (m=m) (h=h))))) (λc=>aA (BG c l) (l.length-c<l.length-x) (aA (aI s) (bI s) (bP (bD (fZ (bE x 1)) c) (m=m) (h=h))))))) (gK K m h))
theorem b4J(v:VV)(m:MH)(h:PH)(K:bz):HV v m h K=uM (ctx [] [] [] [] false) Tryz.f176 (bW Tryz.f176) (entry Tryz.f176.ntmps [aV v] m h) K:=bd
theorem jM{x y:Bool}(c:K (cB x) m h)(e:x=y):K (.val (.bool y)) m h:=e▸c
theorem arZ{v:VV}(c:K (cB (mK v)) m h):HV v m h K:=by
 dsimp only[HV,push_cast]
 repeat' (first|(refine aC (λ_=>?_) (λ_=>?_))|(refine jM c ?_;simp_all [mK,Gd]))
theorem hU{f:FuncId}{fn:Func}(n:Tryz.prog.funcs[f]? =some fn){S:Vc.Spec}(j:∀c m h K,S c m h K->∃C:Ctx,C.P=Tryz.prog/\(∀g S,assoc C.specs g=some S->bu g S)/\∃N:Prop,N=uM C fn (bW fn) (entry fn.ntmps c m h) K/\N)(s:fn.body=some (bW fn):=by rfl)(d:(fn.name== "runtime.NumGoroutine")=false:=by decide):bu f S:=dU n s d λc m h K t=>let⟨C,hC,hs,N,e,hn⟩:=j c m h K t;⟨C,hC,hs,e▸hn⟩
theorem P8:bu 151 bGJ:=by
 refine hU func151 ?_;rintro c m h K ⟨k,rfl,d⟩;refine⟨ctx [] [] [] [] false,rfl,aG,SU k m h K,bd,?_⟩;dsimp only[SU,push_cast]
 repeat' (first|(refine aC (λ_=>?_) (λ_=>?_))|(refine jM d ?_;simp_all [dJ]))
theorem Zj:bu 180 Qt:=by
 refine hU func180 ?_;rintro c m h K ⟨v,rfl,d⟩;refine⟨ctx [] [] [] [] false,rfl,aG,HV v m h K,bd,?_⟩;exact arZ d
theorem P4:bu 176 Qt:=by
 refine dU (fn:=Tryz.f176) (c:=bW Tryz.f176) func176 rfl bg ?_;rintro d m h K ⟨v,rfl,e⟩;refine⟨ctx [] [] [] [] false,rfl,aG,?_⟩;rw[<-b4J v m h K];exact arZ e
theorem YB:bu 259 Tx:=by
 refine hU func259 ?_;rintro c m h K ⟨v,rfl,d⟩;refine⟨ctx [(180,Qt)] [] [] [] false,rfl,aE Zj aG,Sb v m h K,bd,?_⟩;dsimp only[Sb,push_cast];refine⟨v,rfl,?_⟩
 repeat' (first|(refine aC (λ_=>?_) (λ_=>?_))|(refine jM d ?_;simp_all [oC]))
theorem IS:bu 186 Tx:=by
 refine hU func186 ?_;rintro g m h K ⟨v,rfl,e⟩;refine⟨ctx [(176,Qt)] [] [] [] false,rfl,aE P4 aG,Sw v m h K,bd,?_⟩;dsimp only[Sw,push_cast];refine⟨v,rfl,?_⟩;refine aC (λc=>aC (λd=>jM e ?_) (λd=>jM e ?_)) (λc=>jM e ?_)
 .have d:v.kind≠1:=bk
  by_cases f:v.kind=2
  .simp[oC,c,f]
  .have:3<=v.kind:=by
    simp only[mK]at c
    grind
   simp[oC,c,f,this]
 .have d:v.kind=1:=bk
  simp[oC,d]
 .simp[oC,c]
theorem zH{α:Type}{p:α->Bool}{l:List α}{x:α}(c:l[i]? =some x):(l.take (i+1)).all p=((l.take i).all p&&p x):=by
 rw[take_add_one,all_append,c];simp
theorem Ot{α:Type}{p:α->Bool}{l:List α}{x:α}(c:l[i]? =some x)(d:p x=false):l.all p=false:=by
 grind
theorem RQ:bu 87 QL:=by
 refine hU func87 ?_;rintro g m h K ⟨s,l,rfl,c,e⟩;refine⟨bTJ s l m h,rfl,aE P8 aG,Wi s l m h K,bd,?_⟩;dsimp only[Wi,push_cast];have A:=c.slen;have D:=c.len;refine⟨⟨0,⟨aD,bf⟩,rfl,rfl,rfl,rfl,rfl,trivial⟩,λi j=>aF (λd=>?_) (λn=>?_)⟩
 .obtain⟨x,f⟩:∃x,l[i]? =some x:=⟨l[i]'(by omega),getElem?_eq_getElem _⟩
  obtain⟨t,u,y,E⟩:=c.at f;refine⟨t,u,y,aD,d,x,.imm bk,x,rfl,aC (λz=>jM e ?_) (λz=>?_)⟩
  .grind
  .refine⟨i+1,⟨aD,?_⟩,aD,rfl,rfl,by rw[jO aD],rfl,rfl,trivial⟩;rw[zH f,j.2]
   grind
 .refine jM e ?_
  grind
theorem YZ:bu 218 QL:=by
 refine hU func218 ?_;rintro n m h K ⟨s,l,rfl,d,j⟩;refine⟨bjQ s l m h,rfl,aG,Sj s l m h K,bd,?_⟩;dsimp only[Sj,push_cast];have E:=d.slen;have F:=d.len;refine⟨⟨0,⟨aD,bf⟩,rfl,rfl,rfl,rfl,rfl,trivial⟩,λi t=>aF (λe=>?_) (λu=>?_)⟩
 .obtain⟨x,f⟩:∃x,l[i]? =some x:=⟨l[i]'(by omega),getElem?_eq_getElem _⟩
  obtain⟨z,A,D,G⟩:=d.at f;have c:dJ x=true->(l.take (i+1)).all dJ=true:=λg=>by rw[zH f,t.2,g];rfl
  refine⟨z,A,D,aD,e,x,.imm bk,?_⟩;have next:dJ x=true->∃(y:Nat),(y<=l.length/\(l.take y).all dJ=true)/\l.length-y<l.length-i/\y=i+1:=λg=>⟨i+1,⟨aD,c g⟩,aD,rfl⟩
  repeat' (first|(refine aC (λ_=>?_) (λ_=>?_))|(refine jM j (Ot f ?_);simp_all [dJ];done)|(refine⟨i+1,⟨aD,c (by simp_all [dJ])⟩,aD,rfl,rfl,by rw[jO aD],rfl,rfl,trivial⟩))
 .refine jM j ?_
  grind
def eqV(a b:VV):Bool:=a.kind==b.kind&&(a.int==b.int&&(a.text.toList==b.text.toList&&true))
def Z8(a b:OV):Bool:=a.kind==b.kind&&(a.index==b.index&&(eqV a.value b.value&&true))
theorem mZ{f:Field}{e:List Field}{d:Nat}{xs c:Array Value}{w:World}{x y:Value}{r r':Bool}(g:(f.name== "_")=false)(j:Be Tryz.prog (part f.type xs f.offset)=some x)(n:Be Tryz.prog (part f.type c f.offset)=some y)
 (s:(Op.equalIn d f.type x y).run Tryz.prog w= .ok r w)(t:(Op.eqFields d xs c e).run Tryz.prog w= .ok r' w):(Op.eqFields d xs c (f::e)).run Tryz.prog w= .ok (r&&r') w:=by
 have g:f.name≠ "_" :=bk
 simp only[Op.eqFields,if_pos g,Sem.run_bind,Ch _ _ _ j,Ch _ _ _ n,Result.andThen_ok,s];cases r
 .simp
 grind
noncomputable def Q0(t k:Nat):Field:=(Tryz.prog.fieldsOf t).toList.getD k default
theorem asX(a b:VV)(d:Nat)(w:World):(Op.equalIn (d+2) 27 (.agg #[.int .i64 a.kind,.int .i64 a.int,.string a.text]) (.agg #[.int .i64 b.kind,.int .i64 b.int,.string b.text])).run Tryz.prog w= .ok (eqV a b) w:=by
 rw[run_equalIn_struct w (d+1) 27 _ _ bd bd,show(Tryz.prog.fieldsOf 27).toList=[Q0 27 0,Q0 27 1,Q0 27 2]by kernel_rfl];refine mZ (x:=.int .i64 a.kind) (y:=.int .i64 b.kind) bd bd bd (run_equalIn_int w d _ .i64 .i64 _ _ bd) ?_;refine mZ (x:=.int .i64 a.int) (y:=.int .i64 b.int) bd bd bd (run_equalIn_int w d _ .i64 .i64 _ _ bd) ?_;refine mZ (x:=.string a.text) (y:=.string b.text) bd bd bd (run_equalIn_string w d _ _ _ bd) ?_;simp[Op.eqFields]
theorem b7J(a b:OV)(d:Nat)(w:World):(Op.equalIn (d+3) 29 (.agg #[.int .i64 a.kind,.int .i64 a.index,.int .i64 a.value.kind,.int .i64 a.value.int,.string a.value.text]) (.agg #[.int .i64 b.kind,.int .i64 b.index,.int .i64 b.value.kind,.int .i64 b.value.int,.string b.value.text])).run Tryz.prog w= .ok (Z8 a b) w:=by
 rw[run_equalIn_struct w (d+2) 29 _ _ bd bd,show(Tryz.prog.fieldsOf 29).toList=[Q0 29 0,Q0 29 1,Q0 29 2]by kernel_rfl];refine mZ (x:=.int .i64 a.kind) (y:=.int .i64 b.kind) bd bd bd (run_equalIn_int w (d+1) _ .i64 .i64 _ _ bd) ?_;refine mZ (x:=.int .i64 a.index) (y:=.int .i64 b.index) bd bd bd (run_equalIn_int w (d+1) _ .i64 .i64 _ _ bd) ?_;refine mZ (x:=.agg #[.int .i64 a.value.kind,.int .i64 a.value.int,.string a.value.text]) (y:=.agg #[.int .i64 b.value.kind,.int .i64 b.value.int,.string b.value.text]) bd bd bd ?_ ?_
 .rw[show(Q0 29 2).type=27 by kernel_rfl];exact asX a.value b.value d w
 .simp[Op.eqFields]
theorem Uu(a b:VV):StructEq Tryz.prog 27 (.agg #[.int .i64 a.kind,.int .i64 a.int,.string a.text]) (.agg #[.int .i64 b.kind,.int .i64 b.int,.string b.text]) (eqV a b):=
 ⟨bd,λw=>asX a b 9998 w⟩
theorem AN(a b:OV):StructEq Tryz.prog 29 (.agg #[.int .i64 a.kind,.int .i64 a.index,.int .i64 a.value.kind,.int .i64 a.value.int,.string a.value.text]) (.agg #[.int .i64 b.kind,.int .i64 b.index,.int .i64 b.value.kind,.int .i64 b.value.int,.string b.value.text]) (Z8 a b):=
 ⟨bd,λw=>b7J a b 9997 w⟩
theorem Cd{a b:ByteArray}(h:a.toList=b.toList):a=b:=by
 rw[ByteArray.toList_eq,ByteArray.toList_eq]at h;cases a;cases b;simp only[ByteArray.mk.injEq];exact Array.toList_inj.1 h
theorem Uv{a b:VV}:eqV a b=true↔a=b:=by
 obtain⟨k,i,t⟩:=a;obtain⟨f,g,j⟩:=b;simp only[eqV,Bool.and_true,Bool.and_eq_true,beq_iff_eq,VV.mk.injEq];exact⟨λ⟨c,d,e⟩=>⟨c,d,Cd e⟩,λ⟨c,d,e⟩=>⟨c,d,by rw[e]⟩⟩
theorem uA{a b:OV}:Z8 a b=true↔a=b:=by
 obtain⟨k,i,t⟩:=a;obtain⟨c,d,e⟩:=b;simp only[Z8,Bool.and_true,Bool.and_eq_true,beq_iff_eq,OV.mk.injEq,Uv]
def zeroV:VV:=⟨0,0,⟨#[]⟩⟩
def dH:OV:=⟨0,0,zeroV⟩
def rC(l:ca)(o:OV):Int:=if o.index<0||o.index>=l.length|| !eqV o.value zeroV then 0 else l.getD o.index.toNat 0
def kindOf(cols params:ca)(o:OV):Int:=
 if o.kind==3 then(if o.index !=0|| !oC o.value then 0 else o.value.kind)
 else if o.kind==2 then rC params o
 else if o.kind==1 then rC cols o
 else 0
def yD(v:PV):Bool:=v.cmp==0&&Z8 v.left dH&&Z8 v.right dH
def aO(o:OV):CV:=.val (.agg #[.int .i64 o.kind,.int .i64 o.index,.int .i64 o.value.kind,.int .i64 o.value.int,.string o.value.text])
def aP(p:PV):CV:=.val (.agg #[.int .i64 p.op,.int .i64 p.cmp,
 .int .i64 p.left.kind,.int .i64 p.left.index,.int .i64 p.left.value.kind,.int .i64 p.left.value.int,.string p.left.value.text,
 .int .i64 p.right.kind,.int .i64 p.right.index,.int .i64 p.right.value.kind,.int .i64 p.right.value.int,.string p.right.value.text,
 .slice p.args.a p.args.len p.args.cap])
def a2S(s t:Sl):CV:=.val (.agg #[.slice s.a s.len s.cap,.slice t.a t.len t.cap])
def bEZ:Vc.Spec:=λc m h K=>∃v,c=[aP v]/\K (cB (yD v)) m h
def ayX:Vc.Spec:=λe m h K=>∃s t d c o,e=[cS s,cS t,aO o]/\Ints h s d/\Ints h t c/\K (cI (kindOf d c o)) m h
def Xz:Vc.Spec:=λe m h K=>∃s t d c o,e=[a2S s t,aO o]/\Ints h s d/\Ints h t c/\K (cI (kindOf d c o)) m h
abbrev nU(a:Nat)(b c:bx)(d:Bool->Prop):Prop:=∃(x:Bool),StructEq Proofs.Tryz.prog a (Value.agg (Array.mk b)) (Value.agg (Array.mk c)) x/\d x
noncomputable abbrev aM(a b:Value)(c:bx):bx:=a::b::c
noncomputable abbrev dE:Value:=eF 0
noncomputable abbrev EY:bx:=aM dE dE (aM dE dE (oK XH))
attribute [push_cast] nU aM dE EY
def Se(v:PV)(m:MH)(h:PH)(K:bz):Prop:=
  eO v.cmp 0 (nU 29 v.left.enc EY (λr=>branch r (nU 29 v.right.enc EY (λc=>K (Bc c) m h)) (K aX m h))) (K aX m h)
abbrev iM(a:Bool)(b c:Prop):Prop:=branch (!a) b c
noncomputable abbrev AY(a:OV):Int:=a.value.kind
abbrev gM(a b:Int)(c d:Prop):Prop:=branch (decide (a>=b)) c d
noncomputable abbrev Ar:bx:=aM dE dE (oK XH)
attribute [push_cast] iM AY gM Ar
def HU(s t:Sl)(o:OV)(m:MH)(h:PH)(K:bz):Prop:=
  cW (o.kind==3) (eC o.index 0 (K (fX 0) m h) (∃(v:VV),qF (mF o.value) (mF v) (iM (oC v) (K (fX 0) m h) (K (fX (AY o)) m h)))) (o.kind==2) (aZ o.index 0 (K (fX 0) m h) (gM o.index (aH t) (K (fX 0) m h) (nU 27 o.value.enc Ar (λr=>iM r (K (fX 0) m h) (bJ (λb c=>aA (bM t.a b c) (0<=o.index) (o.index<aH t/\∃(y:Int),aU m h b (fU c o.index 1) (bG y)/\K (fX y) m h))))))) (eO o.kind 1 (aZ o.index 0 (K (fX 0) m h) (gM o.index (aH s) (K (fX 0) m h) (nU 27 o.value.enc Ar (λr=>iM r (K (fX 0) m h) (bJ (λb c=>aA (bM s.a b c) (0<=o.index) (o.index<aH s/\∃(y:Int),aU m h b (fU c o.index 1) (bG y)/\K (fX y) m h))))))) (K (fX 0) m h))
theorem AU{x y:Int}(c:K (cI x) m h)(e:x=y):K (.val (.int .i64 y)) m h:=e▸c
theorem Ints.inb{s:Sl}(r:Ints h s l){n:Int}(d:0<=n)(f:n<(l.length:Int)):∃b o,s.a=some ⟨b,o,none⟩/\bL h b (o+n.toNat*1) [.int .i64 (l.getD n.toNat 0)]:=by
 have c:l[n.toNat]? =some (l.getD n.toNat 0):=by
  grind
 obtain⟨b,o,e,r⟩:=r.at c
 grind
theorem arQ{s t:Sl}{cols params:ca}{o:OV}(y:Ints h s cols)(z:Ints h t params)(c:K (cI (kindOf cols params o)) m h):HU s t o m h K:=by
 have A:=y.slen;have D:=z.slen;dsimp only[HU,push_cast];refine aC (λE=>aC (λu=>AU c ?_) (λu=>⟨o.value,rfl,aC (λd=>AU c ?_) (λd=>AU c ?_)⟩)) (λE=>aC (λu=>?_) (λu=>aC (λd=>?_) (λd=>AU c ?_)))
 .simp_all [kindOf]
 .simp_all [kindOf]
 .simp_all [kindOf]
 .have x:kindOf cols params o=rC params o:=by simp_all [kindOf]
  rw[x]at c;refine aF (λd=>AU c ?_) (λd=>aF (λg=>AU c ?_) (λg=>⟨eqV o.value zeroV,Uu o.value zeroV,aC (λf=>AU c ?_) (λf=>?_)⟩))
  .simp[rC,d]
  .rw[D]at g;simp[rC,g]
  .simp only[Bool.not_eq_true']at f;simp[rC,f]
  .obtain⟨b,off,e,r⟩:=z.inb (n:=o.index) aD aD;refine⟨b,off,e,aD,aD,_,.imm r,AU c ?_⟩;have j:¬o.index>=params.length:=by omega
   simp only[Bool.not_eq_false']at f;simp[rC,d,j,f]
 .have x:kindOf cols params o=rC cols o:=by simp_all [kindOf]
  rw[x]at c;refine aF (λd=>AU c ?_) (λd=>aF (λg=>AU c ?_) (λg=>⟨eqV o.value zeroV,Uu o.value zeroV,aC (λf=>AU c ?_) (λf=>?_)⟩))
  .simp[rC,d]
  .rw[A]at g;simp[rC,g]
  .simp only[Bool.not_eq_true']at f;simp[rC,f]
  .obtain⟨b,off,e,r⟩:=y.inb (n:=o.index) aD aD;refine⟨b,off,e,aD,aD,_,.imm r,AU c ?_⟩;have j:¬o.index>=cols.length:=by omega
   simp only[Bool.not_eq_false']at f;simp[rC,d,j,f]
 .simp_all [kindOf]
theorem YW:bu 223 bEZ:=by
 refine hU func223 ?_;rintro d m h K ⟨v,rfl,c⟩;refine⟨ctx [] [] [] [] false,rfl,aG,Se v m h K,bd,?_⟩;dsimp only[Se,push_cast];refine aC (λe=>⟨Z8 v.left dH,AN v.left dH,aC (λf=>⟨Z8 v.right dH,AN v.right dH,jM c ?_⟩) (λf=>jM c ?_)⟩) (λe=>jM c ?_)
 all_goals simp_all [yD]
theorem YV:bu 224 ayX:=by
 refine hU func224 ?_;rintro e m h K ⟨s,t,d,c,o,rfl,f,g,j⟩;refine⟨ctx [(259,Tx)] [] [] [] false,rfl,aE YB aG,HU s t o m h K,bd,?_⟩;exact arQ f g j
theorem Yy:bu 264 Xz:=by
 refine hU func264 ?_;rintro e m h K ⟨s,t,d,c,o,rfl,f,g,j⟩;refine⟨ctx [(186,Tx)] [] [] [] false,rfl,aE IS aG,HU s t o m h K,bd,?_⟩;exact arQ f g j
def Pred.args:Pred->cr
 |.mk _ _ _ _ l=>l
mutual
def qP:Pred->Int->Int
 |.mk _ _ _ _ args,n=>lU args (n+1)
def lU:cr->Int->Int
 |[],n=>n
 |p::ps,n=>if n<=24 then lU ps (qP p n)else n
end
mutual
def oA:Pred->Nat->Bool
 |.mk _ _ _ _ _,0=>true
 |.mk _ _ _ _ args,n+1=>wN args n
def wN:cr->Nat->Bool
 |[],_=>false
 |p::ps,n=>oA p n||wN ps n
end
mutual
theorem En:∀(p:Pred)(n:Int),n<=24->n<qP p n/\qP p n<=25
 |.mk _ _ _ _ args,n,h=>by
  have:=Ij args (n+1) aD;simp only[qP];omega
theorem Ij:∀(ps:cr)(n:Int),n<=25->n<=lU ps n/\lU ps n<=25
 |[],n,h=>by simp only[lU];omega
 |p::ps,n,h=>by
  simp only[lU];split
  .rename_i c;have d:=En p n c;have e:=Ij ps (qP p n) d.2;omega
  .omega
end
theorem T8(ps:cr){n:Int}(h:¬n<=24):lU ps n=n:=by
 cases ps
 .simp[lU]
 .simp only[lU,if_neg h]
theorem K7(n:Nat):∀ps:cr,wN ps n=ps.any (oA · n)
 |[]=>by simp[wN]
 |p::ps=>by simp[wN,K7 n ps]
theorem wX{p:Pred}{q:Pred}(h:q∈p.args):SizeOf.sizeOf q<SizeOf.sizeOf p:=by
 cases p with
 |mk op c l r args=>
  have:=sizeOf_lt_of_mem h;simp only[Pred.args]at this
  grind
theorem dD.open{v:PV}(r:dD h p v):p.args.length<=502633886983/\v.args.len=p.args.length/\∀(i:Nat)(q:Pred),p.args[i]? =some q->∃b o u,v.args.a=some ⟨b,o,none⟩/\bL h b (o+i*13) (PV.enc u)/\dD h q u:=by
 cases p with
 |mk op f l s args=>
  obtain⟨t,x,y,z,g,A,c,d⟩:=r;have D:=d.length;refine⟨g,?_,λi q j=>?_⟩
  .have:=c.len;simp at this;simp only[Pred.args];omega
  .obtain⟨u,n,E⟩:=d.get j;obtain⟨b,o,e,r⟩:=c.get (i:=i) (e:=PV.enc u) (by simp[n])
   grind
def afQ(N:Nat):Vc.Spec:=λc m h K=>∃v p k,c=[aP v,cI k]/\dD h p v/\SizeOf.sizeOf p<N/\0<=k/\k<=24/\K (cI (qP p k)) m h
def US(N:Nat):Vc.Spec:=λc m h K=>∃v p,∃k:Nat,c=[aP v,cI k]/\dD h p v/\SizeOf.sizeOf p<N/\k<=100/\K (cB (oA p k)) m h
noncomputable def bnZ(N:Nat)(v:PV)(p:Pred)(k:Int)(m:MH)(h:PH):Ctx:=
 ctx [(166,afQ N)] [(3,{A:=Nat×Int,st:=λx=>bQ 27 29 [(1,iv x.2),(2,.at (.ptr 2 0)),(5,iv x.1)] [(2,.cells 32 (v.enc.map .val))] m h,inv:=λx=>x.1<=p.args.length/\0<=x.2/\x.2<=25/\lU (p.args.drop x.1) x.2=qP p k,mu:=λx=>p.args.length-x.1})] [] [] false
noncomputable def bnX(N:Nat)(v:PV)(p:Pred)(k:Nat)(m:MH)(h:PH):Ctx:=
 ctx [(167,US N)] [Di 4 (λi=>bQ 23 25 [(1,iv k),(2,.at (.ptr 2 0)),(10,iv v.args.len),(11,iv i)] [(2,.cells 32 (v.enc.map .val))] m h) (λi=>i<=p.args.length/\(p.args.take i).any (oA · (k-1))=false) (λi=>p.args.length-i)] [] [] false
noncomputable abbrev uG(a:Pred):Nat:=a.args.length
abbrev NS(a:Nat×Int)(b:Pred)(c d:Int):Prop:=aA (a.1<=uG b) (0<=a.2) (a.2<=c/\lU (List.drop a.1 b.args) a.2=qP b d)
abbrev dW(a b:Int):Prop:=fZ a=fZ b
abbrev dQ:Prop:=eP 2
noncomputable abbrev nL(a:Nat)(b:bx):Option Go.Vc.Own:=oQ a (List.map At.val b)
abbrev gS(a:PV):Prop:=eQ (nL 32 a.enc)
abbrev Ge(a b:Int)(c d:Prop):Prop:=branch (decide (a<=b)) c d
abbrev Og(a:Option Addr)(b:Nat)(c:Sl)(d:Nat->Nat->PV->Prop):Prop:=bJ (λx e=>aA (bM a x e) (0<=(↑b:Int)) ((↑b:Int)<aH c/\∃(f:PV),d x e f))
abbrev pV(a:PV->Pred->Prop):Prop:=∃(x:PV)(c:Pred),a x c
noncomputable abbrev cV(a b:CV):cz:=a::oB b
noncomputable abbrev aW(a:CV)(b:Int):cz:=cV a (fX b)
noncomputable abbrev cQ(a:PV):CV:=lS a.enc
abbrev pS(a:Pred)(b:Nat):Prop:=SizeOf.sizeOf a<b
abbrev bZ(a:Int):Prop:=0<=a
attribute [push_cast] uG NS dW dQ nL gS Ge Og pV cV aW cQ pS bZ
def SH(N:Nat)(v:PV)(p:Pred)(k:Int)(m:MH)(h:PH)(K:bz):Prop:=
  (∃(x:Nat×Int),aA (NS x p 25 k) (dW (fH (k+1)) x.2) (aA dQ (bB x.1) (bP (gS v) (m=m) (h=h))))/\∀(x:Nat×Int),NS x p 25 k->aZ (↑x.1:Int) (aH v.args) (Ge x.2 24 (Og v.args.a x.1 v.args (λb o y=>aU m h b (bK o x.1 13) y.enc/\pV (λf e=>∃(c:Int),aA (aW (cQ y) x.2=aW (cQ f) c) (dD h e f) (aA (pS e N) (bZ c) (c<=24/\∃(d:Nat×Int),aA (NS d p 25 k) (uG p-d.1<uG p-x.1) (aA (dW (qP e c) d.2) dQ (aA (bD (fZ (bE x.1 1)) d.1) (gS v) (aA (m=m) (h=h) True)))))))) (K (fX x.2) m h)) (K (fX x.2) m h)
abbrev NT(a:Nat)(b:Pred)(c:Pred->Pred)(d:Nat):Prop:=a<=uG b/\List.any (List.take a b.args) (fun(x:Pred)=>oA (c x) (d-1))=false
abbrev vQ(a:PV):Prop:=bI a.args
abbrev bN(a b:PH):Prop:=a=b/\True
attribute [push_cast] NT vQ bN
def SG(N:Nat)(v:PV)(p:Pred)(k:Nat)(m:MH)(h:PH)(K:bz):Prop:=
  eO (↑k:Int) 0 (gK K m h) (p7 (∃(x:Nat),aA (NT x p (λc=>c) k) (eQ (FP k)) (aA dQ (vQ v) (aA (bB x) (gS v) (aA (m=m) (h=h) True)))) (λx=>NT x p (λc=>c) k->aZ (↑x:Int) (aH v.args) (bJ (λb o=>aA (bM v.args.a b o) (0<=(↑x:Int)) ((↑x:Int)<aH v.args/\∃(y:PV),aU m h b (bK o x 13) y.enc/\pV (λg d=>∃(e:Nat),aA (aW (cQ y) (fH ((↑k:Int)-1))=aW (cQ g) (↑e:Int)) (dD h d g) (aA (pS d N) (e<=100) (iV (oA d e) (gK K m h) (λf=>aA (NT f p (λc=>c) k) (uG p-f<uG p-x) (aA (eQ (FP k)) dQ (aA (vQ v) (bD (fZ (bE x 1)) f) (aA (gS v) (m=m) (bN h h))))))))))) (K aX m h)))
theorem WS:∀N,bu 166 (afQ N)
 |0=>by
  refine dU (fn:=Tryz.f166) (c:=bW Tryz.f166) func166 rfl bg ?_;rintro j m h K ⟨v,p,k,rfl,y,E,_⟩;omega
 |N+1=>by
  refine hU func166 ?_;rintro j m h K ⟨v,p,k,rfl,y,E,M,O,z⟩;refine⟨bnZ N v p k m h,rfl,aE (WS N) aG,SH N v p k m h K,bd,?_⟩;dsimp only[SH,push_cast];obtain⟨Q,A,e⟩:=y.open;refine⟨⟨(0,k+1),⟨bf,bj,bj,?_⟩,by rw[eH aD aD],rfl,rfl,rfl,rfl,rfl,trivial⟩,?_⟩
  .cases p;simp[qP,Pred.args]
  rintro⟨i,n⟩ ⟨F,f,s,g⟩;simp only at F f s g;refine aF (λt=>aF (λd=>?_) (λd=>AU z ?_)) (λG=>AU z ?_)
  .simp only at t d;obtain⟨q,D⟩:∃q,p.args[i]? =some q:=⟨p.args[i]'(by omega),getElem?_eq_getElem _⟩
   obtain⟨b,o,u,H,I,x⟩:=e i q D
   have J:p.args.drop i=q::p.args.drop (i+1):=by
    rw[drop_eq_getElem_cons aD];grind
   have R:=En q n d;refine⟨b,o,H,bf,aD,u,.imm bk,u,q,n,rfl,x,?_,f,d,(i+1,qP q n),⟨aD,aD,aD,?_⟩,aD,rfl,rfl,by rw[jO aD],rfl,rfl,rfl,trivial⟩
   .have:=wX (mem_of_getElem? D);omega
   .rw[J,lU,if_pos d]at g;exact g
  .rw[<-g,T8 _ d]
  .rw[<-g,drop_of_length_le aD];simp[lU]
theorem WR:∀N,bu 167 (US N)
 |0=>by
  refine dU (fn:=Tryz.f167) (c:=bW Tryz.f167) func167 rfl bg ?_;rintro f m h K ⟨v,p,k,rfl,t,A,_⟩;omega
 |N+1=>by
  refine hU func167 ?_;rintro f m h K ⟨v,p,k,rfl,t,A,I,e⟩;refine⟨bnX N v p k m h,rfl,aE (WR N) aG,SG N v p k m h K,bd,?_⟩;dsimp only[SG,push_cast];obtain⟨J,x,d⟩:=t.open;refine aC (λy=>jM e ?_) (λy=>?_)
  .have:k=0:=bk
   subst this;cases p;simp[oA]
  .have y:k≠0:=bk
   have g:oA p k=p.args.any (oA · (k-1)):=by
    obtain⟨z,rfl⟩:∃z,k=z+1:=⟨k-1,aD⟩
    cases p;simp[oA,K7,Pred.args]
   rw[g]at e;refine⟨⟨0,⟨aD,bf⟩,rfl,rfl,rfl,rfl,rfl,rfl,rfl,trivial⟩,λi D=>aF (λj=>?_) (λE=>jM e ?_)⟩
   .obtain⟨q,n⟩:∃q,p.args[i]? =some q:=⟨p.args[i]'(by omega),getElem?_eq_getElem _⟩
    obtain⟨b,o,u,F,G,s⟩:=d i q n;refine⟨b,o,F,aD,j,u,.imm bk,u,q,k-1,?_,s,?_,aD,aC (λH=>jM e ?_) (λH=>?_)⟩
    .rw[eH aD aD,show((k-1:Nat):Int)=(k:Int)-1 by omega]
    .have:=wX (mem_of_getElem? n);omega
    .grind
    .refine⟨i+1,⟨aD,?_⟩,aD,rfl,rfl,rfl,by rw[jO aD],rfl,rfl,rfl,trivial⟩;rw[take_add_one,any_append,D.2,n];grind
   grind
def F9(c:Int)(l r:OV):Bool:=c==0&&Z8 l dH&&Z8 r dH
mutual
def jP(cols params:ca):Pred->Bool
 |.mk op c l r args=>
  if op==1||op==2 then F9 c l r&&args.length==0
  else if op==3 then args.length==0&&c>=1&&c<=6&&kindOf cols params l !=0&&kindOf cols params l==kindOf cols params r
  else if op==4||op==5||(op==6&&args.length==1)then F9 c l r&&xY cols params args
  else false
def xY(cols params:ca):cr->Bool
 |[]=>true
 |p::ps=>jP cols params p&&xY cols params ps
end
theorem FZ(cols params:ca):∀ps:cr,xY cols params ps=ps.all (jP cols params)
 |[]=>by simp[xY]
 |p::ps=>by simp[xY,FZ cols params ps]
structure NI(cols params:ca)(v:PV)(p:Pred):Prop where
 eq:jP cols params p=(yD v&&p.args.all (jP cols params))
def UL(N:Nat):Vc.Spec:=λe m h K=>∃s t d c v p,e=[cS s,cS t,aP v]/\Ints h s d/\Ints h t c/\dD h p v/\SizeOf.sizeOf p<N/\K (cB (jP d c p)) m h
def Qu(N:Nat):Vc.Spec:=λe m h K=>∃s t d c v p,e=[a2S s t,aP v]/\Ints h s d/\Ints h t c/\dD h p v/\SizeOf.sizeOf p<N/\K (cB (jP d c p)) m h
noncomputable def bnQ(N:Nat)(s t:Sl)(cols params:ca)(v:PV)(p:Pred)(m:MH)(h:PH):Ctx:=
 ctx [(168,UL N),(223,bEZ),(224,ayX)] [Di 17 (λi=>bQ 84 87 [(0,sv s),(1,sv t),(5,.at (.ptr 5 0)),(70,iv v.args.len),(71,iv i)] [(5,.cells 32 (v.enc.map .val))] m h) (λi=>i<=p.args.length/\(p.args.take i).all (jP cols params)=true) (λi=>p.args.length-i)] [(14,{A:=Unit,st:=λ_=>bQ 84 87 [(0,sv s),(1,sv t),(5,.at (.ptr 5 0))] [(5,.cells 32 (v.enc.map .val))] m h,inv:=λ_=>NI cols params v p})] [] false
noncomputable def biZ(N:Nat)(s t:Sl)(cols params:ca)(v:PV)(p:Pred)(m:MH)(h:PH):Ctx:=
 ctx [(220,Qu N),(264,Xz)] [Di 18 (λi=>bQ 87 89 [(2,.at (.ptr 2 0)),(3,.at (.ptr 3 0)),(76,sv v.args),(77,iv v.args.len),(78,iv i)] [(2,.cells 266 [.val (.slice s.a s.len s.cap),.val (.slice t.a t.len t.cap)]),(3,.cells 32 (v.enc.map .val))] m h) (λi=>i<=p.args.length/\(p.args.take i).all (jP cols params)=true) (λi=>p.args.length-i)] [(15,{A:=Unit,st:=λ_=>bQ 87 89 [(2,.at (.ptr 2 0)),(3,.at (.ptr 3 0))] [(2,.cells 266 [.val (.slice s.a s.len s.cap),.val (.slice t.a t.len t.cap)]),(3,.cells 32 (v.enc.map .val))] m h,inv:=λ_=>NI cols params v p})] [] false
noncomputable abbrev nI(a:PV):Int:=aH a.args
abbrev CM(a:Sl->ca->Prop):Prop:=∃(x:Sl)(c:ca),a x c
abbrev rA(a:Sl->ca->ca->Prop):Prop:=CM (λx c=>∃(d:ca),a x c d)
abbrev JJ(a:cz)(b:Sl->Sl->OV->cz)(c:PH)(d:ca->ca->OV->Prop):Prop:=∃(x:Sl),rA (λe f g=>∃(j:OV),aA (a=b x e j) (Ints c x f) (Ints c e g/\d f g j))
noncomputable abbrev fF(a:Sl)(b:CV):cz:=cV (fJ a) b
noncomputable abbrev kT(a:OV):CV:=lS a.enc
abbrev dR:Prop:=eP 5
abbrev EK(a:Nat)(b:Pred)(c d:ca):Prop:=a<=uG b/\fV (List.all (List.take a b.args) (jP c d))
attribute [push_cast] nI CM rA JJ fF kT dR EK
def SF(N:Nat)(s t:Sl)(cols params:ca)(v:PV)(p:Pred)(m:MH)(h:PH)(K:bz):Prop:=
  cW (v.op==1) (∃(d:PV),qF (cQ v) (cQ d) (branch (yD d) (K (Bc (nI v==0)) m h) (K aX m h))) (v.op==2) (∃(d:PV),qF (cQ v) (cQ d) (branch (yD d) (K (Bc (nI v==0)) m h) (K aX m h))) (cW (v.op==3) (JJ (fJ s::fF t (kT v.left)) (λe f o=>fJ e::fF f (kT o)) h (λc g o=>eO (nI v) 0 (gM v.cmp 1 (Ge v.cmp 6 (eC (kindOf c g o) 0 (JJ (fJ s::fF t (kT v.right)) (λe f n=>fJ e::fF f (kT n)) h (λA j n=>K (Bc (kindOf c g o==kindOf A j n)) m h)) (K aX m h)) (K aX m h)) (K aX m h)) (K aX m h))) (v.op==4) (∃(x:Unit),aA (NI cols params v p) (aI s) (aA (aI t) dR (bP (gS v) (m=m) (h=h)))) (cW (v.op==5) (∃(x:Unit),aA (NI cols params v p) (aI s) (aA (aI t)
 dR (bP (gS v) (m=m) (h=h)))) (v.op==6) (eC (nI v) 1 (K aX m h) (∃(x:Unit),aA (NI cols params v p) (aI s) (aA (aI t) dR (bP (gS v) (m=m) (h=h))))) (K aX m h)))/\∀(_:Unit),NI cols params v p->∃(d:PV),qF (cQ v) (cQ d) (iM (yD d) (K aX m h) (p7 (∃(x:Nat),aA (EK x p cols params) (aI s) (aA (aI t) dR (aA (vQ v) (bB x) (aA (gS v) (m=m) (bN h h))))) (λx=>EK x p cols params->aZ (↑x:Int) (aH v.args) (bJ (λb o=>aA (bM v.args.a b o) (0<=(↑x:Int)) ((↑x:Int)<aH v.args/\∃(y:PV),aU m h b (bK o x 13) y.enc/\∃(e:Sl),rA (λf c g=>pV (λz j=>aA (fJ s::fF t (cQ y)=fJ e::fF f (cQ z)) (Ints h e c) (aA (Ints h f g) (dD h j z) (pS j N/\
 iV (!(jP c g j)) (K aX m h) (λu=>aA (EK u p cols params) (uG p-u<uG p-x) (aA (aI s) (aI t) (aA dR (vQ v) (aA (bD (fZ (bE x 1)) u) (gS v) (aA (m=m) (h=h) True)))))))))))) (gK K m h))))
noncomputable abbrev jK(a b:Value):bx:=aM a b []
abbrev bV:Prop:=eP 3
noncomputable abbrev cO(a b:At)(c:cw):cw:=a::b::c
noncomputable abbrev lV(a b:At):cw:=cO a b []
abbrev CT(a b:Sl):Prop:=eQ (oQ 266 (lV (vK a) (vK b)))
abbrev iU(a:Prop)(b:Bool)(c d:Prop):Prop:=a->branch b c d
attribute [push_cast] jK bV cO lV CT iU
def Sh(N:Nat)(s t:Sl)(cols params:ca)(v:PV)(p:Pred)(m:MH)(h:PH)(K:bz):Prop:=
  cW (v.op==3) (JJ (cV (lS (jK (fK s) (fK t))) (kT v.left)) (λd e o=>cV (lS (jK (fK d) (fK e))) (kT o)) h (λc f o=>JJ (cV (lS (jK (fK s) (fK t))) (kT v.right)) (λd e j=>cV (lS (jK (fK d) (fK e))) (kT j)) h (λz g j=>eO (nI v) 0 (gM v.cmp 1 (Ge v.cmp 6 (eC (kindOf c f o) 0 (K (Bc (kindOf c f o==kindOf z g j)) m h) (K aX m h)) (K aX m h)) (K aX m h)) (K aX m h)))) (v.op==1) (eC (nI v) 0 (K aX m h) (∃(x:Unit),aA (NI cols params v p) dQ (aA bV (CT s t) (bP (gS v) (m=m) (h=h))))) (cW (v.op==2) (eC (nI v) 0 (K aX m h) (∃(x:Unit),aA (NI cols params v p) dQ (aA bV (CT s t) (bP (gS v) (m=m) (h=h))))) (v.op==6) (eC (nI v) 1 (K aX m h) (∃(x:Unit),aA
 (NI cols params v p) dQ (aA bV (CT s t) (bP (gS v) (m=m) (h=h))))) (cW (v.op==4) (∃(x:Unit),aA (NI cols params v p) dQ (aA bV (CT s t) (bP (gS v) (m=m) (h=h)))) (v.op==5) (∃(x:Unit),aA (NI cols params v p) dQ (aA bV (CT s t) (bP (gS v) (m=m) (h=h)))) (K aX m h)))/\∀(_:Unit),iU (NI cols params v p) (v.cmp !=0) (K aX m h) (nU 29 v.left.enc EY (λr=>iM r (K aX m h) (nU 29 v.right.enc EY (λA=>iM A (K aX m h) (p7 (∃(x:Nat),aA (EK x p cols params) dQ (aA bV (aI v.args) (aA (vQ v) (bB x) (aA (CT s t) (gS v) (aA (m=m) (h=h) True))))) (λx=>EK x p cols params->aZ (↑x:Int) (aH v.args) (bJ (λb o=>aA (bM v.args.a b o) (0<=(↑x:Int)) ((↑x:Int)
 <aH v.args/\∃(y:PV),aU m h b (bK o x 13) y.enc/\∃(d:Sl),rA (λe c f=>pV (λu g=>aA (cV (lS (jK (fK s) (fK t))) (cQ y)=cV (lS (jK (fK d) (fK e))) (cQ u)) (Ints h d c) (aA (Ints h e f) (dD h g u) (pS g N/\iV (!(jP c f g)) (K aX m h) (λn=>aA (EK n p cols params) (uG p-n<uG p-x) (aA dQ bV (aA (aI v.args) (bI v.args) (aA (bD (fZ (bE x 1)) n) (CT s t) (bP (gS v) (m=m) (h=h))))))))))))) (gK K m h)))))))
theorem dD.top{v:PV}(r:dD h p v):p= .mk v.op v.cmp v.left v.right p.args:=by
 cases p with
 |mk op c l j args=>obtain⟨d,e,f,g,_⟩:=r;simp[Pred.args,d,e,f,g]
theorem MQ{cols params:ca}{h:PH}{p:Pred}{v:PV}(r:dD h p v):jP cols params p=if v.op==1||v.op==2 then yD v&&p.args.length==0
 else if v.op==3 then p.args.length==0&&v.cmp>=1&&v.cmp<=6&&kindOf cols params v.left !=0&&kindOf cols params v.left==kindOf cols params v.right
 else if v.op==4||v.op==5||(v.op==6&&p.args.length==1)then yD v&&p.args.all (jP cols params)
 else false:=by
 have:=r.top;generalize p.args=xs at this⊢
 subst this;rw[jP,FZ];rfl
theorem cGX{n:Nat}{k:Nat}:((n:Int)==(k:Int))=(n==k):=by
 grind
theorem WQ:∀N,bu 168 (UL N)
 |0=>by
  refine dU (fn:=Tryz.f168) (c:=bW Tryz.f168) func168 rfl bg ?_;rintro n m h K ⟨s,t,cols,params,v,p,rfl,_,_,x,O,_⟩;omega
 |N+1=>by
  refine hU func168 ?_;rintro n m h K ⟨s,t,cols,params,v,p,rfl,y,z,x,O,d⟩;refine⟨bnQ N s t cols params v p m h,rfl,aE (WQ N) (aE YW (aE YV aG)),SF N s t cols params v p m h K,bd,?_⟩;obtain⟨X,M,f⟩:=x.open;have Y:=MQ (cols:=cols) (params:=params) x;have Q:((v.args.len:Int)==0)=(p.args.length==0):=bk
  have Z:((v.args.len:Int) !=1)=(p.args.length !=1):=bk
  dsimp only[SF,push_cast];refine⟨?_,?_⟩
  .refine aC (λe=>⟨v,rfl,aC (λg=>jM d ?_) (λg=>jM d ?_)⟩) (λe=>aC (λR=>⟨v,rfl,aC (λg=>jM d ?_) (λg=>jM d ?_)⟩) (λR=>aC (λg=>⟨s,t,cols,params,v.left,rfl,y,z,?_⟩) (λg=>?_)))
   .grind
   .grind
   .grind
   .grind
   .have A:jP cols params p=(p.args.length==0&&v.cmp>=1&&v.cmp<=6&&kindOf cols params v.left !=0&&kindOf cols params v.left==kindOf cols params v.right):=bk
    rw[A]at d;refine aC (λj=>aC (λD=>aC (λE=>aC (λF=>⟨s,t,cols,params,v.right,rfl,y,z,jM d ?_⟩) (λF=>jM d ?_)) (λE=>jM d ?_)) (λD=>jM d ?_)) (λj=>jM d ?_)
    all_goals (rw[Q]at j;simp only[beq_iff_eq,decide_eq_true_eq,decide_eq_false_iff_not]at*;simp[*])
   .refine aC (λj=>⟨(),⟨bk⟩,rfl,rfl,rfl,rfl,rfl,rfl,trivial⟩) (λj=>aC (λD=>⟨(),⟨bk⟩,rfl,rfl,rfl,rfl,rfl,rfl,trivial⟩) (λD=>aC (λE=>aC (λF=>jM d ?_) (λF=>⟨(),⟨?_⟩,rfl,rfl,rfl,rfl,rfl,rfl,trivial⟩)) (λE=>jM d ?_)))
    .grind
    .grind
    grind
  .intro _ G;rw[G.eq]at d;refine⟨v,rfl,aC (λe=>jM d ?_) (λe=>?_)⟩
   .simp_all
   .have e:yD v=true:=bt e
    rw[e,Bool.true_and]at d;refine⟨⟨0,⟨aD,bf⟩,rfl,rfl,rfl,rfl,rfl,rfl,rfl,rfl,trivial⟩,λi S=>aF (λH=>?_) (λT=>jM d ?_)⟩
    .obtain⟨q,I⟩:∃q,p.args[i]? =some q:=⟨p.args[i]'(by omega),getElem?_eq_getElem _⟩
     obtain⟨b,o,u,U,V,J⟩:=f i q I;refine⟨b,o,U,aD,H,u,.imm bk,s,t,cols,params,u,q,rfl,y,z,J,?_,aC (λW=>jM d ?_) (λW=>?_)⟩
     .have:=wX (mem_of_getElem? I);omega
     .grind
     .refine⟨i+1,⟨aD,?_⟩,aD,rfl,rfl,rfl,rfl,by rw[jO aD],rfl,rfl,rfl,trivial⟩;rw[zH I,S.2];grind
    grind
theorem WH:∀N,bu 220 (Qu N)
 |0=>by
  refine dU (fn:=Tryz.f220) (c:=bW Tryz.f220) func220 rfl bg ?_;rintro j m h K ⟨s,t,cols,params,v,p,rfl,_,_,n,R,_⟩;omega
 |N+1=>by
  refine hU func220 ?_;rintro j m h K ⟨s,t,cols,params,v,p,rfl,x,y,n,R,d⟩;refine⟨biZ N s t cols params v p m h,rfl,aE (WH N) (aE Yy aG),Sh N s t cols params v p m h K,bd,?_⟩;obtain⟨hl,O,g⟩:=n.open;have hv:=MQ (cols:=cols) (params:=params) n;have S:((v.args.len:Int)==0)=(p.args.length==0):=bk
  have T:((v.args.len:Int) !=0)=(p.args.length !=0):=bk
  have h1:((v.args.len:Int) !=1)=(p.args.length !=1):=bk
  have Q:p.args.length=0->p.args.all (jP cols params)=true:=λe=>bk
  dsimp only[Sh,push_cast];refine⟨?_,?_⟩
  .refine aC (λz=>⟨s,t,cols,params,v.left,rfl,x,y,s,t,cols,params,v.right,rfl,x,y,?_⟩) (λz=>aC (λe=>aC (λf=>jM d ?_) (λf=>⟨(),⟨?_⟩,rfl,rfl,rfl,rfl,rfl,rfl,trivial⟩)) (λe=>aC (λA=>aC (λf=>jM d ?_) (λf=>⟨(),⟨?_⟩,rfl,rfl,rfl,rfl,rfl,rfl,trivial⟩)) (λA=>aC (λD=>aC (λE=>jM d ?_) (λE=>⟨(),⟨?_⟩,rfl,rfl,rfl,rfl,rfl,rfl,trivial⟩)) (λD=>aC (λf=>⟨(),⟨?_⟩,rfl,rfl,rfl,rfl,rfl,rfl,trivial⟩) (λf=>aC (λF=>⟨(),⟨?_⟩,rfl,rfl,rfl,rfl,rfl,rfl,trivial⟩) (λF=>jM d ?_))))))
   .have U:v.op=3:=bk
    have G:jP cols params p=(p.args.length==0&&v.cmp>=1&&v.cmp<=6&&kindOf cols params v.left !=0&&kindOf cols params v.left==kindOf cols params v.right):=bk
    rw[G]at d;refine aC (λf=>aC (λF=>aC (λD=>aC (λE=>jM d ?_) (λE=>jM d ?_)) (λD=>jM d ?_)) (λF=>jM d ?_)) (λf=>jM d ?_)
    all_goals (rw[S]at f;simp only[beq_iff_eq,decide_eq_true_eq,decide_eq_false_iff_not]at*;simp[*])
   .grind
   .grind
   .grind
   .grind
   .grind
   .grind
   .grind
   .grind
   grind
  .intro _ H;rw[H.eq]at d;refine aC (λe=>jM d ?_) (λe=>⟨Z8 v.left dH,AN v.left dH,aC (λA=>jM d ?_) (λA=>⟨Z8 v.right dH,AN v.right dH,aC (λz=>jM d ?_) (λz=>?_)⟩)⟩)
   .simp_all [yD]
   .simp_all [yD]
   .simp_all [yD]
   .have e:yD v=true:=by simp_all [yD]
    rw[e,Bool.true_and]at d;refine⟨⟨0,⟨aD,bf⟩,rfl,rfl,rfl,rfl,rfl,rfl,rfl,rfl,rfl,trivial⟩,λi V=>aF (λI=>?_) (λW=>jM d ?_)⟩
    .obtain⟨q,J⟩:∃q,p.args[i]? =some q:=⟨p.args[i]'(by omega),getElem?_eq_getElem _⟩
     obtain⟨b,o,u,X,Y,M⟩:=g i q J;refine⟨b,o,X,aD,I,u,.imm bk,s,t,cols,params,u,q,rfl,x,y,M,?_,aC (λZ=>jM d ?_) (λZ=>?_)⟩
     .have:=wX (mem_of_getElem? J);omega
     .grind
     .refine⟨i+1,⟨aD,?_⟩,aD,rfl,rfl,rfl,rfl,by rw[jO aD],rfl,rfl,rfl,rfl,trivial⟩;rw[zH J,V.2];grind
    grind
theorem drop_cons{α:Type}{l:List α}{x:α}(h:l[i]? =some x):l.drop i=x::l.drop (i+1):=by
 have c:i<l.length:=(List.getElem?_eq_some_iff.1 h).1;rw[drop_eq_getElem_cons c]
 grind
mutual
def mL:Pred->Nat->Int->Bool×Int
 |.mk _ _ _ _ args,k,b=>if b<1 then(false,b-1)else match k with|0=>(false,b-1)|k+1=>yA args k (b-1)
def yA:cr->Nat->Int->Bool×Int
 |[],_,b=>(true,b)
 |p::ps,k,b=>match mL p k b with|(false,c)=>(false,c)|(true,c)=>yA ps k c
end
mutual
def Rn:Pred->Int
 |.mk _ _ _ _ args=>1+Cz args
def Cz:cr->Int
 |[]=>0
 |p::ps=>Rn p+Cz ps
end
mutual
theorem TT:∀p:Pred,1<=Rn p
 |.mk _ _ _ _ args=>by have:=F2 args;simp only[Rn];omega
theorem F2:∀ps:cr,0<=Cz ps
 |[]=>by simp[Cz]
 |p::ps=>by have:=TT p;have:=F2 ps;simp only[Cz];omega
end
mutual
theorem GX:∀(p:Pred)(n:Int),n<=24->(n+Rn p<=24->qP p n=n+Rn p)/\(24<n+Rn p->qP p n=25)
 |.mk _ _ _ _ args,n,h=>by
  obtain⟨c,d⟩:=O8 args (n+1) aD;simp only[qP,Rn];omega
theorem O8:∀(ps:cr)(n:Int),n<=25->(n+Cz ps<=24->lU ps n=n+Cz ps)/\(24<n+Cz ps->lU ps n=25)
 |[],n,h=>by
  simp only[lU,Cz];omega
 |p::ps,n,h=>by
  have e:=TT p;have f:=F2 ps;simp only[lU,Cz];by_cases c:n<=24
  .rw[if_pos c];have g:=GX p n c;have d:=(En p n c).2;have j:=O8 ps _ d;omega
  omega
end
mutual
theorem Lt:∀(p:Pred)(k:Nat)(b:Int),0<=b->((mL p k b).1=true↔Rn p<=b/\oA p k=false)/\((mL p k b).1=true->(mL p k b).2=b-Rn p)
 |.mk _ _ _ _ args,k,b,h=>by
  have d:=F2 args;simp only[mL,Rn];by_cases c:b<1
  .grind
  .rw[if_neg c];cases k with
   |zero=>exact⟨⟨λe=>(by cases e),λe=>(by simp[oA]at e)⟩,λe=>(by cases e)⟩
   |succ k=>
    obtain⟨f,g⟩:=OL args k (b-1) aD;simp only[oA]
    grind
theorem OL:∀(ps:cr)(k:Nat)(b:Int),0<=b->((yA ps k b).1=true↔Cz ps<=b/\wN ps k=false)/\((yA ps k b).1=true->(yA ps k b).2=b-Cz ps)
 |[],k,b,h=>by simp[yA,Cz,wN,h]
 |p::ps,k,b,h=>by
  obtain⟨c,d⟩:=Lt p k b h;have j:=F2 ps;simp only[yA,Cz,wN];cases e:mL p k b with
  |mk r f=>
   rw[e]at c d;cases r with
   |false=>
    grind
   |true=>
    have g:=d rfl;have c:=c.1 rfl;simp only at g;obtain⟨n,s⟩:=OL ps k f aD
    grind
end
def gH(cols params:ca)(p:Pred):Int:=
 if !cols.all dJ|| !params.all dJ then 1
 else if qP p 0>24||oA p 8 then 2
 else if !jP cols params p then 50 else 0
theorem aCJ(p:Pred):(mL p 8 24).1= !(decide (qP p 0>24)||oA p 8):=by
 have c:=(Lt p 8 24 aD).1;have d:=GX p 0 aD
 grind
def uN(n:Int):Obj:=.cells #[.int .i64 n] 3 (0,0)
def adZ(N:Nat):Vc.Spec:=λc m h K=>∃v p,∃k b:Nat,∃n,c=[aP v,cI (9-k),cP b]/\dD h p v/\SizeOf.sizeOf p<N/\k<=9/\0<=n/\n<=24/\m b=some (uN n)/\∀m',iL m m' b (uN (mL p k n).2)->K (cB (mL p k n).1) m' h
noncomputable def biJ(N:Nat)(v:PV)(p:Pred)(k b:Nat)(n:Int)(m:MH)(h:PH):Ctx:=
 ctx [(219,adZ N)] [(5,{A:=Nat×Int×MH,st:=λx=>bQ 36 39 [(1,iv (9-k)),(2,vv (.pointer (some ⟨b,0,none⟩))),(23,sv v.args),(24,iv v.args.len),(25,iv x.1)] [] x.2.2 h,inv:=λx=>x.1<=p.args.length/\0<=x.2.1/\x.2.1<=24/\iL m x.2.2 b (uN x.2.1)/\1<=k/\yA (p.args.drop x.1) (k-1) x.2.1=mL p k n,mu:=λx=>p.args.length-x.1})] [] [] false
def uR:Vc.Spec:=λe m h K=>∃s t v d c p,e=[cS s,cS t,aP v]/\Ints h s d/\Ints h t c/\dD h p v/\K (cI (gH d c p)) m h
noncomputable def bSZ(N:Nat):Ctx:=ctx [(87,QL),(166,afQ N),(167,US N),(168,UL N)] [] [] [] false
noncomputable def bpX(N:Nat):Ctx:=ctx [(218,QL),(219,adZ N),(220,Qu N)] [] [] [] false
abbrev tN(a:MH)(b:PH)(c d:Nat)(e:Int->Prop):Prop:=∃(x:Int),aU a b c d (bG x)/\e x
abbrev wD(a:(Array Value)->TypeId->Prop):Prop:=∃(x:Array Value)(c:TypeId),a x c
noncomputable abbrev oU(a:Array Value)(b:TypeId)(c:Nat):Obj:=Obj.cells a b (c,c)
abbrev eA(a b:MH)(c:Nat)(d:bx)(e:TypeId):Prop:=iL a b c (oU (Array.mk d) e 0)
noncomputable abbrev uK(a:Value)(b:Nat)(c:bx):bx:=a::List.drop b c
abbrev kC(a:MH)(b:Nat)(c:Value)(d:MH->Prop):Prop:=wD (λx e=>aA (Ib a b (oU x e 0)) (0<x.size) (∀(f:MH),eA a f b (uK c 1 x.toList) e->d f))
abbrev fA(a b:Int)(c d:Prop):Prop:=branch (decide (a>b)) c d
noncomputable abbrev uX(a:Nat):Int:=9-(↑a:Int)
noncomputable abbrev NU(a:Nat×Int×MH)(b:Pred)(c:Nat):Bool×Int:=yA (List.drop a.1 b.args) (c-1) a.2.1
abbrev gY(a:Int):Prop:=eQ (fZ a)
abbrev cR(a:Nat):Prop:=eQ (sQo a 0)
noncomputable abbrev iN(a:CV)(b:Int)(c:CV):cz:=a::cV (fX b) c
noncomputable abbrev iD(a:Nat):CV:=cQp a 0
attribute [push_cast] tN wD oU eA uK kC fA uX NU gY cR iN iD
def Si(N:Nat)(v:PV)(p:Pred)(k b:Nat)(n:Int)(m:MH)(h:PH)(K:bz):Prop:=
  tN m h b 0 (λy=>kC m b (eF (fH (y-1))) (λe=>tN e h b 0 (λA=>aZ A 0 (K aX e h) (fA (uX k) 8 (K aX e h) ((∃(x:Nat×Int×MH),aA (aA (x.1<=uG p) (bZ x.2.1) (aA (x.2.1<=24) (eA m x.2.2 b (bG x.2.1) 3) (1<=k/\NU x p k=mL p k n))) (gY (uX k)) (aA (cR b) (aI v.args) (aA (vQ v) (bB x.1) (aA (e=x.2.2) (h=h) True))))/\∀(x:Nat×Int×MH),aA (x.1<=uG p) (bZ x.2.1) (aA (x.2.1<=24) (eA m x.2.2 b (bG x.2.1) 3) (1<=k/\NU x p k=mL p k n))->aZ (↑x.1:Int) (aH v.args) (bJ (λt o=>aA (bM v.args.a t o) (0<=(↑x.1:Int)) ((↑x.1:Int)<aH v.args/\∃(u:PV),aU x.2.2 h t (bK o x.1 13) u.enc/\pV (λz f=>bJ (λg j=>∃(d:Int),aA (iN (cQ u) (fH
 (uX k+1)) (iD b)=iN (cQ z) (uX g) (iD j)) (dD h f z) (aA (pS f N) (g<=9) (aA (bZ d) (d<=24) (x.2.2 j=Option.some (oU (Array.mk (bG d)) 3 0)/\∀(s:MH),iU (eA x.2.2 s j (bG (mL f g d).2) 3) (!(mL f g d).1) (K aX s h) (∃(c:Nat×Int×MH),aA (aA (c.1<=uG p) (bZ c.2.1) (aA (c.2.1<=24) (eA m c.2.2 b (bG c.2.1) 3) (1<=k/\NU c p k=mL p k n))) (uG p-c.1<uG p-x.1) (aA (gY (uX k)) (cR b) (aA (aI v.args) (bI v.args) (aA (bD (fZ (bE x.1 1)) c.1) (s=c.2.2) (bN h h))))))))))))) (gK K x.2.2 h))))))
noncomputable abbrev iT(a:Sl):cz:=oB (fJ a)
abbrev wR(a:Sl)(b:PH)(c:ca->Prop):Prop:=CM (λx d=>aA (iT a=iT x) (Ints b x d) (c d))
attribute [push_cast] iT wR
def We(N:Nat)(s t:Sl)(v:PV)(m:MH)(h:PH)(K:bz):Prop:=
  wR s h (λl=>iM (DC l) (K (fX 1) m h) (wR t h (λz=>iM (DC z) (K (fX 1) m h) (pV (λg p=>∃(k:Int),aA (aW (cQ v) 0=aW (cQ g) k) (dD h p g) (aA (pS p N) (bZ k) (k<=24/\fA (qP p k) 24 (K (fX 2) m h) (pV (λj d=>∃(e:Nat),aA (aW (cQ v) 8=aW (cQ j) (↑e:Int)) (dD h d j) (aA (pS d N) (e<=100) (branch (oA d e) (K (fX 2) m h) (∃(n:Sl),rA (λu c x=>pV (λy f=>aA (fJ s::fF t (cQ v)=fJ n::fF u (cQ y)) (Ints h n c) (aA (Ints h u x) (dD h f y) (pS f N/\iM (jP c x f) (K (fX 50) m h) (K (fX 0) m h)))))))))))))))))
abbrev jY(a:MH)(b:PH)(c d:Nat->MH->Prop):Prop:=∀(x:Nat)(e:MH),mH a b x->c x e->d x e
attribute [push_cast] jY
def SQ(N:Nat)(s t:Sl)(v:PV)(m:MH)(h:PH)(K:bz):Prop:=
  wR s h (λl=>iM (DC l) (K (fX 1) m h) (wR t h (λA=>iM (DC A) (K (fX 1) m h) (jY m h (λb d=>eA m d b (bG 24) 3) (λb d=>pV (λj p=>bJ (λk f=>∃(n:Int),aA (iN (cQ v) 1 (iD b)=iN (cQ j) (uX k) (iD f)) (dD h p j) (aA (pS p N) (k<=9) (aA (bZ n) (n<=24) (d f=Option.some (oU (Array.mk (bG n)) 3 0)/\∀(e:MH),iU (eA d e f (bG (mL p k n).2) 3) (!(mL p k n).1) (K (fX 2) e h) (∃(u:Sl),rA (λx c y=>pV (λz g=>aA (cV (lS (jK (fK s) (fK t))) (cQ v)=cV (lS (jK (fK u) (fK x))) (cQ z)) (Ints h u c) (aA (Ints h x y) (dD h g z) (pS g N/\iM (jP c y g) (K (fX 50) e h) (K (fX 0) e h))))))))))))))))
end Go.Ps
namespace Go.Vc
open Go.Ps Go.Proofs List
theorem iL.trans{m m' c:MH}{b:Nat}{o o':Obj}(g:iL m m' b o)(d:iL m' c b o'):iL m c b o':=⟨d.at_,λe f=>(d.other e f).trans (g.other e f)⟩
end Go.Vc
namespace Go.Ps
open Go Go.Vc Go.Proofs List Tryz
variable{K:bz}{m:MH}{h:PH}{ps:ca}{cb:Nat}{sc:cE}{v:QV}{p:Pred}{l:ca}{i:Nat}{N:Nat}{m':MH}{h':PH}{co:ca}{gr:ca}{od:cg}{ta:Int}{li:Int}{xs:List bx}{sz:Nat}{ks:List ca}{rs:ca}{r:Sl}{a:ca}{b:Nat}
theorem WJ:∀N,bu 219 (adZ N)
 |0=>by
  refine dU (fn:=Tryz.f219) (c:=bW Tryz.f219) func219 rfl bg ?_;rintro E m h K ⟨v,p,k,b,n,rfl,Q,V,_⟩;omega
 |N+1=>by
  refine hU func219 ?_;rintro E m h K ⟨v,p,k,b,n,rfl,Q,V,hk,h0,h1,R,j⟩;refine⟨biJ N v p k b n m h,rfl,aE (WJ N) aG,Si N v p k b n m h K,bd,?_⟩;dsimp only[Si,push_cast];obtain⟨hl,S,y⟩:=Q.open;have W:IntKind.i64.wrap (n-1)=n-1:=eH aD aD;refine⟨n,.of_m R rfl,_,_,⟨R⟩,bf,λm' T=>?_⟩;rw[W]at T;have f:iL m m' b (uN (n-1)):=T;refine⟨n-1,.of_m f.at_ rfl,aF (λX=>?_) (λX=>aF (λY=>?_) (λY=>?_))⟩
  .have e:mL p k n=(false,n-1):=by cases p;simp only[mL];grind
   rw[e]at j;exact j m' f
  .have F:k=0:=by omega
   subst F;have e:mL p 0 n=(false,n-1):=by cases p;simp only[mL];grind
   rw[e]at j;exact j m' f
  .refine⟨⟨(0,n-1,m'),⟨bf,bk,bk,f,aD,?_⟩,MT⟩,?_⟩
   .obtain⟨U,rfl⟩:∃U,k=U+1:=⟨k-1,aD⟩
    cases p;simp only[mL,drop_zero,Pred.args]
    grind
   .rintro⟨i,x,Z⟩ ⟨hi,s,z,g,G,d⟩;simp only at hi s z g d;refine aF (λa'=>?_) (λa0=>?_)
    .obtain⟨q,H⟩:∃q,p.args[i]? =some q:=⟨p.args[i]'(by omega),getElem?_eq_getElem _⟩
     obtain⟨b1,o,u,ea,a1,I⟩:=y i q H;have hd:p.args.drop i=q::p.args.drop (i+1):=drop_cons H;refine⟨b1,o,ea,bf,aD,u,.imm bk,u,q,k-1,b,x,?_,I,?_,aD,s,z,g.at_,λJ M=>?_⟩
     .rw[eH aD aD,show(9-((k-1:Nat):Int))=9-(k:Int)+1 by omega]
     .have:=wX (mem_of_getElem? H);omega
     .have t:iL m J b (uN (mL q (k-1) x).2):=g.trans M;rw[hd,yA]at d;obtain⟨A,D⟩:=Lt q (k-1) x s;cases e:mL q (k-1) x with
      |mk r x'=>
       rw[e]at d t A D;cases r with
       |false=>
        simp only at d;rw[<-d]at j;exact j J t
       |true=>
        have a2:=A.1 rfl;have O:=D rfl;have a3:=TT q;simp only at O d;exact⟨(i+1,x',J),⟨aD,bk,bk,t,G,d⟩,aD,MT⟩
    .rw[drop_of_length_le aD]at d;simp only[yA]at d;rw[<-d]at j;exact j Z g
theorem LZ:bu 94 uR:=by
 refine hU func94 ?_;rintro n m h K ⟨s,t,v,d,c,p,rfl,g,j,f,e⟩;refine⟨bSZ (SizeOf.sizeOf p+1),rfl,aE RQ (aE (WS _) (aE (WR _) (aE (WQ _) aG))),We (SizeOf.sizeOf p+1) s t v m h K,bd,?_⟩;dsimp only[We,push_cast];refine⟨s,d,rfl,g,aC (λu=>AU e ?_) (λu=>⟨t,c,rfl,j,aC (λx=>AU e ?_) (λx=>⟨v,p,0,rfl,f,aD,aD,aD,aC (λy=>AU e ?_) (λy=>⟨v,p,8,rfl,f,aD,aD,aC (λz=>AU e ?_) (λz=>⟨s,t,d,c,v,p,rfl,g,j,f,aD,aC (λA=>AU e ?_) (λA=>AU e ?_)⟩)⟩)⟩)⟩)⟩
 all_goals (simp only[gH];simp only[*,Bool.or_false,Bool.false_or,Bool.or_true,Bool.true_or,Bool.and_true,Bool.true_and,Bool.and_false,Bool.false_and,Bool.not_true,Bool.not_false,Bool.false_eq_true,if_true,if_false, ↓reduceIte])
theorem FR{f:FuncId}{fn:Func}(s:Tryz.prog.funcs[f]? =some fn){S:Vc.Spec}(j:∀c m h K,S c m h K->∃C:Ctx,C.P=Tryz.prog/\(∀g S,assoc C.specs g=some S->bu g S)/\∃N:Prop,N=uM C fn (bW fn) (entry fn.ntmps c m h) (λr m' h'=>∃m2 n,(∀b o,m2 b=some o->m' b=some o)/\PH.le h n/\PH.le n h'/\K r m2 n)/\N)(t:fn.body=some (bW fn):=by rfl)(d:(fn.name== "runtime.NumGoroutine")=false:=by decide):bu f S:=RN s t d λc m h K u=>let⟨C,hC,hs,N,e,hn⟩:=j c m h K u;⟨C,hC,hs,e▸hn⟩
theorem IT:bu 156 uR:=by
 refine FR func156 ?_;rintro I m h K ⟨s,t,v,d,c,p,rfl,E,F,G,J⟩;refine⟨bpX (SizeOf.sizeOf p+1),rfl,aE YZ (aE (WJ _) (aE (WH _) aG)),SQ (SizeOf.sizeOf p+1) s t v m h (λr m' h'=>∃j n,(∀b o,j b=some o->m' b=some o)/\PH.le h n/\PH.le n h'/\K r j n),bd,?_⟩;dsimp only[SQ,push_cast];have f:∀(m':MH),(∀b o,m b=some o->m' b=some o)->∀x,gH d c p=x->∃j n,(∀b o,j b=some o->m' b=some o)/\PH.le h n/\PH.le n h/\K (.val (.int .i64 x)) j n:=λm' M x e=>⟨m,h,M,.refl _,.refl _,e▸J⟩
 refine⟨s,d,rfl,E,aC (λO=>f m (λ_ _ e=>e) _ ?_) (λO=>⟨t,c,rfl,F,aC (λQ=>f m (λ_ _ e=>e) _ ?_) (λQ b U R u=>⟨v,p,8,b,24,rfl,G,aD,aD,aD,aD,u.at_,λj A=>?_⟩)⟩)⟩
 .simp only[gH];grind
 .simp only[gH];grind
 .have g:∀b o,m b=some o->j b=some o:=λD o e=>by
   have y:D≠b:=λS=>by rw[S,R.m_]at e;cases e
   rw[A.other D y,u.other D y,e]
  have z:=aCJ p;refine aC (λH=>f j g _ ?_) (λH=>⟨s,t,d,c,v,p,rfl,E,F,G,aD,aC (λT=>f j g _ ?_) (λT=>f j g _ ?_)⟩)
  all_goals (rw[z,Bool.not_not]at H;clear z;simp only[gH];simp only[*,Bool.or_false,Bool.false_or,Bool.or_true,Bool.true_or,Bool.and_true,Bool.true_and,Bool.and_false,Bool.false_and,Bool.not_true,Bool.not_false,Bool.false_eq_true,if_true,if_false, ↓reduceIte])
structure bY{α β:Type}(h:PH)(sz:Nat)(enc:β->bx)(R:α->β->Prop)(s:Sl)(l:List α):Prop where
 ex:∃vs:List β,cD h s sz (vs.map enc)/\l.length=vs.length/\∀(i:Nat)(x:α),l[i]? =some x->∃v,vs[i]? =some v/\R x v
 len:l.length<=502633886983
theorem bY.slen{α β:Type}{enc:β->bx}{R:α->β->Prop}{s:Sl}{l:List α}(r:bY h sz enc R s l):s.len=l.length:=by
 obtain⟨d,c,e,_⟩:=r.ex;have:=c.len
 grind
theorem bY.at{α β:Type}{enc:β->bx}{R:α->β->Prop}{s:Sl}{l:List α}(r:bY h sz enc R s l){x:α}(c:l[i]? =some x):
 ∃b o v,s.a=some ⟨b,o,none⟩/\bL h b (o+i*sz) (enc v)/\R x v:=by
 obtain⟨j,d,_,f⟩:=r.ex;obtain⟨v,g,n⟩:=f i x c;obtain⟨b,o,e,k⟩:=d.get (i:=i) (e:=enc v) (by simp[g])
 grind
theorem bY.mono{α β:Type}{enc:β->bx}{R R':α->β->Prop}{s:Sl}{l:List α}(r:bY h sz enc R s l)(le:PH.le h h')(d:∀x v,R x v->R' x v):bY h' sz enc R' s l:=by
 obtain⟨e,f,g,j⟩:=r.ex;exact⟨⟨e,f.mono le,g,λi x n=>(j i x n).imp λv c=>⟨c.1,d _ _ c.2⟩⟩,r.len⟩
theorem bY.nil{α β:Type}(h:PH)(sz:Nat)(enc:β->bx)(R:α->β->Prop):bY h sz enc R ⟨none,0,0⟩ ([]:List α):=
 ⟨⟨[],.nil h sz,rfl,λi x c=>by simp at c⟩,bf⟩
theorem eT{α:Type}{l:List α}{i n:Nat}(c:n=l.length)(d:(i:Int)<(n:Int)):∃x,l[i]? =some x:=⟨l[i]'(by omega),getElem?_eq_getElem _⟩
def GJ(h:PH)(s:Sl)(ps:cr):Prop:=bY h 13 PV.enc (dD h) s ps
theorem GJ.mono{s:Sl}{ps:cr}(r:GJ h s ps)(le:PH.le h h'):GJ h' s ps:=bY.mono r le λ_ _=>dD.mono le
theorem p8.toL{s:Sl}{ps:cr}{vs:dg}(d:cD h s 13 (vs.map PV.enc))(c:p8 h ps vs)(e:ps.length<=502633886983):GJ h s ps:=
 ⟨⟨vs,d,c.length.symm,λ_ _ f=>c.get f⟩,e⟩
theorem p8.ofL{h:PH}:∀{ps:cr}{vs:dg},ps.length=vs.length->(∀(i:Nat)(x:Pred),ps[i]? =some x->∃v,vs[i]? =some v/\dD h x v)->p8 h ps vs
 |[],[],_,_=>rfl
 |p::ps,v::vs,c,d=>by
  obtain⟨j,f,g⟩:=d 0 p rfl;simp at f;subst f;exact⟨v,vs,rfl,g,p8.ofL bk λi x e=>bt (d (i+1) x (by simpa using e))⟩
 |[],_::_,c,_=>by simp at c
 |_::_,[],c,_=>by simp at c
theorem dD.parts{op c:Int}{l r:OV}{args:cr}{v:PV}(x:dD h (.mk op c l r args) v):v.op=op/\v.cmp=c/\v.left=l/\v.right=r/\GJ h v.args args:=by
 obtain⟨d,e,f,g,j,t,n,s⟩:=x;exact⟨d,e,f,g,s.toL n j⟩
theorem dD.mk{h:PH}{args:cr}{v:PV}(c:GJ h v.args args):dD h (.mk v.op v.cmp v.left v.right args) v:=by
 obtain⟨d,e,f,g⟩:=c.ex;exact⟨rfl,rfl,rfl,rfl,c.len,d,e,.ofL f g⟩
def caJ(N:Nat):Vc.Spec:=λc m h K=>∃v w p q,c=[aP v,aP w]/\dD h p v/\dD h q w/\SizeOf.sizeOf p<N/\∀r:Bool,(r=true↔p=q)->K (cB r) m h
def chJ(N:Nat):Vc.Spec:=λc m h K=>∃s t ps d,c=[cS s,cS t,.val (.func (.func 300) #[] #[])]/\GJ h s ps/\GJ h t d/\(∀p∈ps,SizeOf.sizeOf p<N)/\∀r:Bool,(r=true↔ps=d)->K (cB r) m h
noncomputable def bgZ(N:Nat):Ctx:=ctx [(309,chJ N)] [] [] [] false
noncomputable def bgQ(N:Nat)(s t:Sl)(ps c:cr)(m:MH)(h:PH):Ctx:=
 ctx [(300,caJ N)] [Di 4 (λi=>bQ 32 35 [(1,sv t),(2,vv (.func (.func 300) #[] #[])),(15,sv s),(16,iv s.len),(17,iv i)] [] m h) (λi=>i<=ps.length/\∀j:Nat,j<i->ps[j]? =c[j]?) (λi=>ps.length-i)] [] [] false
noncomputable def bVX(N:Nat)(v w:PV)(ps c:cr)(m:MH)(h:PH):Ctx:=
 ctx [(76,caJ N)] [Di 4 (λi=>bQ 60 62 [(2,.at (.ptr 2 0)),(3,.at (.ptr 3 0)),(43,iv v.args.len),(44,iv i)] [(2,.cells 32 (v.enc.map .val)),(3,.cells 32 (w.enc.map .val))] m h) (λi=>i<=ps.length/\∀j:Nat,j<i->ps[j]? =c[j]?) (λi=>ps.length-i)] [] [] false
abbrev pW(a:Sl->Sl->Prop):Prop:=∃(x c:Sl),a x c
noncomputable abbrev wG:Array Value:=Array.mk []
noncomputable abbrev Cm(a:Nat)(b:Array Value):CV:=CV.val (Value.func (Fn.func a) wG b)
noncomputable abbrev BN(a b:Sl)(c:Nat):cz:=fJ a::fF b (Cm c wG)
attribute [push_cast] pW wG Cm BN
def L6(N:Nat)(v w:PV)(m:MH)(h:PH)(K:bz):Prop:=
  eO v.op w.op (eO v.cmp w.cmp (nU 29 v.left.enc w.left.enc (λr=>branch r (nU 29 v.right.enc w.right.enc (λe=>branch e (pW (λs t=>∃(p q:cr),aA (BN v.args w.args 300=BN s t 300) (GJ h s p) (aA (GJ h t q) (∀(c:Pred),List.Mem c p->pS c N) (∀(d:Bool),(fV d↔p=q)->K (Bc d) m h)))) (K aX m h))) (K aX m h))) (K aX m h)) (K aX m h)
abbrev EB(a:Nat)(b c:cr):Prop:=p7 (a<=b.length) (λx=>x<a->b[x]? =c[x]?)
abbrev Ap(a:Nat):Prop:=eQ (SV.at (At.val (Value.func (Fn.func a) wG wG)))
abbrev Ht(a:PV->PV->Pred->Pred->Prop):Prop:=∃(x:PV),pV (λc d=>∃(e:Pred),a x c d e)
attribute [push_cast] EB Ap Ht
def R3(N:Nat)(s t:Sl)(ps c:cr)(m:MH)(h:PH)(K:bz):Prop:=
  eC (aH s) (aH t) (K aX m h) (p7 (∃(x:Nat),aA (EB x ps c) (aI t) (aA (Ap 300) (aI s) (aA (bI s) (bB x) (aA (m=m) (h=h) True)))) (λx=>EB x ps c->aZ (↑x:Int) (aH s) (bJ (λb o=>aA (bM s.a b o) (0<=(↑x:Int)) ((↑x:Int)<aH s/\∃(y:PV),aU m h b (bK o x 13) y.enc/\Og t.a x t (λf g e=>aU m h f (bK g x 13) e.enc/\Ht (λv w p q=>aA (cV (cQ y) (cQ e)=cV (cQ v) (cQ w)) (dD h p v) (aA (dD h q w) (pS p N) (∀(r:Bool),(fV r↔p=q)->iV (!r) (K aX m h) (λd=>aA (EB d ps c) (ps.length-d<ps.length-x) (aA (aI t) (Ap 300) (aA (aI s) (bI s) (aA (bD (fZ (bE x 1)) d) (m=m) (bN h h)))))))))))) (gK K m h)))
def PK(N:Nat)(v w:PV)(ps c:cr)(m:MH)(h:PH)(K:bz):Prop:=
  cW (v.op !=w.op) (K aX m h) (v.cmp !=w.cmp) (K aX m h) (nU 29 v.left.enc w.left.enc (λr=>iM r (K aX m h) (nU 29 v.right.enc w.right.enc (λn=>cW (!n) (K aX m h) (nI v !=nI w) (K aX m h) (p7 (∃(x:Nat),aA (EB x ps c) dQ (aA bV (vQ v) (aA (bB x) (gS v) (aA (gS w) (m=m) (bN h h))))) (λx=>EB x ps c->aZ (↑x:Int) (aH v.args) (bJ (λb o=>aA (bM v.args.a b o) (0<=(↑x:Int)) ((↑x:Int)<aH v.args/\∃(y:PV),aU m h b (bK o x 13) y.enc/\Og w.args.a x w.args (λs t e=>aU m h s (bK t x 13) e.enc/\Ht (λf g p q=>aA (cV (cQ y) (cQ e)=cV (cQ f) (cQ g)) (dD h p f) (aA (dD h q g) (pS p N) (∀(j:Bool),(fV j↔p=q)->iV (!j) (K aX m h) (λd=>aA (EB
 d ps c) (ps.length-d<ps.length-x) (aA dQ bV (aA (vQ v) (bD (fZ (bE x 1)) d) (aA (gS v) (gS w) (aA (m=m) (h=h) True)))))))))))) (gK K m h)))))))
theorem vJ{α:Type}{a b:List α}(c:a.length=b.length)(d:a.length<=i)(h:∀j:Nat,j<i->a[j]? =b[j]?):a=b:=by
 apply ext_getElem?
 grind
theorem sI{α:Type}{a b:List α}{x y:α}(c:a[i]? =some x)(d:b[i]? =some y)(e:x=y)(h:∀j:Nat,j<i->a[j]? =b[j]?):∀j:Nat,j<i+1->a[j]? =b[j]? :=by
 grind
theorem JF{α:Type}{a b:List α}{x y:α}(c:a[i]? =some x)(d:b[i]? =some y)(e:x≠y):a≠b:=λh=>by
 grind
theorem Gm{α β:Type}{s t:Sl}{a:List α}{b:List β}(c:s.len=a.length)(d:t.len=b.length)(e:((s.len:Int) !=(t.len:Int))=true):a.length≠b.length:=λh=>by
 grind
theorem Fk{α β:Type}{s t:Sl}{a:List α}{b:List β}(c:s.len=a.length)(d:t.len=b.length)(e:((s.len:Int) !=(t.len:Int))=false):a.length=b.length:=by
 grind
theorem b0X{v w:PV}{q:Pred}(u:dD h p v)(x:dD h q w)(H:SizeOf.sizeOf p<N+1)(s:∀r:Bool,(r=true↔p=q)->K (cB r) m h):L6 N v w m h K:=by
 dsimp only[L6,push_cast];have d:p≠q->K (cB false) m h:=λh=>s false ⟨λe=>(by cases e),λe=>(h e).elim⟩;have c:=@wX p;obtain⟨op,y,l,r,ps⟩:=p;obtain⟨z,t,I,J,A⟩:=q;obtain⟨rfl,rfl,rfl,rfl,j⟩:=u.parts;obtain⟨rfl,rfl,rfl,rfl,n⟩:=x.parts;refine aC (λD=>aC (λE=>⟨_,AN _ _,aC (λf=>⟨_,AN _ _,aC (λg=>⟨v.args,w.args,ps,A,rfl,j,n,λp F=>?_,λr G=>s r (G.trans ?_)⟩) (λg=>d λe=>?_)⟩) (λf=>d λe=>?_)⟩) (λE=>d λe=>?_)) (λD=>d λe=>?_)
 .have:=c (q:=p) F;omega
 .rw[uA]at f g
  grind
 .injection e with _ _ _ e _;rw[uA.2 e]at g;cases g
 .injection e with _ _ e _ _;rw[uA.2 e]at f;cases f
 .grind
 grind
theorem WD:∀N,bu 300 (caJ N)
 |0=>by
  refine dU (fn:=Tryz.f300) (c:=bW Tryz.f300) func300 rfl bg ?_;rintro g m h K ⟨v,w,p,q,rfl,D,_,E,_⟩;omega
 |N+1=>by
  have z:bu 309 (chJ N):=by
   refine hU func309 ?_;rintro g m h K ⟨s,t,ps,F,rfl,I,R,E,G⟩;refine⟨bgQ N s t ps F m h,rfl,aE (WD N) aG,R3 N s t ps F m h K,bd,?_⟩;dsimp only[R3,push_cast];have d:=I.slen;have A:=R.slen;have U:=I.len;have S:ps≠F->K (cB false) m h:=λh=>G false ⟨λe=>(by cases e),λe=>(h e).elim⟩;refine aC (λJ=>S (λe=>Gm d A J (by rw[e]))) (λJ=>?_);have V:=Fk d A J;refine⟨⟨0,⟨aD,λj hj=>by omega⟩,MT⟩,λi T=>aF (λf=>?_) (λW=>?_)⟩
   .obtain⟨x,H⟩:=eT d f;obtain⟨y,M⟩:∃y,F[i]? =some y:=eT (n:=s.len) aD f;obtain⟨X,Y,u,Z,r1,ru⟩:=I.at H;obtain⟨b2,o2,w,e2,r2,O⟩:=R.at M;refine⟨X,Y,Z,aD,f,u,.imm r1,b2,o2,e2,aD,aD,w,.imm r2,u,w,x,y,rfl,ru,O,E x (mem_of_getElem? H),λr D=>aC (λa'=>S (JF H M (λe=>?_))) (λhe=>?_)⟩
    .grind
    .have Q:r=true:=bk
     exact⟨i+1,⟨aD,sI H M (D.1 Q) T.2⟩,aD,MT⟩
   .exact G true ⟨λ_=>vJ V aD T.2,λ_=>rfl⟩
  refine hU func300 ?_;rintro g m h K ⟨v,w,p,q,rfl,D,hq,E,G⟩;refine⟨bgZ N,rfl,aE z aG,L6 N v w m h K,bd,?_⟩;exact b0X D hq E G
theorem csZ{v w:PV}{q:Pred}(U:dD h p v)(V:dD h q w)(hN:SizeOf.sizeOf p<N+1)(D:∀r:Bool,(r=true↔p=q)->K (cB r) m h):PK N v w p.args q.args m h K:=by
 dsimp only[PK,push_cast];have c:p≠q->K (cB false) m h:=λh=>D false ⟨λe=>(by cases e),λe=>(h e).elim⟩;have d:=@wX p;obtain⟨op,W,l,r,ps⟩:=p;obtain⟨X,O,l',r',Q⟩:=q;obtain⟨rfl,rfl,rfl,rfl,E⟩:=U.parts;obtain⟨rfl,rfl,rfl,rfl,R⟩:=V.parts;simp only[Pred.args]at d⊢
 have g:=E.slen;have F:=R.slen;have Y:=E.len;refine aC (λG=>c λe=>?_) (λG=>aC (λH=>c λe=>?_) (λH=>⟨_,AN _ _,aC (λs=>c λe=>?_) (λs=>⟨_,AN _ _,aC (λt=>c λe=>?_) (λt=>aC (λS=>c λe=>?_) (λS=>?_))⟩)⟩))
 .grind
 .grind
 .injection e with _ _ e _ _;rw[uA.2 e]at s;cases s
 .injection e with _ _ _ e _;rw[uA.2 e]at t;cases t
 .grind
 .have Z:=Fk g F S;have s:v.left=w.left:=uA.1 bk;have t:v.right=w.right:=uA.1 bk;have G:v.op=w.op:=bk
  have H:v.cmp=w.cmp:=bk
  rw[G,H,s,t]at D c;have c:ps≠Q->K (cB false) m h:=λA=>c λe=>A (by injection e);refine⟨⟨0,⟨aD,λj hj=>by omega⟩,MT⟩,λi T=>aF (λf=>?_) (λa'=>?_)⟩
  .obtain⟨x,I⟩:=eT g f;obtain⟨y,J⟩:∃y,Q[i]? =some y:=eT (n:=v.args.len) aD f;obtain⟨b1,o1,u,e1,r1,ru⟩:=E.at I;obtain⟨b2,o2,z,e2,r2,rz⟩:=R.at J;refine⟨b1,o1,e1,aD,f,u,.imm r1,b2,o2,e2,aD,aD,z,.imm r2,u,z,x,y,rfl,ru,rz,?_,λr hr=>aC (λA=>c (JF I J (λe=>?_))) (λhe=>?_)⟩
   .grind
   .grind
   .have M:r=true:=bk
    exact⟨i+1,⟨aD,sI I J (hr.1 M) T.2⟩,aD,MT⟩
  .exact D true ⟨λ_=>by rw[vJ Z aD T.2],λ_=>rfl⟩
theorem apZ:∀N,bu 76 (caJ N)
 |0=>by
  refine dU (fn:=Tryz.f76) (c:=bW Tryz.f76) func76 rfl bg ?_;rintro d m h K ⟨v,w,p,q,rfl,e,_,f,_⟩;omega
 |N+1=>by
  refine hU func76 ?_;rintro d m h K ⟨v,w,p,q,rfl,e,g,f,j⟩;refine⟨bVX N v w p.args q.args m h,rfl,aE (apZ N) aG,PK N v w p.args q.args m h K,bd,?_⟩;exact csZ e g f j
def bJQ:Vc.Spec:=λc m h K=>∃v w p q,c=[aP v,aP w]/\dD h p v/\dD h q w/\∀r:Bool,(r=true↔p=q)->K (cB r) m h
theorem gW{f:FuncId}{S:Nat->Vc.Spec}{S':Vc.Spec}(h:∀N,bu f (S N))(e:∀c m h K,S' c m h K->∃N,S N c m h K):bu f S':=by
 refine⟨(h 0).1,λc g m d w K j n=>?_⟩;obtain⟨N,s⟩:=e c m d K j;exact(h N).2 c g m d w K s n
theorem Yt:bu 300 bJQ:=gW WD λ_ _ _ _⟨v,w,p,q,e,c,d,f⟩=>⟨SizeOf.sizeOf p+1,v,w,p,q,e,c,d,aD,f⟩
theorem RV:bu 76 bJQ:=gW apZ λ_ _ _ _⟨v,w,p,q,e,c,d,f⟩=>⟨SizeOf.sizeOf p+1,v,w,p,q,e,c,d,aD,f⟩
theorem KZ{d e c i:Nat}{g:cv}{xs f:Array Value}{w:World}{x y:Value}{r r':Bool}(j:Be Tryz.prog (part e xs (i*c))=some x)(n:Be Tryz.prog (part e f (i*c))=some y)
 (s:(Op.equalIn d e x y).run Tryz.prog w= .ok r w)(t:(Op.eqItems d e c xs f g).run Tryz.prog w= .ok r' w):(Op.eqItems d e c xs f (i::g)).run Tryz.prog w= .ok (r&&r') w:=by
 simp only[Op.eqItems,Sem.run_bind,Ch _ _ _ j,Ch _ _ _ n,Result.andThen_ok,s];cases r
 .simp
 grind
def cvQ(a b:Int×Int):Bool:=a.1==b.1&&(a.2==b.2&&true)
def cuJ(a b:Int×Bool):Bool:=a.1==b.1&&(a.2==b.2&&true)
theorem W7(a b:Int×Int):StructEq Tryz.prog 101 (.agg #[.int .i64 a.1,.int .i64 a.2]) (.agg #[.int .i64 b.1,.int .i64 b.2]) (cvQ a b):=by
 refine⟨bd,λw=>?_⟩;obtain⟨i,c⟩:=Option.isSome_iff_exists.1 (show(Tryz.prog.info? 3).isSome=true by kernel_rfl);rw[run_equalIn_array w 9999 (e:=3) (n:=2) _ _ bd c,show Tryz.prog.cellsOf 3=1 by kernel_rfl,show List.range 2=[0,1]from rfl];refine KZ (x:=.int .i64 a.1) (y:=.int .i64 b.1) bd bd (run_equalIn_int w 9998 _ .i64 .i64 _ _ bd) ?_;refine KZ (x:=.int .i64 a.2) (y:=.int .i64 b.2) bd bd (run_equalIn_int w 9998 _ .i64 .i64 _ _ bd) ?_;simp[Op.eqItems]
theorem W6(a b:Int×Bool):StructEq Tryz.prog 103 (.agg #[.int .i64 a.1,.bool a.2]) (.agg #[.int .i64 b.1,.bool b.2]) (cuJ a b):=by
 refine⟨bd,λw=>?_⟩;rw[run_equalIn_struct w 9999 103 _ _ bd bd,show(Tryz.prog.fieldsOf 103).toList=[Q0 103 0,Q0 103 1]by kernel_rfl];refine mZ (x:=.int .i64 a.1) (y:=.int .i64 b.1) bd bd bd (run_equalIn_int w 9998 _ .i64 .i64 _ _ bd) ?_;refine mZ (x:=.bool a.2) (y:=.bool b.2) bd bd bd (run_equalIn_bool w 9998 _ _ _ bd) ?_;simp[Op.eqFields]
theorem KX{a b:Int×Int}:cvQ a b=true↔a=b:=by
 obtain⟨c,d⟩:=a;obtain⟨e,f⟩:=b;simp[cvQ]
theorem KW{a b:Int×Bool}:cuJ a b=true↔a=b:=by
 obtain⟨c,d⟩:=a;obtain⟨e,f⟩:=b;simp[cuJ]
theorem iF.at{s:Sl}{l:ce}(r:iF h s l){x:Int×Int}(c:l[i]? =some x):∃b o,s.a=some ⟨b,o,none⟩/\bL h b (o+i*2) (kX x):=r.row.get (by simp[c])
theorem jT.at{s:Sl}{l:cg}(r:jT h s l){x:Int×Bool}(c:l[i]? =some x):∃b o,s.a=some ⟨b,o,none⟩/\bL h b (o+i*2) (rN x):=r.row.get (by simp[c])
def Tw:Vc.Spec:=λc m h K=>∃(s t:Sl)(a b:ce),c=[cS s,cS t]/\iF h s a/\iF h t b/\∀r:Bool,(r=true↔a=b)->K (cB r) m h
def Tv:Vc.Spec:=λc m h K=>∃(s t:Sl)(a b:cg),c=[cS s,cS t]/\jT h s a/\jT h t b/\∀r:Bool,(r=true↔a=b)->K (cB r) m h
noncomputable def WC{α:Type}(s t:Sl)(a b:List α)(m:MH)(h:PH):Ctx:=
 ctx [] [Di 4 (λi=>bQ 26 28 [(0,sv s),(1,sv t),(12,iv s.len),(13,iv i)] [] m h) (λi=>i<=a.length/\∀j:Nat,j<i->a[j]? =b[j]?) (λi=>a.length-i)] [] [] false
abbrev EG(a:Nat)(b c:ce):Prop:=p7 (a<=b.length) (λx=>x<a->b[x]? =c[x]?)
noncomputable abbrev Bi(a b:Int):bx:=jK (eF a) (eF b)
noncomputable abbrev pB(a:Int×Int):bx:=Bi a.1 a.2
attribute [push_cast] EG Bi pB
def R6(s t:Sl)(a b:ce)(m:MH)(h:PH)(K:bz):Prop:=
  eC (aH s) (aH t) (K aX m h) (p7 (∃(x:Nat),aA (EG x a b) (aI s) (aA (aI t) (bI s) (bP (bB x) (m=m) (h=h)))) (λx=>EG x a b->aZ (↑x:Int) (aH s) (bJ (λd o=>aA (bM s.a d o) (0<=(↑x:Int)) ((↑x:Int)<aH s/\∃(y:Int×Int),aU m h d (bK o x 2) (pB y)/\bJ (λe f=>aA (bM t.a e f) (0<=(↑x:Int)) ((↑x:Int)<aH t/\∃(g:Int×Int),aU m h e (bK f x 2) (pB g)/\nU 101 (pB y) (pB g) (λr=>iV (!r) (K aX m h) (λc=>aA (EG c a b) (a.length-c<a.length-x) (aA (aI s) (aI t) (aA (bI s) (bD (fZ (bE x 1)) c) (aA (m=m) (h=h) True)))))))))) (gK K m h)))
abbrev EH(a:Nat)(b c:cg):Prop:=p7 (a<=b.length) (λx=>x<a->b[x]? =c[x]?)
noncomputable abbrev tS(a:Int×Bool):bx:=jK (eF a.1) (Value.bool a.2)
attribute [push_cast] EH tS
def R5(s t:Sl)(a b:cg)(m:MH)(h:PH)(K:bz):Prop:=
  eC (aH s) (aH t) (K aX m h) (p7 (∃(x:Nat),aA (EH x a b) (aI s) (aA (aI t) (bI s) (bP (bB x) (m=m) (h=h)))) (λx=>EH x a b->aZ (↑x:Int) (aH s) (bJ (λd o=>aA (bM s.a d o) (0<=(↑x:Int)) ((↑x:Int)<aH s/\∃(y:Int×Bool),aU m h d (bK o x 2) (tS y)/\bJ (λe f=>aA (bM t.a e f) (0<=(↑x:Int)) ((↑x:Int)<aH t/\∃(g:Int×Bool),aU m h e (bK f x 2) (tS g)/\nU 103 (tS y) (tS g) (λr=>iV (!r) (K aX m h) (λc=>aA (EH c a b) (a.length-c<a.length-x) (aA (aI s) (aI t) (aA (bI s) (bD (fZ (bE x 1)) c) (aA (m=m) (h=h) True)))))))))) (gK K m h)))
theorem Ys:bu 301 Tw:=by
 refine hU func301 ?_;rintro I m h K ⟨s,t,a,b,rfl,u,E,F⟩;refine⟨WC s t a b m h,rfl,aG,R6 s t a b m h K,bd,?_⟩;dsimp only[R6,push_cast];have c:=u.slen;have f:=E.slen;have J:=u.len;have G:a≠b->K (cB false) m h:=λh=>F false ⟨λe=>(by cases e),λe=>(h e).elim⟩;refine aC (λz=>G (λe=>Gm c f z (by rw[e]))) (λz=>?_);have M:=Fk c f z;refine⟨⟨0,⟨aD,λj Y=>by omega⟩,MT⟩,λi H=>aF (λd=>?_) (λO=>?_)⟩
 .obtain⟨x,A⟩:=eT c d;obtain⟨y,D⟩:∃y,b[i]? =some y:=eT (n:=s.len) aD d;obtain⟨Q,R,S,T⟩:=u.at A;obtain⟨U,V,W,X⟩:=E.at D;refine⟨Q,R,S,aD,d,x,.imm T,U,V,W,aD,aD,y,.imm X,_,W7 x y,aC (λg=>G (JF A D (λe=>?_))) (λZ=>?_)⟩
  .rw[KX.2 e]at g;cases g
  .exact⟨i+1,⟨aD,sI A D (KX.1 bk) H.2⟩,aD,MT⟩
 .exact F true ⟨λ_=>vJ M aD H.2,λ_=>rfl⟩
theorem Yr:bu 302 Tv:=by
 refine hU func302 ?_;rintro I m h K ⟨s,t,a,b,rfl,u,E,F⟩;refine⟨WC s t a b m h,rfl,aG,R5 s t a b m h K,bd,?_⟩;dsimp only[R5,push_cast];have c:=u.slen;have f:=E.slen;have J:=u.len;have G:a≠b->K (cB false) m h:=λh=>F false ⟨λe=>(by cases e),λe=>(h e).elim⟩;refine aC (λz=>G (λe=>Gm c f z (by rw[e]))) (λz=>?_);have M:=Fk c f z;refine⟨⟨0,⟨aD,λj Y=>by omega⟩,MT⟩,λi H=>aF (λd=>?_) (λO=>?_)⟩
 .obtain⟨x,A⟩:=eT c d;obtain⟨y,D⟩:∃y,b[i]? =some y:=eT (n:=s.len) aD d;obtain⟨Q,R,S,T⟩:=u.at A;obtain⟨U,V,W,X⟩:=E.at D;refine⟨Q,R,S,aD,d,x,.imm T,U,V,W,aD,aD,y,.imm X,_,W6 x y,aC (λg=>G (JF A D (λe=>?_))) (λZ=>?_)⟩
  .rw[KW.2 e]at g;cases g
  .exact⟨i+1,⟨aD,sI A D (KW.1 bk) H.2⟩,aD,MT⟩
 .exact F true ⟨λ_=>vJ M aD H.2,λ_=>rfl⟩
noncomputable def Oo(s t:Sl)(a b:ca)(m:MH)(h:PH):Ctx:=
 ctx [] [Di 4 (λi=>bQ 26 28 [(0,sv s),(1,sv t),(12,iv s.len),(13,iv i)] [] m h) (λi=>i<=a.length/\∀j:Nat,j<i->a[j]? =b[j]?) (λi=>a.length-i)] [] [] false
def KU(s t:Sl)(a b:ca)(m:MH)(h:PH)(K:bz):Prop:=
  eC (aH s) (aH t) (K aX m h) (p7 (∃(x:Nat),aA (p7 (x<=a.length) (λj=>j<x->a[j]? =b[j]?)) (aI s) (aA (aI t) (bI s) (bP (bB x) (m=m) (h=h)))) (λx=>p7 (x<=a.length) (λj=>j<x->a[j]? =b[j]?)->aZ (↑x:Int) (aH s) (bJ (λd o=>aA (bM s.a d o) (0<=(↑x:Int)) ((↑x:Int)<aH s/\∃(y:Int),aU m h d (bK o x 1) (bG y)/\bJ (λe f=>aA (bM t.a e f) (0<=(↑x:Int)) ((↑x:Int)<aH t/\∃(g:Int),aU m h e (bK f x 1) (bG g)/\iV (y !=g) (K aX m h) (λc=>aA (p7 (c<=a.length) (λj=>j<c->a[j]? =b[j]?)) (a.length-c<a.length-x) (aA (aI s) (aI t) (aA (bI s) (bD (fZ (bE x 1)) c) (aA (m=m) (h=h) True))))))))) (gK K m h)))
theorem csJ(s t:Sl)(a b:ca)(m:MH)(h:PH)(K:bz):KU s t a b m h K=(uM (Oo s t a b m h) Tryz.f75 (bW Tryz.f75) (entry 26 [cS s,cS t] m h) K):=bd
theorem b5Q(s t:Sl)(a b:ca)(m:MH)(h:PH)(K:bz):KU s t a b m h K=(uM (Oo s t a b m h) Tryz.f162 (bW Tryz.f162) (entry 26 [cS s,cS t] m h) K):=bd
def A8:Vc.Spec:=λc m h K=>∃(s t:Sl)(a b:ca),c=[cS s,cS t]/\Ints h s a/\Ints h t b/\∀r:Bool,(r=true↔a=b)->K (cB r) m h
theorem bfQ{s t:Sl}{b:ca}(c:Ints h s a)(f:Ints h t b)(g:∀r:Bool,(r=true↔a=b)->K (cB r) m h):KU s t a b m h K:=by
 dsimp only[KU,push_cast];have u:=c.slen;have z:=f.slen;have A:=c.len;have n:a≠b->K (cB false) m h:=λh=>g false ⟨λe=>by(cases e),λe=>(h e).elim⟩;refine aC (λD=>n (λe=>?_)) (λD=>?_)
 .grind
 .have T:a.length=b.length:=bk
  refine⟨⟨0,⟨aD,λj E=>by omega⟩,rfl,rfl,rfl,rfl,rfl,rfl,trivial⟩,λi U=>aF (λd=>?_) (λF=>?_)⟩
  .obtain⟨x,G⟩:∃x,a[i]? =some x:=⟨a[i]'(by omega),getElem?_eq_getElem _⟩
   obtain⟨y,H⟩:∃y,b[i]? =some y:=⟨b[i]'(by omega),getElem?_eq_getElem _⟩
   obtain⟨I,J,M,V⟩:=c.at G;obtain⟨O,Q,R,W⟩:=f.at H;refine⟨I,J,M,aD,d,x,.imm bk,O,Q,R,aD,aD,y,.imm bk,aC (λS=>n (λe=>?_)) (λX=>?_)⟩
   .grind
   .have:x=y:=bk
    refine⟨i+1,⟨aD,λj E=>?_⟩,aD,rfl,rfl,rfl,by rw[jO aD],rfl,rfl,trivial⟩
    grind
  .refine g true ⟨λ_=>?_,λ_=>rfl⟩;apply ext_getElem?
   grind
theorem RW:bu 75 A8:=by
 refine dU (fn:=Tryz.f75) (c:=bW Tryz.f75) func75 rfl bg ?_;rintro d m h K ⟨s,t,a,b,rfl,e,f,g⟩;exact⟨Oo s t a b m h,rfl,aG,(csJ s t a b m h K)▸bfQ e f g⟩
theorem Fv:bu 162 A8:=by
 refine dU (fn:=Tryz.f162) (c:=bW Tryz.f162) func162 rfl bg ?_;rintro d m h K ⟨s,t,a,b,rfl,e,f,g⟩;exact⟨Oo s t a b m h,rfl,aG,(b5Q s t a b m h K)▸bfQ e f g⟩
def aQ(v:QV):CV:=.val (.agg ⟨v.enc⟩)
def Query.args:Query->ci
 |.mk _ _ _ _ _ _ _ _ l=>l
theorem sL{p:Query}{q:Query}(h:q∈p.args):SizeOf.sizeOf q<SizeOf.sizeOf p:=by
 cases p with
 |mk op t w c o g s l args=>
  have:=sizeOf_lt_of_mem h;simp only[Query.args]at this
  grind
def FM(h:PH)(s:Sl)(ps:ci):Prop:=bY h 21 QV.enc (bU h) s ps
theorem FM.mono{s:Sl}{ps:ci}(r:FM h s ps)(le:PH.le h h'):FM h' s ps:=bY.mono r le λ_ _=>bU.mono le
theorem rD.ofL{h:PH}:∀{ps:ci}{vs:db},ps.length=vs.length->(∀(i:Nat)(x:Query),ps[i]? =some x->∃v,vs[i]? =some v/\bU h x v)->rD h ps vs
 |[],[],_,_=>rfl
 |p::ps,v::vs,c,d=>by
  obtain⟨j,f,g⟩:=d 0 p rfl;simp at f;subst f;exact⟨v,vs,rfl,g,rD.ofL bk λi x e=>bt (d (i+1) x (by simpa using e))⟩
 |[],_::_,c,_=>by simp at c
 |_::_,[],c,_=>by simp at c
structure kW(h:PH)(op table:Int)(w:Pred)(c:ca)(o:ce)(g:ca)(s:cg)(l:Int)(args:ci)(v:QV):Prop where
 op_:v.op=op
 table_:v.table=table
 where_:dD h w v.where_
 columns_:Ints h v.columns c
 on_:iF h v.on o
 group_:Ints h v.group g
 order_:jT h v.order s
 limit_:v.limit=l
 args_:FM h v.args args
theorem bU.parts{op table:Int}{w:Pred}{c:ca}{o:ce}{g:ca}{s:cg}{l:Int}{args:ci}(x:bU h (.mk op table w c o g s l args) v):kW h op table w c o g s l args v:=by
 obtain⟨f,j,n,t,u,y,z,A,D,E,e,d⟩:=x;exact⟨f,j,n,t,u,y,z,A,⟨⟨E,e,d.length.symm,λ_ _ F=>d.get F⟩,D⟩⟩
theorem kW.rep{op table:Int}{w:Pred}{c:ca}{o:ce}{g:ca}{s:cg}{l:Int}{args:ci}(x:kW h op table w c o g s l args v):bU h (.mk op table w c o g s l args) v:=by
 obtain⟨d,e,f,j⟩:=x.args_.ex;exact⟨x.op_,x.table_,x.where_,x.columns_,x.on_,x.group_,x.order_,x.limit_,x.args_.len,d,e,.ofL f j⟩
def caX(N:Nat):Vc.Spec:=λc m h K=>∃v w p q,c=[aQ v,aQ w]/\bU h p v/\bU h q w/\SizeOf.sizeOf p<N/\∀r:Bool,(r=true↔p=q)->K (cB r) m h
def caZ:Vc.Spec:=λc m h K=>∃v w p q,c=[aQ v,aQ w]/\bU h p v/\bU h q w/\∀r:Bool,(r=true↔p=q)->K (cB r) m h
def chZ(N:Nat):Vc.Spec:=λc m h K=>∃s t ps d,c=[cS s,cS t,.val (.func (.func 290) #[] #[])]/\FM h s ps/\FM h t d/\(∀p∈ps,SizeOf.sizeOf p<N)/\∀r:Bool,(r=true↔ps=d)->K (cB r) m h
noncomputable def bgJ(N:Nat):Ctx:=ctx [(300,bJQ),(162,A8),(301,Tw),(302,Tv),(303,chZ N)] [] [] [] false
noncomputable def bgX(N:Nat)(s t:Sl)(ps c:ci)(m:MH)(h:PH):Ctx:=
 ctx [(290,caX N)] [Di 4 (λi=>bQ 32 35 [(1,sv t),(2,vv (.func (.func 290) #[] #[])),(15,sv s),(16,iv s.len),(17,iv i)] [] m h) (λi=>i<=ps.length/\∀j:Nat,j<i->ps[j]? =c[j]?) (λi=>ps.length-i)] [] [] false
abbrev mC(a b:cz)(c d:Prop)(e:Bool->Prop):Prop:=aA (a=b) c (d/\∀(x:Bool),e x)
noncomputable abbrev yG(a:QV):CV:=cQ a.where_
noncomputable abbrev dT(a b:Sl):cz:=fF a (fJ b)
abbrev vV(a:Query)(b:Nat):Prop:=SizeOf.sizeOf a<b
attribute [push_cast] mC yG dT vV
def L8(N:Nat)(v w:QV)(m:MH)(h:PH)(K:bz):Prop:=
  eO v.op w.op (eO v.table w.table (eO v.limit w.limit (Ht (λd e p q=>mC (cV (yG v) (yG w)) (cV (cQ d) (cQ e)) (dD h p d) (dD h q e) (λr=>iU (fV r↔p=q) r (∃(s:Sl),rA (λt a b=>mC (dT v.columns w.columns) (dT s t) (Ints h s a) (Ints h t b) (λf=>iU (fV f↔a=b) f (pW (λg j=>∃(n u:ce),mC (dT v.on w.on) (dT g j) (iF h g n) (iF h j u) (λx=>iU (fV x↔n=u) x (∃(y:Sl),rA (λz A D=>mC (dT v.group w.group) (dT y z) (Ints h y A) (Ints h z D) (λE=>iU (fV E↔A=D) E (pW (λF G=>∃(H I:cg),mC (dT v.order w.order) (dT F G) (jT h F H) (jT h G I) (λJ=>iU (fV J↔H=I) J (pW (λM O=>∃(c
 Q:ci),aA (BN v.args w.args 290=BN M O 290) (FM h M c) (aA (FM h O Q) (∀(R:Query),List.Mem R c->vV R N) (∀(S:Bool),(fV S↔c=Q)->K (Bc S) m h)))) (K aX m h)))) (K aX m h)))) (K aX m h)))) (K aX m h)))) (K aX m h)))) (K aX m h)) (K aX m h)) (K aX m h)
abbrev EI(a:Nat)(b c:ci):Prop:=p7 (a<=b.length) (λx=>x<a->b[x]? =c[x]?)
abbrev Oh(a:Option Addr)(b:Nat)(c:Sl)(d:Nat->Nat->QV->Prop):Prop:=bJ (λx e=>aA (bM a x e) (0<=(↑b:Int)) ((↑b:Int)<aH c/\∃(f:QV),d x e f))
abbrev mU(a:QV->Query->Prop):Prop:=∃(x:QV)(c:Query),a x c
abbrev Kn(a:QV->QV->Query->Query->Prop):Prop:=∃(x:QV),mU (λc d=>∃(e:Query),a x c d e)
noncomputable abbrev cN(a:QV):CV:=lS a.enc
attribute [push_cast] EI Oh mU Kn cN
def R4(N:Nat)(s t:Sl)(ps c:ci)(m:MH)(h:PH)(K:bz):Prop:=
  eC (aH s) (aH t) (K aX m h) (p7 (∃(x:Nat),aA (EI x ps c) (aI t) (aA (Ap 290) (aI s) (aA (bI s) (bB x) (aA (m=m) (h=h) True)))) (λx=>EI x ps c->aZ (↑x:Int) (aH s) (bJ (λb o=>aA (bM s.a b o) (0<=(↑x:Int)) ((↑x:Int)<aH s/\∃(y:QV),aU m h b (bK o x 21) y.enc/\Oh t.a x t (λf g e=>aU m h f (bK g x 21) e.enc/\Kn (λv w p q=>aA (cV (cN y) (cN e)=cV (cN v) (cN w)) (bU h p v) (aA (bU h q w) (vV p N) (∀(r:Bool),(fV r↔p=q)->iV (!r) (K aX m h) (λd=>aA (EI d ps c) (ps.length-d<ps.length-x) (aA (aI t) (Ap 290) (aA (aI s) (bI s) (aA (bD (fZ (bE x 1)) d) (m=m) (bN h h)))))))))))) (gK K m h)))
theorem b0J{w:QV}{p q:Query}(s:bU h p v)(t:bU h q w)(R:SizeOf.sizeOf p<N+1)(n:∀r:Bool,(r=true↔p=q)->K (cB r) m h):L8 N v w m h K:=by
 dsimp only[L8,push_cast];have c:p≠q->K (cB false) m h:=λh=>n false ⟨λe=>(by cases e),λe=>(h e).elim⟩;have d:=@sL p;obtain⟨op,ta,S,co,on,gr,od,li,ps⟩:=p;obtain⟨u,x,y,z,A,D,E,F,T⟩:=q;have a:=s.parts;have b:=t.parts
 refine aC (λf=>aC (λg=>aC (λj=>⟨_,_,_,_,rfl,a.where_,b.where_,λU V=>aC (λG=>⟨_,_,_,_,rfl,a.columns_,b.columns_,λW X=>aC (λH=>⟨_,_,_,_,rfl,a.on_,b.on_,λY Z=>aC (λI=>⟨_,_,_,_,rfl,a.group_,b.group_,λr7 h7=>aC (λJ=>⟨_,_,_,_,rfl,a.order_,b.order_,λr8 h8=>aC (λM=>⟨_,_,_,_,rfl,a.args_,b.args_,λp O=>?_,λr Q=>n r (Q.trans ?_)⟩)
  (λM=>c λe=>?_)⟩) (λJ=>c λe=>?_)⟩) (λI=>c λe=>?_)⟩) (λH=>c λe=>?_)⟩) (λG=>c λe=>?_)⟩) (λj=>c λe=>?_)) (λg=>c λe=>?_)) (λf=>c λe=>?_)
 .have:=d (q:=p) O;omega
 .rw[a.op_,b.op_,beq_iff_eq]at f;rw[a.table_,b.table_,beq_iff_eq]at g;rw[a.limit_,b.limit_,beq_iff_eq]at j
  grind
 .grind
 .grind
 .grind
 .grind
 .grind
 .injection e with _ _ _ _ _ _ _ e _;rw[a.limit_,b.limit_,e]at j;simp at j
 .injection e with _ e _ _ _ _ _ _ _;rw[a.table_,b.table_,e]at g;simp at g
 .injection e with e _ _ _ _ _ _ _ _;rw[a.op_,b.op_,e]at f;simp at f
theorem WG:∀N,bu 290 (caX N)
 |0=>by
  refine dU (fn:=Tryz.f290) (c:=bW Tryz.f290) func290 rfl bg ?_;rintro g m h K ⟨v,w,p,q,rfl,D,_,E,_⟩;omega
 |N+1=>by
  have z:bu 303 (chZ N):=by
   refine hU func303 ?_;rintro g m h K ⟨s,t,ps,F,rfl,I,R,E,G⟩;refine⟨bgX N s t ps F m h,rfl,aE (WG N) aG,R4 N s t ps F m h K,bd,?_⟩;dsimp only[R4,push_cast];have d:=I.slen;have A:=R.slen;have U:=I.len;have S:ps≠F->K (cB false) m h:=λh=>G false ⟨λe=>(by cases e),λe=>(h e).elim⟩;refine aC (λJ=>S (λe=>Gm d A J (by rw[e]))) (λJ=>?_);have V:=Fk d A J;refine⟨⟨0,⟨aD,λj hj=>by omega⟩,MT⟩,λi T=>aF (λf=>?_) (λW=>?_)⟩
   .obtain⟨x,H⟩:=eT d f;obtain⟨y,M⟩:∃y,F[i]? =some y:=eT (n:=s.len) aD f;obtain⟨X,Y,u,Z,r1,ru⟩:=I.at H;obtain⟨b2,o2,w,e2,r2,O⟩:=R.at M;refine⟨X,Y,Z,aD,f,u,.imm r1,b2,o2,e2,aD,aD,w,.imm r2,u,w,x,y,rfl,ru,O,E x (mem_of_getElem? H),λr D=>aC (λa'=>S (JF H M (λe=>?_))) (λhe=>?_)⟩
    .grind
    .have Q:r=true:=bk
     exact⟨i+1,⟨aD,sI H M (D.1 Q) T.2⟩,aD,MT⟩
   .exact G true ⟨λ_=>vJ V aD T.2,λ_=>rfl⟩
  refine hU func290 ?_;rintro g m h K ⟨v,w,p,q,rfl,D,hq,E,G⟩;refine⟨bgJ N,rfl,aE Yt (aE Fv (aE Ys (aE Yr (aE z aG)))),L8 N v w m h K,bd,?_⟩;exact b0J D hq E G
theorem Yw:bu 290 caZ:=gW WG λ_ _ _ _⟨v,w,p,q,e,c,d,f⟩=>⟨SizeOf.sizeOf p+1,v,w,p,q,e,c,d,aD,f⟩
structure Ref where
 columns:ca
 table:Int
structure Dr where
 name:ByteArray
 columns:List rF
 key:Int
 refs:List Ref
 checks:cr
structure jE where
 version:Int
 tables:List Dr
variable{s:jE}
structure UN(h:PH)(r:Ref)(v:FV):Prop where
 columns:Ints h v.columns r.columns
 table:v.table=r.table
def FW(h:PH)(s:Sl)(l:List rF):Prop:=bY h 2 rF.enc Eq s l
structure Qy(h:PH)(t:Dr)(v:cK):Prop where
 name:v.name=t.name
 columns:FW h v.columns t.columns
 key:v.key=t.key
 refs:bY h 2 FV.enc (UN h) v.references t.refs
 checks:GJ h v.checks t.checks
structure gZ(h:PH)(s:jE)(v:cE):Prop where
 version:v.version=s.version
 tables:bY h 5 cK.enc (Qy h) v.tables s.tables
theorem UN.mono{r:Ref}{v:FV}(x:UN h r v)(le:PH.le h h'):UN h' r v:=⟨x.columns.mono le,x.table⟩
theorem Qy.mono{t:Dr}{v:cK}(x:Qy h t v)(le:PH.le h h'):Qy h' t v:=
 ⟨x.name,bY.mono x.columns le λ_ _ e=>e,x.key,x.refs.mono le λ_ _ e=>e.mono le,x.checks.mono le⟩
theorem gZ.mono{v:cE}(x:gZ h s v)(le:PH.le h h'):gZ h' s v:=⟨x.version,x.tables.mono le λ_ _ e=>e.mono le⟩
def lower(c:Nat):Bool:=97<=c&&c<=122
def zL(c:Nat):Bool:=lower c||(48<=c&&c<=57)||c==95
def rL(s:ByteArray):cv:=s.data.toList.map UInt8.toNat
def pL(s:ByteArray):Bool:=1<=s.size&&s.size<=32&&lower ((rL s).headD 0)&&(rL s).all zL
theorem To(s:ByteArray):(rL s).length=s.size:=by simp[rL]
theorem aXQ{s:ByteArray}{c:Nat}(h:(rL s)[i]? =some c):(s.get! i).toNat=c/\c<256:=by
 simp only[rL,getElem?_map,Option.map_eq_some_iff]at h;obtain⟨b,e,rfl⟩:=h;refine⟨?_,b.toNat_lt⟩
 have f:i<s.data.size:=by
  grind
 have:s.data[i]? =some b:=bk
 cases s with
 |mk d=>
  show(d[i]!).toNat=b.toNat
  grind
theorem Mw{s:ByteArray}(h:(s.get! i).toNat<128):Utf8.decode s i=((s.get! i).toNat,1):=by
 simp only[Utf8.decode,Nat.add_zero];rw[if_pos h]
theorem aWJ{s:ByteArray}(h:¬(s.get! i).toNat<128):128<=(Utf8.decode s i).1:=by
 simp only[Utf8.decode,Nat.add_zero];rw[if_neg h]
 repeat' split
 all_goals simp_all [Utf8.runeError]
 all_goals omega
def Xf(s:ByteArray):CV:=.val (.string s)
def axJ:Vc.Spec:=λc m h K=>∃s,c=[Xf s]/\K (cB (pL s)) m h
noncomputable def bjX(s:ByteArray)(m:MH)(h:PH):Ctx:=
 ctx [] [(4,{A:=Nat×Nat×MH,st:=λx=>bQ 44 45 [(15,vv (.pointer (some ⟨x.2.1,0,none⟩)))] [] x.2.2 h,inv:=λx=>x.1<=s.size/\mH m h x.2.1/\iL m x.2.2 x.2.1 (.stringIter s x.1)/\(x.1=0\/lower ((rL s).headD 0)=true)/\((rL s).take x.1).all zL=true,mu:=λx=>s.size-x.1})] [] [] false
noncomputable def bjZ(s:ByteArray)(m:MH)(h:PH):Ctx:=
 ctx [] [Di 4 (λi=>bQ 50 51 [(0,vv (.string s)),(3,iv i)] [] m h) (λi=>i<=s.size/\((rL s).take i).all zL=true) (λi=>s.size-i)] [] [] false
abbrev Oj(a b:(Nat×Nat×MH)->Prop):Prop:=(∃(x:Nat×Nat×MH),a x)/\∀(x:Nat×Nat×MH),b x
abbrev tI(a b c:Prop)(d e:Nat->Nat->Option Value):Prop:=aA a b (aA c (d=e) True)
noncomputable abbrev iP(a:Nat×Nat×MH):Nat:=a.2.1
noncomputable abbrev gT(a:Nat×Nat×MH):Nat->Option Obj:=a.2.2
abbrev CN(a:Nat×Nat×MH)(b:ByteArray)(c:MH)(d:PH):Prop:=aA (a.1<=b.size) (mH c d (iP a)) (aA (iL c (gT a) (iP a) (Obj.stringIter b a.1)) (a.1=0\/fV (lower (headD (rL b) 0))) (fV (List.all (List.take a.1 (rL b)) zL)))
abbrev dG(a b:Nat):Prop:=sQo a 0=sQo b 0
noncomputable abbrev Eu(a:ByteArray)(b:Nat):Nat:=(Utf8.decode a b).1
abbrev B0(a:ByteArray)(b c:Nat):Prop:=a.size-b<a.size-c
abbrev G1(a:(Nat×Nat×MH)->Prop)(b:ByteArray)(c:Nat×Nat×MH)(d:MH)(e:PH):Prop:=∃(x:Nat×Nat×MH),aA (a x) (B0 b x.1 c.1) (aA (dG (iP c) (iP x)) (d=gT x) (bN e e))
attribute [push_cast] Oj tI iP gT CN dG Eu B0 G1
def Md(s:ByteArray)(m:MH)(h:PH)(K:bz):Prop:=
  aZ (↑s.size:Int) 1 (K aX m h) (fA (↑s.size:Int) 32 (K aX m h) (jY m h (λb e=>iL m e b (Obj.stringIter s 0)) (λb e=>Oj (λx=>tI (CN x s m h) (dG b (iP x)) (e=gT x) h h) (λx=>CN x s m h->∃(c:ByteArray)(p:Nat),aA (Ib (gT x) (iP x) (Obj.stringIter c p)) (c.size<=p->gK K (gT x) h) (p<c.size->∀(d:MH),iL (gT x) d (iP x) (Obj.stringIter c (p+(Utf8.decode c p).2))->cW (decide ((↑(Eu c p):Int)>=97)) (iM (decide ((↑(Eu c p):Int)<=122)) (cW ((↑p:Int)==0) (K aX d h) ((↑(Eu c p):Int) !=95) (aZ (↑(Eu c p):Int) 48 (K aX d h) (fA (↑(Eu c p):Int) 57 (K aX d h) (G1 (λy=>CN y s m h) s x d h))) (G1 (λy=>CN y s m h) s x d h)) (G1 (λy=>CN y s m h) s x d
 h)) ((↑p:Int)==0) (K aX d h) (eC (↑(Eu c p):Int) 95 (aZ (↑(Eu c p):Int) 48 (K aX d h) (fA (↑(Eu c p):Int) 57 (K aX d h) (G1 (λy=>CN y s m h) s x d h))) (G1 (λy=>CN y s m h) s x d h)))))))
abbrev nK(a:Bool)(b:Prop)(c d:Int)(e g:Prop):Prop:=cW a b (decide (c>d)) e g
abbrev NW(a:Prop)(b:ByteArray)(c:Nat)(d:UInt8->UInt8)(e:UInt8->Prop):Prop:=a/\∃(x:UInt8),b.data.toList[c]? =Option.some (d x)/\e x
noncomputable abbrev yX(a:UInt8):Int:=(↑a.toNat:Int)
abbrev Ai(a:Nat)(b:ByteArray):Prop:=a<=b.size/\fV (List.all (List.take a (rL b)) zL)
noncomputable abbrev yW(a:Nat):Nat:=(↑a:Int).toNat
attribute [push_cast] nK NW yX Ai yW
def Sk(s:ByteArray)(m:MH)(h:PH)(K:bz):Prop:=
  nK ((↑s.size:Int)==0) (K aX m h) (↑s.size:Int) 32 (K aX m h) (NW (bZ 0) s 0 (λb=>b) (λb=>aZ (↑b.toNat:Int) 97 (K aX m h) (NW (bZ 0) s 0 (λd=>d) (λd=>fA (yX d) 122 (K aX m h) (p7 (∃(x:Nat),aA (Ai x s) (eQ (SV.at (UH s))) (aA (bB x) (m=m) (bN h h))) (λx=>Ai x s->aZ (↑x:Int) (↑s.size:Int) (NW (bZ (↑x:Int)) s (yW x) (λc=>c) (λc=>aZ (↑c.toNat:Int) 97 (aZ (↑c.toNat:Int) 48 (iV (yX c !=95) (K aX m h) (λy=>aA (Ai y s) (B0 s y x) (aA (eQ (SV.at (UH s))) (bD (fZ (bE x 1)) y) (aA (m=m) (h=h) True)))) (fA (yX c) 57 (iV (yX c !=95) (K aX m h) (λy=>aA (Ai y s) (B0 s y x) (aA (eQ (SV.at (UH s))) (bD (fZ (bE x 1)) y) (aA (m=m) (h=h)
 True)))) (∃(y:Nat),aA (Ai y s) (B0 s y x) (aA (eQ (SV.at (UH s))) (bD (fZ (bE x 1)) y) (aA (m=m) (h=h) True))))) (fA (yX c) 122 (aZ (↑c.toNat:Int) 48 (iV (yX c !=95) (K aX m h) (λy=>aA (Ai y s) (B0 s y x) (aA (eQ (SV.at (UH s))) (bD (fZ (bE x 1)) y) (aA (m=m) (h=h) True)))) (fA (yX c) 57 (iV (yX c !=95) (K aX m h) (λy=>aA (Ai y s) (B0 s y x) (aA (eQ (SV.at (UH s))) (bD (fZ (bE x 1)) y) (aA (m=m) (h=h) True)))) (∃(y:Nat),aA (Ai y s) (B0 s y x) (aA (eQ (SV.at (UH s))) (bD (fZ (bE x 1)) y) (aA (m=m) (h=h) True))))) (∃(y:Nat),aA (Ai y s) (B0 s y x) (aA (eQ (SV.at (UH s))) (bD (fZ (bE x 1)) y) (aA (m=m) (h=h) True)))))) (gK K m h)))))))
def lE(h:PH)(K:bz):CV->MH->PH->Prop:=λr m' h'=>∃d c,(∀b o,d b=some o->m' b=some o)/\PH.le h c/\PH.le c h'/\K r d c
theorem lE.here{r:CV}(c:K r m h):lE h K r m h:=⟨m,h,λ_ _ e=>e,.refl _,.refl _,c⟩
theorem lE.sub{r:CV}(c:∀b o,m b=some o->m' b=some o)(d:K r m h):lE h K r m' h:=⟨m,h,c,.refl _,.refl _,d⟩
theorem iL.keeps{o:Obj}(f:mH m h b)(g:iL m m' b o):∀b o,m b=some o->m' b=some o:=λd n e=>by
 have c:d≠b:=λj=>by rw[j,f.m_]at e;cases e
 rw[g.other d c,e]
theorem Y0:bu 217 axJ:=by
 refine FR func217 ?_;rintro U m h K ⟨s,rfl,E⟩;refine⟨bjX s m h,rfl,aG,Md s m h (λr m' h'=>∃u F,(∀b o,u b=some o->m' b=some o)/\PH.le h F/\PH.le F h'/\K r u F),bd,?_⟩;show Md s m h (lE h K);dsimp only[Md,push_cast];have hl:=To s;refine aF (λV=>?_) (λV=>aF (λF=>?_) (λF b W D G=>?_))
 .refine .here (jM E ?_);have:¬1<=s.size:=by omega
  simp[pL,this]
 .refine .here (jM E ?_);have:¬s.size<=32:=by omega
  simp[pL,this]
 refine⟨⟨(0,b,W),⟨bf,D,G,.inl rfl,bf⟩,MT⟩,?_⟩;rintro⟨d,b,mx⟩ ⟨X,D,n,g,f⟩;simp only at X D n g f;refine⟨s,d,⟨n.at_⟩,λY=>?_,λZ u H=>?_⟩
 .refine .sub (iL.keeps D n) (jM E ?_);rw[take_of_length_le aD]at f
  have h3:lower ((rL s).headD 0)=true:=by
   grind
  have O:1<=s.size:=by omega
  have Q:s.size<=32:=by omega
  simp only[pL,f,h3,decide_eq_true O,decide_eq_true Q];rfl
 .have t:=n.trans H;obtain⟨c,M⟩:∃c,(rL s)[d]? =some c:=⟨(rL s)[d]'(by omega),getElem?_eq_getElem _⟩
  obtain⟨T,R⟩:=aXQ M
  have z:d=0->(rL s).headD 0=c:=λe=>by
   subst e;cases a':rL s with
   |nil=>grind
   |cons x l=>grind
  have I:¬((97<=(Utf8.decode s d).1/\(Utf8.decode s d).1<=122)\/(d≠0/\((Utf8.decode s d).1=95\/(48<=(Utf8.decode s d).1/\(Utf8.decode s d).1<=57))))->lE h K (.val (.bool false)) u h:=by
   intro hn;refine .sub (iL.keeps D t) (jM E ?_);by_cases j:(s.get! d).toNat<128
   .rw[Mw j,T]at hn;by_cases S:d=0
    .have:lower c=false:=by
      simp only[lower,Bool.and_eq_false_iff,decide_eq_false_iff_not];omega
     simp only[pL,z S,this,Bool.and_false,Bool.false_and]
    .have:zL c=false:=by
      simp only[zL,lower,Bool.or_eq_false_iff,Bool.and_eq_false_iff,decide_eq_false_iff_not,beq_eq_false_iff_ne];omega
     simp[pL,Ot M this]
   .have:zL c=false:=by
     simp only[zL,lower,Bool.or_eq_false_iff,Bool.and_eq_false_iff,decide_eq_false_iff_not,beq_eq_false_iff_ne];omega
    simp[pL,Ot M this]
  have J:((97<=(Utf8.decode s d).1/\(Utf8.decode s d).1<=122)\/(d≠0/\((Utf8.decode s d).1=95\/(48<=(Utf8.decode s d).1/\(Utf8.decode s d).1<=57))))->d+1<=s.size/\iL m u b (.stringIter s (d+1))/\lower ((rL s).headD 0)=true/\((rL s).take (d+1)).all zL=true:=by
   intro A
   have j:(s.get! d).toNat<128:=by
    refine Decidable.byContradiction λj=>?_;have:=aWJ j;omega
   rw[Mw j]at t;rw[Mw j,T]at A;simp only at A;refine⟨aD,t,?_,?_⟩
   .rcases g with e|e
    .rw[z e];simp only[lower,Bool.and_eq_true,decide_eq_true_eq];omega
    .exact e
   .rw[zH M,f];simp only[zL,lower,Bool.true_and,Bool.or_eq_true,Bool.and_eq_true,decide_eq_true_eq,beq_iff_eq];omega
  have next:((97<=(Utf8.decode s d).1/\(Utf8.decode s d).1<=122)\/(d≠0/\((Utf8.decode s d).1=95\/(48<=(Utf8.decode s d).1/\(Utf8.decode s d).1<=57))))->_:=λA=>(⟨(d+1,b,u),⟨(J A).1,D,(J A).2.1,.inr (J A).2.2.1,(J A).2.2.2⟩,aD,MT⟩:∃(y:Nat×Nat×MH),(y.fst<=s.size/\mH m h y.snd.fst/\iL m y.snd.2 y.snd.fst (Obj.stringIter s y.fst)/\(y.fst=0\/lower ((rL s).headD 0)=true)/\(List.take y.fst (rL s)).all zL=true)/\s.size-y.fst<s.size-d/\SV.at (At.val (Value.pointer (some (Addr.mk b 0 none))))=SV.at (At.val (Value.pointer (some (Addr.mk y.snd.fst 0 none))))/\u=y.snd.2/\h=h/\True)
  clear J t H f g z n G E
  repeat' (first|(refine aC (λ_=>?_) (λ_=>?_))|exact I (by simp only[decide_eq_true_eq,decide_eq_false_iff_not,bne_iff_ne,ne_eq,beq_iff_eq,beq_eq_false_iff_ne,bne_eq_false_iff_eq,Bool.not_eq_true',Bool.not_eq_false']at*;omega)|exact next (by simp only[decide_eq_true_eq,decide_eq_false_iff_not,bne_iff_ne,ne_eq,beq_iff_eq,beq_eq_false_iff_ne,bne_eq_false_iff_eq,Bool.not_eq_true',Bool.not_eq_false']at*;omega))
theorem Y1:bu 216 axJ:=by
 refine hU func216 ?_;rintro I m h K ⟨s,rfl,j⟩;refine⟨bjZ s m h,rfl,aG,Sk s m h K,bd,?_⟩;dsimp only[Sk,push_cast];have T:=To s;refine aC (λu=>jM j ?_) (λu=>aF (λJ=>jM j ?_) (λJ=>?_))
 .have:¬1<=s.size:=by have:(s.size:Int)=0:=(bt u);omega
  simp[pL,this]
 .have:¬s.size<=32:=by omega
  simp[pL,this]
 have u:s.size≠0:=by intro e;rw[e]at u;simp at u
 obtain⟨t,d⟩:∃c,s.data.toList[0]? =some c:=⟨s.data.toList[0]'(by simpa using(by omega:0<s.size)),getElem?_eq_getElem _⟩
 have g:(rL s).headD 0=t.toNat:=by
  unfold rL;cases z:s.data.toList with
  |nil=>rw[z]at d;simp at d
  |cons x l=>rw[z]at d;simp at d;simp[d]
 refine⟨aD,t,d,aF (λM=>jM j ?_) (λM=>⟨aD,t,d,aF (λO=>jM j ?_) (λO=>?_)⟩)⟩
 .have:lower t.toNat=false:=by simp only[lower,Bool.and_eq_false_iff,decide_eq_false_iff_not];omega
  simp only[pL,g,this,Bool.and_false,Bool.false_and]
 .have:lower t.toNat=false:=by simp only[lower,Bool.and_eq_false_iff,decide_eq_false_iff_not];omega
  simp only[pL,g,this,Bool.and_false,Bool.false_and]
 refine⟨⟨0,⟨aD,bf⟩,MT⟩,λi D=>aF (λQ=>?_) (λR=>jM j ?_)⟩
 .obtain⟨c,H⟩:∃c,s.data.toList[i]? =some c:=⟨s.data.toList[i]'(by simpa using(by omega:i<s.size)),getElem?_eq_getElem _⟩
  have n:(rL s)[i]? =some c.toNat:=by simp[rL,H]
  have f:zL c.toNat=false->K (.val (.bool false)) m h:=λe=>jM j (by simp[pL,Ot n e]);have next:zL c.toNat=true->∃(y:Nat),(y<=s.size/\(List.take y (rL s)).all zL=true)/\s.size-y<s.size-i/\SV.at (At.val (Value.string s))=SV.at (At.val (Value.string s))/\SV.at (At.val (Value.int IntKind.i64 (IntKind.i64.wrap ((i:Int)+1))))=SV.at (At.val (Value.int IntKind.i64 (y:Int)))/\m=m/\h=h/\True:=λe=>⟨i+1,⟨aD,by rw[zH n,D.2,e];rfl⟩,aD,MT⟩
  have A:zL c.toNat=true↔(97<=c.toNat/\c.toNat<=122)\/(48<=c.toNat/\c.toNat<=57)\/c.toNat=95:=by
   simp only[zL,lower,Bool.or_eq_true,Bool.and_eq_true,decide_eq_true_eq,beq_iff_eq];omega
  have E:zL c.toNat=false↔¬((97<=c.toNat/\c.toNat<=122)\/(48<=c.toNat/\c.toNat<=57)\/c.toNat=95):=by
   rw[<-A];simp
  refine⟨aD,c,bt H,?_⟩;clear j D g n E;rw[A]at next
  have f:=λe=>f (by rw[<-Bool.not_eq_true,A];exact e);clear A
  repeat' (first|(refine aC (λ_=>?_) (λ_=>?_))|exact f (by simp only[decide_eq_true_eq,decide_eq_false_iff_not,bne_iff_ne,ne_eq,beq_iff_eq,beq_eq_false_iff_ne,bne_eq_false_iff_eq,Bool.not_eq_true',Bool.not_eq_false']at*;omega)|exact next (by simp only[decide_eq_true_eq,decide_eq_false_iff_not,bne_iff_ne,ne_eq,beq_iff_eq,beq_eq_false_iff_ne,bne_eq_false_iff_eq,Bool.not_eq_true',Bool.not_eq_false']at*;omega))
 .have:=D.2;rw[take_of_length_le aD]at this;have S:lower t.toNat=true:=by simp only[lower,Bool.and_eq_true,decide_eq_true_eq];omega
  have F:1<=s.size:=by omega
  have G:s.size<=32:=by omega
  simp only[pL,this,g,S,decide_eq_true F,decide_eq_true G];rfl
end Go.Ps
