/- Own work. -/
import Derived.MapKept
import Derived.Maps.RangeRun
import Derived.Test.YtafjlhgalgfiaaaGreatDoorProg
import Derived.IntWalk
import Derived.ChangeKeysEq
import Derived.Test.YtafjlhgalgfiaaaGreatDoorSa
set_option linter.unusedVariables false
set_option linter.unusedSimpArgs false
namespace Go.Vc
open Go List
section
variable{B:wJ}{C:Ctx}{ι:de}{σ:St}{a:Act}{w:World}{o:Oper}{K:St->Prop}
theorem bAX(f:aR B ι σ a w) ob:
 aR B ι {σ with m:=λb=>if b=w.heap.size then some ob else σ.m b} a (w.alloc ob)/\cK σ.m σ.h w.heap.size/\∀o,Kl σ ι o w (w.alloc ob):=by
 have d:=f.wrel
 have l:cK σ.m σ.h w.heap.size:=by
  constructor
  .cases e:σ.m w.heap.size with
   |none=>rfl
   |some x=>have:=(Array.getElem?_eq_some_iff.1 (d.msat _ _ e)).1;omega
  .intro i;cases e:σ.h w.heap.size i with
   |none=>rfl
   |some x=>have:=World.block_lt_of_cell? w ⟨w.heap.size,i,none⟩ (d.hsat _ _ _ e);simp at this
 have r:(w.alloc ob).heap.size=w.heap.size+1:=by show(w.heap.push ob).size=_;simp
 refine⟨⟨f.slots,f.defers,λk n j=>(f.own k n j).world (λb c=>jF w ob (tT (f.own k n j) c)),f.dist,?_,?_,f.one⟩,l,λo=>⟨?_,?_,λ_ b c=>jF w ob c,λ_ b _ c _ _=>jF w ob c⟩⟩
 .intro k n b j c;obtain⟨z,A,D⟩:=f.fresh k n b j c;have t:=tT (f.own k n j) c
  grind
 .refine⟨d.tape,d.os,d.output,d.drawn,by rw[r];exact Nat.le_succ_of_le d.size,?_,?_,?_,?_,d.hle,d.hold,?_⟩
  .intro b c u;rw[jF w ob (ck c d.size)];exact d.frame b c u
  .intro b i v s;have g:=d.hsat b i v s;rw[<-g];exact World.cell?_of_block (w:=w) (w':=w.alloc ob) (a:=⟨b,i,none⟩) (jF w ob (World.block_lt_of_cell? w ⟨b,i,none⟩ g))
  .intro b x c;have c:(if b=w.heap.size then some ob else σ.m b)=some x:=c;by_cases e:b=w.heap.size
   .rw[if_pos e]at c;rw[e,qF];exact c
   .rw[if_neg e]at c;have g:=d.msat b x c;rw[jF w ob (Array.getElem?_eq_some_iff.1 g).1];exact g
  .intro b x c i;have c:(if b=w.heap.size then some ob else σ.m b)=some x:=c;by_cases e:b=w.heap.size
   .rw[e];exact l.h_ i
   .rw[if_neg e]at c;exact d.disj b x c i
  .intro b x c;have c:(if b=w.heap.size then some ob else σ.m b)=some x:=c;by_cases e:b=w.heap.size
   .left;rw[e];exact d.size
   .rw[if_neg e]at c;exact d.mfr b x c
 .intro k p T E b j _ y;exact jF w ob (tT (f.own k _ j) (by rw[y];rfl))
 .intro b i v s;have g:=d.hsat b i v s;rw[<-g];exact World.cell?_of_block (w:=w) (w':=w.alloc ob) (a:=⟨b,i,none⟩) (jF w ob (World.block_lt_of_cell? w ⟨b,i,none⟩ g))
theorem WV(n:aR B ι σ a w){b y ob}(t:σ.m b=some y):
 aR B ι {σ with m:=λc=>if c=b then some ob else σ.m c} a {w with heap:=w.heap.setIfInBounds b ob}/\∀o,BT o.op=false->Kl σ ι o w {w with heap:=w.heap.setIfInBounds b ob}:=by
 have g:=n.wrel;have z:b<w.heap.size:=(Array.getElem?_eq_some_iff.1 (g.msat _ _ t)).1
 have f:∀c,c≠b->(w.heap.setIfInBounds b ob)[c]? =w.heap[c]? :=λc l=>by
  grind
 have A:(w.heap.setIfInBounds b ob)[b]? =some ob:=by simp[z]
 have u:∀k r,nth σ.own k=some (some r)->blk (ι k)≠some b:=by
  intro k r s F;have:=(n.fresh k r b s F).2.1
  grind
 have j:∀c i v,σ.h c i=some v->({w with heap:=w.heap.setIfInBounds b ob}:World).cell? ⟨c,i,none⟩=some v:=by
  intro c i v D;have l:c≠b:=λe=>by subst e;rw[g.disj c _ t i]at D;cases D
  have E:=g.hsat c i v D;rw[<-E];exact World.cell?_of_block (w:=w) (w':={w with heap:=w.heap.setIfInBounds b ob}) (a:=⟨c,i,none⟩) (f c l)
 refine⟨⟨n.slots,n.defers,λk r s=>(n.own k r s).world (λc d=>f c (λe=>u k r s (e▸d))),n.dist,?_,?_,n.one⟩,λo I=>⟨?_,j,λh=>bg,λ_ c _ _ J _=>f c (λe=>bg)⟩⟩
 .intro k r c s d;obtain⟨L,M,N⟩:=n.fresh k r c s d
  grind
 .refine⟨g.tape,g.os,g.output,g.drawn,bk g.size,?_,j,?_,?_,g.hle,g.hold,?_⟩
  .intro c d G
   have l:c≠b:=λe=>by
    subst e;rcases g.mfr c _ t with E|E
    .omega
    grind
   rw[f c l];exact g.frame c d G
  .intro c x d;have d:(if c=b then some ob else σ.m c)=some x:=d;by_cases e:c=b
   .grind
   .rw[if_neg e]at d;rw[f c e];exact g.msat c x d
  .intro c x d i;have d:(if c=b then some ob else σ.m c)=some x:=d;by_cases e:c=b
   .rw[e];exact g.disj b _ t i
   .rw[if_neg e]at d;exact g.disj c _ d i
  .intro c x d;have d:(if c=b then some ob else σ.m c)=some x:=d;by_cases e:c=b
   .rw[e];exact g.mfr b _ t
   .rw[if_neg e]at d;exact g.mfr c _ d
 .intro k p T O c s _ H;exact f c (λe=>u k _ s (by rw[H,e];rfl))
theorem SC(g:aR B ι σ a w){t r}(i:o.op= .makeMap t r)(h:MY o r σ K):Wz B C ι o σ K a w:=by
 intro next Q b
 unfold MY at h;split at h
 .obtain⟨d,e,j⟩:=bAX g (.map #[] 0)
  have c:(execOp a.eval o).run C.P w= .ok (.value (.map (some w.heap.size))) (w.alloc (.map #[] 0)):=by
   unfold execOp;simp[i,Instr.makeMap]
  unfold Oper.wp;rw[c,Oper.upon_value];exact b ι _ _ _ (d.put o.dst (x:=.at (.val (.map (some w.heap.size)))) rfl) (h w.heap.size _ e ⟨ay,λl f=>by simp[f]⟩) (j o)
 grind
theorem aR.drew{B ι σ a w}(h:aR B ι σ a w) k(c:w.drawn<=k):aR B ι σ a {w with drawn:=k}:=by
 refine⟨h.slots,h.defers,λj o d=>(h.own j o d).world (λ_ _=>rfl),h.dist,h.fresh,?_,h.one⟩;have b:=h.wrel;exact⟨b.tape,b.os,b.output,cj b.drawn c,b.size,b.frame,b.hsat,b.msat,b.disj,b.hle,b.hold,b.mfr⟩
theorem AD{α}{l:List α}{j x}(h:l[j]? =some x):l=l.take j++x::l.drop (j+1):=by
 have b:=(bm h);have e:=(List.getElem?_eq_some_iff.1 h).2;rw[<-e, <-drop_eq_getElem_cons b,take_append_drop]
theorem W7(p:aR B ι σ a w){t x}(z:o.op= .range t x)(h:Vv C o t x σ K):Wz B C ι o σ K a w:=by
 intro next Q f
 have d:=p.ev x;unfold Vv at h;split at h
 .rename_i s r u;rw[u]at d;have d:a.eval x= .string s:=d;obtain⟨j,l,v⟩:=bAX p (.stringIter s 0)
  have g:(execOp a.eval o).run C.P w= .ok (.value (.pointer (some ⟨w.heap.size,0,none⟩))) (w.alloc (.stringIter s 0)):=by
   unfold execOp;simp[z,d,Instr.range,run_underlying r]
  unfold Oper.wp;rw[g,Oper.upon_value];exact f ι _ _ _ (j.put o.dst (x:=.at (.val (.pointer (some ⟨w.heap.size,0,none⟩)))) rfl) (h w.heap.size _ l ⟨ay,λA m=>by simp[m]⟩) (v o)
 .rename_i I J b r u;rw[u]at d;have d:a.eval x= .map (some b):=d;obtain⟨D,⟨E,c,F,n,i,y⟩,h⟩:=h;have G:=p.wrel.msat b _ F;obtain⟨j,l,v⟩:=bAX p (.mapIter (some b) c #[] c)
  have g:(execOp a.eval o).run C.P w= .ok (.value (.pointer (some ⟨w.heap.size,0,none⟩))) (w.alloc (.mapIter (some b) c #[] c)):=by
   unfold execOp;simp[z,d,Instr.range,run_underlying r,MapKept.run_getObj_map G,Result.andThen]
  unfold Oper.wp;rw[g,Oper.upon_value];have H:b≠w.heap.size:=λe=>bg
  refine f ι _ _ _ (j.put o.dst (x:=.at (.val (.pointer (some ⟨w.heap.size,0,none⟩)))) rfl) (h w.heap.size _ l ⟨λA m=>by simp[m]⟩ ⟨E,c,c, #[],c,?_,n,i,y,ay,i,Nat.le_refl _,Nat.le_refl _,?_⟩) (v o)
  .grind
  .rw[<-n];congr 1;exact filter_eq_self.2 (λ_ _=>ay)
 grind
theorem ZL(v:aR B ι σ a w){x st}(R:o.op= .next x st)(h:ZM o x st σ K):Wz B C ι o σ K a w:=by
 intro next Q l
 have i:=v.ev x;unfold ZM at h;split at h
 .rename_i b S;rw[S]at i;have i:a.eval x= .pointer (some ⟨b,0,none⟩):=i;obtain⟨s,t,hm,Y,Z⟩:=h;have hg:=v.wrel.msat b _ hm.at_;by_cases y:t<s.size
  .obtain⟨H,hk⟩:=WV (ob:=.stringIter s (t+(Utf8.decode s t).2)) v hm.at_
   have d:(execOp a.eval o).run C.P w= .ok (.value (.tuple #[.bool true,.int .i64 t,.int .i32 (Utf8.decode s t).1])) {w with heap:=w.heap.setIfInBounds b (.stringIter s (t+(Utf8.decode s t).2))}:=by
    unfold execOp;simp[R,i,Instr.next,getObj,setObj,Sem.run,hg,y,goInt,Result.andThen]
   unfold Oper.wp;rw[d,Oper.upon_value];refine l ι _ _ _ (H.put o.dst (x:=.tup _) ?_) (Z y _ ⟨ay,λb' I=>by simp[I]⟩) (hk o (by rw[R];rfl));exact⟨_,rfl,rfl,rfl,rfl,trivial⟩
  .have d:(execOp a.eval o).run C.P w= .ok (.value (.tuple #[.bool false])) w:=by
    unfold execOp;simp[R,i,Instr.next,getObj,Sem.run,hg,y,Result.andThen]
   unfold Oper.wp;rw[d,Oper.upon_value];refine l ι _ _ _ (v.put o.dst (x:=.tup _) ?_) (Y aC) (nR v);exact⟨_,rfl,rfl,trivial⟩
 .rename_i r S;rw[S]at i;have i:a.eval x= .pointer (some ⟨r,0,none⟩):=i;obtain⟨b,a4,left,⟨p,f,g,c,c0,a',a0,J,M,T,E,a1,F,N⟩,Y,Z⟩:=h;have a2:=v.wrel.msat b _ a';have a3:=v.wrel.msat r _ T;rcases run_next_at (P:=C.P) w o.type r b g c0 c p f a3 a2 E a1 with⟨h0,d⟩|⟨e,he,w1,hw1,d⟩
  .have hl:left=[]:=by
    rw[<-N];have:(leftOf p c).toList=[]:=bg
    unfold leftOf at this
    grind
   have d:(execOp a.eval o).run C.P w= .ok (.value (.tuple #[.bool false])) w:=by
    unfold execOp;simp[R,i,d,Result.andThen]
   unfold Oper.wp;rw[d,Oper.upon_value];refine l ι _ _ _ (v.put o.dst (x:=.tup _) ?_) (Y hl) (nR v);exact⟨_,rfl,rfl,trivial⟩
  .have O:∃n,aR B ι σ a w1/\w1={w with drawn:=n}:=by
    rcases hw1 with rfl|rfl
    .grind
    .exact⟨w.drawn+1,v.drew (w.drawn+1) (Nat.le_succ _),rfl⟩
   obtain⟨n,O,U⟩:=O;obtain⟨H,hk⟩:=WV (ob:=.mapIter (some b) g (c.push e.born) f) O T
   have d:(execOp a.eval o).run C.P w= .ok (.value (.tuple #[.bool true,e.key,e.val])) {w1 with heap:=w1.heap.setIfInBounds r (.mapIter (some b) g (c.push e.born) f)}:=by
    unfold execOp;simp[R,i,d,Result.andThen,ChangeMaps.setBlock]
   have V:e∈p.toList.filter λe=> !c.contains e.born:=by
    unfold leftOf at he
    grind
   have W:e∈p.toList:=(mem_filter.1 V).1;obtain⟨j,hj⟩:=getElem?_of_mem V;have z:=AD hj;have a5:r≠b:=λe=>bg
   have u:(((p.toList.filter λe=> !c.contains e.born)).map (·.born)).Nodup:=M.sublist (filter_sublist.map _)
   have X:p.toList.filter (λx=> !(c.push e.born).contains x.born)=(p.toList.filter λe=> !c.contains e.born).take j++(p.toList.filter λe=> !c.contains e.born).drop (j+1):=by
    have h3:p.toList.filter (λx=> !(c.push e.born).contains x.born)=(p.toList.filter λe=> !c.contains e.born).filter λx=>x.born !=e.born:=by
     rw[filter_filter]
     grind
    rw[h3];generalize (p.toList.filter λe=> !c.contains e.born)=L at z u hj;have y:=(bm hj);generalize L.take j=A at z;generalize L.drop (j+1)=D at z;subst z;simp only[bu,map_cons,nodup_append,nodup_cons,mem_map,mem_cons]at u;obtain⟨_,⟨a6,_⟩,a7⟩:=u;rw[filter_append,filter_cons];simp only[bne_self_eq_false,Bool.false_eq_true,if_false];congr 1
    .refine filter_eq_self.2 λx S=>?_
     grind
    .refine filter_eq_self.2 λx S=>?_
     grind
   unfold Oper.wp;rw[d,Oper.upon_value];have G:(if b=r then some (Obj.mapIter (some b) g (c.push e.born) f)else σ.m b)=some (.map p f):=bg
   refine l ι _ _ _ (H.put o.dst (x:=.tup _) ?_) (Z (((p.toList.filter λe=> !c.contains e.born).take j).map λe=>(e.key,e.val)) (e.key,e.val) (((p.toList.filter λe=> !c.contains e.born).drop (j+1)).map λe=>(e.key,e.val)) ?_ _ ⟨λb' I=>by simp[I]⟩ ⟨⟨p,f,g,c.push e.born,f,G,a0,J,M,ay,E,F,F,?_⟩,p,f,g,c,e,G,M,ay,W,rfl⟩) ?_
   .exact⟨_,rfl,rfl,rfl,rfl,trivial⟩
   .grind
   .grind
   .have:=hk o (by rw[R];rfl);subst U;exact⟨this.cells,this.imm,this.ext,this.args⟩
 grind
theorem YT(j:aR B ι σ a w){x}(u:o.op= .entry x)(h:V4 C o x σ K):Wz B C ι o σ K a w:=by
 intro next Q f
 have d:=j.ev x;unfold V4 at h;split at h
 .rename_i r v;rw[v]at d;have d:a.eval x= .pointer (some ⟨r,0,none⟩):=d;obtain⟨b,y,left,x,⟨_,z,g,i,l,e,m,n,p,A,rfl⟩,h⟩:=h;have c:=run_entry_at (P:=C.P) w r b i l z g e (j.wrel.msat r _ p) (j.wrel.msat b _ m) A n
  have c:(execOp a.eval o).run C.P w= .ok (.value (.tuple #[e.key,e.val])) w:=by
   unfold execOp;simp[u,d,c,Result.andThen]
  have h:K (σ.put o.dst (.tup [.inl (.val e.key),.inl (.val e.val)])):=by
   split at h
   .obtain⟨s,t,h⟩:=h;have t:e.val=Sl.val s:=t;rw[t];exact h
   .exact h
  unfold Oper.wp;rw[c,Oper.upon_value];refine f ι _ _ _ (j.put o.dst (x:=.tup _) ?_) h (nR j);exact⟨_,rfl,rfl,rfl,trivial⟩
 grind
theorem Hq{P:Program}{f:TypeId}{Ok:Value->Prop}(L:KeyLaw P f Ok){k:Value}(n:Ok k)(w:World):∀(es:List MapEntry)(i:Nat),(∀e∈es,Ok e.key)->
 ((∀e∈es,e.key≠k)/\(Instr.findAsking f k es i).run P w= .ok none w)\/∃j e,es[j]? =some e/\e.key=k/\(Instr.findAsking f k es i).run P w= .ok (some (i+j,e.val)) w
 |[],i,_=>.inl ⟨λe p=>(by cases p),by simp[Instr.findAsking]⟩
 |e::es,i,b=>by
  obtain⟨r,g,l⟩:=L.eq k e.key w n (b e ay);cases r with
  |true=>exact .inr ⟨0,e,rfl,(l.1 rfl).symm,by simp[Instr.findAsking,g]⟩
  |false=>
   have s:e.key≠k:=λh=>bg
   rcases Hq L n w es (i+1) (λd c=>b d (by simp[c]))with⟨t,m⟩|⟨j,d,t,m,u⟩
   .refine .inl ⟨λd c=>?_,by simp[Instr.findAsking,g,m]⟩
    grind
   .exact .inr ⟨j+1,d,bg,m,by simp[Instr.findAsking,g,u];omega⟩
theorem findNow_spec{P:Program}{n:TypeId}{Ok:Value->Prop}(L:KeyLaw P n Ok){d:TypeDesc}(c:P.underlying n=some d){k:Value}(f:Ok k):∀(es:List MapEntry)(i:Nat)(r:Option (Nat×Value)),(∀e∈es,Ok e.key)->
 Instr.findNow d k es i=some r->((∀e∈es,e.key≠k)/\r=none)\/∃j e,es[j]? =some e/\e.key=k/\r=some (i+j,e.val)
 |[],i,r,_,h=>by
  simp[Instr.findNow]at h
  grind
 |e::es,i,r,b,h=>by
  simp only[Instr.findNow]at h;split at h
  .rename_i g;simp only[bx]at h;exact .inr ⟨0,e,rfl,((L.now d k e.key true c f (b e ay) g).1 rfl).symm,bg⟩
  .rename_i g;have s:e.key≠k:=λt=>by have:=(L.now d k e.key false c f (b e ay) g).2 t.symm;cases this
   rcases findNow_spec L c f es (i+1) r (λl m=>b l (by simp[m])) h with⟨u,p⟩|⟨j,l,u,p,v⟩
   .grind
   .exact .inr ⟨j+1,l,bg,p,bg⟩
  .cases h
theorem run_findKey{P c Ok}(L:KeyLaw P c Ok){k}(l:Ok k) w es(f:∀e∈es,Ok e.key):
 ((∀e∈es,e.key≠k)/\(Instr.findKey c k es).run P w= .ok none w)\/∃j e,es[j]? =some e/\e.key=k/\(Instr.findKey c k es).run P w= .ok (some (j,e.val)) w:=by
 obtain⟨d,g⟩:=L.under;cases h:Instr.findNow d k es 0 with
 |some r=>
  have b:(Instr.findKey c k es).run P w= .ok r w:=by simp[Instr.findKey,run_underlying g,h]
  rcases findNow_spec L g l es 0 r f h with⟨i,rfl⟩|⟨j,e,i,m,rfl⟩
  .grind
  grind
 |none=>
  have b:(Instr.findKey c k es).run P w=(Instr.findAsking c k es).run P w:=by simp[Instr.findKey,run_underlying g,h]
  rw[b];rcases Hq L l w es 0 f with⟨i,m⟩|⟨j,e,i,m,n⟩
  .grind
  grind
theorem WC{P T z}(h:Vb P T=some z) w:(zeroValue T).run P w= .ok z w:=by
 unfold Vb at h;split at h
 .rename_i i d;split at h
  .rename_i k n c;simp only[bx]at h;subst h;simp[zeroValue,typeInfo,d,c]
  .rename_i b c;simp only[bx]at h;subst h;simp[zeroValue,typeInfo,d,c]
  .rename_i c;simp only[bx]at h;subst h;simp[zeroValue,typeInfo,d,c]
  .cases h
 .cases h
theorem VJ(i:aR B ι σ a w){t x k ok}(J:o.op= .lookup t x k ok)(h:Q5 C o t x k ok σ K):Wz B C ι o σ K a w:=by
 intro next Q c
 have d:=i.ev x;unfold Q5 at h;split at h
 .rename_i kt D b M N V E;rw[V]at d;have d:a.eval x= .map (some b):=d;have n:a.eval k=M:=(i.ev k).val? E;split at h
  .rename_i z W;obtain⟨r,Ok,⟨m,F,X,Y⟩,L,s,O,l,v⟩:=h;have R:=i.wrel.msat b _ X
   have y:∀e∈m.toList,∃p∈r,e.key=p.1/\e.val=only ((C.dec D).enc p.2):=by
    intro e G
    have:(e.key,e.val)∈r.map λp=>(p.1,only ((C.dec D).enc p.2)):=by
     grind
    grind
   have A:∀e∈m.toList,Ok e.key:=λe G=>by
    grind
   have g:=L.check M w m.isEmpty s;unfold Oper.wp;rcases run_findKey L s w m.toList A with⟨S,T⟩|⟨j,e,S,T,Z⟩
   .have f:(execOp a.eval o).run C.P w= .ok (.value (if ok then .tuple #[z,.bool false]else z)) w:=by
     unfold execOp;simp[J,d,n,Instr.lookup,run_underlying N,MapKept.run_getObj_map R,g,T,WC W,Result.andThen]
    rw[f,Oper.upon_value];refine c ι _ _ _ (i.put o.dst ?_) (l ?_) (nR i)
    .cases ok
     .rfl
     .exact⟨_,rfl,rfl,rfl,trivial⟩
    .intro p hp e1
     have:(p.1,only ((C.dec D).enc p.2))∈m.toList.map λe=>(e.key,e.val):=by
      grind
     grind
   .have G:e∈m.toList:=bo S;obtain⟨p,hp,e1,H⟩:=y e G
    have f:(execOp a.eval o).run C.P w= .ok (.value (if ok then .tuple #[e.val,.bool true]else e.val)) w:=by
     unfold execOp;simp[J,d,n,Instr.lookup,run_underlying N,MapKept.run_getObj_map R,g,Z,Result.andThen]
    have U:=v p.2 bg;rw[f,Oper.upon_value];split at U
    .rename_i u I;rw[I]at H;refine c ι _ _ _ (i.put o.dst ?_) U (nR i);cases ok
     .exact H
     .exact⟨_,rfl,H,rfl,trivial⟩
    grind
  grind
 grind
theorem O5(i:aR B ι σ a w){t x k v}(J:o.op= .mapUpdate t x k v)(l:o.dst=none)(h:Eg C t x k v σ K):Wz B C ι o σ K a w:=by
 intro next Q f
 have d:=i.ev x;unfold Eg at h;split at h
 .rename_i Z et b m u T U A V;rw[U]at d;have d:a.eval x= .map (some b):=d;have D:a.eval k=m:=(i.ev k).val? A;have E:a.eval v=u:=(i.ev v).val? V;obtain⟨F,Ok,⟨g,c,M,G⟩,L,n,p,N,W⟩:=h;have O:=i.wrel.msat b _ M;have r:∀e∈g.toList,(e.key,e.val)∈F:=λe R=>bg
  have s:∀e∈g.toList,Ok e.key:=λe R=>p _ (r e R);have y:=L.check m w false n;rcases run_findKey L n w g.toList s with⟨X,S⟩|⟨j,e,X,S,h3⟩
  .obtain⟨H,Y⟩:=WV (ob:=.map (g.push {key:=m,val:=u,born:=c}) (c+1)) i M
   have z:(execOp a.eval o).run C.P w= .ok .skip {w with heap:=w.heap.setIfInBounds b (.map (g.push {key:=m,val:=u,born:=c}) (c+1))}:=by
    unfold execOp;simp[J,d,D,E,Instr.mapUpdate,run_underlying T,MapKept.run_getObj_map O,MapKept.run_setObj_map _ O,y,S,Result.andThen]
   unfold Oper.wp;rw[z,Oper.upon_skip,show a.put o.dst undef=a by rw[l];rfl];refine f ι _ _ _ H (W _ ⟨λb' I=>by simp[I]⟩ ⟨g.push {key:=m,val:=u,born:=c},c+1,ay,?_⟩) (Y o (by rw[J];rfl));simp[G]
  grind
 grind
theorem VI(z:aR B ι σ a w){t x k v}(N:o.op= .mapUpdate t x k v)(m:o.dst=none)(h:LR C t x k v σ K):Wz B C ι o σ K a w:=by
 intro next Q f
 have g:=z.ev x;unfold LR at h;split at h
 .rename_i kt et b l u hu hx R hv;rw[hx]at g;have g:a.eval x= .map (some b):=g;have A:a.eval k=l:=(z.ev k).val? R;have D:a.eval v=u:=(z.ev v).val? hv;obtain⟨S,Ok,⟨d,c,T,U,V,a1⟩,L,E,r,F,G,H⟩:=h;have O:=z.wrel.msat b _ T;have I:∀e∈d.toList,(e.key,e.val)∈S:=λe W=>bg
  have J:∀e∈d.toList,Ok e.key:=λe W=>F _ (I e W);have n:=L.check l w false E;rcases run_findKey L E w d.toList J with⟨X,Y⟩|⟨j,e,X,Y,h3⟩
  .obtain⟨s,Z⟩:=WV (ob:=.map (d.push {key:=l,val:=u,born:=c}) (c+1)) z T
   have i:(execOp a.eval o).run C.P w= .ok .skip {w with heap:=w.heap.setIfInBounds b (.map (d.push {key:=l,val:=u,born:=c}) (c+1))}:=by
    unfold execOp;simp[N,g,A,D,Instr.mapUpdate,run_underlying hu,MapKept.run_getObj_map O,MapKept.run_setObj_map _ O,n,Y,Result.andThen]
   unfold Oper.wp;rw[i,Oper.upon_skip,show a.put o.dst undef=a by rw[m];rfl];refine f ι _ _ _ s (G (λp hp e1=>?_) _ ⟨λb' y=>by simp[y]⟩ ⟨d.push {key:=l,val:=u,born:=c},c+1,ay,by simp[U],λe W=>?_,?_⟩) (Z o (by rw[N];rfl))
   .grind
   .grind
   grind
  .have M:=(bm X);have a':d[j]? =some e:=bg
   obtain⟨s,Z⟩:=WV (ob:=.map (d.modify j λe=>{e with key:=l,val:=u}) c) z T
   have i:(execOp a.eval o).run C.P w= .ok .skip {w with heap:=w.heap.setIfInBounds b (.map (d.modify j λe=>{e with key:=l,val:=u}) c)}:=by
    unfold execOp;simp[N,g,A,D,Instr.mapUpdate,run_underlying hu,MapKept.run_getObj_map O,MapKept.run_setObj_map _ O,n,h3,a',Y,Instr.keyThatStays,r,Result.andThen]
   have a0:(d.modify j λe=>{e with key:=l,val:=u}).toList=d.toList.take j++{e with key:=l,val:=u}::d.toList.drop (j+1):=by
    rw[Array.toList_modify,modify_eq_take_cons_drop M]
    grind
   have a2:=AD X;unfold Oper.wp;rw[i,Oper.upon_skip,show a.put o.dst undef=a by rw[m];rfl];refine f ι _ _ _ s (H ((d.toList.take j).map λe=>(e.key,e.val)) e.val ((d.toList.drop (j+1)).map λe=>(e.key,e.val)) ?_ _ ⟨λb' y=>by simp[y]⟩ ⟨d.modify j λe=>{e with key:=l,val:=u},c,ay,?_,?_,?_⟩) (Z o (by rw[N];rfl))
   .grind
   .grind
   .grind
   grind
 grind
end
end Go.Vc
namespace Go.Vc
open Go List
section
variable{B:wJ}{C:Ctx}{ι:de}{σ:St}{a:Act}{w:World}{o:Oper}{K:St->Prop}
theorem byJ(g:aR B ι σ a w)(u:He o.op=true)(h:Vx C o σ K):Wn C ι o σ K a w:=by
 unfold Vx at h;cases j:o.op<;>simp only[j]at h u
 case move x=>exact Q3 g (.inl j) h
 case assign x=>exact Q3 g (.inr j) h
 case pick c x y=>exact Zz g j h
 case build T ps=>exact Y2 g j h
 case load T x=>exact ZR g j h
 case nilCheck x=>exact QS g j h
 case binOp op tx x y ty=>
  cases op
  case eql=>
   simp only at h;split at h
   .exact Ho (neg:=false) g j h
   .exact nU g (λp b=>bg) h
  case neq=>
   simp only at h;split at h
   .exact Ho (neg:=true) g j h
   .exact nU g (λp b=>bg) h
  case add=>exact V7 g j h
  all_goals first
   |exact nU g (λp b=>by rw[j];intro e;cases e) h
   |exact bpJ g j h
 case unOp op t x=>exact nU g (λp b=>bg) h
 case convert s d x=>exact SH g j h
 case fieldAddr T x f=>exact O9 g j h
 case field T x f=>exact XH g j h
 case indexAddr T x i=>exact O8 g j h
 case index T x i=>exact Xz g j h
 case extract x i=>exact SG g j h
 case call c=>
  obtain⟨l,args,m⟩:=c;cases l with
  |builtin b=>
   cases b<;>simp only[He,Bool.false_eq_true]at u
   case len=>
    simp only at h;split at h
    .rename_i x v;exact a4J g j rfl v h
    grind
   case min=>exact nU g (λp b=>bg) h
   case max=>exact nU g (λp b=>bg) h
  |value f=>simp[He]at u
  |invoke r n=>grind
 all_goals (first|exact h.elim|(simp[He]at u))
theorem Wn.stp(d:aR B ι σ a w)(h:Wn C ι o σ K a w):Wz B C ι o σ K a w:=by
 intro next Q b
 obtain⟨v,x,c,e,f⟩:=h;unfold Oper.wp;rw[c w (.inr rfl),Oper.upon_value];exact b ι _ _ _ (d.put o.dst e) f (nR d)
theorem DB(e:aR B ι σ a w):∀(i:Nat)(l:dp)(ts:eb)(b:dl),tZ C.P σ [] i l ts=some b->b=(l.map a.eval).map .val
 |i,[],ts,b,h=>by simp[tZ]at h;subst h;rfl
 |i,x::r,ts,b,h=>by
  simp only[tZ]at h;split at h
  .cases h
  .rename_i d c;have f:=DB e (i+1) r ts.tail d c;simp only[contains_nil]at h;split at h
   .rename_i u g;simp only[bx]at h;subst h;simp only[map_cons,(e.ev x).val? g,f]
   .cases h
theorem Mq:∀(l b:cr),P4 (l.map .val) b=(l++b).map .val
 |[],_=>rfl
 |v::l,b=>by simp only[map_cons,P4,Mq l b,cons_append]
theorem VF{P T cs ι}:Den ι (mk P T (cs.map .val)) (valOf P T cs):=by
 unfold mk valOf;cases AQ P T with
 |true=>exact⟨_,rfl,by simpa using(kD.vals (ι:=ι)).2 rfl⟩
 |false=>match cs with
  |[]=>exact trivial
  |[x]=>exact rfl
  |_::_::_=>exact trivial
theorem Sound.fat{P f S T}{vs:cr}{m h R}(I:Sound P f S)(L:S (vs.map .val) m h (λr m' D=>∃l,r= .val (valOf P T l)/\R l m' D)):FAt P f T (vs.map .val) m h R:=by
 have E:∀{l F:cr},l.map CV.val=F.map CV.val->l=F:=fun{l F} e=>(List.map_inj_right (λx y h=>by cases h;rfl)).1 e;refine⟨I.1,λM w N G=>?_⟩;rw[<-E N]
 have s:∀(l:cr)(w:World),DI w (l.map .val) l:=λl w=>by
  induction l with
  |nil=>trivial
  |cons a l O=>exact⟨rfl,O⟩
 have z:∀(l:cr)(i:Nat)(c:CV)(u:Value)(b:Nat),(l.map CV.val)[i]? =some c->jS c u=some b->False:=λl i c u b p g=>by
  rw[getElem?_map]at p;cases e:l[i]? with
  |none=>grind
  |some v=>rw[e]at p;simp at p;subst p;simp[jS]at g
 refine(I.2 _ vs m h w _ L ⟨s _ _,G.hsat,G.msat,G.disj,λi j c d u v b p _ _ _ g _=>(z _ i c u b p g).elim,λi c u b p _ g=>(z _ i c u b p g).elim⟩).mono ?_;rintro e U ⟨r,u,m',D,rfl,⟨l,rfl,Q⟩,t,n,_⟩;have t:u=valOf P T l:=t;subst t
 have J:∀b,m b=none->¬yT m (vs.map .val) vs b:=by
  rintro b g (A|⟨i,c,u,p,_,V⟩)
  .exact A g
  grind
 refine⟨l,m',D,rfl,Q,⟨n.tape,n.os,n.output,n.drawn,n.size,λb g H=>n.frame b g (J b H),⟨n.hsat,n.msat,n.disj⟩,⟨n.hle⟩,λb g H=>n.hold b g (J b H),λb o g=>?_⟩⟩;rcases n.mfr b o g with A|A
 .exact .inl A
 grind
theorem bpZ(r:aR B ι σ a w){c g T f G cs}(Z:o.op= .call c)(hc:c.callee= .value g)(hg:σ.ev g= .at (.val (.func (.func f) G cs)))(a':G.toList=[])(h:bYZ C o T f cs.toList c.args.toList σ K):Wz B C ι o σ K a w:=by
 intro next Q s
 unfold bYZ at h;split at h
 .rename_i a0 u;obtain⟨R,I,h⟩:=h;have J:=DB r 0 _ _ _ u;subst J;rw[Mq]at I;have H:=r.wrel;obtain⟨fn,L,M,N⟩:=I.fn;have t:=I.go _ w rfl ⟨H.hsat,H.msat,H.disj⟩;have O:a.eval g= .func (.func f) G cs:=by have:=r.ev g;rw[hg]at this;exact this
  have y:G= #[]:=bg
  subst y;have n: #[]++c.args.map a.eval++cs=(c.args.toList.map a.eval++cs.toList).toArray:=bg
  have S:¬fn.body=none:=bg
  have U:¬fn.name= "runtime.NumGoroutine" :=bg
  have z:(execOp a.eval o).run C.P w= .ok (.enter f (c.args.toList.map a.eval++cs.toList).toArray) w:=by
   unfold execOp;simp only[Z,resolve,hc,O,Deferred.ofValue,Sem.run_bind,Sem.run_pure,Result.andThen_ok,invoke,callFunc];rw[n];simp[program,Sem.run,L,U,S]
  unfold Oper.wp;rw[z,Oper.upon_enter];refine Calls.mono t ?_;rintro e w' ⟨l,m',h',rfl,⟨x,rfl,hx⟩,d⟩;show next (a.put o.dst (valOf C.P T ((C.dec T).enc x))) w'
  have V:DN ⟨w,λb=>σ.m b≠none,σ.h,[]⟩ m' h' w':=
   ⟨d.tape,d.os,d.output,d.drawn,d.size,λb i A=>d.frame b i (Classical.byContradiction A),d.heapy.hsat,d.heapy.msat,d.heapy.disj,d.hle.le,λb i A=>d.hold b i (Classical.byContradiction A),λb W i=>d.mfr b W i⟩
  have X:=r.called V (λb i=>by
   cases hm:σ.m b with
   |none=>grind
   |some W=>exact H.mfr b W hm) (λj o' b hj i A=>A (r.fresh j o' b hj i).2.1)
  refine s ι _ _ _ (X.put o.dst VF) (h x m' h' hx) ⟨λk p T a1 b hk _ hι=>?_,λb D v J=>d.heapy.hsat b D v (d.hle.le b D v J),λE=>?_,λl b _ i Y _=>d.frame b i Y⟩
  .have F:blk (ι k)=some b:=by rw[hι];rfl
   exact d.frame b (tT (r.own k _ hk) F) (r.fresh k _ b hk F).2.1
  .rw[Z]at E;simp[BT]at E
 grind
theorem Xk(u:∀g S,assoc C.specs g=some S->Sound C.P g S)(e:aR B ι σ a w)(h:Vx C o σ K):Wz B C ι o σ K a w:=by
 cases R:He o.op with
 |true=>exact(byJ e R h).stp e
 |false=>
  unfold Vx at h;cases j:o.op<;>simp only[j]at h R
  case alloc T=>
   intro next Q z
   refine Y7 e j h next Q (λD L E F i p G=>?_)
   obtain⟨U,s,t,_⟩:=AP _ _ i p
   grind
  case box T x=>
   split at h
   .intro next Q z
    obtain⟨τ,m,H,I⟩:=qV _ _ e h;refine UP m j H next Q (λD L E F i p G=>?_)
    obtain⟨U,s,t,_⟩:=AP _ _ i p;exact z D U E F s t (G.of_fz I)
   .exact UP e j h
  case buildSlice T n ps=>
   intro next Q z
   refine NT e j h next Q (λD L E F i p G=>?_)
   obtain⟨U,s,t,_⟩:=ER _ _ i p;obtain⟨σ3,V,W,_⟩:=qV _ _ s t
   grind
  case makeFunc f x X=>
   intro next Q z
   obtain⟨τ,m,H,a0⟩:=AP _ _ e h;obtain⟨v,x,O,Y,H⟩:=nU m (λX b=>bg) H;unfold Oper.wp;rw[O w (.inr rfl),Oper.upon_value];exact z ι _ _ _ (m.put o.dst Y) H (nR e)
  case store T x v=>
   cases M:o.dst with
   |none=>
    rw[M]at h;intro next Q z
    obtain⟨τ,m,H,I⟩:=qV _ _ e h;exact WN m j M H next Q (λD L E F i p G=>z D L E F i p (G.of_fz I))
   |some d=>grind
  case makeSlice T l c=>
   intro next Q z
   refine O6 e j h next Q (λD L E F i p G=>?_)
   obtain⟨U,s,t,_⟩:=ER _ _ i p
   grind
  case slice T x lo hi mx=>exact WU e j h
  case makeMap T r=>exact SC e j h
  case lookup T x k ok=>exact VJ e j h
  case mapUpdate T x k v=>
   cases M:o.dst with
   |none=>
    rw[M]at h;have h:(match SB C.heapT 400000 with|true=>LR C T x k v σ K|false=>Eg C T x k v σ K):=h;split at h
    .exact VI e j M h
    .exact O5 e j M h
   |some d=>grind
  case range T x=>exact W7 e j h
  case next x b=>exact ZL e j h
  case entry x=>exact YT e j h
  case call c=>
   obtain⟨A,args,N⟩:=c;cases A with
   |builtin b=>
    cases b<;>simp only[He,Bool.true_eq_false]at R<;>simp only at h
    case append=>
     split at h
     .rename_i x y T tx Y ht;intro next Q z
      refine Wa e j rfl Y ht h next Q (λD L E F i p G=>?_)
      obtain⟨σ3,V,W,_⟩:=qV _ _ i p
      grind
     grind
    case cap=>exact(nU e (λX b=>bg) h).stp e
    all_goals exact h.elim
   |value g=>
    simp only at h;split at h
    .rename_i f fs X hg;split at h
     .split at h
      .rename_i J;exact bpZ e j rfl hg J h
      grind
     .split at h
      .rename_i J Z;exact azX u e j rfl hg J Z h
      grind
    grind
   |invoke r n=>exact h.elim
  all_goals (first|exact h.elim|(simp[He]at R))
theorem Qf(c:aR B ι σ a w){d xs}(h:σ.ev (.tmp d)= .at (.val (.tuple xs))):a.tmps[d]? =none\/∃xs,a.tmps[d]? =some (.tuple xs):=by
 have b:=c.ev (.tmp d);rw[h]at b;have b:a.eval (.tmp d)= .tuple xs:=b;simp only[Act.eval,Array.getD_eq_getD_getElem?]at b
 grind
theorem JJ(c:aR B ι σ a w){d t}(h:σ.ev (.tmp d)= .at (.val (.bool t))):a.tmps[d]? =some (.bool t):=by
 have b:=c.ev (.tmp d);rw[h]at b;have b:a.eval (.tmp d)= .bool t:=b;simp only[Act.eval,Array.getD_eq_getD_getElem?]at b;cases e:a.tmps[d]? with
 |none=>rw[e]at b;simp[undef]at b
 |some v=>grind
theorem aR.setTmp(b:aR B ι σ a w){c t}(h:σ.ev c= .at (.val (.bool t))):aR B ι (setTmp σ c t) a w:=by
 cases c with
 |tmp d=>
  refine⟨?_,b.defers,b.own,b.dist,b.fresh,b.wrel,b.one⟩;have i:=JJ b h;have:=b.slots.set d (x:=.at (.val (.bool t))) (v:=.bool t) rfl;show DenS ι (σ.sl.set d _) a.tmps.toList
  have e:a.tmps.toList.set d (.bool t)=a.tmps.toList:=by
   apply ext_getElem?
   grind
  grind
 |const v=>exact b
 |global g=>exact b
 |func f=>exact b
theorem Tp{c t}(h:σ.ev c= .at (.val (.bool t))):Fz σ (setTmp σ c t):=by
 cases c with
 |tmp d=>
  refine⟨λ_ _ _ i h=>⟨i,h⟩,λ_ _ _ h=>h,?_,?_,rfl⟩
  .intro x k j b;cases x with
   |tmp e=>
    simp only[Vc.setTmp,St.ev,A0]at b;simp only[St.ev]
    grind
   |const v=>exact b
   |global g=>exact b
   |func f=>exact b
  .intro x k b;cases x with
   |tmp e=>
    simp only[Vc.setTmp,St.ev,A0]at b;simp only[St.ev]
    grind
   |const v=>exact b
   |global g=>exact b
   |func f=>exact b
 |const v=>exact Fz.refl σ
 |global g=>exact Fz.refl σ
 |func f=>exact Fz.refl σ
def GWp(C:Ctx)(ops:Array Oper)(o:Oper)(a:Act)(w:World)(next:Act->World->Prop)(Q:Exit->Act->World->Prop):=
 if Region.wanted o (yielded ops a.tmps)then o.wp C.P a w next Q else next (a.put o.dst undef) w
theorem SO{ops j d b t g}(e:o.guard=some (j,b))(c:nth ops.toList j=some g)(f:g.dst=some d)(h:a.tmps[d]? =some (.bool t)):
 Region.wanted o (yielded ops a.tmps)=(t==b):=by
 unfold Region.wanted;rw[e];rw[mA,cg]at c;simp[yielded,c,f,h]
theorem Kn{ops j d b g}(f:o.guard=some (j,b))(e:nth ops.toList j=some g)(h:g.dst=some d)(c:a.tmps[d]? =none\/∃xs,a.tmps[d]? =some (.tuple xs)):
 Region.wanted o (yielded ops a.tmps)=false:=by
 unfold Region.wanted;rw[f];rw[mA,cg]at e;rcases c with c|⟨xs,c⟩<;>simp[yielded,e,h,c]
theorem HP{f ops}(c:aR B ι σ a w)(h:Rh f ops o σ K):
 ∃e,aR B ι e a w/\Fz σ e/\((Region.wanted o (yielded ops a.tmps)=true/\f o e K)\/(Region.wanted o (yielded ops a.tmps)=false/\K (e.put o.dst (.at (.val undef))))):=by
 unfold Rh at h;split at h
 .rename_i i;exact⟨σ,c,Fz.refl σ,.inl ⟨by simp[Region.wanted,i],h⟩⟩
 .rename_i j m i;split at h
  .exact h.elim
  .rename_i g n;split at h
   .exact h.elim
   .rename_i d p;split at h
    .rename_i t b;have l:=JJ c b;have r:=SO (o:=o) (a:=a) i n p l;rcases yS h with⟨rfl,h⟩|⟨rfl,h⟩
     .refine⟨setTmp σ (.tmp d) true,c.setTmp b,Tp b,?_⟩
      grind
     .refine⟨setTmp σ (.tmp d) false,c.setTmp b,Tp b,?_⟩
      grind
    .rename_i s b;exact⟨σ,c,Fz.refl σ,.inr ⟨Kn i n p (Qf c b),h⟩⟩
    grind
theorem XC(c:∀g S,assoc C.specs g=some S->Sound C.P g S){ops}(m:aR B ι σ a w)(h:VR C ops o σ K) next Q(b:∀i e f w',aR B i e f w'->K e->Kl σ ι o w w'->next f w'):GWp C ops o a w next Q:=by
 obtain⟨t,d,j,n⟩:=HP m h;unfold GWp;rcases n with⟨l,h⟩|⟨l,h⟩
 .rw[if_pos l];exact Xk c d h next Q (λi e f w' p r s=>b i e f w' p r (s.of_fz j))
 .rw[if_neg (by simp[l])];exact b ι _ _ _ (d.put o.dst (x:=.at (.val undef)) rfl) h (nR m)
theorem Qc{P next Q}(h:o.wp P a w next Q):o.wpIn Fence.wide 0 P a w next Q:=by
 refine⟨λ_ _=>trivial,?_⟩;show o.uponIn Fence.wide 0 P a next Q ((execOp a.eval o).run P w)
 unfold Oper.wp at h;cases b:(execOp a.eval o).run P w with
 |ok x g=>
  rw[b]at h;cases x with
  |value v=>exact h
  |skip=>exact h
  |defer d=>exact h
  |enter f args=>exact⟨λe=>by simp[Fence.wide]at e,callsIn_wide.2 h⟩
  |row r args=>
   refine⟨λe=>by simp[Fence.wide]at e,λc i _=>?_⟩;obtain⟨v,j,l,m⟩:=h c i;exact⟨v,j,l,stepsIn_wide.2 m⟩
  |_=>exact h.elim
 |halt x g=>
  rw[b]at h;cases x with
  |panic v=>exact h
  |_=>exact h.elim
def b2Z(B:wJ)(C:Ctx)(o:Oper)(K:St->Prop)(a:Act)(w:World):=
 ∀(next:Act->World->Prop)(Q:Exit->Act->World->Prop),(∀e b c d,aR B e b c d->K b->next c d)->o.wpIn Fence.wide 0 C.P a w next Q
theorem WD(s:aR B ι σ a w){c g l E cs}(O:o.op= .call c)(R:c.callee= .value g)(T:σ.ev g= .at (.val (.func (.yield l) E cs)))(U:E.toList=[])(V:cs.toList=[])(h:Ve C o (.func (.yield l) #[] #[]) c.args.toList σ K):b2Z B C o K a w:=by
 intro next Q p
 unfold Ve at h;split at h
 .exact h.elim
 .rename_i S hS;split at h
  .rename_i W t;obtain⟨X,h⟩:=h;have Y:=DB s 0 _ _ _ t;subst Y;have F:=s.wrel;obtain⟨Z,v,f,y,M,i⟩:=X.go l _ σ.m σ.h w _ h ⟨F.hsat,F.msat,F.disj⟩;have H:a.eval g= .func (.yield l) E cs:=by have:=s.ev g;rw[T]at this;exact this
   have z:E= #[]:=bg
   have A:cs= #[]:=bg
   subst z A;have G:c.args.map a.eval=(c.args.toList.map a.eval).toArray:=bg
   have r:(execOp a.eval o).run C.P w= .ok (.round l Z v f y) w:=by
    unfold execOp;simp only[O,resolve,R,H,Deferred.ofValue,Sem.run_bind,Sem.run_pure,Result.andThen_ok,invoke]
    grind
   refine⟨λ_ _=>trivial,?_⟩;show o.uponIn Fence.wide 0 C.P a next Q ((execOp a.eval o).run C.P w)
   rw[r,Oper.uponIn_round];refine⟨λe=>by simp[Fence.wide]at e,i.mono ?_⟩;rintro e N ⟨u,m',h',rfl,hK,d⟩;show next (a.put o.dst u) N
   have I:DN ⟨w,λb=>σ.m b≠none,σ.h,[]⟩ m' h' N:=
    ⟨d.tape,d.os,d.output,d.drawn,d.size,λb n D=>d.frame b n (Classical.byContradiction D),d.heapy.hsat,d.heapy.msat,d.heapy.disj,d.hle.le,λb n D=>d.hold b n (Classical.byContradiction D),λb J n=>d.mfr b J n⟩
   have L:=s.called I (λb n=>by
    cases hm:σ.m b with
    |none=>grind
    |some J=>exact F.mfr b J hm) (λj o' b hj n D=>D (s.fresh j o' b hj n).2.1)
   exact p ι _ _ _ (L.put o.dst (x:=.at (.val u)) rfl) hK
  grind
theorem a3X(b:∀g S,assoc C.specs g=some S->Sound C.P g S)(f:aR B ι σ a w)(h:aJQ C o σ K):b2Z B C o K a w:=by
 have i:Vx C o σ K->b2Z B C o K a w:=λh next Q j=>Qc (Xk b f h next Q (λm n p r s t _=>j m n p r s t))
 unfold aJQ at h;split at h
 .rename_i c u;split at h
  .rename_i g v;split at h
   .rename_i l z A y;split at h
    .rename_i d e;exact WD f u v y d e h
    grind
   grind
  grind
 grind
theorem SE(c:∀g S,assoc C.specs g=some S->Sound C.P g S){ops}(l:aR B ι σ a w)(h:Rh (aJQ C) ops o σ K) next Q(b:∀m i j w',aR B m i j w'->K i->next j w'):
 if Region.wanted o (yielded ops a.tmps)then o.wpIn Fence.wide 0 C.P a w next Q else(∀f,o.about C.P w a.eval=some f->Fence.wide.fn f)/\next (a.put o.dst undef) w:=by
 obtain⟨r,d,n,p⟩:=HP l h;rcases p with⟨e,h⟩|⟨e,h⟩
 .rw[if_pos e];exact a3X c d h next Q b
 .rw[if_neg (by simp[e])];exact⟨λ_ _=>trivial,b ι _ _ _ (d.put o.dst (x:=.at (.val undef)) rfl) h⟩
theorem JN(b:∀g S,assoc C.specs g=some S->Sound C.P g S){ops:Array Oper}{Q:Exit->Act->World->Prop}{R:St->Prop}{rest:dj}(d:∀ι σ a w,aR B ι σ a w->R σ->wpOpsIn Fence.wide 0 C.P ops Q rest a w):
 ∀(l:List Oper)(s:Nat)(ι:de)(σ:St)(a:Act)(w:World),(∀j,j<l.length->l[j]? =ops.toList[s+j]?)->aR B ι σ a w->aGJ C ops l σ R->wpOpsIn Fence.wide 0 C.P ops Q (range' s l.length++rest) a w
 |[],s,ι,σ,a,w,_,c,h=>d ι σ a w c h
 |o::l,s,ι,σ,a,w,e,c,h=>by
  have f:ops[s]? =some o:=by have:=e 0 ay;grind
  simp only[ci,range'_succ,cons_append,wpOpsIn,f]
  exact SE b c h (wpOpsIn Fence.wide 0 C.P ops Q (range' (s+1) l.length++rest)) Q (λi m n p r t=>
   JN b d l (s+1) i m n p (λj u=>by have:=e (j+1) bf;grind) r t)
end
end Go.Vc
namespace Go.Vc
open Go List
def Yd(P:Program)(ops:Array Oper)(w:World)(o:Oper)(v:Value)(a:Act):=
 (Region.wanted o (yielded ops a.tmps)=true/\(execOp a.eval o).run P w= .ok (.value v) w)\/(Region.wanted o (yielded ops a.tmps)=false/\v=undef)
def Aft(ops:Array Oper)(ok:Oper)(i:Nat):=waits ok i=true\/∃j b,ops[j]? =some b/\waits ok j=true/\waits b i=true
def aBX ops b:=∀(k:Nat)(ok:Oper)(d:Nat),ops[k]? =some ok->ok.dst=some d->d∈b.looksAt ops->waits b k=true
structure b8Q(ops:Array Oper)(i:Nat)(oi:Oper):Prop where
 mv:cjQ oi.op=true
 look:∀(k:Nat)(ok:Oper)(d:Nat),ops[k]? =some ok->ok.dst=some d->d∈oi.looksAt ops->Aft ops ok i
structure Ssa(ops:Array Oper):Prop where
 look:∀(i:Nat)(oi:Oper),ops[i]? =some oi->aBX ops oi\/b8Q ops i oi
 dst:∀(i k:Nat)(oi ok:Oper)(d:Nat),ops[i]? =some oi->ops[k]? =some ok->ok.dst=some d->i≠k->oi.dst≠some d
 topo:∀(i:Nat)(oi:Oper)(k:Nat),ops[i]? =some oi->waits oi k=true->k<i
 sel:∀(j:Nat)(o:Oper) cs b,ops[j]? =some o->o.op≠ .select cs b
theorem Aft.in_{ops ok i}{L:Array Bool}(h:Aft ops ok i)(c:∀j,waits ok j=true->L.getD j false=true)(d:∀(j:Nat)(b:Oper),ops[j]? =some b->L.getD j false=true->∀k,waits b k=true->L.getD k false=true):L.getD i false=true:=by
 rcases h with h|⟨j,b,e,f,g⟩
 .exact c i h
 grind
theorem Ssa.self{ops}(c:Ssa ops){k:Nat}{o}(b:ops[k]? =some o):∀d,o.dst=some d->d∉o.looksAt ops:=λd f g=>by
 rcases c.look k o b with h|h
 .have:=c.topo k o k b (h k o d b f g);omega
 .rcases h.look k o d b f g with e|⟨j,i,l,e,m⟩
  .have:=c.topo k o k b e;omega
  .have:=c.topo k o j b e;have:=c.topo j i k l m;omega
theorem bBZ{P o}(h:cjQ o.op=true):Cn P o=false:=by
 unfold Cn;cases e:o.op<;>simp_all [cjQ]
theorem Mw{o k}:waits o k=true↔∃e∈o.after,Region.binds .any e=true/\e.on=k:=by
 unfold waits;rw[any_eq_true];constructor
 .rintro⟨e,b,h⟩;simp only[bz]at h;exact⟨e,bg,h.1,ca h.2⟩
 .rintro⟨e,b,c,d⟩;exact⟨e,bg,by simp[c,d]⟩
theorem bvZ{ops}(h:cOZ ops=true)(t:Region.noSelect ops=true):Ssa ops:=by
 unfold cOZ at h;simp only[all_eq_true,mem_range]at h;have l:∀{i:Nat}{m:Oper},ops[i]? =some m->i<ops.toList.length:=λf=>bg
 refine⟨?_,?_,?_,Region.noSelect_spec t⟩
 .intro i m f;have c:=h i (l f);rw[mA,cg,f]at c;simp only[bz,Bool.or_eq_true,all_eq_true,mem_range]at c;rcases c.2 with p|⟨u,p⟩
  .refine .inl λk ok d g n v=>?_;have b:=p k (l g);rw[mA,cg,g]at b
   grind
  .refine .inr ⟨u,λk ok d g n v=>?_⟩;have b:=p k (l g);rw[mA,cg,g]at b;simp only[n,Bool.or_eq_true,Bool.not_eq_true',contains_eq_mem,decide_eq_false_iff_not]at b;rcases b with b|b
   .grind
   .unfold c0Z at b;simp only[Bool.or_eq_true,any_eq_true,bz]at b;rcases b with b|⟨⟨y,j⟩,F,z,A⟩
    .exact .inl b
    .refine .inr ⟨j,y,?_,z,A⟩
     grind
 .intro i k m ok d f g n r;have c:=h i (l f);rw[mA,cg,f]at c;simp only[bz,all_eq_true,mem_range]at c;have b:=c.1.2 k (l g);rw[mA,cg,g]at b;simp only[n,Bool.or_eq_true]at b;rcases b with b|b
  .exact(r (ca b)).elim
  grind
 .intro i m k f D;have s:i<ops.toList.length:=bg
  have c:=h i s;rw[mA,cg,f]at c;simp only[bz,all_eq_true]at c;obtain⟨e,G,E,rfl⟩:=Mw.1 D;have:=c.1.1 e bg;simp only[E,Bool.not_true,Bool.false_or]at this;rw[<-Nat.blt_eq];exact this
theorem yQ{ops b j}:j∈Region.ready .any ops b↔b.getD j true=false/\∃o,ops[j]? =some o/\∀k,waits o k=true->b.getD k false=true:=by
 rw[mem_ready];constructor
 .rintro⟨c,o,d,f⟩;refine⟨c,o,d,λk i=>?_⟩;obtain⟨e,g,h,rfl⟩:=Mw.1 i
  grind
 .rintro⟨c,o,d,f⟩;exact⟨c,o,d,λe g h=>f e.on (Mw.2 ⟨e,g,h,rfl⟩)⟩
theorem VS{l:Array Bool}{i}(h:l.getD i true=false):l.getD i false=false/\i<l.size:=by
 grind
theorem xH{l:Array Bool}{i}(h:i<l.size):(l.setIfInBounds i true).getD i false=true:=by
 simp[Array.getD,h]
theorem Kd{ops o}{c e:Act}(l:∀cs b,o.op≠ .select cs b)(h:∀t∈o.looksAt ops,c.tmps[t]? =e.tmps[t]?):
 execOp c.eval o=execOp e.eval o/\Region.wanted o (yielded ops c.tmps)=Region.wanted o (yielded ops e.tmps):=by
 constructor
 .refine execOp_congr o l λx m=>?_;cases x with
  |tmp t=>
   have:t∈o.looksAt ops:=mem_append_left _ (mem_filterMap.2 ⟨.tmp t,bg,rfl⟩);simp only[Act.eval,Array.getD_eq_getD_getElem?,h t this]
  |const v=>rfl
  |global g=>rfl
  |func f=>rfl
 .unfold Region.wanted;split
  .rfl
  .rename_i j i n
   have:yielded ops c.tmps j=yielded ops e.tmps j:=by
    unfold yielded;cases p:(ops[j]?).bind (·.dst)with
    |none=>rfl
    |some d=>
     have r:d∈o.looksAt ops:=by
      unfold Oper.looksAt
      grind
     grind
   rw[this]
theorem Pk{a:Act}{d v t}(h:d≠some t):(a.put d v).tmps[t]? =a.tmps[t]? :=by
 cases d with
 |none=>rfl
 |some e=>
  have:e≠t:=λx=>h (by rw[x]);simp[Act.put,Array.getElem?_setIfInBounds_ne this]
theorem cfJ(a:Act) d u v:(a.put d u).put d v=a.put d v:=by
 cases d with
 |none=>rfl
 |some e=>simp[Act.put]
structure UU(P:Program)(ops:Array Oper)(L Cl:Array Bool)(ar ac:Act)(w:World):Prop where
 szL:L.size=ops.size
 szC:Cl.size=ops.size
 sub:∀i,L.getD i false=true->Cl.getD i false=true
 rd:∀(i:Nat)(o:Oper),ops[i]? =some o->Cl.getD i false=true->L.getD i false=false->He o.op=true
 clC:∀(i:Nat)(o:Oper),ops[i]? =some o->Cl.getD i false=true->∀k,waits o k=true->Cl.getD k false=true
 clL:∀(i:Nat)(o:Oper),ops[i]? =some o->L.getD i false=true->∀k,waits o k=true->L.getD k false=true
 tsz:ar.tmps.size=ac.tmps.size
 df:ar.defers=ac.defers
 agree:∀t,(∀(i:Nat)(o:Oper),ops[i]? =some o->Cl.getD i false=true->L.getD i false=false->o.dst≠some t)->ar.tmps[t]? =ac.tmps[t]?
 pend:∀(i:Nat)(o:Oper),ops[i]? =some o->Cl.getD i false=true->L.getD i false=false->∃v,(aBX ops o->∀w'',(Cn P o=false\/w''=w)->Yd P ops w'' o v ac)/\(b8Q ops i o->∀w'',Yd P ops w'' o v ar)/\ac.put o.dst v=ac
section
variable{P:Program}{ops:Array Oper}{L Cl:Array Bool}{ar ac:Act}{w:World}
theorem Yd.congr{o v a b w}(h:Yd P ops w o v a)(c:execOp b.eval o=execOp a.eval o)(d:Region.wanted o (yielded ops b.tmps)=Region.wanted o (yielded ops a.tmps)):Yd P ops w o v b:=by
 unfold Yd at*
 grind
theorem UU.looks(h:UU P ops L Cl ar ac w){o}(b:aBX ops o)(c:∀k,waits o k=true->L.getD k false=true):∀t∈o.looksAt ops,ar.tmps[t]? =ac.tmps[t]? :=by
 intro t d;refine h.agree t (λk ok e _ g f=>?_);have:=c k (b k ok t e f d)
 grind
theorem UU.looks'(h:UU P ops L Cl ar ac w){i o}(b:b8Q ops i o)(g:Cl.getD i false=false):∀t∈o.looksAt ops,ar.tmps[t]? =ac.tmps[t]? :=by
 intro t e;refine h.agree t (λk ok d c _ f=>?_);have:=(b.look k ok t d f e).in_ (h.clC k ok d c) h.clC
 grind
theorem UU.stepA(s:Ssa ops)(h:UU P ops L Cl ar ac w){i o}(y:ops[i]? =some o)(M:Cl.getD i false=true)(z:∀k,waits o k=true->L.getD k false=true){v}(r:ac.put o.dst v=ac):
 UU P ops (L.setIfInBounds i true) Cl (ar.put o.dst v) ac w:=by
 have n:i<L.size:=by rw[h.szL];grind
 have g:∀k,(L.setIfInBounds i true).getD k false=false->L.getD k false=false/\k≠i:=by
  intro k c;by_cases e:i=k
  .subst e;rw[xH n]at c;cases c
  .rw[getD_set_ne false e]at c;grind
 refine⟨bk h.szL,h.szC,?_,λk ok c f b=>h.rd k ok c f (g k b).1,h.clC,?_,?_,?_,?_,λk ok c f b=>?_⟩
 .intro k c;by_cases e:i=k
  .grind
  .rw[getD_set_ne false e]at c;exact h.sub k c
 .intro k ok c b j A;by_cases e:i=k
  .grind
  .rw[getD_set_ne false e]at b;exact getD_set_true (h.clL k ok c b j A)
 .rw[<-h.tsz];cases o.dst<;>simp[Act.put]
 .rw[<-h.df];cases o.dst<;>rfl
 .intro t D;by_cases e:o.dst=some t
  .rw[e]at r⊢
   rw[<-r];simp only[Act.put,Array.getElem?_setIfInBounds_self,h.tsz]
  .rw[Pk e];refine h.agree t (λk ok c f b=>?_);by_cases E:i=k
   .grind
   .exact D k ok c f (by rw[getD_set_ne false E];exact b)
 .obtain⟨u,F,G,H⟩:=h.pend k ok c f (g k b).1;refine⟨u,F,λl p=>?_,H⟩
  have m:∀d,o.dst=some d->d∉ok.looksAt ops:=λd I J=>by
   have:=(l.look i o d y I J).in_ z h.clL
   grind
  exact(G l p).congr (execOp_put ok (s.sel k ok · · c) ar o.dst v m) (wanted_put ok ar o.dst v m)
theorem UU.take(z:Ssa ops)(h:UU P ops L Cl ar ac w){k o}(r:ops[k]? =some o)(F:Cl.getD k false=false)(X:∀j,waits o j=true->Cl.getD j false=true)(S:He o.op=true){v}(Q:∀c,(Cn P o=false\/c=w)->Yd P ops c o v ac):UU P ops L (Cl.setIfInBounds k true) ar (ac.put o.dst v) w:=by
 have G:k<Cl.size:=by rw[h.szC];grind
 have f:∀j,(Cl.setIfInBounds k true).getD j false=true->j=k\/Cl.getD j false=true:=by
  intro j y;by_cases e:k=j
  .omega
  .rw[getD_set_ne false e]at y;exact .inr y
 have H:L.getD k false=false:=by
  cases T:L.getD k false with
  |false=>rfl
  |true=>rw[h.sub k T]at F;cases F
 have s:∀j,Cl.getD j false=true->(Cl.setIfInBounds k true).getD j false=true:=by
  intro j y;exact getD_set_true y
 have A:=z.self r;refine⟨h.szL,bk h.szC,λi g=>s i (h.sub i g),?_,?_,h.clL,?_,?_,?_,?_⟩
 .intro i l g b m;rcases f i b with rfl|b
  .grind
  .exact h.rd i l g b m
 .intro i l g b j y;rcases f i b with rfl|b
  .grind
  .exact s j (h.clC i l g b j y)
 .rw[h.tsz];cases o.dst<;>simp[Act.put]
 .rw[h.df];cases o.dst<;>rfl
 .intro t R;have e:o.dst≠some t:=R k o r (xH G) H;rw[Pk e];exact h.agree t (λi l g b m=>R i l g (s i b) m)
 .intro i l g b m;by_cases e:i=k
  .subst e;rw[r]at g;cases g;refine⟨v,λ_ c I=>(Q c I).congr (execOp_put o (z.sel i o · · r) ac o.dst v A) (wanted_put o ac o.dst v A),λD c=>?_,cfJ _ _ _ _⟩;obtain⟨U,J⟩:=Kd (z.sel i o · · r) (h.looks' D F);exact(Q c (.inl (bBZ D.mv))).congr U J
  .have n:=(f i b).resolve_left e;obtain⟨u,V,M,N⟩:=h.pend i l g n m;refine⟨u,λE c I=>?_,M,?_⟩
   .have p:∀d,o.dst=some d->d∉l.looksAt ops:=λd O W=>by
     have:=h.clC i l g n k (E k o d r O W)
     grind
    exact(V E c I).congr (execOp_put l (z.sel i l · · g) ac o.dst v p) (wanted_put l ac o.dst v p)
   rw[Act.put_comm ac v u (λd O=>z.dst i k l o d g r O e),N]
theorem WE{o i m w b g Q}(p:execOp m.eval o=execOp i.eval o)(h:o.wp P i w b Q)(s:∀v w',b (i.put o.dst v) w'->g (m.put o.dst v) w')(t:∀d w',¬b (({i with defers:=d::i.defers}:Act).put o.dst undef) w')(y:∀c a w,¬Q (.panic c) a w):o.wp P m w g Q:=by
 unfold Oper.wp at*
 rw[p];generalize (execOp i.eval o).run P w=r at*
 cases r with
 |ok n w'=>
  cases n<;>simp only[Oper.upon]at h⊢
  case value u=>grind
  case skip=>grind
  case defer d=>grind
  case enter f args=>
   refine Calls.mono h λe j l=>?_
   grind
  case row row args=>exact Rows.mono h λu j l=>s u j l
 |halt x w'=>
  cases x<;>simp only[Oper.upon]at h⊢
  grind
theorem UU.stepB(I:Ssa ops)(h:UU P ops L Cl ar ac w){j o}(G:ops[j]? =some o)(U:Cl.getD j false=false)(R:∀k,waits o k=true->L.getD k false=true) u w'(J:∀(i:Nat)(c:Oper)(v:Value),ops[i]? =some c->Cl.getD i false=true->L.getD i false=false->Yd P ops w c v ac->Yd P ops w' c v ac\/Cn P c=false):
 UU P ops (L.setIfInBounds j true) (Cl.setIfInBounds j true) (ar.put o.dst u) (ac.put o.dst u) w':=by
 have A:j<Cl.size:=by rw[h.szC];grind
 have D:j<L.size:=by rw[h.szL];grind
 have l:∀i,(Cl.setIfInBounds j true).getD i false=true->i=j\/Cl.getD i false=true:=by
  intro i b;by_cases e:j=i
  .omega
  .rw[getD_set_ne false e]at b;exact .inr b
 have m:∀i,(L.setIfInBounds j true).getD i false=false->i≠j/\L.getD i false=false:=by
  intro i b;by_cases e:j=i
  .subst e;rw[xH D]at b;cases b
  .rw[getD_set_ne false e]at b;grind
 have s:∀i,Cl.getD i false=true->(Cl.setIfInBounds j true).getD i false=true:=λi b=>getD_set_true b;refine⟨bk h.szL,bk h.szC,?_,?_,?_,?_,?_,?_,?_,?_⟩
 .intro i b;by_cases e:j=i
  .subst e;exact xH A
  .rw[getD_set_ne false e]at b;exact s i (h.sub i b)
 .intro i c b f g;obtain⟨n,p⟩:=m i g;exact h.rd i c b ((l i f).resolve_left n) p
 .intro i c b f k H;rcases l i f with rfl|f
  .rw[G]at b;cases b;exact s k (h.sub k (R k H))
  .exact s k (h.clC i c b f k H)
 .intro i c b g k H;by_cases e:j=i
  .grind
  .rw[getD_set_ne false e]at g;exact getD_set_true (h.clL i c b g k H)
 .cases o.dst<;>simp[Act.put,h.tsz]
 .have:=h.df;cases o.dst<;>exact this
 .intro t S;by_cases e:o.dst=some t
  .rw[e];simp only[Act.put,Array.getElem?_setIfInBounds_self,h.tsz]
  .rw[Pk e,Pk e];refine h.agree t (λi c b f g=>S i c b (s i f) ?_);have n:j≠i:=λx=>bg
   rw[getD_set_ne false n];exact g
 .intro i c b f g;obtain⟨n,p⟩:=m i g;have y:=(l i f).resolve_left n;obtain⟨v,V,M,N⟩:=h.pend i c b y p;refine⟨v,λO z W=>?_,λE z=>?_,?_⟩
  .have r:∀d,o.dst=some d->d∉c.looksAt ops:=λd F Q=>by
    have:=h.clC i c b y j (O j o d G F Q)
    grind
   have T:Yd P ops z c v ac:=by
    grind
   exact T.congr (execOp_put c (I.sel i c · · b) ac o.dst u r) (wanted_put c ac o.dst u r)
  .have r:∀d,o.dst=some d->d∉c.looksAt ops:=λd F Q=>by
    have:=(E.look j o d G F Q).in_ R h.clL
    grind
   exact(M E z).congr (execOp_put c (I.sel i c · · b) ar o.dst u r) (wanted_put c ar o.dst u r)
  .rw[Act.put_comm ac u v (λd F=>I.dst i j c o d b G F n),N]
end
section
variable{B:wJ}{C:Ctx}{ι:de}{σ:St}{a:Act}{w:World}
theorem WS{P b σ c d K}(h:Oh P b σ c d K):Oh P b σ c d True/\K:=by
 unfold Oh at h⊢
 repeat' split at h
 all_goals first|exact h.elim|skip
 all_goals simp_all
theorem Qi{P:Program}{e:Bool}{ops:Array Oper}{b:Array Bool}{σ:St}{c:Oper}:∀(l:List Oper)(s:Nat){K:Prop},Mz P e ops b σ c s l K->
 K/\∀(i:Nat)(d:Oper),l[i]? =some d->b.getD (s+i) false=true->He d.op=true->waits c (s+i)=false->BF ops σ d=false->Oh P e σ c d True
 |[],s,K,h=>⟨h,λi d f=>by simp at f⟩
 |o::l,s,K,h=>by
  have key:(Mz P e ops b σ c (s+1) l K)/\(b.getD s false=true->He o.op=true->waits c s=false->BF ops σ o=false->Oh P e σ c o True):=by
   simp only[Mz]at h;split at h
   .obtain⟨g,j⟩:=WS h
    grind
   grind
  obtain⟨m,n⟩:=Qi l (s+1) key.1
  grind
theorem WR{σ b c τ K}(h:Kx σ b c τ K):Kx σ b c τ True/\K:=by
 unfold Kx at h⊢
 repeat' split at h
 all_goals simp_all
theorem Og{ops:Array Oper}{b:Array Bool}{σ:St}{c:Oper}{τ:St}:∀(l:List Oper)(s:Nat){K:Prop},Ib ops b σ c τ s l K->
 K/\∀(i:Nat)(d:Oper),l[i]? =some d->b.getD (s+i) false=true->He d.op=true->waits c (s+i)=false->BF ops σ d=false->Kx σ c d τ True
 |[],s,K,h=>⟨h,λi d e=>by simp at e⟩
 |o::l,s,K,h=>by
  have key:(Ib ops b σ c τ (s+1) l K)/\(b.getD s false=true->He o.op=true->waits c s=false->BF ops σ o=false->Kx σ c o τ True):=by
   simp only[Ib]at h;split at h
   .obtain⟨f,g⟩:=WR h
    grind
   grind
  obtain⟨j,m⟩:=Og l (s+1) key.1
  grind
theorem VN{ops c}(e:aR B ι σ a w)(h:BF ops σ c=true):Region.wanted c (yielded ops a.tmps)=false:=by
 unfold BF at h;split at h
 .cases h
 .rename_i j f i;split at h
  .cases h
  .rename_i g l;split at h
   .cases h
   .rename_i d m;split at h
    .rename_i t b;rw[SO i l m (JJ e b)]
     grind
    .rename_i n b;exact Kn i l m (Qf e b)
    .cases h
theorem DD(m:aR B ι σ a w){k:Nat}{p:Own}(c:nth σ.own k=some (some p)){b:Nat}(n:blk (ι k)=some b):∀{l:dp},Jr σ k l=true->∀x∈l,∀j,(σ.ev x= .at (.lst j)\/∃off,σ.ev x= .at (.ptr j off))->blk (ι j)≠some b
 |[],_,x,d=>by cases d
 |y::r,h,x,d=>by
  simp only[Jr,bz]at h;rcases mem_cons.1 d with rfl|d
  .intro j e g;have f:=h.1;rcases e with e|⟨off,e⟩
   all_goals
    simp only[e]at f;split at f
    .rename_i s i;have:=m.dist j k _ _ b i c g n;subst this;simp at f
    .cases f
  .exact DD m c n h.2 x d
theorem cgQ{ops fl oj U v w'}(D:aR B ι σ a w)(hk:Kl σ ι oj w w')(f:Oh C.P fl σ oj U True)(a':fl=true->∃τ:St,DN B τ.m τ.h w'/\Kx σ oj U τ True)(hy:Yd C.P ops w U v a):Yd C.P ops w' U v a\/Cn C.P U=false:=by
 unfold Oh at f;split at f
 .grind
 .left;rcases hy with⟨hw,b4⟩|hy
  .left;refine⟨hw,?_⟩;split at f
   .rename_i T x G;split at f
    .grind
    .rename_i hT;have z:=D.ev x
     have V:∀(b y:Nat)(H:cr),a.eval x= .pointer (some ⟨b,y,none⟩)->H.length=C.P.cellsOf T->(∀j u,H[j]? =some u->w.cell? ⟨b,y+j,none⟩=some u)->(∀j u,H[j]? =some u->w'.cell? ⟨b,y+j,none⟩=some u)->
      (execOp a.eval U).run C.P w'= .ok (.value v) w':=by
      intro b y H I W hc a6;have Y:=BK hT W hc;have h2:=BK hT W a6
      have e1:(execOp a.eval U).run C.P w= .ok (.value (mkV C.P T H)) w:=by
       unfold execOp;simp only[G,I,Instr.loadAt,Instr.sureAddr,Sem.run_bind,Sem.run_pure,Result.andThen_ok,Y]
      have e2:(execOp a.eval U).run C.P w'= .ok (.value (mkV C.P T H)) w':=by
       unfold execOp;simp only[G,I,Instr.loadAt,Instr.sureAddr,Sem.run_bind,Sem.run_pure,Result.andThen_ok,h2]
      grind
     split at f
     .rename_i k y I;rw[I]at z;split at f
      .rename_i p T' H r;split at f
       .rename_i ht a1;have a1:=Nat.le_of_ble_eq_true a1;obtain⟨b,vs,hι,hh,a7⟩:=AJ D r;obtain⟨b',a0,a8⟩:=z;rw[hι]at a0;simp only[Value.pointer.injEq,bx,Addr.mk.injEq]at a0;obtain⟨rfl, -, -⟩:=a0;have a2:=hk.cells k p T' H b r ht hι;rw[hh]at a2;have b5:H.length=vs.toList.length:=a7.length;refine V b y ((vs.toList.drop y).take (C.P.cellsOf T)) a8 bg (λj u J=>?_) (λj u J=>?_)
        .rw[cell_of_heap hh];grind
        .rw[cell_of_heap a2];grind
       grind
      grind
     .rename_i b y d I hd;rw[I]at z;have z:a.eval x= .pointer (some ⟨b,y,none⟩):=z;split at f
      .rename_i H a3;split at f
       .rename_i l W;split at f
        .rename_i F;split at f
         .rename_i X;have hc:=FI D.wrel f.1;refine V b y l z (ca F) hc (λj u J=>?_);have Y:=hc j u J;cases M:BT oj.op with
          |false=>
           rw[M,Bool.false_or]at X;obtain⟨τ,a9,h2⟩:=a' X;unfold Kx at h2;simp only[G,I,hd,a3,W,M]at h2;exact FI a9 h2.1 j u J
          |true=>
          have X:=M;rw[<-Y];exact World.cell?_of_block (w:=w) (w':=w') (a:=⟨b,y+j,none⟩) (hk.ext X b (World.block_lt_of_cell? w ⟨b,y+j,none⟩ Y))
         .refine V b y l z (ca F) (λj u J=>D.wrel.hsat _ _ _ (f.1.rd j u J)) (λj u J=>hk.imm _ _ _ (f.1.rd j u J))
        grind
       grind
      grind
     .rename_i k i sz y d I hd;rw[I]at z;split at f
      .rename_i E' s S H r a3;split at f
       .rename_i l W hs t;have hs:=ca hs;subst hs;split at f
        .rename_i F;obtain⟨e,he,b0⟩:=f.1;obtain⟨N,Z⟩:=uJ D r;obtain⟨b,n,c,hι,hp⟩:=z
         have A:∀b,blk (ι k)=some b->w'.heap[b]? =w.heap[b]? :=by
          intro b O;have Q:=tT (D.own k _ r) O;unfold Wb at t;rw[Bool.or_eq_true]at t;rcases t with t|t
          .exact hk.ext t b Q
          .split at t
           .rename_i l W;refine hk.args l b W Q (D.fresh k _ b r O).2.1 ?_;exact DD D r O t
           .cases t
         have R:w'.ownsRow 0 E' s (ι k) S.length S.flatten:=((D.own k _ r).world (λb O=>A b O)).2
         have rd:∀w1:World,w1.ownsRow 0 E' s (ι k) S.length S.flatten->∀j u,l[j]? =some u->w1.cell? ⟨b,i*s+y+j,none⟩=some u:=by
          intro w1 Y j u J;rw[<-b0]at J;have b1:=SX J;have hf:=oU N.len he _ _ b1;have:=Y.cells (g:=b) (by rw[hι];rfl) _ _ hf;rw[Addr.add_none]at this
          grind
         exact V b (i*s+y) l hp (ca F) (rd w Z) (rd w' R)
        grind
       grind
      grind
     grind
   .rename_i src b6 x G;have z:=D.ev x;split at f
    .rename_i k d I hd;rw[I]at z;have z:a.eval x=ι k:=z;split at f
     .rename_i E' sz S s r hs;split at f
      .rename_i E a4 a5;split at f
       .rename_i hE;split at f
        .rename_i t;have b2:=f.1;obtain⟨N,Z⟩:=uJ D r;have b3:S=aY s.data.toList:=b2
         have A:∀b,blk (ι k)=some b->w'.heap[b]? =w.heap[b]? :=by
          intro b O;have Q:=tT (D.own k _ r) O;unfold Wb at t;rw[Bool.or_eq_true]at t;rcases t with t|t
          .exact hk.ext t b Q
          .split at t
           .rename_i l W;refine hk.args l b W Q (D.fresh k _ b r O).2.1 ?_;exact DD D r O t
           .cases t
         have R:w'.ownsRow 0 E' sz (ι k) S.length S.flatten:=((D.own k _ r).world (λb O=>A b O)).2
         have go:∀w1:World,w1.ownsRow 0 E' sz (ι k) S.length S.flatten->(execOp a.eval U).run C.P w1= .ok (.value (.string ⟨s.data.toList.toArray⟩)) w1:=by
          intro w1 Y;subst b3;exact G4 G a4 hE a5 z Y
         grind
        grind
       grind
      grind
     grind
    grind
   grind
  .exact .inr hy
theorem UR{g:Nat->Prop}:∀{l:dj},b0J g l->∀j∈l,g j
 |[],_,j,b=>by cases b
 |[i],h,j,b=>by simp at b;subst b;exact h
 |i::k::r,h,j,b=>by
  rcases mem_cons.1 b with rfl|b
  .exact h.1
  .exact UR h.2 j b
theorem GP{ops:Array Oper}:∀{l:dj}{i:Nat}{o:Oper},I6 ops l=some (i,o)->i∈l/\ops[i]? =some o/\He o.op=true
 |[],i,o,h=>by simp[I6]at h
 |k::r,i,o,h=>by
  simp only[I6]at h;split at h
  .rename_i ok b;split at h
   .rename_i e;simp only[bx,Prod.mk.injEq]at h;obtain⟨rfl,rfl⟩:=h;rw[mA,cg]at b
    grind
   .obtain⟨c,d⟩:=GP h
    grind
  .obtain⟨c,d⟩:=GP h
   grind
def xF(ops:Array Oper)(L:Array Bool):=((List.range ops.size).filter λi=> !L.getD i false).length
theorem Kr{ops L i}(d:L.size=ops.size)(h:i<ops.size)(m:L.getD i false=false):xF ops (L.setIfInBounds i true)+1=xF ops L:=by
 unfold xF
 have key:∀(l:dj),l.Nodup->(l.filter λj=> !(L.setIfInBounds i true).getD j false).length+(if i∈l then 1 else 0)=(l.filter λj=> !L.getD j false).length:=by
  intro l
  induction l with
  |nil=>intro _;simp
  |cons j r f=>
   intro c;have b:=nodup_cons.1 c;have:=f b.2;by_cases e:i=j
   .subst e;have g:(L.setIfInBounds i true).getD i false=true:=xH aC
    grind
   .have g:(L.setIfInBounds i true).getD j false=L.getD j false:=getD_set_ne false e
    grind
 grind
theorem NU{ops L}(c:Ssa ops)(f:L.size=ops.size)(h:Region.ready .any ops L=[]):∀i,i<ops.size->L.getD i false=true:=by
 intro i
 induction i using Nat.strongRecOn with
 |_ i g=>
  intro d;cases j:L.getD i false with
  |true=>rfl
  |false=>
   exfalso;have b:ops[i]? =some ops[i]:=Array.getElem?_eq_getElem d
   have:i∈Region.ready .any ops L:=by
    rw[yQ];refine⟨?_,_,b,λk e=>g k (c.topo i _ k b e) (Nat.lt_trans (c.topo i _ k b e) d)⟩
    grind
   grind
theorem Fa{ops L}(h:∀i,i<ops.size->L.getD i false=true):Region.ready .any ops L=[]:=by
 cases b:Region.ready .any ops L with
 |nil=>rfl
 |cons i r=>
  exfalso;have:i∈Region.ready .any ops L:=bg
  obtain⟨c,o,d,_⟩:=yQ.1 this
  grind
theorem UU.eq_of_all{P ops L Cl ar ac}(h:UU P ops L Cl ar ac w)(b:∀i,i<ops.size->L.getD i false=true):ar=ac:=by
 have c:ar.tmps=ac.tmps:=by
  apply Array.ext_getElem?;intro t;refine h.agree t (λi o d _ e=>?_)
  grind
 have f:=h.df;cases ar;cases ac
 grind
theorem bsQ{ops R n Cl}(h:El C ops n Cl σ R)(b:Region.ready .any ops Cl=[]):R σ:=by
 cases n<;>simp only[El,b]at h<;>exact h
theorem Zb{ops b σ d τ K}(h:Mo C ops b σ d τ K):
 (aAJ C=true->∀(i:Nat)(c:Oper),ops.toList[i]? =some c->b.getD (0+i) false=true->He c.op=true->waits d (0+i)=false->BF ops σ c=false->Kx σ d c τ True)/\K:=by
 unfold Mo at h;split at h
 .rename_i e;obtain⟨f,g⟩:=Og _ 0 h
  grind
 grind
theorem UQ(F:∀g S,assoc C.specs g=some S->Sound C.P g S){ops}(G:Ssa ops){Q R}(hQ:∀ι σ a w,aR B ι σ a w->R σ->Q .normal a w)(b':∀c a w,¬Q (.panic c) a w):
 ∀(n:Nat)(b:Nat)(Cl:Array Bool)(ι:de)(σ:St)(ac:Act)(w:World),aR B ι σ ac w->El C ops n Cl σ R->∀(L:Array Bool)(ar:Act),UU C.P ops L Cl ar ac w->xF ops L=b->
  wpAny C.P .any ops Q b L ar w:=by
 have fin:∀(n:Nat)(Cl:Array Bool)(ι:de)(σ:St)(ac:Act)(w:World),aR B ι σ ac w->El C ops n Cl σ R->∀(L:Array Bool)(ar:Act),UU C.P ops L Cl ar ac w->Region.ready .any ops L=[]->Q .normal ar w:=by
  intro n Cl ι σ ac w m h L ar f hr;have p:=NU G f.szL hr;rw[f.eq_of_all p];exact hQ ι σ ac w m (bsQ h (Fa (λi t=>f.sub i (p i t))))
 have zero:∀(n:Nat)(Cl:Array Bool)(ι:de)(σ:St)(ac:Act)(w:World),aR B ι σ ac w->El C ops n Cl σ R->∀(L:Array Bool)(ar:Act),UU C.P ops L Cl ar ac w->xF ops L=0->wpAny C.P .any ops Q 0 L ar w:=by
  intro n Cl ι σ ac w m h L ar f T
  have p:∀i,i<ops.size->L.getD i false=true:=by
   intro i t;unfold xF at T;have b9:=eq_nil_of_length_eq_zero T;cases hL:L.getD i false with
   |true=>rfl
   |false=>
    have:i∈(List.range ops.size).filter λi=> !L.getD i false:=mem_filter.2 ⟨mem_range.2 t,by simp[hL]⟩
    grind
  have hr:=Fa p;exact⟨hr,fin n Cl ι σ ac w m h L ar f hr⟩
 have b0:∀(n b:Nat),(∀(Cl:Array Bool)(ι:de)(σ:St)(ac:Act)(w:World),aR B ι σ ac w->El C ops n Cl σ R->∀(L:Array Bool)(ar:Act),UU C.P ops L Cl ar ac w->xF ops L=b->wpAny C.P .any ops Q b L ar w)->
  ∀(Cl:Array Bool)(ι:de)(σ:St)(ac:Act)(w:World),aR B ι σ ac w->El C ops n Cl σ R->∀(L:Array Bool)(ar:Act),UU C.P ops L Cl ar ac w->xF ops L=b+1->
   ∀i∈Region.ready .any ops L,Cl.getD i false=true->wpOp C.P ops Q i (wpAny C.P .any ops Q b (L.setIfInBounds i true)) ar w:=by
  intro n b ih Cl ι σ ac w m h L ar f T i t hC;obtain⟨H,o,r,M⟩:=yQ.1 t;obtain⟨hL,b1⟩:=VS H;obtain⟨v,hv,c0,b2⟩:=f.pend i o r hC hL
  have hy:Yd C.P ops w o v ar:=by
   rcases G.look i o r with I|c1
   .obtain⟨he,U⟩:=Kd (G.sel i o · · r) (f.looks I M);exact(hv I w (.inr rfl)).congr he U
   grind
  have V:wpAny C.P .any ops Q b (L.setIfInBounds i true) (ar.put o.dst v) w:=
   ih Cl ι σ ac w m h _ _ (f.stepA G r hC M b2) (by have:=Kr f.szL bg hL;omega)
  unfold wpOp;simp only[r];rcases hy with⟨l,y⟩|⟨l,rfl⟩
  .rw[if_pos l];left;unfold Oper.wp;rw[y,Oper.upon_value];exact V
  grind
 intro n
 induction n with
 |zero=>
  intro b
  induction b with
  |zero=>exact zero 0
  |succ b b3=>
   intro Cl ι σ ac w m h L ar f T;refine⟨fin 0 Cl ι σ ac w m h L ar f,λi t=>?_⟩;cases hC:Cl.getD i false with
   |true=>grind
   |false=>
    exfalso;obtain⟨H,o,r,M⟩:=yQ.1 t
    have a1:i∈Region.ready .any ops Cl:=by
     rw[yQ];refine⟨?_,o,r,λk hk=>f.sub k (M k hk)⟩;have:i<Cl.size:=by rw[f.szC];grind
     grind
    simp only[El]at h
    grind
 |succ n W=>
  intro b
  induction b with
  |zero=>grind
  |succ b b3=>
   intro Cl ι σ ac w m h L ar f T;refine⟨fin (n+1) Cl ι σ ac w m h L ar f,λi t=>?_⟩;cases hC:Cl.getD i false with
   |true=>grind
   |false=>
    obtain⟨H,o,r,M⟩:=yQ.1 t;obtain⟨b4,b1⟩:=VS H
    have a1:i∈Region.ready .any ops Cl:=by
     rw[yQ];refine⟨?_,o,r,λk hk=>f.sub k (M k hk)⟩;have:i<Cl.size:=by rw[f.szC];grind
     grind
    simp only[El]at h;split at h
    .grind
    .split at h
     ·
      rename_i k ok b5;obtain⟨b6,X,z⟩:=GP b5;obtain⟨a2,c2,N,a3⟩:=yQ.1 b6;rw[X]at N;cases N;obtain⟨a4,c'⟩:=VS a2;obtain⟨σ1,Y,c3,hc⟩:=HP m h;rcases hc with⟨l,h⟩|⟨l,h⟩
      .obtain⟨v,x,y,hx,hK⟩:=byJ Y z h;have A:=f.take G X a4 a3 z (v:=v) (λa5 a6=>.inl ⟨l,y a5 a6⟩);exact(W (b+1) _ ι _ _ w (Y.put ok.dst hx) hK L ar A T).2 i t
      .have A:=f.take G X a4 a3 z (v:=undef) (λa5 _=>.inr ⟨l,rfl⟩);exact(W (b+1) _ ι _ _ w (Y.put ok.dst (x:=.at (.val undef)) rfl) h L ar A T).2 i t
     ·
      have hg:=UR h i a1;split at hg
      .rename_i o' a7;rw[mA,cg,r]at a7;cases a7;obtain⟨hg,Z⟩:=Qi _ 0 hg;obtain⟨he,U⟩:=Kd (G.sel i o · · r) ((G.look i o r).elim (f.looks · M) (f.looks' · hC));have a0:=XC F m hg (λa' D=>∃O s,aR B O s a' D/\Mo C ops Cl σ o s (El C ops n (Cl.setIfInBounds i true) s R)/\Kl σ ι o w D) Q (λO s a' D h1 h2 h3=>⟨O,s,h1,h2,h3⟩)
       have hB:∀(u:Value)(D:World),(∃O s,aR B O s (ac.put o.dst u) D/\Mo C ops Cl σ o s (El C ops n (Cl.setIfInBounds i true) s R)/\Kl σ ι o w D)->
        wpAny C.P .any ops Q b (L.setIfInBounds i true) (ar.put o.dst u) D:=by
        rintro u D ⟨O,s,J,h',b7⟩;obtain⟨b8,h'⟩:=Zb h';refine W b _ O s _ D J h' _ _ (f.stepB G r hC M u D ?_) (by have:=Kr f.szL bg b4;omega);intro j oj v hj a8 a9 hy;cases E:BF ops σ oj with
        |true=>
         have:=VN m E;rcases hy with⟨h1,_⟩|h1
         .grind
         .exact .inl (.inr h1)
        |false=>
         have c4:waits o j=false:=by
          grind
         have I:=Z j oj bg bg (f.rd j oj hj a8 a9) bg E;exact cgQ m b7 I (λe=>⟨s,J.wrel,b8 e j oj bg bg (f.rd j oj hj a8 a9) bg E⟩) hy
       unfold GWp at a0;unfold wpOp;simp only[r];rw[U];split
       .rename_i l;rw[if_pos l]at a0;left;refine WE he a0 hB ?_ b';rintro d D ⟨O,s,J,_⟩;have:=J.defers;rw[<-m.defers]at this;cases hd:o.dst<;>simp[Act.put,hd]at this
       grind
      grind
end
end Go.Vc
namespace Go.Vc
open Go List
section
variable{B:wJ}{C:Ctx}{ι:de}{σ:St}{a:Act}{w:World}
theorem BE:∀{xs e:dw}{vs:cr}{K:Prop},Ef xs e K->DenS ι xs vs->DenS ι e vs/\K
 |[],[],vs,K,h,b=>⟨b,h⟩
 |x::xs,y::e,[],K,_,b=>b.elim
 |x::xs,y::e,v::vs,K,h,b=>by
  unfold Ef at h;split at h
  .grind
  .rename_i i f g c d;simp only[List.cons.injEq]at c d;obtain⟨rfl,rfl⟩:=c;obtain⟨rfl,rfl⟩:=d;have:=BE h b.2;exact⟨⟨trivial,this.1⟩,this.2⟩
  .rename_i i f j g _ c d;simp only[List.cons.injEq]at c d;obtain⟨rfl,rfl⟩:=c;obtain⟨rfl,rfl⟩:=d;obtain⟨rfl,h⟩:=h;have:=BE h b.2;exact⟨⟨b.1,this.1⟩,this.2⟩
  grind
 |[],_::_,_,K,h,_=>by simp[Ef]at h
 |_::_,[],_,K,h,_=>by simp[Ef]at h
theorem Ai:∀{xs c:du}{K:Prop},Aj xs c K->(∀k o,nth c k=some (some o)->nth xs k=some (some o))/\K
 |[],[],K,h=>⟨λk o b=>by omega,h⟩
 |x::xs,none::c,K,h=>by
  simp only[Aj]at h;obtain⟨d,e⟩:=Ai h;refine⟨λk o b=>?_,e⟩;cases k with
  |zero=>simp[nth]at b
  |succ k=>exact d k o b
 |x::xs,some y::c,K,h=>by
  simp only[Aj]at h;obtain⟨rfl,h⟩:=h;obtain⟨d,e⟩:=Ai h;refine⟨λk o b=>?_,e⟩;cases k with
  |zero=>exact b
  |succ k=>exact d k o b
 |[],_::_,K,h=>by simp[Aj]at h
 |_::_,[],K,h=>by simp[Aj]at h
theorem aR.setSlot(b:aR B ι σ a w){i x v}(c:a.tmps[i]? =some v)(hx:Den ι x v):aR B ι (σ.put (some i) x) a w:=by
 refine⟨?_,b.defers,b.own,b.dist,b.fresh,b.wrel,b.one⟩;have:=b.slots.set i hx;show DenS ι (σ.sl.set i x) a.tmps.toList
 have e:a.tmps.toList.set i v=a.tmps.toList:=by
  apply ext_getElem?
  grind
 grind
theorem aR.nilList(c:aR B ι σ a w) k E sz:aR B (upd ι k (.slice none 0 0)) ((σ.kill k).setOwn k (some (.lst E sz []))) a w:=by
 refine c.place k _ _ (Fx.refl _ _) ⟨JP sz,World.ownsRow_nil w 0 E sz⟩ rfl (λb d=>by simp[blk]at d)
theorem wH(τ:St):∀(c:dw)(i:Nat)(ι:de)(σ:St),aR B ι σ a w->∃g,aR B g (V6 τ c i σ) a w
 |[],i,ι,σ,b=>⟨ι,b⟩
 |y::c,i,ι,σ,b=>by
  simp only[V6];split
  .rename_i k;split
   .rename_i f;split
    .rename_i E h j l m
     have d:a.tmps[i]? =some (.slice none 0 0):=by
      rw[mA]at f;obtain⟨v,d,e⟩:=b.slots.get i _ f;rw[cg]at d;have e:v= .slice none 0 0:=e;rw[d,e]
     exact wH τ c (i+1) _ _ ((b.nilList k E h).setSlot d (x:=.at (.lst k)) (by show _=_;simp))
    .exact wH τ c (i+1) ι σ b
   .exact wH τ c (i+1) ι σ b
  .exact wH τ c (i+1) ι σ b
theorem qG(τ:St)(q:Nat):∀(f:dn)(j:Nat)(ι:de)(σ:St),aR B ι σ a w->∃A,aR B A (Jn τ q f j σ) a w
 |[],j,ι,σ,d=>⟨ι,d⟩
 |y::f,j,ι,σ,d=>by
  simp only[Jn];split
  .rename_i k;split
   .rename_i p T D s;split
    .rename_i t;split
     .rename_i E l N O Q;have g:q≠k:=λe=>bg
      have m:=d.nilList k E l
      have c:nth ((σ.kill k).setOwn k (some (.lst E l []))).own q=some (some (.cellsP p T (D.map (At.sub k (λ_=>.junk))))):=by
       simp only[PX,St.setOwn,St.sub,A0,Cs,g,false_and,if_false,s];rfl
      obtain⟨b,i,u,F,G⟩:=AJ m c
      have H:i.toList[j]? =some (.slice none 0 0):=by
       obtain⟨R,I,n,J,r⟩:=AJ d s;rw[mA]at t;obtain⟨v,S,h⟩:=r.get j _ t;have h:v= .slice none 0 0:=h;rw[rV _ _ g,n]at u
       grind
      have z:i.toList.set j (.slice none 0 0)=i.toList:=by
       apply ext_getElem?
       grind
      have M:aR B (upd ι k (.slice none 0 0)) (JM ((σ.kill k).setOwn k (some (.lst E l []))) q j (.lst k)) a w:=by
       unfold JM;rw[c];refine m.rewrite c (Fx.refl _ _) ⟨b,i,u,F,?_,λU e=>by subst e;have:=aIJ m c;grind⟩;have:=G.set j (x:=.lst k) (v:=.slice none 0 0) (by show _=_;simp)
       grind
      exact qG τ q f (j+1) _ _ M
     .exact qG τ q f (j+1) ι σ d
    .exact qG τ q f (j+1) ι σ d
   .exact qG τ q f (j+1) ι σ d
  .exact qG τ q f (j+1) ι σ d
theorem BI(τ:St):∀(b:du)(q:Nat)(ι:de)(σ:St),aR B ι σ a w->∃d,aR B d (PZ τ b q σ) a w
 |[],q,ι,σ,c=>⟨ι,c⟩
 |y::b,q,ι,σ,c=>by
  simp only[PZ];split
  .rename_i T f;obtain⟨d,e⟩:=qG τ q f 0 ι σ c;exact BI τ b (q+1) d _ e
  .exact BI τ b (q+1) ι σ c
theorem qT{τ K}(t:aR B ι σ a w)(h:CX σ τ K):∃u,aR B u τ a w/\K:=by
 obtain⟨v,f⟩:=wH τ τ.sl 0 ι σ t;obtain⟨m,c⟩:=BI τ τ.own 0 v _ f;have c:aR B m (conv σ τ) a w:=c;unfold CX at h;obtain⟨g,h⟩:=BE h c.slots;obtain⟨d,n,p,y⟩:=Ai h;refine⟨m,⟨g,c.defers,λk o e=>c.own k o (d k o e),λk r o s b e i j l=>c.dist k r o s b (d k o e) (d r s i) j l,?_,?_,c.one⟩,y⟩
 .intro k o b e j;rw[<-n, <-p];exact c.fresh k o b (d k o e) j
 .rw[<-n, <-p];exact c.wrel
theorem aR.froze(j:aR B ι σ a w){m2 g}(f:H8 σ.m σ.h m2 g):aR B ι {σ with m:=m2,h:=g} a w:=by
 have c:=j.wrel;refine⟨j.slots,j.defers,j.own,j.dist,λk o b u y=>?_,?_,j.one⟩
 .obtain⟨z,t,H⟩:=j.fresh k o b u y;refine⟨z,?_,λi=>?_⟩
  .show m2 b=none;cases l:m2 b with
   |none=>rfl
   |some o=>rw[f.sub b o l]at t;cases t
  .show g b i=none;cases l:g b i with
   |none=>rfl
   |some v=>
    rcases f.new b i v l with d|⟨n,E,p,d,_,_⟩
    .grind
    grind
 .refine⟨c.tape,c.os,c.output,c.drawn,c.size,c.frame,λb o v e=>?_,λb o e=>c.msat b o (f.sub b o e),λb o e i=>?_,λb o v e=>f.le.le b o v (c.hle b o v e),λb A r=>?_,λb o e=>c.mfr b o (f.sub b o e)⟩
  .rcases f.new b o v e with d|⟨n,E,p,d,s,_⟩
   .exact c.hsat b o v d
   .rw[cell_of_heap (c.msat b _ d),cg];exact s
  .show g b i=none;have e:m2 b=some o:=e;cases l:g b i with
   |none=>rfl
   |some v=>
    rcases f.new b i v l with d|⟨n,E,p,d,s,D⟩
    .rw[c.disj b o (f.sub b o e) i]at d;cases d
    grind
  .funext i;have e:=congrFun (c.hold b A r) i;show g b i=B.h0 b i;cases l:B.h0 b i with
   |some v=>exact f.le.le b i v (c.hle b i v l)
   |none=>
    cases F:g b i with
    |none=>rfl
    |some v=>
     rcases f.new b i v F with d|⟨n,E,p,d,s,D⟩
     .grind
     .rcases c.mfr b _ d with G|G
      .omega
      grind
theorem LQ{τ K}(s:aR B ι σ a w)(h:VH σ τ K):∃t,aR B t τ a w/\K:=by
 obtain⟨u,g⟩:=wH τ τ.sl 0 ι σ s;obtain⟨n,c⟩:=BI τ τ.own 0 u _ g;have c:aR B n (conv σ τ) a w:=c;unfold VH at h;obtain⟨i,h⟩:=BE h c.slots;obtain⟨d,v,y⟩:=Ai h;have e:=c.froze v;exact⟨n,⟨i,c.defers,λk o f=>c.own k o (d k o f),λk p o r b f j l m=>c.dist k p o r b (d k o f) (d p r j) l m,λk o b f l=>e.fresh k o b (d k o f) l,e.wrel,c.one⟩,y⟩
theorem BO{c R}(b:aR B ι σ a w)(h:KE c R σ):∃x f,R x/\aR B f (c.st x) a w:=by
 unfold KE at h;split at h
 .obtain⟨x,g,d⟩:=h;obtain⟨i,e,_⟩:=qT b d
  grind
 .obtain⟨x,g,d⟩:=h ⟨b.wrel.disj⟩;obtain⟨i,e,_⟩:=LQ b d
  grind
theorem OW{c I S}(b:aR B ι σ a w)(h:Wd c I S σ):∃x f,I x/\S x/\aR B f (c.st x) a w:=by
 unfold Wd at h;split at h
 .obtain⟨x,g,i,d⟩:=h;obtain⟨j,e,_⟩:=qT b d
  grind
 .obtain⟨x,g,i,d⟩:=h ⟨b.wrel.disj⟩;obtain⟨j,e,_⟩:=LQ b d
  grind
def QD(B:wJ)(Q:Hc->St->Prop):Exit->Act->World->Prop
 |.normal,a,w=>∃ι σ,aR B ι σ a w/\Q .normal σ
 |.exit id,a,w=>∃ι σ,aR B ι σ a w/\Q (.exit id) σ
 |.ret,a,w=>∃ι σ,aR B ι σ a w/\Q .ret σ
 |_,_,_=>False
theorem ME(b:∀g S,assoc C.specs g=some S->Sound C.P g S){ops:Array Oper}{Q:Hc->St->Prop}:
 ∀(c:dx)(l:List Oper)(s:Nat)(ι:de)(σ:St)(a:Act)(w:World),(∀j,l[j]? =ops.toList[s+j]?)->aR B ι σ a w->bvJ C ops c l σ (Q .normal)->wpOpsIn Fence.wide 0 C.P ops (QD B Q) (range' s l.length) a w
 |[],l,s,ι,σ,a,w,e,d,h=>by
  have:=JN b (ops:=ops) (Q:=QD B Q) (R:=Q .normal) (rest:=[]) (λι σ a w d h=>⟨ι,σ,d,h⟩) l s ι σ a w (λj _=>e j) d h
  grind
 |(n,f)::c,l,s,ι,σ,a,w,e,d,h=>by
  obtain⟨I,r,t⟩:=h
  have:=JN b (ops:=ops) (Q:=QD B Q) (R:=λτ=>∃x,I x/\CX τ (f.st x) True) (rest:=range' (s+(l.take n).length) (l.drop n).length) (λA D u v i m=>by
   obtain⟨x,m,y⟩:=m;obtain⟨z,p,_⟩:=qT i y;refine ME b c (l.drop n) (s+(l.take n).length) z _ u v (λj=>?_) p (t x m);rw[getElem?_drop,e];by_cases E:n<=l.length
   .grind
   .have F:l[n+j]? =none:=getElem?_eq_none aC;have G:l[l.length+j]? =none:=getElem?_eq_none aC
    grind) (l.take n) s ι σ a w (λj H=>by
    grind) d r
  grind
theorem WH(s:∀g S,assoc C.specs g=some S->Sound C.P g S):∀(c:Code)(σ:St)(Q:Hc->St->Prop)(ι:de)(a:Act)(w:World),aR B ι σ a w->VC C c σ Q->c.wp C.P (QD B Q) a w:=by
 intro c
 induction c with
 |skip=>intro σ Q ι a w d h;exact wp_skip ⟨ι,σ,d,h⟩
 |label l=>intro σ Q ι a w d h;exact wp_label ⟨ι,σ,d,h⟩
 |exit id=>intro σ Q ι a w d h;exact wp_exit ⟨ι,σ,d,h⟩
 |ret=>intro σ Q ι a w d h;exact wp_ret ⟨ι,σ,d,h⟩
 |goto l=>intro σ Q ι a w d h;exact h.elim
 |refuse a3=>intro σ Q ι a w d h;exact h.elim
 |scope a2 U=>intro σ Q ι a w d h;exact h.elim
 |rangeFunc f ps x y u H=>intro σ Q ι a w d h;exact h.elim
 |region id ops V=>
  intro σ Q ι a w d h;cases V with
  |false=>
   refine(wpIn_wide (n:=0)).1 (wpIn_region ?_);have:=ME s (ops:=ops) (Q:=Q) (Zw C id) ops.toList 0 ι σ a w (λj=>ay) d h;rw[range_eq_range'];omega
  |true=>
   simp only[VC]at h;split at h
   .rename_i h1 h2 h3;have hs:=bvZ h1 h2;refine wp_region_any h3 ?_;refine UQ s hs (Q:=QD B Q) (R:=Q .normal) (λι σ a w d h=>⟨ι,σ,d,h⟩) (λc a w h=>h) ops.size ops.size _ ι σ a _ (d.drew (w.drawn+1) (Nat.le_succ _)) h _ a ?_ ?_
    .have F:∀i,(Array.replicate ops.size false).getD i false=true->False:=by
      intro i v;by_cases r:i<ops.size
      .simp[Array.getD,r]at v
      grind
     exact⟨ay,ay,λi v=>v,λi o _ v=>(F i v).elim,λi o _ v=>(F i v).elim,λi o _ v=>(F i v).elim,rfl,rfl,λt _=>rfl,λi o _ v=>(F i v).elim⟩
    .unfold xF;rw[filter_eq_self.2]
     .simp
     .intro i v;by_cases r:i<ops.size<;>simp[Array.getD,r]
   grind
 |seq x y u H=>
  intro σ Q ι a w d h;simp only[VC]at h;split at h
  .obtain⟨h,p⟩:=h;refine wp_seq (wp_mono (u σ _ ι a w d h) ?_);intro e D E b;cases e with
   |normal=>
    obtain⟨G,W,m,x,X,J⟩:=b;show y.wp C.P (QD B Q) D E;obtain⟨Y,z,_⟩:=qT m J
    grind
   |exit id=>exact b
   |ret=>exact b
   |goto l=>exact b
   |panic Z=>exact b
   |outgrown=>exact b
  .split at h
   .obtain⟨I,h,p⟩:=h;refine wp_seq (wp_mono (u σ _ ι a w d h) ?_);intro e D E b;cases e with
    |normal=>
     obtain⟨G,W,m,J⟩:=b;show y.wp C.P (QD B Q) D E;obtain⟨x,Y,X,z⟩:=BO m J
     grind
    |exit id=>exact b
    |ret=>exact b
    |goto l=>exact b
    |panic Z=>exact b
    |outgrown=>exact b
   .refine wp_seq (wp_mono (u σ _ ι a w d h) ?_);intro e D E b;cases e with
    |normal=>
     obtain⟨G,W,m,h'⟩:=b;show y.wp C.P (QD B Q) D E
     grind
    |exit id=>exact b
    |ret=>exact b
    |goto l=>exact b
    |panic Z=>exact b
    |outgrown=>exact b
 |cond c x y u H=>
  intro σ Q ι a w d h;simp only[VC]at h;split at h
  .rename_i t hc;have A:=d.ev c;rw[hc]at A;have A:a.eval c= .bool t:=A;rcases yS h with⟨rfl,h⟩|⟨rfl,h⟩
   .exact wp_cond_true A (u _ Q ι a w (d.setTmp hc) h)
   .exact wp_cond_false A (H _ Q ι a w (d.setTmp hc) h)
  grind
 |block id c U=>
  intro σ Q ι a w d h;refine wp_block (wp_mono (U σ _ ι a w d h) ?_);intro e D E b;cases e with
  |normal=>exact b
  |exit i=>
   obtain⟨G,W,m,h'⟩:=b;show if i=id then _ else _
   simp only at h';split at h'
   .rename_i hb;rw[if_pos (ca hb)];exact⟨G,W,m,h'⟩
   .rename_i hb;rw[if_neg (λe=>by subst e;simp at hb)];exact⟨G,W,m,h'⟩
  |ret=>exact b
  |goto l=>exact b
  |panic Z=>exact b
  |outgrown=>exact b
 |loop c U=>
  intro σ Q ι a w d h;simp only[VC]at h;split at h
  .rename_i l hl;obtain⟨⟨x,X,J⟩,p⟩:=h;obtain⟨Y,z,_⟩:=qT d J;refine wp_loop_ghost (λn a w=>∃x ι,l.inv x/\l.mu x=n/\aR B ι (l.st x) a w) (l.mu x) ⟨x,Y,X,rfl,z⟩ ?_;rintro n D E ⟨x',G,M,rfl,m⟩;refine wp_mono (U _ _ G D E m (p x' M)) ?_;intro e a0 a1 b;cases e with
   |normal=>
    obtain⟨ι3,σ3,N,y,hy,r,O⟩:=b;obtain⟨ι4,T,_⟩:=qT N O;exact⟨l.mu y,r,y,ι4,hy,rfl,T⟩
   |exit id=>exact b
   |ret=>exact b
   |goto l=>exact b
   |panic Z=>exact b
   |outgrown=>exact b
  .split at h
   .rename_i l hl;obtain⟨I,mu,J,p⟩:=h;obtain⟨x,Y,X,z⟩:=BO d J;refine wp_loop_ghost (λn a w=>∃x ι,I x/\mu x=n/\aR B ι (l.st x) a w) (mu x) ⟨x,Y,X,rfl,z⟩ ?_;rintro n D E ⟨x',G,M,rfl,m⟩;refine wp_mono (U _ _ G D E m (p x' M)) ?_;intro e a0 a1 b;cases e with
    |normal=>
     obtain⟨ι3,σ3,N,O⟩:=b;obtain⟨y,ι4,hy,r,T⟩:=OW N O;exact⟨mu y,r,y,ι4,hy,rfl,T⟩
    |exit id=>exact b
    |ret=>exact b
    |goto l=>exact b
    |panic Z=>exact b
    |outgrown=>exact b
   grind
end
end Go.Vc
namespace Go.Vc
open Go List
section
variable{B:wJ}{C:Ctx}{ι:de}{σ:St}{a:Act}{w:World}
def M7(tmps:Array Value):ResultVar->Sem Value
 |.tmp t=>pure (tmps.getD t undef)
 |.cell a t=>do loadVar t (<-asAddr (tmps.getD a undef))
theorem Qv fn tmps:results fn tmps=(do let vs <-fn.results.mapM (M7 tmps);pure (if h:vs.size=1 then vs[0]else .tuple vs)):=by
 unfold results;congr 1
theorem W4(f:aR B ι σ a w){r x}(h:aIQ C σ r=some x):∃v,(M7 a.tmps r).run C.P w= .ok v w/\Den ι x v:=by
 cases r with
 |tmp t=>
  simp only[aIQ,bx]at h;subst h;exact⟨_,rfl,f.ev (.tmp t)⟩
 |cell l T=>
  have d:=f.ev (.tmp l);simp only[aIQ]at h;split at h
  .rename_i k off s;rw[s]at d;split at h
   .rename_i p T' cs u;split at h
    .rename_i e y;have e:=Nat.le_of_ble_eq_true e;simp only[bx]at h;subst h;obtain⟨b,m,z,A,n⟩:=AJ f u;obtain⟨G,c,D⟩:=d;rw[z]at c;simp only[Value.pointer.injEq,bx,Addr.mk.injEq]at c;obtain⟨rfl, -, -⟩:=c;have g:=(n.drop off).take (C.P.cellsOf T);have E:cs.length=m.toList.length:=n.length;have F:=BK (w:=w) (b:=b) (off:=off) (cs:=(m.toList.drop off).take (C.P.cellsOf T)) y bg (λj v H=>by rw[cell_of_heap A];grind);refine⟨_,?_,Kg g⟩;have i:a.tmps.getD l undef= .pointer (some ⟨b,off,none⟩):=D;simp only[M7,i,asAddr,Sem.run_bind,Sem.run_pure,Result.andThen_ok,F]
    .cases h
   .cases h
  .cases h
theorem KD(f:aR B ι σ a w):∀(l:List ResultVar)(xs:dw),JQ C σ l=some xs->∃vs,(l.mapM (M7 a.tmps)).run C.P w= .ok vs w/\DenS ι xs vs
 |[],xs,h=>by
  simp[JQ]at h;subst h;exact⟨[],ay,trivial⟩
 |r::l,xs,h=>by
  simp only[JQ]at h;split at h
  .rename_i x b g c;simp only[bx]at h;subst h;obtain⟨v,i,j⟩:=W4 f g;obtain⟨vs,d,e⟩:=KD f l b c;exact⟨v::vs,by simp[mapM_cons,i,d],j,e⟩
  .cases h
theorem Ap(m:aR B ι σ a w){mv:Bool}:∀(xs:dw)(ts:eb)(rs:dl)(vs:cr),Fs C.P σ mv xs ts=some rs->DenS ι xs vs->
 rs.length=vs.length/\(mv=false->rs=vs.map .val)/\∀(i:Nat)(r:CV)(v:Value),rs[i]? =some r->vs[i]? =some v->Ju w r v/\∀b,jS r v=some b->∃k g,nth σ.own k=some (some g)/\blk (ι k)=some b
 |[],ts,rs,[],h,_=>by
  simp[Fs]at h;grind
 |[],_,_,_::_,_,c=>c.elim
 |x::xs,_,_,[],_,c=>c.elim
 |x::xs,ts,rs,v::vs,h,c=>by
  simp only[Fs]at h;split at h
  .cases h
  .rename_i l p;obtain⟨s,t,y⟩:=Ap m xs ts.tail l vs p c.2
   have fin:∀(j:CV),rs=j::l->(mv=false->j= .val v)->Ju w j v->(∀b,jS j v=some b->∃k g,nth σ.own k=some (some g)/\blk (ι k)=some b)->
    rs.length=(v::vs).length/\(mv=false->rs=(v::vs).map .val)/\∀(i:Nat)(r:CV)(u:Value),rs[i]? =some r->(v::vs)[i]? =some u->Ju w r u/\∀b,jS r u=some b->∃k g,nth σ.own k=some (some g)/\blk (ι k)=some b:=by
    grind
   split at h
   .split at h
    .rename_i k;have d:v=ι k:=c.1;split at h
     .rename_i E F G n;simp only[bx]at h;obtain⟨A,H⟩:=uJ m n;exact fin _ h.symm (λe=>by cases e) ⟨A,bg⟩ (λb f=>⟨k,_,n,by rw[<-d];exact f⟩)
     .cases h
    .have d:v= .slice none 0 0:=c.1;split at h
     .rename_i E z I;simp only[bx]at h;refine fin _ h.symm (λe=>by cases e) ⟨JP _,by rw[d];exact World.ownsRow_nil w 0 E _⟩ (λb f=>?_);rw[d]at f;simp[jS,blk]at f
     .cases h
    .cases h
   .split at h
    .rename_i u D;simp only[bx]at h;have d:=(c.1).val? D;exact fin _ h.symm (λ_=>by rw[d]) d (λb f=>by simp[jS]at f)
    .cases h
theorem S5(J:aR B ι σ a w){fn K}(h:S6 C fn K σ):
 ∃u,(results fn a.tmps).run C.P w= .ok u w/\∃r m' t,K r m' t/\Ju w r u/\DN B m' t w/\∀b,jS r u=some b->(B.w0.heap.size<=b\/B.E b)/\m' b=none/\∀i,t b i=none:=by
 unfold S6 at h;split at h
 .exact h.elim
 .rename_i W M;obtain⟨X,p,h,_⟩:=qV _ _ J h;obtain⟨τ,d,h,_⟩:=AP _ _ p h;split at h
  .exact h.elim
  .rename_i N y;obtain⟨f,z,j⟩:=KD d _ _ y
   have H:(results fn a.tmps).run C.P w= .ok (if h:f.toArray.size=1 then f.toArray[0]else .tuple f.toArray) w:=by
    rw[Qv,Array.mapM_eq_mapM_toList];simp[z]
   have g:∀(n:dl)(r:CV)(v:Value),Fs C.P τ C.retMove N fn.resultTypes.toList=some n->(∃i:Nat,n[i]? =some r/\f[i]? =some v)->Ju w r v/\∀b,jS r v=some b->(B.w0.heap.size<=b\/B.E b)/\τ.m b=none/\∀i,τ.h b i=none:=by
    rintro n r v l ⟨i,s,O⟩;obtain⟨_,_,Q⟩:=Ap d _ _ _ _ l j;obtain⟨A,D⟩:=Q i r v s O;refine⟨A,λb F=>?_⟩;obtain⟨k,R,S,G⟩:=D b F;exact d.fresh k R b S G
   split at h
   .rename_i r s;obtain⟨c,_,_⟩:=Ap d _ _ _ _ s j;simp at c
    obtain⟨v,rfl⟩:∃v,f=[v]:=by
     match f,c with
     |[v],_=>grind
    obtain⟨A,D⟩:=g _ r v s ⟨0,rfl,rfl⟩;refine⟨v,bg,r,τ.m,τ.h,h,A,d.wrel,D⟩
   .rename_i n T l;split at h
    .exact h.elim
    .rename_i U;obtain⟨c,I,_⟩:=Ap d _ _ _ _ l j
     have V:f.length≠1:=by
      intro e;rw[e]at c
      match n,c with
      |[r],_=>grind
     refine⟨.tuple f.toArray,bg,.tup n,τ.m,τ.h,h,⟨f.toArray,rfl,bg⟩,d.wrel,λb F=>by simp[jS]at F⟩
   grind
def OF(n:Nat)(b:dl)(vs:cr)(k:Nat):=
 match b[k-n]?,vs[k-n]? with
 |some (.lst _ _ _),some v=>v
 |_,_=>.slice none 0 0
theorem rJ{w:World}:∀{b:dl}{vs:cr},DI w b vs->b.length=vs.length/\∀(i:Nat)(c:CV)(v:Value),b[i]? =some c->vs[i]? =some v->Ju w c v
 |[],[],_=>⟨rfl,λi c v h=>by simp at h⟩
 |c::cs,v::vs,h=>by
  obtain⟨f,g⟩:=rJ h.2;refine⟨by simp[f],λi j l d e=>?_⟩;cases i with
  |zero=>simp at d e;subst d e;exact h.1
  |succ i=>grind
 |[],_::_,h=>h.elim
 |_::_,[],h=>h.elim
theorem OO{n:Nat}{all:dl}{avs:cr}{w:World}:∀(i:Nat)(b:dl)(vs:cr),DI w b vs->(∀j:Nat,b[j]? =all[i+j]?)->(∀j:Nat,vs[j]? =avs[i+j]?)->
 DenS (OF n all avs) (Jm n i b) vs
 |i,[],[],_,_,_=>trivial
 |i,c::b,v::vs,h,e,f=>by
  have d:=OO (n:=n) (all:=all) (avs:=avs) (i+1) b vs h.2 (λj=>by have:=e (j+1);grind) (λj=>by have:=f (j+1);grind);cases c with
  |val u=>exact⟨h.1,d⟩
  |lst E m p=>
   refine⟨?_,d⟩;show v=OF n all avs (n+i);have g:=e 0;have l:=f 0;simp at g l;unfold OF
   grind
  |tup r=>exact⟨trivial,d⟩
 |i,[],_::_,h,_,_=>h.elim
 |i,_::_,[],h,_,_=>h.elim
theorem Mb:∀(b:dl)(k:Nat)(o:Own),nth (BU b) k=some (some o)->∃E sz xs,b[k]? =some (.lst E sz xs)/\o= .lst E sz xs
 |[],k,o,h=>by simp[BU,nth]at h
 |c::b,0,o,h=>by
  cases c<;>simp[BU,nth]at h
  grind
 |c::b,k+1,o,h=>by
  have:nth (BU b) k=some (some o):=by cases c<;>simpa[BU,nth]using h
  obtain⟨E,sz,xs,d,e⟩:=Mb b k o this
  grind
theorem UK{ι:de}:∀(n:Nat)(vs:cr),vs.length=n->DenS ι (replicate n (.at .junk)) vs
 |0,[],_=>trivial
 |n+1,v::vs,h=>⟨trivial,UK n vs (bk h)⟩
 |0,_::_,h=>by simp at h
 |_+1,[],h=>by simp at h
theorem DenS.append{ι:de}:∀{xs b:dw}{vs c:cr},DenS ι xs vs->DenS ι b c->DenS ι (xs++b) (vs++c)
 |[],_,[],_,_,d=>bg
 |_::_,_,_::_,_,h,d=>⟨h.1,DenS.append h.2 d⟩
 |[],_,_::_,_,h,_=>h.elim
 |_::_,_,[],_,h,_=>h.elim
theorem Ma{w m h c vs} n(s:C2 w m h c vs):
 aR ⟨w,yT m c vs,h,[]⟩ (OF n c vs) (entry n c m h) {tmps:=vs.toArray++Array.replicate (n-vs.toArray.size) undef,defers:=[]} w:=by
 obtain⟨y,r⟩:=rJ s.args
 have d:∀k o,nth (entry n c m h).own k=some (some o)->n<=k/\∃E i l,c[k-n]? =some (.lst E i l)/\o= .lst E i l/\∃v,vs[k-n]? =some v/\OF n c vs k=v/\Ju w (.lst E i l) v:=by
  intro k o f;simp only[entry]at f;rw[mA]at f;by_cases t:k<n
  .grind
  .rw[getElem?_append_right bg]at f;simp only[length_replicate]at f;rw[<-mA]at f;obtain⟨E,i,l,e,D⟩:=Mb c (k-n) o f
   have F:k-n<vs.length:=by
    grind
   have p:vs[k-n]? =some vs[k-n]:=bn F;refine⟨aC,E,i,l,e,D,_,p,?_,r _ _ _ e p⟩;unfold OF;rw[e,p]
 refine⟨?_,rfl,?_,?_,?_,?_,?_⟩
 .have e:=OO (n:=n) (all:=c) (avs:=vs) 0 c vs s.args (λj=>ay) (λj=>ay);show DenS _ (Jm n 0 c++replicate (n-c.length) (.at .junk)) _;have:(vs.toArray++Array.replicate (n-vs.toArray.size) undef).toList=vs++replicate (n-vs.length) undef:=ay
  rw[this];exact e.append (UK _ _ (by simp[y]))
 .intro k o f;obtain⟨t,E,i,l,e,rfl,v,p,z,u⟩:=d k o f;rw[z];exact u
 .intro k M o Q b f G g A;obtain⟨t,E,i,l,e,rfl,v,p,z,u⟩:=d k o f;obtain⟨N,E',R,S,H,rfl,T,I,J,O⟩:=d M Q G;rw[z]at g;rw[J]at A;have:=s.sep (k-n) (M-n) _ _ v T b e p H I g A;omega
 .intro k o b f g;obtain⟨t,E,i,l,e,rfl,v,p,z,u⟩:=d k o f;rw[z]at g;obtain⟨U,V⟩:=s.free (k-n) _ v b e p g;exact⟨.inr (.inr ⟨k-n,_,v,e,p,g⟩),U,V⟩
 .refine⟨rfl,rfl,rfl,Nat.le_refl _,Nat.le_refl _,λ_ _ _=>rfl,s.hsat,s.msat,s.disj,λ_ _ _ h=>h,λ_ _ _=>rfl,λb W g=>.inr (.inl (by have g:m b=some W:=g;rw[g];simp))⟩
 .intro k;unfold OF;split
  .rename_i E i l v e D;exact Ov (r _ _ _ e D).2
  .rfl
theorem fP{P f fn c}(E:P.funcs[f]? =some fn)(F:fn.body=some c)(n:(fn.name== "runtime.NumGoroutine")=false){S}(z:∀d m h K,S d m h K->∃C:Ctx,C.P=P/\(∀g S,assoc C.specs g=some S->Sound P g S)/\xK C fn c (entry fn.ntmps d m h) K):Sound P f S:=by
 refine⟨⟨fn,E,by rw[F];rfl,n⟩,?_⟩;intro d A m h w K H I;obtain⟨C,rfl,j,J⟩:=z d m h K H;refine calls_of_wp E F ?_;refine wp_mono (WH j c _ _ _ _ w (Ma fn.ntmps I) J) ?_;intro e D s p
 have key:(∃ι σ,aR ⟨w,yT m d A,h,[]⟩ ι σ D s/\S6 C fn K σ)->D.defers=[]/\∃v,(results fn D.tmps).run C.P s= .ok v s/\∃r u t y,Ending.returned v= .returned u/\K r t y/\Ju s r u/\DN ⟨w,yT m d A,h,[]⟩ t y s/\
  ∀b,jS r u=some b->(w.heap.size<=b\/yT m d A b)/\t b=none/\∀i,y b i=none:=by
  rintro⟨ι,σ,G,M⟩;obtain⟨u,N,r,t,y,O,Q,R,T⟩:=S5 G M;exact⟨G.defers,u,N,r,u,t,y,rfl,O,Q,R,T⟩
 cases e with
 |normal=>exact key p
 |ret=>exact key p
 |exit id=>obtain⟨_,_,_,h⟩:=p;exact h.elim
 |goto l=>exact p.elim
 |panic U=>exact p.elim
 |outgrown=>exact p.elim
theorem Tr{P f fn c}(I:P.funcs[f]? =some fn)(y:fn.body=some c)(p:(fn.name== "runtime.NumGoroutine")=false){S}(J:∀d m h K,S d m h K->∃C:Ctx,C.P=P/\(∀g S,assoc C.specs g=some S->Sound P g S)/\xK C fn c (entry fn.ntmps d m h) (λr m' s=>∃m2 j,(∀b o,m2 b=some o->m' b=some o)/\PH.le h j/\PH.le j s/\K r m2 j)):Sound P f S:=by
 have F:=fP I y p (S:=λd m h K=>∃K',S d m h K'/\K=λr m' s=>∃m2 j,(∀b o,m2 b=some o->m' b=some o)/\PH.le h j/\PH.le j s/\K' r m2 j) (by
  grind)
 refine⟨F.1,λd M m h w K N O=>?_⟩;refine(F.2 d M m h w _ ⟨K,N,rfl⟩ O).mono ?_;rintro e W ⟨r,u,m',s,Q,⟨m2,j,z,G,H,R⟩,A,l,D⟩
 have n:∀b i,s b i=none->j b i=none:=by
  intro b i e;cases t:j b i with
  |none=>rfl
  |some v=>rw[H.le b i v t]at e;cases e
 refine⟨r,u,m2,j,Q,R,A,?_,λb y=>?_⟩
 .refine⟨l.tape,l.os,l.output,l.drawn,l.size,l.frame,λb o v e=>l.hsat b o v (H.le b o v e),λb o e=>l.msat b o (z b o e),λb o e i=>n b i (l.disj b o (z b o e) i),G.le,λb T E=>?_,λb o e=>l.mfr b o (z b o e)⟩;funext i;have e:=congrFun (l.hold b T E) i;show j b i=h b i;cases t:h b i with
  |some v=>exact(G.le b i v t)
  |none=>grind
 .obtain⟨U,X,V⟩:=D b y;refine⟨U,?_,λi=>n b i (V i)⟩;cases t:m2 b with
  |none=>rfl
  |some o=>grind
def cQ(h:PH)(K:cn):CV->MH->PH->Prop:=λr c f=>(∀b o,c b=some o->∀i,f b i=none)->∃d e,(∀b o,d b=some o->c b=some o)/\PH.le h e/\
 (∀b i v,e b i=some v->f b i=some v\/∃g E j,c b=some (.cells g E j)/\g[i]? =some v/\d b=none)/\K r d e
theorem Sound.strong{P f S}(D:Sound P f (λg m h K=>∃K',S g m h K'/\K=cQ h K')):Sound P f S:=by
 refine⟨D.1,λg J m h w K M N=>?_⟩;refine(D.2 g J m h w _ ⟨K,M,rfl⟩ N).mono ?_;rintro e Y ⟨r,u,Z,h',O,j,p,c,s⟩;obtain⟨F,l,t,G,y,Q⟩:=j c.disj;refine⟨r,u,F,l,O,Q,p,?_,λb R=>?_⟩
 .refine⟨c.tape,c.os,c.output,c.drawn,c.size,c.frame,λb o v e=>?_,λb o e=>c.msat b o (t b o e),λb o e i=>?_,G.le,λb T z=>?_,λb o e=>c.mfr b o (t b o e)⟩
  .rcases y b o v e with d|⟨H,E,I,d,A,_⟩
   .exact c.hsat b o v d
   .rw[cell_of_heap (c.msat b _ d),cg];exact A
  .cases n:l b i with
   |none=>rfl
   |some v=>
    rcases y b i v n with d|⟨H,E,I,d,A,U⟩
    .rw[c.disj b o (t b o e) i]at d;cases d
    grind
  .funext i;have e:=congrFun (c.hold b T z) i;show l b i=h b i;cases n:h b i with
   |some v=>exact(G.le b i v n)
   |none=>
    cases V:l b i with
    |none=>rfl
    |some v=>
     rcases y b i v V with d|⟨H,E,I,d,A,U⟩
     .grind
     .rcases c.mfr b _ d with W|W
      .omega
      grind
 .obtain⟨X,f2,f3⟩:=s b R;refine⟨X,?_,λi=>?_⟩
  .cases n:F b with
   |none=>rfl
   |some o=>grind
  .cases n:l b i with
   |none=>rfl
   |some v=>
    grind
theorem a7Q{P f fn c}(e:P.funcs[f]? =some fn)(i:fn.body=some c)(d:(fn.name== "runtime.NumGoroutine")=false){S}(j:∀b m h K,S b m h K->∃C:Ctx,C.P=P/\(∀g S,assoc C.specs g=some S->Sound P g S)/\xK C fn c (entry fn.ntmps b m h) (cQ h K)):Sound P f S:=
 .strong (fP e i d (S:=λb m h K=>∃K',S b m h K'/\K=cQ h K') (by
  grind))
end
end Go.Vc
namespace Go.Vc
open Go List
theorem aD{c A B}(b:c=true->A)(d:c=false->B):branch c A B:=by
 cases c
 .exact d rfl
 .exact b rfl
theorem aF{p}[Decidable p]{A B}(b:p->A)(c:¬p->B):branch (decide p) A B:=
 aD (λh=>b (of_decide_eq_true h)) (λh=>c (of_decide_eq_false h))
theorem fG{n}(b: -9223372036854775808<=n)(c:n<9223372036854775808):IntKind.i64.wrap n=n:=by
 rw[IntKind.wrap_i64];omega
theorem aL.of_m{m h b off cs E c l}(d:m b=some (.cells cs E c))(e:(cs.toList.drop off).take l.length=l):aL m h b off l:=.lent cs E c d e
end Go.Vc
namespace Go.Ps
open Go Go.Vc Go.Proofs List Tryz
variable{K:cn}{m:MH}{h:PH}{ps:cq}{cb:Nat}{l:cq}{i:Nat}{N:Nat}{m':MH}{h':PH}{co:cq}{gr:cq}{od:cv}{ta:Int}{li:Int}{xs:List cr}{sz:Nat}{ks:List cq}{rs:cq}{r:Sl}{a:cq}{b:Nat}
structure VV where
 kind:Int
 int:Int
 text:ByteArray
abbrev da:=List VV
abbrev dm:=List (Sl×da)
abbrev ct:=List da
structure OV where
 kind:Int
 index:Int
 value:VV
abbrev eh:=List OV
structure PV where
 op:Int
 cmp:Int
 left:OV
 right:OV
 args:Sl
abbrev dz:=List PV
structure QV where
 op:Int
 table:Int
 where_:PV
 columns:Sl
 on:Sl
 group:Sl
 order:Sl
 limit:Int
 args:Sl
abbrev dt:=List QV
abbrev dq:=List (Nat×QV)
variable{v:QV}
structure xC where
 op:Int
 table:Int
 where_:PV
 columns:Sl
 on:Sl
 group:Sl
 order:Sl
 limit:Int
 left:Int
 right:Int
structure qE where
 name:ByteArray
 kind:Int
structure Hg where
 columns:Sl
 table:Int
structure cY where
 name:ByteArray
 columns:Sl
 key:Int
 references:Sl
 checks:Sl
structure cA where
 version:Int
 tables:Sl
variable{sc:cA}
abbrev fV(n:Int):Value:=.int .i64 n
abbrev dX(s:Sl):Value:=.slice s.a s.len s.cap
abbrev pV:Value:=.slice none 0 0
abbrev vQz:Value:=.string ⟨⟨[]⟩⟩
abbrev SS(b o:Nat):Value:=.pointer (some ⟨b,o,none⟩)
abbrev kF(n:Int):At:=.val (.int .i64 n)
abbrev BY(s:Sl):At:=.val (.slice s.a s.len s.cap)
abbrev Km:At:=.val (.slice none 0 0)
abbrev aQz:At:=.val (.string ⟨⟨[]⟩⟩)
abbrev gX(n:Int):SV:=.at (.val (.int .i64 n))
abbrev sQs(s:Sl):SV:=.at (.val (.slice s.a s.len s.cap))
abbrev sQn:SV:=.at (.val (.slice none 0 0))
abbrev sQp(b o:Nat):SV:=.at (.ptr b o)
abbrev WY(b o:Nat):SV:=.at (.val (.pointer (some ⟨b,o,none⟩)))
abbrev sQb(b:Bool):SV:=.at (.val (.bool b))
abbrev sQl(k:Nat):SV:=.at (.lst k)
abbrev gG(n:Int):CV:=.val (.int .i64 n)
abbrev As(b:Bool):CV:=.val (.bool b)
abbrev qW(s:Sl):CV:=.val (.slice s.a s.len s.cap)
abbrev Ft:CV:=.val (.slice none 0 0)
abbrev cQp(b o:Nat):CV:=.val (.pointer (some ⟨b,o,none⟩))
abbrev kE(l:cr):CV:=.val (.agg ⟨l⟩)
abbrev oQ(T:TypeId)(l:dn):Option Go.Vc.Own:=some (.cells T l)
abbrev eQ{α}(x:α):=x=x
abbrev eP k:=sQp k 0=sQp k 0
abbrev eL k:=sQl k=sQl k
abbrev NW(s:ByteArray):At:=.val (.string s)
abbrev zQ:=[kF 0,kF 0,kF 0,kF 0,kF 0,kF 0,kF 0,kF 0,aQz,kF 0,kF 0,kF 0,kF 0,aQz,Km,Km,Km,Km,Km,kF 0,Km]
abbrev zP:=[kF 0,kF 0,kF 0,kF 0,kF 0,kF 0,aQz,kF 0,kF 0,kF 0,kF 0,aQz,Km]
def eI(n:Int):cr:=[.int .i64 n]
def eS(s:Sl):cr:=[.slice s.a s.len s.cap]
def VV.enc(v:VV):cr:=[.int .i64 v.kind,.int .i64 v.int,.string v.text]
def OV.enc(o:OV):cr:=[.int .i64 o.kind,.int .i64 o.index,.int .i64 o.value.kind,.int .i64 o.value.int,.string o.value.text]
def PV.enc(p:PV):cr:=
 [.int .i64 p.op,.int .i64 p.cmp,
  .int .i64 p.left.kind,.int .i64 p.left.index,.int .i64 p.left.value.kind,.int .i64 p.left.value.int,.string p.left.value.text,
  .int .i64 p.right.kind,.int .i64 p.right.index,.int .i64 p.right.value.kind,.int .i64 p.right.value.int,.string p.right.value.text,
  .slice p.args.a p.args.len p.args.cap]
def QV.enc(q:QV):cr:=
 [.int .i64 q.op,.int .i64 q.table,
  .int .i64 q.where_.op,.int .i64 q.where_.cmp,
  .int .i64 q.where_.left.kind,.int .i64 q.where_.left.index,.int .i64 q.where_.left.value.kind,.int .i64 q.where_.left.value.int,.string q.where_.left.value.text,
  .int .i64 q.where_.right.kind,.int .i64 q.where_.right.index,.int .i64 q.where_.right.value.kind,.int .i64 q.where_.right.value.int,.string q.where_.right.value.text,
  .slice q.where_.args.a q.where_.args.len q.where_.args.cap,
  .slice q.columns.a q.columns.len q.columns.cap,.slice q.on.a q.on.len q.on.cap,.slice q.group.a q.group.len q.group.cap,.slice q.order.a q.order.len q.order.cap,
  .int .i64 q.limit,.slice q.args.a q.args.len q.args.cap]
def xC.enc(q:xC):cr:=
 [.int .i64 q.op,.int .i64 q.table,
  .int .i64 q.where_.op,.int .i64 q.where_.cmp,
  .int .i64 q.where_.left.kind,.int .i64 q.where_.left.index,.int .i64 q.where_.left.value.kind,.int .i64 q.where_.left.value.int,.string q.where_.left.value.text,
  .int .i64 q.where_.right.kind,.int .i64 q.where_.right.index,.int .i64 q.where_.right.value.kind,.int .i64 q.where_.right.value.int,.string q.where_.right.value.text,
  .slice q.where_.args.a q.where_.args.len q.where_.args.cap,
  .slice q.columns.a q.columns.len q.columns.cap,.slice q.on.a q.on.len q.on.cap,.slice q.group.a q.group.len q.group.cap,.slice q.order.a q.order.len q.order.cap,
  .int .i64 q.limit,.int .i64 q.left,.int .i64 q.right]
def qE.enc(c:qE):cr:=[.string c.name,.int .i64 c.kind]
def Hg.enc(r:Hg):cr:=[.slice r.columns.a r.columns.len r.columns.cap,.int .i64 r.table]
def cY.enc(t:cY):cr:=[.string t.name,.slice t.columns.a t.columns.len t.columns.cap,.int .i64 t.key,.slice t.references.a t.references.len t.references.cap,.slice t.checks.a t.checks.len t.checks.cap]
def cA.enc(s:cA):cr:=[.int .i64 s.version,.slice s.tables.a s.tables.len s.tables.cap]
abbrev zV:=[fV 0,fV 0,fV 0,fV 0,fV 0,fV 0,fV 0,fV 0,vQz,fV 0,fV 0,fV 0,fV 0,vQz,pV,pV,pV,pV,pV,fV 0,pV]
abbrev pQ(p:PV)(r:dn):=kF p.op::kF p.cmp::kF p.left.kind::kF p.left.index::kF p.left.value.kind::kF p.left.value.int::NW p.left.value.text::kF p.right.kind::kF p.right.index::kF p.right.value.kind::kF p.right.value.int::NW p.right.value.text::BY p.args::r
abbrev qQ(q:QV)(x:At):=kF q.op::kF q.table::pQ q.where_ [BY q.columns,BY q.on,BY q.group,BY q.order,kF q.limit,x]
def sU(p:Int×Int):cr:=[.int .i64 p.1,.int .i64 p.2]
def DT(p:Int×Bool):cr:=[.int .i64 p.1,.bool p.2]
def dI:Dec:=⟨Int,eI⟩
def dS:Dec:=⟨Sl,eS⟩
def dB:Dec:=⟨Bool,λb=>[.bool b]⟩
def dU8:Dec:=⟨UInt8,λb=>[.int .u8 b.toNat]⟩
def c5J:Dec:=⟨ByteArray,λs=>[.string s]⟩
def bYX:Option Nat->Value
 |none=>.nilFunc
 |some f=>.func (.func f) #[] #[]
def dF:Dec:=⟨Option Nat,λf=>[bYX f]⟩
structure NV where
 s:cA
 params:Sl
 q:QV
 args:Sl
def NV.enc(n:NV):=n.s.enc++eS n.params++n.q.enc++eS n.args
structure iN where
 query:QV
 args:Sl
 rows:Int
 env:Int
 width:Int
def iN.enc(x:iN):=x.query.enc++[.slice x.args.a x.args.len x.args.cap,.int .i64 x.rows,.int .i64 x.env,.int .i64 x.width]
def dec:=λT=>match T with
 |2=>dI
 |3=>dI
 |4=>dB
 |5=>dU8
 |9=>c5J
 |46=>dI
 |22=>dS
 |50=>dS
 |52=>dS
 |33=>dS
 |36=>dS
 |37=>dS
 |38=>dS
 |39=>dS
 |25=>dS
 |58=>dS
 |65=>dS
 |70=>dS
 |71=>dS
 |108=>dS
 |27=>⟨cA,cA.enc⟩
 |30=>⟨VV,VV.enc⟩
 |32=>⟨OV,OV.enc⟩
 |35=>⟨PV,PV.enc⟩
 |41=>⟨QV,QV.enc⟩
 |73=>⟨cY,cY.enc⟩
 |130=>⟨Int×Int,sU⟩
 |77=>⟨Int×Bool,DT⟩
 |118=>⟨qE,qE.enc⟩
 |129=>⟨Hg,Hg.enc⟩
 |190=>⟨NV,NV.enc⟩
 |191=>dF
 |207=>dF
 |221=>⟨Nat,λb=>[.func (.func 214) #[] #[.pointer (some ⟨b,0,none⟩)]]⟩
 |157=>⟨Nat,λb=>[.map (some b)]⟩
 |160=>⟨Nat,λb=>[.map (some b)]⟩
 |43=>dS
 |95=>dS
 |45=>⟨Sl×Sl,λp=>[.slice p.1.a p.1.len p.1.cap,.slice p.2.a p.2.len p.2.cap]⟩
 |101=>⟨xC,xC.enc⟩
 |91=>⟨Nat,λb=>[.map (some b)]⟩
 |97=>⟨iN,iN.enc⟩
 |94=>⟨Nat×Nat×Nat,λb=>[.func (.func 38) #[] #[.pointer (some ⟨b.1,0,none⟩),.pointer (some ⟨b.2.1,0,none⟩),.pointer (some ⟨b.2.2,0,none⟩)]]⟩
 |_=>⟨Unit,λ_=>[]⟩
def dY(f:Func):=match f.body with|some c=>c|none=>.skip
noncomputable def ctx(specs:List (Nat×Vc.Spec))(loops:List (Nat×P7))(cuts:List (Nat×aEQ))(moves:List (Nat×dj))(retMove:Bool):Ctx:=
 {P:=Tryz.prog,loops2:=[],cuts2:=[],rcuts:=[],heapT:=[],specs:=specs,dec:=dec,loops:=loops,cuts:=cuts,moves:=moves,retMove:=retMove,yield:=none}
noncomputable def dJ(specs:List (Nat×Vc.Spec))(loops cuts:dx)(moves:List (Nat×dj))(retMove:Bool):Ctx:=
 {P:=Tryz.prog,loops2:=loops,cuts2:=cuts,rcuts:=[],heapT:=[],specs:=specs,dec:=dec,loops:=[],cuts:=[],moves:=moves,retMove:=retMove,yield:=none}
noncomputable def c6Q(specs:List (Nat×Vc.Spec))(loops cuts:dx)(rcuts:List (Nat×dx))(moves:List (Nat×dj))(retMove:Bool):Ctx:=
 {P:=Tryz.prog,loops2:=loops,cuts2:=cuts,rcuts:=rcuts,heapT:=[],specs:=specs,dec:=dec,loops:=[],cuts:=[],moves:=moves,retMove:=retMove,yield:=none}
noncomputable def rI(specs:List (Nat×Vc.Spec))(loops cuts:dx)(rcuts:List (Nat×dx))(heapT:eb)(moves:List (Nat×dj))(retMove:Bool):Ctx:=
 {P:=Tryz.prog,loops2:=loops,cuts2:=cuts,rcuts:=rcuts,heapT:=heapT,specs:=specs,dec:=dec,loops:=[],cuts:=[],moves:=moves,retMove:=retMove,yield:=none}
abbrev cm:=Sound Tryz.prog
theorem aH:∀g S,assoc ([]:List (Nat×Vc.Spec)) g=some S->cm g S:=λg S h=>by simp[assoc]at h
theorem aE{c S0 r}(e:cm c S0)(f:∀g S,assoc r g=some S->cm g S):∀g S,assoc ((c,S0)::r) g=some S->cm g S:=by
 intro g S h;simp only[assoc]at h;split at h
 .rename_i d;have:=ca d
  grind
 grind
def Y1(n:Int):dh->Int×dh
 |[]=>(0,[])
 |b::r=>if n<1 then(0,b::r)else((b.toNat:Int)%n,r)
structure aEJ(m:MH)(h:PH)(cb:Nat)(r:dh):Prop where
 ex:∃(s:Sl)(cs:dh)(k:Nat),m cb=some (.cells #[.slice s.a s.len s.cap,.int .i64 k] 86 (0,0))/\dD h s 1 (aY cs)/\k<=cs.length/\cs.length<=1000/\r=cs.drop k
structure bO(m m':MH)(cb:Nat):Prop where
 other:∀b,b≠cb->m' b=m b
end Go.Ps
namespace Go.Vc
open Go List
theorem PH.le.refl h:PH.le h h:=⟨λ_ _ _ e=>e⟩
theorem PH.le.trans{h h' c}(a:PH.le h h')(b:PH.le h' c):PH.le h c:=⟨λx y v e=>b.le x y v (a.le x y v e)⟩
theorem cR.mono{h h' b o l}(r:cR h b o l)(le:PH.le h h'):cR h' b o l:=⟨λi v e=>le.le _ _ _ (r.rd i v e)⟩
theorem dD.mono{h h' s sz xs}(r:dD h s sz xs)(le:PH.le h h'):dD h' s sz xs:=
 ⟨r.len,r.row.imp id λ⟨b,o,e,k⟩=>⟨b,o,e,λi x c=>(k i x c).mono le⟩,r.cap⟩
theorem dD.get{h s sz xs}(r:dD h s sz xs){i e}(c:xs[i]? =some e):
 ∃b o,s.a=some ⟨b,o,none⟩/\cR h b (o+i*sz) e:=by
 rcases r.row with rfl|⟨b,o,d,k⟩
 .simp at c
 grind
theorem cW.blk{m s E sz xs}(h:cW m s E sz xs){b i}(e:s.a=some ⟨b,i,none⟩):∃c,m b=some (.cells c E (0,0)):=by
 rcases h.ex with⟨rfl,_⟩|⟨f,d,c,rfl,g,_⟩
 .cases e
 grind
theorem cW.slen{m s E sz xs}(h:cW m s E sz xs):s.len=xs.length:=by
 rcases h.ex with⟨rfl,rfl⟩|⟨e,c,d,rfl,f,_⟩<;>rfl
theorem cW.keep{m m' s E sz xs}(h:cW m s E sz xs)(f:∀b i,s.a=some ⟨b,i,none⟩->m' b=m b):cW m' s E sz xs:=by
 refine⟨h.rows,?_⟩;rcases h.ex with c|⟨b,d,e,rfl,g,j⟩
 .exact .inl c
 grind
theorem dD.nil h sz:dD h ⟨none,0,0⟩ sz []:=⟨rfl,.inl rfl,Nat.le_refl _⟩
end Go.Vc
namespace Go.Ps
open Go Go.Vc Go.Proofs List Tryz
variable{K:cn}{m:MH}{h:PH}{ps:cq}{cb:Nat}{sc:cA}{v:QV}{l:cq}{i:Nat}{N:Nat}{m':MH}{h':PH}{co:cq}{gr:cq}{od:cv}{ta:Int}{li:Int}{xs:List cr}{sz:Nat}{ks:List cq}{rs:cq}{r:Sl}{a:cq}{b:Nat}
structure Ints(h:PH)(s:Sl)(l:cq):Prop where
 row:dD h s 1 (l.map eI)
 len:l.length<=17592186044416
theorem Ints.mono{s}(r:Ints h s l)(le:PH.le h h'):Ints h' s l:=⟨r.row.mono le,r.len⟩
theorem Ints.slen{s}(r:Ints h s l):s.len=l.length:=by have:=r.row.len;grind
structure jD(h:PH)(s:Sl)(l:cw):Prop where
 row:dD h s 2 (l.map sU)
 len:l.length<=8796093022208
theorem jD.mono{s l}(r:jD h s l)(le:PH.le h h'):jD h' s l:=⟨r.row.mono le,r.len⟩
theorem jD.slen{s l}(r:jD h s l):s.len=l.length:=by have:=r.row.len;grind
structure jC(h:PH)(s:Sl)(l:cv):Prop where
 row:dD h s 2 (l.map DT)
 len:l.length<=8796093022208
theorem jC.mono{s l}(r:jC h s l)(le:PH.le h h'):jC h' s l:=⟨r.row.mono le,r.len⟩
theorem jC.slen{s l}(r:jC h s l):s.len=l.length:=by have:=r.row.len;grind
inductive Pred where
 |mk (op cmp:Int) (left right:OV) (args:List Pred)
abbrev di:=List Pred
variable{p:Pred}
mutual
def fO(h:PH):Pred->PV->Prop
 |.mk op c l r args,v=>v.op=op/\v.cmp=c/\v.left=l/\v.right=r/\args.length<=502633886983/\∃d:dz,dD h v.args 13 (d.map PV.enc)/\AF h args d
def AF(h:PH):di->dz->Prop
 |[],d=>d=[]
 |p::ps,d=>∃v c,d=v::c/\fO h p v/\AF h ps c
end
mutual
theorem fO.mono{h h':PH}(le:PH.le h h'):∀{p:Pred}{v:PV},fO h p v->fO h' p v
 |.mk ..,_,⟨c,d,e,f,g,j,n,s⟩=>⟨c,d,e,f,g,j,n.mono le,AF.mono le s⟩
theorem AF.mono{h h':PH}(le:PH.le h h'):∀{ps:di}{vs:dz},AF h ps vs->AF h' ps vs
 |[],_,h=>h
 |_::_,_,⟨v,c,d,e,f⟩=>⟨v,c,d,fO.mono le e,AF.mono le f⟩
end
theorem AF.length{h:PH}:∀{ps:di}{vs:dz},AF h ps vs->vs.length=ps.length
 |[],_,h=>by rw[show _=[]from h];rfl
 |_::_,_,⟨_,_,c,_,d⟩=>by rw[c];simp[AF.length d]
theorem AF.get{h:PH}:∀{ps:di}{vs:dz},AF h ps vs->∀{i:Nat}{p:Pred},ps[i]? =some p->∃v,vs[i]? =some v/\fO h p v
 |[],_,_,i,p,e=>by simp at e
 |p0::ps,_,⟨v,c,rfl,f,d⟩,0,p,e=>bg
 |p0::ps,_,⟨v,c,rfl,f,d⟩,i+1,p,e=>by simp at e;simpa using AF.get d e
inductive Query where
 |mk (op table:Int) (wher:Pred) (columns:cq) (on:cw) (group:cq) (order:cv) (limit:Int) (args:List Query)
abbrev dc:=List Query
mutual
def dK(h:PH):Query->QV->Prop
 |.mk op table w c on d e f args,v=>v.op=op/\v.table=table/\fO h w v.where_/\Ints h v.columns c/\jD h v.on on/\Ints h v.group d/\jC h v.order e/\v.limit=f/\
  args.length<=502633886983/\∃g:dt,dD h v.args 21 (g.map QV.enc)/\BZ h args g
def BZ(h:PH):dc->dt->Prop
 |[],d=>d=[]
 |p::ps,d=>∃v c,d=v::c/\dK h p v/\BZ h ps c
end
mutual
theorem dK.mono{h h':PH}(le:PH.le h h'):∀{p:Query}{v:QV},dK h p v->dK h' p v
 |.mk ..,_,⟨e,f,g,j,n,s,t,u,y,z,c,d⟩=>⟨e,f,g.mono le,j.mono le,n.mono le,s.mono le,t.mono le,u,y,z,c.mono le,BZ.mono le d⟩
theorem BZ.mono{h h':PH}(le:PH.le h h'):∀{ps:dc}{vs:dt},BZ h ps vs->BZ h' ps vs
 |[],_,h=>h
 |_::_,_,⟨v,c,d,e,f⟩=>⟨v,c,d,dK.mono le e,BZ.mono le f⟩
end
theorem BZ.length{h:PH}:∀{ps:dc}{vs:dt},BZ h ps vs->vs.length=ps.length
 |[],_,h=>by rw[show _=[]from h];rfl
 |_::_,_,⟨_,_,c,_,d⟩=>by rw[c];simp[BZ.length d]
theorem BZ.get{h:PH}:∀{ps:dc}{vs:dt},BZ h ps vs->∀{i:Nat}{p:Query},ps[i]? =some p->∃v,vs[i]? =some v/\dK h p v
 |[],_,_,i,p,e=>by simp at e
 |p0::ps,_,⟨v,c,rfl,f,d⟩,0,p,e=>bg
 |p0::ps,_,⟨v,c,rfl,f,d⟩,i+1,p,e=>by simp at e;simpa using BZ.get d e
def iv(n:Int):SV:=.at (.val (.int .i64 n))
def sv(s:Sl):SV:=.at (.val (.slice s.a s.len s.cap))
def bv(b:Bool):SV:=.at (.val (.bool b))
def vv(v:Value):SV:=.at (.val v)
def cS(s:Sl):CV:=.val (.slice s.a s.len s.cap)
def cI(n:Int):CV:=.val (.int .i64 n)
def cB(b:Bool):CV:=.val (.bool b)
def cP(b:Nat):CV:=.val (.pointer (some ⟨b,0,none⟩))
def HD(id:Nat)(st:Nat->St)(inv:Nat->Prop)(mu:Nat->Nat):Nat×P7:=(id,{A:=Nat,st:=st,inv:=inv,mu:=mu})
theorem iY(h:i<=140737488355328):IntKind.i64.wrap ((i:Int)+1)=((i+1:Nat):Int):=by
 rw[fG aC aC];rfl
theorem Ints.at{s}(r:Ints h s l){x}(c:l[i]? =some x):∃b o,s.a=some ⟨b,o,none⟩/\cR h b (o+i) [.int .i64 x]:=by
 obtain⟨b,o,d,f⟩:=r.row.get (i:=i) (e:=eI x) (by simp[c]);exact⟨b,o,d,by simpa[eI]using f⟩
theorem MT{p:Prop}(h:p:=by repeat' (first|with_reducible rfl|exact trivial|refine⟨?_,?_⟩|rfl|(rw[iY aC];done)|(rw[iY aC]))):p:=h
def gS(k:Int):=k==3||k==4||k==5
def Hu(t:ByteArray):=t.toList==[]
def kG(v:VV):=
 if v.kind==1||v.kind==2 then v.int==0&&Hu v.text
 else if v.kind==3 then(v.int==0||v.int==1)&&Hu v.text
 else if v.kind==4 then Hu v.text
 else if v.kind==5 then v.int==0&&(v.text.size:Int)<=64
 else false
def pW v:=kG v&&v.kind>=3
def aV(v:VV):CV:=.val (.agg #[.int .i64 v.kind,.int .i64 v.int,.string v.text])
def b8X:Vc.Spec:=λc m h K=>∃k,c=[cI k]/\K (cB (gS k)) m h
def NX:Vc.Spec:=λc m h K=>∃v,c=[aV v]/\K (cB (kG v)) m h
def UY:Vc.Spec:=λc m h K=>∃v,c=[aV v]/\K (cB (pW v)) m h
def Sn:Vc.Spec:=λc m h K=>∃s l,c=[cS s]/\Ints h s l/\K (cB (l.all gS)) m h
noncomputable def cqZ(s:Sl)(l:cq)(m:MH)(h:PH):=
 ctx [(123,b8X)] [HD 2 (λi=>bZ 15 16 [(5,sv s),(6,iv s.len),(7,iv i)] [] m h) (λi=>i<=l.length/\(l.take i).all gS=true) (λi=>l.length-i)] [] [] false
noncomputable def bNX(s:Sl)(l:cq)(m:MH)(h:PH):=
 ctx [] [HD 2 (λi=>bZ 22 23 [(5,sv s),(6,iv s.len),(7,iv i)] [] m h) (λi=>i<=l.length/\(l.take i).all gS=true) (λi=>l.length-i)] [] [] false
abbrev dP a b c d e:=branch a b (branch c d e)
noncomputable abbrev iQ:=As true
attribute [push_cast] dP iQ
def UB(k:Int)(m:MH)(h:PH)(K:cn):=
  dP (k==3) (K iQ m h) (k==4) (K iQ m h) (K (As (k==5)) m h)
abbrev eY(a b:Int)(c d:Prop):=branch (a==b) c d
noncomputable abbrev Ed(a:VV):=a.text.toList
abbrev IC(a:cn)(b:VV)(c:MH)(d:PH):=a (As (Ed b==[])) c d
noncomputable abbrev bG:=As false
attribute [push_cast] eY Ed IC bG
def Jc v m h K:=
  dP (v.kind==1) (eY v.int 0 (IC K v m h) (K bG m h)) (v.kind==2) (eY v.int 0 (IC K v m h) (K bG m h)) (dP (v.kind==3) (dP (v.int==0) (IC K v m h) (v.int==1) (IC K v m h) (K bG m h)) (v.kind==4) (IC K v m h) (eY v.kind 5 (eY v.int 0 (K (As (decide ((↑v.text.size:Int)<=64))) m h) (K bG m h)) (K bG m h)))
abbrev iF a b c d:=a/\branch b c d
noncomputable abbrev HA(a:CV):=[a]
abbrev fY a b:=HA a=HA b
abbrev CO(a b:VV):=fY (kE a.enc) (kE b.enc)
attribute [push_cast] iF HA fY CO
def T9(v:VV)(m:MH)(h:PH)(K:cn):=
  ∃(c:VV),iF (CO v c) (kG c) (K (As (decide (v.kind>=3))) m h) (K bG m h)
abbrev cX(a b:Int)(c d:Prop):=branch (a !=b) c d
attribute [push_cast] cX
def Ud(v:VV)(m:MH)(h:PH)(K:cn):=
  ∃(c:VV),iF (CO v c) (kG c) (cX v.kind 1 (K (As (v.kind !=2)) m h) (K bG m h)) (K bG m h)
abbrev lC(a:Prop)(b:Nat->Prop):=a/\∀(x:Nat),b x
abbrev aA a b c:=a/\b/\c
abbrev Az a:=a=true
noncomputable abbrev EJ a:=List.all a gS
abbrev Cv a b:=a<=b.length/\Az (EJ (List.take a b))
abbrev aJ a:=eQ (sQs a)
noncomputable abbrev bP(a:Nat):=gX (↑a:Int)
abbrev bJ(a:Sl):=eQ (bP a.len)
abbrev bE a:=gX 0=bP a
abbrev eG(a b:MH)(c d:PH):=aA (a=b) (c=d) True
abbrev bA(a b:Int)(c d:Prop):=branch (decide (a<b)) c d
noncomputable abbrev aG(a:Sl):=(↑a.len:Int)
abbrev bK(a:Nat->Nat->Prop):=∃(x c:Nat),a x c
abbrev aI a b c d:=aA a b (c/\d)
abbrev aW a b c:=a=Option.some (Addr.mk b c Option.none)
noncomputable abbrev iA(a:Int)(b:Nat):=a.toNat*b
noncomputable abbrev bM(a b:Nat):=iA (↑a:Int) b
noncomputable abbrev oW(a:Value):=[a]
noncomputable abbrev bC a:=oW (fV a)
abbrev sB a b:=fY (gG a) (gG b)
abbrev dL(a:Prop)(b c:Nat->Option Obj)(d e:PH):=aI a (b=c) (d=e) True
noncomputable abbrev fM a:=IntKind.wrap IntKind.i64 a
noncomputable abbrev bH(a:Nat)(b:Int):=fM ((↑a:Int)+b)
attribute [push_cast] lC aA Az EJ Cv aJ bP bJ bE eG bA aG bK aI aW iA bM oW bC sB dL fM bH
def X5(s:Sl)(l:cq)(m:MH)(h:PH)(K:cn):=
  lC (∃(x:Nat),aA (Cv x l) (aJ s) (aA (bJ s) (bE x) (eG m m h h))) (λx=>Cv x l->bA (↑x:Int) (aG s) (bK (λb o=>aI (aW s.a b o) (0<=(↑x:Int)) ((↑x:Int)<aG s) (∃(y:Int),aL m h b (o+bM x 1) (bC y)/\∃(k:Int),iF (sB y k) (!(gS k)) (K bG m h) (∃(c:Nat),aA (Cv c l) (l.length-c<l.length-x) (aA (aJ s) (bJ s) (dL (gX (bH x 1)=bP c) m m h h)))))) (K iQ m h))
def T0(s:Sl)(l:cq)(m:MH)(h:PH)(K:cn):=
  lC (∃(x:Nat),aA (Cv x l) (aJ s) (aA (bJ s) (bE x) (eG m m h h))) (λx=>Cv x l->bA (↑x:Int) (aG s) (bK (λb o=>aI (aW s.a b o) (0<=(↑x:Int)) ((↑x:Int)<aG s) (∃(y:Int),aL m h b (o+bM x 1) (bC y)/\cX y 3 (cX y 4 (cX y 5 (K bG m h) (∃(c:Nat),aA (Cv c l) (l.length-c<l.length-x) (aA (aJ s) (bJ s) (dL (gX (bH x 1)=bP c) m m h h)))) (∃(c:Nat),aA (Cv c l) (l.length-c<l.length-x) (aA (aJ s) (bJ s) (dL (gX (bH x 1)=bP c) m m h h)))) (∃(c:Nat),aA (Cv c l) (l.length-c<l.length-x) (aA (aJ s) (bJ s) (dL (gX (bH x 1)=bP c) m m h h)))))) (K iQ m h))
theorem cAQ v m h K:Jc v m h K=xK (ctx [] [] [] [] false) Tryz.f133 (dY Tryz.f133) (entry Tryz.f133.ntmps [aV v] m h) K:=ax
theorem kM{x y}(c:K (cB x) m h)(e:x=y):K (.val (.bool y)) m h:=e▸c
theorem aPQ{v}(c:K (cB (kG v)) m h):Jc v m h K:=by
 dsimp only[Jc,push_cast]
 repeat' (first|(refine aD (λ_=>?_) (λ_=>?_))|(refine kM c ?_;simp_all [kG,Hu]))
theorem iU{f fn}(n:Tryz.prog.funcs[f]? =some fn){S}(j:∀c m h K,S c m h K->∃C:Ctx,C.P=Tryz.prog/\(∀g S,assoc C.specs g=some S->cm g S)/\∃N:Prop,N=xK C fn (dY fn) (entry fn.ntmps c m h) K/\N)(s:fn.body=some (dY fn):=by rfl)(d:(fn.name== "runtime.NumGoroutine")=false:=by decide):cm f S:=fP n s d λc m h K t=>let⟨C,hC,hs,N,e,hn⟩:=j c m h K t;⟨C,hC,hs,e▸hn⟩
theorem RT:cm 123 b8X:=by
 refine iU func123 ?_;rintro c m h K ⟨k,rfl,d⟩;refine⟨ctx [] [] [] [] false,rfl,aH,UB k m h K,ax,?_⟩;dsimp only[UB,push_cast]
 repeat' (first|(refine aD (λ_=>?_) (λ_=>?_))|(refine kM d ?_;simp_all [gS]))
theorem aeJ:cm 210 NX:=by
 refine iU func210 ?_;rintro c m h K ⟨v,rfl,d⟩;refine⟨ctx [] [] [] [] false,rfl,aH,Jc v m h K,ax,?_⟩;exact aPQ d
theorem Kb:cm 133 NX:=by
 refine fP (fn:=Tryz.f133) (c:=dY Tryz.f133) func133 rfl az ?_;rintro d m h K ⟨v,rfl,e⟩;refine⟨ctx [] [] [] [] false,rfl,aH,?_⟩;rw[<-cAQ v m h K];exact aPQ e
theorem anX:cm 166 UY:=by
 refine iU func166 ?_;rintro c m h K ⟨v,rfl,d⟩;refine⟨ctx [(210,NX)] [] [] [] false,rfl,aE aeJ aH,T9 v m h K,ax,?_⟩;dsimp only[T9,push_cast];refine⟨v,rfl,?_⟩
 repeat' (first|(refine aD (λ_=>?_) (λ_=>?_))|(refine kM d ?_;simp_all [pW]))
theorem GS:cm 158 UY:=by
 refine iU func158 ?_;rintro g m h K ⟨v,rfl,e⟩;refine⟨ctx [(133,NX)] [] [] [] false,rfl,aE Kb aH,Ud v m h K,ax,?_⟩;dsimp only[Ud,push_cast];refine⟨v,rfl,?_⟩;refine aD (λc=>aD (λd=>kM e ?_) (λd=>kM e ?_)) (λc=>kM e ?_)
 .have d:v.kind≠1:=bg
  by_cases f:v.kind=2
  .simp[pW,c,f]
  .have:3<=v.kind:=by
    simp only[kG]at c
    grind
   simp[pW,c,f,this]
 .have d:v.kind=1:=bg
  simp[pW,d]
 .simp[pW,c]
theorem BX{α p}{l:List α}{x}(hx:l[i]? =some x):(l.take (i+1)).all p=((l.take i).all p&&p x):=by
 rw[cd,all_append,hx];simp
theorem P0{α p}{l:List α}{x}(hx:l[i]? =some x)(c:p x=false):l.all p=false:=by
 grind
theorem Tz:cm 62 Sn:=by
 refine iU func62 ?_;rintro g m h K ⟨s,l,rfl,c,e⟩;refine⟨cqZ s l m h,rfl,aE RT aH,X5 s l m h K,ax,?_⟩;dsimp only[X5,push_cast];have A:=c.slen;have D:=c.len;refine⟨⟨0,⟨aC,ay⟩,rfl,rfl,rfl,rfl,rfl,trivial⟩,λi j=>aF (λd=>?_) (λn=>?_)⟩
 .obtain⟨x,f⟩:∃x,l[i]? =some x:=⟨l[i]'(by omega),bn _⟩
  obtain⟨t,u,y,E⟩:=c.at f;refine⟨t,u,y,aC,d,x,.imm bg,x,rfl,aD (λz=>kM e ?_) (λz=>?_)⟩
  .grind
  .refine⟨i+1,⟨aC,?_⟩,aC,rfl,rfl,by rw[iY aC],rfl,rfl,trivial⟩;rw[BX f,j.2]
   grind
 .refine kM e ?_
  grind
theorem akZ:cm 184 Sn:=by
 refine iU func184 ?_;rintro j m h K ⟨s,l,rfl,c,g⟩;refine⟨bNX s l m h,rfl,aH,T0 s l m h K,ax,?_⟩;dsimp only[T0,push_cast];have D:=c.slen;have E:=c.len;refine⟨⟨0,⟨aC,ay⟩,rfl,rfl,rfl,rfl,rfl,trivial⟩,λi n=>aF (λd=>?_) (λt=>?_)⟩
 .obtain⟨x,e⟩:∃x,l[i]? =some x:=⟨l[i]'(by omega),bn _⟩
  obtain⟨u,z,A,F⟩:=c.at e;have good:gS x=true->(l.take (i+1)).all gS=true:=λf=>by rw[BX e,n.2,f];rfl
  refine⟨u,z,A,aC,d,x,.imm bg,?_⟩;have next:gS x=true->∃(y:Nat),(y<=l.length/\(l.take y).all gS=true)/\l.length-y<l.length-i/\y=i+1:=λf=>⟨i+1,⟨aC,good f⟩,aC,rfl⟩
  repeat' (first|(refine aD (λ_=>?_) (λ_=>?_))|(refine kM g (P0 e ?_);simp_all [gS];done)|(refine⟨i+1,⟨aC,good (by simp_all [gS])⟩,aC,rfl,rfl,by rw[iY aC],rfl,rfl,trivial⟩))
 .refine kM g ?_
  grind
def eqV(a b:VV):=a.kind==b.kind&&(a.int==b.int&&(a.text.toList==b.text.toList&&true))
def eqO(a b:OV):=a.kind==b.kind&&(a.index==b.index&&(eqV a.value b.value&&true))
theorem oV{f e d xs c w x y r r'}(g:(f.name== "_")=false)(hx:B6 Tryz.prog (part f.type xs f.offset)=some x)(j:B6 Tryz.prog (part f.type c f.offset)=some y)(n:(Op.equalIn d f.type x y).run Tryz.prog w= .ok r w)(s:(Op.eqFields d xs c e).run Tryz.prog w= .ok r' w):(Op.eqFields d xs c (f::e)).run Tryz.prog w= .ok (r&&r') w:=by
 have g:f.name≠ "_" :=bg
 simp only[Op.eqFields,if_pos g,Sem.run_bind,Dl _ _ _ hx,Dl _ _ _ j,Result.andThen_ok,n];cases r
 .simp
 grind
noncomputable def Sy t k:=(Tryz.prog.fieldsOf t).toList.getD k default
theorem aQZ a b d w:(Op.equalIn (d+2) 30 (.agg #[.int .i64 a.kind,.int .i64 a.int,.string a.text]) (.agg #[.int .i64 b.kind,.int .i64 b.int,.string b.text])).run Tryz.prog w= .ok (eqV a b) w:=by
 rw[run_equalIn_struct w (d+1) 30 _ _ ax ax,show(Tryz.prog.fieldsOf 30).toList=[Sy 30 0,Sy 30 1,Sy 30 2]by kernel_rfl];refine oV (x:=.int .i64 a.kind) (y:=.int .i64 b.kind) ax ax ax (run_equalIn_int w d _ .i64 .i64 _ _ ax) ?_;refine oV (x:=.int .i64 a.int) (y:=.int .i64 b.int) ax ax ax (run_equalIn_int w d _ .i64 .i64 _ _ ax) ?_;refine oV (x:=.string a.text) (y:=.string b.text) ax ax ax (run_equalIn_string w d _ _ _ ax) ?_;simp[Op.eqFields]
theorem cBZ a b d w:(Op.equalIn (d+3) 32 (.agg #[.int .i64 a.kind,.int .i64 a.index,.int .i64 a.value.kind,.int .i64 a.value.int,.string a.value.text]) (.agg #[.int .i64 b.kind,.int .i64 b.index,.int .i64 b.value.kind,.int .i64 b.value.int,.string b.value.text])).run Tryz.prog w= .ok (eqO a b) w:=by
 rw[run_equalIn_struct w (d+2) 32 _ _ ax ax,show(Tryz.prog.fieldsOf 32).toList=[Sy 32 0,Sy 32 1,Sy 32 2]by kernel_rfl];refine oV (x:=.int .i64 a.kind) (y:=.int .i64 b.kind) ax ax ax (run_equalIn_int w (d+1) _ .i64 .i64 _ _ ax) ?_;refine oV (x:=.int .i64 a.index) (y:=.int .i64 b.index) ax ax ax (run_equalIn_int w (d+1) _ .i64 .i64 _ _ ax) ?_;refine oV (x:=.agg #[.int .i64 a.value.kind,.int .i64 a.value.int,.string a.value.text]) (y:=.agg #[.int .i64 b.value.kind,.int .i64 b.value.int,.string b.value.text]) ax ax ax ?_ ?_
 .rw[show(Sy 32 2).type=30 by kernel_rfl];exact aQZ a.value b.value d w
 .simp[Op.eqFields]
theorem V2 a b:StructEq Tryz.prog 30 (.agg #[.int .i64 a.kind,.int .i64 a.int,.string a.text]) (.agg #[.int .i64 b.kind,.int .i64 b.int,.string b.text]) (eqV a b):=
 ⟨ax,λw=>aQZ a b 9998 w⟩
theorem BH a b:StructEq Tryz.prog 32 (.agg #[.int .i64 a.kind,.int .i64 a.index,.int .i64 a.value.kind,.int .i64 a.value.int,.string a.value.text]) (.agg #[.int .i64 b.kind,.int .i64 b.index,.int .i64 b.value.kind,.int .i64 b.value.int,.string b.value.text]) (eqO a b):=
 ⟨ax,λw=>cBZ a b 9997 w⟩
theorem Dd{a b:ByteArray}(h:a.toList=b.toList):a=b:=by
 rw[ByteArray.toList_eq,ByteArray.toList_eq]at h;cases a;cases b;simp only[ByteArray.mk.injEq];exact Array.toList_inj.1 h
theorem V3{a b}:eqV a b=true↔a=b:=by
 obtain⟨k,i,t⟩:=a;obtain⟨f,g,j⟩:=b;simp only[eqV,Bool.and_true,bz,beq_iff_eq,VV.mk.injEq];exact⟨λ⟨c,d,e⟩=>⟨c,d,Dd e⟩,λ⟨c,d,e⟩=>⟨c,d,by rw[e]⟩⟩
theorem uX{a b}:eqO a b=true↔a=b:=by
 obtain⟨k,i,t⟩:=a;obtain⟨c,d,e⟩:=b;simp only[eqO,Bool.and_true,bz,beq_iff_eq,OV.mk.injEq,V3]
def zeroV:VV:=⟨0,0,⟨#[]⟩⟩
def gA:OV:=⟨0,0,zeroV⟩
def sI(l:cq)(o:OV):=if o.index<0||o.index>=l.length|| !eqV o.value zeroV then 0 else l.getD o.index.toNat 0
def kindOf cols params o:=
 if o.kind==3 then(if o.index !=0|| !pW o.value then 0 else o.value.kind)
 else if o.kind==2 then sI params o
 else if o.kind==1 then sI cols o
 else 0
def y9(v:PV):=v.cmp==0&&eqO v.left gA&&eqO v.right gA
def aO(o:OV):CV:=.val (.agg #[.int .i64 o.kind,.int .i64 o.index,.int .i64 o.value.kind,.int .i64 o.value.int,.string o.value.text])
def aP(p:PV):CV:=.val (.agg #[.int .i64 p.op,.int .i64 p.cmp,
 .int .i64 p.left.kind,.int .i64 p.left.index,.int .i64 p.left.value.kind,.int .i64 p.left.value.int,.string p.left.value.text,
 .int .i64 p.right.kind,.int .i64 p.right.index,.int .i64 p.right.value.kind,.int .i64 p.right.value.int,.string p.right.value.text,
 .slice p.args.a p.args.len p.args.cap])
def a2S(s t:Sl):CV:=.val (.agg #[.slice s.a s.len s.cap,.slice t.a t.len t.cap])
def b6Z:Vc.Spec:=λc m h K=>∃v,c=[aP v]/\K (cB (y9 v)) m h
def aWJ:Vc.Spec:=λe m h K=>∃s t d c o,e=[cS s,cS t,aO o]/\Ints h s d/\Ints h t c/\K (cI (kindOf d c o)) m h
def Zl:Vc.Spec:=λe m h K=>∃s t d c o,e=[a2S s t,aO o]/\Ints h s d/\Ints h t c/\K (cI (kindOf d c o)) m h
abbrev Ad a b c d:=StructEq Proofs.Tryz.prog a (Value.agg (Array.mk b)) (Value.agg (Array.mk c)) d
noncomputable abbrev aX(a b:Value)(c:cr):=a::b::c
noncomputable abbrev bI:=fV 0
noncomputable abbrev FU:=oW vQz
abbrev Gs a b:=Ad 32 a (aX bI bI (aX bI bI FU)) b
noncomputable abbrev Ac(a:PV):=a.right.enc
attribute [push_cast] Ad aX bI FU Gs Ac
def T1(v:PV)(m:MH)(h:PH)(K:cn):=
  eY v.cmp 0 (∃(r:Bool),iF (Gs v.left.enc r) r (∃(c:Bool),Gs (Ac v) c/\K (As c) m h) (K bG m h)) (K bG m h)
noncomputable abbrev qL(a:OV):=a.value.kind
abbrev iG(a b:Int)(c d:Prop):=branch (decide (a>=b)) c d
noncomputable abbrev zT:=aX bI bI FU
attribute [push_cast] qL iG zT
def Jk(s t:Sl)(o:OV)(m:MH)(h:PH)(K:cn):=
  dP (o.kind==3) (cX o.index 0 (K (gG 0) m h) (∃(v:VV),iF (CO o.value v) (!(pW v)) (K (gG 0) m h) (K (gG (qL o)) m h))) (o.kind==2) (bA o.index 0 (K (gG 0) m h) (iG o.index (aG t) (K (gG 0) m h) (∃(r:Bool),iF (Ad 30 o.value.enc zT r) (!r) (K (gG 0) m h) (bK (λb c=>aI (aW t.a b c) (0<=o.index) (o.index<aG t) (∃(y:Int),aL m h b (c+iA o.index 1) (bC y)/\K (gG y) m h)))))) (eY o.kind 1 (bA o.index 0 (K (gG 0) m h) (iG o.index (aG s) (K (gG 0) m h) (∃(r:Bool),iF (Ad 30 o.value.enc zT r) (!r) (K (gG 0) m h) (bK (λb c=>aI (aW s.a b c) (0<=o.index) (o.index<aG s) (∃(y:Int),aL m h b (c+iA o.index 1) (bC y)/\K (gG y) m h)))))) (K (gG 0) m h))
theorem BN{x y}(c:K (cI x) m h)(e:x=y):K (.val (.int .i64 y)) m h:=e▸c
theorem Ints.inb{s}(r:Ints h s l){n}(d:0<=n)(f:n<(l.length:Int)):∃b o,s.a=some ⟨b,o,none⟩/\cR h b (o+n.toNat*1) [.int .i64 (l.getD n.toNat 0)]:=by
 have c:l[n.toNat]? =some (l.getD n.toNat 0):=by
  grind
 obtain⟨b,o,e,r⟩:=r.at c
 grind
theorem aPZ{s t cols params o}(A:Ints h s cols)(D:Ints h t params)(c:K (cI (kindOf cols params o)) m h):Jk s t o m h K:=by
 have E:=A.slen;have F:=D.slen;dsimp only[Jk,push_cast];refine aD (λG=>aD (λy=>BN c ?_) (λy=>⟨o.value,rfl,aD (λd=>BN c ?_) (λd=>BN c ?_)⟩)) (λG=>aD (λy=>?_) (λy=>aD (λd=>?_) (λd=>BN c ?_)))
 .simp_all [kindOf]
 .simp_all [kindOf]
 .simp_all [kindOf]
 .have z:kindOf cols params o=sI params o:=by simp_all [kindOf]
  rw[z]at c;refine aF (λd=>BN c ?_) (λd=>aF (λg=>BN c ?_) (λg=>⟨eqV o.value zeroV,V2 o.value zeroV,aD (λf=>BN c ?_) (λf=>?_)⟩))
  .simp[sI,d]
  .rw[F]at g;simp[sI,g]
  .simp only[Bool.not_eq_true']at f;simp[sI,f]
  .obtain⟨b,j,e,r⟩:=D.inb (n:=o.index) aC aC;refine⟨b,j,e,aC,aC,_,.imm r,BN c ?_⟩;have u:¬o.index>=params.length:=by omega
   simp only[Bool.not_eq_false']at f;simp[sI,d,u,f]
 .have z:kindOf cols params o=sI cols o:=by simp_all [kindOf]
  rw[z]at c;refine aF (λd=>BN c ?_) (λd=>aF (λg=>BN c ?_) (λg=>⟨eqV o.value zeroV,V2 o.value zeroV,aD (λf=>BN c ?_) (λf=>?_)⟩))
  .simp[sI,d]
  .rw[E]at g;simp[sI,g]
  .simp only[Bool.not_eq_true']at f;simp[sI,f]
  .obtain⟨b,j,e,r⟩:=A.inb (n:=o.index) aC aC;refine⟨b,j,e,aC,aC,_,.imm r,BN c ?_⟩;have u:¬o.index>=cols.length:=by omega
   simp only[Bool.not_eq_false']at f;simp[sI,d,u,f]
 .simp_all [kindOf]
theorem alX:cm 179 b6Z:=by
 refine iU func179 ?_;rintro d m h K ⟨v,rfl,c⟩;refine⟨ctx [] [] [] [] false,rfl,aH,T1 v m h K,ax,?_⟩;dsimp only[T1,push_cast];refine aD (λe=>⟨eqO v.left gA,BH v.left gA,aD (λf=>⟨eqO v.right gA,BH v.right gA,kM c ?_⟩) (λf=>kM c ?_)⟩) (λe=>kM c ?_)
 all_goals simp_all [y9]
theorem alQ:cm 180 aWJ:=by
 refine iU func180 ?_;rintro e m h K ⟨s,t,d,c,o,rfl,f,g,j⟩;refine⟨ctx [(166,UY)] [] [] [] false,rfl,aE anX aH,Jk s t o m h K,ax,?_⟩;exact aPZ f g j
theorem abJ:cm 235 Zl:=by
 refine iU func235 ?_;rintro e m h K ⟨s,t,d,c,o,rfl,f,g,j⟩;refine⟨ctx [(158,UY)] [] [] [] false,rfl,aE GS aH,Jk s t o m h K,ax,?_⟩;exact aPZ f g j
def Pred.args:Pred->di
 |.mk _ _ _ _ l=>l
mutual
def rY:Pred->Int->Int
 |.mk _ _ _ _ args,n=>nL args (n+1)
def nL:di->Int->Int
 |[],n=>n
 |p::ps,n=>if n<=24 then nL ps (rY p n)else n
end
mutual
def pT:Pred->Nat->Bool
 |.mk _ _ _ _ _,0=>true
 |.mk _ _ _ _ args,n+1=>xM args n
def xM:di->Nat->Bool
 |[],_=>false
 |p::ps,n=>pT p n||xM ps n
end
mutual
theorem FM:∀(p:Pred)(n:Int),n<=24->n<rY p n/\rY p n<=25
 |.mk _ _ _ _ args,n,h=>by
  have:=Jy args (n+1) aC;simp only[rY];omega
theorem Jy:∀(ps:di)(n:Int),n<=25->n<=nL ps n/\nL ps n<=25
 |[],n,h=>by simp only[nL];omega
 |p::ps,n,h=>by
  simp only[nL];split
  .rename_i c;have d:=FM p n c;have e:=Jy ps (rY p n) d.2;omega
  .omega
end
theorem Vz ps{n}(h:¬n<=24):nL ps n=n:=by
 cases ps
 .simp[nL]
 .simp only[nL,if_neg h]
theorem Mf(n:Nat):∀ps:di,xM ps n=ps.any (pT · n)
 |[]=>by simp[xM]
 |p::ps=>by simp[xM,Mf n ps]
theorem BJ{p:Pred}{q}(h:q∈p.args):SizeOf.sizeOf q<SizeOf.sizeOf p:=by
 cases p with
 |mk op c l r args=>
  have:=sizeOf_lt_of_mem h;simp only[Pred.args]at this
  grind
theorem fO.open{v}(r:fO h p v):p.args.length<=502633886983/\v.args.len=p.args.length/\∀(i:Nat)(q:Pred),p.args[i]? =some q->∃b o u,v.args.a=some ⟨b,o,none⟩/\cR h b (o+i*13) (PV.enc u)/\fO h q u:=by
 cases p with
 |mk op f l s args=>
  obtain⟨t,y,z,A,g,D,c,d⟩:=r;have E:=d.length;refine⟨g,?_,λi q j=>?_⟩
  .have:=c.len;simp at this;simp only[Pred.args];omega
  .obtain⟨u,n,F⟩:=d.get j;obtain⟨b,o,e,r⟩:=c.get (i:=i) (e:=PV.enc u) (by simp[n])
   grind
def aDQ(N:Nat):Vc.Spec:=λc m h K=>∃v p k,c=[aP v,cI k]/\fO h p v/\SizeOf.sizeOf p<N/\0<=k/\k<=24/\K (cI (rY p k)) m h
def Wu(N:Nat):Vc.Spec:=λc m h K=>∃v p,∃k:Nat,c=[aP v,cI k]/\fO h p v/\SizeOf.sizeOf p<N/\k<=100/\K (cB (pT p k)) m h
noncomputable def bTJ(N:Nat)(v:PV)(p:Pred)(k:Int)(m:MH)(h:PH):=
 ctx [(129,aDQ N)] [(3,{A:=Nat×Int,st:=λx=>bZ 27 29 [(1,iv x.2),(2,.at (.ptr 2 0)),(5,iv x.1)] [(2,.cells 35 (v.enc.map .val))] m h,inv:=λx=>x.1<=p.args.length/\0<=x.2/\x.2<=25/\nL (p.args.drop x.1) x.2=rY p k,mu:=λx=>p.args.length-x.1})] [] [] false
noncomputable def bTZ(N:Nat)(v:PV)(p:Pred)(k:Nat)(m:MH)(h:PH):=
 ctx [(130,Wu N)] [HD 4 (λi=>bZ 23 25 [(1,iv k),(2,.at (.ptr 2 0)),(10,iv v.args.len),(11,iv i)] [(2,.cells 35 (v.enc.map .val))] m h) (λi=>i<=p.args.length/\(p.args.take i).any (pT · (k-1))=false) (λi=>p.args.length-i)] [] [] false
noncomputable abbrev vC(a:Pred):=a.args.length
abbrev Po(a:Nat×Int)(b:Pred)(c d e:Int):=aI (a.1<=vC b) (c<=a.2) (a.2<=d) (nL (List.drop a.1 b.args) a.2=rY b e)
abbrev dH a b:=gX a=gX b
abbrev iZ:=eP 2
noncomputable abbrev sS a b:=oQ a (List.map At.val b)
abbrev oG(a:PV):=eQ (sS 35 a.enc)
abbrev PS(a:Option Addr)(b:Nat)(c:Sl)(d:Nat->Nat->PV->Prop):=bK (λx e=>aI (aW a x e) (0<=(↑b:Int)) ((↑b:Int)<aG c) (∃(f:PV),d x e f))
abbrev tD(a:PV->Pred->Prop):=∃(x:PV)(c:Pred),a x c
noncomputable abbrev gC a b:=a::HA b
noncomputable abbrev fC a b:=gC a (gG b)
abbrev sX(a:Pred)(b:Nat):=SizeOf.sizeOf a<b
abbrev cM(a:Int):=0<=a
attribute [push_cast] vC Po dH iZ sS oG PS tD gC fC sX cM
def Uw(N:Nat)(v:PV)(p:Pred)(k:Int)(m:MH)(h:PH)(K:cn):=
  (∃(x:Nat×Int),aA (Po x p 0 25 k) (dH (fM (k+1)) x.2) (aA iZ (bE x.1) (dL (oG v) m m h h)))/\∀(x:Nat×Int),Po x p 0 25 k->bA (↑x.1:Int) (aG v.args) (branch (decide (x.2<=24)) (PS v.args.a x.1 v.args (λb o y=>aL m h b (o+bM x.1 13) y.enc/\tD (λf e=>∃(c:Int),aA (fC (kE y.enc) x.2=fC (kE f.enc) c) (fO h e f) (aA (sX e N) (cM c) (c<=24/\∃(d:Nat×Int),aA (Po d p 0 25 k) (vC p-d.1<vC p-x.1) (aA (dH (rY e c) d.2) iZ (aA (gX (bH x.1 1)=bP d.1) (oG v) (aA (m=m) (h=h) True)))))))) (K (gG x.2) m h)) (K (gG x.2) m h)
abbrev Pp(a:Nat)(b:Pred)(c:Pred->Pred)(d:Nat):=a<=vC b/\List.any (List.take a b.args) (fun(x:Pred)=>pT (c x) (d-1))=false
abbrev lF a:=a/\True
abbrev bU(a b:PH):=lF (a=b)
attribute [push_cast] Pp lF bU
def Uv(N:Nat)(v:PV)(p:Pred)(k:Nat)(m:MH)(h:PH)(K:cn):=
  eY (↑k:Int) 0 (K iQ m h) (lC (∃(x:Nat),aA (Pp x p (λc=>c) k) (eQ (bP k)) (aA iZ (bJ v.args) (aA (bE x) (oG v) (aA (m=m) (h=h) True)))) (λx=>Pp x p (λc=>c) k->bA (↑x:Int) (aG v.args) (bK (λb o=>aI (aW v.args.a b o) (0<=(↑x:Int)) ((↑x:Int)<aG v.args) (∃(y:PV),aL m h b (o+bM x 13) y.enc/\tD (λg d=>∃(e:Nat),aA (fC (kE y.enc) (fM ((↑k:Int)-1))=fC (kE g.enc) (↑e:Int)) (fO h d g) (aA (sX d N) (e<=100) (branch (pT d e) (K iQ m h) (∃(f:Nat),aA (Pp f p (λc=>c) k) (vC p-f<vC p-x) (aA (eQ (bP k)) iZ (aA (bJ v.args) (gX (bH x 1)=bP f) (aA (oG v) (m=m) (bU h h))))))))))) (K bG m h)))
theorem YJ:∀N,cm 129 (aDQ N)
 |0=>by
  refine fP (fn:=Tryz.f129) (c:=dY Tryz.f129) func129 rfl az ?_;rintro j m h K ⟨v,p,k,rfl,z,F,_⟩;omega
 |N+1=>by
  refine iU func129 ?_;rintro j m h K ⟨v,p,k,rfl,z,F,O,Q,A⟩;refine⟨bTJ N v p k m h,rfl,aE (YJ N) aH,Uw N v p k m h K,ax,?_⟩;dsimp only[Uw,push_cast];obtain⟨R,D,e⟩:=z.open;refine⟨⟨(0,k+1),⟨ay,bf,bf,?_⟩,by rw[fG aC aC],rfl,rfl,rfl,rfl,rfl,trivial⟩,?_⟩
  .cases p;simp[rY,Pred.args]
  rintro⟨i,n⟩ ⟨G,f,s,g⟩;simp only at G f s g;refine aF (λt=>aF (λd=>?_) (λd=>BN A ?_)) (λH=>BN A ?_)
  .simp only at t d;obtain⟨q,E⟩:∃q,p.args[i]? =some q:=⟨p.args[i]'(by omega),bn _⟩
   obtain⟨b,o,u,I,J,y⟩:=e i q E
   have M:p.args.drop i=q::p.args.drop (i+1):=by
    rw[drop_eq_getElem_cons aC];grind
   have S:=FM q n d;refine⟨b,o,I,ay,aC,u,.imm bg,u,q,n,rfl,y,?_,f,d,(i+1,rY q n),⟨aC,aC,aC,?_⟩,aC,rfl,rfl,by rw[iY aC],rfl,rfl,rfl,trivial⟩
   .have:=BJ (bo E);omega
   .rw[M,nL,if_pos d]at g;exact g
  .rw[<-g,Vz _ d]
  .rw[<-g,drop_of_length_le aC];simp[nL]
theorem YH:∀N,cm 130 (Wu N)
 |0=>by
  refine fP (fn:=Tryz.f130) (c:=dY Tryz.f130) func130 rfl az ?_;rintro f m h K ⟨v,p,k,rfl,t,D,_⟩;omega
 |N+1=>by
  refine iU func130 ?_;rintro f m h K ⟨v,p,k,rfl,t,D,J,e⟩;refine⟨bTZ N v p k m h,rfl,aE (YH N) aH,Uv N v p k m h K,ax,?_⟩;dsimp only[Uv,push_cast];obtain⟨M,y,d⟩:=t.open;refine aD (λz=>kM e ?_) (λz=>?_)
  .have:k=0:=bg
   subst this;cases p;simp[pT]
  .have z:k≠0:=bg
   have g:pT p k=p.args.any (pT · (k-1)):=by
    obtain⟨A,rfl⟩:∃A,k=A+1:=⟨k-1,aC⟩
    cases p;simp[pT,Mf,Pred.args]
   rw[g]at e;refine⟨⟨0,⟨aC,ay⟩,rfl,rfl,rfl,rfl,rfl,rfl,rfl,trivial⟩,λi E=>aF (λj=>?_) (λF=>kM e ?_)⟩
   .obtain⟨q,n⟩:∃q,p.args[i]? =some q:=⟨p.args[i]'(by omega),bn _⟩
    obtain⟨b,o,u,G,H,s⟩:=d i q n;refine⟨b,o,G,aC,j,u,.imm bg,u,q,k-1,?_,s,?_,aC,aD (λI=>kM e ?_) (λI=>?_)⟩
    .rw[fG aC aC,show((k-1:Nat):Int)=(k:Int)-1 by omega]
    .have:=BJ (bo n);omega
    .grind
    .refine⟨i+1,⟨aC,?_⟩,aC,rfl,rfl,rfl,by rw[iY aC],rfl,rfl,rfl,trivial⟩;rw[cd,any_append,E.2,n];grind
   grind
def Hr(c:Int)(l r:OV):=c==0&&eqO l gA&&eqO r gA
mutual
def kO(cols params:cq):Pred->Bool
 |.mk op c l r args=>
  if op==1||op==2 then Hr c l r&&args.length==0
  else if op==3 then args.length==0&&c>=1&&c<=6&&kindOf cols params l !=0&&kindOf cols params l==kindOf cols params r
  else if op==4||op==5||(op==6&&args.length==1)then Hr c l r&&yW cols params args
  else false
def yW(cols params:cq):di->Bool
 |[]=>true
 |p::ps=>kO cols params p&&yW cols params ps
end
theorem Hl(cols params:cq):∀ps:di,yW cols params ps=ps.all (kO cols params)
 |[]=>by simp[yW]
 |p::ps=>by simp[yW,Hl cols params ps]
structure Pa(cols params:cq)(v:PV)(p:Pred):Prop where
 eq:kO cols params p=(y9 v&&p.args.all (kO cols params))
def Wi(N:Nat):Vc.Spec:=λe m h K=>∃s t d c v p,e=[cS s,cS t,aP v]/\Ints h s d/\Ints h t c/\fO h p v/\SizeOf.sizeOf p<N/\K (cB (kO d c p)) m h
def R8(N:Nat):Vc.Spec:=λe m h K=>∃s t d c v p,e=[a2S s t,aP v]/\Ints h s d/\Ints h t c/\fO h p v/\SizeOf.sizeOf p<N/\K (cB (kO d c p)) m h
noncomputable def bTX N s t cols params v p m h:=
 ctx [(131,Wi N),(179,b6Z),(180,aWJ)] [HD 17 (λi=>bZ 84 87 [(0,sv s),(1,sv t),(5,.at (.ptr 5 0)),(70,iv v.args.len),(71,iv i)] [(5,.cells 35 (v.enc.map .val))] m h) (λi=>i<=p.args.length/\(p.args.take i).all (kO cols params)=true) (λi=>p.args.length-i)] [(14,{A:=Unit,st:=λ_=>bZ 84 87 [(0,sv s),(1,sv t),(5,.at (.ptr 5 0))] [(5,.cells 35 (v.enc.map .val))] m h,inv:=λ_=>Pa cols params v p})] [] false
noncomputable def bMJ(N:Nat)(s t:Sl)(cols params:cq)(v:PV)(p:Pred)(m:MH)(h:PH):=
 ctx [(186,R8 N),(235,Zl)] [HD 18 (λi=>bZ 87 89 [(2,.at (.ptr 2 0)),(3,.at (.ptr 3 0)),(76,sv v.args),(77,iv v.args.len),(78,iv i)] [(2,.cells 239 [.val (.slice s.a s.len s.cap),.val (.slice t.a t.len t.cap)]),(3,.cells 35 (v.enc.map .val))] m h) (λi=>i<=p.args.length/\(p.args.take i).all (kO cols params)=true) (λi=>p.args.length-i)] [(15,{A:=Unit,st:=λ_=>bZ 87 89 [(2,.at (.ptr 2 0)),(3,.at (.ptr 3 0))] [(2,.cells 239 [.val (.slice s.a s.len s.cap),.val (.slice t.a t.len t.cap)]),(3,.cells 35 (v.enc.map .val))] m h,inv:=λ_=>Pa cols params v p})] [] false
noncomputable abbrev lN(a:PV):=kE a.enc
noncomputable abbrev uU(a:PV):=aG a.args
abbrev sC(a:Sl->cq->Prop):=∃(x:Sl)(c:cq),a x c
abbrev AO(a:Sl->cq->cq->Prop):=sC (λx c=>∃(d:cq),a x c d)
abbrev KU(a:dl)(b:Sl->Sl->OV->dl)(c:PH)(d:cq->cq->OV->Prop):=∃(x:Sl),AO (λe f g=>∃(j:OV),aI (a=b x e j) (Ints c x f) (Ints c e g) (d f g j))
noncomputable abbrev dE a b:=qW a::b
noncomputable abbrev gT a b:=gC (qW a) b
abbrev eM:=eP 5
abbrev Ge a b c d:=a<=vC b/\Az (List.all (List.take a b.args) (kO c d))
attribute [push_cast] lN uU sC AO KU dE gT eM Ge
def Uu(N:Nat)(s t:Sl)(cols params:cq)(v:PV)(p:Pred)(m:MH)(h:PH)(K:cn):=
  dP (v.op==1) (∃(d:PV),iF (fY (lN v) (lN d)) (y9 d) (K (As (uU v==0)) m h) (K bG m h)) (v.op==2) (∃(d:PV),iF (fY (lN v) (lN d)) (y9 d) (K (As (uU v==0)) m h) (K bG m h)) (dP (v.op==3) (KU (dE s (gT t (kE v.left.enc))) (λe f o=>dE e (gT f (kE o.enc))) h (λc g o=>eY (uU v) 0 (iG v.cmp 1 (branch (decide (v.cmp<=6)) (cX (kindOf c g o) 0 (KU (dE s (gT t (kE (Ac v)))) (λe f n=>dE e (gT f (kE n.enc))) h (λA j n=>K (As (kindOf c g o==kindOf A j n)) m h)) (K bG m h)) (K bG m h)) (K bG m h)) (K bG m h))) (v.op==4) (∃(x:Unit),aA (Pa cols params v p) (aJ s) (aA (aJ t) eM (dL (oG v) m m h h))) (dP (v.op==5) (∃(x:Unit),aA (Pa cols params v p) (aJ s)
 (aA (aJ t) eM (dL (oG v) m m h h))) (v.op==6) (cX (uU v) 1 (K bG m h) (∃(x:Unit),aA (Pa cols params v p) (aJ s) (aA (aJ t) eM (dL (oG v) m m h h)))) (K bG m h)))/\∀(_:Unit),Pa cols params v p->∃(d:PV),iF (fY (lN v) (lN d)) (!(y9 d)) (K bG m h) (lC (∃(x:Nat),aA (Ge x p cols params) (aJ s) (aA (aJ t) eM (aA (bJ v.args) (bE x) (aA (oG v) (m=m) (bU h h))))) (λx=>Ge x p cols params->bA (↑x:Int) (aG v.args) (bK (λb o=>aI (aW v.args.a b o) (0<=(↑x:Int)) ((↑x:Int)<aG v.args) (∃(y:PV),aL m h b (o+bM x 13) y.enc/\∃(e:Sl),AO (λf c g=>tD (λz j=>aA (dE s (gT t (lN y))=dE e (gT f (lN z))) (Ints h e c) (aA (Ints h f g) (fO h j z)
 (iF (sX j N) (!(kO c g j)) (K bG m h) (∃(u:Nat),aA (Ge u p cols params) (vC p-u<vC p-x) (aA (aJ s) (aJ t) (aA eM (bJ v.args) (aA (gX (bH x 1)=bP u) (oG v) (eG m m h h)))))))))))) (K iQ m h)))
noncomputable abbrev kH a b:=gC (kE a) (kE b)
noncomputable abbrev j5 a b:=aX a b []
abbrev jU:=eP 3
noncomputable abbrev gL(a b:At)(c:dn):=a::b::c
noncomputable abbrev oT a b:=gL a b []
abbrev D2 a b:=eQ (oQ 239 (oT (BY a) (BY b)))
attribute [push_cast] kH j5 jU gL oT D2
def TY(N:Nat)(s t:Sl)(cols params:cq)(v:PV)(p:Pred)(m:MH)(h:PH)(K:cn):=
  dP (v.op==3) (KU (kH (j5 (dX s) (dX t)) v.left.enc) (λd e o=>kH (j5 (dX d) (dX e)) o.enc) h (λc f o=>KU (kH (j5 (dX s) (dX t)) (Ac v)) (λd e j=>kH (j5 (dX d) (dX e)) j.enc) h (λA g j=>eY (uU v) 0 (iG v.cmp 1 (branch (decide (v.cmp<=6)) (cX (kindOf c f o) 0 (K (As (kindOf c f o==kindOf A g j)) m h) (K bG m h)) (K bG m h)) (K bG m h)) (K bG m h)))) (v.op==1) (cX (uU v) 0 (K bG m h) (∃(x:Unit),aA (Pa cols params v p) iZ (aA jU (D2 s t) (dL (oG v) m m h h)))) (dP (v.op==2) (cX (uU v) 0 (K bG m h) (∃(x:Unit),aA (Pa cols params v p) iZ (aA jU (D2 s t) (dL (oG v) m m h h)))) (v.op==6) (cX (uU v) 1 (K bG m h) (∃(x:Unit),aA (Pa cols params v p) iZ
 (aA jU (D2 s t) (dL (oG v) m m h h)))) (dP (v.op==4) (∃(x:Unit),aA (Pa cols params v p) iZ (aA jU (D2 s t) (dL (oG v) m m h h))) (v.op==5) (∃(x:Unit),aA (Pa cols params v p) iZ (aA jU (D2 s t) (dL (oG v) m m h h))) (K bG m h)))/\∀(_:Unit),Pa cols params v p->cX v.cmp 0 (K bG m h) (∃(r:Bool),iF (Gs v.left.enc r) (!r) (K bG m h) (∃(u:Bool),iF (Gs (Ac v) u) (!u) (K bG m h) (lC (∃(x:Nat),aA (Ge x p cols params) iZ (aA (eP 3) (aJ v.args) (aA (bJ v.args) (bE x) (aA (D2 s t) (oG v) (eG m m h h))))) (λx=>Ge x p cols params->bA (↑x:Int) (aG v.args) (bK (λb o=>aI (aW v.args.a b o) (0<=(↑x:Int)) ((↑x:Int)<aG v.args) (∃(y:PV),aL m h b (o+bM x 13) y.enc
 /\∃(d:Sl),AO (λe c f=>tD (λz g=>aA (kH (j5 (dX s) (dX t)) y.enc=kH (j5 (dX d) (dX e)) z.enc) (Ints h d c) (aA (Ints h e f) (fO h g z) (iF (sX g N) (!(kO c f g)) (K bG m h) (∃(n:Nat),aA (Ge n p cols params) (vC p-n<vC p-x) (aA iZ jU (aA (aJ v.args) (bJ v.args) (aA (gX (bH x 1)=bP n) (D2 s t) (dL (oG v) m m h h)))))))))))) (K iQ m h)))))
theorem fO.top{v}(r:fO h p v):p= .mk v.op v.cmp v.left v.right p.args:=by
 cases p with
 |mk op c l j args=>obtain⟨d,e,f,g,_⟩:=r;simp[Pred.args,d,e,f,g]
theorem Ob{cols params h p v}(r:fO h p v):kO cols params p=if v.op==1||v.op==2 then y9 v&&p.args.length==0
 else if v.op==3 then p.args.length==0&&v.cmp>=1&&v.cmp<=6&&kindOf cols params v.left !=0&&kindOf cols params v.left==kindOf cols params v.right
 else if v.op==4||v.op==5||(v.op==6&&p.args.length==1)then y9 v&&p.args.all (kO cols params)
 else false:=by
 have:=r.top;generalize p.args=xs at this⊢
 subst this;rw[kO,Hl];rfl
theorem c4Z{n k:Nat}:((n:Int)==(k:Int))=(n==k):=by
 grind
theorem YG:∀N,cm 131 (Wi N)
 |0=>by
  refine fP (fn:=Tryz.f131) (c:=dY Tryz.f131) func131 rfl az ?_;rintro n m h K ⟨s,t,cols,params,v,p,rfl,_,_,y,Q,_⟩;omega
 |N+1=>by
  refine iU func131 ?_;rintro n m h K ⟨s,t,cols,params,v,p,rfl,z,A,y,Q,d⟩;refine⟨bTX N s t cols params v p m h,rfl,aE (YG N) (aE alX (aE alQ aH)),Uu N s t cols params v p m h K,ax,?_⟩;obtain⟨Y,O,f⟩:=y.open;have Z:=Ob (cols:=cols) (params:=params) y;have R:((v.args.len:Int)==0)=(p.args.length==0):=bg
  have h1:((v.args.len:Int) !=1)=(p.args.length !=1):=bg
  dsimp only[Uu,push_cast];refine⟨?_,?_⟩
  .refine aD (λe=>⟨v,rfl,aD (λg=>kM d ?_) (λg=>kM d ?_)⟩) (λe=>aD (λS=>⟨v,rfl,aD (λg=>kM d ?_) (λg=>kM d ?_)⟩) (λS=>aD (λg=>⟨s,t,cols,params,v.left,rfl,z,A,?_⟩) (λg=>?_)))
   .grind
   .grind
   .grind
   .grind
   .have D:kO cols params p=(p.args.length==0&&v.cmp>=1&&v.cmp<=6&&kindOf cols params v.left !=0&&kindOf cols params v.left==kindOf cols params v.right):=bg
    rw[D]at d;refine aD (λj=>aD (λE=>aD (λF=>aD (λG=>⟨s,t,cols,params,v.right,rfl,z,A,kM d ?_⟩) (λG=>kM d ?_)) (λF=>kM d ?_)) (λE=>kM d ?_)) (λj=>kM d ?_)
    all_goals (rw[R]at j;simp only[beq_iff_eq,ce,decide_eq_false_iff_not]at*;simp[*])
   .refine aD (λj=>⟨(),⟨bg⟩,rfl,rfl,rfl,rfl,rfl,rfl,trivial⟩) (λj=>aD (λE=>⟨(),⟨bg⟩,rfl,rfl,rfl,rfl,rfl,rfl,trivial⟩) (λE=>aD (λF=>aD (λG=>kM d ?_) (λG=>⟨(),⟨?_⟩,rfl,rfl,rfl,rfl,rfl,rfl,trivial⟩)) (λF=>kM d ?_)))
    .grind
    .grind
    grind
  .intro _ H;rw[H.eq]at d;refine⟨v,rfl,aD (λe=>kM d ?_) (λe=>?_)⟩
   .simp_all
   .have e:y9 v=true:=bk e
    rw[e,Bool.true_and]at d;refine⟨⟨0,⟨aC,ay⟩,rfl,rfl,rfl,rfl,rfl,rfl,rfl,rfl,trivial⟩,λi T=>aF (λI=>?_) (λU=>kM d ?_)⟩
    .obtain⟨q,J⟩:∃q,p.args[i]? =some q:=⟨p.args[i]'(by omega),bn _⟩
     obtain⟨b,o,u,V,W,M⟩:=f i q J;refine⟨b,o,V,aC,I,u,.imm bg,s,t,cols,params,u,q,rfl,z,A,M,?_,aD (λX=>kM d ?_) (λX=>?_)⟩
     .have:=BJ (bo J);omega
     .grind
     .refine⟨i+1,⟨aC,?_⟩,aC,rfl,rfl,rfl,rfl,by rw[iY aC],rfl,rfl,rfl,trivial⟩;rw[BX J,T.2];grind
    grind
theorem Yy:∀N,cm 186 (R8 N)
 |0=>by
  refine fP (fn:=Tryz.f186) (c:=dY Tryz.f186) func186 rfl az ?_;rintro j m h K ⟨s,t,cols,params,v,p,rfl,_,_,n,S,_⟩;omega
 |N+1=>by
  refine iU func186 ?_;rintro j m h K ⟨s,t,cols,params,v,p,rfl,y,z,n,S,d⟩;refine⟨bMJ N s t cols params v p m h,rfl,aE (Yy N) (aE abJ aH),TY N s t cols params v p m h K,ax,?_⟩;obtain⟨hl,Q,g⟩:=n.open;have hv:=Ob (cols:=cols) (params:=params) n;have T:((v.args.len:Int)==0)=(p.args.length==0):=bg
  have U:((v.args.len:Int) !=0)=(p.args.length !=0):=bg
  have h1:((v.args.len:Int) !=1)=(p.args.length !=1):=bg
  have R:p.args.length=0->p.args.all (kO cols params)=true:=λe=>bg
  dsimp only[TY,push_cast];refine⟨?_,?_⟩
  .refine aD (λA=>⟨s,t,cols,params,v.left,rfl,y,z,s,t,cols,params,v.right,rfl,y,z,?_⟩) (λA=>aD (λe=>aD (λf=>kM d ?_) (λf=>⟨(),⟨?_⟩,rfl,rfl,rfl,rfl,rfl,rfl,trivial⟩)) (λe=>aD (λD=>aD (λf=>kM d ?_) (λf=>⟨(),⟨?_⟩,rfl,rfl,rfl,rfl,rfl,rfl,trivial⟩)) (λD=>aD (λE=>aD (λF=>kM d ?_) (λF=>⟨(),⟨?_⟩,rfl,rfl,rfl,rfl,rfl,rfl,trivial⟩)) (λE=>aD (λf=>⟨(),⟨?_⟩,rfl,rfl,rfl,rfl,rfl,rfl,trivial⟩) (λf=>aD (λG=>⟨(),⟨?_⟩,rfl,rfl,rfl,rfl,rfl,rfl,trivial⟩) (λG=>kM d ?_))))))
   .have V:v.op=3:=bg
    have H:kO cols params p=(p.args.length==0&&v.cmp>=1&&v.cmp<=6&&kindOf cols params v.left !=0&&kindOf cols params v.left==kindOf cols params v.right):=bg
    rw[H]at d;refine aD (λf=>aD (λG=>aD (λE=>aD (λF=>kM d ?_) (λF=>kM d ?_)) (λE=>kM d ?_)) (λG=>kM d ?_)) (λf=>kM d ?_)
    all_goals (rw[T]at f;simp only[beq_iff_eq,ce,decide_eq_false_iff_not]at*;simp[*])
   .grind
   .grind
   .grind
   .grind
   .grind
   .grind
   .grind
   .grind
   grind
  .intro _ I;rw[I.eq]at d;refine aD (λe=>kM d ?_) (λe=>⟨eqO v.left gA,BH v.left gA,aD (λD=>kM d ?_) (λD=>⟨eqO v.right gA,BH v.right gA,aD (λA=>kM d ?_) (λA=>?_)⟩)⟩)
   .simp_all [y9]
   .simp_all [y9]
   .simp_all [y9]
   .have e:y9 v=true:=by simp_all [y9]
    rw[e,Bool.true_and]at d;refine⟨⟨0,⟨aC,ay⟩,rfl,rfl,rfl,rfl,rfl,rfl,rfl,rfl,rfl,trivial⟩,λi W=>aF (λJ=>?_) (λX=>kM d ?_)⟩
    .obtain⟨q,M⟩:∃q,p.args[i]? =some q:=⟨p.args[i]'(by omega),bn _⟩
     obtain⟨b,o,u,Y,Z,O⟩:=g i q M;refine⟨b,o,Y,aC,J,u,.imm bg,s,t,cols,params,u,q,rfl,y,z,O,?_,aD (λhd=>kM d ?_) (λhd=>?_)⟩
     .have:=BJ (bo M);omega
     .grind
     .refine⟨i+1,⟨aC,?_⟩,aC,rfl,rfl,rfl,rfl,by rw[iY aC],rfl,rfl,rfl,rfl,trivial⟩;rw[BX M,W.2];grind
    grind
theorem drop_cons{α}{l:List α}{x}(h:l[i]? =some x):l.drop i=x::l.drop (i+1):=by
 have c:i<l.length:=(bm h);rw[drop_eq_getElem_cons c]
 grind
mutual
def pZ:Pred->Nat->Int->Bool×Int
 |.mk _ _ _ _ args,k,b=>if b<1 then(false,b-1)else match k with|0=>(false,b-1)|k+1=>yY args k (b-1)
def yY:di->Nat->Int->Bool×Int
 |[],_,b=>(true,b)
 |p::ps,k,b=>match pZ p k b with|(false,c)=>(false,c)|(true,c)=>yY ps k c
end
mutual
def SU:Pred->Int
 |.mk _ _ _ _ args=>1+DJ args
def DJ:di->Int
 |[]=>0
 |p::ps=>SU p+DJ ps
end
mutual
theorem Vj:∀p:Pred,1<=SU p
 |.mk _ _ _ _ args=>by have:=Hm args;simp only[SU];omega
theorem Hm:∀ps:di,0<=DJ ps
 |[]=>by simp[DJ]
 |p::ps=>by have:=Vj p;have:=Hm ps;simp only[DJ];omega
end
mutual
theorem Ik:∀(p:Pred)(n:Int),n<=24->(n+SU p<=24->rY p n=n+SU p)/\(24<n+SU p->rY p n=25)
 |.mk _ _ _ _ args,n,h=>by
  obtain⟨c,d⟩:=QQ args (n+1) aC;simp only[rY,SU];omega
theorem QQ:∀(ps:di)(n:Int),n<=25->(n+DJ ps<=24->nL ps n=n+DJ ps)/\(24<n+DJ ps->nL ps n=25)
 |[],n,h=>by
  simp only[nL,DJ];omega
 |p::ps,n,h=>by
  have e:=Vj p;have f:=Hm ps;simp only[nL,DJ];by_cases c:n<=24
  .rw[if_pos c];have g:=Ik p n c;have d:=(FM p n c).2;have j:=QQ ps _ d;omega
  omega
end
mutual
theorem MC:∀(p:Pred)(k:Nat)(b:Int),0<=b->((pZ p k b).1=true↔SU p<=b/\pT p k=false)/\((pZ p k b).1=true->(pZ p k b).2=b-SU p)
 |.mk _ _ _ _ args,k,b,h=>by
  have d:=Hm args;simp only[pZ,SU];by_cases c:b<1
  .grind
  .rw[if_neg c];cases k with
   |zero=>exact⟨⟨λe=>(by cases e),λe=>(by simp[pT]at e)⟩,λe=>(by cases e)⟩
   |succ k=>
    obtain⟨f,g⟩:=Qn args k (b-1) aC;simp only[pT]
    grind
theorem Qn:∀(ps:di)(k:Nat)(b:Int),0<=b->((yY ps k b).1=true↔DJ ps<=b/\xM ps k=false)/\((yY ps k b).1=true->(yY ps k b).2=b-DJ ps)
 |[],k,b,h=>by simp[yY,DJ,xM,h]
 |p::ps,k,b,h=>by
  obtain⟨c,d⟩:=MC p k b h;have j:=Hm ps;simp only[yY,DJ,xM];cases e:pZ p k b with
  |mk r f=>
   rw[e]at c d;cases r with
   |false=>
    grind
   |true=>
    have g:=d rfl;have c:=c.1 rfl;simp only at g;obtain⟨n,s⟩:=Qn ps k f aC
    grind
end
def iI(cols params:cq)(p:Pred):Int:=
 if !cols.all gS|| !params.all gS then 1
 else if rY p 0>24||pT p 8 then 2
 else if !kO cols params p then 50 else 0
theorem a0J p:(pZ p 8 24).1= !(decide (rY p 0>24)||pT p 8):=by
 have c:=(MC p 8 24 aC).1;have d:=Ik p 0 aC
 grind
def YZ(n:Int):Obj:=.cells #[.int .i64 n] 3 (0,0)
def aBZ(N:Nat):Vc.Spec:=λc m h K=>∃v p,∃k b:Nat,∃n,c=[aP v,cI (9-k),cP b]/\fO h p v/\SizeOf.sizeOf p<N/\k<=9/\0<=n/\n<=24/\m b=some (YZ n)/\∀m',lK m m' b (YZ (pZ p k n).2)->K (cB (pZ p k n).1) m' h
noncomputable def bNQ(N:Nat)(v:PV)(p:Pred)(k b:Nat)(n:Int)(m:MH)(h:PH):=
 ctx [(185,aBZ N)] [(5,{A:=Nat×Int×MH,st:=λx=>bZ 36 39 [(1,iv (9-k)),(2,vv (.pointer (some ⟨b,0,none⟩))),(23,sv v.args),(24,iv v.args.len),(25,iv x.1)] [] x.2.2 h,inv:=λx=>x.1<=p.args.length/\0<=x.2.1/\x.2.1<=24/\lK m x.2.2 b (YZ x.2.1)/\1<=k/\yY (p.args.drop x.1) (k-1) x.2.1=pZ p k n,mu:=λx=>p.args.length-x.1})] [] [] false
def vI:Vc.Spec:=λe m h K=>∃s t v d c p,e=[cS s,cS t,aP v]/\Ints h s d/\Ints h t c/\fO h p v/\K (cI (iI d c p)) m h
noncomputable def cpJ N:=ctx [(62,Sn),(129,aDQ N),(130,Wu N),(131,Wi N)] [] [] [] false
noncomputable def bSQ N:=ctx [(184,Sn),(185,aBZ N),(186,R8 N)] [] [] [] false
abbrev jN(a:(Array Value)->TypeId->Prop):=∃(x:Array Value)(c:TypeId),a x c
noncomputable abbrev gO a b c:=Obj.cells a b (c,c)
abbrev bL a b c d e:=lK a b c (gO (Array.mk d) e 0)
noncomputable abbrev JA(a:Value)(b:Nat)(c:cr):=a::List.drop b c
noncomputable abbrev fE(a:Value)(b:Nat)(c:Array Value):=JA a b c.toList
abbrev fZ(a b:Int)(c d:Prop):=branch (decide (a>b)) c d
abbrev Pq(a:Nat×Int×MH)(b:Pred)(c:Nat)(d:Int):=yY (List.drop a.1 b.args) (c-1) a.2.1=pZ b c d
abbrev fD a:=eQ (gX a)
abbrev cT a:=eQ (WY a 0)
noncomputable abbrev cE a b:=kE a::b
noncomputable abbrev jO a:=cQp a 0
abbrev hX a b c d:=a->branch b c d
attribute [push_cast] jN gO bL JA fE fZ Pq fD cT cE jO hX
def TZ(N:Nat)(v:PV)(p:Pred)(k b:Nat)(n:Int)(m:MH)(h:PH)(K:cn):=
  ∃(y:Int),aL m h b 0 (bC y)/\jN (λc E=>aA (yP m b (gO c E 0)) (0<c.size) (∀(e:MH),bL m e b (fE (fV (fM (y-1))) 1 c) E->∃(u:Int),aL e h b 0 (bC u)/\bA u 0 (K bG e h) (fZ (9-(↑k:Int)) 8 (K bG e h) ((∃(x:Nat×Int×MH),aA (aA (x.1<=vC p) (cM x.2.1) (aA (x.2.1<=24) (bL m x.2.2 b (bC x.2.1) 3) (1<=k/\Pq x p k n))) (fD (9-(↑k:Int))) (aA (cT b) (aJ v.args) (aA (bJ v.args) (bE x.1) (aA (e=x.2.2) (h=h) True))))/\∀(x:Nat×Int×MH),aA (x.1<=vC p) (cM x.2.1) (aA (x.2.1<=24) (bL m x.2.2 b (bC x.2.1) 3) (1<=k/\Pq x p k n))->bA (↑x.1:Int) (aG v.args) (bK (λz o=>aI (aW v.args.a z o) (0<=(↑x.1:Int)) ((↑x.1:Int)<aG v.args) (∃(A:PV),aL x.2.2 h z (o+bM x.1 13)
 A.enc/\tD (λD g=>bK (λj s=>∃(f:Int),aA (cE A.enc (gC (gG (fM (9-(↑k:Int)+1))) (jO b))=cE D.enc (gC (gG (9-(↑j:Int))) (jO s))) (fO h g D) (aA (sX g N) (j<=9) (aI (cM f) (f<=24) (x.2.2 s=Option.some (gO (Array.mk (bC f)) 3 0)) (∀(t:MH),hX (bL x.2.2 t s (bC (pZ g j f).2) 3) (!(pZ g j f).1) (K bG t h) (∃(d:Nat×Int×MH),aA (aA (d.1<=vC p) (cM d.2.1) (aA (d.2.1<=24) (bL m d.2.2 b (bC d.2.1) 3) (1<=k/\Pq d p k n))) (vC p-d.1<vC p-x.1) (aA (fD (9-(↑k:Int))) (cT b) (aA (aJ v.args) (bJ v.args) (aA (gX (bH x.1 1)=bP d.1) (t=d.2.2) (bU h h))))))))))))) (K iQ x.2.2 h)))))
abbrev xQ(a:Sl)(b:PH)(c:cq->Prop):=sC (λx d=>aA (fY (qW a) (qW x)) (Ints b x d) (c d))
abbrev oF a b c:=branch (!a) b c
attribute [push_cast] xQ oF
def X1(N:Nat)(s t:Sl)(v:PV)(m:MH)(h:PH)(K:cn):=
  xQ s h (λl=>oF (EJ l) (K (gG 1) m h) (xQ t h (λA=>oF (EJ A) (K (gG 1) m h) (tD (λg p=>∃(k:Int),aA (fC (kE v.enc) 0=fC (kE g.enc) k) (fO h p g) (aA (sX p N) (cM k) (k<=24/\fZ (rY p k) 24 (K (gG 2) m h) (tD (λj d=>∃(e:Nat),aA (fC (kE v.enc) 8=fC (kE j.enc) (↑e:Int)) (fO h d j) (aA (sX d N) (e<=100) (branch (pT d e) (K (gG 2) m h) (∃(n:Sl),AO (λu c y=>tD (λz f=>aA (dE s (gT t (lN v))=dE n (gT u (lN z))) (Ints h n c) (aA (Ints h u y) (fO h f z) (iF (sX f N) (!(kO c y f)) (K (gG 50) m h) (K (gG 0) m h)))))))))))))))))
abbrev bF a b c:=a->b->c
attribute [push_cast] bF
def Us(N:Nat)(s t:Sl)(v:PV)(m:MH)(h:PH)(K:cn):=
  xQ s h (λl=>oF (EJ l) (K (gG 1) m h) (xQ t h (λD=>oF (EJ D) (K (gG 1) m h) (∀(b:Nat)(e:MH),bF (cK m h b) (bL m e b (bC 24) 3) (tD (λj p=>bK (λk f=>∃(n:Int),aA (cE v.enc (gC (gG 1) (jO b))=cE j.enc (gC (gG (9-(↑k:Int))) (jO f))) (fO h p j) (aA (sX p N) (k<=9) (aI (cM n) (n<=24) (e f=Option.some (gO (Array.mk (bC n)) 3 0)) (∀(d:MH),hX (bL e d f (bC (pZ p k n).2) 3) (!(pZ p k n).1) (K (gG 2) d h) (∃(u:Sl),AO (λy c z=>tD (λA g=>aA (kH (j5 (dX s) (dX t)) v.enc=kH (j5 (dX u) (dX y)) A.enc) (Ints h u c) (aA (Ints h y z) (fO h g A) (iF (sX g N) (!(kO c z g)) (K (gG 50) d h) (K (gG 0) d h))))))))))))))))
end Go.Ps
namespace Go.Vc
open Go.Ps Go.Proofs List
theorem lK.trans{m m' c b o o'}(g:lK m m' b o)(d:lK m' c b o'):lK m c b o':=⟨d.at_,λe f=>(d.other e f).trans (g.other e f)⟩
end Go.Vc
namespace Go.Ps
open Go Go.Vc Go.Proofs List Tryz
variable{K:cn}{m:MH}{h:PH}{ps:cq}{cb:Nat}{sc:cA}{v:QV}{p:Pred}{l:cq}{i:Nat}{N:Nat}{m':MH}{h':PH}{co:cq}{gr:cq}{od:cv}{ta:Int}{li:Int}{xs:List cr}{sz:Nat}{ks:List cq}{rs:cq}{r:Sl}{a:cq}{b:Nat}
theorem Yz:∀N,cm 185 (aBZ N)
 |0=>by
  refine fP (fn:=Tryz.f185) (c:=dY Tryz.f185) func185 rfl az ?_;rintro E m h K ⟨v,p,k,b,n,rfl,Q,V,_⟩;omega
 |N+1=>by
  refine iU func185 ?_;rintro E m h K ⟨v,p,k,b,n,rfl,Q,V,hk,h0,h1,R,j⟩;refine⟨bNQ N v p k b n m h,rfl,aE (Yz N) aH,TZ N v p k b n m h K,ax,?_⟩;dsimp only[TZ,push_cast];obtain⟨hl,S,y⟩:=Q.open;have W:IntKind.i64.wrap (n-1)=n-1:=fG aC aC;refine⟨n,.of_m R rfl,_,_,⟨R⟩,ay,λm' T=>?_⟩;rw[W]at T;have f:lK m m' b (YZ (n-1)):=T;refine⟨n-1,.of_m f.at_ rfl,aF (λX=>?_) (λX=>aF (λY=>?_) (λY=>?_))⟩
  .have e:pZ p k n=(false,n-1):=by cases p;simp only[pZ];grind
   rw[e]at j;exact j m' f
  .have F:k=0:=by omega
   subst F;have e:pZ p 0 n=(false,n-1):=by cases p;simp only[pZ];grind
   rw[e]at j;exact j m' f
  .refine⟨⟨(0,n-1,m'),⟨ay,bg,bg,f,aC,?_⟩,MT⟩,?_⟩
   .obtain⟨U,rfl⟩:∃U,k=U+1:=⟨k-1,aC⟩
    cases p;simp only[pZ,drop_zero,Pred.args]
    grind
   .rintro⟨i,x,Z⟩ ⟨hi,s,z,g,G,d⟩;simp only at hi s z g d;refine aF (λa'=>?_) (λa0=>?_)
    .obtain⟨q,H⟩:∃q,p.args[i]? =some q:=⟨p.args[i]'(by omega),bn _⟩
     obtain⟨b1,o,u,ea,a1,I⟩:=y i q H;have hd:p.args.drop i=q::p.args.drop (i+1):=drop_cons H;refine⟨b1,o,ea,ay,aC,u,.imm bg,u,q,k-1,b,x,?_,I,?_,aC,s,z,g.at_,λJ M=>?_⟩
     .rw[fG aC aC,show(9-((k-1:Nat):Int))=9-(k:Int)+1 by omega]
     .have:=BJ (bo H);omega
     .have t:lK m J b (YZ (pZ q (k-1) x).2):=g.trans M;rw[hd,yY]at d;obtain⟨A,D⟩:=MC q (k-1) x s;cases e:pZ q (k-1) x with
      |mk r x'=>
       rw[e]at d t A D;cases r with
       |false=>
        simp only at d;rw[<-d]at j;exact j J t
       |true=>
        have a2:=A.1 rfl;have O:=D rfl;have a3:=Vj q;simp only at O d;exact⟨(i+1,x',J),⟨aC,bg,bg,t,G,d⟩,aC,MT⟩
    .rw[drop_of_length_le aC]at d;simp only[yY]at d;rw[<-d]at j;exact j Z g
theorem Nb:cm 66 vI:=by
 refine iU func66 ?_;rintro n m h K ⟨s,t,v,d,c,p,rfl,g,j,f,e⟩;refine⟨cpJ (SizeOf.sizeOf p+1),rfl,aE Tz (aE (YJ _) (aE (YH _) (aE (YG _) aH))),X1 (SizeOf.sizeOf p+1) s t v m h K,ax,?_⟩;dsimp only[X1,push_cast];refine⟨s,d,rfl,g,aD (λu=>BN e ?_) (λu=>⟨t,c,rfl,j,aD (λy=>BN e ?_) (λy=>⟨v,p,0,rfl,f,aC,aC,aC,aD (λz=>BN e ?_) (λz=>⟨v,p,8,rfl,f,aC,aC,aD (λA=>BN e ?_) (λA=>⟨s,t,d,c,v,p,rfl,g,j,f,aC,aD (λD=>BN e ?_) (λD=>BN e ?_)⟩)⟩)⟩)⟩)⟩
 all_goals (simp only[iI];simp only[*,Bool.or_false,Bool.false_or,Bool.or_true,Bool.true_or,Bool.and_true,Bool.true_and,Bool.and_false,Bool.false_and,Bool.not_true,Bool.not_false,Bool.false_eq_true,if_true,if_false, ↓reduceIte])
theorem Fh{f fn}(s:Tryz.prog.funcs[f]? =some fn){S}(j:∀c m h K,S c m h K->∃C:Ctx,C.P=Tryz.prog/\(∀g S,assoc C.specs g=some S->cm g S)/\∃N:Prop,N=xK C fn (dY fn) (entry fn.ntmps c m h) (λr m' h'=>∃m2 n,(∀b o,m2 b=some o->m' b=some o)/\PH.le h n/\PH.le n h'/\K r m2 n)/\N)(t:fn.body=some (dY fn):=by rfl)(d:(fn.name== "runtime.NumGoroutine")=false:=by decide):cm f S:=Tr s t d λc m h K u=>let⟨C,hC,hs,N,e,hn⟩:=j c m h K u;⟨C,hC,hs,e▸hn⟩
theorem Ka:cm 138 vI:=by
 refine Fh func138 ?_;rintro I m h K ⟨s,t,v,d,c,p,rfl,E,F,G,J⟩;refine⟨bSQ (SizeOf.sizeOf p+1),rfl,aE akZ (aE (Yz _) (aE (Yy _) aH)),Us (SizeOf.sizeOf p+1) s t v m h (λr m' h'=>∃j n,(∀b o,j b=some o->m' b=some o)/\PH.le h n/\PH.le n h'/\K r j n),ax,?_⟩;dsimp only[Us,push_cast];have f:∀(m':MH),(∀b o,m b=some o->m' b=some o)->∀x,iI d c p=x->∃j n,(∀b o,j b=some o->m' b=some o)/\PH.le h n/\PH.le n h/\K (.val (.int .i64 x)) j n:=λm' M x e=>⟨m,h,M,.refl _,.refl _,e▸J⟩
 refine⟨s,d,rfl,E,aD (λO=>f m (λ_ _ e=>e) _ ?_) (λO=>⟨t,c,rfl,F,aD (λQ=>f m (λ_ _ e=>e) _ ?_) (λQ b U R u=>⟨v,p,8,b,24,rfl,G,aC,aC,aC,aC,u.at_,λj A=>?_⟩)⟩)⟩
 .simp only[iI];grind
 .simp only[iI];grind
 .have g:∀b o,m b=some o->j b=some o:=λD o e=>by
   have y:D≠b:=λS=>by rw[S,R.m_]at e;cases e
   rw[A.other D y,u.other D y,e]
  have z:=a0J p;refine aD (λH=>f j g _ ?_) (λH=>⟨s,t,d,c,v,p,rfl,E,F,G,aC,aD (λT=>f j g _ ?_) (λT=>f j g _ ?_)⟩)
  all_goals (rw[z,Bool.not_not]at H;clear z;simp only[iI];simp only[*,Bool.or_false,Bool.false_or,Bool.or_true,Bool.true_or,Bool.and_true,Bool.true_and,Bool.and_false,Bool.false_and,Bool.not_true,Bool.not_false,Bool.false_eq_true,if_true,if_false, ↓reduceIte])
structure bN{α β:Type}(h:PH)(sz:Nat)(enc:β->cr)(R:α->β->Prop)(s:Sl)(l:List α):Prop where
 ex:∃vs:List β,dD h s sz (vs.map enc)/\l.length=vs.length/\∀(i:Nat)(x:α),l[i]? =some x->∃v,vs[i]? =some v/\R x v
 len:l.length<=502633886983
theorem bN.slen{α β enc}{R:α->β->Prop}{s l}(r:bN h sz enc R s l):s.len=l.length:=by
 obtain⟨d,c,e,_⟩:=r.ex;have:=c.len
 grind
theorem bN.at{α β enc}{R:α->β->Prop}{s l}(r:bN h sz enc R s l){x}(c:l[i]? =some x):
 ∃b o v,s.a=some ⟨b,o,none⟩/\cR h b (o+i*sz) (enc v)/\R x v:=by
 obtain⟨j,d,_,f⟩:=r.ex;obtain⟨v,g,n⟩:=f i x c;obtain⟨b,o,e,k⟩:=d.get (i:=i) (e:=enc v) (by simp[g])
 grind
theorem bN.mono{α β enc}{R:α->β->Prop}{R' s l}(r:bN h sz enc R s l)(le:PH.le h h')(d:∀x v,R x v->R' x v):bN h' sz enc R' s l:=by
 obtain⟨e,f,g,j⟩:=r.ex;exact⟨⟨e,f.mono le,g,λi x n=>(j i x n).imp λv c=>⟨c.1,d _ _ c.2⟩⟩,r.len⟩
theorem bN.nil{α β} h sz(enc:β->cr) R:bN h sz enc R ⟨none,0,0⟩ ([]:List α):=
 ⟨⟨[],.nil h sz,rfl,λi x c=>by simp at c⟩,ay⟩
theorem fF{α}{l:List α}{i:Nat}{n}(c:n=l.length)(d:(i:Int)<(n:Int)):∃x,l[i]? =some x:=⟨l[i]'(by omega),bn _⟩
def H3 h s ps:=bN h 13 PV.enc (fO h) s ps
theorem H3.mono{s ps}(r:H3 h s ps)(le:PH.le h h'):H3 h' s ps:=bN.mono r le λ_ _=>fO.mono le
theorem AF.toL{s ps vs}(d:dD h s 13 (vs.map PV.enc))(c:AF h ps vs)(e:ps.length<=502633886983):H3 h s ps:=
 ⟨⟨vs,d,c.length.symm,λ_ _ f=>c.get f⟩,e⟩
theorem AF.ofL{h:PH}:∀{ps:di}{vs:dz},ps.length=vs.length->(∀(i:Nat)(x:Pred),ps[i]? =some x->∃v,vs[i]? =some v/\fO h x v)->AF h ps vs
 |[],[],_,_=>rfl
 |p::ps,v::vs,c,d=>by
  obtain⟨j,f,g⟩:=d 0 p rfl;simp at f;subst f;exact⟨v,vs,rfl,g,AF.ofL bg λi x e=>bk (d (i+1) x (by simpa using e))⟩
 |[],_::_,c,_=>by simp at c
 |_::_,[],c,_=>by simp at c
theorem fO.parts{op c l r args v}(x:fO h (.mk op c l r args) v):v.op=op/\v.cmp=c/\v.left=l/\v.right=r/\H3 h v.args args:=by
 obtain⟨d,e,f,g,j,t,n,s⟩:=x;exact⟨d,e,f,g,s.toL n j⟩
theorem fO.mk{h args v}(c:H3 h v.args args):fO h (.mk v.op v.cmp v.left v.right args) v:=by
 obtain⟨d,e,f,g⟩:=c.ex;exact⟨rfl,rfl,rfl,rfl,c.len,d,e,.ofL f g⟩
def cDJ(N:Nat):Vc.Spec:=λc m h K=>∃v w p q,c=[aP v,aP w]/\fO h p v/\fO h q w/\SizeOf.sizeOf p<N/\∀r:Bool,(r=true↔p=q)->K (cB r) m h
def cLQ(N:Nat):Vc.Spec:=λc m h K=>∃s t ps d,c=[cS s,cS t,.val (.func (.func 266) #[] #[])]/\H3 h s ps/\H3 h t d/\(∀p∈ps,SizeOf.sizeOf p<N)/\∀r:Bool,(r=true↔ps=d)->K (cB r) m h
noncomputable def bIJ N:=ctx [(274,cLQ N)] [] [] [] false
noncomputable def bIX(N:Nat)(s t:Sl)(ps c:di)(m:MH)(h:PH):=
 ctx [(266,cDJ N)] [HD 4 (λi=>bZ 32 35 [(1,sv t),(2,vv (.func (.func 266) #[] #[])),(15,sv s),(16,iv s.len),(17,iv i)] [] m h) (λi=>i<=ps.length/\∀j:Nat,j<i->ps[j]? =c[j]?) (λi=>ps.length-i)] [] [] false
noncomputable def bKJ(N:Nat)(v w:PV)(ps c:di)(m:MH)(h:PH):=
 ctx [(224,cDJ N)] [HD 4 (λi=>bZ 60 62 [(2,.at (.ptr 2 0)),(3,.at (.ptr 3 0)),(43,iv v.args.len),(44,iv i)] [(2,.cells 35 (v.enc.map .val)),(3,.cells 35 (w.enc.map .val))] m h) (λi=>i<=ps.length/\∀j:Nat,j<i->ps[j]? =c[j]?) (λi=>ps.length-i)] [] [] false
abbrev sG(a:Sl->Sl->Prop):=∃(x c:Sl),a x c
noncomputable abbrev sR:Array Value:=Array.mk []
noncomputable abbrev mR a b:=CV.val (Value.func (Fn.func a) sR b)
abbrev iD a b:=Az a↔b
attribute [push_cast] sG sR mR iD
def Ng(N:Nat)(v w:PV)(m:MH)(h:PH)(K:cn):=
  eY v.op w.op (eY v.cmp w.cmp (∃(r:Bool),iF (Ad 32 v.left.enc w.left.enc r) r (∃(c:Bool),iF (Ad 32 (Ac v) (Ac w) c) c (sG (λs t=>∃(p q:di),aA (dE v.args (gT w.args (mR 266 sR))=dE s (gT t (mR 266 sR))) (H3 h s p) (aA (H3 h t q) (∀(d:Pred),List.Mem d p->sX d N) (∀(e:Bool),iD e (p=q)->K (As e) m h)))) (K bG m h)) (K bG m h)) (K bG m h)) (K bG m h)
abbrev F7(a:Nat)(b c:di):=lC (a<=b.length) (λx=>x<a->b[x]? =c[x]?)
abbrev CW a b:=eQ (SV.at (At.val (Value.func a sR b)))
abbrev Bm a:=CW (Fn.func a) sR
abbrev Lo(a:PV->PV->Pred->Pred->Prop):=∃(x:PV),tD (λc d=>∃(e:Pred),a x c d e)
attribute [push_cast] F7 CW Bm Lo
def TH(N:Nat)(s t:Sl)(ps c:di)(m:MH)(h:PH)(K:cn):=
  cX (aG s) (aG t) (K bG m h) (lC (∃(x:Nat),aA (F7 x ps c) (aJ t) (aA (Bm 266) (aJ s) (aA (bJ s) (bE x) (aA (m=m) (h=h) True)))) (λx=>F7 x ps c->bA (↑x:Int) (aG s) (bK (λb o=>aI (aW s.a b o) (0<=(↑x:Int)) ((↑x:Int)<aG s) (∃(y:PV),aL m h b (o+bM x 13) y.enc/\PS t.a x t (λf g e=>aL m h f (g+bM x 13) e.enc/\Lo (λv w p q=>aA (kH y.enc e.enc=kH v.enc w.enc) (fO h p v) (aA (fO h q w) (sX p N) (∀(r:Bool),hX (iD r (p=q)) (!r) (K bG m h) (∃(d:Nat),aA (F7 d ps c) (ps.length-d<ps.length-x) (aA (aJ t) (Bm 266) (aA (aJ s) (bJ s) (aA (gX (bH x 1)=bP d) (m=m) (bU h h)))))))))))) (K iQ m h)))
def Nl(N:Nat)(v w:PV)(ps c:di)(m:MH)(h:PH)(K:cn):=
  dP (v.op !=w.op) (K bG m h) (v.cmp !=w.cmp) (K bG m h) (∃(r:Bool),iF (Ad 32 v.left.enc w.left.enc r) (!r) (K bG m h) (∃(e:Bool),Ad 32 (Ac v) (Ac w) e/\dP (!e) (K bG m h) (uU v !=uU w) (K bG m h) (lC (∃(x:Nat),aA (F7 x ps c) iZ (aA (eP 3) (bJ v.args) (aA (bE x) (oG v) (aA (oG w) (m=m) (bU h h))))) (λx=>F7 x ps c->bA (↑x:Int) (aG v.args) (bK (λb o=>aI (aW v.args.a b o) (0<=(↑x:Int)) ((↑x:Int)<aG v.args) (∃(y:PV),aL m h b (o+bM x 13) y.enc/\PS w.args.a x w.args (λs t f=>aL m h s (t+bM x 13) f.enc/\Lo (λg j p q=>aA (kH y.enc f.enc=kH g.enc j.enc) (fO h p g) (aA (fO h q j) (sX p N) (∀(n:Bool),hX (iD n (p=q)) (!n) (K bG m h) (∃(d:
 Nat),aA (F7 d ps c) (ps.length-d<ps.length-x) (aA iZ jU (aA (bJ v.args) (gX (bH x 1)=bP d) (aA (oG v) (oG w) (eG m m h h)))))))))))) (K iQ m h)))))
theorem De{α}{a:List α}{b}(c:a.length=b.length)(d:a.length<=i)(h:∀j:Nat,j<i->a[j]? =b[j]?):a=b:=by
 apply ext_getElem?
 grind
theorem AU{α}{a b:List α}{x y}(hx:a[i]? =some x)(c:b[i]? =some y)(e:x=y)(h:∀j:Nat,j<i->a[j]? =b[j]?):∀j:Nat,j<i+1->a[j]? =b[j]? :=by
 grind
theorem Tf{α}{a:List α}{b x y}(hx:a[i]? =some x)(c:b[i]? =some y)(e:x≠y):a≠b:=λh=>by
 grind
theorem Q7{α β}{s t:Sl}{a:List α}{b:List β}(c:s.len=a.length)(d:t.len=b.length)(e:((s.len:Int) !=(t.len:Int))=true):a.length≠b.length:=λh=>by
 grind
theorem MZ{α β}{s t:Sl}{a:List α}{b:List β}(c:s.len=a.length)(d:t.len=b.length)(e:((s.len:Int) !=(t.len:Int))=false):a.length=b.length:=by
 grind
theorem cuZ{v w q}(u:fO h p v)(y:fO h q w)(I:SizeOf.sizeOf p<N+1)(s:∀r:Bool,(r=true↔p=q)->K (cB r) m h):Ng N v w m h K:=by
 dsimp only[Ng,push_cast];have d:p≠q->K (cB false) m h:=λh=>s false ⟨λe=>(by cases e),λe=>(h e).elim⟩;have c:=@BJ p;obtain⟨op,z,l,r,ps⟩:=p;obtain⟨A,t,J,M,D⟩:=q;obtain⟨rfl,rfl,rfl,rfl,j⟩:=u.parts;obtain⟨rfl,rfl,rfl,rfl,n⟩:=y.parts;refine aD (λE=>aD (λF=>⟨_,BH _ _,aD (λf=>⟨_,BH _ _,aD (λg=>⟨v.args,w.args,ps,D,rfl,j,n,λp G=>?_,λr H=>s r (H.trans ?_)⟩) (λg=>d λe=>?_)⟩) (λf=>d λe=>?_)⟩) (λF=>d λe=>?_)) (λE=>d λe=>?_)
 .have:=c (q:=p) G;omega
 .rw[uX]at f g
  grind
 .injection e with _ _ _ e _;rw[uX.2 e]at g;cases g
 .injection e with _ _ e _ _;rw[uX.2 e]at f;cases f
 .grind
 grind
theorem Yp:∀N,cm 266 (cDJ N)
 |0=>by
  refine fP (fn:=Tryz.f266) (c:=dY Tryz.f266) func266 rfl az ?_;rintro g m h K ⟨v,w,p,q,rfl,D,_,E,_⟩;omega
 |N+1=>by
  have z:cm 274 (cLQ N):=by
   refine iU func274 ?_;rintro g m h K ⟨s,t,ps,F,rfl,I,R,E,G⟩;refine⟨bIX N s t ps F m h,rfl,aE (Yp N) aH,TH N s t ps F m h K,ax,?_⟩;dsimp only[TH,push_cast];have d:=I.slen;have A:=R.slen;have U:=I.len;have S:ps≠F->K (cB false) m h:=λh=>G false ⟨λe=>(by cases e),λe=>(h e).elim⟩;refine aD (λJ=>S (λe=>Q7 d A J (by rw[e]))) (λJ=>?_);have V:=MZ d A J;refine⟨⟨0,⟨aC,λj hj=>by omega⟩,MT⟩,λi T=>aF (λf=>?_) (λW=>?_)⟩
   .obtain⟨x,H⟩:=fF d f;obtain⟨y,M⟩:∃y,F[i]? =some y:=fF (n:=s.len) aC f;obtain⟨X,Y,u,Z,r1,ru⟩:=I.at H;obtain⟨b2,o2,w,e2,r2,O⟩:=R.at M;refine⟨X,Y,Z,aC,f,u,.imm r1,b2,o2,e2,aC,aC,w,.imm r2,u,w,x,y,rfl,ru,O,E x (bo H),λr D=>aD (λa'=>S (Tf H M (λe=>?_))) (λhe=>?_)⟩
    .grind
    .have Q:r=true:=bg
     exact⟨i+1,⟨aC,AU H M (D.1 Q) T.2⟩,aC,MT⟩
   .exact G true ⟨λ_=>De V aC T.2,λ_=>rfl⟩
  refine iU func266 ?_;rintro g m h K ⟨v,w,p,q,rfl,D,hq,E,G⟩;refine⟨bIJ N,rfl,aE z aH,Ng N v w m h K,ax,?_⟩;exact cuZ D hq E G
theorem cvJ{v w q}(U:fO h p v)(V:fO h q w)(hN:SizeOf.sizeOf p<N+1)(D:∀r:Bool,(r=true↔p=q)->K (cB r) m h):Nl N v w p.args q.args m h K:=by
 dsimp only[Nl,push_cast];have c:p≠q->K (cB false) m h:=λh=>D false ⟨λe=>(by cases e),λe=>(h e).elim⟩;have d:=@BJ p;obtain⟨op,W,l,r,ps⟩:=p;obtain⟨X,O,l',r',Q⟩:=q;obtain⟨rfl,rfl,rfl,rfl,E⟩:=U.parts;obtain⟨rfl,rfl,rfl,rfl,R⟩:=V.parts;simp only[Pred.args]at d⊢
 have g:=E.slen;have F:=R.slen;have Y:=E.len;refine aD (λG=>c λe=>?_) (λG=>aD (λH=>c λe=>?_) (λH=>⟨_,BH _ _,aD (λs=>c λe=>?_) (λs=>⟨_,BH _ _,aD (λt=>c λe=>?_) (λt=>aD (λS=>c λe=>?_) (λS=>?_))⟩)⟩))
 .grind
 .grind
 .injection e with _ _ e _ _;rw[uX.2 e]at s;cases s
 .injection e with _ _ _ e _;rw[uX.2 e]at t;cases t
 .grind
 .have Z:=MZ g F S;have s:v.left=w.left:=uX.1 bg;have t:v.right=w.right:=uX.1 bg;have G:v.op=w.op:=bg
  have H:v.cmp=w.cmp:=bg
  rw[G,H,s,t]at D c;have c:ps≠Q->K (cB false) m h:=λA=>c λe=>A (by injection e);refine⟨⟨0,⟨aC,λj hj=>by omega⟩,MT⟩,λi T=>aF (λf=>?_) (λa'=>?_)⟩
  .obtain⟨x,I⟩:=fF g f;obtain⟨y,J⟩:∃y,Q[i]? =some y:=fF (n:=v.args.len) aC f;obtain⟨b1,o1,u,e1,r1,ru⟩:=E.at I;obtain⟨b2,o2,z,e2,r2,rz⟩:=R.at J;refine⟨b1,o1,e1,aC,f,u,.imm r1,b2,o2,e2,aC,aC,z,.imm r2,u,z,x,y,rfl,ru,rz,?_,λr hr=>aD (λA=>c (Tf I J (λe=>?_))) (λhe=>?_)⟩
   .grind
   .grind
   .have M:r=true:=bg
    exact⟨i+1,⟨aC,AU I J (hr.1 M) T.2⟩,aC,MT⟩
  .exact D true ⟨λ_=>by rw[De Z aC T.2],λ_=>rfl⟩
theorem Yv:∀N,cm 224 (cDJ N)
 |0=>by
  refine fP (fn:=Tryz.f224) (c:=dY Tryz.f224) func224 rfl az ?_;rintro d m h K ⟨v,w,p,q,rfl,e,_,f,_⟩;omega
 |N+1=>by
  refine iU func224 ?_;rintro d m h K ⟨v,w,p,q,rfl,e,g,f,j⟩;refine⟨bKJ N v w p.args q.args m h,rfl,aE (Yv N) aH,Nl N v w p.args q.args m h K,ax,?_⟩;exact cvJ e g f j
def cEQ:Vc.Spec:=λc m h K=>∃v w p q,c=[aP v,aP w]/\fO h p v/\fO h q w/\∀r:Bool,(r=true↔p=q)->K (cB r) m h
theorem mV{f}{S:Nat->Vc.Spec}{S'}(h:∀N,cm f (S N))(e:∀c m h K,S' c m h K->∃N,S N c m h K):cm f S':=by
 refine⟨(h 0).1,λc g m d w K j n=>?_⟩;obtain⟨N,s⟩:=e c m d K j;exact(h N).2 c g m d w K s n
theorem Z6:cm 266 cEQ:=mV Yp λ_ _ _ _⟨v,w,p,q,e,c,d,f⟩=>⟨SizeOf.sizeOf p+1,v,w,p,q,e,c,d,aC,f⟩
theorem acQ:cm 224 cEQ:=mV Yv λ_ _ _ _⟨v,w,p,q,e,c,d,f⟩=>⟨SizeOf.sizeOf p+1,v,w,p,q,e,c,d,aC,f⟩
theorem L9{d e c i g xs f w x y r r'}(hx:B6 Tryz.prog (part e xs (i*c))=some x)(j:B6 Tryz.prog (part e f (i*c))=some y)(n:(Op.equalIn d e x y).run Tryz.prog w= .ok r w)(s:(Op.eqItems d e c xs f g).run Tryz.prog w= .ok r' w):(Op.eqItems d e c xs f (i::g)).run Tryz.prog w= .ok (r&&r') w:=by
 simp only[Op.eqItems,Sem.run_bind,Dl _ _ _ hx,Dl _ _ _ j,Result.andThen_ok,n];cases r
 .simp
 grind
def cVJ(a b:Int×Int):=a.1==b.1&&(a.2==b.2&&true)
def cVZ(a b:Int×Bool):=a.1==b.1&&(a.2==b.2&&true)
theorem bXJ a b:StructEq Tryz.prog 130 (.agg #[.int .i64 a.1,.int .i64 a.2]) (.agg #[.int .i64 b.1,.int .i64 b.2]) (cVJ a b):=by
 refine⟨ax,λw=>?_⟩;obtain⟨i,c⟩:=Option.isSome_iff_exists.1 (show(Tryz.prog.info? 3).isSome=true by kernel_rfl);rw[run_equalIn_array w 9999 (e:=3) (n:=2) _ _ ax c,show Tryz.prog.cellsOf 3=1 by kernel_rfl,show List.range 2=[0,1]from rfl];refine L9 (x:=.int .i64 a.1) (y:=.int .i64 b.1) ax ax (run_equalIn_int w 9998 _ .i64 .i64 _ _ ax) ?_;refine L9 (x:=.int .i64 a.2) (y:=.int .i64 b.2) ax ax (run_equalIn_int w 9998 _ .i64 .i64 _ _ ax) ?_;simp[Op.eqItems]
theorem bXZ a b:StructEq Tryz.prog 77 (.agg #[.int .i64 a.1,.bool a.2]) (.agg #[.int .i64 b.1,.bool b.2]) (cVZ a b):=by
 refine⟨ax,λw=>?_⟩;rw[run_equalIn_struct w 9999 77 _ _ ax ax,show(Tryz.prog.fieldsOf 77).toList=[Sy 77 0,Sy 77 1]by kernel_rfl];refine oV (x:=.int .i64 a.1) (y:=.int .i64 b.1) ax ax ax (run_equalIn_int w 9998 _ .i64 .i64 _ _ ax) ?_;refine oV (x:=.bool a.2) (y:=.bool b.2) ax ax ax (run_equalIn_bool w 9998 _ _ _ ax) ?_;simp[Op.eqFields]
theorem YS{a b}:cVJ a b=true↔a=b:=by
 obtain⟨c,d⟩:=a;obtain⟨e,f⟩:=b;simp[cVJ]
theorem YR{a b}:cVZ a b=true↔a=b:=by
 obtain⟨c,d⟩:=a;obtain⟨e,f⟩:=b;simp[cVZ]
theorem jD.at{s l}(r:jD h s l){x}(c:l[i]? =some x):∃b o,s.a=some ⟨b,o,none⟩/\cR h b (o+i*2) (sU x):=r.row.get (by simp[c])
theorem jC.at{s l}(r:jC h s l){x}(c:l[i]? =some x):∃b o,s.a=some ⟨b,o,none⟩/\cR h b (o+i*2) (DT x):=r.row.get (by simp[c])
def UX:Vc.Spec:=λc m h K=>∃(s t:Sl)(a b:cw),c=[cS s,cS t]/\jD h s a/\jD h t b/\∀r:Bool,(r=true↔a=b)->K (cB r) m h
def UW:Vc.Spec:=λc m h K=>∃(s t:Sl)(a b:cv),c=[cS s,cS t]/\jC h s a/\jC h t b/\∀r:Bool,(r=true↔a=b)->K (cB r) m h
noncomputable def Yo{α}(s t:Sl)(a b:List α)(m:MH)(h:PH):=
 ctx [] [HD 4 (λi=>bZ 26 28 [(0,sv s),(1,sv t),(12,iv s.len),(13,iv i)] [] m h) (λi=>i<=a.length/\∀j:Nat,j<i->a[j]? =b[j]?) (λi=>a.length-i)] [] [] false
noncomputable abbrev Ez a b:=j5 (fV a) (fV b)
noncomputable abbrev vY(a:Int×Int):=Ez a.1 a.2
attribute [push_cast] Ez vY
def TK(s t:Sl)(a b:cw)(m:MH)(h:PH)(K:cn):=
  cX (aG s) (aG t) (K bG m h) (lC (∃(x:Nat),aA (lC (x<=a.length) (λj=>j<x->a[j]? =b[j]?)) (aJ s) (aA (aJ t) (bJ s) (dL (bE x) m m h h))) (λx=>lC (x<=a.length) (λj=>j<x->a[j]? =b[j]?)->bA (↑x:Int) (aG s) (bK (λd o=>aI (aW s.a d o) (0<=(↑x:Int)) ((↑x:Int)<aG s) (∃(y:Int×Int),aL m h d (o+bM x 2) (vY y)/\bK (λe f=>aI (aW t.a e f) (0<=(↑x:Int)) ((↑x:Int)<aG t) (∃(g:Int×Int),aL m h e (f+bM x 2) (vY g)/\∃(r:Bool),iF (Ad 130 (vY y) (vY g) r) (!r) (K bG m h) (∃(c:Nat),aA (lC (c<=a.length) (λj=>j<c->a[j]? =b[j]?)) (a.length-c<a.length-x) (aA (aJ s) (aJ t) (aA (bJ s) (gX (bH x 1)=bP c) (aA (m=m) (h=h) True))))))))) (K iQ m
 h)))
noncomputable abbrev Bl(a:Int×Bool):=j5 (fV a.1) (Value.bool a.2)
attribute [push_cast] Bl
def TJ(s t:Sl)(a b:cv)(m:MH)(h:PH)(K:cn):=
  cX (aG s) (aG t) (K bG m h) (lC (∃(x:Nat),aA (lC (x<=a.length) (λj=>j<x->a[j]? =b[j]?)) (aJ s) (aA (aJ t) (bJ s) (dL (bE x) m m h h))) (λx=>lC (x<=a.length) (λj=>j<x->a[j]? =b[j]?)->bA (↑x:Int) (aG s) (bK (λd o=>aI (aW s.a d o) (0<=(↑x:Int)) ((↑x:Int)<aG s) (∃(y:Int×Bool),aL m h d (o+bM x 2) (Bl y)/\bK (λe f=>aI (aW t.a e f) (0<=(↑x:Int)) ((↑x:Int)<aG t) (∃(g:Int×Bool),aL m h e (f+bM x 2) (Bl g)/\∃(r:Bool),iF (Ad 77 (Bl y) (Bl g) r) (!r) (K bG m h) (∃(c:Nat),aA (lC (c<=a.length) (λj=>j<c->a[j]? =b[j]?)) (a.length-c<a.length-x) (aA (aJ s) (aJ t) (aA (bJ s) (gX (bH x 1)=bP c) (aA (m=m) (h=h) True))))))))) (K iQ m
 h)))
theorem Z5:cm 267 UX:=by
 refine iU func267 ?_;rintro I m h K ⟨s,t,a,b,rfl,u,E,F⟩;refine⟨Yo s t a b m h,rfl,aH,TK s t a b m h K,ax,?_⟩;dsimp only[TK,push_cast];have c:=u.slen;have f:=E.slen;have J:=u.len;have G:a≠b->K (cB false) m h:=λh=>F false ⟨λe=>(by cases e),λe=>(h e).elim⟩;refine aD (λz=>G (λe=>Q7 c f z (by rw[e]))) (λz=>?_);have M:=MZ c f z;refine⟨⟨0,⟨aC,λj Y=>by omega⟩,MT⟩,λi H=>aF (λd=>?_) (λO=>?_)⟩
 .obtain⟨x,A⟩:=fF c d;obtain⟨y,D⟩:∃y,b[i]? =some y:=fF (n:=s.len) aC d;obtain⟨Q,R,S,T⟩:=u.at A;obtain⟨U,V,W,X⟩:=E.at D;refine⟨Q,R,S,aC,d,x,.imm T,U,V,W,aC,aC,y,.imm X,_,bXJ x y,aD (λg=>G (Tf A D (λe=>?_))) (λZ=>?_)⟩
  .rw[YS.2 e]at g;cases g
  .exact⟨i+1,⟨aC,AU A D (YS.1 bg) H.2⟩,aC,MT⟩
 .exact F true ⟨λ_=>De M aC H.2,λ_=>rfl⟩
theorem Z4:cm 268 UW:=by
 refine iU func268 ?_;rintro I m h K ⟨s,t,a,b,rfl,u,E,F⟩;refine⟨Yo s t a b m h,rfl,aH,TJ s t a b m h K,ax,?_⟩;dsimp only[TJ,push_cast];have c:=u.slen;have f:=E.slen;have J:=u.len;have G:a≠b->K (cB false) m h:=λh=>F false ⟨λe=>(by cases e),λe=>(h e).elim⟩;refine aD (λz=>G (λe=>Q7 c f z (by rw[e]))) (λz=>?_);have M:=MZ c f z;refine⟨⟨0,⟨aC,λj Y=>by omega⟩,MT⟩,λi H=>aF (λd=>?_) (λO=>?_)⟩
 .obtain⟨x,A⟩:=fF c d;obtain⟨y,D⟩:∃y,b[i]? =some y:=fF (n:=s.len) aC d;obtain⟨Q,R,S,T⟩:=u.at A;obtain⟨U,V,W,X⟩:=E.at D;refine⟨Q,R,S,aC,d,x,.imm T,U,V,W,aC,aC,y,.imm X,_,bXZ x y,aD (λg=>G (Tf A D (λe=>?_))) (λZ=>?_)⟩
  .rw[YR.2 e]at g;cases g
  .exact⟨i+1,⟨aC,AU A D (YR.1 bg) H.2⟩,aC,MT⟩
 .exact F true ⟨λ_=>De M aC H.2,λ_=>rfl⟩
noncomputable def L5(s t:Sl)(a b:cq)(m:MH)(h:PH):=
 ctx [] [HD 4 (λi=>bZ 26 28 [(0,sv s),(1,sv t),(12,iv s.len),(13,iv i)] [] m h) (λi=>i<=a.length/\∀j:Nat,j<i->a[j]? =b[j]?) (λi=>a.length-i)] [] [] false
def Jl(s t:Sl)(a b:cq)(m:MH)(h:PH)(K:cn):=
  cX (aG s) (aG t) (K bG m h) (lC (∃(x:Nat),aA (lC (x<=a.length) (λj=>j<x->a[j]? =b[j]?)) (aJ s) (aA (aJ t) (bJ s) (dL (bE x) m m h h))) (λx=>lC (x<=a.length) (λj=>j<x->a[j]? =b[j]?)->bA (↑x:Int) (aG s) (bK (λd o=>aI (aW s.a d o) (0<=(↑x:Int)) ((↑x:Int)<aG s) (∃(y:Int),aL m h d (o+bM x 1) (bC y)/\bK (λe f=>aI (aW t.a e f) (0<=(↑x:Int)) ((↑x:Int)<aG t) (∃(g:Int),aL m h e (f+bM x 1) (bC g)/\cX y g (K bG m h) (∃(c:Nat),aA (lC (c<=a.length) (λj=>j<c->a[j]? =b[j]?)) (a.length-c<a.length-x) (aA (aJ s) (aJ t) (aA (bJ s) (gX (bH x 1)=bP c) (aA (m=m) (h=h) True))))))))) (K iQ m h)))
theorem cyZ s t a b m h K:Jl s t a b m h K=(xK (L5 s t a b m h) Tryz.f178 (dY Tryz.f178) (entry 26 [cS s,cS t] m h) K):=ax
theorem czQ s t a b m h K:Jl s t a b m h K=(xK (L5 s t a b m h) Tryz.f152 (dY Tryz.f152) (entry 26 [cS s,cS t] m h) K):=ax
def DE:Vc.Spec:=λc m h K=>∃(s t:Sl)(a b:cq),c=[cS s,cS t]/\Ints h s a/\Ints h t b/\∀r:Bool,(r=true↔a=b)->K (cB r) m h
theorem aPJ{s t b}(c:Ints h s a)(f:Ints h t b)(g:∀r:Bool,(r=true↔a=b)->K (cB r) m h):Jl s t a b m h K:=by
 dsimp only[Jl,push_cast];have u:=c.slen;have z:=f.slen;have A:=c.len;have n:a≠b->K (cB false) m h:=λh=>g false ⟨λe=>by(cases e),λe=>(h e).elim⟩;refine aD (λD=>n (λe=>?_)) (λD=>?_)
 .grind
 .have T:a.length=b.length:=bg
  refine⟨⟨0,⟨aC,λj E=>by omega⟩,rfl,rfl,rfl,rfl,rfl,rfl,trivial⟩,λi U=>aF (λd=>?_) (λF=>?_)⟩
  .obtain⟨x,G⟩:∃x,a[i]? =some x:=⟨a[i]'(by omega),bn _⟩
   obtain⟨y,H⟩:∃y,b[i]? =some y:=⟨b[i]'(by omega),bn _⟩
   obtain⟨I,J,M,V⟩:=c.at G;obtain⟨O,Q,R,W⟩:=f.at H;refine⟨I,J,M,aC,d,x,.imm bg,O,Q,R,aC,aC,y,.imm bg,aD (λS=>n (λe=>?_)) (λX=>?_)⟩
   .grind
   .have:x=y:=bg
    refine⟨i+1,⟨aC,λj E=>?_⟩,aC,rfl,rfl,rfl,by rw[iY aC],rfl,rfl,trivial⟩
    grind
  .refine g true ⟨λ_=>?_,λ_=>rfl⟩;apply ext_getElem?
   grind
theorem alZ:cm 178 DE:=by
 refine fP (fn:=Tryz.f178) (c:=dY Tryz.f178) func178 rfl az ?_;rintro d m h K ⟨s,t,a,b,rfl,e,f,g⟩;exact⟨L5 s t a b m h,rfl,aH,(cyZ s t a b m h K)▸aPJ e f g⟩
theorem GU:cm 152 DE:=by
 refine fP (fn:=Tryz.f152) (c:=dY Tryz.f152) func152 rfl az ?_;rintro d m h K ⟨s,t,a,b,rfl,e,f,g⟩;exact⟨L5 s t a b m h,rfl,aH,(czQ s t a b m h K)▸aPJ e f g⟩
def aQ(v:QV):CV:=.val (.agg ⟨v.enc⟩)
def Query.args:Query->dc
 |.mk _ _ _ _ _ _ _ _ l=>l
theorem Dp{p:Query}{q}(h:q∈p.args):SizeOf.sizeOf q<SizeOf.sizeOf p:=by
 cases p with
 |mk op t w c o g s l args=>
  have:=sizeOf_lt_of_mem h;simp only[Query.args]at this
  grind
def En h s ps:=bN h 21 QV.enc (dK h) s ps
theorem En.mono{s ps}(r:En h s ps)(le:PH.le h h'):En h' s ps:=bN.mono r le λ_ _=>dK.mono le
theorem BZ.ofL{h:PH}:∀{ps:dc}{vs:dt},ps.length=vs.length->(∀(i:Nat)(x:Query),ps[i]? =some x->∃v,vs[i]? =some v/\dK h x v)->BZ h ps vs
 |[],[],_,_=>rfl
 |p::ps,v::vs,c,d=>by
  obtain⟨j,f,g⟩:=d 0 p rfl;simp at f;subst f;exact⟨v,vs,rfl,g,BZ.ofL bg λi x e=>bk (d (i+1) x (by simpa using e))⟩
 |[],_::_,c,_=>by simp at c
 |_::_,[],c,_=>by simp at c
structure uH(h:PH)(op table:Int)(w:Pred)(c:cq)(o:cw)(g:cq)(s:cv)(l:Int)(args:dc)(v:QV):Prop where
 op_:v.op=op
 table_:v.table=table
 where_:fO h w v.where_
 columns_:Ints h v.columns c
 on_:jD h v.on o
 group_:Ints h v.group g
 order_:jC h v.order s
 limit_:v.limit=l
 args_:En h v.args args
theorem dK.parts{op table w c o g s l args}(x:dK h (.mk op table w c o g s l args) v):uH h op table w c o g s l args v:=by
 obtain⟨f,j,n,t,u,y,z,A,D,E,e,d⟩:=x;exact⟨f,j,n,t,u,y,z,A,⟨⟨E,e,d.length.symm,λ_ _ F=>d.get F⟩,D⟩⟩
theorem uH.rep{op table w c o g s l args}(x:uH h op table w c o g s l args v):dK h (.mk op table w c o g s l args) v:=by
 obtain⟨d,e,f,j⟩:=x.args_.ex;exact⟨x.op_,x.table_,x.where_,x.columns_,x.on_,x.group_,x.order_,x.limit_,x.args_.len,d,e,.ofL f j⟩
def c2J(N:Nat):Vc.Spec:=λc m h K=>∃v w p q,c=[aQ v,aQ w]/\dK h p v/\dK h q w/\SizeOf.sizeOf p<N/\∀r:Bool,(r=true↔p=q)->K (cB r) m h
def c3Q:Vc.Spec:=λc m h K=>∃v w p q,c=[aQ v,aQ w]/\dK h p v/\dK h q w/\∀r:Bool,(r=true↔p=q)->K (cB r) m h
def cKJ(N:Nat):Vc.Spec:=λc m h K=>∃s t ps d,c=[cS s,cS t,.val (.func (.func 259) #[] #[])]/\En h s ps/\En h t d/\(∀p∈ps,SizeOf.sizeOf p<N)/\∀r:Bool,(r=true↔ps=d)->K (cB r) m h
noncomputable def bJZ N:=ctx [(266,cEQ),(152,DE),(267,UX),(268,UW),(269,cKJ N)] [] [] [] false
noncomputable def bIZ(N:Nat)(s t:Sl)(ps c:dc)(m:MH)(h:PH):=
 ctx [(259,c2J N)] [HD 4 (λi=>bZ 32 35 [(1,sv t),(2,vv (.func (.func 259) #[] #[])),(15,sv s),(16,iv s.len),(17,iv i)] [] m h) (λi=>i<=ps.length/\∀j:Nat,j<i->ps[j]? =c[j]?) (λi=>ps.length-i)] [] [] false
noncomputable abbrev cJ a b:=gT a (qW b)
abbrev A7(a b:Sl)(c:PH)(d:cq->cq->Bool->Prop):=∃(x:Sl),AO (λe f g=>aI (cJ a b=cJ x e) (Ints c x f) (Ints c e g) (∀(j:Bool),d f g j))
abbrev yH(a:Query)(b:Nat):=SizeOf.sizeOf a<b
attribute [push_cast] cJ A7 yH
def Ni(N:Nat)(v w:QV)(m:MH)(h:PH)(K:cn):=
  eY v.op w.op (eY v.table w.table (eY v.limit w.limit (Lo (λd e p q=>aI (kH v.where_.enc w.where_.enc=kH d.enc e.enc) (fO h p d) (fO h q e) (∀(r:Bool),hX (iD r (p=q)) r (A7 v.columns w.columns h (λa b f=>hX (iD f (a=b)) f (sG (λs t=>∃(g j:cw),aI (cJ v.on w.on=cJ s t) (jD h s g) (jD h t j) (∀(n:Bool),hX (iD n (g=j)) n (A7 v.group w.group h (λM O u=>hX (iD u (M=O)) u (sG (λy z=>∃(A D:cv),aI (cJ v.order w.order=cJ y z) (jC h y A) (jC h z D) (∀(E:Bool),hX (iD E (A=D)) E (sG (λF G=>∃(c H:dc),aA (dE v.args (gT w.args (mR 259 sR))=dE F (gT G (mR 259 sR))) (En h F c) (aA (En h
 G H) (∀(I:Query),List.Mem I c->yH I N) (∀(J:Bool),iD J (c=H)->K (As J) m h)))) (K bG m h)))) (K bG m h))) (K bG m h)))) (K bG m h))) (K bG m h)))) (K bG m h)) (K bG m h)) (K bG m h)
abbrev qC(a:QV->Query->Prop):=∃(x:QV)(c:Query),a x c
noncomputable abbrev cZ(a:QV):=kE a.enc
attribute [push_cast] qC cZ
def TI(N:Nat)(s t:Sl)(ps d:dc)(m:MH)(h:PH)(K:cn):=
  cX (aG s) (aG t) (K bG m h) (lC (∃(x:Nat),aA (lC (x<=ps.length) (λj=>j<x->ps[j]? =d[j]?)) (aJ t) (aA (Bm 259) (aJ s) (aA (bJ s) (bE x) (aA (m=m) (h=h) True)))) (λx=>lC (x<=ps.length) (λj=>j<x->ps[j]? =d[j]?)->bA (↑x:Int) (aG s) (bK (λb o=>aI (aW s.a b o) (0<=(↑x:Int)) ((↑x:Int)<aG s) (∃(y:QV),aL m h b (o+bM x 21) y.enc/\bK (λe f=>aI (aW t.a e f) (0<=(↑x:Int)) ((↑x:Int)<aG t) (∃(g:QV),aL m h e (f+bM x 21) g.enc/\∃(v:QV),qC (λw p=>∃(q:Query),aA (gC (cZ y) (cZ g)=gC (cZ v) (cZ w)) (dK h p v) (aA (dK h q w) (yH p N) (∀(r:Bool),hX (iD r (p=q)) (!r) (K bG m h) (∃(c:Nat),aA (lC (c<=ps.length) (λj=>j<c->ps[j]? =d[j]?))
 (ps.length-c<ps.length-x) (aA (aJ t) (Bm 259) (aA (aJ s) (bJ s) (aA (gX (bH x 1)=bP c) (m=m) (bU h h))))))))))))) (K iQ m h)))
theorem cuJ{w p q}(s:dK h p v)(t:dK h q w)(S:SizeOf.sizeOf p<N+1)(n:∀r:Bool,(r=true↔p=q)->K (cB r) m h):Ni N v w m h K:=by
 dsimp only[Ni,push_cast];have c:p≠q->K (cB false) m h:=λh=>n false ⟨λe=>(by cases e),λe=>(h e).elim⟩;have d:=@Dp p;obtain⟨op,ta,T,co,on,gr,od,li,ps⟩:=p;obtain⟨u,y,z,A,D,E,F,G,U⟩:=q;have a:=s.parts;have b:=t.parts
 refine aD (λf=>aD (λg=>aD (λj=>⟨_,_,_,_,rfl,a.where_,b.where_,λV W=>aD (λH=>⟨_,_,_,_,rfl,a.columns_,b.columns_,λX Y=>aD (λI=>⟨_,_,_,_,rfl,a.on_,b.on_,λZ h6=>aD (λJ=>⟨_,_,_,_,rfl,a.group_,b.group_,λr7 h7=>aD (λM=>⟨_,_,_,_,rfl,a.order_,b.order_,λr8 h8=>aD (λO=>⟨_,_,_,_,rfl,a.args_,b.args_,λp Q=>?_,λr R=>n r (R.trans ?_)⟩)
  (λO=>c λe=>?_)⟩) (λM=>c λe=>?_)⟩) (λJ=>c λe=>?_)⟩) (λI=>c λe=>?_)⟩) (λH=>c λe=>?_)⟩) (λj=>c λe=>?_)) (λg=>c λe=>?_)) (λf=>c λe=>?_)
 .have:=d (q:=p) Q;omega
 .rw[a.op_,b.op_,beq_iff_eq]at f;rw[a.table_,b.table_,beq_iff_eq]at g;rw[a.limit_,b.limit_,beq_iff_eq]at j
  grind
 .grind
 .grind
 .grind
 .grind
 .grind
 .injection e with _ _ _ _ _ _ _ e _;rw[a.limit_,b.limit_,e]at j;simp at j
 .injection e with _ e _ _ _ _ _ _ _;rw[a.table_,b.table_,e]at g;simp at g
 .injection e with e _ _ _ _ _ _ _ _;rw[a.op_,b.op_,e]at f;simp at f
theorem Yr:∀N,cm 259 (c2J N)
 |0=>by
  refine fP (fn:=Tryz.f259) (c:=dY Tryz.f259) func259 rfl az ?_;rintro g m h K ⟨v,w,p,q,rfl,D,_,E,_⟩;omega
 |N+1=>by
  have z:cm 269 (cKJ N):=by
   refine iU func269 ?_;rintro g m h K ⟨s,t,ps,F,rfl,I,R,E,G⟩;refine⟨bIZ N s t ps F m h,rfl,aE (Yr N) aH,TI N s t ps F m h K,ax,?_⟩;dsimp only[TI,push_cast];have d:=I.slen;have A:=R.slen;have U:=I.len;have S:ps≠F->K (cB false) m h:=λh=>G false ⟨λe=>(by cases e),λe=>(h e).elim⟩;refine aD (λJ=>S (λe=>Q7 d A J (by rw[e]))) (λJ=>?_);have V:=MZ d A J;refine⟨⟨0,⟨aC,λj hj=>by omega⟩,MT⟩,λi T=>aF (λf=>?_) (λW=>?_)⟩
   .obtain⟨x,H⟩:=fF d f;obtain⟨y,M⟩:∃y,F[i]? =some y:=fF (n:=s.len) aC f;obtain⟨X,Y,u,Z,r1,ru⟩:=I.at H;obtain⟨b2,o2,w,e2,r2,O⟩:=R.at M;refine⟨X,Y,Z,aC,f,u,.imm r1,b2,o2,e2,aC,aC,w,.imm r2,u,w,x,y,rfl,ru,O,E x (bo H),λr D=>aD (λa'=>S (Tf H M (λe=>?_))) (λhe=>?_)⟩
    .grind
    .have Q:r=true:=bg
     exact⟨i+1,⟨aC,AU H M (D.1 Q) T.2⟩,aC,MT⟩
   .exact G true ⟨λ_=>De V aC T.2,λ_=>rfl⟩
  refine iU func259 ?_;rintro g m h K ⟨v,w,p,q,rfl,D,hq,E,G⟩;refine⟨bJZ N,rfl,aE Z6 (aE GU (aE Z5 (aE Z4 (aE z aH)))),Ni N v w m h K,ax,?_⟩;exact cuJ D hq E G
theorem aaQ:cm 259 c3Q:=mV Yr λ_ _ _ _⟨v,w,p,q,e,c,d,f⟩=>⟨SizeOf.sizeOf p+1,v,w,p,q,e,c,d,aC,f⟩
structure Ref where
 columns:cq
 table:Int
structure AE where
 name:ByteArray
 columns:List qE
 key:Int
 refs:List Ref
 checks:di
structure jP where
 version:Int
 tables:List AE
variable{s:jP}
structure Wm(h:PH)(r:Ref)(v:Hg):Prop where
 columns:Ints h v.columns r.columns
 table:v.table=r.table
def Hi h s l:=bN h 2 qE.enc Eq s l
structure Sc(h:PH)(t:AE)(v:cY):Prop where
 name:v.name=t.name
 columns:Hi h v.columns t.columns
 key:v.key=t.key
 refs:bN h 2 Hg.enc (Wm h) v.references t.refs
 checks:H3 h v.checks t.checks
structure iK(h:PH)(s:jP)(v:cA):Prop where
 version:v.version=s.version
 tables:bN h 5 cY.enc (Sc h) v.tables s.tables
theorem Wm.mono{r v}(x:Wm h r v)(le:PH.le h h'):Wm h' r v:=⟨x.columns.mono le,x.table⟩
theorem Sc.mono{t v}(x:Sc h t v)(le:PH.le h h'):Sc h' t v:=
 ⟨x.name,bN.mono x.columns le λ_ _ e=>e,x.key,x.refs.mono le λ_ _ e=>e.mono le,x.checks.mono le⟩
theorem iK.mono{v}(x:iK h s v)(le:PH.le h h'):iK h' s v:=⟨x.version,x.tables.mono le λ_ _ e=>e.mono le⟩
def lower c:=97<=c&&c<=122
def Ax c:=lower c||(48<=c&&c<=57)||c==95
def sT(s:ByteArray):=s.data.toList.map UInt8.toNat
def qZ s:=1<=s.size&&s.size<=32&&lower ((sT s).headD 0)&&(sT s).all Ax
theorem UL s:(sT s).length=s.size:=by simp[sT]
theorem bqX{s c}(h:(sT s)[i]? =some c):(s.get! i).toNat=c/\c<256:=by
 simp only[sT,getElem?_map,Option.map_eq_some_iff]at h;obtain⟨b,e,rfl⟩:=h;refine⟨?_,b.toNat_lt⟩
 have f:i<s.data.size:=by
  grind
 have:s.data[i]? =some b:=bg
 cases s with
 |mk d=>
  show(d[i]!).toNat=b.toNat
  grind
theorem NO{s}(h:(s.get! i).toNat<128):Utf8.decode s i=((s.get! i).toNat,1):=by
 simp only[Utf8.decode,Nat.add_zero];rw[if_pos h]
theorem bqQ{s}(h:¬(s.get! i).toNat<128):128<=(Utf8.decode s i).1:=by
 simp only[Utf8.decode,Nat.add_zero];rw[if_neg h]
 repeat' split
 all_goals simp_all [Utf8.runeError]
 all_goals omega
def SJ(s:ByteArray):CV:=.val (.string s)
def aWQ:Vc.Spec:=λc m h K=>∃s,c=[SJ s]/\K (cB (qZ s)) m h
noncomputable def bNZ s m h:=
 ctx [] [(4,{A:=Nat×Nat×MH,st:=λx=>bZ 44 45 [(15,vv (.pointer (some ⟨x.2.1,0,none⟩)))] [] x.2.2 h,inv:=λx=>x.1<=s.size/\cK m h x.2.1/\lK m x.2.2 x.2.1 (.stringIter s x.1)/\(x.1=0\/lower ((sT s).headD 0)=true)/\((sT s).take x.1).all Ax=true,mu:=λx=>s.size-x.1})] [] [] false
noncomputable def bOZ s m h:=
 ctx [] [HD 4 (λi=>bZ 50 51 [(0,vv (.string s)),(3,iv i)] [] m h) (λi=>i<=s.size/\((sT s).take i).all Ax=true) (λi=>s.size-i)] [] [] false
abbrev PU(a b:(Nat×Nat×MH)->Prop):=(∃(x:Nat×Nat×MH),a x)/\∀(x:Nat×Nat×MH),b x
noncomputable abbrev kA(a:Nat×Nat×MH):=a.2.1
noncomputable abbrev i7(a:Nat×Nat×MH):=a.2.2
abbrev DY a b c d:=aA (a.1<=b.size) (cK c d (kA a)) (aA (lK c (i7 a) (kA a) (Obj.stringIter b a.1)) (a.1=0\/Az (lower (headD (sT b) 0))) (Az (List.all (List.take a.1 (sT b)) Ax)))
abbrev bY a b:=WY a 0=WY b 0
noncomputable abbrev FQ a b:=(Utf8.decode a b).1
abbrev CS(a:ByteArray)(b c:Nat):=a.size-b<a.size-c
abbrev Is(a:(Nat×Nat×MH)->Prop)(b:ByteArray)(c:Nat×Nat×MH)(d:MH)(e:PH):=∃(x:Nat×Nat×MH),aA (a x) (CS b x.1 c.1) (aA (bY (kA c) (kA x)) (d=i7 x) (bU e e))
attribute [push_cast] PU kA i7 DY bY FQ CS Is
def Nx(s:ByteArray)(m:MH)(h:PH)(K:cn):=
  bA (↑s.size:Int) 1 (K bG m h) (fZ (↑s.size:Int) 32 (K bG m h) (∀(b:Nat)(e:MH),bF (cK m h b) (lK m e b (Obj.stringIter s 0)) (PU (λx=>aA (DY x s m h) (bY b (kA x)) (aA (e=i7 x) (h=h) True)) (λx=>DY x s m h->∃(c:ByteArray)(p:Nat),aA (yP (i7 x) (kA x) (Obj.stringIter c p)) (c.size<=p->K iQ (i7 x) h) (p<c.size->∀(d:MH),lK (i7 x) d (kA x) (Obj.stringIter c (p+(Utf8.decode c p).2))->dP (decide ((↑(FQ c p):Int)>=97)) (oF (decide ((↑(FQ c p):Int)<=122)) (dP ((↑p:Int)==0) (K bG d h) ((↑(FQ c p):Int) !=95) (bA (↑(FQ c p):Int) 48 (K bG d h) (fZ (↑(FQ c p):Int) 57 (K bG d h) (Is (λy=>DY y s m h) s x d h))) (Is (λy=>DY y s m h) s x d h)) (Is (λy=>
 DY y s m h) s x d h)) ((↑p:Int)==0) (K bG d h) (cX (↑(FQ c p):Int) 95 (bA (↑(FQ c p):Int) 48 (K bG d h) (fZ (↑(FQ c p):Int) 57 (K bG d h) (Is (λy=>DY y s m h) s x d h))) (Is (λy=>DY y s m h) s x d h)))))))
abbrev qB(a:Bool)(b:Prop)(c d:Int)(e g:Prop):=dP a b (decide (c>d)) e g
abbrev Pr(a:Prop)(b:ByteArray)(c:Nat)(d:UInt8->UInt8)(e:UInt8->Prop):=a/\∃(x:UInt8),b.data.toList[c]? =Option.some (d x)/\e x
noncomputable abbrev Ab(a:UInt8):=(↑a.toNat:Int)
abbrev Ba a b:=a<=b.size/\Az (List.all (List.take a (sT b)) Ax)
noncomputable abbrev pD(a:Nat):=(↑a:Int).toNat
attribute [push_cast] qB Pr Ab Ba pD
def T6(s:ByteArray)(m:MH)(h:PH)(K:cn):=
  qB ((↑s.size:Int)==0) (K bG m h) (↑s.size:Int) 32 (K bG m h) (Pr (cM 0) s 0 (λb=>b) (λb=>bA (↑b.toNat:Int) 97 (K bG m h) (Pr (cM 0) s 0 (λd=>d) (λd=>fZ (Ab d) 122 (K bG m h) (lC (∃(x:Nat),aA (Ba x s) (eQ (SV.at (NW s))) (aA (bE x) (m=m) (bU h h))) (λx=>Ba x s->bA (↑x:Int) (↑s.size:Int) (Pr (cM (↑x:Int)) s (pD x) (λc=>c) (λc=>bA (↑c.toNat:Int) 97 (bA (↑c.toNat:Int) 48 (cX (Ab c) 95 (K bG m h) (∃(y:Nat),aA (Ba y s) (CS s y x) (aA (eQ (SV.at (NW s))) (gX (bH x 1)=bP y) (eG m m h h)))) (fZ (Ab c) 57 (cX (Ab c) 95 (K bG m h) (∃(y:Nat),aA (Ba y s) (CS s y x) (aA (eQ (SV.at (NW s))) (gX (bH x 1)=bP y) (eG m m h h)))) (∃(y:Nat),aA
 (Ba y s) (CS s y x) (aA (eQ (SV.at (NW s))) (gX (bH x 1)=bP y) (eG m m h h))))) (fZ (Ab c) 122 (bA (↑c.toNat:Int) 48 (cX (Ab c) 95 (K bG m h) (∃(y:Nat),aA (Ba y s) (CS s y x) (aA (eQ (SV.at (NW s))) (gX (bH x 1)=bP y) (eG m m h h)))) (fZ (Ab c) 57 (cX (Ab c) 95 (K bG m h) (∃(y:Nat),aA (Ba y s) (CS s y x) (aA (eQ (SV.at (NW s))) (gX (bH x 1)=bP y) (eG m m h h)))) (∃(y:Nat),aA (Ba y s) (CS s y x) (aA (eQ (SV.at (NW s))) (gX (bH x 1)=bP y) (eG m m h h))))) (∃(y:Nat),aA (Ba y s) (CS s y x) (aA (eQ (SV.at (NW s))) (gX (bH x 1)=bP y) (eG m m h h)))))) (K iQ m h)))))))
def lW(h:PH)(K:cn):CV->MH->PH->Prop:=λr m' h'=>∃d c,(∀b o,d b=some o->m' b=some o)/\PH.le h c/\PH.le c h'/\K r d c
theorem lW.here{r}(c:K r m h):lW h K r m h:=⟨m,h,λ_ _ e=>e,.refl _,.refl _,c⟩
theorem lW.sub{r}(c:∀b o,m b=some o->m' b=some o)(d:K r m h):lW h K r m' h:=⟨m,h,c,.refl _,.refl _,d⟩
theorem lK.keeps{o}(f:cK m h b)(g:lK m m' b o):∀b o,m b=some o->m' b=some o:=λd n e=>by
 have c:d≠b:=λj=>by rw[j,f.m_]at e;cases e
 rw[g.other d c,e]
theorem akJ:cm 183 aWQ:=by
 refine Fh func183 ?_;rintro U m h K ⟨s,rfl,E⟩;refine⟨bNZ s m h,rfl,aH,Nx s m h (λr m' h'=>∃u F,(∀b o,u b=some o->m' b=some o)/\PH.le h F/\PH.le F h'/\K r u F),ax,?_⟩;show Nx s m h (lW h K);dsimp only[Nx,push_cast];have hl:=UL s;refine aF (λV=>?_) (λV=>aF (λF=>?_) (λF b W D G=>?_))
 .refine .here (kM E ?_);have:¬1<=s.size:=by omega
  simp[qZ,this]
 .refine .here (kM E ?_);have:¬s.size<=32:=by omega
  simp[qZ,this]
 refine⟨⟨(0,b,W),⟨ay,D,G,.inl rfl,ay⟩,MT⟩,?_⟩;rintro⟨d,b,mx⟩ ⟨X,D,n,g,f⟩;simp only at X D n g f;refine⟨s,d,⟨n.at_⟩,λY=>?_,λZ u H=>?_⟩
 .refine .sub (lK.keeps D n) (kM E ?_);rw[bt aC]at f
  have h3:lower ((sT s).headD 0)=true:=by
   grind
  have O:1<=s.size:=by omega
  have Q:s.size<=32:=by omega
  simp only[qZ,f,h3,decide_eq_true O,decide_eq_true Q];rfl
 .have t:=n.trans H;obtain⟨c,M⟩:∃c,(sT s)[d]? =some c:=⟨(sT s)[d]'(by omega),bn _⟩
  obtain⟨T,R⟩:=bqX M
  have z:d=0->(sT s).headD 0=c:=λe=>by
   subst e;cases a':sT s with
   |nil=>grind
   |cons x l=>grind
  have I:¬((97<=(Utf8.decode s d).1/\(Utf8.decode s d).1<=122)\/(d≠0/\((Utf8.decode s d).1=95\/(48<=(Utf8.decode s d).1/\(Utf8.decode s d).1<=57))))->lW h K (.val (.bool false)) u h:=by
   intro hn;refine .sub (lK.keeps D t) (kM E ?_);by_cases j:(s.get! d).toNat<128
   .rw[NO j,T]at hn;by_cases S:d=0
    .have:lower c=false:=by
      simp only[lower,Bool.and_eq_false_iff,decide_eq_false_iff_not];omega
     simp only[qZ,z S,this,Bool.and_false,Bool.false_and]
    .have:Ax c=false:=by
      simp only[Ax,lower,Bool.or_eq_false_iff,Bool.and_eq_false_iff,decide_eq_false_iff_not,beq_eq_false_iff_ne];omega
     simp[qZ,P0 M this]
   .have:Ax c=false:=by
     simp only[Ax,lower,Bool.or_eq_false_iff,Bool.and_eq_false_iff,decide_eq_false_iff_not,beq_eq_false_iff_ne];omega
    simp[qZ,P0 M this]
  have J:((97<=(Utf8.decode s d).1/\(Utf8.decode s d).1<=122)\/(d≠0/\((Utf8.decode s d).1=95\/(48<=(Utf8.decode s d).1/\(Utf8.decode s d).1<=57))))->d+1<=s.size/\lK m u b (.stringIter s (d+1))/\lower ((sT s).headD 0)=true/\((sT s).take (d+1)).all Ax=true:=by
   intro A
   have j:(s.get! d).toNat<128:=by
    refine Decidable.byContradiction λj=>?_;have:=bqQ j;omega
   rw[NO j]at t;rw[NO j,T]at A;simp only at A;refine⟨aC,t,?_,?_⟩
   .rcases g with e|e
    .rw[z e];simp only[lower,bz,ce];omega
    .exact e
   .rw[BX M,f];simp only[Ax,lower,Bool.true_and,Bool.or_eq_true,bz,ce,beq_iff_eq];omega
  have next:((97<=(Utf8.decode s d).1/\(Utf8.decode s d).1<=122)\/(d≠0/\((Utf8.decode s d).1=95\/(48<=(Utf8.decode s d).1/\(Utf8.decode s d).1<=57))))->_:=λA=>(⟨(d+1,b,u),⟨(J A).1,D,(J A).2.1,.inr (J A).2.2.1,(J A).2.2.2⟩,aC,MT⟩:∃(y:Nat×Nat×MH),(y.fst<=s.size/\cK m h y.snd.fst/\lK m y.snd.2 y.snd.fst (Obj.stringIter s y.fst)/\(y.fst=0\/lower ((sT s).headD 0)=true)/\(List.take y.fst (sT s)).all Ax=true)/\s.size-y.fst<s.size-d/\SV.at (At.val (Value.pointer (some (Addr.mk b 0 none))))=SV.at (At.val (Value.pointer (some (Addr.mk y.snd.fst 0 none))))/\u=y.snd.2/\h=h/\True)
  clear J t H f g z n G E
  repeat' (first|(refine aD (λ_=>?_) (λ_=>?_))|exact I (by simp only[ce,decide_eq_false_iff_not,bne_iff_ne,ne_eq,beq_iff_eq,beq_eq_false_iff_ne,bne_eq_false_iff_eq,Bool.not_eq_true',Bool.not_eq_false']at*;omega)|exact next (by simp only[ce,decide_eq_false_iff_not,bne_iff_ne,ne_eq,beq_iff_eq,beq_eq_false_iff_ne,bne_eq_false_iff_eq,Bool.not_eq_true',Bool.not_eq_false']at*;omega))
theorem amZ:cm 173 aWQ:=by
 refine iU func173 ?_;rintro I m h K ⟨s,rfl,j⟩;refine⟨bOZ s m h,rfl,aH,T6 s m h K,ax,?_⟩;dsimp only[T6,push_cast];have T:=UL s;refine aD (λu=>kM j ?_) (λu=>aF (λJ=>kM j ?_) (λJ=>?_))
 .have:¬1<=s.size:=by have:(s.size:Int)=0:=(bk u);omega
  simp[qZ,this]
 .have:¬s.size<=32:=by omega
  simp[qZ,this]
 have u:s.size≠0:=by intro e;rw[e]at u;simp at u
 obtain⟨t,d⟩:∃c,s.data.toList[0]? =some c:=⟨s.data.toList[0]'(by simpa using(by omega:0<s.size)),bn _⟩
 have g:(sT s).headD 0=t.toNat:=by
  unfold sT;cases z:s.data.toList with
  |nil=>rw[z]at d;simp at d
  |cons x l=>rw[z]at d;simp at d;simp[d]
 refine⟨aC,t,d,aF (λM=>kM j ?_) (λM=>⟨aC,t,d,aF (λO=>kM j ?_) (λO=>?_)⟩)⟩
 .have:lower t.toNat=false:=by simp only[lower,Bool.and_eq_false_iff,decide_eq_false_iff_not];omega
  simp only[qZ,g,this,Bool.and_false,Bool.false_and]
 .have:lower t.toNat=false:=by simp only[lower,Bool.and_eq_false_iff,decide_eq_false_iff_not];omega
  simp only[qZ,g,this,Bool.and_false,Bool.false_and]
 refine⟨⟨0,⟨aC,ay⟩,MT⟩,λi D=>aF (λQ=>?_) (λR=>kM j ?_)⟩
 .obtain⟨c,H⟩:∃c,s.data.toList[i]? =some c:=⟨s.data.toList[i]'(by simpa using(by omega:i<s.size)),bn _⟩
  have n:(sT s)[i]? =some c.toNat:=by simp[sT,H]
  have f:Ax c.toNat=false->K (.val (.bool false)) m h:=λe=>kM j (by simp[qZ,P0 n e]);have next:Ax c.toNat=true->∃(y:Nat),(y<=s.size/\(List.take y (sT s)).all Ax=true)/\s.size-y<s.size-i/\SV.at (At.val (Value.string s))=SV.at (At.val (Value.string s))/\SV.at (At.val (Value.int IntKind.i64 (IntKind.i64.wrap ((i:Int)+1))))=SV.at (At.val (Value.int IntKind.i64 (y:Int)))/\m=m/\h=h/\True:=λe=>⟨i+1,⟨aC,by rw[BX n,D.2,e];rfl⟩,aC,MT⟩
  have A:Ax c.toNat=true↔(97<=c.toNat/\c.toNat<=122)\/(48<=c.toNat/\c.toNat<=57)\/c.toNat=95:=by
   simp only[Ax,lower,Bool.or_eq_true,bz,ce,beq_iff_eq];omega
  have E:Ax c.toNat=false↔¬((97<=c.toNat/\c.toNat<=122)\/(48<=c.toNat/\c.toNat<=57)\/c.toNat=95):=by
   rw[<-A];simp
  refine⟨aC,c,bk H,?_⟩;clear j D g n E;rw[A]at next
  have f:=λe=>f (by rw[<-Bool.not_eq_true,A];exact e);clear A
  repeat' (first|(refine aD (λ_=>?_) (λ_=>?_))|exact f (by simp only[ce,decide_eq_false_iff_not,bne_iff_ne,ne_eq,beq_iff_eq,beq_eq_false_iff_ne,bne_eq_false_iff_eq,Bool.not_eq_true',Bool.not_eq_false']at*;omega)|exact next (by simp only[ce,decide_eq_false_iff_not,bne_iff_ne,ne_eq,beq_iff_eq,beq_eq_false_iff_ne,bne_eq_false_iff_eq,Bool.not_eq_true',Bool.not_eq_false']at*;omega))
 .have:=D.2;rw[bt aC]at this;have S:lower t.toNat=true:=by simp only[lower,bz,ce];omega
  have F:1<=s.size:=by omega
  have G:s.size<=32:=by omega
  simp only[qZ,this,g,S,decide_eq_true F,decide_eq_true G];rfl
end Go.Ps
