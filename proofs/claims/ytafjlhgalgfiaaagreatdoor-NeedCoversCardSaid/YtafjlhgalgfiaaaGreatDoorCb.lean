/- Own work. -/
import Derived.MapKept
import Derived.Maps.RangeRun
import Derived.Test.YtafjlhgalgfiaaaGreatDoorProg
import Derived.IntWalk
import Derived.ChangeKeysEq
import Derived.Test.YtafjlhgalgfiaaaGreatDoorCa
set_option linter.unusedVariables false
set_option linter.unusedSimpArgs false
namespace Go.Vc
open Go List
section
variable{B:v7}{C:Ctx}{ι:ci}{σ:St}{a:Act}{w:World}{o:Oper}{K:St->Prop}
theorem brJ(f:aM B ι σ a w) ob:
 aM B ι {σ with m:=λb=>if b=w.heap.size then some ob else σ.m b} a (w.alloc ob)/\cF σ.m σ.h w.heap.size/\∀o,JI σ ι o w (w.alloc ob):=by
 have d:=f.wrel
 have l:cF σ.m σ.h w.heap.size:=by
  constructor
  .cases e:σ.m w.heap.size with
   |none=>rfl
   |some x=>have:=(Array.getElem?_eq_some_iff.1 (d.msat _ _ e)).1;omega
  .intro i;cases e:σ.h w.heap.size i with
   |none=>rfl
   |some x=>have:=World.block_lt_of_cell? w ⟨w.heap.size,i,none⟩ (d.hsat _ _ _ e);simp at this
 have r:(w.alloc ob).heap.size=w.heap.size+1:=by show(w.heap.push ob).size=_;simp
 refine⟨⟨f.slots,f.defers,λk n j=>(f.own k n j).world (λb c=>jE w ob (tE (f.own k n j) c)),f.dist,?_,?_,f.one⟩,l,λo=>⟨?_,?_,λ_ b c=>jE w ob c,λ_ b _ c _ _=>jE w ob c⟩⟩
 .intro k n b j c;obtain⟨z,A,D⟩:=f.fresh k n b j c;have t:=tE (f.own k n j) c
  grind
 .refine⟨d.tape,d.os,d.output,d.drawn,by rw[r];exact Nat.le_succ_of_le d.size,?_,?_,?_,?_,d.hle,d.hold,?_⟩
  .intro b c u;rw[jE w ob (Nat.lt_of_lt_of_le c d.size)];exact d.frame b c u
  .intro b i v s;have g:=d.hsat b i v s;rw[<-g];exact World.cell?_of_block (w:=w) (w':=w.alloc ob) (a:=⟨b,i,none⟩) (jE w ob (World.block_lt_of_cell? w ⟨b,i,none⟩ g))
  .intro b x c;have c:(if b=w.heap.size then some ob else σ.m b)=some x:=c;by_cases e:b=w.heap.size
   .rw[if_pos e]at c;rw[e,pT];exact c
   .rw[if_neg e]at c;have g:=d.msat b x c;rw[jE w ob (Array.getElem?_eq_some_iff.1 g).1];exact g
  .intro b x c i;have c:(if b=w.heap.size then some ob else σ.m b)=some x:=c;by_cases e:b=w.heap.size
   .rw[e];exact l.h_ i
   .rw[if_neg e]at c;exact d.disj b x c i
  .intro b x c;have c:(if b=w.heap.size then some ob else σ.m b)=some x:=c;by_cases e:b=w.heap.size
   .left;rw[e];exact d.size
   .rw[if_neg e]at c;exact d.mfr b x c
 .intro k p T E b j _ y;exact jE w ob (tE (f.own k _ j) (by rw[y];rfl))
 .intro b i v s;have g:=d.hsat b i v s;rw[<-g];exact World.cell?_of_block (w:=w) (w':=w.alloc ob) (a:=⟨b,i,none⟩) (jE w ob (World.block_lt_of_cell? w ⟨b,i,none⟩ g))
theorem Wd(n:aM B ι σ a w){b y ob}(t:σ.m b=some y):
 aM B ι {σ with m:=λc=>if c=b then some ob else σ.m c} a {w with heap:=w.heap.setIfInBounds b ob}/\∀o,BB o.op=false->JI σ ι o w {w with heap:=w.heap.setIfInBounds b ob}:=by
 have g:=n.wrel;have z:b<w.heap.size:=(Array.getElem?_eq_some_iff.1 (g.msat _ _ t)).1
 have f:∀c,c≠b->(w.heap.setIfInBounds b ob)[c]? =w.heap[c]? :=λc l=>by
  grind
 have A:(w.heap.setIfInBounds b ob)[b]? =some ob:=by simp[z]
 have u:∀k r,nth σ.own k=some (some r)->blk (ι k)≠some b:=by
  intro k r s F;have:=(n.fresh k r b s F).2.1
  grind
 have j:∀c i v,σ.h c i=some v->({w with heap:=w.heap.setIfInBounds b ob}:World).cell? ⟨c,i,none⟩=some v:=by
  intro c i v D;have l:c≠b:=λe=>by subst e;rw[g.disj c _ t i]at D;cases D
  have E:=g.hsat c i v D;rw[<-E];exact World.cell?_of_block (w:=w) (w':={w with heap:=w.heap.setIfInBounds b ob}) (a:=⟨c,i,none⟩) (f c l)
 refine⟨⟨n.slots,n.defers,λk r s=>(n.own k r s).world (λc d=>f c (λe=>u k r s (e▸d))),n.dist,?_,?_,n.one⟩,λo I=>⟨?_,j,λh=>bg,λ_ c _ _ J _=>f c (λe=>bg)⟩⟩
 .intro k r c s d;obtain⟨L,M,N⟩:=n.fresh k r c s d
  grind
 .refine⟨g.tape,g.os,g.output,g.drawn,bk g.size,?_,j,?_,?_,g.hle,g.hold,?_⟩
  .intro c d G
   have l:c≠b:=λe=>by
    subst e;rcases g.mfr c _ t with E|E
    .omega
    grind
   rw[f c l];exact g.frame c d G
  .intro c x d;have d:(if c=b then some ob else σ.m c)=some x:=d;by_cases e:c=b
   .grind
   .rw[if_neg e]at d;rw[f c e];exact g.msat c x d
  .intro c x d i;have d:(if c=b then some ob else σ.m c)=some x:=d;by_cases e:c=b
   .rw[e];exact g.disj b _ t i
   .rw[if_neg e]at d;exact g.disj c _ d i
  .intro c x d;have d:(if c=b then some ob else σ.m c)=some x:=d;by_cases e:c=b
   .rw[e];exact g.mfr b _ t
   .rw[if_neg e]at d;exact g.mfr c _ d
 .intro k p T O c s _ H;exact f c (λe=>u k _ s (by rw[H,e];rfl))
theorem RR(g:aM B ι σ a w){t r}(i:o.op= .makeMap t r)(h:Mj o r σ K):VR B C ι o σ K a w:=by
 intro next Q b
 unfold Mj at h;split at h
 .obtain⟨d,e,j⟩:=brJ g (.map #[] 0)
  have c:(execOp a.eval o).run C.P w= .ok (.value (.map (some w.heap.size))) (w.alloc (.map #[] 0)):=by
   unfold execOp;simp[i,Instr.makeMap]
  unfold Oper.wp;rw[c,Oper.upon_value];exact b ι _ _ _ (d.put o.dst (x:=.at (.val (.map (some w.heap.size)))) rfl) (h w.heap.size _ e ⟨ay,λl f=>by simp[f]⟩) (j o)
 grind
theorem aM.drew{B ι σ a w}(h:aM B ι σ a w) k(c:w.drawn<=k):aM B ι σ a {w with drawn:=k}:=by
 refine⟨h.slots,h.defers,λj o d=>(h.own j o d).world (λ_ _=>rfl),h.dist,h.fresh,?_,h.one⟩;have b:=h.wrel;exact⟨b.tape,b.os,b.output,Nat.le_trans b.drawn c,b.size,b.frame,b.hsat,b.msat,b.disj,b.hle,b.hold,b.mfr⟩
theorem Al{α}{l:List α}{j x}(h:l[j]? =some x):l=l.take j++x::l.drop (j+1):=by
 have b:=(List.getElem?_eq_some_iff.1 h).1;have e:=(List.getElem?_eq_some_iff.1 h).2;rw[<-e, <-drop_eq_getElem_cons b,take_append_drop]
theorem Wp(p:aM B ι σ a w){t x}(z:o.op= .range t x)(h:UL C o t x σ K):VR B C ι o σ K a w:=by
 intro next Q f
 have d:=p.ev x;unfold UL at h;split at h
 .rename_i s r u;rw[u]at d;have d:a.eval x= .string s:=d;obtain⟨j,l,v⟩:=brJ p (.stringIter s 0)
  have g:(execOp a.eval o).run C.P w= .ok (.value (.pointer (some ⟨w.heap.size,0,none⟩))) (w.alloc (.stringIter s 0)):=by
   unfold execOp;simp[z,d,Instr.range,run_underlying r]
  unfold Oper.wp;rw[g,Oper.upon_value];exact f ι _ _ _ (j.put o.dst (x:=.at (.val (.pointer (some ⟨w.heap.size,0,none⟩)))) rfl) (h w.heap.size _ l ⟨ay,λA m=>by simp[m]⟩) (v o)
 .rename_i I J b r u;rw[u]at d;have d:a.eval x= .map (some b):=d;obtain⟨D,⟨E,c,F,n,i,y⟩,h⟩:=h;have G:=p.wrel.msat b _ F;obtain⟨j,l,v⟩:=brJ p (.mapIter (some b) c #[] c)
  have g:(execOp a.eval o).run C.P w= .ok (.value (.pointer (some ⟨w.heap.size,0,none⟩))) (w.alloc (.mapIter (some b) c #[] c)):=by
   unfold execOp;simp[z,d,Instr.range,run_underlying r,MapKept.run_getObj_map G,Result.andThen]
  unfold Oper.wp;rw[g,Oper.upon_value];have H:b≠w.heap.size:=λe=>bg
  refine f ι _ _ _ (j.put o.dst (x:=.at (.val (.pointer (some ⟨w.heap.size,0,none⟩)))) rfl) (h w.heap.size _ l ⟨λA m=>by simp[m]⟩ ⟨E,c,c, #[],c,?_,n,i,y,ay,i,Nat.le_refl _,Nat.le_refl _,?_⟩) (v o)
  .grind
  .rw[<-n];congr 1;exact filter_eq_self.2 (λ_ _=>ay)
 grind
theorem Y5(v:aM B ι σ a w){x st}(R:o.op= .next x st)(h:Y6 o x st σ K):VR B C ι o σ K a w:=by
 intro next Q l
 have i:=v.ev x;unfold Y6 at h;split at h
 .rename_i b S;rw[S]at i;have i:a.eval x= .pointer (some ⟨b,0,none⟩):=i;obtain⟨s,t,hm,Y,Z⟩:=h;have hg:=v.wrel.msat b _ hm.at_;by_cases y:t<s.size
  .obtain⟨H,hk⟩:=Wd (ob:=.stringIter s (t+(Utf8.decode s t).2)) v hm.at_
   have d:(execOp a.eval o).run C.P w= .ok (.value (.tuple #[.bool true,.int .i64 t,.int .i32 (Utf8.decode s t).1])) {w with heap:=w.heap.setIfInBounds b (.stringIter s (t+(Utf8.decode s t).2))}:=by
    unfold execOp;simp[R,i,Instr.next,getObj,setObj,Sem.run,hg,y,goInt,Result.andThen]
   unfold Oper.wp;rw[d,Oper.upon_value];refine l ι _ _ _ (H.put o.dst (x:=.tup _) ?_) (Z y _ ⟨ay,λb' I=>by simp[I]⟩) (hk o (by rw[R];rfl));exact⟨_,rfl,rfl,rfl,rfl,trivial⟩
  .have d:(execOp a.eval o).run C.P w= .ok (.value (.tuple #[.bool false])) w:=by
    unfold execOp;simp[R,i,Instr.next,getObj,Sem.run,hg,y,Result.andThen]
   unfold Oper.wp;rw[d,Oper.upon_value];refine l ι _ _ _ (v.put o.dst (x:=.tup _) ?_) (Y aC) (nG v);exact⟨_,rfl,rfl,trivial⟩
 .rename_i r S;rw[S]at i;have i:a.eval x= .pointer (some ⟨r,0,none⟩):=i;obtain⟨b,a4,left,⟨p,f,g,c,c0,a',a0,J,M,T,E,a1,F,N⟩,Y,Z⟩:=h;have a2:=v.wrel.msat b _ a';have a3:=v.wrel.msat r _ T;rcases run_next_at (P:=C.P) w o.type r b g c0 c p f a3 a2 E a1 with⟨h0,d⟩|⟨e,he,w1,hw1,d⟩
  .have hl:left=[]:=by
    rw[<-N];have:(leftOf p c).toList=[]:=bg
    unfold leftOf at this
    grind
   have d:(execOp a.eval o).run C.P w= .ok (.value (.tuple #[.bool false])) w:=by
    unfold execOp;simp[R,i,d,Result.andThen]
   unfold Oper.wp;rw[d,Oper.upon_value];refine l ι _ _ _ (v.put o.dst (x:=.tup _) ?_) (Y hl) (nG v);exact⟨_,rfl,rfl,trivial⟩
  .have O:∃n,aM B ι σ a w1/\w1={w with drawn:=n}:=by
    rcases hw1 with rfl|rfl
    .grind
    .exact⟨w.drawn+1,v.drew (w.drawn+1) (Nat.le_succ _),rfl⟩
   obtain⟨n,O,U⟩:=O;obtain⟨H,hk⟩:=Wd (ob:=.mapIter (some b) g (c.push e.born) f) O T
   have d:(execOp a.eval o).run C.P w= .ok (.value (.tuple #[.bool true,e.key,e.val])) {w1 with heap:=w1.heap.setIfInBounds r (.mapIter (some b) g (c.push e.born) f)}:=by
    unfold execOp;simp[R,i,d,Result.andThen,ChangeMaps.setBlock]
   have V:e∈p.toList.filter λe=> !c.contains e.born:=by
    unfold leftOf at he
    grind
   have W:e∈p.toList:=(mem_filter.1 V).1;obtain⟨j,hj⟩:=getElem?_of_mem V;have z:=Al hj;have a5:r≠b:=λe=>bg
   have u:(((p.toList.filter λe=> !c.contains e.born)).map (·.born)).Nodup:=M.sublist (filter_sublist.map _)
   have X:p.toList.filter (λx=> !(c.push e.born).contains x.born)=(p.toList.filter λe=> !c.contains e.born).take j++(p.toList.filter λe=> !c.contains e.born).drop (j+1):=by
    have h3:p.toList.filter (λx=> !(c.push e.born).contains x.born)=(p.toList.filter λe=> !c.contains e.born).filter λx=>x.born !=e.born:=by
     rw[filter_filter]
     grind
    rw[h3];generalize (p.toList.filter λe=> !c.contains e.born)=L at z u hj;have y:=(List.getElem?_eq_some_iff.1 hj).1;generalize L.take j=A at z;generalize L.drop (j+1)=D at z;subst z;simp only[map_append,map_cons,nodup_append,nodup_cons,mem_map,mem_cons]at u;obtain⟨_,⟨a6,_⟩,a7⟩:=u;rw[filter_append,filter_cons];simp only[bne_self_eq_false,Bool.false_eq_true,if_false];congr 1
    .refine filter_eq_self.2 λx S=>?_
     grind
    .refine filter_eq_self.2 λx S=>?_
     grind
   unfold Oper.wp;rw[d,Oper.upon_value];have G:(if b=r then some (Obj.mapIter (some b) g (c.push e.born) f)else σ.m b)=some (.map p f):=bg
   refine l ι _ _ _ (H.put o.dst (x:=.tup _) ?_) (Z (((p.toList.filter λe=> !c.contains e.born).take j).map λe=>(e.key,e.val)) (e.key,e.val) (((p.toList.filter λe=> !c.contains e.born).drop (j+1)).map λe=>(e.key,e.val)) ?_ _ ⟨λb' I=>by simp[I]⟩ ⟨⟨p,f,g,c.push e.born,f,G,a0,J,M,ay,E,F,F,?_⟩,p,f,g,c,e,G,M,ay,W,rfl⟩) ?_
   .exact⟨_,rfl,rfl,rfl,rfl,trivial⟩
   .grind
   .grind
   .have:=hk o (by rw[R];rfl);subst U;exact⟨this.cells,this.imm,this.ext,this.args⟩
 grind
theorem Yj(j:aM B ι σ a w){x}(u:o.op= .entry x)(h:Vk C o x σ K):VR B C ι o σ K a w:=by
 intro next Q f
 have d:=j.ev x;unfold Vk at h;split at h
 .rename_i r v;rw[v]at d;have d:a.eval x= .pointer (some ⟨r,0,none⟩):=d;obtain⟨b,y,left,x,⟨_,z,g,i,l,e,m,n,p,A,rfl⟩,h⟩:=h;have c:=run_entry_at (P:=C.P) w r b i l z g e (j.wrel.msat r _ p) (j.wrel.msat b _ m) A n
  have c:(execOp a.eval o).run C.P w= .ok (.value (.tuple #[e.key,e.val])) w:=by
   unfold execOp;simp[u,d,c,Result.andThen]
  have h:K (σ.put o.dst (.tup [.inl (.val e.key),.inl (.val e.val)])):=by
   split at h
   .obtain⟨s,t,h⟩:=h;have t:e.val=Sl.val s:=t;rw[t];exact h
   .exact h
  unfold Oper.wp;rw[c,Oper.upon_value];refine f ι _ _ _ (j.put o.dst (x:=.tup _) ?_) h (nG j);exact⟨_,rfl,rfl,rfl,trivial⟩
 grind
theorem GX{P:Program}{f:TypeId}{Ok:Value->Prop}(L:KeyLaw P f Ok){k:Value}(n:Ok k)(w:World):∀(es:List MapEntry)(i:Nat),(∀e∈es,Ok e.key)->
 ((∀e∈es,e.key≠k)/\(Instr.findAsking f k es i).run P w= .ok none w)\/∃j e,es[j]? =some e/\e.key=k/\(Instr.findAsking f k es i).run P w= .ok (some (i+j,e.val)) w
 |[],i,_=>.inl ⟨λe p=>(by cases p),by simp[Instr.findAsking]⟩
 |e::es,i,b=>by
  obtain⟨r,g,l⟩:=L.eq k e.key w n (b e ay);cases r with
  |true=>exact .inr ⟨0,e,rfl,(l.1 rfl).symm,by simp[Instr.findAsking,g]⟩
  |false=>
   have s:e.key≠k:=λh=>bg
   rcases GX L n w es (i+1) (λd c=>b d (by simp[c]))with⟨t,m⟩|⟨j,d,t,m,u⟩
   .refine .inl ⟨λd c=>?_,by simp[Instr.findAsking,g,m]⟩
    grind
   .exact .inr ⟨j+1,d,bg,m,by simp[Instr.findAsking,g,u];omega⟩
theorem findNow_spec{P:Program}{n:TypeId}{Ok:Value->Prop}(L:KeyLaw P n Ok){d:TypeDesc}(c:P.underlying n=some d){k:Value}(f:Ok k):∀(es:List MapEntry)(i:Nat)(r:Option (Nat×Value)),(∀e∈es,Ok e.key)->
 Instr.findNow d k es i=some r->((∀e∈es,e.key≠k)/\r=none)\/∃j e,es[j]? =some e/\e.key=k/\r=some (i+j,e.val)
 |[],i,r,_,h=>by
  simp[Instr.findNow]at h
  grind
 |e::es,i,r,b,h=>by
  simp only[Instr.findNow]at h;split at h
  .rename_i g;simp only[Option.some.injEq]at h;exact .inr ⟨0,e,rfl,((L.now d k e.key true c f (b e ay) g).1 rfl).symm,bg⟩
  .rename_i g;have s:e.key≠k:=λt=>by have:=(L.now d k e.key false c f (b e ay) g).2 t.symm;cases this
   rcases findNow_spec L c f es (i+1) r (λl m=>b l (by simp[m])) h with⟨u,p⟩|⟨j,l,u,p,v⟩
   .grind
   .exact .inr ⟨j+1,l,bg,p,bg⟩
  .cases h
theorem run_findKey{P c Ok}(L:KeyLaw P c Ok){k}(l:Ok k) w es(f:∀e∈es,Ok e.key):
 ((∀e∈es,e.key≠k)/\(Instr.findKey c k es).run P w= .ok none w)\/∃j e,es[j]? =some e/\e.key=k/\(Instr.findKey c k es).run P w= .ok (some (j,e.val)) w:=by
 obtain⟨d,g⟩:=L.under;cases h:Instr.findNow d k es 0 with
 |some r=>
  have b:(Instr.findKey c k es).run P w= .ok r w:=by simp[Instr.findKey,run_underlying g,h]
  rcases findNow_spec L g l es 0 r f h with⟨i,rfl⟩|⟨j,e,i,m,rfl⟩
  .grind
  grind
 |none=>
  have b:(Instr.findKey c k es).run P w=(Instr.findAsking c k es).run P w:=by simp[Instr.findKey,run_underlying g,h]
  rw[b];rcases GX L l w es 0 f with⟨i,m⟩|⟨j,e,i,m,n⟩
  .grind
  grind
theorem VU{P T z}(h:Ur P T=some z) w:(zeroValue T).run P w= .ok z w:=by
 unfold Ur at h;split at h
 .rename_i i d;split at h
  .rename_i k n c;simp only[Option.some.injEq]at h;subst h;simp[zeroValue,typeInfo,d,c]
  .rename_i b c;simp only[Option.some.injEq]at h;subst h;simp[zeroValue,typeInfo,d,c]
  .rename_i c;simp only[Option.some.injEq]at h;subst h;simp[zeroValue,typeInfo,d,c]
  .cases h
 .cases h
theorem UY(i:aM B ι σ a w){t x k ok}(J:o.op= .lookup t x k ok)(h:Qm C o t x k ok σ K):VR B C ι o σ K a w:=by
 intro next Q c
 have d:=i.ev x;unfold Qm at h;split at h
 .rename_i kt D b M N V E;rw[V]at d;have d:a.eval x= .map (some b):=d;have n:a.eval k=M:=(i.ev k).val? E;split at h
  .rename_i z W;obtain⟨r,Ok,⟨m,F,X,Y⟩,L,s,O,l,v⟩:=h;have R:=i.wrel.msat b _ X
   have y:∀e∈m.toList,∃p∈r,e.key=p.1/\e.val=only ((C.dec D).enc p.2):=by
    intro e G
    have:(e.key,e.val)∈r.map λp=>(p.1,only ((C.dec D).enc p.2)):=by
     grind
    grind
   have A:∀e∈m.toList,Ok e.key:=λe G=>by
    grind
   have g:=L.check M w m.isEmpty s;unfold Oper.wp;rcases run_findKey L s w m.toList A with⟨S,T⟩|⟨j,e,S,T,Z⟩
   .have f:(execOp a.eval o).run C.P w= .ok (.value (if ok then .tuple #[z,.bool false]else z)) w:=by
     unfold execOp;simp[J,d,n,Instr.lookup,run_underlying N,MapKept.run_getObj_map R,g,T,VU W,Result.andThen]
    rw[f,Oper.upon_value];refine c ι _ _ _ (i.put o.dst ?_) (l ?_) (nG i)
    .cases ok
     .rfl
     .exact⟨_,rfl,rfl,rfl,trivial⟩
    .intro p hp e1
     have:(p.1,only ((C.dec D).enc p.2))∈m.toList.map λe=>(e.key,e.val):=by
      grind
     grind
   .have G:e∈m.toList:=mem_of_getElem? S;obtain⟨p,hp,e1,H⟩:=y e G
    have f:(execOp a.eval o).run C.P w= .ok (.value (if ok then .tuple #[e.val,.bool true]else e.val)) w:=by
     unfold execOp;simp[J,d,n,Instr.lookup,run_underlying N,MapKept.run_getObj_map R,g,Z,Result.andThen]
    have U:=v p.2 bg;rw[f,Oper.upon_value];split at U
    .rename_i u I;rw[I]at H;refine c ι _ _ _ (i.put o.dst ?_) U (nG i);cases ok
     .exact H
     .exact⟨_,rfl,H,rfl,trivial⟩
    grind
  grind
 grind
theorem Oi(i:aM B ι σ a w){t x k v}(J:o.op= .mapUpdate t x k v)(l:o.dst=none)(h:DY C t x k v σ K):VR B C ι o σ K a w:=by
 intro next Q f
 have d:=i.ev x;unfold DY at h;split at h
 .rename_i Z et b m u T U A V;rw[U]at d;have d:a.eval x= .map (some b):=d;have D:a.eval k=m:=(i.ev k).val? A;have E:a.eval v=u:=(i.ev v).val? V;obtain⟨F,Ok,⟨g,c,M,G⟩,L,n,p,N,W⟩:=h;have O:=i.wrel.msat b _ M;have r:∀e∈g.toList,(e.key,e.val)∈F:=λe R=>bg
  have s:∀e∈g.toList,Ok e.key:=λe R=>p _ (r e R);have y:=L.check m w false n;rcases run_findKey L n w g.toList s with⟨X,S⟩|⟨j,e,X,S,h3⟩
  .obtain⟨H,Y⟩:=Wd (ob:=.map (g.push {key:=m,val:=u,born:=c}) (c+1)) i M
   have z:(execOp a.eval o).run C.P w= .ok .skip {w with heap:=w.heap.setIfInBounds b (.map (g.push {key:=m,val:=u,born:=c}) (c+1))}:=by
    unfold execOp;simp[J,d,D,E,Instr.mapUpdate,run_underlying T,MapKept.run_getObj_map O,MapKept.run_setObj_map _ O,y,S,Result.andThen]
   unfold Oper.wp;rw[z,Oper.upon_skip,show a.put o.dst undef=a by rw[l];rfl];refine f ι _ _ _ H (W _ ⟨λb' I=>by simp[I]⟩ ⟨g.push {key:=m,val:=u,born:=c},c+1,ay,?_⟩) (Y o (by rw[J];rfl));simp[G]
  grind
 grind
theorem UX(z:aM B ι σ a w){t x k v}(N:o.op= .mapUpdate t x k v)(m:o.dst=none)(h:K9 C t x k v σ K):VR B C ι o σ K a w:=by
 intro next Q f
 have g:=z.ev x;unfold K9 at h;split at h
 .rename_i kt et b l u hu hx R hv;rw[hx]at g;have g:a.eval x= .map (some b):=g;have A:a.eval k=l:=(z.ev k).val? R;have D:a.eval v=u:=(z.ev v).val? hv;obtain⟨S,Ok,⟨d,c,T,U,V,a1⟩,L,E,r,F,G,H⟩:=h;have O:=z.wrel.msat b _ T;have I:∀e∈d.toList,(e.key,e.val)∈S:=λe W=>bg
  have J:∀e∈d.toList,Ok e.key:=λe W=>F _ (I e W);have n:=L.check l w false E;rcases run_findKey L E w d.toList J with⟨X,Y⟩|⟨j,e,X,Y,h3⟩
  .obtain⟨s,Z⟩:=Wd (ob:=.map (d.push {key:=l,val:=u,born:=c}) (c+1)) z T
   have i:(execOp a.eval o).run C.P w= .ok .skip {w with heap:=w.heap.setIfInBounds b (.map (d.push {key:=l,val:=u,born:=c}) (c+1))}:=by
    unfold execOp;simp[N,g,A,D,Instr.mapUpdate,run_underlying hu,MapKept.run_getObj_map O,MapKept.run_setObj_map _ O,n,Y,Result.andThen]
   unfold Oper.wp;rw[i,Oper.upon_skip,show a.put o.dst undef=a by rw[m];rfl];refine f ι _ _ _ s (G (λp hp e1=>?_) _ ⟨λb' y=>by simp[y]⟩ ⟨d.push {key:=l,val:=u,born:=c},c+1,ay,by simp[U],λe W=>?_,?_⟩) (Z o (by rw[N];rfl))
   .grind
   .grind
   grind
  .have M:=(List.getElem?_eq_some_iff.1 X).1;have a':d[j]? =some e:=bg
   obtain⟨s,Z⟩:=Wd (ob:=.map (d.modify j λe=>{e with key:=l,val:=u}) c) z T
   have i:(execOp a.eval o).run C.P w= .ok .skip {w with heap:=w.heap.setIfInBounds b (.map (d.modify j λe=>{e with key:=l,val:=u}) c)}:=by
    unfold execOp;simp[N,g,A,D,Instr.mapUpdate,run_underlying hu,MapKept.run_getObj_map O,MapKept.run_setObj_map _ O,n,h3,a',Y,Instr.keyThatStays,r,Result.andThen]
   have a0:(d.modify j λe=>{e with key:=l,val:=u}).toList=d.toList.take j++{e with key:=l,val:=u}::d.toList.drop (j+1):=by
    rw[Array.toList_modify,modify_eq_take_cons_drop M]
    grind
   have a2:=Al X;unfold Oper.wp;rw[i,Oper.upon_skip,show a.put o.dst undef=a by rw[m];rfl];refine f ι _ _ _ s (H ((d.toList.take j).map λe=>(e.key,e.val)) e.val ((d.toList.drop (j+1)).map λe=>(e.key,e.val)) ?_ _ ⟨λb' y=>by simp[y]⟩ ⟨d.modify j λe=>{e with key:=l,val:=u},c,ay,?_,?_,?_⟩) (Z o (by rw[N];rfl))
   .grind
   .grind
   .grind
   grind
 grind
end
end Go.Vc
namespace Go.Vc
open Go List
section
variable{B:v7}{C:Ctx}{ι:ci}{σ:St}{a:Act}{w:World}{o:Oper}{K:St->Prop}
theorem bqX(g:aM B ι σ a w)(u:GI o.op=true)(h:UN C o σ K):VE C ι o σ K a w:=by
 unfold UN at h;cases j:o.op<;>simp only[j]at h u
 case move x=>exact Qk g (.inl j) h
 case assign x=>exact Qk g (.inr j) h
 case pick c x y=>exact YT g j h
 case build T ps=>exact Ys g j h
 case load T x=>exact Zb g j h
 case nilCheck x=>exact Qa g j h
 case binOp op tx x y ty=>
  cases op
  case eql=>
   simp only at h;split at h
   .exact GV (neg:=false) g j h
   .exact nJ g (λp b=>bg) h
  case neq=>
   simp only at h;split at h
   .exact GV (neg:=true) g j h
   .exact nJ g (λp b=>bg) h
  case add=>exact Vn g j h
  all_goals first
   |exact nJ g (λp b=>by rw[j];intro e;cases e) h
   |exact bfZ g j h
 case unOp op t x=>exact nJ g (λp b=>bg) h
 case convert s d x=>exact RW g j h
 case fieldAddr T x f=>exact On g j h
 case field T x f=>exact W4 g j h
 case indexAddr T x i=>exact Om g j h
 case index T x i=>exact WU g j h
 case extract x i=>exact RV g j h
 case call c=>
  obtain⟨l,args,m⟩:=c;cases l with
  |builtin b=>
   cases b<;>simp only[GI,Bool.false_eq_true]at u
   case len=>
    simp only at h;split at h
    .rename_i x v;exact aTJ g j rfl v h
    grind
   case min=>exact nJ g (λp b=>bg) h
   case max=>exact nJ g (λp b=>bg) h
  |value f=>simp[GI]at u
  |invoke r n=>grind
 all_goals (first|exact h.elim|(simp[GI]at u))
theorem VE.stp(d:aM B ι σ a w)(h:VE C ι o σ K a w):VR B C ι o σ K a w:=by
 intro next Q b
 obtain⟨v,x,c,e,f⟩:=h;unfold Oper.wp;rw[c w (.inr rfl),Oper.upon_value];exact b ι _ _ _ (d.put o.dst e) f (nG d)
theorem Dg(e:aM B ι σ a w):∀(i:Nat)(l:cw)(ts:dk)(b:cr),tL C.P σ [] i l ts=some b->b=(l.map a.eval).map .val
 |i,[],ts,b,h=>by simp[tL]at h;subst h;rfl
 |i,x::r,ts,b,h=>by
  simp only[tL]at h;split at h
  .cases h
  .rename_i d c;have f:=Dg e (i+1) r ts.tail d c;simp only[contains_nil]at h;split at h
   .rename_i u g;simp only[Option.some.injEq]at h;subst h;simp only[map_cons,(e.ev x).val? g,f]
   .cases h
theorem LN:∀(l b:bt),Pj (l.map .val) b=(l++b).map .val
 |[],_=>rfl
 |v::l,b=>by simp only[map_cons,Pj,LN l b,cons_append]
theorem UT{P T cs ι}:Den ι (mk P T (cs.map .val)) (valOf P T cs):=by
 unfold mk valOf;cases Ay P T with
 |true=>exact⟨_,rfl,by simpa using(j8.vals (ι:=ι)).2 rfl⟩
 |false=>match cs with
  |[]=>exact trivial
  |[x]=>exact rfl
  |_::_::_=>exact trivial
theorem Sound.fat{P f S T}{vs:bt}{m h R}(I:Sound P f S)(L:S (vs.map .val) m h (λr m' D=>∃l,r= .val (valOf P T l)/\R l m' D)):FAt P f T (vs.map .val) m h R:=by
 have E:∀{l F:bt},l.map CV.val=F.map CV.val->l=F:=fun{l F} e=>(List.map_inj_right (λx y h=>by cases h;rfl)).1 e;refine⟨I.1,λM w N G=>?_⟩;rw[<-E N]
 have s:∀(l:bt)(w:World),Dm w (l.map .val) l:=λl w=>by
  induction l with
  |nil=>trivial
  |cons a l O=>exact⟨rfl,O⟩
 have z:∀(l:bt)(i:Nat)(c:CV)(u:Value)(b:Nat),(l.map CV.val)[i]? =some c->jP c u=some b->False:=λl i c u b p g=>by
  rw[getElem?_map]at p;cases e:l[i]? with
  |none=>grind
  |some v=>rw[e]at p;simp at p;subst p;simp[jP]at g
 refine(I.2 _ vs m h w _ L ⟨s _ _,G.hsat,G.msat,G.disj,λi j c d u v b p _ _ _ g _=>(z _ i c u b p g).elim,λi c u b p _ g=>(z _ i c u b p g).elim⟩).mono ?_;rintro e U ⟨r,u,m',D,rfl,⟨l,rfl,Q⟩,t,n,_⟩;have t:u=valOf P T l:=t;subst t
 have J:∀b,m b=none->¬yE m (vs.map .val) vs b:=by
  rintro b g (A|⟨i,c,u,p,_,V⟩)
  .exact A g
  grind
 refine⟨l,m',D,rfl,Q,⟨n.tape,n.os,n.output,n.drawn,n.size,λb g H=>n.frame b g (J b H),⟨n.hsat,n.msat,n.disj⟩,⟨n.hle⟩,λb g H=>n.hold b g (J b H),λb o g=>?_⟩⟩;rcases n.mfr b o g with A|A
 .exact .inl A
 grind
theorem bfX(r:aM B ι σ a w){c g T f G cs}(Z:o.op= .call c)(hc:c.callee= .value g)(hg:σ.ev g= .at (.val (.func (.func f) G cs)))(a':G.toList=[])(h:bOJ C o T f cs.toList c.args.toList σ K):VR B C ι o σ K a w:=by
 intro next Q s
 unfold bOJ at h;split at h
 .rename_i a0 u;obtain⟨R,I,h⟩:=h;have J:=Dg r 0 _ _ _ u;subst J;rw[LN]at I;have H:=r.wrel;obtain⟨fn,L,M,N⟩:=I.fn;have t:=I.go _ w rfl ⟨H.hsat,H.msat,H.disj⟩;have O:a.eval g= .func (.func f) G cs:=by have:=r.ev g;rw[hg]at this;exact this
  have y:G= #[]:=bg
  subst y;have n: #[]++c.args.map a.eval++cs=(c.args.toList.map a.eval++cs.toList).toArray:=bg
  have S:¬fn.body=none:=bg
  have U:¬fn.name= "runtime.NumGoroutine" :=bg
  have z:(execOp a.eval o).run C.P w= .ok (.enter f (c.args.toList.map a.eval++cs.toList).toArray) w:=by
   unfold execOp;simp only[Z,resolve,hc,O,Deferred.ofValue,Sem.run_bind,Sem.run_pure,Result.andThen_ok,invoke,callFunc];rw[n];simp[program,Sem.run,L,U,S]
  unfold Oper.wp;rw[z,Oper.upon_enter];refine Calls.mono t ?_;rintro e w' ⟨l,m',h',rfl,⟨x,rfl,hx⟩,d⟩;show next (a.put o.dst (valOf C.P T ((C.dec T).enc x))) w'
  have V:Dt ⟨w,λb=>σ.m b≠none,σ.h,[]⟩ m' h' w':=
   ⟨d.tape,d.os,d.output,d.drawn,d.size,λb i A=>d.frame b i (Classical.byContradiction A),d.heapy.hsat,d.heapy.msat,d.heapy.disj,d.hle.le,λb i A=>d.hold b i (Classical.byContradiction A),λb W i=>d.mfr b W i⟩
  have X:=r.called V (λb i=>by
   cases hm:σ.m b with
   |none=>grind
   |some W=>exact H.mfr b W hm) (λj o' b hj i A=>A (r.fresh j o' b hj i).2.1)
  refine s ι _ _ _ (X.put o.dst UT) (h x m' h' hx) ⟨λk p T a1 b hk _ hι=>?_,λb D v J=>d.heapy.hsat b D v (d.hle.le b D v J),λE=>?_,λl b _ i Y _=>d.frame b i Y⟩
  .have F:blk (ι k)=some b:=by rw[hι];rfl
   exact d.frame b (tE (r.own k _ hk) F) (r.fresh k _ b hk F).2.1
  .rw[Z]at E;simp[BB]at E
 grind
theorem WC(u:∀g S,assoc C.specs g=some S->Sound C.P g S)(e:aM B ι σ a w)(h:UN C o σ K):VR B C ι o σ K a w:=by
 cases R:GI o.op with
 |true=>exact(bqX e R h).stp e
 |false=>
  unfold UN at h;cases j:o.op<;>simp only[j]at h R
  case alloc T=>
   intro next Q z
   refine Yw e j h next Q (λD L E F i p G=>?_)
   obtain⟨U,s,t,_⟩:=Ax _ _ i p
   grind
  case box T x=>
   split at h
   .intro next Q z
    obtain⟨τ,m,H,I⟩:=qF _ _ e h;refine T5 m j H next Q (λD L E F i p G=>?_)
    obtain⟨U,s,t,_⟩:=Ax _ _ i p;exact z D U E F s t (G.of_fz I)
   .exact T5 e j h
  case buildSlice T n ps=>
   intro next Q z
   refine Nc e j h next Q (λD L E F i p G=>?_)
   obtain⟨U,s,t,_⟩:=Eu _ _ i p;obtain⟨σ3,V,W,_⟩:=qF _ _ s t
   grind
  case makeFunc f x X=>
   intro next Q z
   obtain⟨τ,m,H,a0⟩:=Ax _ _ e h;obtain⟨v,x,O,Y,H⟩:=nJ m (λX b=>bg) H;unfold Oper.wp;rw[O w (.inr rfl),Oper.upon_value];exact z ι _ _ _ (m.put o.dst Y) H (nG e)
  case store T x v=>
   cases M:o.dst with
   |none=>
    rw[M]at h;intro next Q z
    obtain⟨τ,m,H,I⟩:=qF _ _ e h;exact V6 m j M H next Q (λD L E F i p G=>z D L E F i p (G.of_fz I))
   |some d=>grind
  case makeSlice T l c=>
   intro next Q z
   refine Oj e j h next Q (λD L E F i p G=>?_)
   obtain⟨U,s,t,_⟩:=Eu _ _ i p
   grind
  case slice T x lo hi mx=>exact Wc e j h
  case makeMap T r=>exact RR e j h
  case lookup T x k ok=>exact UY e j h
  case mapUpdate T x k v=>
   cases M:o.dst with
   |none=>
    rw[M]at h;have h:(match RQ C.heapT 400000 with|true=>K9 C T x k v σ K|false=>DY C T x k v σ K):=h;split at h
    .exact UX e j M h
    .exact Oi e j M h
   |some d=>grind
  case range T x=>exact Wp e j h
  case next x b=>exact Y5 e j h
  case entry x=>exact Yj e j h
  case call c=>
   obtain⟨A,args,N⟩:=c;cases A with
   |builtin b=>
    cases b<;>simp only[GI,Bool.true_eq_false]at R<;>simp only at h
    case append=>
     split at h
     .rename_i x y T tx Y ht;intro next Q z
      refine Vq e j rfl Y ht h next Q (λD L E F i p G=>?_)
      obtain⟨σ3,V,W,_⟩:=qF _ _ i p
      grind
     grind
    case cap=>exact(nJ e (λX b=>bg) h).stp e
    all_goals exact h.elim
   |value g=>
    simp only at h;split at h
    .rename_i f fs X hg;split at h
     .split at h
      .rename_i J;exact bfX e j rfl hg J h
      grind
     .split at h
      .rename_i J Z;exact aoZ u e j rfl hg J Z h
      grind
    grind
   |invoke r n=>exact h.elim
  all_goals (first|exact h.elim|(simp[GI]at R))
theorem Pv(c:aM B ι σ a w){d xs}(h:σ.ev (.tmp d)= .at (.val (.tuple xs))):a.tmps[d]? =none\/∃xs,a.tmps[d]? =some (.tuple xs):=by
 have b:=c.ev (.tmp d);rw[h]at b;have b:a.eval (.tmp d)= .tuple xs:=b;simp only[Act.eval,Array.getD_eq_getD_getElem?]at b
 grind
theorem I9(c:aM B ι σ a w){d t}(h:σ.ev (.tmp d)= .at (.val (.bool t))):a.tmps[d]? =some (.bool t):=by
 have b:=c.ev (.tmp d);rw[h]at b;have b:a.eval (.tmp d)= .bool t:=b;simp only[Act.eval,Array.getD_eq_getD_getElem?]at b;cases e:a.tmps[d]? with
 |none=>rw[e]at b;simp[undef]at b
 |some v=>grind
theorem aM.setTmp(b:aM B ι σ a w){c t}(h:σ.ev c= .at (.val (.bool t))):aM B ι (setTmp σ c t) a w:=by
 cases c with
 |tmp d=>
  refine⟨?_,b.defers,b.own,b.dist,b.fresh,b.wrel,b.one⟩;have i:=I9 b h;have:=b.slots.set d (x:=.at (.val (.bool t))) (v:=.bool t) rfl;show DenS ι (σ.sl.set d _) a.tmps.toList
  have e:a.tmps.toList.set d (.bool t)=a.tmps.toList:=by
   apply ext_getElem?
   grind
  grind
 |const v=>exact b
 |global g=>exact b
 |func f=>exact b
theorem SA{c t}(h:σ.ev c= .at (.val (.bool t))):Fz σ (setTmp σ c t):=by
 cases c with
 |tmp d=>
  refine⟨λ_ _ _ i h=>⟨i,h⟩,λ_ _ _ h=>h,?_,?_,rfl⟩
  .intro x k j b;cases x with
   |tmp e=>
    simp only[Vc.setTmp,St.ev,AI]at b;simp only[St.ev]
    grind
   |const v=>exact b
   |global g=>exact b
   |func f=>exact b
  .intro x k b;cases x with
   |tmp e=>
    simp only[Vc.setTmp,St.ev,AI]at b;simp only[St.ev]
    grind
   |const v=>exact b
   |global g=>exact b
   |func f=>exact b
 |const v=>exact Fz.refl σ
 |global g=>exact Fz.refl σ
 |func f=>exact Fz.refl σ
def GWp(C:Ctx)(ops:Array Oper)(o:Oper)(a:Act)(w:World)(next:Act->World->Prop)(Q:Exit->Act->World->Prop):=
 if Region.wanted o (yielded ops a.tmps)then o.wp C.P a w next Q else next (a.put o.dst undef) w
theorem R5{ops j d b t g}(e:o.guard=some (j,b))(c:nth ops.toList j=some g)(f:g.dst=some d)(h:a.tmps[d]? =some (.bool t)):
 Region.wanted o (yielded ops a.tmps)=(t==b):=by
 unfold Region.wanted;rw[e];rw[lU,Array.getElem?_toList]at c;simp[yielded,c,f,h]
theorem JK{ops j d b g}(f:o.guard=some (j,b))(e:nth ops.toList j=some g)(h:g.dst=some d)(c:a.tmps[d]? =none\/∃xs,a.tmps[d]? =some (.tuple xs)):
 Region.wanted o (yielded ops a.tmps)=false:=by
 unfold Region.wanted;rw[f];rw[lU,Array.getElem?_toList]at e;rcases c with c|⟨xs,c⟩<;>simp[yielded,e,h,c]
theorem Hk{f ops}(c:aM B ι σ a w)(h:Qw f ops o σ K):
 ∃e,aM B ι e a w/\Fz σ e/\((Region.wanted o (yielded ops a.tmps)=true/\f o e K)\/(Region.wanted o (yielded ops a.tmps)=false/\K (e.put o.dst (.at (.val undef))))):=by
 unfold Qw at h;split at h
 .rename_i i;exact⟨σ,c,Fz.refl σ,.inl ⟨by simp[Region.wanted,i],h⟩⟩
 .rename_i j m i;split at h
  .exact h.elim
  .rename_i g n;split at h
   .exact h.elim
   .rename_i d p;split at h
    .rename_i t b;have l:=I9 c b;have r:=R5 (o:=o) (a:=a) i n p l;rcases yD h with⟨rfl,h⟩|⟨rfl,h⟩
     .refine⟨setTmp σ (.tmp d) true,c.setTmp b,SA b,?_⟩
      grind
     .refine⟨setTmp σ (.tmp d) false,c.setTmp b,SA b,?_⟩
      grind
    .rename_i s b;exact⟨σ,c,Fz.refl σ,.inr ⟨JK i n p (Pv c b),h⟩⟩
    grind
theorem WX(c:∀g S,assoc C.specs g=some S->Sound C.P g S){ops}(m:aM B ι σ a w)(h:U7 C ops o σ K) next Q(b:∀i e f w',aM B i e f w'->K e->JI σ ι o w w'->next f w'):GWp C ops o a w next Q:=by
 obtain⟨t,d,j,n⟩:=Hk m h;unfold GWp;rcases n with⟨l,h⟩|⟨l,h⟩
 .rw[if_pos l];exact WC c d h next Q (λi e f w' p r s=>b i e f w' p r (s.of_fz j))
 .rw[if_neg (by simp[l])];exact b ι _ _ _ (d.put o.dst (x:=.at (.val undef)) rfl) h (nG m)
theorem Pr{P next Q}(h:o.wp P a w next Q):o.wpIn Fence.wide 0 P a w next Q:=by
 refine⟨λ_ _=>trivial,?_⟩;show o.uponIn Fence.wide 0 P a next Q ((execOp a.eval o).run P w)
 unfold Oper.wp at h;cases b:(execOp a.eval o).run P w with
 |ok x g=>
  rw[b]at h;cases x with
  |value v=>exact h
  |skip=>exact h
  |defer d=>exact h
  |enter f args=>exact⟨λe=>by simp[Fence.wide]at e,callsIn_wide.2 h⟩
  |row r args=>
   refine⟨λe=>by simp[Fence.wide]at e,λc i _=>?_⟩;obtain⟨v,j,l,m⟩:=h c i;exact⟨v,j,l,stepsIn_wide.2 m⟩
  |_=>exact h.elim
 |halt x g=>
  rw[b]at h;cases x with
  |panic v=>exact h
  |_=>exact h.elim
def bSQ(B:v7)(C:Ctx)(o:Oper)(K:St->Prop)(a:Act)(w:World):=
 ∀(next:Act->World->Prop)(Q:Exit->Act->World->Prop),(∀e b c d,aM B e b c d->K b->next c d)->o.wpIn Fence.wide 0 C.P a w next Q
theorem VW(s:aM B ι σ a w){c g l E cs}(O:o.op= .call c)(R:c.callee= .value g)(T:σ.ev g= .at (.val (.func (.yield l) E cs)))(U:E.toList=[])(V:cs.toList=[])(h:Ut C o (.func (.yield l) #[] #[]) c.args.toList σ K):bSQ B C o K a w:=by
 intro next Q p
 unfold Ut at h;split at h
 .exact h.elim
 .rename_i S hS;split at h
  .rename_i W t;obtain⟨X,h⟩:=h;have Y:=Dg s 0 _ _ _ t;subst Y;have F:=s.wrel;obtain⟨Z,v,f,y,M,i⟩:=X.go l _ σ.m σ.h w _ h ⟨F.hsat,F.msat,F.disj⟩;have H:a.eval g= .func (.yield l) E cs:=by have:=s.ev g;rw[T]at this;exact this
   have z:E= #[]:=bg
   have A:cs= #[]:=bg
   subst z A;have G:c.args.map a.eval=(c.args.toList.map a.eval).toArray:=bg
   have r:(execOp a.eval o).run C.P w= .ok (.round l Z v f y) w:=by
    unfold execOp;simp only[O,resolve,R,H,Deferred.ofValue,Sem.run_bind,Sem.run_pure,Result.andThen_ok,invoke]
    grind
   refine⟨λ_ _=>trivial,?_⟩;show o.uponIn Fence.wide 0 C.P a next Q ((execOp a.eval o).run C.P w)
   rw[r,Oper.uponIn_round];refine⟨λe=>by simp[Fence.wide]at e,i.mono ?_⟩;rintro e N ⟨u,m',h',rfl,hK,d⟩;show next (a.put o.dst u) N
   have I:Dt ⟨w,λb=>σ.m b≠none,σ.h,[]⟩ m' h' N:=
    ⟨d.tape,d.os,d.output,d.drawn,d.size,λb n D=>d.frame b n (Classical.byContradiction D),d.heapy.hsat,d.heapy.msat,d.heapy.disj,d.hle.le,λb n D=>d.hold b n (Classical.byContradiction D),λb J n=>d.mfr b J n⟩
   have L:=s.called I (λb n=>by
    cases hm:σ.m b with
    |none=>grind
    |some J=>exact F.mfr b J hm) (λj o' b hj n D=>D (s.fresh j o' b hj n).2.1)
   exact p ι _ _ _ (L.put o.dst (x:=.at (.val u)) rfl) hK
  grind
theorem aSQ(b:∀g S,assoc C.specs g=some S->Sound C.P g S)(f:aM B ι σ a w)(h:axZ C o σ K):bSQ B C o K a w:=by
 have i:UN C o σ K->bSQ B C o K a w:=λh next Q j=>Pr (WC b f h next Q (λm n p r s t _=>j m n p r s t))
 unfold axZ at h;split at h
 .rename_i c u;split at h
  .rename_i g v;split at h
   .rename_i l z A y;split at h
    .rename_i d e;exact VW f u v y d e h
    grind
   grind
  grind
 grind
theorem RT(c:∀g S,assoc C.specs g=some S->Sound C.P g S){ops}(l:aM B ι σ a w)(h:Qw (axZ C) ops o σ K) next Q(b:∀m i j w',aM B m i j w'->K i->next j w'):
 if Region.wanted o (yielded ops a.tmps)then o.wpIn Fence.wide 0 C.P a w next Q else(∀f,o.about C.P w a.eval=some f->Fence.wide.fn f)/\next (a.put o.dst undef) w:=by
 obtain⟨r,d,n,p⟩:=Hk l h;rcases p with⟨e,h⟩|⟨e,h⟩
 .rw[if_pos e];exact aSQ c d h next Q b
 .rw[if_neg (by simp[e])];exact⟨λ_ _=>trivial,b ι _ _ _ (d.put o.dst (x:=.at (.val undef)) rfl) h⟩
theorem Jc(b:∀g S,assoc C.specs g=some S->Sound C.P g S){ops:Array Oper}{Q:Exit->Act->World->Prop}{R:St->Prop}{rest:cm}(d:∀ι σ a w,aM B ι σ a w->R σ->wpOpsIn Fence.wide 0 C.P ops Q rest a w):
 ∀(l:List Oper)(s:Nat)(ι:ci)(σ:St)(a:Act)(w:World),(∀j,j<l.length->l[j]? =ops.toList[s+j]?)->aM B ι σ a w->avZ C ops l σ R->wpOpsIn Fence.wide 0 C.P ops Q (range' s l.length++rest) a w
 |[],s,ι,σ,a,w,_,c,h=>d ι σ a w c h
 |o::l,s,ι,σ,a,w,e,c,h=>by
  have f:ops[s]? =some o:=by have:=e 0 ay;grind
  simp only[length_cons,range'_succ,cons_append,wpOpsIn,f]
  exact RT b c h (wpOpsIn Fence.wide 0 C.P ops Q (range' (s+1) l.length++rest)) Q (λi m n p r t=>
   Jc b d l (s+1) i m n p (λj u=>by have:=e (j+1) bf;grind) r t)
end
end Go.Vc
namespace Go.Vc
open Go List
def Yd(P:Program)(ops:Array Oper)(w:World)(o:Oper)(v:Value)(a:Act):=
 (Region.wanted o (yielded ops a.tmps)=true/\(execOp a.eval o).run P w= .ok (.value v) w)\/(Region.wanted o (yielded ops a.tmps)=false/\v=undef)
def Aft(ops:Array Oper)(ok:Oper)(i:Nat):=waits ok i=true\/∃j b,ops[j]? =some b/\waits ok j=true/\waits b i=true
def aqQ ops b:=∀(k:Nat)(ok:Oper)(d:Nat),ops[k]? =some ok->ok.dst=some d->d∈b.looksAt ops->waits b k=true
structure bXZ(ops:Array Oper)(i:Nat)(oi:Oper):Prop where
 mv:b8Q oi.op=true
 look:∀(k:Nat)(ok:Oper)(d:Nat),ops[k]? =some ok->ok.dst=some d->d∈oi.looksAt ops->Aft ops ok i
structure Ssa(ops:Array Oper):Prop where
 look:∀(i:Nat)(oi:Oper),ops[i]? =some oi->aqQ ops oi\/bXZ ops i oi
 dst:∀(i k:Nat)(oi ok:Oper)(d:Nat),ops[i]? =some oi->ops[k]? =some ok->ok.dst=some d->i≠k->oi.dst≠some d
 topo:∀(i:Nat)(oi:Oper)(k:Nat),ops[i]? =some oi->waits oi k=true->k<i
 sel:∀(j:Nat)(o:Oper) cs b,ops[j]? =some o->o.op≠ .select cs b
theorem Aft.in_{ops ok i}{L:Array Bool}(h:Aft ops ok i)(c:∀j,waits ok j=true->L.getD j false=true)(d:∀(j:Nat)(b:Oper),ops[j]? =some b->L.getD j false=true->∀k,waits b k=true->L.getD k false=true):L.getD i false=true:=by
 rcases h with h|⟨j,b,e,f,g⟩
 .exact c i h
 grind
theorem Ssa.self{ops}(c:Ssa ops){k:Nat}{o}(b:ops[k]? =some o):∀d,o.dst=some d->d∉o.looksAt ops:=λd f g=>by
 rcases c.look k o b with h|h
 .have:=c.topo k o k b (h k o d b f g);omega
 .rcases h.look k o d b f g with e|⟨j,i,l,e,m⟩
  .have:=c.topo k o k b e;omega
  .have:=c.topo k o j b e;have:=c.topo j i k l m;omega
theorem btQ{P o}(h:b8Q o.op=true):B6 P o=false:=by
 unfold B6;cases e:o.op<;>simp_all [b8Q]
theorem LV{o k}:waits o k=true↔∃e∈o.after,Region.binds .any e=true/\e.on=k:=by
 unfold waits;rw[any_eq_true];constructor
 .rintro⟨e,b,h⟩;simp only[Bool.and_eq_true]at h;exact⟨e,bg,h.1,Nat.eq_of_beq_eq_true h.2⟩
 .rintro⟨e,b,c,d⟩;exact⟨e,bg,by simp[c,d]⟩
theorem bmQ{ops}(h:cEX ops=true)(t:Region.noSelect ops=true):Ssa ops:=by
 unfold cEX at h;simp only[all_eq_true,mem_range]at h;have l:∀{i:Nat}{m:Oper},ops[i]? =some m->i<ops.toList.length:=λf=>bg
 refine⟨?_,?_,?_,Region.noSelect_spec t⟩
 .intro i m f;have c:=h i (l f);rw[lU,Array.getElem?_toList,f]at c;simp only[Bool.and_eq_true,Bool.or_eq_true,all_eq_true,mem_range]at c;rcases c.2 with p|⟨u,p⟩
  .refine .inl λk ok d g n v=>?_;have b:=p k (l g);rw[lU,Array.getElem?_toList,g]at b
   grind
  .refine .inr ⟨u,λk ok d g n v=>?_⟩;have b:=p k (l g);rw[lU,Array.getElem?_toList,g]at b;simp only[n,Bool.or_eq_true,Bool.not_eq_true',contains_eq_mem,decide_eq_false_iff_not]at b;rcases b with b|b
   .grind
   .unfold cQZ at b;simp only[Bool.or_eq_true,any_eq_true,Bool.and_eq_true]at b;rcases b with b|⟨⟨y,j⟩,F,z,A⟩
    .exact .inl b
    .refine .inr ⟨j,y,?_,z,A⟩
     grind
 .intro i k m ok d f g n r;have c:=h i (l f);rw[lU,Array.getElem?_toList,f]at c;simp only[Bool.and_eq_true,all_eq_true,mem_range]at c;have b:=c.1.2 k (l g);rw[lU,Array.getElem?_toList,g]at b;simp only[n,Bool.or_eq_true]at b;rcases b with b|b
  .exact(r (Nat.eq_of_beq_eq_true b)).elim
  grind
 .intro i m k f D;have s:i<ops.toList.length:=bg
  have c:=h i s;rw[lU,Array.getElem?_toList,f]at c;simp only[Bool.and_eq_true,all_eq_true]at c;obtain⟨e,G,E,rfl⟩:=LV.1 D;have:=c.1.1 e bg;simp only[E,Bool.not_true,Bool.false_or]at this;rw[<-Nat.blt_eq];exact this
theorem yB{ops b j}:j∈Region.ready .any ops b↔b.getD j true=false/\∃o,ops[j]? =some o/\∀k,waits o k=true->b.getD k false=true:=by
 rw[mem_ready];constructor
 .rintro⟨c,o,d,f⟩;refine⟨c,o,d,λk i=>?_⟩;obtain⟨e,g,h,rfl⟩:=LV.1 i
  grind
 .rintro⟨c,o,d,f⟩;exact⟨c,o,d,λe g h=>f e.on (LV.2 ⟨e,g,h,rfl⟩)⟩
theorem U8{l:Array Bool}{i}(h:l.getD i true=false):l.getD i false=false/\i<l.size:=by
 grind
theorem wU{l:Array Bool}{i}(h:i<l.size):(l.setIfInBounds i true).getD i false=true:=by
 simp[Array.getD,h]
theorem Jz{ops o}{c e:Act}(l:∀cs b,o.op≠ .select cs b)(h:∀t∈o.looksAt ops,c.tmps[t]? =e.tmps[t]?):
 execOp c.eval o=execOp e.eval o/\Region.wanted o (yielded ops c.tmps)=Region.wanted o (yielded ops e.tmps):=by
 constructor
 .refine execOp_congr o l λx m=>?_;cases x with
  |tmp t=>
   have:t∈o.looksAt ops:=mem_append_left _ (mem_filterMap.2 ⟨.tmp t,bg,rfl⟩);simp only[Act.eval,Array.getD_eq_getD_getElem?,h t this]
  |const v=>rfl
  |global g=>rfl
  |func f=>rfl
 .unfold Region.wanted;split
  .rfl
  .rename_i j i n
   have:yielded ops c.tmps j=yielded ops e.tmps j:=by
    unfold yielded;cases p:(ops[j]?).bind (·.dst)with
    |none=>rfl
    |some d=>
     have r:d∈o.looksAt ops:=by
      unfold Oper.looksAt
      grind
     grind
   rw[this]
theorem OB{a:Act}{d v t}(h:d≠some t):(a.put d v).tmps[t]? =a.tmps[t]? :=by
 cases d with
 |none=>rfl
 |some e=>
  have:e≠t:=λx=>h (by rw[x]);simp[Act.put,Array.getElem?_setIfInBounds_ne this]
theorem b4J(a:Act) d u v:(a.put d u).put d v=a.put d v:=by
 cases d with
 |none=>rfl
 |some e=>simp[Act.put]
structure Ua(P:Program)(ops:Array Oper)(L Cl:Array Bool)(ar ac:Act)(w:World):Prop where
 szL:L.size=ops.size
 szC:Cl.size=ops.size
 sub:∀i,L.getD i false=true->Cl.getD i false=true
 rd:∀(i:Nat)(o:Oper),ops[i]? =some o->Cl.getD i false=true->L.getD i false=false->GI o.op=true
 clC:∀(i:Nat)(o:Oper),ops[i]? =some o->Cl.getD i false=true->∀k,waits o k=true->Cl.getD k false=true
 clL:∀(i:Nat)(o:Oper),ops[i]? =some o->L.getD i false=true->∀k,waits o k=true->L.getD k false=true
 tsz:ar.tmps.size=ac.tmps.size
 df:ar.defers=ac.defers
 agree:∀t,(∀(i:Nat)(o:Oper),ops[i]? =some o->Cl.getD i false=true->L.getD i false=false->o.dst≠some t)->ar.tmps[t]? =ac.tmps[t]?
 pend:∀(i:Nat)(o:Oper),ops[i]? =some o->Cl.getD i false=true->L.getD i false=false->∃v,(aqQ ops o->∀w'',(B6 P o=false\/w''=w)->Yd P ops w'' o v ac)/\(bXZ ops i o->∀w'',Yd P ops w'' o v ar)/\ac.put o.dst v=ac
section
variable{P:Program}{ops:Array Oper}{L Cl:Array Bool}{ar ac:Act}{w:World}
theorem Yd.congr{o v a b w}(h:Yd P ops w o v a)(c:execOp b.eval o=execOp a.eval o)(d:Region.wanted o (yielded ops b.tmps)=Region.wanted o (yielded ops a.tmps)):Yd P ops w o v b:=by
 unfold Yd at*
 grind
theorem Ua.looks(h:Ua P ops L Cl ar ac w){o}(b:aqQ ops o)(c:∀k,waits o k=true->L.getD k false=true):∀t∈o.looksAt ops,ar.tmps[t]? =ac.tmps[t]? :=by
 intro t d;refine h.agree t (λk ok e _ g f=>?_);have:=c k (b k ok t e f d)
 grind
theorem Ua.looks'(h:Ua P ops L Cl ar ac w){i o}(b:bXZ ops i o)(g:Cl.getD i false=false):∀t∈o.looksAt ops,ar.tmps[t]? =ac.tmps[t]? :=by
 intro t e;refine h.agree t (λk ok d c _ f=>?_);have:=(b.look k ok t d f e).in_ (h.clC k ok d c) h.clC
 grind
theorem Ua.stepA(s:Ssa ops)(h:Ua P ops L Cl ar ac w){i o}(y:ops[i]? =some o)(M:Cl.getD i false=true)(z:∀k,waits o k=true->L.getD k false=true){v}(r:ac.put o.dst v=ac):
 Ua P ops (L.setIfInBounds i true) Cl (ar.put o.dst v) ac w:=by
 have n:i<L.size:=by rw[h.szL];grind
 have g:∀k,(L.setIfInBounds i true).getD k false=false->L.getD k false=false/\k≠i:=by
  intro k c;by_cases e:i=k
  .subst e;rw[wU n]at c;cases c
  .rw[getD_set_ne false e]at c;grind
 refine⟨bk h.szL,h.szC,?_,λk ok c f b=>h.rd k ok c f (g k b).1,h.clC,?_,?_,?_,?_,λk ok c f b=>?_⟩
 .intro k c;by_cases e:i=k
  .grind
  .rw[getD_set_ne false e]at c;exact h.sub k c
 .intro k ok c b j A;by_cases e:i=k
  .grind
  .rw[getD_set_ne false e]at b;exact getD_set_true (h.clL k ok c b j A)
 .rw[<-h.tsz];cases o.dst<;>simp[Act.put]
 .rw[<-h.df];cases o.dst<;>rfl
 .intro t D;by_cases e:o.dst=some t
  .rw[e]at r⊢
   rw[<-r];simp only[Act.put,Array.getElem?_setIfInBounds_self,h.tsz]
  .rw[OB e];refine h.agree t (λk ok c f b=>?_);by_cases E:i=k
   .grind
   .exact D k ok c f (by rw[getD_set_ne false E];exact b)
 .obtain⟨u,F,G,H⟩:=h.pend k ok c f (g k b).1;refine⟨u,F,λl p=>?_,H⟩
  have m:∀d,o.dst=some d->d∉ok.looksAt ops:=λd I J=>by
   have:=(l.look i o d y I J).in_ z h.clL
   grind
  exact(G l p).congr (execOp_put ok (s.sel k ok · · c) ar o.dst v m) (wanted_put ok ar o.dst v m)
theorem Ua.take(z:Ssa ops)(h:Ua P ops L Cl ar ac w){k o}(r:ops[k]? =some o)(F:Cl.getD k false=false)(X:∀j,waits o j=true->Cl.getD j false=true)(S:GI o.op=true){v}(Q:∀c,(B6 P o=false\/c=w)->Yd P ops c o v ac):Ua P ops L (Cl.setIfInBounds k true) ar (ac.put o.dst v) w:=by
 have G:k<Cl.size:=by rw[h.szC];grind
 have f:∀j,(Cl.setIfInBounds k true).getD j false=true->j=k\/Cl.getD j false=true:=by
  intro j y;by_cases e:k=j
  .omega
  .rw[getD_set_ne false e]at y;exact .inr y
 have H:L.getD k false=false:=by
  cases T:L.getD k false with
  |false=>rfl
  |true=>rw[h.sub k T]at F;cases F
 have s:∀j,Cl.getD j false=true->(Cl.setIfInBounds k true).getD j false=true:=by
  intro j y;exact getD_set_true y
 have A:=z.self r;refine⟨h.szL,bk h.szC,λi g=>s i (h.sub i g),?_,?_,h.clL,?_,?_,?_,?_⟩
 .intro i l g b m;rcases f i b with rfl|b
  .grind
  .exact h.rd i l g b m
 .intro i l g b j y;rcases f i b with rfl|b
  .grind
  .exact s j (h.clC i l g b j y)
 .rw[h.tsz];cases o.dst<;>simp[Act.put]
 .rw[h.df];cases o.dst<;>rfl
 .intro t R;have e:o.dst≠some t:=R k o r (wU G) H;rw[OB e];exact h.agree t (λi l g b m=>R i l g (s i b) m)
 .intro i l g b m;by_cases e:i=k
  .subst e;rw[r]at g;cases g;refine⟨v,λ_ c I=>(Q c I).congr (execOp_put o (z.sel i o · · r) ac o.dst v A) (wanted_put o ac o.dst v A),λD c=>?_,b4J _ _ _ _⟩;obtain⟨U,J⟩:=Jz (z.sel i o · · r) (h.looks' D F);exact(Q c (.inl (btQ D.mv))).congr U J
  .have n:=(f i b).resolve_left e;obtain⟨u,V,M,N⟩:=h.pend i l g n m;refine⟨u,λE c I=>?_,M,?_⟩
   .have p:∀d,o.dst=some d->d∉l.looksAt ops:=λd O W=>by
     have:=h.clC i l g n k (E k o d r O W)
     grind
    exact(V E c I).congr (execOp_put l (z.sel i l · · g) ac o.dst v p) (wanted_put l ac o.dst v p)
   rw[Act.put_comm ac v u (λd O=>z.dst i k l o d g r O e),N]
theorem VX{o i m w b g Q}(p:execOp m.eval o=execOp i.eval o)(h:o.wp P i w b Q)(s:∀v w',b (i.put o.dst v) w'->g (m.put o.dst v) w')(t:∀d w',¬b (({i with defers:=d::i.defers}:Act).put o.dst undef) w')(y:∀c a w,¬Q (.panic c) a w):o.wp P m w g Q:=by
 unfold Oper.wp at*
 rw[p];generalize (execOp i.eval o).run P w=r at*
 cases r with
 |ok n w'=>
  cases n<;>simp only[Oper.upon]at h⊢
  case value u=>grind
  case skip=>grind
  case defer d=>grind
  case enter f args=>
   refine Calls.mono h λe j l=>?_
   grind
  case row row args=>exact Rows.mono h λu j l=>s u j l
 |halt x w'=>
  cases x<;>simp only[Oper.upon]at h⊢
  grind
theorem Ua.stepB(I:Ssa ops)(h:Ua P ops L Cl ar ac w){j o}(G:ops[j]? =some o)(U:Cl.getD j false=false)(R:∀k,waits o k=true->L.getD k false=true) u w'(J:∀(i:Nat)(c:Oper)(v:Value),ops[i]? =some c->Cl.getD i false=true->L.getD i false=false->Yd P ops w c v ac->Yd P ops w' c v ac\/B6 P c=false):
 Ua P ops (L.setIfInBounds j true) (Cl.setIfInBounds j true) (ar.put o.dst u) (ac.put o.dst u) w':=by
 have A:j<Cl.size:=by rw[h.szC];grind
 have D:j<L.size:=by rw[h.szL];grind
 have l:∀i,(Cl.setIfInBounds j true).getD i false=true->i=j\/Cl.getD i false=true:=by
  intro i b;by_cases e:j=i
  .omega
  .rw[getD_set_ne false e]at b;exact .inr b
 have m:∀i,(L.setIfInBounds j true).getD i false=false->i≠j/\L.getD i false=false:=by
  intro i b;by_cases e:j=i
  .subst e;rw[wU D]at b;cases b
  .rw[getD_set_ne false e]at b;grind
 have s:∀i,Cl.getD i false=true->(Cl.setIfInBounds j true).getD i false=true:=λi b=>getD_set_true b;refine⟨bk h.szL,bk h.szC,?_,?_,?_,?_,?_,?_,?_,?_⟩
 .intro i b;by_cases e:j=i
  .subst e;exact wU A
  .rw[getD_set_ne false e]at b;exact s i (h.sub i b)
 .intro i c b f g;obtain⟨n,p⟩:=m i g;exact h.rd i c b ((l i f).resolve_left n) p
 .intro i c b f k H;rcases l i f with rfl|f
  .rw[G]at b;cases b;exact s k (h.sub k (R k H))
  .exact s k (h.clC i c b f k H)
 .intro i c b g k H;by_cases e:j=i
  .grind
  .rw[getD_set_ne false e]at g;exact getD_set_true (h.clL i c b g k H)
 .cases o.dst<;>simp[Act.put,h.tsz]
 .have:=h.df;cases o.dst<;>exact this
 .intro t S;by_cases e:o.dst=some t
  .rw[e];simp only[Act.put,Array.getElem?_setIfInBounds_self,h.tsz]
  .rw[OB e,OB e];refine h.agree t (λi c b f g=>S i c b (s i f) ?_);have n:j≠i:=λx=>bg
   rw[getD_set_ne false n];exact g
 .intro i c b f g;obtain⟨n,p⟩:=m i g;have y:=(l i f).resolve_left n;obtain⟨v,V,M,N⟩:=h.pend i c b y p;refine⟨v,λO z W=>?_,λE z=>?_,?_⟩
  .have r:∀d,o.dst=some d->d∉c.looksAt ops:=λd F Q=>by
    have:=h.clC i c b y j (O j o d G F Q)
    grind
   have T:Yd P ops z c v ac:=by
    grind
   exact T.congr (execOp_put c (I.sel i c · · b) ac o.dst u r) (wanted_put c ac o.dst u r)
  .have r:∀d,o.dst=some d->d∉c.looksAt ops:=λd F Q=>by
    have:=(E.look j o d G F Q).in_ R h.clL
    grind
   exact(M E z).congr (execOp_put c (I.sel i c · · b) ar o.dst u r) (wanted_put c ar o.dst u r)
  .rw[Act.put_comm ac u v (λd F=>I.dst i j c o d b G F n),N]
end
section
variable{B:v7}{C:Ctx}{ι:ci}{σ:St}{a:Act}{w:World}
theorem Wa{P b σ c d K}(h:NA P b σ c d K):NA P b σ c d True/\K:=by
 unfold NA at h⊢
 repeat' split at h
 all_goals first|exact h.elim|skip
 all_goals simp_all
theorem Py{P:Program}{e:Bool}{ops:Array Oper}{b:Array Bool}{σ:St}{c:Oper}:∀(l:List Oper)(s:Nat){K:Prop},LY P e ops b σ c s l K->
 K/\∀(i:Nat)(d:Oper),l[i]? =some d->b.getD (s+i) false=true->GI d.op=true->waits c (s+i)=false->Bm ops σ d=false->NA P e σ c d True
 |[],s,K,h=>⟨h,λi d f=>by simp at f⟩
 |o::l,s,K,h=>by
  have key:(LY P e ops b σ c (s+1) l K)/\(b.getD s false=true->GI o.op=true->waits c s=false->Bm ops σ o=false->NA P e σ c o True):=by
   simp only[LY]at h;split at h
   .obtain⟨g,j⟩:=Wa h
    grind
   grind
  obtain⟨m,n⟩:=Py l (s+1) key.1
  grind
theorem V9{σ b c τ K}(h:JT σ b c τ K):JT σ b c τ True/\K:=by
 unfold JT at h⊢
 repeat' split at h
 all_goals simp_all
theorem Nz{ops:Array Oper}{b:Array Bool}{σ:St}{c:Oper}{τ:St}:∀(l:List Oper)(s:Nat){K:Prop},HC ops b σ c τ s l K->
 K/\∀(i:Nat)(d:Oper),l[i]? =some d->b.getD (s+i) false=true->GI d.op=true->waits c (s+i)=false->Bm ops σ d=false->JT σ c d τ True
 |[],s,K,h=>⟨h,λi d e=>by simp at e⟩
 |o::l,s,K,h=>by
  have key:(HC ops b σ c τ (s+1) l K)/\(b.getD s false=true->GI o.op=true->waits c s=false->Bm ops σ o=false->JT σ c o τ True):=by
   simp only[HC]at h;split at h
   .obtain⟨f,g⟩:=V9 h
    grind
   grind
  obtain⟨j,m⟩:=Nz l (s+1) key.1
  grind
theorem U2{ops c}(e:aM B ι σ a w)(h:Bm ops σ c=true):Region.wanted c (yielded ops a.tmps)=false:=by
 unfold Bm at h;split at h
 .cases h
 .rename_i j f i;split at h
  .cases h
  .rename_i g l;split at h
   .cases h
   .rename_i d m;split at h
    .rename_i t b;rw[R5 i l m (I9 e b)]
     grind
    .rename_i n b;exact JK i l m (Pv e b)
    .cases h
theorem Di(m:aM B ι σ a w){k:Nat}{p:Own}(c:nth σ.own k=some (some p)){b:Nat}(n:blk (ι k)=some b):∀{l:cw},IL σ k l=true->∀x∈l,∀j,(σ.ev x= .at (.lst j)\/∃off,σ.ev x= .at (.ptr j off))->blk (ι j)≠some b
 |[],_,x,d=>by cases d
 |y::r,h,x,d=>by
  simp only[IL,Bool.and_eq_true]at h;rcases mem_cons.1 d with rfl|d
  .intro j e g;have f:=h.1;rcases e with e|⟨off,e⟩
   all_goals
    simp only[e]at f;split at f
    .rename_i s i;have:=m.dist j k _ _ b i c g n;subst this;simp at f
    .cases f
  .exact Di m c n h.2 x d
theorem b5Q{ops fl oj U v w'}(D:aM B ι σ a w)(hk:JI σ ι oj w w')(f:NA C.P fl σ oj U True)(a':fl=true->∃τ:St,Dt B τ.m τ.h w'/\JT σ oj U τ True)(hy:Yd C.P ops w U v a):Yd C.P ops w' U v a\/B6 C.P U=false:=by
 unfold NA at f;split at f
 .grind
 .left;rcases hy with⟨hw,b4⟩|hy
  .left;refine⟨hw,?_⟩;split at f
   .rename_i T x G;split at f
    .grind
    .rename_i hT;have z:=D.ev x
     have V:∀(b y:Nat)(H:bt),a.eval x= .pointer (some ⟨b,y,none⟩)->H.length=C.P.cellsOf T->(∀j u,H[j]? =some u->w.cell? ⟨b,y+j,none⟩=some u)->(∀j u,H[j]? =some u->w'.cell? ⟨b,y+j,none⟩=some u)->
      (execOp a.eval U).run C.P w'= .ok (.value v) w':=by
      intro b y H I W hc a6;have Y:=Br hT W hc;have h2:=Br hT W a6
      have e1:(execOp a.eval U).run C.P w= .ok (.value (mkV C.P T H)) w:=by
       unfold execOp;simp only[G,I,Instr.loadAt,Instr.sureAddr,Sem.run_bind,Sem.run_pure,Result.andThen_ok,Y]
      have e2:(execOp a.eval U).run C.P w'= .ok (.value (mkV C.P T H)) w':=by
       unfold execOp;simp only[G,I,Instr.loadAt,Instr.sureAddr,Sem.run_bind,Sem.run_pure,Result.andThen_ok,h2]
      grind
     split at f
     .rename_i k y I;rw[I]at z;split at f
      .rename_i p T' H r;split at f
       .rename_i ht a1;have a1:=Nat.le_of_ble_eq_true a1;obtain⟨b,vs,hι,hh,a7⟩:=Ar D r;obtain⟨b',a0,a8⟩:=z;rw[hι]at a0;simp only[Value.pointer.injEq,Option.some.injEq,Addr.mk.injEq]at a0;obtain⟨rfl, -, -⟩:=a0;have a2:=hk.cells k p T' H b r ht hι;rw[hh]at a2;have b5:H.length=vs.toList.length:=a7.length;refine V b y ((vs.toList.drop y).take (C.P.cellsOf T)) a8 bg (λj u J=>?_) (λj u J=>?_)
        .rw[cell_of_heap hh];grind
        .rw[cell_of_heap a2];grind
       grind
      grind
     .rename_i b y d I hd;rw[I]at z;have z:a.eval x= .pointer (some ⟨b,y,none⟩):=z;split at f
      .rename_i H a3;split at f
       .rename_i l W;split at f
        .rename_i F;split at f
         .rename_i X;have hc:=Ff D.wrel f.1;refine V b y l z (Nat.eq_of_beq_eq_true F) hc (λj u J=>?_);have Y:=hc j u J;cases M:BB oj.op with
          |false=>
           rw[M,Bool.false_or]at X;obtain⟨τ,a9,h2⟩:=a' X;unfold JT at h2;simp only[G,I,hd,a3,W,M]at h2;exact Ff a9 h2.1 j u J
          |true=>
          have X:=M;rw[<-Y];exact World.cell?_of_block (w:=w) (w':=w') (a:=⟨b,y+j,none⟩) (hk.ext X b (World.block_lt_of_cell? w ⟨b,y+j,none⟩ Y))
         .refine V b y l z (Nat.eq_of_beq_eq_true F) (λj u J=>D.wrel.hsat _ _ _ (f.1.rd j u J)) (λj u J=>hk.imm _ _ _ (f.1.rd j u J))
        grind
       grind
      grind
     .rename_i k i sz y d I hd;rw[I]at z;split at f
      .rename_i E' s S H r a3;split at f
       .rename_i l W hs t;have hs:=Nat.eq_of_beq_eq_true hs;subst hs;split at f
        .rename_i F;obtain⟨e,he,b0⟩:=f.1;obtain⟨N,Z⟩:=tV D r;obtain⟨b,n,c,hι,hp⟩:=z
         have A:∀b,blk (ι k)=some b->w'.heap[b]? =w.heap[b]? :=by
          intro b O;have Q:=tE (D.own k _ r) O;unfold Vr at t;rw[Bool.or_eq_true]at t;rcases t with t|t
          .exact hk.ext t b Q
          .split at t
           .rename_i l W;refine hk.args l b W Q (D.fresh k _ b r O).2.1 ?_;exact Di D r O t
           .cases t
         have R:w'.ownsRow 0 E' s (ι k) S.length S.flatten:=((D.own k _ r).world (λb O=>A b O)).2
         have rd:∀w1:World,w1.ownsRow 0 E' s (ι k) S.length S.flatten->∀j u,l[j]? =some u->w1.cell? ⟨b,i*s+y+j,none⟩=some u:=by
          intro w1 Y j u J;rw[<-b0]at J;have b1:=Sb J;have hf:=oK N.len he _ _ b1;have:=Y.cells (g:=b) (by rw[hι];rfl) _ _ hf;rw[Addr.add_none]at this
          grind
         exact V b (i*s+y) l hp (Nat.eq_of_beq_eq_true F) (rd w Z) (rd w' R)
        grind
       grind
      grind
     grind
   .rename_i src b6 x G;have z:=D.ev x;split at f
    .rename_i k d I hd;rw[I]at z;have z:a.eval x=ι k:=z;split at f
     .rename_i E' sz S s r hs;split at f
      .rename_i E a4 a5;split at f
       .rename_i hE;split at f
        .rename_i t;have b2:=f.1;obtain⟨N,Z⟩:=tV D r;have b3:S=aX s.data.toList:=b2
         have A:∀b,blk (ι k)=some b->w'.heap[b]? =w.heap[b]? :=by
          intro b O;have Q:=tE (D.own k _ r) O;unfold Vr at t;rw[Bool.or_eq_true]at t;rcases t with t|t
          .exact hk.ext t b Q
          .split at t
           .rename_i l W;refine hk.args l b W Q (D.fresh k _ b r O).2.1 ?_;exact Di D r O t
           .cases t
         have R:w'.ownsRow 0 E' sz (ι k) S.length S.flatten:=((D.own k _ r).world (λb O=>A b O)).2
         have go:∀w1:World,w1.ownsRow 0 E' sz (ι k) S.length S.flatten->(execOp a.eval U).run C.P w1= .ok (.value (.string ⟨s.data.toList.toArray⟩)) w1:=by
          intro w1 Y;subst b3;exact Gx G a4 hE a5 z Y
         grind
        grind
       grind
      grind
     grind
    grind
   grind
  .exact .inr hy
theorem T8{g:Nat->Prop}:∀{l:cm},bQX g l->∀j∈l,g j
 |[],_,j,b=>by cases b
 |[i],h,j,b=>by simp at b;subst b;exact h
 |i::k::r,h,j,b=>by
  rcases mem_cons.1 b with rfl|b
  .exact h.1
  .exact T8 h.2 j b
theorem Gh{ops:Array Oper}:∀{l:cm}{i:Nat}{o:Oper},Iq ops l=some (i,o)->i∈l/\ops[i]? =some o/\GI o.op=true
 |[],i,o,h=>by simp[Iq]at h
 |k::r,i,o,h=>by
  simp only[Iq]at h;split at h
  .rename_i ok b;split at h
   .rename_i e;simp only[Option.some.injEq,Prod.mk.injEq]at h;obtain⟨rfl,rfl⟩:=h;rw[lU,Array.getElem?_toList]at b
    grind
   .obtain⟨c,d⟩:=Gh h
    grind
  .obtain⟨c,d⟩:=Gh h
   grind
def wS(ops:Array Oper)(L:Array Bool):=((List.range ops.size).filter λi=> !L.getD i false).length
theorem JO{ops L i}(d:L.size=ops.size)(h:i<ops.size)(m:L.getD i false=false):wS ops (L.setIfInBounds i true)+1=wS ops L:=by
 unfold wS
 have key:∀(l:cm),l.Nodup->(l.filter λj=> !(L.setIfInBounds i true).getD j false).length+(if i∈l then 1 else 0)=(l.filter λj=> !L.getD j false).length:=by
  intro l
  induction l with
  |nil=>intro _;simp
  |cons j r f=>
   intro c;have b:=nodup_cons.1 c;have:=f b.2;by_cases e:i=j
   .subst e;have g:(L.setIfInBounds i true).getD i false=true:=wU aC
    grind
   .have g:(L.setIfInBounds i true).getD j false=L.getD j false:=getD_set_ne false e
    grind
 grind
theorem Nd{ops L}(c:Ssa ops)(f:L.size=ops.size)(h:Region.ready .any ops L=[]):∀i,i<ops.size->L.getD i false=true:=by
 intro i
 induction i using Nat.strongRecOn with
 |_ i g=>
  intro d;cases j:L.getD i false with
  |true=>rfl
  |false=>
   exfalso;have b:ops[i]? =some ops[i]:=Array.getElem?_eq_getElem d
   have:i∈Region.ready .any ops L:=by
    rw[yB];refine⟨?_,_,b,λk e=>g k (c.topo i _ k b e) (Nat.lt_trans (c.topo i _ k b e) d)⟩
    grind
   grind
theorem EI{ops L}(h:∀i,i<ops.size->L.getD i false=true):Region.ready .any ops L=[]:=by
 cases b:Region.ready .any ops L with
 |nil=>rfl
 |cons i r=>
  exfalso;have:i∈Region.ready .any ops L:=bg
  obtain⟨c,o,d,_⟩:=yB.1 this
  grind
theorem Ua.eq_of_all{P ops L Cl ar ac}(h:Ua P ops L Cl ar ac w)(b:∀i,i<ops.size->L.getD i false=true):ar=ac:=by
 have c:ar.tmps=ac.tmps:=by
  apply Array.ext_getElem?;intro t;refine h.agree t (λi o d _ e=>?_)
  grind
 have f:=h.df;cases ar;cases ac
 grind
theorem biX{ops R n Cl}(h:D3 C ops n Cl σ R)(b:Region.ready .any ops Cl=[]):R σ:=by
 cases n<;>simp only[D3,b]at h<;>exact h
theorem Yy{ops b σ d τ K}(h:LL C ops b σ d τ K):
 (apZ C=true->∀(i:Nat)(c:Oper),ops.toList[i]? =some c->b.getD (0+i) false=true->GI c.op=true->waits d (0+i)=false->Bm ops σ c=false->JT σ d c τ True)/\K:=by
 unfold LL at h;split at h
 .rename_i e;obtain⟨f,g⟩:=Nz _ 0 h
  grind
 grind
theorem T6(F:∀g S,assoc C.specs g=some S->Sound C.P g S){ops}(G:Ssa ops){Q R}(hQ:∀ι σ a w,aM B ι σ a w->R σ->Q .normal a w)(b':∀c a w,¬Q (.panic c) a w):
 ∀(n:Nat)(b:Nat)(Cl:Array Bool)(ι:ci)(σ:St)(ac:Act)(w:World),aM B ι σ ac w->D3 C ops n Cl σ R->∀(L:Array Bool)(ar:Act),Ua C.P ops L Cl ar ac w->wS ops L=b->
  wpAny C.P .any ops Q b L ar w:=by
 have fin:∀(n:Nat)(Cl:Array Bool)(ι:ci)(σ:St)(ac:Act)(w:World),aM B ι σ ac w->D3 C ops n Cl σ R->∀(L:Array Bool)(ar:Act),Ua C.P ops L Cl ar ac w->Region.ready .any ops L=[]->Q .normal ar w:=by
  intro n Cl ι σ ac w m h L ar f hr;have p:=Nd G f.szL hr;rw[f.eq_of_all p];exact hQ ι σ ac w m (biX h (EI (λi t=>f.sub i (p i t))))
 have zero:∀(n:Nat)(Cl:Array Bool)(ι:ci)(σ:St)(ac:Act)(w:World),aM B ι σ ac w->D3 C ops n Cl σ R->∀(L:Array Bool)(ar:Act),Ua C.P ops L Cl ar ac w->wS ops L=0->wpAny C.P .any ops Q 0 L ar w:=by
  intro n Cl ι σ ac w m h L ar f T
  have p:∀i,i<ops.size->L.getD i false=true:=by
   intro i t;unfold wS at T;have b9:=eq_nil_of_length_eq_zero T;cases hL:L.getD i false with
   |true=>rfl
   |false=>
    have:i∈(List.range ops.size).filter λi=> !L.getD i false:=mem_filter.2 ⟨mem_range.2 t,by simp[hL]⟩
    grind
  have hr:=EI p;exact⟨hr,fin n Cl ι σ ac w m h L ar f hr⟩
 have b0:∀(n b:Nat),(∀(Cl:Array Bool)(ι:ci)(σ:St)(ac:Act)(w:World),aM B ι σ ac w->D3 C ops n Cl σ R->∀(L:Array Bool)(ar:Act),Ua C.P ops L Cl ar ac w->wS ops L=b->wpAny C.P .any ops Q b L ar w)->
  ∀(Cl:Array Bool)(ι:ci)(σ:St)(ac:Act)(w:World),aM B ι σ ac w->D3 C ops n Cl σ R->∀(L:Array Bool)(ar:Act),Ua C.P ops L Cl ar ac w->wS ops L=b+1->
   ∀i∈Region.ready .any ops L,Cl.getD i false=true->wpOp C.P ops Q i (wpAny C.P .any ops Q b (L.setIfInBounds i true)) ar w:=by
  intro n b ih Cl ι σ ac w m h L ar f T i t hC;obtain⟨H,o,r,M⟩:=yB.1 t;obtain⟨hL,b1⟩:=U8 H;obtain⟨v,hv,c0,b2⟩:=f.pend i o r hC hL
  have hy:Yd C.P ops w o v ar:=by
   rcases G.look i o r with I|c1
   .obtain⟨he,U⟩:=Jz (G.sel i o · · r) (f.looks I M);exact(hv I w (.inr rfl)).congr he U
   grind
  have V:wpAny C.P .any ops Q b (L.setIfInBounds i true) (ar.put o.dst v) w:=
   ih Cl ι σ ac w m h _ _ (f.stepA G r hC M b2) (by have:=JO f.szL bg hL;omega)
  unfold wpOp;simp only[r];rcases hy with⟨l,y⟩|⟨l,rfl⟩
  .rw[if_pos l];left;unfold Oper.wp;rw[y,Oper.upon_value];exact V
  grind
 intro n
 induction n with
 |zero=>
  intro b
  induction b with
  |zero=>exact zero 0
  |succ b b3=>
   intro Cl ι σ ac w m h L ar f T;refine⟨fin 0 Cl ι σ ac w m h L ar f,λi t=>?_⟩;cases hC:Cl.getD i false with
   |true=>grind
   |false=>
    exfalso;obtain⟨H,o,r,M⟩:=yB.1 t
    have a1:i∈Region.ready .any ops Cl:=by
     rw[yB];refine⟨?_,o,r,λk hk=>f.sub k (M k hk)⟩;have:i<Cl.size:=by rw[f.szC];grind
     grind
    simp only[D3]at h
    grind
 |succ n W=>
  intro b
  induction b with
  |zero=>grind
  |succ b b3=>
   intro Cl ι σ ac w m h L ar f T;refine⟨fin (n+1) Cl ι σ ac w m h L ar f,λi t=>?_⟩;cases hC:Cl.getD i false with
   |true=>grind
   |false=>
    obtain⟨H,o,r,M⟩:=yB.1 t;obtain⟨b4,b1⟩:=U8 H
    have a1:i∈Region.ready .any ops Cl:=by
     rw[yB];refine⟨?_,o,r,λk hk=>f.sub k (M k hk)⟩;have:i<Cl.size:=by rw[f.szC];grind
     grind
    simp only[D3]at h;split at h
    .grind
    .split at h
     ·
      rename_i k ok b5;obtain⟨b6,X,z⟩:=Gh b5;obtain⟨a2,c2,N,a3⟩:=yB.1 b6;rw[X]at N;cases N;obtain⟨a4,c'⟩:=U8 a2;obtain⟨σ1,Y,c3,hc⟩:=Hk m h;rcases hc with⟨l,h⟩|⟨l,h⟩
      .obtain⟨v,x,y,hx,hK⟩:=bqX Y z h;have A:=f.take G X a4 a3 z (v:=v) (λa5 a6=>.inl ⟨l,y a5 a6⟩);exact(W (b+1) _ ι _ _ w (Y.put ok.dst hx) hK L ar A T).2 i t
      .have A:=f.take G X a4 a3 z (v:=undef) (λa5 _=>.inr ⟨l,rfl⟩);exact(W (b+1) _ ι _ _ w (Y.put ok.dst (x:=.at (.val undef)) rfl) h L ar A T).2 i t
     ·
      have hg:=T8 h i a1;split at hg
      .rename_i o' a7;rw[lU,Array.getElem?_toList,r]at a7;cases a7;obtain⟨hg,Z⟩:=Py _ 0 hg;obtain⟨he,U⟩:=Jz (G.sel i o · · r) ((G.look i o r).elim (f.looks · M) (f.looks' · hC));have a0:=WX F m hg (λa' D=>∃O s,aM B O s a' D/\LL C ops Cl σ o s (D3 C ops n (Cl.setIfInBounds i true) s R)/\JI σ ι o w D) Q (λO s a' D h1 h2 h3=>⟨O,s,h1,h2,h3⟩)
       have hB:∀(u:Value)(D:World),(∃O s,aM B O s (ac.put o.dst u) D/\LL C ops Cl σ o s (D3 C ops n (Cl.setIfInBounds i true) s R)/\JI σ ι o w D)->
        wpAny C.P .any ops Q b (L.setIfInBounds i true) (ar.put o.dst u) D:=by
        rintro u D ⟨O,s,J,h',b7⟩;obtain⟨b8,h'⟩:=Yy h';refine W b _ O s _ D J h' _ _ (f.stepB G r hC M u D ?_) (by have:=JO f.szL bg b4;omega);intro j oj v hj a8 a9 hy;cases E:Bm ops σ oj with
        |true=>
         have:=U2 m E;rcases hy with⟨h1,_⟩|h1
         .grind
         .exact .inl (.inr h1)
        |false=>
         have c4:waits o j=false:=by
          grind
         have I:=Z j oj bg bg (f.rd j oj hj a8 a9) bg E;exact b5Q m b7 I (λe=>⟨s,J.wrel,b8 e j oj bg bg (f.rd j oj hj a8 a9) bg E⟩) hy
       unfold GWp at a0;unfold wpOp;simp only[r];rw[U];split
       .rename_i l;rw[if_pos l]at a0;left;refine VX he a0 hB ?_ b';rintro d D ⟨O,s,J,_⟩;have:=J.defers;rw[<-m.defers]at this;cases hd:o.dst<;>simp[Act.put,hd]at this
       grind
      grind
end
end Go.Vc
namespace Go.Vc
open Go List
section
variable{B:v7}{C:Ctx}{ι:ci}{σ:St}{a:Act}{w:World}
theorem Bl:∀{xs e:de}{vs:bt}{K:Prop},DX xs e K->DenS ι xs vs->DenS ι e vs/\K
 |[],[],vs,K,h,b=>⟨b,h⟩
 |x::xs,y::e,[],K,_,b=>b.elim
 |x::xs,y::e,v::vs,K,h,b=>by
  unfold DX at h;split at h
  .grind
  .rename_i i f g c d;simp only[List.cons.injEq]at c d;obtain⟨rfl,rfl⟩:=c;obtain⟨rfl,rfl⟩:=d;have:=Bl h b.2;exact⟨⟨trivial,this.1⟩,this.2⟩
  .rename_i i f j g _ c d;simp only[List.cons.injEq]at c d;obtain⟨rfl,rfl⟩:=c;obtain⟨rfl,rfl⟩:=d;obtain⟨rfl,h⟩:=h;have:=Bl h b.2;exact⟨⟨b.1,this.1⟩,this.2⟩
  grind
 |[],_::_,_,K,h,_=>by simp[DX]at h
 |_::_,[],_,K,h,_=>by simp[DX]at h
theorem zY:∀{xs c:db}{K:Prop},zZ xs c K->(∀k o,nth c k=some (some o)->nth xs k=some (some o))/\K
 |[],[],K,h=>⟨λk o b=>by omega,h⟩
 |x::xs,none::c,K,h=>by
  simp only[zZ]at h;obtain⟨d,e⟩:=zY h;refine⟨λk o b=>?_,e⟩;cases k with
  |zero=>simp[nth]at b
  |succ k=>exact d k o b
 |x::xs,some y::c,K,h=>by
  simp only[zZ]at h;obtain⟨rfl,h⟩:=h;obtain⟨d,e⟩:=zY h;refine⟨λk o b=>?_,e⟩;cases k with
  |zero=>exact b
  |succ k=>exact d k o b
 |[],_::_,K,h=>by simp[zZ]at h
 |_::_,[],K,h=>by simp[zZ]at h
theorem aM.setSlot(b:aM B ι σ a w){i x v}(c:a.tmps[i]? =some v)(hx:Den ι x v):aM B ι (σ.put (some i) x) a w:=by
 refine⟨?_,b.defers,b.own,b.dist,b.fresh,b.wrel,b.one⟩;have:=b.slots.set i hx;show DenS ι (σ.sl.set i x) a.tmps.toList
 have e:a.tmps.toList.set i v=a.tmps.toList:=by
  apply ext_getElem?
  grind
 grind
theorem aM.nilList(c:aM B ι σ a w) k E sz:aM B (upd ι k (.slice none 0 0)) ((σ.kill k).setOwn k (some (.lst E sz []))) a w:=by
 refine c.place k _ _ (E4.refl _ _) ⟨Je sz,World.ownsRow_nil w 0 E sz⟩ rfl (λb d=>by simp[blk]at d)
theorem vY(τ:St):∀(c:de)(i:Nat)(ι:ci)(σ:St),aM B ι σ a w->∃g,aM B g (Vm τ c i σ) a w
 |[],i,ι,σ,b=>⟨ι,b⟩
 |y::c,i,ι,σ,b=>by
  simp only[Vm];split
  .rename_i k;split
   .rename_i f;split
    .rename_i E h j l m
     have d:a.tmps[i]? =some (.slice none 0 0):=by
      rw[lU]at f;obtain⟨v,d,e⟩:=b.slots.get i _ f;rw[Array.getElem?_toList]at d;have e:v= .slice none 0 0:=e;rw[d,e]
     exact vY τ c (i+1) _ _ ((b.nilList k E h).setSlot d (x:=.at (.lst k)) (by show _=_;simp))
    .exact vY τ c (i+1) ι σ b
   .exact vY τ c (i+1) ι σ b
  .exact vY τ c (i+1) ι σ b
theorem pU(τ:St)(q:Nat):∀(f:ct)(j:Nat)(ι:ci)(σ:St),aM B ι σ a w->∃A,aM B A (IH τ q f j σ) a w
 |[],j,ι,σ,d=>⟨ι,d⟩
 |y::f,j,ι,σ,d=>by
  simp only[IH];split
  .rename_i k;split
   .rename_i p T D s;split
    .rename_i t;split
     .rename_i E l N O Q;have g:q≠k:=λe=>bg
      have m:=d.nilList k E l
      have c:nth ((σ.kill k).setOwn k (some (.lst E l []))).own q=some (some (.cellsP p T (D.map (At.sub k (λ_=>.junk))))):=by
       simp only[Pd,St.setOwn,St.sub,AI,Cc,g,false_and,if_false,s];rfl
      obtain⟨b,i,u,F,G⟩:=Ar m c
      have H:i.toList[j]? =some (.slice none 0 0):=by
       obtain⟨R,I,n,J,r⟩:=Ar d s;rw[lU]at t;obtain⟨v,S,h⟩:=r.get j _ t;have h:v= .slice none 0 0:=h;rw[rK _ _ g,n]at u
       grind
      have z:i.toList.set j (.slice none 0 0)=i.toList:=by
       apply ext_getElem?
       grind
      have M:aM B (upd ι k (.slice none 0 0)) (Jb ((σ.kill k).setOwn k (some (.lst E l []))) q j (.lst k)) a w:=by
       unfold Jb;rw[c];refine m.rewrite c (E4.refl _ _) ⟨b,i,u,F,?_,λU e=>by subst e;have:=axX m c;grind⟩;have:=G.set j (x:=.lst k) (v:=.slice none 0 0) (by show _=_;simp)
       grind
      exact pU τ q f (j+1) _ _ M
     .exact pU τ q f (j+1) ι σ d
    .exact pU τ q f (j+1) ι σ d
   .exact pU τ q f (j+1) ι σ d
  .exact pU τ q f (j+1) ι σ d
theorem Bp(τ:St):∀(b:db)(q:Nat)(ι:ci)(σ:St),aM B ι σ a w->∃d,aM B d (Pf τ b q σ) a w
 |[],q,ι,σ,c=>⟨ι,c⟩
 |y::b,q,ι,σ,c=>by
  simp only[Pf];split
  .rename_i T f;obtain⟨d,e⟩:=pU τ q f 0 ι σ c;exact Bp τ b (q+1) d _ e
  .exact Bp τ b (q+1) ι σ c
theorem qD{τ K}(t:aM B ι σ a w)(h:CF σ τ K):∃u,aM B u τ a w/\K:=by
 obtain⟨v,f⟩:=vY τ τ.sl 0 ι σ t;obtain⟨m,c⟩:=Bp τ τ.own 0 v _ f;have c:aM B m (conv σ τ) a w:=c;unfold CF at h;obtain⟨g,h⟩:=Bl h c.slots;obtain⟨d,n,p,y⟩:=zY h;refine⟨m,⟨g,c.defers,λk o e=>c.own k o (d k o e),λk r o s b e i j l=>c.dist k r o s b (d k o e) (d r s i) j l,?_,?_,c.one⟩,y⟩
 .intro k o b e j;rw[<-n, <-p];exact c.fresh k o b (d k o e) j
 .rw[<-n, <-p];exact c.wrel
theorem aM.froze(j:aM B ι σ a w){m2 g}(f:Hz σ.m σ.h m2 g):aM B ι {σ with m:=m2,h:=g} a w:=by
 have c:=j.wrel;refine⟨j.slots,j.defers,j.own,j.dist,λk o b u y=>?_,?_,j.one⟩
 .obtain⟨z,t,H⟩:=j.fresh k o b u y;refine⟨z,?_,λi=>?_⟩
  .show m2 b=none;cases l:m2 b with
   |none=>rfl
   |some o=>rw[f.sub b o l]at t;cases t
  .show g b i=none;cases l:g b i with
   |none=>rfl
   |some v=>
    rcases f.new b i v l with d|⟨n,E,p,d,_,_⟩
    .grind
    grind
 .refine⟨c.tape,c.os,c.output,c.drawn,c.size,c.frame,λb o v e=>?_,λb o e=>c.msat b o (f.sub b o e),λb o e i=>?_,λb o v e=>f.le.le b o v (c.hle b o v e),λb A r=>?_,λb o e=>c.mfr b o (f.sub b o e)⟩
  .rcases f.new b o v e with d|⟨n,E,p,d,s,_⟩
   .exact c.hsat b o v d
   .rw[cell_of_heap (c.msat b _ d),Array.getElem?_toList];exact s
  .show g b i=none;have e:m2 b=some o:=e;cases l:g b i with
   |none=>rfl
   |some v=>
    rcases f.new b i v l with d|⟨n,E,p,d,s,D⟩
    .rw[c.disj b o (f.sub b o e) i]at d;cases d
    grind
  .funext i;have e:=congrFun (c.hold b A r) i;show g b i=B.h0 b i;cases l:B.h0 b i with
   |some v=>exact f.le.le b i v (c.hle b i v l)
   |none=>
    cases F:g b i with
    |none=>rfl
    |some v=>
     rcases f.new b i v F with d|⟨n,E,p,d,s,D⟩
     .grind
     .rcases c.mfr b _ d with G|G
      .omega
      grind
theorem K8{τ K}(s:aM B ι σ a w)(h:UW σ τ K):∃t,aM B t τ a w/\K:=by
 obtain⟨u,g⟩:=vY τ τ.sl 0 ι σ s;obtain⟨n,c⟩:=Bp τ τ.own 0 u _ g;have c:aM B n (conv σ τ) a w:=c;unfold UW at h;obtain⟨i,h⟩:=Bl h c.slots;obtain⟨d,v,y⟩:=zY h;have e:=c.froze v;exact⟨n,⟨i,c.defers,λk o f=>c.own k o (d k o f),λk p o r b f j l m=>c.dist k p o r b (d k o f) (d p r j) l m,λk o b f l=>e.fresh k o b (d k o f) l,e.wrel,c.one⟩,y⟩
theorem Bv{c R}(b:aM B ι σ a w)(h:J1 c R σ):∃x f,R x/\aM B f (c.st x) a w:=by
 unfold J1 at h;split at h
 .obtain⟨x,g,d⟩:=h;obtain⟨i,e,_⟩:=qD b d
  grind
 .obtain⟨x,g,d⟩:=h ⟨b.wrel.disj⟩;obtain⟨i,e,_⟩:=K8 b d
  grind
theorem Oc{c I S}(b:aM B ι σ a w)(h:Vt c I S σ):∃x f,I x/\S x/\aM B f (c.st x) a w:=by
 unfold Vt at h;split at h
 .obtain⟨x,g,i,d⟩:=h;obtain⟨j,e,_⟩:=qD b d
  grind
 .obtain⟨x,g,i,d⟩:=h ⟨b.wrel.disj⟩;obtain⟨j,e,_⟩:=K8 b d
  grind
def QD(B:v7)(Q:GF->St->Prop):Exit->Act->World->Prop
 |.normal,a,w=>∃ι σ,aM B ι σ a w/\Q .normal σ
 |.exit id,a,w=>∃ι σ,aM B ι σ a w/\Q (.exit id) σ
 |.ret,a,w=>∃ι σ,aM B ι σ a w/\Q .ret σ
 |_,_,_=>False
theorem L3(b:∀g S,assoc C.specs g=some S->Sound C.P g S){ops:Array Oper}{Q:GF->St->Prop}:
 ∀(c:dg)(l:List Oper)(s:Nat)(ι:ci)(σ:St)(a:Act)(w:World),(∀j,l[j]? =ops.toList[s+j]?)->aM B ι σ a w->bmJ C ops c l σ (Q .normal)->wpOpsIn Fence.wide 0 C.P ops (QD B Q) (range' s l.length) a w
 |[],l,s,ι,σ,a,w,e,d,h=>by
  have:=Jc b (ops:=ops) (Q:=QD B Q) (R:=Q .normal) (rest:=[]) (λι σ a w d h=>⟨ι,σ,d,h⟩) l s ι σ a w (λj _=>e j) d h
  grind
 |(n,f)::c,l,s,ι,σ,a,w,e,d,h=>by
  obtain⟨I,r,t⟩:=h
  have:=Jc b (ops:=ops) (Q:=QD B Q) (R:=λτ=>∃x,I x/\CF τ (f.st x) True) (rest:=range' (s+(l.take n).length) (l.drop n).length) (λA D u v i m=>by
   obtain⟨x,m,y⟩:=m;obtain⟨z,p,_⟩:=qD i y;refine L3 b c (l.drop n) (s+(l.take n).length) z _ u v (λj=>?_) p (t x m);rw[getElem?_drop,e];by_cases E:n<=l.length
   .grind
   .have F:l[n+j]? =none:=getElem?_eq_none aC;have G:l[l.length+j]? =none:=getElem?_eq_none aC
    grind) (l.take n) s ι σ a w (λj H=>by
    grind) d r
  grind
theorem VZ(s:∀g S,assoc C.specs g=some S->Sound C.P g S):∀(c:Code)(σ:St)(Q:GF->St->Prop)(ι:ci)(a:Act)(w:World),aM B ι σ a w->VC C c σ Q->c.wp C.P (QD B Q) a w:=by
 intro c
 induction c with
 |skip=>intro σ Q ι a w d h;exact wp_skip ⟨ι,σ,d,h⟩
 |label l=>intro σ Q ι a w d h;exact wp_label ⟨ι,σ,d,h⟩
 |exit id=>intro σ Q ι a w d h;exact wp_exit ⟨ι,σ,d,h⟩
 |ret=>intro σ Q ι a w d h;exact wp_ret ⟨ι,σ,d,h⟩
 |goto l=>intro σ Q ι a w d h;exact h.elim
 |refuse a3=>intro σ Q ι a w d h;exact h.elim
 |scope a2 U=>intro σ Q ι a w d h;exact h.elim
 |rangeFunc f ps x y u H=>intro σ Q ι a w d h;exact h.elim
 |region id ops V=>
  intro σ Q ι a w d h;cases V with
  |false=>
   refine(wpIn_wide (n:=0)).1 (wpIn_region ?_);have:=L3 s (ops:=ops) (Q:=Q) (YQ C id) ops.toList 0 ι σ a w (λj=>ay) d h;rw[range_eq_range'];omega
  |true=>
   simp only[VC]at h;split at h
   .rename_i h1 h2 h3;have hs:=bmQ h1 h2;refine wp_region_any h3 ?_;refine T6 s hs (Q:=QD B Q) (R:=Q .normal) (λι σ a w d h=>⟨ι,σ,d,h⟩) (λc a w h=>h) ops.size ops.size _ ι σ a _ (d.drew (w.drawn+1) (Nat.le_succ _)) h _ a ?_ ?_
    .have F:∀i,(Array.replicate ops.size false).getD i false=true->False:=by
      intro i v;by_cases r:i<ops.size
      .simp[Array.getD,r]at v
      grind
     exact⟨ay,ay,λi v=>v,λi o _ v=>(F i v).elim,λi o _ v=>(F i v).elim,λi o _ v=>(F i v).elim,rfl,rfl,λt _=>rfl,λi o _ v=>(F i v).elim⟩
    .unfold wS;rw[filter_eq_self.2]
     .simp
     .intro i v;by_cases r:i<ops.size<;>simp[Array.getD,r]
   grind
 |seq x y u H=>
  intro σ Q ι a w d h;simp only[VC]at h;split at h
  .obtain⟨h,p⟩:=h;refine wp_seq (wp_mono (u σ _ ι a w d h) ?_);intro e D E b;cases e with
   |normal=>
    obtain⟨G,W,m,x,X,J⟩:=b;show y.wp C.P (QD B Q) D E;obtain⟨Y,z,_⟩:=qD m J
    grind
   |exit id=>exact b
   |ret=>exact b
   |goto l=>exact b
   |panic Z=>exact b
   |outgrown=>exact b
  .split at h
   .obtain⟨I,h,p⟩:=h;refine wp_seq (wp_mono (u σ _ ι a w d h) ?_);intro e D E b;cases e with
    |normal=>
     obtain⟨G,W,m,J⟩:=b;show y.wp C.P (QD B Q) D E;obtain⟨x,Y,X,z⟩:=Bv m J
     grind
    |exit id=>exact b
    |ret=>exact b
    |goto l=>exact b
    |panic Z=>exact b
    |outgrown=>exact b
   .refine wp_seq (wp_mono (u σ _ ι a w d h) ?_);intro e D E b;cases e with
    |normal=>
     obtain⟨G,W,m,h'⟩:=b;show y.wp C.P (QD B Q) D E
     grind
    |exit id=>exact b
    |ret=>exact b
    |goto l=>exact b
    |panic Z=>exact b
    |outgrown=>exact b
 |cond c x y u H=>
  intro σ Q ι a w d h;simp only[VC]at h;split at h
  .rename_i t hc;have A:=d.ev c;rw[hc]at A;have A:a.eval c= .bool t:=A;rcases yD h with⟨rfl,h⟩|⟨rfl,h⟩
   .exact wp_cond_true A (u _ Q ι a w (d.setTmp hc) h)
   .exact wp_cond_false A (H _ Q ι a w (d.setTmp hc) h)
  grind
 |block id c U=>
  intro σ Q ι a w d h;refine wp_block (wp_mono (U σ _ ι a w d h) ?_);intro e D E b;cases e with
  |normal=>exact b
  |exit i=>
   obtain⟨G,W,m,h'⟩:=b;show if i=id then _ else _
   simp only at h';split at h'
   .rename_i hb;rw[if_pos (Nat.eq_of_beq_eq_true hb)];exact⟨G,W,m,h'⟩
   .rename_i hb;rw[if_neg (λe=>by subst e;simp at hb)];exact⟨G,W,m,h'⟩
  |ret=>exact b
  |goto l=>exact b
  |panic Z=>exact b
  |outgrown=>exact b
 |loop c U=>
  intro σ Q ι a w d h;simp only[VC]at h;split at h
  .rename_i l hl;obtain⟨⟨x,X,J⟩,p⟩:=h;obtain⟨Y,z,_⟩:=qD d J;refine wp_loop_ghost (λn a w=>∃x ι,l.inv x/\l.mu x=n/\aM B ι (l.st x) a w) (l.mu x) ⟨x,Y,X,rfl,z⟩ ?_;rintro n D E ⟨x',G,M,rfl,m⟩;refine wp_mono (U _ _ G D E m (p x' M)) ?_;intro e a0 a1 b;cases e with
   |normal=>
    obtain⟨ι3,σ3,N,y,hy,r,O⟩:=b;obtain⟨ι4,T,_⟩:=qD N O;exact⟨l.mu y,r,y,ι4,hy,rfl,T⟩
   |exit id=>exact b
   |ret=>exact b
   |goto l=>exact b
   |panic Z=>exact b
   |outgrown=>exact b
  .split at h
   .rename_i l hl;obtain⟨I,mu,J,p⟩:=h;obtain⟨x,Y,X,z⟩:=Bv d J;refine wp_loop_ghost (λn a w=>∃x ι,I x/\mu x=n/\aM B ι (l.st x) a w) (mu x) ⟨x,Y,X,rfl,z⟩ ?_;rintro n D E ⟨x',G,M,rfl,m⟩;refine wp_mono (U _ _ G D E m (p x' M)) ?_;intro e a0 a1 b;cases e with
    |normal=>
     obtain⟨ι3,σ3,N,O⟩:=b;obtain⟨y,ι4,hy,r,T⟩:=Oc N O;exact⟨mu y,r,y,ι4,hy,rfl,T⟩
    |exit id=>exact b
    |ret=>exact b
    |goto l=>exact b
    |panic Z=>exact b
    |outgrown=>exact b
   grind
end
end Go.Vc
namespace Go.Vc
open Go List
section
variable{B:v7}{C:Ctx}{ι:ci}{σ:St}{a:Act}{w:World}
def Mr(tmps:Array Value):ResultVar->Sem Value
 |.tmp t=>pure (tmps.getD t undef)
 |.cell a t=>do loadVar t (<-asAddr (tmps.getD a undef))
theorem PO fn tmps:results fn tmps=(do let vs <-fn.results.mapM (Mr tmps);pure (if h:vs.size=1 then vs[0]else .tuple vs)):=by
 unfold results;congr 1
theorem Wm(f:aM B ι σ a w){r x}(h:awZ C σ r=some x):∃v,(Mr a.tmps r).run C.P w= .ok v w/\Den ι x v:=by
 cases r with
 |tmp t=>
  simp only[awZ,Option.some.injEq]at h;subst h;exact⟨_,rfl,f.ev (.tmp t)⟩
 |cell l T=>
  have d:=f.ev (.tmp l);simp only[awZ]at h;split at h
  .rename_i k off s;rw[s]at d;split at h
   .rename_i p T' cs u;split at h
    .rename_i e y;have e:=Nat.le_of_ble_eq_true e;simp only[Option.some.injEq]at h;subst h;obtain⟨b,m,z,A,n⟩:=Ar f u;obtain⟨G,c,D⟩:=d;rw[z]at c;simp only[Value.pointer.injEq,Option.some.injEq,Addr.mk.injEq]at c;obtain⟨rfl, -, -⟩:=c;have g:=(n.drop off).take (C.P.cellsOf T);have E:cs.length=m.toList.length:=n.length;have F:=Br (w:=w) (b:=b) (off:=off) (cs:=(m.toList.drop off).take (C.P.cellsOf T)) y bg (λj v H=>by rw[cell_of_heap A];grind);refine⟨_,?_,JC g⟩;have i:a.tmps.getD l undef= .pointer (some ⟨b,off,none⟩):=D;simp only[Mr,i,asAddr,Sem.run_bind,Sem.run_pure,Result.andThen_ok,F]
    .cases h
   .cases h
  .cases h
theorem J0(f:aM B ι σ a w):∀(l:List ResultVar)(xs:de),Jf C σ l=some xs->∃vs,(l.mapM (Mr a.tmps)).run C.P w= .ok vs w/\DenS ι xs vs
 |[],xs,h=>by
  simp[Jf]at h;subst h;exact⟨[],ay,trivial⟩
 |r::l,xs,h=>by
  simp only[Jf]at h;split at h
  .rename_i x b g c;simp only[Option.some.injEq]at h;subst h;obtain⟨v,i,j⟩:=Wm f g;obtain⟨vs,d,e⟩:=J0 f l b c;exact⟨v::vs,by simp[mapM_cons,i,d],j,e⟩
  .cases h
theorem Ac(m:aM B ι σ a w){mv:Bool}:∀(xs:de)(ts:dk)(rs:cr)(vs:bt),EY C.P σ mv xs ts=some rs->DenS ι xs vs->
 rs.length=vs.length/\(mv=false->rs=vs.map .val)/\∀(i:Nat)(r:CV)(v:Value),rs[i]? =some r->vs[i]? =some v->IP w r v/\∀b,jP r v=some b->∃k g,nth σ.own k=some (some g)/\blk (ι k)=some b
 |[],ts,rs,[],h,_=>by
  simp[EY]at h;grind
 |[],_,_,_::_,_,c=>c.elim
 |x::xs,_,_,[],_,c=>c.elim
 |x::xs,ts,rs,v::vs,h,c=>by
  simp only[EY]at h;split at h
  .cases h
  .rename_i l p;obtain⟨s,t,y⟩:=Ac m xs ts.tail l vs p c.2
   have fin:∀(j:CV),rs=j::l->(mv=false->j= .val v)->IP w j v->(∀b,jP j v=some b->∃k g,nth σ.own k=some (some g)/\blk (ι k)=some b)->
    rs.length=(v::vs).length/\(mv=false->rs=(v::vs).map .val)/\∀(i:Nat)(r:CV)(u:Value),rs[i]? =some r->(v::vs)[i]? =some u->IP w r u/\∀b,jP r u=some b->∃k g,nth σ.own k=some (some g)/\blk (ι k)=some b:=by
    grind
   split at h
   .split at h
    .rename_i k;have d:v=ι k:=c.1;split at h
     .rename_i E F G n;simp only[Option.some.injEq]at h;obtain⟨A,H⟩:=tV m n;exact fin _ h.symm (λe=>by cases e) ⟨A,bg⟩ (λb f=>⟨k,_,n,by rw[<-d];exact f⟩)
     .cases h
    .have d:v= .slice none 0 0:=c.1;split at h
     .rename_i E z I;simp only[Option.some.injEq]at h;refine fin _ h.symm (λe=>by cases e) ⟨Je _,by rw[d];exact World.ownsRow_nil w 0 E _⟩ (λb f=>?_);rw[d]at f;simp[jP,blk]at f
     .cases h
    .cases h
   .split at h
    .rename_i u D;simp only[Option.some.injEq]at h;have d:=(c.1).val? D;exact fin _ h.symm (λ_=>by rw[d]) d (λb f=>by simp[jP]at f)
    .cases h
theorem Sg(J:aM B ι σ a w){fn K}(h:Sh C fn K σ):
 ∃u,(results fn a.tmps).run C.P w= .ok u w/\∃r m' t,K r m' t/\IP w r u/\Dt B m' t w/\∀b,jP r u=some b->(B.w0.heap.size<=b\/B.E b)/\m' b=none/\∀i,t b i=none:=by
 unfold Sh at h;split at h
 .exact h.elim
 .rename_i W M;obtain⟨X,p,h,_⟩:=qF _ _ J h;obtain⟨τ,d,h,_⟩:=Ax _ _ p h;split at h
  .exact h.elim
  .rename_i N y;obtain⟨f,z,j⟩:=J0 d _ _ y
   have H:(results fn a.tmps).run C.P w= .ok (if h:f.toArray.size=1 then f.toArray[0]else .tuple f.toArray) w:=by
    rw[PO,Array.mapM_eq_mapM_toList];simp[z]
   have g:∀(n:cr)(r:CV)(v:Value),EY C.P τ C.retMove N fn.resultTypes.toList=some n->(∃i:Nat,n[i]? =some r/\f[i]? =some v)->IP w r v/\∀b,jP r v=some b->(B.w0.heap.size<=b\/B.E b)/\τ.m b=none/\∀i,τ.h b i=none:=by
    rintro n r v l ⟨i,s,O⟩;obtain⟨_,_,Q⟩:=Ac d _ _ _ _ l j;obtain⟨A,D⟩:=Q i r v s O;refine⟨A,λb F=>?_⟩;obtain⟨k,R,S,G⟩:=D b F;exact d.fresh k R b S G
   split at h
   .rename_i r s;obtain⟨c,_,_⟩:=Ac d _ _ _ _ s j;simp at c
    obtain⟨v,rfl⟩:∃v,f=[v]:=by
     match f,c with
     |[v],_=>grind
    obtain⟨A,D⟩:=g _ r v s ⟨0,rfl,rfl⟩;refine⟨v,bg,r,τ.m,τ.h,h,A,d.wrel,D⟩
   .rename_i n T l;split at h
    .exact h.elim
    .rename_i U;obtain⟨c,I,_⟩:=Ac d _ _ _ _ l j
     have V:f.length≠1:=by
      intro e;rw[e]at c
      match n,c with
      |[r],_=>grind
     refine⟨.tuple f.toArray,bg,.tup n,τ.m,τ.h,h,⟨f.toArray,rfl,bg⟩,d.wrel,λb F=>by simp[jP]at F⟩
   grind
def NU(n:Nat)(b:cr)(vs:bt)(k:Nat):=
 match b[k-n]?,vs[k-n]? with
 |some (.lst _ _ _),some v=>v
 |_,_=>.slice none 0 0
theorem qW{w:World}:∀{b:cr}{vs:bt},Dm w b vs->b.length=vs.length/\∀(i:Nat)(c:CV)(v:Value),b[i]? =some c->vs[i]? =some v->IP w c v
 |[],[],_=>⟨rfl,λi c v h=>by simp at h⟩
 |c::cs,v::vs,h=>by
  obtain⟨f,g⟩:=qW h.2;refine⟨by simp[f],λi j l d e=>?_⟩;cases i with
  |zero=>simp at d e;subst d e;exact h.1
  |succ i=>grind
 |[],_::_,h=>h.elim
 |_::_,[],h=>h.elim
theorem N4{n:Nat}{all:cr}{avs:bt}{w:World}:∀(i:Nat)(b:cr)(vs:bt),Dm w b vs->(∀j:Nat,b[j]? =all[i+j]?)->(∀j:Nat,vs[j]? =avs[i+j]?)->
 DenS (NU n all avs) (IG n i b) vs
 |i,[],[],_,_,_=>trivial
 |i,c::b,v::vs,h,e,f=>by
  have d:=N4 (n:=n) (all:=all) (avs:=avs) (i+1) b vs h.2 (λj=>by have:=e (j+1);grind) (λj=>by have:=f (j+1);grind);cases c with
  |val u=>exact⟨h.1,d⟩
  |lst E m p=>
   refine⟨?_,d⟩;show v=NU n all avs (n+i);have g:=e 0;have l:=f 0;simp at g l;unfold NU
   grind
  |tup r=>exact⟨trivial,d⟩
 |i,[],_::_,h,_,_=>h.elim
 |i,_::_,[],h,_,_=>h.elim
theorem Lv:∀(b:cr)(k:Nat)(o:Own),nth (BC b) k=some (some o)->∃E sz xs,b[k]? =some (.lst E sz xs)/\o= .lst E sz xs
 |[],k,o,h=>by simp[BC,nth]at h
 |c::b,0,o,h=>by
  cases c<;>simp[BC,nth]at h
  grind
 |c::b,k+1,o,h=>by
  have:nth (BC b) k=some (some o):=by cases c<;>simpa[BC,nth]using h
  obtain⟨E,sz,xs,d,e⟩:=Lv b k o this
  grind
theorem T1{ι:ci}:∀(n:Nat)(vs:bt),vs.length=n->DenS ι (replicate n (.at .junk)) vs
 |0,[],_=>trivial
 |n+1,v::vs,h=>⟨trivial,T1 n vs (bk h)⟩
 |0,_::_,h=>by simp at h
 |_+1,[],h=>by simp at h
theorem DenS.append{ι:ci}:∀{xs b:de}{vs c:bt},DenS ι xs vs->DenS ι b c->DenS ι (xs++b) (vs++c)
 |[],_,[],_,_,d=>bg
 |_::_,_,_::_,_,h,d=>⟨h.1,DenS.append h.2 d⟩
 |[],_,_::_,_,h,_=>h.elim
 |_::_,_,[],_,h,_=>h.elim
theorem Lu{w m h c vs} n(s:CK w m h c vs):
 aM ⟨w,yE m c vs,h,[]⟩ (NU n c vs) (entry n c m h) {tmps:=vs.toArray++Array.replicate (n-vs.toArray.size) undef,defers:=[]} w:=by
 obtain⟨y,r⟩:=qW s.args
 have d:∀k o,nth (entry n c m h).own k=some (some o)->n<=k/\∃E i l,c[k-n]? =some (.lst E i l)/\o= .lst E i l/\∃v,vs[k-n]? =some v/\NU n c vs k=v/\IP w (.lst E i l) v:=by
  intro k o f;simp only[entry]at f;rw[lU]at f;by_cases t:k<n
  .grind
  .rw[getElem?_append_right bg]at f;simp only[length_replicate]at f;rw[<-lU]at f;obtain⟨E,i,l,e,D⟩:=Lv c (k-n) o f
   have F:k-n<vs.length:=by
    grind
   have p:vs[k-n]? =some vs[k-n]:=getElem?_eq_getElem F;refine⟨aC,E,i,l,e,D,_,p,?_,r _ _ _ e p⟩;unfold NU;rw[e,p]
 refine⟨?_,rfl,?_,?_,?_,?_,?_⟩
 .have e:=N4 (n:=n) (all:=c) (avs:=vs) 0 c vs s.args (λj=>ay) (λj=>ay);show DenS _ (IG n 0 c++replicate (n-c.length) (.at .junk)) _;have:(vs.toArray++Array.replicate (n-vs.toArray.size) undef).toList=vs++replicate (n-vs.length) undef:=ay
  rw[this];exact e.append (T1 _ _ (by simp[y]))
 .intro k o f;obtain⟨t,E,i,l,e,rfl,v,p,z,u⟩:=d k o f;rw[z];exact u
 .intro k M o Q b f G g A;obtain⟨t,E,i,l,e,rfl,v,p,z,u⟩:=d k o f;obtain⟨N,E',R,S,H,rfl,T,I,J,O⟩:=d M Q G;rw[z]at g;rw[J]at A;have:=s.sep (k-n) (M-n) _ _ v T b e p H I g A;omega
 .intro k o b f g;obtain⟨t,E,i,l,e,rfl,v,p,z,u⟩:=d k o f;rw[z]at g;obtain⟨U,V⟩:=s.free (k-n) _ v b e p g;exact⟨.inr (.inr ⟨k-n,_,v,e,p,g⟩),U,V⟩
 .refine⟨rfl,rfl,rfl,Nat.le_refl _,Nat.le_refl _,λ_ _ _=>rfl,s.hsat,s.msat,s.disj,λ_ _ _ h=>h,λ_ _ _=>rfl,λb W g=>.inr (.inl (by have g:m b=some W:=g;rw[g];simp))⟩
 .intro k;unfold NU;split
  .rename_i E i l v e D;exact NL (r _ _ _ e D).2
  .rfl
theorem fK{P f fn c}(E:P.funcs[f]? =some fn)(F:fn.body=some c)(n:(fn.name== "runtime.NumGoroutine")=false){S}(z:∀d m h K,S d m h K->∃C:Ctx,C.P=P/\(∀g S,assoc C.specs g=some S->Sound P g S)/\wW C fn c (entry fn.ntmps d m h) K):Sound P f S:=by
 refine⟨⟨fn,E,by rw[F];rfl,n⟩,?_⟩;intro d A m h w K H I;obtain⟨C,rfl,j,J⟩:=z d m h K H;refine calls_of_wp E F ?_;refine wp_mono (VZ j c _ _ _ _ w (Lu fn.ntmps I) J) ?_;intro e D s p
 have key:(∃ι σ,aM ⟨w,yE m d A,h,[]⟩ ι σ D s/\Sh C fn K σ)->D.defers=[]/\∃v,(results fn D.tmps).run C.P s= .ok v s/\∃r u t y,Ending.returned v= .returned u/\K r t y/\IP s r u/\Dt ⟨w,yE m d A,h,[]⟩ t y s/\
  ∀b,jP r u=some b->(w.heap.size<=b\/yE m d A b)/\t b=none/\∀i,y b i=none:=by
  rintro⟨ι,σ,G,M⟩;obtain⟨u,N,r,t,y,O,Q,R,T⟩:=Sg G M;exact⟨G.defers,u,N,r,u,t,y,rfl,O,Q,R,T⟩
 cases e with
 |normal=>exact key p
 |ret=>exact key p
 |exit id=>obtain⟨_,_,_,h⟩:=p;exact h.elim
 |goto l=>exact p.elim
 |panic U=>exact p.elim
 |outgrown=>exact p.elim
theorem SC{P f fn c}(I:P.funcs[f]? =some fn)(y:fn.body=some c)(p:(fn.name== "runtime.NumGoroutine")=false){S}(J:∀d m h K,S d m h K->∃C:Ctx,C.P=P/\(∀g S,assoc C.specs g=some S->Sound P g S)/\wW C fn c (entry fn.ntmps d m h) (λr m' s=>∃m2 j,(∀b o,m2 b=some o->m' b=some o)/\PH.le h j/\PH.le j s/\K r m2 j)):Sound P f S:=by
 have F:=fK I y p (S:=λd m h K=>∃K',S d m h K'/\K=λr m' s=>∃m2 j,(∀b o,m2 b=some o->m' b=some o)/\PH.le h j/\PH.le j s/\K' r m2 j) (by
  grind)
 refine⟨F.1,λd M m h w K N O=>?_⟩;refine(F.2 d M m h w _ ⟨K,N,rfl⟩ O).mono ?_;rintro e W ⟨r,u,m',s,Q,⟨m2,j,z,G,H,R⟩,A,l,D⟩
 have n:∀b i,s b i=none->j b i=none:=by
  intro b i e;cases t:j b i with
  |none=>rfl
  |some v=>rw[H.le b i v t]at e;cases e
 refine⟨r,u,m2,j,Q,R,A,?_,λb y=>?_⟩
 .refine⟨l.tape,l.os,l.output,l.drawn,l.size,l.frame,λb o v e=>l.hsat b o v (H.le b o v e),λb o e=>l.msat b o (z b o e),λb o e i=>n b i (l.disj b o (z b o e) i),G.le,λb T E=>?_,λb o e=>l.mfr b o (z b o e)⟩;funext i;have e:=congrFun (l.hold b T E) i;show j b i=h b i;cases t:h b i with
  |some v=>exact(G.le b i v t)
  |none=>grind
 .obtain⟨U,X,V⟩:=D b y;refine⟨U,?_,λi=>n b i (V i)⟩;cases t:m2 b with
  |none=>rfl
  |some o=>grind
def cN(h:PH)(K:bo):CV->MH->PH->Prop:=λr c f=>(∀b o,c b=some o->∀i,f b i=none)->∃d e,(∀b o,d b=some o->c b=some o)/\PH.le h e/\
 (∀b i v,e b i=some v->f b i=some v\/∃g E j,c b=some (.cells g E j)/\g[i]? =some v/\d b=none)/\K r d e
theorem Sound.strong{P f S}(D:Sound P f (λg m h K=>∃K',S g m h K'/\K=cN h K')):Sound P f S:=by
 refine⟨D.1,λg J m h w K M N=>?_⟩;refine(D.2 g J m h w _ ⟨K,M,rfl⟩ N).mono ?_;rintro e Y ⟨r,u,Z,h',O,j,p,c,s⟩;obtain⟨F,l,t,G,y,Q⟩:=j c.disj;refine⟨r,u,F,l,O,Q,p,?_,λb R=>?_⟩
 .refine⟨c.tape,c.os,c.output,c.drawn,c.size,c.frame,λb o v e=>?_,λb o e=>c.msat b o (t b o e),λb o e i=>?_,G.le,λb T z=>?_,λb o e=>c.mfr b o (t b o e)⟩
  .rcases y b o v e with d|⟨H,E,I,d,A,_⟩
   .exact c.hsat b o v d
   .rw[cell_of_heap (c.msat b _ d),Array.getElem?_toList];exact A
  .cases n:l b i with
   |none=>rfl
   |some v=>
    rcases y b i v n with d|⟨H,E,I,d,A,U⟩
    .rw[c.disj b o (t b o e) i]at d;cases d
    grind
  .funext i;have e:=congrFun (c.hold b T z) i;show l b i=h b i;cases n:h b i with
   |some v=>exact(G.le b i v n)
   |none=>
    cases V:l b i with
    |none=>rfl
    |some v=>
     rcases y b i v V with d|⟨H,E,I,d,A,U⟩
     .grind
     .rcases c.mfr b _ d with W|W
      .omega
      grind
 .obtain⟨X,f2,f3⟩:=s b R;refine⟨X,?_,λi=>?_⟩
  .cases n:F b with
   |none=>rfl
   |some o=>grind
  .cases n:l b i with
   |none=>rfl
   |some v=>
    grind
theorem aVJ{P f fn c}(e:P.funcs[f]? =some fn)(i:fn.body=some c)(d:(fn.name== "runtime.NumGoroutine")=false){S}(j:∀b m h K,S b m h K->∃C:Ctx,C.P=P/\(∀g S,assoc C.specs g=some S->Sound P g S)/\wW C fn c (entry fn.ntmps b m h) (cN h K)):Sound P f S:=
 .strong (fK e i d (S:=λb m h K=>∃K',S b m h K'/\K=cN h K') (by
  grind))
end
end Go.Vc
namespace Go.Vc
open Go List
theorem aD{c A B}(b:c=true->A)(d:c=false->B):branch c A B:=by
 cases c
 .exact d rfl
 .exact b rfl
theorem aF{p}[Decidable p]{A B}(b:p->A)(c:¬p->B):branch (decide p) A B:=
 aD (λh=>b (of_decide_eq_true h)) (λh=>c (of_decide_eq_false h))
theorem fB{n}(b: -9223372036854775808<=n)(c:n<9223372036854775808):IntKind.i64.wrap n=n:=by
 rw[IntKind.wrap_i64];omega
theorem aK.of_m{m h b off cs E c l}(d:m b=some (.cells cs E c))(e:(cs.toList.drop off).take l.length=l):aK m h b off l:=.lent cs E c d e
end Go.Vc
namespace Go.Ps
open Go Go.Vc Go.Proofs List Tryz
variable{K:bo}{m:MH}{h:PH}{ps:bn}{cb:Nat}{l:bn}{i:Nat}{N:Nat}{m':MH}{h':PH}{co:bn}{gr:bn}{od:bz}{ta:Int}{li:Int}{xs:List bt}{sz:Nat}{ks:List bn}{rs:bn}{r:Sl}{a:bn}{b:Nat}
structure VV where
 kind:Int
 int:Int
 text:ByteArray
abbrev ca:=List VV
abbrev cu:=List (Sl×ca)
abbrev br:=List ca
structure OV where
 kind:Int
 index:Int
 value:VV
abbrev dn:=List OV
structure PV where
 op:Int
 cmp:Int
 left:OV
 right:OV
 args:Sl
abbrev dj:=List PV
structure QV where
 op:Int
 table:Int
 where_:PV
 columns:Sl
 on:Sl
 group:Sl
 order:Sl
 limit:Int
 args:Sl
abbrev da:=List QV
abbrev cv:=List (Nat×QV)
variable{v:QV}
structure wQ where
 op:Int
 table:Int
 where_:PV
 columns:Sl
 on:Sl
 group:Sl
 order:Sl
 limit:Int
 left:Int
 right:Int
structure pS where
 name:ByteArray
 kind:Int
structure GL where
 columns:Sl
 table:Int
structure cW where
 name:ByteArray
 columns:Sl
 key:Int
 references:Sl
 checks:Sl
structure bZ where
 version:Int
 tables:Sl
variable{sc:bZ}
abbrev fV(n:Int):Value:=.int .i64 n
abbrev dP(s:Sl):Value:=.slice s.a s.len s.cap
abbrev oM:Value:=.slice none 0 0
abbrev vQz:Value:=.string ⟨⟨[]⟩⟩
abbrev R9(b o:Nat):Value:=.pointer (some ⟨b,o,none⟩)
abbrev j9(n:Int):At:=.val (.int .i64 n)
abbrev yG(s:Sl):At:=.val (.slice s.a s.len s.cap)
abbrev JJ:At:=.val (.slice none 0 0)
abbrev aQz:At:=.val (.string ⟨⟨[]⟩⟩)
abbrev gK(n:Int):SV:=.at (.val (.int .i64 n))
abbrev sQs(s:Sl):SV:=.at (.val (.slice s.a s.len s.cap))
abbrev sQn:SV:=.at (.val (.slice none 0 0))
abbrev sQp(b o:Nat):SV:=.at (.ptr b o)
abbrev Wh(b o:Nat):SV:=.at (.val (.pointer (some ⟨b,o,none⟩)))
abbrev sQb(b:Bool):SV:=.at (.val (.bool b))
abbrev sQl(k:Nat):SV:=.at (.lst k)
abbrev iR(n:Int):CV:=.val (.int .i64 n)
abbrev Af(b:Bool):CV:=.val (.bool b)
abbrev mQ(s:Sl):CV:=.val (.slice s.a s.len s.cap)
abbrev EZ:CV:=.val (.slice none 0 0)
abbrev Oo(b o:Nat):CV:=.val (.pointer (some ⟨b,o,none⟩))
abbrev kQ(l:bt):CV:=.val (.agg ⟨l⟩)
abbrev oQ(T:TypeId)(l:ct):Option Go.Vc.Own:=some (.cells T l)
abbrev eQ{α}(x:α):=x=x
abbrev eP k:=sQp k 0=sQp k 0
abbrev eL k:=sQl k=sQl k
abbrev Nf(s:ByteArray):At:=.val (.string s)
abbrev zQ:=[j9 0,j9 0,j9 0,j9 0,j9 0,j9 0,j9 0,j9 0,aQz,j9 0,j9 0,j9 0,j9 0,aQz,JJ,JJ,JJ,JJ,JJ,j9 0,JJ]
abbrev zP:=[j9 0,j9 0,j9 0,j9 0,j9 0,j9 0,aQz,j9 0,j9 0,j9 0,j9 0,aQz,JJ]
def eI(n:Int):bt:=[.int .i64 n]
def eS(s:Sl):bt:=[.slice s.a s.len s.cap]
def VV.enc(v:VV):bt:=[.int .i64 v.kind,.int .i64 v.int,.string v.text]
def OV.enc(o:OV):bt:=[.int .i64 o.kind,.int .i64 o.index,.int .i64 o.value.kind,.int .i64 o.value.int,.string o.value.text]
def PV.enc(p:PV):bt:=
 [.int .i64 p.op,.int .i64 p.cmp,
  .int .i64 p.left.kind,.int .i64 p.left.index,.int .i64 p.left.value.kind,.int .i64 p.left.value.int,.string p.left.value.text,
  .int .i64 p.right.kind,.int .i64 p.right.index,.int .i64 p.right.value.kind,.int .i64 p.right.value.int,.string p.right.value.text,
  .slice p.args.a p.args.len p.args.cap]
def QV.enc(q:QV):bt:=
 [.int .i64 q.op,.int .i64 q.table,
  .int .i64 q.where_.op,.int .i64 q.where_.cmp,
  .int .i64 q.where_.left.kind,.int .i64 q.where_.left.index,.int .i64 q.where_.left.value.kind,.int .i64 q.where_.left.value.int,.string q.where_.left.value.text,
  .int .i64 q.where_.right.kind,.int .i64 q.where_.right.index,.int .i64 q.where_.right.value.kind,.int .i64 q.where_.right.value.int,.string q.where_.right.value.text,
  .slice q.where_.args.a q.where_.args.len q.where_.args.cap,
  .slice q.columns.a q.columns.len q.columns.cap,.slice q.on.a q.on.len q.on.cap,.slice q.group.a q.group.len q.group.cap,.slice q.order.a q.order.len q.order.cap,
  .int .i64 q.limit,.slice q.args.a q.args.len q.args.cap]
def wQ.enc(q:wQ):bt:=
 [.int .i64 q.op,.int .i64 q.table,
  .int .i64 q.where_.op,.int .i64 q.where_.cmp,
  .int .i64 q.where_.left.kind,.int .i64 q.where_.left.index,.int .i64 q.where_.left.value.kind,.int .i64 q.where_.left.value.int,.string q.where_.left.value.text,
  .int .i64 q.where_.right.kind,.int .i64 q.where_.right.index,.int .i64 q.where_.right.value.kind,.int .i64 q.where_.right.value.int,.string q.where_.right.value.text,
  .slice q.where_.args.a q.where_.args.len q.where_.args.cap,
  .slice q.columns.a q.columns.len q.columns.cap,.slice q.on.a q.on.len q.on.cap,.slice q.group.a q.group.len q.group.cap,.slice q.order.a q.order.len q.order.cap,
  .int .i64 q.limit,.int .i64 q.left,.int .i64 q.right]
def pS.enc(c:pS):bt:=[.string c.name,.int .i64 c.kind]
def GL.enc(r:GL):bt:=[.slice r.columns.a r.columns.len r.columns.cap,.int .i64 r.table]
def cW.enc(t:cW):bt:=[.string t.name,.slice t.columns.a t.columns.len t.columns.cap,.int .i64 t.key,.slice t.references.a t.references.len t.references.cap,.slice t.checks.a t.checks.len t.checks.cap]
def bZ.enc(s:bZ):bt:=[.int .i64 s.version,.slice s.tables.a s.tables.len s.tables.cap]
abbrev zV:=[fV 0,fV 0,fV 0,fV 0,fV 0,fV 0,fV 0,fV 0,vQz,fV 0,fV 0,fV 0,fV 0,vQz,oM,oM,oM,oM,oM,fV 0,oM]
abbrev pQ(p:PV)(r:ct):=j9 p.op::j9 p.cmp::j9 p.left.kind::j9 p.left.index::j9 p.left.value.kind::j9 p.left.value.int::Nf p.left.value.text::j9 p.right.kind::j9 p.right.index::j9 p.right.value.kind::j9 p.right.value.int::Nf p.right.value.text::yG p.args::r
abbrev qQ(q:QV)(x:At):=j9 q.op::j9 q.table::pQ q.where_ [yG q.columns,yG q.on,yG q.group,yG q.order,j9 q.limit,x]
def sH(p:Int×Int):bt:=[.int .i64 p.1,.int .i64 p.2]
def Dz(p:Int×Bool):bt:=[.int .i64 p.1,.bool p.2]
def dI:Dec:=⟨Int,eI⟩
def dS:Dec:=⟨Sl,eS⟩
def dB:Dec:=⟨Bool,λb=>[.bool b]⟩
def dU8:Dec:=⟨UInt8,λb=>[.int .u8 b.toNat]⟩
def cWZ:Dec:=⟨ByteArray,λs=>[.string s]⟩
def bOZ:Option Nat->Value
 |none=>.nilFunc
 |some f=>.func (.func f) #[] #[]
def dF:Dec:=⟨Option Nat,λf=>[bOZ f]⟩
structure NV where
 s:bZ
 params:Sl
 q:QV
 args:Sl
def NV.enc(n:NV):=n.s.enc++eS n.params++n.q.enc++eS n.args
structure iK where
 query:QV
 args:Sl
 rows:Int
 env:Int
 width:Int
def iK.enc(x:iK):=x.query.enc++[.slice x.args.a x.args.len x.args.cap,.int .i64 x.rows,.int .i64 x.env,.int .i64 x.width]
def dec:=λT=>match T with
 |2=>dI
 |3=>dI
 |4=>dB
 |5=>dU8
 |9=>cWZ
 |46=>dI
 |22=>dS
 |50=>dS
 |52=>dS
 |33=>dS
 |36=>dS
 |37=>dS
 |38=>dS
 |39=>dS
 |25=>dS
 |58=>dS
 |65=>dS
 |70=>dS
 |71=>dS
 |108=>dS
 |27=>⟨bZ,bZ.enc⟩
 |30=>⟨VV,VV.enc⟩
 |32=>⟨OV,OV.enc⟩
 |35=>⟨PV,PV.enc⟩
 |41=>⟨QV,QV.enc⟩
 |73=>⟨cW,cW.enc⟩
 |130=>⟨Int×Int,sH⟩
 |77=>⟨Int×Bool,Dz⟩
 |118=>⟨pS,pS.enc⟩
 |129=>⟨GL,GL.enc⟩
 |190=>⟨NV,NV.enc⟩
 |191=>dF
 |207=>dF
 |221=>⟨Nat,λb=>[.func (.func 214) #[] #[.pointer (some ⟨b,0,none⟩)]]⟩
 |157=>⟨Nat,λb=>[.map (some b)]⟩
 |160=>⟨Nat,λb=>[.map (some b)]⟩
 |43=>dS
 |95=>dS
 |45=>⟨Sl×Sl,λp=>[.slice p.1.a p.1.len p.1.cap,.slice p.2.a p.2.len p.2.cap]⟩
 |101=>⟨wQ,wQ.enc⟩
 |91=>⟨Nat,λb=>[.map (some b)]⟩
 |97=>⟨iK,iK.enc⟩
 |94=>⟨Nat×Nat×Nat,λb=>[.func (.func 38) #[] #[.pointer (some ⟨b.1,0,none⟩),.pointer (some ⟨b.2.1,0,none⟩),.pointer (some ⟨b.2.2,0,none⟩)]]⟩
 |_=>⟨Unit,λ_=>[]⟩
def dX(f:Func):=match f.body with|some c=>c|none=>.skip
noncomputable def ctx(specs:List (Nat×Vc.Spec))(loops:List (Nat×Pm))(cuts:List (Nat×asJ))(moves:List (Nat×cm))(retMove:Bool):Ctx:=
 {P:=Tryz.prog,loops2:=[],cuts2:=[],rcuts:=[],heapT:=[],specs:=specs,dec:=dec,loops:=loops,cuts:=cuts,moves:=moves,retMove:=retMove,yield:=none}
noncomputable def dE(specs:List (Nat×Vc.Spec))(loops cuts:dg)(moves:List (Nat×cm))(retMove:Bool):Ctx:=
 {P:=Tryz.prog,loops2:=loops,cuts2:=cuts,rcuts:=[],heapT:=[],specs:=specs,dec:=dec,loops:=[],cuts:=[],moves:=moves,retMove:=retMove,yield:=none}
noncomputable def cWJ(specs:List (Nat×Vc.Spec))(loops cuts:dg)(rcuts:List (Nat×dg))(moves:List (Nat×cm))(retMove:Bool):Ctx:=
 {P:=Tryz.prog,loops2:=loops,cuts2:=cuts,rcuts:=rcuts,heapT:=[],specs:=specs,dec:=dec,loops:=[],cuts:=[],moves:=moves,retMove:=retMove,yield:=none}
noncomputable def qV(specs:List (Nat×Vc.Spec))(loops cuts:dg)(rcuts:List (Nat×dg))(heapT:dk)(moves:List (Nat×cm))(retMove:Bool):Ctx:=
 {P:=Tryz.prog,loops2:=loops,cuts2:=cuts,rcuts:=rcuts,heapT:=heapT,specs:=specs,dec:=dec,loops:=[],cuts:=[],moves:=moves,retMove:=retMove,yield:=none}
abbrev bm:=Sound Tryz.prog
theorem aG:∀g S,assoc ([]:List (Nat×Vc.Spec)) g=some S->bm g S:=λg S h=>by simp[assoc]at h
theorem aE{c S0 r}(e:bm c S0)(f:∀g S,assoc r g=some S->bm g S):∀g S,assoc ((c,S0)::r) g=some S->bm g S:=by
 intro g S h;simp only[assoc]at h;split at h
 .rename_i d;have:=Nat.eq_of_beq_eq_true d
  grind
 grind
def Yr(n:Int):ck->Int×ck
 |[]=>(0,[])
 |b::r=>if n<1 then(0,b::r)else((b.toNat:Int)%n,r)
structure atZ(m:MH)(h:PH)(cb:Nat)(r:ck):Prop where
 ex:∃(s:Sl)(cs:ck)(k:Nat),m cb=some (.cells #[.slice s.a s.len s.cap,.int .i64 k] 86 (0,0))/\dC h s 1 (aX cs)/\k<=cs.length/\cs.length<=1000/\r=cs.drop k
structure bP(m m':MH)(cb:Nat):Prop where
 other:∀b,b≠cb->m' b=m b
end Go.Ps
namespace Go.Vc
open Go List
theorem PH.le.refl h:PH.le h h:=⟨λ_ _ _ e=>e⟩
theorem PH.le.trans{h h' c}(a:PH.le h h')(b:PH.le h' c):PH.le h c:=⟨λx y v e=>b.le x y v (a.le x y v e)⟩
theorem cO.mono{h h' b o l}(r:cO h b o l)(le:PH.le h h'):cO h' b o l:=⟨λi v e=>le.le _ _ _ (r.rd i v e)⟩
theorem dC.mono{h h' s sz xs}(r:dC h s sz xs)(le:PH.le h h'):dC h' s sz xs:=
 ⟨r.len,r.row.imp id λ⟨b,o,e,k⟩=>⟨b,o,e,λi x c=>(k i x c).mono le⟩,r.cap⟩
theorem dC.get{h s sz xs}(r:dC h s sz xs){i e}(c:xs[i]? =some e):
 ∃b o,s.a=some ⟨b,o,none⟩/\cO h b (o+i*sz) e:=by
 rcases r.row with rfl|⟨b,o,d,k⟩
 .simp at c
 grind
theorem cT.blk{m s E sz xs}(h:cT m s E sz xs){b i}(e:s.a=some ⟨b,i,none⟩):∃c,m b=some (.cells c E (0,0)):=by
 rcases h.ex with⟨rfl,_⟩|⟨f,d,c,rfl,g,_⟩
 .cases e
 grind
theorem cT.slen{m s E sz xs}(h:cT m s E sz xs):s.len=xs.length:=by
 rcases h.ex with⟨rfl,rfl⟩|⟨e,c,d,rfl,f,_⟩<;>rfl
theorem cT.keep{m m' s E sz xs}(h:cT m s E sz xs)(f:∀b i,s.a=some ⟨b,i,none⟩->m' b=m b):cT m' s E sz xs:=by
 refine⟨h.rows,?_⟩;rcases h.ex with c|⟨b,d,e,rfl,g,j⟩
 .exact .inl c
 grind
theorem dC.nil h sz:dC h ⟨none,0,0⟩ sz []:=⟨rfl,.inl rfl,Nat.le_refl _⟩
end Go.Vc
namespace Go.Ps
open Go Go.Vc Go.Proofs List Tryz
variable{K:bo}{m:MH}{h:PH}{ps:bn}{cb:Nat}{sc:bZ}{v:QV}{l:bn}{i:Nat}{N:Nat}{m':MH}{h':PH}{co:bn}{gr:bn}{od:bz}{ta:Int}{li:Int}{xs:List bt}{sz:Nat}{ks:List bn}{rs:bn}{r:Sl}{a:bn}{b:Nat}
structure Ints(h:PH)(s:Sl)(l:bn):Prop where
 row:dC h s 1 (l.map eI)
 len:l.length<=17592186044416
theorem Ints.mono{s}(r:Ints h s l)(le:PH.le h h'):Ints h' s l:=⟨r.row.mono le,r.len⟩
theorem Ints.slen{s}(r:Ints h s l):s.len=l.length:=by have:=r.row.len;grind
structure jC(h:PH)(s:Sl)(l:bu):Prop where
 row:dC h s 2 (l.map sH)
 len:l.length<=8796093022208
theorem jC.mono{s l}(r:jC h s l)(le:PH.le h h'):jC h' s l:=⟨r.row.mono le,r.len⟩
theorem jC.slen{s l}(r:jC h s l):s.len=l.length:=by have:=r.row.len;grind
structure jB(h:PH)(s:Sl)(l:bz):Prop where
 row:dC h s 2 (l.map Dz)
 len:l.length<=8796093022208
theorem jB.mono{s l}(r:jB h s l)(le:PH.le h h'):jB h' s l:=⟨r.row.mono le,r.len⟩
theorem jB.slen{s l}(r:jB h s l):s.len=l.length:=by have:=r.row.len;grind
inductive Pred where
 |mk (op cmp:Int) (left right:OV) (args:List Pred)
abbrev cn:=List Pred
variable{p:Pred}
mutual
def fH(h:PH):Pred->PV->Prop
 |.mk op c l r args,v=>v.op=op/\v.cmp=c/\v.left=l/\v.right=r/\args.length<=502633886983/\∃d:dj,dC h v.args 13 (d.map PV.enc)/\An h args d
def An(h:PH):cn->dj->Prop
 |[],d=>d=[]
 |p::ps,d=>∃v c,d=v::c/\fH h p v/\An h ps c
end
mutual
theorem fH.mono{h h':PH}(le:PH.le h h'):∀{p:Pred}{v:PV},fH h p v->fH h' p v
 |.mk ..,_,⟨c,d,e,f,g,j,n,s⟩=>⟨c,d,e,f,g,j,n.mono le,An.mono le s⟩
theorem An.mono{h h':PH}(le:PH.le h h'):∀{ps:cn}{vs:dj},An h ps vs->An h' ps vs
 |[],_,h=>h
 |_::_,_,⟨v,c,d,e,f⟩=>⟨v,c,d,fH.mono le e,An.mono le f⟩
end
theorem An.length{h:PH}:∀{ps:cn}{vs:dj},An h ps vs->vs.length=ps.length
 |[],_,h=>by rw[show _=[]from h];rfl
 |_::_,_,⟨_,_,c,_,d⟩=>by rw[c];simp[An.length d]
theorem An.get{h:PH}:∀{ps:cn}{vs:dj},An h ps vs->∀{i:Nat}{p:Pred},ps[i]? =some p->∃v,vs[i]? =some v/\fH h p v
 |[],_,_,i,p,e=>by simp at e
 |p0::ps,_,⟨v,c,rfl,f,d⟩,0,p,e=>bg
 |p0::ps,_,⟨v,c,rfl,f,d⟩,i+1,p,e=>by simp at e;simpa using An.get d e
inductive Query where
 |mk (op table:Int) (wher:Pred) (columns:bn) (on:bu) (group:bn) (order:bz) (limit:Int) (args:List Query)
abbrev ce:=List Query
mutual
def dG(h:PH):Query->QV->Prop
 |.mk op table w c on d e f args,v=>v.op=op/\v.table=table/\fH h w v.where_/\Ints h v.columns c/\jC h v.on on/\Ints h v.group d/\jB h v.order e/\v.limit=f/\
  args.length<=502633886983/\∃g:da,dC h v.args 21 (g.map QV.enc)/\BH h args g
def BH(h:PH):ce->da->Prop
 |[],d=>d=[]
 |p::ps,d=>∃v c,d=v::c/\dG h p v/\BH h ps c
end
mutual
theorem dG.mono{h h':PH}(le:PH.le h h'):∀{p:Query}{v:QV},dG h p v->dG h' p v
 |.mk ..,_,⟨e,f,g,j,n,s,t,u,y,z,c,d⟩=>⟨e,f,g.mono le,j.mono le,n.mono le,s.mono le,t.mono le,u,y,z,c.mono le,BH.mono le d⟩
theorem BH.mono{h h':PH}(le:PH.le h h'):∀{ps:ce}{vs:da},BH h ps vs->BH h' ps vs
 |[],_,h=>h
 |_::_,_,⟨v,c,d,e,f⟩=>⟨v,c,d,dG.mono le e,BH.mono le f⟩
end
theorem BH.length{h:PH}:∀{ps:ce}{vs:da},BH h ps vs->vs.length=ps.length
 |[],_,h=>by rw[show _=[]from h];rfl
 |_::_,_,⟨_,_,c,_,d⟩=>by rw[c];simp[BH.length d]
theorem BH.get{h:PH}:∀{ps:ce}{vs:da},BH h ps vs->∀{i:Nat}{p:Query},ps[i]? =some p->∃v,vs[i]? =some v/\dG h p v
 |[],_,_,i,p,e=>by simp at e
 |p0::ps,_,⟨v,c,rfl,f,d⟩,0,p,e=>bg
 |p0::ps,_,⟨v,c,rfl,f,d⟩,i+1,p,e=>by simp at e;simpa using BH.get d e
def iv(n:Int):SV:=.at (.val (.int .i64 n))
def sv(s:Sl):SV:=.at (.val (.slice s.a s.len s.cap))
def bv(b:Bool):SV:=.at (.val (.bool b))
def vv(v:Value):SV:=.at (.val v)
def cS(s:Sl):CV:=.val (.slice s.a s.len s.cap)
def cI(n:Int):CV:=.val (.int .i64 n)
def cB(b:Bool):CV:=.val (.bool b)
def cP(b:Nat):CV:=.val (.pointer (some ⟨b,0,none⟩))
def G8(id:Nat)(st:Nat->St)(inv:Nat->Prop)(mu:Nat->Nat):Nat×Pm:=(id,{A:=Nat,st:=st,inv:=inv,mu:=mu})
theorem iS(h:i<=140737488355328):IntKind.i64.wrap ((i:Int)+1)=((i+1:Nat):Int):=by
 rw[fB aC aC];rfl
theorem Ints.at{s}(r:Ints h s l){x}(c:l[i]? =some x):∃b o,s.a=some ⟨b,o,none⟩/\cO h b (o+i) [.int .i64 x]:=by
 obtain⟨b,o,d,f⟩:=r.row.get (i:=i) (e:=eI x) (by simp[c]);exact⟨b,o,d,by simpa[eI]using f⟩
theorem MT{p:Prop}(h:p:=by repeat' (first|with_reducible rfl|exact trivial|refine⟨?_,?_⟩|rfl|(rw[iS aC];done)|(rw[iS aC]))):p:=h
def gM(k:Int):=k==3||k==4||k==5
def G1(t:ByteArray):=t.toList==[]
def kA(v:VV):=
 if v.kind==1||v.kind==2 then v.int==0&&G1 v.text
 else if v.kind==3 then(v.int==0||v.int==1)&&G1 v.text
 else if v.kind==4 then G1 v.text
 else if v.kind==5 then v.int==0&&(v.text.size:Int)<=64
 else false
def pI v:=kA v&&v.kind>=3
def aV(v:VV):CV:=.val (.agg #[.int .i64 v.kind,.int .i64 v.int,.string v.text])
def bXJ:Vc.Spec:=λc m h K=>∃k,c=[cI k]/\K (cB (gM k)) m h
def Ng:Vc.Spec:=λc m h K=>∃v,c=[aV v]/\K (cB (kA v)) m h
def Ud:Vc.Spec:=λc m h K=>∃v,c=[aV v]/\K (cB (pI v)) m h
def RC:Vc.Spec:=λc m h K=>∃s l,c=[cS s]/\Ints h s l/\K (cB (l.all gM)) m h
noncomputable def cfZ(s:Sl)(l:bn)(m:MH)(h:PH):=
 ctx [(123,bXJ)] [G8 2 (λi=>bU 15 16 [(5,sv s),(6,iv s.len),(7,iv i)] [] m h) (λi=>i<=l.length/\(l.take i).all gM=true) (λi=>l.length-i)] [] [] false
noncomputable def bEX(s:Sl)(l:bn)(m:MH)(h:PH):=
 ctx [] [G8 2 (λi=>bU 22 23 [(5,sv s),(6,iv s.len),(7,iv i)] [] m h) (λi=>i<=l.length/\(l.take i).all gM=true) (λi=>l.length-i)] [] [] false
abbrev dR a b c d e:=branch a b (branch c d e)
abbrev iM:=Af true
attribute [push_cast] dR iM
def TR(k:Int)(m:MH)(h:PH)(K:bo):=
  dR (k==3) (K iM m h) (k==4) (K iM m h) (K (Af (k==5)) m h)
abbrev eU(a b:Int)(c d:Prop):=branch (a==b) c d
abbrev DV(a:VV):=a.text.toList
abbrev HX(a:bo)(b:VV)(c:MH)(d:PH):=a (Af (DV b==[])) c d
abbrev bH:=Af false
attribute [push_cast] eU DV HX bH
def Iw v m h K:=
  dR (v.kind==1) (eU v.int 0 (HX K v m h) (K bH m h)) (v.kind==2) (eU v.int 0 (HX K v m h) (K bH m h)) (dR (v.kind==3) (dR (v.int==0) (HX K v m h) (v.int==1) (HX K v m h) (K bH m h)) (v.kind==4) (HX K v m h) (eU v.kind 5 (eU v.int 0 (K (Af (decide ((↑v.text.size:Int)<=64))) m h) (K bH m h)) (K bH m h)))
abbrev hX a b c d:=a/\branch b c d
abbrev vG(a:CV):=[a]
abbrev eO a b:=vG a=vG b
abbrev j4(a:VV):=kQ a.enc
attribute [push_cast] hX vG eO j4
def Tp(v:VV)(m:MH)(h:PH)(K:bo):=
  ∃(c:VV),hX (eO (j4 v) (j4 c)) (kA c) (K (Af (decide (v.kind>=3))) m h) (K bH m h)
abbrev cV(a b:Int)(c d:Prop):=branch (a !=b) c d
attribute [push_cast] cV
def Tt(v:VV)(m:MH)(h:PH)(K:bo):=
  ∃(c:VV),hX (eO (j4 v) (j4 c)) (kA c) (cV v.kind 1 (K (Af (v.kind !=2)) m h) (K bH m h)) (K bH m h)
abbrev kX(a:Prop)(b:Nat->Prop):=a/\∀(x:Nat),b x
abbrev aA a b c:=a/\b/\c
abbrev iE a:=a=true
abbrev En a:=List.all a gM
abbrev Cf a b:=a<=b.length/\iE (En (List.take a b))
abbrev aJ a:=eQ (sQs a)
abbrev bO(a:Nat):=gK (↑a:Int)
abbrev bI(a:Sl):=eQ (bO a.len)
abbrev bA a:=gK 0=bO a
abbrev dY(a b:MH)(c d:PH):=aA (a=b) (c=d) True
abbrev aY(a b:Int)(c d:Prop):=branch (decide (a<b)) c d
abbrev aH(a:Sl):=(↑a.len:Int)
abbrev bJ(a:Nat->Nat->Prop):=∃(x c:Nat),a x c
abbrev aI a b c d:=aA a b (c/\d)
abbrev aW a b c:=a=Option.some (Addr.mk b c Option.none)
abbrev gY(a:Int)(b:Nat):=a.toNat*b
abbrev bM(a b:Nat):=gY (↑a:Int) b
abbrev oN(a:Value):=[a]
abbrev bB a:=oN (fV a)
abbrev rR a b:=eO (iR a) (iR b)
abbrev cZ(a:Prop)(b c:Nat->Option Obj)(d e:PH):=aI a (b=c) (d=e) True
abbrev fG a:=IntKind.wrap IntKind.i64 a
abbrev bE(a:Nat)(b:Int):=fG ((↑a:Int)+b)
attribute [push_cast] kX aA iE En Cf aJ bO bI bA dY aY aH bJ aI aW gY bM oN bB rR cZ fG bE
def Xs(s:Sl)(l:bn)(m:MH)(h:PH)(K:bo):=
  kX (∃(x:Nat),aA (Cf x l) (aJ s) (aA (bI s) (bA x) (dY m m h h))) (λx=>Cf x l->aY (↑x:Int) (aH s) (bJ (λb o=>aI (aW s.a b o) (0<=(↑x:Int)) ((↑x:Int)<aH s) (∃(y:Int),aK m h b (o+bM x 1) (bB y)/\∃(k:Int),hX (rR y k) (!(gM k)) (K bH m h) (∃(c:Nat),aA (Cf c l) (l.length-c<l.length-x) (aA (aJ s) (bI s) (cZ (gK (bE x 1)=bO c) m m h h)))))) (K iM m h))
def Ti(s:Sl)(l:bn)(m:MH)(h:PH)(K:bo):=
  kX (∃(x:Nat),aA (Cf x l) (aJ s) (aA (bI s) (bA x) (dY m m h h))) (λx=>Cf x l->aY (↑x:Int) (aH s) (bJ (λb o=>aI (aW s.a b o) (0<=(↑x:Int)) ((↑x:Int)<aH s) (∃(y:Int),aK m h b (o+bM x 1) (bB y)/\cV y 3 (cV y 4 (cV y 5 (K bH m h) (∃(c:Nat),aA (Cf c l) (l.length-c<l.length-x) (aA (aJ s) (bI s) (cZ (gK (bE x 1)=bO c) m m h h)))) (∃(c:Nat),aA (Cf c l) (l.length-c<l.length-x) (aA (aJ s) (bI s) (cZ (gK (bE x 1)=bO c) m m h h)))) (∃(c:Nat),aA (Cf c l) (l.length-c<l.length-x) (aA (aJ s) (bI s) (cZ (gK (bE x 1)=bO c) m m h h)))))) (K iM m h))
theorem cqQ v m h K:Iw v m h K=wW (ctx [] [] [] [] false) Tryz.f133 (dX Tryz.f133) (entry Tryz.f133.ntmps [aV v] m h) K:=ax
theorem kG{x y}(c:K (cB x) m h)(e:x=y):K (.val (.bool y)) m h:=e▸c
theorem aDJ{v}(c:K (cB (kA v)) m h):Iw v m h K:=by
 dsimp only[Iw,push_cast]
 repeat' (first|(refine aD (λ_=>?_) (λ_=>?_))|(refine kG c ?_;simp_all [kA,G1]))
theorem iQ{f fn}(n:Tryz.prog.funcs[f]? =some fn){S}(j:∀c m h K,S c m h K->∃C:Ctx,C.P=Tryz.prog/\(∀g S,assoc C.specs g=some S->bm g S)/\∃N:Prop,N=wW C fn (dX fn) (entry fn.ntmps c m h) K/\N)(s:fn.body=some (dX fn):=by rfl)(d:(fn.name== "runtime.NumGoroutine")=false:=by decide):bm f S:=fK n s d λc m h K t=>let⟨C,hC,hs,N,e,hn⟩:=j c m h K t;⟨C,hC,hs,e▸hn⟩
theorem Re:bm 123 bXJ:=by
 refine iQ func123 ?_;rintro c m h K ⟨k,rfl,d⟩;refine⟨ctx [] [] [] [] false,rfl,aG,TR k m h K,ax,?_⟩;dsimp only[TR,push_cast]
 repeat' (first|(refine aD (λ_=>?_) (λ_=>?_))|(refine kG d ?_;simp_all [gM]))
theorem ZN:bm 210 Ng:=by
 refine iQ func210 ?_;rintro c m h K ⟨v,rfl,d⟩;refine⟨ctx [] [] [] [] false,rfl,aG,Iw v m h K,ax,?_⟩;exact aDJ d
theorem Jy:bm 133 Ng:=by
 refine fK (fn:=Tryz.f133) (c:=dX Tryz.f133) func133 rfl az ?_;rintro d m h K ⟨v,rfl,e⟩;refine⟨ctx [] [] [] [] false,rfl,aG,?_⟩;rw[<-cqQ v m h K];exact aDJ e
theorem adQ:bm 166 Ud:=by
 refine iQ func166 ?_;rintro c m h K ⟨v,rfl,d⟩;refine⟨ctx [(210,Ng)] [] [] [] false,rfl,aE ZN aG,Tp v m h K,ax,?_⟩;dsimp only[Tp,push_cast];refine⟨v,rfl,?_⟩
 repeat' (first|(refine aD (λ_=>?_) (λ_=>?_))|(refine kG d ?_;simp_all [pI]))
theorem Gl:bm 158 Ud:=by
 refine iQ func158 ?_;rintro g m h K ⟨v,rfl,e⟩;refine⟨ctx [(133,Ng)] [] [] [] false,rfl,aE Jy aG,Tt v m h K,ax,?_⟩;dsimp only[Tt,push_cast];refine⟨v,rfl,?_⟩;refine aD (λc=>aD (λd=>kG e ?_) (λd=>kG e ?_)) (λc=>kG e ?_)
 .have d:v.kind≠1:=bg
  by_cases f:v.kind=2
  .simp[pI,c,f]
  .have:3<=v.kind:=by
    simp only[kA]at c
    grind
   simp[pI,c,f,this]
 .have d:v.kind=1:=bg
  simp[pI,d]
 .simp[pI,c]
theorem BG{α p}{l:List α}{x}(hx:l[i]? =some x):(l.take (i+1)).all p=((l.take i).all p&&p x):=by
 rw[take_add_one,all_append,hx];simp
theorem Pg{α p}{l:List α}{x}(hx:l[i]? =some x)(c:p x=false):l.all p=false:=by
 grind
theorem SK:bm 62 RC:=by
 refine iQ func62 ?_;rintro g m h K ⟨s,l,rfl,c,e⟩;refine⟨cfZ s l m h,rfl,aE Re aG,Xs s l m h K,ax,?_⟩;dsimp only[Xs,push_cast];have A:=c.slen;have D:=c.len;refine⟨⟨0,⟨aC,ay⟩,rfl,rfl,rfl,rfl,rfl,trivial⟩,λi j=>aF (λd=>?_) (λn=>?_)⟩
 .obtain⟨x,f⟩:∃x,l[i]? =some x:=⟨l[i]'(by omega),getElem?_eq_getElem _⟩
  obtain⟨t,u,y,E⟩:=c.at f;refine⟨t,u,y,aC,d,x,.imm bg,x,rfl,aD (λz=>kG e ?_) (λz=>?_)⟩
  .grind
  .refine⟨i+1,⟨aC,?_⟩,aC,rfl,rfl,by rw[iS aC],rfl,rfl,trivial⟩;rw[BG f,j.2]
   grind
 .refine kG e ?_
  grind
theorem aaX:bm 184 RC:=by
 refine iQ func184 ?_;rintro n m h K ⟨s,l,rfl,d,j⟩;refine⟨bEX s l m h,rfl,aG,Ti s l m h K,ax,?_⟩;dsimp only[Ti,push_cast];have E:=d.slen;have F:=d.len;refine⟨⟨0,⟨aC,ay⟩,rfl,rfl,rfl,rfl,rfl,trivial⟩,λi t=>aF (λe=>?_) (λu=>?_)⟩
 .obtain⟨x,f⟩:∃x,l[i]? =some x:=⟨l[i]'(by omega),getElem?_eq_getElem _⟩
  obtain⟨z,A,D,G⟩:=d.at f;have c:gM x=true->(l.take (i+1)).all gM=true:=λg=>by rw[BG f,t.2,g];rfl
  refine⟨z,A,D,aC,e,x,.imm bg,?_⟩;have next:gM x=true->∃(y:Nat),(y<=l.length/\(l.take y).all gM=true)/\l.length-y<l.length-i/\y=i+1:=λg=>⟨i+1,⟨aC,c g⟩,aC,rfl⟩
  repeat' (first|(refine aD (λ_=>?_) (λ_=>?_))|(refine kG j (Pg f ?_);simp_all [gM];done)|(refine⟨i+1,⟨aC,c (by simp_all [gM])⟩,aC,rfl,rfl,by rw[iS aC],rfl,rfl,trivial⟩))
 .refine kG j ?_
  grind
def eqV(a b:VV):=a.kind==b.kind&&(a.int==b.int&&(a.text.toList==b.text.toList&&true))
def eqO(a b:OV):=a.kind==b.kind&&(a.index==b.index&&(eqV a.value b.value&&true))
theorem oL{f e d xs c w x y r r'}(g:(f.name== "_")=false)(hx:BM Tryz.prog (part f.type xs f.offset)=some x)(j:BM Tryz.prog (part f.type c f.offset)=some y)(n:(Op.equalIn d f.type x y).run Tryz.prog w= .ok r w)(s:(Op.eqFields d xs c e).run Tryz.prog w= .ok r' w):(Op.eqFields d xs c (f::e)).run Tryz.prog w= .ok (r&&r') w:=by
 have g:f.name≠ "_" :=bg
 simp only[Op.eqFields,if_pos g,Sem.run_bind,C1 _ _ _ hx,C1 _ _ _ j,Result.andThen_ok,n];cases r
 .simp
 grind
noncomputable def RM t k:=(Tryz.prog.fieldsOf t).toList.getD k default
theorem aFX a b d w:(Op.equalIn (d+2) 30 (.agg #[.int .i64 a.kind,.int .i64 a.int,.string a.text]) (.agg #[.int .i64 b.kind,.int .i64 b.int,.string b.text])).run Tryz.prog w= .ok (eqV a b) w:=by
 rw[run_equalIn_struct w (d+1) 30 _ _ ax ax,show(Tryz.prog.fieldsOf 30).toList=[RM 30 0,RM 30 1,RM 30 2]by kernel_rfl];refine oL (x:=.int .i64 a.kind) (y:=.int .i64 b.kind) ax ax ax (run_equalIn_int w d _ .i64 .i64 _ _ ax) ?_;refine oL (x:=.int .i64 a.int) (y:=.int .i64 b.int) ax ax ax (run_equalIn_int w d _ .i64 .i64 _ _ ax) ?_;refine oL (x:=.string a.text) (y:=.string b.text) ax ax ax (run_equalIn_string w d _ _ _ ax) ?_;simp[Op.eqFields]
theorem crZ a b d w:(Op.equalIn (d+3) 32 (.agg #[.int .i64 a.kind,.int .i64 a.index,.int .i64 a.value.kind,.int .i64 a.value.int,.string a.value.text]) (.agg #[.int .i64 b.kind,.int .i64 b.index,.int .i64 b.value.kind,.int .i64 b.value.int,.string b.value.text])).run Tryz.prog w= .ok (eqO a b) w:=by
 rw[run_equalIn_struct w (d+2) 32 _ _ ax ax,show(Tryz.prog.fieldsOf 32).toList=[RM 32 0,RM 32 1,RM 32 2]by kernel_rfl];refine oL (x:=.int .i64 a.kind) (y:=.int .i64 b.kind) ax ax ax (run_equalIn_int w (d+1) _ .i64 .i64 _ _ ax) ?_;refine oL (x:=.int .i64 a.index) (y:=.int .i64 b.index) ax ax ax (run_equalIn_int w (d+1) _ .i64 .i64 _ _ ax) ?_;refine oL (x:=.agg #[.int .i64 a.value.kind,.int .i64 a.value.int,.string a.value.text]) (y:=.agg #[.int .i64 b.value.kind,.int .i64 b.value.int,.string b.value.text]) ax ax ax ?_ ?_
 .rw[show(RM 32 2).type=30 by kernel_rfl];exact aFX a.value b.value d w
 .simp[Op.eqFields]
theorem Vi a b:StructEq Tryz.prog 30 (.agg #[.int .i64 a.kind,.int .i64 a.int,.string a.text]) (.agg #[.int .i64 b.kind,.int .i64 b.int,.string b.text]) (eqV a b):=
 ⟨ax,λw=>aFX a b 9998 w⟩
theorem Bo a b:StructEq Tryz.prog 32 (.agg #[.int .i64 a.kind,.int .i64 a.index,.int .i64 a.value.kind,.int .i64 a.value.int,.string a.value.text]) (.agg #[.int .i64 b.kind,.int .i64 b.index,.int .i64 b.value.kind,.int .i64 b.value.int,.string b.value.text]) (eqO a b):=
 ⟨ax,λw=>crZ a b 9997 w⟩
theorem CU{a b:ByteArray}(h:a.toList=b.toList):a=b:=by
 rw[ByteArray.toList_eq,ByteArray.toList_eq]at h;cases a;cases b;simp only[ByteArray.mk.injEq];exact Array.toList_inj.1 h
theorem Vj{a b}:eqV a b=true↔a=b:=by
 obtain⟨k,i,t⟩:=a;obtain⟨f,g,j⟩:=b;simp only[eqV,Bool.and_true,Bool.and_eq_true,beq_iff_eq,VV.mk.injEq];exact⟨λ⟨c,d,e⟩=>⟨c,d,CU e⟩,λ⟨c,d,e⟩=>⟨c,d,by rw[e]⟩⟩
theorem uM{a b}:eqO a b=true↔a=b:=by
 obtain⟨k,i,t⟩:=a;obtain⟨c,d,e⟩:=b;simp only[eqO,Bool.and_true,Bool.and_eq_true,beq_iff_eq,OV.mk.injEq,Vj]
def zeroV:VV:=⟨0,0,⟨#[]⟩⟩
def fS:OV:=⟨0,0,zeroV⟩
def rX(l:bn)(o:OV):=if o.index<0||o.index>=l.length|| !eqV o.value zeroV then 0 else l.getD o.index.toNat 0
def kindOf cols params o:=
 if o.kind==3 then(if o.index !=0|| !pI o.value then 0 else o.value.kind)
 else if o.kind==2 then rX params o
 else if o.kind==1 then rX cols o
 else 0
def yO(v:PV):=v.cmp==0&&eqO v.left fS&&eqO v.right fS
def aO(o:OV):CV:=.val (.agg #[.int .i64 o.kind,.int .i64 o.index,.int .i64 o.value.kind,.int .i64 o.value.int,.string o.value.text])
def aP(p:PV):CV:=.val (.agg #[.int .i64 p.op,.int .i64 p.cmp,
 .int .i64 p.left.kind,.int .i64 p.left.index,.int .i64 p.left.value.kind,.int .i64 p.left.value.int,.string p.left.value.text,
 .int .i64 p.right.kind,.int .i64 p.right.index,.int .i64 p.right.value.kind,.int .i64 p.right.value.int,.string p.right.value.text,
 .slice p.args.a p.args.len p.args.cap])
def a2S(s t:Sl):CV:=.val (.agg #[.slice s.a s.len s.cap,.slice t.a t.len t.cap])
def bWQ:Vc.Spec:=λc m h K=>∃v,c=[aP v]/\K (cB (yO v)) m h
def aLZ:Vc.Spec:=λe m h K=>∃s t d c o,e=[cS s,cS t,aO o]/\Ints h s d/\Ints h t c/\K (cI (kindOf d c o)) m h
def YI:Vc.Spec:=λe m h K=>∃s t d c o,e=[a2S s t,aO o]/\Ints h s d/\Ints h t c/\K (cI (kindOf d c o)) m h
abbrev zS a b c d:=StructEq Proofs.Tryz.prog a (Value.agg (Array.mk b)) (Value.agg (Array.mk c)) d
abbrev bF(a b:Value)(c:bt):=a::b::c
abbrev cL:=fV 0
abbrev C7:=oN vQz
abbrev FY a b:=zS 32 a (bF cL cL (bF cL cL C7)) b
abbrev zR(a:PV):=a.right.enc
attribute [push_cast] zS bF cL C7 FY zR
def Tj(v:PV)(m:MH)(h:PH)(K:bo):=
  eU v.cmp 0 (∃(r:Bool),hX (FY v.left.enc r) r (∃(c:Bool),FY (zR v) c/\K (Af c) m h) (K bH m h)) (K bH m h)
abbrev pY(a:OV):=a.value.kind
abbrev iA(a b:Int)(c d:Prop):=branch (decide (a>=b)) c d
abbrev zD:=bF cL cL C7
attribute [push_cast] pY iA zD
def IE(s t:Sl)(o:OV)(m:MH)(h:PH)(K:bo):=
  dR (o.kind==3) (cV o.index 0 (K (iR 0) m h) (∃(v:VV),hX (eO (j4 o.value) (j4 v)) (!(pI v)) (K (iR 0) m h) (K (iR (pY o)) m h))) (o.kind==2) (aY o.index 0 (K (iR 0) m h) (iA o.index (aH t) (K (iR 0) m h) (∃(r:Bool),hX (zS 30 o.value.enc zD r) (!r) (K (iR 0) m h) (bJ (λb c=>aI (aW t.a b c) (0<=o.index) (o.index<aH t) (∃(y:Int),aK m h b (c+gY o.index 1) (bB y)/\K (iR y) m h)))))) (eU o.kind 1 (aY o.index 0 (K (iR 0) m h) (iA o.index (aH s) (K (iR 0) m h) (∃(r:Bool),hX (zS 30 o.value.enc zD r) (!r) (K (iR 0) m h) (bJ (λb c=>aI (aW s.a b c) (0<=o.index) (o.index<aH s) (∃(y:Int),aK m h b (c+gY o.index 1) (bB y)/\K (iR y) m h)))))) (K (iR 0) m h))
theorem Bu{x y}(c:K (cI x) m h)(e:x=y):K (.val (.int .i64 y)) m h:=e▸c
theorem Ints.inb{s}(r:Ints h s l){n}(d:0<=n)(f:n<(l.length:Int)):∃b o,s.a=some ⟨b,o,none⟩/\cO h b (o+n.toNat*1) [.int .i64 (l.getD n.toNat 0)]:=by
 have c:l[n.toNat]? =some (l.getD n.toNat 0):=by
  grind
 obtain⟨b,o,e,r⟩:=r.at c
 grind
theorem aEX{s t cols params o}(A:Ints h s cols)(D:Ints h t params)(c:K (cI (kindOf cols params o)) m h):IE s t o m h K:=by
 have E:=A.slen;have F:=D.slen;dsimp only[IE,push_cast];refine aD (λG=>aD (λy=>Bu c ?_) (λy=>⟨o.value,rfl,aD (λd=>Bu c ?_) (λd=>Bu c ?_)⟩)) (λG=>aD (λy=>?_) (λy=>aD (λd=>?_) (λd=>Bu c ?_)))
 .simp_all [kindOf]
 .simp_all [kindOf]
 .simp_all [kindOf]
 .have z:kindOf cols params o=rX params o:=by simp_all [kindOf]
  rw[z]at c;refine aF (λd=>Bu c ?_) (λd=>aF (λg=>Bu c ?_) (λg=>⟨eqV o.value zeroV,Vi o.value zeroV,aD (λf=>Bu c ?_) (λf=>?_)⟩))
  .simp[rX,d]
  .rw[F]at g;simp[rX,g]
  .simp only[Bool.not_eq_true']at f;simp[rX,f]
  .obtain⟨b,j,e,r⟩:=D.inb (n:=o.index) aC aC;refine⟨b,j,e,aC,aC,_,.imm r,Bu c ?_⟩;have u:¬o.index>=params.length:=by omega
   simp only[Bool.not_eq_false']at f;simp[rX,d,u,f]
 .have z:kindOf cols params o=rX cols o:=by simp_all [kindOf]
  rw[z]at c;refine aF (λd=>Bu c ?_) (λd=>aF (λg=>Bu c ?_) (λg=>⟨eqV o.value zeroV,Vi o.value zeroV,aD (λf=>Bu c ?_) (λf=>?_)⟩))
  .simp[rX,d]
  .rw[E]at g;simp[rX,g]
  .simp only[Bool.not_eq_true']at f;simp[rX,f]
  .obtain⟨b,j,e,r⟩:=A.inb (n:=o.index) aC aC;refine⟨b,j,e,aC,aC,_,.imm r,Bu c ?_⟩;have u:¬o.index>=cols.length:=by omega
   simp only[Bool.not_eq_false']at f;simp[rX,d,u,f]
 .simp_all [kindOf]
theorem abQ:bm 179 bWQ:=by
 refine iQ func179 ?_;rintro d m h K ⟨v,rfl,c⟩;refine⟨ctx [] [] [] [] false,rfl,aG,Tj v m h K,ax,?_⟩;dsimp only[Tj,push_cast];refine aD (λe=>⟨eqO v.left fS,Bo v.left fS,aD (λf=>⟨eqO v.right fS,Bo v.right fS,kG c ?_⟩) (λf=>kG c ?_)⟩) (λe=>kG c ?_)
 all_goals simp_all [yO]
theorem aaJ:bm 180 aLZ:=by
 refine iQ func180 ?_;rintro e m h K ⟨s,t,d,c,o,rfl,f,g,j⟩;refine⟨ctx [(166,Ud)] [] [] [] false,rfl,aE adQ aG,IE s t o m h K,ax,?_⟩;exact aEX f g j
theorem ZB:bm 235 YI:=by
 refine iQ func235 ?_;rintro e m h K ⟨s,t,d,c,o,rfl,f,g,j⟩;refine⟨ctx [(158,Ud)] [] [] [] false,rfl,aE Gl aG,IE s t o m h K,ax,?_⟩;exact aEX f g j
def Pred.args:Pred->cn
 |.mk _ _ _ _ l=>l
mutual
def rO:Pred->Int->Int
 |.mk _ _ _ _ args,n=>nC args (n+1)
def nC:cn->Int->Int
 |[],n=>n
 |p::ps,n=>if n<=24 then nC ps (rO p n)else n
end
mutual
def pG:Pred->Nat->Bool
 |.mk _ _ _ _ _,0=>true
 |.mk _ _ _ _ args,n+1=>wZ args n
def wZ:cn->Nat->Bool
 |[],_=>false
 |p::ps,n=>pG p n||wZ ps n
end
mutual
theorem Fi:∀(p:Pred)(n:Int),n<=24->n<rO p n/\rO p n<=25
 |.mk _ _ _ _ args,n,h=>by
  have:=IV args (n+1) aC;simp only[rO];omega
theorem IV:∀(ps:cn)(n:Int),n<=25->n<=nC ps n/\nC ps n<=25
 |[],n,h=>by simp only[nC];omega
 |p::ps,n,h=>by
  simp only[nC];split
  .rename_i c;have d:=Fi p n c;have e:=IV ps (rO p n) d.2;omega
  .omega
end
theorem UP ps{n}(h:¬n<=24):nC ps n=n:=by
 cases ps
 .simp[nC]
 .simp only[nC,if_neg h]
theorem LA(n:Nat):∀ps:cn,wZ ps n=ps.any (pG · n)
 |[]=>by simp[wZ]
 |p::ps=>by simp[wZ,LA n ps]
theorem Bq{p:Pred}{q}(h:q∈p.args):SizeOf.sizeOf q<SizeOf.sizeOf p:=by
 cases p with
 |mk op c l r args=>
  have:=sizeOf_lt_of_mem h;simp only[Pred.args]at this
  grind
theorem fH.open{v}(r:fH h p v):p.args.length<=502633886983/\v.args.len=p.args.length/\∀(i:Nat)(q:Pred),p.args[i]? =some q->∃b o u,v.args.a=some ⟨b,o,none⟩/\cO h b (o+i*13) (PV.enc u)/\fH h q u:=by
 cases p with
 |mk op f l s args=>
  obtain⟨t,y,z,A,g,D,c,d⟩:=r;have E:=d.length;refine⟨g,?_,λi q j=>?_⟩
  .have:=c.len;simp at this;simp only[Pred.args];omega
  .obtain⟨u,n,F⟩:=d.get j;obtain⟨b,o,e,r⟩:=c.get (i:=i) (e:=PV.enc u) (by simp[n])
   grind
def arJ(N:Nat):Vc.Spec:=λc m h K=>∃v p k,c=[aP v,cI k]/\fH h p v/\SizeOf.sizeOf p<N/\0<=k/\k<=24/\K (cI (rO p k)) m h
def VM(N:Nat):Vc.Spec:=λc m h K=>∃v p,∃k:Nat,c=[aP v,cI k]/\fH h p v/\SizeOf.sizeOf p<N/\k<=100/\K (cB (pG p k)) m h
noncomputable def bKZ(N:Nat)(v:PV)(p:Pred)(k:Int)(m:MH)(h:PH):=
 ctx [(129,arJ N)] [(3,{A:=Nat×Int,st:=λx=>bU 27 29 [(1,iv x.2),(2,.at (.ptr 2 0)),(5,iv x.1)] [(2,.cells 35 (v.enc.map .val))] m h,inv:=λx=>x.1<=p.args.length/\0<=x.2/\x.2<=25/\nC (p.args.drop x.1) x.2=rO p k,mu:=λx=>p.args.length-x.1})] [] [] false
noncomputable def bKX(N:Nat)(v:PV)(p:Pred)(k:Nat)(m:MH)(h:PH):=
 ctx [(130,VM N)] [G8 4 (λi=>bU 23 25 [(1,iv k),(2,.at (.ptr 2 0)),(10,iv v.args.len),(11,iv i)] [(2,.cells 35 (v.enc.map .val))] m h) (λi=>i<=p.args.length/\(p.args.take i).any (pG · (k-1))=false) (λi=>p.args.length-i)] [] [] false
abbrev uV(a:Pred):=a.args.length
abbrev OF(a:Nat×Int)(b:Pred)(c d e:Int):=aI (a.1<=uV b) (c<=a.2) (a.2<=d) (nC (List.drop a.1 b.args) a.2=rO b e)
abbrev dH a b:=gK a=gK b
abbrev iU:=eP 2
abbrev pZ a b:=oQ a (List.map At.val b)
abbrev nY(a:PV):=eQ (pZ 35 a.enc)
abbrev O9(a:Option Addr)(b:Nat)(c:Sl)(d:Nat->Nat->PV->Prop):=bJ (λx e=>aI (aW a x e) (0<=(↑b:Int)) ((↑b:Int)<aH c) (∃(f:PV),d x e f))
abbrev sP(a:PV->Pred->Prop):=∃(x:PV)(c:Pred),a x c
abbrev tO a b:=a::vG b
abbrev eZ a b:=tO a (iR b)
abbrev sJ(a:Pred)(b:Nat):=SizeOf.sizeOf a<b
abbrev cH(a:Int):=0<=a
attribute [push_cast] uV OF dH iU pZ nY O9 sP tO eZ sJ cH
def TM(N:Nat)(v:PV)(p:Pred)(k:Int)(m:MH)(h:PH)(K:bo):=
  (∃(x:Nat×Int),aA (OF x p 0 25 k) (dH (fG (k+1)) x.2) (aA iU (bA x.1) (cZ (nY v) m m h h)))/\∀(x:Nat×Int),OF x p 0 25 k->aY (↑x.1:Int) (aH v.args) (branch (decide (x.2<=24)) (O9 v.args.a x.1 v.args (λb o y=>aK m h b (o+bM x.1 13) y.enc/\sP (λf e=>∃(c:Int),aA (eZ (kQ y.enc) x.2=eZ (kQ f.enc) c) (fH h e f) (aA (sJ e N) (cH c) (c<=24/\∃(d:Nat×Int),aA (OF d p 0 25 k) (uV p-d.1<uV p-x.1) (aA (dH (rO e c) d.2) iU (aA (gK (bE x.1 1)=bO d.1) (nY v) (aA (m=m) (h=h) True)))))))) (K (iR x.2) m h)) (K (iR x.2) m h)
abbrev OG(a:Nat)(b:Pred)(c:Pred->Pred)(d:Nat):=a<=uV b/\List.any (List.take a b.args) (fun(x:Pred)=>pG (c x) (d-1))=false
abbrev kZ a:=a/\True
abbrev bT(a b:PH):=kZ (a=b)
attribute [push_cast] OG kZ bT
def TL(N:Nat)(v:PV)(p:Pred)(k:Nat)(m:MH)(h:PH)(K:bo):=
  eU (↑k:Int) 0 (K iM m h) (kX (∃(x:Nat),aA (OG x p (λc=>c) k) (eQ (bO k)) (aA iU (bI v.args) (aA (bA x) (nY v) (aA (m=m) (h=h) True)))) (λx=>OG x p (λc=>c) k->aY (↑x:Int) (aH v.args) (bJ (λb o=>aI (aW v.args.a b o) (0<=(↑x:Int)) ((↑x:Int)<aH v.args) (∃(y:PV),aK m h b (o+bM x 13) y.enc/\sP (λg d=>∃(e:Nat),aA (eZ (kQ y.enc) (fG ((↑k:Int)-1))=eZ (kQ g.enc) (↑e:Int)) (fH h d g) (aA (sJ d N) (e<=100) (branch (pG d e) (K iM m h) (∃(f:Nat),aA (OG f p (λc=>c) k) (uV p-f<uV p-x) (aA (eQ (bO k)) iU (aA (bI v.args) (gK (bE x 1)=bO f) (aA (nY v) (m=m) (bT h h))))))))))) (K bH m h)))
theorem X8:∀N,bm 129 (arJ N)
 |0=>by
  refine fK (fn:=Tryz.f129) (c:=dX Tryz.f129) func129 rfl az ?_;rintro j m h K ⟨v,p,k,rfl,z,F,_⟩;omega
 |N+1=>by
  refine iQ func129 ?_;rintro j m h K ⟨v,p,k,rfl,z,F,O,Q,A⟩;refine⟨bKZ N v p k m h,rfl,aE (X8 N) aG,TM N v p k m h K,ax,?_⟩;dsimp only[TM,push_cast];obtain⟨R,D,e⟩:=z.open;refine⟨⟨(0,k+1),⟨ay,bf,bf,?_⟩,by rw[fB aC aC],rfl,rfl,rfl,rfl,rfl,trivial⟩,?_⟩
  .cases p;simp[rO,Pred.args]
  rintro⟨i,n⟩ ⟨G,f,s,g⟩;simp only at G f s g;refine aF (λt=>aF (λd=>?_) (λd=>Bu A ?_)) (λH=>Bu A ?_)
  .simp only at t d;obtain⟨q,E⟩:∃q,p.args[i]? =some q:=⟨p.args[i]'(by omega),getElem?_eq_getElem _⟩
   obtain⟨b,o,u,I,J,y⟩:=e i q E
   have M:p.args.drop i=q::p.args.drop (i+1):=by
    rw[drop_eq_getElem_cons aC];grind
   have S:=Fi q n d;refine⟨b,o,I,ay,aC,u,.imm bg,u,q,n,rfl,y,?_,f,d,(i+1,rO q n),⟨aC,aC,aC,?_⟩,aC,rfl,rfl,by rw[iS aC],rfl,rfl,rfl,trivial⟩
   .have:=Bq (mem_of_getElem? E);omega
   .rw[M,nC,if_pos d]at g;exact g
  .rw[<-g,UP _ d]
  .rw[<-g,drop_of_length_le aC];simp[nC]
theorem X6:∀N,bm 130 (VM N)
 |0=>by
  refine fK (fn:=Tryz.f130) (c:=dX Tryz.f130) func130 rfl az ?_;rintro f m h K ⟨v,p,k,rfl,t,D,_⟩;omega
 |N+1=>by
  refine iQ func130 ?_;rintro f m h K ⟨v,p,k,rfl,t,D,J,e⟩;refine⟨bKX N v p k m h,rfl,aE (X6 N) aG,TL N v p k m h K,ax,?_⟩;dsimp only[TL,push_cast];obtain⟨M,y,d⟩:=t.open;refine aD (λz=>kG e ?_) (λz=>?_)
  .have:k=0:=bg
   subst this;cases p;simp[pG]
  .have z:k≠0:=bg
   have g:pG p k=p.args.any (pG · (k-1)):=by
    obtain⟨A,rfl⟩:∃A,k=A+1:=⟨k-1,aC⟩
    cases p;simp[pG,LA,Pred.args]
   rw[g]at e;refine⟨⟨0,⟨aC,ay⟩,rfl,rfl,rfl,rfl,rfl,rfl,rfl,trivial⟩,λi E=>aF (λj=>?_) (λF=>kG e ?_)⟩
   .obtain⟨q,n⟩:∃q,p.args[i]? =some q:=⟨p.args[i]'(by omega),getElem?_eq_getElem _⟩
    obtain⟨b,o,u,G,H,s⟩:=d i q n;refine⟨b,o,G,aC,j,u,.imm bg,u,q,k-1,?_,s,?_,aC,aD (λI=>kG e ?_) (λI=>?_)⟩
    .rw[fB aC aC,show((k-1:Nat):Int)=(k:Int)-1 by omega]
    .have:=Bq (mem_of_getElem? n);omega
    .grind
    .refine⟨i+1,⟨aC,?_⟩,aC,rfl,rfl,rfl,by rw[iS aC],rfl,rfl,rfl,trivial⟩;rw[take_add_one,any_append,E.2,n];grind
   grind
def GY(c:Int)(l r:OV):=c==0&&eqO l fS&&eqO r fS
mutual
def kI(cols params:bn):Pred->Bool
 |.mk op c l r args=>
  if op==1||op==2 then GY c l r&&args.length==0
  else if op==3 then args.length==0&&c>=1&&c<=6&&kindOf cols params l !=0&&kindOf cols params l==kindOf cols params r
  else if op==4||op==5||(op==6&&args.length==1)then GY c l r&&yJ cols params args
  else false
def yJ(cols params:bn):cn->Bool
 |[]=>true
 |p::ps=>kI cols params p&&yJ cols params ps
end
theorem GR(cols params:bn):∀ps:cn,yJ cols params ps=ps.all (kI cols params)
 |[]=>by simp[yJ]
 |p::ps=>by simp[yJ,GR cols params ps]
structure Oq(cols params:bn)(v:PV)(p:Pred):Prop where
 eq:kI cols params p=(yO v&&p.args.all (kI cols params))
def Vy(N:Nat):Vc.Spec:=λe m h K=>∃s t d c v p,e=[cS s,cS t,aP v]/\Ints h s d/\Ints h t c/\fH h p v/\SizeOf.sizeOf p<N/\K (cB (kI d c p)) m h
def Rq(N:Nat):Vc.Spec:=λe m h K=>∃s t d c v p,e=[a2S s t,aP v]/\Ints h s d/\Ints h t c/\fH h p v/\SizeOf.sizeOf p<N/\K (cB (kI d c p)) m h
noncomputable def bKQ N s t cols params v p m h:=
 ctx [(131,Vy N),(179,bWQ),(180,aLZ)] [G8 17 (λi=>bU 84 87 [(0,sv s),(1,sv t),(5,.at (.ptr 5 0)),(70,iv v.args.len),(71,iv i)] [(5,.cells 35 (v.enc.map .val))] m h) (λi=>i<=p.args.length/\(p.args.take i).all (kI cols params)=true) (λi=>p.args.length-i)] [(14,{A:=Unit,st:=λ_=>bU 84 87 [(0,sv s),(1,sv t),(5,.at (.ptr 5 0))] [(5,.cells 35 (v.enc.map .val))] m h,inv:=λ_=>Oq cols params v p})] [] false
noncomputable def bDJ(N:Nat)(s t:Sl)(cols params:bn)(v:PV)(p:Pred)(m:MH)(h:PH):=
 ctx [(186,Rq N),(235,YI)] [G8 18 (λi=>bU 87 89 [(2,.at (.ptr 2 0)),(3,.at (.ptr 3 0)),(76,sv v.args),(77,iv v.args.len),(78,iv i)] [(2,.cells 239 [.val (.slice s.a s.len s.cap),.val (.slice t.a t.len t.cap)]),(3,.cells 35 (v.enc.map .val))] m h) (λi=>i<=p.args.length/\(p.args.take i).all (kI cols params)=true) (λi=>p.args.length-i)] [(15,{A:=Unit,st:=λ_=>bU 87 89 [(2,.at (.ptr 2 0)),(3,.at (.ptr 3 0))] [(2,.cells 239 [.val (.slice s.a s.len s.cap),.val (.slice t.a t.len t.cap)]),(3,.cells 35 (v.enc.map .val))] m h,inv:=λ_=>Oq cols params v p})] [] false
abbrev gP(a:PV):=kQ a.enc
abbrev uI(a:PV):=aH a.args
abbrev rT(a:Sl->bn->Prop):=∃(x:Sl)(c:bn),a x c
abbrev Aw(a:Sl->bn->bn->Prop):=rT (λx c=>∃(d:bn),a x c d)
abbrev Kf(a:cr)(b:Sl->Sl->OV->cr)(c:PH)(d:bn->bn->OV->Prop):=∃(x:Sl),Aw (λe f g=>∃(j:OV),aI (a=b x e j) (Ints c x f) (Ints c e g) (d f g j))
abbrev cX a b:=mQ a::b
abbrev fZ a b:=tO (mQ a) b
abbrev eN:=eP 5
abbrev FK a b c d:=a<=uV b/\iE (List.all (List.take a b.args) (kI c d))
attribute [push_cast] gP uI rT Aw Kf cX fZ eN FK
def TK(N:Nat)(s t:Sl)(cols params:bn)(v:PV)(p:Pred)(m:MH)(h:PH)(K:bo):=
  dR (v.op==1) (∃(d:PV),hX (eO (gP v) (gP d)) (yO d) (K (Af (uI v==0)) m h) (K bH m h)) (v.op==2) (∃(d:PV),hX (eO (gP v) (gP d)) (yO d) (K (Af (uI v==0)) m h) (K bH m h)) (dR (v.op==3) (Kf (cX s (fZ t (kQ v.left.enc))) (λe f o=>cX e (fZ f (kQ o.enc))) h (λc g o=>eU (uI v) 0 (iA v.cmp 1 (branch (decide (v.cmp<=6)) (cV (kindOf c g o) 0 (Kf (cX s (fZ t (kQ (zR v)))) (λe f n=>cX e (fZ f (kQ n.enc))) h (λA j n=>K (Af (kindOf c g o==kindOf A j n)) m h)) (K bH m h)) (K bH m h)) (K bH m h)) (K bH m h))) (v.op==4) (∃(x:Unit),aA (Oq cols params v p) (aJ s) (aA (aJ t) eN (cZ (nY v) m m h h))) (dR (v.op==5) (∃(x:Unit),aA (Oq cols params v p) (aJ s)
 (aA (aJ t) eN (cZ (nY v) m m h h))) (v.op==6) (cV (uI v) 1 (K bH m h) (∃(x:Unit),aA (Oq cols params v p) (aJ s) (aA (aJ t) eN (cZ (nY v) m m h h)))) (K bH m h)))/\∀(_:Unit),Oq cols params v p->∃(d:PV),hX (eO (gP v) (gP d)) (!(yO d)) (K bH m h) (kX (∃(x:Nat),aA (FK x p cols params) (aJ s) (aA (aJ t) eN (aA (bI v.args) (bA x) (aA (nY v) (m=m) (bT h h))))) (λx=>FK x p cols params->aY (↑x:Int) (aH v.args) (bJ (λb o=>aI (aW v.args.a b o) (0<=(↑x:Int)) ((↑x:Int)<aH v.args) (∃(y:PV),aK m h b (o+bM x 13) y.enc/\∃(e:Sl),Aw (λf c g=>sP (λz j=>aA (cX s (fZ t (gP y))=cX e (fZ f (gP z))) (Ints h e c) (aA (Ints h f g) (fH h j z)
 (hX (sJ j N) (!(kI c g j)) (K bH m h) (∃(u:Nat),aA (FK u p cols params) (uV p-u<uV p-x) (aA (aJ s) (aJ t) (aA eN (bI v.args) (aA (gK (bE x 1)=bO u) (nY v) (dY m m h h)))))))))))) (K iM m h)))
abbrev eF a b:=tO (kQ a) b
abbrev jX a b:=bF a b []
abbrev jR:=eP 3
abbrev gA(a b:At)(c:ct):=a::b::c
abbrev oJ a b:=gA a b []
abbrev DK a b:=eQ (oQ 239 (oJ (yG a) (yG b)))
attribute [push_cast] eF jX jR gA oJ DK
def Tg(N:Nat)(s t:Sl)(cols params:bn)(v:PV)(p:Pred)(m:MH)(h:PH)(K:bo):=
  dR (v.op==3) (Kf (eF (jX (dP s) (dP t)) (kQ v.left.enc)) (λd e o=>eF (jX (dP d) (dP e)) (kQ o.enc)) h (λc f o=>Kf (eF (jX (dP s) (dP t)) (kQ (zR v))) (λd e j=>eF (jX (dP d) (dP e)) (kQ j.enc)) h (λA g j=>eU (uI v) 0 (iA v.cmp 1 (branch (decide (v.cmp<=6)) (cV (kindOf c f o) 0 (K (Af (kindOf c f o==kindOf A g j)) m h) (K bH m h)) (K bH m h)) (K bH m h)) (K bH m h)))) (v.op==1) (cV (uI v) 0 (K bH m h) (∃(x:Unit),aA (Oq cols params v p) iU (aA jR (DK s t) (cZ (nY v) m m h h)))) (dR (v.op==2) (cV (uI v) 0 (K bH m h) (∃(x:Unit),aA (Oq cols params v p) iU (aA jR (DK s t) (cZ (nY v) m m h h)))) (v.op==6) (cV (uI v) 1 (K bH m h) (∃(x:Unit),aA (Oq cols
 params v p) iU (aA jR (DK s t) (cZ (nY v) m m h h)))) (dR (v.op==4) (∃(x:Unit),aA (Oq cols params v p) iU (aA jR (DK s t) (cZ (nY v) m m h h))) (v.op==5) (∃(x:Unit),aA (Oq cols params v p) iU (aA jR (DK s t) (cZ (nY v) m m h h))) (K bH m h)))/\∀(_:Unit),Oq cols params v p->cV v.cmp 0 (K bH m h) (∃(r:Bool),hX (FY v.left.enc r) (!r) (K bH m h) (∃(u:Bool),hX (FY (zR v) u) (!u) (K bH m h) (kX (∃(x:Nat),aA (FK x p cols params) iU (aA (eP 3) (aJ v.args) (aA (bI v.args) (bA x) (aA (DK s t) (nY v) (dY m m h h))))) (λx=>FK x p cols params->aY (↑x:Int) (aH v.args) (bJ (λb o=>aI (aW v.args.a b o) (0<=(↑x:Int)) ((↑x:Int)<aH v.args) (∃(y:PV),aK m h b (o+
 bM x 13) y.enc/\∃(d:Sl),Aw (λe c f=>sP (λz g=>aA (eF (jX (dP s) (dP t)) (gP y)=eF (jX (dP d) (dP e)) (gP z)) (Ints h d c) (aA (Ints h e f) (fH h g z) (hX (sJ g N) (!(kI c f g)) (K bH m h) (∃(n:Nat),aA (FK n p cols params) (uV p-n<uV p-x) (aA iU jR (aA (aJ v.args) (bI v.args) (aA (gK (bE x 1)=bO n) (DK s t) (cZ (nY v) m m h h)))))))))))) (K iM m h)))))
theorem fH.top{v}(r:fH h p v):p= .mk v.op v.cmp v.left v.right p.args:=by
 cases p with
 |mk op c l j args=>obtain⟨d,e,f,g,_⟩:=r;simp[Pred.args,d,e,f,g]
theorem Nu{cols params h p v}(r:fH h p v):kI cols params p=if v.op==1||v.op==2 then yO v&&p.args.length==0
 else if v.op==3 then p.args.length==0&&v.cmp>=1&&v.cmp<=6&&kindOf cols params v.left !=0&&kindOf cols params v.left==kindOf cols params v.right
 else if v.op==4||v.op==5||(v.op==6&&p.args.length==1)then yO v&&p.args.all (kI cols params)
 else false:=by
 have:=r.top;generalize p.args=xs at this⊢
 subst this;rw[kI,GR];rfl
theorem cVQ{n k:Nat}:((n:Int)==(k:Int))=(n==k):=by
 grind
theorem X5:∀N,bm 131 (Vy N)
 |0=>by
  refine fK (fn:=Tryz.f131) (c:=dX Tryz.f131) func131 rfl az ?_;rintro n m h K ⟨s,t,cols,params,v,p,rfl,_,_,y,Q,_⟩;omega
 |N+1=>by
  refine iQ func131 ?_;rintro n m h K ⟨s,t,cols,params,v,p,rfl,z,A,y,Q,d⟩;refine⟨bKQ N s t cols params v p m h,rfl,aE (X5 N) (aE abQ (aE aaJ aG)),TK N s t cols params v p m h K,ax,?_⟩;obtain⟨Y,O,f⟩:=y.open;have Z:=Nu (cols:=cols) (params:=params) y;have R:((v.args.len:Int)==0)=(p.args.length==0):=bg
  have h1:((v.args.len:Int) !=1)=(p.args.length !=1):=bg
  dsimp only[TK,push_cast];refine⟨?_,?_⟩
  .refine aD (λe=>⟨v,rfl,aD (λg=>kG d ?_) (λg=>kG d ?_)⟩) (λe=>aD (λS=>⟨v,rfl,aD (λg=>kG d ?_) (λg=>kG d ?_)⟩) (λS=>aD (λg=>⟨s,t,cols,params,v.left,rfl,z,A,?_⟩) (λg=>?_)))
   .grind
   .grind
   .grind
   .grind
   .have D:kI cols params p=(p.args.length==0&&v.cmp>=1&&v.cmp<=6&&kindOf cols params v.left !=0&&kindOf cols params v.left==kindOf cols params v.right):=bg
    rw[D]at d;refine aD (λj=>aD (λE=>aD (λF=>aD (λG=>⟨s,t,cols,params,v.right,rfl,z,A,kG d ?_⟩) (λG=>kG d ?_)) (λF=>kG d ?_)) (λE=>kG d ?_)) (λj=>kG d ?_)
    all_goals (rw[R]at j;simp only[beq_iff_eq,decide_eq_true_eq,decide_eq_false_iff_not]at*;simp[*])
   .refine aD (λj=>⟨(),⟨bg⟩,rfl,rfl,rfl,rfl,rfl,rfl,trivial⟩) (λj=>aD (λE=>⟨(),⟨bg⟩,rfl,rfl,rfl,rfl,rfl,rfl,trivial⟩) (λE=>aD (λF=>aD (λG=>kG d ?_) (λG=>⟨(),⟨?_⟩,rfl,rfl,rfl,rfl,rfl,rfl,trivial⟩)) (λF=>kG d ?_)))
    .grind
    .grind
    grind
  .intro _ H;rw[H.eq]at d;refine⟨v,rfl,aD (λe=>kG d ?_) (λe=>?_)⟩
   .simp_all
   .have e:yO v=true:=bk e
    rw[e,Bool.true_and]at d;refine⟨⟨0,⟨aC,ay⟩,rfl,rfl,rfl,rfl,rfl,rfl,rfl,rfl,trivial⟩,λi T=>aF (λI=>?_) (λU=>kG d ?_)⟩
    .obtain⟨q,J⟩:∃q,p.args[i]? =some q:=⟨p.args[i]'(by omega),getElem?_eq_getElem _⟩
     obtain⟨b,o,u,V,W,M⟩:=f i q J;refine⟨b,o,V,aC,I,u,.imm bg,s,t,cols,params,u,q,rfl,z,A,M,?_,aD (λX=>kG d ?_) (λX=>?_)⟩
     .have:=Bq (mem_of_getElem? J);omega
     .grind
     .refine⟨i+1,⟨aC,?_⟩,aC,rfl,rfl,rfl,rfl,by rw[iS aC],rfl,rfl,rfl,trivial⟩;rw[BG J,T.2];grind
    grind
theorem XX:∀N,bm 186 (Rq N)
 |0=>by
  refine fK (fn:=Tryz.f186) (c:=dX Tryz.f186) func186 rfl az ?_;rintro j m h K ⟨s,t,cols,params,v,p,rfl,_,_,n,S,_⟩;omega
 |N+1=>by
  refine iQ func186 ?_;rintro j m h K ⟨s,t,cols,params,v,p,rfl,y,z,n,S,d⟩;refine⟨bDJ N s t cols params v p m h,rfl,aE (XX N) (aE ZB aG),Tg N s t cols params v p m h K,ax,?_⟩;obtain⟨hl,Q,g⟩:=n.open;have hv:=Nu (cols:=cols) (params:=params) n;have T:((v.args.len:Int)==0)=(p.args.length==0):=bg
  have U:((v.args.len:Int) !=0)=(p.args.length !=0):=bg
  have h1:((v.args.len:Int) !=1)=(p.args.length !=1):=bg
  have R:p.args.length=0->p.args.all (kI cols params)=true:=λe=>bg
  dsimp only[Tg,push_cast];refine⟨?_,?_⟩
  .refine aD (λA=>⟨s,t,cols,params,v.left,rfl,y,z,s,t,cols,params,v.right,rfl,y,z,?_⟩) (λA=>aD (λe=>aD (λf=>kG d ?_) (λf=>⟨(),⟨?_⟩,rfl,rfl,rfl,rfl,rfl,rfl,trivial⟩)) (λe=>aD (λD=>aD (λf=>kG d ?_) (λf=>⟨(),⟨?_⟩,rfl,rfl,rfl,rfl,rfl,rfl,trivial⟩)) (λD=>aD (λE=>aD (λF=>kG d ?_) (λF=>⟨(),⟨?_⟩,rfl,rfl,rfl,rfl,rfl,rfl,trivial⟩)) (λE=>aD (λf=>⟨(),⟨?_⟩,rfl,rfl,rfl,rfl,rfl,rfl,trivial⟩) (λf=>aD (λG=>⟨(),⟨?_⟩,rfl,rfl,rfl,rfl,rfl,rfl,trivial⟩) (λG=>kG d ?_))))))
   .have V:v.op=3:=bg
    have H:kI cols params p=(p.args.length==0&&v.cmp>=1&&v.cmp<=6&&kindOf cols params v.left !=0&&kindOf cols params v.left==kindOf cols params v.right):=bg
    rw[H]at d;refine aD (λf=>aD (λG=>aD (λE=>aD (λF=>kG d ?_) (λF=>kG d ?_)) (λE=>kG d ?_)) (λG=>kG d ?_)) (λf=>kG d ?_)
    all_goals (rw[T]at f;simp only[beq_iff_eq,decide_eq_true_eq,decide_eq_false_iff_not]at*;simp[*])
   .grind
   .grind
   .grind
   .grind
   .grind
   .grind
   .grind
   .grind
   grind
  .intro _ I;rw[I.eq]at d;refine aD (λe=>kG d ?_) (λe=>⟨eqO v.left fS,Bo v.left fS,aD (λD=>kG d ?_) (λD=>⟨eqO v.right fS,Bo v.right fS,aD (λA=>kG d ?_) (λA=>?_)⟩)⟩)
   .simp_all [yO]
   .simp_all [yO]
   .simp_all [yO]
   .have e:yO v=true:=by simp_all [yO]
    rw[e,Bool.true_and]at d;refine⟨⟨0,⟨aC,ay⟩,rfl,rfl,rfl,rfl,rfl,rfl,rfl,rfl,rfl,trivial⟩,λi W=>aF (λJ=>?_) (λX=>kG d ?_)⟩
    .obtain⟨q,M⟩:∃q,p.args[i]? =some q:=⟨p.args[i]'(by omega),getElem?_eq_getElem _⟩
     obtain⟨b,o,u,Y,Z,O⟩:=g i q M;refine⟨b,o,Y,aC,J,u,.imm bg,s,t,cols,params,u,q,rfl,y,z,O,?_,aD (λhd=>kG d ?_) (λhd=>?_)⟩
     .have:=Bq (mem_of_getElem? M);omega
     .grind
     .refine⟨i+1,⟨aC,?_⟩,aC,rfl,rfl,rfl,rfl,by rw[iS aC],rfl,rfl,rfl,rfl,trivial⟩;rw[BG M,W.2];grind
    grind
theorem drop_cons{α}{l:List α}{x}(h:l[i]? =some x):l.drop i=x::l.drop (i+1):=by
 have c:i<l.length:=(List.getElem?_eq_some_iff.1 h).1;rw[drop_eq_getElem_cons c]
 grind
mutual
def pK:Pred->Nat->Int->Bool×Int
 |.mk _ _ _ _ args,k,b=>if b<1 then(false,b-1)else match k with|0=>(false,b-1)|k+1=>yL args k (b-1)
def yL:cn->Nat->Int->Bool×Int
 |[],_,b=>(true,b)
 |p::ps,k,b=>match pK p k b with|(false,c)=>(false,c)|(true,c)=>yL ps k c
end
mutual
def Sa:Pred->Int
 |.mk _ _ _ _ args=>1+Dn args
def Dn:cn->Int
 |[]=>0
 |p::ps=>Sa p+Dn ps
end
mutual
theorem Uy:∀p:Pred,1<=Sa p
 |.mk _ _ _ _ args=>by have:=GS args;simp only[Sa];omega
theorem GS:∀ps:cn,0<=Dn ps
 |[]=>by simp[Dn]
 |p::ps=>by have:=Uy p;have:=GS ps;simp only[Dn];omega
end
mutual
theorem HH:∀(p:Pred)(n:Int),n<=24->(n+Sa p<=24->rO p n=n+Sa p)/\(24<n+Sa p->rO p n=25)
 |.mk _ _ _ _ args,n,h=>by
  obtain⟨c,d⟩:=P8 args (n+1) aC;simp only[rO,Sa];omega
theorem P8:∀(ps:cn)(n:Int),n<=25->(n+Dn ps<=24->nC ps n=n+Dn ps)/\(24<n+Dn ps->nC ps n=25)
 |[],n,h=>by
  simp only[nC,Dn];omega
 |p::ps,n,h=>by
  have e:=Uy p;have f:=GS ps;simp only[nC,Dn];by_cases c:n<=24
  .rw[if_pos c];have g:=HH p n c;have d:=(Fi p n c).2;have j:=P8 ps _ d;omega
  omega
end
mutual
theorem L1:∀(p:Pred)(k:Nat)(b:Int),0<=b->((pK p k b).1=true↔Sa p<=b/\pG p k=false)/\((pK p k b).1=true->(pK p k b).2=b-Sa p)
 |.mk _ _ _ _ args,k,b,h=>by
  have d:=GS args;simp only[pK,Sa];by_cases c:b<1
  .grind
  .rw[if_neg c];cases k with
   |zero=>exact⟨⟨λe=>(by cases e),λe=>(by simp[pG]at e)⟩,λe=>(by cases e)⟩
   |succ k=>
    obtain⟨f,g⟩:=PE args k (b-1) aC;simp only[pG]
    grind
theorem PE:∀(ps:cn)(k:Nat)(b:Int),0<=b->((yL ps k b).1=true↔Dn ps<=b/\wZ ps k=false)/\((yL ps k b).1=true->(yL ps k b).2=b-Dn ps)
 |[],k,b,h=>by simp[yL,Dn,wZ,h]
 |p::ps,k,b,h=>by
  obtain⟨c,d⟩:=L1 p k b h;have j:=GS ps;simp only[yL,Dn,wZ];cases e:pK p k b with
  |mk r f=>
   rw[e]at c d;cases r with
   |false=>
    grind
   |true=>
    have g:=d rfl;have c:=c.1 rfl;simp only at g;obtain⟨n,s⟩:=PE ps k f aC
    grind
end
def iC(cols params:bn)(p:Pred):Int:=
 if !cols.all gM|| !params.all gM then 1
 else if rO p 0>24||pG p 8 then 2
 else if !kI cols params p then 50 else 0
theorem aPX p:(pK p 8 24).1= !(decide (rO p 0>24)||pG p 8):=by
 have c:=(L1 p 8 24 aC).1;have d:=HH p 0 aC
 grind
def Yp(n:Int):Obj:=.cells #[.int .i64 n] 3 (0,0)
def aqX(N:Nat):Vc.Spec:=λc m h K=>∃v p,∃k b:Nat,∃n,c=[aP v,cI (9-k),cP b]/\fH h p v/\SizeOf.sizeOf p<N/\k<=9/\0<=n/\n<=24/\m b=some (Yp n)/\∀m',lF m m' b (Yp (pK p k n).2)->K (cB (pK p k n).1) m' h
noncomputable def bEQ(N:Nat)(v:PV)(p:Pred)(k b:Nat)(n:Int)(m:MH)(h:PH):=
 ctx [(185,aqX N)] [(5,{A:=Nat×Int×MH,st:=λx=>bU 36 39 [(1,iv (9-k)),(2,vv (.pointer (some ⟨b,0,none⟩))),(23,sv v.args),(24,iv v.args.len),(25,iv x.1)] [] x.2.2 h,inv:=λx=>x.1<=p.args.length/\0<=x.2.1/\x.2.1<=24/\lF m x.2.2 b (Yp x.2.1)/\1<=k/\yL (p.args.drop x.1) (k-1) x.2.1=pK p k n,mu:=λx=>p.args.length-x.1})] [] [] false
def u6:Vc.Spec:=λe m h K=>∃s t v d c p,e=[cS s,cS t,aP v]/\Ints h s d/\Ints h t c/\fH h p v/\K (cI (iC d c p)) m h
noncomputable def ceJ N:=ctx [(62,RC),(129,arJ N),(130,VM N),(131,Vy N)] [] [] [] false
noncomputable def bIJ N:=ctx [(184,RC),(185,aqX N),(186,Rq N)] [] [] [] false
abbrev jN(a:(Array Value)->TypeId->Prop):=∃(x:Array Value)(c:TypeId),a x c
abbrev gG a b c:=Obj.cells a b (c,c)
abbrev bK a b c d e:=lF a b c (gG (Array.mk d) e 0)
abbrev By(a:Value)(b:Nat)(c:bt):=a::List.drop b c
abbrev fA(a:Value)(b:Nat)(c:Array Value):=By a b c.toList
abbrev fR(a b:Int)(c d:Prop):=branch (decide (a>b)) c d
abbrev OH(a:Nat×Int×MH)(b:Pred)(c:Nat)(d:Int):=yL (List.drop a.1 b.args) (c-1) a.2.1=pK b c d
abbrev iI a:=eQ (gK a)
abbrev cQ a:=eQ (Wh a 0)
abbrev cC a b:=kQ a::b
abbrev fQ a b:=tO (iR a) b
abbrev gX a b c d:=a->branch b c d
attribute [push_cast] jN gG bK By fA fR OH iI cQ cC fQ gX
def Th(N:Nat)(v:PV)(p:Pred)(k b:Nat)(n:Int)(m:MH)(h:PH)(K:bo):=
  ∃(y:Int),aK m h b 0 (bB y)/\jN (λc E=>aA (yA m b (gG c E 0)) (0<c.size) (∀(e:MH),bK m e b (fA (fV (fG (y-1))) 1 c) E->∃(u:Int),aK e h b 0 (bB u)/\aY u 0 (K bH e h) (fR (9-(↑k:Int)) 8 (K bH e h) ((∃(x:Nat×Int×MH),aA (aA (x.1<=uV p) (cH x.2.1) (aA (x.2.1<=24) (bK m x.2.2 b (bB x.2.1) 3) (1<=k/\OH x p k n))) (iI (9-(↑k:Int))) (aA (cQ b) (aJ v.args) (aA (bI v.args) (bA x.1) (aA (e=x.2.2) (h=h) True))))/\∀(x:Nat×Int×MH),aA (x.1<=uV p) (cH x.2.1) (aA (x.2.1<=24) (bK m x.2.2 b (bB x.2.1) 3) (1<=k/\OH x p k n))->aY (↑x.1:Int) (aH v.args) (bJ (λz o=>aI (aW v.args.a z o) (0<=(↑x.1:Int)) ((↑x.1:Int)<aH v.args) (∃(A:PV),aK x.2.2 h z (o+bM x.1 13)
 A.enc/\sP (λD g=>bJ (λj s=>∃(f:Int),aA (cC A.enc (fQ (fG (9-(↑k:Int)+1)) (Oo b 0))=cC D.enc (fQ (9-(↑j:Int)) (Oo s 0))) (fH h g D) (aA (sJ g N) (j<=9) (aI (cH f) (f<=24) (x.2.2 s=Option.some (gG (Array.mk (bB f)) 3 0)) (∀(t:MH),gX (bK x.2.2 t s (bB (pK g j f).2) 3) (!(pK g j f).1) (K bH t h) (∃(d:Nat×Int×MH),aA (aA (d.1<=uV p) (cH d.2.1) (aA (d.2.1<=24) (bK m d.2.2 b (bB d.2.1) 3) (1<=k/\OH d p k n))) (uV p-d.1<uV p-x.1) (aA (iI (9-(↑k:Int))) (cQ b) (aA (aJ v.args) (bI v.args) (aA (gK (bE x.1 1)=bO d.1) (t=d.2.2) (bT h h))))))))))))) (K iM x.2.2 h)))))
abbrev xC(a:Sl)(b:PH)(c:bn->Prop):=rT (λx d=>aA (eO (mQ a) (mQ x)) (Ints b x d) (c d))
abbrev nX a b c:=branch (!a) b c
attribute [push_cast] xC nX
def Xo(N:Nat)(s t:Sl)(v:PV)(m:MH)(h:PH)(K:bo):=
  xC s h (λl=>nX (En l) (K (iR 1) m h) (xC t h (λA=>nX (En A) (K (iR 1) m h) (sP (λg p=>∃(k:Int),aA (eZ (kQ v.enc) 0=eZ (kQ g.enc) k) (fH h p g) (aA (sJ p N) (cH k) (k<=24/\fR (rO p k) 24 (K (iR 2) m h) (sP (λj d=>∃(e:Nat),aA (eZ (kQ v.enc) 8=eZ (kQ j.enc) (↑e:Int)) (fH h d j) (aA (sJ d N) (e<=100) (branch (pG d e) (K (iR 2) m h) (∃(n:Sl),Aw (λu c y=>sP (λz f=>aA (cX s (fZ t (gP v))=cX n (fZ u (gP z))) (Ints h n c) (aA (Ints h u y) (fH h f z) (hX (sJ f N) (!(kI c y f)) (K (iR 50) m h) (K (iR 0) m h)))))))))))))))))
abbrev bG a b c:=a->b->c
attribute [push_cast] bG
def TI(N:Nat)(s t:Sl)(v:PV)(m:MH)(h:PH)(K:bo):=
  xC s h (λl=>nX (En l) (K (iR 1) m h) (xC t h (λD=>nX (En D) (K (iR 1) m h) (∀(b:Nat)(e:MH),bG (cF m h b) (bK m e b (bB 24) 3) (sP (λj p=>bJ (λk f=>∃(n:Int),aA (cC v.enc (fQ 1 (Oo b 0))=cC j.enc (fQ (9-(↑k:Int)) (Oo f 0))) (fH h p j) (aA (sJ p N) (k<=9) (aI (cH n) (n<=24) (e f=Option.some (gG (Array.mk (bB n)) 3 0)) (∀(d:MH),gX (bK e d f (bB (pK p k n).2) 3) (!(pK p k n).1) (K (iR 2) d h) (∃(u:Sl),Aw (λy c z=>sP (λA g=>aA (eF (jX (dP s) (dP t)) (gP v)=eF (jX (dP u) (dP y)) (gP A)) (Ints h u c) (aA (Ints h y z) (fH h g A) (hX (sJ g N) (!(kI c z g)) (K (iR 50) d h) (K (iR 0) d h))))))))))))))))
end Go.Ps
namespace Go.Vc
open Go.Ps Go.Proofs List
theorem lF.trans{m m' c b o o'}(g:lF m m' b o)(d:lF m' c b o'):lF m c b o':=⟨d.at_,λe f=>(d.other e f).trans (g.other e f)⟩
end Go.Vc
namespace Go.Ps
open Go Go.Vc Go.Proofs List Tryz
variable{K:bo}{m:MH}{h:PH}{ps:bn}{cb:Nat}{sc:bZ}{v:QV}{p:Pred}{l:bn}{i:Nat}{N:Nat}{m':MH}{h':PH}{co:bn}{gr:bn}{od:bz}{ta:Int}{li:Int}{xs:List bt}{sz:Nat}{ks:List bn}{rs:bn}{r:Sl}{a:bn}{b:Nat}
theorem XY:∀N,bm 185 (aqX N)
 |0=>by
  refine fK (fn:=Tryz.f185) (c:=dX Tryz.f185) func185 rfl az ?_;rintro E m h K ⟨v,p,k,b,n,rfl,Q,V,_⟩;omega
 |N+1=>by
  refine iQ func185 ?_;rintro E m h K ⟨v,p,k,b,n,rfl,Q,V,hk,h0,h1,R,j⟩;refine⟨bEQ N v p k b n m h,rfl,aE (XY N) aG,Th N v p k b n m h K,ax,?_⟩;dsimp only[Th,push_cast];obtain⟨hl,S,y⟩:=Q.open;have W:IntKind.i64.wrap (n-1)=n-1:=fB aC aC;refine⟨n,.of_m R rfl,_,_,⟨R⟩,ay,λm' T=>?_⟩;rw[W]at T;have f:lF m m' b (Yp (n-1)):=T;refine⟨n-1,.of_m f.at_ rfl,aF (λX=>?_) (λX=>aF (λY=>?_) (λY=>?_))⟩
  .have e:pK p k n=(false,n-1):=by cases p;simp only[pK];grind
   rw[e]at j;exact j m' f
  .have F:k=0:=by omega
   subst F;have e:pK p 0 n=(false,n-1):=by cases p;simp only[pK];grind
   rw[e]at j;exact j m' f
  .refine⟨⟨(0,n-1,m'),⟨ay,bg,bg,f,aC,?_⟩,MT⟩,?_⟩
   .obtain⟨U,rfl⟩:∃U,k=U+1:=⟨k-1,aC⟩
    cases p;simp only[pK,drop_zero,Pred.args]
    grind
   .rintro⟨i,x,Z⟩ ⟨hi,s,z,g,G,d⟩;simp only at hi s z g d;refine aF (λa'=>?_) (λa0=>?_)
    .obtain⟨q,H⟩:∃q,p.args[i]? =some q:=⟨p.args[i]'(by omega),getElem?_eq_getElem _⟩
     obtain⟨b1,o,u,ea,a1,I⟩:=y i q H;have hd:p.args.drop i=q::p.args.drop (i+1):=drop_cons H;refine⟨b1,o,ea,ay,aC,u,.imm bg,u,q,k-1,b,x,?_,I,?_,aC,s,z,g.at_,λJ M=>?_⟩
     .rw[fB aC aC,show(9-((k-1:Nat):Int))=9-(k:Int)+1 by omega]
     .have:=Bq (mem_of_getElem? H);omega
     .have t:lF m J b (Yp (pK q (k-1) x).2):=g.trans M;rw[hd,yL]at d;obtain⟨A,D⟩:=L1 q (k-1) x s;cases e:pK q (k-1) x with
      |mk r x'=>
       rw[e]at d t A D;cases r with
       |false=>
        simp only at d;rw[<-d]at j;exact j J t
       |true=>
        have a2:=A.1 rfl;have O:=D rfl;have a3:=Uy q;simp only at O d;exact⟨(i+1,x',J),⟨aC,bg,bg,t,G,d⟩,aC,MT⟩
    .rw[drop_of_length_le aC]at d;simp only[yL]at d;rw[<-d]at j;exact j Z g
theorem Mv:bm 66 u6:=by
 refine iQ func66 ?_;rintro n m h K ⟨s,t,v,d,c,p,rfl,g,j,f,e⟩;refine⟨ceJ (SizeOf.sizeOf p+1),rfl,aE SK (aE (X8 _) (aE (X6 _) (aE (X5 _) aG))),Xo (SizeOf.sizeOf p+1) s t v m h K,ax,?_⟩;dsimp only[Xo,push_cast];refine⟨s,d,rfl,g,aD (λu=>Bu e ?_) (λu=>⟨t,c,rfl,j,aD (λy=>Bu e ?_) (λy=>⟨v,p,0,rfl,f,aC,aC,aC,aD (λz=>Bu e ?_) (λz=>⟨v,p,8,rfl,f,aC,aC,aD (λA=>Bu e ?_) (λA=>⟨s,t,d,c,v,p,rfl,g,j,f,aC,aD (λD=>Bu e ?_) (λD=>Bu e ?_)⟩)⟩)⟩)⟩)⟩
 all_goals (simp only[iC];simp only[*,Bool.or_false,Bool.false_or,Bool.or_true,Bool.true_or,Bool.and_true,Bool.true_and,Bool.and_false,Bool.false_and,Bool.not_true,Bool.not_false,Bool.false_eq_true,if_true,if_false, ↓reduceIte])
theorem EN{f fn}(s:Tryz.prog.funcs[f]? =some fn){S}(j:∀c m h K,S c m h K->∃C:Ctx,C.P=Tryz.prog/\(∀g S,assoc C.specs g=some S->bm g S)/\∃N:Prop,N=wW C fn (dX fn) (entry fn.ntmps c m h) (λr m' h'=>∃m2 n,(∀b o,m2 b=some o->m' b=some o)/\PH.le h n/\PH.le n h'/\K r m2 n)/\N)(t:fn.body=some (dX fn):=by rfl)(d:(fn.name== "runtime.NumGoroutine")=false:=by decide):bm f S:=SC s t d λc m h K u=>let⟨C,hC,hs,N,e,hn⟩:=j c m h K u;⟨C,hC,hs,e▸hn⟩
theorem Jx:bm 138 u6:=by
 refine EN func138 ?_;rintro I m h K ⟨s,t,v,d,c,p,rfl,E,F,G,J⟩;refine⟨bIJ (SizeOf.sizeOf p+1),rfl,aE aaX (aE (XY _) (aE (XX _) aG)),TI (SizeOf.sizeOf p+1) s t v m h (λr m' h'=>∃j n,(∀b o,j b=some o->m' b=some o)/\PH.le h n/\PH.le n h'/\K r j n),ax,?_⟩;dsimp only[TI,push_cast];have f:∀(m':MH),(∀b o,m b=some o->m' b=some o)->∀x,iC d c p=x->∃j n,(∀b o,j b=some o->m' b=some o)/\PH.le h n/\PH.le n h/\K (.val (.int .i64 x)) j n:=λm' M x e=>⟨m,h,M,.refl _,.refl _,e▸J⟩
 refine⟨s,d,rfl,E,aD (λO=>f m (λ_ _ e=>e) _ ?_) (λO=>⟨t,c,rfl,F,aD (λQ=>f m (λ_ _ e=>e) _ ?_) (λQ b U R u=>⟨v,p,8,b,24,rfl,G,aC,aC,aC,aC,u.at_,λj A=>?_⟩)⟩)⟩
 .simp only[iC];grind
 .simp only[iC];grind
 .have g:∀b o,m b=some o->j b=some o:=λD o e=>by
   have y:D≠b:=λS=>by rw[S,R.m_]at e;cases e
   rw[A.other D y,u.other D y,e]
  have z:=aPX p;refine aD (λH=>f j g _ ?_) (λH=>⟨s,t,d,c,v,p,rfl,E,F,G,aC,aD (λT=>f j g _ ?_) (λT=>f j g _ ?_)⟩)
  all_goals (rw[z,Bool.not_not]at H;clear z;simp only[iC];simp only[*,Bool.or_false,Bool.false_or,Bool.or_true,Bool.true_or,Bool.and_true,Bool.true_and,Bool.and_false,Bool.false_and,Bool.not_true,Bool.not_false,Bool.false_eq_true,if_true,if_false, ↓reduceIte])
structure bL{α β:Type}(h:PH)(sz:Nat)(enc:β->bt)(R:α->β->Prop)(s:Sl)(l:List α):Prop where
 ex:∃vs:List β,dC h s sz (vs.map enc)/\l.length=vs.length/\∀(i:Nat)(x:α),l[i]? =some x->∃v,vs[i]? =some v/\R x v
 len:l.length<=502633886983
theorem bL.slen{α β enc}{R:α->β->Prop}{s l}(r:bL h sz enc R s l):s.len=l.length:=by
 obtain⟨d,c,e,_⟩:=r.ex;have:=c.len
 grind
theorem bL.at{α β enc}{R:α->β->Prop}{s l}(r:bL h sz enc R s l){x}(c:l[i]? =some x):
 ∃b o v,s.a=some ⟨b,o,none⟩/\cO h b (o+i*sz) (enc v)/\R x v:=by
 obtain⟨j,d,_,f⟩:=r.ex;obtain⟨v,g,n⟩:=f i x c;obtain⟨b,o,e,k⟩:=d.get (i:=i) (e:=enc v) (by simp[g])
 grind
theorem bL.mono{α β enc}{R:α->β->Prop}{R' s l}(r:bL h sz enc R s l)(le:PH.le h h')(d:∀x v,R x v->R' x v):bL h' sz enc R' s l:=by
 obtain⟨e,f,g,j⟩:=r.ex;exact⟨⟨e,f.mono le,g,λi x n=>(j i x n).imp λv c=>⟨c.1,d _ _ c.2⟩⟩,r.len⟩
theorem bL.nil{α β} h sz(enc:β->bt) R:bL h sz enc R ⟨none,0,0⟩ ([]:List α):=
 ⟨⟨[],.nil h sz,rfl,λi x c=>by simp at c⟩,ay⟩
theorem eV{α}{l:List α}{i:Nat}{n}(c:n=l.length)(d:(i:Int)<(n:Int)):∃x,l[i]? =some x:=⟨l[i]'(by omega),getElem?_eq_getElem _⟩
def Ht h s ps:=bL h 13 PV.enc (fH h) s ps
theorem Ht.mono{s ps}(r:Ht h s ps)(le:PH.le h h'):Ht h' s ps:=bL.mono r le λ_ _=>fH.mono le
theorem An.toL{s ps vs}(d:dC h s 13 (vs.map PV.enc))(c:An h ps vs)(e:ps.length<=502633886983):Ht h s ps:=
 ⟨⟨vs,d,c.length.symm,λ_ _ f=>c.get f⟩,e⟩
theorem An.ofL{h:PH}:∀{ps:cn}{vs:dj},ps.length=vs.length->(∀(i:Nat)(x:Pred),ps[i]? =some x->∃v,vs[i]? =some v/\fH h x v)->An h ps vs
 |[],[],_,_=>rfl
 |p::ps,v::vs,c,d=>by
  obtain⟨j,f,g⟩:=d 0 p rfl;simp at f;subst f;exact⟨v,vs,rfl,g,An.ofL bg λi x e=>bk (d (i+1) x (by simpa using e))⟩
 |[],_::_,c,_=>by simp at c
 |_::_,[],c,_=>by simp at c
theorem fH.parts{op c l r args v}(x:fH h (.mk op c l r args) v):v.op=op/\v.cmp=c/\v.left=l/\v.right=r/\Ht h v.args args:=by
 obtain⟨d,e,f,g,j,t,n,s⟩:=x;exact⟨d,e,f,g,s.toL n j⟩
theorem fH.mk{h args v}(c:Ht h v.args args):fH h (.mk v.op v.cmp v.left v.right args) v:=by
 obtain⟨d,e,f,g⟩:=c.ex;exact⟨rfl,rfl,rfl,rfl,c.len,d,e,.ofL f g⟩
def ctZ(N:Nat):Vc.Spec:=λc m h K=>∃v w p q,c=[aP v,aP w]/\fH h p v/\fH h q w/\SizeOf.sizeOf p<N/\∀r:Bool,(r=true↔p=q)->K (cB r) m h
def cAJ(N:Nat):Vc.Spec:=λc m h K=>∃s t ps d,c=[cS s,cS t,.val (.func (.func 266) #[] #[])]/\Ht h s ps/\Ht h t d/\(∀p∈ps,SizeOf.sizeOf p<N)/\∀r:Bool,(r=true↔ps=d)->K (cB r) m h
noncomputable def bzJ N:=ctx [(274,cAJ N)] [] [] [] false
noncomputable def bzX(N:Nat)(s t:Sl)(ps c:cn)(m:MH)(h:PH):=
 ctx [(266,ctZ N)] [G8 4 (λi=>bU 32 35 [(1,sv t),(2,vv (.func (.func 266) #[] #[])),(15,sv s),(16,iv s.len),(17,iv i)] [] m h) (λi=>i<=ps.length/\∀j:Nat,j<i->ps[j]? =c[j]?) (λi=>ps.length-i)] [] [] false
noncomputable def bBJ(N:Nat)(v w:PV)(ps c:cn)(m:MH)(h:PH):=
 ctx [(224,ctZ N)] [G8 4 (λi=>bU 60 62 [(2,.at (.ptr 2 0)),(3,.at (.ptr 3 0)),(43,iv v.args.len),(44,iv i)] [(2,.cells 35 (v.enc.map .val)),(3,.cells 35 (w.enc.map .val))] m h) (λi=>i<=ps.length/\∀j:Nat,j<i->ps[j]? =c[j]?) (λi=>ps.length-i)] [] [] false
abbrev qP(a:Sl->Sl->Prop):=∃(x c:Sl),a x c
abbrev sF:Array Value:=Array.mk []
abbrev mJ a b:=CV.val (Value.func (Fn.func a) sF b)
attribute [push_cast] qP sF mJ
def Mz(N:Nat)(v w:PV)(m:MH)(h:PH)(K:bo):=
  eU v.op w.op (eU v.cmp w.cmp (∃(r:Bool),hX (zS 32 v.left.enc w.left.enc r) r (∃(c:Bool),hX (zS 32 (zR v) (zR w) c) c (qP (λs t=>∃(p q:cn),aA (cX v.args (fZ w.args (mJ 266 sF))=cX s (fZ t (mJ 266 sF))) (Ht h s p) (aA (Ht h t q) (∀(d:Pred),List.Mem d p->sJ d N) (∀(e:Bool),(iE e↔p=q)->K (Af e) m h)))) (K bH m h)) (K bH m h)) (K bH m h)) (K bH m h)
abbrev FD(a:Nat)(b c:cn):=kX (a<=b.length) (λx=>x<a->b[x]? =c[x]?)
abbrev CE a b:=eQ (SV.at (At.val (Value.func a sF b)))
abbrev A5 a:=CE (Fn.func a) sF
abbrev KD(a:PV->PV->Pred->Pred->Prop):=∃(x:PV),sP (λc d=>∃(e:Pred),a x c d e)
attribute [push_cast] FD CE A5 KD
def SS(N:Nat)(s t:Sl)(ps c:cn)(m:MH)(h:PH)(K:bo):=
  cV (aH s) (aH t) (K bH m h) (kX (∃(x:Nat),aA (FD x ps c) (aJ t) (aA (A5 266) (aJ s) (aA (bI s) (bA x) (aA (m=m) (h=h) True)))) (λx=>FD x ps c->aY (↑x:Int) (aH s) (bJ (λb o=>aI (aW s.a b o) (0<=(↑x:Int)) ((↑x:Int)<aH s) (∃(y:PV),aK m h b (o+bM x 13) y.enc/\O9 t.a x t (λf g e=>aK m h f (g+bM x 13) e.enc/\KD (λv w p q=>aA (eF y.enc (gP e)=eF v.enc (gP w)) (fH h p v) (aA (fH h q w) (sJ p N) (∀(r:Bool),gX (iE r↔p=q) (!r) (K bH m h) (∃(d:Nat),aA (FD d ps c) (ps.length-d<ps.length-x) (aA (aJ t) (A5 266) (aA (aJ s) (bI s) (aA (gK (bE x 1)=bO d) (m=m) (bT h h)))))))))))) (K iM m h)))
def ME(N:Nat)(v w:PV)(ps c:cn)(m:MH)(h:PH)(K:bo):=
  dR (v.op !=w.op) (K bH m h) (v.cmp !=w.cmp) (K bH m h) (∃(r:Bool),hX (zS 32 v.left.enc w.left.enc r) (!r) (K bH m h) (∃(e:Bool),zS 32 (zR v) (zR w) e/\dR (!e) (K bH m h) (uI v !=uI w) (K bH m h) (kX (∃(x:Nat),aA (FD x ps c) iU (aA (eP 3) (bI v.args) (aA (bA x) (nY v) (aA (nY w) (m=m) (bT h h))))) (λx=>FD x ps c->aY (↑x:Int) (aH v.args) (bJ (λb o=>aI (aW v.args.a b o) (0<=(↑x:Int)) ((↑x:Int)<aH v.args) (∃(y:PV),aK m h b (o+bM x 13) y.enc/\O9 w.args.a x w.args (λs t f=>aK m h s (t+bM x 13) f.enc/\KD (λg j p q=>aA (eF y.enc (gP f)=eF g.enc (gP j)) (fH h p g) (aA (fH h q j) (sJ p N) (∀(n:Bool),gX (iE n↔p=q) (!n) (K bH m h) (∃
 (d:Nat),aA (FD d ps c) (ps.length-d<ps.length-x) (aA iU jR (aA (bI v.args) (gK (bE x 1)=bO d) (aA (nY v) (nY w) (dY m m h h)))))))))))) (K iM m h)))))
theorem CW{α}{a:List α}{b}(c:a.length=b.length)(d:a.length<=i)(h:∀j:Nat,j<i->a[j]? =b[j]?):a=b:=by
 apply ext_getElem?
 grind
theorem AB{α}{a b:List α}{x y}(hx:a[i]? =some x)(c:b[i]? =some y)(e:x=y)(h:∀j:Nat,j<i->a[j]? =b[j]?):∀j:Nat,j<i+1->a[j]? =b[j]? :=by
 grind
theorem Sp{α}{a:List α}{b x y}(hx:a[i]? =some x)(c:b[i]? =some y)(e:x≠y):a≠b:=λh=>by
 grind
theorem Qo{α β}{s t:Sl}{a:List α}{b:List β}(c:s.len=a.length)(d:t.len=b.length)(e:((s.len:Int) !=(t.len:Int))=true):a.length≠b.length:=λh=>by
 grind
theorem Mk{α β}{s t:Sl}{a:List α}{b:List β}(c:s.len=a.length)(d:t.len=b.length)(e:((s.len:Int) !=(t.len:Int))=false):a.length=b.length:=by
 grind
theorem ckQ{v w q}(u:fH h p v)(y:fH h q w)(I:SizeOf.sizeOf p<N+1)(s:∀r:Bool,(r=true↔p=q)->K (cB r) m h):Mz N v w m h K:=by
 dsimp only[Mz,push_cast];have d:p≠q->K (cB false) m h:=λh=>s false ⟨λe=>(by cases e),λe=>(h e).elim⟩;have c:=@Bq p;obtain⟨op,z,l,r,ps⟩:=p;obtain⟨A,t,J,M,D⟩:=q;obtain⟨rfl,rfl,rfl,rfl,j⟩:=u.parts;obtain⟨rfl,rfl,rfl,rfl,n⟩:=y.parts;refine aD (λE=>aD (λF=>⟨_,Bo _ _,aD (λf=>⟨_,Bo _ _,aD (λg=>⟨v.args,w.args,ps,D,rfl,j,n,λp G=>?_,λr H=>s r (H.trans ?_)⟩) (λg=>d λe=>?_)⟩) (λf=>d λe=>?_)⟩) (λF=>d λe=>?_)) (λE=>d λe=>?_)
 .have:=c (q:=p) G;omega
 .rw[uM]at f g
  grind
 .injection e with _ _ _ e _;rw[uM.2 e]at g;cases g
 .injection e with _ _ e _ _;rw[uM.2 e]at f;cases f
 .grind
 grind
theorem XN:∀N,bm 266 (ctZ N)
 |0=>by
  refine fK (fn:=Tryz.f266) (c:=dX Tryz.f266) func266 rfl az ?_;rintro g m h K ⟨v,w,p,q,rfl,D,_,E,_⟩;omega
 |N+1=>by
  have z:bm 274 (cAJ N):=by
   refine iQ func274 ?_;rintro g m h K ⟨s,t,ps,F,rfl,I,R,E,G⟩;refine⟨bzX N s t ps F m h,rfl,aE (XN N) aG,SS N s t ps F m h K,ax,?_⟩;dsimp only[SS,push_cast];have d:=I.slen;have A:=R.slen;have U:=I.len;have S:ps≠F->K (cB false) m h:=λh=>G false ⟨λe=>(by cases e),λe=>(h e).elim⟩;refine aD (λJ=>S (λe=>Qo d A J (by rw[e]))) (λJ=>?_);have V:=Mk d A J;refine⟨⟨0,⟨aC,λj hj=>by omega⟩,MT⟩,λi T=>aF (λf=>?_) (λW=>?_)⟩
   .obtain⟨x,H⟩:=eV d f;obtain⟨y,M⟩:∃y,F[i]? =some y:=eV (n:=s.len) aC f;obtain⟨X,Y,u,Z,r1,ru⟩:=I.at H;obtain⟨b2,o2,w,e2,r2,O⟩:=R.at M;refine⟨X,Y,Z,aC,f,u,.imm r1,b2,o2,e2,aC,aC,w,.imm r2,u,w,x,y,rfl,ru,O,E x (mem_of_getElem? H),λr D=>aD (λa'=>S (Sp H M (λe=>?_))) (λhe=>?_)⟩
    .grind
    .have Q:r=true:=bg
     exact⟨i+1,⟨aC,AB H M (D.1 Q) T.2⟩,aC,MT⟩
   .exact G true ⟨λ_=>CW V aC T.2,λ_=>rfl⟩
  refine iQ func266 ?_;rintro g m h K ⟨v,w,p,q,rfl,D,hq,E,G⟩;refine⟨bzJ N,rfl,aE z aG,Mz N v w m h K,ax,?_⟩;exact ckQ D hq E G
theorem clZ{v w q}(U:fH h p v)(V:fH h q w)(hN:SizeOf.sizeOf p<N+1)(D:∀r:Bool,(r=true↔p=q)->K (cB r) m h):ME N v w p.args q.args m h K:=by
 dsimp only[ME,push_cast];have c:p≠q->K (cB false) m h:=λh=>D false ⟨λe=>(by cases e),λe=>(h e).elim⟩;have d:=@Bq p;obtain⟨op,W,l,r,ps⟩:=p;obtain⟨X,O,l',r',Q⟩:=q;obtain⟨rfl,rfl,rfl,rfl,E⟩:=U.parts;obtain⟨rfl,rfl,rfl,rfl,R⟩:=V.parts;simp only[Pred.args]at d⊢
 have g:=E.slen;have F:=R.slen;have Y:=E.len;refine aD (λG=>c λe=>?_) (λG=>aD (λH=>c λe=>?_) (λH=>⟨_,Bo _ _,aD (λs=>c λe=>?_) (λs=>⟨_,Bo _ _,aD (λt=>c λe=>?_) (λt=>aD (λS=>c λe=>?_) (λS=>?_))⟩)⟩))
 .grind
 .grind
 .injection e with _ _ e _ _;rw[uM.2 e]at s;cases s
 .injection e with _ _ _ e _;rw[uM.2 e]at t;cases t
 .grind
 .have Z:=Mk g F S;have s:v.left=w.left:=uM.1 bg;have t:v.right=w.right:=uM.1 bg;have G:v.op=w.op:=bg
  have H:v.cmp=w.cmp:=bg
  rw[G,H,s,t]at D c;have c:ps≠Q->K (cB false) m h:=λA=>c λe=>A (by injection e);refine⟨⟨0,⟨aC,λj hj=>by omega⟩,MT⟩,λi T=>aF (λf=>?_) (λa'=>?_)⟩
  .obtain⟨x,I⟩:=eV g f;obtain⟨y,J⟩:∃y,Q[i]? =some y:=eV (n:=v.args.len) aC f;obtain⟨b1,o1,u,e1,r1,ru⟩:=E.at I;obtain⟨b2,o2,z,e2,r2,rz⟩:=R.at J;refine⟨b1,o1,e1,aC,f,u,.imm r1,b2,o2,e2,aC,aC,z,.imm r2,u,z,x,y,rfl,ru,rz,?_,λr hr=>aD (λA=>c (Sp I J (λe=>?_))) (λhe=>?_)⟩
   .grind
   .grind
   .have M:r=true:=bg
    exact⟨i+1,⟨aC,AB I J (hr.1 M) T.2⟩,aC,MT⟩
  .exact D true ⟨λ_=>by rw[CW Z aC T.2],λ_=>rfl⟩
theorem XU:∀N,bm 224 (ctZ N)
 |0=>by
  refine fK (fn:=Tryz.f224) (c:=dX Tryz.f224) func224 rfl az ?_;rintro d m h K ⟨v,w,p,q,rfl,e,_,f,_⟩;omega
 |N+1=>by
  refine iQ func224 ?_;rintro d m h K ⟨v,w,p,q,rfl,e,g,f,j⟩;refine⟨bBJ N v w p.args q.args m h,rfl,aE (XU N) aG,ME N v w p.args q.args m h K,ax,?_⟩;exact clZ e g f j
def ctJ:Vc.Spec:=λc m h K=>∃v w p q,c=[aP v,aP w]/\fH h p v/\fH h q w/\∀r:Bool,(r=true↔p=q)->K (cB r) m h
theorem mM{f}{S:Nat->Vc.Spec}{S'}(h:∀N,bm f (S N))(e:∀c m h K,S' c m h K->∃N,S N c m h K):bm f S':=by
 refine⟨(h 0).1,λc g m d w K j n=>?_⟩;obtain⟨N,s⟩:=e c m d K j;exact(h N).2 c g m d w K s n
theorem Zq:bm 266 ctJ:=mM XN λ_ _ _ _⟨v,w,p,q,e,c,d,f⟩=>⟨SizeOf.sizeOf p+1,v,w,p,q,e,c,d,aC,f⟩
theorem ZC:bm 224 ctJ:=mM XU λ_ _ _ _⟨v,w,p,q,e,c,d,f⟩=>⟨SizeOf.sizeOf p+1,v,w,p,q,e,c,d,aC,f⟩
theorem Lr{d e c i g xs f w x y r r'}(hx:BM Tryz.prog (part e xs (i*c))=some x)(j:BM Tryz.prog (part e f (i*c))=some y)(n:(Op.equalIn d e x y).run Tryz.prog w= .ok r w)(s:(Op.eqItems d e c xs f g).run Tryz.prog w= .ok r' w):(Op.eqItems d e c xs f (i::g)).run Tryz.prog w= .ok (r&&r') w:=by
 simp only[Op.eqItems,Sem.run_bind,C1 _ _ _ hx,C1 _ _ _ j,Result.andThen_ok,n];cases r
 .simp
 grind
def cLJ(a b:Int×Int):=a.1==b.1&&(a.2==b.2&&true)
def cLZ(a b:Int×Bool):=a.1==b.1&&(a.2==b.2&&true)
theorem bOQ a b:StructEq Tryz.prog 130 (.agg #[.int .i64 a.1,.int .i64 a.2]) (.agg #[.int .i64 b.1,.int .i64 b.2]) (cLJ a b):=by
 refine⟨ax,λw=>?_⟩;obtain⟨i,c⟩:=Option.isSome_iff_exists.1 (show(Tryz.prog.info? 3).isSome=true by kernel_rfl);rw[run_equalIn_array w 9999 (e:=3) (n:=2) _ _ ax c,show Tryz.prog.cellsOf 3=1 by kernel_rfl,show List.range 2=[0,1]from rfl];refine Lr (x:=.int .i64 a.1) (y:=.int .i64 b.1) ax ax (run_equalIn_int w 9998 _ .i64 .i64 _ _ ax) ?_;refine Lr (x:=.int .i64 a.2) (y:=.int .i64 b.2) ax ax (run_equalIn_int w 9998 _ .i64 .i64 _ _ ax) ?_;simp[Op.eqItems]
theorem bNJ a b:StructEq Tryz.prog 77 (.agg #[.int .i64 a.1,.bool a.2]) (.agg #[.int .i64 b.1,.bool b.2]) (cLZ a b):=by
 refine⟨ax,λw=>?_⟩;rw[run_equalIn_struct w 9999 77 _ _ ax ax,show(Tryz.prog.fieldsOf 77).toList=[RM 77 0,RM 77 1]by kernel_rfl];refine oL (x:=.int .i64 a.1) (y:=.int .i64 b.1) ax ax ax (run_equalIn_int w 9998 _ .i64 .i64 _ _ ax) ?_;refine oL (x:=.bool a.2) (y:=.bool b.2) ax ax ax (run_equalIn_bool w 9998 _ _ _ ax) ?_;simp[Op.eqFields]
theorem Yi{a b}:cLJ a b=true↔a=b:=by
 obtain⟨c,d⟩:=a;obtain⟨e,f⟩:=b;simp[cLJ]
theorem Yh{a b}:cLZ a b=true↔a=b:=by
 obtain⟨c,d⟩:=a;obtain⟨e,f⟩:=b;simp[cLZ]
theorem jC.at{s l}(r:jC h s l){x}(c:l[i]? =some x):∃b o,s.a=some ⟨b,o,none⟩/\cO h b (o+i*2) (sH x):=r.row.get (by simp[c])
theorem jB.at{s l}(r:jB h s l){x}(c:l[i]? =some x):∃b o,s.a=some ⟨b,o,none⟩/\cO h b (o+i*2) (Dz x):=r.row.get (by simp[c])
def Uc:Vc.Spec:=λc m h K=>∃(s t:Sl)(a b:bu),c=[cS s,cS t]/\jC h s a/\jC h t b/\∀r:Bool,(r=true↔a=b)->K (cB r) m h
def Ub:Vc.Spec:=λc m h K=>∃(s t:Sl)(a b:bz),c=[cS s,cS t]/\jB h s a/\jB h t b/\∀r:Bool,(r=true↔a=b)->K (cB r) m h
noncomputable def XM{α}(s t:Sl)(a b:List α)(m:MH)(h:PH):=
 ctx [] [G8 4 (λi=>bU 26 28 [(0,sv s),(1,sv t),(12,iv s.len),(13,iv i)] [] m h) (λi=>i<=a.length/\∀j:Nat,j<i->a[j]? =b[j]?) (λi=>a.length-i)] [] [] false
abbrev Ed a b:=jX (fV a) (fV b)
abbrev vO(a:Int×Int):=Ed a.1 a.2
attribute [push_cast] Ed vO
def SY(s t:Sl)(a b:bu)(m:MH)(h:PH)(K:bo):=
  cV (aH s) (aH t) (K bH m h) (kX (∃(x:Nat),aA (kX (x<=a.length) (λj=>j<x->a[j]? =b[j]?)) (aJ s) (aA (aJ t) (bI s) (cZ (bA x) m m h h))) (λx=>kX (x<=a.length) (λj=>j<x->a[j]? =b[j]?)->aY (↑x:Int) (aH s) (bJ (λd o=>aI (aW s.a d o) (0<=(↑x:Int)) ((↑x:Int)<aH s) (∃(y:Int×Int),aK m h d (o+bM x 2) (vO y)/\bJ (λe f=>aI (aW t.a e f) (0<=(↑x:Int)) ((↑x:Int)<aH t) (∃(g:Int×Int),aK m h e (f+bM x 2) (vO g)/\∃(r:Bool),hX (zS 130 (vO y) (vO g) r) (!r) (K bH m h) (∃(c:Nat),aA (kX (c<=a.length) (λj=>j<c->a[j]? =b[j]?)) (a.length-c<a.length-x) (aA (aJ s) (aJ t) (aA (bI s) (gK (bE x 1)=bO c) (aA (m=m) (h=h) True))))))))) (K iM m
 h)))
abbrev A4(a:Int×Bool):=jX (fV a.1) (Value.bool a.2)
attribute [push_cast] A4
def SX(s t:Sl)(a b:bz)(m:MH)(h:PH)(K:bo):=
  cV (aH s) (aH t) (K bH m h) (kX (∃(x:Nat),aA (kX (x<=a.length) (λj=>j<x->a[j]? =b[j]?)) (aJ s) (aA (aJ t) (bI s) (cZ (bA x) m m h h))) (λx=>kX (x<=a.length) (λj=>j<x->a[j]? =b[j]?)->aY (↑x:Int) (aH s) (bJ (λd o=>aI (aW s.a d o) (0<=(↑x:Int)) ((↑x:Int)<aH s) (∃(y:Int×Bool),aK m h d (o+bM x 2) (A4 y)/\bJ (λe f=>aI (aW t.a e f) (0<=(↑x:Int)) ((↑x:Int)<aH t) (∃(g:Int×Bool),aK m h e (f+bM x 2) (A4 g)/\∃(r:Bool),hX (zS 77 (A4 y) (A4 g) r) (!r) (K bH m h) (∃(c:Nat),aA (kX (c<=a.length) (λj=>j<c->a[j]? =b[j]?)) (a.length-c<a.length-x) (aA (aJ s) (aJ t) (aA (bI s) (gK (bE x 1)=bO c) (aA (m=m) (h=h) True))))))))) (K iM m
 h)))
theorem Zp:bm 267 Uc:=by
 refine iQ func267 ?_;rintro I m h K ⟨s,t,a,b,rfl,u,E,F⟩;refine⟨XM s t a b m h,rfl,aG,SY s t a b m h K,ax,?_⟩;dsimp only[SY,push_cast];have c:=u.slen;have f:=E.slen;have J:=u.len;have G:a≠b->K (cB false) m h:=λh=>F false ⟨λe=>(by cases e),λe=>(h e).elim⟩;refine aD (λz=>G (λe=>Qo c f z (by rw[e]))) (λz=>?_);have M:=Mk c f z;refine⟨⟨0,⟨aC,λj Y=>by omega⟩,MT⟩,λi H=>aF (λd=>?_) (λO=>?_)⟩
 .obtain⟨x,A⟩:=eV c d;obtain⟨y,D⟩:∃y,b[i]? =some y:=eV (n:=s.len) aC d;obtain⟨Q,R,S,T⟩:=u.at A;obtain⟨U,V,W,X⟩:=E.at D;refine⟨Q,R,S,aC,d,x,.imm T,U,V,W,aC,aC,y,.imm X,_,bOQ x y,aD (λg=>G (Sp A D (λe=>?_))) (λZ=>?_)⟩
  .rw[Yi.2 e]at g;cases g
  .exact⟨i+1,⟨aC,AB A D (Yi.1 bg) H.2⟩,aC,MT⟩
 .exact F true ⟨λ_=>CW M aC H.2,λ_=>rfl⟩
theorem Zo:bm 268 Ub:=by
 refine iQ func268 ?_;rintro I m h K ⟨s,t,a,b,rfl,u,E,F⟩;refine⟨XM s t a b m h,rfl,aG,SX s t a b m h K,ax,?_⟩;dsimp only[SX,push_cast];have c:=u.slen;have f:=E.slen;have J:=u.len;have G:a≠b->K (cB false) m h:=λh=>F false ⟨λe=>(by cases e),λe=>(h e).elim⟩;refine aD (λz=>G (λe=>Qo c f z (by rw[e]))) (λz=>?_);have M:=Mk c f z;refine⟨⟨0,⟨aC,λj Y=>by omega⟩,MT⟩,λi H=>aF (λd=>?_) (λO=>?_)⟩
 .obtain⟨x,A⟩:=eV c d;obtain⟨y,D⟩:∃y,b[i]? =some y:=eV (n:=s.len) aC d;obtain⟨Q,R,S,T⟩:=u.at A;obtain⟨U,V,W,X⟩:=E.at D;refine⟨Q,R,S,aC,d,x,.imm T,U,V,W,aC,aC,y,.imm X,_,bNJ x y,aD (λg=>G (Sp A D (λe=>?_))) (λZ=>?_)⟩
  .rw[Yh.2 e]at g;cases g
  .exact⟨i+1,⟨aC,AB A D (Yh.1 bg) H.2⟩,aC,MT⟩
 .exact F true ⟨λ_=>CW M aC H.2,λ_=>rfl⟩
noncomputable def Ln(s t:Sl)(a b:bn)(m:MH)(h:PH):=
 ctx [] [G8 4 (λi=>bU 26 28 [(0,sv s),(1,sv t),(12,iv s.len),(13,iv i)] [] m h) (λi=>i<=a.length/\∀j:Nat,j<i->a[j]? =b[j]?) (λi=>a.length-i)] [] [] false
def IF(s t:Sl)(a b:bn)(m:MH)(h:PH)(K:bo):=
  cV (aH s) (aH t) (K bH m h) (kX (∃(x:Nat),aA (kX (x<=a.length) (λj=>j<x->a[j]? =b[j]?)) (aJ s) (aA (aJ t) (bI s) (cZ (bA x) m m h h))) (λx=>kX (x<=a.length) (λj=>j<x->a[j]? =b[j]?)->aY (↑x:Int) (aH s) (bJ (λd o=>aI (aW s.a d o) (0<=(↑x:Int)) ((↑x:Int)<aH s) (∃(y:Int),aK m h d (o+bM x 1) (bB y)/\bJ (λe f=>aI (aW t.a e f) (0<=(↑x:Int)) ((↑x:Int)<aH t) (∃(g:Int),aK m h e (f+bM x 1) (bB g)/\cV y g (K bH m h) (∃(c:Nat),aA (kX (c<=a.length) (λj=>j<c->a[j]? =b[j]?)) (a.length-c<a.length-x) (aA (aJ s) (aJ t) (aA (bI s) (gK (bE x 1)=bO c) (aA (m=m) (h=h) True))))))))) (K iM m h)))
theorem coX s t a b m h K:IF s t a b m h K=(wW (Ln s t a b m h) Tryz.f178 (dX Tryz.f178) (entry 26 [cS s,cS t] m h) K):=ax
theorem coJ s t a b m h K:IF s t a b m h K=(wW (Ln s t a b m h) Tryz.f152 (dX Tryz.f152) (entry 26 [cS s,cS t] m h) K):=ax
def Dj:Vc.Spec:=λc m h K=>∃(s t:Sl)(a b:bn),c=[cS s,cS t]/\Ints h s a/\Ints h t b/\∀r:Bool,(r=true↔a=b)->K (cB r) m h
theorem aEZ{s t b}(c:Ints h s a)(f:Ints h t b)(g:∀r:Bool,(r=true↔a=b)->K (cB r) m h):IF s t a b m h K:=by
 dsimp only[IF,push_cast];have u:=c.slen;have z:=f.slen;have A:=c.len;have n:a≠b->K (cB false) m h:=λh=>g false ⟨λe=>by(cases e),λe=>(h e).elim⟩;refine aD (λD=>n (λe=>?_)) (λD=>?_)
 .grind
 .have T:a.length=b.length:=bg
  refine⟨⟨0,⟨aC,λj E=>by omega⟩,rfl,rfl,rfl,rfl,rfl,rfl,trivial⟩,λi U=>aF (λd=>?_) (λF=>?_)⟩
  .obtain⟨x,G⟩:∃x,a[i]? =some x:=⟨a[i]'(by omega),getElem?_eq_getElem _⟩
   obtain⟨y,H⟩:∃y,b[i]? =some y:=⟨b[i]'(by omega),getElem?_eq_getElem _⟩
   obtain⟨I,J,M,V⟩:=c.at G;obtain⟨O,Q,R,W⟩:=f.at H;refine⟨I,J,M,aC,d,x,.imm bg,O,Q,R,aC,aC,y,.imm bg,aD (λS=>n (λe=>?_)) (λX=>?_)⟩
   .grind
   .have:x=y:=bg
    refine⟨i+1,⟨aC,λj E=>?_⟩,aC,rfl,rfl,rfl,by rw[iS aC],rfl,rfl,trivial⟩
    grind
  .refine g true ⟨λ_=>?_,λ_=>rfl⟩;apply ext_getElem?
   grind
theorem abX:bm 178 Dj:=by
 refine fK (fn:=Tryz.f178) (c:=dX Tryz.f178) func178 rfl az ?_;rintro d m h K ⟨s,t,a,b,rfl,e,f,g⟩;exact⟨Ln s t a b m h,rfl,aG,(coX s t a b m h K)▸aEZ e f g⟩
theorem Gm:bm 152 Dj:=by
 refine fK (fn:=Tryz.f152) (c:=dX Tryz.f152) func152 rfl az ?_;rintro d m h K ⟨s,t,a,b,rfl,e,f,g⟩;exact⟨Ln s t a b m h,rfl,aG,(coJ s t a b m h K)▸aEZ e f g⟩
def aQ(v:QV):CV:=.val (.agg ⟨v.enc⟩)
def Query.args:Query->ce
 |.mk _ _ _ _ _ _ _ _ l=>l
theorem C3{p:Query}{q}(h:q∈p.args):SizeOf.sizeOf q<SizeOf.sizeOf p:=by
 cases p with
 |mk op t w c o g s l args=>
  have:=sizeOf_lt_of_mem h;simp only[Query.args]at this
  grind
def D5 h s ps:=bL h 21 QV.enc (dG h) s ps
theorem D5.mono{s ps}(r:D5 h s ps)(le:PH.le h h'):D5 h' s ps:=bL.mono r le λ_ _=>dG.mono le
theorem BH.ofL{h:PH}:∀{ps:ce}{vs:da},ps.length=vs.length->(∀(i:Nat)(x:Query),ps[i]? =some x->∃v,vs[i]? =some v/\dG h x v)->BH h ps vs
 |[],[],_,_=>rfl
 |p::ps,v::vs,c,d=>by
  obtain⟨j,f,g⟩:=d 0 p rfl;simp at f;subst f;exact⟨v,vs,rfl,g,BH.ofL bg λi x e=>bk (d (i+1) x (by simpa using e))⟩
 |[],_::_,c,_=>by simp at c
 |_::_,[],c,_=>by simp at c
structure tU(h:PH)(op table:Int)(w:Pred)(c:bn)(o:bu)(g:bn)(s:bz)(l:Int)(args:ce)(v:QV):Prop where
 op_:v.op=op
 table_:v.table=table
 where_:fH h w v.where_
 columns_:Ints h v.columns c
 on_:jC h v.on o
 group_:Ints h v.group g
 order_:jB h v.order s
 limit_:v.limit=l
 args_:D5 h v.args args
theorem dG.parts{op table w c o g s l args}(x:dG h (.mk op table w c o g s l args) v):tU h op table w c o g s l args v:=by
 obtain⟨f,j,n,t,u,y,z,A,D,E,e,d⟩:=x;exact⟨f,j,n,t,u,y,z,A,⟨⟨E,e,d.length.symm,λ_ _ F=>d.get F⟩,D⟩⟩
theorem tU.rep{op table w c o g s l args}(x:tU h op table w c o g s l args v):dG h (.mk op table w c o g s l args) v:=by
 obtain⟨d,e,f,j⟩:=x.args_.ex;exact⟨x.op_,x.table_,x.where_,x.columns_,x.on_,x.group_,x.order_,x.limit_,x.args_.len,d,e,.ofL f j⟩
def cTX(N:Nat):Vc.Spec:=λc m h K=>∃v w p q,c=[aQ v,aQ w]/\dG h p v/\dG h q w/\SizeOf.sizeOf p<N/\∀r:Bool,(r=true↔p=q)->K (cB r) m h
def cTZ:Vc.Spec:=λc m h K=>∃v w p q,c=[aQ v,aQ w]/\dG h p v/\dG h q w/\∀r:Bool,(r=true↔p=q)->K (cB r) m h
def cAZ(N:Nat):Vc.Spec:=λc m h K=>∃s t ps d,c=[cS s,cS t,.val (.func (.func 259) #[] #[])]/\D5 h s ps/\D5 h t d/\(∀p∈ps,SizeOf.sizeOf p<N)/\∀r:Bool,(r=true↔ps=d)->K (cB r) m h
noncomputable def bAZ N:=ctx [(266,ctJ),(152,Dj),(267,Uc),(268,Ub),(269,cAZ N)] [] [] [] false
noncomputable def bzZ(N:Nat)(s t:Sl)(ps c:ce)(m:MH)(h:PH):=
 ctx [(259,cTX N)] [G8 4 (λi=>bU 32 35 [(1,sv t),(2,vv (.func (.func 259) #[] #[])),(15,sv s),(16,iv s.len),(17,iv i)] [] m h) (λi=>i<=ps.length/\∀j:Nat,j<i->ps[j]? =c[j]?) (λi=>ps.length-i)] [] [] false
abbrev cJ a b:=fZ a (mQ b)
abbrev AO(a b:Sl)(c:PH)(d:bn->bn->Bool->Prop):=∃(x:Sl),Aw (λe f g=>aI (cJ a b=cJ x e) (Ints c x f) (Ints c e g) (∀(j:Bool),d f g j))
abbrev xQ(a:Query)(b:Nat):=SizeOf.sizeOf a<b
attribute [push_cast] cJ AO xQ
def MB(N:Nat)(v w:QV)(m:MH)(h:PH)(K:bo):=
  eU v.op w.op (eU v.table w.table (eU v.limit w.limit (KD (λd e p q=>aI (eF v.where_.enc (gP w.where_)=eF d.enc (gP e)) (fH h p d) (fH h q e) (∀(r:Bool),gX (iE r↔p=q) r (AO v.columns w.columns h (λa b f=>gX (iE f↔a=b) f (qP (λs t=>∃(g j:bu),aI (cJ v.on w.on=cJ s t) (jC h s g) (jC h t j) (∀(n:Bool),gX (iE n↔g=j) n (AO v.group w.group h (λM O u=>gX (iE u↔M=O) u (qP (λy z=>∃(A D:bz),aI (cJ v.order w.order=cJ y z) (jB h y A) (jB h z D) (∀(E:Bool),gX (iE E↔A=D) E (qP (λF G=>∃(c H:ce),aA (cX v.args (fZ w.args (mJ 259 sF))=cX F (fZ G (mJ 259 sF))) (D5 h F c) (aA
 (D5 h G H) (∀(I:Query),List.Mem I c->xQ I N) (∀(J:Bool),(iE J↔c=H)->K (Af J) m h)))) (K bH m h)))) (K bH m h))) (K bH m h)))) (K bH m h))) (K bH m h)))) (K bH m h)) (K bH m h)) (K bH m h)
abbrev oW(a:QV->Query->Prop):=∃(x:QV)(c:Query),a x c
abbrev cA(a:QV):=kQ a.enc
attribute [push_cast] oW cA
def SU(N:Nat)(s t:Sl)(ps d:ce)(m:MH)(h:PH)(K:bo):=
  cV (aH s) (aH t) (K bH m h) (kX (∃(x:Nat),aA (kX (x<=ps.length) (λj=>j<x->ps[j]? =d[j]?)) (aJ t) (aA (A5 259) (aJ s) (aA (bI s) (bA x) (aA (m=m) (h=h) True)))) (λx=>kX (x<=ps.length) (λj=>j<x->ps[j]? =d[j]?)->aY (↑x:Int) (aH s) (bJ (λb o=>aI (aW s.a b o) (0<=(↑x:Int)) ((↑x:Int)<aH s) (∃(y:QV),aK m h b (o+bM x 21) y.enc/\bJ (λe f=>aI (aW t.a e f) (0<=(↑x:Int)) ((↑x:Int)<aH t) (∃(g:QV),aK m h e (f+bM x 21) g.enc/\∃(v:QV),oW (λw p=>∃(q:Query),aA (tO (cA y) (cA g)=tO (cA v) (cA w)) (dG h p v) (aA (dG h q w) (xQ p N) (∀(r:Bool),gX (iE r↔p=q) (!r) (K bH m h) (∃(c:Nat),aA (kX (c<=ps.length) (λj=>j<c->ps[j]? =d[j]?))
 (ps.length-c<ps.length-x) (aA (aJ t) (A5 259) (aA (aJ s) (bI s) (aA (gK (bE x 1)=bO c) (m=m) (bT h h))))))))))))) (K iM m h)))
theorem ckX{w p q}(s:dG h p v)(t:dG h q w)(S:SizeOf.sizeOf p<N+1)(n:∀r:Bool,(r=true↔p=q)->K (cB r) m h):MB N v w m h K:=by
 dsimp only[MB,push_cast];have c:p≠q->K (cB false) m h:=λh=>n false ⟨λe=>(by cases e),λe=>(h e).elim⟩;have d:=@C3 p;obtain⟨op,ta,T,co,on,gr,od,li,ps⟩:=p;obtain⟨u,y,z,A,D,E,F,G,U⟩:=q;have a:=s.parts;have b:=t.parts
 refine aD (λf=>aD (λg=>aD (λj=>⟨_,_,_,_,rfl,a.where_,b.where_,λV W=>aD (λH=>⟨_,_,_,_,rfl,a.columns_,b.columns_,λX Y=>aD (λI=>⟨_,_,_,_,rfl,a.on_,b.on_,λZ h6=>aD (λJ=>⟨_,_,_,_,rfl,a.group_,b.group_,λr7 h7=>aD (λM=>⟨_,_,_,_,rfl,a.order_,b.order_,λr8 h8=>aD (λO=>⟨_,_,_,_,rfl,a.args_,b.args_,λp Q=>?_,λr R=>n r (R.trans ?_)⟩)
  (λO=>c λe=>?_)⟩) (λM=>c λe=>?_)⟩) (λJ=>c λe=>?_)⟩) (λI=>c λe=>?_)⟩) (λH=>c λe=>?_)⟩) (λj=>c λe=>?_)) (λg=>c λe=>?_)) (λf=>c λe=>?_)
 .have:=d (q:=p) Q;omega
 .rw[a.op_,b.op_,beq_iff_eq]at f;rw[a.table_,b.table_,beq_iff_eq]at g;rw[a.limit_,b.limit_,beq_iff_eq]at j
  grind
 .grind
 .grind
 .grind
 .grind
 .grind
 .injection e with _ _ _ _ _ _ _ e _;rw[a.limit_,b.limit_,e]at j;simp at j
 .injection e with _ e _ _ _ _ _ _ _;rw[a.table_,b.table_,e]at g;simp at g
 .injection e with e _ _ _ _ _ _ _ _;rw[a.op_,b.op_,e]at f;simp at f
theorem XP:∀N,bm 259 (cTX N)
 |0=>by
  refine fK (fn:=Tryz.f259) (c:=dX Tryz.f259) func259 rfl az ?_;rintro g m h K ⟨v,w,p,q,rfl,D,_,E,_⟩;omega
 |N+1=>by
  have z:bm 269 (cAZ N):=by
   refine iQ func269 ?_;rintro g m h K ⟨s,t,ps,F,rfl,I,R,E,G⟩;refine⟨bzZ N s t ps F m h,rfl,aE (XP N) aG,SU N s t ps F m h K,ax,?_⟩;dsimp only[SU,push_cast];have d:=I.slen;have A:=R.slen;have U:=I.len;have S:ps≠F->K (cB false) m h:=λh=>G false ⟨λe=>(by cases e),λe=>(h e).elim⟩;refine aD (λJ=>S (λe=>Qo d A J (by rw[e]))) (λJ=>?_);have V:=Mk d A J;refine⟨⟨0,⟨aC,λj hj=>by omega⟩,MT⟩,λi T=>aF (λf=>?_) (λW=>?_)⟩
   .obtain⟨x,H⟩:=eV d f;obtain⟨y,M⟩:∃y,F[i]? =some y:=eV (n:=s.len) aC f;obtain⟨X,Y,u,Z,r1,ru⟩:=I.at H;obtain⟨b2,o2,w,e2,r2,O⟩:=R.at M;refine⟨X,Y,Z,aC,f,u,.imm r1,b2,o2,e2,aC,aC,w,.imm r2,u,w,x,y,rfl,ru,O,E x (mem_of_getElem? H),λr D=>aD (λa'=>S (Sp H M (λe=>?_))) (λhe=>?_)⟩
    .grind
    .have Q:r=true:=bg
     exact⟨i+1,⟨aC,AB H M (D.1 Q) T.2⟩,aC,MT⟩
   .exact G true ⟨λ_=>CW V aC T.2,λ_=>rfl⟩
  refine iQ func259 ?_;rintro g m h K ⟨v,w,p,q,rfl,D,hq,E,G⟩;refine⟨bAZ N,rfl,aE Zq (aE Gm (aE Zp (aE Zo (aE z aG)))),MB N v w m h K,ax,?_⟩;exact ckX D hq E G
theorem Zu:bm 259 cTZ:=mM XP λ_ _ _ _⟨v,w,p,q,e,c,d,f⟩=>⟨SizeOf.sizeOf p+1,v,w,p,q,e,c,d,aC,f⟩
structure Ref where
 columns:bn
 table:Int
structure Am where
 name:ByteArray
 columns:List pS
 key:Int
 refs:List Ref
 checks:cn
structure jQ where
 version:Int
 tables:List Am
variable{s:jQ}
structure VD(h:PH)(r:Ref)(v:GL):Prop where
 columns:Ints h v.columns r.columns
 table:v.table=r.table
def GN h s l:=bL h 2 pS.enc Eq s l
structure Rt(h:PH)(t:Am)(v:cW):Prop where
 name:v.name=t.name
 columns:GN h v.columns t.columns
 key:v.key=t.key
 refs:bL h 2 GL.enc (VD h) v.references t.refs
 checks:Ht h v.checks t.checks
structure iF(h:PH)(s:jQ)(v:bZ):Prop where
 version:v.version=s.version
 tables:bL h 5 cW.enc (Rt h) v.tables s.tables
theorem VD.mono{r v}(x:VD h r v)(le:PH.le h h'):VD h' r v:=⟨x.columns.mono le,x.table⟩
theorem Rt.mono{t v}(x:Rt h t v)(le:PH.le h h'):Rt h' t v:=
 ⟨x.name,bL.mono x.columns le λ_ _ e=>e,x.key,x.refs.mono le λ_ _ e=>e.mono le,x.checks.mono le⟩
theorem iF.mono{v}(x:iF h s v)(le:PH.le h h'):iF h' s v:=⟨x.version,x.tables.mono le λ_ _ e=>e.mono le⟩
def lower c:=97<=c&&c<=122
def Ah c:=lower c||(48<=c&&c<=57)||c==95
def sG(s:ByteArray):=s.data.toList.map UInt8.toNat
def qH s:=1<=s.size&&s.size<=32&&lower ((sG s).headD 0)&&(sG s).all Ah
theorem T2 s:(sG s).length=s.size:=by simp[sG]
theorem bgX{s c}(h:(sG s)[i]? =some c):(s.get! i).toNat=c/\c<256:=by
 simp only[sG,getElem?_map,Option.map_eq_some_iff]at h;obtain⟨b,e,rfl⟩:=h;refine⟨?_,b.toNat_lt⟩
 have f:i<s.data.size:=by
  grind
 have:s.data[i]? =some b:=bg
 cases s with
 |mk d=>
  show(d[i]!).toNat=b.toNat
  grind
theorem M7{s}(h:(s.get! i).toNat<128):Utf8.decode s i=((s.get! i).toNat,1):=by
 simp only[Utf8.decode,Nat.add_zero];rw[if_pos h]
theorem bfJ{s}(h:¬(s.get! i).toNat<128):128<=(Utf8.decode s i).1:=by
 simp only[Utf8.decode,Nat.add_zero];rw[if_neg h]
 repeat' split
 all_goals simp_all [Utf8.runeError]
 all_goals omega
def RY(s:ByteArray):CV:=.val (.string s)
def aKZ:Vc.Spec:=λc m h K=>∃s,c=[RY s]/\K (cB (qH s)) m h
noncomputable def bEZ s m h:=
 ctx [] [(4,{A:=Nat×Nat×MH,st:=λx=>bU 44 45 [(15,vv (.pointer (some ⟨x.2.1,0,none⟩)))] [] x.2.2 h,inv:=λx=>x.1<=s.size/\cF m h x.2.1/\lF m x.2.2 x.2.1 (.stringIter s x.1)/\(x.1=0\/lower ((sG s).headD 0)=true)/\((sG s).take x.1).all Ah=true,mu:=λx=>s.size-x.1})] [] [] false
noncomputable def bFZ s m h:=
 ctx [] [G8 4 (λi=>bU 50 51 [(0,vv (.string s)),(3,iv i)] [] m h) (λi=>i<=s.size/\((sG s).take i).all Ah=true) (λi=>s.size-i)] [] [] false
abbrev Pc(a b:(Nat×Nat×MH)->Prop):=(∃(x:Nat×Nat×MH),a x)/\∀(x:Nat×Nat×MH),b x
abbrev j6(a:Nat×Nat×MH):=a.2.1
abbrev i6(a:Nat×Nat×MH):=a.2.2
abbrev DE a b c d:=aA (a.1<=b.size) (cF c d (j6 a)) (aA (lF c (i6 a) (j6 a) (Obj.stringIter b a.1)) (a.1=0\/iE (lower (headD (sG b) 0))) (iE (List.all (List.take a.1 (sG b)) Ah)))
abbrev dM a b:=Wh a 0=Wh b 0
abbrev Fl a b:=(Utf8.decode a b).1
abbrev CB(a:ByteArray)(b c:Nat):=a.size-b<a.size-c
abbrev HN(a:(Nat×Nat×MH)->Prop)(b:ByteArray)(c:Nat×Nat×MH)(d:MH)(e:PH):=∃(x:Nat×Nat×MH),aA (a x) (CB b x.1 c.1) (aA (dM (j6 c) (j6 x)) (d=i6 x) (bT e e))
attribute [push_cast] Pc j6 i6 DE dM Fl CB HN
def MR(s:ByteArray)(m:MH)(h:PH)(K:bo):=
  aY (↑s.size:Int) 1 (K bH m h) (fR (↑s.size:Int) 32 (K bH m h) (∀(b:Nat)(e:MH),bG (cF m h b) (lF m e b (Obj.stringIter s 0)) (Pc (λx=>aA (DE x s m h) (dM b (j6 x)) (aA (e=i6 x) (h=h) True)) (λx=>DE x s m h->∃(c:ByteArray)(p:Nat),aA (yA (i6 x) (j6 x) (Obj.stringIter c p)) (c.size<=p->K iM (i6 x) h) (p<c.size->∀(d:MH),lF (i6 x) d (j6 x) (Obj.stringIter c (p+(Utf8.decode c p).2))->dR (decide ((↑(Fl c p):Int)>=97)) (nX (decide ((↑(Fl c p):Int)<=122)) (dR ((↑p:Int)==0) (K bH d h) ((↑(Fl c p):Int) !=95) (aY (↑(Fl c p):Int) 48 (K bH d h) (fR (↑(Fl c p):Int) 57 (K bH d h) (HN (λy=>DE y s m h) s x d h))) (HN (λy=>DE y s m h) s x d h)) (HN (λy=>
 DE y s m h) s x d h)) ((↑p:Int)==0) (K bH d h) (cV (↑(Fl c p):Int) 95 (aY (↑(Fl c p):Int) 48 (K bH d h) (fR (↑(Fl c p):Int) 57 (K bH d h) (HN (λy=>DE y s m h) s x d h))) (HN (λy=>DE y s m h) s x d h)))))))
abbrev pP(a:Bool)(b:Prop)(c d:Int)(e g:Prop):=dR a b (decide (c>d)) e g
abbrev OI(a:Prop)(b:ByteArray)(c:Nat)(d:UInt8->UInt8)(e:UInt8->Prop):=a/\∃(x:UInt8),b.data.toList[c]? =Option.some (d x)/\e x
abbrev zO(a:UInt8):=(↑a.toNat:Int)
abbrev AS a b:=a<=b.size/\iE (List.all (List.take a (sG b)) Ah)
abbrev lD(a:Nat):=(↑a:Int).toNat
attribute [push_cast] pP OI zO AS lD
def To(s:ByteArray)(m:MH)(h:PH)(K:bo):=
  pP ((↑s.size:Int)==0) (K bH m h) (↑s.size:Int) 32 (K bH m h) (OI (cH 0) s 0 (λb=>b) (λb=>aY (↑b.toNat:Int) 97 (K bH m h) (OI (cH 0) s 0 (λd=>d) (λd=>fR (zO d) 122 (K bH m h) (kX (∃(x:Nat),aA (AS x s) (eQ (SV.at (Nf s))) (aA (bA x) (m=m) (bT h h))) (λx=>AS x s->aY (↑x:Int) (↑s.size:Int) (OI (cH (↑x:Int)) s (lD x) (λc=>c) (λc=>aY (↑c.toNat:Int) 97 (aY (↑c.toNat:Int) 48 (cV (zO c) 95 (K bH m h) (∃(y:Nat),aA (AS y s) (CB s y x) (aA (eQ (SV.at (Nf s))) (gK (bE x 1)=bO y) (dY m m h h)))) (fR (zO c) 57 (cV (zO c) 95 (K bH m h) (∃(y:Nat),aA (AS y s) (CB s y x) (aA (eQ (SV.at (Nf s))) (gK (bE x 1)=bO y) (dY m m h h)))) (∃(y:Nat),aA
 (AS y s) (CB s y x) (aA (eQ (SV.at (Nf s))) (gK (bE x 1)=bO y) (dY m m h h))))) (fR (zO c) 122 (aY (↑c.toNat:Int) 48 (cV (zO c) 95 (K bH m h) (∃(y:Nat),aA (AS y s) (CB s y x) (aA (eQ (SV.at (Nf s))) (gK (bE x 1)=bO y) (dY m m h h)))) (fR (zO c) 57 (cV (zO c) 95 (K bH m h) (∃(y:Nat),aA (AS y s) (CB s y x) (aA (eQ (SV.at (Nf s))) (gK (bE x 1)=bO y) (dY m m h h)))) (∃(y:Nat),aA (AS y s) (CB s y x) (aA (eQ (SV.at (Nf s))) (gK (bE x 1)=bO y) (dY m m h h))))) (∃(y:Nat),aA (AS y s) (CB s y x) (aA (eQ (SV.at (Nf s))) (gK (bE x 1)=bO y) (dY m m h h)))))) (K iM m h)))))))
def lR(h:PH)(K:bo):CV->MH->PH->Prop:=λr m' h'=>∃d c,(∀b o,d b=some o->m' b=some o)/\PH.le h c/\PH.le c h'/\K r d c
theorem lR.here{r}(c:K r m h):lR h K r m h:=⟨m,h,λ_ _ e=>e,.refl _,.refl _,c⟩
theorem lR.sub{r}(c:∀b o,m b=some o->m' b=some o)(d:K r m h):lR h K r m' h:=⟨m,h,c,.refl _,.refl _,d⟩
theorem lF.keeps{o}(f:cF m h b)(g:lF m m' b o):∀b o,m b=some o->m' b=some o:=λd n e=>by
 have c:d≠b:=λj=>by rw[j,f.m_]at e;cases e
 rw[g.other d c,e]
theorem aaZ:bm 183 aKZ:=by
 refine EN func183 ?_;rintro U m h K ⟨s,rfl,E⟩;refine⟨bEZ s m h,rfl,aG,MR s m h (λr m' h'=>∃u F,(∀b o,u b=some o->m' b=some o)/\PH.le h F/\PH.le F h'/\K r u F),ax,?_⟩;show MR s m h (lR h K);dsimp only[MR,push_cast];have hl:=T2 s;refine aF (λV=>?_) (λV=>aF (λF=>?_) (λF b W D G=>?_))
 .refine .here (kG E ?_);have:¬1<=s.size:=by omega
  simp[qH,this]
 .refine .here (kG E ?_);have:¬s.size<=32:=by omega
  simp[qH,this]
 refine⟨⟨(0,b,W),⟨ay,D,G,.inl rfl,ay⟩,MT⟩,?_⟩;rintro⟨d,b,mx⟩ ⟨X,D,n,g,f⟩;simp only at X D n g f;refine⟨s,d,⟨n.at_⟩,λY=>?_,λZ u H=>?_⟩
 .refine .sub (lF.keeps D n) (kG E ?_);rw[take_of_length_le aC]at f
  have h3:lower ((sG s).headD 0)=true:=by
   grind
  have O:1<=s.size:=by omega
  have Q:s.size<=32:=by omega
  simp only[qH,f,h3,decide_eq_true O,decide_eq_true Q];rfl
 .have t:=n.trans H;obtain⟨c,M⟩:∃c,(sG s)[d]? =some c:=⟨(sG s)[d]'(by omega),getElem?_eq_getElem _⟩
  obtain⟨T,R⟩:=bgX M
  have z:d=0->(sG s).headD 0=c:=λe=>by
   subst e;cases a':sG s with
   |nil=>grind
   |cons x l=>grind
  have I:¬((97<=(Utf8.decode s d).1/\(Utf8.decode s d).1<=122)\/(d≠0/\((Utf8.decode s d).1=95\/(48<=(Utf8.decode s d).1/\(Utf8.decode s d).1<=57))))->lR h K (.val (.bool false)) u h:=by
   intro hn;refine .sub (lF.keeps D t) (kG E ?_);by_cases j:(s.get! d).toNat<128
   .rw[M7 j,T]at hn;by_cases S:d=0
    .have:lower c=false:=by
      simp only[lower,Bool.and_eq_false_iff,decide_eq_false_iff_not];omega
     simp only[qH,z S,this,Bool.and_false,Bool.false_and]
    .have:Ah c=false:=by
      simp only[Ah,lower,Bool.or_eq_false_iff,Bool.and_eq_false_iff,decide_eq_false_iff_not,beq_eq_false_iff_ne];omega
     simp[qH,Pg M this]
   .have:Ah c=false:=by
     simp only[Ah,lower,Bool.or_eq_false_iff,Bool.and_eq_false_iff,decide_eq_false_iff_not,beq_eq_false_iff_ne];omega
    simp[qH,Pg M this]
  have J:((97<=(Utf8.decode s d).1/\(Utf8.decode s d).1<=122)\/(d≠0/\((Utf8.decode s d).1=95\/(48<=(Utf8.decode s d).1/\(Utf8.decode s d).1<=57))))->d+1<=s.size/\lF m u b (.stringIter s (d+1))/\lower ((sG s).headD 0)=true/\((sG s).take (d+1)).all Ah=true:=by
   intro A
   have j:(s.get! d).toNat<128:=by
    refine Decidable.byContradiction λj=>?_;have:=bfJ j;omega
   rw[M7 j]at t;rw[M7 j,T]at A;simp only at A;refine⟨aC,t,?_,?_⟩
   .rcases g with e|e
    .rw[z e];simp only[lower,Bool.and_eq_true,decide_eq_true_eq];omega
    .exact e
   .rw[BG M,f];simp only[Ah,lower,Bool.true_and,Bool.or_eq_true,Bool.and_eq_true,decide_eq_true_eq,beq_iff_eq];omega
  have next:((97<=(Utf8.decode s d).1/\(Utf8.decode s d).1<=122)\/(d≠0/\((Utf8.decode s d).1=95\/(48<=(Utf8.decode s d).1/\(Utf8.decode s d).1<=57))))->_:=λA=>(⟨(d+1,b,u),⟨(J A).1,D,(J A).2.1,.inr (J A).2.2.1,(J A).2.2.2⟩,aC,MT⟩:∃(y:Nat×Nat×MH),(y.fst<=s.size/\cF m h y.snd.fst/\lF m y.snd.2 y.snd.fst (Obj.stringIter s y.fst)/\(y.fst=0\/lower ((sG s).headD 0)=true)/\(List.take y.fst (sG s)).all Ah=true)/\s.size-y.fst<s.size-d/\SV.at (At.val (Value.pointer (some (Addr.mk b 0 none))))=SV.at (At.val (Value.pointer (some (Addr.mk y.snd.fst 0 none))))/\u=y.snd.2/\h=h/\True)
  clear J t H f g z n G E
  repeat' (first|(refine aD (λ_=>?_) (λ_=>?_))|exact I (by simp only[decide_eq_true_eq,decide_eq_false_iff_not,bne_iff_ne,ne_eq,beq_iff_eq,beq_eq_false_iff_ne,bne_eq_false_iff_eq,Bool.not_eq_true',Bool.not_eq_false']at*;omega)|exact next (by simp only[decide_eq_true_eq,decide_eq_false_iff_not,bne_iff_ne,ne_eq,beq_iff_eq,beq_eq_false_iff_ne,bne_eq_false_iff_eq,Bool.not_eq_true',Bool.not_eq_false']at*;omega))
theorem acX:bm 173 aKZ:=by
 refine iQ func173 ?_;rintro I m h K ⟨s,rfl,j⟩;refine⟨bFZ s m h,rfl,aG,To s m h K,ax,?_⟩;dsimp only[To,push_cast];have T:=T2 s;refine aD (λu=>kG j ?_) (λu=>aF (λJ=>kG j ?_) (λJ=>?_))
 .have:¬1<=s.size:=by have:(s.size:Int)=0:=(bk u);omega
  simp[qH,this]
 .have:¬s.size<=32:=by omega
  simp[qH,this]
 have u:s.size≠0:=by intro e;rw[e]at u;simp at u
 obtain⟨t,d⟩:∃c,s.data.toList[0]? =some c:=⟨s.data.toList[0]'(by simpa using(by omega:0<s.size)),getElem?_eq_getElem _⟩
 have g:(sG s).headD 0=t.toNat:=by
  unfold sG;cases z:s.data.toList with
  |nil=>rw[z]at d;simp at d
  |cons x l=>rw[z]at d;simp at d;simp[d]
 refine⟨aC,t,d,aF (λM=>kG j ?_) (λM=>⟨aC,t,d,aF (λO=>kG j ?_) (λO=>?_)⟩)⟩
 .have:lower t.toNat=false:=by simp only[lower,Bool.and_eq_false_iff,decide_eq_false_iff_not];omega
  simp only[qH,g,this,Bool.and_false,Bool.false_and]
 .have:lower t.toNat=false:=by simp only[lower,Bool.and_eq_false_iff,decide_eq_false_iff_not];omega
  simp only[qH,g,this,Bool.and_false,Bool.false_and]
 refine⟨⟨0,⟨aC,ay⟩,MT⟩,λi D=>aF (λQ=>?_) (λR=>kG j ?_)⟩
 .obtain⟨c,H⟩:∃c,s.data.toList[i]? =some c:=⟨s.data.toList[i]'(by simpa using(by omega:i<s.size)),getElem?_eq_getElem _⟩
  have n:(sG s)[i]? =some c.toNat:=by simp[sG,H]
  have f:Ah c.toNat=false->K (.val (.bool false)) m h:=λe=>kG j (by simp[qH,Pg n e]);have next:Ah c.toNat=true->∃(y:Nat),(y<=s.size/\(List.take y (sG s)).all Ah=true)/\s.size-y<s.size-i/\SV.at (At.val (Value.string s))=SV.at (At.val (Value.string s))/\SV.at (At.val (Value.int IntKind.i64 (IntKind.i64.wrap ((i:Int)+1))))=SV.at (At.val (Value.int IntKind.i64 (y:Int)))/\m=m/\h=h/\True:=λe=>⟨i+1,⟨aC,by rw[BG n,D.2,e];rfl⟩,aC,MT⟩
  have A:Ah c.toNat=true↔(97<=c.toNat/\c.toNat<=122)\/(48<=c.toNat/\c.toNat<=57)\/c.toNat=95:=by
   simp only[Ah,lower,Bool.or_eq_true,Bool.and_eq_true,decide_eq_true_eq,beq_iff_eq];omega
  have E:Ah c.toNat=false↔¬((97<=c.toNat/\c.toNat<=122)\/(48<=c.toNat/\c.toNat<=57)\/c.toNat=95):=by
   rw[<-A];simp
  refine⟨aC,c,bk H,?_⟩;clear j D g n E;rw[A]at next
  have f:=λe=>f (by rw[<-Bool.not_eq_true,A];exact e);clear A
  repeat' (first|(refine aD (λ_=>?_) (λ_=>?_))|exact f (by simp only[decide_eq_true_eq,decide_eq_false_iff_not,bne_iff_ne,ne_eq,beq_iff_eq,beq_eq_false_iff_ne,bne_eq_false_iff_eq,Bool.not_eq_true',Bool.not_eq_false']at*;omega)|exact next (by simp only[decide_eq_true_eq,decide_eq_false_iff_not,bne_iff_ne,ne_eq,beq_iff_eq,beq_eq_false_iff_ne,bne_eq_false_iff_eq,Bool.not_eq_true',Bool.not_eq_false']at*;omega))
 .have:=D.2;rw[take_of_length_le aC]at this;have S:lower t.toNat=true:=by simp only[lower,Bool.and_eq_true,decide_eq_true_eq];omega
  have F:1<=s.size:=by omega
  have G:s.size<=32:=by omega
  simp only[qH,this,g,S,decide_eq_true F,decide_eq_true G];rfl
end Go.Ps
