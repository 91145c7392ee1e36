/- Own work. -/
import Derived.MapKept
import Derived.Maps.RangeRun
import Derived.Test.YtafjlhgalgfiaaaGreatDoorProg
import Derived.IntWalk
import Derived.ChangeKeysEq
import Derived.Test.YtafjlhgalgfiaaaGreatDoorPa
set_option linter.unusedVariables false
set_option linter.unusedSimpArgs false
namespace Go.Vc
open Go List
section
variable{B:xC}{C:Ctx}{ι:dm}{σ:St}{a:Act}{w:World}{o:Oper}{K:St->Prop}
theorem byX(f:aR B ι σ a w) ob:
 aR B ι {σ with m:=λb=>if b=w.heap.size then some ob else σ.m b} a (w.alloc ob)/\rT σ.m σ.h w.heap.size/\∀o,Kt σ ι o w (w.alloc ob):=by
 have d:=f.wrel
 have l:rT σ.m σ.h w.heap.size:=by
  constructor
  .cases e:σ.m w.heap.size with
   |none=>rfl
   |some x=>have:=(Array.getElem?_eq_some_iff.1 (d.msat _ _ e)).1;omega
  .intro i;cases e:σ.h w.heap.size i with
   |none=>rfl
   |some x=>have:=World.block_lt_of_cell? w ⟨w.heap.size,i,none⟩ (d.hsat _ _ _ e);simp at this
 have r:(w.alloc ob).heap.size=w.heap.size+1:=by show(w.heap.push ob).size=_;simp
 refine⟨⟨f.slots,f.defers,λk n j=>(f.own k n j).world (λb c=>iY w ob (uC (f.own k n j) c)),f.dist,?_,?_,f.one⟩,l,λo=>⟨?_,?_,λ_ b c=>iY w ob c,λ_ b _ c _ _=>iY w ob c⟩⟩
 .intro k n b j c;obtain⟨z,A,D⟩:=f.fresh k n b j c;have t:=uC (f.own k n j) c
  grind
 .refine⟨d.tape,d.os,d.output,d.drawn,by rw[r];exact Nat.le_succ_of_le d.size,?_,?_,?_,?_,d.hle,d.hold,?_⟩
  .intro b c u;rw[iY w ob (cw c d.size)];exact d.frame b c u
  .intro b i v s;have g:=d.hsat b i v s;rw[<-g];exact World.cell?_of_block (w:=w) (w':=w.alloc ob) (a:=⟨b,i,none⟩) (iY w ob (World.block_lt_of_cell? w ⟨b,i,none⟩ g))
  .intro b x c;have c:(if b=w.heap.size then some ob else σ.m b)=some x:=c;by_cases e:b=w.heap.size
   .rw[if_pos e]at c;rw[e,qI];exact c
   .rw[if_neg e]at c;have g:=d.msat b x c;rw[iY w ob (Array.getElem?_eq_some_iff.1 g).1];exact g
  .intro b x c i;have c:(if b=w.heap.size then some ob else σ.m b)=some x:=c;by_cases e:b=w.heap.size
   .rw[e];exact l.h_ i
   .rw[if_neg e]at c;exact d.disj b x c i
  .intro b x c;have c:(if b=w.heap.size then some ob else σ.m b)=some x:=c;by_cases e:b=w.heap.size
   .left;rw[e];exact d.size
   .rw[if_neg e]at c;exact d.mfr b x c
 .intro k p T E b j _ y;exact iY w ob (uC (f.own k _ j) (by rw[y];rfl))
 .intro b i v s;have g:=d.hsat b i v s;rw[<-g];exact World.cell?_of_block (w:=w) (w':=w.alloc ob) (a:=⟨b,i,none⟩) (iY w ob (World.block_lt_of_cell? w ⟨b,i,none⟩ g))
theorem WQ(n:aR B ι σ a w){b y ob}(t:σ.m b=some y):
 aR B ι {σ with m:=λc=>if c=b then some ob else σ.m c} a {w with heap:=w.heap.setIfInBounds b ob}/\∀o,B9 o.op=false->Kt σ ι o w {w with heap:=w.heap.setIfInBounds b ob}:=by
 have g:=n.wrel;have z:b<w.heap.size:=(Array.getElem?_eq_some_iff.1 (g.msat _ _ t)).1
 have f:∀c,c≠b->(w.heap.setIfInBounds b ob)[c]? =w.heap[c]? :=λc l=>by
  grind
 have A:(w.heap.setIfInBounds b ob)[b]? =some ob:=by simp[z]
 have u:∀k r,nth σ.own k=some (some r)->blk (ι k)≠some b:=by
  intro k r s F;have:=(n.fresh k r b s F).2.1
  grind
 have j:∀c i v,σ.h c i=some v->({w with heap:=w.heap.setIfInBounds b ob}:World).cell? ⟨c,i,none⟩=some v:=by
  intro c i v D;have l:c≠b:=λe=>by subst e;rw[g.disj c _ t i]at D;cases D
  have E:=g.hsat c i v D;rw[<-E];exact World.cell?_of_block (w:=w) (w':={w with heap:=w.heap.setIfInBounds b ob}) (a:=⟨c,i,none⟩) (f c l)
 refine⟨⟨n.slots,n.defers,λk r s=>(n.own k r s).world (λc d=>f c (λe=>u k r s (e▸d))),n.dist,?_,?_,n.one⟩,λo I=>⟨?_,j,λh=>bo,λ_ c _ _ J _=>f c (λe=>bo)⟩⟩
 .intro k r c s d;obtain⟨L,M,N⟩:=n.fresh k r c s d
  grind
 .refine⟨g.tape,g.os,g.output,g.drawn,bx g.size,?_,j,?_,?_,g.hle,g.hold,?_⟩
  .intro c d G
   have l:c≠b:=λe=>by
    subst e;rcases g.mfr c _ t with E|E
    .omega
    grind
   rw[f c l];exact g.frame c d G
  .intro c x d;have d:(if c=b then some ob else σ.m c)=some x:=d;by_cases e:c=b
   .grind
   .rw[if_neg e]at d;rw[f c e];exact g.msat c x d
  .intro c x d i;have d:(if c=b then some ob else σ.m c)=some x:=d;by_cases e:c=b
   .rw[e];exact g.disj b _ t i
   .rw[if_neg e]at d;exact g.disj c _ d i
  .intro c x d;have d:(if c=b then some ob else σ.m c)=some x:=d;by_cases e:c=b
   .rw[e];exact g.mfr b _ t
   .rw[if_neg e]at d;exact g.mfr c _ d
 .intro k p T O c s _ H;exact f c (λe=>u k _ s (by rw[H,e];rfl))
theorem Sz(g:aR B ι σ a w){t r}(i:o.op= .makeMap t r)(h:M6 o r σ K):Ws B C ι o σ K a w:=by
 intro next Q b
 unfold M6 at h;split at h
 .obtain⟨d,e,j⟩:=byX g (.map #[] 0)
  have c:(execOp a.eval o).run C.P w= .ok (.value (.map (some w.heap.size))) (w.alloc (.map #[] 0)):=by
   unfold execOp;simp[i,Instr.makeMap]
  unfold Oper.wp;rw[c,Oper.upon_value];exact b ι _ _ _ (d.put o.dst (x:=.at (.val (.map (some w.heap.size)))) rfl) (h w.heap.size _ e ⟨bi,λl f=>by simp[f]⟩) (j o)
 grind
theorem aR.drew{B ι σ a w}(h:aR B ι σ a w) k(c:w.drawn<=k):aR B ι σ a {w with drawn:=k}:=by
 refine⟨h.slots,h.defers,λj o d=>(h.own j o d).world (λ_ _=>rfl),h.dist,h.fresh,?_,h.one⟩;have b:=h.wrel;exact⟨b.tape,b.os,b.output,cv b.drawn c,b.size,b.frame,b.hsat,b.msat,b.disj,b.hle,b.hold,b.mfr⟩
theorem AZ{α}{l:List α}{j x}(h:l[j]? =some x):l=l.take j++x::l.drop (j+1):=by
 have b:=(bz h);have e:=(List.getElem?_eq_some_iff.1 h).2;rw[<-e, <-drop_eq_getElem_cons b,take_append_drop]
theorem WZ(p:aR B ι σ a w){t x}(z:o.op= .range t x)(h:Vp C o t x σ K):Ws B C ι o σ K a w:=by
 intro next Q f
 have d:=p.ev x;unfold Vp at h;split at h
 .rename_i s r u;rw[u]at d;have d:a.eval x= .string s:=d;obtain⟨j,l,v⟩:=byX p (.stringIter s 0)
  have g:(execOp a.eval o).run C.P w= .ok (.value (.pointer (some ⟨w.heap.size,0,none⟩))) (w.alloc (.stringIter s 0)):=by
   unfold execOp;simp[z,d,Instr.range,run_underlying r]
  unfold Oper.wp;rw[g,Oper.upon_value];exact f ι _ _ _ (j.put o.dst (x:=.at (.val (.pointer (some ⟨w.heap.size,0,none⟩)))) rfl) (h w.heap.size _ l ⟨bi,λA m=>by simp[m]⟩) (v o)
 .rename_i I J b r u;rw[u]at d;have d:a.eval x= .map (some b):=d;obtain⟨D,⟨E,c,F,n,i,y⟩,h⟩:=h;have G:=p.wrel.msat b _ F;obtain⟨j,l,v⟩:=byX p (.mapIter (some b) c #[] c)
  have g:(execOp a.eval o).run C.P w= .ok (.value (.pointer (some ⟨w.heap.size,0,none⟩))) (w.alloc (.mapIter (some b) c #[] c)):=by
   unfold execOp;simp[z,d,Instr.range,run_underlying r,MapKept.run_getObj_map G,Result.andThen]
  unfold Oper.wp;rw[g,Oper.upon_value];have H:b≠w.heap.size:=λe=>bo
  refine f ι _ _ _ (j.put o.dst (x:=.at (.val (.pointer (some ⟨w.heap.size,0,none⟩)))) rfl) (h w.heap.size _ l ⟨λA m=>by simp[m]⟩ ⟨E,c,c, #[],c,?_,n,i,y,bi,i,Nat.le_refl _,Nat.le_refl _,?_⟩) (v o)
  .grind
  .rw[<-n];congr 1;exact filter_eq_self.2 (λ_ _=>bi)
 grind
theorem ZI(v:aR B ι σ a w){x st}(R:o.op= .next x st)(h:ZJ o x st σ K):Ws B C ι o σ K a w:=by
 intro next Q l
 have i:=v.ev x;unfold ZJ at h;split at h
 .rename_i b S;rw[S]at i;have i:a.eval x= .pointer (some ⟨b,0,none⟩):=i;obtain⟨s,t,hm,Y,Z⟩:=h;have hg:=v.wrel.msat b _ hm.at_;by_cases y:t<s.size
  .obtain⟨H,hk⟩:=WQ (ob:=.stringIter s (t+(Utf8.decode s t).2)) v hm.at_
   have d:(execOp a.eval o).run C.P w= .ok (.value (.tuple #[.bool true,.int .i64 t,.int .i32 (Utf8.decode s t).1])) {w with heap:=w.heap.setIfInBounds b (.stringIter s (t+(Utf8.decode s t).2))}:=by
    unfold execOp;simp[R,i,Instr.next,getObj,setObj,Sem.run,hg,y,goInt,Result.andThen]
   unfold Oper.wp;rw[d,Oper.upon_value];refine l ι _ _ _ (H.put o.dst (x:=.tup _) ?_) (Z y _ ⟨bi,λb' I=>by simp[I]⟩) (hk o (by rw[R];rfl));exact⟨_,rfl,rfl,rfl,rfl,trivial⟩
  .have d:(execOp a.eval o).run C.P w= .ok (.value (.tuple #[.bool false])) w:=by
    unfold execOp;simp[R,i,Instr.next,getObj,Sem.run,hg,y,Result.andThen]
   unfold Oper.wp;rw[d,Oper.upon_value];refine l ι _ _ _ (v.put o.dst (x:=.tup _) ?_) (Y aD) (nE v);exact⟨_,rfl,rfl,trivial⟩
 .rename_i r S;rw[S]at i;have i:a.eval x= .pointer (some ⟨r,0,none⟩):=i;obtain⟨b,a4,left,⟨p,f,g,c,c0,a',a0,J,M,T,E,a1,F,N⟩,Y,Z⟩:=h;have a2:=v.wrel.msat b _ a';have a3:=v.wrel.msat r _ T;rcases run_next_at (P:=C.P) w o.type r b g c0 c p f a3 a2 E a1 with⟨h0,d⟩|⟨e,he,w1,hw1,d⟩
  .have hl:left=[]:=by
    rw[<-N];have:(leftOf p c).toList=[]:=bo
    unfold leftOf at this
    grind
   have d:(execOp a.eval o).run C.P w= .ok (.value (.tuple #[.bool false])) w:=by
    unfold execOp;simp[R,i,d,Result.andThen]
   unfold Oper.wp;rw[d,Oper.upon_value];refine l ι _ _ _ (v.put o.dst (x:=.tup _) ?_) (Y hl) (nE v);exact⟨_,rfl,rfl,trivial⟩
  .have O:∃n,aR B ι σ a w1/\w1={w with drawn:=n}:=by
    rcases hw1 with rfl|rfl
    .grind
    .exact⟨w.drawn+1,v.drew (w.drawn+1) (Nat.le_succ _),rfl⟩
   obtain⟨n,O,U⟩:=O;obtain⟨H,hk⟩:=WQ (ob:=.mapIter (some b) g (c.push e.born) f) O T
   have d:(execOp a.eval o).run C.P w= .ok (.value (.tuple #[.bool true,e.key,e.val])) {w1 with heap:=w1.heap.setIfInBounds r (.mapIter (some b) g (c.push e.born) f)}:=by
    unfold execOp;simp[R,i,d,Result.andThen,ChangeMaps.setBlock]
   have V:e∈p.toList.filter λe=> !c.contains e.born:=by
    unfold leftOf at he
    grind
   have W:e∈p.toList:=(mem_filter.1 V).1;obtain⟨j,hj⟩:=getElem?_of_mem V;have z:=AZ hj;have a5:r≠b:=λe=>bo
   have u:(((p.toList.filter λe=> !c.contains e.born)).map (·.born)).Nodup:=M.sublist (filter_sublist.map _)
   have X:p.toList.filter (λx=> !(c.push e.born).contains x.born)=(p.toList.filter λe=> !c.contains e.born).take j++(p.toList.filter λe=> !c.contains e.born).drop (j+1):=by
    have h3:p.toList.filter (λx=> !(c.push e.born).contains x.born)=(p.toList.filter λe=> !c.contains e.born).filter λx=>x.born !=e.born:=by
     rw[filter_filter]
     grind
    rw[h3];generalize (p.toList.filter λe=> !c.contains e.born)=L at z u hj;have y:=(bz hj);generalize L.take j=A at z;generalize L.drop (j+1)=D at z;subst z;simp only[cj,map_cons,nodup_append,nodup_cons,mem_map,mem_cons]at u;obtain⟨_,⟨a6,_⟩,a7⟩:=u;rw[filter_append,filter_cons];simp only[bne_self_eq_false,Bool.false_eq_true,if_false];congr 1
    .refine filter_eq_self.2 λx S=>?_
     grind
    .refine filter_eq_self.2 λx S=>?_
     grind
   unfold Oper.wp;rw[d,Oper.upon_value];have G:(if b=r then some (Obj.mapIter (some b) g (c.push e.born) f)else σ.m b)=some (.map p f):=bo
   refine l ι _ _ _ (H.put o.dst (x:=.tup _) ?_) (Z (((p.toList.filter λe=> !c.contains e.born).take j).map λe=>(e.key,e.val)) (e.key,e.val) (((p.toList.filter λe=> !c.contains e.born).drop (j+1)).map λe=>(e.key,e.val)) ?_ _ ⟨λb' I=>by simp[I]⟩ ⟨⟨p,f,g,c.push e.born,f,G,a0,J,M,bi,E,F,F,?_⟩,p,f,g,c,e,G,M,bi,W,rfl⟩) ?_
   .exact⟨_,rfl,rfl,rfl,rfl,trivial⟩
   .grind
   .grind
   .have:=hk o (by rw[R];rfl);subst U;exact⟨this.cells,this.imm,this.ext,this.args⟩
 grind
theorem YL(j:aR B ι σ a w){x}(u:o.op= .entry x)(h:VW C o x σ K):Ws B C ι o σ K a w:=by
 intro next Q f
 have d:=j.ev x;unfold VW at h;split at h
 .rename_i r v;rw[v]at d;have d:a.eval x= .pointer (some ⟨r,0,none⟩):=d;obtain⟨b,y,left,x,⟨_,z,g,i,l,e,m,n,p,A,rfl⟩,h⟩:=h;have c:=run_entry_at (P:=C.P) w r b i l z g e (j.wrel.msat r _ p) (j.wrel.msat b _ m) A n
  have c:(execOp a.eval o).run C.P w= .ok (.value (.tuple #[e.key,e.val])) w:=by
   unfold execOp;simp[u,d,c,Result.andThen]
  have h:K (σ.put o.dst (.tup [.inl (.val e.key),.inl (.val e.val)])):=by
   split at h
   .obtain⟨s,t,h⟩:=h;have t:e.val=Sl.val s:=t;rw[t];exact h
   .exact h
  unfold Oper.wp;rw[c,Oper.upon_value];refine f ι _ _ _ (j.put o.dst (x:=.tup _) ?_) h (nE j);exact⟨_,rfl,rfl,rfl,trivial⟩
 grind
theorem HD{P:Program}{f:TypeId}{Ok:Value->Prop}(L:KeyLaw P f Ok){k:Value}(n:Ok k)(w:World):∀(es:List MapEntry)(i:Nat),(∀e∈es,Ok e.key)->
 ((∀e∈es,e.key≠k)/\(Instr.findAsking f k es i).run P w= .ok none w)\/∃j e,es[j]? =some e/\e.key=k/\(Instr.findAsking f k es i).run P w= .ok (some (i+j,e.val)) w
 |[],i,_=>.inl ⟨λe p=>(by cases p),by simp[Instr.findAsking]⟩
 |e::es,i,b=>by
  obtain⟨r,g,l⟩:=L.eq k e.key w n (b e bi);cases r with
  |true=>exact .inr ⟨0,e,rfl,(l.1 rfl).symm,by simp[Instr.findAsking,g]⟩
  |false=>
   have s:e.key≠k:=λh=>bo
   rcases HD L n w es (i+1) (λd c=>b d (by simp[c]))with⟨t,m⟩|⟨j,d,t,m,u⟩
   .refine .inl ⟨λd c=>?_,by simp[Instr.findAsking,g,m]⟩
    grind
   .exact .inr ⟨j+1,d,bo,m,by simp[Instr.findAsking,g,u];omega⟩
theorem findNow_spec{P:Program}{n:TypeId}{Ok:Value->Prop}(L:KeyLaw P n Ok){d:TypeDesc}(c:P.underlying n=some d){k:Value}(f:Ok k):∀(es:List MapEntry)(i:Nat)(r:Option (Nat×Value)),(∀e∈es,Ok e.key)->
 Instr.findNow d k es i=some r->((∀e∈es,e.key≠k)/\r=none)\/∃j e,es[j]? =some e/\e.key=k/\r=some (i+j,e.val)
 |[],i,r,_,h=>by
  simp[Instr.findNow]at h
  grind
 |e::es,i,r,b,h=>by
  simp only[Instr.findNow]at h;split at h
  .rename_i g;simp only[ck]at h;exact .inr ⟨0,e,rfl,((L.now d k e.key true c f (b e bi) g).1 rfl).symm,bo⟩
  .rename_i g;have s:e.key≠k:=λt=>by have:=(L.now d k e.key false c f (b e bi) g).2 t.symm;cases this
   rcases findNow_spec L c f es (i+1) r (λl m=>b l (by simp[m])) h with⟨u,p⟩|⟨j,l,u,p,v⟩
   .grind
   .exact .inr ⟨j+1,l,bo,p,bo⟩
  .cases h
theorem run_findKey{P c Ok}(L:KeyLaw P c Ok){k}(l:Ok k) w es(f:∀e∈es,Ok e.key):
 ((∀e∈es,e.key≠k)/\(Instr.findKey c k es).run P w= .ok none w)\/∃j e,es[j]? =some e/\e.key=k/\(Instr.findKey c k es).run P w= .ok (some (j,e.val)) w:=by
 obtain⟨d,g⟩:=L.under;cases h:Instr.findNow d k es 0 with
 |some r=>
  have b:(Instr.findKey c k es).run P w= .ok r w:=by simp[Instr.findKey,run_underlying g,h]
  rcases findNow_spec L g l es 0 r f h with⟨i,rfl⟩|⟨j,e,i,m,rfl⟩
  .grind
  grind
 |none=>
  have b:(Instr.findKey c k es).run P w=(Instr.findAsking c k es).run P w:=by simp[Instr.findKey,run_underlying g,h]
  rw[b];rcases HD L l w es 0 f with⟨i,m⟩|⟨j,e,i,m,n⟩
  .grind
  grind
theorem Wu{P T z}(h:U8 P T=some z) w:(zeroValue T).run P w= .ok z w:=by
 unfold U8 at h;split at h
 .rename_i i d;split at h
  .rename_i k n c;simp only[ck]at h;subst h;simp[zeroValue,typeInfo,d,c]
  .rename_i b c;simp only[ck]at h;subst h;simp[zeroValue,typeInfo,d,c]
  .rename_i c;simp only[ck]at h;subst h;simp[zeroValue,typeInfo,d,c]
  .cases h
 .cases h
theorem VD(i:aR B ι σ a w){t x k ok}(J:o.op= .lookup t x k ok)(h:QU C o t x k ok σ K):Ws B C ι o σ K a w:=by
 intro next Q c
 have d:=i.ev x;unfold QU at h;split at h
 .rename_i kt D b M N V E;rw[V]at d;have d:a.eval x= .map (some b):=d;have n:a.eval k=M:=(i.ev k).val? E;split at h
  .rename_i z W;obtain⟨r,Ok,⟨m,F,X,Y⟩,L,s,O,l,v⟩:=h;have R:=i.wrel.msat b _ X
   have y:∀e∈m.toList,∃p∈r,e.key=p.1/\e.val=only ((C.dec D).enc p.2):=by
    intro e G
    have:(e.key,e.val)∈r.map λp=>(p.1,only ((C.dec D).enc p.2)):=by
     grind
    grind
   have A:∀e∈m.toList,Ok e.key:=λe G=>by
    grind
   have g:=L.check M w m.isEmpty s;unfold Oper.wp;rcases run_findKey L s w m.toList A with⟨S,T⟩|⟨j,e,S,T,Z⟩
   .have f:(execOp a.eval o).run C.P w= .ok (.value (if ok then .tuple #[z,.bool false]else z)) w:=by
     unfold execOp;simp[J,d,n,Instr.lookup,run_underlying N,MapKept.run_getObj_map R,g,T,Wu W,Result.andThen]
    rw[f,Oper.upon_value];refine c ι _ _ _ (i.put o.dst ?_) (l ?_) (nE i)
    .cases ok
     .rfl
     .exact⟨_,rfl,rfl,rfl,trivial⟩
    .intro p hp e1
     have:(p.1,only ((C.dec D).enc p.2))∈m.toList.map λe=>(e.key,e.val):=by
      grind
     grind
   .have G:e∈m.toList:=ce S;obtain⟨p,hp,e1,H⟩:=y e G
    have f:(execOp a.eval o).run C.P w= .ok (.value (if ok then .tuple #[e.val,.bool true]else e.val)) w:=by
     unfold execOp;simp[J,d,n,Instr.lookup,run_underlying N,MapKept.run_getObj_map R,g,Z,Result.andThen]
    have U:=v p.2 bo;rw[f,Oper.upon_value];split at U
    .rename_i u I;rw[I]at H;refine c ι _ _ _ (i.put o.dst ?_) U (nE i);cases ok
     .exact H
     .exact⟨_,rfl,H,rfl,trivial⟩
    grind
  grind
 grind
theorem OY(i:aR B ι σ a w){t x k v}(J:o.op= .mapUpdate t x k v)(l:o.dst=none)(h:EK C t x k v σ K):Ws B C ι o σ K a w:=by
 intro next Q f
 have d:=i.ev x;unfold EK at h;split at h
 .rename_i Z et b m u T U A V;rw[U]at d;have d:a.eval x= .map (some b):=d;have D:a.eval k=m:=(i.ev k).val? A;have E:a.eval v=u:=(i.ev v).val? V;obtain⟨F,Ok,⟨g,c,M,G⟩,L,n,p,N,W⟩:=h;have O:=i.wrel.msat b _ M;have r:∀e∈g.toList,(e.key,e.val)∈F:=λe R=>bo
  have s:∀e∈g.toList,Ok e.key:=λe R=>p _ (r e R);have y:=L.check m w false n;rcases run_findKey L n w g.toList s with⟨X,S⟩|⟨j,e,X,S,h3⟩
  .obtain⟨H,Y⟩:=WQ (ob:=.map (g.push {key:=m,val:=u,born:=c}) (c+1)) i M
   have z:(execOp a.eval o).run C.P w= .ok .skip {w with heap:=w.heap.setIfInBounds b (.map (g.push {key:=m,val:=u,born:=c}) (c+1))}:=by
    unfold execOp;simp[J,d,D,E,Instr.mapUpdate,run_underlying T,MapKept.run_getObj_map O,MapKept.run_setObj_map _ O,y,S,Result.andThen]
   unfold Oper.wp;rw[z,Oper.upon_skip,show a.put o.dst undef=a by rw[l];rfl];refine f ι _ _ _ H (W _ ⟨λb' I=>by simp[I]⟩ ⟨g.push {key:=m,val:=u,born:=c},c+1,bi,?_⟩) (Y o (by rw[J];rfl));simp[G]
  grind
 grind
theorem VB(z:aR B ι σ a w){t x k v}(N:o.op= .mapUpdate t x k v)(m:o.dst=none)(h:LY C t x k v σ K):Ws B C ι o σ K a w:=by
 intro next Q f
 have g:=z.ev x;unfold LY at h;split at h
 .rename_i kt et b l u hu hx R hv;rw[hx]at g;have g:a.eval x= .map (some b):=g;have A:a.eval k=l:=(z.ev k).val? R;have D:a.eval v=u:=(z.ev v).val? hv;obtain⟨S,Ok,⟨d,c,T,U,V,a1⟩,L,E,r,F,G,H⟩:=h;have O:=z.wrel.msat b _ T;have I:∀e∈d.toList,(e.key,e.val)∈S:=λe W=>bo
  have J:∀e∈d.toList,Ok e.key:=λe W=>F _ (I e W);have n:=L.check l w false E;rcases run_findKey L E w d.toList J with⟨X,Y⟩|⟨j,e,X,Y,h3⟩
  .obtain⟨s,Z⟩:=WQ (ob:=.map (d.push {key:=l,val:=u,born:=c}) (c+1)) z T
   have i:(execOp a.eval o).run C.P w= .ok .skip {w with heap:=w.heap.setIfInBounds b (.map (d.push {key:=l,val:=u,born:=c}) (c+1))}:=by
    unfold execOp;simp[N,g,A,D,Instr.mapUpdate,run_underlying hu,MapKept.run_getObj_map O,MapKept.run_setObj_map _ O,n,Y,Result.andThen]
   unfold Oper.wp;rw[i,Oper.upon_skip,show a.put o.dst undef=a by rw[m];rfl];refine f ι _ _ _ s (G (λp hp e1=>?_) _ ⟨λb' y=>by simp[y]⟩ ⟨d.push {key:=l,val:=u,born:=c},c+1,bi,by simp[U],λe W=>?_,?_⟩) (Z o (by rw[N];rfl))
   .grind
   .grind
   grind
  .have M:=(bz X);have a':d[j]? =some e:=bo
   obtain⟨s,Z⟩:=WQ (ob:=.map (d.modify j λe=>{e with key:=l,val:=u}) c) z T
   have i:(execOp a.eval o).run C.P w= .ok .skip {w with heap:=w.heap.setIfInBounds b (.map (d.modify j λe=>{e with key:=l,val:=u}) c)}:=by
    unfold execOp;simp[N,g,A,D,Instr.mapUpdate,run_underlying hu,MapKept.run_getObj_map O,MapKept.run_setObj_map _ O,n,h3,a',Y,Instr.keyThatStays,r,Result.andThen]
   have a0:(d.modify j λe=>{e with key:=l,val:=u}).toList=d.toList.take j++{e with key:=l,val:=u}::d.toList.drop (j+1):=by
    rw[Array.toList_modify,modify_eq_take_cons_drop M]
    grind
   have a2:=AZ X;unfold Oper.wp;rw[i,Oper.upon_skip,show a.put o.dst undef=a by rw[m];rfl];refine f ι _ _ _ s (H ((d.toList.take j).map λe=>(e.key,e.val)) e.val ((d.toList.drop (j+1)).map λe=>(e.key,e.val)) ?_ _ ⟨λb' y=>by simp[y]⟩ ⟨d.modify j λe=>{e with key:=l,val:=u},c,bi,?_,?_,?_⟩) (Z o (by rw[N];rfl))
   .grind
   .grind
   .grind
   grind
 grind
end
end Go.Vc
namespace Go.Vc
open Go List
section
variable{B:xC}{C:Ctx}{ι:dm}{σ:St}{a:Act}{w:World}{o:Oper}{K:St->Prop}
theorem bwQ(g:aR B ι σ a w)(u:Hq o.op=true)(h:Vs C o σ K):We C ι o σ K a w:=by
 unfold Vs at h;cases j:o.op<;>simp only[j]at h u
 case move x=>exact QR g (.inl j) h
 case assign x=>exact QR g (.inr j) h
 case pick c x y=>exact Zv g j h
 case build T ps=>exact YV g j h
 case load T x=>exact ZM g j h
 case nilCheck x=>exact QF g j h
 case binOp op tx x y ty=>
  cases op
  case eql=>
   simp only at h;split at h
   .exact HB (neg:=false) g j h
   .exact nJ g (λp b=>bo) h
  case neq=>
   simp only at h;split at h
   .exact HB (neg:=true) g j h
   .exact nJ g (λp b=>bo) h
  case add=>exact VZ g j h
  all_goals first
   |exact nJ g (λp b=>by rw[j];intro e;cases e) h
   |exact bmZ g j h
 case unOp op t x=>exact nJ g (λp b=>bo) h
 case convert s d x=>exact SD g j h
 case fieldAddr T x f=>exact O3 g j h
 case field T x f=>exact Xw g j h
 case indexAddr T x i=>exact O2 g j h
 case index T x i=>exact Xn g j h
 case extract x i=>exact SC g j h
 case call c=>
  obtain⟨l,args,m⟩:=c;cases l with
  |builtin b=>
   cases b<;>simp only[Hq,Bool.false_eq_true]at u
   case len=>
    simp only at h;split at h
    .rename_i x v;exact a2Q g j rfl v h
    grind
   case min=>exact nJ g (λp b=>bo) h
   case max=>exact nJ g (λp b=>bo) h
  |value f=>simp[Hq]at u
  |invoke r n=>grind
 all_goals (first|exact h.elim|(simp[Hq]at u))
theorem We.stp(d:aR B ι σ a w)(h:We C ι o σ K a w):Ws B C ι o σ K a w:=by
 intro next Q b
 obtain⟨v,x,c,e,f⟩:=h;unfold Oper.wp;rw[c w (.inr rfl),Oper.upon_value];exact b ι _ _ _ (d.put o.dst e) f (nE d)
theorem DR(e:aR B ι σ a w):∀(i:Nat)(l:dx)(ts:eu)(b:du),uK C.P σ [] i l ts=some b->b=(l.map a.eval).map .val
 |i,[],ts,b,h=>by simp[uK]at h;subst h;rfl
 |i,x::r,ts,b,h=>by
  simp only[uK]at h;split at h
  .cases h
  .rename_i d c;have f:=DR e (i+1) r ts.tail d c;simp only[contains_nil]at h;split at h
   .rename_i u g;simp only[ck]at h;subst h;simp only[map_cons,(e.ev x).val? g,f]
   .cases h
theorem Mz:∀(l b:dc),PS (l.map .val) b=(l++b).map .val
 |[],_=>rfl
 |v::l,b=>by simp only[map_cons,PS,Mz l b,cons_append]
theorem Vz{P T cs ι}:Den ι (mk P T (cs.map .val)) (valOf P T cs):=by
 unfold mk valOf;cases Bc P T with
 |true=>exact⟨_,rfl,by simpa using(jX.vals (ι:=ι)).2 rfl⟩
 |false=>match cs with
  |[]=>exact trivial
  |[x]=>exact rfl
  |_::_::_=>exact trivial
theorem Sound.fat{P f S T}{vs:dc}{m h R}(I:Sound P f S)(L:S (vs.map .val) m h (λr m' D=>∃l,r= .val (valOf P T l)/\R l m' D)):FAt P f T (vs.map .val) m h R:=by
 have E:∀{l F:dc},l.map CV.val=F.map CV.val->l=F:=fun{l F} e=>(List.map_inj_right (λx y h=>by cases h;rfl)).1 e;refine⟨I.1,λM w N G=>?_⟩;rw[<-E N]
 have s:∀(l:dc)(w:World),DY w (l.map .val) l:=λl w=>by
  induction l with
  |nil=>trivial
  |cons a l O=>exact⟨rfl,O⟩
 have z:∀(l:dc)(i:Nat)(c:CV)(u:Value)(b:Nat),(l.map CV.val)[i]? =some c->jF c u=some b->False:=λl i c u b p g=>by
  rw[getElem?_map]at p;cases e:l[i]? with
  |none=>grind
  |some v=>rw[e]at p;simp at p;subst p;simp[jF]at g
 refine(I.2 _ vs m h w _ L ⟨s _ _,G.hsat,G.msat,G.disj,λi j c d u v b p _ _ _ g _=>(z _ i c u b p g).elim,λi c u b p _ g=>(z _ i c u b p g).elim⟩).mono ?_;rintro e U ⟨r,u,m',D,rfl,⟨l,rfl,Q⟩,t,n,_⟩;have t:u=valOf P T l:=t;subst t
 have J:∀b,m b=none->¬zU m (vs.map .val) vs b:=by
  rintro b g (A|⟨i,c,u,p,_,V⟩)
  .exact A g
  grind
 refine⟨l,m',D,rfl,Q,⟨n.tape,n.os,n.output,n.drawn,n.size,λb g H=>n.frame b g (J b H),⟨n.hsat,n.msat,n.disj⟩,⟨n.hle⟩,λb g H=>n.hold b g (J b H),λb o g=>?_⟩⟩;rcases n.mfr b o g with A|A
 .exact .inl A
 grind
theorem bmX(r:aR B ι σ a w){c g T f G cs}(Z:o.op= .call c)(hc:c.callee= .value g)(hg:σ.ev g= .at (.val (.func (.func f) G cs)))(a':G.toList=[])(h:bXZ C o T f cs.toList c.args.toList σ K):Ws B C ι o σ K a w:=by
 intro next Q s
 unfold bXZ at h;split at h
 .rename_i a0 u;obtain⟨R,I,h⟩:=h;have J:=DR r 0 _ _ _ u;subst J;rw[Mz]at I;have H:=r.wrel;obtain⟨fn,L,M,N⟩:=I.fn;have t:=I.go _ w rfl ⟨H.hsat,H.msat,H.disj⟩;have O:a.eval g= .func (.func f) G cs:=by have:=r.ev g;rw[hg]at this;exact this
  have y:G= #[]:=bo
  subst y;have n: #[]++c.args.map a.eval++cs=(c.args.toList.map a.eval++cs.toList).toArray:=bo
  have S:¬fn.body=none:=bo
  have U:¬fn.name= "runtime.NumGoroutine" :=bo
  have z:(execOp a.eval o).run C.P w= .ok (.enter f (c.args.toList.map a.eval++cs.toList).toArray) w:=by
   unfold execOp;simp only[Z,resolve,hc,O,Deferred.ofValue,Sem.run_bind,Sem.run_pure,Result.andThen_ok,invoke,callFunc];rw[n];simp[program,Sem.run,L,U,S]
  unfold Oper.wp;rw[z,Oper.upon_enter];refine Calls.mono t ?_;rintro e w' ⟨l,m',h',rfl,⟨x,rfl,hx⟩,d⟩;show next (a.put o.dst (valOf C.P T ((C.dec T).enc x))) w'
  have V:D4 ⟨w,λb=>σ.m b≠none,σ.h,[]⟩ m' h' w':=
   ⟨d.tape,d.os,d.output,d.drawn,d.size,λb i A=>d.frame b i (Classical.byContradiction A),d.heapy.hsat,d.heapy.msat,d.heapy.disj,d.hle.le,λb i A=>d.hold b i (Classical.byContradiction A),λb W i=>d.mfr b W i⟩
  have X:=r.called V (λb i=>by
   cases hm:σ.m b with
   |none=>grind
   |some W=>exact H.mfr b W hm) (λj o' b hj i A=>A (r.fresh j o' b hj i).2.1)
  refine s ι _ _ _ (X.put o.dst Vz) (h x m' h' hx) ⟨λk p T a1 b hk _ hι=>?_,λb D v J=>d.heapy.hsat b D v (d.hle.le b D v J),λE=>?_,λl b _ i Y _=>d.frame b i Y⟩
  .have F:blk (ι k)=some b:=by rw[hι];rfl
   exact d.frame b (uC (r.own k _ hk) F) (r.fresh k _ b hk F).2.1
  .rw[Z]at E;simp[B9]at E
 grind
theorem Xc(u:∀g S,assoc C.specs g=some S->Sound C.P g S)(e:aR B ι σ a w)(h:Vs C o σ K):Ws B C ι o σ K a w:=by
 cases R:Hq o.op with
 |true=>exact(bwQ e R h).stp e
 |false=>
  unfold Vs at h;cases j:o.op<;>simp only[j]at h R
  case alloc T=>
   intro next Q z
   refine YZ e j h next Q (λD L E F i p G=>?_)
   obtain⟨U,s,t,_⟩:=Ba _ _ i p
   grind
  case box T x=>
   split at h
   .intro next Q z
    obtain⟨τ,m,H,I⟩:=rD _ _ e h;refine UO m j H next Q (λD L E F i p G=>?_)
    obtain⟨U,s,t,_⟩:=Ba _ _ i p;exact z D U E F s t (G.of_fz I)
   .exact UO e j h
  case buildSlice T n ps=>
   intro next Q z
   refine NT e j h next Q (λD L E F i p G=>?_)
   obtain⟨U,s,t,_⟩:=Fb _ _ i p;obtain⟨σ3,V,W,_⟩:=rD _ _ s t
   grind
  case makeFunc f x X=>
   intro next Q z
   obtain⟨τ,m,H,a0⟩:=Ba _ _ e h;obtain⟨v,x,O,Y,H⟩:=nJ m (λX b=>bo) H;unfold Oper.wp;rw[O w (.inr rfl),Oper.upon_value];exact z ι _ _ _ (m.put o.dst Y) H (nE e)
  case store T x v=>
   cases M:o.dst with
   |none=>
    rw[M]at h;intro next Q z
    obtain⟨τ,m,H,I⟩:=rD _ _ e h;exact WG m j M H next Q (λD L E F i p G=>z D L E F i p (G.of_fz I))
   |some d=>grind
  case makeSlice T l c=>
   intro next Q z
   refine OZ e j h next Q (λD L E F i p G=>?_)
   obtain⟨U,s,t,_⟩:=Fb _ _ i p
   grind
  case slice T x lo hi mx=>exact WO e j h
  case makeMap T r=>exact Sz e j h
  case lookup T x k ok=>exact VD e j h
  case mapUpdate T x k v=>
   cases M:o.dst with
   |none=>
    rw[M]at h;have h:(match Sy C.heapT 400000 with|true=>LY C T x k v σ K|false=>EK C T x k v σ K):=h;split at h
    .exact VB e j M h
    .exact OY e j M h
   |some d=>grind
  case range T x=>exact WZ e j h
  case next x b=>exact ZI e j h
  case entry x=>exact YL e j h
  case call c=>
   obtain⟨A,args,N⟩:=c;cases A with
   |builtin b=>
    cases b<;>simp only[Hq,Bool.true_eq_false]at R<;>simp only at h
    case append=>
     split at h
     .rename_i x y T tx Y ht;intro next Q z
      refine V2 e j rfl Y ht h next Q (λD L E F i p G=>?_)
      obtain⟨σ3,V,W,_⟩:=rD _ _ i p
      grind
     grind
    case cap=>exact(nJ e (λX b=>bo) h).stp e
    all_goals exact h.elim
   |value g=>
    simp only at h;split at h
    .rename_i f fs X hg;split at h
     .split at h
      .rename_i J;exact bmX e j rfl hg J h
      grind
     .split at h
      .rename_i J Z;exact avZ u e j rfl hg J Z h
      grind
    grind
   |invoke r n=>exact h.elim
  all_goals (first|exact h.elim|(simp[Hq]at R))
theorem P7(c:aR B ι σ a w){d xs}(h:σ.ev (.tmp d)= .at (.val (.tuple xs))):a.tmps[d]? =none\/∃xs,a.tmps[d]? =some (.tuple xs):=by
 have b:=c.ev (.tmp d);rw[h]at b;have b:a.eval (.tmp d)= .tuple xs:=b;simp only[Act.eval,Array.getD_eq_getD_getElem?]at b
 grind
theorem JT(c:aR B ι σ a w){d t}(h:σ.ev (.tmp d)= .at (.val (.bool t))):a.tmps[d]? =some (.bool t):=by
 have b:=c.ev (.tmp d);rw[h]at b;have b:a.eval (.tmp d)= .bool t:=b;simp only[Act.eval,Array.getD_eq_getD_getElem?]at b;cases e:a.tmps[d]? with
 |none=>rw[e]at b;simp[undef]at b
 |some v=>grind
theorem aR.setTmp(b:aR B ι σ a w){c t}(h:σ.ev c= .at (.val (.bool t))):aR B ι (setTmp σ c t) a w:=by
 cases c with
 |tmp d=>
  refine⟨?_,b.defers,b.own,b.dist,b.fresh,b.wrel,b.one⟩;have i:=JT b h;have:=b.slots.set d (x:=.at (.val (.bool t))) (v:=.bool t) rfl;show DenS ι (σ.sl.set d _) a.tmps.toList
  have e:a.tmps.toList.set d (.bool t)=a.tmps.toList:=by
   apply ext_getElem?
   grind
  grind
 |const v=>exact b
 |global g=>exact b
 |func f=>exact b
theorem Tg{c t}(h:σ.ev c= .at (.val (.bool t))):Fz σ (setTmp σ c t):=by
 cases c with
 |tmp d=>
  refine⟨λ_ _ _ i h=>⟨i,h⟩,λ_ _ _ h=>h,?_,?_,rfl⟩
  .intro x k j b;cases x with
   |tmp e=>
    simp only[Vc.setTmp,St.ev,Bp]at b;simp only[St.ev]
    grind
   |const v=>exact b
   |global g=>exact b
   |func f=>exact b
  .intro x k b;cases x with
   |tmp e=>
    simp only[Vc.setTmp,St.ev,Bp]at b;simp only[St.ev]
    grind
   |const v=>exact b
   |global g=>exact b
   |func f=>exact b
 |const v=>exact Fz.refl σ
 |global g=>exact Fz.refl σ
 |func f=>exact Fz.refl σ
def GWp(C:Ctx)(ops:Array Oper)(o:Oper)(a:Act)(w:World)(next:Act->World->Prop)(Q:Exit->Act->World->Prop):=
 if Region.wanted o (yielded ops a.tmps)then o.wp C.P a w next Q else next (a.put o.dst undef) w
theorem SJ{ops j d b t g}(e:o.guard=some (j,b))(c:nth ops.toList j=some g)(f:g.dst=some d)(h:a.tmps[d]? =some (.bool t)):
 Region.wanted o (yielded ops a.tmps)=(t==b):=by
 unfold Region.wanted;rw[e];rw[lS,ct]at c;simp[yielded,c,f,h]
theorem Ku{ops j d b g}(f:o.guard=some (j,b))(e:nth ops.toList j=some g)(h:g.dst=some d)(c:a.tmps[d]? =none\/∃xs,a.tmps[d]? =some (.tuple xs)):
 Region.wanted o (yielded ops a.tmps)=false:=by
 unfold Region.wanted;rw[f];rw[lS,ct]at e;rcases c with c|⟨xs,c⟩<;>simp[yielded,e,h,c]
theorem H6{f ops}(c:aR B ι σ a w)(h:Q6 f ops o σ K):
 ∃e,aR B ι e a w/\Fz σ e/\((Region.wanted o (yielded ops a.tmps)=true/\f o e K)\/(Region.wanted o (yielded ops a.tmps)=false/\K (e.put o.dst (.at (.val undef))))):=by
 unfold Q6 at h;split at h
 .rename_i i;exact⟨σ,c,Fz.refl σ,.inl ⟨by simp[Region.wanted,i],h⟩⟩
 .rename_i j m i;split at h
  .exact h.elim
  .rename_i g n;split at h
   .exact h.elim
   .rename_i d p;split at h
    .rename_i t b;have l:=JT c b;have r:=SJ (o:=o) (a:=a) i n p l;rcases zS h with⟨rfl,h⟩|⟨rfl,h⟩
     .refine⟨setTmp σ (.tmp d) true,c.setTmp b,Tg b,?_⟩
      grind
     .refine⟨setTmp σ (.tmp d) false,c.setTmp b,Tg b,?_⟩
      grind
    .rename_i s b;exact⟨σ,c,Fz.refl σ,.inr ⟨Ku i n p (P7 c b),h⟩⟩
    grind
theorem Xp(c:∀g S,assoc C.specs g=some S->Sound C.P g S){ops}(m:aR B ι σ a w)(h:VK C ops o σ K) next Q(b:∀i e f w',aR B i e f w'->K e->Kt σ ι o w w'->next f w'):GWp C ops o a w next Q:=by
 obtain⟨t,d,j,n⟩:=H6 m h;unfold GWp;rcases n with⟨l,h⟩|⟨l,h⟩
 .rw[if_pos l];exact Xc c d h next Q (λi e f w' p r s=>b i e f w' p r (s.of_fz j))
 .rw[if_neg (by simp[l])];exact b ι _ _ _ (d.put o.dst (x:=.at (.val undef)) rfl) h (nE m)
theorem P0{P next Q}(h:o.wp P a w next Q):o.wpIn Fence.wide 0 P a w next Q:=by
 refine⟨λ_ _=>trivial,?_⟩;show o.uponIn Fence.wide 0 P a next Q ((execOp a.eval o).run P w)
 unfold Oper.wp at h;cases b:(execOp a.eval o).run P w with
 |ok x g=>
  rw[b]at h;cases x with
  |value v=>exact h
  |skip=>exact h
  |defer d=>exact h
  |enter f args=>exact⟨λe=>by simp[Fence.wide]at e,callsIn_wide.2 h⟩
  |row r args=>
   refine⟨λe=>by simp[Fence.wide]at e,λc i _=>?_⟩;obtain⟨v,j,l,m⟩:=h c i;exact⟨v,j,l,stepsIn_wide.2 m⟩
  |_=>exact h.elim
 |halt x g=>
  rw[b]at h;cases x with
  |panic v=>exact h
  |_=>exact h.elim
def b0J(B:xC)(C:Ctx)(o:Oper)(K:St->Prop)(a:Act)(w:World):=
 ∀(next:Act->World->Prop)(Q:Exit->Act->World->Prop),(∀e b c d,aR B e b c d->K b->next c d)->o.wpIn Fence.wide 0 C.P a w next Q
theorem Wv(s:aR B ι σ a w){c g l E cs}(O:o.op= .call c)(R:c.callee= .value g)(T:σ.ev g= .at (.val (.func (.yield l) E cs)))(U:E.toList=[])(V:cs.toList=[])(h:Va C o (.func (.yield l) #[] #[]) c.args.toList σ K):b0J B C o K a w:=by
 intro next Q p
 unfold Va at h;split at h
 .exact h.elim
 .rename_i S hS;split at h
  .rename_i W t;obtain⟨X,h⟩:=h;have Y:=DR s 0 _ _ _ t;subst Y;have F:=s.wrel;obtain⟨Z,v,f,y,M,i⟩:=X.go l _ σ.m σ.h w _ h ⟨F.hsat,F.msat,F.disj⟩;have H:a.eval g= .func (.yield l) E cs:=by have:=s.ev g;rw[T]at this;exact this
   have z:E= #[]:=bo
   have A:cs= #[]:=bo
   subst z A;have G:c.args.map a.eval=(c.args.toList.map a.eval).toArray:=bo
   have r:(execOp a.eval o).run C.P w= .ok (.round l Z v f y) w:=by
    unfold execOp;simp only[O,resolve,R,H,Deferred.ofValue,Sem.run_bind,Sem.run_pure,Result.andThen_ok,invoke]
    grind
   refine⟨λ_ _=>trivial,?_⟩;show o.uponIn Fence.wide 0 C.P a next Q ((execOp a.eval o).run C.P w)
   rw[r,Oper.uponIn_round];refine⟨λe=>by simp[Fence.wide]at e,i.mono ?_⟩;rintro e N ⟨u,m',h',rfl,hK,d⟩;show next (a.put o.dst u) N
   have I:D4 ⟨w,λb=>σ.m b≠none,σ.h,[]⟩ m' h' N:=
    ⟨d.tape,d.os,d.output,d.drawn,d.size,λb n D=>d.frame b n (Classical.byContradiction D),d.heapy.hsat,d.heapy.msat,d.heapy.disj,d.hle.le,λb n D=>d.hold b n (Classical.byContradiction D),λb J n=>d.mfr b J n⟩
   have L:=s.called I (λb n=>by
    cases hm:σ.m b with
    |none=>grind
    |some J=>exact F.mfr b J hm) (λj o' b hj n D=>D (s.fresh j o' b hj n).2.1)
   exact p ι _ _ _ (L.put o.dst (x:=.at (.val u)) rfl) hK
  grind
theorem a0Z(b:∀g S,assoc C.specs g=some S->Sound C.P g S)(f:aR B ι σ a w)(h:aGZ C o σ K):b0J B C o K a w:=by
 have i:Vs C o σ K->b0J B C o K a w:=λh next Q j=>P0 (Xc b f h next Q (λm n p r s t _=>j m n p r s t))
 unfold aGZ at h;split at h
 .rename_i c u;split at h
  .rename_i g v;split at h
   .rename_i l y z x;split at h
    .rename_i d e;exact Wv f u v x d e h
    grind
   grind
  grind
 grind
theorem SB(c:∀g S,assoc C.specs g=some S->Sound C.P g S){ops}(l:aR B ι σ a w)(h:Q6 (aGZ C) ops o σ K) next Q(b:∀m i j w',aR B m i j w'->K i->next j w'):
 if Region.wanted o (yielded ops a.tmps)then o.wpIn Fence.wide 0 C.P a w next Q else(∀f,o.about C.P w a.eval=some f->Fence.wide.fn f)/\next (a.put o.dst undef) w:=by
 obtain⟨r,d,n,p⟩:=H6 l h;rcases p with⟨e,h⟩|⟨e,h⟩
 .rw[if_pos e];exact a0Z c d h next Q b
 .rw[if_neg (by simp[e])];exact⟨λ_ _=>trivial,b ι _ _ _ (d.put o.dst (x:=.at (.val undef)) rfl) h⟩
theorem JW(b:∀g S,assoc C.specs g=some S->Sound C.P g S){ops:Array Oper}{Q:Exit->Act->World->Prop}{R:St->Prop}{rest:dq}(d:∀ι σ a w,aR B ι σ a w->R σ->wpOpsIn Fence.wide 0 C.P ops Q rest a w):
 ∀(l:List Oper)(s:Nat)(ι:dm)(σ:St)(a:Act)(w:World),(∀j,j<l.length->l[j]? =ops.toList[s+j]?)->aR B ι σ a w->aEX C ops l σ R->wpOpsIn Fence.wide 0 C.P ops Q (range' s l.length++rest) a w
 |[],s,ι,σ,a,w,_,c,h=>d ι σ a w c h
 |o::l,s,ι,σ,a,w,e,c,h=>by
  have f:ops[s]? =some o:=by have:=e 0 bi;grind
  simp only[cu,range'_succ,cons_append,wpOpsIn,f]
  exact SB b c h (wpOpsIn Fence.wide 0 C.P ops Q (range' (s+1) l.length++rest)) Q (λi m n p r t=>
   JW b d l (s+1) i m n p (λj u=>by have:=e (j+1) bn;grind) r t)
end
end Go.Vc
namespace Go.Vc
open Go List
def Yd(P:Program)(ops:Array Oper)(w:World)(o:Oper)(v:Value)(a:Act):=
 (Region.wanted o (yielded ops a.tmps)=true/\(execOp a.eval o).run P w= .ok (.value v) w)\/(Region.wanted o (yielded ops a.tmps)=false/\v=undef)
def Aft(ops:Array Oper)(ok:Oper)(i:Nat):=waits ok i=true\/∃j b,ops[j]? =some b/\waits ok j=true/\waits b i=true
def ayX ops b:=∀(k:Nat)(ok:Oper)(d:Nat),ops[k]? =some ok->ok.dst=some d->d∈b.looksAt ops->waits b k=true
structure b7Q(ops:Array Oper)(i:Nat)(oi:Oper):Prop where
 mv:chJ oi.op=true
 look:∀(k:Nat)(ok:Oper)(d:Nat),ops[k]? =some ok->ok.dst=some d->d∈oi.looksAt ops->Aft ops ok i
structure Ssa(ops:Array Oper):Prop where
 look:∀(i:Nat)(oi:Oper),ops[i]? =some oi->ayX ops oi\/b7Q ops i oi
 dst:∀(i k:Nat)(oi ok:Oper)(d:Nat),ops[i]? =some oi->ops[k]? =some ok->ok.dst=some d->i≠k->oi.dst≠some d
 topo:∀(i:Nat)(oi:Oper)(k:Nat),ops[i]? =some oi->waits oi k=true->k<i
 sel:∀(j:Nat)(o:Oper) cs b,ops[j]? =some o->o.op≠ .select cs b
theorem Aft.in_{ops ok i}{L:Array Bool}(h:Aft ops ok i)(c:∀j,waits ok j=true->L.getD j false=true)(d:∀(j:Nat)(b:Oper),ops[j]? =some b->L.getD j false=true->∀k,waits b k=true->L.getD k false=true):L.getD i false=true:=by
 rcases h with h|⟨j,b,e,f,g⟩
 .exact c i h
 grind
theorem Ssa.self{ops}(c:Ssa ops){k:Nat}{o}(b:ops[k]? =some o):∀d,o.dst=some d->d∉o.looksAt ops:=λd f g=>by
 rcases c.look k o b with h|h
 .have:=c.topo k o k b (h k o d b f g);omega
 .rcases h.look k o d b f g with e|⟨j,i,l,e,m⟩
  .have:=c.topo k o k b e;omega
  .have:=c.topo k o j b e;have:=c.topo j i k l m;omega
theorem bzZ{P o}(h:chJ o.op=true):Cz P o=false:=by
 unfold Cz;cases e:o.op<;>simp_all [chJ]
theorem ME{o k}:waits o k=true↔∃e∈o.after,Region.binds .any e=true/\e.on=k:=by
 unfold waits;rw[any_eq_true];constructor
 .rintro⟨e,b,h⟩;simp only[cm]at h;exact⟨e,bo,h.1,cn h.2⟩
 .rintro⟨e,b,c,d⟩;exact⟨e,bo,by simp[c,d]⟩
theorem bsX{ops}(h:cPX ops=true)(t:Region.noSelect ops=true):Ssa ops:=by
 unfold cPX at h;simp only[all_eq_true,mem_range]at h;have l:∀{i:Nat}{m:Oper},ops[i]? =some m->i<ops.toList.length:=λf=>bo
 refine⟨?_,?_,?_,Region.noSelect_spec t⟩
 .intro i m f;have c:=h i (l f);rw[lS,ct,f]at c;simp only[cm,Bool.or_eq_true,all_eq_true,mem_range]at c;rcases c.2 with p|⟨u,p⟩
  .refine .inl λk ok d g n v=>?_;have b:=p k (l g);rw[lS,ct,g]at b
   grind
  .refine .inr ⟨u,λk ok d g n v=>?_⟩;have b:=p k (l g);rw[lS,ct,g]at b;simp only[n,Bool.or_eq_true,Bool.not_eq_true',contains_eq_mem,decide_eq_false_iff_not]at b;rcases b with b|b
   .grind
   .unfold c2X at b;simp only[Bool.or_eq_true,any_eq_true,cm]at b;rcases b with b|⟨⟨x,j⟩,E,y,z⟩
    .exact .inl b
    .refine .inr ⟨j,x,?_,y,z⟩
     grind
 .intro i k m ok d f g n r;have c:=h i (l f);rw[lS,ct,f]at c;simp only[cm,all_eq_true,mem_range]at c;have b:=c.1.2 k (l g);rw[lS,ct,g]at b;simp only[n,Bool.or_eq_true]at b;rcases b with b|b
  .exact(r (cn b)).elim
  grind
 .intro i m k f A;have s:i<ops.toList.length:=bo
  have c:=h i s;rw[lS,ct,f]at c;simp only[cm,all_eq_true]at c;obtain⟨e,F,D,rfl⟩:=ME.1 A;have:=c.1.1 e bo;simp only[D,Bool.not_true,Bool.false_or]at this;rw[<-Nat.blt_eq];exact this
theorem zM{ops b j}:j∈Region.ready .any ops b↔b.getD j true=false/\∃o,ops[j]? =some o/\∀k,waits o k=true->b.getD k false=true:=by
 rw[mem_ready];constructor
 .rintro⟨c,o,d,f⟩;refine⟨c,o,d,λk i=>?_⟩;obtain⟨e,g,h,rfl⟩:=ME.1 i
  grind
 .rintro⟨c,o,d,f⟩;exact⟨c,o,d,λe g h=>f e.on (ME.2 ⟨e,g,h,rfl⟩)⟩
theorem VL{l:Array Bool}{i}(h:l.getD i true=false):l.getD i false=false/\i<l.size:=by
 grind
theorem yA{l:Array Bool}{i}(h:i<l.size):(l.setIfInBounds i true).getD i false=true:=by
 simp[Array.getD,h]
theorem Km{ops o}{c e:Act}(l:∀cs b,o.op≠ .select cs b)(h:∀t∈o.looksAt ops,c.tmps[t]? =e.tmps[t]?):
 execOp c.eval o=execOp e.eval o/\Region.wanted o (yielded ops c.tmps)=Region.wanted o (yielded ops e.tmps):=by
 constructor
 .refine execOp_congr o l λx m=>?_;cases x with
  |tmp t=>
   have:t∈o.looksAt ops:=mem_append_left _ (mem_filterMap.2 ⟨.tmp t,bo,rfl⟩);simp only[Act.eval,Array.getD_eq_getD_getElem?,h t this]
  |const v=>rfl
  |global g=>rfl
  |func f=>rfl
 .unfold Region.wanted;split
  .rfl
  .rename_i j i n
   have:yielded ops c.tmps j=yielded ops e.tmps j:=by
    unfold yielded;cases p:(ops[j]?).bind (·.dst)with
    |none=>rfl
    |some d=>
     have r:d∈o.looksAt ops:=by
      unfold Oper.looksAt
      grind
     grind
   rw[this]
theorem Pd{a:Act}{d v t}(h:d≠some t):(a.put d v).tmps[t]? =a.tmps[t]? :=by
 cases d with
 |none=>rfl
 |some e=>
  have:e≠t:=λx=>h (by rw[x]);simp[Act.put,Array.getElem?_setIfInBounds_ne this]
theorem cfQ(a:Act) d u v:(a.put d u).put d v=a.put d v:=by
 cases d with
 |none=>rfl
 |some e=>simp[Act.put]
structure US(P:Program)(ops:Array Oper)(L Cl:Array Bool)(ar ac:Act)(w:World):Prop where
 szL:L.size=ops.size
 szC:Cl.size=ops.size
 sub:∀i,L.getD i false=true->Cl.getD i false=true
 rd:∀(i:Nat)(o:Oper),ops[i]? =some o->Cl.getD i false=true->L.getD i false=false->Hq o.op=true
 clC:∀(i:Nat)(o:Oper),ops[i]? =some o->Cl.getD i false=true->∀k,waits o k=true->Cl.getD k false=true
 clL:∀(i:Nat)(o:Oper),ops[i]? =some o->L.getD i false=true->∀k,waits o k=true->L.getD k false=true
 tsz:ar.tmps.size=ac.tmps.size
 df:ar.defers=ac.defers
 agree:∀t,(∀(i:Nat)(o:Oper),ops[i]? =some o->Cl.getD i false=true->L.getD i false=false->o.dst≠some t)->ar.tmps[t]? =ac.tmps[t]?
 pend:∀(i:Nat)(o:Oper),ops[i]? =some o->Cl.getD i false=true->L.getD i false=false->∃v,(ayX ops o->∀w'',(Cz P o=false\/w''=w)->Yd P ops w'' o v ac)/\(b7Q ops i o->∀w'',Yd P ops w'' o v ar)/\ac.put o.dst v=ac
section
variable{P:Program}{ops:Array Oper}{L Cl:Array Bool}{ar ac:Act}{w:World}
theorem Yd.congr{o v a b w}(h:Yd P ops w o v a)(c:execOp b.eval o=execOp a.eval o)(d:Region.wanted o (yielded ops b.tmps)=Region.wanted o (yielded ops a.tmps)):Yd P ops w o v b:=by
 unfold Yd at*
 grind
theorem US.looks(h:US P ops L Cl ar ac w){o}(b:ayX ops o)(c:∀k,waits o k=true->L.getD k false=true):∀t∈o.looksAt ops,ar.tmps[t]? =ac.tmps[t]? :=by
 intro t d;refine h.agree t (λk ok e _ g f=>?_);have:=c k (b k ok t e f d)
 grind
theorem US.looks'(h:US P ops L Cl ar ac w){i o}(b:b7Q ops i o)(g:Cl.getD i false=false):∀t∈o.looksAt ops,ar.tmps[t]? =ac.tmps[t]? :=by
 intro t e;refine h.agree t (λk ok d c _ f=>?_);have:=(b.look k ok t d f e).in_ (h.clC k ok d c) h.clC
 grind
theorem US.stepA(s:Ssa ops)(h:US P ops L Cl ar ac w){i o}(x:ops[i]? =some o)(J:Cl.getD i false=true)(y:∀k,waits o k=true->L.getD k false=true){v}(r:ac.put o.dst v=ac):
 US P ops (L.setIfInBounds i true) Cl (ar.put o.dst v) ac w:=by
 have n:i<L.size:=by rw[h.szL];grind
 have g:∀k,(L.setIfInBounds i true).getD k false=false->L.getD k false=false/\k≠i:=by
  intro k c;by_cases e:i=k
  .subst e;rw[yA n]at c;cases c
  .rw[getD_set_ne false e]at c;grind
 refine⟨bx h.szL,h.szC,?_,λk ok c f b=>h.rd k ok c f (g k b).1,h.clC,?_,?_,?_,?_,λk ok c f b=>?_⟩
 .intro k c;by_cases e:i=k
  .grind
  .rw[getD_set_ne false e]at c;exact h.sub k c
 .intro k ok c b j z;by_cases e:i=k
  .grind
  .rw[getD_set_ne false e]at b;exact getD_set_true (h.clL k ok c b j z)
 .rw[<-h.tsz];cases o.dst<;>simp[Act.put]
 .rw[<-h.df];cases o.dst<;>rfl
 .intro t A;by_cases e:o.dst=some t
  .rw[e]at r⊢
   rw[<-r];simp only[Act.put,Array.getElem?_setIfInBounds_self,h.tsz]
  .rw[Pd e];refine h.agree t (λk ok c f b=>?_);by_cases D:i=k
   .grind
   .exact A k ok c f (by rw[getD_set_ne false D];exact b)
 .obtain⟨u,E,F,G⟩:=h.pend k ok c f (g k b).1;refine⟨u,E,λl p=>?_,G⟩
  have m:∀d,o.dst=some d->d∉ok.looksAt ops:=λd H I=>by
   have:=(l.look i o d x H I).in_ y h.clL
   grind
  exact(F l p).congr (execOp_put ok (s.sel k ok · · c) ar o.dst v m) (wanted_put ok ar o.dst v m)
theorem US.take(y:Ssa ops)(h:US P ops L Cl ar ac w){k o}(r:ops[k]? =some o)(E:Cl.getD k false=false)(W:∀j,waits o j=true->Cl.getD j false=true)(R:Hq o.op=true){v}(O:∀c,(Cz P o=false\/c=w)->Yd P ops c o v ac):US P ops L (Cl.setIfInBounds k true) ar (ac.put o.dst v) w:=by
 have F:k<Cl.size:=by rw[h.szC];grind
 have f:∀j,(Cl.setIfInBounds k true).getD j false=true->j=k\/Cl.getD j false=true:=by
  intro j x;by_cases e:k=j
  .omega
  .rw[getD_set_ne false e]at x;exact .inr x
 have G:L.getD k false=false:=by
  cases S:L.getD k false with
  |false=>rfl
  |true=>rw[h.sub k S]at E;cases E
 have s:∀j,Cl.getD j false=true->(Cl.setIfInBounds k true).getD j false=true:=by
  intro j x;exact getD_set_true x
 have z:=y.self r;refine⟨h.szL,bx h.szC,λi g=>s i (h.sub i g),?_,?_,h.clL,?_,?_,?_,?_⟩
 .intro i l g b m;rcases f i b with rfl|b
  .grind
  .exact h.rd i l g b m
 .intro i l g b j x;rcases f i b with rfl|b
  .grind
  .exact s j (h.clC i l g b j x)
 .rw[h.tsz];cases o.dst<;>simp[Act.put]
 .rw[h.df];cases o.dst<;>rfl
 .intro t Q;have e:o.dst≠some t:=Q k o r (yA F) G;rw[Pd e];exact h.agree t (λi l g b m=>Q i l g (s i b) m)
 .intro i l g b m;by_cases e:i=k
  .subst e;rw[r]at g;cases g;refine⟨v,λ_ c H=>(O c H).congr (execOp_put o (y.sel i o · · r) ac o.dst v z) (wanted_put o ac o.dst v z),λA c=>?_,cfQ _ _ _ _⟩;obtain⟨T,I⟩:=Km (y.sel i o · · r) (h.looks' A E);exact(O c (.inl (bzZ A.mv))).congr T I
  .have n:=(f i b).resolve_left e;obtain⟨u,U,J,M⟩:=h.pend i l g n m;refine⟨u,λD c H=>?_,J,?_⟩
   .have p:∀d,o.dst=some d->d∉l.looksAt ops:=λd N V=>by
     have:=h.clC i l g n k (D k o d r N V)
     grind
    exact(U D c H).congr (execOp_put l (y.sel i l · · g) ac o.dst v p) (wanted_put l ac o.dst v p)
   rw[Act.put_comm ac v u (λd N=>y.dst i k l o d g r N e),M]
theorem Ww{o i m w b g Q}(p:execOp m.eval o=execOp i.eval o)(h:o.wp P i w b Q)(s:∀v w',b (i.put o.dst v) w'->g (m.put o.dst v) w')(t:∀d w',¬b (({i with defers:=d::i.defers}:Act).put o.dst undef) w')(y:∀c a w,¬Q (.panic c) a w):o.wp P m w g Q:=by
 unfold Oper.wp at*
 rw[p];generalize (execOp i.eval o).run P w=r at*
 cases r with
 |ok n w'=>
  cases n<;>simp only[Oper.upon]at h⊢
  case value u=>grind
  case skip=>grind
  case defer d=>grind
  case enter f args=>
   refine Calls.mono h λe j l=>?_
   grind
  case row row args=>exact Rows.mono h λu j l=>s u j l
 |halt x w'=>
  cases x<;>simp only[Oper.upon]at h⊢
  grind
theorem US.stepB(I:Ssa ops)(h:US P ops L Cl ar ac w){j o}(G:ops[j]? =some o)(U:Cl.getD j false=false)(R:∀k,waits o k=true->L.getD k false=true) u w'(J:∀(i:Nat)(c:Oper)(v:Value),ops[i]? =some c->Cl.getD i false=true->L.getD i false=false->Yd P ops w c v ac->Yd P ops w' c v ac\/Cz P c=false):
 US P ops (L.setIfInBounds j true) (Cl.setIfInBounds j true) (ar.put o.dst u) (ac.put o.dst u) w':=by
 have A:j<Cl.size:=by rw[h.szC];grind
 have D:j<L.size:=by rw[h.szL];grind
 have l:∀i,(Cl.setIfInBounds j true).getD i false=true->i=j\/Cl.getD i false=true:=by
  intro i b;by_cases e:j=i
  .omega
  .rw[getD_set_ne false e]at b;exact .inr b
 have m:∀i,(L.setIfInBounds j true).getD i false=false->i≠j/\L.getD i false=false:=by
  intro i b;by_cases e:j=i
  .subst e;rw[yA D]at b;cases b
  .rw[getD_set_ne false e]at b;grind
 have s:∀i,Cl.getD i false=true->(Cl.setIfInBounds j true).getD i false=true:=λi b=>getD_set_true b;refine⟨bx h.szL,bx h.szC,?_,?_,?_,?_,?_,?_,?_,?_⟩
 .intro i b;by_cases e:j=i
  .subst e;exact yA A
  .rw[getD_set_ne false e]at b;exact s i (h.sub i b)
 .intro i c b f g;obtain⟨n,p⟩:=m i g;exact h.rd i c b ((l i f).resolve_left n) p
 .intro i c b f k H;rcases l i f with rfl|f
  .rw[G]at b;cases b;exact s k (h.sub k (R k H))
  .exact s k (h.clC i c b f k H)
 .intro i c b g k H;by_cases e:j=i
  .grind
  .rw[getD_set_ne false e]at g;exact getD_set_true (h.clL i c b g k H)
 .cases o.dst<;>simp[Act.put,h.tsz]
 .have:=h.df;cases o.dst<;>exact this
 .intro t S;by_cases e:o.dst=some t
  .rw[e];simp only[Act.put,Array.getElem?_setIfInBounds_self,h.tsz]
  .rw[Pd e,Pd e];refine h.agree t (λi c b f g=>S i c b (s i f) ?_);have n:j≠i:=λx=>bo
   rw[getD_set_ne false n];exact g
 .intro i c b f g;obtain⟨n,p⟩:=m i g;have y:=(l i f).resolve_left n;obtain⟨v,V,M,N⟩:=h.pend i c b y p;refine⟨v,λO z W=>?_,λE z=>?_,?_⟩
  .have r:∀d,o.dst=some d->d∉c.looksAt ops:=λd F Q=>by
    have:=h.clC i c b y j (O j o d G F Q)
    grind
   have T:Yd P ops z c v ac:=by
    grind
   exact T.congr (execOp_put c (I.sel i c · · b) ac o.dst u r) (wanted_put c ac o.dst u r)
  .have r:∀d,o.dst=some d->d∉c.looksAt ops:=λd F Q=>by
    have:=(E.look j o d G F Q).in_ R h.clL
    grind
   exact(M E z).congr (execOp_put c (I.sel i c · · b) ar o.dst u r) (wanted_put c ar o.dst u r)
  .rw[Act.put_comm ac u v (λd F=>I.dst i j c o d b G F n),N]
end
section
variable{B:xC}{C:Ctx}{ι:dm}{σ:St}{a:Act}{w:World}
theorem WJ{P b σ c d K}(h:Of P b σ c d K):Of P b σ c d True/\K:=by
 unfold Of at h⊢
 repeat' split at h
 all_goals first|exact h.elim|skip
 all_goals simp_all
theorem Qa{P:Program}{e:Bool}{ops:Array Oper}{b:Array Bool}{σ:St}{c:Oper}:∀(l:List Oper)(s:Nat){K:Prop},MI P e ops b σ c s l K->
 K/\∀(i:Nat)(d:Oper),l[i]? =some d->b.getD (s+i) false=true->Hq d.op=true->waits c (s+i)=false->BW ops σ d=false->Of P e σ c d True
 |[],s,K,h=>⟨h,λi d f=>by simp at f⟩
 |o::l,s,K,h=>by
  have key:(MI P e ops b σ c (s+1) l K)/\(b.getD s false=true->Hq o.op=true->waits c s=false->BW ops σ o=false->Of P e σ c o True):=by
   simp only[MI]at h;split at h
   .obtain⟨g,j⟩:=WJ h
    grind
   grind
  obtain⟨m,n⟩:=Qa l (s+1) key.1
  grind
theorem WI{σ b c τ K}(h:KE σ b c τ K):KE σ b c τ True/\K:=by
 unfold KE at h⊢
 repeat' split at h
 all_goals simp_all
theorem Oe{ops:Array Oper}{b:Array Bool}{σ:St}{c:Oper}{τ:St}:∀(l:List Oper)(s:Nat){K:Prop},Iu ops b σ c τ s l K->
 K/\∀(i:Nat)(d:Oper),l[i]? =some d->b.getD (s+i) false=true->Hq d.op=true->waits c (s+i)=false->BW ops σ d=false->KE σ c d τ True
 |[],s,K,h=>⟨h,λi d e=>by simp at e⟩
 |o::l,s,K,h=>by
  have key:(Iu ops b σ c τ (s+1) l K)/\(b.getD s false=true->Hq o.op=true->waits c s=false->BW ops σ o=false->KE σ c o τ True):=by
   simp only[Iu]at h;split at h
   .obtain⟨f,g⟩:=WI h
    grind
   grind
  obtain⟨j,m⟩:=Oe l (s+1) key.1
  grind
theorem VH{ops c}(e:aR B ι σ a w)(h:BW ops σ c=true):Region.wanted c (yielded ops a.tmps)=false:=by
 unfold BW at h;split at h
 .cases h
 .rename_i j f i;split at h
  .cases h
  .rename_i g l;split at h
   .cases h
   .rename_i d m;split at h
    .rename_i t b;rw[SJ i l m (JT e b)]
     grind
    .rename_i n b;exact Ku i l m (P7 e b)
    .cases h
theorem DU(m:aR B ι σ a w){k:Nat}{p:Own}(c:nth σ.own k=some (some p)){b:Nat}(n:blk (ι k)=some b):∀{l:dx},JI σ k l=true->∀x∈l,∀j,(σ.ev x= .at (.lst j)\/∃off,σ.ev x= .at (.ptr j off))->blk (ι j)≠some b
 |[],_,x,d=>by cases d
 |y::r,h,x,d=>by
  simp only[JI,cm]at h;rcases mem_cons.1 d with rfl|d
  .intro j e g;have f:=h.1;rcases e with e|⟨off,e⟩
   all_goals
    simp only[e]at f;split at f
    .rename_i s i;have:=m.dist j k _ _ b i c g n;subst this;simp at f
    .cases f
  .exact DU m c n h.2 x d
theorem cfX{ops fl oj U v w'}(D:aR B ι σ a w)(hk:Kt σ ι oj w w')(f:Of C.P fl σ oj U True)(a':fl=true->∃τ:St,D4 B τ.m τ.h w'/\KE σ oj U τ True)(hy:Yd C.P ops w U v a):Yd C.P ops w' U v a\/Cz C.P U=false:=by
 unfold Of at f;split at f
 .grind
 .left;rcases hy with⟨hw,b4⟩|hy
  .left;refine⟨hw,?_⟩;split at f
   .rename_i T x G;split at f
    .grind
    .rename_i hT;have z:=D.ev x
     have V:∀(b y:Nat)(H:dc),a.eval x= .pointer (some ⟨b,y,none⟩)->H.length=C.P.cellsOf T->(∀j u,H[j]? =some u->w.cell? ⟨b,y+j,none⟩=some u)->(∀j u,H[j]? =some u->w'.cell? ⟨b,y+j,none⟩=some u)->
      (execOp a.eval U).run C.P w'= .ok (.value v) w':=by
      intro b y H I W hc a6;have Y:=B0 hT W hc;have h2:=B0 hT W a6
      have e1:(execOp a.eval U).run C.P w= .ok (.value (mkV C.P T H)) w:=by
       unfold execOp;simp only[G,I,Instr.loadAt,Instr.sureAddr,Sem.run_bind,Sem.run_pure,Result.andThen_ok,Y]
      have e2:(execOp a.eval U).run C.P w'= .ok (.value (mkV C.P T H)) w':=by
       unfold execOp;simp only[G,I,Instr.loadAt,Instr.sureAddr,Sem.run_bind,Sem.run_pure,Result.andThen_ok,h2]
      grind
     split at f
     .rename_i k y I;rw[I]at z;split at f
      .rename_i p T' H r;split at f
       .rename_i ht a1;have a1:=Nat.le_of_ble_eq_true a1;obtain⟨b,vs,hι,hh,a7⟩:=A5 D r;obtain⟨b',a0,a8⟩:=z;rw[hι]at a0;simp only[Value.pointer.injEq,ck,Addr.mk.injEq]at a0;obtain⟨rfl, -, -⟩:=a0;have a2:=hk.cells k p T' H b r ht hι;rw[hh]at a2;have b5:H.length=vs.toList.length:=a7.length;refine V b y ((vs.toList.drop y).take (C.P.cellsOf T)) a8 bo (λj u J=>?_) (λj u J=>?_)
        .rw[cell_of_heap hh];grind
        .rw[cell_of_heap a2];grind
       grind
      grind
     .rename_i b y d I hd;rw[I]at z;have z:a.eval x= .pointer (some ⟨b,y,none⟩):=z;split at f
      .rename_i H a3;split at f
       .rename_i l W;split at f
        .rename_i F;split at f
         .rename_i X;have hc:=FY D.wrel f.1;refine V b y l z (cn F) hc (λj u J=>?_);have Y:=hc j u J;cases M:B9 oj.op with
          |false=>
           rw[M,Bool.false_or]at X;obtain⟨τ,a9,h2⟩:=a' X;unfold KE at h2;simp only[G,I,hd,a3,W,M]at h2;exact FY a9 h2.1 j u J
          |true=>
          have X:=M;rw[<-Y];exact World.cell?_of_block (w:=w) (w':=w') (a:=⟨b,y+j,none⟩) (hk.ext X b (World.block_lt_of_cell? w ⟨b,y+j,none⟩ Y))
         .refine V b y l z (cn F) (λj u J=>D.wrel.hsat _ _ _ (f.1.rd j u J)) (λj u J=>hk.imm _ _ _ (f.1.rd j u J))
        grind
       grind
      grind
     .rename_i k i sz y d I hd;rw[I]at z;split at f
      .rename_i E' s S H r a3;split at f
       .rename_i l W hs t;have hs:=cn hs;subst hs;split at f
        .rename_i F;obtain⟨e,he,b0⟩:=f.1;obtain⟨N,Z⟩:=uX D r;obtain⟨b,n,c,hι,hp⟩:=z
         have A:∀b,blk (ι k)=some b->w'.heap[b]? =w.heap[b]? :=by
          intro b O;have Q:=uC (D.own k _ r) O;unfold V3 at t;rw[Bool.or_eq_true]at t;rcases t with t|t
          .exact hk.ext t b Q
          .split at t
           .rename_i l W;refine hk.args l b W Q (D.fresh k _ b r O).2.1 ?_;exact DU D r O t
           .cases t
         have R:w'.ownsRow 0 E' s (ι k) S.length S.flatten:=((D.own k _ r).world (λb O=>A b O)).2
         have rd:∀w1:World,w1.ownsRow 0 E' s (ι k) S.length S.flatten->∀j u,l[j]? =some u->w1.cell? ⟨b,i*s+y+j,none⟩=some u:=by
          intro w1 Y j u J;rw[<-b0]at J;have b1:=SO J;have hf:=oO N.len he _ _ b1;have:=Y.cells (g:=b) (by rw[hι];rfl) _ _ hf;rw[Addr.add_none]at this
          grind
         exact V b (i*s+y) l hp (cn F) (rd w Z) (rd w' R)
        grind
       grind
      grind
     grind
   .rename_i src b6 x G;have z:=D.ev x;split at f
    .rename_i k d I hd;rw[I]at z;have z:a.eval x=ι k:=z;split at f
     .rename_i E' sz S s r hs;split at f
      .rename_i E a4 a5;split at f
       .rename_i hE;split at f
        .rename_i t;have b2:=f.1;obtain⟨N,Z⟩:=uX D r;have b3:S=bJ s.data.toList:=b2
         have A:∀b,blk (ι k)=some b->w'.heap[b]? =w.heap[b]? :=by
          intro b O;have Q:=uC (D.own k _ r) O;unfold V3 at t;rw[Bool.or_eq_true]at t;rcases t with t|t
          .exact hk.ext t b Q
          .split at t
           .rename_i l W;refine hk.args l b W Q (D.fresh k _ b r O).2.1 ?_;exact DU D r O t
           .cases t
         have R:w'.ownsRow 0 E' sz (ι k) S.length S.flatten:=((D.own k _ r).world (λb O=>A b O)).2
         have go:∀w1:World,w1.ownsRow 0 E' sz (ι k) S.length S.flatten->(execOp a.eval U).run C.P w1= .ok (.value (.string ⟨s.data.toList.toArray⟩)) w1:=by
          intro w1 Y;subst b3;exact Hh G a4 hE a5 z Y
         grind
        grind
       grind
      grind
     grind
    grind
   grind
  .exact .inr hy
theorem UQ{g:Nat->Prop}:∀{l:dq},bZX g l->∀j∈l,g j
 |[],_,j,b=>by cases b
 |[i],h,j,b=>by simp at b;subst b;exact h
 |i::k::r,h,j,b=>by
  rcases mem_cons.1 b with rfl|b
  .exact h.1
  .exact UQ h.2 j b
theorem G3{ops:Array Oper}:∀{l:dq}{i:Nat}{o:Oper},Jn ops l=some (i,o)->i∈l/\ops[i]? =some o/\Hq o.op=true
 |[],i,o,h=>by simp[Jn]at h
 |k::r,i,o,h=>by
  simp only[Jn]at h;split at h
  .rename_i ok b;split at h
   .rename_i e;simp only[ck,Prod.mk.injEq]at h;obtain⟨rfl,rfl⟩:=h;rw[lS,ct]at b
    grind
   .obtain⟨c,d⟩:=G3 h
    grind
  .obtain⟨c,d⟩:=G3 h
   grind
def xW(ops:Array Oper)(L:Array Bool):=((List.range ops.size).filter λi=> !L.getD i false).length
theorem Ky{ops L i}(d:L.size=ops.size)(h:i<ops.size)(m:L.getD i false=false):xW ops (L.setIfInBounds i true)+1=xW ops L:=by
 unfold xW
 have key:∀(l:dq),l.Nodup->(l.filter λj=> !(L.setIfInBounds i true).getD j false).length+(if i∈l then 1 else 0)=(l.filter λj=> !L.getD j false).length:=by
  intro l
  induction l with
  |nil=>intro _;simp
  |cons j r f=>
   intro c;have b:=nodup_cons.1 c;have:=f b.2;by_cases e:i=j
   .subst e;have g:(L.setIfInBounds i true).getD i false=true:=yA aD
    grind
   .have g:(L.setIfInBounds i true).getD j false=L.getD j false:=getD_set_ne false e
    grind
 grind
theorem NW{ops L}(c:Ssa ops)(f:L.size=ops.size)(h:Region.ready .any ops L=[]):∀i,i<ops.size->L.getD i false=true:=by
 intro i
 induction i using Nat.strongRecOn with
 |_ i g=>
  intro d;cases j:L.getD i false with
  |true=>rfl
  |false=>
   exfalso;have b:ops[i]? =some ops[i]:=Array.getElem?_eq_getElem d
   have:i∈Region.ready .any ops L:=by
    rw[zM];refine⟨?_,_,b,λk e=>g k (c.topo i _ k b e) (Nat.lt_trans (c.topo i _ k b e) d)⟩
    grind
   grind
theorem Fq{ops L}(h:∀i,i<ops.size->L.getD i false=true):Region.ready .any ops L=[]:=by
 cases b:Region.ready .any ops L with
 |nil=>rfl
 |cons i r=>
  exfalso;have:i∈Region.ready .any ops L:=bo
  obtain⟨c,o,d,_⟩:=zM.1 this
  grind
theorem US.eq_of_all{P ops L Cl ar ac}(h:US P ops L Cl ar ac w)(b:∀i,i<ops.size->L.getD i false=true):ar=ac:=by
 have c:ar.tmps=ac.tmps:=by
  apply Array.ext_getElem?;intro t;refine h.agree t (λi o d _ e=>?_)
  grind
 have f:=h.df;cases ar;cases ac
 grind
theorem bpQ{ops R n Cl}(h:EP C ops n Cl σ R)(b:Region.ready .any ops Cl=[]):R σ:=by
 cases n<;>simp only[EP,b]at h<;>exact h
theorem Y2{ops b σ d τ K}(h:Mx C ops b σ d τ K):
 (axZ C=true->∀(i:Nat)(c:Oper),ops.toList[i]? =some c->b.getD (0+i) false=true->Hq c.op=true->waits d (0+i)=false->BW ops σ c=false->KE σ d c τ True)/\K:=by
 unfold Mx at h;split at h
 .rename_i e;obtain⟨f,g⟩:=Oe _ 0 h
  grind
 grind
theorem UP(F:∀g S,assoc C.specs g=some S->Sound C.P g S){ops}(G:Ssa ops){Q R}(hQ:∀ι σ a w,aR B ι σ a w->R σ->Q .normal a w)(b':∀c a w,¬Q (.panic c) a w):
 ∀(n:Nat)(b:Nat)(Cl:Array Bool)(ι:dm)(σ:St)(ac:Act)(w:World),aR B ι σ ac w->EP C ops n Cl σ R->∀(L:Array Bool)(ar:Act),US C.P ops L Cl ar ac w->xW ops L=b->
  wpAny C.P .any ops Q b L ar w:=by
 have fin:∀(n:Nat)(Cl:Array Bool)(ι:dm)(σ:St)(ac:Act)(w:World),aR B ι σ ac w->EP C ops n Cl σ R->∀(L:Array Bool)(ar:Act),US C.P ops L Cl ar ac w->Region.ready .any ops L=[]->Q .normal ar w:=by
  intro n Cl ι σ ac w m h L ar f hr;have p:=NW G f.szL hr;rw[f.eq_of_all p];exact hQ ι σ ac w m (bpQ h (Fq (λi t=>f.sub i (p i t))))
 have zero:∀(n:Nat)(Cl:Array Bool)(ι:dm)(σ:St)(ac:Act)(w:World),aR B ι σ ac w->EP C ops n Cl σ R->∀(L:Array Bool)(ar:Act),US C.P ops L Cl ar ac w->xW ops L=0->wpAny C.P .any ops Q 0 L ar w:=by
  intro n Cl ι σ ac w m h L ar f T
  have p:∀i,i<ops.size->L.getD i false=true:=by
   intro i t;unfold xW at T;have b9:=eq_nil_of_length_eq_zero T;cases hL:L.getD i false with
   |true=>rfl
   |false=>
    have:i∈(List.range ops.size).filter λi=> !L.getD i false:=mem_filter.2 ⟨mem_range.2 t,by simp[hL]⟩
    grind
  have hr:=Fq p;exact⟨hr,fin n Cl ι σ ac w m h L ar f hr⟩
 have b0:∀(n b:Nat),(∀(Cl:Array Bool)(ι:dm)(σ:St)(ac:Act)(w:World),aR B ι σ ac w->EP C ops n Cl σ R->∀(L:Array Bool)(ar:Act),US C.P ops L Cl ar ac w->xW ops L=b->wpAny C.P .any ops Q b L ar w)->
  ∀(Cl:Array Bool)(ι:dm)(σ:St)(ac:Act)(w:World),aR B ι σ ac w->EP C ops n Cl σ R->∀(L:Array Bool)(ar:Act),US C.P ops L Cl ar ac w->xW ops L=b+1->
   ∀i∈Region.ready .any ops L,Cl.getD i false=true->wpOp C.P ops Q i (wpAny C.P .any ops Q b (L.setIfInBounds i true)) ar w:=by
  intro n b ih Cl ι σ ac w m h L ar f T i t hC;obtain⟨H,o,r,M⟩:=zM.1 t;obtain⟨hL,b1⟩:=VL H;obtain⟨v,hv,c0,b2⟩:=f.pend i o r hC hL
  have hy:Yd C.P ops w o v ar:=by
   rcases G.look i o r with I|c1
   .obtain⟨he,U⟩:=Km (G.sel i o · · r) (f.looks I M);exact(hv I w (.inr rfl)).congr he U
   grind
  have V:wpAny C.P .any ops Q b (L.setIfInBounds i true) (ar.put o.dst v) w:=
   ih Cl ι σ ac w m h _ _ (f.stepA G r hC M b2) (by have:=Ky f.szL bo hL;omega)
  unfold wpOp;simp only[r];rcases hy with⟨l,y⟩|⟨l,rfl⟩
  .rw[if_pos l];left;unfold Oper.wp;rw[y,Oper.upon_value];exact V
  grind
 intro n
 induction n with
 |zero=>
  intro b
  induction b with
  |zero=>exact zero 0
  |succ b b3=>
   intro Cl ι σ ac w m h L ar f T;refine⟨fin 0 Cl ι σ ac w m h L ar f,λi t=>?_⟩;cases hC:Cl.getD i false with
   |true=>grind
   |false=>
    exfalso;obtain⟨H,o,r,M⟩:=zM.1 t
    have a1:i∈Region.ready .any ops Cl:=by
     rw[zM];refine⟨?_,o,r,λk hk=>f.sub k (M k hk)⟩;have:i<Cl.size:=by rw[f.szC];grind
     grind
    simp only[EP]at h
    grind
 |succ n W=>
  intro b
  induction b with
  |zero=>grind
  |succ b b3=>
   intro Cl ι σ ac w m h L ar f T;refine⟨fin (n+1) Cl ι σ ac w m h L ar f,λi t=>?_⟩;cases hC:Cl.getD i false with
   |true=>grind
   |false=>
    obtain⟨H,o,r,M⟩:=zM.1 t;obtain⟨b4,b1⟩:=VL H
    have a1:i∈Region.ready .any ops Cl:=by
     rw[zM];refine⟨?_,o,r,λk hk=>f.sub k (M k hk)⟩;have:i<Cl.size:=by rw[f.szC];grind
     grind
    simp only[EP]at h;split at h
    .grind
    .split at h
     ·
      rename_i k ok b5;obtain⟨b6,X,z⟩:=G3 b5;obtain⟨a2,c2,N,a3⟩:=zM.1 b6;rw[X]at N;cases N;obtain⟨a4,c'⟩:=VL a2;obtain⟨σ1,Y,c3,hc⟩:=H6 m h;rcases hc with⟨l,h⟩|⟨l,h⟩
      .obtain⟨v,x,y,hx,hK⟩:=bwQ Y z h;have A:=f.take G X a4 a3 z (v:=v) (λa5 a6=>.inl ⟨l,y a5 a6⟩);exact(W (b+1) _ ι _ _ w (Y.put ok.dst hx) hK L ar A T).2 i t
      .have A:=f.take G X a4 a3 z (v:=undef) (λa5 _=>.inr ⟨l,rfl⟩);exact(W (b+1) _ ι _ _ w (Y.put ok.dst (x:=.at (.val undef)) rfl) h L ar A T).2 i t
     ·
      have hg:=UQ h i a1;split at hg
      .rename_i o' a7;rw[lS,ct,r]at a7;cases a7;obtain⟨hg,Z⟩:=Qa _ 0 hg;obtain⟨he,U⟩:=Km (G.sel i o · · r) ((G.look i o r).elim (f.looks · M) (f.looks' · hC));have a0:=Xp F m hg (λa' D=>∃O s,aR B O s a' D/\Mx C ops Cl σ o s (EP C ops n (Cl.setIfInBounds i true) s R)/\Kt σ ι o w D) Q (λO s a' D h1 h2 h3=>⟨O,s,h1,h2,h3⟩)
       have hB:∀(u:Value)(D:World),(∃O s,aR B O s (ac.put o.dst u) D/\Mx C ops Cl σ o s (EP C ops n (Cl.setIfInBounds i true) s R)/\Kt σ ι o w D)->
        wpAny C.P .any ops Q b (L.setIfInBounds i true) (ar.put o.dst u) D:=by
        rintro u D ⟨O,s,J,h',b7⟩;obtain⟨b8,h'⟩:=Y2 h';refine W b _ O s _ D J h' _ _ (f.stepB G r hC M u D ?_) (by have:=Ky f.szL bo b4;omega);intro j oj v hj a8 a9 hy;cases E:BW ops σ oj with
        |true=>
         have:=VH m E;rcases hy with⟨h1,_⟩|h1
         .grind
         .exact .inl (.inr h1)
        |false=>
         have c4:waits o j=false:=by
          grind
         have I:=Z j oj bo bo (f.rd j oj hj a8 a9) bo E;exact cfX m b7 I (λe=>⟨s,J.wrel,b8 e j oj bo bo (f.rd j oj hj a8 a9) bo E⟩) hy
       unfold GWp at a0;unfold wpOp;simp only[r];rw[U];split
       .rename_i l;rw[if_pos l]at a0;left;refine Ww he a0 hB ?_ b';rintro d D ⟨O,s,J,_⟩;have:=J.defers;rw[<-m.defers]at this;cases hd:o.dst<;>simp[Act.put,hd]at this
       grind
      grind
end
end Go.Vc
namespace Go.Vc
open Go List
section
variable{B:xC}{C:Ctx}{ι:dm}{σ:St}{a:Act}{w:World}
theorem BV:∀{xs e:ej}{vs:dc}{K:Prop},EJ xs e K->DenS ι xs vs->DenS ι e vs/\K
 |[],[],vs,K,h,b=>⟨b,h⟩
 |x::xs,y::e,[],K,_,b=>b.elim
 |x::xs,y::e,v::vs,K,h,b=>by
  unfold EJ at h;split at h
  .grind
  .rename_i i f g c d;simp only[List.cons.injEq]at c d;obtain⟨rfl,rfl⟩:=c;obtain⟨rfl,rfl⟩:=d;have:=BV h b.2;exact⟨⟨trivial,this.1⟩,this.2⟩
  .rename_i i f j g _ c d;simp only[List.cons.injEq]at c d;obtain⟨rfl,rfl⟩:=c;obtain⟨rfl,rfl⟩:=d;obtain⟨rfl,h⟩:=h;have:=BV h b.2;exact⟨⟨b.1,this.1⟩,this.2⟩
  grind
 |[],_::_,_,K,h,_=>by simp[EJ]at h
 |_::_,[],_,K,h,_=>by simp[EJ]at h
theorem AM:∀{xs c:ei}{K:Prop},AN xs c K->(∀k o,nth c k=some (some o)->nth xs k=some (some o))/\K
 |[],[],K,h=>⟨λk o b=>by omega,h⟩
 |x::xs,none::c,K,h=>by
  simp only[AN]at h;obtain⟨d,e⟩:=AM h;refine⟨λk o b=>?_,e⟩;cases k with
  |zero=>simp[nth]at b
  |succ k=>exact d k o b
 |x::xs,some y::c,K,h=>by
  simp only[AN]at h;obtain⟨rfl,h⟩:=h;obtain⟨d,e⟩:=AM h;refine⟨λk o b=>?_,e⟩;cases k with
  |zero=>exact b
  |succ k=>exact d k o b
 |[],_::_,K,h=>by simp[AN]at h
 |_::_,[],K,h=>by simp[AN]at h
theorem aR.setSlot(b:aR B ι σ a w){i x v}(d:a.tmps[i]? =some v)(c:Den ι x v):aR B ι (σ.put (some i) x) a w:=by
 refine⟨?_,b.defers,b.own,b.dist,b.fresh,b.wrel,b.one⟩;have:=b.slots.set i c;show DenS ι (σ.sl.set i x) a.tmps.toList
 have e:a.tmps.toList.set i v=a.tmps.toList:=by
  apply ext_getElem?
  grind
 grind
theorem aR.nilList(c:aR B ι σ a w) k E sz:aR B (upd ι k (.slice none 0 0)) ((σ.kill k).setOwn k (some (.lst E sz []))) a w:=by
 refine c.place k _ _ (FH.refl _ _) ⟨JY sz,World.ownsRow_nil w 0 E sz⟩ rfl (λb d=>by simp[blk]at d)
theorem w9(τ:St):∀(c:ej)(i:Nat)(ι:dm)(σ:St),aR B ι σ a w->∃g,aR B g (VY τ c i σ) a w
 |[],i,ι,σ,b=>⟨ι,b⟩
 |y::c,i,ι,σ,b=>by
  simp only[VY];split
  .rename_i k;split
   .rename_i f;split
    .rename_i E h j l m
     have d:a.tmps[i]? =some (.slice none 0 0):=by
      rw[lS]at f;obtain⟨v,d,e⟩:=b.slots.get i _ f;rw[ct]at d;have e:v= .slice none 0 0:=e;rw[d,e]
     exact w9 τ c (i+1) _ _ ((b.nilList k E h).setSlot d (x:=.at (.lst k)) (by show _=_;simp))
    .exact w9 τ c (i+1) ι σ b
   .exact w9 τ c (i+1) ι σ b
  .exact w9 τ c (i+1) ι σ b
theorem qJ(τ:St)(q:Nat):∀(f:dv)(j:Nat)(ι:dm)(σ:St),aR B ι σ a w->∃A,aR B A (JE τ q f j σ) a w
 |[],j,ι,σ,d=>⟨ι,d⟩
 |y::f,j,ι,σ,d=>by
  simp only[JE];split
  .rename_i k;split
   .rename_i p T D s;split
    .rename_i t;split
     .rename_i E l N O Q;have g:q≠k:=λe=>bo
      have m:=d.nilList k E l
      have c:nth ((σ.kill k).setOwn k (some (.lst E l []))).own q=some (some (.cellsP p T (D.map (At.sub k (λ_=>.junk))))):=by
       simp only[PM,St.setOwn,St.sub,Bp,CE,g,false_and,if_false,s];rfl
      obtain⟨b,i,u,F,G⟩:=A5 m c
      have H:i.toList[j]? =some (.slice none 0 0):=by
       obtain⟨R,I,n,J,r⟩:=A5 d s;rw[lS]at t;obtain⟨v,S,h⟩:=r.get j _ t;have h:v= .slice none 0 0:=h;rw[sH _ _ g,n]at u
       grind
      have z:i.toList.set j (.slice none 0 0)=i.toList:=by
       apply ext_getElem?
       grind
      have M:aR B (upd ι k (.slice none 0 0)) (JV ((σ.kill k).setOwn k (some (.lst E l []))) q j (.lst k)) a w:=by
       unfold JV;rw[c];refine m.rewrite c (FH.refl _ _) ⟨b,i,u,F,?_,λU e=>by subst e;have:=aGX m c;grind⟩;have:=G.set j (x:=.lst k) (v:=.slice none 0 0) (by show _=_;simp)
       grind
      exact qJ τ q f (j+1) _ _ M
     .exact qJ τ q f (j+1) ι σ d
    .exact qJ τ q f (j+1) ι σ d
   .exact qJ τ q f (j+1) ι σ d
  .exact qJ τ q f (j+1) ι σ d
theorem BZ(τ:St):∀(b:ei)(q:Nat)(ι:dm)(σ:St),aR B ι σ a w->∃d,aR B d (PO τ b q σ) a w
 |[],q,ι,σ,c=>⟨ι,c⟩
 |y::b,q,ι,σ,c=>by
  simp only[PO];split
  .rename_i T f;obtain⟨d,e⟩:=qJ τ q f 0 ι σ c;exact BZ τ b (q+1) d _ e
  .exact BZ τ b (q+1) ι σ c
theorem rA{τ K}(t:aR B ι σ a w)(h:Dj σ τ K):∃u,aR B u τ a w/\K:=by
 obtain⟨v,f⟩:=w9 τ τ.sl 0 ι σ t;obtain⟨m,c⟩:=BZ τ τ.own 0 v _ f;have c:aR B m (conv σ τ) a w:=c;unfold Dj at h;obtain⟨g,h⟩:=BV h c.slots;obtain⟨d,n,p,x⟩:=AM h;refine⟨m,⟨g,c.defers,λk o e=>c.own k o (d k o e),λk r o s b e i j l=>c.dist k r o s b (d k o e) (d r s i) j l,?_,?_,c.one⟩,x⟩
 .intro k o b e j;rw[<-n, <-p];exact c.fresh k o b (d k o e) j
 .rw[<-n, <-p];exact c.wrel
theorem aR.froze(j:aR B ι σ a w){m2 g}(f:Hp σ.m σ.h m2 g):aR B ι {σ with m:=m2,h:=g} a w:=by
 have c:=j.wrel;refine⟨j.slots,j.defers,j.own,j.dist,λk o b u x=>?_,?_,j.one⟩
 .obtain⟨y,t,G⟩:=j.fresh k o b u x;refine⟨y,?_,λi=>?_⟩
  .show m2 b=none;cases l:m2 b with
   |none=>rfl
   |some o=>rw[f.sub b o l]at t;cases t
  .show g b i=none;cases l:g b i with
   |none=>rfl
   |some v=>
    rcases f.new b i v l with d|⟨n,E,p,d,_,_⟩
    .grind
    grind
 .refine⟨c.tape,c.os,c.output,c.drawn,c.size,c.frame,λb o v e=>?_,λb o e=>c.msat b o (f.sub b o e),λb o e i=>?_,λb o v e=>f.le.le b o v (c.hle b o v e),λb z r=>?_,λb o e=>c.mfr b o (f.sub b o e)⟩
  .rcases f.new b o v e with d|⟨n,E,p,d,s,_⟩
   .exact c.hsat b o v d
   .rw[cell_of_heap (c.msat b _ d),ct];exact s
  .show g b i=none;have e:m2 b=some o:=e;cases l:g b i with
   |none=>rfl
   |some v=>
    rcases f.new b i v l with d|⟨n,E,p,d,s,A⟩
    .rw[c.disj b o (f.sub b o e) i]at d;cases d
    grind
  .funext i;have e:=congrFun (c.hold b z r) i;show g b i=B.h0 b i;cases l:B.h0 b i with
   |some v=>exact f.le.le b i v (c.hle b i v l)
   |none=>
    cases D:g b i with
    |none=>rfl
    |some v=>
     rcases f.new b i v D with d|⟨n,E,p,d,s,A⟩
     .grind
     .rcases c.mfr b _ d with F|F
      .omega
      grind
theorem LX{τ K}(s:aR B ι σ a w)(h:VA σ τ K):∃t,aR B t τ a w/\K:=by
 obtain⟨u,g⟩:=w9 τ τ.sl 0 ι σ s;obtain⟨n,c⟩:=BZ τ τ.own 0 u _ g;have c:aR B n (conv σ τ) a w:=c;unfold VA at h;obtain⟨i,h⟩:=BV h c.slots;obtain⟨d,v,x⟩:=AM h;have e:=c.froze v;exact⟨n,⟨i,c.defers,λk o f=>c.own k o (d k o f),λk p o r b f j l m=>c.dist k p o r b (d k o f) (d p r j) l m,λk o b f l=>e.fresh k o b (d k o f) l,e.wrel,c.one⟩,x⟩
theorem B5{c R}(b:aR B ι σ a w)(h:KN c R σ):∃x f,R x/\aR B f (c.st x) a w:=by
 unfold KN at h;split at h
 .obtain⟨x,g,d⟩:=h;obtain⟨i,e,_⟩:=rA b d
  grind
 .obtain⟨x,g,d⟩:=h ⟨b.wrel.disj⟩;obtain⟨i,e,_⟩:=LX b d
  grind
theorem OP{c I S}(b:aR B ι σ a w)(h:V6 c I S σ):∃x f,I x/\S x/\aR B f (c.st x) a w:=by
 unfold V6 at h;split at h
 .obtain⟨x,g,i,d⟩:=h;obtain⟨j,e,_⟩:=rA b d
  grind
 .obtain⟨x,g,i,d⟩:=h ⟨b.wrel.disj⟩;obtain⟨j,e,_⟩:=LX b d
  grind
def QD(B:xC)(Q:Hm->St->Prop):Exit->Act->World->Prop
 |.normal,a,w=>∃ι σ,aR B ι σ a w/\Q .normal σ
 |.exit id,a,w=>∃ι σ,aR B ι σ a w/\Q (.exit id) σ
 |.ret,a,w=>∃ι σ,aR B ι σ a w/\Q .ret σ
 |_,_,_=>False
theorem MO(b:∀g S,assoc C.specs g=some S->Sound C.P g S){ops:Array Oper}{Q:Hm->St->Prop}:
 ∀(c:em)(l:List Oper)(s:Nat)(ι:dm)(σ:St)(a:Act)(w:World),(∀j,l[j]? =ops.toList[s+j]?)->aR B ι σ a w->bsZ C ops c l σ (Q .normal)->wpOpsIn Fence.wide 0 C.P ops (QD B Q) (range' s l.length) a w
 |[],l,s,ι,σ,a,w,e,d,h=>by
  have:=JW b (ops:=ops) (Q:=QD B Q) (R:=Q .normal) (rest:=[]) (λι σ a w d h=>⟨ι,σ,d,h⟩) l s ι σ a w (λj _=>e j) d h
  grind
 |(n,f)::c,l,s,ι,σ,a,w,e,d,h=>by
  obtain⟨I,r,t⟩:=h
  have:=JW b (ops:=ops) (Q:=QD B Q) (R:=λτ=>∃x,I x/\Dj τ (f.st x) True) (rest:=range' (s+(l.take n).length) (l.drop n).length) (λA D u v i m=>by
   obtain⟨x,m,y⟩:=m;obtain⟨z,p,_⟩:=rA i y;refine MO b c (l.drop n) (s+(l.take n).length) z _ u v (λj=>?_) p (t x m);rw[getElem?_drop,e];by_cases E:n<=l.length
   .grind
   .have F:l[n+j]? =none:=getElem?_eq_none aD;have G:l[l.length+j]? =none:=getElem?_eq_none aD
    grind) (l.take n) s ι σ a w (λj H=>by
    grind) d r
  grind
theorem Wy(s:∀g S,assoc C.specs g=some S->Sound C.P g S):∀(c:Code)(σ:St)(Q:Hm->St->Prop)(ι:dm)(a:Act)(w:World),aR B ι σ a w->VC C c σ Q->c.wp C.P (QD B Q) a w:=by
 intro c
 induction c with
 |skip=>intro σ Q ι a w d h;exact wp_skip ⟨ι,σ,d,h⟩
 |label l=>intro σ Q ι a w d h;exact wp_label ⟨ι,σ,d,h⟩
 |exit id=>intro σ Q ι a w d h;exact wp_exit ⟨ι,σ,d,h⟩
 |ret=>intro σ Q ι a w d h;exact wp_ret ⟨ι,σ,d,h⟩
 |goto l=>intro σ Q ι a w d h;exact h.elim
 |refuse a3=>intro σ Q ι a w d h;exact h.elim
 |scope a2 U=>intro σ Q ι a w d h;exact h.elim
 |rangeFunc f ps x y u H=>intro σ Q ι a w d h;exact h.elim
 |region id ops V=>
  intro σ Q ι a w d h;cases V with
  |false=>
   refine(wpIn_wide (n:=0)).1 (wpIn_region ?_);have:=MO s (ops:=ops) (Q:=Q) (Zq C id) ops.toList 0 ι σ a w (λj=>bi) d h;rw[range_eq_range'];omega
  |true=>
   simp only[VC]at h;split at h
   .rename_i h1 h2 h3;have hs:=bsX h1 h2;refine wp_region_any h3 ?_;refine UP s hs (Q:=QD B Q) (R:=Q .normal) (λι σ a w d h=>⟨ι,σ,d,h⟩) (λc a w h=>h) ops.size ops.size _ ι σ a _ (d.drew (w.drawn+1) (Nat.le_succ _)) h _ a ?_ ?_
    .have F:∀i,(Array.replicate ops.size false).getD i false=true->False:=by
      intro i v;by_cases r:i<ops.size
      .simp[Array.getD,r]at v
      grind
     exact⟨bi,bi,λi v=>v,λi o _ v=>(F i v).elim,λi o _ v=>(F i v).elim,λi o _ v=>(F i v).elim,rfl,rfl,λt _=>rfl,λi o _ v=>(F i v).elim⟩
    .unfold xW;rw[filter_eq_self.2]
     .simp
     .intro i v;by_cases r:i<ops.size<;>simp[Array.getD,r]
   grind
 |seq x y u H=>
  intro σ Q ι a w d h;simp only[VC]at h;split at h
  .obtain⟨h,p⟩:=h;refine wp_seq (wp_mono (u σ _ ι a w d h) ?_);intro e D E b;cases e with
   |normal=>
    obtain⟨G,W,m,x,X,J⟩:=b;show y.wp C.P (QD B Q) D E;obtain⟨Y,z,_⟩:=rA m J
    grind
   |exit id=>exact b
   |ret=>exact b
   |goto l=>exact b
   |panic Z=>exact b
   |outgrown=>exact b
  .split at h
   .obtain⟨I,h,p⟩:=h;refine wp_seq (wp_mono (u σ _ ι a w d h) ?_);intro e D E b;cases e with
    |normal=>
     obtain⟨G,W,m,J⟩:=b;show y.wp C.P (QD B Q) D E;obtain⟨x,Y,X,z⟩:=B5 m J
     grind
    |exit id=>exact b
    |ret=>exact b
    |goto l=>exact b
    |panic Z=>exact b
    |outgrown=>exact b
   .refine wp_seq (wp_mono (u σ _ ι a w d h) ?_);intro e D E b;cases e with
    |normal=>
     obtain⟨G,W,m,h'⟩:=b;show y.wp C.P (QD B Q) D E
     grind
    |exit id=>exact b
    |ret=>exact b
    |goto l=>exact b
    |panic Z=>exact b
    |outgrown=>exact b
 |cond c x y u H=>
  intro σ Q ι a w d h;simp only[VC]at h;split at h
  .rename_i t hc;have A:=d.ev c;rw[hc]at A;have A:a.eval c= .bool t:=A;rcases zS h with⟨rfl,h⟩|⟨rfl,h⟩
   .exact wp_cond_true A (u _ Q ι a w (d.setTmp hc) h)
   .exact wp_cond_false A (H _ Q ι a w (d.setTmp hc) h)
  grind
 |block id c U=>
  intro σ Q ι a w d h;refine wp_block (wp_mono (U σ _ ι a w d h) ?_);intro e D E b;cases e with
  |normal=>exact b
  |exit i=>
   obtain⟨G,W,m,h'⟩:=b;show if i=id then _ else _
   simp only at h';split at h'
   .rename_i hb;rw[if_pos (cn hb)];exact⟨G,W,m,h'⟩
   .rename_i hb;rw[if_neg (λe=>by subst e;simp at hb)];exact⟨G,W,m,h'⟩
  |ret=>exact b
  |goto l=>exact b
  |panic Z=>exact b
  |outgrown=>exact b
 |loop c U=>
  intro σ Q ι a w d h;simp only[VC]at h;split at h
  .rename_i l hl;obtain⟨⟨x,X,J⟩,p⟩:=h;obtain⟨Y,z,_⟩:=rA d J;refine wp_loop_ghost (λn a w=>∃x ι,l.inv x/\l.mu x=n/\aR B ι (l.st x) a w) (l.mu x) ⟨x,Y,X,rfl,z⟩ ?_;rintro n D E ⟨x',G,M,rfl,m⟩;refine wp_mono (U _ _ G D E m (p x' M)) ?_;intro e a0 a1 b;cases e with
   |normal=>
    obtain⟨ι3,σ3,N,y,hy,r,O⟩:=b;obtain⟨ι4,T,_⟩:=rA N O;exact⟨l.mu y,r,y,ι4,hy,rfl,T⟩
   |exit id=>exact b
   |ret=>exact b
   |goto l=>exact b
   |panic Z=>exact b
   |outgrown=>exact b
  .split at h
   .rename_i l hl;obtain⟨I,mu,J,p⟩:=h;obtain⟨x,Y,X,z⟩:=B5 d J;refine wp_loop_ghost (λn a w=>∃x ι,I x/\mu x=n/\aR B ι (l.st x) a w) (mu x) ⟨x,Y,X,rfl,z⟩ ?_;rintro n D E ⟨x',G,M,rfl,m⟩;refine wp_mono (U _ _ G D E m (p x' M)) ?_;intro e a0 a1 b;cases e with
    |normal=>
     obtain⟨ι3,σ3,N,O⟩:=b;obtain⟨y,ι4,hy,r,T⟩:=OP N O;exact⟨mu y,r,y,ι4,hy,rfl,T⟩
    |exit id=>exact b
    |ret=>exact b
    |goto l=>exact b
    |panic Z=>exact b
    |outgrown=>exact b
   grind
end
end Go.Vc
namespace Go.Vc
open Go List
section
variable{B:xC}{C:Ctx}{ι:dm}{σ:St}{a:Act}{w:World}
def Ng(tmps:Array Value):ResultVar->Sem Value
 |.tmp t=>pure (tmps.getD t undef)
 |.cell a t=>do loadVar t (<-asAddr (tmps.getD a undef))
theorem Qm fn tmps:results fn tmps=(do let vs <-fn.results.mapM (Ng tmps);pure (if h:vs.size=1 then vs[0]else .tuple vs)):=by
 unfold results;congr 1
theorem WW(f:aR B ι σ a w){r x}(h:aFX C σ r=some x):∃v,(Ng a.tmps r).run C.P w= .ok v w/\Den ι x v:=by
 cases r with
 |tmp t=>
  simp only[aFX,ck]at h;subst h;exact⟨_,rfl,f.ev (.tmp t)⟩
 |cell l T=>
  have d:=f.ev (.tmp l);simp only[aFX]at h;split at h
  .rename_i k off s;rw[s]at d;split at h
   .rename_i p T' cs u;split at h
    .rename_i e y;have e:=Nat.le_of_ble_eq_true e;simp only[ck]at h;subst h;obtain⟨b,m,z,A,n⟩:=A5 f u;obtain⟨G,c,D⟩:=d;rw[z]at c;simp only[Value.pointer.injEq,ck,Addr.mk.injEq]at c;obtain⟨rfl, -, -⟩:=c;have g:=(n.drop off).take (C.P.cellsOf T);have E:cs.length=m.toList.length:=n.length;have F:=B0 (w:=w) (b:=b) (off:=off) (cs:=(m.toList.drop off).take (C.P.cellsOf T)) y bo (λj v H=>by rw[cell_of_heap A];grind);refine⟨_,?_,Ko g⟩;have i:a.tmps.getD l undef= .pointer (some ⟨b,off,none⟩):=D;simp only[Ng,i,asAddr,Sem.run_bind,Sem.run_pure,Result.andThen_ok,F]
    .cases h
   .cases h
  .cases h
theorem KM(f:aR B ι σ a w):∀(l:List ResultVar)(xs:ej),J0 C σ l=some xs->∃vs,(l.mapM (Ng a.tmps)).run C.P w= .ok vs w/\DenS ι xs vs
 |[],xs,h=>by
  simp[J0]at h;subst h;exact⟨[],bi,trivial⟩
 |r::l,xs,h=>by
  simp only[J0]at h;split at h
  .rename_i x b g c;simp only[ck]at h;subst h;obtain⟨v,i,j⟩:=WW f g;obtain⟨vs,d,e⟩:=KM f l b c;exact⟨v::vs,by simp[mapM_cons,i,d],j,e⟩
  .cases h
theorem AQ(m:aR B ι σ a w){mv:Bool}:∀(xs:ej)(ts:eu)(rs:du)(vs:dc),FF C.P σ mv xs ts=some rs->DenS ι xs vs->
 rs.length=vs.length/\(mv=false->rs=vs.map .val)/\∀(i:Nat)(r:CV)(v:Value),rs[i]? =some r->vs[i]? =some v->JK w r v/\∀b,jF r v=some b->∃k g,nth σ.own k=some (some g)/\blk (ι k)=some b
 |[],ts,rs,[],h,_=>by
  simp[FF]at h;grind
 |[],_,_,_::_,_,c=>c.elim
 |x::xs,_,_,[],_,c=>c.elim
 |x::xs,ts,rs,v::vs,h,c=>by
  simp only[FF]at h;split at h
  .cases h
  .rename_i l p;obtain⟨s,t,y⟩:=AQ m xs ts.tail l vs p c.2
   have fin:∀(j:CV),rs=j::l->(mv=false->j= .val v)->JK w j v->(∀b,jF j v=some b->∃k g,nth σ.own k=some (some g)/\blk (ι k)=some b)->
    rs.length=(v::vs).length/\(mv=false->rs=(v::vs).map .val)/\∀(i:Nat)(r:CV)(u:Value),rs[i]? =some r->(v::vs)[i]? =some u->JK w r u/\∀b,jF r u=some b->∃k g,nth σ.own k=some (some g)/\blk (ι k)=some b:=by
    grind
   split at h
   .split at h
    .rename_i k;have d:v=ι k:=c.1;split at h
     .rename_i E F G n;simp only[ck]at h;obtain⟨A,H⟩:=uX m n;exact fin _ h.symm (λe=>by cases e) ⟨A,bo⟩ (λb f=>⟨k,_,n,by rw[<-d];exact f⟩)
     .cases h
    .have d:v= .slice none 0 0:=c.1;split at h
     .rename_i E z I;simp only[ck]at h;refine fin _ h.symm (λe=>by cases e) ⟨JY _,by rw[d];exact World.ownsRow_nil w 0 E _⟩ (λb f=>?_);rw[d]at f;simp[jF,blk]at f
     .cases h
    .cases h
   .split at h
    .rename_i u D;simp only[ck]at h;have d:=(c.1).val? D;exact fin _ h.symm (λ_=>by rw[d]) d (λb f=>by simp[jF]at f)
    .cases h
theorem SX(I:aR B ι σ a w){fn K}(h:SY C fn K σ):
 ∃u,(results fn a.tmps).run C.P w= .ok u w/\∃r m' t,K r m' t/\JK w r u/\D4 B m' t w/\∀b,jF r u=some b->(B.w0.heap.size<=b\/B.E b)/\m' b=none/\∀i,t b i=none:=by
 unfold SY at h;split at h
 .exact h.elim
 .rename_i V J;obtain⟨W,p,h,_⟩:=rD _ _ I h;obtain⟨τ,d,h,_⟩:=Ba _ _ p h;split at h
  .exact h.elim
  .rename_i M x;obtain⟨f,y,j⟩:=KM d _ _ x
   have G:(results fn a.tmps).run C.P w= .ok (if h:f.toArray.size=1 then f.toArray[0]else .tuple f.toArray) w:=by
    rw[Qm,Array.mapM_eq_mapM_toList];simp[y]
   have g:∀(n:du)(r:CV)(v:Value),FF C.P τ C.retMove M fn.resultTypes.toList=some n->(∃i:Nat,n[i]? =some r/\f[i]? =some v)->JK w r v/\∀b,jF r v=some b->(B.w0.heap.size<=b\/B.E b)/\τ.m b=none/\∀i,τ.h b i=none:=by
    rintro n r v l ⟨i,s,N⟩;obtain⟨_,_,O⟩:=AQ d _ _ _ _ l j;obtain⟨z,A⟩:=O i r v s N;refine⟨z,λb D=>?_⟩;obtain⟨k,Q,R,F⟩:=A b D;exact d.fresh k Q b R F
   split at h
   .rename_i r s;obtain⟨c,_,_⟩:=AQ d _ _ _ _ s j;simp at c
    obtain⟨v,rfl⟩:∃v,f=[v]:=by
     match f,c with
     |[v],_=>grind
    obtain⟨z,A⟩:=g _ r v s ⟨0,rfl,rfl⟩;refine⟨v,bo,r,τ.m,τ.h,h,z,d.wrel,A⟩
   .rename_i n S l;split at h
    .exact h.elim
    .rename_i T;obtain⟨c,H,_⟩:=AQ d _ _ _ _ l j
     have U:f.length≠1:=by
      intro e;rw[e]at c
      match n,c with
      |[r],_=>grind
     refine⟨.tuple f.toArray,bo,.tup n,τ.m,τ.h,h,⟨f.toArray,rfl,bo⟩,d.wrel,λb D=>by simp[jF]at D⟩
   grind
def OC(n:Nat)(b:du)(vs:dc)(k:Nat):=
 match b[k-n]?,vs[k-n]? with
 |some (.lst _ _ _),some v=>v
 |_,_=>.slice none 0 0
theorem uD{w:World}:∀{b:du}{vs:dc},DY w b vs->b.length=vs.length/\∀(i:Nat)(c:CV)(v:Value),b[i]? =some c->vs[i]? =some v->JK w c v
 |[],[],_=>⟨rfl,λi c v h=>by simp at h⟩
 |c::cs,v::vs,h=>by
  obtain⟨f,g⟩:=uD h.2;refine⟨by simp[f],λi j l d e=>?_⟩;cases i with
  |zero=>simp at d e;subst d e;exact h.1
  |succ i=>grind
 |[],_::_,h=>h.elim
 |_::_,[],h=>h.elim
theorem OH{n:Nat}{all:du}{avs:dc}{w:World}:∀(i:Nat)(b:du)(vs:dc),DY w b vs->(∀j:Nat,b[j]? =all[i+j]?)->(∀j:Nat,vs[j]? =avs[i+j]?)->
 DenS (OC n all avs) (JD n i b) vs
 |i,[],[],_,_,_=>trivial
 |i,c::b,v::vs,h,e,f=>by
  have d:=OH (n:=n) (all:=all) (avs:=avs) (i+1) b vs h.2 (λj=>by have:=e (j+1);grind) (λj=>by have:=f (j+1);grind);cases c with
  |val u=>exact⟨h.1,d⟩
  |lst E m p=>
   refine⟨?_,d⟩;show v=OC n all avs (n+i);have g:=e 0;have l:=f 0;simp at g l;unfold OC
   grind
  |tup r=>exact⟨trivial,d⟩
 |i,[],_::_,h,_,_=>h.elim
 |i,_::_,[],h,_,_=>h.elim
theorem Ml:∀(b:du)(k:Nat)(o:Own),nth (Ca b) k=some (some o)->∃E sz xs,b[k]? =some (.lst E sz xs)/\o= .lst E sz xs
 |[],k,o,h=>by simp[Ca,nth]at h
 |c::b,0,o,h=>by
  cases c<;>simp[Ca,nth]at h
  grind
 |c::b,k+1,o,h=>by
  have:nth (Ca b) k=some (some o):=by cases c<;>simpa[Ca,nth]using h
  obtain⟨E,sz,xs,d,e⟩:=Ml b k o this
  grind
theorem UJ{ι:dm}:∀(n:Nat)(vs:dc),vs.length=n->DenS ι (replicate n (.at .junk)) vs
 |0,[],_=>trivial
 |n+1,v::vs,h=>⟨trivial,UJ n vs (bx h)⟩
 |0,_::_,h=>by simp at h
 |_+1,[],h=>by simp at h
theorem DenS.append{ι:dm}:∀{xs b:ej}{vs c:dc},DenS ι xs vs->DenS ι b c->DenS ι (xs++b) (vs++c)
 |[],_,[],_,_,d=>bo
 |_::_,_,_::_,_,h,d=>⟨h.1,DenS.append h.2 d⟩
 |[],_,_::_,_,h,_=>h.elim
 |_::_,_,[],_,h,_=>h.elim
theorem Mk{w m h c vs} n(s:Dr w m h c vs):
 aR ⟨w,zU m c vs,h,[]⟩ (OC n c vs) (entry n c m h) {tmps:=vs.toArray++Array.replicate (n-vs.toArray.size) undef,defers:=[]} w:=by
 obtain⟨x,r⟩:=uD s.args
 have d:∀k o,nth (entry n c m h).own k=some (some o)->n<=k/\∃E i l,c[k-n]? =some (.lst E i l)/\o= .lst E i l/\∃v,vs[k-n]? =some v/\OC n c vs k=v/\JK w (.lst E i l) v:=by
  intro k o f;simp only[entry]at f;rw[lS]at f;by_cases t:k<n
  .grind
  .rw[getElem?_append_right bo]at f;simp only[length_replicate]at f;rw[<-lS]at f;obtain⟨E,i,l,e,A⟩:=Ml c (k-n) o f
   have D:k-n<vs.length:=by
    grind
   have p:vs[k-n]? =some vs[k-n]:=cd D;refine⟨aD,E,i,l,e,A,_,p,?_,r _ _ _ e p⟩;unfold OC;rw[e,p]
 refine⟨?_,rfl,?_,?_,?_,?_,?_⟩
 .have e:=OH (n:=n) (all:=c) (avs:=vs) 0 c vs s.args (λj=>bi) (λj=>bi);show DenS _ (JD n 0 c++replicate (n-c.length) (.at .junk)) _;have:(vs.toArray++Array.replicate (n-vs.toArray.size) undef).toList=vs++replicate (n-vs.length) undef:=bi
  rw[this];exact e.append (UJ _ _ (by simp[x]))
 .intro k o f;obtain⟨t,E,i,l,e,rfl,v,p,y,u⟩:=d k o f;rw[y];exact u
 .intro k J o O b f F g z;obtain⟨t,E,i,l,e,rfl,v,p,y,u⟩:=d k o f;obtain⟨M,E',Q,R,G,rfl,S,H,I,N⟩:=d J O F;rw[y]at g;rw[I]at z;have:=s.sep (k-n) (J-n) _ _ v S b e p G H g z;omega
 .intro k o b f g;obtain⟨t,E,i,l,e,rfl,v,p,y,u⟩:=d k o f;rw[y]at g;obtain⟨T,U⟩:=s.free (k-n) _ v b e p g;exact⟨.inr (.inr ⟨k-n,_,v,e,p,g⟩),T,U⟩
 .refine⟨rfl,rfl,rfl,Nat.le_refl _,Nat.le_refl _,λ_ _ _=>rfl,s.hsat,s.msat,s.disj,λ_ _ _ h=>h,λ_ _ _=>rfl,λb V g=>.inr (.inl (by have g:m b=some V:=g;rw[g];simp))⟩
 .intro k;unfold OC;split
  .rename_i E i l v e A;exact Ot (r _ _ _ e A).2
  .rfl
theorem eG{P f fn c}(D:P.funcs[f]? =some fn)(E:fn.body=some c)(n:(fn.name== "runtime.NumGoroutine")=false){S}(y:∀d m h K,S d m h K->∃C:Ctx,C.P=P/\(∀g S,assoc C.specs g=some S->Sound P g S)/\yC C fn c (entry fn.ntmps d m h) K):Sound P f S:=by
 refine⟨⟨fn,D,by rw[E];rfl,n⟩,?_⟩;intro d z m h w K G H;obtain⟨C,rfl,j,I⟩:=y d m h K G;refine calls_of_wp D E ?_;refine wp_mono (Wy j c _ _ _ _ w (Mk fn.ntmps H) I) ?_;intro e A s p
 have key:(∃ι σ,aR ⟨w,zU m d z,h,[]⟩ ι σ A s/\SY C fn K σ)->A.defers=[]/\∃v,(results fn A.tmps).run C.P s= .ok v s/\∃r u t x,Ending.returned v= .returned u/\K r t x/\JK s r u/\D4 ⟨w,zU m d z,h,[]⟩ t x s/\
  ∀b,jF r u=some b->(w.heap.size<=b\/zU m d z b)/\t b=none/\∀i,x b i=none:=by
  rintro⟨ι,σ,F,J⟩;obtain⟨u,M,r,t,x,N,O,Q,R⟩:=SX F J;exact⟨F.defers,u,M,r,u,t,x,rfl,N,O,Q,R⟩
 cases e with
 |normal=>exact key p
 |ret=>exact key p
 |exit id=>obtain⟨_,_,_,h⟩:=p;exact h.elim
 |goto l=>exact p.elim
 |panic T=>exact p.elim
 |outgrown=>exact p.elim
theorem Th{P f fn c}(H:P.funcs[f]? =some fn)(x:fn.body=some c)(p:(fn.name== "runtime.NumGoroutine")=false){S}(I:∀d m h K,S d m h K->∃C:Ctx,C.P=P/\(∀g S,assoc C.specs g=some S->Sound P g S)/\yC C fn c (entry fn.ntmps d m h) (λr m' s=>∃m2 j,(∀b o,m2 b=some o->m' b=some o)/\PH.le h j/\PH.le j s/\K r m2 j)):Sound P f S:=by
 have E:=eG H x p (S:=λd m h K=>∃K',S d m h K'/\K=λr m' s=>∃m2 j,(∀b o,m2 b=some o->m' b=some o)/\PH.le h j/\PH.le j s/\K' r m2 j) (by
  grind)
 refine⟨E.1,λd J m h w K M N=>?_⟩;refine(E.2 d J m h w _ ⟨K,M,rfl⟩ N).mono ?_;rintro e V ⟨r,u,m',s,O,⟨m2,j,y,F,G,Q⟩,z,l,A⟩
 have n:∀b i,s b i=none->j b i=none:=by
  intro b i e;cases t:j b i with
  |none=>rfl
  |some v=>rw[G.le b i v t]at e;cases e
 refine⟨r,u,m2,j,O,Q,z,?_,λb x=>?_⟩
 .refine⟨l.tape,l.os,l.output,l.drawn,l.size,l.frame,λb o v e=>l.hsat b o v (G.le b o v e),λb o e=>l.msat b o (y b o e),λb o e i=>n b i (l.disj b o (y b o e) i),F.le,λb R D=>?_,λb o e=>l.mfr b o (y b o e)⟩;funext i;have e:=congrFun (l.hold b R D) i;show j b i=h b i;cases t:h b i with
  |some v=>exact(F.le b i v t)
  |none=>grind
 .obtain⟨T,W,U⟩:=A b x;refine⟨T,?_,λi=>n b i (U i)⟩;cases t:m2 b with
  |none=>rfl
  |some o=>grind
def fV(h:PH)(K:da):CV->MH->PH->Prop:=λr c f=>(∀b o,c b=some o->∀i,f b i=none)->∃d e,(∀b o,d b=some o->c b=some o)/\PH.le h e/\
 (∀b i v,e b i=some v->f b i=some v\/∃g E j,c b=some (.cells g E j)/\g[i]? =some v/\d b=none)/\K r d e
theorem Sound.strong{P f S}(A:Sound P f (λg m h K=>∃K',S g m h K'/\K=fV h K')):Sound P f S:=by
 refine⟨A.1,λg I m h w K J M=>?_⟩;refine(A.2 g I m h w _ ⟨K,J,rfl⟩ M).mono ?_;rintro e X ⟨r,u,Y,Z,N,j,p,c,s⟩;obtain⟨D,l,t,F,x,O⟩:=j c.disj;refine⟨r,u,D,l,N,O,p,?_,λb Q=>?_⟩
 .refine⟨c.tape,c.os,c.output,c.drawn,c.size,c.frame,λb o v e=>?_,λb o e=>c.msat b o (t b o e),λb o e i=>?_,F.le,λb R y=>?_,λb o e=>c.mfr b o (t b o e)⟩
  .rcases x b o v e with d|⟨G,E,H,d,z,_⟩
   .exact c.hsat b o v d
   .rw[cell_of_heap (c.msat b _ d),ct];exact z
  .cases n:l b i with
   |none=>rfl
   |some v=>
    rcases x b i v n with d|⟨G,E,H,d,z,T⟩
    .rw[c.disj b o (t b o e) i]at d;cases d
    grind
  .funext i;have e:=congrFun (c.hold b R y) i;show l b i=h b i;cases n:h b i with
   |some v=>exact(F.le b i v n)
   |none=>
    cases U:l b i with
    |none=>rfl
    |some v=>
     rcases x b i v U with d|⟨G,E,H,d,z,T⟩
     .grind
     .rcases c.mfr b _ d with V|V
      .omega
      grind
 .obtain⟨W,f2,f3⟩:=s b Q;refine⟨W,?_,λi=>?_⟩
  .cases n:D b with
   |none=>rfl
   |some o=>grind
  .cases n:l b i with
   |none=>rfl
   |some v=>
    grind
theorem a4Z{P f fn c}(e:P.funcs[f]? =some fn)(i:fn.body=some c)(d:(fn.name== "runtime.NumGoroutine")=false){S}(j:∀b m h K,S b m h K->∃C:Ctx,C.P=P/\(∀g S,assoc C.specs g=some S->Sound P g S)/\yC C fn c (entry fn.ntmps b m h) (fV h K)):Sound P f S:=
 .strong (eG e i d (S:=λb m h K=>∃K',S b m h K'/\K=fV h K') (by
  grind))
end
end Go.Vc
namespace Go.Vc
open Go List
theorem aC{c A B}(b:c=true->A)(d:c=false->B):branch c A B:=by
 cases c
 .exact d rfl
 .exact b rfl
theorem aF{p}[Decidable p]{A B}(b:p->A)(c:¬p->B):branch (decide p) A B:=
 aC (λh=>b (of_decide_eq_true h)) (λh=>c (of_decide_eq_false h))
theorem eM{n}(b: -9223372036854775808<=n)(c:n<9223372036854775808):IntKind.i64.wrap n=n:=by
 rw[IntKind.wrap_i64];omega
theorem aL.of_m{m h b off cs E c l}(d:m b=some (.cells cs E c))(e:(cs.toList.drop off).take l.length=l):aL m h b off l:=.lent cs E c d e
end Go.Vc
namespace Go.Ps
open Go Go.Vc Go.Proofs List Tryz
variable{K:da}{m:MH}{h:PH}{ps:db}{cb:Nat}{l:db}{i:Nat}{N:Nat}{m':MH}{h':PH}{co:db}{gr:db}{od:di}{ta:Int}{li:Int}{xs:List dc}{sz:Nat}{ks:List db}{rs:db}{r:Sl}{a:db}{b:Nat}
structure VV where
 kind:Int
 int:Int
 text:ByteArray
abbrev dj:=List VV
abbrev dy:=List (Sl×dj)
abbrev de:=List dj
structure OV where
 kind:Int
 index:Int
 value:VV
abbrev fc:=List OV
structure PV where
 op:Int
 cmp:Int
 left:OV
 right:OV
 args:Sl
abbrev dz:=List PV
structure QV where
 op:Int
 table:Int
 where_:PV
 columns:Sl
 on:Sl
 group:Sl
 order:Sl
 limit:Int
 args:Sl
abbrev eh:=List (Nat×QV)
abbrev dw:=List QV
variable{v:QV}
structure xU where
 op:Int
 table:Int
 where_:PV
 columns:Sl
 on:Sl
 group:Sl
 order:Sl
 limit:Int
 left:Int
 right:Int
structure rG where
 name:ByteArray
 kind:Int
structure Hu where
 columns:Sl
 table:Int
structure dE where
 name:ByteArray
 columns:Sl
 key:Int
 references:Sl
 checks:Sl
structure cK where
 version:Int
 tables:Sl
variable{sc:cK}
abbrev eH(n:Int):Value:=.int .i64 n
abbrev gP(s:Sl):Value:=.slice s.a s.len s.cap
abbrev rU:Value:=.slice none 0 0
abbrev Sv:Value:=.string ⟨⟨[]⟩⟩
abbrev vQp(b o:Nat):Value:=.pointer (some ⟨b,o,none⟩)
abbrev mD(n:Int):At:=.val (.int .i64 n)
abbrev nX(s:Sl):At:=.val (.slice s.a s.len s.cap)
abbrev Ht:At:=.val (.slice none 0 0)
abbrev aQz:At:=.val (.string ⟨⟨[]⟩⟩)
abbrev fU(n:Int):SV:=.at (.val (.int .i64 n))
abbrev sQs(s:Sl):SV:=.at (.val (.slice s.a s.len s.cap))
abbrev sQn:SV:=.at (.val (.slice none 0 0))
abbrev sQp(b o:Nat):SV:=.at (.ptr b o)
abbrev sQo(b o:Nat):SV:=.at (.val (.pointer (some ⟨b,o,none⟩)))
abbrev sQb(b:Bool):SV:=.at (.val (.bool b))
abbrev sQl(k:Nat):SV:=.at (.lst k)
abbrev fI(n:Int):CV:=.val (.int .i64 n)
abbrev yF(b:Bool):CV:=.val (.bool b)
abbrev cM(s:Sl):CV:=.val (.slice s.a s.len s.cap)
abbrev Dn:CV:=.val (.slice none 0 0)
abbrev cQp(b o:Nat):CV:=.val (.pointer (some ⟨b,o,none⟩))
abbrev qK(l:dc):CV:=.val (.agg ⟨l⟩)
abbrev oQ(T:TypeId)(l:dv):Option Go.Vc.Own:=some (.cells T l)
abbrev eQ{α}(x:α):=x=x
abbrev eP k:=sQp k 0=sQp k 0
abbrev eL k:=sQl k=sQl k
abbrev SF(s:ByteArray):At:=.val (.string s)
abbrev zQ:=[mD 0,mD 0,mD 0,mD 0,mD 0,mD 0,mD 0,mD 0,aQz,mD 0,mD 0,mD 0,mD 0,aQz,Ht,Ht,Ht,Ht,Ht,mD 0,Ht]
abbrev zP:=[mD 0,mD 0,mD 0,mD 0,mD 0,mD 0,aQz,mD 0,mD 0,mD 0,mD 0,aQz,Ht]
def eI(n:Int):dc:=[.int .i64 n]
def eS(s:Sl):dc:=[.slice s.a s.len s.cap]
def VV.enc(v:VV):dc:=[.int .i64 v.kind,.int .i64 v.int,.string v.text]
def OV.enc(o:OV):dc:=[.int .i64 o.kind,.int .i64 o.index,.int .i64 o.value.kind,.int .i64 o.value.int,.string o.value.text]
def PV.enc(p:PV):dc:=
 [.int .i64 p.op,.int .i64 p.cmp,
  .int .i64 p.left.kind,.int .i64 p.left.index,.int .i64 p.left.value.kind,.int .i64 p.left.value.int,.string p.left.value.text,
  .int .i64 p.right.kind,.int .i64 p.right.index,.int .i64 p.right.value.kind,.int .i64 p.right.value.int,.string p.right.value.text,
  .slice p.args.a p.args.len p.args.cap]
def QV.enc(q:QV):dc:=
 [.int .i64 q.op,.int .i64 q.table,
  .int .i64 q.where_.op,.int .i64 q.where_.cmp,
  .int .i64 q.where_.left.kind,.int .i64 q.where_.left.index,.int .i64 q.where_.left.value.kind,.int .i64 q.where_.left.value.int,.string q.where_.left.value.text,
  .int .i64 q.where_.right.kind,.int .i64 q.where_.right.index,.int .i64 q.where_.right.value.kind,.int .i64 q.where_.right.value.int,.string q.where_.right.value.text,
  .slice q.where_.args.a q.where_.args.len q.where_.args.cap,
  .slice q.columns.a q.columns.len q.columns.cap,.slice q.on.a q.on.len q.on.cap,.slice q.group.a q.group.len q.group.cap,.slice q.order.a q.order.len q.order.cap,
  .int .i64 q.limit,.slice q.args.a q.args.len q.args.cap]
def xU.enc(q:xU):dc:=
 [.int .i64 q.op,.int .i64 q.table,
  .int .i64 q.where_.op,.int .i64 q.where_.cmp,
  .int .i64 q.where_.left.kind,.int .i64 q.where_.left.index,.int .i64 q.where_.left.value.kind,.int .i64 q.where_.left.value.int,.string q.where_.left.value.text,
  .int .i64 q.where_.right.kind,.int .i64 q.where_.right.index,.int .i64 q.where_.right.value.kind,.int .i64 q.where_.right.value.int,.string q.where_.right.value.text,
  .slice q.where_.args.a q.where_.args.len q.where_.args.cap,
  .slice q.columns.a q.columns.len q.columns.cap,.slice q.on.a q.on.len q.on.cap,.slice q.group.a q.group.len q.group.cap,.slice q.order.a q.order.len q.order.cap,
  .int .i64 q.limit,.int .i64 q.left,.int .i64 q.right]
def rG.enc(c:rG):dc:=[.string c.name,.int .i64 c.kind]
def Hu.enc(r:Hu):dc:=[.slice r.columns.a r.columns.len r.columns.cap,.int .i64 r.table]
def dE.enc(t:dE):dc:=[.string t.name,.slice t.columns.a t.columns.len t.columns.cap,.int .i64 t.key,.slice t.references.a t.references.len t.references.cap,.slice t.checks.a t.checks.len t.checks.cap]
def cK.enc(s:cK):dc:=[.int .i64 s.version,.slice s.tables.a s.tables.len s.tables.cap]
abbrev zV:=[eH 0,eH 0,eH 0,eH 0,eH 0,eH 0,eH 0,eH 0,Sv,eH 0,eH 0,eH 0,eH 0,Sv,rU,rU,rU,rU,rU,eH 0,rU]
abbrev pQ(p:PV)(r:dv):=mD p.op::mD p.cmp::mD p.left.kind::mD p.left.index::mD p.left.value.kind::mD p.left.value.int::SF p.left.value.text::mD p.right.kind::mD p.right.index::mD p.right.value.kind::mD p.right.value.int::SF p.right.value.text::nX p.args::r
abbrev qQ(q:QV)(x:At):=mD q.op::mD q.table::pQ q.where_ [nX q.columns,nX q.on,nX q.group,nX q.order,mD q.limit,x]
def pA(p:Int×Int):dc:=[.int .i64 p.1,.int .i64 p.2]
def Aa(p:Int×Bool):dc:=[.int .i64 p.1,.bool p.2]
def dI:Dec:=⟨Int,eI⟩
def dS:Dec:=⟨Sl,eS⟩
def dB:Dec:=⟨Bool,λb=>[.bool b]⟩
def dU8:Dec:=⟨UInt8,λb=>[.int .u8 b.toNat]⟩
def c8Q:Dec:=⟨ByteArray,λs=>[.string s]⟩
def bXX:Option Nat->Value
 |none=>.nilFunc
 |some f=>.func (.func f) #[] #[]
def dF:Dec:=⟨Option Nat,λf=>[bXX f]⟩
structure NV where
 s:cK
 params:Sl
 q:QV
 args:Sl
def NV.enc(n:NV):=n.s.enc++eS n.params++n.q.enc++eS n.args
structure hU where
 query:QV
 args:Sl
 rows:Int
 env:Int
 width:Int
def hU.enc(x:hU):=x.query.enc++[.slice x.args.a x.args.len x.args.cap,.int .i64 x.rows,.int .i64 x.env,.int .i64 x.width]
def dec:=λT=>match T with
 |2=>dI
 |3=>dI
 |4=>dB
 |5=>dU8
 |9=>c8Q
 |46=>dI
 |22=>dS
 |50=>dS
 |52=>dS
 |33=>dS
 |36=>dS
 |37=>dS
 |38=>dS
 |39=>dS
 |25=>dS
 |58=>dS
 |65=>dS
 |70=>dS
 |71=>dS
 |108=>dS
 |27=>⟨cK,cK.enc⟩
 |30=>⟨VV,VV.enc⟩
 |32=>⟨OV,OV.enc⟩
 |35=>⟨PV,PV.enc⟩
 |41=>⟨QV,QV.enc⟩
 |73=>⟨dE,dE.enc⟩
 |130=>⟨Int×Int,pA⟩
 |77=>⟨Int×Bool,Aa⟩
 |118=>⟨rG,rG.enc⟩
 |129=>⟨Hu,Hu.enc⟩
 |190=>⟨NV,NV.enc⟩
 |191=>dF
 |207=>dF
 |221=>⟨Nat,λb=>[.func (.func 214) #[] #[.pointer (some ⟨b,0,none⟩)]]⟩
 |157=>⟨Nat,λb=>[.map (some b)]⟩
 |160=>⟨Nat,λb=>[.map (some b)]⟩
 |43=>dS
 |95=>dS
 |45=>⟨Sl×Sl,λp=>[.slice p.1.a p.1.len p.1.cap,.slice p.2.a p.2.len p.2.cap]⟩
 |101=>⟨xU,xU.enc⟩
 |91=>⟨Nat,λb=>[.map (some b)]⟩
 |97=>⟨hU,hU.enc⟩
 |94=>⟨Nat×Nat×Nat,λb=>[.func (.func 38) #[] #[.pointer (some ⟨b.1,0,none⟩),.pointer (some ⟨b.2.1,0,none⟩),.pointer (some ⟨b.2.2,0,none⟩)]]⟩
 |_=>⟨Unit,λ_=>[]⟩
def dQ(f:Func):=match f.body with|some c=>c|none=>.skip
noncomputable def ctx(specs:List (Nat×Vc.Spec))(loops:List (Nat×PU))(cuts:List (Nat×aBZ))(moves:List (Nat×dq))(retMove:Bool):Ctx:=
 {P:=Tryz.prog,loops2:=[],cuts2:=[],rcuts:=[],heapT:=[],specs:=specs,dec:=dec,loops:=loops,cuts:=cuts,moves:=moves,retMove:=retMove,yield:=none}
noncomputable def cZ(specs:List (Nat×Vc.Spec))(loops cuts:em)(moves:List (Nat×dq))(retMove:Bool):Ctx:=
 {P:=Tryz.prog,loops2:=loops,cuts2:=cuts,rcuts:=[],heapT:=[],specs:=specs,dec:=dec,loops:=[],cuts:=[],moves:=moves,retMove:=retMove,yield:=none}
noncomputable def c8X(specs:List (Nat×Vc.Spec))(loops cuts:em)(rcuts:List (Nat×em))(moves:List (Nat×dq))(retMove:Bool):Ctx:=
 {P:=Tryz.prog,loops2:=loops,cuts2:=cuts,rcuts:=rcuts,heapT:=[],specs:=specs,dec:=dec,loops:=[],cuts:=[],moves:=moves,retMove:=retMove,yield:=none}
noncomputable def vO(specs:List (Nat×Vc.Spec))(loops cuts:em)(rcuts:List (Nat×em))(heapT:eu)(moves:List (Nat×dq))(retMove:Bool):Ctx:=
 {P:=Tryz.prog,loops2:=loops,cuts2:=cuts,rcuts:=rcuts,heapT:=heapT,specs:=specs,dec:=dec,loops:=[],cuts:=[],moves:=moves,retMove:=retMove,yield:=none}
abbrev cz:=Sound Tryz.prog
theorem aI:∀g S,assoc ([]:List (Nat×Vc.Spec)) g=some S->cz g S:=λg S h=>by simp[assoc]at h
theorem aE{c S0 r}(e:cz c S0)(f:∀g S,assoc r g=some S->cz g S):∀g S,assoc ((c,S0)::r) g=some S->cz g S:=by
 intro g S h;simp only[assoc]at h;split at h
 .rename_i d;have:=cn d
  grind
 grind
def YU(n:Int):dr->Int×dr
 |[]=>(0,[])
 |b::r=>if n<1 then(0,b::r)else((b.toNat:Int)%n,r)
structure aCQ(m:MH)(h:PH)(cb:Nat)(r:dr):Prop where
 ex:∃(s:Sl)(cs:dr)(k:Nat),m cb=some (.cells #[.slice s.a s.len s.cap,.int .i64 k] 86 (0,0))/\cO h s 1 (bJ cs)/\k<=cs.length/\cs.length<=1000/\r=cs.drop k
structure bT(m m':MH)(cb:Nat):Prop where
 other:∀b,b≠cb->m' b=m b
end Go.Ps
namespace Go.Vc
open Go List
theorem PH.le.refl h:PH.le h h:=⟨λ_ _ _ e=>e⟩
theorem PH.le.trans{h h' c}(a:PH.le h h')(b:PH.le h' c):PH.le h c:=⟨λx y v e=>b.le x y v (a.le x y v e)⟩
theorem bU.mono{h h' b o l}(r:bU h b o l)(le:PH.le h h'):bU h' b o l:=⟨λi v e=>le.le _ _ _ (r.rd i v e)⟩
theorem cO.mono{h h' s sz xs}(r:cO h s sz xs)(le:PH.le h h'):cO h' s sz xs:=
 ⟨r.len,r.row.imp id λ⟨b,o,e,k⟩=>⟨b,o,e,λi x c=>(k i x c).mono le⟩,r.cap⟩
theorem cO.get{h s sz xs}(r:cO h s sz xs){i e}(c:xs[i]? =some e):
 ∃b o,s.a=some ⟨b,o,none⟩/\bU h b (o+i*sz) e:=by
 rcases r.row with rfl|⟨b,o,d,k⟩
 .simp at c
 grind
theorem fA.blk{m s E sz xs}(h:fA m s E sz xs){b i}(e:s.a=some ⟨b,i,none⟩):∃c,m b=some (.cells c E (0,0)):=by
 rcases h.ex with⟨rfl,_⟩|⟨f,d,c,rfl,g,_⟩
 .cases e
 grind
theorem fA.slen{m s E sz xs}(h:fA m s E sz xs):s.len=xs.length:=by
 rcases h.ex with⟨rfl,rfl⟩|⟨e,c,d,rfl,f,_⟩<;>rfl
theorem fA.keep{m m' s E sz xs}(h:fA m s E sz xs)(f:∀b i,s.a=some ⟨b,i,none⟩->m' b=m b):fA m' s E sz xs:=by
 refine⟨h.rows,?_⟩;rcases h.ex with c|⟨b,d,e,rfl,g,j⟩
 .exact .inl c
 grind
theorem cO.nil h sz:cO h ⟨none,0,0⟩ sz []:=⟨rfl,.inl rfl,Nat.le_refl _⟩
end Go.Vc
namespace Go.Ps
open Go Go.Vc Go.Proofs List Tryz
variable{K:da}{m:MH}{h:PH}{ps:db}{cb:Nat}{sc:cK}{v:QV}{l:db}{i:Nat}{N:Nat}{m':MH}{h':PH}{co:db}{gr:db}{od:di}{ta:Int}{li:Int}{xs:List dc}{sz:Nat}{ks:List db}{rs:db}{r:Sl}{a:db}{b:Nat}
structure Ints(h:PH)(s:Sl)(l:db):Prop where
 row:cO h s 1 (l.map eI)
 len:l.length<=17592186044416
theorem Ints.mono{s}(r:Ints h s l)(le:PH.le h h'):Ints h' s l:=⟨r.row.mono le,r.len⟩
theorem Ints.slen{s}(r:Ints h s l):s.len=l.length:=by have:=r.row.len;grind
structure gS(h:PH)(s:Sl)(l:dh):Prop where
 row:cO h s 2 (l.map pA)
 len:l.length<=8796093022208
theorem gS.mono{s l}(r:gS h s l)(le:PH.le h h'):gS h' s l:=⟨r.row.mono le,r.len⟩
theorem gS.slen{s l}(r:gS h s l):s.len=l.length:=by have:=r.row.len;grind
structure jW(h:PH)(s:Sl)(l:di):Prop where
 row:cO h s 2 (l.map Aa)
 len:l.length<=8796093022208
theorem jW.mono{s l}(r:jW h s l)(le:PH.le h h'):jW h' s l:=⟨r.row.mono le,r.len⟩
theorem jW.slen{s l}(r:jW h s l):s.len=l.length:=by have:=r.row.len;grind
inductive Pred where
 |mk (op cmp:Int) (left right:OV) (args:List Pred)
abbrev dp:=List Pred
variable{p:Pred}
mutual
def fJ(h:PH):Pred->PV->Prop
 |.mk op c l r args,v=>v.op=op/\v.cmp=c/\v.left=l/\v.right=r/\args.length<=502633886983/\∃d:dz,cO h v.args 13 (d.map PV.enc)/\A0 h args d
def A0(h:PH):dp->dz->Prop
 |[],d=>d=[]
 |p::ps,d=>∃v c,d=v::c/\fJ h p v/\A0 h ps c
end
mutual
theorem fJ.mono{h h':PH}(le:PH.le h h'):∀{p:Pred}{v:PV},fJ h p v->fJ h' p v
 |.mk ..,_,⟨c,d,e,f,g,j,n,s⟩=>⟨c,d,e,f,g,j,n.mono le,A0.mono le s⟩
theorem A0.mono{h h':PH}(le:PH.le h h'):∀{ps:dp}{vs:dz},A0 h ps vs->A0 h' ps vs
 |[],_,h=>h
 |_::_,_,⟨v,c,d,e,f⟩=>⟨v,c,d,fJ.mono le e,A0.mono le f⟩
end
theorem A0.length{h:PH}:∀{ps:dp}{vs:dz},A0 h ps vs->vs.length=ps.length
 |[],_,h=>by rw[show _=[]from h];rfl
 |_::_,_,⟨_,_,c,_,d⟩=>by rw[c];simp[A0.length d]
theorem A0.get{h:PH}:∀{ps:dp}{vs:dz},A0 h ps vs->∀{i:Nat}{p:Pred},ps[i]? =some p->∃v,vs[i]? =some v/\fJ h p v
 |[],_,_,i,p,e=>by simp at e
 |p0::ps,_,⟨v,c,rfl,f,d⟩,0,p,e=>bo
 |p0::ps,_,⟨v,c,rfl,f,d⟩,i+1,p,e=>by simp at e;simpa using A0.get d e
inductive Query where
 |mk (op table:Int) (wher:Pred) (columns:db) (on:dh) (group:db) (order:di) (limit:Int) (args:List Query)
abbrev dl:=List Query
mutual
def cY(h:PH):Query->QV->Prop
 |.mk op table w c on d e f args,v=>v.op=op/\v.table=table/\fJ h w v.where_/\Ints h v.columns c/\gS h v.on on/\Ints h v.group d/\jW h v.order e/\v.limit=f/\
  args.length<=502633886983/\∃g:dw,cO h v.args 21 (g.map QV.enc)/\Ce h args g
def Ce(h:PH):dl->dw->Prop
 |[],d=>d=[]
 |p::ps,d=>∃v c,d=v::c/\cY h p v/\Ce h ps c
end
mutual
theorem cY.mono{h h':PH}(le:PH.le h h'):∀{p:Query}{v:QV},cY h p v->cY h' p v
 |.mk ..,_,⟨e,f,g,j,n,s,t,u,x,y,c,d⟩=>⟨e,f,g.mono le,j.mono le,n.mono le,s.mono le,t.mono le,u,x,y,c.mono le,Ce.mono le d⟩
theorem Ce.mono{h h':PH}(le:PH.le h h'):∀{ps:dl}{vs:dw},Ce h ps vs->Ce h' ps vs
 |[],_,h=>h
 |_::_,_,⟨v,c,d,e,f⟩=>⟨v,c,d,cY.mono le e,Ce.mono le f⟩
end
theorem Ce.length{h:PH}:∀{ps:dl}{vs:dw},Ce h ps vs->vs.length=ps.length
 |[],_,h=>by rw[show _=[]from h];rfl
 |_::_,_,⟨_,_,c,_,d⟩=>by rw[c];simp[Ce.length d]
theorem Ce.get{h:PH}:∀{ps:dl}{vs:dw},Ce h ps vs->∀{i:Nat}{p:Query},ps[i]? =some p->∃v,vs[i]? =some v/\cY h p v
 |[],_,_,i,p,e=>by simp at e
 |p0::ps,_,⟨v,c,rfl,f,d⟩,0,p,e=>bo
 |p0::ps,_,⟨v,c,rfl,f,d⟩,i+1,p,e=>by simp at e;simpa using Ce.get d e
def iv(n:Int):SV:=.at (.val (.int .i64 n))
def sv(s:Sl):SV:=.at (.val (.slice s.a s.len s.cap))
def bv(b:Bool):SV:=.at (.val (.bool b))
def vv(v:Value):SV:=.at (.val v)
def cS(s:Sl):CV:=.val (.slice s.a s.len s.cap)
def cI(n:Int):CV:=.val (.int .i64 n)
def cB(b:Bool):CV:=.val (.bool b)
def cP(b:Nat):CV:=.val (.pointer (some ⟨b,0,none⟩))
def HS(id:Nat)(st:Nat->St)(inv:Nat->Prop)(mu:Nat->Nat):Nat×PU:=(id,{A:=Nat,st:=st,inv:=inv,mu:=mu})
theorem fR(h:i<=140737488355328):IntKind.i64.wrap ((i:Int)+1)=((i+1:Nat):Int):=by
 rw[eM aD aD];rfl
theorem Ints.at{s}(r:Ints h s l){x}(c:l[i]? =some x):∃b o,s.a=some ⟨b,o,none⟩/\bU h b (o+i) [.int .i64 x]:=by
 obtain⟨b,o,d,f⟩:=r.row.get (i:=i) (e:=eI x) (by simp[c]);exact⟨b,o,d,by simpa[eI]using f⟩
theorem MT{p:Prop}(h:p:=by repeat' (first|with_reducible rfl|exact trivial|refine⟨?_,?_⟩|rfl|(rw[fR aD];done)|(rw[fR aD]))):p:=h
def gI(k:Int):=k==3||k==4||k==5
def HI(t:ByteArray):=t.toList==[]
def nI(v:VV):=
 if v.kind==1||v.kind==2 then v.int==0&&HI v.text
 else if v.kind==3 then(v.int==0||v.int==1)&&HI v.text
 else if v.kind==4 then HI v.text
 else if v.kind==5 then v.int==0&&(v.text.size:Int)<=64
 else false
def kM v:=nI v&&v.kind>=3
def aV(v:VV):CV:=.val (.agg #[.int .i64 v.kind,.int .i64 v.int,.string v.text])
def b7X:Vc.Spec:=λc m h K=>∃k,c=[cI k]/\K (cB (gI k)) m h
def RZ:Vc.Spec:=λc m h K=>∃v,c=[aV v]/\K (cB (nI v)) m h
def OR:Vc.Spec:=λc m h K=>∃v,c=[aV v]/\K (cB (kM v)) m h
def Sh:Vc.Spec:=λc m h K=>∃s l,c=[cS s]/\Ints h s l/\K (cB (l.all gI)) m h
noncomputable def cqQ(s:Sl)(l:db)(m:MH)(h:PH):=
 ctx [(123,b7X)] [HS 2 (λi=>bS 15 16 [(5,sv s),(6,iv s.len),(7,iv i)] [] m h) (λi=>i<=l.length/\(l.take i).all gI=true) (λi=>l.length-i)] [] [] false
noncomputable def bKQ(s:Sl)(l:db)(m:MH)(h:PH):=
 ctx [] [HS 2 (λi=>bS 22 23 [(5,sv s),(6,iv s.len),(7,iv i)] [] m h) (λi=>i<=l.length/\(l.take i).all gI=true) (λi=>l.length-i)] [] [] false
abbrev cW a b c d e:=branch a b (branch c d e)
noncomputable abbrev fM:=yF true
attribute [push_cast] cW fM
def Ut(k:Int)(m:MH)(h:PH)(K:da):=
  cW (k==3) (K fM m h) (k==4) (K fM m h) (K (yF (k==5)) m h)
abbrev dO(a b:Int)(c d:Prop):=branch (a==b) c d
noncomputable abbrev EH(a:VV):=a.text.toList
abbrev IQ(a:da)(b:VV)(c:MH)(d:PH):=a (yF (EH b==[])) c d
noncomputable abbrev bB:=yF false
attribute [push_cast] dO EH IQ bB
def Jt v m h K:=
  cW (v.kind==1) (dO v.int 0 (IQ K v m h) (K bB m h)) (v.kind==2) (dO v.int 0 (IQ K v m h) (K bB m h)) (cW (v.kind==3) (cW (v.int==0) (IQ K v m h) (v.int==1) (IQ K v m h) (K bB m h)) (v.kind==4) (IQ K v m h) (dO v.kind 5 (dO v.int 0 (K (yF (decide ((↑v.text.size:Int)<=64))) m h) (K bB m h)) (K bB m h)))
abbrev fT a b c d:=a/\branch b c d
noncomputable abbrev pN(a:CV):=[a]
noncomputable abbrev xO(a:VV):=qK a.enc
noncomputable abbrev rJ a:=pN (xO a)
attribute [push_cast] fT pN xO rJ
def TZ(v:VV)(m:MH)(h:PH)(K:da):=
  ∃(c:VV),fT (rJ v=rJ c) (nI c) (K (yF (decide (v.kind>=3))) m h) (K bB m h)
abbrev dH(a b:Int)(c d:Prop):=branch (a !=b) c d
attribute [push_cast] dH
def T3(v:VV)(m:MH)(h:PH)(K:da):=
  ∃(c:VV),fT (rJ v=rJ c) (nI c) (dH v.kind 1 (K (yF (v.kind !=2)) m h) (K bB m h)) (K bB m h)
abbrev lB(a:Prop)(b:Nat->Prop):=a/\∀(x:Nat),b x
abbrev aA a b c:=a/\b/\c
abbrev AY a:=a=true
noncomputable abbrev Kb a:=List.all a gI
abbrev CO a b:=a<=b.length/\AY (Kb (List.take a b))
abbrev aJ a:=eQ (sQs a)
noncomputable abbrev bP(a:Nat):=fU (↑a:Int)
abbrev bG(a:Sl):=eQ (bP a.len)
abbrev bA a:=fU 0=bP a
abbrev bO(a:Prop)(b c:Nat->Nat->Option Value):=aA a (b=c) True
abbrev aZ(a b:Int)(c d:Prop):=branch (decide (a<b)) c d
noncomputable abbrev aG(a:Sl):=(↑a.len:Int)
abbrev bF(a:Nat->Nat->Prop):=∃(x c:Nat),a x c
abbrev aH a b c d:=aA a b (c/\d)
abbrev aM a b c:=a=Option.some (Addr.mk b c Option.none)
noncomputable abbrev fF(a:Nat)(b:Int)(c:Nat):=a+b.toNat*c
noncomputable abbrev bK(a b c:Nat):=fF a (↑b:Int) c
noncomputable abbrev lJ(a:Value):=[a]
noncomputable abbrev bM a:=lJ (eH a)
noncomputable abbrev kQ a:=pN (fI a)
noncomputable abbrev kE a:=IntKind.wrap IntKind.i64 a
noncomputable abbrev bC(a:Nat)(b:Int):=kE ((↑a:Int)+b)
attribute [push_cast] lB aA AY Kb CO aJ bP bG bA bO aZ aG bF aH aM fF bK lJ bM kQ kE bC
def XU(s:Sl)(l:db)(m:MH)(h:PH)(K:da):=
  lB (∃(x:Nat),aA (CO x l) (aJ s) (aA (bG s) (bA x) (bO (m=m) h h))) (λx=>CO x l->aZ (↑x:Int) (aG s) (bF (λb o=>aH (aM s.a b o) (0<=(↑x:Int)) ((↑x:Int)<aG s) (∃(y:Int),aL m h b (bK o x 1) (bM y)/\∃(k:Int),fT (kQ y=kQ k) (!(gI k)) (K bB m h) (∃(c:Nat),aA (CO c l) (l.length-c<l.length-x) (aA (aJ s) (bG s) (aH (fU (bC x 1)=bP c) (m=m) (h=h) True)))))) (K fM m h))
def TN(s:Sl)(l:db)(m:MH)(h:PH)(K:da):=
  lB (∃(x:Nat),aA (CO x l) (aJ s) (aA (bG s) (bA x) (bO (m=m) h h))) (λx=>CO x l->aZ (↑x:Int) (aG s) (bF (λb o=>aH (aM s.a b o) (0<=(↑x:Int)) ((↑x:Int)<aG s) (∃(y:Int),aL m h b (bK o x 1) (bM y)/\dH y 3 (dH y 4 (dH y 5 (K bB m h) (∃(c:Nat),aA (CO c l) (l.length-c<l.length-x) (aA (aJ s) (bG s) (aH (fU (bC x 1)=bP c) (m=m) (h=h) True)))) (∃(c:Nat),aA (CO c l) (l.length-c<l.length-x) (aA (aJ s) (bG s) (aH (fU (bC x 1)=bP c) (m=m) (h=h) True)))) (∃(c:Nat),aA (CO c l) (l.length-c<l.length-x) (aA (aJ s) (bG s) (aH (fU (bC x 1)=bP c) (m=m) (h=h) True)))))) (K fM m h))
theorem cAJ v m h K:Jt v m h K=yC (ctx [] [] [] [] false) Tryz.f133 (dQ Tryz.f133) (entry Tryz.f133.ntmps [aV v] m h) K:=bh
theorem kD{x y}(c:K (cB x) m h)(e:x=y):K (.val (.bool y)) m h:=e▸c
theorem aLJ{v}(c:K (cB (nI v)) m h):Jt v m h K:=by
 dsimp only[Jt,push_cast]
 repeat' (first|(refine aC (λ_=>?_) (λ_=>?_))|(refine kD c ?_;simp_all [nI,HI]))
theorem gW{f fn}(n:Tryz.prog.funcs[f]? =some fn){S}(j:∀c m h K,S c m h K->∃C:Ctx,C.P=Tryz.prog/\(∀g S,assoc C.specs g=some S->cz g S)/\∃N:Prop,N=yC C fn (dQ fn) (entry fn.ntmps c m h) K/\N)(s:fn.body=some (dQ fn):=by rfl)(d:(fn.name== "runtime.NumGoroutine")=false:=by decide):cz f S:=eG n s d λc m h K t=>let⟨C,hC,hs,N,e,hn⟩:=j c m h K t;⟨C,hC,hs,e▸hn⟩
theorem RF:cz 123 b7X:=by
 refine gW func123 ?_;rintro c m h K ⟨k,rfl,d⟩;refine⟨ctx [] [] [] [] false,rfl,aI,Ut k m h K,bh,?_⟩;dsimp only[Ut,push_cast]
 repeat' (first|(refine aC (λ_=>?_) (λ_=>?_))|(refine kD d ?_;simp_all [gI]))
theorem abZ:cz 210 RZ:=by
 refine gW func210 ?_;rintro c m h K ⟨v,rfl,d⟩;refine⟨ctx [] [] [] [] false,rfl,aI,Jt v m h K,bh,?_⟩;exact aLJ d
theorem RC:cz 133 RZ:=by
 refine eG (fn:=Tryz.f133) (c:=dQ Tryz.f133) func133 rfl bj ?_;rintro d m h K ⟨v,rfl,e⟩;refine⟨ctx [] [] [] [] false,rfl,aI,?_⟩;rw[<-cAJ v m h K];exact aLJ e
theorem Ke:cz 166 OR:=by
 refine gW func166 ?_;rintro c m h K ⟨v,rfl,d⟩;refine⟨ctx [(210,RZ)] [] [] [] false,rfl,aE abZ aI,TZ v m h K,bh,?_⟩;dsimp only[TZ,push_cast];refine⟨v,rfl,?_⟩
 repeat' (first|(refine aC (λ_=>?_) (λ_=>?_))|(refine kD d ?_;simp_all [kM]))
theorem Kf:cz 158 OR:=by
 refine gW func158 ?_;rintro g m h K ⟨v,rfl,e⟩;refine⟨ctx [(133,RZ)] [] [] [] false,rfl,aE RC aI,T3 v m h K,bh,?_⟩;dsimp only[T3,push_cast];refine⟨v,rfl,?_⟩;refine aC (λc=>aC (λd=>kD e ?_) (λd=>kD e ?_)) (λc=>kD e ?_)
 .have d:v.kind≠1:=bo
  by_cases f:v.kind=2
  .simp[kM,c,f]
  .have:3<=v.kind:=by
    simp only[nI]at c
    grind
   simp[kM,c,f,this]
 .have d:v.kind=1:=bo
  simp[kM,d]
 .simp[kM,c]
theorem Cd{α p}{l:List α}{x}(c:l[i]? =some x):(l.take (i+1)).all p=((l.take i).all p&&p x):=by
 rw[cq,all_append,c];simp
theorem PQ{α p}{l:List α}{x}(c:l[i]? =some x)(d:p x=false):l.all p=false:=by
 grind
theorem To:cz 62 Sh:=by
 refine gW func62 ?_;rintro g m h K ⟨s,l,rfl,c,e⟩;refine⟨cqQ s l m h,rfl,aE RF aI,XU s l m h K,bh,?_⟩;dsimp only[XU,push_cast];have A:=c.slen;have D:=c.len;refine⟨⟨0,⟨aD,bi⟩,rfl,rfl,rfl,rfl,rfl,trivial⟩,λi j=>aF (λd=>?_) (λn=>?_)⟩
 .obtain⟨x,f⟩:∃x,l[i]? =some x:=⟨l[i]'(by omega),cd _⟩
  obtain⟨t,u,y,E⟩:=c.at f;refine⟨t,u,y,aD,d,x,.imm bo,x,rfl,aC (λz=>kD e ?_) (λz=>?_)⟩
  .grind
  .refine⟨i+1,⟨aD,?_⟩,aD,rfl,rfl,by rw[fR aD],rfl,rfl,trivial⟩;rw[Cd f,j.2]
   grind
 .refine kD e ?_
  grind
theorem ahZ:cz 184 Sh:=by
 refine gW func184 ?_;rintro n m h K ⟨s,l,rfl,d,j⟩;refine⟨bKQ s l m h,rfl,aI,TN s l m h K,bh,?_⟩;dsimp only[TN,push_cast];have E:=d.slen;have F:=d.len;refine⟨⟨0,⟨aD,bi⟩,rfl,rfl,rfl,rfl,rfl,trivial⟩,λi t=>aF (λe=>?_) (λu=>?_)⟩
 .obtain⟨x,f⟩:∃x,l[i]? =some x:=⟨l[i]'(by omega),cd _⟩
  obtain⟨z,A,D,G⟩:=d.at f;have c:gI x=true->(l.take (i+1)).all gI=true:=λg=>by rw[Cd f,t.2,g];rfl
  refine⟨z,A,D,aD,e,x,.imm bo,?_⟩;have next:gI x=true->∃(y:Nat),(y<=l.length/\(l.take y).all gI=true)/\l.length-y<l.length-i/\y=i+1:=λg=>⟨i+1,⟨aD,c g⟩,aD,rfl⟩
  repeat' (first|(refine aC (λ_=>?_) (λ_=>?_))|(refine kD j (PQ f ?_);simp_all [gI];done)|(refine⟨i+1,⟨aD,c (by simp_all [gI])⟩,aD,rfl,rfl,by rw[fR aD],rfl,rfl,trivial⟩))
 .refine kD j ?_
  grind
def Zl(a b:VV):=a.kind==b.kind&&(a.int==b.int&&(a.text.toList==b.text.toList&&true))
def eqO(a b:OV):=a.kind==b.kind&&(a.index==b.index&&(Zl a.value b.value&&true))
theorem oP{f e d xs c w x y r r'}(g:(f.name== "_")=false)(j:Ci Tryz.prog (part f.type xs f.offset)=some x)(n:Ci Tryz.prog (part f.type c f.offset)=some y)(s:(Op.equalIn d f.type x y).run Tryz.prog w= .ok r w)(t:(Op.eqFields d xs c e).run Tryz.prog w= .ok r' w):(Op.eqFields d xs c (f::e)).run Tryz.prog w= .ok (r&&r') w:=by
 have g:f.name≠ "_" :=bo
 simp only[Op.eqFields,if_pos g,Sem.run_bind,DE _ _ _ j,DE _ _ _ n,Result.andThen_ok,s];cases r
 .simp
 grind
noncomputable def Su t k:=(Tryz.prog.fieldsOf t).toList.getD k default
theorem aNX a b d w:(Op.equalIn (d+2) 30 (.agg #[.int .i64 a.kind,.int .i64 a.int,.string a.text]) (.agg #[.int .i64 b.kind,.int .i64 b.int,.string b.text])).run Tryz.prog w= .ok (Zl a b) w:=by
 rw[run_equalIn_struct w (d+1) 30 _ _ bh bh,show(Tryz.prog.fieldsOf 30).toList=[Su 30 0,Su 30 1,Su 30 2]by kernel_rfl];refine oP (x:=.int .i64 a.kind) (y:=.int .i64 b.kind) bh bh bh (run_equalIn_int w d _ .i64 .i64 _ _ bh) ?_;refine oP (x:=.int .i64 a.int) (y:=.int .i64 b.int) bh bh bh (run_equalIn_int w d _ .i64 .i64 _ _ bh) ?_;refine oP (x:=.string a.text) (y:=.string b.text) bh bh bh (run_equalIn_string w d _ _ _ bh) ?_;simp[Op.eqFields]
theorem cCZ a b d w:(Op.equalIn (d+3) 32 (.agg #[.int .i64 a.kind,.int .i64 a.index,.int .i64 a.value.kind,.int .i64 a.value.int,.string a.value.text]) (.agg #[.int .i64 b.kind,.int .i64 b.index,.int .i64 b.value.kind,.int .i64 b.value.int,.string b.value.text])).run Tryz.prog w= .ok (eqO a b) w:=by
 rw[run_equalIn_struct w (d+2) 32 _ _ bh bh,show(Tryz.prog.fieldsOf 32).toList=[Su 32 0,Su 32 1,Su 32 2]by kernel_rfl];refine oP (x:=.int .i64 a.kind) (y:=.int .i64 b.kind) bh bh bh (run_equalIn_int w (d+1) _ .i64 .i64 _ _ bh) ?_;refine oP (x:=.int .i64 a.index) (y:=.int .i64 b.index) bh bh bh (run_equalIn_int w (d+1) _ .i64 .i64 _ _ bh) ?_;refine oP (x:=.agg #[.int .i64 a.value.kind,.int .i64 a.value.int,.string a.value.text]) (y:=.agg #[.int .i64 b.value.kind,.int .i64 b.value.int,.string b.value.text]) bh bh bh ?_ ?_
 .rw[show(Su 32 2).type=30 by kernel_rfl];exact aNX a.value b.value d w
 .simp[Op.eqFields]
theorem Mh a b:StructEq Tryz.prog 30 (.agg #[.int .i64 a.kind,.int .i64 a.int,.string a.text]) (.agg #[.int .i64 b.kind,.int .i64 b.int,.string b.text]) (Zl a b):=
 ⟨bh,λw=>aNX a b 9998 w⟩
theorem BY a b:StructEq Tryz.prog 32 (.agg #[.int .i64 a.kind,.int .i64 a.index,.int .i64 a.value.kind,.int .i64 a.value.int,.string a.value.text]) (.agg #[.int .i64 b.kind,.int .i64 b.index,.int .i64 b.value.kind,.int .i64 b.value.int,.string b.value.text]) (eqO a b):=
 ⟨bh,λw=>cCZ a b 9997 w⟩
theorem Dy{a b:ByteArray}(h:a.toList=b.toList):a=b:=by
 rw[ByteArray.toList_eq,ByteArray.toList_eq]at h;cases a;cases b;simp only[ByteArray.mk.injEq];exact Array.toList_inj.1 h
theorem G6{a b}:Zl a b=true↔a=b:=by
 obtain⟨k,i,t⟩:=a;obtain⟨f,g,j⟩:=b;simp only[Zl,Bool.and_true,cm,beq_iff_eq,VV.mk.injEq];exact⟨λ⟨c,d,e⟩=>⟨c,d,Dy e⟩,λ⟨c,d,e⟩=>⟨c,d,by rw[e]⟩⟩
theorem vL{a b}:eqO a b=true↔a=b:=by
 obtain⟨k,i,t⟩:=a;obtain⟨c,d,e⟩:=b;simp only[eqO,Bool.and_true,cm,beq_iff_eq,OV.mk.injEq,G6]
def zeroV:VV:=⟨0,0,⟨#[]⟩⟩
def fQ:OV:=⟨0,0,zeroV⟩
def sT(l:db)(o:OV):=if o.index<0||o.index>=l.length|| !Zl o.value zeroV then 0 else l.getD o.index.toNat 0
def kindOf cols params o:=
 if o.kind==3 then(if o.index !=0|| !kM o.value then 0 else o.value.kind)
 else if o.kind==2 then sT params o
 else if o.kind==1 then sT cols o
 else 0
def Af(v:PV):=v.cmp==0&&eqO v.left fQ&&eqO v.right fQ
def aO(o:OV):CV:=.val (.agg #[.int .i64 o.kind,.int .i64 o.index,.int .i64 o.value.kind,.int .i64 o.value.int,.string o.value.text])
def aP(p:PV):CV:=.val (.agg #[.int .i64 p.op,.int .i64 p.cmp,
 .int .i64 p.left.kind,.int .i64 p.left.index,.int .i64 p.left.value.kind,.int .i64 p.left.value.int,.string p.left.value.text,
 .int .i64 p.right.kind,.int .i64 p.right.index,.int .i64 p.right.value.kind,.int .i64 p.right.value.int,.string p.right.value.text,
 .slice p.args.a p.args.len p.args.cap])
def a2S(s t:Sl):CV:=.val (.agg #[.slice s.a s.len s.cap,.slice t.a t.len t.cap])
def b5Q:Vc.Spec:=λc m h K=>∃v,c=[aP v]/\K (cB (Af v)) m h
def aTZ:Vc.Spec:=λe m h K=>∃s t d c o,e=[cS s,cS t,aO o]/\Ints h s d/\Ints h t c/\K (cI (kindOf d c o)) m h
def Zf:Vc.Spec:=λe m h K=>∃s t d c o,e=[a2S s t,aO o]/\Ints h s d/\Ints h t c/\K (cI (kindOf d c o)) m h
abbrev pI a b c d:=StructEq Proofs.Tryz.prog a (Value.agg (Array.mk b)) (Value.agg (Array.mk c)) d
noncomputable abbrev aU(a b:Value)(c:dc):=a::b::c
noncomputable abbrev dD:=eH 0
noncomputable abbrev GD:=aU dD dD (aU dD dD (lJ Sv))
attribute [push_cast] pI aU dD GD
def TO(v:PV)(m:MH)(h:PH)(K:da):=
  dO v.cmp 0 (∃(r:Bool),fT (pI 32 v.left.enc GD r) r (∃(c:Bool),pI 32 v.right.enc GD c/\K (yF c) m h) (K bB m h)) (K bB m h)
noncomputable abbrev tD(a:OV):=a.value.kind
abbrev gQ(a b:Int)(c d:Prop):=branch (decide (a>=b)) c d
noncomputable abbrev AL:=aU dD dD (lJ Sv)
attribute [push_cast] tD gQ AL
def JB(s t:Sl)(o:OV)(m:MH)(h:PH)(K:da):=
  cW (o.kind==3) (dH o.index 0 (K (fI 0) m h) (∃(v:VV),fT (rJ o.value=rJ v) (!(kM v)) (K (fI 0) m h) (K (fI (tD o)) m h))) (o.kind==2) (aZ o.index 0 (K (fI 0) m h) (gQ o.index (aG t) (K (fI 0) m h) (∃(r:Bool),fT (pI 30 o.value.enc AL r) (!r) (K (fI 0) m h) (bF (λb c=>aH (aM t.a b c) (0<=o.index) (o.index<aG t) (∃(y:Int),aL m h b (fF c o.index 1) (bM y)/\K (fI y) m h)))))) (dO o.kind 1 (aZ o.index 0 (K (fI 0) m h) (gQ o.index (aG s) (K (fI 0) m h) (∃(r:Bool),fT (pI 30 o.value.enc AL r) (!r) (K (fI 0) m h) (bF (λb c=>aH (aM s.a b c) (0<=o.index) (o.index<aG s) (∃(y:Int),aL m h b (fF c o.index 1) (bM y)/\K (fI y) m h)))))) (K (fI 0) m h))
theorem B3{x y}(c:K (cI x) m h)(e:x=y):K (.val (.int .i64 y)) m h:=e▸c
theorem Ints.inb{s}(r:Ints h s l){n}(d:0<=n)(f:n<(l.length:Int)):∃b o,s.a=some ⟨b,o,none⟩/\bU h b (o+n.toNat*1) [.int .i64 (l.getD n.toNat 0)]:=by
 have c:l[n.toNat]? =some (l.getD n.toNat 0):=by
  grind
 obtain⟨b,o,e,r⟩:=r.at c
 grind
theorem aMX{s t cols params o}(z:Ints h s cols)(A:Ints h t params)(c:K (cI (kindOf cols params o)) m h):JB s t o m h K:=by
 have D:=z.slen;have E:=A.slen;dsimp only[JB,push_cast];refine aC (λF=>aC (λx=>B3 c ?_) (λx=>⟨o.value,rfl,aC (λd=>B3 c ?_) (λd=>B3 c ?_)⟩)) (λF=>aC (λx=>?_) (λx=>aC (λd=>?_) (λd=>B3 c ?_)))
 .simp_all [kindOf]
 .simp_all [kindOf]
 .simp_all [kindOf]
 .have y:kindOf cols params o=sT params o:=by simp_all [kindOf]
  rw[y]at c;refine aF (λd=>B3 c ?_) (λd=>aF (λg=>B3 c ?_) (λg=>⟨Zl o.value zeroV,Mh o.value zeroV,aC (λf=>B3 c ?_) (λf=>?_)⟩))
  .simp[sT,d]
  .rw[E]at g;simp[sT,g]
  .simp only[Bool.not_eq_true']at f;simp[sT,f]
  .obtain⟨b,j,e,r⟩:=A.inb (n:=o.index) aD aD;refine⟨b,j,e,aD,aD,_,.imm r,B3 c ?_⟩;have u:¬o.index>=params.length:=by omega
   simp only[Bool.not_eq_false']at f;simp[sT,d,u,f]
 .have y:kindOf cols params o=sT cols o:=by simp_all [kindOf]
  rw[y]at c;refine aF (λd=>B3 c ?_) (λd=>aF (λg=>B3 c ?_) (λg=>⟨Zl o.value zeroV,Mh o.value zeroV,aC (λf=>B3 c ?_) (λf=>?_)⟩))
  .simp[sT,d]
  .rw[D]at g;simp[sT,g]
  .simp only[Bool.not_eq_true']at f;simp[sT,f]
  .obtain⟨b,j,e,r⟩:=z.inb (n:=o.index) aD aD;refine⟨b,j,e,aD,aD,_,.imm r,B3 c ?_⟩;have u:¬o.index>=cols.length:=by omega
   simp only[Bool.not_eq_false']at f;simp[sT,d,u,f]
 .simp_all [kindOf]
theorem aiX:cz 179 b5Q:=by
 refine gW func179 ?_;rintro d m h K ⟨v,rfl,c⟩;refine⟨ctx [] [] [] [] false,rfl,aI,TO v m h K,bh,?_⟩;dsimp only[TO,push_cast];refine aC (λe=>⟨eqO v.left fQ,BY v.left fQ,aC (λf=>⟨eqO v.right fQ,BY v.right fQ,kD c ?_⟩) (λf=>kD c ?_)⟩) (λe=>kD c ?_)
 all_goals simp_all [Af]
theorem aiQ:cz 180 aTZ:=by
 refine gW func180 ?_;rintro e m h K ⟨s,t,d,c,o,rfl,f,g,j⟩;refine⟨ctx [(166,OR)] [] [] [] false,rfl,aE Ke aI,JB s t o m h K,bh,?_⟩;exact aMX f g j
theorem aaX:cz 235 Zf:=by
 refine gW func235 ?_;rintro e m h K ⟨s,t,d,c,o,rfl,f,g,j⟩;refine⟨ctx [(158,OR)] [] [] [] false,rfl,aE Kf aI,JB s t o m h K,bh,?_⟩;exact aMX f g j
def Pred.args:Pred->dp
 |.mk _ _ _ _ l=>l
mutual
def sM:Pred->Int->Int
 |.mk _ _ _ _ args,n=>mX args (n+1)
def mX:dp->Int->Int
 |[],n=>n
 |p::ps,n=>if n<=24 then mX ps (sM p n)else n
end
mutual
def pL:Pred->Nat->Bool
 |.mk _ _ _ _ _,0=>true
 |.mk _ _ _ _ args,n+1=>yE args n
def yE:dp->Nat->Bool
 |[],_=>false
 |p::ps,n=>pL p n||yE ps n
end
mutual
theorem F2:∀(p:Pred)(n:Int),n<=24->n<sM p n/\sM p n<=25
 |.mk _ _ _ _ args,n,h=>by
  have:=JN args (n+1) aD;simp only[sM];omega
theorem JN:∀(ps:dp)(n:Int),n<=25->n<=mX ps n/\mX ps n<=25
 |[],n,h=>by simp only[mX];omega
 |p::ps,n,h=>by
  simp only[mX];split
  .rename_i c;have d:=F2 p n c;have e:=JN ps (sM p n) d.2;omega
  .omega
end
theorem Vu ps{n}(h:¬n<=24):mX ps n=n:=by
 cases ps
 .simp[mX]
 .simp only[mX,if_neg h]
theorem Mp(n:Nat):∀ps:dp,yE ps n=ps.any (pL · n)
 |[]=>by simp[yE]
 |p::ps=>by simp[yE,Mp n ps]
theorem yW{p:Pred}{q}(h:q∈p.args):SizeOf.sizeOf q<SizeOf.sizeOf p:=by
 cases p with
 |mk op c l r args=>
  have:=sizeOf_lt_of_mem h;simp only[Pred.args]at this
  grind
theorem fJ.open{v}(r:fJ h p v):p.args.length<=502633886983/\v.args.len=p.args.length/\∀(i:Nat)(q:Pred),p.args[i]? =some q->∃b o u,v.args.a=some ⟨b,o,none⟩/\bU h b (o+i*13) (PV.enc u)/\fJ h q u:=by
 cases p with
 |mk op f l s args=>
  obtain⟨t,x,y,z,g,A,c,d⟩:=r;have D:=d.length;refine⟨g,?_,λi q j=>?_⟩
  .have:=c.len;simp at this;simp only[Pred.args];omega
  .obtain⟨u,n,E⟩:=d.get j;obtain⟨b,o,e,r⟩:=c.get (i:=i) (e:=PV.enc u) (by simp[n])
   grind
def aAZ(N:Nat):Vc.Spec:=λc m h K=>∃v p k,c=[aP v,cI k]/\fJ h p v/\SizeOf.sizeOf p<N/\0<=k/\k<=24/\K (cI (sM p k)) m h
def Wm(N:Nat):Vc.Spec:=λc m h K=>∃v p,∃k:Nat,c=[aP v,cI k]/\fJ h p v/\SizeOf.sizeOf p<N/\k<=100/\K (cB (pL p k)) m h
noncomputable def bRX(N:Nat)(v:PV)(p:Pred)(k:Int)(m:MH)(h:PH):=
 ctx [(129,aAZ N)] [(3,{A:=Nat×Int,st:=λx=>bS 27 29 [(1,iv x.2),(2,.at (.ptr 2 0)),(5,iv x.1)] [(2,.cells 35 (v.enc.map .val))] m h,inv:=λx=>x.1<=p.args.length/\0<=x.2/\x.2<=25/\mX (p.args.drop x.1) x.2=sM p k,mu:=λx=>p.args.length-x.1})] [] [] false
noncomputable def bRQ(N:Nat)(v:PV)(p:Pred)(k:Nat)(m:MH)(h:PH):=
 ctx [(130,Wm N)] [HS 4 (λi=>bS 23 25 [(1,iv k),(2,.at (.ptr 2 0)),(10,iv v.args.len),(11,iv i)] [(2,.cells 35 (v.enc.map .val))] m h) (λi=>i<=p.args.length/\(p.args.take i).any (pL · (k-1))=false) (λi=>p.args.length-i)] [] [] false
abbrev GV(a:Nat)(b:Pred):=a<=b.args.length
abbrev Ph(a:Nat×Int)(b:Pred)(c d:Int):=aH (GV a.1 b) (0<=a.2) (a.2<=c) (mX (List.drop a.1 b.args) a.2=sM b d)
abbrev dV a b:=fU a=fU b
abbrev eD:=eP 2
noncomputable abbrev qO a b:=oQ a (List.map At.val b)
abbrev hX(a:PV):=eQ (qO 35 a.enc)
abbrev EI(a b:Int)(c d:Prop):=branch (decide (a<=b)) c d
abbrev tM(a:PV->Pred->Prop):=∃(x:PV)(c:Pred),a x c
noncomputable abbrev aX a b:=a::pN b
noncomputable abbrev cA a b:=aX a (fI b)
noncomputable abbrev fL(a:PV):=qK a.enc
abbrev uQ(a:Pred)(b:Nat):=SizeOf.sizeOf a<b
abbrev cF(a:Int):=0<=a
attribute [push_cast] GV Ph dV eD qO hX EI tM aX cA fL uQ cF
def Uo(N:Nat)(v:PV)(p:Pred)(k:Int)(m:MH)(h:PH)(K:da):=
  (∃(x:Nat×Int),aA (Ph x p 25 k) (dV (kE (k+1)) x.2) (aA eD (bA x.1) (aH (hX v) (m=m) (h=h) True)))/\∀(x:Nat×Int),Ph x p 25 k->aZ (↑x.1:Int) (aG v.args) (EI x.2 24 (bF (λb o=>aH (aM v.args.a b o) (0<=(↑x.1:Int)) ((↑x.1:Int)<aG v.args) (∃(y:PV),aL m h b (bK o x.1 13) y.enc/\tM (λf e=>∃(c:Int),aA (cA (fL y) x.2=cA (fL f) c) (fJ h e f) (aA (uQ e N) (cF c) (c<=24/\∃(d:Nat×Int),aA (Ph d p 25 k) (p.args.length-d.1<p.args.length-x.1) (aA (dV (sM e c) d.2) eD (aA (fU (bC x.1 1)=bP d.1) (hX v) (aA (m=m) (h=h) True))))))))) (K (fI x.2) m h)) (K (fI x.2) m h)
abbrev Pj(a:Nat)(b:Pred)(c:Pred->Pred)(d:Nat):=GV a b/\List.any (List.take a b.args) (fun(x:Pred)=>pL (c x) (d-1))=false
abbrev sO(a:PV):=bG a.args
abbrev bQ(a b:PH):=a=b/\True
attribute [push_cast] Pj sO bQ
def Um(N:Nat)(v:PV)(p:Pred)(k:Nat)(m:MH)(h:PH)(K:da):=
  dO (↑k:Int) 0 (K fM m h) (lB (∃(x:Nat),aA (Pj x p (λc=>c) k) (eQ (bP k)) (aA eD (sO v) (aA (bA x) (hX v) (aA (m=m) (h=h) True)))) (λx=>Pj x p (λc=>c) k->aZ (↑x:Int) (aG v.args) (bF (λb o=>aH (aM v.args.a b o) (0<=(↑x:Int)) ((↑x:Int)<aG v.args) (∃(y:PV),aL m h b (bK o x 13) y.enc/\tM (λg d=>∃(e:Nat),aA (cA (fL y) (kE ((↑k:Int)-1))=cA (fL g) (↑e:Int)) (fJ h d g) (aA (uQ d N) (e<=100) (branch (pL d e) (K fM m h) (∃(f:Nat),aA (Pj f p (λc=>c) k) (p.args.length-f<p.args.length-x) (aA (eQ (bP k)) eD (aA (sO v) (fU (bC x 1)=bP f) (aA (hX v) (m=m) (bQ h h))))))))))) (K bB m h)))
theorem Yz:∀N,cz 129 (aAZ N)
 |0=>by
  refine eG (fn:=Tryz.f129) (c:=dQ Tryz.f129) func129 rfl bj ?_;rintro j m h K ⟨v,p,k,rfl,y,E,_⟩;omega
 |N+1=>by
  refine gW func129 ?_;rintro j m h K ⟨v,p,k,rfl,y,E,M,O,z⟩;refine⟨bRX N v p k m h,rfl,aE (Yz N) aI,Uo N v p k m h K,bh,?_⟩;dsimp only[Uo,push_cast];obtain⟨Q,A,e⟩:=y.open;refine⟨⟨(0,k+1),⟨bi,bn,bn,?_⟩,by rw[eM aD aD],rfl,rfl,rfl,rfl,rfl,trivial⟩,?_⟩
  .cases p;simp[sM,Pred.args]
  rintro⟨i,n⟩ ⟨F,f,s,g⟩;simp only at F f s g;refine aF (λt=>aF (λd=>?_) (λd=>B3 z ?_)) (λG=>B3 z ?_)
  .simp only at t d;obtain⟨q,D⟩:∃q,p.args[i]? =some q:=⟨p.args[i]'(by omega),cd _⟩
   obtain⟨b,o,u,H,I,x⟩:=e i q D
   have J:p.args.drop i=q::p.args.drop (i+1):=by
    rw[drop_eq_getElem_cons aD];grind
   have R:=F2 q n d;refine⟨b,o,H,bi,aD,u,.imm bo,u,q,n,rfl,x,?_,f,d,(i+1,sM q n),⟨aD,aD,aD,?_⟩,aD,rfl,rfl,by rw[fR aD],rfl,rfl,rfl,trivial⟩
   .have:=yW (ce D);omega
   .rw[J,mX,if_pos d]at g;exact g
  .rw[<-g,Vu _ d]
  .rw[<-g,drop_of_length_le aD];simp[mX]
theorem Yx:∀N,cz 130 (Wm N)
 |0=>by
  refine eG (fn:=Tryz.f130) (c:=dQ Tryz.f130) func130 rfl bj ?_;rintro f m h K ⟨v,p,k,rfl,t,A,_⟩;omega
 |N+1=>by
  refine gW func130 ?_;rintro f m h K ⟨v,p,k,rfl,t,A,I,e⟩;refine⟨bRQ N v p k m h,rfl,aE (Yx N) aI,Um N v p k m h K,bh,?_⟩;dsimp only[Um,push_cast];obtain⟨J,x,d⟩:=t.open;refine aC (λy=>kD e ?_) (λy=>?_)
  .have:k=0:=bo
   subst this;cases p;simp[pL]
  .have y:k≠0:=bo
   have g:pL p k=p.args.any (pL · (k-1)):=by
    obtain⟨z,rfl⟩:∃z,k=z+1:=⟨k-1,aD⟩
    cases p;simp[pL,Mp,Pred.args]
   rw[g]at e;refine⟨⟨0,⟨aD,bi⟩,rfl,rfl,rfl,rfl,rfl,rfl,rfl,trivial⟩,λi D=>aF (λj=>?_) (λE=>kD e ?_)⟩
   .obtain⟨q,n⟩:∃q,p.args[i]? =some q:=⟨p.args[i]'(by omega),cd _⟩
    obtain⟨b,o,u,F,G,s⟩:=d i q n;refine⟨b,o,F,aD,j,u,.imm bo,u,q,k-1,?_,s,?_,aD,aC (λH=>kD e ?_) (λH=>?_)⟩
    .rw[eM aD aD,show((k-1:Nat):Int)=(k:Int)-1 by omega]
    .have:=yW (ce n);omega
    .grind
    .refine⟨i+1,⟨aD,?_⟩,aD,rfl,rfl,rfl,by rw[fR aD],rfl,rfl,rfl,trivial⟩;rw[cq,any_append,D.2,n];grind
   grind
def HG(c:Int)(l r:OV):=c==0&&eqO l fQ&&eqO r fQ
mutual
def kH(cols params:db):Pred->Bool
 |.mk op c l r args=>
  if op==1||op==2 then HG c l r&&args.length==0
  else if op==3 then args.length==0&&c>=1&&c<=6&&kindOf cols params l !=0&&kindOf cols params l==kindOf cols params r
  else if op==4||op==5||(op==6&&args.length==1)then HG c l r&&z6 cols params args
  else false
def z6(cols params:db):dp->Bool
 |[]=>true
 |p::ps=>kH cols params p&&z6 cols params ps
end
theorem Hy(cols params:db):∀ps:dp,z6 cols params ps=ps.all (kH cols params)
 |[]=>by simp[z6]
 |p::ps=>by simp[z6,Hy cols params ps]
structure O4(cols params:db)(v:PV)(p:Pred):Prop where
 eq:kH cols params p=(Af v&&p.args.all (kH cols params))
def Wa(N:Nat):Vc.Spec:=λe m h K=>∃s t d c v p,e=[cS s,cS t,aP v]/\Ints h s d/\Ints h t c/\fJ h p v/\SizeOf.sizeOf p<N/\K (cB (kH d c p)) m h
def R0(N:Nat):Vc.Spec:=λe m h K=>∃s t d c v p,e=[a2S s t,aP v]/\Ints h s d/\Ints h t c/\fJ h p v/\SizeOf.sizeOf p<N/\K (cB (kH d c p)) m h
noncomputable def bQJ N s t cols params v p m h:=
 ctx [(131,Wa N),(179,b5Q),(180,aTZ)] [HS 17 (λi=>bS 84 87 [(0,sv s),(1,sv t),(5,.at (.ptr 5 0)),(70,iv v.args.len),(71,iv i)] [(5,.cells 35 (v.enc.map .val))] m h) (λi=>i<=p.args.length/\(p.args.take i).all (kH cols params)=true) (λi=>p.args.length-i)] [(14,{A:=Unit,st:=λ_=>bS 84 87 [(0,sv s),(1,sv t),(5,.at (.ptr 5 0))] [(5,.cells 35 (v.enc.map .val))] m h,inv:=λ_=>O4 cols params v p})] [] false
noncomputable def bJZ(N:Nat)(s t:Sl)(cols params:db)(v:PV)(p:Pred)(m:MH)(h:PH):=
 ctx [(186,R0 N),(235,Zf)] [HS 18 (λi=>bS 87 89 [(2,.at (.ptr 2 0)),(3,.at (.ptr 3 0)),(76,sv v.args),(77,iv v.args.len),(78,iv i)] [(2,.cells 239 [.val (.slice s.a s.len s.cap),.val (.slice t.a t.len t.cap)]),(3,.cells 35 (v.enc.map .val))] m h) (λi=>i<=p.args.length/\(p.args.take i).all (kH cols params)=true) (λi=>p.args.length-i)] [(15,{A:=Unit,st:=λ_=>bS 87 89 [(2,.at (.ptr 2 0)),(3,.at (.ptr 3 0))] [(2,.cells 239 [.val (.slice s.a s.len s.cap),.val (.slice t.a t.len t.cap)]),(3,.cells 35 (v.enc.map .val))] m h,inv:=λ_=>O4 cols params v p})] [] false
noncomputable abbrev tS a:=pN (fL a)
noncomputable abbrev wY(a:PV):=aG a.args
abbrev gL(a:Sl->Sl->Prop):=∃(x c:Sl),a x c
abbrev tC(a:db->db->Prop):=∃(x c:db),a x c
abbrev KZ(a:du)(b:Sl->Sl->OV->du)(c:PH)(d:db->db->OV->Prop):=gL (λx e=>tC (λf g=>∃(j:OV),aH (a=b x e j) (Ints c x f) (Ints c e g) (d f g j)))
noncomputable abbrev lZ(a:OV):=qK a.enc
abbrev dU:=eP 5
abbrev Gn a b c d:=GV a b/\AY (List.all (List.take a b.args) (kH c d))
attribute [push_cast] tS wY gL tC KZ lZ dU Gn
def Ul(N:Nat)(s t:Sl)(cols params:db)(v:PV)(p:Pred)(m:MH)(h:PH)(K:da):=
  cW (v.op==1) (∃(d:PV),fT (tS v=tS d) (Af d) (K (yF (wY v==0)) m h) (K bB m h)) (v.op==2) (∃(d:PV),fT (tS v=tS d) (Af d) (K (yF (wY v==0)) m h) (K bB m h)) (cW (v.op==3) (KZ (cM s::aX (cM t) (lZ v.left)) (λe f o=>cM e::aX (cM f) (lZ o)) h (λc g o=>dO (wY v) 0 (gQ v.cmp 1 (EI v.cmp 6 (dH (kindOf c g o) 0 (KZ (cM s::aX (cM t) (lZ v.right)) (λe f n=>cM e::aX (cM f) (lZ n)) h (λA j n=>K (yF (kindOf c g o==kindOf A j n)) m h)) (K bB m h)) (K bB m h)) (K bB m h)) (K bB m h))) (v.op==4) (∃(x:Unit),aA (O4 cols params v p) (aJ s) (aA (aJ t) dU (aH (hX v) (m=m) (h=h) True))) (cW (v.op==5) (∃(x:Unit),aA (O4 cols params v p) (aJ s) (aA
 (aJ t) dU (aH (hX v) (m=m) (h=h) True))) (v.op==6) (dH (wY v) 1 (K bB m h) (∃(x:Unit),aA (O4 cols params v p) (aJ s) (aA (aJ t) dU (aH (hX v) (m=m) (h=h) True)))) (K bB m h)))/\∀(_:Unit),O4 cols params v p->∃(d:PV),fT (tS v=tS d) (!(Af d)) (K bB m h) (lB (∃(x:Nat),aA (Gn x p cols params) (aJ s) (aA (aJ t) dU (aA (sO v) (bA x) (aA (hX v) (m=m) (bQ h h))))) (λx=>Gn x p cols params->aZ (↑x:Int) (aG v.args) (bF (λb o=>aH (aM v.args.a b o) (0<=(↑x:Int)) ((↑x:Int)<aG v.args) (∃(y:PV),aL m h b (bK o x 13) y.enc/\gL (λe f=>tC (λc g=>tM (λz j=>aA (cM s::aX (cM t) (fL y)=cM e::aX (cM f) (fL z)) (Ints h e c) (aA (Ints h f g) (fJ
 h j z) (fT (uQ j N) (!(kH c g j)) (K bB m h) (∃(u:Nat),aA (Gn u p cols params) (p.args.length-u<p.args.length-x) (aA (aJ s) (aJ t) (aA dU (sO v) (aA (fU (bC x 1)=bP u) (hX v) (bO (m=m) h h))))))))))))) (K fM m h)))
noncomputable abbrev lE a b:=aU a b []
noncomputable abbrev sE a b:=qK (lE (gP a) (gP b))
abbrev cH:=eP 3
noncomputable abbrev fC(a b:At)(c:dv):=a::b::c
noncomputable abbrev j9 a b:=fC a b []
abbrev En a b:=eQ (oQ 239 (j9 (nX a) (nX b)))
attribute [push_cast] lE sE cH fC j9 En
def TL(N:Nat)(s t:Sl)(cols params:db)(v:PV)(p:Pred)(m:MH)(h:PH)(K:da):=
  cW (v.op==3) (KZ (aX (sE s t) (lZ v.left)) (λd e o=>aX (sE d e) (lZ o)) h (λc f o=>KZ (aX (sE s t) (lZ v.right)) (λd e j=>aX (sE d e) (lZ j)) h (λA g j=>dO (wY v) 0 (gQ v.cmp 1 (EI v.cmp 6 (dH (kindOf c f o) 0 (K (yF (kindOf c f o==kindOf A g j)) m h) (K bB m h)) (K bB m h)) (K bB m h)) (K bB m h)))) (v.op==1) (dH (wY v) 0 (K bB m h) (∃(x:Unit),aA (O4 cols params v p) eD (aA cH (En s t) (aH (hX v) (m=m) (h=h) True)))) (cW (v.op==2) (dH (wY v) 0 (K bB m h) (∃(x:Unit),aA (O4 cols params v p) eD (aA cH (En s t) (aH (hX v) (m=m) (h=h) True)))) (v.op==6) (dH (wY v) 1 (K bB m h) (∃(x:Unit),aA (O4 cols params v p) eD (aA cH
 (En s t) (aH (hX v) (m=m) (h=h) True)))) (cW (v.op==4) (∃(x:Unit),aA (O4 cols params v p) eD (aA cH (En s t) (aH (hX v) (m=m) (h=h) True))) (v.op==5) (∃(x:Unit),aA (O4 cols params v p) eD (aA cH (En s t) (aH (hX v) (m=m) (h=h) True))) (K bB m h)))/\∀(_:Unit),O4 cols params v p->dH v.cmp 0 (K bB m h) (∃(r:Bool),fT (pI 32 v.left.enc GD r) (!r) (K bB m h) (∃(u:Bool),fT (pI 32 v.right.enc GD u) (!u) (K bB m h) (lB (∃(x:Nat),aA (Gn x p cols params) eD (aA cH (aJ v.args) (aA (sO v) (bA x) (aA (En s t) (hX v) (bO (m=m) h h))))) (λx=>Gn x p cols params->aZ (↑x:Int) (aG v.args) (bF (λb o=>aH (aM v.args.a b o) (0<=(↑x:Int)) ((↑x:Int)<aG v.args) (∃
 (y:PV),aL m h b (bK o x 13) y.enc/\gL (λd e=>tC (λc f=>tM (λz g=>aA (aX (sE s t) (fL y)=aX (sE d e) (fL z)) (Ints h d c) (aA (Ints h e f) (fJ h g z) (fT (uQ g N) (!(kH c f g)) (K bB m h) (∃(n:Nat),aA (Gn n p cols params) (p.args.length-n<p.args.length-x) (aA eD cH (aA (aJ v.args) (bG v.args) (aA (fU (bC x 1)=bP n) (En s t) (aH (hX v) (m=m) (h=h) True))))))))))))) (K fM m h)))))
theorem fJ.top{v}(r:fJ h p v):p= .mk v.op v.cmp v.left v.right p.args:=by
 cases p with
 |mk op c l j args=>obtain⟨d,e,f,g,_⟩:=r;simp[Pred.args,d,e,f,g]
theorem N8{cols params h p v}(r:fJ h p v):kH cols params p=if v.op==1||v.op==2 then Af v&&p.args.length==0
 else if v.op==3 then p.args.length==0&&v.cmp>=1&&v.cmp<=6&&kindOf cols params v.left !=0&&kindOf cols params v.left==kindOf cols params v.right
 else if v.op==4||v.op==5||(v.op==6&&p.args.length==1)then Af v&&p.args.all (kH cols params)
 else false:=by
 have:=r.top;generalize p.args=xs at this⊢
 subst this;rw[kH,Hy];rfl
theorem c6J{n k:Nat}:((n:Int)==(k:Int))=(n==k):=by
 grind
theorem Yw:∀N,cz 131 (Wa N)
 |0=>by
  refine eG (fn:=Tryz.f131) (c:=dQ Tryz.f131) func131 rfl bj ?_;rintro n m h K ⟨s,t,cols,params,v,p,rfl,_,_,x,O,_⟩;omega
 |N+1=>by
  refine gW func131 ?_;rintro n m h K ⟨s,t,cols,params,v,p,rfl,y,z,x,O,d⟩;refine⟨bQJ N s t cols params v p m h,rfl,aE (Yw N) (aE aiX (aE aiQ aI)),Ul N s t cols params v p m h K,bh,?_⟩;obtain⟨X,M,f⟩:=x.open;have Y:=N8 (cols:=cols) (params:=params) x;have Q:((v.args.len:Int)==0)=(p.args.length==0):=bo
  have Z:((v.args.len:Int) !=1)=(p.args.length !=1):=bo
  dsimp only[Ul,push_cast];refine⟨?_,?_⟩
  .refine aC (λe=>⟨v,rfl,aC (λg=>kD d ?_) (λg=>kD d ?_)⟩) (λe=>aC (λR=>⟨v,rfl,aC (λg=>kD d ?_) (λg=>kD d ?_)⟩) (λR=>aC (λg=>⟨s,t,cols,params,v.left,rfl,y,z,?_⟩) (λg=>?_)))
   .grind
   .grind
   .grind
   .grind
   .have A:kH cols params p=(p.args.length==0&&v.cmp>=1&&v.cmp<=6&&kindOf cols params v.left !=0&&kindOf cols params v.left==kindOf cols params v.right):=bo
    rw[A]at d;refine aC (λj=>aC (λD=>aC (λE=>aC (λF=>⟨s,t,cols,params,v.right,rfl,y,z,kD d ?_⟩) (λF=>kD d ?_)) (λE=>kD d ?_)) (λD=>kD d ?_)) (λj=>kD d ?_)
    all_goals (rw[Q]at j;simp only[beq_iff_eq,cr,decide_eq_false_iff_not]at*;simp[*])
   .refine aC (λj=>⟨(),⟨bo⟩,rfl,rfl,rfl,rfl,rfl,rfl,trivial⟩) (λj=>aC (λD=>⟨(),⟨bo⟩,rfl,rfl,rfl,rfl,rfl,rfl,trivial⟩) (λD=>aC (λE=>aC (λF=>kD d ?_) (λF=>⟨(),⟨?_⟩,rfl,rfl,rfl,rfl,rfl,rfl,trivial⟩)) (λE=>kD d ?_)))
    .grind
    .grind
    grind
  .intro _ G;rw[G.eq]at d;refine⟨v,rfl,aC (λe=>kD d ?_) (λe=>?_)⟩
   .simp_all
   .have e:Af v=true:=bx e
    rw[e,Bool.true_and]at d;refine⟨⟨0,⟨aD,bi⟩,rfl,rfl,rfl,rfl,rfl,rfl,rfl,rfl,trivial⟩,λi S=>aF (λH=>?_) (λT=>kD d ?_)⟩
    .obtain⟨q,I⟩:∃q,p.args[i]? =some q:=⟨p.args[i]'(by omega),cd _⟩
     obtain⟨b,o,u,U,V,J⟩:=f i q I;refine⟨b,o,U,aD,H,u,.imm bo,s,t,cols,params,u,q,rfl,y,z,J,?_,aC (λW=>kD d ?_) (λW=>?_)⟩
     .have:=yW (ce I);omega
     .grind
     .refine⟨i+1,⟨aD,?_⟩,aD,rfl,rfl,rfl,rfl,by rw[fR aD],rfl,rfl,rfl,trivial⟩;rw[Cd I,S.2];grind
    grind
theorem Yn:∀N,cz 186 (R0 N)
 |0=>by
  refine eG (fn:=Tryz.f186) (c:=dQ Tryz.f186) func186 rfl bj ?_;rintro j m h K ⟨s,t,cols,params,v,p,rfl,_,_,n,R,_⟩;omega
 |N+1=>by
  refine gW func186 ?_;rintro j m h K ⟨s,t,cols,params,v,p,rfl,x,y,n,R,d⟩;refine⟨bJZ N s t cols params v p m h,rfl,aE (Yn N) (aE aaX aI),TL N s t cols params v p m h K,bh,?_⟩;obtain⟨hl,O,g⟩:=n.open;have hv:=N8 (cols:=cols) (params:=params) n;have S:((v.args.len:Int)==0)=(p.args.length==0):=bo
  have T:((v.args.len:Int) !=0)=(p.args.length !=0):=bo
  have h1:((v.args.len:Int) !=1)=(p.args.length !=1):=bo
  have Q:p.args.length=0->p.args.all (kH cols params)=true:=λe=>bo
  dsimp only[TL,push_cast];refine⟨?_,?_⟩
  .refine aC (λz=>⟨s,t,cols,params,v.left,rfl,x,y,s,t,cols,params,v.right,rfl,x,y,?_⟩) (λz=>aC (λe=>aC (λf=>kD d ?_) (λf=>⟨(),⟨?_⟩,rfl,rfl,rfl,rfl,rfl,rfl,trivial⟩)) (λe=>aC (λA=>aC (λf=>kD d ?_) (λf=>⟨(),⟨?_⟩,rfl,rfl,rfl,rfl,rfl,rfl,trivial⟩)) (λA=>aC (λD=>aC (λE=>kD d ?_) (λE=>⟨(),⟨?_⟩,rfl,rfl,rfl,rfl,rfl,rfl,trivial⟩)) (λD=>aC (λf=>⟨(),⟨?_⟩,rfl,rfl,rfl,rfl,rfl,rfl,trivial⟩) (λf=>aC (λF=>⟨(),⟨?_⟩,rfl,rfl,rfl,rfl,rfl,rfl,trivial⟩) (λF=>kD d ?_))))))
   .have U:v.op=3:=bo
    have G:kH cols params p=(p.args.length==0&&v.cmp>=1&&v.cmp<=6&&kindOf cols params v.left !=0&&kindOf cols params v.left==kindOf cols params v.right):=bo
    rw[G]at d;refine aC (λf=>aC (λF=>aC (λD=>aC (λE=>kD d ?_) (λE=>kD d ?_)) (λD=>kD d ?_)) (λF=>kD d ?_)) (λf=>kD d ?_)
    all_goals (rw[S]at f;simp only[beq_iff_eq,cr,decide_eq_false_iff_not]at*;simp[*])
   .grind
   .grind
   .grind
   .grind
   .grind
   .grind
   .grind
   .grind
   grind
  .intro _ H;rw[H.eq]at d;refine aC (λe=>kD d ?_) (λe=>⟨eqO v.left fQ,BY v.left fQ,aC (λA=>kD d ?_) (λA=>⟨eqO v.right fQ,BY v.right fQ,aC (λz=>kD d ?_) (λz=>?_)⟩)⟩)
   .simp_all [Af]
   .simp_all [Af]
   .simp_all [Af]
   .have e:Af v=true:=by simp_all [Af]
    rw[e,Bool.true_and]at d;refine⟨⟨0,⟨aD,bi⟩,rfl,rfl,rfl,rfl,rfl,rfl,rfl,rfl,rfl,trivial⟩,λi V=>aF (λI=>?_) (λW=>kD d ?_)⟩
    .obtain⟨q,J⟩:∃q,p.args[i]? =some q:=⟨p.args[i]'(by omega),cd _⟩
     obtain⟨b,o,u,X,Y,M⟩:=g i q J;refine⟨b,o,X,aD,I,u,.imm bo,s,t,cols,params,u,q,rfl,x,y,M,?_,aC (λZ=>kD d ?_) (λZ=>?_)⟩
     .have:=yW (ce J);omega
     .grind
     .refine⟨i+1,⟨aD,?_⟩,aD,rfl,rfl,rfl,rfl,by rw[fR aD],rfl,rfl,rfl,rfl,trivial⟩;rw[Cd J,V.2];grind
    grind
theorem drop_cons{α}{l:List α}{x}(h:l[i]? =some x):l.drop i=x::l.drop (i+1):=by
 have c:i<l.length:=(bz h);rw[drop_eq_getElem_cons c]
 grind
mutual
def pU:Pred->Nat->Int->Bool×Int
 |.mk _ _ _ _ args,k,b=>if b<1 then(false,b-1)else match k with|0=>(false,b-1)|k+1=>Ab args k (b-1)
def Ab:dp->Nat->Int->Bool×Int
 |[],_,b=>(true,b)
 |p::ps,k,b=>match pU p k b with|(false,c)=>(false,c)|(true,c)=>Ab ps k c
end
mutual
def SN:Pred->Int
 |.mk _ _ _ _ args=>1+D0 args
def D0:dp->Int
 |[]=>0
 |p::ps=>SN p+D0 ps
end
mutual
theorem Vf:∀p:Pred,1<=SN p
 |.mk _ _ _ _ args=>by have:=Hz args;simp only[SN];omega
theorem Hz:∀ps:dp,0<=D0 ps
 |[]=>by simp[D0]
 |p::ps=>by have:=Vf p;have:=Hz ps;simp only[D0];omega
end
mutual
theorem IA:∀(p:Pred)(n:Int),n<=24->(n+SN p<=24->sM p n=n+SN p)/\(24<n+SN p->sM p n=25)
 |.mk _ _ _ _ args,n,h=>by
  obtain⟨c,d⟩:=QC args (n+1) aD;simp only[sM,SN];omega
theorem QC:∀(ps:dp)(n:Int),n<=25->(n+D0 ps<=24->mX ps n=n+D0 ps)/\(24<n+D0 ps->mX ps n=25)
 |[],n,h=>by
  simp only[mX,D0];omega
 |p::ps,n,h=>by
  have e:=Vf p;have f:=Hz ps;simp only[mX,D0];by_cases c:n<=24
  .rw[if_pos c];have g:=IA p n c;have d:=(F2 p n c).2;have j:=QC ps _ d;omega
  omega
end
mutual
theorem ML:∀(p:Pred)(k:Nat)(b:Int),0<=b->((pU p k b).1=true↔SN p<=b/\pL p k=false)/\((pU p k b).1=true->(pU p k b).2=b-SN p)
 |.mk _ _ _ _ args,k,b,h=>by
  have d:=Hz args;simp only[pU,SN];by_cases c:b<1
  .grind
  .rw[if_neg c];cases k with
   |zero=>exact⟨⟨λe=>(by cases e),λe=>(by simp[pL]at e)⟩,λe=>(by cases e)⟩
   |succ k=>
    obtain⟨f,g⟩:=Qe args k (b-1) aD;simp only[pL]
    grind
theorem Qe:∀(ps:dp)(k:Nat)(b:Int),0<=b->((Ab ps k b).1=true↔D0 ps<=b/\yE ps k=false)/\((Ab ps k b).1=true->(Ab ps k b).2=b-D0 ps)
 |[],k,b,h=>by simp[Ab,D0,yE,h]
 |p::ps,k,b,h=>by
  obtain⟨c,d⟩:=ML p k b h;have j:=Hz ps;simp only[Ab,D0,yE];cases e:pU p k b with
  |mk r f=>
   rw[e]at c d;cases r with
   |false=>
    grind
   |true=>
    have g:=d rfl;have c:=c.1 rfl;simp only at g;obtain⟨n,s⟩:=Qe ps k f aD
    grind
end
def gY(cols params:db)(p:Pred):Int:=
 if !cols.all gI|| !params.all gI then 1
 else if sM p 0>24||pL p 8 then 2
 else if !kH cols params p then 50 else 0
theorem aXX p:(pU p 8 24).1= !(decide (sM p 0>24)||pL p 8):=by
 have c:=(ML p 8 24 aD).1;have d:=IA p 0 aD
 grind
def YR(n:Int):Obj:=.cells #[.int .i64 n] 3 (0,0)
def ayZ(N:Nat):Vc.Spec:=λc m h K=>∃v p,∃k b:Nat,∃n,c=[aP v,cI (9-k),cP b]/\fJ h p v/\SizeOf.sizeOf p<N/\k<=9/\0<=n/\n<=24/\m b=some (YR n)/\∀m',pO m m' b (YR (pU p k n).2)->K (cB (pU p k n).1) m' h
noncomputable def bJJ(N:Nat)(v:PV)(p:Pred)(k b:Nat)(n:Int)(m:MH)(h:PH):=
 ctx [(185,ayZ N)] [(5,{A:=Nat×Int×MH,st:=λx=>bS 36 39 [(1,iv (9-k)),(2,vv (.pointer (some ⟨b,0,none⟩))),(23,sv v.args),(24,iv v.args.len),(25,iv x.1)] [] x.2.2 h,inv:=λx=>x.1<=p.args.length/\0<=x.2.1/\x.2.1<=24/\pO m x.2.2 b (YR x.2.1)/\1<=k/\Ab (p.args.drop x.1) (k-1) x.2.1=pU p k n,mu:=λx=>p.args.length-x.1})] [] [] false
def v7:Vc.Spec:=λe m h K=>∃s t v d c p,e=[cS s,cS t,aP v]/\Ints h s d/\Ints h t c/\fJ h p v/\K (cI (gY d c p)) m h
noncomputable def cpX N:=ctx [(62,Sh),(129,aAZ N),(130,Wm N),(131,Wa N)] [] [] [] false
noncomputable def bPZ N:=ctx [(184,Sh),(185,ayZ N),(186,R0 N)] [] [] [] false
abbrev GU(a:(Array Value)->TypeId->Prop):=∃(x:Array Value)(c:TypeId),a x c
noncomputable abbrev B7 a b c:=Obj.cells a b (c,c)
abbrev iR a b c d e:=pO a b c (B7 (Array.mk d) e 0)
noncomputable abbrev xP(a:Value)(b:Nat)(c:dc):=a::List.drop b c
abbrev oG(a:MH)(b:Nat)(c:Value)(d:MH->Prop):=GU (λx e=>aA (Ze a b (B7 x e 0)) (0<x.size) (∀(f:MH),iR a f b (xP c 1 x.toList) e->d f))
abbrev fX(a b:Int)(c d:Prop):=branch (decide (a>b)) c d
abbrev Pk(a:Nat×Int×MH)(b:Pred)(c:Nat)(d:Int):=Ab (List.drop a.1 b.args) (c-1) a.2.1=pU b c d
abbrev iW a:=eQ (fU a)
abbrev dL a:=eQ (sQo a 0)
noncomputable abbrev dM a:=cQp a 0
abbrev iB a b c d:=a->branch b c d
attribute [push_cast] GU B7 iR xP oG fX Pk iW dL dM iB
def TM(N:Nat)(v:PV)(p:Pred)(k b:Nat)(n:Int)(m:MH)(h:PH)(K:da):=
  ∃(y:Int),aL m h b 0 (bM y)/\oG m b (eH (kE (y-1))) (λe=>∃(t:Int),aL e h b 0 (bM t)/\aZ t 0 (K bB e h) (fX (9-(↑k:Int)) 8 (K bB e h) ((∃(x:Nat×Int×MH),aA (aA (GV x.1 p) (cF x.2.1) (aA (x.2.1<=24) (iR m x.2.2 b (bM x.2.1) 3) (1<=k/\Pk x p k n))) (iW (9-(↑k:Int))) (aA (dL b) (aJ v.args) (aA (sO v) (bA x.1) (aA (e=x.2.2) (h=h) True))))/\∀(x:Nat×Int×MH),aA (GV x.1 p) (cF x.2.1) (aA (x.2.1<=24) (iR m x.2.2 b (bM x.2.1) 3) (1<=k/\Pk x p k n))->aZ (↑x.1:Int) (aG v.args) (bF (λu o=>aH (aM v.args.a u o) (0<=(↑x.1:Int)) ((↑x.1:Int)<aG v.args) (∃(z:PV),aL x.2.2 h u (bK o x.1 13) z.enc/\tM (λA f=>bF (λg j=>∃(d:Int),aA (fL z::aX (fI
 (kE (9-(↑k:Int)+1))) (dM b)=fL A::aX (fI (9-(↑g:Int))) (dM j)) (fJ h f A) (aA (uQ f N) (g<=9) (aH (cF d) (d<=24) (x.2.2 j=Option.some (B7 (Array.mk (bM d)) 3 0)) (∀(s:MH),iB (iR x.2.2 s j (bM (pU f g d).2) 3) (!(pU f g d).1) (K bB s h) (∃(c:Nat×Int×MH),aA (aA (GV c.1 p) (cF c.2.1) (aA (c.2.1<=24) (iR m c.2.2 b (bM c.2.1) 3) (1<=k/\Pk c p k n))) (p.args.length-c.1<p.args.length-x.1) (aA (iW (9-(↑k:Int))) (dL b) (aA (aJ v.args) (bG v.args) (aA (fU (bC x.1 1)=bP c.1) (s=c.2.2) (bQ h h))))))))))))) (K fM x.2.2 h))))
abbrev sP(a:Sl->db->Prop):=∃(x:Sl)(c:db),a x c
noncomputable abbrev gK a:=pN (cM a)
abbrev K3(a:Sl)(b:PH)(c:da)(d:MH)(e:Prop):=sP (λx f=>aA (gK a=gK x) (Ints b x f) (branch (!(Kb f)) (c (fI 1) d b) e))
attribute [push_cast] sP gK K3
def XQ N s t v m h K:=
  K3 s h K m (K3 t h K m (tM (λg p=>∃(k:Int),aA (cA (fL v) 0=cA (fL g) k) (fJ h p g) (aA (uQ p N) (cF k) (k<=24/\fX (sM p k) 24 (K (fI 2) m h) (tM (λj d=>∃(e:Nat),aA (cA (fL v) 8=cA (fL j) (↑e:Int)) (fJ h d j) (aA (uQ d N) (e<=100) (branch (pL d e) (K (fI 2) m h) (gL (λn u=>tC (λc x=>tM (λy f=>aA (cM s::aX (cM t) (fL v)=cM n::aX (cM u) (fL y)) (Ints h n c) (aA (Ints h u x) (fJ h f y) (fT (uQ f N) (!(kH c x f)) (K (fI 50) m h) (K (fI 0) m h))))))))))))))))
abbrev lG(a:MH)(b:PH)(c d:Nat->MH->Prop):=∀(x:Nat)(e:MH),rT a b x->c x e->d x e
attribute [push_cast] lG
def Uj N s t v m h K:=
  K3 s h K m (K3 t h K m (lG m h (λb d=>iR m d b (bM 24) 3) (λb d=>tM (λj p=>bF (λk f=>∃(n:Int),aA (fL v::aX (fI 1) (dM b)=fL j::aX (fI (9-(↑k:Int))) (dM f)) (fJ h p j) (aA (uQ p N) (k<=9) (aH (cF n) (n<=24) (d f=Option.some (B7 (Array.mk (bM n)) 3 0)) (∀(e:MH),iB (iR d e f (bM (pU p k n).2) 3) (!(pU p k n).1) (K (fI 2) e h) (gL (λu x=>tC (λc y=>tM (λz g=>aA (aX (sE s t) (fL v)=aX (sE u x) (fL z)) (Ints h u c) (aA (Ints h x y) (fJ h g z) (fT (uQ g N) (!(kH c y g)) (K (fI 50) e h) (K (fI 0) e h)))))))))))))))
end Go.Ps
namespace Go.Vc
open Go.Ps Go.Proofs List
theorem pO.trans{m m' c b o o'}(g:pO m m' b o)(d:pO m' c b o'):pO m c b o':=⟨d.at_,λe f=>(d.other e f).trans (g.other e f)⟩
end Go.Vc
namespace Go.Ps
open Go Go.Vc Go.Proofs List Tryz
variable{K:da}{m:MH}{h:PH}{ps:db}{cb:Nat}{sc:cK}{v:QV}{p:Pred}{l:db}{i:Nat}{N:Nat}{m':MH}{h':PH}{co:db}{gr:db}{od:di}{ta:Int}{li:Int}{xs:List dc}{sz:Nat}{ks:List db}{rs:db}{r:Sl}{a:db}{b:Nat}
theorem Yo:∀N,cz 185 (ayZ N)
 |0=>by
  refine eG (fn:=Tryz.f185) (c:=dQ Tryz.f185) func185 rfl bj ?_;rintro E m h K ⟨v,p,k,b,n,rfl,Q,V,_⟩;omega
 |N+1=>by
  refine gW func185 ?_;rintro E m h K ⟨v,p,k,b,n,rfl,Q,V,hk,h0,h1,R,j⟩;refine⟨bJJ N v p k b n m h,rfl,aE (Yo N) aI,TM N v p k b n m h K,bh,?_⟩;dsimp only[TM,push_cast];obtain⟨hl,S,y⟩:=Q.open;have W:IntKind.i64.wrap (n-1)=n-1:=eM aD aD;refine⟨n,.of_m R rfl,_,_,⟨R⟩,bi,λm' T=>?_⟩;rw[W]at T;have f:pO m m' b (YR (n-1)):=T;refine⟨n-1,.of_m f.at_ rfl,aF (λX=>?_) (λX=>aF (λY=>?_) (λY=>?_))⟩
  .have e:pU p k n=(false,n-1):=by cases p;simp only[pU];grind
   rw[e]at j;exact j m' f
  .have F:k=0:=by omega
   subst F;have e:pU p 0 n=(false,n-1):=by cases p;simp only[pU];grind
   rw[e]at j;exact j m' f
  .refine⟨⟨(0,n-1,m'),⟨bi,bo,bo,f,aD,?_⟩,MT⟩,?_⟩
   .obtain⟨U,rfl⟩:∃U,k=U+1:=⟨k-1,aD⟩
    cases p;simp only[pU,drop_zero,Pred.args]
    grind
   .rintro⟨i,x,Z⟩ ⟨hi,s,z,g,G,d⟩;simp only at hi s z g d;refine aF (λa'=>?_) (λa0=>?_)
    .obtain⟨q,H⟩:∃q,p.args[i]? =some q:=⟨p.args[i]'(by omega),cd _⟩
     obtain⟨b1,o,u,ea,a1,I⟩:=y i q H;have hd:p.args.drop i=q::p.args.drop (i+1):=drop_cons H;refine⟨b1,o,ea,bi,aD,u,.imm bo,u,q,k-1,b,x,?_,I,?_,aD,s,z,g.at_,λJ M=>?_⟩
     .rw[eM aD aD,show(9-((k-1:Nat):Int))=9-(k:Int)+1 by omega]
     .have:=yW (ce H);omega
     .have t:pO m J b (YR (pU q (k-1) x).2):=g.trans M;rw[hd,Ab]at d;obtain⟨A,D⟩:=ML q (k-1) x s;cases e:pU q (k-1) x with
      |mk r x'=>
       rw[e]at d t A D;cases r with
       |false=>
        simp only at d;rw[<-d]at j;exact j J t
       |true=>
        have a2:=A.1 rfl;have O:=D rfl;have a3:=Vf q;simp only at O d;exact⟨(i+1,x',J),⟨aD,bo,bo,t,G,d⟩,aD,MT⟩
    .rw[drop_of_length_le aD]at d;simp only[Ab]at d;rw[<-d]at j;exact j Z g
theorem Nk:cz 66 v7:=by
 refine gW func66 ?_;rintro n m h K ⟨s,t,v,d,c,p,rfl,g,j,f,e⟩;refine⟨cpX (SizeOf.sizeOf p+1),rfl,aE To (aE (Yz _) (aE (Yx _) (aE (Yw _) aI))),XQ (SizeOf.sizeOf p+1) s t v m h K,bh,?_⟩;dsimp only[XQ,push_cast];refine⟨s,d,rfl,g,aC (λu=>B3 e ?_) (λu=>⟨t,c,rfl,j,aC (λx=>B3 e ?_) (λx=>⟨v,p,0,rfl,f,aD,aD,aD,aC (λy=>B3 e ?_) (λy=>⟨v,p,8,rfl,f,aD,aD,aC (λz=>B3 e ?_) (λz=>⟨s,t,d,c,v,p,rfl,g,j,f,aD,aC (λA=>B3 e ?_) (λA=>B3 e ?_)⟩)⟩)⟩)⟩)⟩
 all_goals (simp only[gY];simp only[*,Bool.or_false,Bool.false_or,Bool.or_true,Bool.true_or,Bool.and_true,Bool.true_and,Bool.and_false,Bool.false_and,Bool.not_true,Bool.not_false,Bool.false_eq_true,if_true,if_false, ↓reduceIte])
theorem Hr{f fn}(s:Tryz.prog.funcs[f]? =some fn){S}(j:∀c m h K,S c m h K->∃C:Ctx,C.P=Tryz.prog/\(∀g S,assoc C.specs g=some S->cz g S)/\∃N:Prop,N=yC C fn (dQ fn) (entry fn.ntmps c m h) (λr m' h'=>∃m2 n,(∀b o,m2 b=some o->m' b=some o)/\PH.le h n/\PH.le n h'/\K r m2 n)/\N)(t:fn.body=some (dQ fn):=by rfl)(d:(fn.name== "runtime.NumGoroutine")=false:=by decide):cz f S:=Th s t d λc m h K u=>let⟨C,hC,hs,N,e,hn⟩:=j c m h K u;⟨C,hC,hs,e▸hn⟩
theorem Ki:cz 138 v7:=by
 refine Hr func138 ?_;rintro I m h K ⟨s,t,v,d,c,p,rfl,E,F,G,J⟩;refine⟨bPZ (SizeOf.sizeOf p+1),rfl,aE ahZ (aE (Yo _) (aE (Yn _) aI)),Uj (SizeOf.sizeOf p+1) s t v m h (λr m' h'=>∃j n,(∀b o,j b=some o->m' b=some o)/\PH.le h n/\PH.le n h'/\K r j n),bh,?_⟩;dsimp only[Uj,push_cast];have f:∀(m':MH),(∀b o,m b=some o->m' b=some o)->∀x,gY d c p=x->∃j n,(∀b o,j b=some o->m' b=some o)/\PH.le h n/\PH.le n h/\K (.val (.int .i64 x)) j n:=λm' M x e=>⟨m,h,M,.refl _,.refl _,e▸J⟩
 refine⟨s,d,rfl,E,aC (λO=>f m (λ_ _ e=>e) _ ?_) (λO=>⟨t,c,rfl,F,aC (λQ=>f m (λ_ _ e=>e) _ ?_) (λQ b U R u=>⟨v,p,8,b,24,rfl,G,aD,aD,aD,aD,u.at_,λj A=>?_⟩)⟩)⟩
 .simp only[gY];grind
 .simp only[gY];grind
 .have g:∀b o,m b=some o->j b=some o:=λD o e=>by
   have y:D≠b:=λS=>by rw[S,R.m_]at e;cases e
   rw[A.other D y,u.other D y,e]
  have z:=aXX p;refine aC (λH=>f j g _ ?_) (λH=>⟨s,t,d,c,v,p,rfl,E,F,G,aD,aC (λT=>f j g _ ?_) (λT=>f j g _ ?_)⟩)
  all_goals (rw[z,Bool.not_not]at H;clear z;simp only[gY];simp only[*,Bool.or_false,Bool.false_or,Bool.or_true,Bool.true_or,Bool.and_true,Bool.true_and,Bool.and_false,Bool.false_and,Bool.not_true,Bool.not_false,Bool.false_eq_true,if_true,if_false, ↓reduceIte])
structure bI{α β:Type}(h:PH)(sz:Nat)(enc:β->dc)(R:α->β->Prop)(s:Sl)(l:List α):Prop where
 ex:∃vs:List β,cO h s sz (vs.map enc)/\l.length=vs.length/\∀(i:Nat)(x:α),l[i]? =some x->∃v,vs[i]? =some v/\R x v
 len:l.length<=502633886983
theorem bI.slen{α β enc}{R:α->β->Prop}{s l}(r:bI h sz enc R s l):s.len=l.length:=by
 obtain⟨d,c,e,_⟩:=r.ex;have:=c.len
 grind
theorem bI.at{α β enc}{R:α->β->Prop}{s l}(r:bI h sz enc R s l){x}(c:l[i]? =some x):
 ∃b o v,s.a=some ⟨b,o,none⟩/\bU h b (o+i*sz) (enc v)/\R x v:=by
 obtain⟨j,d,_,f⟩:=r.ex;obtain⟨v,g,n⟩:=f i x c;obtain⟨b,o,e,k⟩:=d.get (i:=i) (e:=enc v) (by simp[g])
 grind
theorem bI.mono{α β enc}{R:α->β->Prop}{R' s l}(r:bI h sz enc R s l)(le:PH.le h h')(d:∀x v,R x v->R' x v):bI h' sz enc R' s l:=by
 obtain⟨e,f,g,j⟩:=r.ex;exact⟨⟨e,f.mono le,g,λi x n=>(j i x n).imp λv c=>⟨c.1,d _ _ c.2⟩⟩,r.len⟩
theorem bI.nil{α β} h sz(enc:β->dc) R:bI h sz enc R ⟨none,0,0⟩ ([]:List α):=
 ⟨⟨[],.nil h sz,rfl,λi x c=>by simp at c⟩,bi⟩
theorem dW{α}{l:List α}{i:Nat}{n}(c:n=l.length)(d:(i:Int)<(n:Int)):∃x,l[i]? =some x:=⟨l[i]'(by omega),cd _⟩
def Ik h s ps:=bI h 13 PV.enc (fJ h) s ps
theorem Ik.mono{s ps}(r:Ik h s ps)(le:PH.le h h'):Ik h' s ps:=bI.mono r le λ_ _=>fJ.mono le
theorem A0.toL{s ps vs}(d:cO h s 13 (vs.map PV.enc))(c:A0 h ps vs)(e:ps.length<=502633886983):Ik h s ps:=
 ⟨⟨vs,d,c.length.symm,λ_ _ f=>c.get f⟩,e⟩
theorem A0.ofL{h:PH}:∀{ps:dp}{vs:dz},ps.length=vs.length->(∀(i:Nat)(x:Pred),ps[i]? =some x->∃v,vs[i]? =some v/\fJ h x v)->A0 h ps vs
 |[],[],_,_=>rfl
 |p::ps,v::vs,c,d=>by
  obtain⟨j,f,g⟩:=d 0 p rfl;simp at f;subst f;exact⟨v,vs,rfl,g,A0.ofL bo λi x e=>bx (d (i+1) x (by simpa using e))⟩
 |[],_::_,c,_=>by simp at c
 |_::_,[],c,_=>by simp at c
theorem fJ.parts{op c l r args v}(x:fJ h (.mk op c l r args) v):v.op=op/\v.cmp=c/\v.left=l/\v.right=r/\Ik h v.args args:=by
 obtain⟨d,e,f,g,j,t,n,s⟩:=x;exact⟨d,e,f,g,s.toL n j⟩
theorem fJ.mk{h args v}(c:Ik h v.args args):fJ h (.mk v.op v.cmp v.left v.right args) v:=by
 obtain⟨d,e,f,g⟩:=c.ex;exact⟨rfl,rfl,rfl,rfl,c.len,d,e,.ofL f g⟩
def cEZ(N:Nat):Vc.Spec:=λc m h K=>∃v w p q,c=[aP v,aP w]/\fJ h p v/\fJ h q w/\SizeOf.sizeOf p<N/\∀r:Bool,(r=true↔p=q)->K (cB r) m h
def cKJ(N:Nat):Vc.Spec:=λc m h K=>∃s t ps d,c=[cS s,cS t,.val (.func (.func 266) #[] #[])]/\Ik h s ps/\Ik h t d/\(∀p∈ps,SizeOf.sizeOf p<N)/\∀r:Bool,(r=true↔ps=d)->K (cB r) m h
noncomputable def bGJ N:=ctx [(274,cKJ N)] [] [] [] false
noncomputable def bGX(N:Nat)(s t:Sl)(ps c:dp)(m:MH)(h:PH):=
 ctx [(266,cEZ N)] [HS 4 (λi=>bS 32 35 [(1,sv t),(2,vv (.func (.func 266) #[] #[])),(15,sv s),(16,iv s.len),(17,iv i)] [] m h) (λi=>i<=ps.length/\∀j:Nat,j<i->ps[j]? =c[j]?) (λi=>ps.length-i)] [] [] false
noncomputable def bIX(N:Nat)(v w:PV)(ps c:dp)(m:MH)(h:PH):=
 ctx [(224,cEZ N)] [HS 4 (λi=>bS 60 62 [(2,.at (.ptr 2 0)),(3,.at (.ptr 3 0)),(43,iv v.args.len),(44,iv i)] [(2,.cells 35 (v.enc.map .val)),(3,.cells 35 (w.enc.map .val))] m h) (λi=>i<=ps.length/\∀j:Nat,j<i->ps[j]? =c[j]?) (λi=>ps.length-i)] [] [] false
noncomputable abbrev tE:Array Value:=Array.mk []
noncomputable abbrev DI a b:=CV.val (Value.func (Fn.func a) tE b)
noncomputable abbrev C0 a b c:=cM a::aX (cM b) (DI c tE)
abbrev gU a b:=AY a↔b
attribute [push_cast] tE DI C0 gU
def Np(N:Nat)(v w:PV)(m:MH)(h:PH)(K:da):=
  dO v.op w.op (dO v.cmp w.cmp (∃(r:Bool),fT (pI 32 v.left.enc w.left.enc r) r (∃(c:Bool),fT (pI 32 v.right.enc w.right.enc c) c (gL (λs t=>∃(p q:dp),aA (C0 v.args w.args 266=C0 s t 266) (Ik h s p) (aA (Ik h t q) (∀(d:Pred),List.Mem d p->uQ d N) (∀(e:Bool),gU e (p=q)->K (yF e) m h)))) (K bB m h)) (K bB m h)) (K bB m h)) (K bB m h)
abbrev Gc(a:Nat)(b c:dp):=lB (a<=b.length) (λx=>x<a->b[x]? =c[x]?)
abbrev wQ a b:=eQ (SV.at (At.val (Value.func (Fn.func a) tE b)))
abbrev Ly(a:PV->PV->Pred->Pred->Prop):=∃(x:PV),tM (λc d=>∃(e:Pred),a x c d e)
attribute [push_cast] Gc wQ Ly
def Tt(N:Nat)(s t:Sl)(ps c:dp)(m:MH)(h:PH)(K:da):=
  dH (aG s) (aG t) (K bB m h) (lB (∃(x:Nat),aA (Gc x ps c) (aJ t) (aA (wQ 266 tE) (aJ s) (aA (bG s) (bA x) (aA (m=m) (h=h) True)))) (λx=>Gc x ps c->aZ (↑x:Int) (aG s) (bF (λb o=>aH (aM s.a b o) (0<=(↑x:Int)) ((↑x:Int)<aG s) (∃(y:PV),aL m h b (bK o x 13) y.enc/\bF (λe f=>aH (aM t.a e f) (0<=(↑x:Int)) ((↑x:Int)<aG t) (∃(g:PV),aL m h e (bK f x 13) g.enc/\Ly (λv w p q=>aA (aX (fL y) (fL g)=aX (fL v) (fL w)) (fJ h p v) (aA (fJ h q w) (uQ p N) (∀(r:Bool),iB (gU r (p=q)) (!r) (K bB m h) (∃(d:Nat),aA (Gc d ps c) (ps.length-d<ps.length-x) (aA (aJ t) (wQ 266 tE) (aA (aJ s) (bG s) (aA (fU (bC x 1)=bP d) (m=m) (bQ h
 h))))))))))))) (K fM m h)))
def Nu(N:Nat)(v w:PV)(ps c:dp)(m:MH)(h:PH)(K:da):=
  cW (v.op !=w.op) (K bB m h) (v.cmp !=w.cmp) (K bB m h) (∃(r:Bool),fT (pI 32 v.left.enc w.left.enc r) (!r) (K bB m h) (∃(e:Bool),pI 32 v.right.enc w.right.enc e/\cW (!e) (K bB m h) (wY v !=wY w) (K bB m h) (lB (∃(x:Nat),aA (Gc x ps c) eD (aA cH (sO v) (aA (bA x) (hX v) (aA (hX w) (m=m) (bQ h h))))) (λx=>Gc x ps c->aZ (↑x:Int) (aG v.args) (bF (λb o=>aH (aM v.args.a b o) (0<=(↑x:Int)) ((↑x:Int)<aG v.args) (∃(y:PV),aL m h b (bK o x 13) y.enc/\bF (λf g=>aH (aM w.args.a f g) (0<=(↑x:Int)) ((↑x:Int)<aG w.args) (∃(j:PV),aL m h f (bK g x 13) j.enc/\Ly (λn s p q=>aA (aX (fL y) (fL j)=aX (fL n) (fL s)) (fJ h p n) (aA (fJ h q s) (uQ p N)
 (∀(t:Bool),iB (gU t (p=q)) (!t) (K bB m h) (∃(d:Nat),aA (Gc d ps c) (ps.length-d<ps.length-x) (aA eD cH (aA (sO v) (fU (bC x 1)=bP d) (aA (hX v) (hX w) (bO (m=m) h h))))))))))))) (K fM m h)))))
theorem Dz{α}{a:List α}{b}(c:a.length=b.length)(d:a.length<=i)(h:∀j:Nat,j<i->a[j]? =b[j]?):a=b:=by
 apply ext_getElem?
 grind
theorem Bh{α}{a b:List α}{x y}(c:a[i]? =some x)(d:b[i]? =some y)(e:x=y)(h:∀j:Nat,j<i->a[j]? =b[j]?):∀j:Nat,j<i+1->a[j]? =b[j]? :=by
 grind
theorem S9{α}{a:List α}{b x y}(c:a[i]? =some x)(d:b[i]? =some y)(e:x≠y):a≠b:=λh=>by
 grind
theorem QY{α β}{s t:Sl}{a:List α}{b:List β}(c:s.len=a.length)(d:t.len=b.length)(e:((s.len:Int) !=(t.len:Int))=true):a.length≠b.length:=λh=>by
 grind
theorem M7{α β}{s t:Sl}{a:List α}{b:List β}(c:s.len=a.length)(d:t.len=b.length)(e:((s.len:Int) !=(t.len:Int))=false):a.length=b.length:=by
 grind
theorem cuX{v w q}(u:fJ h p v)(x:fJ h q w)(H:SizeOf.sizeOf p<N+1)(s:∀r:Bool,(r=true↔p=q)->K (cB r) m h):Np N v w m h K:=by
 dsimp only[Np,push_cast];have d:p≠q->K (cB false) m h:=λh=>s false ⟨λe=>(by cases e),λe=>(h e).elim⟩;have c:=@yW p;obtain⟨op,y,l,r,ps⟩:=p;obtain⟨z,t,I,J,A⟩:=q;obtain⟨rfl,rfl,rfl,rfl,j⟩:=u.parts;obtain⟨rfl,rfl,rfl,rfl,n⟩:=x.parts;refine aC (λD=>aC (λE=>⟨_,BY _ _,aC (λf=>⟨_,BY _ _,aC (λg=>⟨v.args,w.args,ps,A,rfl,j,n,λp F=>?_,λr G=>s r (G.trans ?_)⟩) (λg=>d λe=>?_)⟩) (λf=>d λe=>?_)⟩) (λE=>d λe=>?_)) (λD=>d λe=>?_)
 .have:=c (q:=p) F;omega
 .rw[vL]at f g
  grind
 .injection e with _ _ _ e _;rw[vL.2 e]at g;cases g
 .injection e with _ _ e _ _;rw[vL.2 e]at f;cases f
 .grind
 grind
theorem Yf:∀N,cz 266 (cEZ N)
 |0=>by
  refine eG (fn:=Tryz.f266) (c:=dQ Tryz.f266) func266 rfl bj ?_;rintro g m h K ⟨v,w,p,q,rfl,D,_,E,_⟩;omega
 |N+1=>by
  have z:cz 274 (cKJ N):=by
   refine gW func274 ?_;rintro g m h K ⟨s,t,ps,F,rfl,I,R,E,G⟩;refine⟨bGX N s t ps F m h,rfl,aE (Yf N) aI,Tt N s t ps F m h K,bh,?_⟩;dsimp only[Tt,push_cast];have d:=I.slen;have A:=R.slen;have U:=I.len;have S:ps≠F->K (cB false) m h:=λh=>G false ⟨λe=>(by cases e),λe=>(h e).elim⟩;refine aC (λJ=>S (λe=>QY d A J (by rw[e]))) (λJ=>?_);have V:=M7 d A J;refine⟨⟨0,⟨aD,λj hj=>by omega⟩,MT⟩,λi T=>aF (λf=>?_) (λW=>?_)⟩
   .obtain⟨x,H⟩:=dW d f;obtain⟨y,M⟩:∃y,F[i]? =some y:=dW (n:=s.len) aD f;obtain⟨X,Y,u,Z,r1,ru⟩:=I.at H;obtain⟨b2,o2,w,e2,r2,O⟩:=R.at M;refine⟨X,Y,Z,aD,f,u,.imm r1,b2,o2,e2,aD,aD,w,.imm r2,u,w,x,y,rfl,ru,O,E x (ce H),λr D=>aC (λa'=>S (S9 H M (λe=>?_))) (λhe=>?_)⟩
    .grind
    .have Q:r=true:=bo
     exact⟨i+1,⟨aD,Bh H M (D.1 Q) T.2⟩,aD,MT⟩
   .exact G true ⟨λ_=>Dz V aD T.2,λ_=>rfl⟩
  refine gW func266 ?_;rintro g m h K ⟨v,w,p,q,rfl,D,hq,E,G⟩;refine⟨bGJ N,rfl,aE z aI,Np N v w m h K,bh,?_⟩;exact cuX D hq E G
theorem cwQ{v w q}(U:fJ h p v)(V:fJ h q w)(hN:SizeOf.sizeOf p<N+1)(D:∀r:Bool,(r=true↔p=q)->K (cB r) m h):Nu N v w p.args q.args m h K:=by
 dsimp only[Nu,push_cast];have c:p≠q->K (cB false) m h:=λh=>D false ⟨λe=>(by cases e),λe=>(h e).elim⟩;have d:=@yW p;obtain⟨op,W,l,r,ps⟩:=p;obtain⟨X,O,l',r',Q⟩:=q;obtain⟨rfl,rfl,rfl,rfl,E⟩:=U.parts;obtain⟨rfl,rfl,rfl,rfl,R⟩:=V.parts;simp only[Pred.args]at d⊢
 have g:=E.slen;have F:=R.slen;have Y:=E.len;refine aC (λG=>c λe=>?_) (λG=>aC (λH=>c λe=>?_) (λH=>⟨_,BY _ _,aC (λs=>c λe=>?_) (λs=>⟨_,BY _ _,aC (λt=>c λe=>?_) (λt=>aC (λS=>c λe=>?_) (λS=>?_))⟩)⟩))
 .grind
 .grind
 .injection e with _ _ e _ _;rw[vL.2 e]at s;cases s
 .injection e with _ _ _ e _;rw[vL.2 e]at t;cases t
 .grind
 .have Z:=M7 g F S;have s:v.left=w.left:=vL.1 bo;have t:v.right=w.right:=vL.1 bo;have G:v.op=w.op:=bo
  have H:v.cmp=w.cmp:=bo
  rw[G,H,s,t]at D c;have c:ps≠Q->K (cB false) m h:=λA=>c λe=>A (by injection e);refine⟨⟨0,⟨aD,λj hj=>by omega⟩,MT⟩,λi T=>aF (λf=>?_) (λa'=>?_)⟩
  .obtain⟨x,I⟩:=dW g f;obtain⟨y,J⟩:∃y,Q[i]? =some y:=dW (n:=v.args.len) aD f;obtain⟨b1,o1,u,e1,r1,ru⟩:=E.at I;obtain⟨b2,o2,z,e2,r2,rz⟩:=R.at J;refine⟨b1,o1,e1,aD,f,u,.imm r1,b2,o2,e2,aD,aD,z,.imm r2,u,z,x,y,rfl,ru,rz,?_,λr hr=>aC (λA=>c (S9 I J (λe=>?_))) (λhe=>?_)⟩
   .grind
   .grind
   .have M:r=true:=bo
    exact⟨i+1,⟨aD,Bh I J (hr.1 M) T.2⟩,aD,MT⟩
  .exact D true ⟨λ_=>by rw[Dz Z aD T.2],λ_=>rfl⟩
theorem Yj:∀N,cz 224 (cEZ N)
 |0=>by
  refine eG (fn:=Tryz.f224) (c:=dQ Tryz.f224) func224 rfl bj ?_;rintro d m h K ⟨v,w,p,q,rfl,e,_,f,_⟩;omega
 |N+1=>by
  refine gW func224 ?_;rintro d m h K ⟨v,w,p,q,rfl,e,g,f,j⟩;refine⟨bIX N v w p.args q.args m h,rfl,aE (Yj N) aI,Nu N v w p.args q.args m h K,bh,?_⟩;exact cwQ e g f j
def cEJ:Vc.Spec:=λc m h K=>∃v w p q,c=[aP v,aP w]/\fJ h p v/\fJ h q w/\∀r:Bool,(r=true↔p=q)->K (cB r) m h
theorem iE{f}{S:Nat->Vc.Spec}{S'}(h:∀N,cz f (S N))(e:∀c m h K,S' c m h K->∃N,S N c m h K):cz f S':=by
 refine⟨(h 0).1,λc g m d w K j n=>?_⟩;obtain⟨N,s⟩:=e c m d K j;exact(h N).2 c g m d w K s n
theorem Z3:cz 266 cEJ:=iE Yf λ_ _ _ _⟨v,w,p,q,e,c,d,f⟩=>⟨SizeOf.sizeOf p+1,v,w,p,q,e,c,d,aD,f⟩
theorem aaZ:cz 224 cEJ:=iE Yj λ_ _ _ _⟨v,w,p,q,e,c,d,f⟩=>⟨SizeOf.sizeOf p+1,v,w,p,q,e,c,d,aD,f⟩
theorem Mj{d e c i g xs f w x y r r'}(j:Ci Tryz.prog (part e xs (i*c))=some x)(n:Ci Tryz.prog (part e f (i*c))=some y)(s:(Op.equalIn d e x y).run Tryz.prog w= .ok r w)(t:(Op.eqItems d e c xs f g).run Tryz.prog w= .ok r' w):(Op.eqItems d e c xs f (i::g)).run Tryz.prog w= .ok (r&&r') w:=by
 simp only[Op.eqItems,Sem.run_bind,DE _ _ _ j,DE _ _ _ n,Result.andThen_ok,s];cases r
 .simp
 grind
def cXQ(a b:Int×Int):=a.1==b.1&&(a.2==b.2&&true)
def cWJ(a b:Int×Bool):=a.1==b.1&&(a.2==b.2&&true)
theorem bWJ a b:StructEq Tryz.prog 130 (.agg #[.int .i64 a.1,.int .i64 a.2]) (.agg #[.int .i64 b.1,.int .i64 b.2]) (cXQ a b):=by
 refine⟨bh,λw=>?_⟩;obtain⟨i,c⟩:=Option.isSome_iff_exists.1 (show(Tryz.prog.info? 3).isSome=true by kernel_rfl);rw[run_equalIn_array w 9999 (e:=3) (n:=2) _ _ bh c,show Tryz.prog.cellsOf 3=1 by kernel_rfl,show List.range 2=[0,1]from rfl];refine Mj (x:=.int .i64 a.1) (y:=.int .i64 b.1) bh bh (run_equalIn_int w 9998 _ .i64 .i64 _ _ bh) ?_;refine Mj (x:=.int .i64 a.2) (y:=.int .i64 b.2) bh bh (run_equalIn_int w 9998 _ .i64 .i64 _ _ bh) ?_;simp[Op.eqItems]
theorem bWZ a b:StructEq Tryz.prog 77 (.agg #[.int .i64 a.1,.bool a.2]) (.agg #[.int .i64 b.1,.bool b.2]) (cWJ a b):=by
 refine⟨bh,λw=>?_⟩;rw[run_equalIn_struct w 9999 77 _ _ bh bh,show(Tryz.prog.fieldsOf 77).toList=[Su 77 0,Su 77 1]by kernel_rfl];refine oP (x:=.int .i64 a.1) (y:=.int .i64 b.1) bh bh bh (run_equalIn_int w 9998 _ .i64 .i64 _ _ bh) ?_;refine oP (x:=.bool a.2) (y:=.bool b.2) bh bh bh (run_equalIn_bool w 9998 _ _ _ bh) ?_;simp[Op.eqFields]
theorem YK{a b}:cXQ a b=true↔a=b:=by
 obtain⟨c,d⟩:=a;obtain⟨e,f⟩:=b;simp[cXQ]
theorem YJ{a b}:cWJ a b=true↔a=b:=by
 obtain⟨c,d⟩:=a;obtain⟨e,f⟩:=b;simp[cWJ]
theorem gS.at{s l}(r:gS h s l){x}(c:l[i]? =some x):∃b o,s.a=some ⟨b,o,none⟩/\bU h b (o+i*2) (pA x):=r.row.get (by simp[c])
theorem jW.at{s l}(r:jW h s l){x}(c:l[i]? =some x):∃b o,s.a=some ⟨b,o,none⟩/\bU h b (o+i*2) (Aa x):=r.row.get (by simp[c])
def UU:Vc.Spec:=λc m h K=>∃(s t:Sl)(a b:dh),c=[cS s,cS t]/\gS h s a/\gS h t b/\∀r:Bool,(r=true↔a=b)->K (cB r) m h
def UT:Vc.Spec:=λc m h K=>∃(s t:Sl)(a b:di),c=[cS s,cS t]/\jW h s a/\jW h t b/\∀r:Bool,(r=true↔a=b)->K (cB r) m h
noncomputable def Ye{α}(s t:Sl)(a b:List α)(m:MH)(h:PH):=
 ctx [] [HS 4 (λi=>bS 26 28 [(0,sv s),(1,sv t),(12,iv s.len),(13,iv i)] [] m h) (λi=>i<=a.length/\∀j:Nat,j<i->a[j]? =b[j]?) (λi=>a.length-i)] [] [] false
noncomputable abbrev u7(a:Int×Int):=lE (eH a.1) (eH a.2)
attribute [push_cast] u7
def Tw(s t:Sl)(a b:dh)(m:MH)(h:PH)(K:da):=
  dH (aG s) (aG t) (K bB m h) (lB (∃(x:Nat),aA (lB (x<=a.length) (λj=>j<x->a[j]? =b[j]?)) (aJ s) (aA (aJ t) (bG s) (aH (bA x) (m=m) (h=h) True))) (λx=>lB (x<=a.length) (λj=>j<x->a[j]? =b[j]?)->aZ (↑x:Int) (aG s) (bF (λd o=>aH (aM s.a d o) (0<=(↑x:Int)) ((↑x:Int)<aG s) (∃(y:Int×Int),aL m h d (bK o x 2) (u7 y)/\bF (λe f=>aH (aM t.a e f) (0<=(↑x:Int)) ((↑x:Int)<aG t) (∃(g:Int×Int),aL m h e (bK f x 2) (u7 g)/\∃(r:Bool),fT (pI 130 (u7 y) (u7 g) r) (!r) (K bB m h) (∃(c:Nat),aA (lB (c<=a.length) (λj=>j<c->a[j]? =b[j]?)) (a.length-c<a.length-x) (aA (aJ s) (aJ t) (aA (bG s) (fU (bC x 1)=bP c) (aA (m=m) (h=h) True))))))))) (K
 fM m h)))
noncomputable abbrev Az(a:Int×Bool):=lE (eH a.1) (Value.bool a.2)
attribute [push_cast] Az
def Tv(s t:Sl)(a b:di)(m:MH)(h:PH)(K:da):=
  dH (aG s) (aG t) (K bB m h) (lB (∃(x:Nat),aA (lB (x<=a.length) (λj=>j<x->a[j]? =b[j]?)) (aJ s) (aA (aJ t) (bG s) (aH (bA x) (m=m) (h=h) True))) (λx=>lB (x<=a.length) (λj=>j<x->a[j]? =b[j]?)->aZ (↑x:Int) (aG s) (bF (λd o=>aH (aM s.a d o) (0<=(↑x:Int)) ((↑x:Int)<aG s) (∃(y:Int×Bool),aL m h d (bK o x 2) (Az y)/\bF (λe f=>aH (aM t.a e f) (0<=(↑x:Int)) ((↑x:Int)<aG t) (∃(g:Int×Bool),aL m h e (bK f x 2) (Az g)/\∃(r:Bool),fT (pI 77 (Az y) (Az g) r) (!r) (K bB m h) (∃(c:Nat),aA (lB (c<=a.length) (λj=>j<c->a[j]? =b[j]?)) (a.length-c<a.length-x) (aA (aJ s) (aJ t) (aA (bG s) (fU (bC x 1)=bP c) (aA (m=m) (h=h) True))))))))) (K
 fM m h)))
theorem Z2:cz 267 UU:=by
 refine gW func267 ?_;rintro I m h K ⟨s,t,a,b,rfl,u,E,F⟩;refine⟨Ye s t a b m h,rfl,aI,Tw s t a b m h K,bh,?_⟩;dsimp only[Tw,push_cast];have c:=u.slen;have f:=E.slen;have J:=u.len;have G:a≠b->K (cB false) m h:=λh=>F false ⟨λe=>(by cases e),λe=>(h e).elim⟩;refine aC (λz=>G (λe=>QY c f z (by rw[e]))) (λz=>?_);have M:=M7 c f z;refine⟨⟨0,⟨aD,λj Y=>by omega⟩,MT⟩,λi H=>aF (λd=>?_) (λO=>?_)⟩
 .obtain⟨x,A⟩:=dW c d;obtain⟨y,D⟩:∃y,b[i]? =some y:=dW (n:=s.len) aD d;obtain⟨Q,R,S,T⟩:=u.at A;obtain⟨U,V,W,X⟩:=E.at D;refine⟨Q,R,S,aD,d,x,.imm T,U,V,W,aD,aD,y,.imm X,_,bWJ x y,aC (λg=>G (S9 A D (λe=>?_))) (λZ=>?_)⟩
  .rw[YK.2 e]at g;cases g
  .exact⟨i+1,⟨aD,Bh A D (YK.1 bo) H.2⟩,aD,MT⟩
 .exact F true ⟨λ_=>Dz M aD H.2,λ_=>rfl⟩
theorem Z1:cz 268 UT:=by
 refine gW func268 ?_;rintro I m h K ⟨s,t,a,b,rfl,u,E,F⟩;refine⟨Ye s t a b m h,rfl,aI,Tv s t a b m h K,bh,?_⟩;dsimp only[Tv,push_cast];have c:=u.slen;have f:=E.slen;have J:=u.len;have G:a≠b->K (cB false) m h:=λh=>F false ⟨λe=>(by cases e),λe=>(h e).elim⟩;refine aC (λz=>G (λe=>QY c f z (by rw[e]))) (λz=>?_);have M:=M7 c f z;refine⟨⟨0,⟨aD,λj Y=>by omega⟩,MT⟩,λi H=>aF (λd=>?_) (λO=>?_)⟩
 .obtain⟨x,A⟩:=dW c d;obtain⟨y,D⟩:∃y,b[i]? =some y:=dW (n:=s.len) aD d;obtain⟨Q,R,S,T⟩:=u.at A;obtain⟨U,V,W,X⟩:=E.at D;refine⟨Q,R,S,aD,d,x,.imm T,U,V,W,aD,aD,y,.imm X,_,bWZ x y,aC (λg=>G (S9 A D (λe=>?_))) (λZ=>?_)⟩
  .rw[YJ.2 e]at g;cases g
  .exact⟨i+1,⟨aD,Bh A D (YJ.1 bo) H.2⟩,aD,MT⟩
 .exact F true ⟨λ_=>Dz M aD H.2,λ_=>rfl⟩
noncomputable def Mf(s t:Sl)(a b:db)(m:MH)(h:PH):=
 ctx [] [HS 4 (λi=>bS 26 28 [(0,sv s),(1,sv t),(12,iv s.len),(13,iv i)] [] m h) (λi=>i<=a.length/\∀j:Nat,j<i->a[j]? =b[j]?) (λi=>a.length-i)] [] [] false
def JC(s t:Sl)(a b:db)(m:MH)(h:PH)(K:da):=
  dH (aG s) (aG t) (K bB m h) (lB (∃(x:Nat),aA (lB (x<=a.length) (λj=>j<x->a[j]? =b[j]?)) (aJ s) (aA (aJ t) (bG s) (aH (bA x) (m=m) (h=h) True))) (λx=>lB (x<=a.length) (λj=>j<x->a[j]? =b[j]?)->aZ (↑x:Int) (aG s) (bF (λd o=>aH (aM s.a d o) (0<=(↑x:Int)) ((↑x:Int)<aG s) (∃(y:Int),aL m h d (bK o x 1) (bM y)/\bF (λe f=>aH (aM t.a e f) (0<=(↑x:Int)) ((↑x:Int)<aG t) (∃(g:Int),aL m h e (bK f x 1) (bM g)/\dH y g (K bB m h) (∃(c:Nat),aA (lB (c<=a.length) (λj=>j<c->a[j]? =b[j]?)) (a.length-c<a.length-x) (aA (aJ s) (aJ t) (aA (bG s) (fU (bC x 1)=bP c) (aA (m=m) (h=h) True))))))))) (K fM m h)))
theorem cyJ s t a b m h K:JC s t a b m h K=(yC (Mf s t a b m h) Tryz.f178 (dQ Tryz.f178) (entry 26 [cS s,cS t] m h) K):=bh
theorem czZ s t a b m h K:JC s t a b m h K=(yC (Mf s t a b m h) Tryz.f152 (dQ Tryz.f152) (entry 26 [cS s,cS t] m h) K):=bh
def DW:Vc.Spec:=λc m h K=>∃(s t:Sl)(a b:db),c=[cS s,cS t]/\Ints h s a/\Ints h t b/\∀r:Bool,(r=true↔a=b)->K (cB r) m h
theorem aMZ{s t b}(c:Ints h s a)(f:Ints h t b)(g:∀r:Bool,(r=true↔a=b)->K (cB r) m h):JC s t a b m h K:=by
 dsimp only[JC,push_cast];have u:=c.slen;have z:=f.slen;have A:=c.len;have n:a≠b->K (cB false) m h:=λh=>g false ⟨λe=>by(cases e),λe=>(h e).elim⟩;refine aC (λD=>n (λe=>?_)) (λD=>?_)
 .grind
 .have T:a.length=b.length:=bo
  refine⟨⟨0,⟨aD,λj E=>by omega⟩,rfl,rfl,rfl,rfl,rfl,rfl,trivial⟩,λi U=>aF (λd=>?_) (λF=>?_)⟩
  .obtain⟨x,G⟩:∃x,a[i]? =some x:=⟨a[i]'(by omega),cd _⟩
   obtain⟨y,H⟩:∃y,b[i]? =some y:=⟨b[i]'(by omega),cd _⟩
   obtain⟨I,J,M,V⟩:=c.at G;obtain⟨O,Q,R,W⟩:=f.at H;refine⟨I,J,M,aD,d,x,.imm bo,O,Q,R,aD,aD,y,.imm bo,aC (λS=>n (λe=>?_)) (λX=>?_)⟩
   .grind
   .have:x=y:=bo
    refine⟨i+1,⟨aD,λj E=>?_⟩,aD,rfl,rfl,rfl,by rw[fR aD],rfl,rfl,trivial⟩
    grind
  .refine g true ⟨λ_=>?_,λ_=>rfl⟩;apply ext_getElem?
   grind
theorem aiZ:cz 178 DW:=by
 refine eG (fn:=Tryz.f178) (c:=dQ Tryz.f178) func178 rfl bj ?_;rintro d m h K ⟨s,t,a,b,rfl,e,f,g⟩;exact⟨Mf s t a b m h,rfl,aI,(cyJ s t a b m h K)▸aMZ e f g⟩
theorem G5:cz 152 DW:=by
 refine eG (fn:=Tryz.f152) (c:=dQ Tryz.f152) func152 rfl bj ?_;rintro d m h K ⟨s,t,a,b,rfl,e,f,g⟩;exact⟨Mf s t a b m h,rfl,aI,(czZ s t a b m h K)▸aMZ e f g⟩
def aQ(v:QV):CV:=.val (.agg ⟨v.enc⟩)
def Query.args:Query->dl
 |.mk _ _ _ _ _ _ _ _ l=>l
theorem vR{p:Query}{q}(h:q∈p.args):SizeOf.sizeOf q<SizeOf.sizeOf p:=by
 cases p with
 |mk op t w c o g s l args=>
  have:=sizeOf_lt_of_mem h;simp only[Query.args]at this
  grind
def FJ h s ps:=bI h 21 QV.enc (cY h) s ps
theorem FJ.mono{s ps}(r:FJ h s ps)(le:PH.le h h'):FJ h' s ps:=bI.mono r le λ_ _=>cY.mono le
theorem Ce.ofL{h:PH}:∀{ps:dl}{vs:dw},ps.length=vs.length->(∀(i:Nat)(x:Query),ps[i]? =some x->∃v,vs[i]? =some v/\cY h x v)->Ce h ps vs
 |[],[],_,_=>rfl
 |p::ps,v::vs,c,d=>by
  obtain⟨j,f,g⟩:=d 0 p rfl;simp at f;subst f;exact⟨v,vs,rfl,g,Ce.ofL bo λi x e=>bx (d (i+1) x (by simpa using e))⟩
 |[],_::_,c,_=>by simp at c
 |_::_,[],c,_=>by simp at c
structure mL(h:PH)(op table:Int)(w:Pred)(c:db)(o:dh)(g:db)(s:di)(l:Int)(args:dl)(v:QV):Prop where
 op_:v.op=op
 table_:v.table=table
 where_:fJ h w v.where_
 columns_:Ints h v.columns c
 on_:gS h v.on o
 group_:Ints h v.group g
 order_:jW h v.order s
 limit_:v.limit=l
 args_:FJ h v.args args
theorem cY.parts{op table w c o g s l args}(x:cY h (.mk op table w c o g s l args) v):mL h op table w c o g s l args v:=by
 obtain⟨f,j,n,t,u,y,z,A,D,E,e,d⟩:=x;exact⟨f,j,n,t,u,y,z,A,⟨⟨E,e,d.length.symm,λ_ _ F=>d.get F⟩,D⟩⟩
theorem mL.rep{op table w c o g s l args}(x:mL h op table w c o g s l args v):cY h (.mk op table w c o g s l args) v:=by
 obtain⟨d,e,f,j⟩:=x.args_.ex;exact⟨x.op_,x.table_,x.where_,x.columns_,x.on_,x.group_,x.order_,x.limit_,x.args_.len,d,e,.ofL f j⟩
def c4J(N:Nat):Vc.Spec:=λc m h K=>∃v w p q,c=[aQ v,aQ w]/\cY h p v/\cY h q w/\SizeOf.sizeOf p<N/\∀r:Bool,(r=true↔p=q)->K (cB r) m h
def c5Q:Vc.Spec:=λc m h K=>∃v w p q,c=[aQ v,aQ w]/\cY h p v/\cY h q w/\∀r:Bool,(r=true↔p=q)->K (cB r) m h
def cKZ(N:Nat):Vc.Spec:=λc m h K=>∃s t ps d,c=[cS s,cS t,.val (.func (.func 259) #[] #[])]/\FJ h s ps/\FJ h t d/\(∀p∈ps,SizeOf.sizeOf p<N)/\∀r:Bool,(r=true↔ps=d)->K (cB r) m h
noncomputable def bHQ N:=ctx [(266,cEJ),(152,DW),(267,UU),(268,UT),(269,cKZ N)] [] [] [] false
noncomputable def bGZ(N:Nat)(s t:Sl)(ps c:dl)(m:MH)(h:PH):=
 ctx [(259,c4J N)] [HS 4 (λi=>bS 32 35 [(1,sv t),(2,vv (.func (.func 259) #[] #[])),(15,sv s),(16,iv s.len),(17,iv i)] [] m h) (λi=>i<=ps.length/\∀j:Nat,j<i->ps[j]? =c[j]?) (λi=>ps.length-i)] [] [] false
noncomputable abbrev AJ(a:QV):=fL a.where_
noncomputable abbrev jJ a b:=aX a (cM b)
noncomputable abbrev iH a b:=jJ (cM a) b
abbrev Bs(a b:Sl)(c:PH)(d:db->db->Bool->Prop):=gL (λx e=>tC (λf g=>aH (iH a b=iH x e) (Ints c x f) (Ints c e g) (∀(j:Bool),d f g j)))
abbrev rN(a:Query)(b:Nat):=SizeOf.sizeOf a<b
attribute [push_cast] AJ jJ iH Bs rN
def Nr(N:Nat)(v w:QV)(m:MH)(h:PH)(K:da):=
  dO v.op w.op (dO v.table w.table (dO v.limit w.limit (Ly (λd e p q=>aH (aX (AJ v) (AJ w)=aX (fL d) (fL e)) (fJ h p d) (fJ h q e) (∀(r:Bool),iB (gU r (p=q)) r (Bs v.columns w.columns h (λa b f=>iB (gU f (a=b)) f (gL (λs t=>∃(g j:dh),aH (iH v.on w.on=iH s t) (gS h s g) (gS h t j) (∀(n:Bool),iB (gU n (g=j)) n (Bs v.group w.group h (λJ M u=>iB (gU u (J=M)) u (gL (λx y=>∃(z A:di),aH (iH v.order w.order=iH x y) (jW h x z) (jW h y A) (∀(D:Bool),iB (gU D (z=A)) D (gL (λE F=>∃(c G:dl),aA (C0 v.args w.args 259=C0 E F 259) (FJ h E c) (aA (FJ h F G) (∀(H:Query),List.Mem H c->
 rN H N) (∀(I:Bool),gU I (c=G)->K (yF I) m h)))) (K bB m h)))) (K bB m h))) (K bB m h)))) (K bB m h))) (K bB m h)))) (K bB m h)) (K bB m h)) (K bB m h)
abbrev uR(a:QV->Query->Prop):=∃(x:QV)(c:Query),a x c
noncomputable abbrev dG(a:QV):=qK a.enc
attribute [push_cast] uR dG
def Tu(N:Nat)(s t:Sl)(ps d:dl)(m:MH)(h:PH)(K:da):=
  dH (aG s) (aG t) (K bB m h) (lB (∃(x:Nat),aA (lB (x<=ps.length) (λj=>j<x->ps[j]? =d[j]?)) (aJ t) (aA (wQ 259 tE) (aJ s) (aA (bG s) (bA x) (aA (m=m) (h=h) True)))) (λx=>lB (x<=ps.length) (λj=>j<x->ps[j]? =d[j]?)->aZ (↑x:Int) (aG s) (bF (λb o=>aH (aM s.a b o) (0<=(↑x:Int)) ((↑x:Int)<aG s) (∃(y:QV),aL m h b (bK o x 21) y.enc/\bF (λe f=>aH (aM t.a e f) (0<=(↑x:Int)) ((↑x:Int)<aG t) (∃(g:QV),aL m h e (bK f x 21) g.enc/\∃(v:QV),uR (λw p=>∃(q:Query),aA (aX (dG y) (dG g)=aX (dG v) (dG w)) (cY h p v) (aA (cY h q w) (rN p N) (∀(r:Bool),iB (gU r (p=q)) (!r) (K bB m h) (∃(c:Nat),aA (lB (c<=ps.length) (λj=>j<c->ps[j]? =d[j]?))
 (ps.length-c<ps.length-x) (aA (aJ t) (wQ 259 tE) (aA (aJ s) (bG s) (aA (fU (bC x 1)=bP c) (m=m) (bQ h h))))))))))))) (K fM m h)))
theorem cuZ{w p q}(s:cY h p v)(t:cY h q w)(R:SizeOf.sizeOf p<N+1)(n:∀r:Bool,(r=true↔p=q)->K (cB r) m h):Nr N v w m h K:=by
 dsimp only[Nr,push_cast];have c:p≠q->K (cB false) m h:=λh=>n false ⟨λe=>(by cases e),λe=>(h e).elim⟩;have d:=@vR p;obtain⟨op,ta,S,co,on,gr,od,li,ps⟩:=p;obtain⟨u,x,y,z,A,D,E,F,T⟩:=q;have a:=s.parts;have b:=t.parts
 refine aC (λf=>aC (λg=>aC (λj=>⟨_,_,_,_,rfl,a.where_,b.where_,λU V=>aC (λG=>⟨_,_,_,_,rfl,a.columns_,b.columns_,λW X=>aC (λH=>⟨_,_,_,_,rfl,a.on_,b.on_,λY Z=>aC (λI=>⟨_,_,_,_,rfl,a.group_,b.group_,λr7 h7=>aC (λJ=>⟨_,_,_,_,rfl,a.order_,b.order_,λr8 h8=>aC (λM=>⟨_,_,_,_,rfl,a.args_,b.args_,λp O=>?_,λr Q=>n r (Q.trans ?_)⟩)
  (λM=>c λe=>?_)⟩) (λJ=>c λe=>?_)⟩) (λI=>c λe=>?_)⟩) (λH=>c λe=>?_)⟩) (λG=>c λe=>?_)⟩) (λj=>c λe=>?_)) (λg=>c λe=>?_)) (λf=>c λe=>?_)
 .have:=d (q:=p) O;omega
 .rw[a.op_,b.op_,beq_iff_eq]at f;rw[a.table_,b.table_,beq_iff_eq]at g;rw[a.limit_,b.limit_,beq_iff_eq]at j
  grind
 .grind
 .grind
 .grind
 .grind
 .grind
 .injection e with _ _ _ _ _ _ _ e _;rw[a.limit_,b.limit_,e]at j;simp at j
 .injection e with _ e _ _ _ _ _ _ _;rw[a.table_,b.table_,e]at g;simp at g
 .injection e with e _ _ _ _ _ _ _ _;rw[a.op_,b.op_,e]at f;simp at f
theorem Yh:∀N,cz 259 (c4J N)
 |0=>by
  refine eG (fn:=Tryz.f259) (c:=dQ Tryz.f259) func259 rfl bj ?_;rintro g m h K ⟨v,w,p,q,rfl,D,_,E,_⟩;omega
 |N+1=>by
  have z:cz 269 (cKZ N):=by
   refine gW func269 ?_;rintro g m h K ⟨s,t,ps,F,rfl,I,R,E,G⟩;refine⟨bGZ N s t ps F m h,rfl,aE (Yh N) aI,Tu N s t ps F m h K,bh,?_⟩;dsimp only[Tu,push_cast];have d:=I.slen;have A:=R.slen;have U:=I.len;have S:ps≠F->K (cB false) m h:=λh=>G false ⟨λe=>(by cases e),λe=>(h e).elim⟩;refine aC (λJ=>S (λe=>QY d A J (by rw[e]))) (λJ=>?_);have V:=M7 d A J;refine⟨⟨0,⟨aD,λj hj=>by omega⟩,MT⟩,λi T=>aF (λf=>?_) (λW=>?_)⟩
   .obtain⟨x,H⟩:=dW d f;obtain⟨y,M⟩:∃y,F[i]? =some y:=dW (n:=s.len) aD f;obtain⟨X,Y,u,Z,r1,ru⟩:=I.at H;obtain⟨b2,o2,w,e2,r2,O⟩:=R.at M;refine⟨X,Y,Z,aD,f,u,.imm r1,b2,o2,e2,aD,aD,w,.imm r2,u,w,x,y,rfl,ru,O,E x (ce H),λr D=>aC (λa'=>S (S9 H M (λe=>?_))) (λhe=>?_)⟩
    .grind
    .have Q:r=true:=bo
     exact⟨i+1,⟨aD,Bh H M (D.1 Q) T.2⟩,aD,MT⟩
   .exact G true ⟨λ_=>Dz V aD T.2,λ_=>rfl⟩
  refine gW func259 ?_;rintro g m h K ⟨v,w,p,q,rfl,D,hq,E,G⟩;refine⟨bHQ N,rfl,aE Z3 (aE G5 (aE Z2 (aE Z1 (aE z aI)))),Nr N v w m h K,bh,?_⟩;exact cuZ D hq E G
theorem Z5:cz 259 c5Q:=iE Yh λ_ _ _ _⟨v,w,p,q,e,c,d,f⟩=>⟨SizeOf.sizeOf p+1,v,w,p,q,e,c,d,aD,f⟩
structure Ref where
 columns:db
 table:Int
structure Bi where
 name:ByteArray
 columns:List rG
 key:Int
 refs:List Ref
 checks:dp
structure jC where
 version:Int
 tables:List Bi
variable{s:jC}
structure Wd(h:PH)(r:Ref)(v:Hu):Prop where
 columns:Ints h v.columns r.columns
 table:v.table=r.table
def Hv h s l:=bI h 2 rG.enc Eq s l
structure R6(h:PH)(t:Bi)(v:dE):Prop where
 name:v.name=t.name
 columns:Hv h v.columns t.columns
 key:v.key=t.key
 refs:bI h 2 Hu.enc (Wd h) v.references t.refs
 checks:Ik h v.checks t.checks
structure iC(h:PH)(s:jC)(v:cK):Prop where
 version:v.version=s.version
 tables:bI h 5 dE.enc (R6 h) v.tables s.tables
theorem Wd.mono{r v}(x:Wd h r v)(le:PH.le h h'):Wd h' r v:=⟨x.columns.mono le,x.table⟩
theorem R6.mono{t v}(x:R6 h t v)(le:PH.le h h'):R6 h' t v:=
 ⟨x.name,bI.mono x.columns le λ_ _ e=>e,x.key,x.refs.mono le λ_ _ e=>e.mono le,x.checks.mono le⟩
theorem iC.mono{v}(x:iC h s v)(le:PH.le h h'):iC h' s v:=⟨x.version,x.tables.mono le λ_ _ e=>e.mono le⟩
def lower c:=97<=c&&c<=122
def AW c:=lower c||(48<=c&&c<=57)||c==95
def tF(s:ByteArray):=s.data.toList.map UInt8.toNat
def rI s:=1<=s.size&&s.size<=32&&lower ((tF s).headD 0)&&(tF s).all AW
theorem UK s:(tF s).length=s.size:=by simp[tF]
theorem bnX{s c}(h:(tF s)[i]? =some c):(s.get! i).toNat=c/\c<256:=by
 simp only[tF,getElem?_map,Option.map_eq_some_iff]at h;obtain⟨b,e,rfl⟩:=h;refine⟨?_,b.toNat_lt⟩
 have f:i<s.data.size:=by
  grind
 have:s.data[i]? =some b:=bo
 cases s with
 |mk d=>
  show(d[i]!).toNat=b.toNat
  grind
theorem NO{s}(h:(s.get! i).toNat<128):Utf8.decode s i=((s.get! i).toNat,1):=by
 simp only[Utf8.decode,Nat.add_zero];rw[if_pos h]
theorem bmJ{s}(h:¬(s.get! i).toNat<128):128<=(Utf8.decode s i).1:=by
 simp only[Utf8.decode,Nat.add_zero];rw[if_neg h]
 repeat' split
 all_goals simp_all [Utf8.runeError]
 all_goals omega
def YT(s:ByteArray):CV:=.val (.string s)
def aSZ:Vc.Spec:=λc m h K=>∃s,c=[YT s]/\K (cB (rI s)) m h
noncomputable def bKX s m h:=
 ctx [] [(4,{A:=Nat×Nat×MH,st:=λx=>bS 44 45 [(15,vv (.pointer (some ⟨x.2.1,0,none⟩)))] [] x.2.2 h,inv:=λx=>x.1<=s.size/\rT m h x.2.1/\pO m x.2.2 x.2.1 (.stringIter s x.1)/\(x.1=0\/lower ((tF s).headD 0)=true)/\((tF s).take x.1).all AW=true,mu:=λx=>s.size-x.1})] [] [] false
noncomputable def bLX s m h:=
 ctx [] [HS 4 (λi=>bS 50 51 [(0,vv (.string s)),(3,iv i)] [] m h) (λi=>i<=s.size/\((tF s).take i).all AW=true) (λi=>s.size-i)] [] [] false
abbrev PL(a b:(Nat×Nat×MH)->Prop):=(∃(x:Nat×Nat×MH),a x)/\∀(x:Nat×Nat×MH),b x
abbrev j4(a b c:Prop)(d e:Nat->Nat->Option Value):=aA a b (aA c (d=e) True)
noncomputable abbrev jP(a:Nat×Nat×MH):=a.2.1
noncomputable abbrev iU(a:Nat×Nat×MH):=a.2.2
abbrev Ef a b c d:=aA (a.1<=b.size) (rT c d (jP a)) (aA (pO c (iU a) (jP a) (Obj.stringIter b a.1)) (a.1=0\/AY (lower (headD (tF b) 0))) (AY (List.all (List.take a.1 (tF b)) AW)))
abbrev dK a b:=sQo a 0=sQo b 0
noncomputable abbrev F6 a b:=(Utf8.decode a b).1
abbrev Dg(a:ByteArray)(b c:Nat):=a.size-b<a.size-c
abbrev IG(a:(Nat×Nat×MH)->Prop)(b:ByteArray)(c:Nat×Nat×MH)(d:MH)(e:PH):=∃(x:Nat×Nat×MH),aA (a x) (Dg b x.1 c.1) (aA (dK (jP c) (jP x)) (d=iU x) (bQ e e))
attribute [push_cast] PL j4 jP iU Ef dK F6 Dg IG
def Ny(s:ByteArray)(m:MH)(h:PH)(K:da):=
  aZ (↑s.size:Int) 1 (K bB m h) (fX (↑s.size:Int) 32 (K bB m h) (lG m h (λb e=>pO m e b (Obj.stringIter s 0)) (λb e=>PL (λx=>j4 (Ef x s m h) (dK b (jP x)) (e=iU x) h h) (λx=>Ef x s m h->∃(c:ByteArray)(p:Nat),aA (Ze (iU x) (jP x) (Obj.stringIter c p)) (c.size<=p->K fM (iU x) h) (p<c.size->∀(d:MH),pO (iU x) d (jP x) (Obj.stringIter c (p+(Utf8.decode c p).2))->cW (decide ((↑(F6 c p):Int)>=97)) (branch (!(decide ((↑(F6 c p):Int)<=122))) (cW ((↑p:Int)==0) (K bB d h) ((↑(F6 c p):Int) !=95) (aZ (↑(F6 c p):Int) 48 (K bB d h) (fX (↑(F6 c p):Int) 57 (K bB d h) (IG (λy=>Ef y s m h) s x d h))) (IG (λy=>Ef y s m h) s x d h)) (IG (λy=>Ef y s m h) s x
 d h)) ((↑p:Int)==0) (K bB d h) (dH (↑(F6 c p):Int) 95 (aZ (↑(F6 c p):Int) 48 (K bB d h) (fX (↑(F6 c p):Int) 57 (K bB d h) (IG (λy=>Ef y s m h) s x d h))) (IG (λy=>Ef y s m h) s x d h)))))))
abbrev qE(a:Bool)(b:Prop)(c d:Int)(e g:Prop):=cW a b (decide (c>d)) e g
abbrev Pl(a:Prop)(b:ByteArray)(c:Nat)(d:UInt8->UInt8)(e:UInt8->Prop):=a/\∃(x:UInt8),b.data.toList[c]? =Option.some (d x)/\e x
noncomputable abbrev AF(a:UInt8):=(↑a.toNat:Int)
abbrev Bu a b:=a<=b.size/\AY (List.all (List.take a (tF b)) AW)
attribute [push_cast] qE Pl AF Bu
def TT(s:ByteArray)(m:MH)(h:PH)(K:da):=
  qE ((↑s.size:Int)==0) (K bB m h) (↑s.size:Int) 32 (K bB m h) (Pl (cF 0) s 0 (λb=>b) (λb=>aZ (↑b.toNat:Int) 97 (K bB m h) (Pl (cF 0) s 0 (λd=>d) (λd=>fX (AF d) 122 (K bB m h) (lB (∃(x:Nat),aA (Bu x s) (eQ (SV.at (SF s))) (aA (bA x) (m=m) (bQ h h))) (λx=>Bu x s->aZ (↑x:Int) (↑s.size:Int) (Pl (cF (↑x:Int)) s (↑x:Int).toNat (λc=>c) (λc=>aZ (↑c.toNat:Int) 97 (aZ (↑c.toNat:Int) 48 (dH (AF c) 95 (K bB m h) (∃(y:Nat),aA (Bu y s) (Dg s y x) (aA (eQ (SV.at (SF s))) (fU (bC x 1)=bP y) (bO (m=m) h h)))) (fX (AF c) 57 (dH (AF c) 95 (K bB m h) (∃(y:Nat),aA (Bu y s) (Dg s y x) (aA (eQ (SV.at (SF s))) (fU (bC x 1)=bP y) (bO (m=m) h h)))) (∃(y:
 Nat),aA (Bu y s) (Dg s y x) (aA (eQ (SV.at (SF s))) (fU (bC x 1)=bP y) (bO (m=m) h h))))) (fX (AF c) 122 (aZ (↑c.toNat:Int) 48 (dH (AF c) 95 (K bB m h) (∃(y:Nat),aA (Bu y s) (Dg s y x) (aA (eQ (SV.at (SF s))) (fU (bC x 1)=bP y) (bO (m=m) h h)))) (fX (AF c) 57 (dH (AF c) 95 (K bB m h) (∃(y:Nat),aA (Bu y s) (Dg s y x) (aA (eQ (SV.at (SF s))) (fU (bC x 1)=bP y) (bO (m=m) h h)))) (∃(y:Nat),aA (Bu y s) (Dg s y x) (aA (eQ (SV.at (SF s))) (fU (bC x 1)=bP y) (bO (m=m) h h))))) (∃(y:Nat),aA (Bu y s) (Dg s y x) (aA (eQ (SV.at (SF s))) (fU (bC x 1)=bP y) (bO (m=m) h h)))))) (K fM m h)))))))
def mK(h:PH)(K:da):CV->MH->PH->Prop:=λr m' h'=>∃d c,(∀b o,d b=some o->m' b=some o)/\PH.le h c/\PH.le c h'/\K r d c
theorem mK.here{r}(c:K r m h):mK h K r m h:=⟨m,h,λ_ _ e=>e,.refl _,.refl _,c⟩
theorem mK.sub{r}(c:∀b o,m b=some o->m' b=some o)(d:K r m h):mK h K r m' h:=⟨m,h,c,.refl _,.refl _,d⟩
theorem pO.keeps{o}(f:rT m h b)(g:pO m m' b o):∀b o,m b=some o->m' b=some o:=λd n e=>by
 have c:d≠b:=λj=>by rw[j,f.m_]at e;cases e
 rw[g.other d c,e]
theorem ahJ:cz 183 aSZ:=by
 refine Hr func183 ?_;rintro U m h K ⟨s,rfl,E⟩;refine⟨bKX s m h,rfl,aI,Ny s m h (λr m' h'=>∃u F,(∀b o,u b=some o->m' b=some o)/\PH.le h F/\PH.le F h'/\K r u F),bh,?_⟩;show Ny s m h (mK h K);dsimp only[Ny,push_cast];have hl:=UK s;refine aF (λV=>?_) (λV=>aF (λF=>?_) (λF b W D G=>?_))
 .refine .here (kD E ?_);have:¬1<=s.size:=by omega
  simp[rI,this]
 .refine .here (kD E ?_);have:¬s.size<=32:=by omega
  simp[rI,this]
 refine⟨⟨(0,b,W),⟨bi,D,G,.inl rfl,bi⟩,MT⟩,?_⟩;rintro⟨d,b,mx⟩ ⟨X,D,n,g,f⟩;simp only at X D n g f;refine⟨s,d,⟨n.at_⟩,λY=>?_,λZ u H=>?_⟩
 .refine .sub (pO.keeps D n) (kD E ?_);rw[ci aD]at f
  have h3:lower ((tF s).headD 0)=true:=by
   grind
  have O:1<=s.size:=by omega
  have Q:s.size<=32:=by omega
  simp only[rI,f,h3,decide_eq_true O,decide_eq_true Q];rfl
 .have t:=n.trans H;obtain⟨c,M⟩:∃c,(tF s)[d]? =some c:=⟨(tF s)[d]'(by omega),cd _⟩
  obtain⟨T,R⟩:=bnX M
  have z:d=0->(tF s).headD 0=c:=λe=>by
   subst e;cases a':tF s with
   |nil=>grind
   |cons x l=>grind
  have I:¬((97<=(Utf8.decode s d).1/\(Utf8.decode s d).1<=122)\/(d≠0/\((Utf8.decode s d).1=95\/(48<=(Utf8.decode s d).1/\(Utf8.decode s d).1<=57))))->mK h K (.val (.bool false)) u h:=by
   intro hn;refine .sub (pO.keeps D t) (kD E ?_);by_cases j:(s.get! d).toNat<128
   .rw[NO j,T]at hn;by_cases S:d=0
    .have:lower c=false:=by
      simp only[lower,Bool.and_eq_false_iff,decide_eq_false_iff_not];omega
     simp only[rI,z S,this,Bool.and_false,Bool.false_and]
    .have:AW c=false:=by
      simp only[AW,lower,Bool.or_eq_false_iff,Bool.and_eq_false_iff,decide_eq_false_iff_not,beq_eq_false_iff_ne];omega
     simp[rI,PQ M this]
   .have:AW c=false:=by
     simp only[AW,lower,Bool.or_eq_false_iff,Bool.and_eq_false_iff,decide_eq_false_iff_not,beq_eq_false_iff_ne];omega
    simp[rI,PQ M this]
  have J:((97<=(Utf8.decode s d).1/\(Utf8.decode s d).1<=122)\/(d≠0/\((Utf8.decode s d).1=95\/(48<=(Utf8.decode s d).1/\(Utf8.decode s d).1<=57))))->d+1<=s.size/\pO m u b (.stringIter s (d+1))/\lower ((tF s).headD 0)=true/\((tF s).take (d+1)).all AW=true:=by
   intro A
   have j:(s.get! d).toNat<128:=by
    refine Decidable.byContradiction λj=>?_;have:=bmJ j;omega
   rw[NO j]at t;rw[NO j,T]at A;simp only at A;refine⟨aD,t,?_,?_⟩
   .rcases g with e|e
    .rw[z e];simp only[lower,cm,cr];omega
    .exact e
   .rw[Cd M,f];simp only[AW,lower,Bool.true_and,Bool.or_eq_true,cm,cr,beq_iff_eq];omega
  have next:((97<=(Utf8.decode s d).1/\(Utf8.decode s d).1<=122)\/(d≠0/\((Utf8.decode s d).1=95\/(48<=(Utf8.decode s d).1/\(Utf8.decode s d).1<=57))))->_:=λA=>(⟨(d+1,b,u),⟨(J A).1,D,(J A).2.1,.inr (J A).2.2.1,(J A).2.2.2⟩,aD,MT⟩:∃(y:Nat×Nat×MH),(y.fst<=s.size/\rT m h y.snd.fst/\pO m y.snd.2 y.snd.fst (Obj.stringIter s y.fst)/\(y.fst=0\/lower ((tF s).headD 0)=true)/\(List.take y.fst (tF s)).all AW=true)/\s.size-y.fst<s.size-d/\SV.at (At.val (Value.pointer (some (Addr.mk b 0 none))))=SV.at (At.val (Value.pointer (some (Addr.mk y.snd.fst 0 none))))/\u=y.snd.2/\h=h/\True)
  clear J t H f g z n G E
  repeat' (first|(refine aC (λ_=>?_) (λ_=>?_))|exact I (by simp only[cr,decide_eq_false_iff_not,bne_iff_ne,ne_eq,beq_iff_eq,beq_eq_false_iff_ne,bne_eq_false_iff_eq,Bool.not_eq_true',Bool.not_eq_false']at*;omega)|exact next (by simp only[cr,decide_eq_false_iff_not,bne_iff_ne,ne_eq,beq_iff_eq,beq_eq_false_iff_ne,bne_eq_false_iff_eq,Bool.not_eq_true',Bool.not_eq_false']at*;omega))
theorem ajZ:cz 173 aSZ:=by
 refine gW func173 ?_;rintro I m h K ⟨s,rfl,j⟩;refine⟨bLX s m h,rfl,aI,TT s m h K,bh,?_⟩;dsimp only[TT,push_cast];have T:=UK s;refine aC (λu=>kD j ?_) (λu=>aF (λJ=>kD j ?_) (λJ=>?_))
 .have:¬1<=s.size:=by have:(s.size:Int)=0:=(bx u);omega
  simp[rI,this]
 .have:¬s.size<=32:=by omega
  simp[rI,this]
 have u:s.size≠0:=by intro e;rw[e]at u;simp at u
 obtain⟨t,d⟩:∃c,s.data.toList[0]? =some c:=⟨s.data.toList[0]'(by simpa using(by omega:0<s.size)),cd _⟩
 have g:(tF s).headD 0=t.toNat:=by
  unfold tF;cases z:s.data.toList with
  |nil=>rw[z]at d;simp at d
  |cons x l=>rw[z]at d;simp at d;simp[d]
 refine⟨aD,t,d,aF (λM=>kD j ?_) (λM=>⟨aD,t,d,aF (λO=>kD j ?_) (λO=>?_)⟩)⟩
 .have:lower t.toNat=false:=by simp only[lower,Bool.and_eq_false_iff,decide_eq_false_iff_not];omega
  simp only[rI,g,this,Bool.and_false,Bool.false_and]
 .have:lower t.toNat=false:=by simp only[lower,Bool.and_eq_false_iff,decide_eq_false_iff_not];omega
  simp only[rI,g,this,Bool.and_false,Bool.false_and]
 refine⟨⟨0,⟨aD,bi⟩,MT⟩,λi D=>aF (λQ=>?_) (λR=>kD j ?_)⟩
 .obtain⟨c,H⟩:∃c,s.data.toList[i]? =some c:=⟨s.data.toList[i]'(by simpa using(by omega:i<s.size)),cd _⟩
  have n:(tF s)[i]? =some c.toNat:=by simp[tF,H]
  have f:AW c.toNat=false->K (.val (.bool false)) m h:=λe=>kD j (by simp[rI,PQ n e]);have next:AW c.toNat=true->∃(y:Nat),(y<=s.size/\(List.take y (tF s)).all AW=true)/\s.size-y<s.size-i/\SV.at (At.val (Value.string s))=SV.at (At.val (Value.string s))/\SV.at (At.val (Value.int IntKind.i64 (IntKind.i64.wrap ((i:Int)+1))))=SV.at (At.val (Value.int IntKind.i64 (y:Int)))/\m=m/\h=h/\True:=λe=>⟨i+1,⟨aD,by rw[Cd n,D.2,e];rfl⟩,aD,MT⟩
  have A:AW c.toNat=true↔(97<=c.toNat/\c.toNat<=122)\/(48<=c.toNat/\c.toNat<=57)\/c.toNat=95:=by
   simp only[AW,lower,Bool.or_eq_true,cm,cr,beq_iff_eq];omega
  have E:AW c.toNat=false↔¬((97<=c.toNat/\c.toNat<=122)\/(48<=c.toNat/\c.toNat<=57)\/c.toNat=95):=by
   rw[<-A];simp
  refine⟨aD,c,bx H,?_⟩;clear j D g n E;rw[A]at next
  have f:=λe=>f (by rw[<-Bool.not_eq_true,A];exact e);clear A
  repeat' (first|(refine aC (λ_=>?_) (λ_=>?_))|exact f (by simp only[cr,decide_eq_false_iff_not,bne_iff_ne,ne_eq,beq_iff_eq,beq_eq_false_iff_ne,bne_eq_false_iff_eq,Bool.not_eq_true',Bool.not_eq_false']at*;omega)|exact next (by simp only[cr,decide_eq_false_iff_not,bne_iff_ne,ne_eq,beq_iff_eq,beq_eq_false_iff_ne,bne_eq_false_iff_eq,Bool.not_eq_true',Bool.not_eq_false']at*;omega))
 .have:=D.2;rw[ci aD]at this;have S:lower t.toNat=true:=by simp only[lower,cm,cr];omega
  have F:1<=s.size:=by omega
  have G:s.size<=32:=by omega
  simp only[rI,this,g,S,decide_eq_true F,decide_eq_true G];rfl
end Go.Ps
