/- Own work. -/
import Derived.MapKept
import Derived.Maps.RangeRun
import Derived.Test.YtafjlhgalgfiaaaGreatDoorProg
import Derived.IntWalk
import Derived.ChangeKeysEq
import Derived.Test.YtafjlhgalgfiaaaGreatDoorOa
set_option linter.unusedVariables false
set_option linter.unusedSimpArgs false
namespace Go.Vc
open Go List
section
variable{B:wL}{C:Ctx}{ι:dc}{σ:St}{a:Act}{w:World}{o:Oper}{K:St->Prop}
theorem buJ(f:aM B ι σ a w) ob:
 aM B ι {σ with m:=λb=>if b=w.heap.size then some ob else σ.m b} a (w.alloc ob)/\cW σ.m σ.h w.heap.size/\∀o,J6 σ ι o w (w.alloc ob):=by
 have d:=f.wrel
 have l:cW σ.m σ.h w.heap.size:=by
  constructor
  .cases e:σ.m w.heap.size with
   |none=>rfl
   |some x=>have:=(Array.getElem?_eq_some_iff.1 (d.msat _ _ e)).1;omega
  .intro i;cases e:σ.h w.heap.size i with
   |none=>rfl
   |some x=>have:=World.block_lt_of_cell? w ⟨w.heap.size,i,none⟩ (d.hsat _ _ _ e);simp at this
 have r:(w.alloc ob).heap.size=w.heap.size+1:=by show(w.heap.push ob).size=_;simp
 refine⟨⟨f.slots,f.defers,λk n j=>(f.own k n j).world (λb c=>jR w ob (tL (f.own k n j) c)),f.dist,?_,?_,f.one⟩,l,λo=>⟨?_,?_,λ_ b c=>jR w ob c,λ_ b _ c _ _=>jR w ob c⟩⟩
 .intro k n b j c;obtain⟨z,A,D⟩:=f.fresh k n b j c;have t:=tL (f.own k n j) c
  grind
 .refine⟨d.tape,d.os,d.output,d.drawn,by rw[r];exact Nat.le_succ_of_le d.size,?_,?_,?_,?_,d.hle,d.hold,?_⟩
  .intro b c u;rw[jR w ob (ck c d.size)];exact d.frame b c u
  .intro b i v s;have g:=d.hsat b i v s;rw[<-g];exact World.cell?_of_block (w:=w) (w':=w.alloc ob) (a:=⟨b,i,none⟩) (jR w ob (World.block_lt_of_cell? w ⟨b,i,none⟩ g))
  .intro b x c;have c:(if b=w.heap.size then some ob else σ.m b)=some x:=c;by_cases e:b=w.heap.size
   .rw[if_pos e]at c;rw[e,qF];exact c
   .rw[if_neg e]at c;have g:=d.msat b x c;rw[jR w ob (Array.getElem?_eq_some_iff.1 g).1];exact g
  .intro b x c i;have c:(if b=w.heap.size then some ob else σ.m b)=some x:=c;by_cases e:b=w.heap.size
   .rw[e];exact l.h_ i
   .rw[if_neg e]at c;exact d.disj b x c i
  .intro b x c;have c:(if b=w.heap.size then some ob else σ.m b)=some x:=c;by_cases e:b=w.heap.size
   .left;rw[e];exact d.size
   .rw[if_neg e]at c;exact d.mfr b x c
 .intro k p T E b j _ y;exact jR w ob (tL (f.own k _ j) (by rw[y];rfl))
 .intro b i v s;have g:=d.hsat b i v s;rw[<-g];exact World.cell?_of_block (w:=w) (w':=w.alloc ob) (a:=⟨b,i,none⟩) (jR w ob (World.block_lt_of_cell? w ⟨b,i,none⟩ g))
theorem WC(n:aM B ι σ a w){b y ob}(t:σ.m b=some y):
 aM B ι {σ with m:=λc=>if c=b then some ob else σ.m c} a {w with heap:=w.heap.setIfInBounds b ob}/\∀o,BS o.op=false->J6 σ ι o w {w with heap:=w.heap.setIfInBounds b ob}:=by
 have g:=n.wrel;have z:b<w.heap.size:=(Array.getElem?_eq_some_iff.1 (g.msat _ _ t)).1
 have f:∀c,c≠b->(w.heap.setIfInBounds b ob)[c]? =w.heap[c]? :=λc l=>by
  grind
 have A:(w.heap.setIfInBounds b ob)[b]? =some ob:=by simp[z]
 have u:∀k r,nth σ.own k=some (some r)->blk (ι k)≠some b:=by
  intro k r s F;have:=(n.fresh k r b s F).2.1
  grind
 have j:∀c i v,σ.h c i=some v->({w with heap:=w.heap.setIfInBounds b ob}:World).cell? ⟨c,i,none⟩=some v:=by
  intro c i v D;have l:c≠b:=λe=>by subst e;rw[g.disj c _ t i]at D;cases D
  have E:=g.hsat c i v D;rw[<-E];exact World.cell?_of_block (w:=w) (w':={w with heap:=w.heap.setIfInBounds b ob}) (a:=⟨c,i,none⟩) (f c l)
 refine⟨⟨n.slots,n.defers,λk r s=>(n.own k r s).world (λc d=>f c (λe=>u k r s (e▸d))),n.dist,?_,?_,n.one⟩,λo I=>⟨?_,j,λh=>bg,λ_ c _ _ J _=>f c (λe=>bg)⟩⟩
 .intro k r c s d;obtain⟨L,M,N⟩:=n.fresh k r c s d
  grind
 .refine⟨g.tape,g.os,g.output,g.drawn,bk g.size,?_,j,?_,?_,g.hle,g.hold,?_⟩
  .intro c d G
   have l:c≠b:=λe=>by
    subst e;rcases g.mfr c _ t with E|E
    .omega
    grind
   rw[f c l];exact g.frame c d G
  .intro c x d;have d:(if c=b then some ob else σ.m c)=some x:=d;by_cases e:c=b
   .grind
   .rw[if_neg e]at d;rw[f c e];exact g.msat c x d
  .intro c x d i;have d:(if c=b then some ob else σ.m c)=some x:=d;by_cases e:c=b
   .rw[e];exact g.disj b _ t i
   .rw[if_neg e]at d;exact g.disj c _ d i
  .intro c x d;have d:(if c=b then some ob else σ.m c)=some x:=d;by_cases e:c=b
   .rw[e];exact g.mfr b _ t
   .rw[if_neg e]at d;exact g.mfr c _ d
 .intro k p T O c s _ H;exact f c (λe=>u k _ s (by rw[H,e];rfl))
theorem Sj(g:aM B ι σ a w){t r}(i:o.op= .makeMap t r)(h:MF o r σ K):Wi B C ι o σ K a w:=by
 intro next Q b
 unfold MF at h;split at h
 .obtain⟨d,e,j⟩:=buJ g (.map #[] 0)
  have c:(execOp a.eval o).run C.P w= .ok (.value (.map (some w.heap.size))) (w.alloc (.map #[] 0)):=by
   unfold execOp;simp[i,Instr.makeMap]
  unfold Oper.wp;rw[c,Oper.upon_value];exact b ι _ _ _ (d.put o.dst (x:=.at (.val (.map (some w.heap.size)))) rfl) (h w.heap.size _ e ⟨ay,λl f=>by simp[f]⟩) (j o)
 grind
theorem aM.drew{B ι σ a w}(h:aM B ι σ a w) k(c:w.drawn<=k):aM B ι σ a {w with drawn:=k}:=by
 refine⟨h.slots,h.defers,λj o d=>(h.own j o d).world (λ_ _=>rfl),h.dist,h.fresh,?_,h.one⟩;have b:=h.wrel;exact⟨b.tape,b.os,b.output,cj b.drawn c,b.size,b.frame,b.hsat,b.msat,b.disj,b.hle,b.hold,b.mfr⟩
theorem AD{α}{l:List α}{j x}(h:l[j]? =some x):l=l.take j++x::l.drop (j+1):=by
 have b:=(bm h);have e:=(List.getElem?_eq_some_iff.1 h).2;rw[<-e, <-drop_eq_getElem_cons b,take_append_drop]
theorem WO(p:aM B ι σ a w){t x}(z:o.op= .range t x)(h:Vg C o t x σ K):Wi B C ι o σ K a w:=by
 intro next Q f
 have d:=p.ev x;unfold Vg at h;split at h
 .rename_i s r u;rw[u]at d;have d:a.eval x= .string s:=d;obtain⟨j,l,v⟩:=buJ p (.stringIter s 0)
  have g:(execOp a.eval o).run C.P w= .ok (.value (.pointer (some ⟨w.heap.size,0,none⟩))) (w.alloc (.stringIter s 0)):=by
   unfold execOp;simp[z,d,Instr.range,run_underlying r]
  unfold Oper.wp;rw[g,Oper.upon_value];exact f ι _ _ _ (j.put o.dst (x:=.at (.val (.pointer (some ⟨w.heap.size,0,none⟩)))) rfl) (h w.heap.size _ l ⟨ay,λA m=>by simp[m]⟩) (v o)
 .rename_i I J b r u;rw[u]at d;have d:a.eval x= .map (some b):=d;obtain⟨D,⟨E,c,F,n,i,y⟩,h⟩:=h;have G:=p.wrel.msat b _ F;obtain⟨j,l,v⟩:=buJ p (.mapIter (some b) c #[] c)
  have g:(execOp a.eval o).run C.P w= .ok (.value (.pointer (some ⟨w.heap.size,0,none⟩))) (w.alloc (.mapIter (some b) c #[] c)):=by
   unfold execOp;simp[z,d,Instr.range,run_underlying r,MapKept.run_getObj_map G,Result.andThen]
  unfold Oper.wp;rw[g,Oper.upon_value];have H:b≠w.heap.size:=λe=>bg
  refine f ι _ _ _ (j.put o.dst (x:=.at (.val (.pointer (some ⟨w.heap.size,0,none⟩)))) rfl) (h w.heap.size _ l ⟨λA m=>by simp[m]⟩ ⟨E,c,c, #[],c,?_,n,i,y,ay,i,Nat.le_refl _,Nat.le_refl _,?_⟩) (v o)
  .grind
  .rw[<-n];congr 1;exact filter_eq_self.2 (λ_ _=>ay)
 grind
theorem Zr(v:aM B ι σ a w){x st}(R:o.op= .next x st)(h:Zs o x st σ K):Wi B C ι o σ K a w:=by
 intro next Q l
 have i:=v.ev x;unfold Zs at h;split at h
 .rename_i b S;rw[S]at i;have i:a.eval x= .pointer (some ⟨b,0,none⟩):=i;obtain⟨s,t,hm,Y,Z⟩:=h;have hg:=v.wrel.msat b _ hm.at_;by_cases y:t<s.size
  .obtain⟨H,hk⟩:=WC (ob:=.stringIter s (t+(Utf8.decode s t).2)) v hm.at_
   have d:(execOp a.eval o).run C.P w= .ok (.value (.tuple #[.bool true,.int .i64 t,.int .i32 (Utf8.decode s t).1])) {w with heap:=w.heap.setIfInBounds b (.stringIter s (t+(Utf8.decode s t).2))}:=by
    unfold execOp;simp[R,i,Instr.next,getObj,setObj,Sem.run,hg,y,goInt,Result.andThen]
   unfold Oper.wp;rw[d,Oper.upon_value];refine l ι _ _ _ (H.put o.dst (x:=.tup _) ?_) (Z y _ ⟨ay,λb' I=>by simp[I]⟩) (hk o (by rw[R];rfl));exact⟨_,rfl,rfl,rfl,rfl,trivial⟩
  .have d:(execOp a.eval o).run C.P w= .ok (.value (.tuple #[.bool false])) w:=by
    unfold execOp;simp[R,i,Instr.next,getObj,Sem.run,hg,y,Result.andThen]
   unfold Oper.wp;rw[d,Oper.upon_value];refine l ι _ _ _ (v.put o.dst (x:=.tup _) ?_) (Y aC) (oA v);exact⟨_,rfl,rfl,trivial⟩
 .rename_i r S;rw[S]at i;have i:a.eval x= .pointer (some ⟨r,0,none⟩):=i;obtain⟨b,a4,left,⟨p,f,g,c,c0,a',a0,J,M,T,E,a1,F,N⟩,Y,Z⟩:=h;have a2:=v.wrel.msat b _ a';have a3:=v.wrel.msat r _ T;rcases run_next_at (P:=C.P) w o.type r b g c0 c p f a3 a2 E a1 with⟨h0,d⟩|⟨e,he,w1,hw1,d⟩
  .have hl:left=[]:=by
    rw[<-N];have:(leftOf p c).toList=[]:=bg
    unfold leftOf at this
    grind
   have d:(execOp a.eval o).run C.P w= .ok (.value (.tuple #[.bool false])) w:=by
    unfold execOp;simp[R,i,d,Result.andThen]
   unfold Oper.wp;rw[d,Oper.upon_value];refine l ι _ _ _ (v.put o.dst (x:=.tup _) ?_) (Y hl) (oA v);exact⟨_,rfl,rfl,trivial⟩
  .have O:∃n,aM B ι σ a w1/\w1={w with drawn:=n}:=by
    rcases hw1 with rfl|rfl
    .grind
    .exact⟨w.drawn+1,v.drew (w.drawn+1) (Nat.le_succ _),rfl⟩
   obtain⟨n,O,U⟩:=O;obtain⟨H,hk⟩:=WC (ob:=.mapIter (some b) g (c.push e.born) f) O T
   have d:(execOp a.eval o).run C.P w= .ok (.value (.tuple #[.bool true,e.key,e.val])) {w1 with heap:=w1.heap.setIfInBounds r (.mapIter (some b) g (c.push e.born) f)}:=by
    unfold execOp;simp[R,i,d,Result.andThen,ChangeMaps.setBlock]
   have V:e∈p.toList.filter λe=> !c.contains e.born:=by
    unfold leftOf at he
    grind
   have W:e∈p.toList:=(mem_filter.1 V).1;obtain⟨j,hj⟩:=getElem?_of_mem V;have z:=AD hj;have a5:r≠b:=λe=>bg
   have u:(((p.toList.filter λe=> !c.contains e.born)).map (·.born)).Nodup:=M.sublist (filter_sublist.map _)
   have X:p.toList.filter (λx=> !(c.push e.born).contains x.born)=(p.toList.filter λe=> !c.contains e.born).take j++(p.toList.filter λe=> !c.contains e.born).drop (j+1):=by
    have h3:p.toList.filter (λx=> !(c.push e.born).contains x.born)=(p.toList.filter λe=> !c.contains e.born).filter λx=>x.born !=e.born:=by
     rw[filter_filter]
     grind
    rw[h3];generalize (p.toList.filter λe=> !c.contains e.born)=L at z u hj;have y:=(bm hj);generalize L.take j=A at z;generalize L.drop (j+1)=D at z;subst z;simp only[bu,map_cons,nodup_append,nodup_cons,mem_map,mem_cons]at u;obtain⟨_,⟨a6,_⟩,a7⟩:=u;rw[filter_append,filter_cons];simp only[bne_self_eq_false,Bool.false_eq_true,if_false];congr 1
    .refine filter_eq_self.2 λx S=>?_
     grind
    .refine filter_eq_self.2 λx S=>?_
     grind
   unfold Oper.wp;rw[d,Oper.upon_value];have G:(if b=r then some (Obj.mapIter (some b) g (c.push e.born) f)else σ.m b)=some (.map p f):=bg
   refine l ι _ _ _ (H.put o.dst (x:=.tup _) ?_) (Z (((p.toList.filter λe=> !c.contains e.born).take j).map λe=>(e.key,e.val)) (e.key,e.val) (((p.toList.filter λe=> !c.contains e.born).drop (j+1)).map λe=>(e.key,e.val)) ?_ _ ⟨λb' I=>by simp[I]⟩ ⟨⟨p,f,g,c.push e.born,f,G,a0,J,M,ay,E,F,F,?_⟩,p,f,g,c,e,G,M,ay,W,rfl⟩) ?_
   .exact⟨_,rfl,rfl,rfl,rfl,trivial⟩
   .grind
   .grind
   .have:=hk o (by rw[R];rfl);subst U;exact⟨this.cells,this.imm,this.ext,this.args⟩
 grind
theorem YB(j:aM B ι σ a w){x}(u:o.op= .entry x)(h:VN C o x σ K):Wi B C ι o σ K a w:=by
 intro next Q f
 have d:=j.ev x;unfold VN at h;split at h
 .rename_i r v;rw[v]at d;have d:a.eval x= .pointer (some ⟨r,0,none⟩):=d;obtain⟨b,y,left,x,⟨_,z,g,i,l,e,m,n,p,A,rfl⟩,h⟩:=h;have c:=run_entry_at (P:=C.P) w r b i l z g e (j.wrel.msat r _ p) (j.wrel.msat b _ m) A n
  have c:(execOp a.eval o).run C.P w= .ok (.value (.tuple #[e.key,e.val])) w:=by
   unfold execOp;simp[u,d,c,Result.andThen]
  have h:K (σ.put o.dst (.tup [.inl (.val e.key),.inl (.val e.val)])):=by
   split at h
   .obtain⟨s,t,h⟩:=h;have t:e.val=Sl.val s:=t;rw[t];exact h
   .exact h
  unfold Oper.wp;rw[c,Oper.upon_value];refine f ι _ _ _ (j.put o.dst (x:=.tup _) ?_) h (oA j);exact⟨_,rfl,rfl,rfl,trivial⟩
 grind
theorem He{P:Program}{f:TypeId}{Ok:Value->Prop}(L:KeyLaw P f Ok){k:Value}(n:Ok k)(w:World):∀(es:List MapEntry)(i:Nat),(∀e∈es,Ok e.key)->
 ((∀e∈es,e.key≠k)/\(Instr.findAsking f k es i).run P w= .ok none w)\/∃j e,es[j]? =some e/\e.key=k/\(Instr.findAsking f k es i).run P w= .ok (some (i+j,e.val)) w
 |[],i,_=>.inl ⟨λe p=>(by cases p),by simp[Instr.findAsking]⟩
 |e::es,i,b=>by
  obtain⟨r,g,l⟩:=L.eq k e.key w n (b e ay);cases r with
  |true=>exact .inr ⟨0,e,rfl,(l.1 rfl).symm,by simp[Instr.findAsking,g]⟩
  |false=>
   have s:e.key≠k:=λh=>bg
   rcases He L n w es (i+1) (λd c=>b d (by simp[c]))with⟨t,m⟩|⟨j,d,t,m,u⟩
   .refine .inl ⟨λd c=>?_,by simp[Instr.findAsking,g,m]⟩
    grind
   .exact .inr ⟨j+1,d,bg,m,by simp[Instr.findAsking,g,u];omega⟩
theorem findNow_spec{P:Program}{n:TypeId}{Ok:Value->Prop}(L:KeyLaw P n Ok){d:TypeDesc}(c:P.underlying n=some d){k:Value}(f:Ok k):∀(es:List MapEntry)(i:Nat)(r:Option (Nat×Value)),(∀e∈es,Ok e.key)->
 Instr.findNow d k es i=some r->((∀e∈es,e.key≠k)/\r=none)\/∃j e,es[j]? =some e/\e.key=k/\r=some (i+j,e.val)
 |[],i,r,_,h=>by
  simp[Instr.findNow]at h
  grind
 |e::es,i,r,b,h=>by
  simp only[Instr.findNow]at h;split at h
  .rename_i g;simp only[bx]at h;exact .inr ⟨0,e,rfl,((L.now d k e.key true c f (b e ay) g).1 rfl).symm,bg⟩
  .rename_i g;have s:e.key≠k:=λt=>by have:=(L.now d k e.key false c f (b e ay) g).2 t.symm;cases this
   rcases findNow_spec L c f es (i+1) r (λl m=>b l (by simp[m])) h with⟨u,p⟩|⟨j,l,u,p,v⟩
   .grind
   .exact .inr ⟨j+1,l,bg,p,bg⟩
  .cases h
theorem run_findKey{P c Ok}(L:KeyLaw P c Ok){k}(l:Ok k) w es(f:∀e∈es,Ok e.key):
 ((∀e∈es,e.key≠k)/\(Instr.findKey c k es).run P w= .ok none w)\/∃j e,es[j]? =some e/\e.key=k/\(Instr.findKey c k es).run P w= .ok (some (j,e.val)) w:=by
 obtain⟨d,g⟩:=L.under;cases h:Instr.findNow d k es 0 with
 |some r=>
  have b:(Instr.findKey c k es).run P w= .ok r w:=by simp[Instr.findKey,run_underlying g,h]
  rcases findNow_spec L g l es 0 r f h with⟨i,rfl⟩|⟨j,e,i,m,rfl⟩
  .grind
  grind
 |none=>
  have b:(Instr.findKey c k es).run P w=(Instr.findAsking c k es).run P w:=by simp[Instr.findKey,run_underlying g,h]
  rw[b];rcases He L l w es 0 f with⟨i,m⟩|⟨j,e,i,m,n⟩
  .grind
  grind
theorem Wl{P T z}(h:UW P T=some z) w:(zeroValue T).run P w= .ok z w:=by
 unfold UW at h;split at h
 .rename_i i d;split at h
  .rename_i k n c;simp only[bx]at h;subst h;simp[zeroValue,typeInfo,d,c]
  .rename_i b c;simp only[bx]at h;subst h;simp[zeroValue,typeInfo,d,c]
  .rename_i c;simp only[bx]at h;subst h;simp[zeroValue,typeInfo,d,c]
  .cases h
 .cases h
theorem Vt(i:aM B ι σ a w){t x k ok}(J:o.op= .lookup t x k ok)(h:QN C o t x k ok σ K):Wi B C ι o σ K a w:=by
 intro next Q c
 have d:=i.ev x;unfold QN at h;split at h
 .rename_i kt D b M N V E;rw[V]at d;have d:a.eval x= .map (some b):=d;have n:a.eval k=M:=(i.ev k).val? E;split at h
  .rename_i z W;obtain⟨r,Ok,⟨m,F,X,Y⟩,L,s,O,l,v⟩:=h;have R:=i.wrel.msat b _ X
   have y:∀e∈m.toList,∃p∈r,e.key=p.1/\e.val=only ((C.dec D).enc p.2):=by
    intro e G
    have:(e.key,e.val)∈r.map λp=>(p.1,only ((C.dec D).enc p.2)):=by
     grind
    grind
   have A:∀e∈m.toList,Ok e.key:=λe G=>by
    grind
   have g:=L.check M w m.isEmpty s;unfold Oper.wp;rcases run_findKey L s w m.toList A with⟨S,T⟩|⟨j,e,S,T,Z⟩
   .have f:(execOp a.eval o).run C.P w= .ok (.value (if ok then .tuple #[z,.bool false]else z)) w:=by
     unfold execOp;simp[J,d,n,Instr.lookup,run_underlying N,MapKept.run_getObj_map R,g,T,Wl W,Result.andThen]
    rw[f,Oper.upon_value];refine c ι _ _ _ (i.put o.dst ?_) (l ?_) (oA i)
    .cases ok
     .rfl
     .exact⟨_,rfl,rfl,rfl,trivial⟩
    .intro p hp e1
     have:(p.1,only ((C.dec D).enc p.2))∈m.toList.map λe=>(e.key,e.val):=by
      grind
     grind
   .have G:e∈m.toList:=bo S;obtain⟨p,hp,e1,H⟩:=y e G
    have f:(execOp a.eval o).run C.P w= .ok (.value (if ok then .tuple #[e.val,.bool true]else e.val)) w:=by
     unfold execOp;simp[J,d,n,Instr.lookup,run_underlying N,MapKept.run_getObj_map R,g,Z,Result.andThen]
    have U:=v p.2 bg;rw[f,Oper.upon_value];split at U
    .rename_i u I;rw[I]at H;refine c ι _ _ _ (i.put o.dst ?_) U (oA i);cases ok
     .exact H
     .exact⟨_,rfl,H,rfl,trivial⟩
    grind
  grind
 grind
theorem OL(i:aM B ι σ a w){t x k v}(J:o.op= .mapUpdate t x k v)(l:o.dst=none)(h:D8 C t x k v σ K):Wi B C ι o σ K a w:=by
 intro next Q f
 have d:=i.ev x;unfold D8 at h;split at h
 .rename_i Z et b m u T U A V;rw[U]at d;have d:a.eval x= .map (some b):=d;have D:a.eval k=m:=(i.ev k).val? A;have E:a.eval v=u:=(i.ev v).val? V;obtain⟨F,Ok,⟨g,c,M,G⟩,L,n,p,N,W⟩:=h;have O:=i.wrel.msat b _ M;have r:∀e∈g.toList,(e.key,e.val)∈F:=λe R=>bg
  have s:∀e∈g.toList,Ok e.key:=λe R=>p _ (r e R);have y:=L.check m w false n;rcases run_findKey L n w g.toList s with⟨X,S⟩|⟨j,e,X,S,h3⟩
  .obtain⟨H,Y⟩:=WC (ob:=.map (g.push {key:=m,val:=u,born:=c}) (c+1)) i M
   have z:(execOp a.eval o).run C.P w= .ok .skip {w with heap:=w.heap.setIfInBounds b (.map (g.push {key:=m,val:=u,born:=c}) (c+1))}:=by
    unfold execOp;simp[J,d,D,E,Instr.mapUpdate,run_underlying T,MapKept.run_getObj_map O,MapKept.run_setObj_map _ O,y,S,Result.andThen]
   unfold Oper.wp;rw[z,Oper.upon_skip,show a.put o.dst undef=a by rw[l];rfl];refine f ι _ _ _ H (W _ ⟨λb' I=>by simp[I]⟩ ⟨g.push {key:=m,val:=u,born:=c},c+1,ay,?_⟩) (Y o (by rw[J];rfl));simp[G]
  grind
 grind
theorem Vs(z:aM B ι σ a w){t x k v}(N:o.op= .mapUpdate t x k v)(m:o.dst=none)(h:Lv C t x k v σ K):Wi B C ι o σ K a w:=by
 intro next Q f
 have g:=z.ev x;unfold Lv at h;split at h
 .rename_i kt et b l u hu hx R hv;rw[hx]at g;have g:a.eval x= .map (some b):=g;have A:a.eval k=l:=(z.ev k).val? R;have D:a.eval v=u:=(z.ev v).val? hv;obtain⟨S,Ok,⟨d,c,T,U,V,a1⟩,L,E,r,F,G,H⟩:=h;have O:=z.wrel.msat b _ T;have I:∀e∈d.toList,(e.key,e.val)∈S:=λe W=>bg
  have J:∀e∈d.toList,Ok e.key:=λe W=>F _ (I e W);have n:=L.check l w false E;rcases run_findKey L E w d.toList J with⟨X,Y⟩|⟨j,e,X,Y,h3⟩
  .obtain⟨s,Z⟩:=WC (ob:=.map (d.push {key:=l,val:=u,born:=c}) (c+1)) z T
   have i:(execOp a.eval o).run C.P w= .ok .skip {w with heap:=w.heap.setIfInBounds b (.map (d.push {key:=l,val:=u,born:=c}) (c+1))}:=by
    unfold execOp;simp[N,g,A,D,Instr.mapUpdate,run_underlying hu,MapKept.run_getObj_map O,MapKept.run_setObj_map _ O,n,Y,Result.andThen]
   unfold Oper.wp;rw[i,Oper.upon_skip,show a.put o.dst undef=a by rw[m];rfl];refine f ι _ _ _ s (G (λp hp e1=>?_) _ ⟨λb' y=>by simp[y]⟩ ⟨d.push {key:=l,val:=u,born:=c},c+1,ay,by simp[U],λe W=>?_,?_⟩) (Z o (by rw[N];rfl))
   .grind
   .grind
   grind
  .have M:=(bm X);have a':d[j]? =some e:=bg
   obtain⟨s,Z⟩:=WC (ob:=.map (d.modify j λe=>{e with key:=l,val:=u}) c) z T
   have i:(execOp a.eval o).run C.P w= .ok .skip {w with heap:=w.heap.setIfInBounds b (.map (d.modify j λe=>{e with key:=l,val:=u}) c)}:=by
    unfold execOp;simp[N,g,A,D,Instr.mapUpdate,run_underlying hu,MapKept.run_getObj_map O,MapKept.run_setObj_map _ O,n,h3,a',Y,Instr.keyThatStays,r,Result.andThen]
   have a0:(d.modify j λe=>{e with key:=l,val:=u}).toList=d.toList.take j++{e with key:=l,val:=u}::d.toList.drop (j+1):=by
    rw[Array.toList_modify,modify_eq_take_cons_drop M]
    grind
   have a2:=AD X;unfold Oper.wp;rw[i,Oper.upon_skip,show a.put o.dst undef=a by rw[m];rfl];refine f ι _ _ _ s (H ((d.toList.take j).map λe=>(e.key,e.val)) e.val ((d.toList.drop (j+1)).map λe=>(e.key,e.val)) ?_ _ ⟨λb' y=>by simp[y]⟩ ⟨d.modify j λe=>{e with key:=l,val:=u},c,ay,?_,?_,?_⟩) (Z o (by rw[N];rfl))
   .grind
   .grind
   .grind
   grind
 grind
end
end Go.Vc
namespace Go.Vc
open Go List
section
variable{B:wL}{C:Ctx}{ι:dc}{σ:St}{a:Act}{w:World}{o:Oper}{K:St->Prop}
theorem btX(g:aM B ι σ a w)(u:G2 o.op=true)(h:Vi C o σ K):V5 C ι o σ K a w:=by
 unfold Vi at h;cases j:o.op<;>simp only[j]at h u
 case move x=>exact QK g (.inl j) h
 case assign x=>exact QK g (.inr j) h
 case pick c x y=>exact Zh g j h
 case build T ps=>exact YK g j h
 case load T x=>exact Zx g j h
 case nilCheck x=>exact Qy g j h
 case binOp op tx x y ty=>
  cases op
  case eql=>
   simp only at h;split at h
   .exact Hc (neg:=false) g j h
   .exact oD g (λp b=>bg) h
  case neq=>
   simp only at h;split at h
   .exact Hc (neg:=true) g j h
   .exact oD g (λp b=>bg) h
  case add=>exact VQ g j h
  all_goals first
   |exact oD g (λp b=>by rw[j];intro e;cases e) h
   |exact bkX g j h
 case unOp op t x=>exact oD g (λp b=>bg) h
 case convert s d x=>exact Sq g j h
 case fieldAddr T x f=>exact OO g j h
 case field T x f=>exact Xp g j h
 case indexAddr T x i=>exact ON g j h
 case index T x i=>exact Xi g j h
 case extract x i=>exact Sp g j h
 case call c=>
  obtain⟨l,args,m⟩:=c;cases l with
  |builtin b=>
   cases b<;>simp only[G2,Bool.false_eq_true]at u
   case len=>
    simp only at h;split at h
    .rename_i x v;exact aZZ g j rfl v h
    grind
   case min=>exact oD g (λp b=>bg) h
   case max=>exact oD g (λp b=>bg) h
  |value f=>simp[G2]at u
  |invoke r n=>grind
 all_goals (first|exact h.elim|(simp[G2]at u))
theorem V5.stp(d:aM B ι σ a w)(h:V5 C ι o σ K a w):Wi B C ι o σ K a w:=by
 intro next Q b
 obtain⟨v,x,c,e,f⟩:=h;unfold Oper.wp;rw[c w (.inr rfl),Oper.upon_value];exact b ι _ _ _ (d.put o.dst e) f (oA d)
theorem Dt(e:aM B ι σ a w):∀(i:Nat)(l:dn)(ts:ef)(b:dk),tS C.P σ [] i l ts=some b->b=(l.map a.eval).map .val
 |i,[],ts,b,h=>by simp[tS]at h;subst h;rfl
 |i,x::r,ts,b,h=>by
  simp only[tS]at h;split at h
  .cases h
  .rename_i d c;have f:=Dt e (i+1) r ts.tail d c;simp only[contains_nil]at h;split at h
   .rename_i u g;simp only[bx]at h;subst h;simp only[map_cons,(e.ev x).val? g,f]
   .cases h
theorem L7:∀(l b:cr),PJ (l.map .val) b=(l++b).map .val
 |[],_=>rfl
 |v::l,b=>by simp only[map_cons,PJ,L7 l b,cons_append]
theorem Vp{P T cs ι}:Den ι (mk P T (cs.map .val)) (valOf P T cs):=by
 unfold mk valOf;cases AN P T with
 |true=>exact⟨_,rfl,by simpa using(kK.vals (ι:=ι)).2 rfl⟩
 |false=>match cs with
  |[]=>exact trivial
  |[x]=>exact rfl
  |_::_::_=>exact trivial
theorem Sound.fat{P f S T}{vs:cr}{m h R}(I:Sound P f S)(L:S (vs.map .val) m h (λr m' D=>∃l,r= .val (valOf P T l)/\R l m' D)):FAt P f T (vs.map .val) m h R:=by
 have E:∀{l F:cr},l.map CV.val=F.map CV.val->l=F:=fun{l F} e=>(List.map_inj_right (λx y h=>by cases h;rfl)).1 e;refine⟨I.1,λM w N G=>?_⟩;rw[<-E N]
 have s:∀(l:cr)(w:World),DA w (l.map .val) l:=λl w=>by
  induction l with
  |nil=>trivial
  |cons a l O=>exact⟨rfl,O⟩
 have z:∀(l:cr)(i:Nat)(c:CV)(u:Value)(b:Nat),(l.map CV.val)[i]? =some c->j6 c u=some b->False:=λl i c u b p g=>by
  rw[getElem?_map]at p;cases e:l[i]? with
  |none=>grind
  |some v=>rw[e]at p;simp at p;subst p;simp[j6]at g
 refine(I.2 _ vs m h w _ L ⟨s _ _,G.hsat,G.msat,G.disj,λi j c d u v b p _ _ _ g _=>(z _ i c u b p g).elim,λi c u b p _ g=>(z _ i c u b p g).elim⟩).mono ?_;rintro e U ⟨r,u,m',D,rfl,⟨l,rfl,Q⟩,t,n,_⟩;have t:u=valOf P T l:=t;subst t
 have J:∀b,m b=none->¬yZ m (vs.map .val) vs b:=by
  rintro b g (A|⟨i,c,u,p,_,V⟩)
  .exact A g
  grind
 refine⟨l,m',D,rfl,Q,⟨n.tape,n.os,n.output,n.drawn,n.size,λb g H=>n.frame b g (J b H),⟨n.hsat,n.msat,n.disj⟩,⟨n.hle⟩,λb g H=>n.hold b g (J b H),λb o g=>?_⟩⟩;rcases n.mfr b o g with A|A
 .exact .inl A
 grind
theorem bkQ(r:aM B ι σ a w){c g T f G cs}(Z:o.op= .call c)(hc:c.callee= .value g)(hg:σ.ev g= .at (.val (.func (.func f) G cs)))(a':G.toList=[])(h:bTQ C o T f cs.toList c.args.toList σ K):Wi B C ι o σ K a w:=by
 intro next Q s
 unfold bTQ at h;split at h
 .rename_i a0 u;obtain⟨R,I,h⟩:=h;have J:=Dt r 0 _ _ _ u;subst J;rw[L7]at I;have H:=r.wrel;obtain⟨fn,L,M,N⟩:=I.fn;have t:=I.go _ w rfl ⟨H.hsat,H.msat,H.disj⟩;have O:a.eval g= .func (.func f) G cs:=by have:=r.ev g;rw[hg]at this;exact this
  have y:G= #[]:=bg
  subst y;have n: #[]++c.args.map a.eval++cs=(c.args.toList.map a.eval++cs.toList).toArray:=bg
  have S:¬fn.body=none:=bg
  have U:¬fn.name= "runtime.NumGoroutine" :=bg
  have z:(execOp a.eval o).run C.P w= .ok (.enter f (c.args.toList.map a.eval++cs.toList).toArray) w:=by
   unfold execOp;simp only[Z,resolve,hc,O,Deferred.ofValue,Sem.run_bind,Sem.run_pure,Result.andThen_ok,invoke,callFunc];rw[n];simp[program,Sem.run,L,U,S]
  unfold Oper.wp;rw[z,Oper.upon_enter];refine Calls.mono t ?_;rintro e w' ⟨l,m',h',rfl,⟨x,rfl,hx⟩,d⟩;show next (a.put o.dst (valOf C.P T ((C.dec T).enc x))) w'
  have V:DF ⟨w,λb=>σ.m b≠none,σ.h,[]⟩ m' h' w':=
   ⟨d.tape,d.os,d.output,d.drawn,d.size,λb i A=>d.frame b i (Classical.byContradiction A),d.heapy.hsat,d.heapy.msat,d.heapy.disj,d.hle.le,λb i A=>d.hold b i (Classical.byContradiction A),λb W i=>d.mfr b W i⟩
  have X:=r.called V (λb i=>by
   cases hm:σ.m b with
   |none=>grind
   |some W=>exact H.mfr b W hm) (λj o' b hj i A=>A (r.fresh j o' b hj i).2.1)
  refine s ι _ _ _ (X.put o.dst Vp) (h x m' h' hx) ⟨λk p T a1 b hk _ hι=>?_,λb D v J=>d.heapy.hsat b D v (d.hle.le b D v J),λE=>?_,λl b _ i Y _=>d.frame b i Y⟩
  .have F:blk (ι k)=some b:=by rw[hι];rfl
   exact d.frame b (tL (r.own k _ hk) F) (r.fresh k _ b hk F).2.1
  .rw[Z]at E;simp[BS]at E
 grind
theorem W3(u:∀g S,assoc C.specs g=some S->Sound C.P g S)(e:aM B ι σ a w)(h:Vi C o σ K):Wi B C ι o σ K a w:=by
 cases R:G2 o.op with
 |true=>exact(btX e R h).stp e
 |false=>
  unfold Vi at h;cases j:o.op<;>simp only[j]at h R
  case alloc T=>
   intro next Q z
   refine YP e j h next Q (λD L E F i p G=>?_)
   obtain⟨U,s,t,_⟩:=AM _ _ i p
   grind
  case box T x=>
   split at h
   .intro next Q z
    obtain⟨τ,m,H,I⟩:=qX _ _ e h;refine Uz m j H next Q (λD L E F i p G=>?_)
    obtain⟨U,s,t,_⟩:=AM _ _ i p;exact z D U E F s t (G.of_fz I)
   .exact Uz e j h
  case buildSlice T n ps=>
   intro next Q z
   refine ND e j h next Q (λD L E F i p G=>?_)
   obtain⟨U,s,t,_⟩:=EC _ _ i p;obtain⟨σ3,V,W,_⟩:=qX _ _ s t
   grind
  case makeFunc f x X=>
   intro next Q z
   obtain⟨τ,m,H,a0⟩:=AM _ _ e h;obtain⟨v,x,O,Y,H⟩:=oD m (λX b=>bg) H;unfold Oper.wp;rw[O w (.inr rfl),Oper.upon_value];exact z ι _ _ _ (m.put o.dst Y) H (oA e)
  case store T x v=>
   cases M:o.dst with
   |none=>
    rw[M]at h;intro next Q z
    obtain⟨τ,m,H,I⟩:=qX _ _ e h;exact Wv m j M H next Q (λD L E F i p G=>z D L E F i p (G.of_fz I))
   |some d=>grind
  case makeSlice T l c=>
   intro next Q z
   refine OM e j h next Q (λD L E F i p G=>?_)
   obtain⟨U,s,t,_⟩:=EC _ _ i p
   grind
  case slice T x lo hi mx=>exact WB e j h
  case makeMap T r=>exact Sj e j h
  case lookup T x k ok=>exact Vt e j h
  case mapUpdate T x k v=>
   cases M:o.dst with
   |none=>
    rw[M]at h;have h:(match Si C.heapT 400000 with|true=>Lv C T x k v σ K|false=>D8 C T x k v σ K):=h;split at h
    .exact Vs e j M h
    .exact OL e j M h
   |some d=>grind
  case range T x=>exact WO e j h
  case next x b=>exact Zr e j h
  case entry x=>exact YB e j h
  case call c=>
   obtain⟨A,args,N⟩:=c;cases A with
   |builtin b=>
    cases b<;>simp only[G2,Bool.true_eq_false]at R<;>simp only at h
    case append=>
     split at h
     .rename_i x y T tx Y ht;intro next Q z
      refine VT e j rfl Y ht h next Q (λD L E F i p G=>?_)
      obtain⟨σ3,V,W,_⟩:=qX _ _ i p
      grind
     grind
    case cap=>exact(oD e (λX b=>bg) h).stp e
    all_goals exact h.elim
   |value g=>
    simp only at h;split at h
    .rename_i f fs X hg;split at h
     .split at h
      .rename_i J;exact bkQ e j rfl hg J h
      grind
     .split at h
      .rename_i J Z;exact auX u e j rfl hg J Z h
      grind
    grind
   |invoke r n=>exact h.elim
  all_goals (first|exact h.elim|(simp[G2]at R))
theorem PY(c:aM B ι σ a w){d xs}(h:σ.ev (.tmp d)= .at (.val (.tuple xs))):a.tmps[d]? =none\/∃xs,a.tmps[d]? =some (.tuple xs):=by
 have b:=c.ev (.tmp d);rw[h]at b;have b:a.eval (.tmp d)= .tuple xs:=b;simp only[Act.eval,Array.getD_eq_getD_getElem?]at b
 grind
theorem Jw(c:aM B ι σ a w){d t}(h:σ.ev (.tmp d)= .at (.val (.bool t))):a.tmps[d]? =some (.bool t):=by
 have b:=c.ev (.tmp d);rw[h]at b;have b:a.eval (.tmp d)= .bool t:=b;simp only[Act.eval,Array.getD_eq_getD_getElem?]at b;cases e:a.tmps[d]? with
 |none=>rw[e]at b;simp[undef]at b
 |some v=>grind
theorem aM.setTmp(b:aM B ι σ a w){c t}(h:σ.ev c= .at (.val (.bool t))):aM B ι (setTmp σ c t) a w:=by
 cases c with
 |tmp d=>
  refine⟨?_,b.defers,b.own,b.dist,b.fresh,b.wrel,b.one⟩;have i:=Jw b h;have:=b.slots.set d (x:=.at (.val (.bool t))) (v:=.bool t) rfl;show DenS ι (σ.sl.set d _) a.tmps.toList
  have e:a.tmps.toList.set d (.bool t)=a.tmps.toList:=by
   apply ext_getElem?
   grind
  grind
 |const v=>exact b
 |global g=>exact b
 |func f=>exact b
theorem S9{c t}(h:σ.ev c= .at (.val (.bool t))):Fz σ (setTmp σ c t):=by
 cases c with
 |tmp d=>
  refine⟨λ_ _ _ i h=>⟨i,h⟩,λ_ _ _ h=>h,?_,?_,rfl⟩
  .intro x k j b;cases x with
   |tmp e=>
    simp only[Vc.setTmp,St.ev,AZ]at b;simp only[St.ev]
    grind
   |const v=>exact b
   |global g=>exact b
   |func f=>exact b
  .intro x k b;cases x with
   |tmp e=>
    simp only[Vc.setTmp,St.ev,AZ]at b;simp only[St.ev]
    grind
   |const v=>exact b
   |global g=>exact b
   |func f=>exact b
 |const v=>exact Fz.refl σ
 |global g=>exact Fz.refl σ
 |func f=>exact Fz.refl σ
def GWp(C:Ctx)(ops:Array Oper)(o:Oper)(a:Act)(w:World)(next:Act->World->Prop)(Q:Exit->Act->World->Prop):=
 if Region.wanted o (yielded ops a.tmps)then o.wp C.P a w next Q else next (a.put o.dst undef) w
theorem Sx{ops j d b t g}(e:o.guard=some (j,b))(c:nth ops.toList j=some g)(f:g.dst=some d)(h:a.tmps[d]? =some (.bool t)):
 Region.wanted o (yielded ops a.tmps)=(t==b):=by
 unfold Region.wanted;rw[e];rw[mE,cg]at c;simp[yielded,c,f,h]
theorem J7{ops j d b g}(f:o.guard=some (j,b))(e:nth ops.toList j=some g)(h:g.dst=some d)(c:a.tmps[d]? =none\/∃xs,a.tmps[d]? =some (.tuple xs)):
 Region.wanted o (yielded ops a.tmps)=false:=by
 unfold Region.wanted;rw[f];rw[mE,cg]at e;rcases c with c|⟨xs,c⟩<;>simp[yielded,e,h,c]
theorem HB{f ops}(c:aM B ι σ a w)(h:Q0 f ops o σ K):
 ∃e,aM B ι e a w/\Fz σ e/\((Region.wanted o (yielded ops a.tmps)=true/\f o e K)\/(Region.wanted o (yielded ops a.tmps)=false/\K (e.put o.dst (.at (.val undef))))):=by
 unfold Q0 at h;split at h
 .rename_i i;exact⟨σ,c,Fz.refl σ,.inl ⟨by simp[Region.wanted,i],h⟩⟩
 .rename_i j m i;split at h
  .exact h.elim
  .rename_i g n;split at h
   .exact h.elim
   .rename_i d p;split at h
    .rename_i t b;have l:=Jw c b;have r:=Sx (o:=o) (a:=a) i n p l;rcases yX h with⟨rfl,h⟩|⟨rfl,h⟩
     .refine⟨setTmp σ (.tmp d) true,c.setTmp b,S9 b,?_⟩
      grind
     .refine⟨setTmp σ (.tmp d) false,c.setTmp b,S9 b,?_⟩
      grind
    .rename_i s b;exact⟨σ,c,Fz.refl σ,.inr ⟨J7 i n p (PY c b),h⟩⟩
    grind
theorem Xl(c:∀g S,assoc C.specs g=some S->Sound C.P g S){ops}(m:aM B ι σ a w)(h:VB C ops o σ K) next Q(b:∀i e f w',aM B i e f w'->K e->J6 σ ι o w w'->next f w'):GWp C ops o a w next Q:=by
 obtain⟨t,d,j,n⟩:=HB m h;unfold GWp;rcases n with⟨l,h⟩|⟨l,h⟩
 .rw[if_pos l];exact W3 c d h next Q (λi e f w' p r s=>b i e f w' p r (s.of_fz j))
 .rw[if_neg (by simp[l])];exact b ι _ _ _ (d.put o.dst (x:=.at (.val undef)) rfl) h (oA m)
theorem PT{P next Q}(h:o.wp P a w next Q):o.wpIn Fence.wide 0 P a w next Q:=by
 refine⟨λ_ _=>trivial,?_⟩;show o.uponIn Fence.wide 0 P a next Q ((execOp a.eval o).run P w)
 unfold Oper.wp at h;cases b:(execOp a.eval o).run P w with
 |ok x g=>
  rw[b]at h;cases x with
  |value v=>exact h
  |skip=>exact h
  |defer d=>exact h
  |enter f args=>exact⟨λe=>by simp[Fence.wide]at e,callsIn_wide.2 h⟩
  |row r args=>
   refine⟨λe=>by simp[Fence.wide]at e,λc i _=>?_⟩;obtain⟨v,j,l,m⟩:=h c i;exact⟨v,j,l,stepsIn_wide.2 m⟩
  |_=>exact h.elim
 |halt x g=>
  rw[b]at h;cases x with
  |panic v=>exact h
  |_=>exact h.elim
def bXQ(B:wL)(C:Ctx)(o:Oper)(K:St->Prop)(a:Act)(w:World):=
 ∀(next:Act->World->Prop)(Q:Exit->Act->World->Prop),(∀e b c d,aM B e b c d->K b->next c d)->o.wpIn Fence.wide 0 C.P a w next Q
theorem Wm(s:aM B ι σ a w){c g l E cs}(O:o.op= .call c)(R:c.callee= .value g)(T:σ.ev g= .at (.val (.func (.yield l) E cs)))(U:E.toList=[])(V:cs.toList=[])(h:UY C o (.func (.yield l) #[] #[]) c.args.toList σ K):bXQ B C o K a w:=by
 intro next Q p
 unfold UY at h;split at h
 .exact h.elim
 .rename_i S hS;split at h
  .rename_i W t;obtain⟨X,h⟩:=h;have Y:=Dt s 0 _ _ _ t;subst Y;have F:=s.wrel;obtain⟨Z,v,f,y,M,i⟩:=X.go l _ σ.m σ.h w _ h ⟨F.hsat,F.msat,F.disj⟩;have H:a.eval g= .func (.yield l) E cs:=by have:=s.ev g;rw[T]at this;exact this
   have z:E= #[]:=bg
   have A:cs= #[]:=bg
   subst z A;have G:c.args.map a.eval=(c.args.toList.map a.eval).toArray:=bg
   have r:(execOp a.eval o).run C.P w= .ok (.round l Z v f y) w:=by
    unfold execOp;simp only[O,resolve,R,H,Deferred.ofValue,Sem.run_bind,Sem.run_pure,Result.andThen_ok,invoke]
    grind
   refine⟨λ_ _=>trivial,?_⟩;show o.uponIn Fence.wide 0 C.P a next Q ((execOp a.eval o).run C.P w)
   rw[r,Oper.uponIn_round];refine⟨λe=>by simp[Fence.wide]at e,i.mono ?_⟩;rintro e N ⟨u,m',h',rfl,hK,d⟩;show next (a.put o.dst u) N
   have I:DF ⟨w,λb=>σ.m b≠none,σ.h,[]⟩ m' h' N:=
    ⟨d.tape,d.os,d.output,d.drawn,d.size,λb n D=>d.frame b n (Classical.byContradiction D),d.heapy.hsat,d.heapy.msat,d.heapy.disj,d.hle.le,λb n D=>d.hold b n (Classical.byContradiction D),λb J n=>d.mfr b J n⟩
   have L:=s.called I (λb n=>by
    cases hm:σ.m b with
    |none=>grind
    |some J=>exact F.mfr b J hm) (λj o' b hj n D=>D (s.fresh j o' b hj n).2.1)
   exact p ι _ _ _ (L.put o.dst (x:=.at (.val u)) rfl) hK
  grind
theorem aYQ(b:∀g S,assoc C.specs g=some S->Sound C.P g S)(f:aM B ι σ a w)(h:aDZ C o σ K):bXQ B C o K a w:=by
 have i:Vi C o σ K->bXQ B C o K a w:=λh next Q j=>PT (W3 b f h next Q (λm n p r s t _=>j m n p r s t))
 unfold aDZ at h;split at h
 .rename_i c u;split at h
  .rename_i g v;split at h
   .rename_i l z A y;split at h
    .rename_i d e;exact Wm f u v y d e h
    grind
   grind
  grind
 grind
theorem Sm(c:∀g S,assoc C.specs g=some S->Sound C.P g S){ops}(l:aM B ι σ a w)(h:Q0 (aDZ C) ops o σ K) next Q(b:∀m i j w',aM B m i j w'->K i->next j w'):
 if Region.wanted o (yielded ops a.tmps)then o.wpIn Fence.wide 0 C.P a w next Q else(∀f,o.about C.P w a.eval=some f->Fence.wide.fn f)/\next (a.put o.dst undef) w:=by
 obtain⟨r,d,n,p⟩:=HB l h;rcases p with⟨e,h⟩|⟨e,h⟩
 .rw[if_pos e];exact aYQ c d h next Q b
 .rw[if_neg (by simp[e])];exact⟨λ_ _=>trivial,b ι _ _ _ (d.put o.dst (x:=.at (.val undef)) rfl) h⟩
theorem JB(b:∀g S,assoc C.specs g=some S->Sound C.P g S){ops:Array Oper}{Q:Exit->Act->World->Prop}{R:St->Prop}{rest:di}(d:∀ι σ a w,aM B ι σ a w->R σ->wpOpsIn Fence.wide 0 C.P ops Q rest a w):
 ∀(l:List Oper)(s:Nat)(ι:dc)(σ:St)(a:Act)(w:World),(∀j,j<l.length->l[j]? =ops.toList[s+j]?)->aM B ι σ a w->aBX C ops l σ R->wpOpsIn Fence.wide 0 C.P ops Q (range' s l.length++rest) a w
 |[],s,ι,σ,a,w,_,c,h=>d ι σ a w c h
 |o::l,s,ι,σ,a,w,e,c,h=>by
  have f:ops[s]? =some o:=by have:=e 0 ay;grind
  simp only[ci,range'_succ,cons_append,wpOpsIn,f]
  exact Sm b c h (wpOpsIn Fence.wide 0 C.P ops Q (range' (s+1) l.length++rest)) Q (λi m n p r t=>
   JB b d l (s+1) i m n p (λj u=>by have:=e (j+1) bf;grind) r t)
end
end Go.Vc
namespace Go.Vc
open Go List
def Yd(P:Program)(ops:Array Oper)(w:World)(o:Oper)(v:Value)(a:Act):=
 (Region.wanted o (yielded ops a.tmps)=true/\(execOp a.eval o).run P w= .ok (.value v) w)\/(Region.wanted o (yielded ops a.tmps)=false/\v=undef)
def Aft(ops:Array Oper)(ok:Oper)(i:Nat):=waits ok i=true\/∃j b,ops[j]? =some b/\waits ok j=true/\waits b i=true
def awX ops b:=∀(k:Nat)(ok:Oper)(d:Nat),ops[k]? =some ok->ok.dst=some d->d∈b.looksAt ops->waits b k=true
structure b3X(ops:Array Oper)(i:Nat)(oi:Oper):Prop where
 mv:cfQ oi.op=true
 look:∀(k:Nat)(ok:Oper)(d:Nat),ops[k]? =some ok->ok.dst=some d->d∈oi.looksAt ops->Aft ops ok i
structure Ssa(ops:Array Oper):Prop where
 look:∀(i:Nat)(oi:Oper),ops[i]? =some oi->awX ops oi\/b3X ops i oi
 dst:∀(i k:Nat)(oi ok:Oper)(d:Nat),ops[i]? =some oi->ops[k]? =some ok->ok.dst=some d->i≠k->oi.dst≠some d
 topo:∀(i:Nat)(oi:Oper)(k:Nat),ops[i]? =some oi->waits oi k=true->k<i
 sel:∀(j:Nat)(o:Oper) cs b,ops[j]? =some o->o.op≠ .select cs b
theorem Aft.in_{ops ok i}{L:Array Bool}(h:Aft ops ok i)(c:∀j,waits ok j=true->L.getD j false=true)(d:∀(j:Nat)(b:Oper),ops[j]? =some b->L.getD j false=true->∀k,waits b k=true->L.getD k false=true):L.getD i false=true:=by
 rcases h with h|⟨j,b,e,f,g⟩
 .exact c i h
 grind
theorem Ssa.self{ops}(c:Ssa ops){k:Nat}{o}(b:ops[k]? =some o):∀d,o.dst=some d->d∉o.looksAt ops:=λd f g=>by
 rcases c.look k o b with h|h
 .have:=c.topo k o k b (h k o d b f g);omega
 .rcases h.look k o d b f g with e|⟨j,i,l,e,m⟩
  .have:=c.topo k o k b e;omega
  .have:=c.topo k o j b e;have:=c.topo j i k l m;omega
theorem bwQ{P o}(h:cfQ o.op=true):Cj P o=false:=by
 unfold Cj;cases e:o.op<;>simp_all [cfQ]
theorem Mf{o k}:waits o k=true↔∃e∈o.after,Region.binds .any e=true/\e.on=k:=by
 unfold waits;rw[any_eq_true];constructor
 .rintro⟨e,b,h⟩;simp only[bz]at h;exact⟨e,bg,h.1,ca h.2⟩
 .rintro⟨e,b,c,d⟩;exact⟨e,bg,by simp[c,d]⟩
theorem bpJ{ops}(h:cKX ops=true)(t:Region.noSelect ops=true):Ssa ops:=by
 unfold cKX at h;simp only[all_eq_true,mem_range]at h;have l:∀{i:Nat}{m:Oper},ops[i]? =some m->i<ops.toList.length:=λf=>bg
 refine⟨?_,?_,?_,Region.noSelect_spec t⟩
 .intro i m f;have c:=h i (l f);rw[mE,cg,f]at c;simp only[bz,Bool.or_eq_true,all_eq_true,mem_range]at c;rcases c.2 with p|⟨u,p⟩
  .refine .inl λk ok d g n v=>?_;have b:=p k (l g);rw[mE,cg,g]at b
   grind
  .refine .inr ⟨u,λk ok d g n v=>?_⟩;have b:=p k (l g);rw[mE,cg,g]at b;simp only[n,Bool.or_eq_true,Bool.not_eq_true',contains_eq_mem,decide_eq_false_iff_not]at b;rcases b with b|b
   .grind
   .unfold cWZ at b;simp only[Bool.or_eq_true,any_eq_true,bz]at b;rcases b with b|⟨⟨y,j⟩,F,z,A⟩
    .exact .inl b
    .refine .inr ⟨j,y,?_,z,A⟩
     grind
 .intro i k m ok d f g n r;have c:=h i (l f);rw[mE,cg,f]at c;simp only[bz,all_eq_true,mem_range]at c;have b:=c.1.2 k (l g);rw[mE,cg,g]at b;simp only[n,Bool.or_eq_true]at b;rcases b with b|b
  .exact(r (ca b)).elim
  grind
 .intro i m k f D;have s:i<ops.toList.length:=bg
  have c:=h i s;rw[mE,cg,f]at c;simp only[bz,all_eq_true]at c;obtain⟨e,G,E,rfl⟩:=Mf.1 D;have:=c.1.1 e bg;simp only[E,Bool.not_true,Bool.false_or]at this;rw[<-Nat.blt_eq];exact this
theorem yU{ops b j}:j∈Region.ready .any ops b↔b.getD j true=false/\∃o,ops[j]? =some o/\∀k,waits o k=true->b.getD k false=true:=by
 rw[mem_ready];constructor
 .rintro⟨c,o,d,f⟩;refine⟨c,o,d,λk i=>?_⟩;obtain⟨e,g,h,rfl⟩:=Mf.1 i
  grind
 .rintro⟨c,o,d,f⟩;exact⟨c,o,d,λe g h=>f e.on (Mf.2 ⟨e,g,h,rfl⟩)⟩
theorem VD{l:Array Bool}{i}(h:l.getD i true=false):l.getD i false=false/\i<l.size:=by
 grind
theorem xF{l:Array Bool}{i}(h:i<l.size):(l.setIfInBounds i true).getD i false=true:=by
 simp[Array.getD,h]
theorem JW{ops o}{c e:Act}(l:∀cs b,o.op≠ .select cs b)(h:∀t∈o.looksAt ops,c.tmps[t]? =e.tmps[t]?):
 execOp c.eval o=execOp e.eval o/\Region.wanted o (yielded ops c.tmps)=Region.wanted o (yielded ops e.tmps):=by
 constructor
 .refine execOp_congr o l λx m=>?_;cases x with
  |tmp t=>
   have:t∈o.looksAt ops:=mem_append_left _ (mem_filterMap.2 ⟨.tmp t,bg,rfl⟩);simp only[Act.eval,Array.getD_eq_getD_getElem?,h t this]
  |const v=>rfl
  |global g=>rfl
  |func f=>rfl
 .unfold Region.wanted;split
  .rfl
  .rename_i j i n
   have:yielded ops c.tmps j=yielded ops e.tmps j:=by
    unfold yielded;cases p:(ops[j]?).bind (·.dst)with
    |none=>rfl
    |some d=>
     have r:d∈o.looksAt ops:=by
      unfold Oper.looksAt
      grind
     grind
   rw[this]
theorem O3{a:Act}{d v t}(h:d≠some t):(a.put d v).tmps[t]? =a.tmps[t]? :=by
 cases d with
 |none=>rfl
 |some e=>
  have:e≠t:=λx=>h (by rw[x]);simp[Act.put,Array.getElem?_setIfInBounds_ne this]
theorem cbX(a:Act) d u v:(a.put d u).put d v=a.put d v:=by
 cases d with
 |none=>rfl
 |some e=>simp[Act.put]
structure UE(P:Program)(ops:Array Oper)(L Cl:Array Bool)(ar ac:Act)(w:World):Prop where
 szL:L.size=ops.size
 szC:Cl.size=ops.size
 sub:∀i,L.getD i false=true->Cl.getD i false=true
 rd:∀(i:Nat)(o:Oper),ops[i]? =some o->Cl.getD i false=true->L.getD i false=false->G2 o.op=true
 clC:∀(i:Nat)(o:Oper),ops[i]? =some o->Cl.getD i false=true->∀k,waits o k=true->Cl.getD k false=true
 clL:∀(i:Nat)(o:Oper),ops[i]? =some o->L.getD i false=true->∀k,waits o k=true->L.getD k false=true
 tsz:ar.tmps.size=ac.tmps.size
 df:ar.defers=ac.defers
 agree:∀t,(∀(i:Nat)(o:Oper),ops[i]? =some o->Cl.getD i false=true->L.getD i false=false->o.dst≠some t)->ar.tmps[t]? =ac.tmps[t]?
 pend:∀(i:Nat)(o:Oper),ops[i]? =some o->Cl.getD i false=true->L.getD i false=false->∃v,(awX ops o->∀w'',(Cj P o=false\/w''=w)->Yd P ops w'' o v ac)/\(b3X ops i o->∀w'',Yd P ops w'' o v ar)/\ac.put o.dst v=ac
section
variable{P:Program}{ops:Array Oper}{L Cl:Array Bool}{ar ac:Act}{w:World}
theorem Yd.congr{o v a b w}(h:Yd P ops w o v a)(c:execOp b.eval o=execOp a.eval o)(d:Region.wanted o (yielded ops b.tmps)=Region.wanted o (yielded ops a.tmps)):Yd P ops w o v b:=by
 unfold Yd at*
 grind
theorem UE.looks(h:UE P ops L Cl ar ac w){o}(b:awX ops o)(c:∀k,waits o k=true->L.getD k false=true):∀t∈o.looksAt ops,ar.tmps[t]? =ac.tmps[t]? :=by
 intro t d;refine h.agree t (λk ok e _ g f=>?_);have:=c k (b k ok t e f d)
 grind
theorem UE.looks'(h:UE P ops L Cl ar ac w){i o}(b:b3X ops i o)(g:Cl.getD i false=false):∀t∈o.looksAt ops,ar.tmps[t]? =ac.tmps[t]? :=by
 intro t e;refine h.agree t (λk ok d c _ f=>?_);have:=(b.look k ok t d f e).in_ (h.clC k ok d c) h.clC
 grind
theorem UE.stepA(s:Ssa ops)(h:UE P ops L Cl ar ac w){i o}(y:ops[i]? =some o)(M:Cl.getD i false=true)(z:∀k,waits o k=true->L.getD k false=true){v}(r:ac.put o.dst v=ac):
 UE P ops (L.setIfInBounds i true) Cl (ar.put o.dst v) ac w:=by
 have n:i<L.size:=by rw[h.szL];grind
 have g:∀k,(L.setIfInBounds i true).getD k false=false->L.getD k false=false/\k≠i:=by
  intro k c;by_cases e:i=k
  .subst e;rw[xF n]at c;cases c
  .rw[getD_set_ne false e]at c;grind
 refine⟨bk h.szL,h.szC,?_,λk ok c f b=>h.rd k ok c f (g k b).1,h.clC,?_,?_,?_,?_,λk ok c f b=>?_⟩
 .intro k c;by_cases e:i=k
  .grind
  .rw[getD_set_ne false e]at c;exact h.sub k c
 .intro k ok c b j A;by_cases e:i=k
  .grind
  .rw[getD_set_ne false e]at b;exact getD_set_true (h.clL k ok c b j A)
 .rw[<-h.tsz];cases o.dst<;>simp[Act.put]
 .rw[<-h.df];cases o.dst<;>rfl
 .intro t D;by_cases e:o.dst=some t
  .rw[e]at r⊢
   rw[<-r];simp only[Act.put,Array.getElem?_setIfInBounds_self,h.tsz]
  .rw[O3 e];refine h.agree t (λk ok c f b=>?_);by_cases E:i=k
   .grind
   .exact D k ok c f (by rw[getD_set_ne false E];exact b)
 .obtain⟨u,F,G,H⟩:=h.pend k ok c f (g k b).1;refine⟨u,F,λl p=>?_,H⟩
  have m:∀d,o.dst=some d->d∉ok.looksAt ops:=λd I J=>by
   have:=(l.look i o d y I J).in_ z h.clL
   grind
  exact(G l p).congr (execOp_put ok (s.sel k ok · · c) ar o.dst v m) (wanted_put ok ar o.dst v m)
theorem UE.take(z:Ssa ops)(h:UE P ops L Cl ar ac w){k o}(r:ops[k]? =some o)(F:Cl.getD k false=false)(X:∀j,waits o j=true->Cl.getD j false=true)(S:G2 o.op=true){v}(Q:∀c,(Cj P o=false\/c=w)->Yd P ops c o v ac):UE P ops L (Cl.setIfInBounds k true) ar (ac.put o.dst v) w:=by
 have G:k<Cl.size:=by rw[h.szC];grind
 have f:∀j,(Cl.setIfInBounds k true).getD j false=true->j=k\/Cl.getD j false=true:=by
  intro j y;by_cases e:k=j
  .omega
  .rw[getD_set_ne false e]at y;exact .inr y
 have H:L.getD k false=false:=by
  cases T:L.getD k false with
  |false=>rfl
  |true=>rw[h.sub k T]at F;cases F
 have s:∀j,Cl.getD j false=true->(Cl.setIfInBounds k true).getD j false=true:=by
  intro j y;exact getD_set_true y
 have A:=z.self r;refine⟨h.szL,bk h.szC,λi g=>s i (h.sub i g),?_,?_,h.clL,?_,?_,?_,?_⟩
 .intro i l g b m;rcases f i b with rfl|b
  .grind
  .exact h.rd i l g b m
 .intro i l g b j y;rcases f i b with rfl|b
  .grind
  .exact s j (h.clC i l g b j y)
 .rw[h.tsz];cases o.dst<;>simp[Act.put]
 .rw[h.df];cases o.dst<;>rfl
 .intro t R;have e:o.dst≠some t:=R k o r (xF G) H;rw[O3 e];exact h.agree t (λi l g b m=>R i l g (s i b) m)
 .intro i l g b m;by_cases e:i=k
  .subst e;rw[r]at g;cases g;refine⟨v,λ_ c I=>(Q c I).congr (execOp_put o (z.sel i o · · r) ac o.dst v A) (wanted_put o ac o.dst v A),λD c=>?_,cbX _ _ _ _⟩;obtain⟨U,J⟩:=JW (z.sel i o · · r) (h.looks' D F);exact(Q c (.inl (bwQ D.mv))).congr U J
  .have n:=(f i b).resolve_left e;obtain⟨u,V,M,N⟩:=h.pend i l g n m;refine⟨u,λE c I=>?_,M,?_⟩
   .have p:∀d,o.dst=some d->d∉l.looksAt ops:=λd O W=>by
     have:=h.clC i l g n k (E k o d r O W)
     grind
    exact(V E c I).congr (execOp_put l (z.sel i l · · g) ac o.dst v p) (wanted_put l ac o.dst v p)
   rw[Act.put_comm ac v u (λd O=>z.dst i k l o d g r O e),N]
theorem Wn{o i m w b g Q}(p:execOp m.eval o=execOp i.eval o)(h:o.wp P i w b Q)(s:∀v w',b (i.put o.dst v) w'->g (m.put o.dst v) w')(t:∀d w',¬b (({i with defers:=d::i.defers}:Act).put o.dst undef) w')(y:∀c a w,¬Q (.panic c) a w):o.wp P m w g Q:=by
 unfold Oper.wp at*
 rw[p];generalize (execOp i.eval o).run P w=r at*
 cases r with
 |ok n w'=>
  cases n<;>simp only[Oper.upon]at h⊢
  case value u=>grind
  case skip=>grind
  case defer d=>grind
  case enter f args=>
   refine Calls.mono h λe j l=>?_
   grind
  case row row args=>exact Rows.mono h λu j l=>s u j l
 |halt x w'=>
  cases x<;>simp only[Oper.upon]at h⊢
  grind
theorem UE.stepB(I:Ssa ops)(h:UE P ops L Cl ar ac w){j o}(G:ops[j]? =some o)(U:Cl.getD j false=false)(R:∀k,waits o k=true->L.getD k false=true) u w'(J:∀(i:Nat)(c:Oper)(v:Value),ops[i]? =some c->Cl.getD i false=true->L.getD i false=false->Yd P ops w c v ac->Yd P ops w' c v ac\/Cj P c=false):
 UE P ops (L.setIfInBounds j true) (Cl.setIfInBounds j true) (ar.put o.dst u) (ac.put o.dst u) w':=by
 have A:j<Cl.size:=by rw[h.szC];grind
 have D:j<L.size:=by rw[h.szL];grind
 have l:∀i,(Cl.setIfInBounds j true).getD i false=true->i=j\/Cl.getD i false=true:=by
  intro i b;by_cases e:j=i
  .omega
  .rw[getD_set_ne false e]at b;exact .inr b
 have m:∀i,(L.setIfInBounds j true).getD i false=false->i≠j/\L.getD i false=false:=by
  intro i b;by_cases e:j=i
  .subst e;rw[xF D]at b;cases b
  .rw[getD_set_ne false e]at b;grind
 have s:∀i,Cl.getD i false=true->(Cl.setIfInBounds j true).getD i false=true:=λi b=>getD_set_true b;refine⟨bk h.szL,bk h.szC,?_,?_,?_,?_,?_,?_,?_,?_⟩
 .intro i b;by_cases e:j=i
  .subst e;exact xF A
  .rw[getD_set_ne false e]at b;exact s i (h.sub i b)
 .intro i c b f g;obtain⟨n,p⟩:=m i g;exact h.rd i c b ((l i f).resolve_left n) p
 .intro i c b f k H;rcases l i f with rfl|f
  .rw[G]at b;cases b;exact s k (h.sub k (R k H))
  .exact s k (h.clC i c b f k H)
 .intro i c b g k H;by_cases e:j=i
  .grind
  .rw[getD_set_ne false e]at g;exact getD_set_true (h.clL i c b g k H)
 .cases o.dst<;>simp[Act.put,h.tsz]
 .have:=h.df;cases o.dst<;>exact this
 .intro t S;by_cases e:o.dst=some t
  .rw[e];simp only[Act.put,Array.getElem?_setIfInBounds_self,h.tsz]
  .rw[O3 e,O3 e];refine h.agree t (λi c b f g=>S i c b (s i f) ?_);have n:j≠i:=λx=>bg
   rw[getD_set_ne false n];exact g
 .intro i c b f g;obtain⟨n,p⟩:=m i g;have y:=(l i f).resolve_left n;obtain⟨v,V,M,N⟩:=h.pend i c b y p;refine⟨v,λO z W=>?_,λE z=>?_,?_⟩
  .have r:∀d,o.dst=some d->d∉c.looksAt ops:=λd F Q=>by
    have:=h.clC i c b y j (O j o d G F Q)
    grind
   have T:Yd P ops z c v ac:=by
    grind
   exact T.congr (execOp_put c (I.sel i c · · b) ac o.dst u r) (wanted_put c ac o.dst u r)
  .have r:∀d,o.dst=some d->d∉c.looksAt ops:=λd F Q=>by
    have:=(E.look j o d G F Q).in_ R h.clL
    grind
   exact(M E z).congr (execOp_put c (I.sel i c · · b) ar o.dst u r) (wanted_put c ar o.dst u r)
  .rw[Act.put_comm ac u v (λd F=>I.dst i j c o d b G F n),N]
end
section
variable{B:wL}{C:Ctx}{ι:dc}{σ:St}{a:Act}{w:World}
theorem Wz{P b σ c d K}(h:N0 P b σ c d K):N0 P b σ c d True/\K:=by
 unfold N0 at h⊢
 repeat' split at h
 all_goals first|exact h.elim|skip
 all_goals simp_all
theorem P1{P:Program}{e:Bool}{ops:Array Oper}{b:Array Bool}{σ:St}{c:Oper}:∀(l:List Oper)(s:Nat){K:Prop},Mi P e ops b σ c s l K->
 K/\∀(i:Nat)(d:Oper),l[i]? =some d->b.getD (s+i) false=true->G2 d.op=true->waits c (s+i)=false->BF ops σ d=false->N0 P e σ c d True
 |[],s,K,h=>⟨h,λi d f=>by simp at f⟩
 |o::l,s,K,h=>by
  have key:(Mi P e ops b σ c (s+1) l K)/\(b.getD s false=true->G2 o.op=true->waits c s=false->BF ops σ o=false->N0 P e σ c o True):=by
   simp only[Mi]at h;split at h
   .obtain⟨g,j⟩:=Wz h
    grind
   grind
  obtain⟨m,n⟩:=P1 l (s+1) key.1
  grind
theorem Wy{σ b c τ K}(h:Ki σ b c τ K):Ki σ b c τ True/\K:=by
 unfold Ki at h⊢
 repeat' split at h
 all_goals simp_all
theorem NZ{ops:Array Oper}{b:Array Bool}{σ:St}{c:Oper}{τ:St}:∀(l:List Oper)(s:Nat){K:Prop},HT ops b σ c τ s l K->
 K/\∀(i:Nat)(d:Oper),l[i]? =some d->b.getD (s+i) false=true->G2 d.op=true->waits c (s+i)=false->BF ops σ d=false->Ki σ c d τ True
 |[],s,K,h=>⟨h,λi d e=>by simp at e⟩
 |o::l,s,K,h=>by
  have key:(HT ops b σ c τ (s+1) l K)/\(b.getD s false=true->G2 o.op=true->waits c s=false->BF ops σ o=false->Ki σ c o τ True):=by
   simp only[HT]at h;split at h
   .obtain⟨f,g⟩:=Wy h
    grind
   grind
  obtain⟨j,m⟩:=NZ l (s+1) key.1
  grind
theorem Vx{ops c}(e:aM B ι σ a w)(h:BF ops σ c=true):Region.wanted c (yielded ops a.tmps)=false:=by
 unfold BF at h;split at h
 .cases h
 .rename_i j f i;split at h
  .cases h
  .rename_i g l;split at h
   .cases h
   .rename_i d m;split at h
    .rename_i t b;rw[Sx i l m (Jw e b)]
     grind
    .rename_i n b;exact J7 i l m (PY e b)
    .cases h
theorem Dv(m:aM B ι σ a w){k:Nat}{p:Own}(c:nth σ.own k=some (some p)){b:Nat}(n:blk (ι k)=some b):∀{l:dn},Je σ k l=true->∀x∈l,∀j,(σ.ev x= .at (.lst j)\/∃off,σ.ev x= .at (.ptr j off))->blk (ι j)≠some b
 |[],_,x,d=>by cases d
 |y::r,h,x,d=>by
  simp only[Je,bz]at h;rcases mem_cons.1 d with rfl|d
  .intro j e g;have f:=h.1;rcases e with e|⟨off,e⟩
   all_goals
    simp only[e]at f;split at f
    .rename_i s i;have:=m.dist j k _ _ b i c g n;subst this;simp at f
    .cases f
  .exact Dv m c n h.2 x d
theorem cbZ{ops fl oj U v w'}(D:aM B ι σ a w)(hk:J6 σ ι oj w w')(f:N0 C.P fl σ oj U True)(a':fl=true->∃τ:St,DF B τ.m τ.h w'/\Ki σ oj U τ True)(hy:Yd C.P ops w U v a):Yd C.P ops w' U v a\/Cj C.P U=false:=by
 unfold N0 at f;split at f
 .grind
 .left;rcases hy with⟨hw,b4⟩|hy
  .left;refine⟨hw,?_⟩;split at f
   .rename_i T x G;split at f
    .grind
    .rename_i hT;have z:=D.ev x
     have V:∀(b y:Nat)(H:cr),a.eval x= .pointer (some ⟨b,y,none⟩)->H.length=C.P.cellsOf T->(∀j u,H[j]? =some u->w.cell? ⟨b,y+j,none⟩=some u)->(∀j u,H[j]? =some u->w'.cell? ⟨b,y+j,none⟩=some u)->
      (execOp a.eval U).run C.P w'= .ok (.value v) w':=by
      intro b y H I W hc a6;have Y:=BL hT W hc;have h2:=BL hT W a6
      have e1:(execOp a.eval U).run C.P w= .ok (.value (mkV C.P T H)) w:=by
       unfold execOp;simp only[G,I,Instr.loadAt,Instr.sureAddr,Sem.run_bind,Sem.run_pure,Result.andThen_ok,Y]
      have e2:(execOp a.eval U).run C.P w'= .ok (.value (mkV C.P T H)) w':=by
       unfold execOp;simp only[G,I,Instr.loadAt,Instr.sureAddr,Sem.run_bind,Sem.run_pure,Result.andThen_ok,h2]
      grind
     split at f
     .rename_i k y I;rw[I]at z;split at f
      .rename_i p T' H r;split at f
       .rename_i ht a1;have a1:=Nat.le_of_ble_eq_true a1;obtain⟨b,vs,hι,hh,a7⟩:=AI D r;obtain⟨b',a0,a8⟩:=z;rw[hι]at a0;simp only[Value.pointer.injEq,bx,Addr.mk.injEq]at a0;obtain⟨rfl, -, -⟩:=a0;have a2:=hk.cells k p T' H b r ht hι;rw[hh]at a2;have b5:H.length=vs.toList.length:=a7.length;refine V b y ((vs.toList.drop y).take (C.P.cellsOf T)) a8 bg (λj u J=>?_) (λj u J=>?_)
        .rw[cell_of_heap hh];grind
        .rw[cell_of_heap a2];grind
       grind
      grind
     .rename_i b y d I hd;rw[I]at z;have z:a.eval x= .pointer (some ⟨b,y,none⟩):=z;split at f
      .rename_i H a3;split at f
       .rename_i l W;split at f
        .rename_i F;split at f
         .rename_i X;have hc:=Fs D.wrel f.1;refine V b y l z (ca F) hc (λj u J=>?_);have Y:=hc j u J;cases M:BS oj.op with
          |false=>
           rw[M,Bool.false_or]at X;obtain⟨τ,a9,h2⟩:=a' X;unfold Ki at h2;simp only[G,I,hd,a3,W,M]at h2;exact Fs a9 h2.1 j u J
          |true=>
          have X:=M;rw[<-Y];exact World.cell?_of_block (w:=w) (w':=w') (a:=⟨b,y+j,none⟩) (hk.ext X b (World.block_lt_of_cell? w ⟨b,y+j,none⟩ Y))
         .refine V b y l z (ca F) (λj u J=>D.wrel.hsat _ _ _ (f.1.rd j u J)) (λj u J=>hk.imm _ _ _ (f.1.rd j u J))
        grind
       grind
      grind
     .rename_i k i sz y d I hd;rw[I]at z;split at f
      .rename_i E' s S H r a3;split at f
       .rename_i l W hs t;have hs:=ca hs;subst hs;split at f
        .rename_i F;obtain⟨e,he,b0⟩:=f.1;obtain⟨N,Z⟩:=uG D r;obtain⟨b,n,c,hι,hp⟩:=z
         have A:∀b,blk (ι k)=some b->w'.heap[b]? =w.heap[b]? :=by
          intro b O;have Q:=tL (D.own k _ r) O;unfold VU at t;rw[Bool.or_eq_true]at t;rcases t with t|t
          .exact hk.ext t b Q
          .split at t
           .rename_i l W;refine hk.args l b W Q (D.fresh k _ b r O).2.1 ?_;exact Dv D r O t
           .cases t
         have R:w'.ownsRow 0 E' s (ι k) S.length S.flatten:=((D.own k _ r).world (λb O=>A b O)).2
         have rd:∀w1:World,w1.ownsRow 0 E' s (ι k) S.length S.flatten->∀j u,l[j]? =some u->w1.cell? ⟨b,i*s+y+j,none⟩=some u:=by
          intro w1 Y j u J;rw[<-b0]at J;have b1:=SE J;have hf:=pB N.len he _ _ b1;have:=Y.cells (g:=b) (by rw[hι];rfl) _ _ hf;rw[Addr.add_none]at this
          grind
         exact V b (i*s+y) l hp (ca F) (rd w Z) (rd w' R)
        grind
       grind
      grind
     grind
   .rename_i src b6 x G;have z:=D.ev x;split at f
    .rename_i k d I hd;rw[I]at z;have z:a.eval x=ι k:=z;split at f
     .rename_i E' sz S s r hs;split at f
      .rename_i E a4 a5;split at f
       .rename_i hE;split at f
        .rename_i t;have b2:=f.1;obtain⟨N,Z⟩:=uG D r;have b3:S=aX s.data.toList:=b2
         have A:∀b,blk (ι k)=some b->w'.heap[b]? =w.heap[b]? :=by
          intro b O;have Q:=tL (D.own k _ r) O;unfold VU at t;rw[Bool.or_eq_true]at t;rcases t with t|t
          .exact hk.ext t b Q
          .split at t
           .rename_i l W;refine hk.args l b W Q (D.fresh k _ b r O).2.1 ?_;exact Dv D r O t
           .cases t
         have R:w'.ownsRow 0 E' sz (ι k) S.length S.flatten:=((D.own k _ r).world (λb O=>A b O)).2
         have go:∀w1:World,w1.ownsRow 0 E' sz (ι k) S.length S.flatten->(execOp a.eval U).run C.P w1= .ok (.value (.string ⟨s.data.toList.toArray⟩)) w1:=by
          intro w1 Y;subst b3;exact GP G a4 hE a5 z Y
         grind
        grind
       grind
      grind
     grind
    grind
   grind
  .exact .inr hy
theorem UB{g:Nat->Prop}:∀{l:di},bVX g l->∀j∈l,g j
 |[],_,j,b=>by cases b
 |[i],h,j,b=>by simp at b;subst b;exact h
 |i::k::r,h,j,b=>by
  rcases mem_cons.1 b with rfl|b
  .exact h.1
  .exact UB h.2 j b
theorem GB{ops:Array Oper}:∀{l:di}{i:Nat}{o:Oper},IK ops l=some (i,o)->i∈l/\ops[i]? =some o/\G2 o.op=true
 |[],i,o,h=>by simp[IK]at h
 |k::r,i,o,h=>by
  simp only[IK]at h;split at h
  .rename_i ok b;split at h
   .rename_i e;simp only[bx,Prod.mk.injEq]at h;obtain⟨rfl,rfl⟩:=h;rw[mE,cg]at b
    grind
   .obtain⟨c,d⟩:=GB h
    grind
  .obtain⟨c,d⟩:=GB h
   grind
def xC(ops:Array Oper)(L:Array Bool):=((List.range ops.size).filter λi=> !L.getD i false).length
theorem Kb{ops L i}(d:L.size=ops.size)(h:i<ops.size)(m:L.getD i false=false):xC ops (L.setIfInBounds i true)+1=xC ops L:=by
 unfold xC
 have key:∀(l:di),l.Nodup->(l.filter λj=> !(L.setIfInBounds i true).getD j false).length+(if i∈l then 1 else 0)=(l.filter λj=> !L.getD j false).length:=by
  intro l
  induction l with
  |nil=>intro _;simp
  |cons j r f=>
   intro c;have b:=nodup_cons.1 c;have:=f b.2;by_cases e:i=j
   .subst e;have g:(L.setIfInBounds i true).getD i false=true:=xF aC
    grind
   .have g:(L.setIfInBounds i true).getD j false=L.getD j false:=getD_set_ne false e
    grind
 grind
theorem NF{ops L}(c:Ssa ops)(f:L.size=ops.size)(h:Region.ready .any ops L=[]):∀i,i<ops.size->L.getD i false=true:=by
 intro i
 induction i using Nat.strongRecOn with
 |_ i g=>
  intro d;cases j:L.getD i false with
  |true=>rfl
  |false=>
   exfalso;have b:ops[i]? =some ops[i]:=Array.getElem?_eq_getElem d
   have:i∈Region.ready .any ops L:=by
    rw[yU];refine⟨?_,_,b,λk e=>g k (c.topo i _ k b e) (Nat.lt_trans (c.topo i _ k b e) d)⟩
    grind
   grind
theorem ES{ops L}(h:∀i,i<ops.size->L.getD i false=true):Region.ready .any ops L=[]:=by
 cases b:Region.ready .any ops L with
 |nil=>rfl
 |cons i r=>
  exfalso;have:i∈Region.ready .any ops L:=bg
  obtain⟨c,o,d,_⟩:=yU.1 this
  grind
theorem UE.eq_of_all{P ops L Cl ar ac}(h:UE P ops L Cl ar ac w)(b:∀i,i<ops.size->L.getD i false=true):ar=ac:=by
 have c:ar.tmps=ac.tmps:=by
  apply Array.ext_getElem?;intro t;refine h.agree t (λi o d _ e=>?_)
  grind
 have f:=h.df;cases ar;cases ac
 grind
theorem bmZ{ops R n Cl}(h:Ed C ops n Cl σ R)(b:Region.ready .any ops Cl=[]):R σ:=by
 cases n<;>simp only[Ed,b]at h<;>exact h
theorem YT{ops b σ d τ K}(h:L5 C ops b σ d τ K):
 (avJ C=true->∀(i:Nat)(c:Oper),ops.toList[i]? =some c->b.getD (0+i) false=true->G2 c.op=true->waits d (0+i)=false->BF ops σ c=false->Ki σ d c τ True)/\K:=by
 unfold L5 at h;split at h
 .rename_i e;obtain⟨f,g⟩:=NZ _ 0 h
  grind
 grind
theorem UA(F:∀g S,assoc C.specs g=some S->Sound C.P g S){ops}(G:Ssa ops){Q R}(hQ:∀ι σ a w,aM B ι σ a w->R σ->Q .normal a w)(b':∀c a w,¬Q (.panic c) a w):
 ∀(n:Nat)(b:Nat)(Cl:Array Bool)(ι:dc)(σ:St)(ac:Act)(w:World),aM B ι σ ac w->Ed C ops n Cl σ R->∀(L:Array Bool)(ar:Act),UE C.P ops L Cl ar ac w->xC ops L=b->
  wpAny C.P .any ops Q b L ar w:=by
 have fin:∀(n:Nat)(Cl:Array Bool)(ι:dc)(σ:St)(ac:Act)(w:World),aM B ι σ ac w->Ed C ops n Cl σ R->∀(L:Array Bool)(ar:Act),UE C.P ops L Cl ar ac w->Region.ready .any ops L=[]->Q .normal ar w:=by
  intro n Cl ι σ ac w m h L ar f hr;have p:=NF G f.szL hr;rw[f.eq_of_all p];exact hQ ι σ ac w m (bmZ h (ES (λi t=>f.sub i (p i t))))
 have zero:∀(n:Nat)(Cl:Array Bool)(ι:dc)(σ:St)(ac:Act)(w:World),aM B ι σ ac w->Ed C ops n Cl σ R->∀(L:Array Bool)(ar:Act),UE C.P ops L Cl ar ac w->xC ops L=0->wpAny C.P .any ops Q 0 L ar w:=by
  intro n Cl ι σ ac w m h L ar f T
  have p:∀i,i<ops.size->L.getD i false=true:=by
   intro i t;unfold xC at T;have b9:=eq_nil_of_length_eq_zero T;cases hL:L.getD i false with
   |true=>rfl
   |false=>
    have:i∈(List.range ops.size).filter λi=> !L.getD i false:=mem_filter.2 ⟨mem_range.2 t,by simp[hL]⟩
    grind
  have hr:=ES p;exact⟨hr,fin n Cl ι σ ac w m h L ar f hr⟩
 have b0:∀(n b:Nat),(∀(Cl:Array Bool)(ι:dc)(σ:St)(ac:Act)(w:World),aM B ι σ ac w->Ed C ops n Cl σ R->∀(L:Array Bool)(ar:Act),UE C.P ops L Cl ar ac w->xC ops L=b->wpAny C.P .any ops Q b L ar w)->
  ∀(Cl:Array Bool)(ι:dc)(σ:St)(ac:Act)(w:World),aM B ι σ ac w->Ed C ops n Cl σ R->∀(L:Array Bool)(ar:Act),UE C.P ops L Cl ar ac w->xC ops L=b+1->
   ∀i∈Region.ready .any ops L,Cl.getD i false=true->wpOp C.P ops Q i (wpAny C.P .any ops Q b (L.setIfInBounds i true)) ar w:=by
  intro n b ih Cl ι σ ac w m h L ar f T i t hC;obtain⟨H,o,r,M⟩:=yU.1 t;obtain⟨hL,b1⟩:=VD H;obtain⟨v,hv,c0,b2⟩:=f.pend i o r hC hL
  have hy:Yd C.P ops w o v ar:=by
   rcases G.look i o r with I|c1
   .obtain⟨he,U⟩:=JW (G.sel i o · · r) (f.looks I M);exact(hv I w (.inr rfl)).congr he U
   grind
  have V:wpAny C.P .any ops Q b (L.setIfInBounds i true) (ar.put o.dst v) w:=
   ih Cl ι σ ac w m h _ _ (f.stepA G r hC M b2) (by have:=Kb f.szL bg hL;omega)
  unfold wpOp;simp only[r];rcases hy with⟨l,y⟩|⟨l,rfl⟩
  .rw[if_pos l];left;unfold Oper.wp;rw[y,Oper.upon_value];exact V
  grind
 intro n
 induction n with
 |zero=>
  intro b
  induction b with
  |zero=>exact zero 0
  |succ b b3=>
   intro Cl ι σ ac w m h L ar f T;refine⟨fin 0 Cl ι σ ac w m h L ar f,λi t=>?_⟩;cases hC:Cl.getD i false with
   |true=>grind
   |false=>
    exfalso;obtain⟨H,o,r,M⟩:=yU.1 t
    have a1:i∈Region.ready .any ops Cl:=by
     rw[yU];refine⟨?_,o,r,λk hk=>f.sub k (M k hk)⟩;have:i<Cl.size:=by rw[f.szC];grind
     grind
    simp only[Ed]at h
    grind
 |succ n W=>
  intro b
  induction b with
  |zero=>grind
  |succ b b3=>
   intro Cl ι σ ac w m h L ar f T;refine⟨fin (n+1) Cl ι σ ac w m h L ar f,λi t=>?_⟩;cases hC:Cl.getD i false with
   |true=>grind
   |false=>
    obtain⟨H,o,r,M⟩:=yU.1 t;obtain⟨b4,b1⟩:=VD H
    have a1:i∈Region.ready .any ops Cl:=by
     rw[yU];refine⟨?_,o,r,λk hk=>f.sub k (M k hk)⟩;have:i<Cl.size:=by rw[f.szC];grind
     grind
    simp only[Ed]at h;split at h
    .grind
    .split at h
     ·
      rename_i k ok b5;obtain⟨b6,X,z⟩:=GB b5;obtain⟨a2,c2,N,a3⟩:=yU.1 b6;rw[X]at N;cases N;obtain⟨a4,c'⟩:=VD a2;obtain⟨σ1,Y,c3,hc⟩:=HB m h;rcases hc with⟨l,h⟩|⟨l,h⟩
      .obtain⟨v,x,y,hx,hK⟩:=btX Y z h;have A:=f.take G X a4 a3 z (v:=v) (λa5 a6=>.inl ⟨l,y a5 a6⟩);exact(W (b+1) _ ι _ _ w (Y.put ok.dst hx) hK L ar A T).2 i t
      .have A:=f.take G X a4 a3 z (v:=undef) (λa5 _=>.inr ⟨l,rfl⟩);exact(W (b+1) _ ι _ _ w (Y.put ok.dst (x:=.at (.val undef)) rfl) h L ar A T).2 i t
     ·
      have hg:=UB h i a1;split at hg
      .rename_i o' a7;rw[mE,cg,r]at a7;cases a7;obtain⟨hg,Z⟩:=P1 _ 0 hg;obtain⟨he,U⟩:=JW (G.sel i o · · r) ((G.look i o r).elim (f.looks · M) (f.looks' · hC));have a0:=Xl F m hg (λa' D=>∃O s,aM B O s a' D/\L5 C ops Cl σ o s (Ed C ops n (Cl.setIfInBounds i true) s R)/\J6 σ ι o w D) Q (λO s a' D h1 h2 h3=>⟨O,s,h1,h2,h3⟩)
       have hB:∀(u:Value)(D:World),(∃O s,aM B O s (ac.put o.dst u) D/\L5 C ops Cl σ o s (Ed C ops n (Cl.setIfInBounds i true) s R)/\J6 σ ι o w D)->
        wpAny C.P .any ops Q b (L.setIfInBounds i true) (ar.put o.dst u) D:=by
        rintro u D ⟨O,s,J,h',b7⟩;obtain⟨b8,h'⟩:=YT h';refine W b _ O s _ D J h' _ _ (f.stepB G r hC M u D ?_) (by have:=Kb f.szL bg b4;omega);intro j oj v hj a8 a9 hy;cases E:BF ops σ oj with
        |true=>
         have:=Vx m E;rcases hy with⟨h1,_⟩|h1
         .grind
         .exact .inl (.inr h1)
        |false=>
         have c4:waits o j=false:=by
          grind
         have I:=Z j oj bg bg (f.rd j oj hj a8 a9) bg E;exact cbZ m b7 I (λe=>⟨s,J.wrel,b8 e j oj bg bg (f.rd j oj hj a8 a9) bg E⟩) hy
       unfold GWp at a0;unfold wpOp;simp only[r];rw[U];split
       .rename_i l;rw[if_pos l]at a0;left;refine Wn he a0 hB ?_ b';rintro d D ⟨O,s,J,_⟩;have:=J.defers;rw[<-m.defers]at this;cases hd:o.dst<;>simp[Act.put,hd]at this
       grind
      grind
end
end Go.Vc
namespace Go.Vc
open Go List
section
variable{B:wL}{C:Ctx}{ι:dc}{σ:St}{a:Act}{w:World}
theorem BE:∀{xs e:dx}{vs:cr}{K:Prop},D7 xs e K->DenS ι xs vs->DenS ι e vs/\K
 |[],[],vs,K,h,b=>⟨b,h⟩
 |x::xs,y::e,[],K,_,b=>b.elim
 |x::xs,y::e,v::vs,K,h,b=>by
  unfold D7 at h;split at h
  .grind
  .rename_i i f g c d;simp only[List.cons.injEq]at c d;obtain⟨rfl,rfl⟩:=c;obtain⟨rfl,rfl⟩:=d;have:=BE h b.2;exact⟨⟨trivial,this.1⟩,this.2⟩
  .rename_i i f j g _ c d;simp only[List.cons.injEq]at c d;obtain⟨rfl,rfl⟩:=c;obtain⟨rfl,rfl⟩:=d;obtain⟨rfl,h⟩:=h;have:=BE h b.2;exact⟨⟨b.1,this.1⟩,this.2⟩
  grind
 |[],_::_,_,K,h,_=>by simp[D7]at h
 |_::_,[],_,K,h,_=>by simp[D7]at h
theorem Aj:∀{xs c:dv}{K:Prop},Ak xs c K->(∀k o,nth c k=some (some o)->nth xs k=some (some o))/\K
 |[],[],K,h=>⟨λk o b=>by omega,h⟩
 |x::xs,none::c,K,h=>by
  simp only[Ak]at h;obtain⟨d,e⟩:=Aj h;refine⟨λk o b=>?_,e⟩;cases k with
  |zero=>simp[nth]at b
  |succ k=>exact d k o b
 |x::xs,some y::c,K,h=>by
  simp only[Ak]at h;obtain⟨rfl,h⟩:=h;obtain⟨d,e⟩:=Aj h;refine⟨λk o b=>?_,e⟩;cases k with
  |zero=>exact b
  |succ k=>exact d k o b
 |[],_::_,K,h=>by simp[Ak]at h
 |_::_,[],K,h=>by simp[Ak]at h
theorem aM.setSlot(b:aM B ι σ a w){i x v}(c:a.tmps[i]? =some v)(hx:Den ι x v):aM B ι (σ.put (some i) x) a w:=by
 refine⟨?_,b.defers,b.own,b.dist,b.fresh,b.wrel,b.one⟩;have:=b.slots.set i hx;show DenS ι (σ.sl.set i x) a.tmps.toList
 have e:a.tmps.toList.set i v=a.tmps.toList:=by
  apply ext_getElem?
  grind
 grind
theorem aM.nilList(c:aM B ι σ a w) k E sz:aM B (upd ι k (.slice none 0 0)) ((σ.kill k).setOwn k (some (.lst E sz []))) a w:=by
 refine c.place k _ _ (Fc.refl _ _) ⟨JD sz,World.ownsRow_nil w 0 E sz⟩ rfl (λb d=>by simp[blk]at d)
theorem wK(τ:St):∀(c:dx)(i:Nat)(ι:dc)(σ:St),aM B ι σ a w->∃g,aM B g (VP τ c i σ) a w
 |[],i,ι,σ,b=>⟨ι,b⟩
 |y::c,i,ι,σ,b=>by
  simp only[VP];split
  .rename_i k;split
   .rename_i f;split
    .rename_i E h j l m
     have d:a.tmps[i]? =some (.slice none 0 0):=by
      rw[mE]at f;obtain⟨v,d,e⟩:=b.slots.get i _ f;rw[cg]at d;have e:v= .slice none 0 0:=e;rw[d,e]
     exact wK τ c (i+1) _ _ ((b.nilList k E h).setSlot d (x:=.at (.lst k)) (by show _=_;simp))
    .exact wK τ c (i+1) ι σ b
   .exact wK τ c (i+1) ι σ b
  .exact wK τ c (i+1) ι σ b
theorem qG(τ:St)(q:Nat):∀(f:dm)(j:Nat)(ι:dc)(σ:St),aM B ι σ a w->∃A,aM B A (Ja τ q f j σ) a w
 |[],j,ι,σ,d=>⟨ι,d⟩
 |y::f,j,ι,σ,d=>by
  simp only[Ja];split
  .rename_i k;split
   .rename_i p T D s;split
    .rename_i t;split
     .rename_i E l N O Q;have g:q≠k:=λe=>bg
      have m:=d.nilList k E l
      have c:nth ((σ.kill k).setOwn k (some (.lst E l []))).own q=some (some (.cellsP p T (D.map (At.sub k (λ_=>.junk))))):=by
       simp only[PE,St.setOwn,St.sub,AZ,Cp,g,false_and,if_false,s];rfl
      obtain⟨b,i,u,F,G⟩:=AI m c
      have H:i.toList[j]? =some (.slice none 0 0):=by
       obtain⟨R,I,n,J,r⟩:=AI d s;rw[mE]at t;obtain⟨v,S,h⟩:=r.get j _ t;have h:v= .slice none 0 0:=h;rw[rT _ _ g,n]at u
       grind
      have z:i.toList.set j (.slice none 0 0)=i.toList:=by
       apply ext_getElem?
       grind
      have M:aM B (upd ι k (.slice none 0 0)) (JA ((σ.kill k).setOwn k (some (.lst E l []))) q j (.lst k)) a w:=by
       unfold JA;rw[c];refine m.rewrite c (Fc.refl _ _) ⟨b,i,u,F,?_,λU e=>by subst e;have:=aDX m c;grind⟩;have:=G.set j (x:=.lst k) (v:=.slice none 0 0) (by show _=_;simp)
       grind
      exact qG τ q f (j+1) _ _ M
     .exact qG τ q f (j+1) ι σ d
    .exact qG τ q f (j+1) ι σ d
   .exact qG τ q f (j+1) ι σ d
  .exact qG τ q f (j+1) ι σ d
theorem BJ(τ:St):∀(b:dv)(q:Nat)(ι:dc)(σ:St),aM B ι σ a w->∃d,aM B d (PF τ b q σ) a w
 |[],q,ι,σ,c=>⟨ι,c⟩
 |y::b,q,ι,σ,c=>by
  simp only[PF];split
  .rename_i T f;obtain⟨d,e⟩:=qG τ q f 0 ι σ c;exact BJ τ b (q+1) d _ e
  .exact BJ τ b (q+1) ι σ c
theorem qV{τ K}(t:aM B ι σ a w)(h:CN σ τ K):∃u,aM B u τ a w/\K:=by
 obtain⟨v,f⟩:=wK τ τ.sl 0 ι σ t;obtain⟨m,c⟩:=BJ τ τ.own 0 v _ f;have c:aM B m (conv σ τ) a w:=c;unfold CN at h;obtain⟨g,h⟩:=BE h c.slots;obtain⟨d,n,p,y⟩:=Aj h;refine⟨m,⟨g,c.defers,λk o e=>c.own k o (d k o e),λk r o s b e i j l=>c.dist k r o s b (d k o e) (d r s i) j l,?_,?_,c.one⟩,y⟩
 .intro k o b e j;rw[<-n, <-p];exact c.fresh k o b (d k o e) j
 .rw[<-n, <-p];exact c.wrel
theorem aM.froze(j:aM B ι σ a w){m2 g}(f:G1 σ.m σ.h m2 g):aM B ι {σ with m:=m2,h:=g} a w:=by
 have c:=j.wrel;refine⟨j.slots,j.defers,j.own,j.dist,λk o b u y=>?_,?_,j.one⟩
 .obtain⟨z,t,H⟩:=j.fresh k o b u y;refine⟨z,?_,λi=>?_⟩
  .show m2 b=none;cases l:m2 b with
   |none=>rfl
   |some o=>rw[f.sub b o l]at t;cases t
  .show g b i=none;cases l:g b i with
   |none=>rfl
   |some v=>
    rcases f.new b i v l with d|⟨n,E,p,d,_,_⟩
    .grind
    grind
 .refine⟨c.tape,c.os,c.output,c.drawn,c.size,c.frame,λb o v e=>?_,λb o e=>c.msat b o (f.sub b o e),λb o e i=>?_,λb o v e=>f.le.le b o v (c.hle b o v e),λb A r=>?_,λb o e=>c.mfr b o (f.sub b o e)⟩
  .rcases f.new b o v e with d|⟨n,E,p,d,s,_⟩
   .exact c.hsat b o v d
   .rw[cell_of_heap (c.msat b _ d),cg];exact s
  .show g b i=none;have e:m2 b=some o:=e;cases l:g b i with
   |none=>rfl
   |some v=>
    rcases f.new b i v l with d|⟨n,E,p,d,s,D⟩
    .rw[c.disj b o (f.sub b o e) i]at d;cases d
    grind
  .funext i;have e:=congrFun (c.hold b A r) i;show g b i=B.h0 b i;cases l:B.h0 b i with
   |some v=>exact f.le.le b i v (c.hle b i v l)
   |none=>
    cases F:g b i with
    |none=>rfl
    |some v=>
     rcases f.new b i v F with d|⟨n,E,p,d,s,D⟩
     .grind
     .rcases c.mfr b _ d with G|G
      .omega
      grind
theorem Lu{τ K}(s:aM B ι σ a w)(h:Vr σ τ K):∃t,aM B t τ a w/\K:=by
 obtain⟨u,g⟩:=wK τ τ.sl 0 ι σ s;obtain⟨n,c⟩:=BJ τ τ.own 0 u _ g;have c:aM B n (conv σ τ) a w:=c;unfold Vr at h;obtain⟨i,h⟩:=BE h c.slots;obtain⟨d,v,y⟩:=Aj h;have e:=c.froze v;exact⟨n,⟨i,c.defers,λk o f=>c.own k o (d k o f),λk p o r b f j l m=>c.dist k p o r b (d k o f) (d p r j) l m,λk o b f l=>e.fresh k o b (d k o f) l,e.wrel,c.one⟩,y⟩
theorem BP{c R}(b:aM B ι σ a w)(h:Kp c R σ):∃x f,R x/\aM B f (c.st x) a w:=by
 unfold Kp at h;split at h
 .obtain⟨x,g,d⟩:=h;obtain⟨i,e,_⟩:=qV b d
  grind
 .obtain⟨x,g,d⟩:=h ⟨b.wrel.disj⟩;obtain⟨i,e,_⟩:=Lu b d
  grind
theorem OD{c I S}(b:aM B ι σ a w)(h:VX c I S σ):∃x f,I x/\S x/\aM B f (c.st x) a w:=by
 unfold VX at h;split at h
 .obtain⟨x,g,i,d⟩:=h;obtain⟨j,e,_⟩:=qV b d
  grind
 .obtain⟨x,g,i,d⟩:=h ⟨b.wrel.disj⟩;obtain⟨j,e,_⟩:=Lu b d
  grind
def QD(B:wL)(Q:GZ->St->Prop):Exit->Act->World->Prop
 |.normal,a,w=>∃ι σ,aM B ι σ a w/\Q .normal σ
 |.exit id,a,w=>∃ι σ,aM B ι σ a w/\Q (.exit id) σ
 |.ret,a,w=>∃ι σ,aM B ι σ a w/\Q .ret σ
 |_,_,_=>False
theorem Mo(b:∀g S,assoc C.specs g=some S->Sound C.P g S){ops:Array Oper}{Q:GZ->St->Prop}:
 ∀(c:dy)(l:List Oper)(s:Nat)(ι:dc)(σ:St)(a:Act)(w:World),(∀j,l[j]? =ops.toList[s+j]?)->aM B ι σ a w->bqX C ops c l σ (Q .normal)->wpOpsIn Fence.wide 0 C.P ops (QD B Q) (range' s l.length) a w
 |[],l,s,ι,σ,a,w,e,d,h=>by
  have:=JB b (ops:=ops) (Q:=QD B Q) (R:=Q .normal) (rest:=[]) (λι σ a w d h=>⟨ι,σ,d,h⟩) l s ι σ a w (λj _=>e j) d h
  grind
 |(n,f)::c,l,s,ι,σ,a,w,e,d,h=>by
  obtain⟨I,r,t⟩:=h
  have:=JB b (ops:=ops) (Q:=QD B Q) (R:=λτ=>∃x,I x/\CN τ (f.st x) True) (rest:=range' (s+(l.take n).length) (l.drop n).length) (λA D u v i m=>by
   obtain⟨x,m,y⟩:=m;obtain⟨z,p,_⟩:=qV i y;refine Mo b c (l.drop n) (s+(l.take n).length) z _ u v (λj=>?_) p (t x m);rw[getElem?_drop,e];by_cases E:n<=l.length
   .grind
   .have F:l[n+j]? =none:=getElem?_eq_none aC;have G:l[l.length+j]? =none:=getElem?_eq_none aC
    grind) (l.take n) s ι σ a w (λj H=>by
    grind) d r
  grind
theorem Wp(s:∀g S,assoc C.specs g=some S->Sound C.P g S):∀(c:Code)(σ:St)(Q:GZ->St->Prop)(ι:dc)(a:Act)(w:World),aM B ι σ a w->VC C c σ Q->c.wp C.P (QD B Q) a w:=by
 intro c
 induction c with
 |skip=>intro σ Q ι a w d h;exact wp_skip ⟨ι,σ,d,h⟩
 |label l=>intro σ Q ι a w d h;exact wp_label ⟨ι,σ,d,h⟩
 |exit id=>intro σ Q ι a w d h;exact wp_exit ⟨ι,σ,d,h⟩
 |ret=>intro σ Q ι a w d h;exact wp_ret ⟨ι,σ,d,h⟩
 |goto l=>intro σ Q ι a w d h;exact h.elim
 |refuse a3=>intro σ Q ι a w d h;exact h.elim
 |scope a2 U=>intro σ Q ι a w d h;exact h.elim
 |rangeFunc f ps x y u H=>intro σ Q ι a w d h;exact h.elim
 |region id ops V=>
  intro σ Q ι a w d h;cases V with
  |false=>
   refine(wpIn_wide (n:=0)).1 (wpIn_region ?_);have:=Mo s (ops:=ops) (Q:=Q) (Ze C id) ops.toList 0 ι σ a w (λj=>ay) d h;rw[range_eq_range'];omega
  |true=>
   simp only[VC]at h;split at h
   .rename_i h1 h2 h3;have hs:=bpJ h1 h2;refine wp_region_any h3 ?_;refine UA s hs (Q:=QD B Q) (R:=Q .normal) (λι σ a w d h=>⟨ι,σ,d,h⟩) (λc a w h=>h) ops.size ops.size _ ι σ a _ (d.drew (w.drawn+1) (Nat.le_succ _)) h _ a ?_ ?_
    .have F:∀i,(Array.replicate ops.size false).getD i false=true->False:=by
      intro i v;by_cases r:i<ops.size
      .simp[Array.getD,r]at v
      grind
     exact⟨ay,ay,λi v=>v,λi o _ v=>(F i v).elim,λi o _ v=>(F i v).elim,λi o _ v=>(F i v).elim,rfl,rfl,λt _=>rfl,λi o _ v=>(F i v).elim⟩
    .unfold xC;rw[filter_eq_self.2]
     .simp
     .intro i v;by_cases r:i<ops.size<;>simp[Array.getD,r]
   grind
 |seq x y u H=>
  intro σ Q ι a w d h;simp only[VC]at h;split at h
  .obtain⟨h,p⟩:=h;refine wp_seq (wp_mono (u σ _ ι a w d h) ?_);intro e D E b;cases e with
   |normal=>
    obtain⟨G,W,m,x,X,J⟩:=b;show y.wp C.P (QD B Q) D E;obtain⟨Y,z,_⟩:=qV m J
    grind
   |exit id=>exact b
   |ret=>exact b
   |goto l=>exact b
   |panic Z=>exact b
   |outgrown=>exact b
  .split at h
   .obtain⟨I,h,p⟩:=h;refine wp_seq (wp_mono (u σ _ ι a w d h) ?_);intro e D E b;cases e with
    |normal=>
     obtain⟨G,W,m,J⟩:=b;show y.wp C.P (QD B Q) D E;obtain⟨x,Y,X,z⟩:=BP m J
     grind
    |exit id=>exact b
    |ret=>exact b
    |goto l=>exact b
    |panic Z=>exact b
    |outgrown=>exact b
   .refine wp_seq (wp_mono (u σ _ ι a w d h) ?_);intro e D E b;cases e with
    |normal=>
     obtain⟨G,W,m,h'⟩:=b;show y.wp C.P (QD B Q) D E
     grind
    |exit id=>exact b
    |ret=>exact b
    |goto l=>exact b
    |panic Z=>exact b
    |outgrown=>exact b
 |cond c x y u H=>
  intro σ Q ι a w d h;simp only[VC]at h;split at h
  .rename_i t hc;have A:=d.ev c;rw[hc]at A;have A:a.eval c= .bool t:=A;rcases yX h with⟨rfl,h⟩|⟨rfl,h⟩
   .exact wp_cond_true A (u _ Q ι a w (d.setTmp hc) h)
   .exact wp_cond_false A (H _ Q ι a w (d.setTmp hc) h)
  grind
 |block id c U=>
  intro σ Q ι a w d h;refine wp_block (wp_mono (U σ _ ι a w d h) ?_);intro e D E b;cases e with
  |normal=>exact b
  |exit i=>
   obtain⟨G,W,m,h'⟩:=b;show if i=id then _ else _
   simp only at h';split at h'
   .rename_i hb;rw[if_pos (ca hb)];exact⟨G,W,m,h'⟩
   .rename_i hb;rw[if_neg (λe=>by subst e;simp at hb)];exact⟨G,W,m,h'⟩
  |ret=>exact b
  |goto l=>exact b
  |panic Z=>exact b
  |outgrown=>exact b
 |loop c U=>
  intro σ Q ι a w d h;simp only[VC]at h;split at h
  .rename_i l hl;obtain⟨⟨x,X,J⟩,p⟩:=h;obtain⟨Y,z,_⟩:=qV d J;refine wp_loop_ghost (λn a w=>∃x ι,l.inv x/\l.mu x=n/\aM B ι (l.st x) a w) (l.mu x) ⟨x,Y,X,rfl,z⟩ ?_;rintro n D E ⟨x',G,M,rfl,m⟩;refine wp_mono (U _ _ G D E m (p x' M)) ?_;intro e a0 a1 b;cases e with
   |normal=>
    obtain⟨ι3,σ3,N,y,hy,r,O⟩:=b;obtain⟨ι4,T,_⟩:=qV N O;exact⟨l.mu y,r,y,ι4,hy,rfl,T⟩
   |exit id=>exact b
   |ret=>exact b
   |goto l=>exact b
   |panic Z=>exact b
   |outgrown=>exact b
  .split at h
   .rename_i l hl;obtain⟨I,mu,J,p⟩:=h;obtain⟨x,Y,X,z⟩:=BP d J;refine wp_loop_ghost (λn a w=>∃x ι,I x/\mu x=n/\aM B ι (l.st x) a w) (mu x) ⟨x,Y,X,rfl,z⟩ ?_;rintro n D E ⟨x',G,M,rfl,m⟩;refine wp_mono (U _ _ G D E m (p x' M)) ?_;intro e a0 a1 b;cases e with
    |normal=>
     obtain⟨ι3,σ3,N,O⟩:=b;obtain⟨y,ι4,hy,r,T⟩:=OD N O;exact⟨mu y,r,y,ι4,hy,rfl,T⟩
    |exit id=>exact b
    |ret=>exact b
    |goto l=>exact b
    |panic Z=>exact b
    |outgrown=>exact b
   grind
end
end Go.Vc
namespace Go.Vc
open Go List
section
variable{B:wL}{C:Ctx}{ι:dc}{σ:St}{a:Act}{w:World}
def MQ(tmps:Array Value):ResultVar->Sem Value
 |.tmp t=>pure (tmps.getD t undef)
 |.cell a t=>do loadVar t (<-asAddr (tmps.getD a undef))
theorem Qf fn tmps:results fn tmps=(do let vs <-fn.results.mapM (MQ tmps);pure (if h:vs.size=1 then vs[0]else .tuple vs)):=by
 unfold results;congr 1
theorem WL(f:aM B ι σ a w){r x}(h:aCZ C σ r=some x):∃v,(MQ a.tmps r).run C.P w= .ok v w/\Den ι x v:=by
 cases r with
 |tmp t=>
  simp only[aCZ,bx]at h;subst h;exact⟨_,rfl,f.ev (.tmp t)⟩
 |cell l T=>
  have d:=f.ev (.tmp l);simp only[aCZ]at h;split at h
  .rename_i k off s;rw[s]at d;split at h
   .rename_i p T' cs u;split at h
    .rename_i e y;have e:=Nat.le_of_ble_eq_true e;simp only[bx]at h;subst h;obtain⟨b,m,z,A,n⟩:=AI f u;obtain⟨G,c,D⟩:=d;rw[z]at c;simp only[Value.pointer.injEq,bx,Addr.mk.injEq]at c;obtain⟨rfl, -, -⟩:=c;have g:=(n.drop off).take (C.P.cellsOf T);have E:cs.length=m.toList.length:=n.length;have F:=BL (w:=w) (b:=b) (off:=off) (cs:=(m.toList.drop off).take (C.P.cellsOf T)) y bg (λj v H=>by rw[cell_of_heap A];grind);refine⟨_,?_,JZ g⟩;have i:a.tmps.getD l undef= .pointer (some ⟨b,off,none⟩):=D;simp only[MQ,i,asAddr,Sem.run_bind,Sem.run_pure,Result.andThen_ok,F]
    .cases h
   .cases h
  .cases h
theorem Ko(f:aM B ι σ a w):∀(l:List ResultVar)(xs:dx),JE C σ l=some xs->∃vs,(l.mapM (MQ a.tmps)).run C.P w= .ok vs w/\DenS ι xs vs
 |[],xs,h=>by
  simp[JE]at h;subst h;exact⟨[],ay,trivial⟩
 |r::l,xs,h=>by
  simp only[JE]at h;split at h
  .rename_i x b g c;simp only[bx]at h;subst h;obtain⟨v,i,j⟩:=WL f g;obtain⟨vs,d,e⟩:=Ko f l b c;exact⟨v::vs,by simp[mapM_cons,i,d],j,e⟩
  .cases h
theorem Ar(m:aM B ι σ a w){mv:Bool}:∀(xs:dx)(ts:ef)(rs:dk)(vs:cr),E8 C.P σ mv xs ts=some rs->DenS ι xs vs->
 rs.length=vs.length/\(mv=false->rs=vs.map .val)/\∀(i:Nat)(r:CV)(v:Value),rs[i]? =some r->vs[i]? =some v->Jh w r v/\∀b,j6 r v=some b->∃k g,nth σ.own k=some (some g)/\blk (ι k)=some b
 |[],ts,rs,[],h,_=>by
  simp[E8]at h;grind
 |[],_,_,_::_,_,c=>c.elim
 |x::xs,_,_,[],_,c=>c.elim
 |x::xs,ts,rs,v::vs,h,c=>by
  simp only[E8]at h;split at h
  .cases h
  .rename_i l p;obtain⟨s,t,y⟩:=Ar m xs ts.tail l vs p c.2
   have fin:∀(j:CV),rs=j::l->(mv=false->j= .val v)->Jh w j v->(∀b,j6 j v=some b->∃k g,nth σ.own k=some (some g)/\blk (ι k)=some b)->
    rs.length=(v::vs).length/\(mv=false->rs=(v::vs).map .val)/\∀(i:Nat)(r:CV)(u:Value),rs[i]? =some r->(v::vs)[i]? =some u->Jh w r u/\∀b,j6 r u=some b->∃k g,nth σ.own k=some (some g)/\blk (ι k)=some b:=by
    grind
   split at h
   .split at h
    .rename_i k;have d:v=ι k:=c.1;split at h
     .rename_i E F G n;simp only[bx]at h;obtain⟨A,H⟩:=uG m n;exact fin _ h.symm (λe=>by cases e) ⟨A,bg⟩ (λb f=>⟨k,_,n,by rw[<-d];exact f⟩)
     .cases h
    .have d:v= .slice none 0 0:=c.1;split at h
     .rename_i E z I;simp only[bx]at h;refine fin _ h.symm (λe=>by cases e) ⟨JD _,by rw[d];exact World.ownsRow_nil w 0 E _⟩ (λb f=>?_);rw[d]at f;simp[j6,blk]at f
     .cases h
    .cases h
   .split at h
    .rename_i u D;simp only[bx]at h;have d:=(c.1).val? D;exact fin _ h.symm (λ_=>by rw[d]) d (λb f=>by simp[j6]at f)
    .cases h
theorem SI(J:aM B ι σ a w){fn K}(h:SJ C fn K σ):
 ∃u,(results fn a.tmps).run C.P w= .ok u w/\∃r m' t,K r m' t/\Jh w r u/\DF B m' t w/\∀b,j6 r u=some b->(B.w0.heap.size<=b\/B.E b)/\m' b=none/\∀i,t b i=none:=by
 unfold SJ at h;split at h
 .exact h.elim
 .rename_i W M;obtain⟨X,p,h,_⟩:=qX _ _ J h;obtain⟨τ,d,h,_⟩:=AM _ _ p h;split at h
  .exact h.elim
  .rename_i N y;obtain⟨f,z,j⟩:=Ko d _ _ y
   have H:(results fn a.tmps).run C.P w= .ok (if h:f.toArray.size=1 then f.toArray[0]else .tuple f.toArray) w:=by
    rw[Qf,Array.mapM_eq_mapM_toList];simp[z]
   have g:∀(n:dk)(r:CV)(v:Value),E8 C.P τ C.retMove N fn.resultTypes.toList=some n->(∃i:Nat,n[i]? =some r/\f[i]? =some v)->Jh w r v/\∀b,j6 r v=some b->(B.w0.heap.size<=b\/B.E b)/\τ.m b=none/\∀i,τ.h b i=none:=by
    rintro n r v l ⟨i,s,O⟩;obtain⟨_,_,Q⟩:=Ar d _ _ _ _ l j;obtain⟨A,D⟩:=Q i r v s O;refine⟨A,λb F=>?_⟩;obtain⟨k,R,S,G⟩:=D b F;exact d.fresh k R b S G
   split at h
   .rename_i r s;obtain⟨c,_,_⟩:=Ar d _ _ _ _ s j;simp at c
    obtain⟨v,rfl⟩:∃v,f=[v]:=by
     match f,c with
     |[v],_=>grind
    obtain⟨A,D⟩:=g _ r v s ⟨0,rfl,rfl⟩;refine⟨v,bg,r,τ.m,τ.h,h,A,d.wrel,D⟩
   .rename_i n T l;split at h
    .exact h.elim
    .rename_i U;obtain⟨c,I,_⟩:=Ar d _ _ _ _ l j
     have V:f.length≠1:=by
      intro e;rw[e]at c
      match n,c with
      |[r],_=>grind
     refine⟨.tuple f.toArray,bg,.tup n,τ.m,τ.h,h,⟨f.toArray,rfl,bg⟩,d.wrel,λb F=>by simp[j6]at F⟩
   grind
def Oj(n:Nat)(b:dk)(vs:cr)(k:Nat):=
 match b[k-n]?,vs[k-n]? with
 |some (.lst _ _ _),some v=>v
 |_,_=>.slice none 0 0
theorem rH{w:World}:∀{b:dk}{vs:cr},DA w b vs->b.length=vs.length/\∀(i:Nat)(c:CV)(v:Value),b[i]? =some c->vs[i]? =some v->Jh w c v
 |[],[],_=>⟨rfl,λi c v h=>by simp at h⟩
 |c::cs,v::vs,h=>by
  obtain⟨f,g⟩:=rH h.2;refine⟨by simp[f],λi j l d e=>?_⟩;cases i with
  |zero=>simp at d e;subst d e;exact h.1
  |succ i=>grind
 |[],_::_,h=>h.elim
 |_::_,[],h=>h.elim
theorem Ow{n:Nat}{all:dk}{avs:cr}{w:World}:∀(i:Nat)(b:dk)(vs:cr),DA w b vs->(∀j:Nat,b[j]? =all[i+j]?)->(∀j:Nat,vs[j]? =avs[i+j]?)->
 DenS (Oj n all avs) (I9 n i b) vs
 |i,[],[],_,_,_=>trivial
 |i,c::b,v::vs,h,e,f=>by
  have d:=Ow (n:=n) (all:=all) (avs:=avs) (i+1) b vs h.2 (λj=>by have:=e (j+1);grind) (λj=>by have:=f (j+1);grind);cases c with
  |val u=>exact⟨h.1,d⟩
  |lst E m p=>
   refine⟨?_,d⟩;show v=Oj n all avs (n+i);have g:=e 0;have l:=f 0;simp at g l;unfold Oj
   grind
  |tup r=>exact⟨trivial,d⟩
 |i,[],_::_,h,_,_=>h.elim
 |i,_::_,[],h,_,_=>h.elim
theorem LR:∀(b:dk)(k:Nat)(o:Own),nth (BT b) k=some (some o)->∃E sz xs,b[k]? =some (.lst E sz xs)/\o= .lst E sz xs
 |[],k,o,h=>by simp[BT,nth]at h
 |c::b,0,o,h=>by
  cases c<;>simp[BT,nth]at h
  grind
 |c::b,k+1,o,h=>by
  have:nth (BT b) k=some (some o):=by cases c<;>simpa[BT,nth]using h
  obtain⟨E,sz,xs,d,e⟩:=LR b k o this
  grind
theorem Uu{ι:dc}:∀(n:Nat)(vs:cr),vs.length=n->DenS ι (replicate n (.at .junk)) vs
 |0,[],_=>trivial
 |n+1,v::vs,h=>⟨trivial,Uu n vs (bk h)⟩
 |0,_::_,h=>by simp at h
 |_+1,[],h=>by simp at h
theorem DenS.append{ι:dc}:∀{xs b:dx}{vs c:cr},DenS ι xs vs->DenS ι b c->DenS ι (xs++b) (vs++c)
 |[],_,[],_,_,d=>bg
 |_::_,_,_::_,_,h,d=>⟨h.1,DenS.append h.2 d⟩
 |[],_,_::_,_,h,_=>h.elim
 |_::_,_,[],_,h,_=>h.elim
theorem LQ{w m h c vs} n(s:CS w m h c vs):
 aM ⟨w,yZ m c vs,h,[]⟩ (Oj n c vs) (entry n c m h) {tmps:=vs.toArray++Array.replicate (n-vs.toArray.size) undef,defers:=[]} w:=by
 obtain⟨y,r⟩:=rH s.args
 have d:∀k o,nth (entry n c m h).own k=some (some o)->n<=k/\∃E i l,c[k-n]? =some (.lst E i l)/\o= .lst E i l/\∃v,vs[k-n]? =some v/\Oj n c vs k=v/\Jh w (.lst E i l) v:=by
  intro k o f;simp only[entry]at f;rw[mE]at f;by_cases t:k<n
  .grind
  .rw[getElem?_append_right bg]at f;simp only[length_replicate]at f;rw[<-mE]at f;obtain⟨E,i,l,e,D⟩:=LR c (k-n) o f
   have F:k-n<vs.length:=by
    grind
   have p:vs[k-n]? =some vs[k-n]:=bn F;refine⟨aC,E,i,l,e,D,_,p,?_,r _ _ _ e p⟩;unfold Oj;rw[e,p]
 refine⟨?_,rfl,?_,?_,?_,?_,?_⟩
 .have e:=Ow (n:=n) (all:=c) (avs:=vs) 0 c vs s.args (λj=>ay) (λj=>ay);show DenS _ (I9 n 0 c++replicate (n-c.length) (.at .junk)) _;have:(vs.toArray++Array.replicate (n-vs.toArray.size) undef).toList=vs++replicate (n-vs.length) undef:=ay
  rw[this];exact e.append (Uu _ _ (by simp[y]))
 .intro k o f;obtain⟨t,E,i,l,e,rfl,v,p,z,u⟩:=d k o f;rw[z];exact u
 .intro k M o Q b f G g A;obtain⟨t,E,i,l,e,rfl,v,p,z,u⟩:=d k o f;obtain⟨N,E',R,S,H,rfl,T,I,J,O⟩:=d M Q G;rw[z]at g;rw[J]at A;have:=s.sep (k-n) (M-n) _ _ v T b e p H I g A;omega
 .intro k o b f g;obtain⟨t,E,i,l,e,rfl,v,p,z,u⟩:=d k o f;rw[z]at g;obtain⟨U,V⟩:=s.free (k-n) _ v b e p g;exact⟨.inr (.inr ⟨k-n,_,v,e,p,g⟩),U,V⟩
 .refine⟨rfl,rfl,rfl,Nat.le_refl _,Nat.le_refl _,λ_ _ _=>rfl,s.hsat,s.msat,s.disj,λ_ _ _ h=>h,λ_ _ _=>rfl,λb W g=>.inr (.inl (by have g:m b=some W:=g;rw[g];simp))⟩
 .intro k;unfold Oj;split
  .rename_i E i l v e D;exact Oa (r _ _ _ e D).2
  .rfl
theorem fW{P f fn c}(E:P.funcs[f]? =some fn)(F:fn.body=some c)(n:(fn.name== "runtime.NumGoroutine")=false){S}(z:∀d m h K,S d m h K->∃C:Ctx,C.P=P/\(∀g S,assoc C.specs g=some S->Sound P g S)/\xH C fn c (entry fn.ntmps d m h) K):Sound P f S:=by
 refine⟨⟨fn,E,by rw[F];rfl,n⟩,?_⟩;intro d A m h w K H I;obtain⟨C,rfl,j,J⟩:=z d m h K H;refine calls_of_wp E F ?_;refine wp_mono (Wp j c _ _ _ _ w (LQ fn.ntmps I) J) ?_;intro e D s p
 have key:(∃ι σ,aM ⟨w,yZ m d A,h,[]⟩ ι σ D s/\SJ C fn K σ)->D.defers=[]/\∃v,(results fn D.tmps).run C.P s= .ok v s/\∃r u t y,Ending.returned v= .returned u/\K r t y/\Jh s r u/\DF ⟨w,yZ m d A,h,[]⟩ t y s/\
  ∀b,j6 r u=some b->(w.heap.size<=b\/yZ m d A b)/\t b=none/\∀i,y b i=none:=by
  rintro⟨ι,σ,G,M⟩;obtain⟨u,N,r,t,y,O,Q,R,T⟩:=SI G M;exact⟨G.defers,u,N,r,u,t,y,rfl,O,Q,R,T⟩
 cases e with
 |normal=>exact key p
 |ret=>exact key p
 |exit id=>obtain⟨_,_,_,h⟩:=p;exact h.elim
 |goto l=>exact p.elim
 |panic U=>exact p.elim
 |outgrown=>exact p.elim
theorem Tb{P f fn c}(I:P.funcs[f]? =some fn)(y:fn.body=some c)(p:(fn.name== "runtime.NumGoroutine")=false){S}(J:∀d m h K,S d m h K->∃C:Ctx,C.P=P/\(∀g S,assoc C.specs g=some S->Sound P g S)/\xH C fn c (entry fn.ntmps d m h) (λr m' s=>∃m2 j,(∀b o,m2 b=some o->m' b=some o)/\PH.le h j/\PH.le j s/\K r m2 j)):Sound P f S:=by
 have F:=fW I y p (S:=λd m h K=>∃K',S d m h K'/\K=λr m' s=>∃m2 j,(∀b o,m2 b=some o->m' b=some o)/\PH.le h j/\PH.le j s/\K' r m2 j) (by
  grind)
 refine⟨F.1,λd M m h w K N O=>?_⟩;refine(F.2 d M m h w _ ⟨K,N,rfl⟩ O).mono ?_;rintro e W ⟨r,u,m',s,Q,⟨m2,j,z,G,H,R⟩,A,l,D⟩
 have n:∀b i,s b i=none->j b i=none:=by
  intro b i e;cases t:j b i with
  |none=>rfl
  |some v=>rw[H.le b i v t]at e;cases e
 refine⟨r,u,m2,j,Q,R,A,?_,λb y=>?_⟩
 .refine⟨l.tape,l.os,l.output,l.drawn,l.size,l.frame,λb o v e=>l.hsat b o v (H.le b o v e),λb o e=>l.msat b o (z b o e),λb o e i=>n b i (l.disj b o (z b o e) i),G.le,λb T E=>?_,λb o e=>l.mfr b o (z b o e)⟩;funext i;have e:=congrFun (l.hold b T E) i;show j b i=h b i;cases t:h b i with
  |some v=>exact(G.le b i v t)
  |none=>grind
 .obtain⟨U,X,V⟩:=D b y;refine⟨U,?_,λi=>n b i (V i)⟩;cases t:m2 b with
  |none=>rfl
  |some o=>grind
def cR(h:PH)(K:cq):CV->MH->PH->Prop:=λr c f=>(∀b o,c b=some o->∀i,f b i=none)->∃d e,(∀b o,d b=some o->c b=some o)/\PH.le h e/\
 (∀b i v,e b i=some v->f b i=some v\/∃g E j,c b=some (.cells g E j)/\g[i]? =some v/\d b=none)/\K r d e
theorem Sound.strong{P f S}(D:Sound P f (λg m h K=>∃K',S g m h K'/\K=cR h K')):Sound P f S:=by
 refine⟨D.1,λg J m h w K M N=>?_⟩;refine(D.2 g J m h w _ ⟨K,M,rfl⟩ N).mono ?_;rintro e Y ⟨r,u,Z,h',O,j,p,c,s⟩;obtain⟨F,l,t,G,y,Q⟩:=j c.disj;refine⟨r,u,F,l,O,Q,p,?_,λb R=>?_⟩
 .refine⟨c.tape,c.os,c.output,c.drawn,c.size,c.frame,λb o v e=>?_,λb o e=>c.msat b o (t b o e),λb o e i=>?_,G.le,λb T z=>?_,λb o e=>c.mfr b o (t b o e)⟩
  .rcases y b o v e with d|⟨H,E,I,d,A,_⟩
   .exact c.hsat b o v d
   .rw[cell_of_heap (c.msat b _ d),cg];exact A
  .cases n:l b i with
   |none=>rfl
   |some v=>
    rcases y b i v n with d|⟨H,E,I,d,A,U⟩
    .rw[c.disj b o (t b o e) i]at d;cases d
    grind
  .funext i;have e:=congrFun (c.hold b T z) i;show l b i=h b i;cases n:h b i with
   |some v=>exact(G.le b i v n)
   |none=>
    cases V:l b i with
    |none=>rfl
    |some v=>
     rcases y b i v V with d|⟨H,E,I,d,A,U⟩
     .grind
     .rcases c.mfr b _ d with W|W
      .omega
      grind
 .obtain⟨X,f2,f3⟩:=s b R;refine⟨X,?_,λi=>?_⟩
  .cases n:F b with
   |none=>rfl
   |some o=>grind
  .cases n:l b i with
   |none=>rfl
   |some v=>
    grind
theorem a1J{P f fn c}(e:P.funcs[f]? =some fn)(i:fn.body=some c)(d:(fn.name== "runtime.NumGoroutine")=false){S}(j:∀b m h K,S b m h K->∃C:Ctx,C.P=P/\(∀g S,assoc C.specs g=some S->Sound P g S)/\xH C fn c (entry fn.ntmps b m h) (cR h K)):Sound P f S:=
 .strong (fW e i d (S:=λb m h K=>∃K',S b m h K'/\K=cR h K') (by
  grind))
end
end Go.Vc
namespace Go.Vc
open Go List
theorem aD{c A B}(b:c=true->A)(d:c=false->B):branch c A B:=by
 cases c
 .exact d rfl
 .exact b rfl
theorem aF{p}[Decidable p]{A B}(b:p->A)(c:¬p->B):branch (decide p) A B:=
 aD (λh=>b (of_decide_eq_true h)) (λh=>c (of_decide_eq_false h))
theorem fL{n}(b: -9223372036854775808<=n)(c:n<9223372036854775808):IntKind.i64.wrap n=n:=by
 rw[IntKind.wrap_i64];omega
theorem aK.of_m{m h b off cs E c l}(d:m b=some (.cells cs E c))(e:(cs.toList.drop off).take l.length=l):aK m h b off l:=.lent cs E c d e
end Go.Vc
namespace Go.Ps
open Go Go.Vc Go.Proofs List Tryz
variable{K:cq}{m:MH}{h:PH}{ps:cn}{cb:Nat}{l:cn}{i:Nat}{N:Nat}{m':MH}{h':PH}{co:cn}{gr:cn}{od:cv}{ta:Int}{li:Int}{xs:List cr}{sz:Nat}{ks:List cn}{rs:cn}{r:Sl}{a:cn}{b:Nat}
structure VV where
 kind:Int
 int:Int
 text:ByteArray
abbrev cz:=List VV
abbrev dl:=List (Sl×cz)
abbrev ct:=List cz
structure OV where
 kind:Int
 index:Int
 value:VV
abbrev ei:=List OV
structure PV where
 op:Int
 cmp:Int
 left:OV
 right:OV
 args:Sl
abbrev eb:=List PV
structure QV where
 op:Int
 table:Int
 where_:PV
 columns:Sl
 on:Sl
 group:Sl
 order:Sl
 limit:Int
 args:Sl
abbrev du:=List QV
abbrev dp:=List (Nat×QV)
variable{v:QV}
structure xA where
 op:Int
 table:Int
 where_:PV
 columns:Sl
 on:Sl
 group:Sl
 order:Sl
 limit:Int
 left:Int
 right:Int
structure qE where
 name:ByteArray
 kind:Int
structure G5 where
 columns:Sl
 table:Int
structure cZ where
 name:ByteArray
 columns:Sl
 key:Int
 references:Sl
 checks:Sl
structure bT where
 version:Int
 tables:Sl
abbrev dq:=Nat×Bool×Sl×Nat×bT×QV×Sl×Sl×Sl×Int×Sl×Sl×MH×PH
variable{sc:bT}
abbrev gZ(n:Int):Value:=.int .i64 n
abbrev dW(s:Sl):Value:=.slice s.a s.len s.cap
abbrev pF:Value:=.slice none 0 0
abbrev vQz:Value:=.string ⟨⟨[]⟩⟩
abbrev SB(b o:Nat):Value:=.pointer (some ⟨b,o,none⟩)
abbrev kL(n:Int):At:=.val (.int .i64 n)
abbrev yY(s:Sl):At:=.val (.slice s.a s.len s.cap)
abbrev J1:At:=.val (.slice none 0 0)
abbrev aQz:At:=.val (.string ⟨⟨[]⟩⟩)
abbrev iH(n:Int):SV:=.at (.val (.int .i64 n))
abbrev sQs(s:Sl):SV:=.at (.val (.slice s.a s.len s.cap))
abbrev sQn:SV:=.at (.val (.slice none 0 0))
abbrev sQp(b o:Nat):SV:=.at (.ptr b o)
abbrev WG(b o:Nat):SV:=.at (.val (.pointer (some ⟨b,o,none⟩)))
abbrev sQb(b:Bool):SV:=.at (.val (.bool b))
abbrev sQl(k:Nat):SV:=.at (.lst k)
abbrev jA(n:Int):CV:=.val (.int .i64 n)
abbrev Aw(b:Bool):CV:=.val (.bool b)
abbrev nW(s:Sl):CV:=.val (.slice s.a s.len s.cap)
abbrev EH:CV:=.val (.slice none 0 0)
abbrev OP(b o:Nat):CV:=.val (.pointer (some ⟨b,o,none⟩))
abbrev jO(l:cr):CV:=.val (.agg ⟨l⟩)
abbrev oQ(T:TypeId)(l:dm):Option Go.Vc.Own:=some (.cells T l)
abbrev eQ{α}(x:α):=x=x
abbrev eP k:=sQp k 0=sQp k 0
abbrev eL k:=sQl k=sQl k
abbrev NG(s:ByteArray):At:=.val (.string s)
abbrev zQ:=[kL 0,kL 0,kL 0,kL 0,kL 0,kL 0,kL 0,kL 0,aQz,kL 0,kL 0,kL 0,kL 0,aQz,J1,J1,J1,J1,J1,kL 0,J1]
abbrev zP:=[kL 0,kL 0,kL 0,kL 0,kL 0,kL 0,aQz,kL 0,kL 0,kL 0,kL 0,aQz,J1]
def eI(n:Int):cr:=[.int .i64 n]
def eS(s:Sl):cr:=[.slice s.a s.len s.cap]
def VV.enc(v:VV):cr:=[.int .i64 v.kind,.int .i64 v.int,.string v.text]
def OV.enc(o:OV):cr:=[.int .i64 o.kind,.int .i64 o.index,.int .i64 o.value.kind,.int .i64 o.value.int,.string o.value.text]
def PV.enc(p:PV):cr:=
 [.int .i64 p.op,.int .i64 p.cmp,
  .int .i64 p.left.kind,.int .i64 p.left.index,.int .i64 p.left.value.kind,.int .i64 p.left.value.int,.string p.left.value.text,
  .int .i64 p.right.kind,.int .i64 p.right.index,.int .i64 p.right.value.kind,.int .i64 p.right.value.int,.string p.right.value.text,
  .slice p.args.a p.args.len p.args.cap]
def QV.enc(q:QV):cr:=
 [.int .i64 q.op,.int .i64 q.table,
  .int .i64 q.where_.op,.int .i64 q.where_.cmp,
  .int .i64 q.where_.left.kind,.int .i64 q.where_.left.index,.int .i64 q.where_.left.value.kind,.int .i64 q.where_.left.value.int,.string q.where_.left.value.text,
  .int .i64 q.where_.right.kind,.int .i64 q.where_.right.index,.int .i64 q.where_.right.value.kind,.int .i64 q.where_.right.value.int,.string q.where_.right.value.text,
  .slice q.where_.args.a q.where_.args.len q.where_.args.cap,
  .slice q.columns.a q.columns.len q.columns.cap,.slice q.on.a q.on.len q.on.cap,.slice q.group.a q.group.len q.group.cap,.slice q.order.a q.order.len q.order.cap,
  .int .i64 q.limit,.slice q.args.a q.args.len q.args.cap]
def xA.enc(q:xA):cr:=
 [.int .i64 q.op,.int .i64 q.table,
  .int .i64 q.where_.op,.int .i64 q.where_.cmp,
  .int .i64 q.where_.left.kind,.int .i64 q.where_.left.index,.int .i64 q.where_.left.value.kind,.int .i64 q.where_.left.value.int,.string q.where_.left.value.text,
  .int .i64 q.where_.right.kind,.int .i64 q.where_.right.index,.int .i64 q.where_.right.value.kind,.int .i64 q.where_.right.value.int,.string q.where_.right.value.text,
  .slice q.where_.args.a q.where_.args.len q.where_.args.cap,
  .slice q.columns.a q.columns.len q.columns.cap,.slice q.on.a q.on.len q.on.cap,.slice q.group.a q.group.len q.group.cap,.slice q.order.a q.order.len q.order.cap,
  .int .i64 q.limit,.int .i64 q.left,.int .i64 q.right]
def qE.enc(c:qE):cr:=[.string c.name,.int .i64 c.kind]
def G5.enc(r:G5):cr:=[.slice r.columns.a r.columns.len r.columns.cap,.int .i64 r.table]
def cZ.enc(t:cZ):cr:=[.string t.name,.slice t.columns.a t.columns.len t.columns.cap,.int .i64 t.key,.slice t.references.a t.references.len t.references.cap,.slice t.checks.a t.checks.len t.checks.cap]
def bT.enc(s:bT):cr:=[.int .i64 s.version,.slice s.tables.a s.tables.len s.tables.cap]
abbrev zV:=[gZ 0,gZ 0,gZ 0,gZ 0,gZ 0,gZ 0,gZ 0,gZ 0,vQz,gZ 0,gZ 0,gZ 0,gZ 0,vQz,pF,pF,pF,pF,pF,gZ 0,pF]
abbrev pQ(p:PV)(r:dm):=kL p.op::kL p.cmp::kL p.left.kind::kL p.left.index::kL p.left.value.kind::kL p.left.value.int::NG p.left.value.text::kL p.right.kind::kL p.right.index::kL p.right.value.kind::kL p.right.value.int::NG p.right.value.text::yY p.args::r
abbrev qQ(q:QV)(x:At):=kL q.op::kL q.table::pQ q.where_ [yY q.columns,yY q.on,yY q.group,yY q.order,kL q.limit,x]
def sM(p:Int×Int):cr:=[.int .i64 p.1,.int .i64 p.2]
def DM(p:Int×Bool):cr:=[.int .i64 p.1,.bool p.2]
def dI:Dec:=⟨Int,eI⟩
def dS:Dec:=⟨Sl,eS⟩
def dB:Dec:=⟨Bool,λb=>[.bool b]⟩
def dU8:Dec:=⟨UInt8,λb=>[.int .u8 b.toNat]⟩
def c1Z:Dec:=⟨ByteArray,λs=>[.string s]⟩
def bSJ:Option Nat->Value
 |none=>.nilFunc
 |some f=>.func (.func f) #[] #[]
def dF:Dec:=⟨Option Nat,λf=>[bSJ f]⟩
structure NV where
 s:bT
 params:Sl
 q:QV
 args:Sl
def NV.enc(n:NV):=n.s.enc++eS n.params++n.q.enc++eS n.args
structure iR where
 query:QV
 args:Sl
 rows:Int
 env:Int
 width:Int
def iR.enc(x:iR):=x.query.enc++[.slice x.args.a x.args.len x.args.cap,.int .i64 x.rows,.int .i64 x.env,.int .i64 x.width]
def dec:=λT=>match T with
 |2=>dI
 |3=>dI
 |4=>dB
 |5=>dU8
 |9=>c1Z
 |46=>dI
 |22=>dS
 |50=>dS
 |52=>dS
 |33=>dS
 |36=>dS
 |37=>dS
 |38=>dS
 |39=>dS
 |25=>dS
 |58=>dS
 |65=>dS
 |70=>dS
 |71=>dS
 |108=>dS
 |27=>⟨bT,bT.enc⟩
 |30=>⟨VV,VV.enc⟩
 |32=>⟨OV,OV.enc⟩
 |35=>⟨PV,PV.enc⟩
 |41=>⟨QV,QV.enc⟩
 |73=>⟨cZ,cZ.enc⟩
 |130=>⟨Int×Int,sM⟩
 |77=>⟨Int×Bool,DM⟩
 |118=>⟨qE,qE.enc⟩
 |129=>⟨G5,G5.enc⟩
 |190=>⟨NV,NV.enc⟩
 |191=>dF
 |207=>dF
 |221=>⟨Nat,λb=>[.func (.func 214) #[] #[.pointer (some ⟨b,0,none⟩)]]⟩
 |157=>⟨Nat,λb=>[.map (some b)]⟩
 |160=>⟨Nat,λb=>[.map (some b)]⟩
 |43=>dS
 |95=>dS
 |45=>⟨Sl×Sl,λp=>[.slice p.1.a p.1.len p.1.cap,.slice p.2.a p.2.len p.2.cap]⟩
 |101=>⟨xA,xA.enc⟩
 |91=>⟨Nat,λb=>[.map (some b)]⟩
 |97=>⟨iR,iR.enc⟩
 |94=>⟨Nat×Nat×Nat,λb=>[.func (.func 38) #[] #[.pointer (some ⟨b.1,0,none⟩),.pointer (some ⟨b.2.1,0,none⟩),.pointer (some ⟨b.2.2,0,none⟩)]]⟩
 |_=>⟨Unit,λ_=>[]⟩
def eD(f:Func):=match f.body with|some c=>c|none=>.skip
noncomputable def ctx(specs:List (Nat×Vc.Spec))(loops:List (Nat×PM))(cuts:List (Nat×ayJ))(moves:List (Nat×di))(retMove:Bool):Ctx:=
 {P:=Tryz.prog,loops2:=[],cuts2:=[],rcuts:=[],heapT:=[],specs:=specs,dec:=dec,loops:=loops,cuts:=cuts,moves:=moves,retMove:=retMove,yield:=none}
noncomputable def dK(specs:List (Nat×Vc.Spec))(loops cuts:dy)(moves:List (Nat×di))(retMove:Bool):Ctx:=
 {P:=Tryz.prog,loops2:=loops,cuts2:=cuts,rcuts:=[],heapT:=[],specs:=specs,dec:=dec,loops:=[],cuts:=[],moves:=moves,retMove:=retMove,yield:=none}
noncomputable def c1J(specs:List (Nat×Vc.Spec))(loops cuts:dy)(rcuts:List (Nat×dy))(moves:List (Nat×di))(retMove:Bool):Ctx:=
 {P:=Tryz.prog,loops2:=loops,cuts2:=cuts,rcuts:=rcuts,heapT:=[],specs:=specs,dec:=dec,loops:=[],cuts:=[],moves:=moves,retMove:=retMove,yield:=none}
noncomputable def qD(specs:List (Nat×Vc.Spec))(loops cuts:dy)(rcuts:List (Nat×dy))(heapT:ef)(moves:List (Nat×di))(retMove:Bool):Ctx:=
 {P:=Tryz.prog,loops2:=loops,cuts2:=cuts,rcuts:=rcuts,heapT:=heapT,specs:=specs,dec:=dec,loops:=[],cuts:=[],moves:=moves,retMove:=retMove,yield:=none}
abbrev cm:=Sound Tryz.prog
theorem aH:∀g S,assoc ([]:List (Nat×Vc.Spec)) g=some S->cm g S:=λg S h=>by simp[assoc]at h
theorem aE{c S0 r}(e:cm c S0)(f:∀g S,assoc r g=some S->cm g S):∀g S,assoc ((c,S0)::r) g=some S->cm g S:=by
 intro g S h;simp only[assoc]at h;split at h
 .rename_i d;have:=ca d
  grind
 grind
def YJ(n:Int):dg->Int×dg
 |[]=>(0,[])
 |b::r=>if n<1 then(0,b::r)else((b.toNat:Int)%n,r)
structure azX(m:MH)(h:PH)(cb:Nat)(r:dg):Prop where
 ex:∃(s:Sl)(cs:dg)(k:Nat),m cb=some (.cells #[.slice s.a s.len s.cap,.int .i64 k] 86 (0,0))/\dH h s 1 (aX cs)/\k<=cs.length/\cs.length<=1000/\r=cs.drop k
structure bV(m m':MH)(cb:Nat):Prop where
 other:∀b,b≠cb->m' b=m b
end Go.Ps
namespace Go.Vc
open Go List
theorem PH.le.refl h:PH.le h h:=⟨λ_ _ _ e=>e⟩
theorem PH.le.trans{h h' c}(a:PH.le h h')(b:PH.le h' c):PH.le h c:=⟨λx y v e=>b.le x y v (a.le x y v e)⟩
theorem cO.mono{h h' b o l}(r:cO h b o l)(le:PH.le h h'):cO h' b o l:=⟨λi v e=>le.le _ _ _ (r.rd i v e)⟩
theorem dH.mono{h h' s sz xs}(r:dH h s sz xs)(le:PH.le h h'):dH h' s sz xs:=
 ⟨r.len,r.row.imp id λ⟨b,o,e,k⟩=>⟨b,o,e,λi x c=>(k i x c).mono le⟩,r.cap⟩
theorem dH.get{h s sz xs}(r:dH h s sz xs){i e}(c:xs[i]? =some e):
 ∃b o,s.a=some ⟨b,o,none⟩/\cO h b (o+i*sz) e:=by
 rcases r.row with rfl|⟨b,o,d,k⟩
 .simp at c
 grind
theorem cL.blk{m s E sz xs}(h:cL m s E sz xs){b i}(e:s.a=some ⟨b,i,none⟩):∃c,m b=some (.cells c E (0,0)):=by
 rcases h.ex with⟨rfl,_⟩|⟨f,d,c,rfl,g,_⟩
 .cases e
 grind
theorem cL.slen{m s E sz xs}(h:cL m s E sz xs):s.len=xs.length:=by
 rcases h.ex with⟨rfl,rfl⟩|⟨e,c,d,rfl,f,_⟩<;>rfl
theorem cL.keep{m m' s E sz xs}(h:cL m s E sz xs)(f:∀b i,s.a=some ⟨b,i,none⟩->m' b=m b):cL m' s E sz xs:=by
 refine⟨h.rows,?_⟩;rcases h.ex with c|⟨b,d,e,rfl,g,j⟩
 .exact .inl c
 grind
theorem dH.nil h sz:dH h ⟨none,0,0⟩ sz []:=⟨rfl,.inl rfl,Nat.le_refl _⟩
end Go.Vc
namespace Go.Ps
open Go Go.Vc Go.Proofs List Tryz
variable{K:cq}{m:MH}{h:PH}{ps:cn}{cb:Nat}{sc:bT}{v:QV}{l:cn}{i:Nat}{N:Nat}{m':MH}{h':PH}{co:cn}{gr:cn}{od:cv}{ta:Int}{li:Int}{xs:List cr}{sz:Nat}{ks:List cn}{rs:cn}{r:Sl}{a:cn}{b:Nat}
structure Ints(h:PH)(s:Sl)(l:cn):Prop where
 row:dH h s 1 (l.map eI)
 len:l.length<=17592186044416
theorem Ints.mono{s}(r:Ints h s l)(le:PH.le h h'):Ints h' s l:=⟨r.row.mono le,r.len⟩
theorem Ints.slen{s}(r:Ints h s l):s.len=l.length:=by have:=r.row.len;grind
structure jD(h:PH)(s:Sl)(l:cu):Prop where
 row:dH h s 2 (l.map sM)
 len:l.length<=8796093022208
theorem jD.mono{s l}(r:jD h s l)(le:PH.le h h'):jD h' s l:=⟨r.row.mono le,r.len⟩
theorem jD.slen{s l}(r:jD h s l):s.len=l.length:=by have:=r.row.len;grind
structure jP(h:PH)(s:Sl)(l:cv):Prop where
 row:dH h s 2 (l.map DM)
 len:l.length<=8796093022208
theorem jP.mono{s l}(r:jP h s l)(le:PH.le h h'):jP h' s l:=⟨r.row.mono le,r.len⟩
theorem jP.slen{s l}(r:jP h s l):s.len=l.length:=by have:=r.row.len;grind
inductive Pred where
 |mk (op cmp:Int) (left right:OV) (args:List Pred)
abbrev dh:=List Pred
variable{p:Pred}
mutual
def fP(h:PH):Pred->PV->Prop
 |.mk op c l r args,v=>v.op=op/\v.cmp=c/\v.left=l/\v.right=r/\args.length<=502633886983/\∃d:eb,dH h v.args 13 (d.map PV.enc)/\AF h args d
def AF(h:PH):dh->eb->Prop
 |[],d=>d=[]
 |p::ps,d=>∃v c,d=v::c/\fP h p v/\AF h ps c
end
mutual
theorem fP.mono{h h':PH}(le:PH.le h h'):∀{p:Pred}{v:PV},fP h p v->fP h' p v
 |.mk ..,_,⟨c,d,e,f,g,j,n,s⟩=>⟨c,d,e,f,g,j,n.mono le,AF.mono le s⟩
theorem AF.mono{h h':PH}(le:PH.le h h'):∀{ps:dh}{vs:eb},AF h ps vs->AF h' ps vs
 |[],_,h=>h
 |_::_,_,⟨v,c,d,e,f⟩=>⟨v,c,d,fP.mono le e,AF.mono le f⟩
end
theorem AF.length{h:PH}:∀{ps:dh}{vs:eb},AF h ps vs->vs.length=ps.length
 |[],_,h=>by rw[show _=[]from h];rfl
 |_::_,_,⟨_,_,c,_,d⟩=>by rw[c];simp[AF.length d]
theorem AF.get{h:PH}:∀{ps:dh}{vs:eb},AF h ps vs->∀{i:Nat}{p:Pred},ps[i]? =some p->∃v,vs[i]? =some v/\fP h p v
 |[],_,_,i,p,e=>by simp at e
 |p0::ps,_,⟨v,c,rfl,f,d⟩,0,p,e=>bg
 |p0::ps,_,⟨v,c,rfl,f,d⟩,i+1,p,e=>by simp at e;simpa using AF.get d e
inductive Query where
 |mk (op table:Int) (wher:Pred) (columns:cn) (on:cu) (group:cn) (order:cv) (limit:Int) (args:List Query)
abbrev db:=List Query
mutual
def dO(h:PH):Query->QV->Prop
 |.mk op table w c on d e f args,v=>v.op=op/\v.table=table/\fP h w v.where_/\Ints h v.columns c/\jD h v.on on/\Ints h v.group d/\jP h v.order e/\v.limit=f/\
  args.length<=502633886983/\∃g:du,dH h v.args 21 (g.map QV.enc)/\BX h args g
def BX(h:PH):db->du->Prop
 |[],d=>d=[]
 |p::ps,d=>∃v c,d=v::c/\dO h p v/\BX h ps c
end
mutual
theorem dO.mono{h h':PH}(le:PH.le h h'):∀{p:Query}{v:QV},dO h p v->dO h' p v
 |.mk ..,_,⟨e,f,g,j,n,s,t,u,y,z,c,d⟩=>⟨e,f,g.mono le,j.mono le,n.mono le,s.mono le,t.mono le,u,y,z,c.mono le,BX.mono le d⟩
theorem BX.mono{h h':PH}(le:PH.le h h'):∀{ps:db}{vs:du},BX h ps vs->BX h' ps vs
 |[],_,h=>h
 |_::_,_,⟨v,c,d,e,f⟩=>⟨v,c,d,dO.mono le e,BX.mono le f⟩
end
theorem BX.length{h:PH}:∀{ps:db}{vs:du},BX h ps vs->vs.length=ps.length
 |[],_,h=>by rw[show _=[]from h];rfl
 |_::_,_,⟨_,_,c,_,d⟩=>by rw[c];simp[BX.length d]
theorem BX.get{h:PH}:∀{ps:db}{vs:du},BX h ps vs->∀{i:Nat}{p:Query},ps[i]? =some p->∃v,vs[i]? =some v/\dO h p v
 |[],_,_,i,p,e=>by simp at e
 |p0::ps,_,⟨v,c,rfl,f,d⟩,0,p,e=>bg
 |p0::ps,_,⟨v,c,rfl,f,d⟩,i+1,p,e=>by simp at e;simpa using BX.get d e
def iv(n:Int):SV:=.at (.val (.int .i64 n))
def sv(s:Sl):SV:=.at (.val (.slice s.a s.len s.cap))
def bv(b:Bool):SV:=.at (.val (.bool b))
def vv(v:Value):SV:=.at (.val v)
def cS(s:Sl):CV:=.val (.slice s.a s.len s.cap)
def cI(n:Int):CV:=.val (.int .i64 n)
def cB(b:Bool):CV:=.val (.bool b)
def cP(b:Nat):CV:=.val (.pointer (some ⟨b,0,none⟩))
def Hp(id:Nat)(st:Nat->St)(inv:Nat->Prop)(mu:Nat->Nat):Nat×PM:=(id,{A:=Nat,st:=st,inv:=inv,mu:=mu})
theorem jK(h:i<=140737488355328):IntKind.i64.wrap ((i:Int)+1)=((i+1:Nat):Int):=by
 rw[fL aC aC];rfl
theorem Ints.at{s}(r:Ints h s l){x}(c:l[i]? =some x):∃b o,s.a=some ⟨b,o,none⟩/\cO h b (o+i) [.int .i64 x]:=by
 obtain⟨b,o,d,f⟩:=r.row.get (i:=i) (e:=eI x) (by simp[c]);exact⟨b,o,d,by simpa[eI]using f⟩
theorem MT{p:Prop}(h:p:=by repeat' (first|with_reducible rfl|exact trivial|refine⟨?_,?_⟩|rfl|(rw[jK aC];done)|(rw[jK aC]))):p:=h
def iA(k:Int):=k==3||k==4||k==5
def Hi(t:ByteArray):=t.toList==[]
def oC(v:VV):=
 if v.kind==1||v.kind==2 then v.int==0&&Hi v.text
 else if v.kind==3 then(v.int==0||v.int==1)&&Hi v.text
 else if v.kind==4 then Hi v.text
 else if v.kind==5 then v.int==0&&(v.text.size:Int)<=64
 else false
def pW v:=oC v&&v.kind>=3
def aV(v:VV):CV:=.val (.agg #[.int .i64 v.kind,.int .i64 v.int,.string v.text])
def b3Z:Vc.Spec:=λc m h K=>∃k,c=[cI k]/\K (cB (iA k)) m h
def RS:Vc.Spec:=λc m h K=>∃v,c=[aV v]/\K (cB (oC v)) m h
def UH:Vc.Spec:=λc m h K=>∃v,c=[aV v]/\K (cB (pW v)) m h
def R7:Vc.Spec:=λc m h K=>∃s l,c=[cS s]/\Ints h s l/\K (cB (l.all iA)) m h
noncomputable def cmX(s:Sl)(l:cn)(m:MH)(h:PH):=
 ctx [(123,b3Z)] [Hp 2 (λi=>bY 15 16 [(5,sv s),(6,iv s.len),(7,iv i)] [] m h) (λi=>i<=l.length/\(l.take i).all iA=true) (λi=>l.length-i)] [] [] false
noncomputable def bHJ(s:Sl)(l:cn)(m:MH)(h:PH):=
 ctx [] [Hp 2 (λi=>bY 22 23 [(5,sv s),(6,iv s.len),(7,iv i)] [] m h) (λi=>i<=l.length/\(l.take i).all iA=true) (λi=>l.length-i)] [] [] false
abbrev dQ a b c d e:=branch a b (branch c d e)
abbrev jF:=Aw true
attribute [push_cast] dQ jF
def Ul(k:Int)(m:MH)(h:PH)(K:cq):=
  dQ (k==3) (K jF m h) (k==4) (K jF m h) (K (Aw (k==5)) m h)
abbrev fC(a b:Int)(c d:Prop):=branch (a==b) c d
abbrev D6(a:VV):=a.text.toList
abbrev Ik(a:cq)(b:VV)(c:MH)(d:PH):=a (Aw (D6 b==[])) c d
abbrev bD:=Aw false
attribute [push_cast] fC D6 Ik bD
def IU v m h K:=
  dQ (v.kind==1) (fC v.int 0 (Ik K v m h) (K bD m h)) (v.kind==2) (fC v.int 0 (Ik K v m h) (K bD m h)) (dQ (v.kind==3) (dQ (v.int==0) (Ik K v m h) (v.int==1) (Ik K v m h) (K bD m h)) (v.kind==4) (Ik K v m h) (fC v.kind 5 (fC v.int 0 (K (Aw (decide ((↑v.text.size:Int)<=64))) m h) (K bD m h)) (K bD m h)))
abbrev gX a b c d:=a/\branch b c d
abbrev Gs(a:CV):=[a]
abbrev eY a b:=Gs a=Gs b
abbrev lV(a:VV):=jO a.enc
attribute [push_cast] gX Gs eY lV
def TS(v:VV)(m:MH)(h:PH)(K:cq):=
  ∃(c:VV),gX (eY (lV v) (lV c)) (oC c) (K (Aw (decide (v.kind>=3))) m h) (K bD m h)
abbrev dR(a b:Int)(c d:Prop):=branch (a !=b) c d
attribute [push_cast] dR
def TW(v:VV)(m:MH)(h:PH)(K:cq):=
  ∃(c:VV),gX (eY (lV v) (lV c)) (oC c) (dR v.kind 1 (K (Aw (v.kind !=2)) m h) (K bD m h)) (K bD m h)
abbrev lD(a:Prop)(b:Nat->Prop):=a/\∀(x:Nat),b x
abbrev aA a b c:=a/\b/\c
abbrev iX a:=a=true
abbrev Ev a:=List.all a iA
abbrev Cs a b:=a<=b.length/\iX (Ev (List.take a b))
abbrev aI a:=eQ (sQs a)
abbrev bP(a:Nat):=iH (↑a:Int)
abbrev bI(a:Sl):=eQ (bP a.len)
abbrev bA a:=iH 0=bP a
abbrev eM(a b:MH)(c:PH)(d:Nat->Nat->Option Value):=aA (a=b) (c=d) True
abbrev aY(a b:Int)(c d:Prop):=branch (decide (a<b)) c d
abbrev aG(a:Sl):=(↑a.len:Int)
abbrev bK(a:Nat->Nat->Prop):=∃(x c:Nat),a x c
abbrev aR a b c:=a=Option.some (Addr.mk b c Option.none)
abbrev gH(a:Nat)(b:Int)(c:Nat):=a+b.toNat*c
abbrev bL(a b c:Nat):=gH a (↑b:Int) c
abbrev pD(a:Value):=[a]
abbrev bC a:=pD (gZ a)
abbrev mG a b:=eY (jA a) (jA b)
abbrev dJ(a:Prop)(b c:Nat->Option Obj)(d e:PH):=aA a (b=c) (d=e/\True)
abbrev iF a:=IntKind.wrap IntKind.i64 a
abbrev bE(a:Nat)(b:Int):=iF ((↑a:Int)+b)
attribute [push_cast] lD aA iX Ev Cs aI bP bI bA eM aY aG bK aR gH bL pD bC mG dJ iF bE
def XM(s:Sl)(l:cn)(m:MH)(h:PH)(K:cq):=
  lD (∃(x:Nat),aA (Cs x l) (aI s) (aA (bI s) (bA x) (eM m m h h))) (λx=>Cs x l->aY (↑x:Int) (aG s) (bK (λb o=>aA (aR s.a b o) (0<=(↑x:Int)) ((↑x:Int)<aG s/\∃(y:Int),aK m h b (bL o x 1) (bC y)/\∃(k:Int),gX (mG y k) (!(iA k)) (K bD m h) (∃(c:Nat),aA (Cs c l) (l.length-c<l.length-x) (aA (aI s) (bI s) (dJ (iH (bE x 1)=bP c) m m h h)))))) (K jF m h))
def TK(s:Sl)(l:cn)(m:MH)(h:PH)(K:cq):=
  lD (∃(x:Nat),aA (Cs x l) (aI s) (aA (bI s) (bA x) (eM m m h h))) (λx=>Cs x l->aY (↑x:Int) (aG s) (bK (λb o=>aA (aR s.a b o) (0<=(↑x:Int)) ((↑x:Int)<aG s/\∃(y:Int),aK m h b (bL o x 1) (bC y)/\dR y 3 (dR y 4 (dR y 5 (K bD m h) (∃(c:Nat),aA (Cs c l) (l.length-c<l.length-x) (aA (aI s) (bI s) (dJ (iH (bE x 1)=bP c) m m h h)))) (∃(c:Nat),aA (Cs c l) (l.length-c<l.length-x) (aA (aI s) (bI s) (dJ (iH (bE x 1)=bP c) m m h h)))) (∃(c:Nat),aA (Cs c l) (l.length-c<l.length-x) (aA (aI s) (bI s) (dJ (iH (bE x 1)=bP c) m m h h)))))) (K jF m h))
theorem cwQ v m h K:IU v m h K=xH (ctx [] [] [] [] false) Tryz.f133 (eD Tryz.f133) (entry Tryz.f133.ntmps [aV v] m h) K:=ax
theorem kR{x y}(c:K (cB x) m h)(e:x=y):K (.val (.bool y)) m h:=e▸c
theorem aJJ{v}(c:K (cB (oC v)) m h):IU v m h K:=by
 dsimp only[IU,push_cast]
 repeat' (first|(refine aD (λ_=>?_) (λ_=>?_))|(refine kR c ?_;simp_all [oC,Hi]))
theorem jC{f fn}(n:Tryz.prog.funcs[f]? =some fn){S}(j:∀c m h K,S c m h K->∃C:Ctx,C.P=Tryz.prog/\(∀g S,assoc C.specs g=some S->cm g S)/\∃N:Prop,N=xH C fn (eD fn) (entry fn.ntmps c m h) K/\N)(s:fn.body=some (eD fn):=by rfl)(d:(fn.name== "runtime.NumGoroutine")=false:=by decide):cm f S:=fW n s d λc m h K t=>let⟨C,hC,hs,N,e,hn⟩:=j c m h K t;⟨C,hC,hs,e▸hn⟩
theorem RE:cm 123 b3Z:=by
 refine jC func123 ?_;rintro c m h K ⟨k,rfl,d⟩;refine⟨ctx [] [] [] [] false,rfl,aH,Ul k m h K,ax,?_⟩;dsimp only[Ul,push_cast]
 repeat' (first|(refine aD (λ_=>?_) (λ_=>?_))|(refine kR d ?_;simp_all [iA]))
theorem Z9:cm 210 RS:=by
 refine jC func210 ?_;rintro c m h K ⟨v,rfl,d⟩;refine⟨ctx [] [] [] [] false,rfl,aH,IU v m h K,ax,?_⟩;exact aJJ d
theorem RB:cm 133 RS:=by
 refine fW (fn:=Tryz.f133) (c:=eD Tryz.f133) func133 rfl az ?_;rintro d m h K ⟨v,rfl,e⟩;refine⟨ctx [] [] [] [] false,rfl,aH,?_⟩;rw[<-cwQ v m h K];exact aJJ e
theorem aiX:cm 166 UH:=by
 refine jC func166 ?_;rintro c m h K ⟨v,rfl,d⟩;refine⟨ctx [(210,RS)] [] [] [] false,rfl,aE Z9 aH,TS v m h K,ax,?_⟩;dsimp only[TS,push_cast];refine⟨v,rfl,?_⟩
 repeat' (first|(refine aD (λ_=>?_) (λ_=>?_))|(refine kR d ?_;simp_all [pW]))
theorem GD:cm 158 UH:=by
 refine jC func158 ?_;rintro g m h K ⟨v,rfl,e⟩;refine⟨ctx [(133,RS)] [] [] [] false,rfl,aE RB aH,TW v m h K,ax,?_⟩;dsimp only[TW,push_cast];refine⟨v,rfl,?_⟩;refine aD (λc=>aD (λd=>kR e ?_) (λd=>kR e ?_)) (λc=>kR e ?_)
 .have d:v.kind≠1:=bg
  by_cases f:v.kind=2
  .simp[pW,c,f]
  .have:3<=v.kind:=by
    simp only[oC]at c
    grind
   simp[pW,c,f,this]
 .have d:v.kind=1:=bg
  simp[pW,d]
 .simp[pW,c]
theorem BW{α p}{l:List α}{x}(hx:l[i]? =some x):(l.take (i+1)).all p=((l.take i).all p&&p x):=by
 rw[cd,all_append,hx];simp
theorem PG{α p}{l:List α}{x}(hx:l[i]? =some x)(c:p x=false):l.all p=false:=by
 grind
theorem Tj:cm 62 R7:=by
 refine jC func62 ?_;rintro g m h K ⟨s,l,rfl,c,e⟩;refine⟨cmX s l m h,rfl,aE RE aH,XM s l m h K,ax,?_⟩;dsimp only[XM,push_cast];have A:=c.slen;have D:=c.len;refine⟨⟨0,⟨aC,ay⟩,rfl,rfl,rfl,rfl,rfl,trivial⟩,λi j=>aF (λd=>?_) (λn=>?_)⟩
 .obtain⟨x,f⟩:∃x,l[i]? =some x:=⟨l[i]'(by omega),bn _⟩
  obtain⟨t,u,y,E⟩:=c.at f;refine⟨t,u,y,aC,d,x,.imm bg,x,rfl,aD (λz=>kR e ?_) (λz=>?_)⟩
  .grind
  .refine⟨i+1,⟨aC,?_⟩,aC,rfl,rfl,by rw[jK aC],rfl,rfl,trivial⟩;rw[BW f,j.2]
   grind
 .refine kR e ?_
  grind
theorem afZ:cm 184 R7:=by
 refine jC func184 ?_;rintro j m h K ⟨s,l,rfl,c,g⟩;refine⟨bHJ s l m h,rfl,aH,TK s l m h K,ax,?_⟩;dsimp only[TK,push_cast];have D:=c.slen;have E:=c.len;refine⟨⟨0,⟨aC,ay⟩,rfl,rfl,rfl,rfl,rfl,trivial⟩,λi n=>aF (λd=>?_) (λt=>?_)⟩
 .obtain⟨x,e⟩:∃x,l[i]? =some x:=⟨l[i]'(by omega),bn _⟩
  obtain⟨u,z,A,F⟩:=c.at e;have good:iA x=true->(l.take (i+1)).all iA=true:=λf=>by rw[BW e,n.2,f];rfl
  refine⟨u,z,A,aC,d,x,.imm bg,?_⟩;have next:iA x=true->∃(y:Nat),(y<=l.length/\(l.take y).all iA=true)/\l.length-y<l.length-i/\y=i+1:=λf=>⟨i+1,⟨aC,good f⟩,aC,rfl⟩
  repeat' (first|(refine aD (λ_=>?_) (λ_=>?_))|(refine kR g (PG e ?_);simp_all [iA];done)|(refine⟨i+1,⟨aC,good (by simp_all [iA])⟩,aC,rfl,rfl,by rw[jK aC],rfl,rfl,trivial⟩))
 .refine kR g ?_
  grind
def eqV(a b:VV):=a.kind==b.kind&&(a.int==b.int&&(a.text.toList==b.text.toList&&true))
def eqO(a b:OV):=a.kind==b.kind&&(a.index==b.index&&(eqV a.value b.value&&true))
theorem pC{f e d xs c w x y r r'}(g:(f.name== "_")=false)(hx:B0 Tryz.prog (part f.type xs f.offset)=some x)(j:B0 Tryz.prog (part f.type c f.offset)=some y)(n:(Op.equalIn d f.type x y).run Tryz.prog w= .ok r w)(s:(Op.eqFields d xs c e).run Tryz.prog w= .ok r' w):(Op.eqFields d xs c (f::e)).run Tryz.prog w= .ok (r&&r') w:=by
 have g:f.name≠ "_" :=bg
 simp only[Op.eqFields,if_pos g,Sem.run_bind,Dc _ _ _ hx,Dc _ _ _ j,Result.andThen_ok,n];cases r
 .simp
 grind
noncomputable def Sf t k:=(Tryz.prog.fieldsOf t).toList.getD k default
theorem aLX a b d w:(Op.equalIn (d+2) 30 (.agg #[.int .i64 a.kind,.int .i64 a.int,.string a.text]) (.agg #[.int .i64 b.kind,.int .i64 b.int,.string b.text])).run Tryz.prog w= .ok (eqV a b) w:=by
 rw[run_equalIn_struct w (d+1) 30 _ _ ax ax,show(Tryz.prog.fieldsOf 30).toList=[Sf 30 0,Sf 30 1,Sf 30 2]by kernel_rfl];refine pC (x:=.int .i64 a.kind) (y:=.int .i64 b.kind) ax ax ax (run_equalIn_int w d _ .i64 .i64 _ _ ax) ?_;refine pC (x:=.int .i64 a.int) (y:=.int .i64 b.int) ax ax ax (run_equalIn_int w d _ .i64 .i64 _ _ ax) ?_;refine pC (x:=.string a.text) (y:=.string b.text) ax ax ax (run_equalIn_string w d _ _ _ ax) ?_;simp[Op.eqFields]
theorem cxZ a b d w:(Op.equalIn (d+3) 32 (.agg #[.int .i64 a.kind,.int .i64 a.index,.int .i64 a.value.kind,.int .i64 a.value.int,.string a.value.text]) (.agg #[.int .i64 b.kind,.int .i64 b.index,.int .i64 b.value.kind,.int .i64 b.value.int,.string b.value.text])).run Tryz.prog w= .ok (eqO a b) w:=by
 rw[run_equalIn_struct w (d+2) 32 _ _ ax ax,show(Tryz.prog.fieldsOf 32).toList=[Sf 32 0,Sf 32 1,Sf 32 2]by kernel_rfl];refine pC (x:=.int .i64 a.kind) (y:=.int .i64 b.kind) ax ax ax (run_equalIn_int w (d+1) _ .i64 .i64 _ _ ax) ?_;refine pC (x:=.int .i64 a.index) (y:=.int .i64 b.index) ax ax ax (run_equalIn_int w (d+1) _ .i64 .i64 _ _ ax) ?_;refine pC (x:=.agg #[.int .i64 a.value.kind,.int .i64 a.value.int,.string a.value.text]) (y:=.agg #[.int .i64 b.value.kind,.int .i64 b.value.int,.string b.value.text]) ax ax ax ?_ ?_
 .rw[show(Sf 32 2).type=30 by kernel_rfl];exact aLX a.value b.value d w
 .simp[Op.eqFields]
theorem VL a b:StructEq Tryz.prog 30 (.agg #[.int .i64 a.kind,.int .i64 a.int,.string a.text]) (.agg #[.int .i64 b.kind,.int .i64 b.int,.string b.text]) (eqV a b):=
 ⟨ax,λw=>aLX a b 9998 w⟩
theorem BI a b:StructEq Tryz.prog 32 (.agg #[.int .i64 a.kind,.int .i64 a.index,.int .i64 a.value.kind,.int .i64 a.value.int,.string a.value.text]) (.agg #[.int .i64 b.kind,.int .i64 b.index,.int .i64 b.value.kind,.int .i64 b.value.int,.string b.value.text]) (eqO a b):=
 ⟨ax,λw=>cxZ a b 9997 w⟩
theorem C3{a b:ByteArray}(h:a.toList=b.toList):a=b:=by
 rw[ByteArray.toList_eq,ByteArray.toList_eq]at h;cases a;cases b;simp only[ByteArray.mk.injEq];exact Array.toList_inj.1 h
theorem VM{a b}:eqV a b=true↔a=b:=by
 obtain⟨k,i,t⟩:=a;obtain⟨f,g,j⟩:=b;simp only[eqV,Bool.and_true,bz,beq_iff_eq,VV.mk.injEq];exact⟨λ⟨c,d,e⟩=>⟨c,d,C3 e⟩,λ⟨c,d,e⟩=>⟨c,d,by rw[e]⟩⟩
theorem uU{a b}:eqO a b=true↔a=b:=by
 obtain⟨k,i,t⟩:=a;obtain⟨c,d,e⟩:=b;simp only[eqO,Bool.and_true,bz,beq_iff_eq,OV.mk.injEq,VM]
def zeroV:VV:=⟨0,0,⟨#[]⟩⟩
def gL:OV:=⟨0,0,zeroV⟩
def sB(l:cn)(o:OV):=if o.index<0||o.index>=l.length|| !eqV o.value zeroV then 0 else l.getD o.index.toNat 0
def kindOf cols params o:=
 if o.kind==3 then(if o.index !=0|| !pW o.value then 0 else o.value.kind)
 else if o.kind==2 then sB params o
 else if o.kind==1 then sB cols o
 else 0
def zF(v:PV):=v.cmp==0&&eqO v.left gL&&eqO v.right gL
def aO(o:OV):CV:=.val (.agg #[.int .i64 o.kind,.int .i64 o.index,.int .i64 o.value.kind,.int .i64 o.value.int,.string o.value.text])
def aP(p:PV):CV:=.val (.agg #[.int .i64 p.op,.int .i64 p.cmp,
 .int .i64 p.left.kind,.int .i64 p.left.index,.int .i64 p.left.value.kind,.int .i64 p.left.value.int,.string p.left.value.text,
 .int .i64 p.right.kind,.int .i64 p.right.index,.int .i64 p.right.value.kind,.int .i64 p.right.value.int,.string p.right.value.text,
 .slice p.args.a p.args.len p.args.cap])
def a2S(s t:Sl):CV:=.val (.agg #[.slice s.a s.len s.cap,.slice t.a t.len t.cap])
def b1Z:Vc.Spec:=λc m h K=>∃v,c=[aP v]/\K (cB (zF v)) m h
def aRZ:Vc.Spec:=λe m h K=>∃s t d c o,e=[cS s,cS t,aO o]/\Ints h s d/\Ints h t c/\K (cI (kindOf d c o)) m h
def Y4:Vc.Spec:=λe m h K=>∃s t d c o,e=[a2S s t,aO o]/\Ints h s d/\Ints h t c/\K (cI (kindOf d c o)) m h
abbrev Af a b c d:=StructEq Proofs.Tryz.prog a (Value.agg (Array.mk b)) (Value.agg (Array.mk c)) d
abbrev bG(a b:Value)(c:cr):=a::b::c
abbrev bF:=gZ 0
abbrev FC:=pD vQz
abbrev Gd a b:=Af 32 a (bG bF bF (bG bF bF FC)) b
abbrev Ad(a:PV):=a.right.enc
attribute [push_cast] Af bG bF FC Gd Ad
def TL(v:PV)(m:MH)(h:PH)(K:cq):=
  fC v.cmp 0 (∃(r:Bool),gX (Gd v.left.enc r) r (∃(c:Bool),Gd (Ad v) c/\K (Aw c) m h) (K bD m h)) (K bD m h)
abbrev qL(a:OV):=a.value.kind
abbrev iO(a b:Int)(c d:Prop):=branch (decide (a>=b)) c d
abbrev zY:=bG bF bF FC
attribute [push_cast] qL iO zY
def I7(s t:Sl)(o:OV)(m:MH)(h:PH)(K:cq):=
  dQ (o.kind==3) (dR o.index 0 (K (jA 0) m h) (∃(v:VV),gX (eY (lV o.value) (lV v)) (!(pW v)) (K (jA 0) m h) (K (jA (qL o)) m h))) (o.kind==2) (aY o.index 0 (K (jA 0) m h) (iO o.index (aG t) (K (jA 0) m h) (∃(r:Bool),gX (Af 30 o.value.enc zY r) (!r) (K (jA 0) m h) (bK (λb c=>aA (aR t.a b c) (0<=o.index) (o.index<aG t/\∃(y:Int),aK m h b (gH c o.index 1) (bC y)/\K (jA y) m h)))))) (fC o.kind 1 (aY o.index 0 (K (jA 0) m h) (iO o.index (aG s) (K (jA 0) m h) (∃(r:Bool),gX (Af 30 o.value.enc zY r) (!r) (K (jA 0) m h) (bK (λb c=>aA (aR s.a b c) (0<=o.index) (o.index<aG s/\∃(y:Int),aK m h b (gH c o.index 1) (bC y)/\K (jA y) m h)))))) (K (jA 0) m h))
theorem BO{x y}(c:K (cI x) m h)(e:x=y):K (.val (.int .i64 y)) m h:=e▸c
theorem Ints.inb{s}(r:Ints h s l){n}(d:0<=n)(f:n<(l.length:Int)):∃b o,s.a=some ⟨b,o,none⟩/\cO h b (o+n.toNat*1) [.int .i64 (l.getD n.toNat 0)]:=by
 have c:l[n.toNat]? =some (l.getD n.toNat 0):=by
  grind
 obtain⟨b,o,e,r⟩:=r.at c
 grind
theorem aKX{s t cols params o}(A:Ints h s cols)(D:Ints h t params)(c:K (cI (kindOf cols params o)) m h):I7 s t o m h K:=by
 have E:=A.slen;have F:=D.slen;dsimp only[I7,push_cast];refine aD (λG=>aD (λy=>BO c ?_) (λy=>⟨o.value,rfl,aD (λd=>BO c ?_) (λd=>BO c ?_)⟩)) (λG=>aD (λy=>?_) (λy=>aD (λd=>?_) (λd=>BO c ?_)))
 .simp_all [kindOf]
 .simp_all [kindOf]
 .simp_all [kindOf]
 .have z:kindOf cols params o=sB params o:=by simp_all [kindOf]
  rw[z]at c;refine aF (λd=>BO c ?_) (λd=>aF (λg=>BO c ?_) (λg=>⟨eqV o.value zeroV,VL o.value zeroV,aD (λf=>BO c ?_) (λf=>?_)⟩))
  .simp[sB,d]
  .rw[F]at g;simp[sB,g]
  .simp only[Bool.not_eq_true']at f;simp[sB,f]
  .obtain⟨b,j,e,r⟩:=D.inb (n:=o.index) aC aC;refine⟨b,j,e,aC,aC,_,.imm r,BO c ?_⟩;have u:¬o.index>=params.length:=by omega
   simp only[Bool.not_eq_false']at f;simp[sB,d,u,f]
 .have z:kindOf cols params o=sB cols o:=by simp_all [kindOf]
  rw[z]at c;refine aF (λd=>BO c ?_) (λd=>aF (λg=>BO c ?_) (λg=>⟨eqV o.value zeroV,VL o.value zeroV,aD (λf=>BO c ?_) (λf=>?_)⟩))
  .simp[sB,d]
  .rw[E]at g;simp[sB,g]
  .simp only[Bool.not_eq_true']at f;simp[sB,f]
  .obtain⟨b,j,e,r⟩:=A.inb (n:=o.index) aC aC;refine⟨b,j,e,aC,aC,_,.imm r,BO c ?_⟩;have u:¬o.index>=cols.length:=by omega
   simp only[Bool.not_eq_false']at f;simp[sB,d,u,f]
 .simp_all [kindOf]
theorem agX:cm 179 b1Z:=by
 refine jC func179 ?_;rintro d m h K ⟨v,rfl,c⟩;refine⟨ctx [] [] [] [] false,rfl,aH,TL v m h K,ax,?_⟩;dsimp only[TL,push_cast];refine aD (λe=>⟨eqO v.left gL,BI v.left gL,aD (λf=>⟨eqO v.right gL,BI v.right gL,kR c ?_⟩) (λf=>kR c ?_)⟩) (λe=>kR c ?_)
 all_goals simp_all [zF]
theorem agQ:cm 180 aRZ:=by
 refine jC func180 ?_;rintro e m h K ⟨s,t,d,c,o,rfl,f,g,j⟩;refine⟨ctx [(166,UH)] [] [] [] false,rfl,aE aiX aH,I7 s t o m h K,ax,?_⟩;exact aKX f g j
theorem ZX:cm 235 Y4:=by
 refine jC func235 ?_;rintro e m h K ⟨s,t,d,c,o,rfl,f,g,j⟩;refine⟨ctx [(158,UH)] [] [] [] false,rfl,aE GD aH,I7 s t o m h K,ax,?_⟩;exact aKX f g j
def Pred.args:Pred->dh
 |.mk _ _ _ _ l=>l
mutual
def rW:Pred->Int->Int
 |.mk _ _ _ _ args,n=>nX args (n+1)
def nX:dh->Int->Int
 |[],n=>n
 |p::ps,n=>if n<=24 then nX ps (rW p n)else n
end
mutual
def pU:Pred->Nat->Bool
 |.mk _ _ _ _ _,0=>true
 |.mk _ _ _ _ args,n+1=>xK args n
def xK:dh->Nat->Bool
 |[],_=>false
 |p::ps,n=>pU p n||xK ps n
end
mutual
theorem Fw:∀(p:Pred)(n:Int),n<=24->n<rW p n/\rW p n<=25
 |.mk _ _ _ _ args,n,h=>by
  have:=Jl args (n+1) aC;simp only[rW];omega
theorem Jl:∀(ps:dh)(n:Int),n<=25->n<=nX ps n/\nX ps n<=25
 |[],n,h=>by simp only[nX];omega
 |p::ps,n,h=>by
  simp only[nX];split
  .rename_i c;have d:=Fw p n c;have e:=Jl ps (rW p n) d.2;omega
  .omega
end
theorem Vk ps{n}(h:¬n<=24):nX ps n=n:=by
 cases ps
 .simp[nX]
 .simp only[nX,if_neg h]
theorem LW(n:Nat):∀ps:dh,xK ps n=ps.any (pU · n)
 |[]=>by simp[xK]
 |p::ps=>by simp[xK,LW n ps]
theorem BK{p:Pred}{q}(h:q∈p.args):SizeOf.sizeOf q<SizeOf.sizeOf p:=by
 cases p with
 |mk op c l r args=>
  have:=sizeOf_lt_of_mem h;simp only[Pred.args]at this
  grind
theorem fP.open{v}(r:fP h p v):p.args.length<=502633886983/\v.args.len=p.args.length/\∀(i:Nat)(q:Pred),p.args[i]? =some q->∃b o u,v.args.a=some ⟨b,o,none⟩/\cO h b (o+i*13) (PV.enc u)/\fP h q u:=by
 cases p with
 |mk op f l s args=>
  obtain⟨t,y,z,A,g,D,c,d⟩:=r;have E:=d.length;refine⟨g,?_,λi q j=>?_⟩
  .have:=c.len;simp at this;simp only[Pred.args];omega
  .obtain⟨u,n,F⟩:=d.get j;obtain⟨b,o,e,r⟩:=c.get (i:=i) (e:=PV.enc u) (by simp[n])
   grind
def axJ(N:Nat):Vc.Spec:=λc m h K=>∃v p k,c=[aP v,cI k]/\fP h p v/\SizeOf.sizeOf p<N/\0<=k/\k<=24/\K (cI (rW p k)) m h
def Wc(N:Nat):Vc.Spec:=λc m h K=>∃v p,∃k:Nat,c=[aP v,cI k]/\fP h p v/\SizeOf.sizeOf p<N/\k<=100/\K (cB (pU p k)) m h
noncomputable def bOX(N:Nat)(v:PV)(p:Pred)(k:Int)(m:MH)(h:PH):=
 ctx [(129,axJ N)] [(3,{A:=Nat×Int,st:=λx=>bY 27 29 [(1,iv x.2),(2,.at (.ptr 2 0)),(5,iv x.1)] [(2,.cells 35 (v.enc.map .val))] m h,inv:=λx=>x.1<=p.args.length/\0<=x.2/\x.2<=25/\nX (p.args.drop x.1) x.2=rW p k,mu:=λx=>p.args.length-x.1})] [] [] false
noncomputable def bOQ(N:Nat)(v:PV)(p:Pred)(k:Nat)(m:MH)(h:PH):=
 ctx [(130,Wc N)] [Hp 4 (λi=>bY 23 25 [(1,iv k),(2,.at (.ptr 2 0)),(10,iv v.args.len),(11,iv i)] [(2,.cells 35 (v.enc.map .val))] m h) (λi=>i<=p.args.length/\(p.args.take i).any (pU · (k-1))=false) (λi=>p.args.length-i)] [] [] false
abbrev u9(a:Pred):=a.args.length
abbrev O7(a:Nat×Int)(b:Pred)(c d e:Int):=aA (a.1<=u9 b) (c<=a.2) (a.2<=d/\nX (List.drop a.1 b.args) a.2=rW b e)
abbrev dA a b:=iH a=iH b
abbrev iS:=eP 2
abbrev qM a b:=oQ a (List.map At.val b)
abbrev oN(a:PV):=eQ (qM 35 a.enc)
abbrev PA(a:Option Addr)(b:Nat)(c:Sl)(d:Nat->Nat->PV->Prop):=bK (λx e=>aA (aR a x e) (0<=(↑b:Int)) ((↑b:Int)<aG c/\∃(f:PV),d x e f))
abbrev sT(a:PV->Pred->Prop):=∃(x:PV)(c:Pred),a x c
abbrev tN a b:=a::Gs b
abbrev cT a b:=tN a (jA b)
abbrev sP(a:Pred)(b:Nat):=SizeOf.sizeOf a<b
abbrev cN(a:Int):=0<=a
attribute [push_cast] u9 O7 dA iS qM oN PA sT tN cT sP cN
def Ug(N:Nat)(v:PV)(p:Pred)(k:Int)(m:MH)(h:PH)(K:cq):=
  (∃(x:Nat×Int),aA (O7 x p 0 25 k) (dA (iF (k+1)) x.2) (aA iS (bA x.1) (dJ (oN v) m m h h)))/\∀(x:Nat×Int),O7 x p 0 25 k->aY (↑x.1:Int) (aG v.args) (branch (decide (x.2<=24)) (PA v.args.a x.1 v.args (λb o y=>aK m h b (bL o x.1 13) y.enc/\sT (λf e=>∃(c:Int),aA (cT (jO y.enc) x.2=cT (jO f.enc) c) (fP h e f) (aA (sP e N) (cN c) (c<=24/\∃(d:Nat×Int),aA (O7 d p 0 25 k) (u9 p-d.1<u9 p-x.1) (aA (dA (rW e c) d.2) iS (aA (iH (bE x.1 1)=bP d.1) (oN v) (aA (m=m) (h=h) True)))))))) (K (jA x.2) m h)) (K (jA x.2) m h)
abbrev O8(a:Nat)(b:Pred)(c:Pred->Pred)(d:Nat):=a<=u9 b/\List.any (List.take a b.args) (fun(x:Pred)=>pU (c x) (d-1))=false
abbrev kY a:=a/\True
abbrev bU(a b:PH):=kY (a=b)
attribute [push_cast] O8 kY bU
def Uf(N:Nat)(v:PV)(p:Pred)(k:Nat)(m:MH)(h:PH)(K:cq):=
  fC (↑k:Int) 0 (K jF m h) (lD (∃(x:Nat),aA (O8 x p (λc=>c) k) (eQ (bP k)) (aA iS (bI v.args) (aA (bA x) (oN v) (aA (m=m) (h=h) True)))) (λx=>O8 x p (λc=>c) k->aY (↑x:Int) (aG v.args) (bK (λb o=>aA (aR v.args.a b o) (0<=(↑x:Int)) ((↑x:Int)<aG v.args/\∃(y:PV),aK m h b (bL o x 13) y.enc/\sT (λg d=>∃(e:Nat),aA (cT (jO y.enc) (iF ((↑k:Int)-1))=cT (jO g.enc) (↑e:Int)) (fP h d g) (aA (sP d N) (e<=100) (branch (pU d e) (K jF m h) (∃(f:Nat),aA (O8 f p (λc=>c) k) (u9 p-f<u9 p-x) (aA (eQ (bP k)) iS (aA (bI v.args) (iH (bE x 1)=bP f) (aA (oN v) (m=m) (bU h h))))))))))) (K bD m h)))
theorem Yr:∀N,cm 129 (axJ N)
 |0=>by
  refine fW (fn:=Tryz.f129) (c:=eD Tryz.f129) func129 rfl az ?_;rintro j m h K ⟨v,p,k,rfl,z,F,_⟩;omega
 |N+1=>by
  refine jC func129 ?_;rintro j m h K ⟨v,p,k,rfl,z,F,O,Q,A⟩;refine⟨bOX N v p k m h,rfl,aE (Yr N) aH,Ug N v p k m h K,ax,?_⟩;dsimp only[Ug,push_cast];obtain⟨R,D,e⟩:=z.open;refine⟨⟨(0,k+1),⟨ay,bf,bf,?_⟩,by rw[fL aC aC],rfl,rfl,rfl,rfl,rfl,trivial⟩,?_⟩
  .cases p;simp[rW,Pred.args]
  rintro⟨i,n⟩ ⟨G,f,s,g⟩;simp only at G f s g;refine aF (λt=>aF (λd=>?_) (λd=>BO A ?_)) (λH=>BO A ?_)
  .simp only at t d;obtain⟨q,E⟩:∃q,p.args[i]? =some q:=⟨p.args[i]'(by omega),bn _⟩
   obtain⟨b,o,u,I,J,y⟩:=e i q E
   have M:p.args.drop i=q::p.args.drop (i+1):=by
    rw[drop_eq_getElem_cons aC];grind
   have S:=Fw q n d;refine⟨b,o,I,ay,aC,u,.imm bg,u,q,n,rfl,y,?_,f,d,(i+1,rW q n),⟨aC,aC,aC,?_⟩,aC,rfl,rfl,by rw[jK aC],rfl,rfl,rfl,trivial⟩
   .have:=BK (bo E);omega
   .rw[M,nX,if_pos d]at g;exact g
  .rw[<-g,Vk _ d]
  .rw[<-g,drop_of_length_le aC];simp[nX]
theorem Yp:∀N,cm 130 (Wc N)
 |0=>by
  refine fW (fn:=Tryz.f130) (c:=eD Tryz.f130) func130 rfl az ?_;rintro f m h K ⟨v,p,k,rfl,t,D,_⟩;omega
 |N+1=>by
  refine jC func130 ?_;rintro f m h K ⟨v,p,k,rfl,t,D,J,e⟩;refine⟨bOQ N v p k m h,rfl,aE (Yp N) aH,Uf N v p k m h K,ax,?_⟩;dsimp only[Uf,push_cast];obtain⟨M,y,d⟩:=t.open;refine aD (λz=>kR e ?_) (λz=>?_)
  .have:k=0:=bg
   subst this;cases p;simp[pU]
  .have z:k≠0:=bg
   have g:pU p k=p.args.any (pU · (k-1)):=by
    obtain⟨A,rfl⟩:∃A,k=A+1:=⟨k-1,aC⟩
    cases p;simp[pU,LW,Pred.args]
   rw[g]at e;refine⟨⟨0,⟨aC,ay⟩,rfl,rfl,rfl,rfl,rfl,rfl,rfl,trivial⟩,λi E=>aF (λj=>?_) (λF=>kR e ?_)⟩
   .obtain⟨q,n⟩:∃q,p.args[i]? =some q:=⟨p.args[i]'(by omega),bn _⟩
    obtain⟨b,o,u,G,H,s⟩:=d i q n;refine⟨b,o,G,aC,j,u,.imm bg,u,q,k-1,?_,s,?_,aC,aD (λI=>kR e ?_) (λI=>?_)⟩
    .rw[fL aC aC,show((k-1:Nat):Int)=(k:Int)-1 by omega]
    .have:=BK (bo n);omega
    .grind
    .refine⟨i+1,⟨aC,?_⟩,aC,rfl,rfl,rfl,by rw[jK aC],rfl,rfl,rfl,trivial⟩;rw[cd,any_append,E.2,n];grind
   grind
def Hf(c:Int)(l r:OV):=c==0&&eqO l gL&&eqO r gL
mutual
def kT(cols params:cn):Pred->Bool
 |.mk op c l r args=>
  if op==1||op==2 then Hf c l r&&args.length==0
  else if op==3 then args.length==0&&c>=1&&c<=6&&kindOf cols params l !=0&&kindOf cols params l==kindOf cols params r
  else if op==4||op==5||(op==6&&args.length==1)then Hf c l r&&zA cols params args
  else false
def zA(cols params:cn):dh->Bool
 |[]=>true
 |p::ps=>kT cols params p&&zA cols params ps
end
theorem G9(cols params:cn):∀ps:dh,zA cols params ps=ps.all (kT cols params)
 |[]=>by simp[zA]
 |p::ps=>by simp[zA,G9 cols params ps]
structure OQ(cols params:cn)(v:PV)(p:Pred):Prop where
 eq:kT cols params p=(zF v&&p.args.all (kT cols params))
def V2(N:Nat):Vc.Spec:=λe m h K=>∃s t d c v p,e=[cS s,cS t,aP v]/\Ints h s d/\Ints h t c/\fP h p v/\SizeOf.sizeOf p<N/\K (cB (kT d c p)) m h
def RT(N:Nat):Vc.Spec:=λe m h K=>∃s t d c v p,e=[a2S s t,aP v]/\Ints h s d/\Ints h t c/\fP h p v/\SizeOf.sizeOf p<N/\K (cB (kT d c p)) m h
noncomputable def bNJ N s t cols params v p m h:=
 ctx [(131,V2 N),(179,b1Z),(180,aRZ)] [Hp 17 (λi=>bY 84 87 [(0,sv s),(1,sv t),(5,.at (.ptr 5 0)),(70,iv v.args.len),(71,iv i)] [(5,.cells 35 (v.enc.map .val))] m h) (λi=>i<=p.args.length/\(p.args.take i).all (kT cols params)=true) (λi=>p.args.length-i)] [(14,{A:=Unit,st:=λ_=>bY 84 87 [(0,sv s),(1,sv t),(5,.at (.ptr 5 0))] [(5,.cells 35 (v.enc.map .val))] m h,inv:=λ_=>OQ cols params v p})] [] false
noncomputable def bHX(N:Nat)(s t:Sl)(cols params:cn)(v:PV)(p:Pred)(m:MH)(h:PH):=
 ctx [(186,RT N),(235,Y4)] [Hp 18 (λi=>bY 87 89 [(2,.at (.ptr 2 0)),(3,.at (.ptr 3 0)),(76,sv v.args),(77,iv v.args.len),(78,iv i)] [(2,.cells 239 [.val (.slice s.a s.len s.cap),.val (.slice t.a t.len t.cap)]),(3,.cells 35 (v.enc.map .val))] m h) (λi=>i<=p.args.length/\(p.args.take i).all (kT cols params)=true) (λi=>p.args.length-i)] [(15,{A:=Unit,st:=λ_=>bY 87 89 [(2,.at (.ptr 2 0)),(3,.at (.ptr 3 0))] [(2,.cells 239 [.val (.slice s.a s.len s.cap),.val (.slice t.a t.len t.cap)]),(3,.cells 35 (v.enc.map .val))] m h,inv:=λ_=>OQ cols params v p})] [] false
abbrev gR(a:PV):=jO a.enc
abbrev wF(a:PV):=aG a.args
abbrev rY(a:Sl->cn->Prop):=∃(x:Sl)(c:cn),a x c
abbrev yQ(a:Sl->cn->cn->Prop):=rY (λx c=>∃(d:cn),a x c d)
abbrev KB(a:dk)(b:Sl->Sl->OV->dk)(c:PH)(d:cn->cn->OV->Prop):=∃(x:Sl),yQ (λe f g=>∃(j:OV),aA (a=b x e j) (Ints c x f) (Ints c e g/\d f g j))
abbrev dC a b:=nW a::b
abbrev gO a b:=tN (nW a) b
abbrev fT:=eP 5
abbrev F1 a b c d:=a<=u9 b/\iX (List.all (List.take a b.args) (kT c d))
attribute [push_cast] gR wF rY yQ KB dC gO fT F1
def Ue(N:Nat)(s t:Sl)(cols params:cn)(v:PV)(p:Pred)(m:MH)(h:PH)(K:cq):=
  dQ (v.op==1) (∃(d:PV),gX (eY (gR v) (gR d)) (zF d) (K (Aw (wF v==0)) m h) (K bD m h)) (v.op==2) (∃(d:PV),gX (eY (gR v) (gR d)) (zF d) (K (Aw (wF v==0)) m h) (K bD m h)) (dQ (v.op==3) (KB (dC s (gO t (jO v.left.enc))) (λe f o=>dC e (gO f (jO o.enc))) h (λc g o=>fC (wF v) 0 (iO v.cmp 1 (branch (decide (v.cmp<=6)) (dR (kindOf c g o) 0 (KB (dC s (gO t (jO (Ad v)))) (λe f n=>dC e (gO f (jO n.enc))) h (λA j n=>K (Aw (kindOf c g o==kindOf A j n)) m h)) (K bD m h)) (K bD m h)) (K bD m h)) (K bD m h))) (v.op==4) (∃(x:Unit),aA (OQ cols params v p) (aI s) (aA (aI t) fT (dJ (oN v) m m h h))) (dQ (v.op==5) (∃(x:Unit),aA (OQ cols params v p) (aI s)
 (aA (aI t) fT (dJ (oN v) m m h h))) (v.op==6) (dR (wF v) 1 (K bD m h) (∃(x:Unit),aA (OQ cols params v p) (aI s) (aA (aI t) fT (dJ (oN v) m m h h)))) (K bD m h)))/\∀(_:Unit),OQ cols params v p->∃(d:PV),gX (eY (gR v) (gR d)) (!(zF d)) (K bD m h) (lD (∃(x:Nat),aA (F1 x p cols params) (aI s) (aA (aI t) fT (aA (bI v.args) (bA x) (aA (oN v) (m=m) (bU h h))))) (λx=>F1 x p cols params->aY (↑x:Int) (aG v.args) (bK (λb o=>aA (aR v.args.a b o) (0<=(↑x:Int)) ((↑x:Int)<aG v.args/\∃(y:PV),aK m h b (bL o x 13) y.enc/\∃(e:Sl),yQ (λf c g=>sT (λz j=>aA (dC s (gO t (gR y))=dC e (gO f (gR z))) (Ints h e c) (aA (Ints h f g) (fP h j z) (gX
 (sP j N) (!(kT c g j)) (K bD m h) (∃(u:Nat),aA (F1 u p cols params) (u9 p-u<u9 p-x) (aA (aI s) (aI t) (aA fT (bI v.args) (aA (iH (bE x 1)=bP u) (oN v) (eM m m h h)))))))))))) (K jF m h)))
abbrev eU a b:=tN (jO a) b
abbrev kC a b:=bG a b []
abbrev j8:=eP 3
abbrev gU(a b:At)(c:dm):=a::b::c
abbrev pA a b:=gU a b []
abbrev DW a b:=eQ (oQ 239 (pA (yY a) (yY b)))
abbrev gS a b c d:=a->branch b c d
attribute [push_cast] eU kC j8 gU pA DW gS
def TI(N:Nat)(s t:Sl)(cols params:cn)(v:PV)(p:Pred)(m:MH)(h:PH)(K:cq):=
  dQ (v.op==3) (KB (eU (kC (dW s) (dW t)) (jO v.left.enc)) (λd e o=>eU (kC (dW d) (dW e)) (jO o.enc)) h (λc f o=>KB (eU (kC (dW s) (dW t)) (jO (Ad v))) (λd e j=>eU (kC (dW d) (dW e)) (jO j.enc)) h (λA g j=>fC (wF v) 0 (iO v.cmp 1 (branch (decide (v.cmp<=6)) (dR (kindOf c f o) 0 (K (Aw (kindOf c f o==kindOf A g j)) m h) (K bD m h)) (K bD m h)) (K bD m h)) (K bD m h)))) (v.op==1) (dR (wF v) 0 (K bD m h) (∃(x:Unit),aA (OQ cols params v p) iS (aA j8 (DW s t) (dJ (oN v) m m h h)))) (dQ (v.op==2) (dR (wF v) 0 (K bD m h) (∃(x:Unit),aA (OQ cols params v p) iS (aA j8 (DW s t) (dJ (oN v) m m h h)))) (v.op==6) (dR (wF v) 1 (K bD m h) (∃(x:Unit),aA (OQ cols
 params v p) iS (aA j8 (DW s t) (dJ (oN v) m m h h)))) (dQ (v.op==4) (∃(x:Unit),aA (OQ cols params v p) iS (aA j8 (DW s t) (dJ (oN v) m m h h))) (v.op==5) (∃(x:Unit),aA (OQ cols params v p) iS (aA j8 (DW s t) (dJ (oN v) m m h h))) (K bD m h)))/\∀(_:Unit),gS (OQ cols params v p) (v.cmp !=0) (K bD m h) (∃(r:Bool),gX (Gd v.left.enc r) (!r) (K bD m h) (∃(u:Bool),gX (Gd (Ad v) u) (!u) (K bD m h) (lD (∃(x:Nat),aA (F1 x p cols params) iS (aA (eP 3) (aI v.args) (aA (bI v.args) (bA x) (aA (DW s t) (oN v) (eM m m h h))))) (λx=>F1 x p cols params->aY (↑x:Int) (aG v.args) (bK (λb o=>aA (aR v.args.a b o) (0<=(↑x:Int)) ((↑x:Int)<aG v.args/\∃(y:PV),aK m h b
 (bL o x 13) y.enc/\∃(d:Sl),yQ (λe c f=>sT (λz g=>aA (eU (kC (dW s) (dW t)) (gR y)=eU (kC (dW d) (dW e)) (gR z)) (Ints h d c) (aA (Ints h e f) (fP h g z) (gX (sP g N) (!(kT c f g)) (K bD m h) (∃(n:Nat),aA (F1 n p cols params) (u9 p-n<u9 p-x) (aA iS j8 (aA (aI v.args) (bI v.args) (aA (iH (bE x 1)=bP n) (DW s t) (dJ (oN v) m m h h)))))))))))) (K jF m h)))))
theorem fP.top{v}(r:fP h p v):p= .mk v.op v.cmp v.left v.right p.args:=by
 cases p with
 |mk op c l j args=>obtain⟨d,e,f,g,_⟩:=r;simp[Pred.args,d,e,f,g]
theorem NT{cols params h p v}(r:fP h p v):kT cols params p=if v.op==1||v.op==2 then zF v&&p.args.length==0
 else if v.op==3 then p.args.length==0&&v.cmp>=1&&v.cmp<=6&&kindOf cols params v.left !=0&&kindOf cols params v.left==kindOf cols params v.right
 else if v.op==4||v.op==5||(v.op==6&&p.args.length==1)then zF v&&p.args.all (kT cols params)
 else false:=by
 have:=r.top;generalize p.args=xs at this⊢
 subst this;rw[kT,G9];rfl
theorem c0X{n k:Nat}:((n:Int)==(k:Int))=(n==k):=by
 grind
theorem Yo:∀N,cm 131 (V2 N)
 |0=>by
  refine fW (fn:=Tryz.f131) (c:=eD Tryz.f131) func131 rfl az ?_;rintro n m h K ⟨s,t,cols,params,v,p,rfl,_,_,y,Q,_⟩;omega
 |N+1=>by
  refine jC func131 ?_;rintro n m h K ⟨s,t,cols,params,v,p,rfl,z,A,y,Q,d⟩;refine⟨bNJ N s t cols params v p m h,rfl,aE (Yo N) (aE agX (aE agQ aH)),Ue N s t cols params v p m h K,ax,?_⟩;obtain⟨Y,O,f⟩:=y.open;have Z:=NT (cols:=cols) (params:=params) y;have R:((v.args.len:Int)==0)=(p.args.length==0):=bg
  have h1:((v.args.len:Int) !=1)=(p.args.length !=1):=bg
  dsimp only[Ue,push_cast];refine⟨?_,?_⟩
  .refine aD (λe=>⟨v,rfl,aD (λg=>kR d ?_) (λg=>kR d ?_)⟩) (λe=>aD (λS=>⟨v,rfl,aD (λg=>kR d ?_) (λg=>kR d ?_)⟩) (λS=>aD (λg=>⟨s,t,cols,params,v.left,rfl,z,A,?_⟩) (λg=>?_)))
   .grind
   .grind
   .grind
   .grind
   .have D:kT cols params p=(p.args.length==0&&v.cmp>=1&&v.cmp<=6&&kindOf cols params v.left !=0&&kindOf cols params v.left==kindOf cols params v.right):=bg
    rw[D]at d;refine aD (λj=>aD (λE=>aD (λF=>aD (λG=>⟨s,t,cols,params,v.right,rfl,z,A,kR d ?_⟩) (λG=>kR d ?_)) (λF=>kR d ?_)) (λE=>kR d ?_)) (λj=>kR d ?_)
    all_goals (rw[R]at j;simp only[beq_iff_eq,ce,decide_eq_false_iff_not]at*;simp[*])
   .refine aD (λj=>⟨(),⟨bg⟩,rfl,rfl,rfl,rfl,rfl,rfl,trivial⟩) (λj=>aD (λE=>⟨(),⟨bg⟩,rfl,rfl,rfl,rfl,rfl,rfl,trivial⟩) (λE=>aD (λF=>aD (λG=>kR d ?_) (λG=>⟨(),⟨?_⟩,rfl,rfl,rfl,rfl,rfl,rfl,trivial⟩)) (λF=>kR d ?_)))
    .grind
    .grind
    grind
  .intro _ H;rw[H.eq]at d;refine⟨v,rfl,aD (λe=>kR d ?_) (λe=>?_)⟩
   .simp_all
   .have e:zF v=true:=bk e
    rw[e,Bool.true_and]at d;refine⟨⟨0,⟨aC,ay⟩,rfl,rfl,rfl,rfl,rfl,rfl,rfl,rfl,trivial⟩,λi T=>aF (λI=>?_) (λU=>kR d ?_)⟩
    .obtain⟨q,J⟩:∃q,p.args[i]? =some q:=⟨p.args[i]'(by omega),bn _⟩
     obtain⟨b,o,u,V,W,M⟩:=f i q J;refine⟨b,o,V,aC,I,u,.imm bg,s,t,cols,params,u,q,rfl,z,A,M,?_,aD (λX=>kR d ?_) (λX=>?_)⟩
     .have:=BK (bo J);omega
     .grind
     .refine⟨i+1,⟨aC,?_⟩,aC,rfl,rfl,rfl,rfl,by rw[jK aC],rfl,rfl,rfl,trivial⟩;rw[BW J,T.2];grind
    grind
theorem Yg:∀N,cm 186 (RT N)
 |0=>by
  refine fW (fn:=Tryz.f186) (c:=eD Tryz.f186) func186 rfl az ?_;rintro j m h K ⟨s,t,cols,params,v,p,rfl,_,_,n,S,_⟩;omega
 |N+1=>by
  refine jC func186 ?_;rintro j m h K ⟨s,t,cols,params,v,p,rfl,y,z,n,S,d⟩;refine⟨bHX N s t cols params v p m h,rfl,aE (Yg N) (aE ZX aH),TI N s t cols params v p m h K,ax,?_⟩;obtain⟨hl,Q,g⟩:=n.open;have hv:=NT (cols:=cols) (params:=params) n;have T:((v.args.len:Int)==0)=(p.args.length==0):=bg
  have U:((v.args.len:Int) !=0)=(p.args.length !=0):=bg
  have h1:((v.args.len:Int) !=1)=(p.args.length !=1):=bg
  have R:p.args.length=0->p.args.all (kT cols params)=true:=λe=>bg
  dsimp only[TI,push_cast];refine⟨?_,?_⟩
  .refine aD (λA=>⟨s,t,cols,params,v.left,rfl,y,z,s,t,cols,params,v.right,rfl,y,z,?_⟩) (λA=>aD (λe=>aD (λf=>kR d ?_) (λf=>⟨(),⟨?_⟩,rfl,rfl,rfl,rfl,rfl,rfl,trivial⟩)) (λe=>aD (λD=>aD (λf=>kR d ?_) (λf=>⟨(),⟨?_⟩,rfl,rfl,rfl,rfl,rfl,rfl,trivial⟩)) (λD=>aD (λE=>aD (λF=>kR d ?_) (λF=>⟨(),⟨?_⟩,rfl,rfl,rfl,rfl,rfl,rfl,trivial⟩)) (λE=>aD (λf=>⟨(),⟨?_⟩,rfl,rfl,rfl,rfl,rfl,rfl,trivial⟩) (λf=>aD (λG=>⟨(),⟨?_⟩,rfl,rfl,rfl,rfl,rfl,rfl,trivial⟩) (λG=>kR d ?_))))))
   .have V:v.op=3:=bg
    have H:kT cols params p=(p.args.length==0&&v.cmp>=1&&v.cmp<=6&&kindOf cols params v.left !=0&&kindOf cols params v.left==kindOf cols params v.right):=bg
    rw[H]at d;refine aD (λf=>aD (λG=>aD (λE=>aD (λF=>kR d ?_) (λF=>kR d ?_)) (λE=>kR d ?_)) (λG=>kR d ?_)) (λf=>kR d ?_)
    all_goals (rw[T]at f;simp only[beq_iff_eq,ce,decide_eq_false_iff_not]at*;simp[*])
   .grind
   .grind
   .grind
   .grind
   .grind
   .grind
   .grind
   .grind
   grind
  .intro _ I;rw[I.eq]at d;refine aD (λe=>kR d ?_) (λe=>⟨eqO v.left gL,BI v.left gL,aD (λD=>kR d ?_) (λD=>⟨eqO v.right gL,BI v.right gL,aD (λA=>kR d ?_) (λA=>?_)⟩)⟩)
   .simp_all [zF]
   .simp_all [zF]
   .simp_all [zF]
   .have e:zF v=true:=by simp_all [zF]
    rw[e,Bool.true_and]at d;refine⟨⟨0,⟨aC,ay⟩,rfl,rfl,rfl,rfl,rfl,rfl,rfl,rfl,rfl,trivial⟩,λi W=>aF (λJ=>?_) (λX=>kR d ?_)⟩
    .obtain⟨q,M⟩:∃q,p.args[i]? =some q:=⟨p.args[i]'(by omega),bn _⟩
     obtain⟨b,o,u,Y,Z,O⟩:=g i q M;refine⟨b,o,Y,aC,J,u,.imm bg,s,t,cols,params,u,q,rfl,y,z,O,?_,aD (λhd=>kR d ?_) (λhd=>?_)⟩
     .have:=BK (bo M);omega
     .grind
     .refine⟨i+1,⟨aC,?_⟩,aC,rfl,rfl,rfl,rfl,by rw[jK aC],rfl,rfl,rfl,rfl,trivial⟩;rw[BW M,W.2];grind
    grind
theorem drop_cons{α}{l:List α}{x}(h:l[i]? =some x):l.drop i=x::l.drop (i+1):=by
 have c:i<l.length:=(bm h);rw[drop_eq_getElem_cons c]
 grind
mutual
def p7:Pred->Nat->Int->Bool×Int
 |.mk _ _ _ _ args,k,b=>if b<1 then(false,b-1)else match k with|0=>(false,b-1)|k+1=>zC args k (b-1)
def zC:dh->Nat->Int->Bool×Int
 |[],_,b=>(true,b)
 |p::ps,k,b=>match p7 p k b with|(false,c)=>(false,c)|(true,c)=>zC ps k c
end
mutual
def SD:Pred->Int
 |.mk _ _ _ _ args=>1+DB args
def DB:dh->Int
 |[]=>0
 |p::ps=>SD p+DB ps
end
mutual
theorem U3:∀p:Pred,1<=SD p
 |.mk _ _ _ _ args=>by have:=Ha args;simp only[SD];omega
theorem Ha:∀ps:dh,0<=DB ps
 |[]=>by simp[DB]
 |p::ps=>by have:=U3 p;have:=Ha ps;simp only[DB];omega
end
mutual
theorem H0:∀(p:Pred)(n:Int),n<=24->(n+SD p<=24->rW p n=n+SD p)/\(24<n+SD p->rW p n=25)
 |.mk _ _ _ _ args,n,h=>by
  obtain⟨c,d⟩:=Qw args (n+1) aC;simp only[rW,SD];omega
theorem Qw:∀(ps:dh)(n:Int),n<=25->(n+DB ps<=24->nX ps n=n+DB ps)/\(24<n+DB ps->nX ps n=25)
 |[],n,h=>by
  simp only[nX,DB];omega
 |p::ps,n,h=>by
  have e:=U3 p;have f:=Ha ps;simp only[nX,DB];by_cases c:n<=24
  .rw[if_pos c];have g:=H0 p n c;have d:=(Fw p n c).2;have j:=Qw ps _ d;omega
  omega
end
mutual
theorem Mm:∀(p:Pred)(k:Nat)(b:Int),0<=b->((p7 p k b).1=true↔SD p<=b/\pU p k=false)/\((p7 p k b).1=true->(p7 p k b).2=b-SD p)
 |.mk _ _ _ _ args,k,b,h=>by
  have d:=Ha args;simp only[p7,SD];by_cases c:b<1
  .grind
  .rw[if_neg c];cases k with
   |zero=>exact⟨⟨λe=>(by cases e),λe=>(by simp[pU]at e)⟩,λe=>(by cases e)⟩
   |succ k=>
    obtain⟨f,g⟩:=P7 args k (b-1) aC;simp only[pU]
    grind
theorem P7:∀(ps:dh)(k:Nat)(b:Int),0<=b->((zC ps k b).1=true↔DB ps<=b/\xK ps k=false)/\((zC ps k b).1=true->(zC ps k b).2=b-DB ps)
 |[],k,b,h=>by simp[zC,DB,xK,h]
 |p::ps,k,b,h=>by
  obtain⟨c,d⟩:=Mm p k b h;have j:=Ha ps;simp only[zC,DB,xK];cases e:p7 p k b with
  |mk r f=>
   rw[e]at c d;cases r with
   |false=>
    grind
   |true=>
    have g:=d rfl;have c:=c.1 rfl;simp only at g;obtain⟨n,s⟩:=P7 ps k f aC
    grind
end
def iP(cols params:cn)(p:Pred):Int:=
 if !cols.all iA|| !params.all iA then 1
 else if rW p 0>24||pU p 8 then 2
 else if !kT cols params p then 50 else 0
theorem aVJ p:(p7 p 8 24).1= !(decide (rW p 0>24)||pU p 8):=by
 have c:=(Mm p 8 24 aC).1;have d:=H0 p 0 aC
 grind
def YH(n:Int):Obj:=.cells #[.int .i64 n] 3 (0,0)
def awZ(N:Nat):Vc.Spec:=λc m h K=>∃v p,∃k b:Nat,∃n,c=[aP v,cI (9-k),cP b]/\fP h p v/\SizeOf.sizeOf p<N/\k<=9/\0<=n/\n<=24/\m b=some (YH n)/\∀m',lI m m' b (YH (p7 p k n).2)->K (cB (p7 p k n).1) m' h
noncomputable def bHZ(N:Nat)(v:PV)(p:Pred)(k b:Nat)(n:Int)(m:MH)(h:PH):=
 ctx [(185,awZ N)] [(5,{A:=Nat×Int×MH,st:=λx=>bY 36 39 [(1,iv (9-k)),(2,vv (.pointer (some ⟨b,0,none⟩))),(23,sv v.args),(24,iv v.args.len),(25,iv x.1)] [] x.2.2 h,inv:=λx=>x.1<=p.args.length/\0<=x.2.1/\x.2.1<=24/\lI m x.2.2 b (YH x.2.1)/\1<=k/\zC (p.args.drop x.1) (k-1) x.2.1=p7 p k n,mu:=λx=>p.args.length-x.1})] [] [] false
def vJ:Vc.Spec:=λe m h K=>∃s t v d c p,e=[cS s,cS t,aP v]/\Ints h s d/\Ints h t c/\fP h p v/\K (cI (iP d c p)) m h
noncomputable def clZ N:=ctx [(62,R7),(129,axJ N),(130,Wc N),(131,V2 N)] [] [] [] false
noncomputable def bMZ N:=ctx [(184,R7),(185,awZ N),(186,RT N)] [] [] [] false
abbrev zO(a:MH)(b:PH)(c d:Nat)(e:Int->Prop):=∃(x:Int),aK a b c d (bC x)/\e x
abbrev gT(a:(Array Value)->TypeId->Prop):=∃(x:Array Value)(c:TypeId),a x c
abbrev fA a b c:=Obj.cells a b (c,c)
abbrev bJ a b c d e:=lI a b c (fA (Array.mk d) e 0)
abbrev GS(a:Value)(b:Nat)(c:cr):=a::List.drop b c
abbrev iC(a:Value)(b:Nat)(c:Array Value):=GS a b c.toList
abbrev gA(a b:Int)(c d:Prop):=branch (decide (a>b)) c d
abbrev O9(a:Nat×Int×MH)(b:Pred)(c:Nat)(d:Int):=zC (List.drop a.1 b.args) (c-1) a.2.1=p7 b c d
abbrev fI a:=eQ (iH a)
abbrev cX a:=eQ (WG a 0)
abbrev cE a b:=jO a::b
abbrev gJ a b:=tN (jA a) b
attribute [push_cast] zO gT fA bJ GS iC gA O9 fI cX cE gJ
def TJ(N:Nat)(v:PV)(p:Pred)(k b:Nat)(n:Int)(m:MH)(h:PH)(K:cq):=
  zO m h b 0 (λy=>gT (λc E=>aA (sL m b (fA c E 0)) (0<c.size) (∀(e:MH),bJ m e b (iC (gZ (iF (y-1))) 1 c) E->zO e h b 0 (λD=>aY D 0 (K bD e h) (gA (9-(↑k:Int)) 8 (K bD e h) ((∃(x:Nat×Int×MH),aA (aA (x.1<=u9 p) (cN x.2.1) (aA (x.2.1<=24) (bJ m x.2.2 b (bC x.2.1) 3) (1<=k/\O9 x p k n))) (fI (9-(↑k:Int))) (aA (cX b) (aI v.args) (aA (bI v.args) (bA x.1) (aA (e=x.2.2) (h=h) True))))/\∀(x:Nat×Int×MH),aA (x.1<=u9 p) (cN x.2.1) (aA (x.2.1<=24) (bJ m x.2.2 b (bC x.2.1) 3) (1<=k/\O9 x p k n))->aY (↑x.1:Int) (aG v.args) (bK (λu o=>aA (aR v.args.a u o) (0<=(↑x.1:Int)) ((↑x.1:Int)<aG v.args/\∃(z:PV),aK x.2.2 h u (bL o x.1 13) z.enc/\sT (λA g=>
 bK (λj s=>∃(f:Int),aA (cE z.enc (gJ (iF (9-(↑k:Int)+1)) (OP b 0))=cE A.enc (gJ (9-(↑j:Int)) (OP s 0))) (fP h g A) (aA (sP g N) (j<=9) (aA (cN f) (f<=24) (x.2.2 s=Option.some (fA (Array.mk (bC f)) 3 0)/\∀(t:MH),gS (bJ x.2.2 t s (bC (p7 g j f).2) 3) (!(p7 g j f).1) (K bD t h) (∃(d:Nat×Int×MH),aA (aA (d.1<=u9 p) (cN d.2.1) (aA (d.2.1<=24) (bJ m d.2.2 b (bC d.2.1) 3) (1<=k/\O9 d p k n))) (u9 p-d.1<u9 p-x.1) (aA (fI (9-(↑k:Int))) (cX b) (aA (aI v.args) (bI v.args) (aA (iH (bE x.1 1)=bP d.1) (t=d.2.2) (bU h h))))))))))))) (K jF x.2.2 h)))))))
abbrev xQ(a:Sl)(b:PH)(c:cn->Prop):=rY (λx d=>aA (eY (nW a) (nW x)) (Ints b x d) (c d))
abbrev pI a b c:=branch (!a) b c
attribute [push_cast] xQ pI
def XI(N:Nat)(s t:Sl)(v:PV)(m:MH)(h:PH)(K:cq):=
  xQ s h (λl=>pI (Ev l) (K (jA 1) m h) (xQ t h (λA=>pI (Ev A) (K (jA 1) m h) (sT (λg p=>∃(k:Int),aA (cT (jO v.enc) 0=cT (jO g.enc) k) (fP h p g) (aA (sP p N) (cN k) (k<=24/\gA (rW p k) 24 (K (jA 2) m h) (sT (λj d=>∃(e:Nat),aA (cT (jO v.enc) 8=cT (jO j.enc) (↑e:Int)) (fP h d j) (aA (sP d N) (e<=100) (branch (pU d e) (K (jA 2) m h) (∃(n:Sl),yQ (λu c y=>sT (λz f=>aA (dC s (gO t (gR v))=dC n (gO u (gR z))) (Ints h n c) (aA (Ints h u y) (fP h f z) (gX (sP f N) (!(kT c y f)) (K (jA 50) m h) (K (jA 0) m h)))))))))))))))))
abbrev bH a b c:=a->b->c
attribute [push_cast] bH
def Uc(N:Nat)(s t:Sl)(v:PV)(m:MH)(h:PH)(K:cq):=
  xQ s h (λl=>pI (Ev l) (K (jA 1) m h) (xQ t h (λD=>pI (Ev D) (K (jA 1) m h) (∀(b:Nat)(e:MH),bH (cW m h b) (bJ m e b (bC 24) 3) (sT (λj p=>bK (λk f=>∃(n:Int),aA (cE v.enc (gJ 1 (OP b 0))=cE j.enc (gJ (9-(↑k:Int)) (OP f 0))) (fP h p j) (aA (sP p N) (k<=9) (aA (cN n) (n<=24) (e f=Option.some (fA (Array.mk (bC n)) 3 0)/\∀(d:MH),gS (bJ e d f (bC (p7 p k n).2) 3) (!(p7 p k n).1) (K (jA 2) d h) (∃(u:Sl),yQ (λy c z=>sT (λA g=>aA (eU (kC (dW s) (dW t)) (gR v)=eU (kC (dW u) (dW y)) (gR A)) (Ints h u c) (aA (Ints h y z) (fP h g A) (gX (sP g N) (!(kT c z g)) (K (jA 50) d h) (K (jA 0) d h))))))))))))))))
end Go.Ps
namespace Go.Vc
open Go.Ps Go.Proofs List
theorem lI.trans{m m' c b o o'}(g:lI m m' b o)(d:lI m' c b o'):lI m c b o':=⟨d.at_,λe f=>(d.other e f).trans (g.other e f)⟩
end Go.Vc
namespace Go.Ps
open Go Go.Vc Go.Proofs List Tryz
variable{K:cq}{m:MH}{h:PH}{ps:cn}{cb:Nat}{sc:bT}{v:QV}{p:Pred}{l:cn}{i:Nat}{N:Nat}{m':MH}{h':PH}{co:cn}{gr:cn}{od:cv}{ta:Int}{li:Int}{xs:List cr}{sz:Nat}{ks:List cn}{rs:cn}{r:Sl}{a:cn}{b:Nat}
theorem Yh:∀N,cm 185 (awZ N)
 |0=>by
  refine fW (fn:=Tryz.f185) (c:=eD Tryz.f185) func185 rfl az ?_;rintro E m h K ⟨v,p,k,b,n,rfl,Q,V,_⟩;omega
 |N+1=>by
  refine jC func185 ?_;rintro E m h K ⟨v,p,k,b,n,rfl,Q,V,hk,h0,h1,R,j⟩;refine⟨bHZ N v p k b n m h,rfl,aE (Yh N) aH,TJ N v p k b n m h K,ax,?_⟩;dsimp only[TJ,push_cast];obtain⟨hl,S,y⟩:=Q.open;have W:IntKind.i64.wrap (n-1)=n-1:=fL aC aC;refine⟨n,.of_m R rfl,_,_,⟨R⟩,ay,λm' T=>?_⟩;rw[W]at T;have f:lI m m' b (YH (n-1)):=T;refine⟨n-1,.of_m f.at_ rfl,aF (λX=>?_) (λX=>aF (λY=>?_) (λY=>?_))⟩
  .have e:p7 p k n=(false,n-1):=by cases p;simp only[p7];grind
   rw[e]at j;exact j m' f
  .have F:k=0:=by omega
   subst F;have e:p7 p 0 n=(false,n-1):=by cases p;simp only[p7];grind
   rw[e]at j;exact j m' f
  .refine⟨⟨(0,n-1,m'),⟨ay,bg,bg,f,aC,?_⟩,MT⟩,?_⟩
   .obtain⟨U,rfl⟩:∃U,k=U+1:=⟨k-1,aC⟩
    cases p;simp only[p7,drop_zero,Pred.args]
    grind
   .rintro⟨i,x,Z⟩ ⟨hi,s,z,g,G,d⟩;simp only at hi s z g d;refine aF (λa'=>?_) (λa0=>?_)
    .obtain⟨q,H⟩:∃q,p.args[i]? =some q:=⟨p.args[i]'(by omega),bn _⟩
     obtain⟨b1,o,u,ea,a1,I⟩:=y i q H;have hd:p.args.drop i=q::p.args.drop (i+1):=drop_cons H;refine⟨b1,o,ea,ay,aC,u,.imm bg,u,q,k-1,b,x,?_,I,?_,aC,s,z,g.at_,λJ M=>?_⟩
     .rw[fL aC aC,show(9-((k-1:Nat):Int))=9-(k:Int)+1 by omega]
     .have:=BK (bo H);omega
     .have t:lI m J b (YH (p7 q (k-1) x).2):=g.trans M;rw[hd,zC]at d;obtain⟨A,D⟩:=Mm q (k-1) x s;cases e:p7 q (k-1) x with
      |mk r x'=>
       rw[e]at d t A D;cases r with
       |false=>
        simp only at d;rw[<-d]at j;exact j J t
       |true=>
        have a2:=A.1 rfl;have O:=D rfl;have a3:=U3 q;simp only at O d;exact⟨(i+1,x',J),⟨aC,bg,bg,t,G,d⟩,aC,MT⟩
    .rw[drop_of_length_le aC]at d;simp only[zC]at d;rw[<-d]at j;exact j Z g
theorem MV:cm 66 vJ:=by
 refine jC func66 ?_;rintro n m h K ⟨s,t,v,d,c,p,rfl,g,j,f,e⟩;refine⟨clZ (SizeOf.sizeOf p+1),rfl,aE Tj (aE (Yr _) (aE (Yp _) (aE (Yo _) aH))),XI (SizeOf.sizeOf p+1) s t v m h K,ax,?_⟩;dsimp only[XI,push_cast];refine⟨s,d,rfl,g,aD (λu=>BO e ?_) (λu=>⟨t,c,rfl,j,aD (λy=>BO e ?_) (λy=>⟨v,p,0,rfl,f,aC,aC,aC,aD (λz=>BO e ?_) (λz=>⟨v,p,8,rfl,f,aC,aC,aD (λA=>BO e ?_) (λA=>⟨s,t,d,c,v,p,rfl,g,j,f,aC,aD (λD=>BO e ?_) (λD=>BO e ?_)⟩)⟩)⟩)⟩)⟩
 all_goals (simp only[iP];simp only[*,Bool.or_false,Bool.false_or,Bool.or_true,Bool.true_or,Bool.and_true,Bool.true_and,Bool.and_false,Bool.false_and,Bool.not_true,Bool.not_false,Bool.false_eq_true,if_true,if_false, ↓reduceIte])
theorem EY{f fn}(s:Tryz.prog.funcs[f]? =some fn){S}(j:∀c m h K,S c m h K->∃C:Ctx,C.P=Tryz.prog/\(∀g S,assoc C.specs g=some S->cm g S)/\∃N:Prop,N=xH C fn (eD fn) (entry fn.ntmps c m h) (λr m' h'=>∃m2 n,(∀b o,m2 b=some o->m' b=some o)/\PH.le h n/\PH.le n h'/\K r m2 n)/\N)(t:fn.body=some (eD fn):=by rfl)(d:(fn.name== "runtime.NumGoroutine")=false:=by decide):cm f S:=Tb s t d λc m h K u=>let⟨C,hC,hs,N,e,hn⟩:=j c m h K u;⟨C,hC,hs,e▸hn⟩
theorem JV:cm 138 vJ:=by
 refine EY func138 ?_;rintro I m h K ⟨s,t,v,d,c,p,rfl,E,F,G,J⟩;refine⟨bMZ (SizeOf.sizeOf p+1),rfl,aE afZ (aE (Yh _) (aE (Yg _) aH)),Uc (SizeOf.sizeOf p+1) s t v m h (λr m' h'=>∃j n,(∀b o,j b=some o->m' b=some o)/\PH.le h n/\PH.le n h'/\K r j n),ax,?_⟩;dsimp only[Uc,push_cast];have f:∀(m':MH),(∀b o,m b=some o->m' b=some o)->∀x,iP d c p=x->∃j n,(∀b o,j b=some o->m' b=some o)/\PH.le h n/\PH.le n h/\K (.val (.int .i64 x)) j n:=λm' M x e=>⟨m,h,M,.refl _,.refl _,e▸J⟩
 refine⟨s,d,rfl,E,aD (λO=>f m (λ_ _ e=>e) _ ?_) (λO=>⟨t,c,rfl,F,aD (λQ=>f m (λ_ _ e=>e) _ ?_) (λQ b U R u=>⟨v,p,8,b,24,rfl,G,aC,aC,aC,aC,u.at_,λj A=>?_⟩)⟩)⟩
 .simp only[iP];grind
 .simp only[iP];grind
 .have g:∀b o,m b=some o->j b=some o:=λD o e=>by
   have y:D≠b:=λS=>by rw[S,R.m_]at e;cases e
   rw[A.other D y,u.other D y,e]
  have z:=aVJ p;refine aD (λH=>f j g _ ?_) (λH=>⟨s,t,d,c,v,p,rfl,E,F,G,aC,aD (λT=>f j g _ ?_) (λT=>f j g _ ?_)⟩)
  all_goals (rw[z,Bool.not_not]at H;clear z;simp only[iP];simp only[*,Bool.or_false,Bool.false_or,Bool.or_true,Bool.true_or,Bool.and_true,Bool.true_and,Bool.and_false,Bool.false_and,Bool.not_true,Bool.not_false,Bool.false_eq_true,if_true,if_false, ↓reduceIte])
structure bM{α β:Type}(h:PH)(sz:Nat)(enc:β->cr)(R:α->β->Prop)(s:Sl)(l:List α):Prop where
 ex:∃vs:List β,dH h s sz (vs.map enc)/\l.length=vs.length/\∀(i:Nat)(x:α),l[i]? =some x->∃v,vs[i]? =some v/\R x v
 len:l.length<=502633886983
theorem bM.slen{α β enc}{R:α->β->Prop}{s l}(r:bM h sz enc R s l):s.len=l.length:=by
 obtain⟨d,c,e,_⟩:=r.ex;have:=c.len
 grind
theorem bM.at{α β enc}{R:α->β->Prop}{s l}(r:bM h sz enc R s l){x}(c:l[i]? =some x):
 ∃b o v,s.a=some ⟨b,o,none⟩/\cO h b (o+i*sz) (enc v)/\R x v:=by
 obtain⟨j,d,_,f⟩:=r.ex;obtain⟨v,g,n⟩:=f i x c;obtain⟨b,o,e,k⟩:=d.get (i:=i) (e:=enc v) (by simp[g])
 grind
theorem bM.mono{α β enc}{R:α->β->Prop}{R' s l}(r:bM h sz enc R s l)(le:PH.le h h')(d:∀x v,R x v->R' x v):bM h' sz enc R' s l:=by
 obtain⟨e,f,g,j⟩:=r.ex;exact⟨⟨e,f.mono le,g,λi x n=>(j i x n).imp λv c=>⟨c.1,d _ _ c.2⟩⟩,r.len⟩
theorem bM.nil{α β} h sz(enc:β->cr) R:bM h sz enc R ⟨none,0,0⟩ ([]:List α):=
 ⟨⟨[],.nil h sz,rfl,λi x c=>by simp at c⟩,ay⟩
theorem fK{α}{l:List α}{i:Nat}{n}(c:n=l.length)(d:(i:Int)<(n:Int)):∃x,l[i]? =some x:=⟨l[i]'(by omega),bn _⟩
def HN h s ps:=bM h 13 PV.enc (fP h) s ps
theorem HN.mono{s ps}(r:HN h s ps)(le:PH.le h h'):HN h' s ps:=bM.mono r le λ_ _=>fP.mono le
theorem AF.toL{s ps vs}(d:dH h s 13 (vs.map PV.enc))(c:AF h ps vs)(e:ps.length<=502633886983):HN h s ps:=
 ⟨⟨vs,d,c.length.symm,λ_ _ f=>c.get f⟩,e⟩
theorem AF.ofL{h:PH}:∀{ps:dh}{vs:eb},ps.length=vs.length->(∀(i:Nat)(x:Pred),ps[i]? =some x->∃v,vs[i]? =some v/\fP h x v)->AF h ps vs
 |[],[],_,_=>rfl
 |p::ps,v::vs,c,d=>by
  obtain⟨j,f,g⟩:=d 0 p rfl;simp at f;subst f;exact⟨v,vs,rfl,g,AF.ofL bg λi x e=>bk (d (i+1) x (by simpa using e))⟩
 |[],_::_,c,_=>by simp at c
 |_::_,[],c,_=>by simp at c
theorem fP.parts{op c l r args v}(x:fP h (.mk op c l r args) v):v.op=op/\v.cmp=c/\v.left=l/\v.right=r/\HN h v.args args:=by
 obtain⟨d,e,f,g,j,t,n,s⟩:=x;exact⟨d,e,f,g,s.toL n j⟩
theorem fP.mk{h args v}(c:HN h v.args args):fP h (.mk v.op v.cmp v.left v.right args) v:=by
 obtain⟨d,e,f,g⟩:=c.ex;exact⟨rfl,rfl,rfl,rfl,c.len,d,e,.ofL f g⟩
def czJ(N:Nat):Vc.Spec:=λc m h K=>∃v w p q,c=[aP v,aP w]/\fP h p v/\fP h q w/\SizeOf.sizeOf p<N/\∀r:Bool,(r=true↔p=q)->K (cB r) m h
def cGJ(N:Nat):Vc.Spec:=λc m h K=>∃s t ps d,c=[cS s,cS t,.val (.func (.func 266) #[] #[])]/\HN h s ps/\HN h t d/\(∀p∈ps,SizeOf.sizeOf p<N)/\∀r:Bool,(r=true↔ps=d)->K (cB r) m h
noncomputable def bDX N:=ctx [(274,cGJ N)] [] [] [] false
noncomputable def bCJ(N:Nat)(s t:Sl)(ps c:dh)(m:MH)(h:PH):=
 ctx [(266,czJ N)] [Hp 4 (λi=>bY 32 35 [(1,sv t),(2,vv (.func (.func 266) #[] #[])),(15,sv s),(16,iv s.len),(17,iv i)] [] m h) (λi=>i<=ps.length/\∀j:Nat,j<i->ps[j]? =c[j]?) (λi=>ps.length-i)] [] [] false
noncomputable def bFX(N:Nat)(v w:PV)(ps c:dh)(m:MH)(h:PH):=
 ctx [(224,czJ N)] [Hp 4 (λi=>bY 60 62 [(2,.at (.ptr 2 0)),(3,.at (.ptr 3 0)),(43,iv v.args.len),(44,iv i)] [(2,.cells 35 (v.enc.map .val)),(3,.cells 35 (w.enc.map .val))] m h) (λi=>i<=ps.length/\∀j:Nat,j<i->ps[j]? =c[j]?) (λi=>ps.length-i)] [] [] false
abbrev rC(a:Sl->Sl->Prop):=∃(x c:Sl),a x c
abbrev sJ:Array Value:=Array.mk []
abbrev mV a b:=CV.val (Value.func (Fn.func a) sJ b)
attribute [push_cast] rC sJ mV
def MZ(N:Nat)(v w:PV)(m:MH)(h:PH)(K:cq):=
  fC v.op w.op (fC v.cmp w.cmp (∃(r:Bool),gX (Af 32 v.left.enc w.left.enc r) r (∃(c:Bool),gX (Af 32 (Ad v) (Ad w) c) c (rC (λs t=>∃(p q:dh),aA (dC v.args (gO w.args (mV 266 sJ))=dC s (gO t (mV 266 sJ))) (HN h s p) (aA (HN h t q) (∀(d:Pred),List.Mem d p->sP d N) (∀(e:Bool),(iX e↔p=q)->K (Aw e) m h)))) (K bD m h)) (K bD m h)) (K bD m h)) (K bD m h)
abbrev FQ(a:Nat)(b c:dh):=lD (a<=b.length) (λx=>x<a->b[x]? =c[x]?)
abbrev CM a b:=eQ (SV.at (At.val (Value.func a sJ b)))
abbrev Bj a:=CM (Fn.func a) sJ
abbrev K5(a:PV->PV->Pred->Pred->Prop):=∃(x:PV),sT (λc d=>∃(e:Pred),a x c d e)
attribute [push_cast] FQ CM Bj K5
def Tq(N:Nat)(s t:Sl)(ps c:dh)(m:MH)(h:PH)(K:cq):=
  dR (aG s) (aG t) (K bD m h) (lD (∃(x:Nat),aA (FQ x ps c) (aI t) (aA (Bj 266) (aI s) (aA (bI s) (bA x) (aA (m=m) (h=h) True)))) (λx=>FQ x ps c->aY (↑x:Int) (aG s) (bK (λb o=>aA (aR s.a b o) (0<=(↑x:Int)) ((↑x:Int)<aG s/\∃(y:PV),aK m h b (bL o x 13) y.enc/\PA t.a x t (λf g e=>aK m h f (bL g x 13) e.enc/\K5 (λv w p q=>aA (eU y.enc (gR e)=eU v.enc (gR w)) (fP h p v) (aA (fP h q w) (sP p N) (∀(r:Bool),gS (iX r↔p=q) (!r) (K bD m h) (∃(d:Nat),aA (FQ d ps c) (ps.length-d<ps.length-x) (aA (aI t) (Bj 266) (aA (aI s) (bI s) (aA (iH (bE x 1)=bP d) (m=m) (bU h h)))))))))))) (K jF m h)))
def M5(N:Nat)(v w:PV)(ps c:dh)(m:MH)(h:PH)(K:cq):=
  dQ (v.op !=w.op) (K bD m h) (v.cmp !=w.cmp) (K bD m h) (∃(r:Bool),gX (Af 32 v.left.enc w.left.enc r) (!r) (K bD m h) (∃(e:Bool),Af 32 (Ad v) (Ad w) e/\dQ (!e) (K bD m h) (wF v !=wF w) (K bD m h) (lD (∃(x:Nat),aA (FQ x ps c) iS (aA (eP 3) (bI v.args) (aA (bA x) (oN v) (aA (oN w) (m=m) (bU h h))))) (λx=>FQ x ps c->aY (↑x:Int) (aG v.args) (bK (λb o=>aA (aR v.args.a b o) (0<=(↑x:Int)) ((↑x:Int)<aG v.args/\∃(y:PV),aK m h b (bL o x 13) y.enc/\PA w.args.a x w.args (λs t f=>aK m h s (bL t x 13) f.enc/\K5 (λg j p q=>aA (eU y.enc (gR f)=eU g.enc (gR j)) (fP h p g) (aA (fP h q j) (sP p N) (∀(n:Bool),gS (iX n↔p=q) (!n) (K bD m h) (∃(d
 :Nat),aA (FQ d ps c) (ps.length-d<ps.length-x) (aA iS j8 (aA (bI v.args) (iH (bE x 1)=bP d) (aA (oN v) (oN w) (eM m m h h)))))))))))) (K jF m h)))))
theorem C4{α}{a:List α}{b}(c:a.length=b.length)(d:a.length<=i)(h:∀j:Nat,j<i->a[j]? =b[j]?):a=b:=by
 apply ext_getElem?
 grind
theorem AS{α}{a b:List α}{x y}(hx:a[i]? =some x)(c:b[i]? =some y)(e:x=y)(h:∀j:Nat,j<i->a[j]? =b[j]?):∀j:Nat,j<i+1->a[j]? =b[j]? :=by
 grind
theorem SS{α}{a:List α}{b x y}(hx:a[i]? =some x)(c:b[i]? =some y)(e:x≠y):a≠b:=λh=>by
 grind
theorem QP{α β}{s t:Sl}{a:List α}{b:List β}(c:s.len=a.length)(d:t.len=b.length)(e:((s.len:Int) !=(t.len:Int))=true):a.length≠b.length:=λh=>by
 grind
theorem MG{α β}{s t:Sl}{a:List α}{b:List β}(c:s.len=a.length)(d:t.len=b.length)(e:((s.len:Int) !=(t.len:Int))=false):a.length=b.length:=by
 grind
theorem cqQ{v w q}(u:fP h p v)(y:fP h q w)(I:SizeOf.sizeOf p<N+1)(s:∀r:Bool,(r=true↔p=q)->K (cB r) m h):MZ N v w m h K:=by
 dsimp only[MZ,push_cast];have d:p≠q->K (cB false) m h:=λh=>s false ⟨λe=>(by cases e),λe=>(h e).elim⟩;have c:=@BK p;obtain⟨op,z,l,r,ps⟩:=p;obtain⟨A,t,J,M,D⟩:=q;obtain⟨rfl,rfl,rfl,rfl,j⟩:=u.parts;obtain⟨rfl,rfl,rfl,rfl,n⟩:=y.parts;refine aD (λE=>aD (λF=>⟨_,BI _ _,aD (λf=>⟨_,BI _ _,aD (λg=>⟨v.args,w.args,ps,D,rfl,j,n,λp G=>?_,λr H=>s r (H.trans ?_)⟩) (λg=>d λe=>?_)⟩) (λf=>d λe=>?_)⟩) (λF=>d λe=>?_)) (λE=>d λe=>?_)
 .have:=c (q:=p) G;omega
 .rw[uU]at f g
  grind
 .injection e with _ _ _ e _;rw[uU.2 e]at g;cases g
 .injection e with _ _ e _ _;rw[uU.2 e]at f;cases f
 .grind
 grind
theorem X4:∀N,cm 266 (czJ N)
 |0=>by
  refine fW (fn:=Tryz.f266) (c:=eD Tryz.f266) func266 rfl az ?_;rintro g m h K ⟨v,w,p,q,rfl,D,_,E,_⟩;omega
 |N+1=>by
  have z:cm 274 (cGJ N):=by
   refine jC func274 ?_;rintro g m h K ⟨s,t,ps,F,rfl,I,R,E,G⟩;refine⟨bCJ N s t ps F m h,rfl,aE (X4 N) aH,Tq N s t ps F m h K,ax,?_⟩;dsimp only[Tq,push_cast];have d:=I.slen;have A:=R.slen;have U:=I.len;have S:ps≠F->K (cB false) m h:=λh=>G false ⟨λe=>(by cases e),λe=>(h e).elim⟩;refine aD (λJ=>S (λe=>QP d A J (by rw[e]))) (λJ=>?_);have V:=MG d A J;refine⟨⟨0,⟨aC,λj hj=>by omega⟩,MT⟩,λi T=>aF (λf=>?_) (λW=>?_)⟩
   .obtain⟨x,H⟩:=fK d f;obtain⟨y,M⟩:∃y,F[i]? =some y:=fK (n:=s.len) aC f;obtain⟨X,Y,u,Z,r1,ru⟩:=I.at H;obtain⟨b2,o2,w,e2,r2,O⟩:=R.at M;refine⟨X,Y,Z,aC,f,u,.imm r1,b2,o2,e2,aC,aC,w,.imm r2,u,w,x,y,rfl,ru,O,E x (bo H),λr D=>aD (λa'=>S (SS H M (λe=>?_))) (λhe=>?_)⟩
    .grind
    .have Q:r=true:=bg
     exact⟨i+1,⟨aC,AS H M (D.1 Q) T.2⟩,aC,MT⟩
   .exact G true ⟨λ_=>C4 V aC T.2,λ_=>rfl⟩
  refine jC func266 ?_;rintro g m h K ⟨v,w,p,q,rfl,D,hq,E,G⟩;refine⟨bDX N,rfl,aE z aH,MZ N v w m h K,ax,?_⟩;exact cqQ D hq E G
theorem crZ{v w q}(U:fP h p v)(V:fP h q w)(hN:SizeOf.sizeOf p<N+1)(D:∀r:Bool,(r=true↔p=q)->K (cB r) m h):M5 N v w p.args q.args m h K:=by
 dsimp only[M5,push_cast];have c:p≠q->K (cB false) m h:=λh=>D false ⟨λe=>(by cases e),λe=>(h e).elim⟩;have d:=@BK p;obtain⟨op,W,l,r,ps⟩:=p;obtain⟨X,O,l',r',Q⟩:=q;obtain⟨rfl,rfl,rfl,rfl,E⟩:=U.parts;obtain⟨rfl,rfl,rfl,rfl,R⟩:=V.parts;simp only[Pred.args]at d⊢
 have g:=E.slen;have F:=R.slen;have Y:=E.len;refine aD (λG=>c λe=>?_) (λG=>aD (λH=>c λe=>?_) (λH=>⟨_,BI _ _,aD (λs=>c λe=>?_) (λs=>⟨_,BI _ _,aD (λt=>c λe=>?_) (λt=>aD (λS=>c λe=>?_) (λS=>?_))⟩)⟩))
 .grind
 .grind
 .injection e with _ _ e _ _;rw[uU.2 e]at s;cases s
 .injection e with _ _ _ e _;rw[uU.2 e]at t;cases t
 .grind
 .have Z:=MG g F S;have s:v.left=w.left:=uU.1 bg;have t:v.right=w.right:=uU.1 bg;have G:v.op=w.op:=bg
  have H:v.cmp=w.cmp:=bg
  rw[G,H,s,t]at D c;have c:ps≠Q->K (cB false) m h:=λA=>c λe=>A (by injection e);refine⟨⟨0,⟨aC,λj hj=>by omega⟩,MT⟩,λi T=>aF (λf=>?_) (λa'=>?_)⟩
  .obtain⟨x,I⟩:=fK g f;obtain⟨y,J⟩:∃y,Q[i]? =some y:=fK (n:=v.args.len) aC f;obtain⟨b1,o1,u,e1,r1,ru⟩:=E.at I;obtain⟨b2,o2,z,e2,r2,rz⟩:=R.at J;refine⟨b1,o1,e1,aC,f,u,.imm r1,b2,o2,e2,aC,aC,z,.imm r2,u,z,x,y,rfl,ru,rz,?_,λr hr=>aD (λA=>c (SS I J (λe=>?_))) (λhe=>?_)⟩
   .grind
   .grind
   .have M:r=true:=bg
    exact⟨i+1,⟨aC,AS I J (hr.1 M) T.2⟩,aC,MT⟩
  .exact D true ⟨λ_=>by rw[C4 Z aC T.2],λ_=>rfl⟩
theorem Yb:∀N,cm 224 (czJ N)
 |0=>by
  refine fW (fn:=Tryz.f224) (c:=eD Tryz.f224) func224 rfl az ?_;rintro d m h K ⟨v,w,p,q,rfl,e,_,f,_⟩;omega
 |N+1=>by
  refine jC func224 ?_;rintro d m h K ⟨v,w,p,q,rfl,e,g,f,j⟩;refine⟨bFX N v w p.args q.args m h,rfl,aE (Yb N) aH,M5 N v w p.args q.args m h K,ax,?_⟩;exact crZ e g f j
def cAQ:Vc.Spec:=λc m h K=>∃v w p q,c=[aP v,aP w]/\fP h p v/\fP h q w/\∀r:Bool,(r=true↔p=q)->K (cB r) m h
theorem mZ{f}{S:Nat->Vc.Spec}{S'}(h:∀N,cm f (S N))(e:∀c m h K,S' c m h K->∃N,S N c m h K):cm f S':=by
 refine⟨(h 0).1,λc g m d w K j n=>?_⟩;obtain⟨N,s⟩:=e c m d K j;exact(h N).2 c g m d w K s n
theorem ZM:cm 266 cAQ:=mZ X4 λ_ _ _ _⟨v,w,p,q,e,c,d,f⟩=>⟨SizeOf.sizeOf p+1,v,w,p,q,e,c,d,aC,f⟩
theorem ZY:cm 224 cAQ:=mZ Yb λ_ _ _ _⟨v,w,p,q,e,c,d,f⟩=>⟨SizeOf.sizeOf p+1,v,w,p,q,e,c,d,aC,f⟩
theorem LP{d e c i g xs f w x y r r'}(hx:B0 Tryz.prog (part e xs (i*c))=some x)(j:B0 Tryz.prog (part e f (i*c))=some y)(n:(Op.equalIn d e x y).run Tryz.prog w= .ok r w)(s:(Op.eqItems d e c xs f g).run Tryz.prog w= .ok r' w):(Op.eqItems d e c xs f (i::g)).run Tryz.prog w= .ok (r&&r') w:=by
 simp only[Op.eqItems,Sem.run_bind,Dc _ _ _ hx,Dc _ _ _ j,Result.andThen_ok,n];cases r
 .simp
 grind
def cRZ(a b:Int×Int):=a.1==b.1&&(a.2==b.2&&true)
def cRX(a b:Int×Bool):=a.1==b.1&&(a.2==b.2&&true)
theorem bSX a b:StructEq Tryz.prog 130 (.agg #[.int .i64 a.1,.int .i64 a.2]) (.agg #[.int .i64 b.1,.int .i64 b.2]) (cRZ a b):=by
 refine⟨ax,λw=>?_⟩;obtain⟨i,c⟩:=Option.isSome_iff_exists.1 (show(Tryz.prog.info? 3).isSome=true by kernel_rfl);rw[run_equalIn_array w 9999 (e:=3) (n:=2) _ _ ax c,show Tryz.prog.cellsOf 3=1 by kernel_rfl,show List.range 2=[0,1]from rfl];refine LP (x:=.int .i64 a.1) (y:=.int .i64 b.1) ax ax (run_equalIn_int w 9998 _ .i64 .i64 _ _ ax) ?_;refine LP (x:=.int .i64 a.2) (y:=.int .i64 b.2) ax ax (run_equalIn_int w 9998 _ .i64 .i64 _ _ ax) ?_;simp[Op.eqItems]
theorem bSQ a b:StructEq Tryz.prog 77 (.agg #[.int .i64 a.1,.bool a.2]) (.agg #[.int .i64 b.1,.bool b.2]) (cRX a b):=by
 refine⟨ax,λw=>?_⟩;rw[run_equalIn_struct w 9999 77 _ _ ax ax,show(Tryz.prog.fieldsOf 77).toList=[Sf 77 0,Sf 77 1]by kernel_rfl];refine pC (x:=.int .i64 a.1) (y:=.int .i64 b.1) ax ax ax (run_equalIn_int w 9998 _ .i64 .i64 _ _ ax) ?_;refine pC (x:=.bool a.2) (y:=.bool b.2) ax ax ax (run_equalIn_bool w 9998 _ _ _ ax) ?_;simp[Op.eqFields]
theorem YA{a b}:cRZ a b=true↔a=b:=by
 obtain⟨c,d⟩:=a;obtain⟨e,f⟩:=b;simp[cRZ]
theorem Yz{a b}:cRX a b=true↔a=b:=by
 obtain⟨c,d⟩:=a;obtain⟨e,f⟩:=b;simp[cRX]
theorem jD.at{s l}(r:jD h s l){x}(c:l[i]? =some x):∃b o,s.a=some ⟨b,o,none⟩/\cO h b (o+i*2) (sM x):=r.row.get (by simp[c])
theorem jP.at{s l}(r:jP h s l){x}(c:l[i]? =some x):∃b o,s.a=some ⟨b,o,none⟩/\cO h b (o+i*2) (DM x):=r.row.get (by simp[c])
def UG:Vc.Spec:=λc m h K=>∃(s t:Sl)(a b:cu),c=[cS s,cS t]/\jD h s a/\jD h t b/\∀r:Bool,(r=true↔a=b)->K (cB r) m h
def UF:Vc.Spec:=λc m h K=>∃(s t:Sl)(a b:cv),c=[cS s,cS t]/\jP h s a/\jP h t b/\∀r:Bool,(r=true↔a=b)->K (cB r) m h
noncomputable def X3{α}(s t:Sl)(a b:List α)(m:MH)(h:PH):=
 ctx [] [Hp 4 (λi=>bY 26 28 [(0,sv s),(1,sv t),(12,iv s.len),(13,iv i)] [] m h) (λi=>i<=a.length/\∀j:Nat,j<i->a[j]? =b[j]?) (λi=>a.length-i)] [] [] false
abbrev BD a b:=kC (gZ a) (gZ b)
abbrev vZ(a:Int×Int):=BD a.1 a.2
attribute [push_cast] BD vZ
def Tt(s t:Sl)(a b:cu)(m:MH)(h:PH)(K:cq):=
  dR (aG s) (aG t) (K bD m h) (lD (∃(x:Nat),aA (lD (x<=a.length) (λj=>j<x->a[j]? =b[j]?)) (aI s) (aA (aI t) (bI s) (dJ (bA x) m m h h))) (λx=>lD (x<=a.length) (λj=>j<x->a[j]? =b[j]?)->aY (↑x:Int) (aG s) (bK (λd o=>aA (aR s.a d o) (0<=(↑x:Int)) ((↑x:Int)<aG s/\∃(y:Int×Int),aK m h d (bL o x 2) (vZ y)/\bK (λe f=>aA (aR t.a e f) (0<=(↑x:Int)) ((↑x:Int)<aG t/\∃(g:Int×Int),aK m h e (bL f x 2) (vZ g)/\∃(r:Bool),gX (Af 130 (vZ y) (vZ g) r) (!r) (K bD m h) (∃(c:Nat),aA (lD (c<=a.length) (λj=>j<c->a[j]? =b[j]?)) (a.length-c<a.length-x) (aA (aI s) (aI t) (aA (bI s) (iH (bE x 1)=bP c) (aA (m=m) (h=h) True))))))))) (K jF m h)))
abbrev Bi(a:Int×Bool):=kC (gZ a.1) (Value.bool a.2)
attribute [push_cast] Bi
def Ts(s t:Sl)(a b:cv)(m:MH)(h:PH)(K:cq):=
  dR (aG s) (aG t) (K bD m h) (lD (∃(x:Nat),aA (lD (x<=a.length) (λj=>j<x->a[j]? =b[j]?)) (aI s) (aA (aI t) (bI s) (dJ (bA x) m m h h))) (λx=>lD (x<=a.length) (λj=>j<x->a[j]? =b[j]?)->aY (↑x:Int) (aG s) (bK (λd o=>aA (aR s.a d o) (0<=(↑x:Int)) ((↑x:Int)<aG s/\∃(y:Int×Bool),aK m h d (bL o x 2) (Bi y)/\bK (λe f=>aA (aR t.a e f) (0<=(↑x:Int)) ((↑x:Int)<aG t/\∃(g:Int×Bool),aK m h e (bL f x 2) (Bi g)/\∃(r:Bool),gX (Af 77 (Bi y) (Bi g) r) (!r) (K bD m h) (∃(c:Nat),aA (lD (c<=a.length) (λj=>j<c->a[j]? =b[j]?)) (a.length-c<a.length-x) (aA (aI s) (aI t) (aA (bI s) (iH (bE x 1)=bP c) (aA (m=m) (h=h) True))))))))) (K jF m h)))
theorem ZL:cm 267 UG:=by
 refine jC func267 ?_;rintro I m h K ⟨s,t,a,b,rfl,u,E,F⟩;refine⟨X3 s t a b m h,rfl,aH,Tt s t a b m h K,ax,?_⟩;dsimp only[Tt,push_cast];have c:=u.slen;have f:=E.slen;have J:=u.len;have G:a≠b->K (cB false) m h:=λh=>F false ⟨λe=>(by cases e),λe=>(h e).elim⟩;refine aD (λz=>G (λe=>QP c f z (by rw[e]))) (λz=>?_);have M:=MG c f z;refine⟨⟨0,⟨aC,λj Y=>by omega⟩,MT⟩,λi H=>aF (λd=>?_) (λO=>?_)⟩
 .obtain⟨x,A⟩:=fK c d;obtain⟨y,D⟩:∃y,b[i]? =some y:=fK (n:=s.len) aC d;obtain⟨Q,R,S,T⟩:=u.at A;obtain⟨U,V,W,X⟩:=E.at D;refine⟨Q,R,S,aC,d,x,.imm T,U,V,W,aC,aC,y,.imm X,_,bSX x y,aD (λg=>G (SS A D (λe=>?_))) (λZ=>?_)⟩
  .rw[YA.2 e]at g;cases g
  .exact⟨i+1,⟨aC,AS A D (YA.1 bg) H.2⟩,aC,MT⟩
 .exact F true ⟨λ_=>C4 M aC H.2,λ_=>rfl⟩
theorem ZK:cm 268 UF:=by
 refine jC func268 ?_;rintro I m h K ⟨s,t,a,b,rfl,u,E,F⟩;refine⟨X3 s t a b m h,rfl,aH,Ts s t a b m h K,ax,?_⟩;dsimp only[Ts,push_cast];have c:=u.slen;have f:=E.slen;have J:=u.len;have G:a≠b->K (cB false) m h:=λh=>F false ⟨λe=>(by cases e),λe=>(h e).elim⟩;refine aD (λz=>G (λe=>QP c f z (by rw[e]))) (λz=>?_);have M:=MG c f z;refine⟨⟨0,⟨aC,λj Y=>by omega⟩,MT⟩,λi H=>aF (λd=>?_) (λO=>?_)⟩
 .obtain⟨x,A⟩:=fK c d;obtain⟨y,D⟩:∃y,b[i]? =some y:=fK (n:=s.len) aC d;obtain⟨Q,R,S,T⟩:=u.at A;obtain⟨U,V,W,X⟩:=E.at D;refine⟨Q,R,S,aC,d,x,.imm T,U,V,W,aC,aC,y,.imm X,_,bSQ x y,aD (λg=>G (SS A D (λe=>?_))) (λZ=>?_)⟩
  .rw[Yz.2 e]at g;cases g
  .exact⟨i+1,⟨aC,AS A D (Yz.1 bg) H.2⟩,aC,MT⟩
 .exact F true ⟨λ_=>C4 M aC H.2,λ_=>rfl⟩
noncomputable def LK(s t:Sl)(a b:cn)(m:MH)(h:PH):=
 ctx [] [Hp 4 (λi=>bY 26 28 [(0,sv s),(1,sv t),(12,iv s.len),(13,iv i)] [] m h) (λi=>i<=a.length/\∀j:Nat,j<i->a[j]? =b[j]?) (λi=>a.length-i)] [] [] false
def I8(s t:Sl)(a b:cn)(m:MH)(h:PH)(K:cq):=
  dR (aG s) (aG t) (K bD m h) (lD (∃(x:Nat),aA (lD (x<=a.length) (λj=>j<x->a[j]? =b[j]?)) (aI s) (aA (aI t) (bI s) (dJ (bA x) m m h h))) (λx=>lD (x<=a.length) (λj=>j<x->a[j]? =b[j]?)->aY (↑x:Int) (aG s) (bK (λd o=>aA (aR s.a d o) (0<=(↑x:Int)) ((↑x:Int)<aG s/\∃(y:Int),aK m h d (bL o x 1) (bC y)/\bK (λe f=>aA (aR t.a e f) (0<=(↑x:Int)) ((↑x:Int)<aG t/\∃(g:Int),aK m h e (bL f x 1) (bC g)/\dR y g (K bD m h) (∃(c:Nat),aA (lD (c<=a.length) (λj=>j<c->a[j]? =b[j]?)) (a.length-c<a.length-x) (aA (aI s) (aI t) (aA (bI s) (iH (bE x 1)=bP c) (aA (m=m) (h=h) True))))))))) (K jF m h)))
theorem cuZ s t a b m h K:I8 s t a b m h K=(xH (LK s t a b m h) Tryz.f178 (eD Tryz.f178) (entry 26 [cS s,cS t] m h) K):=ax
theorem cvQ s t a b m h K:I8 s t a b m h K=(xH (LK s t a b m h) Tryz.f152 (eD Tryz.f152) (entry 26 [cS s,cS t] m h) K):=ax
def Dw:Vc.Spec:=λc m h K=>∃(s t:Sl)(a b:cn),c=[cS s,cS t]/\Ints h s a/\Ints h t b/\∀r:Bool,(r=true↔a=b)->K (cB r) m h
theorem aKZ{s t b}(c:Ints h s a)(f:Ints h t b)(g:∀r:Bool,(r=true↔a=b)->K (cB r) m h):I8 s t a b m h K:=by
 dsimp only[I8,push_cast];have u:=c.slen;have z:=f.slen;have A:=c.len;have n:a≠b->K (cB false) m h:=λh=>g false ⟨λe=>by(cases e),λe=>(h e).elim⟩;refine aD (λD=>n (λe=>?_)) (λD=>?_)
 .grind
 .have T:a.length=b.length:=bg
  refine⟨⟨0,⟨aC,λj E=>by omega⟩,rfl,rfl,rfl,rfl,rfl,rfl,trivial⟩,λi U=>aF (λd=>?_) (λF=>?_)⟩
  .obtain⟨x,G⟩:∃x,a[i]? =some x:=⟨a[i]'(by omega),bn _⟩
   obtain⟨y,H⟩:∃y,b[i]? =some y:=⟨b[i]'(by omega),bn _⟩
   obtain⟨I,J,M,V⟩:=c.at G;obtain⟨O,Q,R,W⟩:=f.at H;refine⟨I,J,M,aC,d,x,.imm bg,O,Q,R,aC,aC,y,.imm bg,aD (λS=>n (λe=>?_)) (λX=>?_)⟩
   .grind
   .have:x=y:=bg
    refine⟨i+1,⟨aC,λj E=>?_⟩,aC,rfl,rfl,rfl,by rw[jK aC],rfl,rfl,trivial⟩
    grind
  .refine g true ⟨λ_=>?_,λ_=>rfl⟩;apply ext_getElem?
   grind
theorem agZ:cm 178 Dw:=by
 refine fW (fn:=Tryz.f178) (c:=eD Tryz.f178) func178 rfl az ?_;rintro d m h K ⟨s,t,a,b,rfl,e,f,g⟩;exact⟨LK s t a b m h,rfl,aH,(cuZ s t a b m h K)▸aKZ e f g⟩
theorem GF:cm 152 Dw:=by
 refine fW (fn:=Tryz.f152) (c:=eD Tryz.f152) func152 rfl az ?_;rintro d m h K ⟨s,t,a,b,rfl,e,f,g⟩;exact⟨LK s t a b m h,rfl,aH,(cvQ s t a b m h K)▸aKZ e f g⟩
def aQ(v:QV):CV:=.val (.agg ⟨v.enc⟩)
def Query.args:Query->db
 |.mk _ _ _ _ _ _ _ _ l=>l
theorem Dg{p:Query}{q}(h:q∈p.args):SizeOf.sizeOf q<SizeOf.sizeOf p:=by
 cases p with
 |mk op t w c o g s l args=>
  have:=sizeOf_lt_of_mem h;simp only[Query.args]at this
  grind
def Ef h s ps:=bM h 21 QV.enc (dO h) s ps
theorem Ef.mono{s ps}(r:Ef h s ps)(le:PH.le h h'):Ef h' s ps:=bM.mono r le λ_ _=>dO.mono le
theorem BX.ofL{h:PH}:∀{ps:db}{vs:du},ps.length=vs.length->(∀(i:Nat)(x:Query),ps[i]? =some x->∃v,vs[i]? =some v/\dO h x v)->BX h ps vs
 |[],[],_,_=>rfl
 |p::ps,v::vs,c,d=>by
  obtain⟨j,f,g⟩:=d 0 p rfl;simp at f;subst f;exact⟨v,vs,rfl,g,BX.ofL bg λi x e=>bk (d (i+1) x (by simpa using e))⟩
 |[],_::_,c,_=>by simp at c
 |_::_,[],c,_=>by simp at c
structure uE(h:PH)(op table:Int)(w:Pred)(c:cn)(o:cu)(g:cn)(s:cv)(l:Int)(args:db)(v:QV):Prop where
 op_:v.op=op
 table_:v.table=table
 where_:fP h w v.where_
 columns_:Ints h v.columns c
 on_:jD h v.on o
 group_:Ints h v.group g
 order_:jP h v.order s
 limit_:v.limit=l
 args_:Ef h v.args args
theorem dO.parts{op table w c o g s l args}(x:dO h (.mk op table w c o g s l args) v):uE h op table w c o g s l args v:=by
 obtain⟨f,j,n,t,u,y,z,A,D,E,e,d⟩:=x;exact⟨f,j,n,t,u,y,z,A,⟨⟨E,e,d.length.symm,λ_ _ F=>d.get F⟩,D⟩⟩
theorem uE.rep{op table w c o g s l args}(x:uE h op table w c o g s l args v):dO h (.mk op table w c o g s l args) v:=by
 obtain⟨d,e,f,j⟩:=x.args_.ex;exact⟨x.op_,x.table_,x.where_,x.columns_,x.on_,x.group_,x.order_,x.limit_,x.args_.len,d,e,.ofL f j⟩
def cYZ(N:Nat):Vc.Spec:=λc m h K=>∃v w p q,c=[aQ v,aQ w]/\dO h p v/\dO h q w/\SizeOf.sizeOf p<N/\∀r:Bool,(r=true↔p=q)->K (cB r) m h
def cYJ:Vc.Spec:=λc m h K=>∃v w p q,c=[aQ v,aQ w]/\dO h p v/\dO h q w/\∀r:Bool,(r=true↔p=q)->K (cB r) m h
def cGZ(N:Nat):Vc.Spec:=λc m h K=>∃s t ps d,c=[cS s,cS t,.val (.func (.func 259) #[] #[])]/\Ef h s ps/\Ef h t d/\(∀p∈ps,SizeOf.sizeOf p<N)/\∀r:Bool,(r=true↔ps=d)->K (cB r) m h
noncomputable def bEQ N:=ctx [(266,cAQ),(152,Dw),(267,UG),(268,UF),(269,cGZ N)] [] [] [] false
noncomputable def bDQ(N:Nat)(s t:Sl)(ps c:db)(m:MH)(h:PH):=
 ctx [(259,cYZ N)] [Hp 4 (λi=>bY 32 35 [(1,sv t),(2,vv (.func (.func 259) #[] #[])),(15,sv s),(16,iv s.len),(17,iv i)] [] m h) (λi=>i<=ps.length/\∀j:Nat,j<i->ps[j]? =c[j]?) (λi=>ps.length-i)] [] [] false
abbrev cD a b:=gO a (nW b)
abbrev DU(a b:Sl)(c:PH)(d:cn->cn->Bool->Prop):=∃(x:Sl),yQ (λe f g=>aA (cD a b=cD x e) (Ints c x f) (Ints c e g/\∀(j:Bool),d f g j))
abbrev Dl(a:Sl->cu->Prop):=∃(x:Sl)(c:cu),a x c
abbrev yI(a:Query)(b:Nat):=SizeOf.sizeOf a<b
attribute [push_cast] cD DU Dl yI
def M1(N:Nat)(v w:QV)(m:MH)(h:PH)(K:cq):=
  fC v.op w.op (fC v.table w.table (fC v.limit w.limit (K5 (λd e p q=>aA (eU v.where_.enc (gR w.where_)=eU d.enc (gR e)) (fP h p d) (fP h q e/\∀(r:Bool),gS (iX r↔p=q) r (DU v.columns w.columns h (λa b f=>gS (iX f↔a=b) f (∃(s:Sl),Dl (λt g=>∃(j:cu),aA (cD v.on w.on=cD s t) (jD h s g) (jD h t j/\∀(n:Bool),gS (iX n↔g=j) n (DU v.group w.group h (λM O u=>gS (iX u↔M=O) u (rC (λy z=>∃(A D:cv),aA (cD v.order w.order=cD y z) (jP h y A) (jP h z D/\∀(E:Bool),gS (iX E↔A=D) E (rC (λF G=>∃(c H:db),aA (dC v.args (gO w.args (mV 259 sJ))=dC F (gO G (mV 259 sJ))) (Ef h F c)
 (aA (Ef h G H) (∀(I:Query),List.Mem I c->yI I N) (∀(J:Bool),(iX J↔c=H)->K (Aw J) m h)))) (K bD m h)))) (K bD m h))) (K bD m h)))) (K bD m h))) (K bD m h)))) (K bD m h)) (K bD m h)) (K bD m h)
abbrev rB(a:QV->Query->Prop):=∃(x:QV)(c:Query),a x c
abbrev cM(a:QV):=jO a.enc
attribute [push_cast] rB cM
def Tr(N:Nat)(s t:Sl)(ps d:db)(m:MH)(h:PH)(K:cq):=
  dR (aG s) (aG t) (K bD m h) (lD (∃(x:Nat),aA (lD (x<=ps.length) (λj=>j<x->ps[j]? =d[j]?)) (aI t) (aA (Bj 259) (aI s) (aA (bI s) (bA x) (aA (m=m) (h=h) True)))) (λx=>lD (x<=ps.length) (λj=>j<x->ps[j]? =d[j]?)->aY (↑x:Int) (aG s) (bK (λb o=>aA (aR s.a b o) (0<=(↑x:Int)) ((↑x:Int)<aG s/\∃(y:QV),aK m h b (bL o x 21) y.enc/\bK (λe f=>aA (aR t.a e f) (0<=(↑x:Int)) ((↑x:Int)<aG t/\∃(g:QV),aK m h e (bL f x 21) g.enc/\∃(v:QV),rB (λw p=>∃(q:Query),aA (tN (cM y) (cM g)=tN (cM v) (cM w)) (dO h p v) (aA (dO h q w) (yI p N) (∀(r:Bool),gS (iX r↔p=q) (!r) (K bD m h) (∃(c:Nat),aA (lD (c<=ps.length) (λj=>j<c->ps[j]? =d[j]?))
 (ps.length-c<ps.length-x) (aA (aI t) (Bj 259) (aA (aI s) (bI s) (aA (iH (bE x 1)=bP c) (m=m) (bU h h))))))))))))) (K jF m h)))
theorem cqX{w p q}(s:dO h p v)(t:dO h q w)(S:SizeOf.sizeOf p<N+1)(n:∀r:Bool,(r=true↔p=q)->K (cB r) m h):M1 N v w m h K:=by
 dsimp only[M1,push_cast];have c:p≠q->K (cB false) m h:=λh=>n false ⟨λe=>(by cases e),λe=>(h e).elim⟩;have d:=@Dg p;obtain⟨op,ta,T,co,on,gr,od,li,ps⟩:=p;obtain⟨u,y,z,A,D,E,F,G,U⟩:=q;have a:=s.parts;have b:=t.parts
 refine aD (λf=>aD (λg=>aD (λj=>⟨_,_,_,_,rfl,a.where_,b.where_,λV W=>aD (λH=>⟨_,_,_,_,rfl,a.columns_,b.columns_,λX Y=>aD (λI=>⟨_,_,_,_,rfl,a.on_,b.on_,λZ h6=>aD (λJ=>⟨_,_,_,_,rfl,a.group_,b.group_,λr7 h7=>aD (λM=>⟨_,_,_,_,rfl,a.order_,b.order_,λr8 h8=>aD (λO=>⟨_,_,_,_,rfl,a.args_,b.args_,λp Q=>?_,λr R=>n r (R.trans ?_)⟩)
  (λO=>c λe=>?_)⟩) (λM=>c λe=>?_)⟩) (λJ=>c λe=>?_)⟩) (λI=>c λe=>?_)⟩) (λH=>c λe=>?_)⟩) (λj=>c λe=>?_)) (λg=>c λe=>?_)) (λf=>c λe=>?_)
 .have:=d (q:=p) Q;omega
 .rw[a.op_,b.op_,beq_iff_eq]at f;rw[a.table_,b.table_,beq_iff_eq]at g;rw[a.limit_,b.limit_,beq_iff_eq]at j
  grind
 .grind
 .grind
 .grind
 .grind
 .grind
 .injection e with _ _ _ _ _ _ _ e _;rw[a.limit_,b.limit_,e]at j;simp at j
 .injection e with _ e _ _ _ _ _ _ _;rw[a.table_,b.table_,e]at g;simp at g
 .injection e with e _ _ _ _ _ _ _ _;rw[a.op_,b.op_,e]at f;simp at f
theorem X6:∀N,cm 259 (cYZ N)
 |0=>by
  refine fW (fn:=Tryz.f259) (c:=eD Tryz.f259) func259 rfl az ?_;rintro g m h K ⟨v,w,p,q,rfl,D,_,E,_⟩;omega
 |N+1=>by
  have z:cm 269 (cGZ N):=by
   refine jC func269 ?_;rintro g m h K ⟨s,t,ps,F,rfl,I,R,E,G⟩;refine⟨bDQ N s t ps F m h,rfl,aE (X6 N) aH,Tr N s t ps F m h K,ax,?_⟩;dsimp only[Tr,push_cast];have d:=I.slen;have A:=R.slen;have U:=I.len;have S:ps≠F->K (cB false) m h:=λh=>G false ⟨λe=>(by cases e),λe=>(h e).elim⟩;refine aD (λJ=>S (λe=>QP d A J (by rw[e]))) (λJ=>?_);have V:=MG d A J;refine⟨⟨0,⟨aC,λj hj=>by omega⟩,MT⟩,λi T=>aF (λf=>?_) (λW=>?_)⟩
   .obtain⟨x,H⟩:=fK d f;obtain⟨y,M⟩:∃y,F[i]? =some y:=fK (n:=s.len) aC f;obtain⟨X,Y,u,Z,r1,ru⟩:=I.at H;obtain⟨b2,o2,w,e2,r2,O⟩:=R.at M;refine⟨X,Y,Z,aC,f,u,.imm r1,b2,o2,e2,aC,aC,w,.imm r2,u,w,x,y,rfl,ru,O,E x (bo H),λr D=>aD (λa'=>S (SS H M (λe=>?_))) (λhe=>?_)⟩
    .grind
    .have Q:r=true:=bg
     exact⟨i+1,⟨aC,AS H M (D.1 Q) T.2⟩,aC,MT⟩
   .exact G true ⟨λ_=>C4 V aC T.2,λ_=>rfl⟩
  refine jC func259 ?_;rintro g m h K ⟨v,w,p,q,rfl,D,hq,E,G⟩;refine⟨bEQ N,rfl,aE ZM (aE GF (aE ZL (aE ZK (aE z aH)))),M1 N v w m h K,ax,?_⟩;exact cqX D hq E G
theorem ZQ:cm 259 cYJ:=mZ X6 λ_ _ _ _⟨v,w,p,q,e,c,d,f⟩=>⟨SizeOf.sizeOf p+1,v,w,p,q,e,c,d,aC,f⟩
structure Ref where
 columns:cn
 table:Int
structure AE where
 name:ByteArray
 columns:List qE
 key:Int
 refs:List Ref
 checks:dh
structure jZ where
 version:Int
 tables:List AE
variable{s:jZ}
structure V4(h:PH)(r:Ref)(v:G5):Prop where
 columns:Ints h v.columns r.columns
 table:v.table=r.table
def G6 h s l:=bM h 2 qE.enc Eq s l
structure RW(h:PH)(t:AE)(v:cZ):Prop where
 name:v.name=t.name
 columns:G6 h v.columns t.columns
 key:v.key=t.key
 refs:bM h 2 G5.enc (V4 h) v.references t.refs
 checks:HN h v.checks t.checks
structure iU(h:PH)(s:jZ)(v:bT):Prop where
 version:v.version=s.version
 tables:bM h 5 cZ.enc (RW h) v.tables s.tables
theorem V4.mono{r v}(x:V4 h r v)(le:PH.le h h'):V4 h' r v:=⟨x.columns.mono le,x.table⟩
theorem RW.mono{t v}(x:RW h t v)(le:PH.le h h'):RW h' t v:=
 ⟨x.name,bM.mono x.columns le λ_ _ e=>e,x.key,x.refs.mono le λ_ _ e=>e.mono le,x.checks.mono le⟩
theorem iU.mono{v}(x:iU h s v)(le:PH.le h h'):iU h' s v:=⟨x.version,x.tables.mono le λ_ _ e=>e.mono le⟩
def lower c:=97<=c&&c<=122
def AA c:=lower c||(48<=c&&c<=57)||c==95
def sK(s:ByteArray):=s.data.toList.map UInt8.toNat
def qZ s:=1<=s.size&&s.size<=32&&lower ((sK s).headD 0)&&(sK s).all AA
theorem Uv s:(sK s).length=s.size:=by simp[sK]
theorem bkJ{s c}(h:(sK s)[i]? =some c):(s.get! i).toNat=c/\c<256:=by
 simp only[sK,getElem?_map,Option.map_eq_some_iff]at h;obtain⟨b,e,rfl⟩:=h;refine⟨?_,b.toNat_lt⟩
 have f:i<s.data.size:=by
  grind
 have:s.data[i]? =some b:=bg
 cases s with
 |mk d=>
  show(d[i]!).toNat=b.toNat
  grind
theorem Ny{s}(h:(s.get! i).toNat<128):Utf8.decode s i=((s.get! i).toNat,1):=by
 simp only[Utf8.decode,Nat.add_zero];rw[if_pos h]
theorem bkZ{s}(h:¬(s.get! i).toNat<128):128<=(Utf8.decode s i).1:=by
 simp only[Utf8.decode,Nat.add_zero];rw[if_neg h]
 repeat' split
 all_goals simp_all [Utf8.runeError]
 all_goals omega
def Ss(s:ByteArray):CV:=.val (.string s)
def aQJ:Vc.Spec:=λc m h K=>∃s,c=[Ss s]/\K (cB (qZ s)) m h
noncomputable def bIQ s m h:=
 ctx [] [(4,{A:=Nat×Nat×MH,st:=λx=>bY 44 45 [(15,vv (.pointer (some ⟨x.2.1,0,none⟩)))] [] x.2.2 h,inv:=λx=>x.1<=s.size/\cW m h x.2.1/\lI m x.2.2 x.2.1 (.stringIter s x.1)/\(x.1=0\/lower ((sK s).headD 0)=true)/\((sK s).take x.1).all AA=true,mu:=λx=>s.size-x.1})] [] [] false
noncomputable def bJQ s m h:=
 ctx [] [Hp 4 (λi=>bY 50 51 [(0,vv (.string s)),(3,iv i)] [] m h) (λi=>i<=s.size/\((sK s).take i).all AA=true) (λi=>s.size-i)] [] [] false
abbrev PC(a b:(Nat×Nat×MH)->Prop):=(∃(x:Nat×Nat×MH),a x)/\∀(x:Nat×Nat×MH),b x
abbrev j4(a:Nat×Nat×MH):=a.2.1
abbrev jE(a:Nat×Nat×MH):=a.2.2
abbrev DR a b c d:=aA (a.1<=b.size) (cW c d (j4 a)) (aA (lI c (jE a) (j4 a) (Obj.stringIter b a.1)) (a.1=0\/iX (lower (headD (sK b) 0))) (iX (List.all (List.take a.1 (sK b)) AA)))
abbrev cA a b:=WG a 0=WG b 0
abbrev FB a b:=(Utf8.decode a b).1
abbrev CJ(a:ByteArray)(b c:Nat):=a.size-b<a.size-c
abbrev H8(a:(Nat×Nat×MH)->Prop)(b:ByteArray)(c:Nat×Nat×MH)(d:MH)(e:PH):=∃(x:Nat×Nat×MH),aA (a x) (CJ b x.1 c.1) (aA (cA (j4 c) (j4 x)) (d=jE x) (bU e e))
attribute [push_cast] PC j4 jE DR cA FB CJ H8
def Nh(s:ByteArray)(m:MH)(h:PH)(K:cq):=
  aY (↑s.size:Int) 1 (K bD m h) (gA (↑s.size:Int) 32 (K bD m h) (∀(b:Nat)(e:MH),bH (cW m h b) (lI m e b (Obj.stringIter s 0)) (PC (λx=>aA (DR x s m h) (cA b (j4 x)) (aA (e=jE x) (h=h) True)) (λx=>DR x s m h->∃(c:ByteArray)(p:Nat),aA (sL (jE x) (j4 x) (Obj.stringIter c p)) (c.size<=p->K jF (jE x) h) (p<c.size->∀(d:MH),lI (jE x) d (j4 x) (Obj.stringIter c (p+(Utf8.decode c p).2))->dQ (decide ((↑(FB c p):Int)>=97)) (pI (decide ((↑(FB c p):Int)<=122)) (dQ ((↑p:Int)==0) (K bD d h) ((↑(FB c p):Int) !=95) (aY (↑(FB c p):Int) 48 (K bD d h) (gA (↑(FB c p):Int) 57 (K bD d h) (H8 (λy=>DR y s m h) s x d h))) (H8 (λy=>DR y s m h) s x d h)) (H8 (λy=>
 DR y s m h) s x d h)) ((↑p:Int)==0) (K bD d h) (dR (↑(FB c p):Int) 95 (aY (↑(FB c p):Int) 48 (K bD d h) (gA (↑(FB c p):Int) 57 (K bD d h) (H8 (λy=>DR y s m h) s x d h))) (H8 (λy=>DR y s m h) s x d h)))))))
abbrev qC(a:Bool)(b:Prop)(c d:Int)(e g:Prop):=dQ a b (decide (c>d)) e g
abbrev Pa(a:Prop)(b:ByteArray)(c:Nat)(d:UInt8->UInt8)(e:UInt8->Prop):=a/\∃(x:UInt8),b.data.toList[c]? =Option.some (d x)/\e x
abbrev Ac(a:UInt8):=(↑a.toNat:Int)
abbrev A7 a b:=a<=b.size/\iX (List.all (List.take a (sK b)) AA)
abbrev nL(a:Nat):=(↑a:Int).toNat
attribute [push_cast] qC Pa Ac A7 nL
def TQ(s:ByteArray)(m:MH)(h:PH)(K:cq):=
  qC ((↑s.size:Int)==0) (K bD m h) (↑s.size:Int) 32 (K bD m h) (Pa (cN 0) s 0 (λb=>b) (λb=>aY (↑b.toNat:Int) 97 (K bD m h) (Pa (cN 0) s 0 (λd=>d) (λd=>gA (Ac d) 122 (K bD m h) (lD (∃(x:Nat),aA (A7 x s) (eQ (SV.at (NG s))) (aA (bA x) (m=m) (bU h h))) (λx=>A7 x s->aY (↑x:Int) (↑s.size:Int) (Pa (cN (↑x:Int)) s (nL x) (λc=>c) (λc=>aY (↑c.toNat:Int) 97 (aY (↑c.toNat:Int) 48 (dR (Ac c) 95 (K bD m h) (∃(y:Nat),aA (A7 y s) (CJ s y x) (aA (eQ (SV.at (NG s))) (iH (bE x 1)=bP y) (eM m m h h)))) (gA (Ac c) 57 (dR (Ac c) 95 (K bD m h) (∃(y:Nat),aA (A7 y s) (CJ s y x) (aA (eQ (SV.at (NG s))) (iH (bE x 1)=bP y) (eM m m h h)))) (∃(y:Nat),aA
 (A7 y s) (CJ s y x) (aA (eQ (SV.at (NG s))) (iH (bE x 1)=bP y) (eM m m h h))))) (gA (Ac c) 122 (aY (↑c.toNat:Int) 48 (dR (Ac c) 95 (K bD m h) (∃(y:Nat),aA (A7 y s) (CJ s y x) (aA (eQ (SV.at (NG s))) (iH (bE x 1)=bP y) (eM m m h h)))) (gA (Ac c) 57 (dR (Ac c) 95 (K bD m h) (∃(y:Nat),aA (A7 y s) (CJ s y x) (aA (eQ (SV.at (NG s))) (iH (bE x 1)=bP y) (eM m m h h)))) (∃(y:Nat),aA (A7 y s) (CJ s y x) (aA (eQ (SV.at (NG s))) (iH (bE x 1)=bP y) (eM m m h h))))) (∃(y:Nat),aA (A7 y s) (CJ s y x) (aA (eQ (SV.at (NG s))) (iH (bE x 1)=bP y) (eM m m h h)))))) (K jF m h)))))))
def lZ(h:PH)(K:cq):CV->MH->PH->Prop:=λr m' h'=>∃d c,(∀b o,d b=some o->m' b=some o)/\PH.le h c/\PH.le c h'/\K r d c
theorem lZ.here{r}(c:K r m h):lZ h K r m h:=⟨m,h,λ_ _ e=>e,.refl _,.refl _,c⟩
theorem lZ.sub{r}(c:∀b o,m b=some o->m' b=some o)(d:K r m h):lZ h K r m' h:=⟨m,h,c,.refl _,.refl _,d⟩
theorem lI.keeps{o}(f:cW m h b)(g:lI m m' b o):∀b o,m b=some o->m' b=some o:=λd n e=>by
 have c:d≠b:=λj=>by rw[j,f.m_]at e;cases e
 rw[g.other d c,e]
theorem afJ:cm 183 aQJ:=by
 refine EY func183 ?_;rintro U m h K ⟨s,rfl,E⟩;refine⟨bIQ s m h,rfl,aH,Nh s m h (λr m' h'=>∃u F,(∀b o,u b=some o->m' b=some o)/\PH.le h F/\PH.le F h'/\K r u F),ax,?_⟩;show Nh s m h (lZ h K);dsimp only[Nh,push_cast];have hl:=Uv s;refine aF (λV=>?_) (λV=>aF (λF=>?_) (λF b W D G=>?_))
 .refine .here (kR E ?_);have:¬1<=s.size:=by omega
  simp[qZ,this]
 .refine .here (kR E ?_);have:¬s.size<=32:=by omega
  simp[qZ,this]
 refine⟨⟨(0,b,W),⟨ay,D,G,.inl rfl,ay⟩,MT⟩,?_⟩;rintro⟨d,b,mx⟩ ⟨X,D,n,g,f⟩;simp only at X D n g f;refine⟨s,d,⟨n.at_⟩,λY=>?_,λZ u H=>?_⟩
 .refine .sub (lI.keeps D n) (kR E ?_);rw[bt aC]at f
  have h3:lower ((sK s).headD 0)=true:=by
   grind
  have O:1<=s.size:=by omega
  have Q:s.size<=32:=by omega
  simp only[qZ,f,h3,decide_eq_true O,decide_eq_true Q];rfl
 .have t:=n.trans H;obtain⟨c,M⟩:∃c,(sK s)[d]? =some c:=⟨(sK s)[d]'(by omega),bn _⟩
  obtain⟨T,R⟩:=bkJ M
  have z:d=0->(sK s).headD 0=c:=λe=>by
   subst e;cases a':sK s with
   |nil=>grind
   |cons x l=>grind
  have I:¬((97<=(Utf8.decode s d).1/\(Utf8.decode s d).1<=122)\/(d≠0/\((Utf8.decode s d).1=95\/(48<=(Utf8.decode s d).1/\(Utf8.decode s d).1<=57))))->lZ h K (.val (.bool false)) u h:=by
   intro hn;refine .sub (lI.keeps D t) (kR E ?_);by_cases j:(s.get! d).toNat<128
   .rw[Ny j,T]at hn;by_cases S:d=0
    .have:lower c=false:=by
      simp only[lower,Bool.and_eq_false_iff,decide_eq_false_iff_not];omega
     simp only[qZ,z S,this,Bool.and_false,Bool.false_and]
    .have:AA c=false:=by
      simp only[AA,lower,Bool.or_eq_false_iff,Bool.and_eq_false_iff,decide_eq_false_iff_not,beq_eq_false_iff_ne];omega
     simp[qZ,PG M this]
   .have:AA c=false:=by
     simp only[AA,lower,Bool.or_eq_false_iff,Bool.and_eq_false_iff,decide_eq_false_iff_not,beq_eq_false_iff_ne];omega
    simp[qZ,PG M this]
  have J:((97<=(Utf8.decode s d).1/\(Utf8.decode s d).1<=122)\/(d≠0/\((Utf8.decode s d).1=95\/(48<=(Utf8.decode s d).1/\(Utf8.decode s d).1<=57))))->d+1<=s.size/\lI m u b (.stringIter s (d+1))/\lower ((sK s).headD 0)=true/\((sK s).take (d+1)).all AA=true:=by
   intro A
   have j:(s.get! d).toNat<128:=by
    refine Decidable.byContradiction λj=>?_;have:=bkZ j;omega
   rw[Ny j]at t;rw[Ny j,T]at A;simp only at A;refine⟨aC,t,?_,?_⟩
   .rcases g with e|e
    .rw[z e];simp only[lower,bz,ce];omega
    .exact e
   .rw[BW M,f];simp only[AA,lower,Bool.true_and,Bool.or_eq_true,bz,ce,beq_iff_eq];omega
  have next:((97<=(Utf8.decode s d).1/\(Utf8.decode s d).1<=122)\/(d≠0/\((Utf8.decode s d).1=95\/(48<=(Utf8.decode s d).1/\(Utf8.decode s d).1<=57))))->_:=λA=>(⟨(d+1,b,u),⟨(J A).1,D,(J A).2.1,.inr (J A).2.2.1,(J A).2.2.2⟩,aC,MT⟩:∃(y:Nat×Nat×MH),(y.fst<=s.size/\cW m h y.snd.fst/\lI m y.snd.2 y.snd.fst (Obj.stringIter s y.fst)/\(y.fst=0\/lower ((sK s).headD 0)=true)/\(List.take y.fst (sK s)).all AA=true)/\s.size-y.fst<s.size-d/\SV.at (At.val (Value.pointer (some (Addr.mk b 0 none))))=SV.at (At.val (Value.pointer (some (Addr.mk y.snd.fst 0 none))))/\u=y.snd.2/\h=h/\True)
  clear J t H f g z n G E
  repeat' (first|(refine aD (λ_=>?_) (λ_=>?_))|exact I (by simp only[ce,decide_eq_false_iff_not,bne_iff_ne,ne_eq,beq_iff_eq,beq_eq_false_iff_ne,bne_eq_false_iff_eq,Bool.not_eq_true',Bool.not_eq_false']at*;omega)|exact next (by simp only[ce,decide_eq_false_iff_not,bne_iff_ne,ne_eq,beq_iff_eq,beq_eq_false_iff_ne,bne_eq_false_iff_eq,Bool.not_eq_true',Bool.not_eq_false']at*;omega))
theorem ahZ:cm 173 aQJ:=by
 refine jC func173 ?_;rintro I m h K ⟨s,rfl,j⟩;refine⟨bJQ s m h,rfl,aH,TQ s m h K,ax,?_⟩;dsimp only[TQ,push_cast];have T:=Uv s;refine aD (λu=>kR j ?_) (λu=>aF (λJ=>kR j ?_) (λJ=>?_))
 .have:¬1<=s.size:=by have:(s.size:Int)=0:=(bk u);omega
  simp[qZ,this]
 .have:¬s.size<=32:=by omega
  simp[qZ,this]
 have u:s.size≠0:=by intro e;rw[e]at u;simp at u
 obtain⟨t,d⟩:∃c,s.data.toList[0]? =some c:=⟨s.data.toList[0]'(by simpa using(by omega:0<s.size)),bn _⟩
 have g:(sK s).headD 0=t.toNat:=by
  unfold sK;cases z:s.data.toList with
  |nil=>rw[z]at d;simp at d
  |cons x l=>rw[z]at d;simp at d;simp[d]
 refine⟨aC,t,d,aF (λM=>kR j ?_) (λM=>⟨aC,t,d,aF (λO=>kR j ?_) (λO=>?_)⟩)⟩
 .have:lower t.toNat=false:=by simp only[lower,Bool.and_eq_false_iff,decide_eq_false_iff_not];omega
  simp only[qZ,g,this,Bool.and_false,Bool.false_and]
 .have:lower t.toNat=false:=by simp only[lower,Bool.and_eq_false_iff,decide_eq_false_iff_not];omega
  simp only[qZ,g,this,Bool.and_false,Bool.false_and]
 refine⟨⟨0,⟨aC,ay⟩,MT⟩,λi D=>aF (λQ=>?_) (λR=>kR j ?_)⟩
 .obtain⟨c,H⟩:∃c,s.data.toList[i]? =some c:=⟨s.data.toList[i]'(by simpa using(by omega:i<s.size)),bn _⟩
  have n:(sK s)[i]? =some c.toNat:=by simp[sK,H]
  have f:AA c.toNat=false->K (.val (.bool false)) m h:=λe=>kR j (by simp[qZ,PG n e]);have next:AA c.toNat=true->∃(y:Nat),(y<=s.size/\(List.take y (sK s)).all AA=true)/\s.size-y<s.size-i/\SV.at (At.val (Value.string s))=SV.at (At.val (Value.string s))/\SV.at (At.val (Value.int IntKind.i64 (IntKind.i64.wrap ((i:Int)+1))))=SV.at (At.val (Value.int IntKind.i64 (y:Int)))/\m=m/\h=h/\True:=λe=>⟨i+1,⟨aC,by rw[BW n,D.2,e];rfl⟩,aC,MT⟩
  have A:AA c.toNat=true↔(97<=c.toNat/\c.toNat<=122)\/(48<=c.toNat/\c.toNat<=57)\/c.toNat=95:=by
   simp only[AA,lower,Bool.or_eq_true,bz,ce,beq_iff_eq];omega
  have E:AA c.toNat=false↔¬((97<=c.toNat/\c.toNat<=122)\/(48<=c.toNat/\c.toNat<=57)\/c.toNat=95):=by
   rw[<-A];simp
  refine⟨aC,c,bk H,?_⟩;clear j D g n E;rw[A]at next
  have f:=λe=>f (by rw[<-Bool.not_eq_true,A];exact e);clear A
  repeat' (first|(refine aD (λ_=>?_) (λ_=>?_))|exact f (by simp only[ce,decide_eq_false_iff_not,bne_iff_ne,ne_eq,beq_iff_eq,beq_eq_false_iff_ne,bne_eq_false_iff_eq,Bool.not_eq_true',Bool.not_eq_false']at*;omega)|exact next (by simp only[ce,decide_eq_false_iff_not,bne_iff_ne,ne_eq,beq_iff_eq,beq_eq_false_iff_ne,bne_eq_false_iff_eq,Bool.not_eq_true',Bool.not_eq_false']at*;omega))
 .have:=D.2;rw[bt aC]at this;have S:lower t.toNat=true:=by simp only[lower,bz,ce];omega
  have F:1<=s.size:=by omega
  have G:s.size<=32:=by omega
  simp only[qZ,this,g,S,decide_eq_true F,decide_eq_true G];rfl
end Go.Ps
