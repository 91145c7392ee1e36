/- Own work. -/
import Derived.MapKept
import Derived.Maps.RangeRun
import Derived.Test.YtjpjambjoceofaaGreatDoorProg
import Derived.IntWalk
import Derived.ChangeKeysEq
import Derived.Test.YtjpjambjoceofaaGreatDoorRa
set_option linter.unusedVariables false
set_option linter.unusedSimpArgs false
namespace Go.Vc
open Go List
section
variable{B:tW}{C:Ctx}{ι:dc}{σ:St}{a:Act}{w:World}{o:Oper}{K:St->Prop}
theorem aNX(f:aK B ι σ a w)(ob:Obj):
 aK B ι {σ with m:=λb=>if b=w.heap.size then some ob else σ.m b} a (w.alloc ob)/\mL σ.m σ.h w.heap.size/\∀o,Ip σ ι o w (w.alloc ob):=by
 have d:=f.wrel
 have l:mL σ.m σ.h w.heap.size:=by
  constructor
  .cases e:σ.m w.heap.size with
   |none=>rfl
   |some x=>have:=(Array.getElem?_eq_some_iff.1 (d.msat _ _ e)).1;omega
  .intro i;cases e:σ.h w.heap.size i with
   |none=>rfl
   |some x=>have:=World.block_lt_of_cell? w ⟨w.heap.size,i,none⟩ (d.hsat _ _ _ e);simp at this
 have r:(w.alloc ob).heap.size=w.heap.size+1:=by show(w.heap.push ob).size=_;simp
 refine⟨⟨f.slots,f.defers,λk n j=>(f.own k n j).world (λb c=>fL w ob (rH (f.own k n j) c)),f.dist,?_,?_,f.one⟩,l,λo=>⟨?_,?_,λ_ b c=>fL w ob c,λ_ b _ c _ _=>fL w ob c⟩⟩
 .intro k n b j c;obtain⟨z,A,D⟩:=f.fresh k n b j c;have t:=rH (f.own k n j) c
  grind
 .refine⟨d.tape,d.os,d.output,d.drawn,by rw[r];exact Nat.le_succ_of_le d.size,?_,?_,?_,?_,d.hle,d.hold,?_⟩
  .intro b c u;rw[fL w ob (ck c d.size)];exact d.frame b c u
  .intro b i v s;have g:=d.hsat b i v s;rw[<-g];exact World.cell?_of_block (w:=w) (w':=w.alloc ob) (a:=⟨b,i,none⟩) (fL w ob (World.block_lt_of_cell? w ⟨b,i,none⟩ g))
  .intro b x c;have c:(if b=w.heap.size then some ob else σ.m b)=some x:=c;by_cases e:b=w.heap.size
   .rw[if_pos e]at c;rw[e,kK];exact c
   .rw[if_neg e]at c;have g:=d.msat b x c;rw[fL w ob (Array.getElem?_eq_some_iff.1 g).1];exact g
  .intro b x c i;have c:(if b=w.heap.size then some ob else σ.m b)=some x:=c;by_cases e:b=w.heap.size
   .rw[e];exact l.h_ i
   .rw[if_neg e]at c;exact d.disj b x c i
  .intro b x c;have c:(if b=w.heap.size then some ob else σ.m b)=some x:=c;by_cases e:b=w.heap.size
   .left;rw[e];exact d.size
   .rw[if_neg e]at c;exact d.mfr b x c
 .intro k p T E b j _ y;exact fL w ob (rH (f.own k _ j) (by rw[y];rfl))
 .intro b i v s;have g:=d.hsat b i v s;rw[<-g];exact World.cell?_of_block (w:=w) (w':=w.alloc ob) (a:=⟨b,i,none⟩) (fL w ob (World.block_lt_of_cell? w ⟨b,i,none⟩ g))
theorem Ue(n:aK B ι σ a w){b:Nat}{y ob:Obj}(t:σ.m b=some y):
 aK B ι {σ with m:=λc=>if c=b then some ob else σ.m c} a {w with heap:=w.heap.setIfInBounds b ob}/\∀o,AD o.op=false->Ip σ ι o w {w with heap:=w.heap.setIfInBounds b ob}:=by
 have g:=n.wrel;have z:b<w.heap.size:=(Array.getElem?_eq_some_iff.1 (g.msat _ _ t)).1
 have f:∀c,c≠b->(w.heap.setIfInBounds b ob)[c]? =w.heap[c]? :=λc l=>by
  grind
 have A:(w.heap.setIfInBounds b ob)[b]? =some ob:=by simp[z]
 have u:∀k r,nth σ.own k=some (some r)->blk (ι k)≠some b:=by
  intro k r s F;have:=(n.fresh k r b s F).2.1
  grind
 have j:∀c i v,σ.h c i=some v->({w with heap:=w.heap.setIfInBounds b ob}:World).cell? ⟨c,i,none⟩=some v:=by
  intro c i v D;have l:c≠b:=λe=>by subst e;rw[g.disj c _ t i]at D;cases D
  have E:=g.hsat c i v D;rw[<-E];exact World.cell?_of_block (w:=w) (w':={w with heap:=w.heap.setIfInBounds b ob}) (a:=⟨c,i,none⟩) (f c l)
 refine⟨⟨n.slots,n.defers,λk r s=>(n.own k r s).world (λc d=>f c (λe=>u k r s (e▸d))),n.dist,?_,?_,n.one⟩,λo I=>⟨?_,j,λh=>bg,λ_ c _ _ J _=>f c (λe=>bg)⟩⟩
 .intro k r c s d;obtain⟨L,M,N⟩:=n.fresh k r c s d
  grind
 .refine⟨g.tape,g.os,g.output,g.drawn,bk g.size,?_,j,?_,?_,g.hle,g.hold,?_⟩
  .intro c d G
   have l:c≠b:=λe=>by
    subst e;rcases g.mfr c _ t with E|E
    .omega
    grind
   rw[f c l];exact g.frame c d G
  .intro c x d;have d:(if c=b then some ob else σ.m c)=some x:=d;by_cases e:c=b
   .grind
   .rw[if_neg e]at d;rw[f c e];exact g.msat c x d
  .intro c x d i;have d:(if c=b then some ob else σ.m c)=some x:=d;by_cases e:c=b
   .rw[e];exact g.disj b _ t i
   .rw[if_neg e]at d;exact g.disj c _ d i
  .intro c x d;have d:(if c=b then some ob else σ.m c)=some x:=d;by_cases e:c=b
   .rw[e];exact g.mfr b _ t
   .rw[if_neg e]at d;exact g.mfr c _ d
 .intro k p T O c s _ H;exact f c (λe=>u k _ s (by rw[H,e];rfl))
theorem PU(g:aK B ι σ a w){t:Nat}{r:Option Operand}(i:o.op= .makeMap t r)(h:KU o r σ K):TS B C ι o σ K a w:=by
 intro next Q b
 unfold KU at h;split at h
 .obtain⟨d,e,j⟩:=aNX g (.map #[] 0)
  have c:(execOp a.eval o).run C.P w= .ok (.value (.map (some w.heap.size))) (w.alloc (.map #[] 0)):=by
   unfold execOp;simp[i,Instr.makeMap]
  unfold Oper.wp;rw[c,Oper.upon_value];exact b ι _ _ _ (d.put o.dst (x:=.at (.val (.map (some w.heap.size)))) rfl) (h w.heap.size _ e ⟨ay,λl f=>by simp[f]⟩) (j o)
 grind
theorem aK.drew{B:tW}{ι:dc}{σ:St}{a:Act}{w:World}(h:aK B ι σ a w)(k:Nat)(c:w.drawn<=k):aK B ι σ a {w with drawn:=k}:=by
 refine⟨h.slots,h.defers,λj o d=>(h.own j o d).world (λ_ _=>rfl),h.dist,h.fresh,?_,h.one⟩;have b:=h.wrel;exact⟨b.tape,b.os,b.output,cj b.drawn c,b.size,b.frame,b.hsat,b.msat,b.disj,b.hle,b.hold,b.mfr⟩
theorem yS{α:Type}{l:List α}{j:Nat}{x:α}(h:l[j]? =some x):l=l.take j++x::l.drop (j+1):=by
 have b:=(bm h);have e:=(List.getElem?_eq_some_iff.1 h).2;rw[<-e, <-drop_eq_getElem_cons b,take_append_drop]
theorem Uo(p:aK B ι σ a w){t:Nat}{x:Operand}(z:o.op= .range t x)(h:SQ C o t x σ K):TS B C ι o σ K a w:=by
 intro next Q f
 have d:=p.ev x;unfold SQ at h;split at h
 .rename_i s r u;rw[u]at d;have d:a.eval x= .string s:=d;obtain⟨j,l,v⟩:=aNX p (.stringIter s 0)
  have g:(execOp a.eval o).run C.P w= .ok (.value (.pointer (some ⟨w.heap.size,0,none⟩))) (w.alloc (.stringIter s 0)):=by
   unfold execOp;simp[z,d,Instr.range,run_underlying r]
  unfold Oper.wp;rw[g,Oper.upon_value];exact f ι _ _ _ (j.put o.dst (x:=.at (.val (.pointer (some ⟨w.heap.size,0,none⟩)))) rfl) (h w.heap.size _ l ⟨ay,λA m=>by simp[m]⟩) (v o)
 .rename_i I J b r u;rw[u]at d;have d:a.eval x= .map (some b):=d;obtain⟨D,⟨E,c,F,n,i,y⟩,h⟩:=h;have G:=p.wrel.msat b _ F;obtain⟨j,l,v⟩:=aNX p (.mapIter (some b) c #[] c)
  have g:(execOp a.eval o).run C.P w= .ok (.value (.pointer (some ⟨w.heap.size,0,none⟩))) (w.alloc (.mapIter (some b) c #[] c)):=by
   unfold execOp;simp[z,d,Instr.range,run_underlying r,MapKept.run_getObj_map G,Result.andThen]
  unfold Oper.wp;rw[g,Oper.upon_value];have H:b≠w.heap.size:=λe=>bg
  refine f ι _ _ _ (j.put o.dst (x:=.at (.val (.pointer (some ⟨w.heap.size,0,none⟩)))) rfl) (h w.heap.size _ l ⟨λA m=>by simp[m]⟩ ⟨E,c,c, #[],c,?_,n,i,y,ay,i,Nat.le_refl _,Nat.le_refl _,?_⟩) (v o)
  .grind
  .rw[<-n];congr 1;exact filter_eq_self.2 (λ_ _=>ay)
 grind
theorem WV(v:aK B ι σ a w){x:Operand}{st:Bool}(R:o.op= .next x st)(h:WW o x st σ K):TS B C ι o σ K a w:=by
 intro next Q l
 have i:=v.ev x;unfold WW at h;split at h
 .rename_i b S;rw[S]at i;have i:a.eval x= .pointer (some ⟨b,0,none⟩):=i;obtain⟨s,t,hm,Y,Z⟩:=h;have hg:=v.wrel.msat b _ hm.at_;by_cases y:t<s.size
  .obtain⟨H,hk⟩:=Ue (ob:=.stringIter s (t+(Utf8.decode s t).2)) v hm.at_
   have d:(execOp a.eval o).run C.P w= .ok (.value (.tuple #[.bool true,.int .i64 t,.int .i32 (Utf8.decode s t).1])) {w with heap:=w.heap.setIfInBounds b (.stringIter s (t+(Utf8.decode s t).2))}:=by
    unfold execOp;simp[R,i,Instr.next,getObj,setObj,Sem.run,hg,y,goInt,Result.andThen]
   unfold Oper.wp;rw[d,Oper.upon_value];refine l ι _ _ _ (H.put o.dst (x:=.tup _) ?_) (Z y _ ⟨ay,λb' I=>by simp[I]⟩) (hk o (by rw[R];rfl));exact⟨_,rfl,rfl,rfl,rfl,trivial⟩
  .have d:(execOp a.eval o).run C.P w= .ok (.value (.tuple #[.bool false])) w:=by
    unfold execOp;simp[R,i,Instr.next,getObj,Sem.run,hg,y,Result.andThen]
   unfold Oper.wp;rw[d,Oper.upon_value];refine l ι _ _ _ (v.put o.dst (x:=.tup _) ?_) (Y aD) (lM v);exact⟨_,rfl,rfl,trivial⟩
 .rename_i r S;rw[S]at i;have i:a.eval x= .pointer (some ⟨r,0,none⟩):=i;obtain⟨b,a4,left,⟨p,f,g,c,c0,a',a0,J,M,T,E,a1,F,N⟩,Y,Z⟩:=h;have a2:=v.wrel.msat b _ a';have a3:=v.wrel.msat r _ T;rcases run_next_at (P:=C.P) w o.type r b g c0 c p f a3 a2 E a1 with⟨h0,d⟩|⟨e,he,w1,hw1,d⟩
  .have hl:left=[]:=by
    rw[<-N];have:(leftOf p c).toList=[]:=bg
    unfold leftOf at this
    grind
   have d:(execOp a.eval o).run C.P w= .ok (.value (.tuple #[.bool false])) w:=by
    unfold execOp;simp[R,i,d,Result.andThen]
   unfold Oper.wp;rw[d,Oper.upon_value];refine l ι _ _ _ (v.put o.dst (x:=.tup _) ?_) (Y hl) (lM v);exact⟨_,rfl,rfl,trivial⟩
  .have O:∃n,aK B ι σ a w1/\w1={w with drawn:=n}:=by
    rcases hw1 with rfl|rfl
    .grind
    .exact⟨w.drawn+1,v.drew (w.drawn+1) (Nat.le_succ _),rfl⟩
   obtain⟨n,O,U⟩:=O;obtain⟨H,hk⟩:=Ue (ob:=.mapIter (some b) g (c.push e.born) f) O T
   have d:(execOp a.eval o).run C.P w= .ok (.value (.tuple #[.bool true,e.key,e.val])) {w1 with heap:=w1.heap.setIfInBounds r (.mapIter (some b) g (c.push e.born) f)}:=by
    unfold execOp;simp[R,i,d,Result.andThen,ChangeMaps.setBlock]
   have V:e∈p.toList.filter λe=> !c.contains e.born:=by
    unfold leftOf at he
    grind
   have W:e∈p.toList:=(mem_filter.1 V).1;obtain⟨j,hj⟩:=getElem?_of_mem V;have z:=yS hj;have a5:r≠b:=λe=>bg
   have u:(((p.toList.filter λe=> !c.contains e.born)).map (·.born)).Nodup:=M.sublist (filter_sublist.map _)
   have X:p.toList.filter (λx=> !(c.push e.born).contains x.born)=(p.toList.filter λe=> !c.contains e.born).take j++(p.toList.filter λe=> !c.contains e.born).drop (j+1):=by
    have h3:p.toList.filter (λx=> !(c.push e.born).contains x.born)=(p.toList.filter λe=> !c.contains e.born).filter λx=>x.born !=e.born:=by
     rw[filter_filter]
     grind
    rw[h3];generalize (p.toList.filter λe=> !c.contains e.born)=L at z u hj;have y:=(bm hj);generalize L.take j=A at z;generalize L.drop (j+1)=D at z;subst z;simp only[bw,map_cons,nodup_append,nodup_cons,mem_map,mem_cons]at u;obtain⟨_,⟨a6,_⟩,a7⟩:=u;rw[filter_append,filter_cons];simp only[bne_self_eq_false,Bool.false_eq_true,if_false];congr 1
    .refine filter_eq_self.2 λx S=>?_
     grind
    .refine filter_eq_self.2 λx S=>?_
     grind
   unfold Oper.wp;rw[d,Oper.upon_value];have G:(if b=r then some (Obj.mapIter (some b) g (c.push e.born) f)else σ.m b)=some (.map p f):=bg
   refine l ι _ _ _ (H.put o.dst (x:=.tup _) ?_) (Z (((p.toList.filter λe=> !c.contains e.born).take j).map λe=>(e.key,e.val)) (e.key,e.val) (((p.toList.filter λe=> !c.contains e.born).drop (j+1)).map λe=>(e.key,e.val)) ?_ _ ⟨λb' I=>by simp[I]⟩ ⟨⟨p,f,g,c.push e.born,f,G,a0,J,M,ay,E,F,F,?_⟩,p,f,g,c,e,G,M,ay,W,rfl⟩) ?_
   .exact⟨_,rfl,rfl,rfl,rfl,trivial⟩
   .grind
   .grind
   .have:=hk o (by rw[R];rfl);subst U;exact⟨this.cells,this.imm,this.ext,this.args⟩
 grind
theorem VT(j:aK B ι σ a w){x:Operand}(u:o.op= .entry x)(h:Tt C o x σ K):TS B C ι o σ K a w:=by
 intro next Q f
 have d:=j.ev x;unfold Tt at h;split at h
 .rename_i r v;rw[v]at d;have d:a.eval x= .pointer (some ⟨r,0,none⟩):=d;obtain⟨b,y,left,x,⟨_,z,g,i,l,e,m,n,p,A,rfl⟩,h⟩:=h;have c:=run_entry_at (P:=C.P) w r b i l z g e (j.wrel.msat r _ p) (j.wrel.msat b _ m) A n
  have c:(execOp a.eval o).run C.P w= .ok (.value (.tuple #[e.key,e.val])) w:=by
   unfold execOp;simp[u,d,c,Result.andThen]
  have h:K (σ.put o.dst (.tup [.inl (.val e.key),.inl (.val e.val)])):=by
   split at h
   .obtain⟨s,t,h⟩:=h;have t:e.val=Sl.val s:=t;rw[t];exact h
   .exact h
  unfold Oper.wp;rw[c,Oper.upon_value];refine f ι _ _ _ (j.put o.dst (x:=.tup _) ?_) h (lM j);exact⟨_,rfl,rfl,rfl,trivial⟩
 grind
theorem FC{P:Program}{g:TypeId}{Ok:Value->Prop}(L:KeyLaw P g Ok){k:Value}(p:Ok k)(w:World):∀(b:List MapEntry)(i:Nat),(∀e∈b,Ok e.key)->
 ((∀e∈b,e.key≠k)/\(Instr.findAsking g k b i).run P w= .ok none w)\/∃j e,b[j]? =some e/\e.key=k/\(Instr.findAsking g k b i).run P w= .ok (some (i+j,e.val)) w
 |[],i,_=>.inl ⟨λe s=>(by cases s),by simp[Instr.findAsking]⟩
 |e::b,i,c=>by
  obtain⟨r,l,m⟩:=L.eq k e.key w p (c e ay);cases r with
  |true=>exact .inr ⟨0,e,rfl,(m.1 rfl).symm,by simp[Instr.findAsking,l]⟩
  |false=>
   have t:e.key≠k:=λh=>bg
   rcases FC L p w b (i+1) (λf d=>c f (by simp[d]))with⟨u,n⟩|⟨j,f,u,n,v⟩
   .refine .inl ⟨λf d=>?_,by simp[Instr.findAsking,l,n]⟩
    grind
   .exact .inr ⟨j+1,f,bg,n,by simp[Instr.findAsking,l,v];omega⟩
theorem findNow_spec{P:Program}{p:TypeId}{Ok:Value->Prop}(L:KeyLaw P p Ok){d:TypeDesc}(f:P.underlying p=some d){k:Value}(g:Ok k):∀(c:List MapEntry)(i:Nat)(r:Option (Nat×Value)),(∀e∈c,Ok e.key)->
 Instr.findNow d k c i=some r->((∀e∈c,e.key≠k)/\r=none)\/∃j e,c[j]? =some e/\e.key=k/\r=some (i+j,e.val)
 |[],i,r,_,h=>by
  simp[Instr.findNow]at h
  grind
 |e::c,i,r,b,h=>by
  simp only[Instr.findNow]at h;split at h
  .rename_i l;simp only[bx]at h;exact .inr ⟨0,e,rfl,((L.now d k e.key true f g (b e ay) l).1 rfl).symm,bg⟩
  .rename_i l;have t:e.key≠k:=λu=>by have:=(L.now d k e.key false f g (b e ay) l).2 u.symm;cases this
   rcases findNow_spec L f g c (i+1) r (λm n=>b m (by simp[n])) h with⟨v,s⟩|⟨j,m,v,s,x⟩
   .grind
   .exact .inr ⟨j+1,m,bg,s,bg⟩
  .cases h
theorem run_findKey{P:Program}{f:TypeId}{Ok:Value->Prop}(L:KeyLaw P f Ok){k:Value}(m:Ok k)(w:World)(b:List MapEntry)(g:∀e∈b,Ok e.key):
 ((∀e∈b,e.key≠k)/\(Instr.findKey f k b).run P w= .ok none w)\/∃j e,b[j]? =some e/\e.key=k/\(Instr.findKey f k b).run P w= .ok (some (j,e.val)) w:=by
 obtain⟨d,h⟩:=L.under;cases i:Instr.findNow d k b 0 with
 |some r=>
  have c:(Instr.findKey f k b).run P w= .ok r w:=by simp[Instr.findKey,run_underlying h,i]
  rcases findNow_spec L h m b 0 r g i with⟨l,rfl⟩|⟨j,e,l,n,rfl⟩
  .grind
  grind
 |none=>
  have c:(Instr.findKey f k b).run P w=(Instr.findAsking f k b).run P w:=by simp[Instr.findKey,run_underlying h,i]
  rw[c];rcases FC L m w b 0 g with⟨l,n⟩|⟨j,e,l,n,p⟩
  .grind
  grind
theorem TU{P:Program}{T:TypeId}{z:Value}(h:SA P T=some z)(w:World):(zeroValue T).run P w= .ok z w:=by
 unfold SA at h;split at h
 .rename_i i d;split at h
  .rename_i k n c;simp only[bx]at h;subst h;simp[zeroValue,typeInfo,d,c]
  .rename_i b c;simp only[bx]at h;subst h;simp[zeroValue,typeInfo,d,c]
  .rename_i c;simp only[bx]at h;subst h;simp[zeroValue,typeInfo,d,c]
  .cases h
 .cases h
theorem S7(i:aK B ι σ a w){t:Nat}{x k:Operand}{ok:Bool}(J:o.op= .lookup t x k ok)(h:On C o t x k ok σ K):TS B C ι o σ K a w:=by
 intro next Q c
 have d:=i.ev x;unfold On at h;split at h
 .rename_i kt D b M N V E;rw[V]at d;have d:a.eval x= .map (some b):=d;have n:a.eval k=M:=(i.ev k).val? E;split at h
  .rename_i z W;obtain⟨r,Ok,⟨m,F,X,Y⟩,L,s,O,l,v⟩:=h;have R:=i.wrel.msat b _ X
   have y:∀e∈m.toList,∃p∈r,e.key=p.1/\e.val=only ((C.dec D).enc p.2):=by
    intro e G
    have:(e.key,e.val)∈r.map λp=>(p.1,only ((C.dec D).enc p.2)):=by
     grind
    grind
   have A:∀e∈m.toList,Ok e.key:=λe G=>by
    grind
   have g:=L.check M w m.isEmpty s;unfold Oper.wp;rcases run_findKey L s w m.toList A with⟨S,T⟩|⟨j,e,S,T,Z⟩
   .have f:(execOp a.eval o).run C.P w= .ok (.value (if ok then .tuple #[z,.bool false]else z)) w:=by
     unfold execOp;simp[J,d,n,Instr.lookup,run_underlying N,MapKept.run_getObj_map R,g,T,TU W,Result.andThen]
    rw[f,Oper.upon_value];refine c ι _ _ _ (i.put o.dst ?_) (l ?_) (lM i)
    .cases ok
     .rfl
     .exact⟨_,rfl,rfl,rfl,trivial⟩
    .intro p hp e1
     have:(p.1,only ((C.dec D).enc p.2))∈m.toList.map λe=>(e.key,e.val):=by
      grind
     grind
   .have G:e∈m.toList:=br S;obtain⟨p,hp,e1,H⟩:=y e G
    have f:(execOp a.eval o).run C.P w= .ok (.value (if ok then .tuple #[e.val,.bool true]else e.val)) w:=by
     unfold execOp;simp[J,d,n,Instr.lookup,run_underlying N,MapKept.run_getObj_map R,g,Z,Result.andThen]
    have U:=v p.2 bg;rw[f,Oper.upon_value];split at U
    .rename_i u I;rw[I]at H;refine c ι _ _ _ (i.put o.dst ?_) U (lM i);cases ok
     .exact H
     .exact⟨_,rfl,H,rfl,trivial⟩
    grind
  grind
 grind
theorem MJ(i:aK B ι σ a w){t:Nat}{x k v:Operand}(J:o.op= .mapUpdate t x k v)(l:o.dst=none)(h:CS C t x k v σ K):TS B C ι o σ K a w:=by
 intro next Q f
 have d:=i.ev x;unfold CS at h;split at h
 .rename_i Z et b m u T U A V;rw[U]at d;have d:a.eval x= .map (some b):=d;have D:a.eval k=m:=(i.ev k).val? A;have E:a.eval v=u:=(i.ev v).val? V;obtain⟨F,Ok,⟨g,c,M,G⟩,L,n,p,N,W⟩:=h;have O:=i.wrel.msat b _ M;have r:∀e∈g.toList,(e.key,e.val)∈F:=λe R=>bg
  have s:∀e∈g.toList,Ok e.key:=λe R=>p _ (r e R);have y:=L.check m w false n;rcases run_findKey L n w g.toList s with⟨X,S⟩|⟨j,e,X,S,h3⟩
  .obtain⟨H,Y⟩:=Ue (ob:=.map (g.push {key:=m,val:=u,born:=c}) (c+1)) i M
   have z:(execOp a.eval o).run C.P w= .ok .skip {w with heap:=w.heap.setIfInBounds b (.map (g.push {key:=m,val:=u,born:=c}) (c+1))}:=by
    unfold execOp;simp[J,d,D,E,Instr.mapUpdate,run_underlying T,MapKept.run_getObj_map O,MapKept.run_setObj_map _ O,y,S,Result.andThen]
   unfold Oper.wp;rw[z,Oper.upon_skip,show a.put o.dst undef=a by rw[l];rfl];refine f ι _ _ _ H (W _ ⟨λb' I=>by simp[I]⟩ ⟨g.push {key:=m,val:=u,born:=c},c+1,ay,?_⟩) (Y o (by rw[J];rfl));simp[G]
  grind
 grind
theorem S6(z:aK B ι σ a w){t:Nat}{x k v:Operand}(N:o.op= .mapUpdate t x k v)(m:o.dst=none)(h:JR C t x k v σ K):TS B C ι o σ K a w:=by
 intro next Q f
 have g:=z.ev x;unfold JR at h;split at h
 .rename_i kt et b l u hu hx R hv;rw[hx]at g;have g:a.eval x= .map (some b):=g;have A:a.eval k=l:=(z.ev k).val? R;have D:a.eval v=u:=(z.ev v).val? hv;obtain⟨S,Ok,⟨d,c,T,U,V,a1⟩,L,E,r,F,G,H⟩:=h;have O:=z.wrel.msat b _ T;have I:∀e∈d.toList,(e.key,e.val)∈S:=λe W=>bg
  have J:∀e∈d.toList,Ok e.key:=λe W=>F _ (I e W);have n:=L.check l w false E;rcases run_findKey L E w d.toList J with⟨X,Y⟩|⟨j,e,X,Y,h3⟩
  .obtain⟨s,Z⟩:=Ue (ob:=.map (d.push {key:=l,val:=u,born:=c}) (c+1)) z T
   have i:(execOp a.eval o).run C.P w= .ok .skip {w with heap:=w.heap.setIfInBounds b (.map (d.push {key:=l,val:=u,born:=c}) (c+1))}:=by
    unfold execOp;simp[N,g,A,D,Instr.mapUpdate,run_underlying hu,MapKept.run_getObj_map O,MapKept.run_setObj_map _ O,n,Y,Result.andThen]
   unfold Oper.wp;rw[i,Oper.upon_skip,show a.put o.dst undef=a by rw[m];rfl];refine f ι _ _ _ s (G (λp hp e1=>?_) _ ⟨λb' y=>by simp[y]⟩ ⟨d.push {key:=l,val:=u,born:=c},c+1,ay,by simp[U],λe W=>?_,?_⟩) (Z o (by rw[N];rfl))
   .grind
   .grind
   grind
  .have M:=(bm X);have a':d[j]? =some e:=bg
   obtain⟨s,Z⟩:=Ue (ob:=.map (d.modify j λe=>{e with key:=l,val:=u}) c) z T
   have i:(execOp a.eval o).run C.P w= .ok .skip {w with heap:=w.heap.setIfInBounds b (.map (d.modify j λe=>{e with key:=l,val:=u}) c)}:=by
    unfold execOp;simp[N,g,A,D,Instr.mapUpdate,run_underlying hu,MapKept.run_getObj_map O,MapKept.run_setObj_map _ O,n,h3,a',Y,Instr.keyThatStays,r,Result.andThen]
   have a0:(d.modify j λe=>{e with key:=l,val:=u}).toList=d.toList.take j++{e with key:=l,val:=u}::d.toList.drop (j+1):=by
    rw[Array.toList_modify,modify_eq_take_cons_drop M]
    grind
   have a2:=yS X;unfold Oper.wp;rw[i,Oper.upon_skip,show a.put o.dst undef=a by rw[m];rfl];refine f ι _ _ _ s (H ((d.toList.take j).map λe=>(e.key,e.val)) e.val ((d.toList.drop (j+1)).map λe=>(e.key,e.val)) ?_ _ ⟨λb' y=>by simp[y]⟩ ⟨d.modify j λe=>{e with key:=l,val:=u},c,ay,?_,?_,?_⟩) (Z o (by rw[N];rfl))
   .grind
   .grind
   .grind
   grind
 grind
end
end Go.Vc
namespace Go.Vc
open Go List
section
variable{B:tW}{C:Ctx}{ι:dc}{σ:St}{a:Act}{w:World}{o:Oper}{K:St->Prop}
theorem aKZ(g:aK B ι σ a w)(u:Fl o.op=true)(h:PR C o σ K):TK C ι o σ K a w:=by
 unfold PR at h;cases j:o.op<;>simp only[j]at h u
 case move x=>exact Ol g (.inl j) h
 case assign x=>exact Ol g (.inr j) h
 case pick c x y=>exact WG g j h
 case build T ps=>exact V4 g j h
 case load T x=>exact W0 g j h
 case nilCheck x=>exact N9 g j h
 case binOp op tx x y ty=>
  cases op
  case eql=>
   simp only at h;split at h
   .exact FA (neg:=false) g j h
   .exact lT g (λp b=>bg) h
  case neq=>
   simp only at h;split at h
   .exact FA (neg:=true) g j h
   .exact lT g (λp b=>bg) h
  case add=>exact Tx g j h
  all_goals first
   |exact lT g (λp b=>by rw[j];intro e;cases e) h
   |exact aAJ g j h
 case unOp op t x=>exact lT g (λp b=>bg) h
 case convert s d x=>exact P1 g j h
 case fieldAddr T x f=>exact MM g j h
 case field T x f=>exact UY g j h
 case indexAddr T x i=>exact ML g j h
 case index T x i=>exact UO g j h
 case extract x i=>exact P0 g j h
 case call c=>
  obtain⟨l,args,m⟩:=c;cases l with
  |builtin b=>
   cases b<;>simp only[Fl,Bool.false_eq_true]at u
   case len=>
    simp only at h;split at h
    .rename_i x v;exact amX g j rfl v h
    grind
   case min=>exact lT g (λp b=>bg) h
   case max=>exact lT g (λp b=>bg) h
  |value f=>simp[Fl]at u
  |invoke r n=>grind
 all_goals (first|exact h.elim|(simp[Fl]at u))
theorem TK.stp(d:aK B ι σ a w)(h:TK C ι o σ K a w):TS B C ι o σ K a w:=by
 intro next Q b
 obtain⟨v,x,c,e,f⟩:=h;unfold Oper.wp;rw[c w (.inr rfl),Oper.upon_value];exact b ι _ _ _ (d.put o.dst e) f (lM d)
theorem Ca(e:aK B ι σ a w):∀(i:Nat)(l:dp)(ts:dx)(b:dk),rT C.P σ [] i l ts=some b->b=(l.map a.eval).map .val
 |i,[],ts,b,h=>by simp[rT]at h;subst h;rfl
 |i,x::r,ts,b,h=>by
  simp only[rT]at h;split at h
  .cases h
  .rename_i d c;have f:=Ca e (i+1) r ts.tail d c;simp only[contains_nil]at h;split at h
   .rename_i u g;simp only[bx]at h;subst h;simp only[map_cons,(e.ev x).val? g,f]
   .cases h
theorem Ko:∀(l b:cn),Nx (l.map .val) b=(l++b).map .val
 |[],_=>rfl
 |v::l,b=>by simp only[map_cons,Nx,Ko l b,cons_append]
theorem b1J{P:Program}{T:TypeId}{cs:cn}{ι:dc}:Den ι (mk P T (cs.map .val)) (valOf P T cs):=by
 unfold mk valOf;cases zC P T with
 |true=>exact⟨_,rfl,by simpa using(iN.vals (ι:=ι)).2 rfl⟩
 |false=>match cs with
  |[]=>exact trivial
  |[x]=>exact rfl
  |_::_::_=>exact trivial
theorem Sound.fat{P:Program}{f:FuncId}{S:Spec}{T:TypeId}{vs:cn}{m:MH}{h:PH}{R:cn->MH->PH->Prop}(I:Sound P f S)(L:S (vs.map .val) m h (λr m' D=>∃l,r= .val (valOf P T l)/\R l m' D)):FAt P f T (vs.map .val) m h R:=by
 have E:∀{l F:cn},l.map CV.val=F.map CV.val->l=F:=fun{l F} e=>(List.map_inj_right (λx y h=>by cases h;rfl)).1 e;refine⟨I.1,λM w N G=>?_⟩;rw[<-E N]
 have s:∀(l:cn)(w:World),Dp w (l.map .val) l:=λl w=>by
  induction l with
  |nil=>trivial
  |cons a l O=>exact⟨rfl,O⟩
 have z:∀(l:cn)(i:Nat)(c:CV)(u:Value)(b:Nat),(l.map CV.val)[i]? =some c->iL c u=some b->False:=λl i c u b p g=>by
  rw[getElem?_map]at p;cases e:l[i]? with
  |none=>grind
  |some v=>rw[e]at p;simp at p;subst p;simp[iL]at g
 refine(I.2 _ vs m h w _ L ⟨s _ _,G.hsat,G.msat,G.disj,λi j c d u v b p _ _ _ g _=>(z _ i c u b p g).elim,λi c u b p _ g=>(z _ i c u b p g).elim⟩).mono ?_;rintro e U ⟨r,u,m',D,rfl,⟨l,rfl,Q⟩,t,n,_⟩;have t:u=valOf P T l:=t;subst t
 have J:∀b,m b=none->¬yI m (vs.map .val) vs b:=by
  rintro b g (A|⟨i,c,u,p,_,V⟩)
  .exact A g
  grind
 refine⟨l,m',D,rfl,Q,⟨n.tape,n.os,n.output,n.drawn,n.size,λb g H=>n.frame b g (J b H),⟨n.hsat,n.msat,n.disj⟩,⟨n.hle⟩,λb g H=>n.hold b g (J b H),λb o g=>?_⟩⟩;rcases n.mfr b o g with A|A
 .exact .inl A
 grind
theorem aAZ(r:aK B ι σ a w){c:Call}{g:Operand}{T:TypeId}{f:FuncId}{F cs:Array Value}(Y:o.op= .call c)(hc:c.callee= .value g)
 (hg:σ.ev g= .at (.val (.func (.func f) F cs)))(a':F.toList=[])(h:bcJ C o T f cs.toList c.args.toList σ K):TS B C ι o σ K a w:=by
 intro next Q s
 unfold bcJ at h;split at h
 .rename_i a0 u;obtain⟨R,H,h⟩:=h;have I:=Ca r 0 _ _ _ u;subst I;rw[Ko]at H;have G:=r.wrel;obtain⟨Z,J,L,M⟩:=H.fn;have t:=H.go _ w rfl ⟨G.hsat,G.msat,G.disj⟩;have N:a.eval g= .func (.func f) F cs:=by have:=r.ev g;rw[hg]at this;exact this
  have y:F= #[]:=bg
  subst y;have n: #[]++c.args.map a.eval++cs=(c.args.toList.map a.eval++cs.toList).toArray:=bg
  have O:¬Z.body=none:=bg
  have S:¬Z.name= "runtime.NumGoroutine" :=bg
  have z:(execOp a.eval o).run C.P w= .ok (.enter f (c.args.toList.map a.eval++cs.toList).toArray) w:=by
   unfold execOp;simp only[Y,resolve,hc,N,Deferred.ofValue,Sem.run_bind,Sem.run_pure,Result.andThen_ok,invoke,callFunc];rw[n];simp[program,Sem.run,J,S,O]
  unfold Oper.wp;rw[z,Oper.upon_enter];refine Calls.mono t ?_;rintro e w' ⟨l,m',h',rfl,⟨x,rfl,hx⟩,d⟩;show next (a.put o.dst (valOf C.P T ((C.dec T).enc x))) w'
  have U:AO ⟨w,λb=>σ.m b≠none,σ.h,[]⟩ m' h' w':=
   ⟨d.tape,d.os,d.output,d.drawn,d.size,λb i A=>d.frame b i (Classical.byContradiction A),d.heapy.hsat,d.heapy.msat,d.heapy.disj,d.hle.le,λb i A=>d.hold b i (Classical.byContradiction A),λb V i=>d.mfr b V i⟩
  have W:=r.called U (λb i=>by
   cases hm:σ.m b with
   |none=>grind
   |some V=>exact G.mfr b V hm) (λj o' b hj i A=>A (r.fresh j o' b hj i).2.1)
  refine s ι _ _ _ (W.put o.dst b1J) (h x m' h' hx) ⟨λk p T a1 b hk _ hι=>?_,λb off v I=>d.heapy.hsat b off v (d.hle.le b off v I),λD=>?_,λl b _ i X _=>d.frame b i X⟩
  .have E:blk (ι k)=some b:=by rw[hι];rfl
   exact d.frame b (rH (r.own k _ hk) E) (r.fresh k _ b hk E).2.1
  .rw[Y]at D;simp[AD]at D
 grind
theorem UA(u:∀g S,assoc C.specs g=some S->Sound C.P g S)(e:aK B ι σ a w)(h:PR C o σ K):TS B C ι o σ K a w:=by
 cases R:Fl o.op with
 |true=>exact(aKZ e R h).stp e
 |false=>
  unfold PR at h;cases j:o.op<;>simp only[j]at h R
  case alloc T=>
   intro next Q z
   refine Wa e j h next Q (λD L E F i p G=>?_)
   obtain⟨U,s,t,_⟩:=zA _ _ i p
   grind
  case box T x=>
   split at h
   .intro next Q z
    obtain⟨τ,m,H,I⟩:=oO _ _ e h;refine Sd m j H next Q (λD L E F i p G=>?_)
    obtain⟨U,s,t,_⟩:=zA _ _ i p;exact z D U E F s t (G.of_fz I)
   .exact Sd e j h
  case buildSlice T n ps=>
   intro next Q z
   refine LO e j h next Q (λD L E F i p G=>?_)
   obtain⟨U,s,t,_⟩:=Dg _ _ i p;obtain⟨σ3,V,W,_⟩:=oO _ _ s t
   grind
  case makeFunc f x X=>
   intro next Q z
   obtain⟨τ,m,H,a0⟩:=zA _ _ e h;obtain⟨v,x,O,Y,H⟩:=lT m (λX b=>bg) H;unfold Oper.wp;rw[O w (.inr rfl),Oper.upon_value];exact z ι _ _ _ (m.put o.dst Y) H (lM e)
  case store T x v=>
   cases M:o.dst with
   |none=>
    rw[M]at h;intro next Q z
    obtain⟨τ,m,H,I⟩:=oO _ _ e h;exact T5 m j M H next Q (λD L E F i p G=>z D L E F i p (G.of_fz I))
   |some d=>grind
  case makeSlice T l c=>
   intro next Q z
   refine MK e j h next Q (λD L E F i p G=>?_)
   obtain⟨U,s,t,_⟩:=Dg _ _ i p
   grind
  case slice T x lo hi mx=>exact Ud e j h
  case makeMap T r=>exact PU e j h
  case lookup T x k ok=>exact S7 e j h
  case mapUpdate T x k v=>
   cases M:o.dst with
   |none=>
    rw[M]at h;have h:(match PT C.heapT 400000 with|true=>JR C T x k v σ K|false=>CS C T x k v σ K):=h;split at h
    .exact S6 e j M h
    .exact MJ e j M h
   |some d=>grind
  case range T x=>exact Uo e j h
  case next x b=>exact WV e j h
  case entry x=>exact VT e j h
  case call c=>
   obtain⟨A,args,N⟩:=c;cases A with
   |builtin b=>
    cases b<;>simp only[Fl,Bool.true_eq_false]at R<;>simp only at h
    case append=>
     split at h
     .rename_i x y T tx Y ht;intro next Q z
      refine TA e j rfl Y ht h next Q (λD L E F i p G=>?_)
      obtain⟨σ3,V,W,_⟩:=oO _ _ i p
      grind
     grind
    case cap=>exact(lT e (λX b=>bg) h).stp e
    all_goals exact h.elim
   |value g=>
    simp only at h;split at h
    .rename_i f fs X hg;split at h
     .split at h
      .rename_i J;exact aAZ e j rfl hg J h
      grind
     .split at h
      .rename_i J Z;exact Y3 u e j rfl hg J Z h
      grind
    grind
   |invoke r n=>exact h.elim
  all_goals (first|exact h.elim|(simp[Fl]at R))
theorem NF(c:aK B ι σ a w){d:Nat}{xs:Array Value}(h:σ.ev (.tmp d)= .at (.val (.tuple xs))):a.tmps[d]? =none\/∃xs,a.tmps[d]? =some (.tuple xs):=by
 have b:=c.ev (.tmp d);rw[h]at b;have b:a.eval (.tmp d)= .tuple xs:=b;simp only[Act.eval,Array.getD_eq_getD_getElem?]at b
 grind
theorem HI(c:aK B ι σ a w){d:Nat}{t:Bool}(h:σ.ev (.tmp d)= .at (.val (.bool t))):a.tmps[d]? =some (.bool t):=by
 have b:=c.ev (.tmp d);rw[h]at b;have b:a.eval (.tmp d)= .bool t:=b;simp only[Act.eval,Array.getD_eq_getD_getElem?]at b;cases e:a.tmps[d]? with
 |none=>rw[e]at b;simp[undef]at b
 |some v=>grind
theorem aK.setTmp(b:aK B ι σ a w){c:Operand}{t:Bool}(h:σ.ev c= .at (.val (.bool t))):aK B ι (setTmp σ c t) a w:=by
 cases c with
 |tmp d=>
  refine⟨?_,b.defers,b.own,b.dist,b.fresh,b.wrel,b.one⟩;have i:=HI b h;have:=b.slots.set d (x:=.at (.val (.bool t))) (v:=.bool t) rfl;show DenS ι (σ.sl.set d _) a.tmps.toList
  have e:a.tmps.toList.set d (.bool t)=a.tmps.toList:=by
   apply ext_getElem?
   grind
  grind
 |const v=>exact b
 |global g=>exact b
 |func f=>exact b
theorem Qz{c:Operand}{t:Bool}(h:σ.ev c= .at (.val (.bool t))):Fz σ (setTmp σ c t):=by
 cases c with
 |tmp d=>
  refine⟨λ_ _ _ i h=>⟨i,h⟩,λ_ _ _ h=>h,?_,?_,rfl⟩
  .intro x k off b;cases x with
   |tmp e=>
    simp only[Vc.setTmp,St.ev,zN]at b;simp only[St.ev]
    grind
   |const v=>exact b
   |global g=>exact b
   |func f=>exact b
  .intro x k b;cases x with
   |tmp e=>
    simp only[Vc.setTmp,St.ev,zN]at b;simp only[St.ev]
    grind
   |const v=>exact b
   |global g=>exact b
   |func f=>exact b
 |const v=>exact Fz.refl σ
 |global g=>exact Fz.refl σ
 |func f=>exact Fz.refl σ
def GWp(C:Ctx)(ops:Array Oper)(o:Oper)(a:Act)(w:World)(next:Act->World->Prop)(Q:Exit->Act->World->Prop):Prop:=
 if Region.wanted o (yielded ops a.tmps)then o.wp C.P a w next Q else next (a.put o.dst undef) w
theorem P7{ops:Array Oper}{j d:Nat}{b t:Bool}{g:Oper}(e:o.guard=some (j,b))(c:nth ops.toList j=some g)(f:g.dst=some d)(h:a.tmps[d]? =some (.bool t)):
 Region.wanted o (yielded ops a.tmps)=(t==b):=by
 unfold Region.wanted;rw[e];rw[jS,cg]at c;simp[yielded,c,f,h]
theorem Iq{ops:Array Oper}{j d:Nat}{b:Bool}{g:Oper}(f:o.guard=some (j,b))(e:nth ops.toList j=some g)(h:g.dst=some d)(c:a.tmps[d]? =none\/∃xs,a.tmps[d]? =some (.tuple xs)):
 Region.wanted o (yielded ops a.tmps)=false:=by
 unfold Region.wanted;rw[f];rw[jS,cg]at e;rcases c with c|⟨xs,c⟩<;>simp[yielded,e,h,c]
theorem CW{f:Oper->St->(St->Prop)->Prop}{ops:Array Oper}(c:aK B ι σ a w)(h:OA f ops o σ K):
 ∃e,aK B ι e a w/\Fz σ e/\((Region.wanted o (yielded ops a.tmps)=true/\f o e K)\/(Region.wanted o (yielded ops a.tmps)=false/\K (e.put o.dst (.at (.val undef))))):=by
 unfold OA at h;split at h
 .rename_i i;exact⟨σ,c,Fz.refl σ,.inl ⟨by simp[Region.wanted,i],h⟩⟩
 .rename_i j m i;split at h
  .exact h.elim
  .rename_i g n;split at h
   .exact h.elim
   .rename_i d p;split at h
    .rename_i t b;have l:=HI c b;have r:=P7 (o:=o) (a:=a) i n p l;rcases AL h with⟨rfl,h⟩|⟨rfl,h⟩
     .refine⟨setTmp σ (.tmp d) true,c.setTmp b,Qz b,?_⟩
      grind
     .refine⟨setTmp σ (.tmp d) false,c.setTmp b,Qz b,?_⟩
      grind
    .rename_i s b;exact⟨σ,c,Fz.refl σ,.inr ⟨Iq i n p (NF c b),h⟩⟩
    grind
theorem UR(c:∀g S,assoc C.specs g=some S->Sound C.P g S){ops:Array Oper}(m:aK B ι σ a w)(h:Tf C ops o σ K)
 (next:Act->World->Prop)(Q:Exit->Act->World->Prop)(b:∀i e f w',aK B i e f w'->K e->Ip σ ι o w w'->next f w'):GWp C ops o a w next Q:=by
 obtain⟨t,d,j,n⟩:=CW m h;unfold GWp;rcases n with⟨l,h⟩|⟨l,h⟩
 .rw[if_pos l];exact UA c d h next Q (λi e f w' p r s=>b i e f w' p r (s.of_fz j))
 .rw[if_neg (by simp[l])];exact b ι _ _ _ (d.put o.dst (x:=.at (.val undef)) rfl) h (lM m)
theorem Wv{P:Program}{next:Act->World->Prop}{Q:Exit->Act->World->Prop}(h:o.wp P a w next Q):o.wpIn Fence.wide 0 P a w next Q:=by
 refine⟨λ_ _=>trivial,?_⟩;show o.uponIn Fence.wide 0 P a next Q ((execOp a.eval o).run P w)
 unfold Oper.wp at h;cases b:(execOp a.eval o).run P w with
 |ok x g=>
  rw[b]at h;cases x with
  |value v=>exact h
  |skip=>exact h
  |defer d=>exact h
  |enter f args=>exact⟨λe=>by simp[Fence.wide]at e,callsIn_wide.2 h⟩
  |row r args=>
   refine⟨λe=>by simp[Fence.wide]at e,λc i _=>?_⟩;obtain⟨v,j,l,m⟩:=h c i;exact⟨v,j,l,stepsIn_wide.2 m⟩
  |_=>exact h.elim
 |halt x g=>
  rw[b]at h;cases x with
  |panic v=>exact h
  |_=>exact h.elim
def bfZ(B:tW)(C:Ctx)(o:Oper)(K:St->Prop)(a:Act)(w:World):Prop:=
 ∀(next:Act->World->Prop)(Q:Exit->Act->World->Prop),(∀e b c d,aK B e b c d->K b->next c d)->o.wpIn Fence.wide 0 C.P a w next Q
theorem TV(s:aK B ι σ a w){c:Call}{g:Operand}{l:Nat}{E cs:Array Value}(O:o.op= .call c)(R:c.callee= .value g)
 (T:σ.ev g= .at (.val (.func (.yield l) E cs)))(U:E.toList=[])(V:cs.toList=[])(h:SC C o (.func (.yield l) #[] #[]) c.args.toList σ K):bfZ B C o K a w:=by
 intro next Q p
 unfold SC at h;split at h
 .exact h.elim
 .rename_i S hS;split at h
  .rename_i W t;obtain⟨X,h⟩:=h;have Y:=Ca s 0 _ _ _ t;subst Y;have F:=s.wrel;obtain⟨Z,v,f,y,M,i⟩:=X.go l _ σ.m σ.h w _ h ⟨F.hsat,F.msat,F.disj⟩;have H:a.eval g= .func (.yield l) E cs:=by have:=s.ev g;rw[T]at this;exact this
   have z:E= #[]:=bg
   have A:cs= #[]:=bg
   subst z A;have G:c.args.map a.eval=(c.args.toList.map a.eval).toArray:=bg
   have r:(execOp a.eval o).run C.P w= .ok (.round l Z v f y) w:=by
    unfold execOp;simp only[O,resolve,R,H,Deferred.ofValue,Sem.run_bind,Sem.run_pure,Result.andThen_ok,invoke]
    grind
   refine⟨λ_ _=>trivial,?_⟩;show o.uponIn Fence.wide 0 C.P a next Q ((execOp a.eval o).run C.P w)
   rw[r,Oper.uponIn_round];refine⟨λe=>by simp[Fence.wide]at e,i.mono ?_⟩;rintro e N ⟨u,m',h',rfl,hK,d⟩;show next (a.put o.dst u) N
   have I:AO ⟨w,λb=>σ.m b≠none,σ.h,[]⟩ m' h' N:=
    ⟨d.tape,d.os,d.output,d.drawn,d.size,λb n D=>d.frame b n (Classical.byContradiction D),d.heapy.hsat,d.heapy.msat,d.heapy.disj,d.hle.le,λb n D=>d.hold b n (Classical.byContradiction D),λb J n=>d.mfr b J n⟩
   have L:=s.called I (λb n=>by
    cases hm:σ.m b with
    |none=>grind
    |some J=>exact F.mfr b J hm) (λj o' b hj n D=>D (s.fresh j o' b hj n).2.1)
   exact p ι _ _ _ (L.put o.dst (x:=.at (.val u)) rfl) hK
  grind
theorem Qo(b:∀g S,assoc C.specs g=some S->Sound C.P g S)(f:aK B ι σ a w)(h:Qp C o σ K):bfZ B C o K a w:=by
 have i:PR C o σ K->bfZ B C o K a w:=λh next Q j=>Wv (UA b f h next Q (λm n p r s t _=>j m n p r s t))
 unfold Qp at h;split at h
 .rename_i c u;split at h
  .rename_i g v;split at h
   .rename_i l y z x;split at h
    .rename_i d e;exact TV f u v x d e h
    grind
   grind
  grind
 grind
theorem PZ(c:∀g S,assoc C.specs g=some S->Sound C.P g S){ops:Array Oper}(l:aK B ι σ a w)(h:OA (Qp C) ops o σ K)
 (next:Act->World->Prop)(Q:Exit->Act->World->Prop)(b:∀m i j w',aK B m i j w'->K i->next j w'):
 if Region.wanted o (yielded ops a.tmps)then o.wpIn Fence.wide 0 C.P a w next Q else(∀f,o.about C.P w a.eval=some f->Fence.wide.fn f)/\next (a.put o.dst undef) w:=by
 obtain⟨r,d,n,p⟩:=CW l h;rcases p with⟨e,h⟩|⟨e,h⟩
 .rw[if_pos e];exact Qo c d h next Q b
 .rw[if_neg (by simp[e])];exact⟨λ_ _=>trivial,b ι _ _ _ (d.put o.dst (x:=.at (.val undef)) rfl) h⟩
theorem HL(b:∀g S,assoc C.specs g=some S->Sound C.P g S){ops:Array Oper}{Q:Exit->Act->World->Prop}{R:St->Prop}{rest:dl}(d:∀ι σ a w,aK B ι σ a w->R σ->wpOpsIn Fence.wide 0 C.P ops Q rest a w):
 ∀(l:List Oper)(s:Nat)(ι:dc)(σ:St)(a:Act)(w:World),(∀j,j<l.length->l[j]? =ops.toList[s+j]?)->aK B ι σ a w->Qg C ops l σ R->wpOpsIn Fence.wide 0 C.P ops Q (range' s l.length++rest) a w
 |[],s,ι,σ,a,w,_,c,h=>d ι σ a w c h
 |o::l,s,ι,σ,a,w,e,c,h=>by
  have f:ops[s]? =some o:=by have:=e 0 ay;grind
  simp only[ci,range'_succ,cons_append,wpOpsIn,f]
  exact PZ b c h (wpOpsIn Fence.wide 0 C.P ops Q (range' (s+1) l.length++rest)) Q (λi m n p r t=>
   HL b d l (s+1) i m n p (λj u=>by have:=e (j+1) bf;grind) r t)
end
end Go.Vc
namespace Go.Vc
open Go List
def Yd(P:Program)(ops:Array Oper)(w:World)(o:Oper)(v:Value)(a:Act):Prop:=
 (Region.wanted o (yielded ops a.tmps)=true/\(execOp a.eval o).run P w= .ok (.value v) w)\/(Region.wanted o (yielded ops a.tmps)=false/\v=undef)
def Aft(ops:Array Oper)(ok:Oper)(i:Nat):Prop:=waits ok i=true\/∃j b,ops[j]? =some b/\waits ok j=true/\waits b i=true
def Zb(ops:Array Oper)(b:Oper):Prop:=∀(k:Nat)(ok:Oper)(d:Nat),ops[k]? =some ok->ok.dst=some d->d∈b.looksAt ops->waits b k=true
structure bkX(ops:Array Oper)(i:Nat)(oi:Oper):Prop where
 mv:buZ oi.op=true
 look:∀(k:Nat)(ok:Oper)(d:Nat),ops[k]? =some ok->ok.dst=some d->d∈oi.looksAt ops->Aft ops ok i
structure Ssa(ops:Array Oper):Prop where
 look:∀(i:Nat)(oi:Oper),ops[i]? =some oi->Zb ops oi\/bkX ops i oi
 dst:∀(i k:Nat)(oi ok:Oper)(d:Nat),ops[i]? =some oi->ops[k]? =some ok->ok.dst=some d->i≠k->oi.dst≠some d
 topo:∀(i:Nat)(oi:Oper)(k:Nat),ops[i]? =some oi->waits oi k=true->k<i
 sel:∀(j:Nat)(o:Oper) cs b,ops[j]? =some o->o.op≠ .select cs b
theorem Aft.in_{ops:Array Oper}{ok:Oper}{i:Nat}{L:Array Bool}(h:Aft ops ok i)(c:∀j,waits ok j=true->L.getD j false=true)(d:∀(j:Nat)(b:Oper),ops[j]? =some b->L.getD j false=true->∀k,waits b k=true->L.getD k false=true):L.getD i false=true:=by
 rcases h with h|⟨j,b,e,f,g⟩
 .exact c i h
 grind
theorem Ssa.self{ops:Array Oper}(c:Ssa ops){k:Nat}{o:Oper}(b:ops[k]? =some o):∀d,o.dst=some d->d∉o.looksAt ops:=λd f g=>by
 rcases c.look k o b with h|h
 .have:=c.topo k o k b (h k o d b f g);omega
 .rcases h.look k o d b f g with e|⟨j,i,l,e,m⟩
  .have:=c.topo k o k b e;omega
  .have:=c.topo k o j b e;have:=c.topo j i k l m;omega
theorem aOJ{P:Program}{o:Oper}(h:buZ o.op=true):A9 P o=false:=by
 unfold A9;cases e:o.op<;>simp_all [buZ]
theorem Kv{o:Oper}{k:Nat}:waits o k=true↔∃e∈o.after,Region.binds .any e=true/\e.on=k:=by
 unfold waits;rw[any_eq_true];constructor
 .rintro⟨e,b,h⟩;simp only[bz]at h;exact⟨e,bg,h.1,ca h.2⟩
 .rintro⟨e,b,c,d⟩;exact⟨e,bg,by simp[c,d]⟩
theorem bXZ{ops:Array Oper}(h:bXJ ops=true)(t:Region.noSelect ops=true):Ssa ops:=by
 unfold bXJ at h;simp only[all_eq_true,mem_range]at h;have l:∀{i:Nat}{m:Oper},ops[i]? =some m->i<ops.toList.length:=λf=>bg
 refine⟨?_,?_,?_,Region.noSelect_spec t⟩
 .intro i m f;have c:=h i (l f);rw[jS,cg,f]at c;simp only[bz,Bool.or_eq_true,all_eq_true,mem_range]at c;rcases c.2 with p|⟨u,p⟩
  .refine .inl λk ok d g n v=>?_;have b:=p k (l g);rw[jS,cg,g]at b
   grind
  .refine .inr ⟨u,λk ok d g n v=>?_⟩;have b:=p k (l g);rw[jS,cg,g]at b;simp only[n,Bool.or_eq_true,Bool.not_eq_true',contains_eq_mem,decide_eq_false_iff_not]at b;rcases b with b|b
   .grind
   .unfold cdX at b;simp only[Bool.or_eq_true,any_eq_true,bz]at b;rcases b with b|⟨⟨x,j⟩,E,y,z⟩
    .exact .inl b
    .refine .inr ⟨j,x,?_,y,z⟩
     grind
 .intro i k m ok d f g n r;have c:=h i (l f);rw[jS,cg,f]at c;simp only[bz,all_eq_true,mem_range]at c;have b:=c.1.2 k (l g);rw[jS,cg,g]at b;simp only[n,Bool.or_eq_true]at b;rcases b with b|b
  .exact(r (ca b)).elim
  grind
 .intro i m k f A;have s:i<ops.toList.length:=bg
  have c:=h i s;rw[jS,cg,f]at c;simp only[bz,all_eq_true]at c;obtain⟨e,F,D,rfl⟩:=Kv.1 A;have:=c.1.1 e bg;simp only[D,Bool.not_true,Bool.false_or]at this;rw[<-Nat.blt_eq];exact this
theorem wL{ops:Array Oper}{b:Array Bool}{j:Nat}:j∈Region.ready .any ops b↔b.getD j true=false/\∃o,ops[j]? =some o/\∀k,waits o k=true->b.getD k false=true:=by
 rw[mem_ready];constructor
 .rintro⟨c,o,d,f⟩;refine⟨c,o,d,λk i=>?_⟩;obtain⟨e,g,h,rfl⟩:=Kv.1 i
  grind
 .rintro⟨c,o,d,f⟩;exact⟨c,o,d,λe g h=>f e.on (Kv.2 ⟨e,g,h,rfl⟩)⟩
theorem Th{l:Array Bool}{i:Nat}(h:l.getD i true=false):l.getD i false=false/\i<l.size:=by
 grind
theorem vH{l:Array Bool}{i:Nat}(h:i<l.size):(l.setIfInBounds i true).getD i false=true:=by
 simp[Array.getD,h]
theorem Ib{ops:Array Oper}{o:Oper}{c e:Act}(l:∀cs b,o.op≠ .select cs b)(h:∀t∈o.looksAt ops,c.tmps[t]? =e.tmps[t]?):
 execOp c.eval o=execOp e.eval o/\Region.wanted o (yielded ops c.tmps)=Region.wanted o (yielded ops e.tmps):=by
 constructor
 .refine execOp_congr o l λx m=>?_;cases x with
  |tmp t=>
   have:t∈o.looksAt ops:=mem_append_left _ (mem_filterMap.2 ⟨.tmp t,bg,rfl⟩);simp only[Act.eval,Array.getD_eq_getD_getElem?,h t this]
  |const v=>rfl
  |global g=>rfl
  |func f=>rfl
 .unfold Region.wanted;split
  .rfl
  .rename_i j i n
   have:yielded ops c.tmps j=yielded ops e.tmps j:=by
    unfold yielded;cases p:(ops[j]?).bind (·.dst)with
    |none=>rfl
    |some d=>
     have r:d∈o.looksAt ops:=by
      unfold Oper.looksAt
      grind
     grind
   rw[this]
theorem MU{a:Act}{d:Option Tmp}{v:Value}{t:Nat}(h:d≠some t):(a.put d v).tmps[t]? =a.tmps[t]? :=by
 cases d with
 |none=>rfl
 |some e=>
  have:e≠t:=λx=>h (by rw[x]);simp[Act.put,Array.getElem?_setIfInBounds_ne this]
theorem brX(a:Act)(d:Option Tmp)(u v:Value):(a.put d u).put d v=a.put d v:=by
 cases d with
 |none=>rfl
 |some e=>simp[Act.put]
structure Sf(P:Program)(ops:Array Oper)(L Cl:Array Bool)(ar ac:Act)(w:World):Prop where
 szL:L.size=ops.size
 szC:Cl.size=ops.size
 sub:∀i,L.getD i false=true->Cl.getD i false=true
 rd:∀(i:Nat)(o:Oper),ops[i]? =some o->Cl.getD i false=true->L.getD i false=false->Fl o.op=true
 clC:∀(i:Nat)(o:Oper),ops[i]? =some o->Cl.getD i false=true->∀k,waits o k=true->Cl.getD k false=true
 clL:∀(i:Nat)(o:Oper),ops[i]? =some o->L.getD i false=true->∀k,waits o k=true->L.getD k false=true
 tsz:ar.tmps.size=ac.tmps.size
 df:ar.defers=ac.defers
 agree:∀t,(∀(i:Nat)(o:Oper),ops[i]? =some o->Cl.getD i false=true->L.getD i false=false->o.dst≠some t)->ar.tmps[t]? =ac.tmps[t]?
 pend:∀(i:Nat)(o:Oper),ops[i]? =some o->Cl.getD i false=true->L.getD i false=false->∃v,(Zb ops o->∀w'',(A9 P o=false\/w''=w)->Yd P ops w'' o v ac)/\(bkX ops i o->∀w'',Yd P ops w'' o v ar)/\ac.put o.dst v=ac
section
variable{P:Program}{ops:Array Oper}{L Cl:Array Bool}{ar ac:Act}{w:World}
theorem Yd.congr{o:Oper}{v:Value}{a b:Act}{w:World}(h:Yd P ops w o v a)(c:execOp b.eval o=execOp a.eval o)(d:Region.wanted o (yielded ops b.tmps)=Region.wanted o (yielded ops a.tmps)):Yd P ops w o v b:=by
 unfold Yd at*
 grind
theorem Sf.looks(h:Sf P ops L Cl ar ac w){o:Oper}(b:Zb ops o)(c:∀k,waits o k=true->L.getD k false=true):∀t∈o.looksAt ops,ar.tmps[t]? =ac.tmps[t]? :=by
 intro t d;refine h.agree t (λk ok e _ g f=>?_);have:=c k (b k ok t e f d)
 grind
theorem Sf.looks'(h:Sf P ops L Cl ar ac w){i:Nat}{o:Oper}(b:bkX ops i o)(g:Cl.getD i false=false):∀t∈o.looksAt ops,ar.tmps[t]? =ac.tmps[t]? :=by
 intro t e;refine h.agree t (λk ok d c _ f=>?_);have:=(b.look k ok t d f e).in_ (h.clC k ok d c) h.clC
 grind
theorem Sf.stepA(s:Ssa ops)(h:Sf P ops L Cl ar ac w){i:Nat}{o:Oper}(x:ops[i]? =some o)(J:Cl.getD i false=true)(y:∀k,waits o k=true->L.getD k false=true){v:Value}(r:ac.put o.dst v=ac):
 Sf P ops (L.setIfInBounds i true) Cl (ar.put o.dst v) ac w:=by
 have n:i<L.size:=by rw[h.szL];grind
 have g:∀k,(L.setIfInBounds i true).getD k false=false->L.getD k false=false/\k≠i:=by
  intro k c;by_cases e:i=k
  .subst e;rw[vH n]at c;cases c
  .rw[getD_set_ne false e]at c;grind
 refine⟨bk h.szL,h.szC,?_,λk ok c f b=>h.rd k ok c f (g k b).1,h.clC,?_,?_,?_,?_,λk ok c f b=>?_⟩
 .intro k c;by_cases e:i=k
  .grind
  .rw[getD_set_ne false e]at c;exact h.sub k c
 .intro k ok c b j z;by_cases e:i=k
  .grind
  .rw[getD_set_ne false e]at b;exact getD_set_true (h.clL k ok c b j z)
 .rw[<-h.tsz];cases o.dst<;>simp[Act.put]
 .rw[<-h.df];cases o.dst<;>rfl
 .intro t A;by_cases e:o.dst=some t
  .rw[e]at r⊢
   rw[<-r];simp only[Act.put,Array.getElem?_setIfInBounds_self,h.tsz]
  .rw[MU e];refine h.agree t (λk ok c f b=>?_);by_cases D:i=k
   .grind
   .exact A k ok c f (by rw[getD_set_ne false D];exact b)
 .obtain⟨u,E,F,G⟩:=h.pend k ok c f (g k b).1;refine⟨u,E,λl p=>?_,G⟩
  have m:∀d,o.dst=some d->d∉ok.looksAt ops:=λd H I=>by
   have:=(l.look i o d x H I).in_ y h.clL
   grind
  exact(F l p).congr (execOp_put ok (s.sel k ok · · c) ar o.dst v m) (wanted_put ok ar o.dst v m)
theorem Sf.take(y:Ssa ops)(h:Sf P ops L Cl ar ac w){k:Nat}{o:Oper}(r:ops[k]? =some o)(E:Cl.getD k false=false)(W:∀j,waits o j=true->Cl.getD j false=true)(R:Fl o.op=true){v:Value}
 (O:∀c,(A9 P o=false\/c=w)->Yd P ops c o v ac):Sf P ops L (Cl.setIfInBounds k true) ar (ac.put o.dst v) w:=by
 have F:k<Cl.size:=by rw[h.szC];grind
 have f:∀j,(Cl.setIfInBounds k true).getD j false=true->j=k\/Cl.getD j false=true:=by
  intro j x;by_cases e:k=j
  .omega
  .rw[getD_set_ne false e]at x;exact .inr x
 have G:L.getD k false=false:=by
  cases S:L.getD k false with
  |false=>rfl
  |true=>rw[h.sub k S]at E;cases E
 have s:∀j,Cl.getD j false=true->(Cl.setIfInBounds k true).getD j false=true:=by
  intro j x;exact getD_set_true x
 have z:=y.self r;refine⟨h.szL,bk h.szC,λi g=>s i (h.sub i g),?_,?_,h.clL,?_,?_,?_,?_⟩
 .intro i l g b m;rcases f i b with rfl|b
  .grind
  .exact h.rd i l g b m
 .intro i l g b j x;rcases f i b with rfl|b
  .grind
  .exact s j (h.clC i l g b j x)
 .rw[h.tsz];cases o.dst<;>simp[Act.put]
 .rw[h.df];cases o.dst<;>rfl
 .intro t Q;have e:o.dst≠some t:=Q k o r (vH F) G;rw[MU e];exact h.agree t (λi l g b m=>Q i l g (s i b) m)
 .intro i l g b m;by_cases e:i=k
  .subst e;rw[r]at g;cases g;refine⟨v,λ_ c H=>(O c H).congr (execOp_put o (y.sel i o · · r) ac o.dst v z) (wanted_put o ac o.dst v z),λA c=>?_,brX _ _ _ _⟩;obtain⟨T,I⟩:=Ib (y.sel i o · · r) (h.looks' A E);exact(O c (.inl (aOJ A.mv))).congr T I
  .have n:=(f i b).resolve_left e;obtain⟨u,U,J,M⟩:=h.pend i l g n m;refine⟨u,λD c H=>?_,J,?_⟩
   .have p:∀d,o.dst=some d->d∉l.looksAt ops:=λd N V=>by
     have:=h.clC i l g n k (D k o d r N V)
     grind
    exact(U D c H).congr (execOp_put l (y.sel i l · · g) ac o.dst v p) (wanted_put l ac o.dst v p)
   rw[Act.put_comm ac v u (λd N=>y.dst i k l o d g r N e),M]
theorem TW{o:Oper}{i m:Act}{w:World}{b g:Act->World->Prop}{Q:Exit->Act->World->Prop}(p:execOp m.eval o=execOp i.eval o)(h:o.wp P i w b Q)
 (s:∀v w',b (i.put o.dst v) w'->g (m.put o.dst v) w')(t:∀d w',¬b (({i with defers:=d::i.defers}:Act).put o.dst undef) w')(y:∀c a w,¬Q (.panic c) a w):o.wp P m w g Q:=by
 unfold Oper.wp at*
 rw[p];generalize (execOp i.eval o).run P w=r at*
 cases r with
 |ok n w'=>
  cases n<;>simp only[Oper.upon]at h⊢
  case value u=>grind
  case skip=>grind
  case defer d=>grind
  case enter f args=>
   refine Calls.mono h λe j l=>?_
   grind
  case row row args=>exact Rows.mono h λu j l=>s u j l
 |halt x w'=>
  cases x<;>simp only[Oper.upon]at h⊢
  grind
theorem Sf.stepB(I:Ssa ops)(h:Sf P ops L Cl ar ac w){j:Nat}{o:Oper}(G:ops[j]? =some o)(U:Cl.getD j false=false)(R:∀k,waits o k=true->L.getD k false=true)(u:Value)(w':World)
 (J:∀(i:Nat)(c:Oper)(v:Value),ops[i]? =some c->Cl.getD i false=true->L.getD i false=false->Yd P ops w c v ac->Yd P ops w' c v ac\/A9 P c=false):
 Sf P ops (L.setIfInBounds j true) (Cl.setIfInBounds j true) (ar.put o.dst u) (ac.put o.dst u) w':=by
 have A:j<Cl.size:=by rw[h.szC];grind
 have D:j<L.size:=by rw[h.szL];grind
 have l:∀i,(Cl.setIfInBounds j true).getD i false=true->i=j\/Cl.getD i false=true:=by
  intro i b;by_cases e:j=i
  .omega
  .rw[getD_set_ne false e]at b;exact .inr b
 have m:∀i,(L.setIfInBounds j true).getD i false=false->i≠j/\L.getD i false=false:=by
  intro i b;by_cases e:j=i
  .subst e;rw[vH D]at b;cases b
  .rw[getD_set_ne false e]at b;grind
 have s:∀i,Cl.getD i false=true->(Cl.setIfInBounds j true).getD i false=true:=λi b=>getD_set_true b;refine⟨bk h.szL,bk h.szC,?_,?_,?_,?_,?_,?_,?_,?_⟩
 .intro i b;by_cases e:j=i
  .subst e;exact vH A
  .rw[getD_set_ne false e]at b;exact s i (h.sub i b)
 .intro i c b f g;obtain⟨n,p⟩:=m i g;exact h.rd i c b ((l i f).resolve_left n) p
 .intro i c b f k H;rcases l i f with rfl|f
  .rw[G]at b;cases b;exact s k (h.sub k (R k H))
  .exact s k (h.clC i c b f k H)
 .intro i c b g k H;by_cases e:j=i
  .grind
  .rw[getD_set_ne false e]at g;exact getD_set_true (h.clL i c b g k H)
 .cases o.dst<;>simp[Act.put,h.tsz]
 .have:=h.df;cases o.dst<;>exact this
 .intro t S;by_cases e:o.dst=some t
  .rw[e];simp only[Act.put,Array.getElem?_setIfInBounds_self,h.tsz]
  .rw[MU e,MU e];refine h.agree t (λi c b f g=>S i c b (s i f) ?_);have n:j≠i:=λx=>bg
   rw[getD_set_ne false n];exact g
 .intro i c b f g;obtain⟨n,p⟩:=m i g;have y:=(l i f).resolve_left n;obtain⟨v,V,M,N⟩:=h.pend i c b y p;refine⟨v,λO z W=>?_,λE z=>?_,?_⟩
  .have r:∀d,o.dst=some d->d∉c.looksAt ops:=λd F Q=>by
    have:=h.clC i c b y j (O j o d G F Q)
    grind
   have T:Yd P ops z c v ac:=by
    grind
   exact T.congr (execOp_put c (I.sel i c · · b) ac o.dst u r) (wanted_put c ac o.dst u r)
  .have r:∀d,o.dst=some d->d∉c.looksAt ops:=λd F Q=>by
    have:=(E.look j o d G F Q).in_ R h.clL
    grind
   exact(M E z).congr (execOp_put c (I.sel i c · · b) ar o.dst u r) (wanted_put c ar o.dst u r)
  .rw[Act.put_comm ac u v (λd F=>I.dst i j c o d b G F n),N]
end
section
variable{B:tW}{C:Ctx}{ι:dc}{σ:St}{a:Act}{w:World}
theorem T9{P:Program}{b:Bool}{σ:St}{c d:Oper}{K:Prop}(h:L7 P b σ c d K):L7 P b σ c d True/\K:=by
 unfold L7 at h⊢
 repeat' split at h
 all_goals first|exact h.elim|skip
 all_goals simp_all
theorem NH{P:Program}{e:Bool}{ops:Array Oper}{b:Array Bool}{σ:St}{c:Oper}:∀(l:List Oper)(s:Nat){K:Prop},Ky P e ops b σ c s l K->
 K/\∀(i:Nat)(d:Oper),l[i]? =some d->b.getD (s+i) false=true->Fl d.op=true->waits c (s+i)=false->As ops σ d=false->L7 P e σ c d True
 |[],s,K,h=>⟨h,λi d f=>by simp at f⟩
 |o::l,s,K,h=>by
  have key:(Ky P e ops b σ c (s+1) l K)/\(b.getD s false=true->Fl o.op=true->waits c s=false->As ops σ o=false->L7 P e σ c o True):=by
   simp only[Ky]at h;split at h
   .obtain⟨g,j⟩:=T9 h
    grind
   grind
  obtain⟨m,n⟩:=NH l (s+1) key.1
  grind
theorem T8{σ:St}{b c:Oper}{τ:St}{K:Prop}(h:IA σ b c τ K):IA σ b c τ True/\K:=by
 unfold IA at h⊢
 repeat' split at h
 all_goals simp_all
theorem L6{ops:Array Oper}{b:Array Bool}{σ:St}{c:Oper}{τ:St}:∀(l:List Oper)(s:Nat){K:Prop},Gl ops b σ c τ s l K->
 K/\∀(i:Nat)(d:Oper),l[i]? =some d->b.getD (s+i) false=true->Fl d.op=true->waits c (s+i)=false->As ops σ d=false->IA σ c d τ True
 |[],s,K,h=>⟨h,λi d e=>by simp at e⟩
 |o::l,s,K,h=>by
  have key:(Gl ops b σ c τ (s+1) l K)/\(b.getD s false=true->Fl o.op=true->waits c s=false->As ops σ o=false->IA σ c o τ True):=by
   simp only[Gl]at h;split at h
   .obtain⟨f,g⟩:=T8 h
    grind
   grind
  obtain⟨j,m⟩:=L6 l (s+1) key.1
  grind
theorem Tb{ops:Array Oper}{c:Oper}(e:aK B ι σ a w)(h:As ops σ c=true):Region.wanted c (yielded ops a.tmps)=false:=by
 unfold As at h;split at h
 .cases h
 .rename_i j f i;split at h
  .cases h
  .rename_i g l;split at h
   .cases h
   .rename_i d m;split at h
    .rename_i t b;rw[P7 i l m (HI e b)]
     grind
    .rename_i n b;exact Iq i l m (NF e b)
    .cases h
theorem Cc(m:aK B ι σ a w){k:Nat}{p:Own}(c:nth σ.own k=some (some p)){b:Nat}(n:blk (ι k)=some b):∀{l:dp},Hq σ k l=true->∀x∈l,∀j,(σ.ev x= .at (.lst j)\/∃off,σ.ev x= .at (.ptr j off))->blk (ι j)≠some b
 |[],_,x,d=>by cases d
 |y::r,h,x,d=>by
  simp only[Hq,bz]at h;rcases mem_cons.1 d with rfl|d
  .intro j e g;have f:=h.1;rcases e with e|⟨off,e⟩
   all_goals
    simp only[e]at f;split at f
    .rename_i s i;have:=m.dist j k _ _ b i c g n;subst this;simp at f
    .cases f
  .exact Cc m c n h.2 x d
theorem brJ{ops:Array Oper}{fl:Bool}{oj S:Oper}{v:Value}{w':World}(A:aK B ι σ a w)(hk:Ip σ ι oj w w')(f:L7 C.P fl σ oj S True)(a':fl=true->∃τ:St,AO B τ.m τ.h w'/\IA σ oj S τ True)(hy:Yd C.P ops w S v a):Yd C.P ops w' S v a\/A9 C.P S=false:=by
 unfold L7 at f;split at f
 .grind
 .left;rcases hy with⟨hw,b4⟩|hy
  .left;refine⟨hw,?_⟩;split at f
   .rename_i T x F;split at f
    .grind
    .rename_i hT;have y:=A.ev x
     have U:∀(b off:Nat)(G:cn),a.eval x= .pointer (some ⟨b,off,none⟩)->G.length=C.P.cellsOf T->(∀j u,G[j]? =some u->w.cell? ⟨b,off+j,none⟩=some u)->(∀j u,G[j]? =some u->w'.cell? ⟨b,off+j,none⟩=some u)->
      (execOp a.eval S).run C.P w'= .ok (.value v) w':=by
      intro b off G H V hc a6;have X:=Cp hT V hc;have h2:=Cp hT V a6
      have e1:(execOp a.eval S).run C.P w= .ok (.value (mkV C.P T G)) w:=by
       unfold execOp;simp only[F,H,Instr.loadAt,Instr.sureAddr,Sem.run_bind,Sem.run_pure,Result.andThen_ok,X]
      have e2:(execOp a.eval S).run C.P w'= .ok (.value (mkV C.P T G)) w':=by
       unfold execOp;simp only[F,H,Instr.loadAt,Instr.sureAddr,Sem.run_bind,Sem.run_pure,Result.andThen_ok,h2]
      grind
     split at f
     .rename_i k off H;rw[H]at y;split at f
      .rename_i p T' G r;split at f
       .rename_i ht a1;have a1:=Nat.le_of_ble_eq_true a1;obtain⟨b,vs,hι,hh,a7⟩:=wN A r;obtain⟨b',a0,a8⟩:=y;rw[hι]at a0;simp only[Value.pointer.injEq,bx,Addr.mk.injEq]at a0;obtain⟨rfl, -, -⟩:=a0;have a2:=hk.cells k p T' G b r ht hι;rw[hh]at a2;have b5:G.length=vs.toList.length:=a7.length;refine U b off ((vs.toList.drop off).take (C.P.cellsOf T)) a8 bg (λj u I=>?_) (λj u I=>?_)
        .rw[cell_of_heap hh];grind
        .rw[cell_of_heap a2];grind
       grind
      grind
     .rename_i b off d H hd;rw[H]at y;have y:a.eval x= .pointer (some ⟨b,off,none⟩):=y;split at f
      .rename_i G a3;split at f
       .rename_i l V;split at f
        .rename_i D;split at f
         .rename_i W;have hc:=HO A.wrel f.1;refine U b off l y (ca D) hc (λj u I=>?_);have X:=hc j u I;cases J:AD oj.op with
          |false=>
           rw[J,Bool.false_or]at W;obtain⟨τ,a9,h2⟩:=a' W;unfold IA at h2;simp only[F,H,hd,a3,V,J]at h2;exact HO a9 h2.1 j u I
          |true=>
          have W:=J;rw[<-X];exact World.cell?_of_block (w:=w) (w':=w') (a:=⟨b,off+j,none⟩) (hk.ext W b (World.block_lt_of_cell? w ⟨b,off+j,none⟩ X))
         .refine U b off l y (ca D) (λj u I=>A.wrel.hsat _ _ _ (f.1.rd j u I)) (λj u I=>hk.imm _ _ _ (f.1.rd j u I))
        grind
       grind
      grind
     .rename_i k i sz off d H hd;rw[H]at y;split at f
      .rename_i E' s R G r a3;split at f
       .rename_i l V hs t;have hs:=ca hs;subst hs;split at f
        .rename_i D;obtain⟨e,he,b0⟩:=f.1;obtain⟨M,Y⟩:=sK A r;obtain⟨b,n,c,hι,hp⟩:=y
         have z:∀b,blk (ι k)=some b->w'.heap[b]? =w.heap[b]? :=by
          intro b N;have O:=rH (A.own k _ r) N;unfold TB at t;rw[Bool.or_eq_true]at t;rcases t with t|t
          .exact hk.ext t b O
          .split at t
           .rename_i l V;refine hk.args l b V O (A.fresh k _ b r N).2.1 ?_;exact Cc A r N t
           .cases t
         have Q:w'.ownsRow 0 E' s (ι k) R.length R.flatten:=((A.own k _ r).world (λb N=>z b N)).2
         have rd:∀Z:World,Z.ownsRow 0 E' s (ι k) R.length R.flatten->∀j u,l[j]? =some u->Z.cell? ⟨b,i*s+off+j,none⟩=some u:=by
          intro Z X j u I;rw[<-b0]at I;have b1:=Qd I;have hf:=mO M.len he _ _ b1;have:=X.cells (g:=b) (by rw[hι];rfl) _ _ hf;rw[Addr.add_none]at this
          grind
         exact U b (i*s+off) l hp (ca D) (rd w Y) (rd w' Q)
        grind
       grind
      grind
     grind
   .rename_i src b6 x F;have y:=A.ev x;split at f
    .rename_i k d H hd;rw[H]at y;have y:a.eval x=ι k:=y;split at f
     .rename_i E' sz R s r hs;split at f
      .rename_i E a4 a5;split at f
       .rename_i hE;split at f
        .rename_i t;have b2:=f.1;obtain⟨M,Y⟩:=sK A r;have b3:R=bA s.data.toList:=b2
         have z:∀b,blk (ι k)=some b->w'.heap[b]? =w.heap[b]? :=by
          intro b N;have O:=rH (A.own k _ r) N;unfold TB at t;rw[Bool.or_eq_true]at t;rcases t with t|t
          .exact hk.ext t b O
          .split at t
           .rename_i l V;refine hk.args l b V O (A.fresh k _ b r N).2.1 ?_;exact Cc A r N t
           .cases t
         have Q:w'.ownsRow 0 E' sz (ι k) R.length R.flatten:=((A.own k _ r).world (λb N=>z b N)).2
         have go:∀Z:World,Z.ownsRow 0 E' sz (ι k) R.length R.flatten->(execOp a.eval S).run C.P Z= .ok (.value (.string ⟨s.data.toList.toArray⟩)) Z:=by
          intro Z X;subst b3;exact Fb F a4 hE a5 y X
         grind
        grind
       grind
      grind
     grind
    grind
   grind
  .exact .inr hy
theorem Se{g:Nat->Prop}:∀{l:dl},beQ g l->∀j∈l,g j
 |[],_,j,b=>by cases b
 |[i],h,j,b=>by simp at b;subst b;exact h
 |i::k::r,h,j,b=>by
  rcases mem_cons.1 b with rfl|b
  .exact h.1
  .exact Se h.2 j b
theorem EW{ops:Array Oper}:∀{l:dl}{i:Nat}{o:Oper},G3 ops l=some (i,o)->i∈l/\ops[i]? =some o/\Fl o.op=true
 |[],i,o,h=>by simp[G3]at h
 |k::r,i,o,h=>by
  simp only[G3]at h;split at h
  .rename_i ok b;split at h
   .rename_i e;simp only[bx,Prod.mk.injEq]at h;obtain⟨rfl,rfl⟩:=h;rw[jS,cg]at b
    grind
   .obtain⟨c,d⟩:=EW h
    grind
  .obtain⟨c,d⟩:=EW h
   grind
def wY(ops:Array Oper)(L:Array Bool):Nat:=((List.range ops.size).filter λi=> !L.getD i false).length
theorem Iu{ops:Array Oper}{L:Array Bool}{i:Nat}(d:L.size=ops.size)(h:i<ops.size)(m:L.getD i false=false):wY ops (L.setIfInBounds i true)+1=wY ops L:=by
 unfold wY
 have key:∀(l:dl),l.Nodup->(l.filter λj=> !(L.setIfInBounds i true).getD j false).length+(if i∈l then 1 else 0)=(l.filter λj=> !L.getD j false).length:=by
  intro l
  induction l with
  |nil=>intro _;simp
  |cons j r f=>
   intro c;have b:=nodup_cons.1 c;have:=f b.2;by_cases e:i=j
   .subst e;have g:(L.setIfInBounds i true).getD i false=true:=vH aD
    grind
   .have g:(L.setIfInBounds i true).getD j false=L.getD j false:=getD_set_ne false e
    grind
 grind
theorem LQ{ops:Array Oper}{L:Array Bool}(c:Ssa ops)(f:L.size=ops.size)(h:Region.ready .any ops L=[]):∀i,i<ops.size->L.getD i false=true:=by
 intro i
 induction i using Nat.strongRecOn with
 |_ i g=>
  intro d;cases j:L.getD i false with
  |true=>rfl
  |false=>
   exfalso;have b:ops[i]? =some ops[i]:=Array.getElem?_eq_getElem d
   have:i∈Region.ready .any ops L:=by
    rw[wL];refine⟨?_,_,b,λk e=>g k (c.topo i _ k b e) (Nat.lt_trans (c.topo i _ k b e) d)⟩
    grind
   grind
theorem Du{ops:Array Oper}{L:Array Bool}(h:∀i,i<ops.size->L.getD i false=true):Region.ready .any ops L=[]:=by
 cases b:Region.ready .any ops L with
 |nil=>rfl
 |cons i r=>
  exfalso;have:i∈Region.ready .any ops L:=bg
  obtain⟨c,o,d,_⟩:=wL.1 this
  grind
theorem Sf.eq_of_all{P:Program}{ops:Array Oper}{L Cl:Array Bool}{ar ac:Act}(h:Sf P ops L Cl ar ac w)(b:∀i,i<ops.size->L.getD i false=true):ar=ac:=by
 have c:ar.tmps=ac.tmps:=by
  apply Array.ext_getElem?;intro t;refine h.agree t (λi o d _ e=>?_)
  grind
 have f:=h.df;cases ar;cases ac
 grind
theorem aDJ{ops:Array Oper}{R:St->Prop}{n:Nat}{Cl:Array Bool}(h:C0 C ops n Cl σ R)(b:Region.ready .any ops Cl=[]):R σ:=by
 cases n<;>simp only[C0,b]at h<;>exact h
theorem Wc{ops:Array Oper}{b:Array Bool}{σ:St}{d:Oper}{τ:St}{K:Prop}(h:Km C ops b σ d τ K):
 (Y8 C=true->∀(i:Nat)(c:Oper),ops.toList[i]? =some c->b.getD (0+i) false=true->Fl c.op=true->waits d (0+i)=false->As ops σ c=false->IA σ d c τ True)/\K:=by
 unfold Km at h;split at h
 .rename_i e;obtain⟨f,g⟩:=L6 _ 0 h
  grind
 grind
theorem aDZ(F:∀g S,assoc C.specs g=some S->Sound C.P g S){ops:Array Oper}(G:Ssa ops){Q:Exit->Act->World->Prop}{R:St->Prop}(hQ:∀ι σ a w,aK B ι σ a w->R σ->Q .normal a w)
 (b':∀c a w,¬Q (.panic c) a w):
 ∀(n:Nat)(b:Nat)(Cl:Array Bool)(ι:dc)(σ:St)(ac:Act)(w:World),aK B ι σ ac w->C0 C ops n Cl σ R->∀(L:Array Bool)(ar:Act),Sf C.P ops L Cl ar ac w->wY ops L=b->
  wpAny C.P .any ops Q b L ar w:=by
 have fin:∀(n:Nat)(Cl:Array Bool)(ι:dc)(σ:St)(ac:Act)(w:World),aK B ι σ ac w->C0 C ops n Cl σ R->∀(L:Array Bool)(ar:Act),Sf C.P ops L Cl ar ac w->Region.ready .any ops L=[]->Q .normal ar w:=by
  intro n Cl ι σ ac w m h L ar f hr;have p:=LQ G f.szL hr;rw[f.eq_of_all p];exact hQ ι σ ac w m (aDJ h (Du (λi t=>f.sub i (p i t))))
 have zero:∀(n:Nat)(Cl:Array Bool)(ι:dc)(σ:St)(ac:Act)(w:World),aK B ι σ ac w->C0 C ops n Cl σ R->∀(L:Array Bool)(ar:Act),Sf C.P ops L Cl ar ac w->wY ops L=0->wpAny C.P .any ops Q 0 L ar w:=by
  intro n Cl ι σ ac w m h L ar f T
  have p:∀i,i<ops.size->L.getD i false=true:=by
   intro i t;unfold wY at T;have b9:=eq_nil_of_length_eq_zero T;cases hL:L.getD i false with
   |true=>rfl
   |false=>
    have:i∈(List.range ops.size).filter λi=> !L.getD i false:=mem_filter.2 ⟨mem_range.2 t,by simp[hL]⟩
    grind
  have hr:=Du p;exact⟨hr,fin n Cl ι σ ac w m h L ar f hr⟩
 have b0:∀(n b:Nat),(∀(Cl:Array Bool)(ι:dc)(σ:St)(ac:Act)(w:World),aK B ι σ ac w->C0 C ops n Cl σ R->∀(L:Array Bool)(ar:Act),Sf C.P ops L Cl ar ac w->wY ops L=b->wpAny C.P .any ops Q b L ar w)->
  ∀(Cl:Array Bool)(ι:dc)(σ:St)(ac:Act)(w:World),aK B ι σ ac w->C0 C ops n Cl σ R->∀(L:Array Bool)(ar:Act),Sf C.P ops L Cl ar ac w->wY ops L=b+1->
   ∀i∈Region.ready .any ops L,Cl.getD i false=true->wpOp C.P ops Q i (wpAny C.P .any ops Q b (L.setIfInBounds i true)) ar w:=by
  intro n b ih Cl ι σ ac w m h L ar f T i t hC;obtain⟨H,o,r,M⟩:=wL.1 t;obtain⟨hL,b1⟩:=Th H;obtain⟨v,hv,c0,b2⟩:=f.pend i o r hC hL
  have hy:Yd C.P ops w o v ar:=by
   rcases G.look i o r with I|c1
   .obtain⟨he,U⟩:=Ib (G.sel i o · · r) (f.looks I M);exact(hv I w (.inr rfl)).congr he U
   grind
  have V:wpAny C.P .any ops Q b (L.setIfInBounds i true) (ar.put o.dst v) w:=
   ih Cl ι σ ac w m h _ _ (f.stepA G r hC M b2) (by have:=Iu f.szL bg hL;omega)
  unfold wpOp;simp only[r];rcases hy with⟨l,y⟩|⟨l,rfl⟩
  .rw[if_pos l];left;unfold Oper.wp;rw[y,Oper.upon_value];exact V
  grind
 intro n
 induction n with
 |zero=>
  intro b
  induction b with
  |zero=>exact zero 0
  |succ b b3=>
   intro Cl ι σ ac w m h L ar f T;refine⟨fin 0 Cl ι σ ac w m h L ar f,λi t=>?_⟩;cases hC:Cl.getD i false with
   |true=>grind
   |false=>
    exfalso;obtain⟨H,o,r,M⟩:=wL.1 t
    have a1:i∈Region.ready .any ops Cl:=by
     rw[wL];refine⟨?_,o,r,λk hk=>f.sub k (M k hk)⟩;have:i<Cl.size:=by rw[f.szC];grind
     grind
    simp only[C0]at h
    grind
 |succ n W=>
  intro b
  induction b with
  |zero=>grind
  |succ b b3=>
   intro Cl ι σ ac w m h L ar f T;refine⟨fin (n+1) Cl ι σ ac w m h L ar f,λi t=>?_⟩;cases hC:Cl.getD i false with
   |true=>grind
   |false=>
    obtain⟨H,o,r,M⟩:=wL.1 t;obtain⟨b4,b1⟩:=Th H
    have a1:i∈Region.ready .any ops Cl:=by
     rw[wL];refine⟨?_,o,r,λk hk=>f.sub k (M k hk)⟩;have:i<Cl.size:=by rw[f.szC];grind
     grind
    simp only[C0]at h;split at h
    .grind
    .split at h
     ·
      rename_i k ok b5;obtain⟨b6,X,z⟩:=EW b5;obtain⟨a2,c2,N,a3⟩:=wL.1 b6;rw[X]at N;cases N;obtain⟨a4,c'⟩:=Th a2;obtain⟨σ1,Y,c3,hc⟩:=CW m h;rcases hc with⟨l,h⟩|⟨l,h⟩
      .obtain⟨v,x,y,hx,hK⟩:=aKZ Y z h;have A:=f.take G X a4 a3 z (v:=v) (λa5 a6=>.inl ⟨l,y a5 a6⟩);exact(W (b+1) _ ι _ _ w (Y.put ok.dst hx) hK L ar A T).2 i t
      .have A:=f.take G X a4 a3 z (v:=undef) (λa5 _=>.inr ⟨l,rfl⟩);exact(W (b+1) _ ι _ _ w (Y.put ok.dst (x:=.at (.val undef)) rfl) h L ar A T).2 i t
     ·
      have hg:=Se h i a1;split at hg
      .rename_i o' a7;rw[jS,cg,r]at a7;cases a7;obtain⟨hg,Z⟩:=NH _ 0 hg;obtain⟨he,U⟩:=Ib (G.sel i o · · r) ((G.look i o r).elim (f.looks · M) (f.looks' · hC));have a0:=UR F m hg (λa' D=>∃O s,aK B O s a' D/\Km C ops Cl σ o s (C0 C ops n (Cl.setIfInBounds i true) s R)/\Ip σ ι o w D) Q (λO s a' D h1 h2 h3=>⟨O,s,h1,h2,h3⟩)
       have hB:∀(u:Value)(D:World),(∃O s,aK B O s (ac.put o.dst u) D/\Km C ops Cl σ o s (C0 C ops n (Cl.setIfInBounds i true) s R)/\Ip σ ι o w D)->
        wpAny C.P .any ops Q b (L.setIfInBounds i true) (ar.put o.dst u) D:=by
        rintro u D ⟨O,s,J,h',b7⟩;obtain⟨b8,h'⟩:=Wc h';refine W b _ O s _ D J h' _ _ (f.stepB G r hC M u D ?_) (by have:=Iu f.szL bg b4;omega);intro j oj v hj a8 a9 hy;cases E:As ops σ oj with
        |true=>
         have:=Tb m E;rcases hy with⟨h1,_⟩|h1
         .grind
         .exact .inl (.inr h1)
        |false=>
         have c4:waits o j=false:=by
          grind
         have I:=Z j oj bg bg (f.rd j oj hj a8 a9) bg E;exact brJ m b7 I (λe=>⟨s,J.wrel,b8 e j oj bg bg (f.rd j oj hj a8 a9) bg E⟩) hy
       unfold GWp at a0;unfold wpOp;simp only[r];rw[U];split
       .rename_i l;rw[if_pos l]at a0;left;refine TW he a0 hB ?_ b';rintro d D ⟨O,s,J,_⟩;have:=J.defers;rw[<-m.defers]at this;cases hd:o.dst<;>simp[Act.put,hd]at this
       grind
      grind
end
end Go.Vc
namespace Go.Vc
open Go List
section
variable{B:tW}{C:Ctx}{ι:dc}{σ:St}{a:Act}{w:World}
theorem Ar:∀{xs e:dz}{vs:cn}{K:Prop},CR xs e K->DenS ι xs vs->DenS ι e vs/\K
 |[],[],vs,K,h,b=>⟨b,h⟩
 |x::xs,y::e,[],K,_,b=>b.elim
 |x::xs,y::e,v::vs,K,h,b=>by
  unfold CR at h;split at h
  .grind
  .rename_i i f g c d;simp only[List.cons.injEq]at c d;obtain⟨rfl,rfl⟩:=c;obtain⟨rfl,rfl⟩:=d;have:=Ar h b.2;exact⟨⟨trivial,this.1⟩,this.2⟩
  .rename_i i f j g _ c d;simp only[List.cons.injEq]at c d;obtain⟨rfl,rfl⟩:=c;obtain⟨rfl,rfl⟩:=d;obtain⟨rfl,h⟩:=h;have:=Ar h b.2;exact⟨⟨b.1,this.1⟩,this.2⟩
  grind
 |[],_::_,_,K,h,_=>by simp[CR]at h
 |_::_,[],_,K,h,_=>by simp[CR]at h
theorem yB:∀{xs c:dv}{K:Prop},yC xs c K->(∀k o,nth c k=some (some o)->nth xs k=some (some o))/\K
 |[],[],K,h=>⟨λk o b=>by omega,h⟩
 |x::xs,none::c,K,h=>by
  simp only[yC]at h;obtain⟨d,e⟩:=yB h;refine⟨λk o b=>?_,e⟩;cases k with
  |zero=>simp[nth]at b
  |succ k=>exact d k o b
 |x::xs,some y::c,K,h=>by
  simp only[yC]at h;obtain⟨rfl,h⟩:=h;obtain⟨d,e⟩:=yB h;refine⟨λk o b=>?_,e⟩;cases k with
  |zero=>exact b
  |succ k=>exact d k o b
 |[],_::_,K,h=>by simp[yC]at h
 |_::_,[],K,h=>by simp[yC]at h
theorem aK.setSlot(b:aK B ι σ a w){i:Nat}{x:SV}{v:Value}(d:a.tmps[i]? =some v)(c:Den ι x v):aK B ι (σ.put (some i) x) a w:=by
 refine⟨?_,b.defers,b.own,b.dist,b.fresh,b.wrel,b.one⟩;have:=b.slots.set i c;show DenS ι (σ.sl.set i x) a.tmps.toList
 have e:a.tmps.toList.set i v=a.tmps.toList:=by
  apply ext_getElem?
  grind
 grind
theorem aK.nilList(c:aK B ι σ a w)(k E sz:Nat):aK B (upd ι k (.slice none 0 0)) ((σ.kill k).setOwn k (some (.lst E sz []))) a w:=by
 refine c.place k _ _ (DG.refl _ _) ⟨HN sz,World.ownsRow_nil w 0 E sz⟩ rfl (λb d=>by simp[blk]at d)
theorem uR(τ:St):∀(c:dz)(i:Nat)(ι:dc)(σ:St),aK B ι σ a w->∃g,aK B g (Tw τ c i σ) a w
 |[],i,ι,σ,b=>⟨ι,b⟩
 |y::c,i,ι,σ,b=>by
  simp only[Tw];split
  .rename_i k;split
   .rename_i f;split
    .rename_i E h j l m
     have d:a.tmps[i]? =some (.slice none 0 0):=by
      rw[jS]at f;obtain⟨v,d,e⟩:=b.slots.get i _ f;rw[cg]at d;have e:v= .slice none 0 0:=e;rw[d,e]
     exact uR τ c (i+1) _ _ ((b.nilList k E h).setSlot d (x:=.at (.lst k)) (by show _=_;simp))
    .exact uR τ c (i+1) ι σ b
   .exact uR τ c (i+1) ι σ b
  .exact uR τ c (i+1) ι σ b
theorem oA(τ:St)(q:Nat):∀(f:dj)(j:Nat)(ι:dc)(σ:St),aK B ι σ a w->∃A,aK B A (Hh τ q f j σ) a w
 |[],j,ι,σ,d=>⟨ι,d⟩
 |y::f,j,ι,σ,d=>by
  simp only[Hh];split
  .rename_i k;split
   .rename_i p T D s;split
    .rename_i t;split
     .rename_i E l N O Q;have g:q≠k:=λe=>bg
      have m:=d.nilList k E l
      have c:nth ((σ.kill k).setOwn k (some (.lst E l []))).own q=some (some (.cellsP p T (D.map (At.sub k (λ_=>.junk))))):=by
       simp only[Nr,St.setOwn,St.sub,zN,Cr,g,false_and,if_false,s];rfl
      obtain⟨b,i,u,F,G⟩:=wN m c
      have H:i.toList[j]? =some (.slice none 0 0):=by
       obtain⟨R,I,n,J,r⟩:=wN d s;rw[jS]at t;obtain⟨v,S,h⟩:=r.get j _ t;have h:v= .slice none 0 0:=h;rw[pV _ _ g,n]at u
       grind
      have z:i.toList.set j (.slice none 0 0)=i.toList:=by
       apply ext_getElem?
       grind
      have M:aK B (upd ι k (.slice none 0 0)) (HK ((σ.kill k).setOwn k (some (.lst E l []))) q j (.lst k)) a w:=by
       unfold HK;rw[c];refine m.rewrite c (DG.refl _ _) ⟨b,i,u,F,?_,λU e=>by subst e;have:=ZE m c;grind⟩;have:=G.set j (x:=.lst k) (v:=.slice none 0 0) (by show _=_;simp)
       grind
      exact oA τ q f (j+1) _ _ M
     .exact oA τ q f (j+1) ι σ d
    .exact oA τ q f (j+1) ι σ d
   .exact oA τ q f (j+1) ι σ d
  .exact oA τ q f (j+1) ι σ d
theorem Aw(τ:St):∀(b:dv)(q:Nat)(ι:dc)(σ:St),aK B ι σ a w->∃d,aK B d (Nu τ b q σ) a w
 |[],q,ι,σ,c=>⟨ι,c⟩
 |y::b,q,ι,σ,c=>by
  simp only[Nu];split
  .rename_i T f;obtain⟨d,e⟩:=oA τ q f 0 ι σ c;exact Aw τ b (q+1) d _ e
  .exact Aw τ b (q+1) ι σ c
theorem qS{τ:St}{K:Prop}(t:aK B ι σ a w)(h:yA σ τ K):∃u,aK B u τ a w/\K:=by
 obtain⟨v,f⟩:=uR τ τ.sl 0 ι σ t;obtain⟨m,c⟩:=Aw τ τ.own 0 v _ f;have c:aK B m (conv σ τ) a w:=c;unfold yA at h;obtain⟨g,h⟩:=Ar h c.slots;obtain⟨d,n,p,x⟩:=yB h;refine⟨m,⟨g,c.defers,λk o e=>c.own k o (d k o e),λk r o s b e i j l=>c.dist k r o s b (d k o e) (d r s i) j l,?_,?_,c.one⟩,x⟩
 .intro k o b e j;rw[<-n, <-p];exact c.fresh k o b (d k o e) j
 .rw[<-n, <-p];exact c.wrel
theorem aK.froze(j:aK B ι σ a w){m2:MH}{g:PH}(f:sZ σ.m σ.h m2 g):aK B ι {σ with m:=m2,h:=g} a w:=by
 have c:=j.wrel;refine⟨j.slots,j.defers,j.own,j.dist,λk o b u x=>?_,?_,j.one⟩
 .obtain⟨y,t,G⟩:=j.fresh k o b u x;refine⟨y,?_,λi=>?_⟩
  .show m2 b=none;cases l:m2 b with
   |none=>rfl
   |some o=>rw[f.sub b o l]at t;cases t
  .show g b i=none;cases l:g b i with
   |none=>rfl
   |some v=>
    rcases f.new b i v l with d|⟨n,E,p,d,_,_⟩
    .grind
    grind
 .refine⟨c.tape,c.os,c.output,c.drawn,c.size,c.frame,λb o v e=>?_,λb o e=>c.msat b o (f.sub b o e),λb o e i=>?_,λb o v e=>f.le.le b o v (c.hle b o v e),λb z r=>?_,λb o e=>c.mfr b o (f.sub b o e)⟩
  .rcases f.new b o v e with d|⟨n,E,p,d,s,_⟩
   .exact c.hsat b o v d
   .rw[cell_of_heap (c.msat b _ d),cg];exact s
  .show g b i=none;have e:m2 b=some o:=e;cases l:g b i with
   |none=>rfl
   |some v=>
    rcases f.new b i v l with d|⟨n,E,p,d,s,A⟩
    .rw[c.disj b o (f.sub b o e) i]at d;cases d
    grind
  .funext i;have e:=congrFun (c.hold b z r) i;show g b i=B.h0 b i;cases l:B.h0 b i with
   |some v=>exact f.le.le b i v (c.hle b i v l)
   |none=>
    cases D:g b i with
    |none=>rfl
    |some v=>
     rcases f.new b i v D with d|⟨n,E,p,d,s,A⟩
     .grind
     .rcases c.mfr b _ d with F|F
      .omega
      grind
theorem JQ{τ:St}{K:Prop}(s:aK B ι σ a w)(h:S5 σ τ K):∃t,aK B t τ a w/\K:=by
 obtain⟨u,g⟩:=uR τ τ.sl 0 ι σ s;obtain⟨n,c⟩:=Aw τ τ.own 0 u _ g;have c:aK B n (conv σ τ) a w:=c;unfold S5 at h;obtain⟨i,h⟩:=Ar h c.slots;obtain⟨d,v,x⟩:=yB h;have e:=c.froze v;exact⟨n,⟨i,c.defers,λk o f=>c.own k o (d k o f),λk p o r b f j l m=>c.dist k p o r b (d k o f) (d p r j) l m,λk o b f l=>e.fresh k o b (d k o f) l,e.wrel,c.one⟩,x⟩
theorem Mc{c:wQ}{R:c.A->Prop}(b:aK B ι σ a w)(h:MS c R σ):∃x f,R x/\aK B f (c.st x) a w:=by
 unfold MS at h;split at h
 .obtain⟨x,g,d⟩:=h;obtain⟨i,e,_⟩:=qS b d
  grind
 .obtain⟨x,g,d⟩:=h ⟨b.wrel.disj⟩;obtain⟨i,e,_⟩:=JQ b d
  grind
theorem Wb{c:wQ}{I S:c.A->Prop}(b:aK B ι σ a w)(h:TD c I S σ):∃x f,I x/\S x/\aK B f (c.st x) a w:=by
 unfold TD at h;split at h
 .obtain⟨x,g,i,d⟩:=h;obtain⟨j,e,_⟩:=qS b d
  grind
 .obtain⟨x,g,i,d⟩:=h ⟨b.wrel.disj⟩;obtain⟨j,e,_⟩:=JQ b d
  grind
def QD(B:tW)(Q:Kr->St->Prop):Exit->Act->World->Prop
 |.normal,a,w=>∃ι σ,aK B ι σ a w/\Q .normal σ
 |.exit id,a,w=>∃ι σ,aK B ι σ a w/\Q (.exit id) σ
 |.ret,a,w=>∃ι σ,aK B ι σ a w/\Q .ret σ
 |_,_,_=>False
theorem Qh(b:∀g S,assoc C.specs g=some S->Sound C.P g S){ops:Array Oper}{Q:Kr->St->Prop}:
 ∀(c:dt)(l:List Oper)(s:Nat)(ι:dc)(σ:St)(a:Act)(w:World),(∀j,l[j]? =ops.toList[s+j]?)->aK B ι σ a w->Zy C ops c l σ (Q .normal)->wpOpsIn Fence.wide 0 C.P ops (QD B Q) (range' s l.length) a w
 |[],l,s,ι,σ,a,w,e,d,h=>by
  have:=HL b (ops:=ops) (Q:=QD B Q) (R:=Q .normal) (rest:=[]) (λι σ a w d h=>⟨ι,σ,d,h⟩) l s ι σ a w (λj _=>e j) d h
  grind
 |(n,f)::c,l,s,ι,σ,a,w,e,d,h=>by
  obtain⟨I,r,t⟩:=h
  have:=HL b (ops:=ops) (Q:=QD B Q) (R:=λτ=>∃x,I x/\yA τ (f.st x) True) (rest:=range' (s+(l.take n).length) (l.drop n).length) (λA D u v i m=>by
   obtain⟨x,m,y⟩:=m;obtain⟨z,p,_⟩:=qS i y;refine Qh b c (l.drop n) (s+(l.take n).length) z _ u v (λj=>?_) p (t x m);rw[getElem?_drop,e];by_cases E:n<=l.length
   .grind
   .have F:l[n+j]? =none:=getElem?_eq_none aD;have G:l[l.length+j]? =none:=getElem?_eq_none aD
    grind) (l.take n) s ι σ a w (λj H=>by
    grind) d r
  grind
theorem NB(s:∀g S,assoc C.specs g=some S->Sound C.P g S):∀(c:Code)(σ:St)(Q:Kr->St->Prop)(ι:dc)(a:Act)(w:World),aK B ι σ a w->VC C c σ Q->c.wp C.P (QD B Q) a w:=by
 intro c
 induction c with
 |skip=>intro σ Q ι a w d h;exact wp_skip ⟨ι,σ,d,h⟩
 |label l=>intro σ Q ι a w d h;exact wp_label ⟨ι,σ,d,h⟩
 |exit id=>intro σ Q ι a w d h;exact wp_exit ⟨ι,σ,d,h⟩
 |ret=>intro σ Q ι a w d h;exact wp_ret ⟨ι,σ,d,h⟩
 |goto l=>intro σ Q ι a w d h;exact h.elim
 |refuse a3=>intro σ Q ι a w d h;exact h.elim
 |scope a2 U=>intro σ Q ι a w d h;exact h.elim
 |rangeFunc f ps x y u H=>intro σ Q ι a w d h;exact h.elim
 |region id ops V=>
  intro σ Q ι a w d h;cases V with
  |false=>
   refine(wpIn_wide (n:=0)).1 (wpIn_region ?_);have:=Qh s (ops:=ops) (Q:=Q) (NO C id) ops.toList 0 ι σ a w (λj=>ay) d h;rw[range_eq_range'];omega
  |true=>
   simp only[VC]at h;split at h
   .rename_i h1 h2 h3;have hs:=bXZ h1 h2;refine wp_region_any h3 ?_;refine aDZ s hs (Q:=QD B Q) (R:=Q .normal) (λι σ a w d h=>⟨ι,σ,d,h⟩) (λc a w h=>h) ops.size ops.size _ ι σ a _ (d.drew (w.drawn+1) (Nat.le_succ _)) h _ a ?_ ?_
    .have F:∀i,(Array.replicate ops.size false).getD i false=true->False:=by
      intro i v;by_cases r:i<ops.size
      .simp[Array.getD,r]at v
      grind
     exact⟨ay,ay,λi v=>v,λi o _ v=>(F i v).elim,λi o _ v=>(F i v).elim,λi o _ v=>(F i v).elim,rfl,rfl,λt _=>rfl,λi o _ v=>(F i v).elim⟩
    .unfold wY;rw[filter_eq_self.2]
     .simp
     .intro i v;by_cases r:i<ops.size<;>simp[Array.getD,r]
   grind
 |seq x y u H=>
  intro σ Q ι a w d h;simp only[VC]at h;split at h
  .obtain⟨h,p⟩:=h;refine wp_seq (wp_mono (u σ _ ι a w d h) ?_);intro e D E b;cases e with
   |normal=>
    obtain⟨G,W,m,x,X,J⟩:=b;show y.wp C.P (QD B Q) D E;obtain⟨Y,z,_⟩:=qS m J
    grind
   |exit id=>exact b
   |ret=>exact b
   |goto l=>exact b
   |panic Z=>exact b
   |outgrown=>exact b
  .split at h
   .obtain⟨I,h,p⟩:=h;refine wp_seq (wp_mono (u σ _ ι a w d h) ?_);intro e D E b;cases e with
    |normal=>
     obtain⟨G,W,m,J⟩:=b;show y.wp C.P (QD B Q) D E;obtain⟨x,Y,X,z⟩:=Mc m J
     grind
    |exit id=>exact b
    |ret=>exact b
    |goto l=>exact b
    |panic Z=>exact b
    |outgrown=>exact b
   .refine wp_seq (wp_mono (u σ _ ι a w d h) ?_);intro e D E b;cases e with
    |normal=>
     obtain⟨G,W,m,h'⟩:=b;show y.wp C.P (QD B Q) D E
     grind
    |exit id=>exact b
    |ret=>exact b
    |goto l=>exact b
    |panic Z=>exact b
    |outgrown=>exact b
 |cond c x y u H=>
  intro σ Q ι a w d h;simp only[VC]at h;split at h
  .rename_i t hc;have A:=d.ev c;rw[hc]at A;have A:a.eval c= .bool t:=A;rcases AL h with⟨rfl,h⟩|⟨rfl,h⟩
   .exact wp_cond_true A (u _ Q ι a w (d.setTmp hc) h)
   .exact wp_cond_false A (H _ Q ι a w (d.setTmp hc) h)
  grind
 |block id c U=>
  intro σ Q ι a w d h;refine wp_block (wp_mono (U σ _ ι a w d h) ?_);intro e D E b;cases e with
  |normal=>exact b
  |exit i=>
   obtain⟨G,W,m,h'⟩:=b;show if i=id then _ else _
   simp only at h';split at h'
   .rename_i hb;rw[if_pos (ca hb)];exact⟨G,W,m,h'⟩
   .rename_i hb;rw[if_neg (λe=>by subst e;simp at hb)];exact⟨G,W,m,h'⟩
  |ret=>exact b
  |goto l=>exact b
  |panic Z=>exact b
  |outgrown=>exact b
 |loop c U=>
  intro σ Q ι a w d h;simp only[VC]at h;split at h
  .rename_i l hl;obtain⟨⟨x,X,J⟩,p⟩:=h;obtain⟨Y,z,_⟩:=qS d J;refine wp_loop_ghost (λn a w=>∃x ι,l.inv x/\l.mu x=n/\aK B ι (l.st x) a w) (l.mu x) ⟨x,Y,X,rfl,z⟩ ?_;rintro n D E ⟨x',G,M,rfl,m⟩;refine wp_mono (U _ _ G D E m (p x' M)) ?_;intro e a0 a1 b;cases e with
   |normal=>
    obtain⟨ι3,σ3,N,y,hy,r,O⟩:=b;obtain⟨ι4,T,_⟩:=qS N O;exact⟨l.mu y,r,y,ι4,hy,rfl,T⟩
   |exit id=>exact b
   |ret=>exact b
   |goto l=>exact b
   |panic Z=>exact b
   |outgrown=>exact b
  .split at h
   .rename_i l hl;obtain⟨I,mu,J,p⟩:=h;obtain⟨x,Y,X,z⟩:=Mc d J;refine wp_loop_ghost (λn a w=>∃x ι,I x/\mu x=n/\aK B ι (l.st x) a w) (mu x) ⟨x,Y,X,rfl,z⟩ ?_;rintro n D E ⟨x',G,M,rfl,m⟩;refine wp_mono (U _ _ G D E m (p x' M)) ?_;intro e a0 a1 b;cases e with
    |normal=>
     obtain⟨ι3,σ3,N,O⟩:=b;obtain⟨y,ι4,hy,r,T⟩:=Wb N O;exact⟨mu y,r,y,ι4,hy,rfl,T⟩
    |exit id=>exact b
    |ret=>exact b
    |goto l=>exact b
    |panic Z=>exact b
    |outgrown=>exact b
   grind
end
end Go.Vc
namespace Go.Vc
open Go List
section
variable{B:tW}{C:Ctx}{ι:dc}{σ:St}{a:Act}{w:World}
def Tg(tmps:Array Value):ResultVar->Sem Value
 |.tmp t=>pure (tmps.getD t undef)
 |.cell a t=>do loadVar t (<-asAddr (tmps.getD a undef))
theorem WD(fn:Func)(tmps:Array Value):results fn tmps=(do let vs <-fn.results.mapM (Tg tmps);pure (if h:vs.size=1 then vs[0]else .tuple vs)):=by
 unfold results;congr 1
theorem Uk(f:aK B ι σ a w){r:ResultVar}{x:SV}(h:ZB C σ r=some x):∃v,(Tg a.tmps r).run C.P w= .ok v w/\Den ι x v:=by
 cases r with
 |tmp t=>
  simp only[ZB,bx]at h;subst h;exact⟨_,rfl,f.ev (.tmp t)⟩
 |cell l T=>
  have d:=f.ev (.tmp l);simp only[ZB]at h;split at h
  .rename_i k off s;rw[s]at d;split at h
   .rename_i p T' cs u;split at h
    .rename_i e y;have e:=Nat.le_of_ble_eq_true e;simp only[bx]at h;subst h;obtain⟨b,m,z,A,n⟩:=wN f u;obtain⟨G,c,D⟩:=d;rw[z]at c;simp only[Value.pointer.injEq,bx,Addr.mk.injEq]at c;obtain⟨rfl, -, -⟩:=c;have g:=(n.drop off).take (C.P.cellsOf T);have E:cs.length=m.toList.length:=n.length;have F:=Cp (w:=w) (b:=b) (off:=off) (cs:=(m.toList.drop off).take (C.P.cellsOf T)) y bg (λj v H=>by rw[cell_of_heap A];grind);refine⟨_,?_,LD g⟩;have i:a.tmps.getD l undef= .pointer (some ⟨b,off,none⟩):=D;simp only[Tg,i,asAddr,Sem.run_bind,Sem.run_pure,Result.andThen_ok,F]
    .cases h
   .cases h
  .cases h
theorem II(f:aK B ι σ a w):∀(l:List ResultVar)(xs:dz),KI C σ l=some xs->∃vs,(l.mapM (Tg a.tmps)).run C.P w= .ok vs w/\DenS ι xs vs
 |[],xs,h=>by
  simp[KI]at h;subst h;exact⟨[],ay,trivial⟩
 |r::l,xs,h=>by
  simp only[KI]at h;split at h
  .rename_i x b g c;simp only[bx]at h;subst h;obtain⟨v,i,j⟩:=Uk f g;obtain⟨vs,d,e⟩:=II f l b c;exact⟨v::vs,by simp[mapM_cons,i,d],j,e⟩
  .cases h
theorem yG(m:aK B ι σ a w){mv:Bool}:∀(xs:dz)(ts:dx)(rs:dk)(vs:cn),DE C.P σ mv xs ts=some rs->DenS ι xs vs->
 rs.length=vs.length/\(mv=false->rs=vs.map .val)/\∀(i:Nat)(r:CV)(v:Value),rs[i]? =some r->vs[i]? =some v->Gi w r v/\∀b,iL r v=some b->∃k g,nth σ.own k=some (some g)/\blk (ι k)=some b
 |[],ts,rs,[],h,_=>by
  simp[DE]at h;grind
 |[],_,_,_::_,_,c=>c.elim
 |x::xs,_,_,[],_,c=>c.elim
 |x::xs,ts,rs,v::vs,h,c=>by
  simp only[DE]at h;split at h
  .cases h
  .rename_i l p;obtain⟨s,t,y⟩:=yG m xs ts.tail l vs p c.2
   have fin:∀(j:CV),rs=j::l->(mv=false->j= .val v)->Gi w j v->(∀b,iL j v=some b->∃k g,nth σ.own k=some (some g)/\blk (ι k)=some b)->
    rs.length=(v::vs).length/\(mv=false->rs=(v::vs).map .val)/\∀(i:Nat)(r:CV)(u:Value),rs[i]? =some r->(v::vs)[i]? =some u->Gi w r u/\∀b,iL r u=some b->∃k g,nth σ.own k=some (some g)/\blk (ι k)=some b:=by
    grind
   split at h
   .split at h
    .rename_i k;have d:v=ι k:=c.1;split at h
     .rename_i E F G n;simp only[bx]at h;obtain⟨A,H⟩:=sK m n;exact fin _ h.symm (λe=>by cases e) ⟨A,bg⟩ (λb f=>⟨k,_,n,by rw[<-d];exact f⟩)
     .cases h
    .have d:v= .slice none 0 0:=c.1;split at h
     .rename_i E z I;simp only[bx]at h;refine fin _ h.symm (λe=>by cases e) ⟨HN _,by rw[d];exact World.ownsRow_nil w 0 E _⟩ (λb f=>?_);rw[d]at f;simp[iL,blk]at f
     .cases h
    .cases h
   .split at h
    .rename_i u D;simp only[bx]at h;have d:=(c.1).val? D;exact fin _ h.symm (λ_=>by rw[d]) d (λb f=>by simp[iL]at f)
    .cases h
theorem KH(I:aK B ι σ a w){fn:Func}{K:cr}(h:Fc C fn K σ):
 ∃u,(results fn a.tmps).run C.P w= .ok u w/\∃r m' t,K r m' t/\Gi w r u/\AO B m' t w/\∀b,iL r u=some b->(B.w0.heap.size<=b\/B.E b)/\m' b=none/\∀i,t b i=none:=by
 unfold Fc at h;split at h
 .exact h.elim
 .rename_i V J;obtain⟨W,p,h,_⟩:=oO _ _ I h;obtain⟨τ,d,h,_⟩:=zA _ _ p h;split at h
  .exact h.elim
  .rename_i M x;obtain⟨f,y,j⟩:=II d _ _ x
   have G:(results fn a.tmps).run C.P w= .ok (if h:f.toArray.size=1 then f.toArray[0]else .tuple f.toArray) w:=by
    rw[WD,Array.mapM_eq_mapM_toList];simp[y]
   have g:∀(n:dk)(r:CV)(v:Value),DE C.P τ C.retMove M fn.resultTypes.toList=some n->(∃i:Nat,n[i]? =some r/\f[i]? =some v)->Gi w r v/\∀b,iL r v=some b->(B.w0.heap.size<=b\/B.E b)/\τ.m b=none/\∀i,τ.h b i=none:=by
    rintro n r v l ⟨i,s,N⟩;obtain⟨_,_,O⟩:=yG d _ _ _ _ l j;obtain⟨z,A⟩:=O i r v s N;refine⟨z,λb D=>?_⟩;obtain⟨k,Q,R,F⟩:=A b D;exact d.fresh k Q b R F
   split at h
   .rename_i r s;obtain⟨c,_,_⟩:=yG d _ _ _ _ s j;simp at c
    obtain⟨v,rfl⟩:∃v,f=[v]:=by
     match f,c with
     |[v],_=>grind
    obtain⟨z,A⟩:=g _ r v s ⟨0,rfl,rfl⟩;refine⟨v,bg,r,τ.m,τ.h,h,z,d.wrel,A⟩
   .rename_i n S l;split at h
    .exact h.elim
    .rename_i T;obtain⟨c,H,_⟩:=yG d _ _ _ _ l j
     have U:f.length≠1:=by
      intro e;rw[e]at c
      match n,c with
      |[r],_=>grind
     refine⟨.tuple f.toArray,bg,.tup n,τ.m,τ.h,h,⟨f.toArray,rfl,bg⟩,d.wrel,λb D=>by simp[iL]at D⟩
   grind
def Oy(n:Nat)(b:dk)(vs:cn)(k:Nat):Value:=
 match b[k-n]?,vs[k-n]? with
 |some (.lst _ _ _),some v=>v
 |_,_=>.slice none 0 0
theorem rI{w:World}:∀{b:dk}{vs:cn},Dp w b vs->b.length=vs.length/\∀(i:Nat)(c:CV)(v:Value),b[i]? =some c->vs[i]? =some v->Gi w c v
 |[],[],_=>⟨rfl,λi c v h=>by simp at h⟩
 |c::cs,v::vs,h=>by
  obtain⟨f,g⟩:=rI h.2;refine⟨by simp[f],λi j l d e=>?_⟩;cases i with
  |zero=>simp at d e;subst d e;exact h.1
  |succ i=>grind
 |[],_::_,h=>h.elim
 |_::_,[],h=>h.elim
theorem My{n:Nat}{all:dk}{avs:cn}{w:World}:∀(i:Nat)(b:dk)(vs:cn),Dp w b vs->(∀j:Nat,b[j]? =all[i+j]?)->(∀j:Nat,vs[j]? =avs[i+j]?)->
 DenS (Oy n all avs) (Hg n i b) vs
 |i,[],[],_,_,_=>trivial
 |i,c::b,v::vs,h,e,f=>by
  have d:=My (n:=n) (all:=all) (avs:=avs) (i+1) b vs h.2 (λj=>by have:=e (j+1);grind) (λj=>by have:=f (j+1);grind);cases c with
  |val u=>exact⟨h.1,d⟩
  |lst E m p=>
   refine⟨?_,d⟩;show v=Oy n all avs (n+i);have g:=e 0;have l:=f 0;simp at g l;unfold Oy
   grind
  |tup r=>exact⟨trivial,d⟩
 |i,[],_::_,h,_,_=>h.elim
 |i,_::_,[],h,_,_=>h.elim
theorem Ka:∀(b:dk)(k:Nat)(o:Own),nth (AG b) k=some (some o)->∃E sz xs,b[k]? =some (.lst E sz xs)/\o= .lst E sz xs
 |[],k,o,h=>by simp[AG,nth]at h
 |c::b,0,o,h=>by
  cases c<;>simp[AG,nth]at h
  grind
 |c::b,k+1,o,h=>by
  have:nth (AG b) k=some (some o):=by cases c<;>simpa[AG,nth]using h
  obtain⟨E,sz,xs,d,e⟩:=Ka b k o this
  grind
theorem R9{ι:dc}:∀(n:Nat)(vs:cn),vs.length=n->DenS ι (replicate n (.at .junk)) vs
 |0,[],_=>trivial
 |n+1,v::vs,h=>⟨trivial,R9 n vs (bk h)⟩
 |0,_::_,h=>by simp at h
 |_+1,[],h=>by simp at h
theorem DenS.append{ι:dc}:∀{xs b:dz}{vs c:cn},DenS ι xs vs->DenS ι b c->DenS ι (xs++b) (vs++c)
 |[],_,[],_,_,d=>bg
 |_::_,_,_::_,_,h,d=>⟨h.1,DenS.append h.2 d⟩
 |[],_,_::_,_,h,_=>h.elim
 |_::_,_,[],_,h,_=>h.elim
theorem J9{w:World}{m:MH}{h:PH}{c:dk}{vs:cn}(n:Nat)(s:BK w m h c vs):
 aK ⟨w,yI m c vs,h,[]⟩ (Oy n c vs) (entry n c m h) {tmps:=vs.toArray++Array.replicate (n-vs.toArray.size) undef,defers:=[]} w:=by
 obtain⟨x,r⟩:=rI s.args
 have d:∀k o,nth (entry n c m h).own k=some (some o)->n<=k/\∃E i l,c[k-n]? =some (.lst E i l)/\o= .lst E i l/\∃v,vs[k-n]? =some v/\Oy n c vs k=v/\Gi w (.lst E i l) v:=by
  intro k o f;simp only[entry]at f;rw[jS]at f;by_cases t:k<n
  .grind
  .rw[getElem?_append_right bg]at f;simp only[length_replicate]at f;rw[<-jS]at f;obtain⟨E,i,l,e,A⟩:=Ka c (k-n) o f
   have D:k-n<vs.length:=by
    grind
   have p:vs[k-n]? =some vs[k-n]:=bo D;refine⟨aD,E,i,l,e,A,_,p,?_,r _ _ _ e p⟩;unfold Oy;rw[e,p]
 refine⟨?_,rfl,?_,?_,?_,?_,?_⟩
 .have e:=My (n:=n) (all:=c) (avs:=vs) 0 c vs s.args (λj=>ay) (λj=>ay);show DenS _ (Hg n 0 c++replicate (n-c.length) (.at .junk)) _;have:(vs.toArray++Array.replicate (n-vs.toArray.size) undef).toList=vs++replicate (n-vs.length) undef:=ay
  rw[this];exact e.append (R9 _ _ (by simp[x]))
 .intro k o f;obtain⟨t,E,i,l,e,rfl,v,p,y,u⟩:=d k o f;rw[y];exact u
 .intro k J o O b f F g z;obtain⟨t,E,i,l,e,rfl,v,p,y,u⟩:=d k o f;obtain⟨M,E',Q,R,G,rfl,S,H,I,N⟩:=d J O F;rw[y]at g;rw[I]at z;have:=s.sep (k-n) (J-n) _ _ v S b e p G H g z;omega
 .intro k o b f g;obtain⟨t,E,i,l,e,rfl,v,p,y,u⟩:=d k o f;rw[y]at g;obtain⟨T,U⟩:=s.free (k-n) _ v b e p g;exact⟨.inr (.inr ⟨k-n,_,v,e,p,g⟩),T,U⟩
 .refine⟨rfl,rfl,rfl,Nat.le_refl _,Nat.le_refl _,λ_ _ _=>rfl,s.hsat,s.msat,s.disj,λ_ _ _ h=>h,λ_ _ _=>rfl,λb V g=>.inr (.inl (by have g:m b=some V:=g;rw[g];simp))⟩
 .intro k;unfold Oy;split
  .rename_i E i l v e A;exact Mk (r _ _ _ e A).2
  .rfl
theorem eD{P:Program}{f:FuncId}{fn:Func}{c:Code}(D:P.funcs[f]? =some fn)(E:fn.body=some c)(n:(fn.name== "runtime.NumGoroutine")=false){S:Spec}
 (y:∀d m h K,S d m h K->∃C:Ctx,C.P=P/\(∀g S,assoc C.specs g=some S->Sound P g S)/\tQ C fn c (entry fn.ntmps d m h) K):Sound P f S:=by
 refine⟨⟨fn,D,by rw[E];rfl,n⟩,?_⟩;intro d z m h w K G H;obtain⟨C,rfl,j,I⟩:=y d m h K G;refine calls_of_wp D E ?_;refine wp_mono (NB j c _ _ _ _ w (J9 fn.ntmps H) I) ?_;intro e A s p
 have key:(∃ι σ,aK ⟨w,yI m d z,h,[]⟩ ι σ A s/\Fc C fn K σ)->A.defers=[]/\∃v,(results fn A.tmps).run C.P s= .ok v s/\∃r u t x,Ending.returned v= .returned u/\K r t x/\Gi s r u/\AO ⟨w,yI m d z,h,[]⟩ t x s/\
  ∀b,iL r u=some b->(w.heap.size<=b\/yI m d z b)/\t b=none/\∀i,x b i=none:=by
  rintro⟨ι,σ,F,J⟩;obtain⟨u,M,r,t,x,N,O,Q,R⟩:=KH F J;exact⟨F.defers,u,M,r,u,t,x,rfl,N,O,Q,R⟩
 cases e with
 |normal=>exact key p
 |ret=>exact key p
 |exit id=>obtain⟨_,_,_,h⟩:=p;exact h.elim
 |goto l=>exact p.elim
 |panic T=>exact p.elim
 |outgrown=>exact p.elim
theorem QB{P:Program}{f:FuncId}{fn:Func}{c:Code}(H:P.funcs[f]? =some fn)(x:fn.body=some c)(p:(fn.name== "runtime.NumGoroutine")=false){S:Spec}
 (I:∀d m h K,S d m h K->∃C:Ctx,C.P=P/\(∀g S,assoc C.specs g=some S->Sound P g S)/\tQ C fn c (entry fn.ntmps d m h) (λr m' s=>∃m2 j,(∀b o,m2 b=some o->m' b=some o)/\PH.le h j/\PH.le j s/\K r m2 j)):Sound P f S:=by
 have E:=eD H x p (S:=λd m h K=>∃K',S d m h K'/\K=λr m' s=>∃m2 j,(∀b o,m2 b=some o->m' b=some o)/\PH.le h j/\PH.le j s/\K' r m2 j) (by
  grind)
 refine⟨E.1,λd J m h w K M N=>?_⟩;refine(E.2 d J m h w _ ⟨K,M,rfl⟩ N).mono ?_;rintro e V ⟨r,u,m',s,O,⟨m2,j,y,F,G,Q⟩,z,l,A⟩
 have n:∀b i,s b i=none->j b i=none:=by
  intro b i e;cases t:j b i with
  |none=>rfl
  |some v=>rw[G.le b i v t]at e;cases e
 refine⟨r,u,m2,j,O,Q,z,?_,λb x=>?_⟩
 .refine⟨l.tape,l.os,l.output,l.drawn,l.size,l.frame,λb o v e=>l.hsat b o v (G.le b o v e),λb o e=>l.msat b o (y b o e),λb o e i=>n b i (l.disj b o (y b o e) i),F.le,λb R D=>?_,λb o e=>l.mfr b o (y b o e)⟩;funext i;have e:=congrFun (l.hold b R D) i;show j b i=h b i;cases t:h b i with
  |some v=>exact(F.le b i v t)
  |none=>grind
 .obtain⟨T,W,U⟩:=A b x;refine⟨T,?_,λi=>n b i (U i)⟩;cases t:m2 b with
  |none=>rfl
  |some o=>grind
def iI(h:PH)(K:cr):CV->MH->PH->Prop:=λr c f=>(∀b o,c b=some o->∀i,f b i=none)->∃d e,(∀b o,d b=some o->c b=some o)/\PH.le h e/\
 (∀b i v,e b i=some v->f b i=some v\/∃g E j,c b=some (.cells g E j)/\g[i]? =some v/\d b=none)/\K r d e
theorem Sound.strong{P:Program}{f:FuncId}{S:Spec}(A:Sound P f (λg m h K=>∃K',S g m h K'/\K=iI h K')):Sound P f S:=by
 refine⟨A.1,λg I m h w K J M=>?_⟩;refine(A.2 g I m h w _ ⟨K,J,rfl⟩ M).mono ?_;rintro e X ⟨r,u,Y,Z,N,j,p,c,s⟩;obtain⟨D,l,t,F,x,O⟩:=j c.disj;refine⟨r,u,D,l,N,O,p,?_,λb Q=>?_⟩
 .refine⟨c.tape,c.os,c.output,c.drawn,c.size,c.frame,λb o v e=>?_,λb o e=>c.msat b o (t b o e),λb o e i=>?_,F.le,λb R y=>?_,λb o e=>c.mfr b o (t b o e)⟩
  .rcases x b o v e with d|⟨G,E,H,d,z,_⟩
   .exact c.hsat b o v d
   .rw[cell_of_heap (c.msat b _ d),cg];exact z
  .cases n:l b i with
   |none=>rfl
   |some v=>
    rcases x b i v n with d|⟨G,E,H,d,z,T⟩
    .rw[c.disj b o (t b o e) i]at d;cases d
    grind
  .funext i;have e:=congrFun (c.hold b R y) i;show l b i=h b i;cases n:h b i with
   |some v=>exact(F.le b i v n)
   |none=>
    cases U:l b i with
    |none=>rfl
    |some v=>
     rcases x b i v U with d|⟨G,E,H,d,z,T⟩
     .grind
     .rcases c.mfr b _ d with V|V
      .omega
      grind
 .obtain⟨W,f2,f3⟩:=s b Q;refine⟨W,?_,λi=>?_⟩
  .cases n:D b with
   |none=>rfl
   |some o=>grind
  .cases n:l b i with
   |none=>rfl
   |some v=>
    grind
theorem aoQ{P:Program}{f:FuncId}{fn:Func}{c:Code}(e:P.funcs[f]? =some fn)(i:fn.body=some c)(d:(fn.name== "runtime.NumGoroutine")=false){S:Spec}
 (j:∀b m h K,S b m h K->∃C:Ctx,C.P=P/\(∀g S,assoc C.specs g=some S->Sound P g S)/\tQ C fn c (entry fn.ntmps b m h) (iI h K)):Sound P f S:=
 .strong (eD e i d (S:=λb m h K=>∃K',S b m h K'/\K=iI h K') (by
  grind))
end
end Go.Vc
namespace Go.Vc
open Go List
theorem aC{c:Bool}{A B:Prop}(b:c=true->A)(d:c=false->B):branch c A B:=by
 cases c
 .exact d rfl
 .exact b rfl
theorem aF{p:Prop}[Decidable p]{A B:Prop}(b:p->A)(c:¬p->B):branch (decide p) A B:=
 aC (λh=>b (of_decide_eq_true h)) (λh=>c (of_decide_eq_false h))
theorem dY{n:Int}(b: -9223372036854775808<=n)(c:n<9223372036854775808):IntKind.i64.wrap n=n:=by
 rw[IntKind.wrap_i64];omega
theorem aU.of_m{m:MH}{h:PH}{b off:Nat}{cs:Array Value}{E:TypeId}{c:Nat×Nat}{l:cn}(d:m b=some (.cells cs E c))(e:(cs.toList.drop off).take l.length=l):aU m h b off l:=.lent cs E c d e
end Go.Vc
namespace Go.Ps
open Go Go.Vc Go.Proofs List Tryz
variable{K:cr}{m:MH}{h:PH}{ps:cq}{cb:Nat}{l:cq}{i:Nat}{N:Nat}{m':MH}{h':PH}{co:cq}{gr:cq}{od:cv}{ta:Int}{li:Int}{xs:List cn}{sz:Nat}{ks:List cq}{rs:cq}{r:Sl}{a:cq}{b:Nat}
structure VV where
 kind:Int
 int:Int
 text:ByteArray
abbrev cw:=List VV
abbrev dq:=List (Sl×cw)
abbrev ct:=List cw
structure OV where
 kind:Int
 index:Int
 value:VV
abbrev ef:=List OV
structure PV where
 op:Int
 cmp:Int
 left:OV
 right:OV
 args:Sl
abbrev dr:=List PV
structure QV where
 op:Int
 table:Int
 where_:PV
 columns:Sl
 on:Sl
 group:Sl
 order:Sl
 limit:Int
 args:Sl
abbrev dn:=List QV
variable{v:QV}
structure vE where
 op:Int
 table:Int
 where_:PV
 columns:Sl
 on:Sl
 group:Sl
 order:Sl
 limit:Int
 left:Int
 right:Int
structure qJ where
 name:ByteArray
 kind:Int
structure Fo where
 columns:Sl
 table:Int
structure cL where
 name:ByteArray
 columns:Sl
 key:Int
 references:Sl
 checks:Sl
structure bW where
 version:Int
 tables:Sl
variable{sc:bW}
abbrev eN(n:Int):Value:=.int .i64 n
abbrev hJ(s:Sl):Value:=.slice s.a s.len s.cap
abbrev lI:Value:=.slice none 0 0
abbrev Wy:Value:=.string ⟨⟨[]⟩⟩
abbrev vQp(b o:Nat):Value:=.pointer (some ⟨b,o,none⟩)
abbrev fV(n:Int):At:=.val (.int .i64 n)
abbrev vD(s:Sl):At:=.val (.slice s.a s.len s.cap)
abbrev Fq:At:=.val (.slice none 0 0)
abbrev aQz:At:=.val (.string ⟨⟨[]⟩⟩)
abbrev gG(n:Int):SV:=.at (.val (.int .i64 n))
abbrev sQs(s:Sl):SV:=.at (.val (.slice s.a s.len s.cap))
abbrev sQn:SV:=.at (.val (.slice none 0 0))
abbrev sQp(b o:Nat):SV:=.at (.ptr b o)
abbrev sQo(b o:Nat):SV:=.at (.val (.pointer (some ⟨b,o,none⟩)))
abbrev sQb(b:Bool):SV:=.at (.val (.bool b))
abbrev sQl(k:Nat):SV:=.at (.lst k)
abbrev eV(n:Int):CV:=.val (.int .i64 n)
abbrev AQ(b:Bool):CV:=.val (.bool b)
abbrev Dj(s:Sl):CV:=.val (.slice s.a s.len s.cap)
abbrev jQ:CV:=.val (.slice none 0 0)
abbrev cQp(b o:Nat):CV:=.val (.pointer (some ⟨b,o,none⟩))
abbrev fM(l:cn):CV:=.val (.agg ⟨l⟩)
abbrev oQ(T:TypeId)(l:dj):Option Go.Vc.Own:=some (.cells T l)
abbrev eQ{α:Type}(x:α):Prop:=x=x
abbrev eP(k:Nat):Prop:=sQp k 0=sQp k 0
abbrev eL(k:Nat):Prop:=sQl k=sQl k
abbrev TE(s:ByteArray):At:=.val (.string s)
abbrev zQ:dj:=[fV 0,fV 0,fV 0,fV 0,fV 0,fV 0,fV 0,fV 0,aQz,fV 0,fV 0,fV 0,fV 0,aQz,Fq,Fq,Fq,Fq,Fq,fV 0,Fq]
abbrev zP:dj:=[fV 0,fV 0,fV 0,fV 0,fV 0,fV 0,aQz,fV 0,fV 0,fV 0,fV 0,aQz,Fq]
def eI(n:Int):cn:=[.int .i64 n]
def eS(s:Sl):cn:=[.slice s.a s.len s.cap]
def VV.enc(v:VV):cn:=[.int .i64 v.kind,.int .i64 v.int,.string v.text]
def OV.enc(o:OV):cn:=[.int .i64 o.kind,.int .i64 o.index,.int .i64 o.value.kind,.int .i64 o.value.int,.string o.value.text]
def PV.enc(p:PV):cn:=
 [.int .i64 p.op,.int .i64 p.cmp,
  .int .i64 p.left.kind,.int .i64 p.left.index,.int .i64 p.left.value.kind,.int .i64 p.left.value.int,.string p.left.value.text,
  .int .i64 p.right.kind,.int .i64 p.right.index,.int .i64 p.right.value.kind,.int .i64 p.right.value.int,.string p.right.value.text,
  .slice p.args.a p.args.len p.args.cap]
def QV.enc(q:QV):cn:=
 [.int .i64 q.op,.int .i64 q.table,
  .int .i64 q.where_.op,.int .i64 q.where_.cmp,
  .int .i64 q.where_.left.kind,.int .i64 q.where_.left.index,.int .i64 q.where_.left.value.kind,.int .i64 q.where_.left.value.int,.string q.where_.left.value.text,
  .int .i64 q.where_.right.kind,.int .i64 q.where_.right.index,.int .i64 q.where_.right.value.kind,.int .i64 q.where_.right.value.int,.string q.where_.right.value.text,
  .slice q.where_.args.a q.where_.args.len q.where_.args.cap,
  .slice q.columns.a q.columns.len q.columns.cap,.slice q.on.a q.on.len q.on.cap,.slice q.group.a q.group.len q.group.cap,.slice q.order.a q.order.len q.order.cap,
  .int .i64 q.limit,.slice q.args.a q.args.len q.args.cap]
def vE.enc(q:vE):cn:=
 [.int .i64 q.op,.int .i64 q.table,
  .int .i64 q.where_.op,.int .i64 q.where_.cmp,
  .int .i64 q.where_.left.kind,.int .i64 q.where_.left.index,.int .i64 q.where_.left.value.kind,.int .i64 q.where_.left.value.int,.string q.where_.left.value.text,
  .int .i64 q.where_.right.kind,.int .i64 q.where_.right.index,.int .i64 q.where_.right.value.kind,.int .i64 q.where_.right.value.int,.string q.where_.right.value.text,
  .slice q.where_.args.a q.where_.args.len q.where_.args.cap,
  .slice q.columns.a q.columns.len q.columns.cap,.slice q.on.a q.on.len q.on.cap,.slice q.group.a q.group.len q.group.cap,.slice q.order.a q.order.len q.order.cap,
  .int .i64 q.limit,.int .i64 q.left,.int .i64 q.right]
def qJ.enc(c:qJ):cn:=[.string c.name,.int .i64 c.kind]
def Fo.enc(r:Fo):cn:=[.slice r.columns.a r.columns.len r.columns.cap,.int .i64 r.table]
def cL.enc(t:cL):cn:=[.string t.name,.slice t.columns.a t.columns.len t.columns.cap,.int .i64 t.key,.slice t.references.a t.references.len t.references.cap,.slice t.checks.a t.checks.len t.checks.cap]
def bW.enc(s:bW):cn:=[.int .i64 s.version,.slice s.tables.a s.tables.len s.tables.cap]
abbrev zV:cn:=[eN 0,eN 0,eN 0,eN 0,eN 0,eN 0,eN 0,eN 0,Wy,eN 0,eN 0,eN 0,eN 0,Wy,lI,lI,lI,lI,lI,eN 0,lI]
abbrev pQ(p:PV)(r:dj):dj:=fV p.op::fV p.cmp::fV p.left.kind::fV p.left.index::fV p.left.value.kind::fV p.left.value.int::TE p.left.value.text::fV p.right.kind::fV p.right.index::fV p.right.value.kind::fV p.right.value.int::TE p.right.value.text::vD p.args::r
abbrev qQ(q:QV)(x:At):dj:=fV q.op::fV q.table::pQ q.where_ [vD q.columns,vD q.on,vD q.group,vD q.order,fV q.limit,x]
def kY(p:Int×Int):cn:=[.int .i64 p.1,.int .i64 p.2]
def sJ(p:Int×Bool):cn:=[.int .i64 p.1,.bool p.2]
def dI:Dec:=⟨Int,eI⟩
def dS:Dec:=⟨Sl,eS⟩
def dB:Dec:=⟨Bool,λb=>[.bool b]⟩
def dU8:Dec:=⟨UInt8,λb=>[.int .u8 b.toNat]⟩
def cjX:Dec:=⟨ByteArray,λs=>[.string s]⟩
def bcZ:Option Nat->Value
 |none=>.nilFunc
 |some f=>.func (.func f) #[] #[]
def dF:Dec:=⟨Option Nat,λf=>[bcZ f]⟩
structure NV where
 s:bW
 params:Sl
 q:QV
 args:Sl
def NV.enc(n:NV):cn:=n.s.enc++eS n.params++n.q.enc++eS n.args
structure gC where
 query:QV
 args:Sl
 rows:Int
 env:Int
 width:Int
def gC.enc(x:gC):cn:=x.query.enc++[.slice x.args.a x.args.len x.args.cap,.int .i64 x.rows,.int .i64 x.env,.int .i64 x.width]
def dec:TypeId->Dec:=λT=>match T with
 |2=>dI
 |3=>dI
 |4=>dB
 |5=>dU8
 |9=>cjX
 |54=>dI
 |22=>dS
 |23=>dS
 |25=>dS
 |30=>dS
 |33=>dS
 |34=>dS
 |35=>dS
 |36=>dS
 |41=>dS
 |53=>dS
 |94=>dS
 |84=>dS
 |85=>dS
 |79=>dS
 |43=>⟨bW,bW.enc⟩
 |27=>⟨VV,VV.enc⟩
 |29=>⟨OV,OV.enc⟩
 |32=>⟨PV,PV.enc⟩
 |38=>⟨QV,QV.enc⟩
 |87=>⟨cL,cL.enc⟩
 |101=>⟨Int×Int,kY⟩
 |103=>⟨Int×Bool,sJ⟩
 |113=>⟨qJ,qJ.enc⟩
 |146=>⟨Fo,Fo.enc⟩
 |218=>⟨NV,NV.enc⟩
 |219=>dF
 |235=>dF
 |226=>⟨Nat,λb=>[.func (.func 233) #[] #[.pointer (some ⟨b,0,none⟩)]]⟩
 |169=>⟨Nat,λb=>[.map (some b)]⟩
 |173=>⟨Nat,λb=>[.map (some b)]⟩
 |60=>dS
 |134=>dS
 |62=>⟨Sl×Sl,λp=>[.slice p.1.a p.1.len p.1.cap,.slice p.2.a p.2.len p.2.cap]⟩
 |123=>⟨vE,vE.enc⟩
 |130=>⟨Nat,λb=>[.map (some b)]⟩
 |136=>⟨gC,gC.enc⟩
 |133=>⟨Nat×Nat×Nat,λb=>[.func (.func 80) #[] #[.pointer (some ⟨b.1,0,none⟩),.pointer (some ⟨b.2.1,0,none⟩),.pointer (some ⟨b.2.2,0,none⟩)]]⟩
 |_=>⟨Unit,λ_=>[]⟩
def cA(f:Func):Code:=match f.body with|some c=>c|none=>.skip
noncomputable def ctx(specs:List (Nat×Vc.Spec))(loops:List (Nat×Nz))(cuts:List (Nat×Zn))(moves:List (Nat×dl))(retMove:Bool):Ctx:=
 {P:=Tryz.prog,loops2:=[],cuts2:=[],rcuts:=[],heapT:=[],specs:=specs,dec:=dec,loops:=loops,cuts:=cuts,moves:=moves,retMove:=retMove,yield:=none}
noncomputable def dD(specs:List (Nat×Vc.Spec))(loops:dt)(cuts:dt)(moves:List (Nat×dl))(retMove:Bool):Ctx:=
 {P:=Tryz.prog,loops2:=loops,cuts2:=cuts,rcuts:=[],heapT:=[],specs:=specs,dec:=dec,loops:=[],cuts:=[],moves:=moves,retMove:=retMove,yield:=none}
noncomputable def cjZ(specs:List (Nat×Vc.Spec))(loops:dt)(cuts:dt)(rcuts:List (Nat×dt))(moves:List (Nat×dl))(retMove:Bool):Ctx:=
 {P:=Tryz.prog,loops2:=loops,cuts2:=cuts,rcuts:=rcuts,heapT:=[],specs:=specs,dec:=dec,loops:=[],cuts:=[],moves:=moves,retMove:=retMove,yield:=none}
noncomputable def tR(specs:List (Nat×Vc.Spec))(loops:dt)(cuts:dt)(rcuts:List (Nat×dt))(heapT:dx)(moves:List (Nat×dl))(retMove:Bool):Ctx:=
 {P:=Tryz.prog,loops2:=loops,cuts2:=cuts,rcuts:=rcuts,heapT:=heapT,specs:=specs,dec:=dec,loops:=[],cuts:=[],moves:=moves,retMove:=retMove,yield:=none}
abbrev cm:=Sound Tryz.prog
theorem aG:∀g S,assoc ([]:List (Nat×Vc.Spec)) g=some S->cm g S:=λg S h=>by simp[assoc]at h
theorem aE{c:Nat}{S0:Vc.Spec}{r:List (Nat×Vc.Spec)}(e:cm c S0)(f:∀g S,assoc r g=some S->cm g S):∀g S,assoc ((c,S0)::r) g=some S->cm g S:=by
 intro g S h;simp only[assoc]at h;split at h
 .rename_i d;have:=ca d
  grind
 grind
def V2(n:Int):di->Int×di
 |[]=>(0,[])
 |b::r=>if n<1 then(0,b::r)else((b.toNat:Int)%n,r)
structure Zp(m:MH)(h:PH)(cb:Nat)(r:di):Prop where
 ex:∃(s:Sl)(cs:di)(k:Nat),m cb=some (.cells #[.slice s.a s.len s.cap,.int .i64 k] 83 (0,0))/\cC h s 1 (bA cs)/\k<=cs.length/\cs.length<=1000/\r=cs.drop k
structure bE(m m':MH)(cb:Nat):Prop where
 other:∀b,b≠cb->m' b=m b
end Go.Ps
namespace Go.Vc
open Go List
theorem PH.le.refl(h:PH):PH.le h h:=⟨λ_ _ _ e=>e⟩
theorem PH.le.trans{h h' c:PH}(a:PH.le h h')(b:PH.le h' c):PH.le h c:=⟨λx y v e=>b.le x y v (a.le x y v e)⟩
theorem bM.mono{h h':PH}{b o:Nat}{l:cn}(r:bM h b o l)(le:PH.le h h'):bM h' b o l:=⟨λi v e=>le.le _ _ _ (r.rd i v e)⟩
theorem cC.mono{h h':PH}{s:Sl}{sz:Nat}{xs:List cn}(r:cC h s sz xs)(le:PH.le h h'):cC h' s sz xs:=
 ⟨r.len,r.row.imp id λ⟨b,o,e,k⟩=>⟨b,o,e,λi x c=>(k i x c).mono le⟩,r.cap⟩
theorem cC.get{h:PH}{s:Sl}{sz:Nat}{xs:List cn}(r:cC h s sz xs){i:Nat}{e:cn}(c:xs[i]? =some e):
 ∃b o,s.a=some ⟨b,o,none⟩/\bM h b (o+i*sz) e:=by
 rcases r.row with rfl|⟨b,o,d,k⟩
 .simp at c
 grind
theorem dE.blk{m:MH}{s:Sl}{E sz:Nat}{xs:List cn}(h:dE m s E sz xs){b i:Nat}(e:s.a=some ⟨b,i,none⟩):∃c,m b=some (.cells c E (0,0)):=by
 rcases h.ex with⟨rfl,_⟩|⟨f,d,c,rfl,g,_⟩
 .cases e
 grind
theorem dE.slen{m:MH}{s:Sl}{E sz:Nat}{xs:List cn}(h:dE m s E sz xs):s.len=xs.length:=by
 rcases h.ex with⟨rfl,rfl⟩|⟨e,c,d,rfl,f,_⟩<;>rfl
theorem dE.keep{m m':MH}{s:Sl}{E sz:Nat}{xs:List cn}(h:dE m s E sz xs)(f:∀b i,s.a=some ⟨b,i,none⟩->m' b=m b):dE m' s E sz xs:=by
 refine⟨h.rows,?_⟩;rcases h.ex with c|⟨b,d,e,rfl,g,j⟩
 .exact .inl c
 grind
theorem cC.nil(h:PH)(sz:Nat):cC h ⟨none,0,0⟩ sz []:=⟨rfl,.inl rfl,Nat.le_refl _⟩
end Go.Vc
namespace Go.Ps
open Go Go.Vc Go.Proofs List Tryz
variable{K:cr}{m:MH}{h:PH}{ps:cq}{cb:Nat}{sc:bW}{v:QV}{l:cq}{i:Nat}{N:Nat}{m':MH}{h':PH}{co:cq}{gr:cq}{od:cv}{ta:Int}{li:Int}{xs:List cn}{sz:Nat}{ks:List cq}{rs:cq}{r:Sl}{a:cq}{b:Nat}
structure Ints(h:PH)(s:Sl)(l:cq):Prop where
 row:cC h s 1 (l.map eI)
 len:l.length<=17592186044416
theorem Ints.mono{s:Sl}(r:Ints h s l)(le:PH.le h h'):Ints h' s l:=⟨r.row.mono le,r.len⟩
theorem Ints.slen{s:Sl}(r:Ints h s l):s.len=l.length:=by have:=r.row.len;grind
structure iD(h:PH)(s:Sl)(l:cu):Prop where
 row:cC h s 2 (l.map kY)
 len:l.length<=8796093022208
theorem iD.mono{s:Sl}{l:cu}(r:iD h s l)(le:PH.le h h'):iD h' s l:=⟨r.row.mono le,r.len⟩
theorem iD.slen{s:Sl}{l:cu}(r:iD h s l):s.len=l.length:=by have:=r.row.len;grind
structure jO(h:PH)(s:Sl)(l:cv):Prop where
 row:cC h s 2 (l.map sJ)
 len:l.length<=8796093022208
theorem jO.mono{s:Sl}{l:cv}(r:jO h s l)(le:PH.le h h'):jO h' s l:=⟨r.row.mono le,r.len⟩
theorem jO.slen{s:Sl}{l:cv}(r:jO h s l):s.len=l.length:=by have:=r.row.len;grind
inductive Pred where
 |mk (op cmp:Int) (left right:OV) (args:List Pred)
abbrev dg:=List Pred
variable{p:Pred}
mutual
def dO(h:PH):Pred->PV->Prop
 |.mk op c l r args,v=>v.op=op/\v.cmp=c/\v.left=l/\v.right=r/\args.length<=502633886983/\∃d:dr,cC h v.args 13 (d.map PV.enc)/\pK h args d
def pK(h:PH):dg->dr->Prop
 |[],d=>d=[]
 |p::ps,d=>∃v c,d=v::c/\dO h p v/\pK h ps c
end
mutual
theorem dO.mono{h h':PH}(le:PH.le h h'):∀{p:Pred}{v:PV},dO h p v->dO h' p v
 |.mk ..,_,⟨c,d,e,f,g,j,n,s⟩=>⟨c,d,e,f,g,j,n.mono le,pK.mono le s⟩
theorem pK.mono{h h':PH}(le:PH.le h h'):∀{ps:dg}{vs:dr},pK h ps vs->pK h' ps vs
 |[],_,h=>h
 |_::_,_,⟨v,c,d,e,f⟩=>⟨v,c,d,dO.mono le e,pK.mono le f⟩
end
theorem pK.length{h:PH}:∀{ps:dg}{vs:dr},pK h ps vs->vs.length=ps.length
 |[],_,h=>by rw[show _=[]from h];rfl
 |_::_,_,⟨_,_,c,_,d⟩=>by rw[c];simp[pK.length d]
theorem pK.get{h:PH}:∀{ps:dg}{vs:dr},pK h ps vs->∀{i:Nat}{p:Pred},ps[i]? =some p->∃v,vs[i]? =some v/\dO h p v
 |[],_,_,i,p,e=>by simp at e
 |p0::ps,_,⟨v,c,rfl,f,d⟩,0,p,e=>bg
 |p0::ps,_,⟨v,c,rfl,f,d⟩,i+1,p,e=>by simp at e;simpa using pK.get d e
inductive Query where
 |mk (op table:Int) (wher:Pred) (columns:cq) (on:cu) (group:cq) (order:cv) (limit:Int) (args:List Query)
abbrev cz:=List Query
mutual
def cJ(h:PH):Query->QV->Prop
 |.mk op table w columns on group c d args,v=>v.op=op/\v.table=table/\dO h w v.where_/\Ints h v.columns columns/\iD h v.on on/\Ints h v.group group/\jO h v.order c/\v.limit=d/\
  args.length<=502633886983/\∃e:dn,cC h v.args 21 (e.map QV.enc)/\qU h args e
def qU(h:PH):cz->dn->Prop
 |[],d=>d=[]
 |p::ps,d=>∃v c,d=v::c/\cJ h p v/\qU h ps c
end
mutual
theorem cJ.mono{h h':PH}(le:PH.le h h'):∀{p:Query}{v:QV},cJ h p v->cJ h' p v
 |.mk ..,_,⟨e,f,g,j,n,s,t,u,x,y,c,d⟩=>⟨e,f,g.mono le,j.mono le,n.mono le,s.mono le,t.mono le,u,x,y,c.mono le,qU.mono le d⟩
theorem qU.mono{h h':PH}(le:PH.le h h'):∀{ps:cz}{vs:dn},qU h ps vs->qU h' ps vs
 |[],_,h=>h
 |_::_,_,⟨v,c,d,e,f⟩=>⟨v,c,d,cJ.mono le e,qU.mono le f⟩
end
theorem qU.length{h:PH}:∀{ps:cz}{vs:dn},qU h ps vs->vs.length=ps.length
 |[],_,h=>by rw[show _=[]from h];rfl
 |_::_,_,⟨_,_,c,_,d⟩=>by rw[c];simp[qU.length d]
theorem qU.get{h:PH}:∀{ps:cz}{vs:dn},qU h ps vs->∀{i:Nat}{p:Query},ps[i]? =some p->∃v,vs[i]? =some v/\cJ h p v
 |[],_,_,i,p,e=>by simp at e
 |p0::ps,_,⟨v,c,rfl,f,d⟩,0,p,e=>bg
 |p0::ps,_,⟨v,c,rfl,f,d⟩,i+1,p,e=>by simp at e;simpa using qU.get d e
def iv(n:Int):SV:=.at (.val (.int .i64 n))
def sv(s:Sl):SV:=.at (.val (.slice s.a s.len s.cap))
def bv(b:Bool):SV:=.at (.val (.bool b))
def vv(v:Value):SV:=.at (.val v)
def cS(s:Sl):CV:=.val (.slice s.a s.len s.cap)
def cI(n:Int):CV:=.val (.int .i64 n)
def cB(b:Bool):CV:=.val (.bool b)
def cP(b:Nat):CV:=.val (.pointer (some ⟨b,0,none⟩))
def FP(id:Nat)(st:Nat->St)(inv:Nat->Prop)(mu:Nat->Nat):Nat×Nz:=(id,{A:=Nat,st:=st,inv:=inv,mu:=mu})
theorem kR(h:i<=140737488355328):IntKind.i64.wrap ((i:Int)+1)=((i+1:Nat):Int):=by
 rw[dY aD aD];rfl
theorem Ints.at{s:Sl}(r:Ints h s l){x:Int}(c:l[i]? =some x):∃b o,s.a=some ⟨b,o,none⟩/\bM h b (o+i) [.int .i64 x]:=by
 obtain⟨b,o,d,f⟩:=r.row.get (i:=i) (e:=eI x) (by simp[c]);exact⟨b,o,d,by simpa[eI]using f⟩
theorem MT{p:Prop}(h:p:=by repeat' (first|with_reducible rfl|exact trivial|refine⟨?_,?_⟩|rfl|(rw[kR aD];done)|(rw[kR aD]))):p:=h
def eT(k:Int):Bool:=k==3||k==4||k==5
def C6(t:ByteArray):Bool:=t.toList==[]
def lA(v:VV):Bool:=
 if v.kind==1||v.kind==2 then v.int==0&&C6 v.text
 else if v.kind==3 then(v.int==0||v.int==1)&&C6 v.text
 else if v.kind==4 then C6 v.text
 else if v.kind==5 then v.int==0&&(v.text.size:Int)<=64
 else false
def nK(v:VV):Bool:=lA v&&v.kind>=3
def aV(v:VV):CV:=.val (.agg #[.int .i64 v.kind,.int .i64 v.int,.string v.text])
def bkZ:Vc.Spec:=λc m h K=>∃k,c=[cI k]/\K (cB (eT k)) m h
def Pn:Vc.Spec:=λc m h K=>∃v,c=[aV v]/\K (cB (lA v)) m h
def Si:Vc.Spec:=λc m h K=>∃v,c=[aV v]/\K (cB (nK v)) m h
def PB:Vc.Spec:=λc m h K=>∃s l,c=[cS s]/\Ints h s l/\K (cB (l.all eT)) m h
noncomputable def bxX(s:Sl)(l:cq)(m:MH)(h:PH):Ctx:=
 ctx [(151,bkZ)] [FP 2 (λi=>bQ 15 16 [(5,sv s),(6,iv s.len),(7,iv i)] [] m h) (λi=>i<=l.length/\(l.take i).all eT=true) (λi=>l.length-i)] [] [] false
noncomputable def aXJ(s:Sl)(l:cq)(m:MH)(h:PH):Ctx:=
 ctx [] [FP 2 (λi=>bQ 22 23 [(5,sv s),(6,iv s.len),(7,iv i)] [] m h) (λi=>i<=l.length/\(l.take i).all eT=true) (λi=>l.length-i)] [] [] false
abbrev cX(a:Bool)(b:Prop)(c:Bool)(d e:Prop):Prop:=branch a b (branch c d e)
abbrev gO(a:cr)(b:Nat->Option Obj)(c:Nat->Nat->Option Value):Prop:=a (AQ true) b c
attribute [push_cast] cX gO
def RI(k:Int)(m:MH)(h:PH)(K:cr):Prop:=
  cX (k==3) (gO K m h) (k==4) (gO K m h) (K (AQ (k==5)) m h)
abbrev dW(a b:Int)(c d:Prop):Prop:=branch (a==b) c d
noncomputable abbrev CQ(a:VV):di:=a.text.toList
abbrev GG(a:cr)(b:VV)(c:MH)(d:PH):Prop:=a (AQ (CQ b==[])) c d
noncomputable abbrev aZ:CV:=AQ false
attribute [push_cast] dW CQ GG aZ
def He(v:VV)(m:MH)(h:PH)(K:cr):Prop:=
  cX (v.kind==1) (dW v.int 0 (GG K v m h) (K aZ m h)) (v.kind==2) (dW v.int 0 (GG K v m h) (K aZ m h)) (cX (v.kind==3) (cX (v.int==0) (GG K v m h) (v.int==1) (GG K v m h) (K aZ m h)) (v.kind==4) (GG K v m h) (dW v.kind 5 (dW v.int 0 (K (AQ (decide ((↑v.text.size:Int)<=64))) m h) (K aZ m h)) (K aZ m h)))
abbrev fH(a:Prop)(b:Bool)(c d:Prop):Prop:=a/\branch b c d
noncomputable abbrev H0(a:CV):dk:=[a]
abbrev fP(a b:CV):Prop:=H0 a=H0 b
abbrev CJ(a b:VV):Prop:=fP (fM a.enc) (fM b.enc)
attribute [push_cast] fH H0 fP CJ
def Q3(v:VV)(m:MH)(h:PH)(K:cr):Prop:=
  ∃(c:VV),fH (CJ v c) (lA c) (K (AQ (decide (v.kind>=3))) m h) (K aZ m h)
abbrev dC(a b:Int)(c d:Prop):Prop:=branch (a !=b) c d
attribute [push_cast] dC
def Rm(v:VV)(m:MH)(h:PH)(K:cr):Prop:=
  ∃(c:VV),fH (CJ v c) (lA c) (dC v.kind 1 (K (AQ (v.kind !=2)) m h) (K aZ m h)) (K aZ m h)
abbrev kA(a:Prop)(b:Nat->Prop):Prop:=a/\∀(x:Nat),b x
abbrev aA(a b c:Prop):Prop:=a/\b/\c
abbrev gI(a:Bool):Prop:=a=true
noncomputable abbrev Dc(a:cq):Bool:=List.all a eT
abbrev Bk(a:Nat)(b:cq):Prop:=a<=b.length/\gI (Dc (List.take a b))
abbrev aI(a:Sl):Prop:=eQ (sQs a)
noncomputable abbrev Hs(a:Nat):SV:=gG (↑a:Int)
abbrev bJ(a:Sl):Prop:=eQ (Hs a.len)
abbrev bD(a:SV)(b:Nat):Prop:=a=Hs b
abbrev bB(a:Nat):Prop:=bD (gG 0) a
abbrev bP(a:Prop)(b:PH)(c:Nat->Nat->Option Value):Prop:=aA a (b=c) True
abbrev aX(a b:Int)(c d:Prop):Prop:=branch (decide (a<b)) c d
noncomputable abbrev aH(a:Sl):Int:=(↑a.len:Int)
abbrev bI(a:Nat->Nat->Prop):Prop:=∃(x c:Nat),a x c
abbrev bK(a:Option Addr)(b c:Nat):Prop:=a=Option.some (Addr.mk b c Option.none)
noncomputable abbrev fT(a:Nat)(b:Int)(c:Nat):Nat:=a+b.toNat*c
noncomputable abbrev bN(a b c:Nat):Nat:=fT a (↑b:Int) c
noncomputable abbrev lD(a:Value):cn:=[a]
noncomputable abbrev bG(a:Int):cn:=lD (eN a)
abbrev kU(a b:Int):Prop:=fP (eV a) (eV b)
abbrev bO(a b c:Prop):Prop:=aA a b (c/\True)
noncomputable abbrev fI(a:Int):Int:=IntKind.wrap IntKind.i64 a
noncomputable abbrev bF(a:Nat)(b:Int):Int:=fI ((↑a:Int)+b)
attribute [push_cast] kA aA gI Dc Bk aI Hs bJ bD bB bP aX aH bI bK fT bN lD bG kU bO fI bF
def U7(s:Sl)(l:cq)(m:MH)(h:PH)(K:cr):Prop:=
  kA (∃(x:Nat),aA (Bk x l) (aI s) (aA (bJ s) (bB x) (bP (m=m) h h))) (λx=>Bk x l->aX (↑x:Int) (aH s) (bI (λb o=>aA (bK s.a b o) (0<=(↑x:Int)) ((↑x:Int)<aH s/\∃(y:Int),aU m h b (bN o x 1) (bG y)/\∃(k:Int),fH (kU y k) (!(eT k)) (K aZ m h) (∃(c:Nat),aA (Bk c l) (l.length-c<l.length-x) (aA (aI s) (bJ s) (bO (bD (gG (bF x 1)) c) (m=m) (h=h))))))) (gO K m h))
def Rb(s:Sl)(l:cq)(m:MH)(h:PH)(K:cr):Prop:=
  kA (∃(x:Nat),aA (Bk x l) (aI s) (aA (bJ s) (bB x) (bP (m=m) h h))) (λx=>Bk x l->aX (↑x:Int) (aH s) (bI (λb o=>aA (bK s.a b o) (0<=(↑x:Int)) ((↑x:Int)<aH s/\∃(y:Int),aU m h b (bN o x 1) (bG y)/\dC y 3 (dC y 4 (dC y 5 (K aZ m h) (∃(c:Nat),aA (Bk c l) (l.length-c<l.length-x) (aA (aI s) (bJ s) (bO (bD (gG (bF x 1)) c) (m=m) (h=h))))) (∃(c:Nat),aA (Bk c l) (l.length-c<l.length-x) (aA (aI s) (bJ s) (bO (bD (gG (bF x 1)) c) (m=m) (h=h))))) (∃(c:Nat),aA (Bk c l) (l.length-c<l.length-x) (aA (aI s) (bJ s) (bO (bD (gG (bF x 1)) c) (m=m) (h=h))))))) (gO K m h))
theorem bHX(v:VV)(m:MH)(h:PH)(K:cr):He v m h K=tQ (ctx [] [] [] [] false) Tryz.f176 (cA Tryz.f176) (entry Tryz.f176.ntmps [aV v] m h) K:=ax
theorem jD{x y:Bool}(c:K (cB x) m h)(e:x=y):K (.val (.bool y)) m h:=e▸c
theorem Z0{v:VV}(c:K (cB (lA v)) m h):He v m h K:=by
 dsimp only[He,push_cast]
 repeat' (first|(refine aC (λ_=>?_) (λ_=>?_))|(refine jD c ?_;simp_all [lA,C6]))
theorem iH{f:FuncId}{fn:Func}(n:Tryz.prog.funcs[f]? =some fn){S:Vc.Spec}(j:∀c m h K,S c m h K->∃C:Ctx,C.P=Tryz.prog/\(∀g S,assoc C.specs g=some S->cm g S)/\∃N:Prop,N=tQ C fn (cA fn) (entry fn.ntmps c m h) K/\N)(s:fn.body=some (cA fn):=by rfl)(d:(fn.name== "runtime.NumGoroutine")=false:=by decide):cm f S:=eD n s d λc m h K t=>let⟨C,hC,hs,N,e,hn⟩:=j c m h K t;⟨C,hC,hs,e▸hn⟩
theorem O4:cm 151 bkZ:=by
 refine iH func151 ?_;rintro c m h K ⟨k,rfl,d⟩;refine⟨ctx [] [] [] [] false,rfl,aG,RI k m h K,ax,?_⟩;dsimp only[RI,push_cast]
 repeat' (first|(refine aC (λ_=>?_) (λ_=>?_))|(refine jD d ?_;simp_all [eT]))
theorem X7:cm 180 Pn:=by
 refine iH func180 ?_;rintro c m h K ⟨v,rfl,d⟩;refine⟨ctx [] [] [] [] false,rfl,aG,He v m h K,ax,?_⟩;exact Z0 d
theorem O0:cm 176 Pn:=by
 refine eD (fn:=Tryz.f176) (c:=cA Tryz.f176) func176 rfl az ?_;rintro d m h K ⟨v,rfl,e⟩;refine⟨ctx [] [] [] [] false,rfl,aG,?_⟩;rw[<-bHX v m h K];exact Z0 e
theorem Xq:cm 259 Si:=by
 refine iH func259 ?_;rintro c m h K ⟨v,rfl,d⟩;refine⟨ctx [(180,Pn)] [] [] [] false,rfl,aE X7 aG,Q3 v m h K,ax,?_⟩;dsimp only[Q3,push_cast];refine⟨v,rfl,?_⟩
 repeat' (first|(refine aC (λ_=>?_) (λ_=>?_))|(refine jD d ?_;simp_all [nK]))
theorem H7:cm 186 Si:=by
 refine iH func186 ?_;rintro g m h K ⟨v,rfl,e⟩;refine⟨ctx [(176,Pn)] [] [] [] false,rfl,aE O0 aG,Rm v m h K,ax,?_⟩;dsimp only[Rm,push_cast];refine⟨v,rfl,?_⟩;refine aC (λc=>aC (λd=>jD e ?_) (λd=>jD e ?_)) (λc=>jD e ?_)
 .have d:v.kind≠1:=bg
  by_cases f:v.kind=2
  .simp[nK,c,f]
  .have:3<=v.kind:=by
    simp only[lA]at c
    grind
   simp[nK,c,f,this]
 .have d:v.kind=1:=bg
  simp[nK,d]
 .simp[nK,c]
theorem AN{α:Type}{p:α->Bool}{l:List α}{x:α}(c:l[i]? =some x):(l.take (i+1)).all p=((l.take i).all p&&p x):=by
 rw[cd,all_append,c];simp
theorem Nv{α:Type}{p:α->Bool}{l:List α}{x:α}(c:l[i]? =some x)(d:p x=false):l.all p=false:=by
 grind
theorem QF:cm 87 PB:=by
 refine iH func87 ?_;rintro g m h K ⟨s,l,rfl,c,e⟩;refine⟨bxX s l m h,rfl,aE O4 aG,U7 s l m h K,ax,?_⟩;dsimp only[U7,push_cast];have A:=c.slen;have D:=c.len;refine⟨⟨0,⟨aD,ay⟩,rfl,rfl,rfl,rfl,rfl,trivial⟩,λi j=>aF (λd=>?_) (λn=>?_)⟩
 .obtain⟨x,f⟩:∃x,l[i]? =some x:=⟨l[i]'(by omega),bo _⟩
  obtain⟨t,u,y,E⟩:=c.at f;refine⟨t,u,y,aD,d,x,.imm bg,x,rfl,aC (λz=>jD e ?_) (λz=>?_)⟩
  .grind
  .refine⟨i+1,⟨aD,?_⟩,aD,rfl,rfl,by rw[kR aD],rfl,rfl,trivial⟩;rw[AN f,j.2]
   grind
 .refine jD e ?_
  grind
theorem XN:cm 218 PB:=by
 refine iH func218 ?_;rintro n m h K ⟨s,l,rfl,d,j⟩;refine⟨aXJ s l m h,rfl,aG,Rb s l m h K,ax,?_⟩;dsimp only[Rb,push_cast];have E:=d.slen;have F:=d.len;refine⟨⟨0,⟨aD,ay⟩,rfl,rfl,rfl,rfl,rfl,trivial⟩,λi t=>aF (λe=>?_) (λu=>?_)⟩
 .obtain⟨x,f⟩:∃x,l[i]? =some x:=⟨l[i]'(by omega),bo _⟩
  obtain⟨z,A,D,G⟩:=d.at f;have c:eT x=true->(l.take (i+1)).all eT=true:=λg=>by rw[AN f,t.2,g];rfl
  refine⟨z,A,D,aD,e,x,.imm bg,?_⟩;have next:eT x=true->∃(y:Nat),(y<=l.length/\(l.take y).all eT=true)/\l.length-y<l.length-i/\y=i+1:=λg=>⟨i+1,⟨aD,c g⟩,aD,rfl⟩
  repeat' (first|(refine aC (λ_=>?_) (λ_=>?_))|(refine jD j (Nv f ?_);simp_all [eT];done)|(refine⟨i+1,⟨aD,c (by simp_all [eT])⟩,aD,rfl,rfl,by rw[kR aD],rfl,rfl,trivial⟩))
 .refine jD j ?_
  grind
def Z4(a b:VV):Bool:=a.kind==b.kind&&(a.int==b.int&&(a.text.toList==b.text.toList&&true))
def YX(a b:OV):Bool:=a.kind==b.kind&&(a.index==b.index&&(Z4 a.value b.value&&true))
theorem mP{f:Field}{e:List Field}{d:Nat}{xs c:Array Value}{w:World}{x y:Value}{r r':Bool}(g:(f.name== "_")=false)(j:AS Tryz.prog (part f.type xs f.offset)=some x)(n:AS Tryz.prog (part f.type c f.offset)=some y)
 (s:(Op.equalIn d f.type x y).run Tryz.prog w= .ok r w)(t:(Op.eqFields d xs c e).run Tryz.prog w= .ok r' w):(Op.eqFields d xs c (f::e)).run Tryz.prog w= .ok (r&&r') w:=by
 have g:f.name≠ "_" :=bg
 simp only[Op.eqFields,if_pos g,Sem.run_bind,BU _ _ _ j,BU _ _ _ n,Result.andThen_ok,s];cases r
 .simp
 grind
noncomputable def PM(t k:Nat):Field:=(Tryz.prog.fieldsOf t).toList.getD k default
theorem Z3(a b:VV)(d:Nat)(w:World):(Op.equalIn (d+2) 27 (.agg #[.int .i64 a.kind,.int .i64 a.int,.string a.text]) (.agg #[.int .i64 b.kind,.int .i64 b.int,.string b.text])).run Tryz.prog w= .ok (Z4 a b) w:=by
 rw[run_equalIn_struct w (d+1) 27 _ _ ax ax,show(Tryz.prog.fieldsOf 27).toList=[PM 27 0,PM 27 1,PM 27 2]by kernel_rfl];refine mP (x:=.int .i64 a.kind) (y:=.int .i64 b.kind) ax ax ax (run_equalIn_int w d _ .i64 .i64 _ _ ax) ?_;refine mP (x:=.int .i64 a.int) (y:=.int .i64 b.int) ax ax ax (run_equalIn_int w d _ .i64 .i64 _ _ ax) ?_;refine mP (x:=.string a.text) (y:=.string b.text) ax ax ax (run_equalIn_string w d _ _ _ ax) ?_;simp[Op.eqFields]
theorem bKX(a b:OV)(d:Nat)(w:World):(Op.equalIn (d+3) 29 (.agg #[.int .i64 a.kind,.int .i64 a.index,.int .i64 a.value.kind,.int .i64 a.value.int,.string a.value.text]) (.agg #[.int .i64 b.kind,.int .i64 b.index,.int .i64 b.value.kind,.int .i64 b.value.int,.string b.value.text])).run Tryz.prog w= .ok (YX a b) w:=by
 rw[run_equalIn_struct w (d+2) 29 _ _ ax ax,show(Tryz.prog.fieldsOf 29).toList=[PM 29 0,PM 29 1,PM 29 2]by kernel_rfl];refine mP (x:=.int .i64 a.kind) (y:=.int .i64 b.kind) ax ax ax (run_equalIn_int w (d+1) _ .i64 .i64 _ _ ax) ?_;refine mP (x:=.int .i64 a.index) (y:=.int .i64 b.index) ax ax ax (run_equalIn_int w (d+1) _ .i64 .i64 _ _ ax) ?_;refine mP (x:=.agg #[.int .i64 a.value.kind,.int .i64 a.value.int,.string a.value.text]) (y:=.agg #[.int .i64 b.value.kind,.int .i64 b.value.int,.string b.value.text]) ax ax ax ?_ ?_
 .rw[show(PM 29 2).type=27 by kernel_rfl];exact Z3 a.value b.value d w
 .simp[Op.eqFields]
theorem Tr(a b:VV):StructEq Tryz.prog 27 (.agg #[.int .i64 a.kind,.int .i64 a.int,.string a.text]) (.agg #[.int .i64 b.kind,.int .i64 b.int,.string b.text]) (Z4 a b):=
 ⟨ax,λw=>Z3 a b 9998 w⟩
theorem Av(a b:OV):StructEq Tryz.prog 29 (.agg #[.int .i64 a.kind,.int .i64 a.index,.int .i64 a.value.kind,.int .i64 a.value.int,.string a.value.text]) (.agg #[.int .i64 b.kind,.int .i64 b.index,.int .i64 b.value.kind,.int .i64 b.value.int,.string b.value.text]) (YX a b):=
 ⟨ax,λw=>bKX a b 9997 w⟩
theorem zF{a b:ByteArray}(h:a.toList=b.toList):a=b:=by
 rw[ByteArray.toList_eq,ByteArray.toList_eq]at h;cases a;cases b;simp only[ByteArray.mk.injEq];exact Array.toList_inj.1 h
theorem Ts{a b:VV}:Z4 a b=true↔a=b:=by
 obtain⟨k,i,t⟩:=a;obtain⟨f,g,j⟩:=b;simp only[Z4,Bool.and_true,bz,beq_iff_eq,VV.mk.injEq];exact⟨λ⟨c,d,e⟩=>⟨c,d,zF e⟩,λ⟨c,d,e⟩=>⟨c,d,by rw[e]⟩⟩
theorem sW{a b:OV}:YX a b=true↔a=b:=by
 obtain⟨k,i,t⟩:=a;obtain⟨c,d,e⟩:=b;simp only[YX,Bool.and_true,bz,beq_iff_eq,OV.mk.injEq,Ts]
def zeroV:VV:=⟨0,0,⟨#[]⟩⟩
def dG:OV:=⟨0,0,zeroV⟩
def qH(l:cq)(o:OV):Int:=if o.index<0||o.index>=l.length|| !Z4 o.value zeroV then 0 else l.getD o.index.toNat 0
def kindOf(cols params:cq)(o:OV):Int:=
 if o.kind==3 then(if o.index !=0|| !nK o.value then 0 else o.value.kind)
 else if o.kind==2 then qH params o
 else if o.kind==1 then qH cols o
 else 0
def w9(v:PV):Bool:=v.cmp==0&&YX v.left dG&&YX v.right dG
def aO(o:OV):CV:=.val (.agg #[.int .i64 o.kind,.int .i64 o.index,.int .i64 o.value.kind,.int .i64 o.value.int,.string o.value.text])
def aP(p:PV):CV:=.val (.agg #[.int .i64 p.op,.int .i64 p.cmp,
 .int .i64 p.left.kind,.int .i64 p.left.index,.int .i64 p.left.value.kind,.int .i64 p.left.value.int,.string p.left.value.text,
 .int .i64 p.right.kind,.int .i64 p.right.index,.int .i64 p.right.value.kind,.int .i64 p.right.value.int,.string p.right.value.text,
 .slice p.args.a p.args.len p.args.cap])
def a2S(s t:Sl):CV:=.val (.agg #[.slice s.a s.len s.cap,.slice t.a t.len t.cap])
def biJ:Vc.Spec:=λc m h K=>∃v,c=[aP v]/\K (cB (w9 v)) m h
def aeQ:Vc.Spec:=λe m h K=>∃s t d c o,e=[cS s,cS t,aO o]/\Ints h s d/\Ints h t c/\K (cI (kindOf d c o)) m h
def Wn:Vc.Spec:=λe m h K=>∃s t d c o,e=[a2S s t,aO o]/\Ints h s d/\Ints h t c/\K (cI (kindOf d c o)) m h
abbrev xY(a:Nat)(b c:cn)(d:Bool):Prop:=StructEq Proofs.Tryz.prog a (Value.agg (Array.mk b)) (Value.agg (Array.mk c)) d
noncomputable abbrev aL(a b:Value)(c:cn):cn:=a::b::c
noncomputable abbrev cW:Value:=eN 0
abbrev Er(a:cn)(b:Bool):Prop:=xY 29 a (aL cW cW (aL cW cW (lD Wy))) b
noncomputable abbrev uN(a:PV):cn:=a.left.enc
noncomputable abbrev vA(a:PV):cn:=a.right.enc
attribute [push_cast] xY aL cW Er uN vA
def Q6(v:PV)(m:MH)(h:PH)(K:cr):Prop:=
  dW v.cmp 0 (∃(r:Bool),fH (Er (uN v) r) r (∃(c:Bool),Er (vA v) c/\K (AQ c) m h) (K aZ m h)) (K aZ m h)
noncomputable abbrev A8(a:OV):Int:=a.value.kind
abbrev gA(a b:Int)(c d:Prop):Prop:=branch (decide (a>=b)) c d
noncomputable abbrev Ab:cn:=aL cW cW (lD Wy)
attribute [push_cast] A8 gA Ab
def Hd(s t:Sl)(o:OV)(m:MH)(h:PH)(K:cr):Prop:=
  cX (o.kind==3) (dC o.index 0 (K (eV 0) m h) (∃(v:VV),fH (CJ o.value v) (!(nK v)) (K (eV 0) m h) (K (eV (A8 o)) m h))) (o.kind==2) (aX o.index 0 (K (eV 0) m h) (gA o.index (aH t) (K (eV 0) m h) (∃(r:Bool),fH (xY 27 o.value.enc Ab r) (!r) (K (eV 0) m h) (bI (λb c=>aA (bK t.a b c) (0<=o.index) (o.index<aH t/\∃(y:Int),aU m h b (fT c o.index 1) (bG y)/\K (eV y) m h)))))) (dW o.kind 1 (aX o.index 0 (K (eV 0) m h) (gA o.index (aH s) (K (eV 0) m h) (∃(r:Bool),fH (xY 27 o.value.enc Ab r) (!r) (K (eV 0) m h) (bI (λb c=>aA (bK s.a b c) (0<=o.index) (o.index<aH s/\∃(y:Int),aU m h b (fT c o.index 1) (bG y)/\K (eV y) m h)))))) (K (eV 0) m h))
theorem Az{x y:Int}(c:K (cI x) m h)(e:x=y):K (.val (.int .i64 y)) m h:=e▸c
theorem Ints.inb{s:Sl}(r:Ints h s l){n:Int}(d:0<=n)(f:n<(l.length:Int)):∃b o,s.a=some ⟨b,o,none⟩/\bM h b (o+n.toNat*1) [.int .i64 (l.getD n.toNat 0)]:=by
 have c:l[n.toNat]? =some (l.getD n.toNat 0):=by
  grind
 obtain⟨b,o,e,r⟩:=r.at c
 grind
theorem ZY{s t:Sl}{cols params:cq}{o:OV}(y:Ints h s cols)(z:Ints h t params)(c:K (cI (kindOf cols params o)) m h):Hd s t o m h K:=by
 have A:=y.slen;have D:=z.slen;dsimp only[Hd,push_cast];refine aC (λE=>aC (λu=>Az c ?_) (λu=>⟨o.value,rfl,aC (λd=>Az c ?_) (λd=>Az c ?_)⟩)) (λE=>aC (λu=>?_) (λu=>aC (λd=>?_) (λd=>Az c ?_)))
 .simp_all [kindOf]
 .simp_all [kindOf]
 .simp_all [kindOf]
 .have x:kindOf cols params o=qH params o:=by simp_all [kindOf]
  rw[x]at c;refine aF (λd=>Az c ?_) (λd=>aF (λg=>Az c ?_) (λg=>⟨Z4 o.value zeroV,Tr o.value zeroV,aC (λf=>Az c ?_) (λf=>?_)⟩))
  .simp[qH,d]
  .rw[D]at g;simp[qH,g]
  .simp only[Bool.not_eq_true']at f;simp[qH,f]
  .obtain⟨b,off,e,r⟩:=z.inb (n:=o.index) aD aD;refine⟨b,off,e,aD,aD,_,.imm r,Az c ?_⟩;have j:¬o.index>=params.length:=by omega
   simp only[Bool.not_eq_false']at f;simp[qH,d,j,f]
 .have x:kindOf cols params o=qH cols o:=by simp_all [kindOf]
  rw[x]at c;refine aF (λd=>Az c ?_) (λd=>aF (λg=>Az c ?_) (λg=>⟨Z4 o.value zeroV,Tr o.value zeroV,aC (λf=>Az c ?_) (λf=>?_)⟩))
  .simp[qH,d]
  .rw[A]at g;simp[qH,g]
  .simp only[Bool.not_eq_true']at f;simp[qH,f]
  .obtain⟨b,off,e,r⟩:=y.inb (n:=o.index) aD aD;refine⟨b,off,e,aD,aD,_,.imm r,Az c ?_⟩;have j:¬o.index>=cols.length:=by omega
   simp only[Bool.not_eq_false']at f;simp[qH,d,j,f]
 .simp_all [kindOf]
theorem XK:cm 223 biJ:=by
 refine iH func223 ?_;rintro d m h K ⟨v,rfl,c⟩;refine⟨ctx [] [] [] [] false,rfl,aG,Q6 v m h K,ax,?_⟩;dsimp only[Q6,push_cast];refine aC (λe=>⟨YX v.left dG,Av v.left dG,aC (λf=>⟨YX v.right dG,Av v.right dG,jD c ?_⟩) (λf=>jD c ?_)⟩) (λe=>jD c ?_)
 all_goals simp_all [w9]
theorem XJ:cm 224 aeQ:=by
 refine iH func224 ?_;rintro e m h K ⟨s,t,d,c,o,rfl,f,g,j⟩;refine⟨ctx [(259,Si)] [] [] [] false,rfl,aE Xq aG,Hd s t o m h K,ax,?_⟩;exact ZY f g j
theorem Xn:cm 264 Wn:=by
 refine iH func264 ?_;rintro e m h K ⟨s,t,d,c,o,rfl,f,g,j⟩;refine⟨ctx [(186,Si)] [] [] [] false,rfl,aE H7 aG,Hd s t o m h K,ax,?_⟩;exact ZY f g j
def Pred.args:Pred->dg
 |.mk _ _ _ _ l=>l
mutual
def p7:Pred->Int->Int
 |.mk _ _ _ _ args,n=>lK args (n+1)
def lK:dg->Int->Int
 |[],n=>n
 |p::ps,n=>if n<=24 then lK ps (p7 p n)else n
end
mutual
def nJ:Pred->Nat->Bool
 |.mk _ _ _ _ _,0=>true
 |.mk _ _ _ _ args,n+1=>vL args n
def vL:dg->Nat->Bool
 |[],_=>false
 |p::ps,n=>nJ p n||vL ps n
end
mutual
theorem DW:∀(p:Pred)(n:Int),n<=24->n<p7 p n/\p7 p n<=25
 |.mk _ _ _ _ args,n,h=>by
  have:=HA args (n+1) aD;simp only[p7];omega
theorem HA:∀(ps:dg)(n:Int),n<=25->n<=lK ps n/\lK ps n<=25
 |[],n,h=>by simp only[lK];omega
 |p::ps,n,h=>by
  simp only[lK];split
  .rename_i c;have d:=DW p n c;have e:=HA ps (p7 p n) d.2;omega
  .omega
end
theorem SY(ps:dg){n:Int}(h:¬n<=24):lK ps n=n:=by
 cases ps
 .simp[lK]
 .simp only[lK,if_neg h]
theorem Ke(n:Nat):∀ps:dg,vL ps n=ps.any (nJ · n)
 |[]=>by simp[vL]
 |p::ps=>by simp[vL,Ke n ps]
theorem vZ{p:Pred}{q:Pred}(h:q∈p.args):SizeOf.sizeOf q<SizeOf.sizeOf p:=by
 cases p with
 |mk op c l r args=>
  have:=sizeOf_lt_of_mem h;simp only[Pred.args]at this
  grind
theorem dO.open{v:PV}(r:dO h p v):p.args.length<=502633886983/\v.args.len=p.args.length/\∀(i:Nat)(q:Pred),p.args[i]? =some q->∃b o u,v.args.a=some ⟨b,o,none⟩/\bM h b (o+i*13) (PV.enc u)/\dO h q u:=by
 cases p with
 |mk op f l s args=>
  obtain⟨t,x,y,z,g,A,c,d⟩:=r;have D:=d.length;refine⟨g,?_,λi q j=>?_⟩
  .have:=c.len;simp at this;simp only[Pred.args];omega
  .obtain⟨u,n,E⟩:=d.get j;obtain⟨b,o,e,r⟩:=c.get (i:=i) (e:=PV.enc u) (by simp[n])
   grind
def Zj(N:Nat):Vc.Spec:=λc m h K=>∃v p k,c=[aP v,cI k]/\dO h p v/\SizeOf.sizeOf p<N/\0<=k/\k<=24/\K (cI (p7 p k)) m h
def TN(N:Nat):Vc.Spec:=λc m h K=>∃v p,∃k:Nat,c=[aP v,cI k]/\dO h p v/\SizeOf.sizeOf p<N/\k<=100/\K (cB (nJ p k)) m h
noncomputable def a2X(N:Nat)(v:PV)(p:Pred)(k:Int)(m:MH)(h:PH):Ctx:=
 ctx [(166,Zj N)] [(3,{A:=Nat×Int,st:=λx=>bQ 27 29 [(1,iv x.2),(2,.at (.ptr 2 0)),(5,iv x.1)] [(2,.cells 32 (v.enc.map .val))] m h,inv:=λx=>x.1<=p.args.length/\0<=x.2/\x.2<=25/\lK (p.args.drop x.1) x.2=p7 p k,mu:=λx=>p.args.length-x.1})] [] [] false
noncomputable def a2Q(N:Nat)(v:PV)(p:Pred)(k:Nat)(m:MH)(h:PH):Ctx:=
 ctx [(167,TN N)] [FP 4 (λi=>bQ 23 25 [(1,iv k),(2,.at (.ptr 2 0)),(10,iv v.args.len),(11,iv i)] [(2,.cells 32 (v.enc.map .val))] m h) (λi=>i<=p.args.length/\(p.args.take i).any (nJ · (k-1))=false) (λi=>p.args.length-i)] [] [] false
noncomputable abbrev tL(a:Pred):Nat:=a.args.length
abbrev MY(a:Nat×Int)(b:Pred)(c d:Int):Prop:=aA (a.1<=tL b) (0<=a.2) (a.2<=c/\lK (List.drop a.1 b.args) a.2=p7 b d)
abbrev dR(a b:Int):Prop:=gG a=gG b
abbrev eK:Prop:=eP 2
noncomputable abbrev mZ(a:Nat)(b:cn):Option Go.Vc.Own:=oQ a (List.map At.val b)
abbrev gM(a:PV):Prop:=eQ (mZ 32 a.enc)
abbrev No(a:Option Addr)(b:Nat)(c:Sl)(d:Nat->Nat->PV->Prop):Prop:=bI (λx e=>aA (bK a x e) (0<=(↑b:Int)) ((↑b:Int)<aH c/\∃(f:PV),d x e f))
abbrev pE(a:PV->Pred->Prop):Prop:=∃(x:PV)(c:Pred),a x c
noncomputable abbrev gZ(a b:CV):dk:=a::H0 b
noncomputable abbrev bC(a:CV)(b:Int):dk:=gZ a (eV b)
abbrev pB(a:Pred)(b:Nat):Prop:=SizeOf.sizeOf a<b
abbrev bV(a:Int):Prop:=0<=a
attribute [push_cast] tL MY dR eK mZ gM No pE gZ bC pB bV
def Rw(N:Nat)(v:PV)(p:Pred)(k:Int)(m:MH)(h:PH)(K:cr):Prop:=
  (∃(x:Nat×Int),aA (MY x p 25 k) (dR (fI (k+1)) x.2) (aA eK (bB x.1) (bO (gM v) (m=m) (h=h))))/\∀(x:Nat×Int),MY x p 25 k->aX (↑x.1:Int) (aH v.args) (branch (decide (x.2<=24)) (No v.args.a x.1 v.args (λb o y=>aU m h b (bN o x.1 13) y.enc/\pE (λf e=>∃(c:Int),aA (bC (fM y.enc) x.2=bC (fM f.enc) c) (dO h e f) (aA (pB e N) (bV c) (c<=24/\∃(d:Nat×Int),aA (MY d p 25 k) (tL p-d.1<tL p-x.1) (aA (dR (p7 e c) d.2) eK (aA (bD (gG (bF x.1 1)) d.1) (gM v) (aA (m=m) (h=h) True)))))))) (K (eV x.2) m h)) (K (eV x.2) m h)
abbrev MZ(a:Nat)(b:Pred)(c:Pred->Pred)(d:Nat):Prop:=a<=tL b/\List.any (List.take a b.args) (fun(x:Pred)=>nJ (c x) (d-1))=false
abbrev uY(a:PV):Prop:=bJ a.args
abbrev bL(a b:PH):Prop:=a=b/\True
attribute [push_cast] MZ uY bL
def Rv(N:Nat)(v:PV)(p:Pred)(k:Nat)(m:MH)(h:PH)(K:cr):Prop:=
  dW (↑k:Int) 0 (gO K m h) (kA (∃(x:Nat),aA (MZ x p (λc=>c) k) (eQ (Hs k)) (aA eK (uY v) (aA (bB x) (gM v) (aA (m=m) (h=h) True)))) (λx=>MZ x p (λc=>c) k->aX (↑x:Int) (aH v.args) (bI (λb o=>aA (bK v.args.a b o) (0<=(↑x:Int)) ((↑x:Int)<aH v.args/\∃(y:PV),aU m h b (bN o x 13) y.enc/\pE (λg d=>∃(e:Nat),aA (bC (fM y.enc) (fI ((↑k:Int)-1))=bC (fM g.enc) (↑e:Int)) (dO h d g) (aA (pB d N) (e<=100) (branch (nJ d e) (gO K m h) (∃(f:Nat),aA (MZ f p (λc=>c) k) (tL p-f<tL p-x) (aA (eQ (Hs k)) eK (aA (uY v) (bD (gG (bF x 1)) f) (aA (gM v) (m=m) (bL h h))))))))))) (K aZ m h)))
theorem VE:∀N,cm 166 (Zj N)
 |0=>by
  refine eD (fn:=Tryz.f166) (c:=cA Tryz.f166) func166 rfl az ?_;rintro j m h K ⟨v,p,k,rfl,y,E,_⟩;omega
 |N+1=>by
  refine iH func166 ?_;rintro j m h K ⟨v,p,k,rfl,y,E,M,O,z⟩;refine⟨a2X N v p k m h,rfl,aE (VE N) aG,Rw N v p k m h K,ax,?_⟩;dsimp only[Rw,push_cast];obtain⟨Q,A,e⟩:=y.open;refine⟨⟨(0,k+1),⟨ay,bf,bf,?_⟩,by rw[dY aD aD],rfl,rfl,rfl,rfl,rfl,trivial⟩,?_⟩
  .cases p;simp[p7,Pred.args]
  rintro⟨i,n⟩ ⟨F,f,s,g⟩;simp only at F f s g;refine aF (λt=>aF (λd=>?_) (λd=>Az z ?_)) (λG=>Az z ?_)
  .simp only at t d;obtain⟨q,D⟩:∃q,p.args[i]? =some q:=⟨p.args[i]'(by omega),bo _⟩
   obtain⟨b,o,u,H,I,x⟩:=e i q D
   have J:p.args.drop i=q::p.args.drop (i+1):=by
    rw[drop_eq_getElem_cons aD];grind
   have R:=DW q n d;refine⟨b,o,H,ay,aD,u,.imm bg,u,q,n,rfl,x,?_,f,d,(i+1,p7 q n),⟨aD,aD,aD,?_⟩,aD,rfl,rfl,by rw[kR aD],rfl,rfl,rfl,trivial⟩
   .have:=vZ (br D);omega
   .rw[J,lK,if_pos d]at g;exact g
  .rw[<-g,SY _ d]
  .rw[<-g,drop_of_length_le aD];simp[lK]
theorem VD:∀N,cm 167 (TN N)
 |0=>by
  refine eD (fn:=Tryz.f167) (c:=cA Tryz.f167) func167 rfl az ?_;rintro f m h K ⟨v,p,k,rfl,t,A,_⟩;omega
 |N+1=>by
  refine iH func167 ?_;rintro f m h K ⟨v,p,k,rfl,t,A,I,e⟩;refine⟨a2Q N v p k m h,rfl,aE (VD N) aG,Rv N v p k m h K,ax,?_⟩;dsimp only[Rv,push_cast];obtain⟨J,x,d⟩:=t.open;refine aC (λy=>jD e ?_) (λy=>?_)
  .have:k=0:=bg
   subst this;cases p;simp[nJ]
  .have y:k≠0:=bg
   have g:nJ p k=p.args.any (nJ · (k-1)):=by
    obtain⟨z,rfl⟩:∃z,k=z+1:=⟨k-1,aD⟩
    cases p;simp[nJ,Ke,Pred.args]
   rw[g]at e;refine⟨⟨0,⟨aD,ay⟩,rfl,rfl,rfl,rfl,rfl,rfl,rfl,trivial⟩,λi D=>aF (λj=>?_) (λE=>jD e ?_)⟩
   .obtain⟨q,n⟩:∃q,p.args[i]? =some q:=⟨p.args[i]'(by omega),bo _⟩
    obtain⟨b,o,u,F,G,s⟩:=d i q n;refine⟨b,o,F,aD,j,u,.imm bg,u,q,k-1,?_,s,?_,aD,aC (λH=>jD e ?_) (λH=>?_)⟩
    .rw[dY aD aD,show((k-1:Nat):Int)=(k:Int)-1 by omega]
    .have:=vZ (br n);omega
    .grind
    .refine⟨i+1,⟨aD,?_⟩,aD,rfl,rfl,rfl,by rw[kR aD],rfl,rfl,rfl,trivial⟩;rw[cd,any_append,D.2,n];grind
   grind
def FE(c:Int)(l r:OV):Bool:=c==0&&YX l dG&&YX r dG
mutual
def jG(cols params:cq):Pred->Bool
 |.mk op c l r args=>
  if op==1||op==2 then FE c l r&&args.length==0
  else if op==3 then args.length==0&&c>=1&&c<=6&&kindOf cols params l !=0&&kindOf cols params l==kindOf cols params r
  else if op==4||op==5||(op==6&&args.length==1)then FE c l r&&wX cols params args
  else false
def wX(cols params:cq):dg->Bool
 |[]=>true
 |p::ps=>jG cols params p&&wX cols params ps
end
theorem Fv(cols params:cq):∀ps:dg,wX cols params ps=ps.all (jG cols params)
 |[]=>by simp[wX]
 |p::ps=>by simp[wX,Fv cols params ps]
structure MN(cols params:cq)(v:PV)(p:Pred):Prop where
 eq:jG cols params p=(w9 v&&p.args.all (jG cols params))
def TG(N:Nat):Vc.Spec:=λe m h K=>∃s t d c v p,e=[cS s,cS t,aP v]/\Ints h s d/\Ints h t c/\dO h p v/\SizeOf.sizeOf p<N/\K (cB (jG d c p)) m h
def Po(N:Nat):Vc.Spec:=λe m h K=>∃s t d c v p,e=[a2S s t,aP v]/\Ints h s d/\Ints h t c/\dO h p v/\SizeOf.sizeOf p<N/\K (cB (jG d c p)) m h
noncomputable def a1J(N:Nat)(s t:Sl)(cols params:cq)(v:PV)(p:Pred)(m:MH)(h:PH):Ctx:=
 ctx [(168,TG N),(223,biJ),(224,aeQ)] [FP 17 (λi=>bQ 84 87 [(0,sv s),(1,sv t),(5,.at (.ptr 5 0)),(70,iv v.args.len),(71,iv i)] [(5,.cells 32 (v.enc.map .val))] m h) (λi=>i<=p.args.length/\(p.args.take i).all (jG cols params)=true) (λi=>p.args.length-i)] [(14,{A:=Unit,st:=λ_=>bQ 84 87 [(0,sv s),(1,sv t),(5,.at (.ptr 5 0))] [(5,.cells 32 (v.enc.map .val))] m h,inv:=λ_=>MN cols params v p})] [] false
noncomputable def aXX(N:Nat)(s t:Sl)(cols params:cq)(v:PV)(p:Pred)(m:MH)(h:PH):Ctx:=
 ctx [(220,Po N),(264,Wn)] [FP 18 (λi=>bQ 87 89 [(2,.at (.ptr 2 0)),(3,.at (.ptr 3 0)),(76,sv v.args),(77,iv v.args.len),(78,iv i)] [(2,.cells 266 [.val (.slice s.a s.len s.cap),.val (.slice t.a t.len t.cap)]),(3,.cells 32 (v.enc.map .val))] m h) (λi=>i<=p.args.length/\(p.args.take i).all (jG cols params)=true) (λi=>p.args.length-i)] [(15,{A:=Unit,st:=λ_=>bQ 87 89 [(2,.at (.ptr 2 0)),(3,.at (.ptr 3 0))] [(2,.cells 266 [.val (.slice s.a s.len s.cap),.val (.slice t.a t.len t.cap)]),(3,.cells 32 (v.enc.map .val))] m h,inv:=λ_=>MN cols params v p})] [] false
noncomputable abbrev jU(a:PV):CV:=fM a.enc
noncomputable abbrev mX(a:PV):Int:=aH a.args
abbrev B0(a:Sl->cq->Prop):Prop:=∃(x:Sl)(c:cq),a x c
abbrev y9(a:Sl->cq->cq->Prop):Prop:=B0 (λx c=>∃(d:cq),a x c d)
abbrev IV(a:dk)(b:Sl->Sl->OV->dk)(c:PH)(d:cq->cq->OV->Prop):Prop:=∃(x:Sl),y9 (λe f g=>∃(j:OV),aA (a=b x e j) (Ints c x f) (Ints c e g/\d f g j))
noncomputable abbrev dJ(a:Sl)(b:dk):dk:=Dj a::b
noncomputable abbrev jA(a:Sl)(b:CV):dk:=gZ (Dj a) b
abbrev dN:Prop:=eP 5
abbrev Ed(a:Nat)(b:Pred)(c d:cq):Prop:=a<=tL b/\gI (List.all (List.take a b.args) (jG c d))
attribute [push_cast] jU mX B0 y9 IV dJ jA dN Ed
def Ru(N:Nat)(s t:Sl)(cols params:cq)(v:PV)(p:Pred)(m:MH)(h:PH)(K:cr):Prop:=
  cX (v.op==1) (∃(d:PV),fH (fP (jU v) (jU d)) (w9 d) (K (AQ (mX v==0)) m h) (K aZ m h)) (v.op==2) (∃(d:PV),fH (fP (jU v) (jU d)) (w9 d) (K (AQ (mX v==0)) m h) (K aZ m h)) (cX (v.op==3) (IV (dJ s (jA t (fM (uN v)))) (λe f o=>dJ e (jA f (fM o.enc))) h (λc g o=>dW (mX v) 0 (gA v.cmp 1 (branch (decide (v.cmp<=6)) (dC (kindOf c g o) 0 (IV (dJ s (jA t (fM (vA v)))) (λe f n=>dJ e (jA f (fM n.enc))) h (λA j n=>K (AQ (kindOf c g o==kindOf A j n)) m h)) (K aZ m h)) (K aZ m h)) (K aZ m h)) (K aZ m h))) (v.op==4) (∃(x:Unit),aA (MN cols params v p) (aI s) (aA (aI t) dN (bO (gM v) (m=m) (h=h)))) (cX (v.op==5) (∃(x:Unit),aA (MN cols params v p) (aI
 s) (aA (aI t) dN (bO (gM v) (m=m) (h=h)))) (v.op==6) (dC (mX v) 1 (K aZ m h) (∃(x:Unit),aA (MN cols params v p) (aI s) (aA (aI t) dN (bO (gM v) (m=m) (h=h))))) (K aZ m h)))/\∀(_:Unit),MN cols params v p->∃(d:PV),fH (fP (jU v) (jU d)) (!(w9 d)) (K aZ m h) (kA (∃(x:Nat),aA (Ed x p cols params) (aI s) (aA (aI t) dN (aA (uY v) (bB x) (aA (gM v) (m=m) (bL h h))))) (λx=>Ed x p cols params->aX (↑x:Int) (aH v.args) (bI (λb o=>aA (bK v.args.a b o) (0<=(↑x:Int)) ((↑x:Int)<aH v.args/\∃(y:PV),aU m h b (bN o x 13) y.enc/\∃(e:Sl),y9 (λf c g=>pE (λz j=>aA (dJ s (jA t (jU y))=dJ e (jA f (jU z))) (Ints h e c) (aA (Ints h f g) (dO h
 j z) (fH (pB j N) (!(jG c g j)) (K aZ m h) (∃(u:Nat),aA (Ed u p cols params) (tL p-u<tL p-x) (aA (aI s) (aI t) (aA dN (uY v) (aA (bD (gG (bF x 1)) u) (gM v) (bP (m=m) h h)))))))))))) (gO K m h)))
noncomputable abbrev fW(a b:cn):dk:=gZ (fM a) (fM b)
noncomputable abbrev rL(a b:Value):cn:=aL a b []
noncomputable abbrev rV(a b:Sl):cn:=rL (hJ a) (hJ b)
abbrev cG:Prop:=eP 3
noncomputable abbrev cQ(a b:At)(c:dj):dj:=a::b::c
noncomputable abbrev lL(a b:At):dj:=cQ a b []
abbrev Cz(a b:Sl):Prop:=eQ (oQ 266 (lL (vD a) (vD b)))
attribute [push_cast] fW rL rV cG cQ lL Cz
def Q9(N:Nat)(s t:Sl)(cols params:cq)(v:PV)(p:Pred)(m:MH)(h:PH)(K:cr):Prop:=
  cX (v.op==3) (IV (fW (rV s t) (uN v)) (λd e o=>fW (rV d e) o.enc) h (λc f o=>IV (fW (rV s t) (vA v)) (λd e j=>fW (rV d e) j.enc) h (λA g j=>dW (mX v) 0 (gA v.cmp 1 (branch (decide (v.cmp<=6)) (dC (kindOf c f o) 0 (K (AQ (kindOf c f o==kindOf A g j)) m h) (K aZ m h)) (K aZ m h)) (K aZ m h)) (K aZ m h)))) (v.op==1) (dC (mX v) 0 (K aZ m h) (∃(x:Unit),aA (MN cols params v p) eK (aA cG (Cz s t) (bO (gM v) (m=m) (h=h))))) (cX (v.op==2) (dC (mX v) 0 (K aZ m h) (∃(x:Unit),aA (MN cols params v p) eK (aA cG (Cz s t) (bO (gM v) (m=m) (h=h))))) (v.op==6) (dC (mX v) 1 (K aZ m h) (∃(x:Unit),aA (MN cols params v p) eK (aA cG (Cz s t) (bO
 (gM v) (m=m) (h=h))))) (cX (v.op==4) (∃(x:Unit),aA (MN cols params v p) eK (aA cG (Cz s t) (bO (gM v) (m=m) (h=h)))) (v.op==5) (∃(x:Unit),aA (MN cols params v p) eK (aA cG (Cz s t) (bO (gM v) (m=m) (h=h)))) (K aZ m h)))/\∀(_:Unit),MN cols params v p->dC v.cmp 0 (K aZ m h) (∃(r:Bool),fH (Er (uN v) r) (!r) (K aZ m h) (∃(u:Bool),fH (Er (vA v) u) (!u) (K aZ m h) (kA (∃(x:Nat),aA (Ed x p cols params) eK (aA cG (aI v.args) (aA (uY v) (bB x) (aA (Cz s t) (gM v) (bP (m=m) h h))))) (λx=>Ed x p cols params->aX (↑x:Int) (aH v.args) (bI (λb o=>aA (bK v.args.a b o) (0<=(↑x:Int)) ((↑x:Int)<aH v.args/\∃(y:PV),aU m h b (bN o x 13) y.enc/\∃(d:
 Sl),y9 (λe c f=>pE (λz g=>aA (fW (rV s t) y.enc=fW (rV d e) z.enc) (Ints h d c) (aA (Ints h e f) (dO h g z) (fH (pB g N) (!(jG c f g)) (K aZ m h) (∃(n:Nat),aA (Ed n p cols params) (tL p-n<tL p-x) (aA eK cG (aA (aI v.args) (bJ v.args) (aA (bD (gG (bF x 1)) n) (Cz s t) (bO (gM v) (m=m) (h=h))))))))))))) (gO K m h)))))
theorem dO.top{v:PV}(r:dO h p v):p= .mk v.op v.cmp v.left v.right p.args:=by
 cases p with
 |mk op c l j args=>obtain⟨d,e,f,g,_⟩:=r;simp[Pred.args,d,e,f,g]
theorem L0{cols params:cq}{h:PH}{p:Pred}{v:PV}(r:dO h p v):jG cols params p=if v.op==1||v.op==2 then w9 v&&p.args.length==0
 else if v.op==3 then p.args.length==0&&v.cmp>=1&&v.cmp<=6&&kindOf cols params v.left !=0&&kindOf cols params v.left==kindOf cols params v.right
 else if v.op==4||v.op==5||(v.op==6&&p.args.length==1)then w9 v&&p.args.all (jG cols params)
 else false:=by
 have:=r.top;generalize p.args=xs at this⊢
 subst this;rw[jG,Fv];rfl
theorem ciX{n:Nat}{k:Nat}:((n:Int)==(k:Int))=(n==k):=by
 grind
theorem VB:∀N,cm 168 (TG N)
 |0=>by
  refine eD (fn:=Tryz.f168) (c:=cA Tryz.f168) func168 rfl az ?_;rintro n m h K ⟨s,t,cols,params,v,p,rfl,_,_,x,O,_⟩;omega
 |N+1=>by
  refine iH func168 ?_;rintro n m h K ⟨s,t,cols,params,v,p,rfl,y,z,x,O,d⟩;refine⟨a1J N s t cols params v p m h,rfl,aE (VB N) (aE XK (aE XJ aG)),Ru N s t cols params v p m h K,ax,?_⟩;obtain⟨X,M,f⟩:=x.open;have Y:=L0 (cols:=cols) (params:=params) x;have Q:((v.args.len:Int)==0)=(p.args.length==0):=bg
  have Z:((v.args.len:Int) !=1)=(p.args.length !=1):=bg
  dsimp only[Ru,push_cast];refine⟨?_,?_⟩
  .refine aC (λe=>⟨v,rfl,aC (λg=>jD d ?_) (λg=>jD d ?_)⟩) (λe=>aC (λR=>⟨v,rfl,aC (λg=>jD d ?_) (λg=>jD d ?_)⟩) (λR=>aC (λg=>⟨s,t,cols,params,v.left,rfl,y,z,?_⟩) (λg=>?_)))
   .grind
   .grind
   .grind
   .grind
   .have A:jG cols params p=(p.args.length==0&&v.cmp>=1&&v.cmp<=6&&kindOf cols params v.left !=0&&kindOf cols params v.left==kindOf cols params v.right):=bg
    rw[A]at d;refine aC (λj=>aC (λD=>aC (λE=>aC (λF=>⟨s,t,cols,params,v.right,rfl,y,z,jD d ?_⟩) (λF=>jD d ?_)) (λE=>jD d ?_)) (λD=>jD d ?_)) (λj=>jD d ?_)
    all_goals (rw[Q]at j;simp only[beq_iff_eq,ce,decide_eq_false_iff_not]at*;simp[*])
   .refine aC (λj=>⟨(),⟨bg⟩,rfl,rfl,rfl,rfl,rfl,rfl,trivial⟩) (λj=>aC (λD=>⟨(),⟨bg⟩,rfl,rfl,rfl,rfl,rfl,rfl,trivial⟩) (λD=>aC (λE=>aC (λF=>jD d ?_) (λF=>⟨(),⟨?_⟩,rfl,rfl,rfl,rfl,rfl,rfl,trivial⟩)) (λE=>jD d ?_)))
    .grind
    .grind
    grind
  .intro _ G;rw[G.eq]at d;refine⟨v,rfl,aC (λe=>jD d ?_) (λe=>?_)⟩
   .simp_all
   .have e:w9 v=true:=bk e
    rw[e,Bool.true_and]at d;refine⟨⟨0,⟨aD,ay⟩,rfl,rfl,rfl,rfl,rfl,rfl,rfl,rfl,trivial⟩,λi S=>aF (λH=>?_) (λT=>jD d ?_)⟩
    .obtain⟨q,I⟩:∃q,p.args[i]? =some q:=⟨p.args[i]'(by omega),bo _⟩
     obtain⟨b,o,u,U,V,J⟩:=f i q I;refine⟨b,o,U,aD,H,u,.imm bg,s,t,cols,params,u,q,rfl,y,z,J,?_,aC (λW=>jD d ?_) (λW=>?_)⟩
     .have:=vZ (br I);omega
     .grind
     .refine⟨i+1,⟨aD,?_⟩,aD,rfl,rfl,rfl,rfl,by rw[kR aD],rfl,rfl,rfl,trivial⟩;rw[AN I,S.2];grind
    grind
theorem Vu:∀N,cm 220 (Po N)
 |0=>by
  refine eD (fn:=Tryz.f220) (c:=cA Tryz.f220) func220 rfl az ?_;rintro j m h K ⟨s,t,cols,params,v,p,rfl,_,_,n,R,_⟩;omega
 |N+1=>by
  refine iH func220 ?_;rintro j m h K ⟨s,t,cols,params,v,p,rfl,x,y,n,R,d⟩;refine⟨aXX N s t cols params v p m h,rfl,aE (Vu N) (aE Xn aG),Q9 N s t cols params v p m h K,ax,?_⟩;obtain⟨hl,O,g⟩:=n.open;have hv:=L0 (cols:=cols) (params:=params) n;have S:((v.args.len:Int)==0)=(p.args.length==0):=bg
  have T:((v.args.len:Int) !=0)=(p.args.length !=0):=bg
  have h1:((v.args.len:Int) !=1)=(p.args.length !=1):=bg
  have Q:p.args.length=0->p.args.all (jG cols params)=true:=λe=>bg
  dsimp only[Q9,push_cast];refine⟨?_,?_⟩
  .refine aC (λz=>⟨s,t,cols,params,v.left,rfl,x,y,s,t,cols,params,v.right,rfl,x,y,?_⟩) (λz=>aC (λe=>aC (λf=>jD d ?_) (λf=>⟨(),⟨?_⟩,rfl,rfl,rfl,rfl,rfl,rfl,trivial⟩)) (λe=>aC (λA=>aC (λf=>jD d ?_) (λf=>⟨(),⟨?_⟩,rfl,rfl,rfl,rfl,rfl,rfl,trivial⟩)) (λA=>aC (λD=>aC (λE=>jD d ?_) (λE=>⟨(),⟨?_⟩,rfl,rfl,rfl,rfl,rfl,rfl,trivial⟩)) (λD=>aC (λf=>⟨(),⟨?_⟩,rfl,rfl,rfl,rfl,rfl,rfl,trivial⟩) (λf=>aC (λF=>⟨(),⟨?_⟩,rfl,rfl,rfl,rfl,rfl,rfl,trivial⟩) (λF=>jD d ?_))))))
   .have U:v.op=3:=bg
    have G:jG cols params p=(p.args.length==0&&v.cmp>=1&&v.cmp<=6&&kindOf cols params v.left !=0&&kindOf cols params v.left==kindOf cols params v.right):=bg
    rw[G]at d;refine aC (λf=>aC (λF=>aC (λD=>aC (λE=>jD d ?_) (λE=>jD d ?_)) (λD=>jD d ?_)) (λF=>jD d ?_)) (λf=>jD d ?_)
    all_goals (rw[S]at f;simp only[beq_iff_eq,ce,decide_eq_false_iff_not]at*;simp[*])
   .grind
   .grind
   .grind
   .grind
   .grind
   .grind
   .grind
   .grind
   grind
  .intro _ H;rw[H.eq]at d;refine aC (λe=>jD d ?_) (λe=>⟨YX v.left dG,Av v.left dG,aC (λA=>jD d ?_) (λA=>⟨YX v.right dG,Av v.right dG,aC (λz=>jD d ?_) (λz=>?_)⟩)⟩)
   .simp_all [w9]
   .simp_all [w9]
   .simp_all [w9]
   .have e:w9 v=true:=by simp_all [w9]
    rw[e,Bool.true_and]at d;refine⟨⟨0,⟨aD,ay⟩,rfl,rfl,rfl,rfl,rfl,rfl,rfl,rfl,rfl,trivial⟩,λi V=>aF (λI=>?_) (λW=>jD d ?_)⟩
    .obtain⟨q,J⟩:∃q,p.args[i]? =some q:=⟨p.args[i]'(by omega),bo _⟩
     obtain⟨b,o,u,X,Y,M⟩:=g i q J;refine⟨b,o,X,aD,I,u,.imm bg,s,t,cols,params,u,q,rfl,x,y,M,?_,aC (λZ=>jD d ?_) (λZ=>?_)⟩
     .have:=vZ (br J);omega
     .grind
     .refine⟨i+1,⟨aD,?_⟩,aD,rfl,rfl,rfl,rfl,by rw[kR aD],rfl,rfl,rfl,rfl,trivial⟩;rw[AN J,V.2];grind
    grind
theorem drop_cons{α:Type}{l:List α}{x:α}(h:l[i]? =some x):l.drop i=x::l.drop (i+1):=by
 have c:i<l.length:=(bm h);rw[drop_eq_getElem_cons c]
 grind
mutual
def mB:Pred->Nat->Int->Bool×Int
 |.mk _ _ _ _ args,k,b=>if b<1 then(false,b-1)else match k with|0=>(false,b-1)|k+1=>w6 args k (b-1)
def w6:dg->Nat->Int->Bool×Int
 |[],_,b=>(true,b)
 |p::ps,k,b=>match mB p k b with|(false,c)=>(false,c)|(true,c)=>w6 ps k c
end
mutual
def Qc:Pred->Int
 |.mk _ _ _ _ args=>1+Ce args
def Ce:dg->Int
 |[]=>0
 |p::ps=>Qc p+Ce ps
end
mutual
theorem SI:∀p:Pred,1<=Qc p
 |.mk _ _ _ _ args=>by have:=Fx args;simp only[Qc];omega
theorem Fx:∀ps:dg,0<=Ce ps
 |[]=>by simp[Ce]
 |p::ps=>by have:=SI p;have:=Fx ps;simp only[Ce];omega
end
mutual
theorem Gq:∀(p:Pred)(n:Int),n<=24->(n+Qc p<=24->p7 p n=n+Qc p)/\(24<n+Qc p->p7 p n=25)
 |.mk _ _ _ _ args,n,h=>by
  obtain⟨c,d⟩:=N5 args (n+1) aD;simp only[p7,Qc];omega
theorem N5:∀(ps:dg)(n:Int),n<=25->(n+Ce ps<=24->lK ps n=n+Ce ps)/\(24<n+Ce ps->lK ps n=25)
 |[],n,h=>by
  simp only[lK,Ce];omega
 |p::ps,n,h=>by
  have e:=SI p;have f:=Fx ps;simp only[lK,Ce];by_cases c:n<=24
  .rw[if_pos c];have g:=Gq p n c;have d:=(DW p n c).2;have j:=N5 ps _ d;omega
  omega
end
mutual
theorem KA:∀(p:Pred)(k:Nat)(b:Int),0<=b->((mB p k b).1=true↔Qc p<=b/\nJ p k=false)/\((mB p k b).1=true->(mB p k b).2=b-Qc p)
 |.mk _ _ _ _ args,k,b,h=>by
  have d:=Fx args;simp only[mB,Qc];by_cases c:b<1
  .grind
  .rw[if_neg c];cases k with
   |zero=>exact⟨⟨λe=>(by cases e),λe=>(by simp[nJ]at e)⟩,λe=>(by cases e)⟩
   |succ k=>
    obtain⟨f,g⟩:=NL args k (b-1) aD;simp only[nJ]
    grind
theorem NL:∀(ps:dg)(k:Nat)(b:Int),0<=b->((w6 ps k b).1=true↔Ce ps<=b/\vL ps k=false)/\((w6 ps k b).1=true->(w6 ps k b).2=b-Ce ps)
 |[],k,b,h=>by simp[w6,Ce,vL,h]
 |p::ps,k,b,h=>by
  obtain⟨c,d⟩:=KA p k b h;have j:=Fx ps;simp only[w6,Ce,vL];cases e:mB p k b with
  |mk r f=>
   rw[e]at c d;cases r with
   |false=>
    grind
   |true=>
    have g:=d rfl;have c:=c.1 rfl;simp only at g;obtain⟨n,s⟩:=NL ps k f aD
    grind
end
def fX(cols params:cq)(p:Pred):Int:=
 if !cols.all eT|| !params.all eT then 1
 else if p7 p 0>24||nJ p 8 then 2
 else if !jG cols params p then 50 else 0
theorem aiX(p:Pred):(mB p 8 24).1= !(decide (p7 p 0>24)||nJ p 8):=by
 have c:=(KA p 8 24 aD).1;have d:=Gq p 0 aD
 grind
def tS(n:Int):Obj:=.cells #[.int .i64 n] 3 (0,0)
def Zd(N:Nat):Vc.Spec:=λc m h K=>∃v p,∃k b:Nat,∃n,c=[aP v,cI (9-k),cP b]/\dO h p v/\SizeOf.sizeOf p<N/\k<=9/\0<=n/\n<=24/\m b=some (tS n)/\∀m',iP m m' b (tS (mB p k n).2)->K (cB (mB p k n).1) m' h
noncomputable def aXZ(N:Nat)(v:PV)(p:Pred)(k b:Nat)(n:Int)(m:MH)(h:PH):Ctx:=
 ctx [(219,Zd N)] [(5,{A:=Nat×Int×MH,st:=λx=>bQ 36 39 [(1,iv (9-k)),(2,vv (.pointer (some ⟨b,0,none⟩))),(23,sv v.args),(24,iv v.args.len),(25,iv x.1)] [] x.2.2 h,inv:=λx=>x.1<=p.args.length/\0<=x.2.1/\x.2.1<=24/\iP m x.2.2 b (tS x.2.1)/\1<=k/\w6 (p.args.drop x.1) (k-1) x.2.1=mB p k n,mu:=λx=>p.args.length-x.1})] [] [] false
def tV:Vc.Spec:=λe m h K=>∃s t v d c p,e=[cS s,cS t,aP v]/\Ints h s d/\Ints h t c/\dO h p v/\K (cI (fX d c p)) m h
noncomputable def bwQ(N:Nat):Ctx:=ctx [(87,PB),(166,Zj N),(167,TN N),(168,TG N)] [] [] [] false
noncomputable def a4Q(N:Nat):Ctx:=ctx [(218,PB),(219,Zd N),(220,Po N)] [] [] [] false
abbrev Bi(a:MH)(b:PH)(c d:Nat)(e:Int->Prop):Prop:=∃(x:Int),aU a b c d (bG x)/\e x
abbrev j9(a:(Array Value)->TypeId->Prop):Prop:=∃(x:Array Value)(c:TypeId),a x c
noncomputable abbrev kI(a:Array Value)(b:TypeId)(c:Nat):Obj:=Obj.cells a b (c,c)
abbrev dQ(a b:MH)(c:Nat)(d:cn)(e:Nat):Prop:=iP a b c (kI (Array.mk d) e 0)
noncomputable abbrev kW(a:Value)(b:Nat)(c:cn):cn:=a::List.drop b c
abbrev eZ(a b:Int)(c d:Prop):Prop:=branch (decide (a>b)) c d
noncomputable abbrev uB(a:Nat):Int:=9-(↑a:Int)
noncomputable abbrev M0(a:Nat×Int×MH)(b:Pred)(c:Nat):Bool×Int:=w6 (List.drop a.1 b.args) (c-1) a.2.1
abbrev gW(a:Int):Prop:=eQ (gG a)
abbrev cR(a:Nat):Prop:=eQ (sQo a 0)
noncomputable abbrev cE(a:cn)(b:dk):dk:=fM a::b
noncomputable abbrev kB(a:Nat):CV:=cQp a 0
abbrev gQ(a:Prop)(b:Bool)(c d:Prop):Prop:=a->branch b c d
attribute [push_cast] Bi j9 kI dQ kW eZ uB M0 gW cR cE kB gQ
def Ra(N:Nat)(v:PV)(p:Pred)(k b:Nat)(n:Int)(m:MH)(h:PH)(K:cr):Prop:=
  Bi m h b 0 (λy=>j9 (λc E=>aA (E8 m b (kI c E 0)) (0<c.size) (∀(e:MH),dQ m e b (kW (eN (fI (y-1))) 1 c.toList) E->Bi e h b 0 (λD=>aX D 0 (K aZ e h) (eZ (uB k) 8 (K aZ e h) ((∃(x:Nat×Int×MH),aA (aA (x.1<=tL p) (bV x.2.1) (aA (x.2.1<=24) (dQ m x.2.2 b (bG x.2.1) 3) (1<=k/\M0 x p k=mB p k n))) (gW (uB k)) (aA (cR b) (aI v.args) (aA (uY v) (bB x.1) (aA (e=x.2.2) (h=h) True))))/\∀(x:Nat×Int×MH),aA (x.1<=tL p) (bV x.2.1) (aA (x.2.1<=24) (dQ m x.2.2 b (bG x.2.1) 3) (1<=k/\M0 x p k=mB p k n))->aX (↑x.1:Int) (aH v.args) (bI (λu o=>aA (bK v.args.a u o) (0<=(↑x.1:Int)) ((↑x.1:Int)<aH v.args/\∃(z:PV),aU x.2.2 h u (bN o x.1 13) z.enc/\
 pE (λA g=>bI (λj s=>∃(f:Int),aA (cE z.enc (gZ (eV (fI (uB k+1))) (kB b))=cE A.enc (gZ (eV (uB j)) (kB s))) (dO h g A) (aA (pB g N) (j<=9) (aA (bV f) (f<=24) (x.2.2 s=Option.some (kI (Array.mk (bG f)) 3 0)/\∀(t:MH),gQ (dQ x.2.2 t s (bG (mB g j f).2) 3) (!(mB g j f).1) (K aZ t h) (∃(d:Nat×Int×MH),aA (aA (d.1<=tL p) (bV d.2.1) (aA (d.2.1<=24) (dQ m d.2.2 b (bG d.2.1) 3) (1<=k/\M0 d p k=mB p k n))) (tL p-d.1<tL p-x.1) (aA (gW (uB k)) (cR b) (aA (aI v.args) (bJ v.args) (aA (bD (gG (bF x.1 1)) d.1) (t=d.2.2) (bL h h))))))))))))) (gO K x.2.2 h)))))))
abbrev vR(a:Sl)(b:PH)(c:cq->Prop):Prop:=B0 (λx d=>aA (fP (Dj a) (Dj x)) (Ints b x d) (c d))
abbrev tD(a:Bool)(b c:Prop):Prop:=branch (!a) b c
attribute [push_cast] vR tD
def U3(N:Nat)(s t:Sl)(v:PV)(m:MH)(h:PH)(K:cr):Prop:=
  vR s h (λl=>tD (Dc l) (K (eV 1) m h) (vR t h (λz=>tD (Dc z) (K (eV 1) m h) (pE (λg p=>∃(k:Int),aA (bC (fM v.enc) 0=bC (fM g.enc) k) (dO h p g) (aA (pB p N) (bV k) (k<=24/\eZ (p7 p k) 24 (K (eV 2) m h) (pE (λj d=>∃(e:Nat),aA (bC (fM v.enc) 8=bC (fM j.enc) (↑e:Int)) (dO h d j) (aA (pB d N) (e<=100) (branch (nJ d e) (K (eV 2) m h) (∃(n:Sl),y9 (λu c x=>pE (λy f=>aA (dJ s (jA t (jU v))=dJ n (jA u (jU y))) (Ints h n c) (aA (Ints h u x) (dO h f y) (fH (pB f N) (!(jG c x f)) (K (eV 50) m h) (K (eV 0) m h)))))))))))))))))
abbrev mH(a:MH)(b:PH)(c d:Nat->MH->Prop):Prop:=∀(x:Nat)(e:MH),mL a b x->c x e->d x e
attribute [push_cast] mH
def RF(N:Nat)(s t:Sl)(v:PV)(m:MH)(h:PH)(K:cr):Prop:=
  vR s h (λl=>tD (Dc l) (K (eV 1) m h) (vR t h (λA=>tD (Dc A) (K (eV 1) m h) (mH m h (λb d=>dQ m d b (bG 24) 3) (λb d=>pE (λj p=>bI (λk f=>∃(n:Int),aA (cE v.enc (gZ (eV 1) (kB b))=cE j.enc (gZ (eV (uB k)) (kB f))) (dO h p j) (aA (pB p N) (k<=9) (aA (bV n) (n<=24) (d f=Option.some (kI (Array.mk (bG n)) 3 0)/\∀(e:MH),gQ (dQ d e f (bG (mB p k n).2) 3) (!(mB p k n).1) (K (eV 2) e h) (∃(u:Sl),y9 (λx c y=>pE (λz g=>aA (fW (rV s t) v.enc=fW (rV u x) z.enc) (Ints h u c) (aA (Ints h x y) (dO h g z) (fH (pB g N) (!(jG c y g)) (K (eV 50) e h) (K (eV 0) e h))))))))))))))))
end Go.Ps
namespace Go.Vc
open Go.Ps Go.Proofs List
theorem iP.trans{m m' c:MH}{b:Nat}{o o':Obj}(g:iP m m' b o)(d:iP m' c b o'):iP m c b o':=⟨d.at_,λe f=>(d.other e f).trans (g.other e f)⟩
end Go.Vc
namespace Go.Ps
open Go Go.Vc Go.Proofs List Tryz
variable{K:cr}{m:MH}{h:PH}{ps:cq}{cb:Nat}{sc:bW}{v:QV}{p:Pred}{l:cq}{i:Nat}{N:Nat}{m':MH}{h':PH}{co:cq}{gr:cq}{od:cv}{ta:Int}{li:Int}{xs:List cn}{sz:Nat}{ks:List cq}{rs:cq}{r:Sl}{a:cq}{b:Nat}
theorem Vw:∀N,cm 219 (Zd N)
 |0=>by
  refine eD (fn:=Tryz.f219) (c:=cA Tryz.f219) func219 rfl az ?_;rintro E m h K ⟨v,p,k,b,n,rfl,Q,V,_⟩;omega
 |N+1=>by
  refine iH func219 ?_;rintro E m h K ⟨v,p,k,b,n,rfl,Q,V,hk,h0,h1,R,j⟩;refine⟨aXZ N v p k b n m h,rfl,aE (Vw N) aG,Ra N v p k b n m h K,ax,?_⟩;dsimp only[Ra,push_cast];obtain⟨hl,S,y⟩:=Q.open;have W:IntKind.i64.wrap (n-1)=n-1:=dY aD aD;refine⟨n,.of_m R rfl,_,_,⟨R⟩,ay,λm' T=>?_⟩;rw[W]at T;have f:iP m m' b (tS (n-1)):=T;refine⟨n-1,.of_m f.at_ rfl,aF (λX=>?_) (λX=>aF (λY=>?_) (λY=>?_))⟩
  .have e:mB p k n=(false,n-1):=by cases p;simp only[mB];grind
   rw[e]at j;exact j m' f
  .have F:k=0:=by omega
   subst F;have e:mB p 0 n=(false,n-1):=by cases p;simp only[mB];grind
   rw[e]at j;exact j m' f
  .refine⟨⟨(0,n-1,m'),⟨ay,bg,bg,f,aD,?_⟩,MT⟩,?_⟩
   .obtain⟨U,rfl⟩:∃U,k=U+1:=⟨k-1,aD⟩
    cases p;simp only[mB,drop_zero,Pred.args]
    grind
   .rintro⟨i,x,Z⟩ ⟨hi,s,z,g,G,d⟩;simp only at hi s z g d;refine aF (λa'=>?_) (λa0=>?_)
    .obtain⟨q,H⟩:∃q,p.args[i]? =some q:=⟨p.args[i]'(by omega),bo _⟩
     obtain⟨b1,o,u,ea,a1,I⟩:=y i q H;have hd:p.args.drop i=q::p.args.drop (i+1):=drop_cons H;refine⟨b1,o,ea,ay,aD,u,.imm bg,u,q,k-1,b,x,?_,I,?_,aD,s,z,g.at_,λJ M=>?_⟩
     .rw[dY aD aD,show(9-((k-1:Nat):Int))=9-(k:Int)+1 by omega]
     .have:=vZ (br H);omega
     .have t:iP m J b (tS (mB q (k-1) x).2):=g.trans M;rw[hd,w6]at d;obtain⟨A,D⟩:=KA q (k-1) x s;cases e:mB q (k-1) x with
      |mk r x'=>
       rw[e]at d t A D;cases r with
       |false=>
        simp only at d;rw[<-d]at j;exact j J t
       |true=>
        have a2:=A.1 rfl;have O:=D rfl;have a3:=SI q;simp only at O d;exact⟨(i+1,x',J),⟨aD,bg,bg,t,G,d⟩,aD,MT⟩
    .rw[drop_of_length_le aD]at d;simp only[w6]at d;rw[<-d]at j;exact j Z g
theorem K7:cm 94 tV:=by
 refine iH func94 ?_;rintro n m h K ⟨s,t,v,d,c,p,rfl,g,j,f,e⟩;refine⟨bwQ (SizeOf.sizeOf p+1),rfl,aE QF (aE (VE _) (aE (VD _) (aE (VB _) aG))),U3 (SizeOf.sizeOf p+1) s t v m h K,ax,?_⟩;dsimp only[U3,push_cast];refine⟨s,d,rfl,g,aC (λu=>Az e ?_) (λu=>⟨t,c,rfl,j,aC (λx=>Az e ?_) (λx=>⟨v,p,0,rfl,f,aD,aD,aD,aC (λy=>Az e ?_) (λy=>⟨v,p,8,rfl,f,aD,aD,aC (λz=>Az e ?_) (λz=>⟨s,t,d,c,v,p,rfl,g,j,f,aD,aC (λA=>Az e ?_) (λA=>Az e ?_)⟩)⟩)⟩)⟩)⟩
 all_goals (simp only[fX];simp only[*,Bool.or_false,Bool.false_or,Bool.or_true,Bool.true_or,Bool.and_true,Bool.true_and,Bool.and_false,Bool.false_and,Bool.not_true,Bool.not_false,Bool.false_eq_true,if_true,if_false, ↓reduceIte])
theorem Fm{f:FuncId}{fn:Func}(s:Tryz.prog.funcs[f]? =some fn){S:Vc.Spec}(j:∀c m h K,S c m h K->∃C:Ctx,C.P=Tryz.prog/\(∀g S,assoc C.specs g=some S->cm g S)/\∃N:Prop,N=tQ C fn (cA fn) (entry fn.ntmps c m h) (λr m' h'=>∃m2 n,(∀b o,m2 b=some o->m' b=some o)/\PH.le h n/\PH.le n h'/\K r m2 n)/\N)(t:fn.body=some (cA fn):=by rfl)(d:(fn.name== "runtime.NumGoroutine")=false:=by decide):cm f S:=QB s t d λc m h K u=>let⟨C,hC,hs,N,e,hn⟩:=j c m h K u;⟨C,hC,hs,e▸hn⟩
theorem H8:cm 156 tV:=by
 refine Fm func156 ?_;rintro I m h K ⟨s,t,v,d,c,p,rfl,E,F,G,J⟩;refine⟨a4Q (SizeOf.sizeOf p+1),rfl,aE XN (aE (Vw _) (aE (Vu _) aG)),RF (SizeOf.sizeOf p+1) s t v m h (λr m' h'=>∃j n,(∀b o,j b=some o->m' b=some o)/\PH.le h n/\PH.le n h'/\K r j n),ax,?_⟩;dsimp only[RF,push_cast];have f:∀(m':MH),(∀b o,m b=some o->m' b=some o)->∀x,fX d c p=x->∃j n,(∀b o,j b=some o->m' b=some o)/\PH.le h n/\PH.le n h/\K (.val (.int .i64 x)) j n:=λm' M x e=>⟨m,h,M,.refl _,.refl _,e▸J⟩
 refine⟨s,d,rfl,E,aC (λO=>f m (λ_ _ e=>e) _ ?_) (λO=>⟨t,c,rfl,F,aC (λQ=>f m (λ_ _ e=>e) _ ?_) (λQ b U R u=>⟨v,p,8,b,24,rfl,G,aD,aD,aD,aD,u.at_,λj A=>?_⟩)⟩)⟩
 .simp only[fX];grind
 .simp only[fX];grind
 .have g:∀b o,m b=some o->j b=some o:=λD o e=>by
   have y:D≠b:=λS=>by rw[S,R.m_]at e;cases e
   rw[A.other D y,u.other D y,e]
  have z:=aiX p;refine aC (λH=>f j g _ ?_) (λH=>⟨s,t,d,c,v,p,rfl,E,F,G,aD,aC (λT=>f j g _ ?_) (λT=>f j g _ ?_)⟩)
  all_goals (rw[z,Bool.not_not]at H;clear z;simp only[fX];simp only[*,Bool.or_false,Bool.false_or,Bool.or_true,Bool.true_or,Bool.and_true,Bool.true_and,Bool.and_false,Bool.false_and,Bool.not_true,Bool.not_false,Bool.false_eq_true,if_true,if_false, ↓reduceIte])
structure bZ{α β:Type}(h:PH)(sz:Nat)(enc:β->cn)(R:α->β->Prop)(s:Sl)(l:List α):Prop where
 ex:∃vs:List β,cC h s sz (vs.map enc)/\l.length=vs.length/\∀(i:Nat)(x:α),l[i]? =some x->∃v,vs[i]? =some v/\R x v
 len:l.length<=502633886983
theorem bZ.slen{α β:Type}{enc:β->cn}{R:α->β->Prop}{s:Sl}{l:List α}(r:bZ h sz enc R s l):s.len=l.length:=by
 obtain⟨d,c,e,_⟩:=r.ex;have:=c.len
 grind
theorem bZ.at{α β:Type}{enc:β->cn}{R:α->β->Prop}{s:Sl}{l:List α}(r:bZ h sz enc R s l){x:α}(c:l[i]? =some x):
 ∃b o v,s.a=some ⟨b,o,none⟩/\bM h b (o+i*sz) (enc v)/\R x v:=by
 obtain⟨j,d,_,f⟩:=r.ex;obtain⟨v,g,n⟩:=f i x c;obtain⟨b,o,e,k⟩:=d.get (i:=i) (e:=enc v) (by simp[g])
 grind
theorem bZ.mono{α β:Type}{enc:β->cn}{R R':α->β->Prop}{s:Sl}{l:List α}(r:bZ h sz enc R s l)(le:PH.le h h')(d:∀x v,R x v->R' x v):bZ h' sz enc R' s l:=by
 obtain⟨e,f,g,j⟩:=r.ex;exact⟨⟨e,f.mono le,g,λi x n=>(j i x n).imp λv c=>⟨c.1,d _ _ c.2⟩⟩,r.len⟩
theorem bZ.nil{α β:Type}(h:PH)(sz:Nat)(enc:β->cn)(R:α->β->Prop):bZ h sz enc R ⟨none,0,0⟩ ([]:List α):=
 ⟨⟨[],.nil h sz,rfl,λi x c=>by simp at c⟩,ay⟩
theorem eU{α:Type}{l:List α}{i n:Nat}(c:n=l.length)(d:(i:Int)<(n:Int)):∃x,l[i]? =some x:=⟨l[i]'(by omega),bo _⟩
def Gb(h:PH)(s:Sl)(ps:dg):Prop:=bZ h 13 PV.enc (dO h) s ps
theorem Gb.mono{s:Sl}{ps:dg}(r:Gb h s ps)(le:PH.le h h'):Gb h' s ps:=bZ.mono r le λ_ _=>dO.mono le
theorem pK.toL{s:Sl}{ps:dg}{vs:dr}(d:cC h s 13 (vs.map PV.enc))(c:pK h ps vs)(e:ps.length<=502633886983):Gb h s ps:=
 ⟨⟨vs,d,c.length.symm,λ_ _ f=>c.get f⟩,e⟩
theorem pK.ofL{h:PH}:∀{ps:dg}{vs:dr},ps.length=vs.length->(∀(i:Nat)(x:Pred),ps[i]? =some x->∃v,vs[i]? =some v/\dO h x v)->pK h ps vs
 |[],[],_,_=>rfl
 |p::ps,v::vs,c,d=>by
  obtain⟨j,f,g⟩:=d 0 p rfl;simp at f;subst f;exact⟨v,vs,rfl,g,pK.ofL bg λi x e=>bk (d (i+1) x (by simpa using e))⟩
 |[],_::_,c,_=>by simp at c
 |_::_,[],c,_=>by simp at c
theorem dO.parts{op c:Int}{l r:OV}{args:dg}{v:PV}(x:dO h (.mk op c l r args) v):v.op=op/\v.cmp=c/\v.left=l/\v.right=r/\Gb h v.args args:=by
 obtain⟨d,e,f,g,j,t,n,s⟩:=x;exact⟨d,e,f,g,s.toL n j⟩
theorem dO.mk{h:PH}{args:dg}{v:PV}(c:Gb h v.args args):dO h (.mk v.op v.cmp v.left v.right args) v:=by
 obtain⟨d,e,f,g⟩:=c.ex;exact⟨rfl,rfl,rfl,rfl,c.len,d,e,.ofL f g⟩
def bMX(N:Nat):Vc.Spec:=λc m h K=>∃v w p q,c=[aP v,aP w]/\dO h p v/\dO h q w/\SizeOf.sizeOf p<N/\∀r:Bool,(r=true↔p=q)->K (cB r) m h
def bTX(N:Nat):Vc.Spec:=λc m h K=>∃s t ps d,c=[cS s,cS t,.val (.func (.func 300) #[] #[])]/\Gb h s ps/\Gb h t d/\(∀p∈ps,SizeOf.sizeOf p<N)/\∀r:Bool,(r=true↔ps=d)->K (cB r) m h
noncomputable def aVX(N:Nat):Ctx:=ctx [(309,bTX N)] [] [] [] false
noncomputable def aUJ(N:Nat)(s t:Sl)(ps c:dg)(m:MH)(h:PH):Ctx:=
 ctx [(300,bMX N)] [FP 4 (λi=>bQ 32 35 [(1,sv t),(2,vv (.func (.func 300) #[] #[])),(15,sv s),(16,iv s.len),(17,iv i)] [] m h) (λi=>i<=ps.length/\∀j:Nat,j<i->ps[j]? =c[j]?) (λi=>ps.length-i)] [] [] false
noncomputable def byJ(N:Nat)(v w:PV)(ps c:dg)(m:MH)(h:PH):Ctx:=
 ctx [(76,bMX N)] [FP 4 (λi=>bQ 60 62 [(2,.at (.ptr 2 0)),(3,.at (.ptr 3 0)),(43,iv v.args.len),(44,iv i)] [(2,.cells 32 (v.enc.map .val)),(3,.cells 32 (w.enc.map .val))] m h) (λi=>i<=ps.length/\∀j:Nat,j<i->ps[j]? =c[j]?) (λi=>ps.length-i)] [] [] false
abbrev nA(a:Sl->Sl->Prop):Prop:=∃(x c:Sl),a x c
noncomputable abbrev yQ:Array Value:=Array.mk []
noncomputable abbrev BZ(a:Nat)(b:Array Value):CV:=CV.val (Value.func (Fn.func a) yQ b)
noncomputable abbrev Bq(a b:Sl)(c:Nat):dk:=dJ a (jA b (BZ c yQ))
attribute [push_cast] nA yQ BZ Bq
def Le(N:Nat)(v w:PV)(m:MH)(h:PH)(K:cr):Prop:=
  dW v.op w.op (dW v.cmp w.cmp (∃(r:Bool),fH (xY 29 (uN v) (uN w) r) r (∃(c:Bool),fH (xY 29 (vA v) (vA w) c) c (nA (λs t=>∃(p q:dg),aA (Bq v.args w.args 300=Bq s t 300) (Gb h s p) (aA (Gb h t q) (∀(d:Pred),List.Mem d p->pB d N) (∀(e:Bool),(gI e↔p=q)->K (AQ e) m h)))) (K aZ m h)) (K aZ m h)) (K aZ m h)) (K aZ m h)
abbrev D7(a:Nat)(b c:dg):Prop:=kA (a<=b.length) (λx=>x<a->b[x]? =c[x]?)
noncomputable abbrev EO(a:Nat)(b:Array Value):SV:=SV.at (At.val (Value.func (Fn.func a) yQ b))
abbrev z8(a:Nat):Prop:=eQ (EO a yQ)
abbrev Jq(a:PV->PV->Pred->Pred->Prop):Prop:=∃(x:PV),pE (λc d=>∃(e:Pred),a x c d e)
attribute [push_cast] D7 EO z8 Jq
def QT(N:Nat)(s t:Sl)(ps c:dg)(m:MH)(h:PH)(K:cr):Prop:=
  dC (aH s) (aH t) (K aZ m h) (kA (∃(x:Nat),aA (D7 x ps c) (aI t) (aA (z8 300) (aI s) (aA (bJ s) (bB x) (aA (m=m) (h=h) True)))) (λx=>D7 x ps c->aX (↑x:Int) (aH s) (bI (λb o=>aA (bK s.a b o) (0<=(↑x:Int)) ((↑x:Int)<aH s/\∃(y:PV),aU m h b (bN o x 13) y.enc/\No t.a x t (λf g e=>aU m h f (bN g x 13) e.enc/\Jq (λv w p q=>aA (fW y.enc e.enc=fW v.enc w.enc) (dO h p v) (aA (dO h q w) (pB p N) (∀(r:Bool),gQ (gI r↔p=q) (!r) (K aZ m h) (∃(d:Nat),aA (D7 d ps c) (ps.length-d<ps.length-x) (aA (aI t) (z8 300) (aA (aI s) (bJ s) (aA (bD (gG (bF x 1)) d) (m=m) (bL h h)))))))))))) (gO K m h)))
def OM(N:Nat)(v w:PV)(ps c:dg)(m:MH)(h:PH)(K:cr):Prop:=
  cX (v.op !=w.op) (K aZ m h) (v.cmp !=w.cmp) (K aZ m h) (∃(r:Bool),fH (xY 29 (uN v) (uN w) r) (!r) (K aZ m h) (∃(e:Bool),xY 29 (vA v) (vA w) e/\cX (!e) (K aZ m h) (mX v !=mX w) (K aZ m h) (kA (∃(x:Nat),aA (D7 x ps c) eK (aA cG (uY v) (aA (bB x) (gM v) (aA (gM w) (m=m) (bL h h))))) (λx=>D7 x ps c->aX (↑x:Int) (aH v.args) (bI (λb o=>aA (bK v.args.a b o) (0<=(↑x:Int)) ((↑x:Int)<aH v.args/\∃(y:PV),aU m h b (bN o x 13) y.enc/\No w.args.a x w.args (λs t f=>aU m h s (bN t x 13) f.enc/\Jq (λg j p q=>aA (fW y.enc f.enc=fW g.enc j.enc) (dO h p g) (aA (dO h q j) (pB p N) (∀(n:Bool),gQ (gI n↔p=q) (!n) (K aZ m h) (∃(d:Nat),aA
 (D7 d ps c) (ps.length-d<ps.length-x) (aA eK cG (aA (uY v) (bD (gG (bF x 1)) d) (aA (gM v) (gM w) (bP (m=m) h h)))))))))))) (gO K m h)))))
theorem BP{α:Type}{a b:List α}(c:a.length=b.length)(d:a.length<=i)(h:∀j:Nat,j<i->a[j]? =b[j]?):a=b:=by
 apply ext_getElem?
 grind
theorem zG{α:Type}{a b:List α}{x y:α}(c:a[i]? =some x)(d:b[i]? =some y)(e:x=y)(h:∀j:Nat,j<i->a[j]? =b[j]?):∀j:Nat,j<i+1->a[j]? =b[j]? :=by
 grind
theorem Qt{α:Type}{a b:List α}{x y:α}(c:a[i]? =some x)(d:b[i]? =some y)(e:x≠y):a≠b:=λh=>by
 grind
theorem Oq{α β:Type}{s t:Sl}{a:List α}{b:List β}(c:s.len=a.length)(d:t.len=b.length)(e:((s.len:Int) !=(t.len:Int))=true):a.length≠b.length:=λh=>by
 grind
theorem KV{α β:Type}{s t:Sl}{a:List α}{b:List β}(c:s.len=a.length)(d:t.len=b.length)(e:((s.len:Int) !=(t.len:Int))=false):a.length=b.length:=by
 grind
theorem bDQ{v w:PV}{q:Pred}(u:dO h p v)(x:dO h q w)(H:SizeOf.sizeOf p<N+1)(s:∀r:Bool,(r=true↔p=q)->K (cB r) m h):Le N v w m h K:=by
 dsimp only[Le,push_cast];have d:p≠q->K (cB false) m h:=λh=>s false ⟨λe=>(by cases e),λe=>(h e).elim⟩;have c:=@vZ p;obtain⟨op,y,l,r,ps⟩:=p;obtain⟨z,t,I,J,A⟩:=q;obtain⟨rfl,rfl,rfl,rfl,j⟩:=u.parts;obtain⟨rfl,rfl,rfl,rfl,n⟩:=x.parts;refine aC (λD=>aC (λE=>⟨_,Av _ _,aC (λf=>⟨_,Av _ _,aC (λg=>⟨v.args,w.args,ps,A,rfl,j,n,λp F=>?_,λr G=>s r (G.trans ?_)⟩) (λg=>d λe=>?_)⟩) (λf=>d λe=>?_)⟩) (λE=>d λe=>?_)) (λD=>d λe=>?_)
 .have:=c (q:=p) F;omega
 .rw[sW]at f g
  grind
 .injection e with _ _ _ e _;rw[sW.2 e]at g;cases g
 .injection e with _ _ e _ _;rw[sW.2 e]at f;cases f
 .grind
 grind
theorem Vr:∀N,cm 300 (bMX N)
 |0=>by
  refine eD (fn:=Tryz.f300) (c:=cA Tryz.f300) func300 rfl az ?_;rintro g m h K ⟨v,w,p,q,rfl,D,_,E,_⟩;omega
 |N+1=>by
  have z:cm 309 (bTX N):=by
   refine iH func309 ?_;rintro g m h K ⟨s,t,ps,F,rfl,I,R,E,G⟩;refine⟨aUJ N s t ps F m h,rfl,aE (Vr N) aG,QT N s t ps F m h K,ax,?_⟩;dsimp only[QT,push_cast];have d:=I.slen;have A:=R.slen;have U:=I.len;have S:ps≠F->K (cB false) m h:=λh=>G false ⟨λe=>(by cases e),λe=>(h e).elim⟩;refine aC (λJ=>S (λe=>Oq d A J (by rw[e]))) (λJ=>?_);have V:=KV d A J;refine⟨⟨0,⟨aD,λj hj=>by omega⟩,MT⟩,λi T=>aF (λf=>?_) (λW=>?_)⟩
   .obtain⟨x,H⟩:=eU d f;obtain⟨y,M⟩:∃y,F[i]? =some y:=eU (n:=s.len) aD f;obtain⟨X,Y,u,Z,r1,ru⟩:=I.at H;obtain⟨b2,o2,w,e2,r2,O⟩:=R.at M;refine⟨X,Y,Z,aD,f,u,.imm r1,b2,o2,e2,aD,aD,w,.imm r2,u,w,x,y,rfl,ru,O,E x (br H),λr D=>aC (λa'=>S (Qt H M (λe=>?_))) (λhe=>?_)⟩
    .grind
    .have Q:r=true:=bg
     exact⟨i+1,⟨aD,zG H M (D.1 Q) T.2⟩,aD,MT⟩
   .exact G true ⟨λ_=>BP V aD T.2,λ_=>rfl⟩
  refine iH func300 ?_;rintro g m h K ⟨v,w,p,q,rfl,D,hq,E,G⟩;refine⟨aVX N,rfl,aE z aG,Le N v w m h K,ax,?_⟩;exact bDQ D hq E G
theorem b4J{v w:PV}{q:Pred}(U:dO h p v)(V:dO h q w)(hN:SizeOf.sizeOf p<N+1)(D:∀r:Bool,(r=true↔p=q)->K (cB r) m h):OM N v w p.args q.args m h K:=by
 dsimp only[OM,push_cast];have c:p≠q->K (cB false) m h:=λh=>D false ⟨λe=>(by cases e),λe=>(h e).elim⟩;have d:=@vZ p;obtain⟨op,W,l,r,ps⟩:=p;obtain⟨X,O,l',r',Q⟩:=q;obtain⟨rfl,rfl,rfl,rfl,E⟩:=U.parts;obtain⟨rfl,rfl,rfl,rfl,R⟩:=V.parts;simp only[Pred.args]at d⊢
 have g:=E.slen;have F:=R.slen;have Y:=E.len;refine aC (λG=>c λe=>?_) (λG=>aC (λH=>c λe=>?_) (λH=>⟨_,Av _ _,aC (λs=>c λe=>?_) (λs=>⟨_,Av _ _,aC (λt=>c λe=>?_) (λt=>aC (λS=>c λe=>?_) (λS=>?_))⟩)⟩))
 .grind
 .grind
 .injection e with _ _ e _ _;rw[sW.2 e]at s;cases s
 .injection e with _ _ _ e _;rw[sW.2 e]at t;cases t
 .grind
 .have Z:=KV g F S;have s:v.left=w.left:=sW.1 bg;have t:v.right=w.right:=sW.1 bg;have G:v.op=w.op:=bg
  have H:v.cmp=w.cmp:=bg
  rw[G,H,s,t]at D c;have c:ps≠Q->K (cB false) m h:=λA=>c λe=>A (by injection e);refine⟨⟨0,⟨aD,λj hj=>by omega⟩,MT⟩,λi T=>aF (λf=>?_) (λa'=>?_)⟩
  .obtain⟨x,I⟩:=eU g f;obtain⟨y,J⟩:∃y,Q[i]? =some y:=eU (n:=v.args.len) aD f;obtain⟨b1,o1,u,e1,r1,ru⟩:=E.at I;obtain⟨b2,o2,z,e2,r2,rz⟩:=R.at J;refine⟨b1,o1,e1,aD,f,u,.imm r1,b2,o2,e2,aD,aD,z,.imm r2,u,z,x,y,rfl,ru,rz,?_,λr hr=>aC (λA=>c (Qt I J (λe=>?_))) (λhe=>?_)⟩
   .grind
   .grind
   .have M:r=true:=bg
    exact⟨i+1,⟨aD,zG I J (hr.1 M) T.2⟩,aD,MT⟩
  .exact D true ⟨λ_=>by rw[BP Z aD T.2],λ_=>rfl⟩
theorem ZU:∀N,cm 76 (bMX N)
 |0=>by
  refine eD (fn:=Tryz.f76) (c:=cA Tryz.f76) func76 rfl az ?_;rintro d m h K ⟨v,w,p,q,rfl,e,_,f,_⟩;omega
 |N+1=>by
  refine iH func76 ?_;rintro d m h K ⟨v,w,p,q,rfl,e,g,f,j⟩;refine⟨byJ N v w p.args q.args m h,rfl,aE (ZU N) aG,OM N v w p.args q.args m h K,ax,?_⟩;exact b4J e g f j
def bMZ:Vc.Spec:=λc m h K=>∃v w p q,c=[aP v,aP w]/\dO h p v/\dO h q w/\∀r:Bool,(r=true↔p=q)->K (cB r) m h
theorem iQ{f:FuncId}{S:Nat->Vc.Spec}{S':Vc.Spec}(h:∀N,cm f (S N))(e:∀c m h K,S' c m h K->∃N,S N c m h K):cm f S':=by
 refine⟨(h 0).1,λc g m d w K j n=>?_⟩;obtain⟨N,s⟩:=e c m d K j;exact(h N).2 c g m d w K s n
theorem Xj:cm 300 bMZ:=iQ Vr λ_ _ _ _⟨v,w,p,q,e,c,d,f⟩=>⟨SizeOf.sizeOf p+1,v,w,p,q,e,c,d,aD,f⟩
theorem arJ:cm 76 bMZ:=iQ ZU λ_ _ _ _⟨v,w,p,q,e,c,d,f⟩=>⟨SizeOf.sizeOf p+1,v,w,p,q,e,c,d,aD,f⟩
theorem J8{d e c i:Nat}{g:dl}{xs f:Array Value}{w:World}{x y:Value}{r r':Bool}(j:AS Tryz.prog (part e xs (i*c))=some x)(n:AS Tryz.prog (part e f (i*c))=some y)
 (s:(Op.equalIn d e x y).run Tryz.prog w= .ok r w)(t:(Op.eqItems d e c xs f g).run Tryz.prog w= .ok r' w):(Op.eqItems d e c xs f (i::g)).run Tryz.prog w= .ok (r&&r') w:=by
 simp only[Op.eqItems,Sem.run_bind,BU _ _ _ j,BU _ _ _ n,Result.andThen_ok,s];cases r
 .simp
 grind
def b6J(a b:Int×Int):Bool:=a.1==b.1&&(a.2==b.2&&true)
def b6Z(a b:Int×Bool):Bool:=a.1==b.1&&(a.2==b.2&&true)
theorem bcQ(a b:Int×Int):StructEq Tryz.prog 101 (.agg #[.int .i64 a.1,.int .i64 a.2]) (.agg #[.int .i64 b.1,.int .i64 b.2]) (b6J a b):=by
 refine⟨ax,λw=>?_⟩;obtain⟨i,c⟩:=Option.isSome_iff_exists.1 (show(Tryz.prog.info? 3).isSome=true by kernel_rfl);rw[run_equalIn_array w 9999 (e:=3) (n:=2) _ _ ax c,show Tryz.prog.cellsOf 3=1 by kernel_rfl,show List.range 2=[0,1]from rfl];refine J8 (x:=.int .i64 a.1) (y:=.int .i64 b.1) ax ax (run_equalIn_int w 9998 _ .i64 .i64 _ _ ax) ?_;refine J8 (x:=.int .i64 a.2) (y:=.int .i64 b.2) ax ax (run_equalIn_int w 9998 _ .i64 .i64 _ _ ax) ?_;simp[Op.eqItems]
theorem bbJ(a b:Int×Bool):StructEq Tryz.prog 103 (.agg #[.int .i64 a.1,.bool a.2]) (.agg #[.int .i64 b.1,.bool b.2]) (b6Z a b):=by
 refine⟨ax,λw=>?_⟩;rw[run_equalIn_struct w 9999 103 _ _ ax ax,show(Tryz.prog.fieldsOf 103).toList=[PM 103 0,PM 103 1]by kernel_rfl];refine mP (x:=.int .i64 a.1) (y:=.int .i64 b.1) ax ax ax (run_equalIn_int w 9998 _ .i64 .i64 _ _ ax) ?_;refine mP (x:=.bool a.2) (y:=.bool b.2) ax ax ax (run_equalIn_bool w 9998 _ _ _ ax) ?_;simp[Op.eqFields]
theorem VS{a b:Int×Int}:b6J a b=true↔a=b:=by
 obtain⟨c,d⟩:=a;obtain⟨e,f⟩:=b;simp[b6J]
theorem VR{a b:Int×Bool}:b6Z a b=true↔a=b:=by
 obtain⟨c,d⟩:=a;obtain⟨e,f⟩:=b;simp[b6Z]
theorem iD.at{s:Sl}{l:cu}(r:iD h s l){x:Int×Int}(c:l[i]? =some x):∃b o,s.a=some ⟨b,o,none⟩/\bM h b (o+i*2) (kY x):=r.row.get (by simp[c])
theorem jO.at{s:Sl}{l:cv}(r:jO h s l){x:Int×Bool}(c:l[i]? =some x):∃b o,s.a=some ⟨b,o,none⟩/\bM h b (o+i*2) (sJ x):=r.row.get (by simp[c])
def Sh:Vc.Spec:=λc m h K=>∃(s t:Sl)(a b:cu),c=[cS s,cS t]/\iD h s a/\iD h t b/\∀r:Bool,(r=true↔a=b)->K (cB r) m h
def Sg:Vc.Spec:=λc m h K=>∃(s t:Sl)(a b:cv),c=[cS s,cS t]/\jO h s a/\jO h t b/\∀r:Bool,(r=true↔a=b)->K (cB r) m h
noncomputable def Vq{α:Type}(s t:Sl)(a b:List α)(m:MH)(h:PH):Ctx:=
 ctx [] [FP 4 (λi=>bQ 26 28 [(0,sv s),(1,sv t),(12,iv s.len),(13,iv i)] [] m h) (λi=>i<=a.length/\∀j:Nat,j<i->a[j]? =b[j]?) (λi=>a.length-i)] [] [] false
noncomputable abbrev AV(a b:Int):cn:=rL (eN a) (eN b)
noncomputable abbrev uH(a:Int×Int):cn:=AV a.1 a.2
attribute [push_cast] AV uH
def QY(s t:Sl)(a b:cu)(m:MH)(h:PH)(K:cr):Prop:=
  dC (aH s) (aH t) (K aZ m h) (kA (∃(x:Nat),aA (kA (x<=a.length) (λj=>j<x->a[j]? =b[j]?)) (aI s) (aA (aI t) (bJ s) (bO (bB x) (m=m) (h=h)))) (λx=>kA (x<=a.length) (λj=>j<x->a[j]? =b[j]?)->aX (↑x:Int) (aH s) (bI (λd o=>aA (bK s.a d o) (0<=(↑x:Int)) ((↑x:Int)<aH s/\∃(y:Int×Int),aU m h d (bN o x 2) (uH y)/\bI (λe f=>aA (bK t.a e f) (0<=(↑x:Int)) ((↑x:Int)<aH t/\∃(g:Int×Int),aU m h e (bN f x 2) (uH g)/\∃(r:Bool),fH (xY 101 (uH y) (uH g) r) (!r) (K aZ m h) (∃(c:Nat),aA (kA (c<=a.length) (λj=>j<c->a[j]? =b[j]?)) (a.length-c<a.length-x) (aA (aI s) (aI t) (aA (bJ s) (bD (gG (bF x 1)) c) (aA (m=m) (h=h) True))))))))) (gO
 K m h)))
noncomputable abbrev z7(a:Int×Bool):cn:=rL (eN a.1) (Value.bool a.2)
attribute [push_cast] z7
def QX(s t:Sl)(a b:cv)(m:MH)(h:PH)(K:cr):Prop:=
  dC (aH s) (aH t) (K aZ m h) (kA (∃(x:Nat),aA (kA (x<=a.length) (λj=>j<x->a[j]? =b[j]?)) (aI s) (aA (aI t) (bJ s) (bO (bB x) (m=m) (h=h)))) (λx=>kA (x<=a.length) (λj=>j<x->a[j]? =b[j]?)->aX (↑x:Int) (aH s) (bI (λd o=>aA (bK s.a d o) (0<=(↑x:Int)) ((↑x:Int)<aH s/\∃(y:Int×Bool),aU m h d (bN o x 2) (z7 y)/\bI (λe f=>aA (bK t.a e f) (0<=(↑x:Int)) ((↑x:Int)<aH t/\∃(g:Int×Bool),aU m h e (bN f x 2) (z7 g)/\∃(r:Bool),fH (xY 103 (z7 y) (z7 g) r) (!r) (K aZ m h) (∃(c:Nat),aA (kA (c<=a.length) (λj=>j<c->a[j]? =b[j]?)) (a.length-c<a.length-x) (aA (aI s) (aI t) (aA (bJ s) (bD (gG (bF x 1)) c) (aA (m=m) (h=h) True)))))))))
 (gO K m h)))
theorem Xi:cm 301 Sh:=by
 refine iH func301 ?_;rintro I m h K ⟨s,t,a,b,rfl,u,E,F⟩;refine⟨Vq s t a b m h,rfl,aG,QY s t a b m h K,ax,?_⟩;dsimp only[QY,push_cast];have c:=u.slen;have f:=E.slen;have J:=u.len;have G:a≠b->K (cB false) m h:=λh=>F false ⟨λe=>(by cases e),λe=>(h e).elim⟩;refine aC (λz=>G (λe=>Oq c f z (by rw[e]))) (λz=>?_);have M:=KV c f z;refine⟨⟨0,⟨aD,λj Y=>by omega⟩,MT⟩,λi H=>aF (λd=>?_) (λO=>?_)⟩
 .obtain⟨x,A⟩:=eU c d;obtain⟨y,D⟩:∃y,b[i]? =some y:=eU (n:=s.len) aD d;obtain⟨Q,R,S,T⟩:=u.at A;obtain⟨U,V,W,X⟩:=E.at D;refine⟨Q,R,S,aD,d,x,.imm T,U,V,W,aD,aD,y,.imm X,_,bcQ x y,aC (λg=>G (Qt A D (λe=>?_))) (λZ=>?_)⟩
  .rw[VS.2 e]at g;cases g
  .exact⟨i+1,⟨aD,zG A D (VS.1 bg) H.2⟩,aD,MT⟩
 .exact F true ⟨λ_=>BP M aD H.2,λ_=>rfl⟩
theorem Xh:cm 302 Sg:=by
 refine iH func302 ?_;rintro I m h K ⟨s,t,a,b,rfl,u,E,F⟩;refine⟨Vq s t a b m h,rfl,aG,QX s t a b m h K,ax,?_⟩;dsimp only[QX,push_cast];have c:=u.slen;have f:=E.slen;have J:=u.len;have G:a≠b->K (cB false) m h:=λh=>F false ⟨λe=>(by cases e),λe=>(h e).elim⟩;refine aC (λz=>G (λe=>Oq c f z (by rw[e]))) (λz=>?_);have M:=KV c f z;refine⟨⟨0,⟨aD,λj Y=>by omega⟩,MT⟩,λi H=>aF (λd=>?_) (λO=>?_)⟩
 .obtain⟨x,A⟩:=eU c d;obtain⟨y,D⟩:∃y,b[i]? =some y:=eU (n:=s.len) aD d;obtain⟨Q,R,S,T⟩:=u.at A;obtain⟨U,V,W,X⟩:=E.at D;refine⟨Q,R,S,aD,d,x,.imm T,U,V,W,aD,aD,y,.imm X,_,bbJ x y,aC (λg=>G (Qt A D (λe=>?_))) (λZ=>?_)⟩
  .rw[VR.2 e]at g;cases g
  .exact⟨i+1,⟨aD,zG A D (VR.1 bg) H.2⟩,aD,MT⟩
 .exact F true ⟨λ_=>BP M aD H.2,λ_=>rfl⟩
noncomputable def Nt(s t:Sl)(a b:cq)(m:MH)(h:PH):Ctx:=
 ctx [] [FP 4 (λi=>bQ 26 28 [(0,sv s),(1,sv t),(12,iv s.len),(13,iv i)] [] m h) (λi=>i<=a.length/\∀j:Nat,j<i->a[j]? =b[j]?) (λi=>a.length-i)] [] [] false
def J5(s t:Sl)(a b:cq)(m:MH)(h:PH)(K:cr):Prop:=
  dC (aH s) (aH t) (K aZ m h) (kA (∃(x:Nat),aA (kA (x<=a.length) (λj=>j<x->a[j]? =b[j]?)) (aI s) (aA (aI t) (bJ s) (bO (bB x) (m=m) (h=h)))) (λx=>kA (x<=a.length) (λj=>j<x->a[j]? =b[j]?)->aX (↑x:Int) (aH s) (bI (λd o=>aA (bK s.a d o) (0<=(↑x:Int)) ((↑x:Int)<aH s/\∃(y:Int),aU m h d (bN o x 1) (bG y)/\bI (λe f=>aA (bK t.a e f) (0<=(↑x:Int)) ((↑x:Int)<aH t/\∃(g:Int),aU m h e (bN f x 1) (bG g)/\dC y g (K aZ m h) (∃(c:Nat),aA (kA (c<=a.length) (λj=>j<c->a[j]? =b[j]?)) (a.length-c<a.length-x) (aA (aI s) (aI t) (aA (bJ s) (bD (gG (bF x 1)) c) (aA (m=m) (h=h) True))))))))) (gO K m h)))
theorem b5Q(s t:Sl)(a b:cq)(m:MH)(h:PH)(K:cr):J5 s t a b m h K=(tQ (Nt s t a b m h) Tryz.f75 (cA Tryz.f75) (entry 26 [cS s,cS t] m h) K):=ax
theorem bHZ(s t:Sl)(a b:cq)(m:MH)(h:PH)(K:cr):J5 s t a b m h K=(tQ (Nt s t a b m h) Tryz.f162 (cA Tryz.f162) (entry 26 [cS s,cS t] m h) K):=ax
def Cd:Vc.Spec:=λc m h K=>∃(s t:Sl)(a b:cq),c=[cS s,cS t]/\Ints h s a/\Ints h t b/\∀r:Bool,(r=true↔a=b)->K (cB r) m h
theorem aUQ{s t:Sl}{b:cq}(c:Ints h s a)(f:Ints h t b)(g:∀r:Bool,(r=true↔a=b)->K (cB r) m h):J5 s t a b m h K:=by
 dsimp only[J5,push_cast];have u:=c.slen;have z:=f.slen;have A:=c.len;have n:a≠b->K (cB false) m h:=λh=>g false ⟨λe=>by(cases e),λe=>(h e).elim⟩;refine aC (λD=>n (λe=>?_)) (λD=>?_)
 .grind
 .have T:a.length=b.length:=bg
  refine⟨⟨0,⟨aD,λj E=>by omega⟩,rfl,rfl,rfl,rfl,rfl,rfl,trivial⟩,λi U=>aF (λd=>?_) (λF=>?_)⟩
  .obtain⟨x,G⟩:∃x,a[i]? =some x:=⟨a[i]'(by omega),bo _⟩
   obtain⟨y,H⟩:∃y,b[i]? =some y:=⟨b[i]'(by omega),bo _⟩
   obtain⟨I,J,M,V⟩:=c.at G;obtain⟨O,Q,R,W⟩:=f.at H;refine⟨I,J,M,aD,d,x,.imm bg,O,Q,R,aD,aD,y,.imm bg,aC (λS=>n (λe=>?_)) (λX=>?_)⟩
   .grind
   .have:x=y:=bg
    refine⟨i+1,⟨aD,λj E=>?_⟩,aD,rfl,rfl,rfl,by rw[kR aD],rfl,rfl,trivial⟩
    grind
  .refine g true ⟨λ_=>?_,λ_=>rfl⟩;apply ext_getElem?
   grind
theorem asQ:cm 75 Cd:=by
 refine eD (fn:=Tryz.f75) (c:=cA Tryz.f75) func75 rfl az ?_;rintro d m h K ⟨s,t,a,b,rfl,e,f,g⟩;exact⟨Nt s t a b m h,rfl,aG,(b5Q s t a b m h K)▸aUQ e f g⟩
theorem EY:cm 162 Cd:=by
 refine eD (fn:=Tryz.f162) (c:=cA Tryz.f162) func162 rfl az ?_;rintro d m h K ⟨s,t,a,b,rfl,e,f,g⟩;exact⟨Nt s t a b m h,rfl,aG,(bHZ s t a b m h K)▸aUQ e f g⟩
def aQ(v:QV):CV:=.val (.agg ⟨v.enc⟩)
def Query.args:Query->cz
 |.mk _ _ _ _ _ _ _ _ l=>l
theorem vF{p:Query}{q:Query}(h:q∈p.args):SizeOf.sizeOf q<SizeOf.sizeOf p:=by
 cases p with
 |mk op t w c o g s l args=>
  have:=sizeOf_lt_of_mem h;simp only[Query.args]at this
  grind
def Fi(h:PH)(s:Sl)(ps:cz):Prop:=bZ h 21 QV.enc (cJ h) s ps
theorem Fi.mono{s:Sl}{ps:cz}(r:Fi h s ps)(le:PH.le h h'):Fi h' s ps:=bZ.mono r le λ_ _=>cJ.mono le
theorem qU.ofL{h:PH}:∀{ps:cz}{vs:dn},ps.length=vs.length->(∀(i:Nat)(x:Query),ps[i]? =some x->∃v,vs[i]? =some v/\cJ h x v)->qU h ps vs
 |[],[],_,_=>rfl
 |p::ps,v::vs,c,d=>by
  obtain⟨j,f,g⟩:=d 0 p rfl;simp at f;subst f;exact⟨v,vs,rfl,g,qU.ofL bg λi x e=>bk (d (i+1) x (by simpa using e))⟩
 |[],_::_,c,_=>by simp at c
 |_::_,[],c,_=>by simp at c
structure pJ(h:PH)(op table:Int)(w:Pred)(c:cq)(o:cu)(g:cq)(s:cv)(l:Int)(args:cz)(v:QV):Prop where
 op_:v.op=op
 table_:v.table=table
 where_:dO h w v.where_
 columns_:Ints h v.columns c
 on_:iD h v.on o
 group_:Ints h v.group g
 order_:jO h v.order s
 limit_:v.limit=l
 args_:Fi h v.args args
theorem cJ.parts{op table:Int}{w:Pred}{c:cq}{o:cu}{g:cq}{s:cv}{l:Int}{args:cz}(x:cJ h (.mk op table w c o g s l args) v):pJ h op table w c o g s l args v:=by
 obtain⟨f,j,n,t,u,y,z,A,D,E,e,d⟩:=x;exact⟨f,j,n,t,u,y,z,A,⟨⟨E,e,d.length.symm,λ_ _ F=>d.get F⟩,D⟩⟩
theorem pJ.rep{op table:Int}{w:Pred}{c:cq}{o:cu}{g:cq}{s:cv}{l:Int}{args:cz}(x:pJ h op table w c o g s l args v):cJ h (.mk op table w c o g s l args) v:=by
 obtain⟨d,e,f,j⟩:=x.args_.ex;exact⟨x.op_,x.table_,x.where_,x.columns_,x.on_,x.group_,x.order_,x.limit_,x.args_.len,d,e,.ofL f j⟩
def cgX(N:Nat):Vc.Spec:=λc m h K=>∃v w p q,c=[aQ v,aQ w]/\cJ h p v/\cJ h q w/\SizeOf.sizeOf p<N/\∀r:Bool,(r=true↔p=q)->K (cB r) m h
def cgZ:Vc.Spec:=λc m h K=>∃v w p q,c=[aQ v,aQ w]/\cJ h p v/\cJ h q w/\∀r:Bool,(r=true↔p=q)->K (cB r) m h
def bTQ(N:Nat):Vc.Spec:=λc m h K=>∃s t ps d,c=[cS s,cS t,.val (.func (.func 290) #[] #[])]/\Fi h s ps/\Fi h t d/\(∀p∈ps,SizeOf.sizeOf p<N)/\∀r:Bool,(r=true↔ps=d)->K (cB r) m h
noncomputable def aVZ(N:Nat):Ctx:=ctx [(300,bMZ),(162,Cd),(301,Sh),(302,Sg),(303,bTQ N)] [] [] [] false
noncomputable def aVQ(N:Nat)(s t:Sl)(ps c:cz)(m:MH)(h:PH):Ctx:=
 ctx [(290,cgX N)] [FP 4 (λi=>bQ 32 35 [(1,sv t),(2,vv (.func (.func 290) #[] #[])),(15,sv s),(16,iv s.len),(17,iv i)] [] m h) (λi=>i<=ps.length/\∀j:Nat,j<i->ps[j]? =c[j]?) (λi=>ps.length-i)] [] [] false
noncomputable abbrev cV(a b:Sl):dk:=jA a (Dj b)
abbrev zS(a b:Sl)(c:PH)(d:cq->cq->Bool->Prop):Prop:=∃(x:Sl),y9 (λe f g=>aA (cV a b=cV x e) (Ints c x f) (Ints c e g/\∀(j:Bool),d f g j))
abbrev xE(a:Query)(b:Nat):Prop:=SizeOf.sizeOf a<b
attribute [push_cast] cV zS xE
def Lg(N:Nat)(v w:QV)(m:MH)(h:PH)(K:cr):Prop:=
  dW v.op w.op (dW v.table w.table (dW v.limit w.limit (Jq (λd e p q=>aA (fW v.where_.enc w.where_.enc=fW d.enc e.enc) (dO h p d) (dO h q e/\∀(r:Bool),gQ (gI r↔p=q) r (zS v.columns w.columns h (λa b f=>gQ (gI f↔a=b) f (nA (λs t=>∃(g j:cu),aA (cV v.on w.on=cV s t) (iD h s g) (iD h t j/\∀(n:Bool),gQ (gI n↔g=j) n (zS v.group w.group h (λJ M u=>gQ (gI u↔J=M) u (nA (λx y=>∃(z A:cv),aA (cV v.order w.order=cV x y) (jO h x z) (jO h y A/\∀(D:Bool),gQ (gI D↔z=A) D (nA (λE F=>∃(c G:cz),aA (Bq v.args w.args 290=Bq E F 290) (Fi h E c) (aA (Fi h F G) (∀(H:Query),List.Mem H c->xE
 H N) (∀(I:Bool),(gI I↔c=G)->K (AQ I) m h)))) (K aZ m h)))) (K aZ m h))) (K aZ m h)))) (K aZ m h))) (K aZ m h)))) (K aZ m h)) (K aZ m h)) (K aZ m h)
abbrev qF(a:QV->Query->Prop):Prop:=∃(x:QV)(c:Query),a x c
noncomputable abbrev eC(a:QV):CV:=fM a.enc
attribute [push_cast] qF eC
def QU(N:Nat)(s t:Sl)(ps d:cz)(m:MH)(h:PH)(K:cr):Prop:=
  dC (aH s) (aH t) (K aZ m h) (kA (∃(x:Nat),aA (kA (x<=ps.length) (λj=>j<x->ps[j]? =d[j]?)) (aI t) (aA (z8 290) (aI s) (aA (bJ s) (bB x) (aA (m=m) (h=h) True)))) (λx=>kA (x<=ps.length) (λj=>j<x->ps[j]? =d[j]?)->aX (↑x:Int) (aH s) (bI (λb o=>aA (bK s.a b o) (0<=(↑x:Int)) ((↑x:Int)<aH s/\∃(y:QV),aU m h b (bN o x 21) y.enc/\bI (λe f=>aA (bK t.a e f) (0<=(↑x:Int)) ((↑x:Int)<aH t/\∃(g:QV),aU m h e (bN f x 21) g.enc/\∃(v:QV),qF (λw p=>∃(q:Query),aA (gZ (eC y) (fM g.enc)=gZ (eC v) (fM w.enc)) (cJ h p v) (aA (cJ h q w) (xE p N) (∀(r:Bool),gQ (gI r↔p=q) (!r) (K aZ m h) (∃(c:Nat),aA (kA (c<=ps.length) (λj=>j<c->ps[j]? =d[j]?))
 (ps.length-c<ps.length-x) (aA (aI t) (z8 290) (aA (aI s) (bJ s) (aA (bD (gG (bF x 1)) c) (m=m) (bL h h))))))))))))) (gO K m h)))
theorem bDX{w:QV}{p q:Query}(s:cJ h p v)(t:cJ h q w)(R:SizeOf.sizeOf p<N+1)(n:∀r:Bool,(r=true↔p=q)->K (cB r) m h):Lg N v w m h K:=by
 dsimp only[Lg,push_cast];have c:p≠q->K (cB false) m h:=λh=>n false ⟨λe=>(by cases e),λe=>(h e).elim⟩;have d:=@vF p;obtain⟨op,ta,S,co,on,gr,od,li,ps⟩:=p;obtain⟨u,x,y,z,A,D,E,F,T⟩:=q;have a:=s.parts;have b:=t.parts
 refine aC (λf=>aC (λg=>aC (λj=>⟨_,_,_,_,rfl,a.where_,b.where_,λU V=>aC (λG=>⟨_,_,_,_,rfl,a.columns_,b.columns_,λW X=>aC (λH=>⟨_,_,_,_,rfl,a.on_,b.on_,λY Z=>aC (λI=>⟨_,_,_,_,rfl,a.group_,b.group_,λr7 h7=>aC (λJ=>⟨_,_,_,_,rfl,a.order_,b.order_,λr8 h8=>aC (λM=>⟨_,_,_,_,rfl,a.args_,b.args_,λp O=>?_,λr Q=>n r (Q.trans ?_)⟩)
  (λM=>c λe=>?_)⟩) (λJ=>c λe=>?_)⟩) (λI=>c λe=>?_)⟩) (λH=>c λe=>?_)⟩) (λG=>c λe=>?_)⟩) (λj=>c λe=>?_)) (λg=>c λe=>?_)) (λf=>c λe=>?_)
 .have:=d (q:=p) O;omega
 .rw[a.op_,b.op_,beq_iff_eq]at f;rw[a.table_,b.table_,beq_iff_eq]at g;rw[a.limit_,b.limit_,beq_iff_eq]at j
  grind
 .grind
 .grind
 .grind
 .grind
 .grind
 .injection e with _ _ _ _ _ _ _ e _;rw[a.limit_,b.limit_,e]at j;simp at j
 .injection e with _ e _ _ _ _ _ _ _;rw[a.table_,b.table_,e]at g;simp at g
 .injection e with e _ _ _ _ _ _ _ _;rw[a.op_,b.op_,e]at f;simp at f
theorem Vt:∀N,cm 290 (cgX N)
 |0=>by
  refine eD (fn:=Tryz.f290) (c:=cA Tryz.f290) func290 rfl az ?_;rintro g m h K ⟨v,w,p,q,rfl,D,_,E,_⟩;omega
 |N+1=>by
  have z:cm 303 (bTQ N):=by
   refine iH func303 ?_;rintro g m h K ⟨s,t,ps,F,rfl,I,R,E,G⟩;refine⟨aVQ N s t ps F m h,rfl,aE (Vt N) aG,QU N s t ps F m h K,ax,?_⟩;dsimp only[QU,push_cast];have d:=I.slen;have A:=R.slen;have U:=I.len;have S:ps≠F->K (cB false) m h:=λh=>G false ⟨λe=>(by cases e),λe=>(h e).elim⟩;refine aC (λJ=>S (λe=>Oq d A J (by rw[e]))) (λJ=>?_);have V:=KV d A J;refine⟨⟨0,⟨aD,λj hj=>by omega⟩,MT⟩,λi T=>aF (λf=>?_) (λW=>?_)⟩
   .obtain⟨x,H⟩:=eU d f;obtain⟨y,M⟩:∃y,F[i]? =some y:=eU (n:=s.len) aD f;obtain⟨X,Y,u,Z,r1,ru⟩:=I.at H;obtain⟨b2,o2,w,e2,r2,O⟩:=R.at M;refine⟨X,Y,Z,aD,f,u,.imm r1,b2,o2,e2,aD,aD,w,.imm r2,u,w,x,y,rfl,ru,O,E x (br H),λr D=>aC (λa'=>S (Qt H M (λe=>?_))) (λhe=>?_)⟩
    .grind
    .have Q:r=true:=bg
     exact⟨i+1,⟨aD,zG H M (D.1 Q) T.2⟩,aD,MT⟩
   .exact G true ⟨λ_=>BP V aD T.2,λ_=>rfl⟩
  refine iH func290 ?_;rintro g m h K ⟨v,w,p,q,rfl,D,hq,E,G⟩;refine⟨aVZ N,rfl,aE Xj (aE EY (aE Xi (aE Xh (aE z aG)))),Lg N v w m h K,ax,?_⟩;exact bDX D hq E G
theorem Xl:cm 290 cgZ:=iQ Vt λ_ _ _ _⟨v,w,p,q,e,c,d,f⟩=>⟨SizeOf.sizeOf p+1,v,w,p,q,e,c,d,aD,f⟩
structure Ref where
 columns:cq
 table:Int
structure C1 where
 name:ByteArray
 columns:List qJ
 key:Int
 refs:List Ref
 checks:dg
structure jB where
 version:Int
 tables:List C1
variable{s:jB}
structure TJ(h:PH)(r:Ref)(v:Fo):Prop where
 columns:Ints h v.columns r.columns
 table:v.table=r.table
def Fp(h:PH)(s:Sl)(l:List qJ):Prop:=bZ h 2 qJ.enc Eq s l
structure Pt(h:PH)(t:C1)(v:cL):Prop where
 name:v.name=t.name
 columns:Fp h v.columns t.columns
 key:v.key=t.key
 refs:bZ h 2 Fo.enc (TJ h) v.references t.refs
 checks:Gb h v.checks t.checks
structure iA(h:PH)(s:jB)(v:bW):Prop where
 version:v.version=s.version
 tables:bZ h 5 cL.enc (Pt h) v.tables s.tables
theorem TJ.mono{r:Ref}{v:Fo}(x:TJ h r v)(le:PH.le h h'):TJ h' r v:=⟨x.columns.mono le,x.table⟩
theorem Pt.mono{t:C1}{v:cL}(x:Pt h t v)(le:PH.le h h'):Pt h' t v:=
 ⟨x.name,bZ.mono x.columns le λ_ _ e=>e,x.key,x.refs.mono le λ_ _ e=>e.mono le,x.checks.mono le⟩
theorem iA.mono{v:bW}(x:iA h s v)(le:PH.le h h'):iA h' s v:=⟨x.version,x.tables.mono le λ_ _ e=>e.mono le⟩
def lower(c:Nat):Bool:=97<=c&&c<=122
def yN(c:Nat):Bool:=lower c||(48<=c&&c<=57)||c==95
def qT(s:ByteArray):dl:=s.data.toList.map UInt8.toNat
def oT(s:ByteArray):Bool:=1<=s.size&&s.size<=32&&lower ((qT s).headD 0)&&(qT s).all yN
theorem Sa(s:ByteArray):(qT s).length=s.size:=by simp[qT]
theorem aBZ{s:ByteArray}{c:Nat}(h:(qT s)[i]? =some c):(s.get! i).toNat=c/\c<256:=by
 simp only[qT,getElem?_map,Option.map_eq_some_iff]at h;obtain⟨b,e,rfl⟩:=h;refine⟨?_,b.toNat_lt⟩
 have f:i<s.data.size:=by
  grind
 have:s.data[i]? =some b:=bg
 cases s with
 |mk d=>
  show(d[i]!).toNat=b.toNat
  grind
theorem LG{s:ByteArray}(h:(s.get! i).toNat<128):Utf8.decode s i=((s.get! i).toNat,1):=by
 simp only[Utf8.decode,Nat.add_zero];rw[if_pos h]
theorem aBX{s:ByteArray}(h:¬(s.get! i).toNat<128):128<=(Utf8.decode s i).1:=by
 simp only[Utf8.decode,Nat.add_zero];rw[if_neg h]
 repeat' split
 all_goals simp_all [Utf8.runeError]
 all_goals omega
def V1(s:ByteArray):CV:=.val (.string s)
def adZ:Vc.Spec:=λc m h K=>∃s,c=[V1 s]/\K (cB (oT s)) m h
noncomputable def aYQ(s:ByteArray)(m:MH)(h:PH):Ctx:=
 ctx [] [(4,{A:=Nat×Nat×MH,st:=λx=>bQ 44 45 [(15,vv (.pointer (some ⟨x.2.1,0,none⟩)))] [] x.2.2 h,inv:=λx=>x.1<=s.size/\mL m h x.2.1/\iP m x.2.2 x.2.1 (.stringIter s x.1)/\(x.1=0\/lower ((qT s).headD 0)=true)/\((qT s).take x.1).all yN=true,mu:=λx=>s.size-x.1})] [] [] false
noncomputable def aYX(s:ByteArray)(m:MH)(h:PH):Ctx:=
 ctx [] [FP 4 (λi=>bQ 50 51 [(0,vv (.string s)),(3,iv i)] [] m h) (λi=>i<=s.size/\((qT s).take i).all yN=true) (λi=>s.size-i)] [] [] false
abbrev Nq(a b:(Nat×Nat×MH)->Prop):Prop:=(∃(x:Nat×Nat×MH),a x)/\∀(x:Nat×Nat×MH),b x
abbrev uZ(a b c:Prop)(d e:PH):Prop:=aA a b (aA c (d=e) True)
noncomputable abbrev iK(a:Nat×Nat×MH):Nat:=a.2.1
noncomputable abbrev gP(a:Nat×Nat×MH):Nat->Option Obj:=a.2.2
abbrev Cs(a:Nat×Nat×MH)(b:ByteArray)(c:MH)(d:PH):Prop:=aA (a.1<=b.size) (mL c d (iK a)) (aA (iP c (gP a) (iK a) (Obj.stringIter b a.1)) (a.1=0\/gI (lower (headD (qT b) 0))) (gI (List.all (List.take a.1 (qT b)) yN)))
abbrev fA(a b:Nat):Prop:=sQo a 0=sQo b 0
noncomputable abbrev D1(a:ByteArray)(b:Nat):Nat:=(Utf8.decode a b).1
abbrev BE(a:ByteArray)(b c:Nat):Prop:=a.size-b<a.size-c
abbrev Gu(a:(Nat×Nat×MH)->Prop)(b:ByteArray)(c:Nat×Nat×MH)(d:MH)(e:PH):Prop:=∃(x:Nat×Nat×MH),aA (a x) (BE b x.1 c.1) (aA (fA (iK c) (iK x)) (d=gP x) (bL e e))
attribute [push_cast] Nq uZ iK gP Cs fA D1 BE Gu
def Ll(s:ByteArray)(m:MH)(h:PH)(K:cr):Prop:=
  aX (↑s.size:Int) 1 (K aZ m h) (eZ (↑s.size:Int) 32 (K aZ m h) (mH m h (λb e=>iP m e b (Obj.stringIter s 0)) (λb e=>Nq (λx=>uZ (Cs x s m h) (fA b (iK x)) (e=gP x) h h) (λx=>Cs x s m h->∃(c:ByteArray)(p:Nat),aA (E8 (gP x) (iK x) (Obj.stringIter c p)) (c.size<=p->gO K (gP x) h) (p<c.size->∀(d:MH),iP (gP x) d (iK x) (Obj.stringIter c (p+(Utf8.decode c p).2))->cX (decide ((↑(D1 c p):Int)>=97)) (tD (decide ((↑(D1 c p):Int)<=122)) (cX ((↑p:Int)==0) (K aZ d h) ((↑(D1 c p):Int) !=95) (aX (↑(D1 c p):Int) 48 (K aZ d h) (eZ (↑(D1 c p):Int) 57 (K aZ d h) (Gu (λy=>Cs y s m h) s x d h))) (Gu (λy=>Cs y s m h) s x d h)) (Gu (λy=>Cs y s m h) s x d
 h)) ((↑p:Int)==0) (K aZ d h) (dC (↑(D1 c p):Int) 95 (aX (↑(D1 c p):Int) 48 (K aZ d h) (eZ (↑(D1 c p):Int) 57 (K aZ d h) (Gu (λy=>Cs y s m h) s x d h))) (Gu (λy=>Cs y s m h) s x d h)))))))
abbrev nX(a:Bool)(b:Prop)(c d:Int)(e g:Prop):Prop:=cX a b (decide (c>d)) e g
abbrev M1(a:Prop)(b:ByteArray)(c:Nat)(d:UInt8->UInt8)(e:UInt8->Prop):Prop:=a/\∃(x:UInt8),b.data.toList[c]? =Option.some (d x)/\e x
noncomputable abbrev xX(a:UInt8):Int:=(↑a.toNat:Int)
abbrev zT(a:Nat)(b:ByteArray):Prop:=a<=b.size/\gI (List.all (List.take a (qT b)) yN)
attribute [push_cast] nX M1 xX zT
def Rc(s:ByteArray)(m:MH)(h:PH)(K:cr):Prop:=
  nX ((↑s.size:Int)==0) (K aZ m h) (↑s.size:Int) 32 (K aZ m h) (M1 (bV 0) s 0 (λb=>b) (λb=>aX (↑b.toNat:Int) 97 (K aZ m h) (M1 (bV 0) s 0 (λd=>d) (λd=>eZ (xX d) 122 (K aZ m h) (kA (∃(x:Nat),aA (zT x s) (eQ (SV.at (TE s))) (aA (bB x) (m=m) (bL h h))) (λx=>zT x s->aX (↑x:Int) (↑s.size:Int) (M1 (bV (↑x:Int)) s (↑x:Int).toNat (λc=>c) (λc=>aX (↑c.toNat:Int) 97 (aX (↑c.toNat:Int) 48 (dC (xX c) 95 (K aZ m h) (∃(y:Nat),aA (zT y s) (BE s y x) (aA (eQ (SV.at (TE s))) (bD (gG (bF x 1)) y) (bP (m=m) h h)))) (eZ (xX c) 57 (dC (xX c) 95 (K aZ m h) (∃(y:Nat),aA (zT y s) (BE s y x) (aA (eQ (SV.at (TE s))) (bD (gG (bF x 1)) y) (bP (m=m) h h)))) (∃
 (y:Nat),aA (zT y s) (BE s y x) (aA (eQ (SV.at (TE s))) (bD (gG (bF x 1)) y) (bP (m=m) h h))))) (eZ (xX c) 122 (aX (↑c.toNat:Int) 48 (dC (xX c) 95 (K aZ m h) (∃(y:Nat),aA (zT y s) (BE s y x) (aA (eQ (SV.at (TE s))) (bD (gG (bF x 1)) y) (bP (m=m) h h)))) (eZ (xX c) 57 (dC (xX c) 95 (K aZ m h) (∃(y:Nat),aA (zT y s) (BE s y x) (aA (eQ (SV.at (TE s))) (bD (gG (bF x 1)) y) (bP (m=m) h h)))) (∃(y:Nat),aA (zT y s) (BE s y x) (aA (eQ (SV.at (TE s))) (bD (gG (bF x 1)) y) (bP (m=m) h h))))) (∃(y:Nat),aA (zT y s) (BE s y x) (aA (eQ (SV.at (TE s))) (bD (gG (bF x 1)) y) (bP (m=m) h h)))))) (gO K m h)))))))
def kX(h:PH)(K:cr):CV->MH->PH->Prop:=λr m' h'=>∃d c,(∀b o,d b=some o->m' b=some o)/\PH.le h c/\PH.le c h'/\K r d c
theorem kX.here{r:CV}(c:K r m h):kX h K r m h:=⟨m,h,λ_ _ e=>e,.refl _,.refl _,c⟩
theorem kX.sub{r:CV}(c:∀b o,m b=some o->m' b=some o)(d:K r m h):kX h K r m' h:=⟨m,h,c,.refl _,.refl _,d⟩
theorem iP.keeps{o:Obj}(f:mL m h b)(g:iP m m' b o):∀b o,m b=some o->m' b=some o:=λd n e=>by
 have c:d≠b:=λj=>by rw[j,f.m_]at e;cases e
 rw[g.other d c,e]
theorem XO:cm 217 adZ:=by
 refine Fm func217 ?_;rintro U m h K ⟨s,rfl,E⟩;refine⟨aYQ s m h,rfl,aG,Ll s m h (λr m' h'=>∃u F,(∀b o,u b=some o->m' b=some o)/\PH.le h F/\PH.le F h'/\K r u F),ax,?_⟩;show Ll s m h (kX h K);dsimp only[Ll,push_cast];have hl:=Sa s;refine aF (λV=>?_) (λV=>aF (λF=>?_) (λF b W D G=>?_))
 .refine .here (jD E ?_);have:¬1<=s.size:=by omega
  simp[oT,this]
 .refine .here (jD E ?_);have:¬s.size<=32:=by omega
  simp[oT,this]
 refine⟨⟨(0,b,W),⟨ay,D,G,.inl rfl,ay⟩,MT⟩,?_⟩;rintro⟨d,b,mx⟩ ⟨X,D,n,g,f⟩;simp only at X D n g f;refine⟨s,d,⟨n.at_⟩,λY=>?_,λZ u H=>?_⟩
 .refine .sub (iP.keeps D n) (jD E ?_);rw[bu aD]at f
  have h3:lower ((qT s).headD 0)=true:=by
   grind
  have O:1<=s.size:=by omega
  have Q:s.size<=32:=by omega
  simp only[oT,f,h3,decide_eq_true O,decide_eq_true Q];rfl
 .have t:=n.trans H;obtain⟨c,M⟩:∃c,(qT s)[d]? =some c:=⟨(qT s)[d]'(by omega),bo _⟩
  obtain⟨T,R⟩:=aBZ M
  have z:d=0->(qT s).headD 0=c:=λe=>by
   subst e;cases a':qT s with
   |nil=>grind
   |cons x l=>grind
  have I:¬((97<=(Utf8.decode s d).1/\(Utf8.decode s d).1<=122)\/(d≠0/\((Utf8.decode s d).1=95\/(48<=(Utf8.decode s d).1/\(Utf8.decode s d).1<=57))))->kX h K (.val (.bool false)) u h:=by
   intro hn;refine .sub (iP.keeps D t) (jD E ?_);by_cases j:(s.get! d).toNat<128
   .rw[LG j,T]at hn;by_cases S:d=0
    .have:lower c=false:=by
      simp only[lower,Bool.and_eq_false_iff,decide_eq_false_iff_not];omega
     simp only[oT,z S,this,Bool.and_false,Bool.false_and]
    .have:yN c=false:=by
      simp only[yN,lower,Bool.or_eq_false_iff,Bool.and_eq_false_iff,decide_eq_false_iff_not,beq_eq_false_iff_ne];omega
     simp[oT,Nv M this]
   .have:yN c=false:=by
     simp only[yN,lower,Bool.or_eq_false_iff,Bool.and_eq_false_iff,decide_eq_false_iff_not,beq_eq_false_iff_ne];omega
    simp[oT,Nv M this]
  have J:((97<=(Utf8.decode s d).1/\(Utf8.decode s d).1<=122)\/(d≠0/\((Utf8.decode s d).1=95\/(48<=(Utf8.decode s d).1/\(Utf8.decode s d).1<=57))))->d+1<=s.size/\iP m u b (.stringIter s (d+1))/\lower ((qT s).headD 0)=true/\((qT s).take (d+1)).all yN=true:=by
   intro A
   have j:(s.get! d).toNat<128:=by
    refine Decidable.byContradiction λj=>?_;have:=aBX j;omega
   rw[LG j]at t;rw[LG j,T]at A;simp only at A;refine⟨aD,t,?_,?_⟩
   .rcases g with e|e
    .rw[z e];simp only[lower,bz,ce];omega
    .exact e
   .rw[AN M,f];simp only[yN,lower,Bool.true_and,Bool.or_eq_true,bz,ce,beq_iff_eq];omega
  have next:((97<=(Utf8.decode s d).1/\(Utf8.decode s d).1<=122)\/(d≠0/\((Utf8.decode s d).1=95\/(48<=(Utf8.decode s d).1/\(Utf8.decode s d).1<=57))))->_:=λA=>(⟨(d+1,b,u),⟨(J A).1,D,(J A).2.1,.inr (J A).2.2.1,(J A).2.2.2⟩,aD,MT⟩:∃(y:Nat×Nat×MH),(y.fst<=s.size/\mL m h y.snd.fst/\iP m y.snd.2 y.snd.fst (Obj.stringIter s y.fst)/\(y.fst=0\/lower ((qT s).headD 0)=true)/\(List.take y.fst (qT s)).all yN=true)/\s.size-y.fst<s.size-d/\SV.at (At.val (Value.pointer (some (Addr.mk b 0 none))))=SV.at (At.val (Value.pointer (some (Addr.mk y.snd.fst 0 none))))/\u=y.snd.2/\h=h/\True)
  clear J t H f g z n G E
  repeat' (first|(refine aC (λ_=>?_) (λ_=>?_))|exact I (by simp only[ce,decide_eq_false_iff_not,bne_iff_ne,ne_eq,beq_iff_eq,beq_eq_false_iff_ne,bne_eq_false_iff_eq,Bool.not_eq_true',Bool.not_eq_false']at*;omega)|exact next (by simp only[ce,decide_eq_false_iff_not,bne_iff_ne,ne_eq,beq_iff_eq,beq_eq_false_iff_ne,bne_eq_false_iff_eq,Bool.not_eq_true',Bool.not_eq_false']at*;omega))
theorem XP:cm 216 adZ:=by
 refine iH func216 ?_;rintro I m h K ⟨s,rfl,j⟩;refine⟨aYX s m h,rfl,aG,Rc s m h K,ax,?_⟩;dsimp only[Rc,push_cast];have T:=Sa s;refine aC (λu=>jD j ?_) (λu=>aF (λJ=>jD j ?_) (λJ=>?_))
 .have:¬1<=s.size:=by have:(s.size:Int)=0:=(bk u);omega
  simp[oT,this]
 .have:¬s.size<=32:=by omega
  simp[oT,this]
 have u:s.size≠0:=by intro e;rw[e]at u;simp at u
 obtain⟨t,d⟩:∃c,s.data.toList[0]? =some c:=⟨s.data.toList[0]'(by simpa using(by omega:0<s.size)),bo _⟩
 have g:(qT s).headD 0=t.toNat:=by
  unfold qT;cases z:s.data.toList with
  |nil=>rw[z]at d;simp at d
  |cons x l=>rw[z]at d;simp at d;simp[d]
 refine⟨aD,t,d,aF (λM=>jD j ?_) (λM=>⟨aD,t,d,aF (λO=>jD j ?_) (λO=>?_)⟩)⟩
 .have:lower t.toNat=false:=by simp only[lower,Bool.and_eq_false_iff,decide_eq_false_iff_not];omega
  simp only[oT,g,this,Bool.and_false,Bool.false_and]
 .have:lower t.toNat=false:=by simp only[lower,Bool.and_eq_false_iff,decide_eq_false_iff_not];omega
  simp only[oT,g,this,Bool.and_false,Bool.false_and]
 refine⟨⟨0,⟨aD,ay⟩,MT⟩,λi D=>aF (λQ=>?_) (λR=>jD j ?_)⟩
 .obtain⟨c,H⟩:∃c,s.data.toList[i]? =some c:=⟨s.data.toList[i]'(by simpa using(by omega:i<s.size)),bo _⟩
  have n:(qT s)[i]? =some c.toNat:=by simp[qT,H]
  have f:yN c.toNat=false->K (.val (.bool false)) m h:=λe=>jD j (by simp[oT,Nv n e]);have next:yN c.toNat=true->∃(y:Nat),(y<=s.size/\(List.take y (qT s)).all yN=true)/\s.size-y<s.size-i/\SV.at (At.val (Value.string s))=SV.at (At.val (Value.string s))/\SV.at (At.val (Value.int IntKind.i64 (IntKind.i64.wrap ((i:Int)+1))))=SV.at (At.val (Value.int IntKind.i64 (y:Int)))/\m=m/\h=h/\True:=λe=>⟨i+1,⟨aD,by rw[AN n,D.2,e];rfl⟩,aD,MT⟩
  have A:yN c.toNat=true↔(97<=c.toNat/\c.toNat<=122)\/(48<=c.toNat/\c.toNat<=57)\/c.toNat=95:=by
   simp only[yN,lower,Bool.or_eq_true,bz,ce,beq_iff_eq];omega
  have E:yN c.toNat=false↔¬((97<=c.toNat/\c.toNat<=122)\/(48<=c.toNat/\c.toNat<=57)\/c.toNat=95):=by
   rw[<-A];simp
  refine⟨aD,c,bk H,?_⟩;clear j D g n E;rw[A]at next
  have f:=λe=>f (by rw[<-Bool.not_eq_true,A];exact e);clear A
  repeat' (first|(refine aC (λ_=>?_) (λ_=>?_))|exact f (by simp only[ce,decide_eq_false_iff_not,bne_iff_ne,ne_eq,beq_iff_eq,beq_eq_false_iff_ne,bne_eq_false_iff_eq,Bool.not_eq_true',Bool.not_eq_false']at*;omega)|exact next (by simp only[ce,decide_eq_false_iff_not,bne_iff_ne,ne_eq,beq_iff_eq,beq_eq_false_iff_ne,bne_eq_false_iff_eq,Bool.not_eq_true',Bool.not_eq_false']at*;omega))
 .have:=D.2;rw[bu aD]at this;have S:lower t.toNat=true:=by simp only[lower,bz,ce];omega
  have F:1<=s.size:=by omega
  have G:s.size<=32:=by omega
  simp only[oT,this,g,S,decide_eq_true F,decide_eq_true G];rfl
end Go.Ps
