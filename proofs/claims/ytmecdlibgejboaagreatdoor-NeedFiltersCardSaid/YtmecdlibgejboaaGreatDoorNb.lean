/-
  Part 2 of a proof that a law of the given program returns true: a condition generator that is proved sound, and contracts of functions. No condition of its own. Own work, joined by a program (pack2.py).
-/
import Derived.MapKept
import Derived.Maps.RangeRun
import Derived.Test.YtmecdlibgejboaaGreatDoorProg
import Derived.IntWalk
import Derived.ChangeKeysEq
import Derived.Test.YtmecdlibgejboaaGreatDoorNa
set_option linter.unusedVariables false
set_option linter.unusedSimpArgs false
namespace Go.Vc
open Go List
section
variable{B:sP}{C:Ctx}{ι:cj}{σ:St}{a:Act}{w:World}{o:Oper}{K:St->Prop}
theorem auX(f:aL B ι σ a w)(ob:Obj):
 aL B ι {σ with m:=λb=>if b=w.heap.size then some ob else σ.m b} a (w.alloc ob)/\fC σ.m σ.h w.heap.size/\∀o,HR σ ι o w (w.alloc ob):=by
 have d:=f.wrel
 have l:fC σ.m σ.h w.heap.size:=by
  constructor
  .cases e:σ.m w.heap.size with
   |none=>rfl
   |some x=>have:=(Array.getElem?_eq_some_iff.1 (d.msat _ _ e)).1;omega
  .intro i;cases e:σ.h w.heap.size i with
   |none=>rfl
   |some x=>have:=World.block_lt_of_cell? w ⟨w.heap.size,i,none⟩ (d.hsat _ _ _ e);simp at this
 have r:(w.alloc ob).heap.size=w.heap.size+1:=by show(w.heap.push ob).size=_;simp
 refine⟨⟨f.slots,f.defers,λk n j=>(f.own k n j).world (λb c=>fI w ob (qR (f.own k n j) c)),f.dist,?_,?_,f.one⟩,l,λo=>⟨?_,?_,λ_ b c=>fI w ob c,λ_ b _ c _ _=>fI w ob c⟩⟩
 .intro k n b j c;obtain⟨t,u,y⟩:=f.fresh k n b j c;have z:=qR (f.own k n j) c;refine⟨t,?_,y⟩;show(if b=w.heap.size then some ob else σ.m b)=none;rw[if_neg aD];exact u
 .refine⟨d.tape,d.os,d.output,d.drawn,by rw[r];exact Nat.le_succ_of_le d.size,?_,?_,?_,?_,d.hle,d.hold,?_⟩
  .intro b c A;rw[fI w ob (Nat.lt_of_lt_of_le c d.size)];exact d.frame b c A
  .intro b i v s;have g:=d.hsat b i v s;rw[<-g];exact World.cell?_of_block (w:=w) (w':=w.alloc ob) (a:=⟨b,i,none⟩) (fI w ob (World.block_lt_of_cell? w ⟨b,i,none⟩ g))
  .intro b x c;have c:(if b=w.heap.size then some ob else σ.m b)=some x:=c;by_cases e:b=w.heap.size
   .rw[if_pos e]at c;rw[e,jX];exact c
   .rw[if_neg e]at c;have g:=d.msat b x c;rw[fI w ob (Array.getElem?_eq_some_iff.1 g).1];exact g
  .intro b x c i;have c:(if b=w.heap.size then some ob else σ.m b)=some x:=c;by_cases e:b=w.heap.size
   .rw[e];exact l.h_ i
   .rw[if_neg e]at c;exact d.disj b x c i
  .intro b x c;have c:(if b=w.heap.size then some ob else σ.m b)=some x:=c;by_cases e:b=w.heap.size
   .left;rw[e];exact d.size
   .rw[if_neg e]at c;exact d.mfr b x c
 .intro k p T E b j _ D;exact fI w ob (qR (f.own k _ j) (by rw[D];rfl))
 .intro b i v s;have g:=d.hsat b i v s;rw[<-g];exact World.cell?_of_block (w:=w) (w':=w.alloc ob) (a:=⟨b,i,none⟩) (fI w ob (World.block_lt_of_cell? w ⟨b,i,none⟩ g))
theorem Tg(s:aL B ι σ a w){b:Nat}{A ob:Obj}(t:σ.m b=some A):
 aL B ι {σ with m:=λc=>if c=b then some ob else σ.m c} a {w with heap:=w.heap.setIfInBounds b ob}/\∀o,Aa o.op=false->HR σ ι o w {w with heap:=w.heap.setIfInBounds b ob}:=by
 have g:=s.wrel;have D:b<w.heap.size:=(Array.getElem?_eq_some_iff.1 (g.msat _ _ t)).1
 have f:∀c,c≠b->(w.heap.setIfInBounds b ob)[c]? =w.heap[c]? :=λc j=>by
  rw[Array.getElem?_setIfInBounds_ne (Ne.symm j)]
 have u:(w.heap.setIfInBounds b ob)[b]? =some ob:=by simp[D]
 have y:∀k n,nth σ.own k=some (some n)->blk (ι k)≠some b:=by
  intro k n r H;have:=(s.fresh k n b r H).2.1;rw[t]at this;cases this
 have l:∀c i v,σ.h c i=some v->({w with heap:=w.heap.setIfInBounds b ob}:World).cell? ⟨c,i,none⟩=some v:=by
  intro c i v E;have j:c≠b:=λe=>by subst e;rw[g.disj c _ t i]at E;cases E
  have z:=g.hsat c i v E;rw[<-z];exact World.cell?_of_block (w:=w) (w':={w with heap:=w.heap.setIfInBounds b ob}) (a:=⟨c,i,none⟩) (f c j)
 refine⟨⟨s.slots,s.defers,λk n r=>(s.own k n r).world (λc d=>f c (λe=>y k n r (e▸d))),s.dist,?_,?_,s.one⟩,λo I=>⟨?_,l,λh=>(by rw[I]at h;cases h),λ_ c _ _ F _=>f c (λe=>by rw[e,t]at F;cases F)⟩⟩
 .intro k n c r d;obtain⟨J,L,M⟩:=s.fresh k n c r d;refine⟨J,?_,M⟩;show(if c=b then some ob else σ.m c)=none;rw[if_neg (fun(e:c=b)=>y k n r (e▸d))];exact L
 .refine⟨g.tape,g.os,g.output,g.drawn,bo g.size,?_,l,?_,?_,g.hle,g.hold,?_⟩
  .intro c d G
   have j:c≠b:=λe=>by
    subst e;rcases g.mfr c _ t with z|z
    .omega
    .exact G z
   rw[f c j];exact g.frame c d G
  .intro c x d;have d:(if c=b then some ob else σ.m c)=some x:=d;by_cases e:c=b
   .rw[if_pos e]at d;rw[e, <-d];exact u
   .rw[if_neg e]at d;rw[f c e];exact g.msat c x d
  .intro c x d i;have d:(if c=b then some ob else σ.m c)=some x:=d;by_cases e:c=b
   .rw[e];exact g.disj b _ t i
   .rw[if_neg e]at d;exact g.disj c _ d i
  .intro c x d;have d:(if c=b then some ob else σ.m c)=some x:=d;by_cases e:c=b
   .rw[e];exact g.mfr b _ t
   .rw[if_neg e]at d;exact g.mfr c _ d
 .intro k p T O c r _ N;exact f c (λe=>y k _ r (by rw[N,e];rfl))
theorem O3(g:aL B ι σ a w){t:Nat}{r:Option Operand}(i:o.op= .makeMap t r)(h:Kg o r σ K):SM B C ι o σ K a w:=by
 intro next Q b
 unfold Kg at h;split at h
 .obtain⟨d,e,j⟩:=auX g (.map #[] 0)
  have c:(execOp a.eval o).run C.P w= .ok (.value (.map (some w.heap.size))) (w.alloc (.map #[] 0)):=by
   unfold execOp;simp[i,Instr.makeMap]
  unfold Oper.wp;rw[c,Oper.upon_value];exact b ι _ _ _ (d.put o.dst (x:=.at (.val (.map (some w.heap.size)))) rfl) (h w.heap.size _ e ⟨bj,λl f=>by simp[f]⟩) (j o)
 .exact h.elim
theorem aL.drew{B:sP}{ι:cj}{σ:St}{a:Act}{w:World}(h:aL B ι σ a w)(k:Nat)(c:w.drawn<=k):aL B ι σ a {w with drawn:=k}:=by
 refine⟨h.slots,h.defers,λj o d=>(h.own j o d).world (λ_ _=>rfl),h.dist,h.fresh,?_,h.one⟩;have b:=h.wrel;exact⟨b.tape,b.os,b.output,Nat.le_trans b.drawn c,b.size,b.frame,b.hsat,b.msat,b.disj,b.hle,b.hold,b.mfr⟩
theorem xM{α:Type}{l:List α}{j:Nat}{x:α}(h:l[j]? =some x):l=l.take j++x::l.drop (j+1):=by
 have b:=(List.getElem?_eq_some_iff.1 h).1;have e:=(List.getElem?_eq_some_iff.1 h).2;rw[<-e, <-drop_eq_getElem_cons b,take_append_drop]
theorem To(p:aL B ι σ a w){t:Nat}{x:Operand}(A:o.op= .range t x)(h:RR C o t x σ K):SM B C ι o σ K a w:=by
 intro next Q f
 have d:=p.ev x;unfold RR at h;split at h
 .rename_i s r u;rw[u]at d;have d:a.eval x= .string s:=d;obtain⟨j,l,v⟩:=auX p (.stringIter s 0)
  have g:(execOp a.eval o).run C.P w= .ok (.value (.pointer (some ⟨w.heap.size,0,none⟩))) (w.alloc (.stringIter s 0)):=by
   unfold execOp;simp[A,d,Instr.range,run_underlying r]
  unfold Oper.wp;rw[g,Oper.upon_value];exact f ι _ _ _ (j.put o.dst (x:=.at (.val (.pointer (some ⟨w.heap.size,0,none⟩)))) rfl) (h w.heap.size _ l ⟨bj,λF m=>by simp[m]⟩) (v o)
 .rename_i I J b r u;rw[u]at d;have d:a.eval x= .map (some b):=d;obtain⟨G,⟨H,c,D,n,i,y⟩,h⟩:=h;have E:=p.wrel.msat b _ D;obtain⟨j,l,v⟩:=auX p (.mapIter (some b) c #[] c)
  have g:(execOp a.eval o).run C.P w= .ok (.value (.pointer (some ⟨w.heap.size,0,none⟩))) (w.alloc (.mapIter (some b) c #[] c)):=by
   unfold execOp;simp[A,d,Instr.range,run_underlying r,MapKept.run_getObj_map E,Result.andThen]
  unfold Oper.wp;rw[g,Oper.upon_value];have z:b≠w.heap.size:=λe=>by have:=(Array.getElem?_eq_some_iff.1 E).1;omega
  refine f ι _ _ _ (j.put o.dst (x:=.at (.val (.pointer (some ⟨w.heap.size,0,none⟩)))) rfl) (h w.heap.size _ l ⟨λF m=>by simp[m]⟩ ⟨H,c,c, #[],c,?_,n,i,y,bj,i,Nat.le_refl _,Nat.le_refl _,?_⟩) (v o)
  .simp[z,D]
  .rw[<-n];congr 1;exact filter_eq_self.2 (λ_ _=>bj)
 .exact h.elim
theorem VO(u:aL B ι σ a w){x:Operand}{st:Bool}(V:o.op= .next x st)(h:VP o x st σ K):SM B C ι o σ K a w:=by
 intro next Q l
 have i:=u.ev x;unfold VP at h;split at h
 .rename_i b M;rw[M]at i;have i:a.eval x= .pointer (some ⟨b,0,none⟩):=i;obtain⟨s,t,hm,Z,h2⟩:=h;have hg:=u.wrel.msat b _ hm.at_;by_cases E:t<s.size
  .obtain⟨N,hk⟩:=Tg (ob:=.stringIter s (t+(Utf8.decode s t).2)) u hm.at_
   have d:(execOp a.eval o).run C.P w= .ok (.value (.tuple #[.bool true,.int .i64 t,.int .i32 (Utf8.decode s t).1])) {w with heap:=w.heap.setIfInBounds b (.stringIter s (t+(Utf8.decode s t).2))}:=by
    unfold execOp;simp[V,i,Instr.next,getObj,setObj,Sem.run,hg,E,goInt,Result.andThen]
   unfold Oper.wp;rw[d,Oper.upon_value];refine l ι _ _ _ (N.put o.dst (x:=.tup _) ?_) (h2 E _ ⟨bj,λb' O=>by simp[O]⟩) (hk o (by rw[V];rfl));exact⟨_,rfl,rfl,rfl,rfl,trivial⟩
  .have d:(execOp a.eval o).run C.P w= .ok (.value (.tuple #[.bool false])) w:=by
    unfold execOp;simp[V,i,Instr.next,getObj,Sem.run,hg,E,Result.andThen]
   unfold Oper.wp;rw[d,Oper.upon_value];refine l ι _ _ _ (u.put o.dst (x:=.tup _) ?_) (Z aD) (kW u);exact⟨_,rfl,rfl,trivial⟩
 .rename_i r M;rw[M]at i;have i:a.eval x= .pointer (some ⟨r,0,none⟩):=i;obtain⟨b,a6,left,⟨p,f,g,c,c0,R,a',S,T,F,H,a0,I,v⟩,Z,h2⟩:=h;have a1:=u.wrel.msat b _ R;have a2:=u.wrel.msat r _ F;rcases run_next_at (P:=C.P) w o.type r b g c0 c p f a2 a1 H a0 with⟨h0,d⟩|⟨e,he,w1,hw1,d⟩
  .have hl:left=[]:=by
    rw[<-v];have:(leftOf p c).toList=[]:=bo h0
    unfold leftOf at this;rw[Array.toList_filter]at this;rw[this];rfl
   have d:(execOp a.eval o).run C.P w= .ok (.value (.tuple #[.bool false])) w:=by
    unfold execOp;simp[V,i,d,Result.andThen]
   unfold Oper.wp;rw[d,Oper.upon_value];refine l ι _ _ _ (u.put o.dst (x:=.tup _) ?_) (Z hl) (kW u);exact⟨_,rfl,rfl,trivial⟩
  .have U:∃n,aL B ι σ a w1/\w1={w with drawn:=n}:=by
    rcases hw1 with rfl|rfl
    .exact⟨w1.drawn,u,rfl⟩
    .exact⟨w.drawn+1,u.drew (w.drawn+1) (Nat.le_succ _),rfl⟩
   obtain⟨n,U,W⟩:=U;obtain⟨N,hk⟩:=Tg (ob:=.mapIter (some b) g (c.push e.born) f) U F
   have d:(execOp a.eval o).run C.P w= .ok (.value (.tuple #[.bool true,e.key,e.val])) {w1 with heap:=w1.heap.setIfInBounds r (.mapIter (some b) g (c.push e.born) f)}:=by
    unfold execOp;simp[V,i,d,Result.andThen,ChangeMaps.setBlock]
   have X:e∈p.toList.filter λe=> !c.contains e.born:=by
    unfold leftOf at he;rw[Array.toList_filter]at he;exact he
   have Y:e∈p.toList:=(mem_filter.1 X).1;obtain⟨j,hj⟩:=getElem?_of_mem X;have y:=xM hj;have a3:r≠b:=λe=>by rw[e,R]at F;cases F
   have z:(((p.toList.filter λe=> !c.contains e.born)).map (·.born)).Nodup:=T.sublist (filter_sublist.map _)
   have G:p.toList.filter (λx=> !(c.push e.born).contains x.born)=(p.toList.filter λe=> !c.contains e.born).take j++(p.toList.filter λe=> !c.contains e.born).drop (j+1):=by
    have h3:p.toList.filter (λx=> !(c.push e.born).contains x.born)=(p.toList.filter λe=> !c.contains e.born).filter λx=>x.born !=e.born:=by
     rw[filter_filter];congr 1;funext x;simp only[Array.contains_push,Bool.not_or];rw[Bool.and_comm];rfl
    rw[h3];generalize (p.toList.filter λe=> !c.contains e.born)=L at y z hj;have E:=(List.getElem?_eq_some_iff.1 hj).1;generalize L.take j=A at y;generalize L.drop (j+1)=D at y;subst y;simp only[map_append,map_cons,nodup_append,nodup_cons,mem_map,mem_cons]at z;obtain⟨_,⟨a4,_⟩,a5⟩:=z;rw[filter_append,filter_cons];simp only[bne_self_eq_false,Bool.false_eq_true,if_false];congr 1
    .refine filter_eq_self.2 λx M=>?_;simp only[bne_iff_ne,ne_eq]
     exactλh4=>a5 _ ⟨x,M,rfl⟩ _ (.inl rfl) h4
    .refine filter_eq_self.2 λx M=>?_;simp only[bne_iff_ne,ne_eq]
     exactλh4=>a4 ⟨x,M,h4⟩
   unfold Oper.wp;rw[d,Oper.upon_value];have J:(if b=r then some (Obj.mapIter (some b) g (c.push e.born) f)else σ.m b)=some (.map p f):=by rw[if_neg (λe=>a3 e.symm)];exact R
   refine l ι _ _ _ (N.put o.dst (x:=.tup _) ?_) (h2 (((p.toList.filter λe=> !c.contains e.born).take j).map λe=>(e.key,e.val)) (e.key,e.val) (((p.toList.filter λe=> !c.contains e.born).drop (j+1)).map λe=>(e.key,e.val)) ?_ _ ⟨λb' O=>by simp[O]⟩ ⟨⟨p,f,g,c.push e.born,f,J,a',S,T,bj,H,I,I,?_⟩,p,f,g,c,e,J,T,bj,Y,rfl⟩) ?_
   .exact⟨_,rfl,rfl,rfl,rfl,trivial⟩
   .rw[<-v]
    conv=>lhs;rw[y]
    simp
   .rw[G];simp
   .have:=hk o (by rw[V];rfl);subst W;exact⟨this.cells,this.imm,this.ext,this.args⟩
 .exact h.elim
theorem U1(j:aL B ι σ a w){x:Operand}(u:o.op= .entry x)(h:Sj C o x σ K):SM B C ι o σ K a w:=by
 intro next Q f
 have d:=j.ev x;unfold Sj at h;split at h
 .rename_i r v;rw[v]at d;have d:a.eval x= .pointer (some ⟨r,0,none⟩):=d;obtain⟨b,y,left,x,⟨_,z,g,i,l,e,m,n,p,A,rfl⟩,h⟩:=h;have c:=run_entry_at (P:=C.P) w r b i l z g e (j.wrel.msat r _ p) (j.wrel.msat b _ m) A n
  have c:(execOp a.eval o).run C.P w= .ok (.value (.tuple #[e.key,e.val])) w:=by
   unfold execOp;simp[u,d,c,Result.andThen]
  have h:K (σ.put o.dst (.tup [.inl (.val e.key),.inl (.val e.val)])):=by
   split at h
   .obtain⟨s,t,h⟩:=h;have t:e.val=Sl.val s:=t;rw[t];exact h
   .exact h
  unfold Oper.wp;rw[c,Oper.upon_value];refine f ι _ _ _ (j.put o.dst (x:=.tup _) ?_) h (kW j);exact⟨_,rfl,rfl,rfl,trivial⟩
 .exact h.elim
theorem Fg{P:Program}{l:TypeId}{Ok:Value->Prop}(L:KeyLaw P l Ok){k:Value}(t:Ok k)(w:World):∀(b:List MapEntry)(i:Nat),(∀e∈b,Ok e.key)->
 ((∀e∈b,e.key≠k)/\(Instr.findAsking l k b i).run P w= .ok none w)\/∃j e,b[j]? =some e/\e.key=k/\(Instr.findAsking l k b i).run P w= .ok (some (i+j,e.val)) w
 |[],i,_=>.inl ⟨λe u=>(by cases u),by simp[Instr.findAsking]⟩
 |e::b,i,d=>by
  obtain⟨r,m,f⟩:=L.eq k e.key w t (d e bj);cases r with
  |true=>exact .inr ⟨0,e,rfl,(f.1 rfl).symm,by simp[Instr.findAsking,m]⟩
  |false=>
   have n:e.key≠k:=λh=>by have:=f.2 h.symm;cases this
   rcases Fg L t w b (i+1) (λg c=>d g (by simp[c]))with⟨p,s⟩|⟨j,g,p,s,v⟩
   .refine .inl ⟨λg c=>?_,by simp[Instr.findAsking,m,s]⟩;rcases mem_cons.1 c with rfl|h
    .exact n
    .exact p g h
   .exact .inr ⟨j+1,g,bo p,s,by simp[Instr.findAsking,m,v];omega⟩
theorem findNow_spec{P:Program}{u:TypeId}{Ok:Value->Prop}(L:KeyLaw P u Ok){d:TypeDesc}(l:P.underlying u=some d){k:Value}(m:Ok k):∀(f:List MapEntry)(i:Nat)(r:Option (Nat×Value)),(∀e∈f,Ok e.key)->
 Instr.findNow d k f i=some r->((∀e∈f,e.key≠k)/\r=none)\/∃j e,f[j]? =some e/\e.key=k/\r=some (i+j,e.val)
 |[],i,r,_,h=>by
  simp[Instr.findNow]at h;exact .inl ⟨λe v=>(by cases v),h.symm⟩
 |e::f,i,r,b,h=>by
  simp only[Instr.findNow]at h;split at h
  .rename_i n;simp only[Option.some.injEq]at h;exact .inr ⟨0,e,rfl,((L.now d k e.key true l m (b e bj) n).1 rfl).symm,bo h.symm⟩
  .rename_i n;have p:e.key≠k:=λx=>by have:=(L.now d k e.key false l m (b e bj) n).2 x.symm;cases this
   rcases findNow_spec L l m f (i+1) r (λg c=>b g (by simp[c])) h with⟨s,t⟩|⟨j,g,s,t,y⟩
   .refine .inl ⟨λg c=>?_,t⟩;rcases mem_cons.1 c with rfl|h
    .exact p
    .exact s g h
   .exact .inr ⟨j+1,g,bo s,t,by rw[y];congr 2;omega⟩
  .cases h
theorem run_findKey{P:Program}{g:TypeId}{Ok:Value->Prop}(L:KeyLaw P g Ok){k:Value}(n:Ok k)(w:World)(c:List MapEntry)(h:∀e∈c,Ok e.key):
 ((∀e∈c,e.key≠k)/\(Instr.findKey g k c).run P w= .ok none w)\/∃j e,c[j]? =some e/\e.key=k/\(Instr.findKey g k c).run P w= .ok (some (j,e.val)) w:=by
 obtain⟨d,l⟩:=L.under;cases m:Instr.findNow d k c 0 with
 |some r=>
  have b:(Instr.findKey g k c).run P w= .ok r w:=by simp[Instr.findKey,run_underlying l,m]
  rcases findNow_spec L l n c 0 r h m with⟨f,rfl⟩|⟨j,e,f,i,rfl⟩
  .exact .inl ⟨f,b⟩
  .exact .inr ⟨j,e,f,i,by rw[b];simp⟩
 |none=>
  have b:(Instr.findKey g k c).run P w=(Instr.findAsking g k c).run P w:=by simp[Instr.findKey,run_underlying l,m]
  rw[b];rcases Fg L n w c 0 h with⟨f,i⟩|⟨j,e,f,i,p⟩
  .exact .inl ⟨f,i⟩
  .exact .inr ⟨j,e,f,i,by rw[p];simp⟩
theorem SO{P:Program}{T:TypeId}{z:Value}(h:Rw P T=some z)(w:World):(zeroValue T).run P w= .ok z w:=by
 unfold Rw at h;split at h
 .rename_i i d;split at h
  .rename_i k n c;simp only[Option.some.injEq]at h;subst h;simp[zeroValue,typeInfo,d,c]
  .rename_i b c;simp only[Option.some.injEq]at h;subst h;simp[zeroValue,typeInfo,d,c]
  .rename_i c;simp only[Option.some.injEq]at h;subst h;simp[zeroValue,typeInfo,d,c]
  .cases h
 .cases h
theorem R0(m:aL B ι σ a w){t:Nat}{x k:Operand}{ok:Bool}(U:o.op= .lookup t x k ok)(h:NH C o t x k ok σ K):SM B C ι o σ K a w:=by
 intro next Q c
 have d:=m.ev x;unfold NH at h;split at h
 .rename_i kt J b V W Y M;rw[Y]at d;have d:a.eval x= .map (some b):=d;have y:a.eval k=V:=(m.ev k).val? M;split at h
  .rename_i z Z;obtain⟨A,Ok,⟨v,N,hm,D⟩,L,E,F,n,G⟩:=h;have X:=m.wrel.msat b _ hm
   have i:∀e∈v.toList,∃p∈A,e.key=p.1/\e.val=only ((C.dec J).enc p.2):=by
    intro e r
    have:(e.key,e.val)∈A.map λp=>(p.1,only ((C.dec J).enc p.2)):=by
     rw[<-D];exact mem_map.2 ⟨e,r,rfl⟩
    obtain⟨p,s,g⟩:=mem_map.1 this;simp only[Prod.mk.injEq]at g;exact⟨p,s,g.1.symm,g.2.symm⟩
   have H:∀e∈v.toList,Ok e.key:=λe r=>by
    obtain⟨p,s,I,_⟩:=i e r;rw[I];exact F p s
   have l:=L.check V w v.isEmpty E;unfold Oper.wp;rcases run_findKey L E w v.toList H with⟨O,R⟩|⟨j,e,O,R,h3⟩
   .have f:(execOp a.eval o).run C.P w= .ok (.value (if ok then .tuple #[z,.bool false]else z)) w:=by
     unfold execOp;simp[U,d,y,Instr.lookup,run_underlying W,MapKept.run_getObj_map X,l,R,SO Z,Result.andThen]
    rw[f,Oper.upon_value];refine c ι _ _ _ (m.put o.dst ?_) (n ?_) (kW m)
    .cases ok
     .rfl
     .exact⟨_,rfl,rfl,rfl,trivial⟩
    .intro p s I
     have:(p.1,only ((C.dec J).enc p.2))∈v.toList.map λe=>(e.key,e.val):=by
      rw[D];exact mem_map.2 ⟨p,s,rfl⟩
     obtain⟨e,r,g⟩:=mem_map.1 this;simp only[Prod.mk.injEq]at g;exact O e r (g.1.trans I)
   .have r:e∈v.toList:=mem_of_getElem? O;obtain⟨p,s,I,g⟩:=i e r
    have f:(execOp a.eval o).run C.P w= .ok (.value (if ok then .tuple #[e.val,.bool true]else e.val)) w:=by
     unfold execOp;simp[U,d,y,Instr.lookup,run_underlying W,MapKept.run_getObj_map X,l,h3,Result.andThen]
    have S:=G p.2 (by rw[<-R,I];exact s);rw[f,Oper.upon_value];split at S
    .rename_i u T;rw[T]at g;refine c ι _ _ _ (m.put o.dst ?_) S (kW m);cases ok
     .exact g
     .exact⟨_,rfl,g,rfl,trivial⟩
    .exact S.elim
  .exact h.elim
 .exact h.elim
theorem L1(l:aL B ι σ a w){t:Nat}{x k v:Operand}(O:o.op= .mapUpdate t x k v)(m:o.dst=none)(h:Cs C t x k v σ K):SM B C ι o σ K a w:=by
 intro next Q g
 have d:=l.ev x;unfold Cs at h;split at h
 .rename_i Z et b n u U V E W;rw[V]at d;have d:a.eval x= .map (some b):=d;have F:a.eval k=n:=(l.ev k).val? E;have G:a.eval v=u:=(l.ev v).val? W;obtain⟨H,Ok,⟨i,c,R,p⟩,L,r,s,y,X⟩:=h;have S:=l.wrel.msat b _ R;have f:∀e∈i.toList,(e.key,e.val)∈H:=λe I=>by rw[<-p];exact mem_map.2 ⟨e,I,rfl⟩
  have z:∀e∈i.toList,Ok e.key:=λe I=>s _ (f e I);have A:=L.check n w false r;rcases run_findKey L r w i.toList z with⟨T,J⟩|⟨j,e,T,J,h3⟩
  .obtain⟨M,Y⟩:=Tg (ob:=.map (i.push {key:=n,val:=u,born:=c}) (c+1)) l R
   have D:(execOp a.eval o).run C.P w= .ok .skip {w with heap:=w.heap.setIfInBounds b (.map (i.push {key:=n,val:=u,born:=c}) (c+1))}:=by
    unfold execOp;simp[O,d,F,G,Instr.mapUpdate,run_underlying U,MapKept.run_getObj_map S,MapKept.run_setObj_map _ S,A,J,Result.andThen]
   unfold Oper.wp;rw[D,Oper.upon_skip,show a.put o.dst undef=a by rw[m];rfl];refine g ι _ _ _ M (X _ ⟨λb' N=>by simp[N]⟩ ⟨i.push {key:=n,val:=u,born:=c},c+1,bj,?_⟩) (Y o (by rw[O];rfl));simp[p]
  .exact(y _ (f e (mem_of_getElem? T)) J).elim
 .exact h.elim
theorem RZ(J:aL B ι σ a w){t:Nat}{x k v:Operand}(Y:o.op= .mapUpdate t x k v)(A:o.dst=none)(h:Jd C t x k v σ K):SM B C ι o σ K a w:=by
 intro next Q m
 have n:=J.ev x;unfold Jd at h;split at h
 .rename_i kt et b s u hu i a' hv;rw[i]at n;have n:a.eval x= .map (some b):=n;have N:a.eval k=s:=(J.ev k).val? a';have O:a.eval v=u:=(J.ev v).val? hv;obtain⟨a0,Ok,⟨f,c,hm,z,d,E⟩,L,R,F,S,T,U⟩:=h;have Z:=J.wrel.msat b _ hm;have V:∀e∈f.toList,(e.key,e.val)∈a0:=λe l=>by rw[<-z];exact mem_map.2 ⟨e,l,rfl⟩
  have W:∀e∈f.toList,Ok e.key:=λe l=>S _ (V e l);have D:=L.check s w false R;rcases run_findKey L R w f.toList W with⟨M,h2⟩|⟨j,e,M,h2,h3⟩
  .obtain⟨G,hk⟩:=Tg (ob:=.map (f.push {key:=s,val:=u,born:=c}) (c+1)) J hm
   have r:(execOp a.eval o).run C.P w= .ok .skip {w with heap:=w.heap.setIfInBounds b (.map (f.push {key:=s,val:=u,born:=c}) (c+1))}:=by
    unfold execOp;simp[Y,n,N,O,Instr.mapUpdate,run_underlying hu,MapKept.run_getObj_map Z,MapKept.run_setObj_map _ Z,D,h2,Result.andThen]
   unfold Oper.wp;rw[r,Oper.upon_skip,show a.put o.dst undef=a by rw[A];rfl];refine m ι _ _ _ G (T (λp hp e1=>?_) _ ⟨λb' H=>by simp[H]⟩ ⟨f.push {key:=s,val:=u,born:=c},c+1,bj,by simp[z],λe l=>?_,?_⟩) (hk o (by rw[Y];rfl))
   .rw[<-z]at hp;obtain⟨e,l,rfl⟩:=mem_map.1 hp;exact M e l e1
   .rw[Array.toList_push,mem_append,mem_singleton]at l;rcases l with l|rfl
    .have:=d e l;omega
    .exact Nat.lt_succ_self _
   .rw[Array.toList_push,map_append,nodup_append];refine⟨E,bj,λx i y hy e1=>?_⟩;obtain⟨e,l,rfl⟩:=mem_map.1 i;simp at hy;have:=d e l;omega
  .have X:=(List.getElem?_eq_some_iff.1 M).1;have a1:f[j]? =some e:=by rw[<-Array.getElem?_toList];exact M
   obtain⟨G,hk⟩:=Tg (ob:=.map (f.modify j λe=>{e with key:=s,val:=u}) c) J hm
   have r:(execOp a.eval o).run C.P w= .ok .skip {w with heap:=w.heap.setIfInBounds b (.map (f.modify j λe=>{e with key:=s,val:=u}) c)}:=by
    unfold execOp;simp[Y,n,N,O,Instr.mapUpdate,run_underlying hu,MapKept.run_getObj_map Z,MapKept.run_setObj_map _ Z,D,h3,a1,h2,Instr.keyThatStays,F,Result.andThen]
   have g:(f.modify j λe=>{e with key:=s,val:=u}).toList=f.toList.take j++{e with key:=s,val:=u}::f.toList.drop (j+1):=by
    rw[Array.toList_modify,modify_eq_take_cons_drop X];congr 2;have:=(List.getElem?_eq_some_iff.1 M).2;rw[this]
   have I:=xM M;unfold Oper.wp;rw[r,Oper.upon_skip,show a.put o.dst undef=a by rw[A];rfl];refine m ι _ _ _ G (U ((f.toList.take j).map λe=>(e.key,e.val)) e.val ((f.toList.drop (j+1)).map λe=>(e.key,e.val)) ?_ _ ⟨λb' H=>by simp[H]⟩ ⟨f.modify j λe=>{e with key:=s,val:=u},c,bj,?_,?_,?_⟩) (hk o (by rw[Y];rfl))
   .rw[<-z]
    conv=>lhs;rw[I]
    simp[h2]
   .rw[g];simp
   .intro x i;rw[g]at i;rw[I]at d;rcases mem_append.1 i with i|i
    .exact d x (mem_append_left _ i)
    .rcases mem_cons.1 i with rfl|i
     .exact d e (mem_append_right _ (mem_cons_self ..))
     .exact d x (mem_append_right _ (mem_cons_of_mem _ i))
   .rw[g];rw[I]at E;simpa using E
 .exact h.elim
end
end Go.Vc
namespace Go.Vc
open Go List
section
variable{B:sP}{C:Ctx}{ι:cj}{σ:St}{a:Act}{w:World}{o:Oper}{K:St->Prop}
theorem arZ(j:aL B ι σ a w)(p:Ez o.op=true)(h:OZ C o σ K):SC C ι o σ K a w:=by
 unfold OZ at h;cases g:o.op<;>simp only[g]at h p
 case move x=>exact NF j (.inl g) h
 case assign x=>exact NF j (.inr g) h
 case pick c x y=>exact VE j g h
 case build T ps=>exact U9 j g h
 case load T x=>exact VU j g h
 case nilCheck x=>exact Nv j g h
 case binOp op tx x y ty=>
  cases op
  case eql=>
   simp only at h;split at h
   .exact Fc (neg:=false) j g h
   .exact kZ j (λu b=>by rw[g];intro e;cases e) h
  case neq=>
   simp only at h;split at h
   .exact Fc (neg:=true) j g h
   .exact kZ j (λu b=>by rw[g];intro e;cases e) h
  case add=>exact Sp j g h
  all_goals first
   |exact kZ j (λu b=>by rw[g];intro e;cases e) h
   |exact aiX j g h
 case unOp op t x=>exact kZ j (λu b=>by rw[g];intro e;cases e) h
 case convert s d x=>exact O7 j g h
 case fieldAddr T x f=>exact L5 j g h
 case field T x f=>exact T1 j g h
 case indexAddr T x i=>exact L4 j g h
 case index T x i=>exact TQ j g h
 case extract x i=>exact O6 j g h
 case call c=>
  obtain⟨l,args,m⟩:=c;cases l with
  |builtin b=>
   cases b<;>simp only[Ez,Bool.false_eq_true]at p
   case len=>
    simp only at h;split at h
    .rename_i x v;exact Zr j g rfl v h
    .exact h.elim
   case min=>exact kZ j (λu b=>by rw[g];intro e;cases e) h
   case max=>exact kZ j (λu b=>by rw[g];intro e;cases e) h
  |value f=>simp[Ez]at p
  |invoke r n=>simp[Ez]at p
 all_goals (first|exact h.elim|(simp[Ez]at p))
theorem SC.stp(d:aL B ι σ a w)(h:SC C ι o σ K a w):SM B C ι o σ K a w:=by
 intro next Q b
 obtain⟨v,x,c,e,f⟩:=h;unfold Oper.wp;rw[c w (.inr rfl),Oper.upon_value];exact b ι _ _ _ (d.put o.dst e) f (kW d)
theorem BE(e:aL B ι σ a w):∀(i:Nat)(l:cw)(ts:di)(b:ct),rA C.P σ [] i l ts=some b->b=(l.map a.eval).map .val
 |i,[],ts,b,h=>by simp[rA]at h;subst h;rfl
 |i,x::r,ts,b,h=>by
  simp only[rA]at h;split at h
  .cases h
  .rename_i d c;have f:=BE e (i+1) r ts.tail d c;simp only[contains_nil]at h;split at h
   .rename_i u g;simp only[Option.some.injEq]at h;subst h;simp only[map_cons,(e.ev x).val? g,f]
   .cases h
theorem JI:∀(l b:bw),MQ (l.map .val) b=(l++b).map .val
 |[],_=>rfl
 |v::l,b=>by simp only[map_cons,MQ,JI l b,cons_append]
theorem bEZ{P:Program}{T:TypeId}{cs:bw}{ι:cj}:Den ι (mk P T (cs.map .val)) (valOf P T cs):=by
 unfold mk valOf;cases xW P T with
 |true=>exact⟨_,rfl,by simpa using(iG.vals (ι:=ι)).2 rfl⟩
 |false=>match cs with
  |[]=>exact trivial
  |[x]=>exact rfl
  |_::_::_=>exact trivial
theorem Sound.fat{P:Program}{f:FuncId}{S:Spec}{T:TypeId}{vs:bw}{m:MH}{h:PH}{R:bw->MH->PH->Prop}(J:Sound P f S)(L:S (vs.map .val) m h (λr m' D=>∃l,r= .val (valOf P T l)/\R l m' D)):FAt P f T (vs.map .val) m h R:=by
 have E:∀{l F:bw},l.map CV.val=F.map CV.val->l=F:=fun{l F} e=>(List.map_inj_right (λx y h=>by cases h;rfl)).1 e;refine⟨J.1,λM w N G=>?_⟩;rw[<-E N]
 have s:∀(l:bw)(w:World),CY w (l.map .val) l:=λl w=>by
  induction l with
  |nil=>trivial
  |cons a l O=>exact⟨rfl,O⟩
 have t:∀(l:bw)(i:Nat)(c:CV)(u:Value)(b:Nat),(l.map CV.val)[i]? =some c->iC c u=some b->False:=λl i c u b n g=>by
  rw[getElem?_map]at n;cases e:l[i]? with
  |none=>rw[e]at n;cases n
  |some v=>rw[e]at n;simp at n;subst n;simp[iC]at g
 refine(J.2 _ vs m h w _ L ⟨s _ _,G.hsat,G.msat,G.disj,λi j c d u v b n _ _ _ g _=>(t _ i c u b n g).elim,λi c u b n _ g=>(t _ i c u b n g).elim⟩).mono ?_;rintro e W ⟨r,u,m',D,rfl,⟨l,rfl,Q⟩,z,p,_⟩;have z:u=valOf P T l:=z;subst z
 have H:∀b,m b=none->¬xG m (vs.map .val) vs b:=by
  rintro b g (A|⟨i,c,u,n,_,U⟩)
  .exact A g
  .exact t _ i c u b n U
 refine⟨l,m',D,rfl,Q,⟨p.tape,p.os,p.output,p.drawn,p.size,λb g I=>p.frame b g (H b I),⟨p.hsat,p.msat,p.disj⟩,⟨p.hle⟩,λb g I=>p.hold b g (H b I),λb o g=>?_⟩⟩;rcases p.mfr b o g with A|A
 .exact .inl A
 .refine .inr λV=>H b V A
theorem aiQ(s:aL B ι σ a w){c:Call}{g:Operand}{T:TypeId}{f:FuncId}{I cs:Array Value}(ho:o.op= .call c)(hc:c.callee= .value g)
 (hg:σ.ev g= .at (.val (.func (.func f) I cs)))(L:I.toList=[])(h:aPZ C o T f cs.toList c.args.toList σ K):SM B C ι o σ K a w:=by
 intro next Q t
 unfold aPZ at h;split at h
 .rename_i a' z;obtain⟨R,M,h⟩:=h;have N:=BE s 0 _ _ _ z;subst N;rw[JI]at M;have J:=s.wrel;obtain⟨fn,O,i,u⟩:=M.fn;have y:=M.go _ w rfl ⟨J.hsat,J.msat,J.disj⟩;have S:a.eval g= .func (.func f) I cs:=by have:=s.ev g;rw[hg]at this;exact this
  have A:I= #[]:=by apply Array.toList_inj.1;simpa using L
  subst A;have r: #[]++c.args.map a.eval++cs=(c.args.toList.map a.eval++cs.toList).toArray:=by apply Array.toList_inj.1;simp
  have U:¬fn.body=none:=by intro e;rw[e]at i;cases i
  have V:¬fn.name= "runtime.NumGoroutine" :=bo u
  have D:(execOp a.eval o).run C.P w= .ok (.enter f (c.args.toList.map a.eval++cs.toList).toArray) w:=by
   unfold execOp;simp only[ho,resolve,hc,S,Deferred.ofValue,Sem.run_bind,Sem.run_pure,Result.andThen_ok,invoke,callFunc];rw[r];simp[program,Sem.run,O,V,U]
  unfold Oper.wp;rw[D,Oper.upon_enter];refine Calls.mono y ?_;rintro e w' ⟨l,m',h',rfl,⟨x,rfl,hx⟩,d⟩;show next (a.put o.dst (valOf C.P T ((C.dec T).enc x))) w'
  have W:Ai ⟨w,λb=>σ.m b≠none,σ.h,[]⟩ m' h' w':=
   ⟨d.tape,d.os,d.output,d.drawn,d.size,λb n E=>d.frame b n (Classical.byContradiction E),d.heapy.hsat,d.heapy.msat,d.heapy.disj,d.hle.le,λb n E=>d.hold b n (Classical.byContradiction E),λb X n=>d.mfr b X n⟩
  have Y:=s.called W (λb n=>by
   cases hm:σ.m b with
   |none=>exact(n hm).elim
   |some X=>exact J.mfr b X hm) (λj o' b hj n E=>E (s.fresh j o' b hj n).2.1)
  refine t ι _ _ _ (Y.put o.dst bEZ) (h x m' h' hx) ⟨λk p T a0 b hk _ hι=>?_,λb F v N=>d.heapy.hsat b F v (d.hle.le b F v N),λG=>?_,λl b _ n Z _=>d.frame b n Z⟩
  .have H:blk (ι k)=some b:=by rw[hι];rfl
   exact d.frame b (qR (s.own k _ hk) H) (s.fresh k _ b hk H).2.1
  .rw[ho]at G;simp[Aa]at G
 .exact h.elim
theorem TC(G:∀g S,assoc C.specs g=some S->Sound C.P g S)(i:aL B ι σ a w)(h:OZ C o σ K):SM B C ι o σ K a w:=by
 cases X:Ez o.op with
 |true=>exact(arZ i X h).stp i
 |false=>
  unfold OZ at h;cases m:o.op<;>simp only[m]at h X
  case alloc T=>
   intro next Q t
   refine Ve i m h next Q (λz R A D j E F=>?_)
   obtain⟨U,p,s,_⟩:=xU _ _ j E;exact t z U A D p s F
  case box T x=>
   split at h
   .intro next Q t
    obtain⟨τ,u,J,L⟩:=nL _ _ i h;refine Rc u m J next Q (λz R A D j E F=>?_)
    obtain⟨U,p,s,_⟩:=xU _ _ j E;exact t z U A D p s (F.of_fz L)
   .exact Rc i m h
  case buildSlice T n ps=>
   intro next Q t
   refine K4 i m h next Q (λz R A D j E F=>?_)
   obtain⟨U,p,s,_⟩:=CQ _ _ j E;obtain⟨Y,M,N,_⟩:=nL _ _ p s;exact t z Y A D M N F
  case makeFunc f x Z=>
   intro next Q t
   obtain⟨τ,u,J,a1⟩:=xU _ _ i h;obtain⟨v,x,W,hx,J⟩:=kZ u (λZ b=>by rw[m];intro e;cases e) J;unfold Oper.wp;rw[W w (.inr rfl),Oper.upon_value];exact t ι _ _ _ (u.put o.dst hx) J (kW i)
  case store T x v=>
   cases I:o.dst with
   |none=>
    rw[I]at h;intro next Q t
    obtain⟨τ,u,J,L⟩:=nL _ _ i h;exact S8 u m I J next Q (λz R A D j E F=>t z R A D j E (F.of_fz L))
   |some d=>rw[I]at h;exact h.elim
  case makeSlice T l c=>
   intro next Q t
   refine L2 i m h next Q (λz R A D j E F=>?_)
   obtain⟨U,p,s,_⟩:=CQ _ _ j E;exact t z U A D p s F
  case slice T x lo hi mx=>exact Tf i m h
  case makeMap T r=>exact O3 i m h
  case lookup T x k ok=>exact R0 i m h
  case mapUpdate T x k v=>
   cases I:o.dst with
   |none=>
    rw[I]at h;have h:(match O2 C.heapT 400000 with|true=>Jd C T x k v σ K|false=>Cs C T x k v σ K):=h;split at h
    .exact RZ i m I h
    .exact L1 i m I h
   |some d=>rw[I]at h;exact h.elim
  case range T x=>exact To i m h
  case next x b=>exact VO i m h
  case entry x=>exact U1 i m h
  case call c=>
   obtain⟨H,args,V⟩:=c;cases H with
   |builtin b=>
    cases b<;>simp only[Ez,Bool.true_eq_false]at X<;>simp only at h
    case append=>
     split at h
     .rename_i x y T tx hx ht;intro next Q t
      refine Sr i m rfl hx ht h next Q (λz R A D j E F=>?_)
      obtain⟨Y,M,N,_⟩:=nL _ _ j E;exact t z Y A D M N F
     .exact h.elim
    case cap=>exact(kZ i (λZ b=>by rw[m];intro e;cases e) h).stp i
    all_goals exact h.elim
   |value g=>
    simp only at h;split at h
    .rename_i f fs Z hg;split at h
     .split at h
      .rename_i O;exact aiQ i m rfl hg O h
      .exact h.elim
     .split at h
      .rename_i O a0;exact XA G i m rfl hg O a0 h
      .exact h.elim
    .exact h.elim
   |invoke r n=>exact h.elim
  all_goals (first|exact h.elim|(simp[Ez]at X))
theorem MY(c:aL B ι σ a w){d:Nat}{xs:Array Value}(h:σ.ev (.tmp d)= .at (.val (.tuple xs))):a.tmps[d]? =none\/∃xs,a.tmps[d]? =some (.tuple xs):=by
 have b:=c.ev (.tmp d);rw[h]at b;have b:a.eval (.tmp d)= .tuple xs:=b;simp only[Act.eval,Array.getD_eq_getD_getElem?]at b;cases e:a.tmps[d]? with
 |none=>exact .inl rfl
 |some v=>rw[e]at b;simp at b;exact .inr ⟨xs,by rw[b]⟩
theorem Hj(e:aL B ι σ a w){d:Nat}{t:Bool}(h:σ.ev (.tmp d)= .at (.val (.bool t))):a.tmps[d]? =some (.bool t):=by
 have b:=e.ev (.tmp d);rw[h]at b;have b:a.eval (.tmp d)= .bool t:=b;simp only[Act.eval,Array.getD_eq_getD_getElem?]at b;cases c:a.tmps[d]? with
 |none=>rw[c]at b;simp[undef]at b
 |some v=>rw[c]at b;simp at b;rw[b]
theorem aL.setTmp(b:aL B ι σ a w){c:Operand}{t:Bool}(h:σ.ev c= .at (.val (.bool t))):aL B ι (setTmp σ c t) a w:=by
 cases c with
 |tmp d=>
  refine⟨?_,b.defers,b.own,b.dist,b.fresh,b.wrel,b.one⟩;have l:=Hj b h;have:=b.slots.set d (x:=.at (.val (.bool t))) (v:=.bool t) rfl;show DenS ι (σ.sl.set d _) a.tmps.toList
  have e:a.tmps.toList.set d (.bool t)=a.tmps.toList:=by
   apply ext_getElem?;intro j;rw[getElem?_set];split
   .rename_i m;subst m;rw[Array.getElem?_toList,l];split
    .rfl
    .rename_i i;simp at i;rw[Array.getElem?_eq_none i]at l;cases l
   .rfl
  rw[e]at this;exact this
 |const v=>exact b
 |global g=>exact b
 |func f=>exact b
theorem PD{c:Operand}{t:Bool}(h:σ.ev c= .at (.val (.bool t))):Fz σ (setTmp σ c t):=by
 cases c with
 |tmp d=>
  refine⟨λ_ _ _ j h=>⟨j,h⟩,λ_ _ _ h=>h,?_,?_,rfl⟩
  .intro x k l b;cases x with
   |tmp e=>
    simp only[Vc.setTmp,St.ev,yG]at b;simp only[St.ev];by_cases i:e=d/\d<σ.sl.length
    .rw[if_pos i]at b;cases b
    .rw[if_neg i]at b;exact b
   |const v=>exact b
   |global g=>exact b
   |func f=>exact b
  .intro x k b;cases x with
   |tmp e=>
    simp only[Vc.setTmp,St.ev,yG]at b;simp only[St.ev];by_cases i:e=d/\d<σ.sl.length
    .rw[if_pos i]at b;cases b
    .rw[if_neg i]at b;exact b
   |const v=>exact b
   |global g=>exact b
   |func f=>exact b
 |const v=>exact Fz.refl σ
 |global g=>exact Fz.refl σ
 |func f=>exact Fz.refl σ
def GWp(C:Ctx)(ops:Array Oper)(o:Oper)(a:Act)(w:World)(next:Act->World->Prop)(Q:Exit->Act->World->Prop):Prop:=
 if Region.wanted o (yielded ops a.tmps)then o.wp C.P a w next Q else next (a.put o.dst undef) w
theorem Pc{ops:Array Oper}{j d:Nat}{b t:Bool}{g:Oper}(e:o.guard=some (j,b))(c:nth ops.toList j=some g)(f:g.dst=some d)(h:a.tmps[d]? =some (.bool t)):
 Region.wanted o (yielded ops a.tmps)=(t==b):=by
 unfold Region.wanted;rw[e];rw[jE,Array.getElem?_toList]at c;simp[yielded,c,f,h]
theorem HS{ops:Array Oper}{j d:Nat}{b:Bool}{g:Oper}(f:o.guard=some (j,b))(e:nth ops.toList j=some g)(h:g.dst=some d)(c:a.tmps[d]? =none\/∃xs,a.tmps[d]? =some (.tuple xs)):
 Region.wanted o (yielded ops a.tmps)=false:=by
 unfold Region.wanted;rw[f];rw[jE,Array.getElem?_toList]at e;rcases c with c|⟨xs,c⟩<;>simp[yielded,e,h,c]
theorem Cv{f:Oper->St->(St->Prop)->Prop}{ops:Array Oper}(e:aL B ι σ a w)(h:NQ f ops o σ K):
 ∃i,aL B ι i a w/\Fz σ i/\((Region.wanted o (yielded ops a.tmps)=true/\f o i K)\/(Region.wanted o (yielded ops a.tmps)=false/\K (i.put o.dst (.at (.val undef))))):=by
 unfold NQ at h;split at h
 .rename_i l;exact⟨σ,e,Fz.refl σ,.inl ⟨by simp[Region.wanted,l],h⟩⟩
 .rename_i j b l;split at h
  .exact h.elim
  .rename_i g p;split at h
   .exact h.elim
   .rename_i d r;split at h
    .rename_i t c;have n:=Hj e c;have m:=Pc (o:=o) (a:=a) l p r n;rcases Af h with⟨rfl,h⟩|⟨rfl,h⟩
     .refine⟨setTmp σ (.tmp d) true,e.setTmp c,PD c,?_⟩;cases b with
      |true=>exact .inl ⟨bo m,h⟩
      |false=>exact .inr ⟨bo m,h⟩
     .refine⟨setTmp σ (.tmp d) false,e.setTmp c,PD c,?_⟩;cases b with
      |true=>exact .inr ⟨bo m,h⟩
      |false=>exact .inl ⟨bo m,h⟩
    .rename_i s c;exact⟨σ,e,Fz.refl σ,.inr ⟨HS l p r (MY e c),h⟩⟩
    .exact h.elim
theorem TT(c:∀g S,assoc C.specs g=some S->Sound C.P g S){ops:Array Oper}(m:aL B ι σ a w)(h:R8 C ops o σ K)
 (next:Act->World->Prop)(Q:Exit->Act->World->Prop)(b:∀i e f w',aL B i e f w'->K e->HR σ ι o w w'->next f w'):GWp C ops o a w next Q:=by
 obtain⟨t,d,j,n⟩:=Cv m h;unfold GWp;rcases n with⟨l,h⟩|⟨l,h⟩
 .rw[if_pos l];exact TC c d h next Q (λi e f w' p r s=>b i e f w' p r (s.of_fz j))
 .rw[if_neg (by simp[l])];exact b ι _ _ _ (d.put o.dst (x:=.at (.val undef)) rfl) h (kW m)
theorem Vx{P:Program}{next:Act->World->Prop}{Q:Exit->Act->World->Prop}(h:o.wp P a w next Q):o.wpIn Fence.wide 0 P a w next Q:=by
 refine⟨λ_ _=>trivial,?_⟩;show o.uponIn Fence.wide 0 P a next Q ((execOp a.eval o).run P w)
 unfold Oper.wp at h;cases b:(execOp a.eval o).run P w with
 |ok x g=>
  rw[b]at h;cases x with
  |value v=>exact h
  |skip=>exact h
  |defer d=>exact h
  |enter f args=>exact⟨λe=>by simp[Fence.wide]at e,callsIn_wide.2 h⟩
  |row r args=>
   refine⟨λe=>by simp[Fence.wide]at e,λc i _=>?_⟩;obtain⟨v,j,l,m⟩:=h c i;exact⟨v,j,l,stepsIn_wide.2 m⟩
  |_=>exact h.elim
 |halt x g=>
  rw[b]at h;cases x with
  |panic v=>exact h
  |_=>exact h.elim
def aSX(B:sP)(C:Ctx)(o:Oper)(K:St->Prop)(a:Act)(w:World):Prop:=
 ∀(next:Act->World->Prop)(Q:Exit->Act->World->Prop),(∀e b c d,aL B e b c d->K b->next c d)->o.wpIn Fence.wide 0 C.P a w next Q
theorem SP(t:aL B ι σ a w){c:Call}{g:Operand}{l:Nat}{G cs:Array Value}(U:o.op= .call c)(V:c.callee= .value g)
 (W:σ.ev g= .at (.val (.func (.yield l) G cs)))(I:G.toList=[])(J:cs.toList=[])(h:Ry C o (.func (.yield l) #[] #[]) c.args.toList σ K):aSX B C o K a w:=by
 intro next Q r
 unfold Ry at h;split at h
 .exact h.elim
 .rename_i S hS;split at h
  .rename_i X v;obtain⟨Y,h⟩:=h;have Z:=BE t 0 _ _ _ v;subst Z;have H:=t.wrel;obtain⟨fn,y,f,z,A,i⟩:=Y.go l _ σ.m σ.h w _ h ⟨H.hsat,H.msat,H.disj⟩;have L:a.eval g= .func (.yield l) G cs:=by have:=t.ev g;rw[W]at this;exact this
   have D:G= #[]:=by apply Array.toList_inj.1;simpa using I
   have E:cs= #[]:=by apply Array.toList_inj.1;simpa using J
   subst D E;have n:c.args.map a.eval=(c.args.toList.map a.eval).toArray:=by apply Array.toList_inj.1;simp
   have s:(execOp a.eval o).run C.P w= .ok (.round l fn y f z) w:=by
    unfold execOp;simp only[U,resolve,V,L,Deferred.ofValue,Sem.run_bind,Sem.run_pure,Result.andThen_ok,invoke];simp[n,A]
   refine⟨λ_ _=>trivial,?_⟩;show o.uponIn Fence.wide 0 C.P a next Q ((execOp a.eval o).run C.P w)
   rw[s,Oper.uponIn_round];refine⟨λe=>by simp[Fence.wide]at e,i.mono ?_⟩;rintro e R ⟨u,m',h',rfl,hK,d⟩;show next (a.put o.dst u) R
   have M:Ai ⟨w,λb=>σ.m b≠none,σ.h,[]⟩ m' h' R:=
    ⟨d.tape,d.os,d.output,d.drawn,d.size,λb p F=>d.frame b p (Classical.byContradiction F),d.heapy.hsat,d.heapy.msat,d.heapy.disj,d.hle.le,λb p F=>d.hold b p (Classical.byContradiction F),λb N p=>d.mfr b N p⟩
   have O:=t.called M (λb p=>by
    cases T:σ.m b with
    |none=>exact(p T).elim
    |some N=>exact H.mfr b N T) (λj o' b hj p F=>F (t.fresh j o' b hj p).2.1)
   exact r ι _ _ _ (O.put o.dst (x:=.at (.val u)) rfl) hK
  .exact h.elim
theorem Pq(b:∀g S,assoc C.specs g=some S->Sound C.P g S)(i:aL B ι σ a w)(h:Pr C o σ K):aSX B C o K a w:=by
 have d:OZ C o σ K->aSX B C o K a w:=λh next Q j=>Vx (TC b i h next Q (λm n p r s t _=>j m n p r s t))
 unfold Pr at h;split at h
 .rename_i c u;split at h
  .rename_i g v;split at h
   .rename_i l y z x;split at h
    .rename_i e f;exact SP i u v x e f h
    .exact h.elim
   .exact d h
  .exact d h
 .exact d h
theorem O5(c:∀g S,assoc C.specs g=some S->Sound C.P g S){ops:Array Oper}(l:aL B ι σ a w)(h:NQ (Pr C) ops o σ K)
 (next:Act->World->Prop)(Q:Exit->Act->World->Prop)(b:∀m i j w',aL B m i j w'->K i->next j w'):
 if Region.wanted o (yielded ops a.tmps)then o.wpIn Fence.wide 0 C.P a w next Q else(∀f,o.about C.P w a.eval=some f->Fence.wide.fn f)/\next (a.put o.dst undef) w:=by
 obtain⟨r,d,n,p⟩:=Cv l h;rcases p with⟨e,h⟩|⟨e,h⟩
 .rw[if_pos e];exact Pq c d h next Q b
 .rw[if_neg (by simp[e])];exact⟨λ_ _=>trivial,b ι _ _ _ (d.put o.dst (x:=.at (.val undef)) rfl) h⟩
theorem Hm(b:∀g S,assoc C.specs g=some S->Sound C.P g S){ops:Array Oper}{Q:Exit->Act->World->Prop}{R:St->Prop}{rest:cu}(d:∀ι σ a w,aL B ι σ a w->R σ->wpOpsIn Fence.wide 0 C.P ops Q rest a w):
 ∀(l:List Oper)(s:Nat)(ι:cj)(σ:St)(a:Act)(w:World),(∀j,j<l.length->l[j]? =ops.toList[s+j]?)->aL B ι σ a w->Pk C ops l σ R->wpOpsIn Fence.wide 0 C.P ops Q (range' s l.length++rest) a w
 |[],s,ι,σ,a,w,_,c,h=>d ι σ a w c h
 |o::l,s,ι,σ,a,w,e,c,h=>by
  have f:ops[s]? =some o:=by have:=e 0 bj;simp at this;exact this.symm
  simp only[length_cons,range'_succ,cons_append,wpOpsIn,f]
  exact O5 b c h (wpOpsIn Fence.wide 0 C.P ops Q (range' (s+1) l.length++rest)) Q (λi m n p r t=>
   Hm b d l (s+1) i m n p (λj u=>by have:=e (j+1) (by simp;omega);simp only[getElem?_cons_succ]at this;rw[this];congr 1;omega) r t)
end
end Go.Vc
namespace Go.Vc
open Go List
def Yd(P:Program)(ops:Array Oper)(w:World)(o:Oper)(v:Value)(a:Act):Prop:=
 (Region.wanted o (yielded ops a.tmps)=true/\(execOp a.eval o).run P w= .ok (.value v) w)\/(Region.wanted o (yielded ops a.tmps)=false/\v=undef)
def Aft(ops:Array Oper)(ok:Oper)(i:Nat):Prop:=waits ok i=true\/∃j b,ops[j]? =some b/\waits ok j=true/\waits b i=true
def XI(ops:Array Oper)(b:Oper):Prop:=∀(k:Nat)(ok:Oper)(d:Nat),ops[k]? =some ok->ok.dst=some d->d∈b.looksAt ops->waits b k=true
structure aXX(ops:Array Oper)(i:Nat)(oi:Oper):Prop where
 mv:a6Q oi.op=true
 look:∀(k:Nat)(ok:Oper)(d:Nat),ops[k]? =some ok->ok.dst=some d->d∈oi.looksAt ops->Aft ops ok i
structure Ssa(ops:Array Oper):Prop where
 look:∀(i:Nat)(oi:Oper),ops[i]? =some oi->XI ops oi\/aXX ops i oi
 dst:∀(i k:Nat)(oi ok:Oper)(d:Nat),ops[i]? =some oi->ops[k]? =some ok->ok.dst=some d->i≠k->oi.dst≠some d
 topo:∀(i:Nat)(oi:Oper)(k:Nat),ops[i]? =some oi->waits oi k=true->k<i
 sel:∀(j:Nat)(o:Oper) cs b,ops[j]? =some o->o.op≠ .select cs b
theorem Aft.in_{ops:Array Oper}{ok:Oper}{i:Nat}{L:Array Bool}(h:Aft ops ok i)(c:∀j,waits ok j=true->L.getD j false=true)(d:∀(j:Nat)(b:Oper),ops[j]? =some b->L.getD j false=true->∀k,waits b k=true->L.getD k false=true):L.getD i false=true:=by
 rcases h with h|⟨j,b,e,f,g⟩
 .exact c i h
 .exact d j b e (c j f) i g
theorem Ssa.self{ops:Array Oper}(c:Ssa ops){k:Nat}{o:Oper}(b:ops[k]? =some o):∀d,o.dst=some d->d∉o.looksAt ops:=λd f g=>by
 rcases c.look k o b with h|h
 .have:=c.topo k o k b (h k o d b f g);omega
 .rcases h.look k o d b f g with e|⟨j,i,l,e,m⟩
  .have:=c.topo k o k b e;omega
  .have:=c.topo k o j b e;have:=c.topo j i k l m;omega
theorem avZ{P:Program}{o:Oper}(h:a6Q o.op=true):Ax P o=false:=by
 unfold Ax;cases e:o.op<;>simp_all [a6Q]
theorem JQ{o:Oper}{k:Nat}:waits o k=true↔∃e∈o.after,Region.binds .any e=true/\e.on=k:=by
 unfold waits;rw[any_eq_true];constructor
 .rintro⟨e,b,h⟩;simp only[Bool.and_eq_true]at h;exact⟨e,bo b,h.1,Nat.eq_of_beq_eq_true h.2⟩
 .rintro⟨e,b,c,d⟩;exact⟨e,bo b,by simp[c,d]⟩
theorem bBQ{ops:Array Oper}(h:bBX ops=true)(u:Region.noSelect ops=true):Ssa ops:=by
 unfold bBX at h;simp only[all_eq_true,mem_range]at h;have l:∀{i:Nat}{n:Oper},ops[i]? =some n->i<ops.toList.length:=λf=>by have:=(Array.getElem?_eq_some_iff.1 f).1;simpa using this
 refine⟨?_,?_,?_,Region.noSelect_spec u⟩
 .intro i n f;have c:=h i (l f);rw[jE,Array.getElem?_toList,f]at c;simp only[Bool.and_eq_true,Bool.or_eq_true,all_eq_true,mem_range]at c;rcases c.2 with p|⟨v,p⟩
  .refine .inl λk ok d g m r=>?_;have b:=p k (l g);rw[jE,Array.getElem?_toList,g]at b;simp only[m,Bool.or_eq_true,Bool.not_eq_true',contains_eq_mem,decide_eq_false_iff_not]at b;rcases b with b|b
   .exact(b r).elim
   .exact b
  .refine .inr ⟨v,λk ok d g m r=>?_⟩;have b:=p k (l g);rw[jE,Array.getElem?_toList,g]at b;simp only[m,Bool.or_eq_true,Bool.not_eq_true',contains_eq_mem,decide_eq_false_iff_not]at b;rcases b with b|b
   .exact(b r).elim
   .unfold bPQ at b;simp only[Bool.or_eq_true,any_eq_true,Bool.and_eq_true]at b;rcases b with b|⟨⟨x,j⟩,y,z,A⟩
    .exact .inl b
    .refine .inr ⟨j,x,?_,z,A⟩;have:=mem_zipIdx_iff_getElem?.1 y;simpa using this
 .intro i k n ok d f g m s;have c:=h i (l f);rw[jE,Array.getElem?_toList,f]at c;simp only[Bool.and_eq_true,all_eq_true,mem_range]at c;have b:=c.1.2 k (l g);rw[jE,Array.getElem?_toList,g]at b;simp only[m,Bool.or_eq_true]at b;rcases b with b|b
  .exact(s (Nat.eq_of_beq_eq_true b)).elim
  .simpa using b
 .intro i n k f D;have t:i<ops.toList.length:=by have:=(Array.getElem?_eq_some_iff.1 f).1;simpa using this
  have c:=h i t;rw[jE,Array.getElem?_toList,f]at c;simp only[Bool.and_eq_true,all_eq_true]at c;obtain⟨e,E,F,rfl⟩:=JQ.1 D;have:=c.1.1 e (bo E);simp only[F,Bool.not_true,Bool.false_or]at this;rw[<-Nat.blt_eq];exact this
theorem vM{ops:Array Oper}{b:Array Bool}{j:Nat}:j∈Region.ready .any ops b↔b.getD j true=false/\∃o,ops[j]? =some o/\∀k,waits o k=true->b.getD k false=true:=by
 rw[mem_ready];constructor
 .rintro⟨c,o,d,f⟩;refine⟨c,o,d,λk i=>?_⟩;obtain⟨e,g,h,rfl⟩:=JQ.1 i;exact f e g h
 .rintro⟨c,o,d,f⟩;exact⟨c,o,d,λe g h=>f e.on (JQ.2 ⟨e,g,h,rfl⟩)⟩
theorem ML{l:Array Bool}{i:Nat}(h:l.getD i true=false):l.getD i false=false/\i<l.size:=by
 by_cases b:i<l.size
 .simp[Array.getD,b]at h⊢;exact h
 .simp[Array.getD,b]at h
theorem uE{l:Array Bool}{i:Nat}(h:i<l.size):(l.setIfInBounds i true).getD i false=true:=by
 simp[Array.getD,h]
theorem HK{ops:Array Oper}{o:Oper}{c e:Act}(l:∀cs b,o.op≠ .select cs b)(h:∀t∈o.looksAt ops,c.tmps[t]? =e.tmps[t]?):
 execOp c.eval o=execOp e.eval o/\Region.wanted o (yielded ops c.tmps)=Region.wanted o (yielded ops e.tmps):=by
 constructor
 .refine execOp_congr o l λx m=>?_;cases x with
  |tmp t=>
   have:t∈o.looksAt ops:=mem_append_left _ (mem_filterMap.2 ⟨.tmp t,bo m,rfl⟩);simp only[Act.eval,Array.getD_eq_getD_getElem?,h t this]
  |const v=>rfl
  |global g=>rfl
  |func f=>rfl
 .unfold Region.wanted;split
  .rfl
  .rename_i j i n
   have:yielded ops c.tmps j=yielded ops e.tmps j:=by
    unfold yielded;cases p:(ops[j]?).bind (·.dst)with
    |none=>rfl
    |some d=>
     have r:d∈o.looksAt ops:=by
      unfold Oper.looksAt;refine mem_append_right _ ?_;simp[n,p]
     simp only[Option.bind_some,h d r]
   rw[this]
theorem Md{a:Act}{d:Option Tmp}{v:Value}{t:Nat}(h:d≠some t):(a.put d v).tmps[t]? =a.tmps[t]? :=by
 cases d with
 |none=>rfl
 |some e=>
  have:e≠t:=λx=>h (by rw[x]);simp[Act.put,Array.getElem?_setIfInBounds_ne this]
theorem a3Z(a:Act)(d:Option Tmp)(u v:Value):(a.put d u).put d v=a.put d v:=by
 cases d with
 |none=>rfl
 |some e=>simp[Act.put]
structure Rf(P:Program)(ops:Array Oper)(L Cl:Array Bool)(ar ac:Act)(w:World):Prop where
 szL:L.size=ops.size
 szC:Cl.size=ops.size
 sub:∀i,L.getD i false=true->Cl.getD i false=true
 rd:∀(i:Nat)(o:Oper),ops[i]? =some o->Cl.getD i false=true->L.getD i false=false->Ez o.op=true
 clC:∀(i:Nat)(o:Oper),ops[i]? =some o->Cl.getD i false=true->∀k,waits o k=true->Cl.getD k false=true
 clL:∀(i:Nat)(o:Oper),ops[i]? =some o->L.getD i false=true->∀k,waits o k=true->L.getD k false=true
 tsz:ar.tmps.size=ac.tmps.size
 df:ar.defers=ac.defers
 agree:∀t,(∀(i:Nat)(o:Oper),ops[i]? =some o->Cl.getD i false=true->L.getD i false=false->o.dst≠some t)->ar.tmps[t]? =ac.tmps[t]?
 pend:∀(i:Nat)(o:Oper),ops[i]? =some o->Cl.getD i false=true->L.getD i false=false->∃v,(XI ops o->∀w'',(Ax P o=false\/w''=w)->Yd P ops w'' o v ac)/\(aXX ops i o->∀w'',Yd P ops w'' o v ar)/\ac.put o.dst v=ac
section
variable{P:Program}{ops:Array Oper}{L Cl:Array Bool}{ar ac:Act}{w:World}
theorem Yd.congr{o:Oper}{v:Value}{a b:Act}{w:World}(h:Yd P ops w o v a)(c:execOp b.eval o=execOp a.eval o)(d:Region.wanted o (yielded ops b.tmps)=Region.wanted o (yielded ops a.tmps)):Yd P ops w o v b:=by
 unfold Yd at*
 rw[c,d];exact h
theorem Rf.looks(h:Rf P ops L Cl ar ac w){o:Oper}(b:XI ops o)(d:∀k,waits o k=true->L.getD k false=true):∀t∈o.looksAt ops,ar.tmps[t]? =ac.tmps[t]? :=by
 intro t e;refine h.agree t (λk ok f _ c g=>?_);have:=d k (b k ok t f g e);rw[this]at c;cases c
theorem Rf.looks'(h:Rf P ops L Cl ar ac w){i:Nat}{o:Oper}(b:aXX ops i o)(d:Cl.getD i false=false):∀t∈o.looksAt ops,ar.tmps[t]? =ac.tmps[t]? :=by
 intro t f;refine h.agree t (λk ok e c _ g=>?_);have:=(b.look k ok t e g f).in_ (h.clC k ok e c) h.clC;rw[this]at d;cases d
theorem Rf.stepA(D:Ssa ops)(h:Rf P ops L Cl ar ac w){i:Nat}{o:Oper}(n:ops[i]? =some o)(E:Cl.getD i false=true)(s:∀k,waits o k=true->L.getD k false=true){v:Value}(y:ac.put o.dst v=ac):
 Rf P ops (L.setIfInBounds i true) Cl (ar.put o.dst v) ac w:=by
 have p:i<L.size:=by rw[h.szL];exact(Array.getElem?_eq_some_iff.1 n).1
 have f:∀k,(L.setIfInBounds i true).getD k false=false->L.getD k false=false/\k≠i:=by
  intro k b;by_cases e:i=k
  .subst e;rw[uE p]at b;cases b
  .rw[getD_set_ne false e]at b;exact⟨b,λx=>e x.symm⟩
 refine⟨bo h.szL,h.szC,?_,λk ok b g c=>h.rd k ok b g (f k c).1,h.clC,?_,?_,?_,?_,λk ok b g c=>?_⟩
 .intro k b;by_cases e:i=k
  .subst e;exact E
  .rw[getD_set_ne false e]at b;exact h.sub k b
 .intro k ok b c j z;by_cases e:i=k
  .subst e;rw[n]at b;cases b;exact getD_set_true (s j z)
  .rw[getD_set_ne false e]at c;exact getD_set_true (h.clL k ok b c j z)
 .rw[<-h.tsz];cases o.dst<;>simp[Act.put]
 .rw[<-h.df];cases o.dst<;>rfl
 .intro t F;by_cases e:o.dst=some t
  .rw[e]at y⊢
   rw[<-y];simp only[Act.put,Array.getElem?_setIfInBounds_self,h.tsz]
  .rw[Md e];refine h.agree t (λk ok b g c=>?_);by_cases A:i=k
   .subst A;rw[n]at b;cases b;exact e
   .exact F k ok b g (by rw[getD_set_ne false A];exact c)
 .obtain⟨u,G,H,I⟩:=h.pend k ok b g (f k c).1;refine⟨u,G,λl r=>?_,I⟩
  have m:∀d,o.dst=some d->d∉ok.looksAt ops:=λd J M=>by
   have:=(l.look i o d n J M).in_ s h.clL;rw[(f k c).1]at this;cases this
  exact(H l r).congr (execOp_put ok (D.sel k ok · · b) ar o.dst v m) (wanted_put ok ar o.dst v m)
theorem Rf.take(y:Ssa ops)(h:Rf P ops L Cl ar ac w){k:Nat}{o:Oper}(n:ops[k]? =some o)(z:Cl.getD k false=false)(S:∀j,waits o j=true->Cl.getD j false=true)(F:Ez o.op=true){v:Value}
 (Q:∀f,(Ax P o=false\/f=w)->Yd P ops f o v ac):Rf P ops L (Cl.setIfInBounds k true) ar (ac.put o.dst v) w:=by
 have G:k<Cl.size:=by rw[h.szC];exact(Array.getElem?_eq_some_iff.1 n).1
 have g:∀j,(Cl.setIfInBounds k true).getD j false=true->j=k\/Cl.getD j false=true:=by
  intro j x;by_cases e:k=j
  .exact .inl e.symm
  .rw[getD_set_ne false e]at x;exact .inr x
 have H:L.getD k false=false:=by
  cases T:L.getD k false with
  |false=>rfl
  |true=>rw[h.sub k T]at z;cases z
 have p:∀j,Cl.getD j false=true->(Cl.setIfInBounds k true).getD j false=true:=by
  intro j x;exact getD_set_true x
 have A:=y.self n;refine⟨h.szL,bo h.szC,λi c=>p i (h.sub i c),?_,?_,h.clL,?_,?_,?_,?_⟩
 .intro i l c b m;rcases g i b with rfl|b
  .rw[n]at c;cases c;exact F
  .exact h.rd i l c b m
 .intro i l c b j x;rcases g i b with rfl|b
  .rw[n]at c;cases c;exact p j (S j x)
  .exact p j (h.clC i l c b j x)
 .rw[h.tsz];cases o.dst<;>simp[Act.put]
 .rw[h.df];cases o.dst<;>rfl
 .intro t R;have e:o.dst≠some t:=R k o n (uE G) H;rw[Md e];exact h.agree t (λi l c b m=>R i l c (p i b) m)
 .intro i l c b m;by_cases e:i=k
  .subst e;rw[n]at c;cases c;refine⟨v,λ_ f I=>(Q f I).congr (execOp_put o (y.sel i o · · n) ac o.dst v A) (wanted_put o ac o.dst v A),λD f=>?_,a3Z _ _ _ _⟩;obtain⟨U,J⟩:=HK (y.sel i o · · n) (h.looks' D z);exact(Q f (.inl (avZ D.mv))).congr U J
  .have r:=(g i b).resolve_left e;obtain⟨u,V,M,N⟩:=h.pend i l c r m;refine⟨u,λE f I=>?_,M,?_⟩
   .have s:∀d,o.dst=some d->d∉l.looksAt ops:=λd O W=>by
     have:=h.clC i l c r k (E k o d n O W);rw[this]at z;cases z
    exact(V E f I).congr (execOp_put l (y.sel i l · · c) ac o.dst v s) (wanted_put l ac o.dst v s)
   rw[Act.put_comm ac v u (λd O=>y.dst i k l o d c n O e),N]
theorem SQ{o:Oper}{l p:Act}{w:World}{b g:Act->World->Prop}{Q:Exit->Act->World->Prop}(t:execOp p.eval o=execOp l.eval o)(h:o.wp P l w b Q)
 (m:∀v w',b (l.put o.dst v) w'->g (p.put o.dst v) w')(y:∀d w',¬b (({l with defers:=d::l.defers}:Act).put o.dst undef) w')(s:∀c a w,¬Q (.panic c) a w):o.wp P p w g Q:=by
 unfold Oper.wp at*
 rw[t];generalize (execOp l.eval o).run P w=r at*
 cases r with
 |ok n w'=>
  cases n<;>simp only[Oper.upon]at h⊢
  case value u=>exact m u w' h
  case skip=>exact m undef w' h
  case defer d=>exact(y d w' h).elim
  case enter f args=>
   refine Calls.mono h λe j i=>?_;cases e with
   |returned u=>exact m u j i
   |panicked c=>exact(s _ _ _ i).elim
   |outgrown=>exact i
  case row row args=>exact Rows.mono h λu j i=>m u j i
 |halt x w'=>
  cases x<;>simp only[Oper.upon]at h⊢
  case panic u=>exact(s _ _ _ h).elim
theorem Rf.stepB(N:Ssa ops)(h:Rf P ops L Cl ar ac w){j:Nat}{o:Oper}(D:ops[j]? =some o)(O:Cl.getD j false=false)(Q:∀k,waits o k=true->L.getD k false=true)(u:Value)(w':World)
 (E:∀(i:Nat)(c:Oper)(v:Value),ops[i]? =some c->Cl.getD i false=true->L.getD i false=false->Yd P ops w c v ac->Yd P ops w' c v ac\/Ax P c=false):
 Rf P ops (L.setIfInBounds j true) (Cl.setIfInBounds j true) (ar.put o.dst u) (ac.put o.dst u) w':=by
 have F:j<Cl.size:=by rw[h.szC];exact(Array.getElem?_eq_some_iff.1 D).1
 have G:j<L.size:=by rw[h.szL];exact(Array.getElem?_eq_some_iff.1 D).1
 have m:∀i,(Cl.setIfInBounds j true).getD i false=true->i=j\/Cl.getD i false=true:=by
  intro i b;by_cases e:j=i
  .exact .inl e.symm
  .rw[getD_set_ne false e]at b;exact .inr b
 have n:∀i,(L.setIfInBounds j true).getD i false=false->i≠j/\L.getD i false=false:=by
  intro i b;by_cases e:j=i
  .subst e;rw[uE G]at b;cases b
  .rw[getD_set_ne false e]at b;exact⟨λx=>e x.symm,b⟩
 have y:∀i,Cl.getD i false=true->(Cl.setIfInBounds j true).getD i false=true:=λi b=>getD_set_true b;refine⟨bo h.szL,bo h.szC,?_,?_,?_,?_,?_,?_,?_,?_⟩
 .intro i b;by_cases e:j=i
  .subst e;exact uE F
  .rw[getD_set_ne false e]at b;exact y i (h.sub i b)
 .intro i c b f l;obtain⟨p,g⟩:=n i l;exact h.rd i c b ((m i f).resolve_left p) g
 .intro i c b f k H;rcases m i f with rfl|f
  .rw[D]at b;cases b;exact y k (h.sub k (Q k H))
  .exact y k (h.clC i c b f k H)
 .intro i c b l k H;by_cases e:j=i
  .subst e;rw[D]at b;cases b;exact getD_set_true (Q k H)
  .rw[getD_set_ne false e]at l;exact getD_set_true (h.clL i c b l k H)
 .cases o.dst<;>simp[Act.put,h.tsz]
 .have:=h.df;cases o.dst<;>exact this
 .intro t W;by_cases e:o.dst=some t
  .rw[e];simp only[Act.put,Array.getElem?_setIfInBounds_self,h.tsz]
  .rw[Md e,Md e];refine h.agree t (λi c b f l=>W i c b (y i f) ?_);have p:j≠i:=λx=>by subst x;rw[O]at f;cases f
   rw[getD_set_ne false p];exact l
 .intro i c b f l;obtain⟨p,g⟩:=n i l;have r:=(m i f).resolve_left p;obtain⟨v,R,S,T⟩:=h.pend i c b r g;refine⟨v,λz A I=>?_,λJ A=>?_,?_⟩
  .have s:∀d,o.dst=some d->d∉c.looksAt ops:=λd M U=>by
    have:=h.clC i c b r j (z j o d D M U);rw[this]at O;cases O
   have X:Yd P ops A c v ac:=by
    rcases I with I|I
    .exact R z A (.inl I)
    .rw[I];rcases E i c v b r g (R z w (.inr rfl))with V|V
     .exact V
     .exact R z w' (.inl V)
   exact X.congr (execOp_put c (N.sel i c · · b) ac o.dst u s) (wanted_put c ac o.dst u s)
  .have s:∀d,o.dst=some d->d∉c.looksAt ops:=λd M U=>by
    have:=(J.look j o d D M U).in_ Q h.clL;rw[this]at g;cases g
   exact(S J A).congr (execOp_put c (N.sel i c · · b) ar o.dst u s) (wanted_put c ar o.dst u s)
  .rw[Act.put_comm ac u v (λd M=>N.dst i j c o d b D M p),T]
end
section
variable{B:sP}{C:Ctx}{ι:cj}{σ:St}{a:Act}{w:World}
theorem Tb{P:Program}{b:Bool}{σ:St}{c d:Oper}{K:Prop}(h:Lp P b σ c d K):Lp P b σ c d True/\K:=by
 unfold Lp at h⊢
 repeat' split at h
 all_goals first|exact h.elim|skip
 all_goals simp_all
theorem M1{P:Program}{j:Bool}{ops:Array Oper}{b:Array Bool}{σ:St}{d:Oper}:∀(l:List Oper)(s:Nat){K:Prop},JT P j ops b σ d s l K->
 K/\∀(i:Nat)(c:Oper),l[i]? =some c->b.getD (s+i) false=true->Ez c.op=true->waits d (s+i)=false->zO ops σ c=false->Lp P j σ d c True
 |[],s,K,h=>⟨h,λi c e=>by simp at e⟩
 |o::l,s,K,h=>by
  have key:(JT P j ops b σ d (s+1) l K)/\(b.getD s false=true->Ez o.op=true->waits d s=false->zO ops σ o=false->Lp P j σ d o True):=by
   simp only[JT]at h;split at h
   .obtain⟨f,g⟩:=Tb h;exact⟨g,λ_ _ _ _=>f⟩
   .rename_i p;refine⟨h,λf g m n=>?_⟩;exact(p f g m n).elim
  obtain⟨r,t⟩:=M1 l (s+1) key.1;refine⟨r,λi c e f g m n=>?_⟩;cases i with
  |zero=>simp at e;subst e;exact key.2 (bo f) g (bo m) n
  |succ i=>
   simp only[getElem?_cons_succ]at e;exact t i c e (by rw[show s+1+i=s+(i+1)by omega];exact f) g (by rw[show s+1+i=s+(i+1)by omega];exact m) n
theorem Ta{σ:St}{b c:Oper}{τ:St}{K:Prop}(h:H3 σ b c τ K):H3 σ b c τ True/\K:=by
 unfold H3 at h⊢
 repeat' split at h
 all_goals simp_all
theorem Lo{ops:Array Oper}{b:Array Bool}{σ:St}{d:Oper}{τ:St}:∀(l:List Oper)(s:Nat){K:Prop},FZ ops b σ d τ s l K->
 K/\∀(i:Nat)(c:Oper),l[i]? =some c->b.getD (s+i) false=true->Ez c.op=true->waits d (s+i)=false->zO ops σ c=false->H3 σ d c τ True
 |[],s,K,h=>⟨h,λi c e=>by simp at e⟩
 |o::l,s,K,h=>by
  have key:(FZ ops b σ d τ (s+1) l K)/\(b.getD s false=true->Ez o.op=true->waits d s=false->zO ops σ o=false->H3 σ d o τ True):=by
   simp only[FZ]at h;split at h
   .obtain⟨f,g⟩:=Ta h;exact⟨g,λ_ _ _ _=>f⟩
   .rename_i n;refine⟨h,λf g j m=>?_⟩;exact(n f g j m).elim
  obtain⟨p,r⟩:=Lo l (s+1) key.1;refine⟨p,λi c e f g j m=>?_⟩;cases i with
  |zero=>simp at e;subst e;exact key.2 (bo f) g (bo j) m
  |succ i=>
   simp only[getElem?_cons_succ]at e;exact r i c e (by rw[show s+1+i=s+(i+1)by omega];exact f) g (by rw[show s+1+i=s+(i+1)by omega];exact j) m
theorem R5{ops:Array Oper}{c:Oper}(e:aL B ι σ a w)(h:zO ops σ c=true):Region.wanted c (yielded ops a.tmps)=false:=by
 unfold zO at h;split at h
 .cases h
 .rename_i j f i;split at h
  .cases h
  .rename_i g l;split at h
   .cases h
   .rename_i d m;split at h
    .rename_i t b;rw[Pc i l m (Hj e b)];split at h
     .rfl
     .rfl
     .cases h
    .rename_i n b;exact HS i l m (MY e b)
    .cases h
theorem BG(m:aL B ι σ a w){k:Nat}{p:Own}(c:nth σ.own k=some (some p)){b:Nat}(n:blk (ι k)=some b):∀{l:cw},G4 σ k l=true->∀x∈l,∀j,(σ.ev x= .at (.lst j)\/∃off,σ.ev x= .at (.ptr j off))->blk (ι j)≠some b
 |[],_,x,d=>by cases d
 |y::r,h,x,d=>by
  simp only[G4,Bool.and_eq_true]at h;rcases mem_cons.1 d with rfl|d
  .intro j e g;have f:=h.1;rcases e with e|⟨off,e⟩
   all_goals
    simp only[e]at f;split at f
    .rename_i s i;have:=m.dist j k _ _ b i c g n;subst this;simp at f
    .cases f
  .exact BG m c n h.2 x d
theorem a3J{ops:Array Oper}{fl:Bool}{oj W:Oper}{v:Value}{w':World}(F:aL B ι σ a w)(hk:HR σ ι oj w w')(f:Lp C.P fl σ oj W True)(a':fl=true->∃τ:St,Ai B τ.m τ.h w'/\H3 σ oj W τ True)(hy:Yd C.P ops w W v a):Yd C.P ops w' W v a\/Ax C.P W=false:=by
 unfold Lp at f;split at f
 .rename_i hm;exact .inr hm
 .left;rcases hy with⟨hw,D⟩|hy
  .left;refine⟨hw,?_⟩;split at f
   .rename_i T x J;split at f
    .exact f.elim
    .rename_i hT;have z:=F.ev x
     have X:∀(b y:Nat)(M:bw),a.eval x= .pointer (some ⟨b,y,none⟩)->M.length=C.P.cellsOf T->(∀j u,M[j]? =some u->w.cell? ⟨b,y+j,none⟩=some u)->(∀j u,M[j]? =some u->w'.cell? ⟨b,y+j,none⟩=some u)->
      (execOp a.eval W).run C.P w'= .ok (.value v) w':=by
      intro b y M N Y hc a6;have h1:=BW hT Y hc;have h2:=BW hT Y a6
      have e1:(execOp a.eval W).run C.P w= .ok (.value (mkV C.P T M)) w:=by
       unfold execOp;simp only[J,N,Instr.loadAt,Instr.sureAddr,Sem.run_bind,Sem.run_pure,Result.andThen_ok,h1]
      have e2:(execOp a.eval W).run C.P w'= .ok (.value (mkV C.P T M)) w':=by
       unfold execOp;simp only[J,N,Instr.loadAt,Instr.sureAddr,Sem.run_bind,Sem.run_pure,Result.andThen_ok,h2]
      rw[e1]at D;simp only[Result.ok.injEq,Next.value.injEq,and_true]at D;rw[e2,D]
     split at f
     .rename_i k y N;rw[N]at z;split at f
      .rename_i p T' M r;split at f
       .rename_i ht a1;have a1:=Nat.le_of_ble_eq_true a1;obtain⟨b,vs,hι,hh,a7⟩:=vN F r;obtain⟨b',a0,a8⟩:=z;rw[hι]at a0;simp only[Value.pointer.injEq,Option.some.injEq,Addr.mk.injEq]at a0;obtain⟨rfl, -, -⟩:=a0;have a2:=hk.cells k p T' M b r ht hι;rw[hh]at a2;have a9:M.length=vs.toList.length:=a7.length;refine X b y ((vs.toList.drop y).take (C.P.cellsOf T)) a8 (by simp at a9⊢;omega) (λj u I=>?_) (λj u I=>?_)
        .rw[cell_of_heap hh];exact xQ I
        .rw[cell_of_heap a2];exact xQ I
       .exact f.elim
      .exact f.elim
     .rename_i b y d N hd;rw[N]at z;have z:a.eval x= .pointer (some ⟨b,y,none⟩):=z;split at f
      .rename_i M a3;split at f
       .rename_i l Y;split at f
        .rename_i H;split at f
         .rename_i Z;have hc:=Hp F.wrel f.1;refine X b y l z (Nat.eq_of_beq_eq_true H) hc (λj u I=>?_);have h1:=hc j u I;cases O:Aa oj.op with
          |false=>
           rw[O,Bool.false_or]at Z;obtain⟨τ,b0,h2⟩:=a' Z;unfold H3 at h2;simp only[J,N,hd,a3,Y,O]at h2;exact Hp b0 h2.1 j u I
          |true=>
          have Z:=O;rw[<-h1];exact World.cell?_of_block (w:=w) (w':=w') (a:=⟨b,y+j,none⟩) (hk.ext Z b (World.block_lt_of_cell? w ⟨b,y+j,none⟩ h1))
         .refine X b y l z (Nat.eq_of_beq_eq_true H) (λj u I=>F.wrel.hsat _ _ _ (f.1.rd j u I)) (λj u I=>hk.imm _ _ _ (f.1.rd j u I))
        .exact f.elim
       .exact f.elim
      .exact f.elim
     .rename_i k i sz y d N hd;rw[N]at z;split at f
      .rename_i E' s V M r a3;split at f
       .rename_i l Y hs t;have hs:=Nat.eq_of_beq_eq_true hs;subst hs;split at f
        .rename_i H;obtain⟨e,he,b1⟩:=f.1;obtain⟨Q,R⟩:=rH F r;obtain⟨b,n,c,hι,hp⟩:=z
         have A:∀b,blk (ι k)=some b->w'.heap[b]? =w.heap[b]? :=by
          intro b S;have U:=qR (F.own k _ r) S;unfold Ss at t;rw[Bool.or_eq_true]at t;rcases t with t|t
          .exact hk.ext t b U
          .split at t
           .rename_i l Y;refine hk.args l b Y U (F.fresh k _ b r S).2.1 ?_;exact BG F r S t
           .cases t
         have G:w'.ownsRow 0 E' s (ι k) V.length V.flatten:=((F.own k _ r).world (λb S=>A b S)).2
         have rd:∀w1:World,w1.ownsRow 0 E' s (ι k) V.length V.flatten->∀j u,l[j]? =some u->w1.cell? ⟨b,i*s+y+j,none⟩=some u:=by
          intro w1 h1 j u I;rw[<-b1]at I;have b2:=xQ I;have hf:=lT Q.len he _ _ b2;have:=h1.cells (g:=b) (by rw[hι];rfl) _ _ hf;rw[Addr.add_none]at this;rw[<-this];congr 1;simp only[Addr.mk.injEq,and_true,true_and];omega
         exact X b (i*s+y) l hp (Nat.eq_of_beq_eq_true H) (rd w R) (rd w' G)
        .exact f.elim
       .exact f.elim
      .exact f.elim
     .exact f.elim
   .rename_i src b5 x J;have z:=F.ev x;split at f
    .rename_i k d N hd;rw[N]at z;have z:a.eval x=ι k:=z;split at f
     .rename_i E' sz V s r hs;split at f
      .rename_i E a4 a5;split at f
       .rename_i hE;split at f
        .rename_i t;have b3:=f.1;obtain⟨Q,R⟩:=rH F r;have b4:V=bE s.data.toList:=b3
         have A:∀b,blk (ι k)=some b->w'.heap[b]? =w.heap[b]? :=by
          intro b S;have U:=qR (F.own k _ r) S;unfold Ss at t;rw[Bool.or_eq_true]at t;rcases t with t|t
          .exact hk.ext t b U
          .split at t
           .rename_i l Y;refine hk.args l b Y U (F.fresh k _ b r S).2.1 ?_;exact BG F r S t
           .cases t
         have G:w'.ownsRow 0 E' sz (ι k) V.length V.flatten:=((F.own k _ r).world (λb S=>A b S)).2
         have go:∀w1:World,w1.ownsRow 0 E' sz (ι k) V.length V.flatten->(execOp a.eval W).run C.P w1= .ok (.value (.string ⟨s.data.toList.toArray⟩)) w1:=by
          intro w1 h1;subst b4;exact EK J a4 hE a5 z h1
         rw[go w R]at D;rw[go w' G];simp only[Result.ok.injEq,Next.value.injEq,and_true]at D;rw[D]
        .exact f.elim
       .exact f.elim
      .exact f.elim
     .exact f.elim
    .exact f.elim
   .exact f.elim
  .exact .inr hy
theorem Re{g:Nat->Prop}:∀{l:cu},aQJ g l->∀j∈l,g j
 |[],_,j,b=>by cases b
 |[i],h,j,b=>by simp at b;subst b;exact h
 |i::k::r,h,j,b=>by
  rcases mem_cons.1 b with rfl|b
  .exact h.1
  .exact Re h.2 j b
theorem EC{ops:Array Oper}:∀{l:cu}{i:Nat}{o:Oper},GK ops l=some (i,o)->i∈l/\ops[i]? =some o/\Ez o.op=true
 |[],i,o,h=>by simp[GK]at h
 |k::r,i,o,h=>by
  simp only[GK]at h;split at h
  .rename_i ok b;split at h
   .rename_i e;simp only[Option.some.injEq,Prod.mk.injEq]at h;obtain⟨rfl,rfl⟩:=h;rw[jE,Array.getElem?_toList]at b;exact⟨mem_cons_self,b,e⟩
   .obtain⟨c,d⟩:=EC h;exact⟨mem_cons_of_mem _ c,d⟩
  .obtain⟨c,d⟩:=EC h;exact⟨mem_cons_of_mem _ c,d⟩
def vW(ops:Array Oper)(L:Array Bool):Nat:=((List.range ops.size).filter λi=> !L.getD i false).length
theorem HW{ops:Array Oper}{L:Array Bool}{i:Nat}(g:L.size=ops.size)(h:i<ops.size)(m:L.getD i false=false):vW ops (L.setIfInBounds i true)+1=vW ops L:=by
 unfold vW
 have key:∀(l:cu),l.Nodup->(l.filter λj=> !(L.setIfInBounds i true).getD j false).length+(if i∈l then 1 else 0)=(l.filter λj=> !L.getD j false).length:=by
  intro l
  induction l with
  |nil=>intro _;simp
  |cons j r n=>
   intro d;have b:=nodup_cons.1 d;have:=n b.2;by_cases e:i=j
   .subst e;have f:(L.setIfInBounds i true).getD i false=true:=uE aD;have c:i∉r:=b.1;simp only[filter_cons,f,m,Bool.not_true,Bool.not_false,if_true,Bool.false_eq_true,if_false,length_cons,mem_cons_self];simp only[c,if_false]at this;omega
   .have f:(L.setIfInBounds i true).getD j false=L.getD j false:=getD_set_ne false e;have c:(i∈j::r)↔i∈r:=by simp[e]
    simp only[filter_cons,f];split
    .simp only[length_cons,c];omega
    .simp only[c];exact this
 have:=key (List.range ops.size) nodup_range;rw[if_pos (mem_range.2 h)]at this;exact this
theorem K5{ops:Array Oper}{L:Array Bool}(d:Ssa ops)(j:L.size=ops.size)(h:Region.ready .any ops L=[]):∀i,i<ops.size->L.getD i false=true:=by
 intro i
 induction i using Nat.strongRecOn with
 |_ i l=>
  intro e;cases f:L.getD i false with
  |true=>rfl
  |false=>
   exfalso;have b:ops[i]? =some ops[i]:=Array.getElem?_eq_getElem e
   have:i∈Region.ready .any ops L:=by
    rw[vM];refine⟨?_,_,b,λk g=>l k (d.topo i _ k b g) (Nat.lt_trans (d.topo i _ k b g) e)⟩;have c:i<L.size:=by omega
    simp[Array.getD,c]at f⊢
    exact f
   rw[h]at this;cases this
theorem C3{ops:Array Oper}{L:Array Bool}(h:∀i,i<ops.size->L.getD i false=true):Region.ready .any ops L=[]:=by
 cases b:Region.ready .any ops L with
 |nil=>rfl
 |cons i r=>
  exfalso;have:i∈Region.ready .any ops L:=by rw[b];exact mem_cons_self
  obtain⟨c,o,d,_⟩:=vM.1 this;have e:=(Array.getElem?_eq_some_iff.1 d).1;have:=h i e;rw[(ML c).1]at this;cases this
theorem Rf.eq_of_all{P:Program}{ops:Array Oper}{L Cl:Array Bool}{ar ac:Act}(h:Rf P ops L Cl ar ac w)(b:∀i,i<ops.size->L.getD i false=true):ar=ac:=by
 have c:ar.tmps=ac.tmps:=by
  apply Array.ext_getElem?;intro t;refine h.agree t (λi o e _ f=>?_);have:=b i (Array.getElem?_eq_some_iff.1 e).1;rw[f]at this;cases this
 have d:=h.df;cases ar;cases ac;simp at c d;rw[c,d]
theorem alQ{ops:Array Oper}{R:St->Prop}{n:Nat}{Cl:Array Bool}(h:Cy C ops n Cl σ R)(b:Region.ready .any ops Cl=[]):R σ:=by
 cases n<;>simp only[Cy,b]at h<;>exact h
theorem Vg{ops:Array Oper}{b:Array Bool}{σ:St}{d:Oper}{τ:St}{K:Prop}(h:JG C ops b σ d τ K):
 (XF C=true->∀(i:Nat)(c:Oper),ops.toList[i]? =some c->b.getD (0+i) false=true->Ez c.op=true->waits d (0+i)=false->zO ops σ c=false->H3 σ d c τ True)/\K:=by
 unfold JG at h;split at h
 .rename_i e;obtain⟨g,j⟩:=Lo _ 0 h;exact⟨λ_=>j,g⟩
 .rename_i e;refine⟨λf=>?_,h⟩;rw[e]at f;cases f
theorem akJ(M:∀g S,assoc C.specs g=some S->Sound C.P g S){ops:Array Oper}(N:Ssa ops){Q:Exit->Act->World->Prop}{R:St->Prop}(hQ:∀ι σ a w,aL B ι σ a w->R σ->Q .normal a w)
 (b4:∀c a w,¬Q (.panic c) a w):
 ∀(n:Nat)(b:Nat)(Cl:Array Bool)(ι:cj)(σ:St)(ac:Act)(w:World),aL B ι σ ac w->Cy C ops n Cl σ R->∀(L:Array Bool)(ar:Act),Rf C.P ops L Cl ar ac w->vW ops L=b->
  wpAny C.P .any ops Q b L ar w:=by
 have fin:∀(n:Nat)(Cl:Array Bool)(ι:cj)(σ:St)(ac:Act)(w:World),aL B ι σ ac w->Cy C ops n Cl σ R->∀(L:Array Bool)(ar:Act),Rf C.P ops L Cl ar ac w->Region.ready .any ops L=[]->Q .normal ar w:=by
  intro n Cl ι σ ac w m h L ar f Z;have r:=K5 N f.szL Z;rw[f.eq_of_all r];exact hQ ι σ ac w m (alQ h (C3 (λi s=>f.sub i (r i s))))
 have zero:∀(n:Nat)(Cl:Array Bool)(ι:cj)(σ:St)(ac:Act)(w:World),aL B ι σ ac w->Cy C ops n Cl σ R->∀(L:Array Bool)(ar:Act),Rf C.P ops L Cl ar ac w->vW ops L=0->wpAny C.P .any ops Q 0 L ar w:=by
  intro n Cl ι σ ac w m h L ar f O
  have r:∀i,i<ops.size->L.getD i false=true:=by
   intro i s;unfold vW at O;have a7:=eq_nil_of_length_eq_zero O;cases hL:L.getD i false with
   |true=>rfl
   |false=>
    have:i∈(List.range ops.size).filter λi=> !L.getD i false:=mem_filter.2 ⟨mem_range.2 s,by simp[hL]⟩;rw[a7]at this;cases this
  have Z:=C3 r;exact⟨Z,fin n Cl ι σ ac w m h L ar f Z⟩
 have A:∀(n b:Nat),(∀(Cl:Array Bool)(ι:cj)(σ:St)(ac:Act)(w:World),aL B ι σ ac w->Cy C ops n Cl σ R->∀(L:Array Bool)(ar:Act),Rf C.P ops L Cl ar ac w->vW ops L=b->wpAny C.P .any ops Q b L ar w)->
  ∀(Cl:Array Bool)(ι:cj)(σ:St)(ac:Act)(w:World),aL B ι σ ac w->Cy C ops n Cl σ R->∀(L:Array Bool)(ar:Act),Rf C.P ops L Cl ar ac w->vW ops L=b+1->
   ∀i∈Region.ready .any ops L,Cl.getD i false=true->wpOp C.P ops Q i (wpAny C.P .any ops Q b (L.setIfInBounds i true)) ar w:=by
  intro n b ih Cl ι σ ac w m h L ar f O i s z;obtain⟨T,o,p,U⟩:=vM.1 s;obtain⟨hL,b5⟩:=ML T;obtain⟨v,hv,b6,b7⟩:=f.pend i o p z hL
  have hy:Yd C.P ops w o v ar:=by
   rcases N.look i o p with V|b8
   .obtain⟨he,a1⟩:=HK (N.sel i o · · p) (f.looks V U);exact(hv V w (.inr rfl)).congr he a1
   .exact b6 b8 w
  have D:wpAny C.P .any ops Q b (L.setIfInBounds i true) (ar.put o.dst v) w:=
   ih Cl ι σ ac w m h _ _ (f.stepA N p z U b7) (by have:=HW f.szL (by have:=f.szL;omega) hL;omega)
  unfold wpOp;simp only[p];rcases hy with⟨l,E⟩|⟨l,rfl⟩
  .rw[if_pos l];left;unfold Oper.wp;rw[E,Oper.upon_value];exact D
  .rw[if_neg (by simp[l])];exact D
 intro n
 induction n with
 |zero=>
  intro b
  induction b with
  |zero=>exact zero 0
  |succ b a2=>
   intro Cl ι σ ac w m h L ar f O;refine⟨fin 0 Cl ι σ ac w m h L ar f,λi s=>?_⟩;cases z:Cl.getD i false with
   |true=>exact A 0 b a2 Cl ι σ ac w m h L ar f O i s z
   |false=>
    exfalso;obtain⟨T,o,p,U⟩:=vM.1 s
    have t:i∈Region.ready .any ops Cl:=by
     rw[vM];refine⟨?_,o,p,λk hk=>f.sub k (U k hk)⟩;have:i<Cl.size:=by rw[f.szC];exact(Array.getElem?_eq_some_iff.1 p).1
     simp[Array.getD,this]at z⊢
     exact z
    simp only[Cy]at h;split at h
    .rename_i Z;rw[Z]at t;cases t
    .exact h
 |succ n a3=>
  intro b
  induction b with
  |zero=>exact zero (n+1)
  |succ b a2=>
   intro Cl ι σ ac w m h L ar f O;refine⟨fin (n+1) Cl ι σ ac w m h L ar f,λi s=>?_⟩;cases z:Cl.getD i false with
   |true=>exact A (n+1) b a2 Cl ι σ ac w m h L ar f O i s z
   |false=>
    obtain⟨T,o,p,U⟩:=vM.1 s;obtain⟨b9,b5⟩:=ML T
    have t:i∈Region.ready .any ops Cl:=by
     rw[vM];refine⟨?_,o,p,λk hk=>f.sub k (U k hk)⟩;have:i<Cl.size:=by rw[f.szC];exact(Array.getElem?_eq_some_iff.1 p).1
     simp[Array.getD,this]at z⊢
     exact z
    simp only[Cy]at h;split at h
    .rename_i Z;rw[Z]at t;cases t
    .split at h
     ·
      rename_i k ok c';obtain⟨c0,a4,F⟩:=EC c';obtain⟨a8,c5,a0,a9⟩:=vM.1 c0;rw[a4]at a0;cases a0;obtain⟨b',c4⟩:=ML a8;obtain⟨σ1,a5,c6,hc⟩:=Cv m h;rcases hc with⟨l,h⟩|⟨l,h⟩
      .obtain⟨v,x,E,hx,hK⟩:=arZ a5 F h;have G:=f.take N a4 b' a9 F (v:=v) (λb0 b1=>.inl ⟨l,E b0 b1⟩);exact(a3 (b+1) _ ι _ _ w (a5.put ok.dst hx) hK L ar G O).2 i s
      .have G:=f.take N a4 b' a9 F (v:=undef) (λb0 _=>.inr ⟨l,rfl⟩);exact(a3 (b+1) _ ι _ _ w (a5.put ok.dst (x:=.at (.val undef)) rfl) h L ar G O).2 i s
     ·
      have hg:=Re h i t;split at hg
      .rename_i o' b2;rw[jE,Array.getElem?_toList,p]at b2;cases b2;obtain⟨hg,a6⟩:=M1 _ 0 hg;obtain⟨he,a1⟩:=HK (N.sel i o · · p) ((N.look i o p).elim (f.looks · U) (f.looks' · z));have H:=TT M m hg (λa' I=>∃ι' y,aL B ι' y a' I/\JG C ops Cl σ o y (Cy C ops n (Cl.setIfInBounds i true) y R)/\HR σ ι o w I) Q (λι' y a' I h1 h2 h3=>⟨ι',y,h1,h2,h3⟩)
       have hB:∀(u:Value)(I:World),(∃ι' y,aL B ι' y (ac.put o.dst u) I/\JG C ops Cl σ o y (Cy C ops n (Cl.setIfInBounds i true) y R)/\HR σ ι o w I)->
        wpAny C.P .any ops Q b (L.setIfInBounds i true) (ar.put o.dst u) I:=by
        rintro u I ⟨ι',y,W,h',c1⟩;obtain⟨c2,h'⟩:=Vg h';refine a3 b _ ι' y _ I W h' _ _ (f.stepB N p z U u I ?_) (by have:=HW f.szL (by have:=f.szL;omega) b9;omega);intro j oj v hj X Y hy;cases J:zO ops σ oj with
        |true=>
         have:=R5 m J;rcases hy with⟨h1,_⟩|h1
         .rw[this]at h1;cases h1
         .exact .inl (.inr h1)
        |false=>
         have b3:waits o j=false:=by
          cases c3:waits o j with
          |false=>rfl
          |true=>rw[U j c3]at Y;cases Y
         have V:=a6 j oj (by rw[Array.getElem?_toList];exact hj) (bo X) (f.rd j oj hj X Y) (bo b3) J;exact a3J m c1 V (λe=>⟨y,W.wrel,c2 e j oj (by rw[Array.getElem?_toList];exact hj) (bo X) (f.rd j oj hj X Y) (bo b3) J⟩) hy
       unfold GWp at H;unfold wpOp;simp only[p];rw[a1];split
       .rename_i l;rw[if_pos l]at H;left;refine SQ he H hB ?_ b4;rintro d I ⟨ι',y,W,_⟩;have:=W.defers;rw[<-m.defers]at this;cases hd:o.dst<;>simp[Act.put,hd]at this
       .rename_i l;rw[if_neg l]at H;exact hB undef w H
      .exact hg.elim
end
end Go.Vc
namespace Go.Vc
open Go List
section
variable{B:sP}{C:Ctx}{ι:cj}{σ:St}{a:Act}{w:World}
theorem zN:∀{xs e:dk}{vs:bw}{K:Prop},Cr xs e K->DenS ι xs vs->DenS ι e vs/\K
 |[],[],vs,K,h,b=>⟨b,h⟩
 |x::xs,y::e,[],K,_,b=>b.elim
 |x::xs,y::e,v::vs,K,h,b=>by
  unfold Cr at h;split at h
  .rename_i c d;cases c
  .rename_i i f g c d;simp only[List.cons.injEq]at c d;obtain⟨rfl,rfl⟩:=c;obtain⟨rfl,rfl⟩:=d;have:=zN h b.2;exact⟨⟨trivial,this.1⟩,this.2⟩
  .rename_i i f j g _ c d;simp only[List.cons.injEq]at c d;obtain⟨rfl,rfl⟩:=c;obtain⟨rfl,rfl⟩:=d;obtain⟨rfl,h⟩:=h;have:=zN h b.2;exact⟨⟨b.1,this.1⟩,this.2⟩
  .exact h.elim
 |[],_::_,_,K,h,_=>by simp[Cr]at h
 |_::_,[],_,K,h,_=>by simp[Cr]at h
theorem w7:∀{xs c:dc}{K:Prop},w8 xs c K->(∀k o,nth c k=some (some o)->nth xs k=some (some o))/\K
 |[],[],K,h=>⟨λk o b=>by simp[nth]at b,h⟩
 |x::xs,none::c,K,h=>by
  simp only[w8]at h;obtain⟨d,e⟩:=w7 h;refine⟨λk o b=>?_,e⟩;cases k with
  |zero=>simp[nth]at b
  |succ k=>exact d k o b
 |x::xs,some y::c,K,h=>by
  simp only[w8]at h;obtain⟨rfl,h⟩:=h;obtain⟨d,e⟩:=w7 h;refine⟨λk o b=>?_,e⟩;cases k with
  |zero=>exact b
  |succ k=>exact d k o b
 |[],_::_,K,h=>by simp[w8]at h
 |_::_,[],K,h=>by simp[w8]at h
theorem aL.setSlot(b:aL B ι σ a w){i:Nat}{x:SV}{v:Value}(d:a.tmps[i]? =some v)(f:Den ι x v):aL B ι (σ.put (some i) x) a w:=by
 refine⟨?_,b.defers,b.own,b.dist,b.fresh,b.wrel,b.one⟩;have:=b.slots.set i f;show DenS ι (σ.sl.set i x) a.tmps.toList
 have e:a.tmps.toList.set i v=a.tmps.toList:=by
  apply ext_getElem?;intro j;rw[getElem?_set];split
  .rename_i g;subst g;rw[Array.getElem?_toList,d];split
   .rfl
   .rename_i c;simp at c;rw[Array.getElem?_eq_none c]at d;cases d
  .rfl
 rw[e]at this;exact this
theorem aL.nilList(c:aL B ι σ a w)(k E sz:Nat):aL B (upd ι k (.slice none 0 0)) ((σ.kill k).setOwn k (some (.lst E sz []))) a w:=by
 refine c.place k _ _ (Dh.refl _ _) ⟨Ho sz,World.ownsRow_nil w 0 E sz⟩ rfl (λb d=>by simp[blk]at d)
theorem tL(τ:St):∀(c:dk)(i:Nat)(ι:cj)(σ:St),aL B ι σ a w->∃g,aL B g (Sn τ c i σ) a w
 |[],i,ι,σ,b=>⟨ι,b⟩
 |y::c,i,ι,σ,b=>by
  simp only[Sn];split
  .rename_i k;split
   .rename_i f;split
    .rename_i E h j l m
     have d:a.tmps[i]? =some (.slice none 0 0):=by
      rw[jE]at f;obtain⟨v,d,e⟩:=b.slots.get i _ f;rw[Array.getElem?_toList]at d;have e:v= .slice none 0 0:=e;rw[d,e]
     exact tL τ c (i+1) _ _ ((b.nilList k E h).setSlot d (x:=.at (.lst k)) (by show _=_;simp))
    .exact tL τ c (i+1) ι σ b
   .exact tL τ c (i+1) ι σ b
  .exact tL τ c (i+1) ι σ b
theorem mW(τ:St)(q:Nat):∀(f:cr)(j:Nat)(ι:cj)(σ:St),aL B ι σ a w->∃I,aL B I (G0 τ q f j σ) a w
 |[],j,ι,σ,d=>⟨ι,d⟩
 |y::f,j,ι,σ,d=>by
  simp only[G0];split
  .rename_i k;split
   .rename_i p T J n;split
    .rename_i H;split
     .rename_i E u S U M;have i:q≠k:=λe=>by subst e;rw[M]at n;cases n
      have z:=d.nilList k E u
      have c:nth ((σ.kill k).setOwn k (some (.lst E u []))).own q=some (some (.cellsP p T (J.map (At.sub k (λ_=>.junk))))):=by
       simp only[MJ,St.setOwn,St.sub,yG,B3,i,false_and,if_false,n];rfl
      obtain⟨b,r,l,s,N⟩:=vN z c
      have g:r.toList[j]? =some (.slice none 0 0):=by
       obtain⟨V,O,A,D,F⟩:=vN d n;rw[jE]at H;obtain⟨v,Q,h⟩:=F.get j _ H;have h:v= .slice none 0 0:=h;rw[oZ _ _ i,A]at l;simp only[Value.pointer.injEq,Option.some.injEq,Addr.mk.injEq]at l;obtain⟨rfl, -, -⟩:=l;rw[D]at s;simp only[Option.some.injEq,Obj.cells.injEq]at s;rw[<-s.1,Q,h]
      have m:r.toList.set j (.slice none 0 0)=r.toList:=by
       apply ext_getElem?;intro t;rw[getElem?_set];split
       .rename_i e;subst e;rw[g];split
        .rfl
        .rename_i G;rw[getElem?_eq_none (Nat.le_of_not_lt G)]at g;cases g
       .rfl
      have R:aL B (upd ι k (.slice none 0 0)) (Hl ((σ.kill k).setOwn k (some (.lst E u []))) q j (.lst k)) a w:=by
       unfold Hl;rw[c];refine z.rewrite c (Dh.refl _ _) ⟨b,r,l,s,?_,λW e=>by subst e;have:=Yb z c;rw[l]at this;simpa using this⟩;have:=N.set j (x:=.lst k) (v:=.slice none 0 0) (by show _=_;simp)
       rwa [m]at this
      exact mW τ q f (j+1) _ _ R
     .exact mW τ q f (j+1) ι σ d
    .exact mW τ q f (j+1) ι σ d
   .exact mW τ q f (j+1) ι σ d
  .exact mW τ q f (j+1) ι σ d
theorem zU(τ:St):∀(b:dc)(q:Nat)(ι:cj)(σ:St),aL B ι σ a w->∃d,aL B d (MO τ b q σ) a w
 |[],q,ι,σ,c=>⟨ι,c⟩
 |y::b,q,ι,σ,c=>by
  simp only[MO];split
  .rename_i T f;obtain⟨d,e⟩:=mW τ q f 0 ι σ c;exact zU τ b (q+1) d _ e
  .exact zU τ b (q+1) ι σ c
theorem pV{τ:St}{K:Prop}(t:aL B ι σ a w)(h:w6 σ τ K):∃u,aL B u τ a w/\K:=by
 obtain⟨v,f⟩:=tL τ τ.sl 0 ι σ t;obtain⟨m,c⟩:=zU τ τ.own 0 v _ f;have c:aL B m (conv σ τ) a w:=c;unfold w6 at h;obtain⟨g,h⟩:=zN h c.slots;obtain⟨d,n,p,x⟩:=w7 h;refine⟨m,⟨g,c.defers,λk o e=>c.own k o (d k o e),λk r o s b e i j l=>c.dist k r o s b (d k o e) (d r s i) j l,?_,?_,c.one⟩,x⟩
 .intro k o b e j;rw[<-n, <-p];exact c.fresh k o b (d k o e) j
 .rw[<-n, <-p];exact c.wrel
theorem aL.froze(l:aL B ι σ a w){m2:MH}{g:PH}(f:FV σ.m σ.h m2 g):aL B ι {σ with m:=m2,h:=g} a w:=by
 have d:=l.wrel;refine⟨l.slots,l.defers,l.own,l.dist,λk o b y z=>?_,?_,l.one⟩
 .obtain⟨A,p,D⟩:=l.fresh k o b y z;refine⟨A,?_,λi=>?_⟩
  .show m2 b=none;cases j:m2 b with
   |none=>rfl
   |some o=>rw[f.sub b o j]at p;cases p
  .show g b i=none;cases j:g b i with
   |none=>rfl
   |some v=>
    rcases f.new b i v j with c|⟨r,E,s,c,_,_⟩
    .rw[D i]at c;cases c
    .rw[p]at c;cases c
 .refine⟨d.tape,d.os,d.output,d.drawn,d.size,d.frame,λb o v e=>?_,λb o e=>d.msat b o (f.sub b o e),λb o e i=>?_,λb o v e=>f.le.le b o v (d.hle b o v e),λb F n=>?_,λb o e=>d.mfr b o (f.sub b o e)⟩
  .rcases f.new b o v e with c|⟨r,E,s,c,t,_⟩
   .exact d.hsat b o v c
   .rw[cell_of_heap (d.msat b _ c),Array.getElem?_toList];exact t
  .show g b i=none;have e:m2 b=some o:=e;cases j:g b i with
   |none=>rfl
   |some v=>
    rcases f.new b i v j with c|⟨r,E,s,c,t,u⟩
    .rw[d.disj b o (f.sub b o e) i]at c;cases c
    .rw[u]at e;cases e
  .funext i;have e:=congrFun (d.hold b F n) i;show g b i=B.h0 b i;cases j:B.h0 b i with
   |some v=>exact f.le.le b i v (d.hle b i v j)
   |none=>
    cases G:g b i with
    |none=>rfl
    |some v=>
     rcases f.new b i v G with c|⟨r,E,s,c,t,u⟩
     .rw[e,j]at c;cases c
     .rcases d.mfr b _ c with x|x
      .omega
      .exact(n x).elim
theorem Jc{τ:St}{K:Prop}(s:aL B ι σ a w)(h:RY σ τ K):∃t,aL B t τ a w/\K:=by
 obtain⟨u,g⟩:=tL τ τ.sl 0 ι σ s;obtain⟨n,c⟩:=zU τ τ.own 0 u _ g;have c:aL B n (conv σ τ) a w:=c;unfold RY at h;obtain⟨i,h⟩:=zN h c.slots;obtain⟨d,v,x⟩:=w7 h;have e:=c.froze v;exact⟨n,⟨i,c.defers,λk o f=>c.own k o (d k o f),λk p o r b f j l m=>c.dist k p o r b (d k o f) (d p r j) l m,λk o b f l=>e.fresh k o b (d k o f) l,e.wrel,c.one⟩,x⟩
theorem Lt{c:vP}{R:c.A->Prop}(d:aL B ι σ a w)(h:Ma c R σ):∃x i,R x/\aL B i (c.st x) a w:=by
 unfold Ma at h;split at h
 .obtain⟨x,e,f⟩:=h;obtain⟨g,b,_⟩:=pV d f;exact⟨x,g,e,b⟩
 .obtain⟨x,e,f⟩:=h ⟨d.wrel.disj⟩;obtain⟨g,b,_⟩:=Jc d f;exact⟨x,g,e,b⟩
theorem Vf{c:vP}{I S:c.A->Prop}(d:aL B ι σ a w)(h:Sv c I S σ):∃x j,I x/\S x/\aL B j (c.st x) a w:=by
 unfold Sv at h;split at h
 .obtain⟨x,e,f,g⟩:=h;obtain⟨i,b,_⟩:=pV d g;exact⟨x,i,e,f,b⟩
 .obtain⟨x,e,f,g⟩:=h ⟨d.wrel.disj⟩;obtain⟨i,b,_⟩:=Jc d g;exact⟨x,i,e,f,b⟩
def QD(B:sP)(Q:JL->St->Prop):Exit->Act->World->Prop
 |.normal,a,w=>∃ι σ,aL B ι σ a w/\Q .normal σ
 |.exit id,a,w=>∃ι σ,aL B ι σ a w/\Q (.exit id) σ
 |.ret,a,w=>∃ι σ,aL B ι σ a w/\Q .ret σ
 |_,_,_=>False
theorem Pl(b:∀g S,assoc C.specs g=some S->Sound C.P g S){ops:Array Oper}{Q:JL->St->Prop}:
 ∀(c:da)(l:List Oper)(s:Nat)(ι:cj)(σ:St)(a:Act)(w:World),(∀j,l[j]? =ops.toList[s+j]?)->aL B ι σ a w->X5 C ops c l σ (Q .normal)->wpOpsIn Fence.wide 0 C.P ops (QD B Q) (range' s l.length) a w
 |[],l,s,ι,σ,a,w,d,e,h=>by
  have:=Hm b (ops:=ops) (Q:=QD B Q) (R:=Q .normal) (rest:=[]) (λι σ a w e h=>⟨ι,σ,e,h⟩) l s ι σ a w (λj _=>d j) e h;simpa using this
 |(n,f)::c,l,s,ι,σ,a,w,d,e,h=>by
  obtain⟨I,u,v⟩:=h
  have:=Hm b (ops:=ops) (Q:=QD B Q) (R:=λτ=>∃x,I x/\w6 τ (f.st x) True) (rest:=range' (s+(l.take n).length) (l.drop n).length) (λF G y z i m=>by
   obtain⟨x,m,A⟩:=m;obtain⟨D,p,_⟩:=pV i A;refine Pl b c (l.drop n) (s+(l.take n).length) D _ y z (λj=>?_) p (v x m);rw[getElem?_drop,d];by_cases H:n<=l.length
   .congr 1;simp;omega
   .have r:l[n+j]? =none:=getElem?_eq_none aD;have t:l[l.length+j]? =none:=getElem?_eq_none aD;rw[d]at r t;rw[r,show s+(List.take n l).length+j=s+(l.length+j)by simp;omega,t]) (l.take n) s ι σ a w (λj E=>by
    rw[<-d,getElem?_take];rw[if_pos (by simp at E;omega)]) e u
  rwa [range'_append_1, <-length_append,take_append_drop]at this
theorem MV(u:∀g S,assoc C.specs g=some S->Sound C.P g S):∀(c:Code)(σ:St)(Q:JL->St->Prop)(ι:cj)(a:Act)(w:World),aL B ι σ a w->VC C c σ Q->c.wp C.P (QD B Q) a w:=by
 intro c
 induction c with
 |skip=>intro σ Q ι a w d h;exact wp_skip ⟨ι,σ,d,h⟩
 |label l=>intro σ Q ι a w d h;exact wp_label ⟨ι,σ,d,h⟩
 |exit id=>intro σ Q ι a w d h;exact wp_exit ⟨ι,σ,d,h⟩
 |ret=>intro σ Q ι a w d h;exact wp_ret ⟨ι,σ,d,h⟩
 |goto l=>intro σ Q ι a w d h;exact h.elim
 |refuse a3=>intro σ Q ι a w d h;exact h.elim
 |scope a2 Y=>intro σ Q ι a w d h;exact h.elim
 |rangeFunc f ps x y v z=>intro σ Q ι a w d h;exact h.elim
 |region id ops Z=>
  intro σ Q ι a w d h;cases Z with
  |false=>
   refine(wpIn_wide (n:=0)).1 (wpIn_region ?_);have:=Pl u (ops:=ops) (Q:=Q) (M9 C id) ops.toList 0 ι σ a w (λj=>bj) d h;rw[range_eq_range'];simpa using this
  |true=>
   simp only[VC]at h;split at h
   .rename_i h1 h2 h3;have hs:=bBQ h1 h2;refine wp_region_any h3 ?_;refine akJ u hs (Q:=QD B Q) (R:=Q .normal) (λι σ a w d h=>⟨ι,σ,d,h⟩) (λc a w h=>h) ops.size ops.size _ ι σ a _ (d.drew (w.drawn+1) (Nat.le_succ _)) h _ a ?_ ?_
    .have H:∀i,(Array.replicate ops.size false).getD i false=true->False:=by
      intro i A;by_cases r:i<ops.size
      .simp[Array.getD,r]at A
      .simp[Array.getD,r]at A
     exact⟨bj,bj,λi A=>A,λi o _ A=>(H i A).elim,λi o _ A=>(H i A).elim,λi o _ A=>(H i A).elim,rfl,rfl,λt _=>rfl,λi o _ A=>(H i A).elim⟩
    .unfold vW;rw[filter_eq_self.2]
     .simp
     .intro i A;by_cases r:i<ops.size<;>simp[Array.getD,r]
   .exact h.elim
 |seq x y v z=>
  intro σ Q ι a w d h;simp only[VC]at h;split at h
  .obtain⟨h,p⟩:=h;refine wp_seq (wp_mono (v σ _ ι a w d h) ?_);intro e D E b;cases e with
   |normal=>
    obtain⟨G,W,m,x,J,M⟩:=b;show y.wp C.P (QD B Q) D E;obtain⟨N,s,_⟩:=pV m M;exact z _ Q N D E s (p x J)
   |exit id=>exact b
   |ret=>exact b
   |goto l=>exact b
   |panic ch=>exact b
   |outgrown=>exact b
  .split at h
   .obtain⟨I,h,p⟩:=h;refine wp_seq (wp_mono (v σ _ ι a w d h) ?_);intro e D E b;cases e with
    |normal=>
     obtain⟨G,W,m,M⟩:=b;show y.wp C.P (QD B Q) D E;obtain⟨x,N,J,s⟩:=Lt m M;exact z _ Q N D E s (p x J)
    |exit id=>exact b
    |ret=>exact b
    |goto l=>exact b
    |panic ch=>exact b
    |outgrown=>exact b
   .refine wp_seq (wp_mono (v σ _ ι a w d h) ?_);intro e D E b;cases e with
    |normal=>
     obtain⟨G,W,m,X⟩:=b;show y.wp C.P (QD B Q) D E;exact z W Q G D E m X
    |exit id=>exact b
    |ret=>exact b
    |goto l=>exact b
    |panic ch=>exact b
    |outgrown=>exact b
 |cond c x y v z=>
  intro σ Q ι a w d h;simp only[VC]at h;split at h
  .rename_i t hc;have F:=d.ev c;rw[hc]at F;have F:a.eval c= .bool t:=F;rcases Af h with⟨rfl,h⟩|⟨rfl,h⟩
   .exact wp_cond_true F (v _ Q ι a w (d.setTmp hc) h)
   .exact wp_cond_false F (z _ Q ι a w (d.setTmp hc) h)
  .exact h.elim
 |block id c Y=>
  intro σ Q ι a w d h;refine wp_block (wp_mono (Y σ _ ι a w d h) ?_);intro e D E b;cases e with
  |normal=>exact b
  |exit i=>
   obtain⟨G,W,m,X⟩:=b;show if i=id then _ else _
   simp only at X;split at X
   .rename_i hb;rw[if_pos (Nat.eq_of_beq_eq_true hb)];exact⟨G,W,m,X⟩
   .rename_i hb;rw[if_neg (λe=>by subst e;simp at hb)];exact⟨G,W,m,X⟩
  |ret=>exact b
  |goto l=>exact b
  |panic ch=>exact b
  |outgrown=>exact b
 |loop c Y=>
  intro σ Q ι a w d h;simp only[VC]at h;split at h
  .rename_i l hl;obtain⟨⟨x,J,M⟩,p⟩:=h;obtain⟨N,s,_⟩:=pV d M;refine wp_loop_ghost (λn a w=>∃x ι,l.inv x/\l.mu x=n/\aL B ι (l.st x) a w) (l.mu x) ⟨x,N,J,rfl,s⟩ ?_;rintro n D E ⟨x',G,O,rfl,m⟩;refine wp_mono (Y _ _ G D E m (p x' O)) ?_;intro e a0 a1 b;cases e with
   |normal=>
    obtain⟨ι3,σ3,T,y,hy,r,U⟩:=b;obtain⟨ι4,V,_⟩:=pV T U;exact⟨l.mu y,r,y,ι4,hy,rfl,V⟩
   |exit id=>exact b
   |ret=>exact b
   |goto l=>exact b
   |panic ch=>exact b
   |outgrown=>exact b
  .split at h
   .rename_i l hl;obtain⟨I,mu,M,p⟩:=h;obtain⟨x,N,J,s⟩:=Lt d M;refine wp_loop_ghost (λn a w=>∃x ι,I x/\mu x=n/\aL B ι (l.st x) a w) (mu x) ⟨x,N,J,rfl,s⟩ ?_;rintro n D E ⟨x',G,O,rfl,m⟩;refine wp_mono (Y _ _ G D E m (p x' O)) ?_;intro e a0 a1 b;cases e with
    |normal=>
     obtain⟨ι3,σ3,T,U⟩:=b;obtain⟨y,ι4,hy,r,V⟩:=Vf T U;exact⟨mu y,r,y,ι4,hy,rfl,V⟩
    |exit id=>exact b
    |ret=>exact b
    |goto l=>exact b
    |panic ch=>exact b
    |outgrown=>exact b
   .exact h.elim
end
end Go.Vc
namespace Go.Vc
open Go List
section
variable{B:sP}{C:Ctx}{ι:cj}{σ:St}{a:Act}{w:World}
def R9(tmps:Array Value):ResultVar->Sem Value
 |.tmp t=>pure (tmps.getD t undef)
 |.cell a t=>do loadVar t (<-asAddr (tmps.getD a undef))
theorem VA(fn:Func)(tmps:Array Value):results fn tmps=(do let vs <-fn.results.mapM (R9 tmps);pure (if h:vs.size=1 then vs[0]else .tuple vs)):=by
 unfold results;congr 1
theorem Tm(f:aL B ι σ a w){r:ResultVar}{x:SV}(h:X7 C σ r=some x):∃v,(R9 a.tmps r).run C.P w= .ok v w/\Den ι x v:=by
 cases r with
 |tmp t=>
  simp only[X7,Option.some.injEq]at h;subst h;exact⟨_,rfl,f.ev (.tmp t)⟩
 |cell m T=>
  have d:=f.ev (.tmp m);simp only[X7]at h;split at h
  .rename_i k off u;rw[u]at d;split at h
   .rename_i p T' cs y;split at h
    .rename_i e z;have e:=Nat.le_of_ble_eq_true e;simp only[Option.some.injEq]at h;subst h;obtain⟨b,n,A,D,s⟩:=vN f y;obtain⟨H,c,E⟩:=d;rw[A]at c;simp only[Value.pointer.injEq,Option.some.injEq,Addr.mk.injEq]at c;obtain⟨rfl, -, -⟩:=c;have g:=(s.drop off).take (C.P.cellsOf T);have i:cs.length=n.toList.length:=s.length;have F:=BW (w:=w) (b:=b) (off:=off) (cs:=(n.toList.drop off).take (C.P.cellsOf T)) z (by simp at i⊢;omega) (λj v G=>by rw[cell_of_heap D];exact xQ G);refine⟨_,?_,KU g⟩;have l:a.tmps.getD m undef= .pointer (some ⟨b,off,none⟩):=E;simp only[R9,l,asAddr,Sem.run_bind,Sem.run_pure,Result.andThen_ok,F]
    .cases h
   .cases h
  .cases h
theorem Ia(f:aL B ι σ a w):∀(l:List ResultVar)(xs:dk),J4 C σ l=some xs->∃vs,(l.mapM (R9 a.tmps)).run C.P w= .ok vs w/\DenS ι xs vs
 |[],xs,h=>by
  simp[J4]at h;subst h;exact⟨[],bj,trivial⟩
 |r::l,xs,h=>by
  simp only[J4]at h;split at h
  .rename_i x b g c;simp only[Option.some.injEq]at h;subst h;obtain⟨v,i,j⟩:=Tm f g;obtain⟨vs,d,e⟩:=Ia f l b c;exact⟨v::vs,by simp[mapM_cons,i,d],j,e⟩
  .cases h
theorem xC(A:aL B ι σ a w){mv:Bool}:∀(xs:dk)(ts:di)(rs:ct)(vs:bw),Df C.P σ mv xs ts=some rs->DenS ι xs vs->
 rs.length=vs.length/\(mv=false->rs=vs.map .val)/\∀(i:Nat)(r:CV)(v:Value),rs[i]? =some r->vs[i]? =some v->FW w r v/\∀b,iC r v=some b->∃k m,nth σ.own k=some (some m)/\blk (ι k)=some b
 |[],ts,rs,[],h,_=>by
  simp[Df]at h;subst h;exact⟨rfl,λ_=>rfl,λi r v c=>by simp at c⟩
 |[],_,_,_::_,_,d=>d.elim
 |x::xs,_,_,[],_,d=>d.elim
 |x::xs,ts,rs,v::vs,h,d=>by
  simp only[Df]at h;split at h
  .cases h
  .rename_i l G;obtain⟨p,s,t⟩:=xC A xs ts.tail l vs G d.2
   have fin:∀(n:CV),rs=n::l->(mv=false->n= .val v)->FW w n v->(∀b,iC n v=some b->∃k m,nth σ.own k=some (some m)/\blk (ι k)=some b)->
    rs.length=(v::vs).length/\(mv=false->rs=(v::vs).map .val)/\∀(i:Nat)(r:CV)(u:Value),rs[i]? =some r->(v::vs)[i]? =some u->FW w r u/\∀b,iC r u=some b->∃k m,nth σ.own k=some (some m)/\blk (ι k)=some b:=by
    intro n y H I J;subst y;refine⟨by simp[p],λD=>by rw[H D,s D];rfl,λi r u c g=>?_⟩;cases i with
    |zero=>simp at c g;subst c g;exact⟨I,J⟩
    |succ i=>simp only[getElem?_cons_succ]at c g;exact t i r u c g
   split at h
   .split at h
    .rename_i k;have f:v=ι k:=d.1;split at h
     .rename_i E N O F;simp only[Option.some.injEq]at h;obtain⟨c,M⟩:=rH A F;exact fin _ h.symm (λe=>by cases e) ⟨c,by rw[f];exact M⟩ (λb j=>⟨k,_,F,by rw[<-f];exact j⟩)
     .cases h
    .have f:v= .slice none 0 0:=d.1;split at h
     .rename_i E z Q;simp only[Option.some.injEq]at h;refine fin _ h.symm (λe=>by cases e) ⟨Ho _,by rw[f];exact World.ownsRow_nil w 0 E _⟩ (λb j=>?_);rw[f]at j;simp[iC,blk]at j
     .cases h
    .cases h
   .split at h
    .rename_i u g;simp only[Option.some.injEq]at h;have f:=(d.1).val? g;exact fin _ h.symm (λ_=>by rw[f]) f (λb j=>by simp[iC]at j)
    .cases h
theorem J3(N:aL B ι σ a w){fn:Func}{K:bu}(h:EL C fn K σ):
 ∃u,(results fn a.tmps).run C.P w= .ok u w/\∃r m' y,K r m' y/\FW w r u/\Ai B m' y w/\∀b,iC r u=some b->(B.w0.heap.size<=b\/B.E b)/\m' b=none/\∀i,y b i=none:=by
 unfold EL at h;split at h
 .exact h.elim
 .rename_i V O;obtain⟨W,s,h,_⟩:=nL _ _ N h;obtain⟨τ,d,h,_⟩:=xU _ _ s h;split at h
  .exact h.elim
  .rename_i Q z;obtain⟨f,A,l⟩:=Ia d _ _ z
   have j:(results fn a.tmps).run C.P w= .ok (if h:f.toArray.size=1 then f.toArray[0]else .tuple f.toArray) w:=by
    rw[VA,Array.mapM_eq_mapM_toList];simp[A]
   have g:∀(p:ct)(r:CV)(v:Value),Df C.P τ C.retMove Q fn.resultTypes.toList=some p->(∃i:Nat,p[i]? =some r/\f[i]? =some v)->FW w r v/\∀b,iC r v=some b->(B.w0.heap.size<=b\/B.E b)/\τ.m b=none/\∀i,τ.h b i=none:=by
    rintro p r v n ⟨i,x,R⟩;obtain⟨_,_,S⟩:=xC d _ _ _ _ n l;obtain⟨D,F⟩:=S i r v x R;refine⟨D,λb G=>?_⟩;obtain⟨k,T,U,H⟩:=F b G;exact d.fresh k T b U H
   split at h
   .rename_i r x;obtain⟨c,_,_⟩:=xC d _ _ _ _ x l;simp at c
    obtain⟨v,rfl⟩:∃v,f=[v]:=by
     match f,c with
     |[v],_=>exact⟨v,rfl⟩
    obtain⟨D,F⟩:=g _ r v x ⟨0,rfl,rfl⟩;refine⟨v,bo j,r,τ.m,τ.h,h,D,d.wrel,F⟩
   .rename_i p I n;split at h
    .exact h.elim
    .rename_i J;obtain⟨c,t,_⟩:=xC d _ _ _ _ n l
     have M:f.length≠1:=by
      intro e;rw[e]at c
      match p,c with
      |[r],_=>exact I r rfl
     refine⟨.tuple f.toArray,by rw[j,dif_neg (bo M)],.tup p,τ.m,τ.h,h,⟨f.toArray,rfl,bo (t J)⟩,d.wrel,λb G=>by simp[iC]at G⟩
   .exact h.elim
def NN(n:Nat)(b:ct)(vs:bw)(k:Nat):Value:=
 match b[k-n]?,vs[k-n]? with
 |some (.lst _ _ _),some v=>v
 |_,_=>.slice none 0 0
theorem qS{w:World}:∀{b:ct}{vs:bw},CY w b vs->b.length=vs.length/\∀(i:Nat)(c:CV)(v:Value),b[i]? =some c->vs[i]? =some v->FW w c v
 |[],[],_=>⟨rfl,λi c v h=>by simp at h⟩
 |c::cs,v::vs,h=>by
  obtain⟨f,g⟩:=qS h.2;refine⟨by simp[f],λi j l d e=>?_⟩;cases i with
  |zero=>simp at d e;subst d e;exact h.1
  |succ i=>simp at d e;exact g i j l d e
 |[],_::_,h=>h.elim
 |_::_,[],h=>h.elim
theorem LP{n:Nat}{all:ct}{avs:bw}{w:World}:∀(i:Nat)(b:ct)(vs:bw),CY w b vs->(∀j:Nat,b[j]? =all[i+j]?)->(∀j:Nat,vs[j]? =avs[i+j]?)->
 DenS (NN n all avs) (GZ n i b) vs
 |i,[],[],_,_,_=>trivial
 |i,c::b,v::vs,h,e,f=>by
  have d:=LP (n:=n) (all:=all) (avs:=avs) (i+1) b vs h.2 (λj=>by have:=e (j+1);simp only[getElem?_cons_succ]at this;rw[this];congr 1;omega) (λj=>by have:=f (j+1);simp only[getElem?_cons_succ]at this;rw[this];congr 1;omega);cases c with
  |val u=>exact⟨h.1,d⟩
  |lst E m p=>
   refine⟨?_,d⟩;show v=NN n all avs (n+i);have g:=e 0;have l:=f 0;simp at g l;unfold NN;rw[show n+i-n=i by omega, <-g, <-l]
  |tup r=>exact⟨trivial,d⟩
 |i,[],_::_,h,_,_=>h.elim
 |i,_::_,[],h,_,_=>h.elim
theorem Ju:∀(b:ct)(k:Nat)(o:Own),nth (Ac b) k=some (some o)->∃E sz xs,b[k]? =some (.lst E sz xs)/\o= .lst E sz xs
 |[],k,o,h=>by simp[Ac,nth]at h
 |c::b,0,o,h=>by
  cases c<;>simp[Ac,nth]at h;rename_i E sz xs;exact⟨E,sz,xs,rfl,h.symm⟩
 |c::b,k+1,o,h=>by
  have:nth (Ac b) k=some (some o):=by cases c<;>simpa[Ac,nth]using h
  obtain⟨E,sz,xs,d,e⟩:=Ju b k o this;exact⟨E,sz,xs,bo d,e⟩
theorem Q8{ι:cj}:∀(n:Nat)(vs:bw),vs.length=n->DenS ι (replicate n (.at .junk)) vs
 |0,[],_=>trivial
 |n+1,v::vs,h=>⟨trivial,Q8 n vs (bo h)⟩
 |0,_::_,h=>by simp at h
 |_+1,[],h=>by simp at h
theorem DenS.append{ι:cj}:∀{xs b:dk}{vs c:bw},DenS ι xs vs->DenS ι b c->DenS ι (xs++b) (vs++c)
 |[],_,[],_,_,d=>bo d
 |_::_,_,_::_,_,h,d=>⟨h.1,DenS.append h.2 d⟩
 |[],_,_::_,_,h,_=>h.elim
 |_::_,_,[],_,h,_=>h.elim
theorem Jt{w:World}{m:MH}{h:PH}{c:ct}{vs:bw}(n:Nat)(u:Bd w m h c vs):
 aL ⟨w,xG m c vs,h,[]⟩ (NN n c vs) (entry n c m h) {tmps:=vs.toArray++Array.replicate (n-vs.toArray.size) undef,defers:=[]} w:=by
 obtain⟨s,t⟩:=qS u.args
 have d:∀k o,nth (entry n c m h).own k=some (some o)->n<=k/\∃E l p,c[k-n]? =some (.lst E l p)/\o= .lst E l p/\∃v,vs[k-n]? =some v/\NN n c vs k=v/\FW w (.lst E l p) v:=by
  intro k o e;simp only[entry]at e;rw[jE]at e;by_cases g:k<n
  .rw[getElem?_append_left (bo g)]at e;simp[g]at e
  .rw[getElem?_append_right (bo (Nat.le_of_not_lt g))]at e;simp only[length_replicate]at e;rw[<-jE]at e;obtain⟨E,l,p,f,A⟩:=Ju c (k-n) o e
   have D:k-n<vs.length:=by
    rw[<-s];exact(List.getElem?_eq_some_iff.1 f).1
   have r:vs[k-n]? =some vs[k-n]:=getElem?_eq_getElem D;refine⟨aD,E,l,p,f,A,_,r,?_,t _ _ _ f r⟩;unfold NN;rw[f,r]
 refine⟨?_,rfl,?_,?_,?_,?_,?_⟩
 .have f:=LP (n:=n) (all:=c) (avs:=vs) 0 c vs u.args (λj=>bj) (λj=>bj);show DenS _ (GZ n 0 c++replicate (n-c.length) (.at .junk)) _;have:(vs.toArray++Array.replicate (n-vs.toArray.size) undef).toList=vs++replicate (n-vs.length) undef:=bj
  rw[this];exact f.append (Q8 _ _ (by simp[s]))
 .intro k o e;obtain⟨g,E,l,p,f,rfl,v,r,y,x⟩:=d k o e;rw[y];exact x
 .intro k J o O b e F i z;obtain⟨g,E,l,p,f,rfl,v,r,y,x⟩:=d k o e;obtain⟨M,E',Q,R,G,rfl,S,H,I,N⟩:=d J O F;rw[y]at i;rw[I]at z;have:=u.sep (k-n) (J-n) _ _ v S b f r G H i z;omega
 .intro k o b e i;obtain⟨g,E,l,p,f,rfl,v,r,y,x⟩:=d k o e;rw[y]at i;obtain⟨T,U⟩:=u.free (k-n) _ v b f r i;exact⟨.inr (.inr ⟨k-n,_,v,f,r,i⟩),T,U⟩
 .refine⟨rfl,rfl,rfl,Nat.le_refl _,Nat.le_refl _,λ_ _ _=>rfl,u.hsat,u.msat,u.disj,λ_ _ _ h=>h,λ_ _ _=>rfl,λb V i=>.inr (.inl (by have i:m b=some V:=i;rw[i];simp))⟩
 .intro k;unfold NN;split
  .rename_i E l p v f A;exact LA (t _ _ _ f A).2
  .rfl
theorem eV{P:Program}{f:FuncId}{fn:Func}{c:Code}(D:P.funcs[f]? =some fn)(E:fn.body=some c)(n:(fn.name== "runtime.NumGoroutine")=false){S:Spec}
 (y:∀d m h K,S d m h K->∃C:Ctx,C.P=P/\(∀g S,assoc C.specs g=some S->Sound P g S)/\sI C fn c (entry fn.ntmps d m h) K):Sound P f S:=by
 refine⟨⟨fn,D,by rw[E];rfl,n⟩,?_⟩;intro d z m h w K G H;obtain⟨C,rfl,j,I⟩:=y d m h K G;refine calls_of_wp D E ?_;refine wp_mono (MV j c _ _ _ _ w (Jt fn.ntmps H) I) ?_;intro e A s p
 have key:(∃ι σ,aL ⟨w,xG m d z,h,[]⟩ ι σ A s/\EL C fn K σ)->A.defers=[]/\∃v,(results fn A.tmps).run C.P s= .ok v s/\∃r u t x,Ending.returned v= .returned u/\K r t x/\FW s r u/\Ai ⟨w,xG m d z,h,[]⟩ t x s/\
  ∀b,iC r u=some b->(w.heap.size<=b\/xG m d z b)/\t b=none/\∀i,x b i=none:=by
  rintro⟨ι,σ,F,J⟩;obtain⟨u,M,r,t,x,N,O,Q,R⟩:=J3 F J;exact⟨F.defers,u,M,r,u,t,x,rfl,N,O,Q,R⟩
 cases e with
 |normal=>exact key p
 |ret=>exact key p
 |exit id=>obtain⟨_,_,_,h⟩:=p;exact h.elim
 |goto l=>exact p.elim
 |panic T=>exact p.elim
 |outgrown=>exact p.elim
theorem PE{P:Program}{f:FuncId}{fn:Func}{c:Code}(M:P.funcs[f]? =some fn)(y:fn.body=some c)(p:(fn.name== "runtime.NumGoroutine")=false){S:Spec}
 (z:∀d m h K,S d m h K->∃C:Ctx,C.P=P/\(∀g S,assoc C.specs g=some S->Sound P g S)/\sI C fn c (entry fn.ntmps d m h) (λr m' t=>∃m2 l,(∀b o,m2 b=some o->m' b=some o)/\PH.le h l/\PH.le l t/\K r m2 l)):Sound P f S:=by
 have G:=eV M y p (S:=λd m h K=>∃K',S d m h K'/\K=λr m' t=>∃m2 l,(∀b o,m2 b=some o->m' b=some o)/\PH.le h l/\PH.le l t/\K' r m2 l) (by
  rintro d m h K ⟨K',A,rfl⟩;exact z d m h K' A)
 refine⟨G.1,λd N m h w K A O=>?_⟩;refine(G.2 d N m h w _ ⟨K,A,rfl⟩ O).mono ?_;rintro e W ⟨r,u,m',t,Q,⟨m2,l,x,H,I,R⟩,D,n,E⟩
 have j:∀b i,t b i=none->l b i=none:=by
  intro b i e;cases s:l b i with
  |none=>rfl
  |some v=>rw[I.le b i v s]at e;cases e
 refine⟨r,u,m2,l,Q,R,D,?_,λb y=>?_⟩
 .refine⟨n.tape,n.os,n.output,n.drawn,n.size,n.frame,λb o v e=>n.hsat b o v (I.le b o v e),λb o e=>n.msat b o (x b o e),λb o e i=>j b i (n.disj b o (x b o e) i),H.le,λb T F=>?_,λb o e=>n.mfr b o (x b o e)⟩;funext i;have e:=congrFun (n.hold b T F) i;show l b i=h b i;cases s:h b i with
  |some v=>exact(H.le b i v s)
  |none=>exact j b i (by rw[e];exact s)
 .obtain⟨U,J,V⟩:=E b y;refine⟨U,?_,λi=>j b i (V i)⟩;cases s:m2 b with
  |none=>rfl
  |some o=>rw[x b o s]at J;cases J
def fW(h:PH)(K:bu):CV->MH->PH->Prop:=λr c f=>(∀b o,c b=some o->∀i,f b i=none)->∃d e,(∀b o,d b=some o->c b=some o)/\PH.le h e/\
 (∀b i v,e b i=some v->f b i=some v\/∃g E j,c b=some (.cells g E j)/\g[i]? =some v/\d b=none)/\K r d e
theorem Sound.strong{P:Program}{f:FuncId}{S:Spec}(I:Sound P f (λj m h K=>∃K',S j m h K'/\K=fW h K')):Sound P f S:=by
 refine⟨I.1,λj O m h w K Q R=>?_⟩;refine(I.2 j O m h w _ ⟨K,Q,rfl⟩ R).mono ?_;rintro e Z ⟨r,u,m',h',T,l,y,d,z⟩;obtain⟨J,n,s,M,t,U⟩:=l d.disj;refine⟨r,u,J,n,T,U,y,?_,λb V=>?_⟩
 .refine⟨d.tape,d.os,d.output,d.drawn,d.size,d.frame,λb o v e=>?_,λb o e=>d.msat b o (s b o e),λb o e i=>?_,M.le,λb A p=>?_,λb o e=>d.mfr b o (s b o e)⟩
  .rcases t b o v e with c|⟨D,E,F,c,G,_⟩
   .exact d.hsat b o v c
   .rw[cell_of_heap (d.msat b _ c),Array.getElem?_toList];exact G
  .cases g:n b i with
   |none=>rfl
   |some v=>
    rcases t b i v g with c|⟨D,E,F,c,G,N⟩
    .rw[d.disj b o (s b o e) i]at c;cases c
    .rw[N]at e;cases e
  .funext i;have e:=congrFun (d.hold b A p) i;show n b i=h b i;cases g:h b i with
   |some v=>exact(M.le b i v g)
   |none=>
    cases W:n b i with
    |none=>rfl
    |some v=>
     rcases t b i v W with c|⟨D,E,F,c,G,N⟩
     .rw[e]at c;have:h b i=some v:=c;rw[g]at this;cases this
     .rcases d.mfr b _ c with x|x
      .have x:w.heap.size<=b:=x;have A:b<w.heap.size:=A;omega
      .exact(p x).elim
 .obtain⟨X,H,Y⟩:=z b V;refine⟨X,?_,λi=>?_⟩
  .cases g:J b with
   |none=>rfl
   |some o=>rw[s b o g]at H;cases H
  .cases g:n b i with
   |none=>rfl
   |some v=>
    rcases t b i v g with c|⟨D,E,F,c,_,_⟩
    .rw[Y i]at c;cases c
    .rw[H]at c;cases c
theorem Zz{P:Program}{f:FuncId}{fn:Func}{c:Code}(i:P.funcs[f]? =some fn)(j:fn.body=some c)(d:(fn.name== "runtime.NumGoroutine")=false){S:Spec}
 (e:∀b m h K,S b m h K->∃C:Ctx,C.P=P/\(∀g S,assoc C.specs g=some S->Sound P g S)/\sI C fn c (entry fn.ntmps b m h) (fW h K)):Sound P f S:=
 .strong (eV i j d (S:=λb m h K=>∃K',S b m h K'/\K=fW h K') (by
  rintro b m h K ⟨K',l,rfl⟩;exact e b m h K' l))
end
end Go.Vc
namespace Go.Vc
open Go List
theorem aC{c:Bool}{A B:Prop}(b:c=true->A)(d:c=false->B):branch c A B:=by
 cases c
 .exact d rfl
 .exact b rfl
theorem aF{p:Prop}[Decidable p]{A B:Prop}(b:p->A)(c:¬p->B):branch (decide p) A B:=
 aC (λh=>b (of_decide_eq_true h)) (λh=>c (of_decide_eq_false h))
theorem dT{n:Int}(b: -9223372036854775808<=n)(c:n<9223372036854775808):IntKind.i64.wrap n=n:=by
 rw[IntKind.wrap_i64];omega
theorem aU.of_m{m:MH}{h:PH}{b off:Nat}{cs:Array Value}{E:TypeId}{c:Nat×Nat}{l:bw}(d:m b=some (.cells cs E c))(e:(cs.toList.drop off).take l.length=l):aU m h b off l:=.lent cs E c d e
end Go.Vc
namespace Go.Ps
open Go Go.Vc Go.Proofs List Tryz
variable{K:bu}{m:MH}{h:PH}{ps:bt}{cb:Nat}{l:bt}{i:Nat}{N:Nat}{m':MH}{h':PH}{co:bt}{gr:bt}{od:ca}{ta:Int}{li:Int}{xs:List bw}{sz:Nat}{ks:List bt}{rs:bt}{r:Sl}{a:bt}{b:Nat}
structure VV where
 kind:Int
 int:Int
 text:ByteArray
abbrev cd:=List VV
abbrev cz:=List (Sl×cd)
abbrev bx:=List cd
structure OV where
 kind:Int
 index:Int
 value:VV
abbrev dm:=List OV
structure PV where
 op:Int
 cmp:Int
 left:OV
 right:OV
 args:Sl
abbrev dg:=List PV
structure QV where
 op:Int
 table:Int
 where_:PV
 columns:Sl
 on:Sl
 group:Sl
 order:Sl
 limit:Int
 args:Sl
abbrev de:=List QV
variable{v:QV}
structure uD where
 op:Int
 table:Int
 where_:PV
 columns:Sl
 on:Sl
 group:Sl
 order:Sl
 limit:Int
 left:Int
 right:Int
structure nP where
 name:ByteArray
 kind:Int
structure EX where
 columns:Sl
 table:Int
structure cM where
 name:ByteArray
 columns:Sl
 key:Int
 references:Sl
 checks:Sl
structure cN where
 version:Int
 tables:Sl
variable{sc:cN}
abbrev dY(n:Int):Value:=.int .i64 n
abbrev gU(s:Sl):Value:=.slice s.a s.len s.cap
abbrev pO:Value:=.slice none 0 0
abbrev E8:Value:=.string ⟨⟨[]⟩⟩
abbrev vQp(b o:Nat):Value:=.pointer (some ⟨b,o,none⟩)
abbrev iI(n:Int):At:=.val (.int .i64 n)
abbrev oM(s:Sl):At:=.val (.slice s.a s.len s.cap)
abbrev FM:At:=.val (.slice none 0 0)
abbrev aQz:At:=.val (.string ⟨⟨[]⟩⟩)
abbrev fU(n:Int):SV:=.at (.val (.int .i64 n))
abbrev sQs(s:Sl):SV:=.at (.val (.slice s.a s.len s.cap))
abbrev sQn:SV:=.at (.val (.slice none 0 0))
abbrev sQp(b o:Nat):SV:=.at (.ptr b o)
abbrev sQo(b o:Nat):SV:=.at (.val (.pointer (some ⟨b,o,none⟩)))
abbrev sQb(b:Bool):SV:=.at (.val (.bool b))
abbrev sQl(k:Nat):SV:=.at (.lst k)
abbrev eG(n:Int):CV:=.val (.int .i64 n)
abbrev xZ(b:Bool):CV:=.val (.bool b)
abbrev dN(s:Sl):CV:=.val (.slice s.a s.len s.cap)
abbrev CZ:CV:=.val (.slice none 0 0)
abbrev cQp(b o:Nat):CV:=.val (.pointer (some ⟨b,o,none⟩))
abbrev lG(l:bw):CV:=.val (.agg ⟨l⟩)
abbrev oQ(T:TypeId)(l:cr):Option Go.Vc.Own:=some (.cells T l)
abbrev eQ{α:Type}(x:α):Prop:=x=x
abbrev eP(k:Nat):Prop:=sQp k 0=sQp k 0
abbrev eL(k:Nat):Prop:=sQl k=sQl k
abbrev K6(s:ByteArray):At:=.val (.string s)
abbrev zQ:cr:=[iI 0,iI 0,iI 0,iI 0,iI 0,iI 0,iI 0,iI 0,aQz,iI 0,iI 0,iI 0,iI 0,aQz,FM,FM,FM,FM,FM,iI 0,FM]
abbrev zP:cr:=[iI 0,iI 0,iI 0,iI 0,iI 0,iI 0,aQz,iI 0,iI 0,iI 0,iI 0,aQz,FM]
def eI(n:Int):bw:=[.int .i64 n]
def eS(s:Sl):bw:=[.slice s.a s.len s.cap]
def VV.enc(v:VV):bw:=[.int .i64 v.kind,.int .i64 v.int,.string v.text]
def OV.enc(o:OV):bw:=[.int .i64 o.kind,.int .i64 o.index,.int .i64 o.value.kind,.int .i64 o.value.int,.string o.value.text]
def PV.enc(p:PV):bw:=
 [.int .i64 p.op,.int .i64 p.cmp,
  .int .i64 p.left.kind,.int .i64 p.left.index,.int .i64 p.left.value.kind,.int .i64 p.left.value.int,.string p.left.value.text,
  .int .i64 p.right.kind,.int .i64 p.right.index,.int .i64 p.right.value.kind,.int .i64 p.right.value.int,.string p.right.value.text,
  .slice p.args.a p.args.len p.args.cap]
def QV.enc(q:QV):bw:=
 [.int .i64 q.op,.int .i64 q.table,
  .int .i64 q.where_.op,.int .i64 q.where_.cmp,
  .int .i64 q.where_.left.kind,.int .i64 q.where_.left.index,.int .i64 q.where_.left.value.kind,.int .i64 q.where_.left.value.int,.string q.where_.left.value.text,
  .int .i64 q.where_.right.kind,.int .i64 q.where_.right.index,.int .i64 q.where_.right.value.kind,.int .i64 q.where_.right.value.int,.string q.where_.right.value.text,
  .slice q.where_.args.a q.where_.args.len q.where_.args.cap,
  .slice q.columns.a q.columns.len q.columns.cap,.slice q.on.a q.on.len q.on.cap,.slice q.group.a q.group.len q.group.cap,.slice q.order.a q.order.len q.order.cap,
  .int .i64 q.limit,.slice q.args.a q.args.len q.args.cap]
def uD.enc(q:uD):bw:=
 [.int .i64 q.op,.int .i64 q.table,
  .int .i64 q.where_.op,.int .i64 q.where_.cmp,
  .int .i64 q.where_.left.kind,.int .i64 q.where_.left.index,.int .i64 q.where_.left.value.kind,.int .i64 q.where_.left.value.int,.string q.where_.left.value.text,
  .int .i64 q.where_.right.kind,.int .i64 q.where_.right.index,.int .i64 q.where_.right.value.kind,.int .i64 q.where_.right.value.int,.string q.where_.right.value.text,
  .slice q.where_.args.a q.where_.args.len q.where_.args.cap,
  .slice q.columns.a q.columns.len q.columns.cap,.slice q.on.a q.on.len q.on.cap,.slice q.group.a q.group.len q.group.cap,.slice q.order.a q.order.len q.order.cap,
  .int .i64 q.limit,.int .i64 q.left,.int .i64 q.right]
def nP.enc(c:nP):bw:=[.string c.name,.int .i64 c.kind]
def EX.enc(r:EX):bw:=[.slice r.columns.a r.columns.len r.columns.cap,.int .i64 r.table]
def cM.enc(t:cM):bw:=[.string t.name,.slice t.columns.a t.columns.len t.columns.cap,.int .i64 t.key,.slice t.references.a t.references.len t.references.cap,.slice t.checks.a t.checks.len t.checks.cap]
def cN.enc(s:cN):bw:=[.int .i64 s.version,.slice s.tables.a s.tables.len s.tables.cap]
abbrev zV:bw:=[dY 0,dY 0,dY 0,dY 0,dY 0,dY 0,dY 0,dY 0,E8,dY 0,dY 0,dY 0,dY 0,E8,pO,pO,pO,pO,pO,dY 0,pO]
abbrev pQ(p:PV)(r:cr):cr:=iI p.op::iI p.cmp::iI p.left.kind::iI p.left.index::iI p.left.value.kind::iI p.left.value.int::K6 p.left.value.text::iI p.right.kind::iI p.right.index::iI p.right.value.kind::iI p.right.value.int::K6 p.right.value.text::oM p.args::r
abbrev qQ(q:QV)(x:At):cr:=iI q.op::iI q.table::pQ q.where_ [oM q.columns,oM q.on,oM q.group,oM q.order,iI q.limit,x]
def pY(p:Int×Int):bw:=[.int .i64 p.1,.int .i64 p.2]
def BU(p:Int×Bool):bw:=[.int .i64 p.1,.bool p.2]
def dI:Dec:=⟨Int,eI⟩
def dS:Dec:=⟨Sl,eS⟩
def dB:Dec:=⟨Bool,λb=>[.bool b]⟩
def dU8:Dec:=⟨UInt8,λb=>[.int .u8 b.toNat]⟩
def bTZ:Dec:=⟨ByteArray,λs=>[.string s]⟩
def aPX:Option Nat->Value
 |none=>.nilFunc
 |some f=>.func (.func f) #[] #[]
def dF:Dec:=⟨Option Nat,λf=>[aPX f]⟩
structure NV where
 s:cN
 params:Sl
 q:QV
 args:Sl
def NV.enc(n:NV):bw:=n.s.enc++eS n.params++n.q.enc++eS n.args
structure fT where
 query:QV
 args:Sl
 rows:Int
 env:Int
 width:Int
def fT.enc(x:fT):bw:=x.query.enc++[.slice x.args.a x.args.len x.args.cap,.int .i64 x.rows,.int .i64 x.env,.int .i64 x.width]
def dec:TypeId->Dec:=λT=>match T with
 |2=>dI
 |3=>dI
 |4=>dB
 |5=>dU8
 |9=>bTZ
 |44=>dI
 |22=>dS
 |61=>dS
 |63=>dS
 |27=>dS
 |30=>dS
 |31=>dS
 |32=>dS
 |33=>dS
 |38=>dS
 |68=>dS
 |100=>dS
 |79=>dS
 |80=>dS
 |57=>dS
 |40=>⟨cN,cN.enc⟩
 |24=>⟨VV,VV.enc⟩
 |26=>⟨OV,OV.enc⟩
 |29=>⟨PV,PV.enc⟩
 |35=>⟨QV,QV.enc⟩
 |82=>⟨cM,cM.enc⟩
 |91=>⟨Int×Int,pY⟩
 |93=>⟨Int×Bool,BU⟩
 |97=>⟨nP,nP.enc⟩
 |138=>⟨EX,EX.enc⟩
 |197=>⟨NV,NV.enc⟩
 |198=>dF
 |221=>dF
 |234=>⟨Nat,λb=>[.func (.func 205) #[] #[.pointer (some ⟨b,0,none⟩)]]⟩
 |182=>⟨Nat,λb=>[.map (some b)]⟩
 |185=>⟨Nat,λb=>[.map (some b)]⟩
 |50=>dS
 |105=>dS
 |52=>⟨Sl×Sl,λp=>[.slice p.1.a p.1.len p.1.cap,.slice p.2.a p.2.len p.2.cap]⟩
 |111=>⟨uD,uD.enc⟩
 |126=>⟨Nat,λb=>[.map (some b)]⟩
 |101=>⟨Nat,λb=>[.map (some b)]⟩
 |107=>⟨fT,fT.enc⟩
 |104=>⟨Nat×Nat×Nat,λb=>[.func (.func 45) #[] #[.pointer (some ⟨b.1,0,none⟩),.pointer (some ⟨b.2.1,0,none⟩),.pointer (some ⟨b.2.2,0,none⟩)]]⟩
 |_=>⟨Unit,λ_=>[]⟩
def cL(f:Func):Code:=match f.body with|some c=>c|none=>.skip
noncomputable def ctx(specs:List (Nat×Vc.Spec))(loops:List (Nat×MS))(cuts:List (Nat×XU))(moves:List (Nat×cu))(retMove:Bool):Ctx:=
 {P:=Tryz.prog,loops2:=[],cuts2:=[],rcuts:=[],heapT:=[],specs:=specs,dec:=dec,loops:=loops,cuts:=cuts,moves:=moves,retMove:=retMove,yield:=none}
noncomputable def cW(specs:List (Nat×Vc.Spec))(loops:da)(cuts:da)(moves:List (Nat×cu))(retMove:Bool):Ctx:=
 {P:=Tryz.prog,loops2:=loops,cuts2:=cuts,rcuts:=[],heapT:=[],specs:=specs,dec:=dec,loops:=[],cuts:=[],moves:=moves,retMove:=retMove,yield:=none}
noncomputable def bTJ(specs:List (Nat×Vc.Spec))(loops:da)(cuts:da)(rcuts:List (Nat×da))(moves:List (Nat×cu))(retMove:Bool):Ctx:=
 {P:=Tryz.prog,loops2:=loops,cuts2:=cuts,rcuts:=rcuts,heapT:=[],specs:=specs,dec:=dec,loops:=[],cuts:=[],moves:=moves,retMove:=retMove,yield:=none}
noncomputable def uC(specs:List (Nat×Vc.Spec))(loops:da)(cuts:da)(rcuts:List (Nat×da))(heapT:di)(moves:List (Nat×cu))(retMove:Bool):Ctx:=
 {P:=Tryz.prog,loops2:=loops,cuts2:=cuts,rcuts:=rcuts,heapT:=heapT,specs:=specs,dec:=dec,loops:=[],cuts:=[],moves:=moves,retMove:=retMove,yield:=none}
abbrev br:=Sound Tryz.prog
theorem aH:∀g S,assoc ([]:List (Nat×Vc.Spec)) g=some S->br g S:=λg S h=>by simp[assoc]at h
theorem aE{c:Nat}{S0:Vc.Spec}{r:List (Nat×Vc.Spec)}(d:br c S0)(e:∀g S,assoc r g=some S->br g S):∀g S,assoc ((c,S0)::r) g=some S->br g S:=by
 intro g S h;simp only[assoc]at h;split at h
 .rename_i f;have:=Nat.eq_of_beq_eq_true f;subst this;simp at h;subst h;exact d
 .exact e g S h
def U8(n:Int):cn->Int×cn
 |[]=>(0,[])
 |b::r=>if n<1 then(0,b::r)else((b.toNat:Int)%n,r)
structure XX(m:MH)(h:PH)(cb:Nat)(r:cn):Prop where
 ex:∃(s:Sl)(cs:cn)(k:Nat),m cb=some (.cells #[.slice s.a s.len s.cap,.int .i64 k] 78 (0,0))/\dK h s 1 (bE cs)/\k<=cs.length/\cs.length<=1000/\r=cs.drop k
structure bM(m m':MH)(cb:Nat):Prop where
 other:∀b,b≠cb->m' b=m b
end Go.Ps
namespace Go.Vc
open Go List
theorem PH.le.refl(h:PH):PH.le h h:=⟨λ_ _ _ e=>e⟩
theorem PH.le.trans{h h' c:PH}(a:PH.le h h')(b:PH.le h' c):PH.le h c:=⟨λx y v e=>b.le x y v (a.le x y v e)⟩
theorem bO.mono{h h':PH}{b o:Nat}{l:bw}(r:bO h b o l)(le:PH.le h h'):bO h' b o l:=⟨λi v e=>le.le _ _ _ (r.rd i v e)⟩
theorem dK.mono{h h':PH}{s:Sl}{sz:Nat}{xs:List bw}(r:dK h s sz xs)(le:PH.le h h'):dK h' s sz xs:=
 ⟨r.len,r.row.imp id λ⟨b,o,e,k⟩=>⟨b,o,e,λi x c=>(k i x c).mono le⟩,r.cap⟩
theorem dK.get{h:PH}{s:Sl}{sz:Nat}{xs:List bw}(r:dK h s sz xs){i:Nat}{e:bw}(c:xs[i]? =some e):
 ∃b o,s.a=some ⟨b,o,none⟩/\bO h b (o+i*sz) e:=by
 rcases r.row with rfl|⟨b,o,d,k⟩
 .simp at c
 .exact⟨b,o,d,k i e c⟩
theorem eC.blk{m:MH}{s:Sl}{E sz:Nat}{xs:List bw}(h:eC m s E sz xs){b i:Nat}(e:s.a=some ⟨b,i,none⟩):∃c,m b=some (.cells c E (0,0)):=by
 rcases h.ex with⟨rfl,_⟩|⟨g,d,c,rfl,f,_⟩
 .cases e
 .simp only[Option.some.injEq,Addr.mk.injEq]at e;rw[<-e.1];exact⟨c,f⟩
theorem eC.slen{m:MH}{s:Sl}{E sz:Nat}{xs:List bw}(h:eC m s E sz xs):s.len=xs.length:=by
 rcases h.ex with⟨rfl,rfl⟩|⟨e,c,d,rfl,f,_⟩<;>rfl
theorem eC.keep{m m':MH}{s:Sl}{E sz:Nat}{xs:List bw}(h:eC m s E sz xs)(e:∀b i,s.a=some ⟨b,i,none⟩->m' b=m b):eC m' s E sz xs:=by
 refine⟨h.rows,?_⟩;rcases h.ex with f|⟨b,c,d,rfl,g,j⟩
 .exact .inl f
 .exact .inr ⟨b,c,d,rfl,by rw[e b 0 rfl];exact g,j⟩
theorem dK.nil(h:PH)(sz:Nat):dK h ⟨none,0,0⟩ sz []:=⟨rfl,.inl rfl,Nat.le_refl _⟩
end Go.Vc
namespace Go.Ps
open Go Go.Vc Go.Proofs List Tryz
variable{K:bu}{m:MH}{h:PH}{ps:bt}{cb:Nat}{sc:cN}{v:QV}{l:bt}{i:Nat}{N:Nat}{m':MH}{h':PH}{co:bt}{gr:bt}{od:ca}{ta:Int}{li:Int}{xs:List bw}{sz:Nat}{ks:List bt}{rs:bt}{r:Sl}{a:bt}{b:Nat}
structure Ints(h:PH)(s:Sl)(l:bt):Prop where
 row:dK h s 1 (l.map eI)
 len:l.length<=17592186044416
theorem Ints.mono{s:Sl}(r:Ints h s l)(le:PH.le h h'):Ints h' s l:=⟨r.row.mono le,r.len⟩
theorem Ints.slen{s:Sl}(r:Ints h s l):s.len=l.length:=by have:=r.row.len;simpa using this
structure iD(h:PH)(s:Sl)(l:bz):Prop where
 row:dK h s 2 (l.map pY)
 len:l.length<=8796093022208
theorem iD.mono{s:Sl}{l:bz}(r:iD h s l)(le:PH.le h h'):iD h' s l:=⟨r.row.mono le,r.len⟩
theorem iD.slen{s:Sl}{l:bz}(r:iD h s l):s.len=l.length:=by have:=r.row.len;simpa using this
structure jD(h:PH)(s:Sl)(l:ca):Prop where
 row:dK h s 2 (l.map BU)
 len:l.length<=8796093022208
theorem jD.mono{s:Sl}{l:ca}(r:jD h s l)(le:PH.le h h'):jD h' s l:=⟨r.row.mono le,r.len⟩
theorem jD.slen{s:Sl}{l:ca}(r:jD h s l):s.len=l.length:=by have:=r.row.len;simpa using this
inductive Pred where
 |mk (op cmp:Int) (left right:OV) (args:List Pred)
abbrev cq:=List Pred
variable{p:Pred}
mutual
def eH(h:PH):Pred->PV->Prop
 |.mk op c l r args,v=>v.op=op/\v.cmp=c/\v.left=l/\v.right=r/\args.length<=502633886983/\∃d:dg,dK h v.args 13 (d.map PV.enc)/\xN h args d
def xN(h:PH):cq->dg->Prop
 |[],d=>d=[]
 |p::ps,d=>∃v c,d=v::c/\eH h p v/\xN h ps c
end
mutual
theorem eH.mono{h h':PH}(le:PH.le h h'):∀{p:Pred}{v:PV},eH h p v->eH h' p v
 |.mk ..,_,⟨c,d,e,f,g,j,n,s⟩=>⟨c,d,e,f,g,j,n.mono le,xN.mono le s⟩
theorem xN.mono{h h':PH}(le:PH.le h h'):∀{ps:cq}{vs:dg},xN h ps vs->xN h' ps vs
 |[],_,h=>h
 |_::_,_,⟨v,c,d,e,f⟩=>⟨v,c,d,eH.mono le e,xN.mono le f⟩
end
theorem xN.length{h:PH}:∀{ps:cq}{vs:dg},xN h ps vs->vs.length=ps.length
 |[],_,h=>by rw[show _=[]from h];rfl
 |_::_,_,⟨_,_,c,_,d⟩=>by rw[c];simp[xN.length d]
theorem xN.get{h:PH}:∀{ps:cq}{vs:dg},xN h ps vs->∀{i:Nat}{p:Pred},ps[i]? =some p->∃v,vs[i]? =some v/\eH h p v
 |[],_,_,i,p,e=>by simp at e
 |p0::ps,_,⟨v,c,rfl,d,f⟩,0,p,e=>by simp at e;subst e;exact⟨v,rfl,d⟩
 |p0::ps,_,⟨v,c,rfl,d,f⟩,i+1,p,e=>by simp at e;simpa using xN.get f e
inductive Query where
 |mk (op table:Int) (wher:Pred) (columns:bt) (on:bz) (group:bt) (order:ca) (limit:Int) (args:List Query)
abbrev cg:=List Query
mutual
def eO(h:PH):Query->QV->Prop
 |.mk op table w c on d e f args,v=>v.op=op/\v.table=table/\eH h w v.where_/\Ints h v.columns c/\iD h v.on on/\Ints h v.group d/\jD h v.order e/\v.limit=f/\
  args.length<=502633886983/\∃g:de,dK h v.args 21 (g.map QV.enc)/\AA h args g
def AA(h:PH):cg->de->Prop
 |[],d=>d=[]
 |p::ps,d=>∃v c,d=v::c/\eO h p v/\AA h ps c
end
mutual
theorem eO.mono{h h':PH}(le:PH.le h h'):∀{p:Query}{v:QV},eO h p v->eO h' p v
 |.mk ..,_,⟨e,f,g,j,n,s,t,u,x,y,c,d⟩=>⟨e,f,g.mono le,j.mono le,n.mono le,s.mono le,t.mono le,u,x,y,c.mono le,AA.mono le d⟩
theorem AA.mono{h h':PH}(le:PH.le h h'):∀{ps:cg}{vs:de},AA h ps vs->AA h' ps vs
 |[],_,h=>h
 |_::_,_,⟨v,c,d,e,f⟩=>⟨v,c,d,eO.mono le e,AA.mono le f⟩
end
theorem AA.length{h:PH}:∀{ps:cg}{vs:de},AA h ps vs->vs.length=ps.length
 |[],_,h=>by rw[show _=[]from h];rfl
 |_::_,_,⟨_,_,c,_,d⟩=>by rw[c];simp[AA.length d]
theorem AA.get{h:PH}:∀{ps:cg}{vs:de},AA h ps vs->∀{i:Nat}{p:Query},ps[i]? =some p->∃v,vs[i]? =some v/\eO h p v
 |[],_,_,i,p,e=>by simp at e
 |p0::ps,_,⟨v,c,rfl,d,f⟩,0,p,e=>by simp at e;subst e;exact⟨v,rfl,d⟩
 |p0::ps,_,⟨v,c,rfl,d,f⟩,i+1,p,e=>by simp at e;simpa using AA.get f e
def iv(n:Int):SV:=.at (.val (.int .i64 n))
def sv(s:Sl):SV:=.at (.val (.slice s.a s.len s.cap))
def bv(b:Bool):SV:=.at (.val (.bool b))
def vv(v:Value):SV:=.at (.val v)
def cS(s:Sl):CV:=.val (.slice s.a s.len s.cap)
def cI(n:Int):CV:=.val (.int .i64 n)
def cB(b:Bool):CV:=.val (.bool b)
def cP(b:Nat):CV:=.val (.pointer (some ⟨b,0,none⟩))
def Fs(id:Nat)(st:Nat->St)(inv:Nat->Prop)(mu:Nat->Nat):Nat×MS:=(id,{A:=Nat,st:=st,inv:=inv,mu:=mu})
theorem kA(h:i<=140737488355328):IntKind.i64.wrap ((i:Int)+1)=((i+1:Nat):Int):=by
 rw[dT aD aD];rfl
theorem Ints.at{s:Sl}(r:Ints h s l){x:Int}(c:l[i]? =some x):∃b o,s.a=some ⟨b,o,none⟩/\bO h b (o+i) [.int .i64 x]:=by
 obtain⟨b,o,d,f⟩:=r.row.get (i:=i) (e:=eI x) (by simp[c]);exact⟨b,o,d,by simpa[eI]using f⟩
theorem MT{p:Prop}(h:p:=by repeat' (first|with_reducible rfl|exact trivial|refine⟨?_,?_⟩|rfl|(rw[kA aD];done)|(rw[kA aD]))):p:=h
def eD(k:Int):Bool:=k==3||k==4||k==5
def Fl(t:ByteArray):Bool:=t.toList==[]
def kY(v:VV):Bool:=
 if v.kind==1||v.kind==2 then v.int==0&&Fl v.text
 else if v.kind==3 then(v.int==0||v.int==1)&&Fl v.text
 else if v.kind==4 then Fl v.text
 else if v.kind==5 then v.int==0&&(v.text.size:Int)<=64
 else false
def lY(v:VV):Bool:=kY v&&v.kind>=3
def aV(v:VV):CV:=.val (.agg #[.int .i64 v.kind,.int .i64 v.int,.string v.text])
def aXZ:Vc.Spec:=λc m h K=>∃k,c=[cI k]/\K (cB (eD k)) m h
def OA:Vc.Spec:=λc m h K=>∃v,c=[aV v]/\K (cB (kY v)) m h
def Ri:Vc.Spec:=λc m h K=>∃v,c=[aV v]/\K (cB (lY v)) m h
def OM:Vc.Spec:=λc m h K=>∃s l,c=[cS s]/\Ints h s l/\K (cB (l.all eD)) m h
noncomputable def f52_ctx(s:Sl)(l:bt)(m:MH)(h:PH):Ctx:=
 ctx [(93,aXZ)] [Fs 2 (λi=>bY 15 16 [(5,sv s),(6,iv s.len),(7,iv i)] [] m h) (λi=>i<=l.length/\(l.take i).all eD=true) (λi=>l.length-i)] [] [] false
noncomputable def aHQ(s:Sl)(l:bt)(m:MH)(h:PH):Ctx:=
 ctx [] [Fs 2 (λi=>bY 22 23 [(5,sv s),(6,iv s.len),(7,iv i)] [] m h) (λi=>i<=l.length/\(l.take i).all eD=true) (λi=>l.length-i)] [] [] false
abbrev dJ(a:Bool)(b:Prop)(c:Bool)(d e:Prop):Prop:=branch a b (branch c d e)
abbrev fJ(a:bu)(b:Nat->Option Obj)(c:Nat->Nat->Option Value):Prop:=a (xZ true) b c
attribute [push_cast] dJ fJ
def T5(k:Int)(m:MH)(h:PH)(K:bu):Prop:=
  dJ (k==3) (fJ K m h) (k==4) (fJ K m h) (K (xZ (k==5)) m h)
abbrev dZ(a b:Int)(c d:Prop):Prop:=branch (a==b) c d
noncomputable abbrev Cq(a:VV):cn:=a.text.toList
abbrev Gj(a:bu)(b:VV)(c:MH)(d:PH):Prop:=a (xZ (Cq b==[])) c d
noncomputable abbrev bB:CV:=xZ false
attribute [push_cast] dZ Cq Gj bB
def GM(v:VV)(m:MH)(h:PH)(K:bu):Prop:=
  dJ (v.kind==1) (dZ v.int 0 (Gj K v m h) (K bB m h)) (v.kind==2) (dZ v.int 0 (Gj K v m h) (K bB m h)) (dJ (v.kind==3) (dJ (v.int==0) (Gj K v m h) (v.int==1) (Gj K v m h) (K bB m h)) (v.kind==4) (Gj K v m h) (dZ v.kind 5 (dZ v.int 0 (K (xZ (decide ((↑v.text.size:Int)<=64))) m h) (K bB m h)) (K bB m h)))
abbrev fB(a:Prop)(b:Bool)(c d:Prop):Prop:=a/\branch b c d
noncomputable abbrev oF(a:CV):ct:=[a]
abbrev nE(a b:CV):Prop:=oF a=oF b
noncomputable abbrev hX(a:VV):CV:=lG a.enc
attribute [push_cast] fB oF nE hX
def Qb(v:VV)(m:MH)(h:PH)(K:bu):Prop:=
  ∃(c:VV),fB (nE (hX v) (hX c)) (kY c) (K (xZ (decide (v.kind>=3))) m h) (K bB m h)
abbrev dC(a b:Int)(c d:Prop):Prop:=branch (a !=b) c d
attribute [push_cast] dC
def Qg(v:VV)(m:MH)(h:PH)(K:bu):Prop:=
  ∃(c:VV),fB (nE (hX v) (hX c)) (kY c) (dC v.kind 1 (K (xZ (v.kind !=2)) m h) (K bB m h)) (K bB m h)
abbrev jO(a:Prop)(b:Nat->Prop):Prop:=a/\∀(x:Nat),b x
abbrev aA(a b c:Prop):Prop:=a/\b/\c
abbrev C4(a:Bool):Prop:=a=true
noncomputable abbrev CM(a:bt):Bool:=List.all a eD
abbrev AL(a:Nat)(b:bt):Prop:=a<=b.length/\C4 (CM (List.take a b))
abbrev aJ(a:Sl):Prop:=eQ (sQs a)
noncomputable abbrev bP(a:Nat):SV:=fU (↑a:Int)
abbrev bI(a:Sl):Prop:=eQ (bP a.len)
abbrev bF(a:Nat):Prop:=fU 0=bP a
abbrev bS(a:Prop)(b c:PH):Prop:=aA a (b=c) True
abbrev bA(a b:Int)(c d:Prop):Prop:=branch (decide (a<b)) c d
noncomputable abbrev aG(a:Sl):Int:=(↑a.len:Int)
abbrev aW(a:Nat->Nat->Prop):Prop:=∃(x c:Nat),a x c
abbrev aI(a b c d:Prop):Prop:=aA a b (c/\d)
abbrev aX(a:Option Addr)(b c:Nat):Prop:=a=Option.some (Addr.mk b c Option.none)
noncomputable abbrev gC(a:Nat)(b:Int)(c:Nat):Nat:=a+b.toNat*c
noncomputable abbrev bN(a b c:Nat):Nat:=gC a (↑b:Int) c
noncomputable abbrev kL(a:Value):bw:=[a]
noncomputable abbrev bJ(a:Int):bw:=kL (dY a)
abbrev kH(a b:Int):Prop:=oF (eG a)=oF (eG b)
noncomputable abbrev iE(a:Int):Int:=IntKind.wrap IntKind.i64 a
noncomputable abbrev bG(a:Nat)(b:Int):Int:=iE ((↑a:Int)+b)
attribute [push_cast] jO aA C4 CM AL aJ bP bI bF bS bA aG aW aI aX gC bN kL bJ kH iE bG
def aj(s:Sl)(l:bt)(m:MH)(h:PH)(K:bu):Prop:=
  jO (∃(x:Nat),aA (AL x l) (aJ s) (aA (bI s) (bF x) (bS (m=m) h h))) (λx=>AL x l->bA (↑x:Int) (aG s) (aW (λb o=>aI (aX s.a b o) (0<=(↑x:Int)) ((↑x:Int)<aG s) (∃(y:Int),aU m h b (bN o x 1) (bJ y)/\∃(k:Int),fB (kH y k) (!(eD k)) (K bB m h) (∃(c:Nat),aA (AL c l) (l.length-c<l.length-x) (aA (aJ s) (bI s) (aI (fU (bG x 1)=bP c) (m=m) (h=h) True)))))) (fJ K m h))
def Qs(s:Sl)(l:bt)(m:MH)(h:PH)(K:bu):Prop:=
  jO (∃(x:Nat),aA (AL x l) (aJ s) (aA (bI s) (bF x) (bS (m=m) h h))) (λx=>AL x l->bA (↑x:Int) (aG s) (aW (λb o=>aI (aX s.a b o) (0<=(↑x:Int)) ((↑x:Int)<aG s) (∃(y:Int),aU m h b (bN o x 1) (bJ y)/\dC y 3 (dC y 4 (dC y 5 (K bB m h) (∃(c:Nat),aA (AL c l) (l.length-c<l.length-x) (aA (aJ s) (bI s) (aI (fU (bG x 1)=bP c) (m=m) (h=h) True)))) (∃(c:Nat),aA (AL c l) (l.length-c<l.length-x) (aA (aJ s) (bI s) (aI (fU (bG x 1)=bP c) (m=m) (h=h) True)))) (∃(c:Nat),aA (AL c l) (l.length-c<l.length-x) (aA (aJ s) (bI s) (aI (fU (bG x 1)=bP c) (m=m) (h=h) True)))))) (fJ K m h))
theorem bmZ(v:VV)(m:MH)(h:PH)(K:bu):GM v m h K=sI (ctx [] [] [] [] false) Tryz.f164 (cL Tryz.f164) (entry Tryz.f164.ntmps [aV v] m h) K:=bi
theorem iW{x y:Bool}(c:K (cB x) m h)(e:x=y):K (.val (.bool y)) m h:=e▸c
theorem Yu{v:VV}(c:K (cB (kY v)) m h):GM v m h K:=by
 dsimp only[GM,push_cast]
 repeat' (first|(refine aC (λ_=>?_) (λ_=>?_))|(refine iW c ?_;simp_all [kY,Fl]))
theorem hJ{f:FuncId}{fn:Func}(n:Tryz.prog.funcs[f]? =some fn){S:Vc.Spec}(j:∀c m h K,S c m h K->∃C:Ctx,C.P=Tryz.prog/\(∀g S,assoc C.specs g=some S->br g S)/\∃N:Prop,N=sI C fn (cL fn) (entry fn.ntmps c m h) K/\N)(s:fn.body=some (cL fn):=by rfl)(d:(fn.name== "runtime.NumGoroutine")=false:=by decide):br f S:=eV n s d λc m h K t=>let⟨C,hC,hs,N,e,hn⟩:=j c m h K t;⟨C,hC,hs,e▸hn⟩
theorem PI:br 93 aXZ:=by
 refine hJ func93 ?_;rintro c m h K ⟨k,rfl,d⟩;refine⟨ctx [] [] [] [] false,rfl,aH,T5 k m h K,bi,?_⟩;dsimp only[T5,push_cast]
 repeat' (first|(refine aC (λ_=>?_) (λ_=>?_))|(refine iW d ?_;simp_all [eD]))
theorem Wd:br 220 OA:=by
 refine hJ func220 ?_;rintro c m h K ⟨v,rfl,d⟩;refine⟨ctx [] [] [] [] false,rfl,aH,GM v m h K,bi,?_⟩;exact Yu d
theorem Of:br 164 OA:=by
 refine eV (fn:=Tryz.f164) (c:=cL Tryz.f164) func164 rfl bk ?_;rintro d m h K ⟨v,rfl,e⟩;refine⟨ctx [] [] [] [] false,rfl,aH,?_⟩;rw[<-bmZ v m h K];exact Yu e
theorem Wq:br 191 Ri:=by
 refine hJ func191 ?_;rintro c m h K ⟨v,rfl,d⟩;refine⟨ctx [(220,OA)] [] [] [] false,rfl,aE Wd aH,Qb v m h K,bi,?_⟩;dsimp only[Qb,push_cast];refine⟨v,rfl,?_⟩
 repeat' (first|(refine aC (λ_=>?_) (λ_=>?_))|(refine iW d ?_;simp_all [lY]))
theorem HF:br 168 Ri:=by
 refine hJ func168 ?_;rintro g m h K ⟨v,rfl,e⟩;refine⟨ctx [(164,OA)] [] [] [] false,rfl,aE Of aH,Qg v m h K,bi,?_⟩;dsimp only[Qg,push_cast];refine⟨v,rfl,?_⟩;refine aC (λc=>aC (λd=>iW e ?_) (λd=>iW e ?_)) (λc=>iW e ?_)
 .have d:v.kind≠1:=bo d
  by_cases f:v.kind=2
  .simp[lY,c,f]
  .have:3<=v.kind:=by
    simp only[kY]at c
    repeat' split at c
    all_goals first|(simp_all;done)|skip
    all_goals simp_all
   simp[lY,c,f,this]
 .have d:v.kind=1:=bo d
  simp[lY,d]
 .simp[lY,c]
theorem Ah{α:Type}{p:α->Bool}{l:List α}{x:α}(c:l[i]? =some x):(l.take (i+1)).all p=((l.take i).all p&&p x):=by
 rw[take_add_one,all_append,c];simp
theorem Cz{α:Type}{p:α->Bool}{l:List α}{x:α}(c:l[i]? =some x)(d:p x=false):l.all p=false:=by
 rw[all_eq_false];exact⟨x,mem_of_getElem? c,by simp[d]⟩
theorem ak:br 52 OM:=by
 refine hJ func52 ?_;rintro n m h K ⟨s,l,rfl,c,g⟩;refine⟨f52_ctx s l m h,rfl,aE PI aH,aj s l m h K,bi,?_⟩;dsimp only[aj,push_cast];have D:=c.slen;have E:=c.len;refine⟨⟨0,⟨aD,bj⟩,rfl,rfl,rfl,rfl,rfl,trivial⟩,λi j=>aF (λd=>?_) (λt=>?_)⟩
 .obtain⟨x,e⟩:∃x,l[i]? =some x:=⟨l[i]'(by omega),getElem?_eq_getElem _⟩
  obtain⟨u,y,z,A⟩:=c.at e;refine⟨u,y,z,aD,d,x,.imm (bo A),x,rfl,aC (λf=>iW g ?_) (λf=>?_)⟩
  .exact Cz e (bo f)
  .refine⟨i+1,⟨aD,?_⟩,aD,rfl,rfl,by rw[kA aD],rfl,rfl,trivial⟩;rw[Ah e,j.2];simpa using f
 .refine iW g ?_;have:=j.2
  rwa [take_of_length_le aD]at this
theorem WV:br 153 OM:=by
 refine hJ func153 ?_;rintro n m h K ⟨s,l,rfl,c,g⟩;refine⟨aHQ s l m h,rfl,aH,Qs s l m h K,bi,?_⟩;dsimp only[Qs,push_cast];have E:=c.slen;have F:=c.len;refine⟨⟨0,⟨aD,bj⟩,rfl,rfl,rfl,rfl,rfl,trivial⟩,λi j=>aF (λd=>?_) (λt=>?_)⟩
 .obtain⟨x,e⟩:∃x,l[i]? =some x:=⟨l[i]'(by omega),getElem?_eq_getElem _⟩
  obtain⟨u,z,A,D⟩:=c.at e;have good:eD x=true->(l.take (i+1)).all eD=true:=λf=>by rw[Ah e,j.2,f];rfl
  refine⟨u,z,A,aD,d,x,.imm (bo D),?_⟩;have next:eD x=true->∃(y:Nat),(y<=l.length/\(l.take y).all eD=true)/\l.length-y<l.length-i/\y=i+1:=λf=>⟨i+1,⟨aD,good f⟩,aD,rfl⟩
  repeat' (first|(refine aC (λ_=>?_) (λ_=>?_))|(refine iW g (Cz e ?_);simp_all [eD];done)|(refine⟨i+1,⟨aD,good (by simp_all [eD])⟩,aD,rfl,rfl,by rw[kA aD],rfl,rfl,trivial⟩))
 .refine iW g ?_;have:=j.2
  rwa [take_of_length_le aD]at this
def Yy(a b:VV):Bool:=a.kind==b.kind&&(a.int==b.int&&(a.text.toList==b.text.toList&&true))
def Xu(a b:OV):Bool:=a.kind==b.kind&&(a.index==b.index&&(Yy a.value b.value&&true))
theorem lU{f:Field}{g:List Field}{d:Nat}{xs c:Array Value}{w:World}{x y:Value}{r r':Bool}(e:(f.name== "_")=false)(j:Ak Tryz.prog (part f.type xs f.offset)=some x)(n:Ak Tryz.prog (part f.type c f.offset)=some y)
 (s:(Op.equalIn d f.type x y).run Tryz.prog w= .ok r w)(t:(Op.eqFields d xs c g).run Tryz.prog w= .ok r' w):(Op.eqFields d xs c (f::g)).run Tryz.prog w= .ok (r&&r') w:=by
 have e:f.name≠ "_" :=bo e
 simp only[Op.eqFields,if_pos e,Sem.run_bind,Bp _ _ _ j,Bp _ _ _ n,Result.andThen_ok,s];cases r
 .simp
 .simpa using t
noncomputable def OW(t k:Nat):Field:=(Tryz.prog.fieldsOf t).toList.getD k default
theorem Yx(a b:VV)(d:Nat)(w:World):(Op.equalIn (d+2) 24 (.agg #[.int .i64 a.kind,.int .i64 a.int,.string a.text]) (.agg #[.int .i64 b.kind,.int .i64 b.int,.string b.text])).run Tryz.prog w= .ok (Yy a b) w:=by
 rw[run_equalIn_struct w (d+1) 24 _ _ bi bi,show(Tryz.prog.fieldsOf 24).toList=[OW 24 0,OW 24 1,OW 24 2]by kernel_rfl];refine lU (x:=.int .i64 a.kind) (y:=.int .i64 b.kind) bi bi bi (run_equalIn_int w d _ .i64 .i64 _ _ bi) ?_;refine lU (x:=.int .i64 a.int) (y:=.int .i64 b.int) bi bi bi (run_equalIn_int w d _ .i64 .i64 _ _ bi) ?_;refine lU (x:=.string a.text) (y:=.string b.text) bi bi bi (run_equalIn_string w d _ _ _ bi) ?_;simp[Op.eqFields]
theorem boQ(a b:OV)(d:Nat)(w:World):(Op.equalIn (d+3) 26 (.agg #[.int .i64 a.kind,.int .i64 a.index,.int .i64 a.value.kind,.int .i64 a.value.int,.string a.value.text]) (.agg #[.int .i64 b.kind,.int .i64 b.index,.int .i64 b.value.kind,.int .i64 b.value.int,.string b.value.text])).run Tryz.prog w= .ok (Xu a b) w:=by
 rw[run_equalIn_struct w (d+2) 26 _ _ bi bi,show(Tryz.prog.fieldsOf 26).toList=[OW 26 0,OW 26 1,OW 26 2]by kernel_rfl];refine lU (x:=.int .i64 a.kind) (y:=.int .i64 b.kind) bi bi bi (run_equalIn_int w (d+1) _ .i64 .i64 _ _ bi) ?_;refine lU (x:=.int .i64 a.index) (y:=.int .i64 b.index) bi bi bi (run_equalIn_int w (d+1) _ .i64 .i64 _ _ bi) ?_;refine lU (x:=.agg #[.int .i64 a.value.kind,.int .i64 a.value.int,.string a.value.text]) (y:=.agg #[.int .i64 b.value.kind,.int .i64 b.value.int,.string b.value.text]) bi bi bi ?_ ?_
 .rw[show(OW 26 2).type=24 by kernel_rfl];exact Yx a.value b.value d w
 .simp[Op.eqFields]
theorem Sh(a b:VV):StructEq Tryz.prog 24 (.agg #[.int .i64 a.kind,.int .i64 a.int,.string a.text]) (.agg #[.int .i64 b.kind,.int .i64 b.int,.string b.text]) (Yy a b):=
 ⟨bi,λw=>Yx a b 9998 w⟩
theorem zT(a b:OV):StructEq Tryz.prog 26 (.agg #[.int .i64 a.kind,.int .i64 a.index,.int .i64 a.value.kind,.int .i64 a.value.int,.string a.value.text]) (.agg #[.int .i64 b.kind,.int .i64 b.index,.int .i64 b.value.kind,.int .i64 b.value.int,.string b.value.text]) (Xu a b):=
 ⟨bi,λw=>boQ a b 9997 w⟩
theorem Bi{a b:ByteArray}(h:a.toList=b.toList):a=b:=by
 rw[ByteArray.toList_eq,ByteArray.toList_eq]at h;cases a;cases b;simp only[ByteArray.mk.injEq];exact Array.toList_inj.1 h
theorem Si{a b:VV}:Yy a b=true↔a=b:=by
 obtain⟨k,i,t⟩:=a;obtain⟨f,g,j⟩:=b;simp only[Yy,Bool.and_true,Bool.and_eq_true,beq_iff_eq,VV.mk.injEq];exact⟨λ⟨c,d,e⟩=>⟨c,d,Bi e⟩,λ⟨c,d,e⟩=>⟨c,d,by rw[e]⟩⟩
theorem qP{a b:OV}:Xu a b=true↔a=b:=by
 obtain⟨k,i,t⟩:=a;obtain⟨c,d,e⟩:=b;simp only[Xu,Bool.and_true,Bool.and_eq_true,beq_iff_eq,OV.mk.injEq,Si]
def zeroV:VV:=⟨0,0,⟨#[]⟩⟩
def eT:OV:=⟨0,0,zeroV⟩
def pL(l:bt)(o:OV):Int:=if o.index<0||o.index>=l.length|| !Yy o.value zeroV then 0 else l.getD o.index.toNat 0
def kindOf(cols params:bt)(o:OV):Int:=
 if o.kind==3 then(if o.index !=0|| !lY o.value then 0 else o.value.kind)
 else if o.kind==2 then pL params o
 else if o.kind==1 then pL cols o
 else 0
def v8(v:PV):Bool:=v.cmp==0&&Xu v.left eT&&Xu v.right eT
def aO(o:OV):CV:=.val (.agg #[.int .i64 o.kind,.int .i64 o.index,.int .i64 o.value.kind,.int .i64 o.value.int,.string o.value.text])
def aP(p:PV):CV:=.val (.agg #[.int .i64 p.op,.int .i64 p.cmp,
 .int .i64 p.left.kind,.int .i64 p.left.index,.int .i64 p.left.value.kind,.int .i64 p.left.value.int,.string p.left.value.text,
 .int .i64 p.right.kind,.int .i64 p.right.index,.int .i64 p.right.value.kind,.int .i64 p.right.value.int,.string p.right.value.text,
 .slice p.args.a p.args.len p.args.cap])
def a2S(s t:Sl):CV:=.val (.agg #[.slice s.a s.len s.cap,.slice t.a t.len t.cap])
def aVJ:Vc.Spec:=λc m h K=>∃v,c=[aP v]/\K (cB (v8 v)) m h
def YU:Vc.Spec:=λe m h K=>∃s t d c o,e=[cS s,cS t,aO o]/\Ints h s d/\Ints h t c/\K (cI (kindOf d c o)) m h
def Vq:Vc.Spec:=λe m h K=>∃s t d c o,e=[a2S s t,aO o]/\Ints h s d/\Ints h t c/\K (cI (kindOf d c o)) m h
abbrev wZ(a:Nat)(b c:bw)(d:Bool):Prop:=StructEq Proofs.Tryz.prog a (Value.agg (Array.mk b)) (Value.agg (Array.mk c)) d
noncomputable abbrev aR(a b:Value)(c:bw):bw:=a::b::c
noncomputable abbrev bL:Value:=dY 0
abbrev D8(a:bw)(b:Bool):Prop:=wZ 26 a (aR bL bL (aR bL bL (kL E8))) b
attribute [push_cast] wZ aR bL D8
def Ql(v:PV)(m:MH)(h:PH)(K:bu):Prop:=
  dZ v.cmp 0 (∃(r:Bool),fB (D8 v.left.enc r) r (∃(c:Bool),D8 v.right.enc c/\K (xZ c) m h) (K bB m h)) (K bB m h)
noncomputable abbrev jK(a:OV):Int:=a.value.kind
abbrev fQ(a b:Int)(c d:Prop):Prop:=branch (decide (a>=b)) c d
noncomputable abbrev yU:bw:=aR bL bL (kL E8)
attribute [push_cast] jK fQ yU
def GY(s t:Sl)(o:OV)(m:MH)(h:PH)(K:bu):Prop:=
  dJ (o.kind==3) (dC o.index 0 (K (eG 0) m h) (∃(v:VV),fB (nE (hX o.value) (hX v)) (!(lY v)) (K (eG 0) m h) (K (eG (jK o)) m h))) (o.kind==2) (bA o.index 0 (K (eG 0) m h) (fQ o.index (aG t) (K (eG 0) m h) (∃(r:Bool),fB (wZ 24 o.value.enc yU r) (!r) (K (eG 0) m h) (aW (λb c=>aI (aX t.a b c) (0<=o.index) (o.index<aG t) (∃(y:Int),aU m h b (gC c o.index 1) (bJ y)/\K (eG y) m h)))))) (dZ o.kind 1 (bA o.index 0 (K (eG 0) m h) (fQ o.index (aG s) (K (eG 0) m h) (∃(r:Bool),fB (wZ 24 o.value.enc yU r) (!r) (K (eG 0) m h) (aW (λb c=>aI (aX s.a b c) (0<=o.index) (o.index<aG s) (∃(y:Int),aU m h b (gC c o.index 1) (bJ y)/\K (eG y) m h)))))) (K (eG 0) m h))
theorem zY{x y:Int}(c:K (cI x) m h)(e:x=y):K (.val (.int .i64 y)) m h:=e▸c
theorem Ints.inb{s:Sl}(r:Ints h s l){n:Int}(d:0<=n)(f:n<(l.length:Int)):∃b o,s.a=some ⟨b,o,none⟩/\bO h b (o+n.toNat*1) [.int .i64 (l.getD n.toNat 0)]:=by
 have c:l[n.toNat]? =some (l.getD n.toNat 0):=by
  rw[getD_eq_getElem?_getD,getElem?_eq_getElem aD];simp
 obtain⟨b,o,e,r⟩:=r.at c;exact⟨b,o,e,bo r⟩
theorem Yw{s t:Sl}{cols params:bt}{o:OV}(z:Ints h s cols)(A:Ints h t params)(c:K (cI (kindOf cols params o)) m h):GY s t o m h K:=by
 have D:=z.slen;have E:=A.slen;dsimp only[GY,push_cast];refine aC (λF=>aC (λx=>zY c ?_) (λx=>⟨o.value,rfl,aC (λd=>zY c ?_) (λd=>zY c ?_)⟩)) (λF=>aC (λx=>?_) (λx=>aC (λd=>?_) (λd=>zY c ?_)))
 .simp_all [kindOf]
 .simp_all [kindOf]
 .simp_all [kindOf]
 .have y:kindOf cols params o=pL params o:=by simp_all [kindOf]
  rw[y]at c;refine aF (λd=>zY c ?_) (λd=>aF (λg=>zY c ?_) (λg=>⟨Yy o.value zeroV,Sh o.value zeroV,aC (λf=>zY c ?_) (λf=>?_)⟩))
  .simp[pL,d]
  .rw[E]at g;simp[pL,g]
  .simp only[Bool.not_eq_true']at f;simp[pL,f]
  .obtain⟨b,j,e,r⟩:=A.inb (n:=o.index) aD aD;refine⟨b,j,e,aD,aD,_,.imm r,zY c ?_⟩;have u:¬o.index>=params.length:=by omega
   simp only[Bool.not_eq_false']at f;simp[pL,d,u,f]
 .have y:kindOf cols params o=pL cols o:=by simp_all [kindOf]
  rw[y]at c;refine aF (λd=>zY c ?_) (λd=>aF (λg=>zY c ?_) (λg=>⟨Yy o.value zeroV,Sh o.value zeroV,aC (λf=>zY c ?_) (λf=>?_)⟩))
  .simp[pL,d]
  .rw[D]at g;simp[pL,g]
  .simp only[Bool.not_eq_true']at f;simp[pL,f]
  .obtain⟨b,j,e,r⟩:=z.inb (n:=o.index) aD aD;refine⟨b,j,e,aD,aD,_,.imm r,zY c ?_⟩;have u:¬o.index>=cols.length:=by omega
   simp only[Bool.not_eq_false']at f;simp[pL,d,u,f]
 .simp_all [kindOf]
theorem WO:br 160 aVJ:=by
 refine hJ func160 ?_;rintro d m h K ⟨v,rfl,c⟩;refine⟨ctx [] [] [] [] false,rfl,aH,Ql v m h K,bi,?_⟩;dsimp only[Ql,push_cast];refine aC (λe=>⟨Xu v.left eT,zT v.left eT,aC (λf=>⟨Xu v.right eT,zT v.right eT,iW c ?_⟩) (λf=>iW c ?_)⟩) (λe=>iW c ?_)
 all_goals simp_all [v8]
theorem WN:br 161 YU:=by
 refine hJ func161 ?_;rintro e m h K ⟨s,t,d,c,o,rfl,f,g,j⟩;refine⟨ctx [(191,Ri)] [] [] [] false,rfl,aE Wq aH,GY s t o m h K,bi,?_⟩;exact Yw f g j
theorem Wr:br 190 Vq:=by
 refine hJ func190 ?_;rintro e m h K ⟨s,t,d,c,o,rfl,f,g,j⟩;refine⟨ctx [(168,Ri)] [] [] [] false,rfl,aE HF aH,GY s t o m h K,bi,?_⟩;exact Yw f g j
def Pred.args:Pred->cq
 |.mk _ _ _ _ l=>l
mutual
def pD:Pred->Int->Int
 |.mk _ _ _ _ args,n=>kV args (n+1)
def kV:cq->Int->Int
 |[],n=>n
 |p::ps,n=>if n<=24 then kV ps (pD p n)else n
end
mutual
def mM:Pred->Nat->Bool
 |.mk _ _ _ _ _,0=>true
 |.mk _ _ _ _ args,n+1=>uI args n
def uI:cq->Nat->Bool
 |[],_=>false
 |p::ps,n=>mM p n||uI ps n
end
mutual
theorem Dx:∀(p:Pred)(n:Int),n<=24->n<pD p n/\pD p n<=25
 |.mk _ _ _ _ args,n,h=>by
  have:=Ha args (n+1) aD;simp only[pD];omega
theorem Ha:∀(ps:cq)(n:Int),n<=25->n<=kV ps n/\kV ps n<=25
 |[],n,h=>by simp only[kV];omega
 |p::ps,n,h=>by
  simp only[kV];split
  .rename_i c;have d:=Dx p n c;have e:=Ha ps (pD p n) d.2;omega
  .omega
end
theorem RV(ps:cq){n:Int}(h:¬n<=24):kV ps n=n:=by
 cases ps
 .simp[kV]
 .simp only[kV,if_neg h]
theorem Jy(n:Nat):∀ps:cq,uI ps n=ps.any (mM · n)
 |[]=>by simp[uI]
 |p::ps=>by simp[uI,Jy n ps]
theorem zW{p:Pred}{q:Pred}(h:q∈p.args):SizeOf.sizeOf q<SizeOf.sizeOf p:=by
 cases p with
 |mk op c l r args=>
  have:=sizeOf_lt_of_mem h;simp only[Pred.args]at this;simp only[Pred.mk.sizeOf_spec];omega
theorem eH.open{v:PV}(r:eH h p v):p.args.length<=502633886983/\v.args.len=p.args.length/\∀(i:Nat)(q:Pred),p.args[i]? =some q->∃b o u,v.args.a=some ⟨b,o,none⟩/\bO h b (o+i*13) (PV.enc u)/\eH h q u:=by
 cases p with
 |mk op f l t args=>
  obtain⟨x,y,z,A,g,D,c,d⟩:=r;have E:=d.length;refine⟨g,?_,λi q j=>?_⟩
  .have:=c.len;simp at this;simp only[Pred.args];omega
  .obtain⟨u,n,s⟩:=d.get j;obtain⟨b,o,e,r⟩:=c.get (i:=i) (e:=PV.enc u) (by simp[n]);exact⟨b,o,u,e,r,s⟩
def XP(N:Nat):Vc.Spec:=λc m h K=>∃v p k,c=[aP v,cI k]/\eH h p v/\SizeOf.sizeOf p<N/\0<=k/\k<=24/\K (cI (pD p k)) m h
def SH(N:Nat):Vc.Spec:=λc m h K=>∃v p,∃k:Nat,c=[aP v,cI k]/\eH h p v/\SizeOf.sizeOf p<N/\k<=100/\K (cB (mM p k)) m h
noncomputable def aMJ(N:Nat)(v:PV)(p:Pred)(k:Int)(m:MH)(h:PH):Ctx:=
 ctx [(109,XP N)] [(3,{A:=Nat×Int,st:=λx=>bY 27 29 [(1,iv x.2),(2,.at (.ptr 2 0)),(5,iv x.1)] [(2,.cells 29 (v.enc.map .val))] m h,inv:=λx=>x.1<=p.args.length/\0<=x.2/\x.2<=25/\kV (p.args.drop x.1) x.2=pD p k,mu:=λx=>p.args.length-x.1})] [] [] false
noncomputable def aMZ(N:Nat)(v:PV)(p:Pred)(k:Nat)(m:MH)(h:PH):Ctx:=
 ctx [(110,SH N)] [Fs 4 (λi=>bY 23 25 [(1,iv k),(2,.at (.ptr 2 0)),(10,iv v.args.len),(11,iv i)] [(2,.cells 29 (v.enc.map .val))] m h) (λi=>i<=p.args.length/\(p.args.take i).any (mM · (k-1))=false) (λi=>p.args.length-i)] [] [] false
abbrev Hy(a:Nat)(b:Pred):Prop:=a<=b.args.length
abbrev Mh(a:Nat×Int)(b:Pred)(c d:Int):Prop:=aI (Hy a.1 b) (0<=a.2) (a.2<=c) (kV (List.drop a.1 b.args) a.2=pD b d)
abbrev dA(a b:Int):Prop:=fU a=fU b
abbrev fG:Prop:=eP 2
noncomputable abbrev mZ(a:Nat)(b:bw):Option Go.Vc.Own:=oQ a (List.map At.val b)
abbrev iS(a:PV):Prop:=eQ (mZ 29 a.enc)
abbrev qG(a:PV->Pred->Prop):Prop:=∃(x:PV)(c:Pred),a x c
noncomputable abbrev bK(a b:CV):ct:=a::oF b
noncomputable abbrev bT(a:CV)(b:Int):ct:=bK a (eG b)
noncomputable abbrev cZ(a:PV):CV:=lG a.enc
abbrev qD(a:Pred)(b:Nat):Prop:=SizeOf.sizeOf a<b
abbrev bZ(a:Int):Prop:=0<=a
noncomputable abbrev wX(a:Pred)(b:Nat):Nat:=a.args.length-b
attribute [push_cast] Hy Mh dA fG mZ iS qG bK bT cZ qD bZ wX
def QT(N:Nat)(v:PV)(p:Pred)(k:Int)(m:MH)(h:PH)(K:bu):Prop:=
  (∃(x:Nat×Int),aA (Mh x p 25 k) (dA (iE (k+1)) x.2) (aA fG (bF x.1) (aI (iS v) (m=m) (h=h) True)))/\∀(x:Nat×Int),Mh x p 25 k->bA (↑x.1:Int) (aG v.args) (branch (decide (x.2<=24)) (aW (λb o=>aI (aX v.args.a b o) (0<=(↑x.1:Int)) ((↑x.1:Int)<aG v.args) (∃(y:PV),aU m h b (bN o x.1 13) y.enc/\qG (λf e=>∃(c:Int),aA (bT (cZ y) x.2=bT (cZ f) c) (eH h e f) (aA (qD e N) (bZ c) (c<=24/\∃(d:Nat×Int),aA (Mh d p 25 k) (wX p d.1<wX p x.1) (aA (dA (pD e c) d.2) fG (aA (fU (bG x.1 1)=bP d.1) (iS v) (aA (m=m) (h=h) True))))))))) (K (eG x.2) m h)) (K (eG x.2) m h)
abbrev Mi(a:Nat)(b:Pred)(c:Pred->Pred)(d:Nat):Prop:=Hy a b/\List.any (List.take a b.args) (fun(x:Pred)=>mM (c x) (d-1))=false
abbrev rW(a:PV):Prop:=bI a.args
abbrev bD(a b:PH):Prop:=a=b/\True
attribute [push_cast] Mi rW bD
def QS(N:Nat)(v:PV)(p:Pred)(k:Nat)(m:MH)(h:PH)(K:bu):Prop:=
  dZ (↑k:Int) 0 (fJ K m h) (jO (∃(x:Nat),aA (Mi x p (λc=>c) k) (eQ (bP k)) (aA fG (rW v) (aA (bF x) (iS v) (aA (m=m) (h=h) True)))) (λx=>Mi x p (λc=>c) k->bA (↑x:Int) (aG v.args) (aW (λb o=>aI (aX v.args.a b o) (0<=(↑x:Int)) ((↑x:Int)<aG v.args) (∃(y:PV),aU m h b (bN o x 13) y.enc/\qG (λg d=>∃(e:Nat),aA (bT (cZ y) (iE ((↑k:Int)-1))=bT (cZ g) (↑e:Int)) (eH h d g) (aA (qD d N) (e<=100) (branch (mM d e) (fJ K m h) (∃(f:Nat),aA (Mi f p (λc=>c) k) (wX p f<wX p x) (aA (eQ (bP k)) fG (aA (rW v) (fU (bG x 1)=bP f) (aA (iS v) (m=m) (bD h h))))))))))) (K bB m h)))
theorem UU:∀N,br 109 (XP N)
 |0=>by
  refine eV (fn:=Tryz.f109) (c:=cL Tryz.f109) func109 rfl bk ?_;rintro t m h K ⟨v,p,k,rfl,D,G,_⟩;omega
 |N+1=>by
  refine hJ func109 ?_;rintro t m h K ⟨v,p,k,rfl,D,G,M,O,E⟩;refine⟨aMJ N v p k m h,rfl,aE (UU N) aH,QT N v p k m h K,bi,?_⟩;dsimp only[QT,push_cast];obtain⟨Q,F,e⟩:=D.open;refine⟨⟨(0,k+1),⟨bj,by simp;omega,by simp;omega,?_⟩,by rw[dT aD aD],rfl,rfl,rfl,rfl,rfl,trivial⟩,?_⟩
  .cases p;simp[pD,Pred.args]
  rintro⟨i,n⟩ ⟨H,f,x,g⟩;simp only at H f x g;refine aF (λj=>aF (λd=>?_) (λd=>zY E ?_)) (λy=>zY E ?_)
  .simp only at j d;obtain⟨q,s⟩:∃q,p.args[i]? =some q:=⟨p.args[i]'(by omega),getElem?_eq_getElem _⟩
   obtain⟨b,o,u,I,z,A⟩:=e i q s
   have J:p.args.drop i=q::p.args.drop (i+1):=by
    rw[drop_eq_getElem_cons aD];rw[getElem?_eq_getElem aD]at s;simp at s;rw[s]
   have R:=Dx q n d;refine⟨b,o,I,bj,bo j,u,.imm (bo z),u,q,n,rfl,A,?_,f,d,(i+1,pD q n),⟨by simp only;omega,by simp only;omega,by simp only;omega,?_⟩,by simp only;omega,rfl,rfl,by rw[kA aD],rfl,rfl,rfl,trivial⟩
   .have:=zW (mem_of_getElem? s);omega
   .rw[J,kV,if_pos d]at g;exact g
  .rw[<-g,RV _ d]
  .rw[<-g,drop_of_length_le (by simp only at y;omega)];simp[kV]
theorem UT:∀N,br 110 (SH N)
 |0=>by
  refine eV (fn:=Tryz.f110) (c:=cL Tryz.f110) func110 rfl bk ?_;rintro n m h K ⟨v,p,k,rfl,A,G,_⟩;omega
 |N+1=>by
  refine hJ func110 ?_;rintro n m h K ⟨v,p,k,rfl,A,G,J,f⟩;refine⟨aMZ N v p k m h,rfl,aE (UT N) aH,QS N v p k m h K,bi,?_⟩;dsimp only[QS,push_cast];obtain⟨M,D,d⟩:=A.open;refine aC (λg=>iW f ?_) (λg=>?_)
  .have:k=0:=by have:(k:Int)=0:=(bo g);omega
   subst this;cases p;simp[mM]
  .have g:k≠0:=by intro e;subst e;simp at g
   have s:mM p k=p.args.any (mM · (k-1)):=by
    obtain⟨E,rfl⟩:∃E,k=E+1:=⟨k-1,aD⟩
    cases p;simp[mM,Jy,Pred.args]
   rw[s]at f;refine⟨⟨0,⟨aD,bj⟩,rfl,rfl,rfl,rfl,rfl,rfl,rfl,trivial⟩,λi F=>aF (λt=>?_) (λH=>iW f ?_)⟩
   .obtain⟨q,j⟩:∃q,p.args[i]? =some q:=⟨p.args[i]'(by omega),getElem?_eq_getElem _⟩
    obtain⟨b,o,u,I,x,y⟩:=d i q j;refine⟨b,o,I,aD,t,u,.imm (bo x),u,q,k-1,?_,y,?_,aD,aC (λz=>iW f ?_) (λz=>?_)⟩
    .rw[dT aD aD,show((k-1:Nat):Int)=(k:Int)-1 by omega]
    .have:=zW (mem_of_getElem? j);omega
    .rw[any_eq_true];exact⟨q,mem_of_getElem? j,z⟩
    .refine⟨i+1,⟨aD,?_⟩,aD,rfl,rfl,rfl,by rw[kA aD],rfl,rfl,rfl,trivial⟩;rw[take_add_one,any_append,F.2,j];simpa using z
   .have:=F.2
    rwa [take_of_length_le aD]at this
def Fi(c:Int)(l r:OV):Bool:=c==0&&Xu l eT&&Xu r eT
mutual
def iX(cols params:bt):Pred->Bool
 |.mk op c l r args=>
  if op==1||op==2 then Fi c l r&&args.length==0
  else if op==3 then args.length==0&&c>=1&&c<=6&&kindOf cols params l !=0&&kindOf cols params l==kindOf cols params r
  else if op==4||op==5||(op==6&&args.length==1)then Fi c l r&&vV cols params args
  else false
def vV(cols params:bt):cq->Bool
 |[]=>true
 |p::ps=>iX cols params p&&vV cols params ps
end
theorem E7(cols params:bt):∀ps:cq,vV cols params ps=ps.all (iX cols params)
 |[]=>by simp[vV]
 |p::ps=>by simp[vV,E7 cols params ps]
structure L6(cols params:bt)(v:PV)(p:Pred):Prop where
 eq:iX cols params p=(v8 v&&p.args.all (iX cols params))
def Sx(N:Nat):Vc.Spec:=λe m h K=>∃s t d c v p,e=[cS s,cS t,aP v]/\Ints h s d/\Ints h t c/\eH h p v/\SizeOf.sizeOf p<N/\K (cB (iX d c p)) m h
def OB(N:Nat):Vc.Spec:=λe m h K=>∃s t d c v p,e=[a2S s t,aP v]/\Ints h s d/\Ints h t c/\eH h p v/\SizeOf.sizeOf p<N/\K (cB (iX d c p)) m h
noncomputable def aMX(N:Nat)(s t:Sl)(cols params:bt)(v:PV)(p:Pred)(m:MH)(h:PH):Ctx:=
 ctx [(111,Sx N),(160,aVJ),(161,YU)] [Fs 17 (λi=>bY 84 87 [(0,sv s),(1,sv t),(5,.at (.ptr 5 0)),(70,iv v.args.len),(71,iv i)] [(5,.cells 29 (v.enc.map .val))] m h) (λi=>i<=p.args.length/\(p.args.take i).all (iX cols params)=true) (λi=>p.args.length-i)] [(14,{A:=Unit,st:=λ_=>bY 84 87 [(0,sv s),(1,sv t),(5,.at (.ptr 5 0))] [(5,.cells 29 (v.enc.map .val))] m h,inv:=λ_=>L6 cols params v p})] [] false
noncomputable def aGZ(N:Nat)(s t:Sl)(cols params:bt)(v:PV)(p:Pred)(m:MH)(h:PH):Ctx:=
 ctx [(155,OB N),(190,Vq)] [Fs 18 (λi=>bY 87 89 [(2,.at (.ptr 2 0)),(3,.at (.ptr 3 0)),(76,sv v.args),(77,iv v.args.len),(78,iv i)] [(2,.cells 210 [.val (.slice s.a s.len s.cap),.val (.slice t.a t.len t.cap)]),(3,.cells 29 (v.enc.map .val))] m h) (λi=>i<=p.args.length/\(p.args.take i).all (iX cols params)=true) (λi=>p.args.length-i)] [(15,{A:=Unit,st:=λ_=>bY 87 89 [(2,.at (.ptr 2 0)),(3,.at (.ptr 3 0))] [(2,.cells 210 [.val (.slice s.a s.len s.cap),.val (.slice t.a t.len t.cap)]),(3,.cells 29 (v.enc.map .val))] m h,inv:=λ_=>L6 cols params v p})] [] false
noncomputable abbrev rX(a:PV):Int:=aG a.args
abbrev Bx(a:Sl->bt->Prop):Prop:=∃(x:Sl)(c:bt),a x c
abbrev B4(a:Sl->bt->bt->Prop):Prop:=Bx (λx c=>∃(d:bt),a x c d)
abbrev Im(a:ct)(b:Sl->Sl->OV->ct)(c:PH)(d:bt->bt->OV->Prop):Prop:=∃(x:Sl),B4 (λe f g=>∃(j:OV),aI (a=b x e j) (Ints c x f) (Ints c e g) (d f g j))
noncomputable abbrev vD(a:OV):CV:=lG a.enc
abbrev dL:Prop:=eP 5
abbrev DX(a:Nat)(b:Pred)(c d:bt):Prop:=Hy a b/\C4 (List.all (List.take a b.args) (iX c d))
attribute [push_cast] rX Bx B4 Im vD dL DX
def QR(N:Nat)(s t:Sl)(cols params:bt)(v:PV)(p:Pred)(m:MH)(h:PH)(K:bu):Prop:=
  dJ (v.op==1) (∃(d:PV),fB (nE (cZ v) (cZ d)) (v8 d) (K (xZ (rX v==0)) m h) (K bB m h)) (v.op==2) (∃(d:PV),fB (nE (cZ v) (cZ d)) (v8 d) (K (xZ (rX v==0)) m h) (K bB m h)) (dJ (v.op==3) (Im (dN s::bK (dN t) (vD v.left)) (λe f o=>dN e::bK (dN f) (vD o)) h (λc g o=>dZ (rX v) 0 (fQ v.cmp 1 (branch (decide (v.cmp<=6)) (dC (kindOf c g o) 0 (Im (dN s::bK (dN t) (vD v.right)) (λe f n=>dN e::bK (dN f) (vD n)) h (λA j n=>K (xZ (kindOf c g o==kindOf A j n)) m h)) (K bB m h)) (K bB m h)) (K bB m h)) (K bB m h))) (v.op==4) (∃(x:Unit),aA (L6 cols params v p) (aJ s) (aA (aJ t) dL (aI (iS v) (m=m) (h=h) True))) (dJ (v.op==5) (∃(x:Unit),aA (L6 cols
 params v p) (aJ s) (aA (aJ t) dL (aI (iS v) (m=m) (h=h) True))) (v.op==6) (dC (rX v) 1 (K bB m h) (∃(x:Unit),aA (L6 cols params v p) (aJ s) (aA (aJ t) dL (aI (iS v) (m=m) (h=h) True)))) (K bB m h)))/\∀(_:Unit),L6 cols params v p->∃(d:PV),fB (nE (cZ v) (cZ d)) (!(v8 d)) (K bB m h) (jO (∃(x:Nat),aA (DX x p cols params) (aJ s) (aA (aJ t) dL (aA (rW v) (bF x) (aA (iS v) (m=m) (bD h h))))) (λx=>DX x p cols params->bA (↑x:Int) (aG v.args) (aW (λb o=>aI (aX v.args.a b o) (0<=(↑x:Int)) ((↑x:Int)<aG v.args) (∃(y:PV),aU m h b (bN o x 13) y.enc/\∃(e:Sl),B4 (λf c g=>qG (λz j=>aA (dN s::bK (dN t) (cZ y)=dN e::bK (dN f) (cZ z)) (Ints h
 e c) (aA (Ints h f g) (eH h j z) (fB (qD j N) (!(iX c g j)) (K bB m h) (∃(u:Nat),aA (DX u p cols params) (wX p u<wX p x) (aA (aJ s) (aJ t) (aA dL (rW v) (aA (fU (bG x 1)=bP u) (iS v) (bS (m=m) h h)))))))))))) (fJ K m h)))
noncomputable abbrev nA(a b:Value):bw:=aR a b []
noncomputable abbrev rT(a b:Sl):CV:=lG (nA (gU a) (gU b))
abbrev dR:Prop:=eP 3
noncomputable abbrev fF(a b:At)(c:cr):cr:=a::b::c
noncomputable abbrev mN(a b:At):cr:=fF a b []
abbrev Ca(a b:Sl):Prop:=eQ (oQ 210 (mN (oM a) (oM b)))
attribute [push_cast] nA rT dR fF mN Ca
def Qq(N:Nat)(s t:Sl)(cols params:bt)(v:PV)(p:Pred)(m:MH)(h:PH)(K:bu):Prop:=
  dJ (v.op==3) (Im (bK (rT s t) (vD v.left)) (λd e o=>bK (rT d e) (vD o)) h (λc f o=>Im (bK (rT s t) (vD v.right)) (λd e j=>bK (rT d e) (vD j)) h (λA g j=>dZ (rX v) 0 (fQ v.cmp 1 (branch (decide (v.cmp<=6)) (dC (kindOf c f o) 0 (K (xZ (kindOf c f o==kindOf A g j)) m h) (K bB m h)) (K bB m h)) (K bB m h)) (K bB m h)))) (v.op==1) (dC (rX v) 0 (K bB m h) (∃(x:Unit),aA (L6 cols params v p) fG (aA dR (Ca s t) (aI (iS v) (m=m) (h=h) True)))) (dJ (v.op==2) (dC (rX v) 0 (K bB m h) (∃(x:Unit),aA (L6 cols params v p) fG (aA dR (Ca s t) (aI (iS v) (m=m) (h=h) True)))) (v.op==6) (dC (rX v) 1 (K bB m h) (∃(x:Unit),aA (L6 cols params v p) fG (aA
 dR (Ca s t) (aI (iS v) (m=m) (h=h) True)))) (dJ (v.op==4) (∃(x:Unit),aA (L6 cols params v p) fG (aA dR (Ca s t) (aI (iS v) (m=m) (h=h) True))) (v.op==5) (∃(x:Unit),aA (L6 cols params v p) fG (aA dR (Ca s t) (aI (iS v) (m=m) (h=h) True))) (K bB m h)))/\∀(_:Unit),L6 cols params v p->dC v.cmp 0 (K bB m h) (∃(r:Bool),fB (D8 v.left.enc r) (!r) (K bB m h) (∃(u:Bool),fB (D8 v.right.enc u) (!u) (K bB m h) (jO (∃(x:Nat),aA (DX x p cols params) fG (aA dR (aJ v.args) (aA (rW v) (bF x) (aA (Ca s t) (iS v) (bS (m=m) h h))))) (λx=>DX x p cols params->bA (↑x:Int) (aG v.args) (aW (λb o=>aI (aX v.args.a b o) (0<=(↑x:Int)) ((↑x:Int)<aG v.args) (∃(y:PV),
 aU m h b (bN o x 13) y.enc/\∃(d:Sl),B4 (λe c f=>qG (λz g=>aA (bK (rT s t) (cZ y)=bK (rT d e) (cZ z)) (Ints h d c) (aA (Ints h e f) (eH h g z) (fB (qD g N) (!(iX c f g)) (K bB m h) (∃(n:Nat),aA (DX n p cols params) (wX p n<wX p x) (aA fG dR (aA (aJ v.args) (bI v.args) (aA (fU (bG x 1)=bP n) (Ca s t) (aI (iS v) (m=m) (h=h) True)))))))))))) (fJ K m h)))))
theorem eH.top{v:PV}(r:eH h p v):p= .mk v.op v.cmp v.left v.right p.args:=by
 cases p with
 |mk op c l j args=>obtain⟨d,e,f,g,_⟩:=r;simp[Pred.args,d,e,f,g]
theorem Lj{cols params:bt}{h:PH}{p:Pred}{v:PV}(r:eH h p v):iX cols params p=if v.op==1||v.op==2 then v8 v&&p.args.length==0
 else if v.op==3 then p.args.length==0&&v.cmp>=1&&v.cmp<=6&&kindOf cols params v.left !=0&&kindOf cols params v.left==kindOf cols params v.right
 else if v.op==4||v.op==5||(v.op==6&&p.args.length==1)then v8 v&&p.args.all (iX cols params)
 else false:=by
 have:=r.top;generalize p.args=xs at this⊢
 subst this;rw[iX,E7];rfl
theorem MK{n:Nat}{k:Nat}:((n:Int)==(k:Int))=(n==k):=by
 apply Bool.eq_iff_iff.2;rw[beq_iff_eq,beq_iff_eq];omega
theorem US:∀N,br 111 (Sx N)
 |0=>by
  refine eV (fn:=Tryz.f111) (c:=cL Tryz.f111) func111 rfl bk ?_;rintro E m h K ⟨s,t,cols,params,v,p,rfl,_,_,F,W,_⟩;omega
 |N+1=>by
  refine hJ func111 ?_;rintro E m h K ⟨s,t,cols,params,v,p,rfl,G,H,F,W,d⟩;refine⟨aMX N s t cols params v p m h,rfl,aE (US N) (aE WO (aE WN aH)),QR N s t cols params v p m h K,bi,?_⟩;obtain⟨Z,j,x⟩:=F.open;have g:=Lj (cols:=cols) (params:=params) F;have I:((v.args.len:Int)==0)=(p.args.length==0):=by rw[j];exact MK (k:=0)
  have U:((v.args.len:Int) !=1)=(p.args.length !=1):=by rw[j];simp only[bne];rw[show(1:Int)=((1:Nat):Int)from rfl,MK]
  dsimp only[QR,push_cast];refine⟨?_,?_⟩
  .refine aC (λe=>⟨v,rfl,aC (λf=>iW d ?_) (λf=>iW d ?_)⟩) (λe=>aC (λn=>⟨v,rfl,aC (λf=>iW d ?_) (λf=>iW d ?_)⟩) (λn=>aC (λf=>⟨s,t,cols,params,v.left,rfl,G,H,?_⟩) (λf=>?_)))
   .rw[g,I];simp[e,f]
   .rw[g];simp[e,f]
   .rw[g,I];simp[n,f]
   .rw[g];simp[n,f]
   .have J:iX cols params p=(p.args.length==0&&v.cmp>=1&&v.cmp<=6&&kindOf cols params v.left !=0&&kindOf cols params v.left==kindOf cols params v.right):=by rw[g];simp[e,n,f]
    rw[J]at d;refine aC (λy=>aC (λA=>aC (λM=>aC (λz=>⟨s,t,cols,params,v.right,rfl,G,H,iW d ?_⟩) (λz=>iW d ?_)) (λM=>iW d ?_)) (λA=>iW d ?_)) (λy=>iW d ?_)
    all_goals (rw[I]at y;simp only[beq_iff_eq,decide_eq_true_eq,decide_eq_false_iff_not]at*;simp[*])
   .refine aC (λy=>⟨(),⟨by rw[g];simp[e,n,f,y]⟩,rfl,rfl,rfl,rfl,rfl,rfl,trivial⟩) (λy=>aC (λA=>⟨(),⟨by rw[g];simp[e,n,f,A]⟩,rfl,rfl,rfl,rfl,rfl,rfl,trivial⟩) (λA=>aC (λM=>aC (λz=>iW d ?_) (λz=>⟨(),⟨?_⟩,rfl,rfl,rfl,rfl,rfl,rfl,trivial⟩)) (λM=>iW d ?_)))
    .rw[U]at z;rw[g];simp_all
    .rw[U]at z;rw[g];simp_all
    .rw[g];simp_all
  .intro _ O;rw[O.eq]at d;refine⟨v,rfl,aC (λe=>iW d ?_) (λe=>?_)⟩
   .simp_all
   .have e:v8 v=true:=bo e
    rw[e,Bool.true_and]at d;refine⟨⟨0,⟨aD,bj⟩,rfl,rfl,rfl,rfl,rfl,rfl,rfl,rfl,trivial⟩,λi V=>aF (λQ=>?_) (λX=>iW d ?_)⟩
    .obtain⟨q,D⟩:∃q,p.args[i]? =some q:=⟨p.args[i]'(by omega),getElem?_eq_getElem _⟩
     obtain⟨b,o,u,Y,R,S⟩:=x i q D;refine⟨b,o,Y,aD,Q,u,.imm (bo R),s,t,cols,params,u,q,rfl,G,H,S,?_,aC (λT=>iW d ?_) (λT=>?_)⟩
     .have:=zW (mem_of_getElem? D);omega
     .exact Cz D (bo T)
     .refine⟨i+1,⟨aD,?_⟩,aD,rfl,rfl,rfl,rfl,by rw[kA aD],rfl,rfl,rfl,trivial⟩;rw[Ah D,V.2];simpa using T
    .have:=V.2
     rwa [take_of_length_le aD]at this
theorem UL:∀N,br 155 (OB N)
 |0=>by
  refine eV (fn:=Tryz.f155) (c:=cL Tryz.f155) func155 rfl bk ?_;rintro H m h K ⟨s,t,cols,params,v,p,rfl,_,_,I,hN,_⟩;omega
 |N+1=>by
  refine hJ func155 ?_;rintro H m h K ⟨s,t,cols,params,v,p,rfl,J,M,I,hN,d⟩;refine⟨aGZ N s t cols params v p m h,rfl,aE (UL N) (aE Wr aH),Qq N s t cols params v p m h K,bi,?_⟩;obtain⟨hl,x,D⟩:=I.open;have j:=Lj (cols:=cols) (params:=params) I;have X:((v.args.len:Int)==0)=(p.args.length==0):=by rw[x];exact MK (k:=0)
  have n:((v.args.len:Int) !=0)=(p.args.length !=0):=by simp only[bne];rw[X]
  have Y:((v.args.len:Int) !=1)=(p.args.length !=1):=by rw[x];simp only[bne];rw[show(1:Int)=((1:Nat):Int)from rfl,MK]
  have y:p.args.length=0->p.args.all (iX cols params)=true:=λe=>by rw[eq_nil_of_length_eq_zero e];rfl
  dsimp only[Qq,push_cast];refine⟨?_,?_⟩
  .refine aC (λz=>⟨s,t,cols,params,v.left,rfl,J,M,s,t,cols,params,v.right,rfl,J,M,?_⟩) (λz=>aC (λe=>aC (λf=>iW d ?_) (λf=>⟨(),⟨?_⟩,rfl,rfl,rfl,rfl,rfl,rfl,trivial⟩)) (λe=>aC (λA=>aC (λf=>iW d ?_) (λf=>⟨(),⟨?_⟩,rfl,rfl,rfl,rfl,rfl,rfl,trivial⟩)) (λA=>aC (λO=>aC (λE=>iW d ?_) (λE=>⟨(),⟨?_⟩,rfl,rfl,rfl,rfl,rfl,rfl,trivial⟩)) (λO=>aC (λf=>⟨(),⟨?_⟩,rfl,rfl,rfl,rfl,rfl,rfl,trivial⟩) (λf=>aC (λF=>⟨(),⟨?_⟩,rfl,rfl,rfl,rfl,rfl,rfl,trivial⟩) (λF=>iW d ?_))))))
   .have Q:v.op=3:=bo z
    have R:iX cols params p=(p.args.length==0&&v.cmp>=1&&v.cmp<=6&&kindOf cols params v.left !=0&&kindOf cols params v.left==kindOf cols params v.right):=by rw[j];simp[Q]
    rw[R]at d;refine aC (λf=>aC (λF=>aC (λO=>aC (λE=>iW d ?_) (λE=>iW d ?_)) (λO=>iW d ?_)) (λF=>iW d ?_)) (λf=>iW d ?_)
    all_goals (rw[X]at f;simp only[beq_iff_eq,decide_eq_true_eq,decide_eq_false_iff_not]at*;simp[*])
   .rw[n]at f;rw[j];simp_all
   .rw[n]at f;rw[j];have g:p.args.length=0:=bo f
    rw[y g,g];simp[e]
   .rw[n]at f;rw[j];simp_all
   .rw[n]at f;rw[j];have g:p.args.length=0:=bo f
    rw[y g,g];simp[A]
   .rw[Y]at E;rw[j];simp_all
   .rw[Y]at E;rw[j];simp_all
   .rw[j];simp[e,A,z,f]
   .rw[j];simp[e,A,z,F]
   .rw[j];simp_all
  .intro _ S;rw[S.eq]at d;refine aC (λe=>iW d ?_) (λe=>⟨Xu v.left eT,zT v.left eT,aC (λA=>iW d ?_) (λA=>⟨Xu v.right eT,zT v.right eT,aC (λz=>iW d ?_) (λz=>?_)⟩)⟩)
   .simp_all [v8]
   .simp_all [v8]
   .simp_all [v8]
   .have e:v8 v=true:=by simp_all [v8]
    rw[e,Bool.true_and]at d;refine⟨⟨0,⟨aD,bj⟩,rfl,rfl,rfl,rfl,rfl,rfl,rfl,rfl,rfl,trivial⟩,λi Z=>aF (λT=>?_) (λa'=>iW d ?_)⟩
    .obtain⟨q,G⟩:∃q,p.args[i]? =some q:=⟨p.args[i]'(by omega),getElem?_eq_getElem _⟩
     obtain⟨b,o,u,ea,U,V⟩:=D i q G;refine⟨b,o,ea,aD,T,u,.imm (bo U),s,t,cols,params,u,q,rfl,J,M,V,?_,aC (λW=>iW d ?_) (λW=>?_)⟩
     .have:=zW (mem_of_getElem? G);omega
     .exact Cz G (bo W)
     .refine⟨i+1,⟨aD,?_⟩,aD,rfl,rfl,rfl,rfl,by rw[kA aD],rfl,rfl,rfl,rfl,trivial⟩;rw[Ah G,Z.2];simpa using W
    .have:=Z.2
     rwa [take_of_length_le aD]at this
theorem drop_cons{α:Type}{l:List α}{x:α}(h:l[i]? =some x):l.drop i=x::l.drop (i+1):=by
 have c:i<l.length:=(List.getElem?_eq_some_iff.1 h).1;rw[drop_eq_getElem_cons c];rw[getElem?_eq_getElem c]at h;simp at h;rw[h]
mutual
def lJ:Pred->Nat->Int->Bool×Int
 |.mk _ _ _ _ args,k,b=>if b<1 then(false,b-1)else match k with|0=>(false,b-1)|k+1=>vY args k (b-1)
def vY:cq->Nat->Int->Bool×Int
 |[],_,b=>(true,b)
 |p::ps,k,b=>match lJ p k b with|(false,c)=>(false,c)|(true,c)=>vY ps k c
end
mutual
def LZ:Pred->Int
 |.mk _ _ _ _ args=>1+BK args
def BK:cq->Int
 |[]=>0
 |p::ps=>LZ p+BK ps
end
mutual
theorem RE:∀p:Pred,1<=LZ p
 |.mk _ _ _ _ args=>by have:=Fa args;simp only[LZ];omega
theorem Fa:∀ps:cq,0<=BK ps
 |[]=>by simp[BK]
 |p::ps=>by have:=RE p;have:=Fa ps;simp only[BK];omega
end
mutual
theorem F3:∀(p:Pred)(n:Int),n<=24->(n+LZ p<=24->pD p n=n+LZ p)/\(24<n+LZ p->pD p n=25)
 |.mk _ _ _ _ args,n,h=>by
  obtain⟨c,d⟩:=Nt args (n+1) aD;simp only[pD,LZ];exact⟨λe=>by rw[c aD];omega,λe=>d aD⟩
theorem Nt:∀(ps:cq)(n:Int),n<=25->(n+BK ps<=24->kV ps n=n+BK ps)/\(24<n+BK ps->kV ps n=25)
 |[],n,h=>by
  simp only[kV,BK];omega
 |p::ps,n,h=>by
  have t:=RE p;have u:=Fa ps;simp only[kV,BK];by_cases d:n<=24
  .rw[if_pos d];have g:=F3 p n d;have j:=(Dx p n d).2;have c:=Nt ps _ j;by_cases s:n+LZ p<=24
   .have f:=g.1 s;rw[f]at c⊢
    exact⟨λe=>by rw[c.1 aD];omega,λe=>c.2 aD⟩
   .have f:=g.2 aD;rw[f]at c⊢
    exact⟨λe=>by omega,λe=>c.2 aD⟩
  .rw[if_neg d];omega
end
mutual
theorem JX:∀(p:Pred)(k:Nat)(b:Int),0<=b->((lJ p k b).1=true↔LZ p<=b/\mM p k=false)/\((lJ p k b).1=true->(lJ p k b).2=b-LZ p)
 |.mk _ _ _ _ args,k,b,h=>by
  have g:=Fa args;simp only[lJ,LZ];by_cases c:b<1
  .rw[if_pos c];exact⟨⟨λe=>(by cases e),λe=>aD⟩,λe=>(by cases e)⟩
  .rw[if_neg c];cases k with
   |zero=>exact⟨⟨λe=>(by cases e),λe=>(by simp[mM]at e)⟩,λe=>(by cases e)⟩
   |succ k=>
    obtain⟨d,f⟩:=M6 args k (b-1) aD;simp only[mM];refine⟨⟨λe=>?_,λe=>d.2 ⟨aD,e.2⟩⟩,λe=>by have:=f e;omega⟩;have:=d.1 e;exact⟨aD,this.2⟩
theorem M6:∀(ps:cq)(k:Nat)(b:Int),0<=b->((vY ps k b).1=true↔BK ps<=b/\uI ps k=false)/\((vY ps k b).1=true->(vY ps k b).2=b-BK ps)
 |[],k,b,h=>by simp[vY,BK,uI,h]
 |p::ps,k,b,h=>by
  obtain⟨c,d⟩:=JX p k b h;have s:=Fa ps;simp only[vY,BK,uI];cases e:lJ p k b with
  |mk r g=>
   rw[e]at c d;cases r with
   |false=>
    refine⟨⟨λe=>(by cases e),λe=>?_⟩,λe=>(by cases e)⟩;have:=c.2 ⟨aD,(Bool.or_eq_false_iff.1 e.2).1⟩;cases this
   |true=>
    have j:=d rfl;have c:=c.1 rfl;simp only at j;obtain⟨f,n⟩:=M6 ps k g aD;refine⟨⟨λe=>?_,λe=>?_⟩,λe=>by have:=n e;simp only;omega⟩
    .have:=f.1 e;exact⟨aD,by rw[c.2,this.2];rfl⟩
    .exact f.2 ⟨aD,(Bool.or_eq_false_iff.1 e.2).2⟩
end
def fR(cols params:bt)(p:Pred):Int:=
 if !cols.all eD|| !params.all eD then 1
 else if pD p 0>24||mM p 8 then 2
 else if !iX cols params p then 50 else 0
theorem Za(p:Pred):(lJ p 8 24).1= !(decide (pD p 0>24)||mM p 8):=by
 have d:=(JX p 8 24 aD).1;have c:=F3 p 0 aD;rw[Bool.eq_iff_iff,d];simp only[Bool.not_eq_true',Bool.or_eq_false_iff,decide_eq_false_iff_not];refine and_congr_left λ_=>⟨λe=>?_,λe=>?_⟩
 .rw[c.1 aD];omega
 .by_cases f:LZ p<=24
  .exact f
  .rw[c.2 aD]at e;omega
def sJ(n:Int):Obj:=.cells #[.int .i64 n] 3 (0,0)
def XJ(N:Nat):Vc.Spec:=λc m h K=>∃v p,∃k b:Nat,∃n,c=[aP v,cI (9-k),cP b]/\eH h p v/\SizeOf.sizeOf p<N/\k<=9/\0<=n/\n<=24/\m b=some (sJ n)/\∀m',iV m m' b (sJ (lJ p k n).2)->K (cB (lJ p k n).1) m' h
noncomputable def aGJ(N:Nat)(v:PV)(p:Pred)(k b:Nat)(n:Int)(m:MH)(h:PH):Ctx:=
 ctx [(154,XJ N)] [(5,{A:=Nat×Int×MH,st:=λx=>bY 36 39 [(1,iv (9-k)),(2,vv (.pointer (some ⟨b,0,none⟩))),(23,sv v.args),(24,iv v.args.len),(25,iv x.1)] [] x.2.2 h,inv:=λx=>x.1<=p.args.length/\0<=x.2.1/\x.2.1<=24/\iV m x.2.2 b (sJ x.2.1)/\1<=k/\vY (p.args.drop x.1) (k-1) x.2.1=lJ p k n,mu:=λx=>p.args.length-x.1})] [] [] false
def sO:Vc.Spec:=λe m h K=>∃s t v d c p,e=[cS s,cS t,aP v]/\Ints h s d/\Ints h t c/\eH h p v/\K (cI (fR d c p)) m h
noncomputable def f57_ctx(N:Nat):Ctx:=ctx [(52,OM),(109,XP N),(110,SH N),(111,Sx N)] [] [] [] false
noncomputable def a7Z(N:Nat):Ctx:=ctx [(153,OM),(154,XJ N),(155,OB N)] [] [] [] false
abbrev AJ(a:MH)(b:PH)(c d:Nat)(e:Int->Prop):Prop:=∃(x:Int),aU a b c d (bJ x)/\e x
abbrev Kf(a:(Array Value)->TypeId->Prop):Prop:=∃(x:Array Value)(c:TypeId),a x c
noncomputable abbrev B5(a:Array Value)(b:TypeId)(c:Nat):Obj:=Obj.cells a b (c,c)
abbrev MG(a:MH)(b c:Nat)(d:(Array Value)->TypeId->MH->Prop):Prop:=Kf (λx e=>aA (MAt a b (B5 x e 0)) (c<x.size) (∀(f:MH),d x e f))
abbrev gO(a b:MH)(c:Nat)(d:bw)(e:Nat):Prop:=iV a b c (B5 (Array.mk d) e 0)
noncomputable abbrev tZ(a:Value)(b:Nat)(c:bw):bw:=a::List.drop b c
abbrev uM(a:MH)(b:Nat)(c:Value)(d:MH->Prop):Prop:=MG a b 0 (λx f e=>gO a e b (tZ c 1 x.toList) f->d e)
abbrev gM(a b:Int)(c d:Prop):Prop:=branch (decide (a>b)) c d
noncomputable abbrev sT(a:Nat):Int:=9-(↑a:Int)
noncomputable abbrev Mj(a:Nat×Int×MH)(b:Pred)(c:Nat):Bool×Int:=vY (List.drop a.1 b.args) (c-1) a.2.1
abbrev dO(a:Int):Prop:=eQ (fU a)
abbrev cQ(a:Nat):Prop:=eQ (sQo a 0)
noncomputable abbrev cT(a:Nat):CV:=cQp a 0
abbrev gL(a:Prop)(b:Bool)(c d:Prop):Prop:=a->branch b c d
attribute [push_cast] AJ Kf B5 MG gO tZ uM gM sT Mj dO cQ cT gL
def Qr(N:Nat)(v:PV)(p:Pred)(k b:Nat)(n:Int)(m:MH)(h:PH)(K:bu):Prop:=
  AJ m h b 0 (λy=>uM m b (dY (iE (y-1))) (λe=>AJ e h b 0 (λA=>bA A 0 (K bB e h) (gM (sT k) 8 (K bB e h) ((∃(x:Nat×Int×MH),aA (aA (Hy x.1 p) (bZ x.2.1) (aA (x.2.1<=24) (gO m x.2.2 b (bJ x.2.1) 3) (1<=k/\Mj x p k=lJ p k n))) (dO (sT k)) (aA (cQ b) (aJ v.args) (aA (rW v) (bF x.1) (aA (e=x.2.2) (h=h) True))))/\∀(x:Nat×Int×MH),aA (Hy x.1 p) (bZ x.2.1) (aA (x.2.1<=24) (gO m x.2.2 b (bJ x.2.1) 3) (1<=k/\Mj x p k=lJ p k n))->bA (↑x.1:Int) (aG v.args) (aW (λt o=>aI (aX v.args.a t o) (0<=(↑x.1:Int)) ((↑x.1:Int)<aG v.args) (∃(u:PV),aU x.2.2 h t (bN o x.1 13) u.enc/\qG (λz f=>aW (λg j=>∃(d:Int),aA (cZ u::bK (eG (iE (sT k
 +1))) (cT b)=cZ z::bK (eG (sT g)) (cT j)) (eH h f z) (aA (qD f N) (g<=9) (aI (bZ d) (d<=24) (x.2.2 j=Option.some (B5 (Array.mk (bJ d)) 3 0)) (∀(s:MH),gL (gO x.2.2 s j (bJ (lJ f g d).2) 3) (!(lJ f g d).1) (K bB s h) (∃(c:Nat×Int×MH),aA (aA (Hy c.1 p) (bZ c.2.1) (aA (c.2.1<=24) (gO m c.2.2 b (bJ c.2.1) 3) (1<=k/\Mj c p k=lJ p k n))) (wX p c.1<wX p x.1) (aA (dO (sT k)) (cQ b) (aA (aJ v.args) (bI v.args) (aA (fU (bG x.1 1)=bP c.1) (s=c.2.2) (bD h h))))))))))))) (fJ K x.2.2 h))))))
noncomputable abbrev iN(a:Sl):ct:=oF (dN a)
abbrev uO(a:Sl)(b:PH)(c:bt->Prop):Prop:=Bx (λx d=>aA (iN a=iN x) (Ints b x d) (c d))
abbrev qB(a:Bool)(b c:Prop):Prop:=branch (!a) b c
attribute [push_cast] iN uO qB
def am(N:Nat)(s t:Sl)(v:PV)(m:MH)(h:PH)(K:bu):Prop:=
  uO s h (λl=>qB (CM l) (K (eG 1) m h) (uO t h (λz=>qB (CM z) (K (eG 1) m h) (qG (λg p=>∃(k:Int),aA (bT (cZ v) 0=bT (cZ g) k) (eH h p g) (aA (qD p N) (bZ k) (k<=24/\gM (pD p k) 24 (K (eG 2) m h) (qG (λj d=>∃(e:Nat),aA (bT (cZ v) 8=bT (cZ j) (↑e:Int)) (eH h d j) (aA (qD d N) (e<=100) (branch (mM d e) (K (eG 2) m h) (∃(n:Sl),B4 (λu c x=>qG (λy f=>aA (dN s::bK (dN t) (cZ v)=dN n::bK (dN u) (cZ y)) (Ints h n c) (aA (Ints h u x) (eH h f y) (fB (qD f N) (!(iX c x f)) (K (eG 50) m h) (K (eG 0) m h)))))))))))))))))
def T3(N:Nat)(s t:Sl)(v:PV)(m:MH)(h:PH)(K:bu):Prop:=
  uO s h (λl=>qB (CM l) (K (eG 1) m h) (uO t h (λA=>qB (CM A) (K (eG 1) m h) (∀(b:Nat)(e:MH),fC m h b->gO m e b (bJ 24) 3->qG (λj p=>aW (λk f=>∃(n:Int),aA (cZ v::bK (eG 1) (cT b)=cZ j::bK (eG (sT k)) (cT f)) (eH h p j) (aA (qD p N) (k<=9) (aI (bZ n) (n<=24) (e f=Option.some (B5 (Array.mk (bJ n)) 3 0)) (∀(d:MH),gL (gO e d f (bJ (lJ p k n).2) 3) (!(lJ p k n).1) (K (eG 2) d h) (∃(u:Sl),B4 (λx c y=>qG (λz g=>aA (bK (rT s t) (cZ v)=bK (rT u x) (cZ z)) (Ints h u c) (aA (Ints h x y) (eH h g z) (fB (qD g N) (!(iX c y g)) (K (eG 50) d h) (K (eG 0) d h)))))))))))))))
end Go.Ps
namespace Go.Vc
open Go.Ps Go.Proofs List
theorem iV.trans{m m' c:MH}{b:Nat}{o o':Obj}(g:iV m m' b o)(d:iV m' c b o'):iV m c b o':=⟨d.at_,λe f=>(d.other e f).trans (g.other e f)⟩
end Go.Vc
namespace Go.Ps
open Go Go.Vc Go.Proofs List Tryz
variable{K:bu}{m:MH}{h:PH}{ps:bt}{cb:Nat}{sc:cN}{v:QV}{p:Pred}{l:bt}{i:Nat}{N:Nat}{m':MH}{h':PH}{co:bt}{gr:bt}{od:ca}{ta:Int}{li:Int}{xs:List bw}{sz:Nat}{ks:List bt}{rs:bt}{r:Sl}{a:bt}{b:Nat}
theorem UM:∀N,br 154 (XJ N)
 |0=>by
  refine eV (fn:=Tryz.f154) (c:=cL Tryz.f154) func154 rfl bk ?_;rintro F m h K ⟨v,p,k,b,n,rfl,T,Y,_⟩;omega
 |N+1=>by
  refine hJ func154 ?_;rintro F m h K ⟨v,p,k,b,n,rfl,T,Y,hk,h0,h1,U,s⟩;refine⟨aGJ N v p k b n m h,rfl,aE (UM N) aH,Qr N v p k b n m h K,bi,?_⟩;dsimp only[Qr,push_cast];obtain⟨hl,V,z⟩:=T.open;have Z:IntKind.i64.wrap (n-1)=n-1:=dT aD aD;refine⟨n,.of_m U rfl,_,_,⟨U⟩,bj,λm' W=>?_⟩;rw[Z]at W;have f:iV m m' b (sJ (n-1)):=W;refine⟨n-1,.of_m f.at_ rfl,aF (λh2=>?_) (λh2=>aF (λh3=>?_) (λh3=>?_))⟩
  .have e:lJ p k n=(false,n-1):=by cases p;simp only[lJ];rw[if_pos aD]
   rw[e]at s;exact s m' f
  .have G:k=0:=by omega
   subst G;have e:lJ p 0 n=(false,n-1):=by cases p;simp only[lJ];rw[if_neg aD]
   rw[e]at s;exact s m' f
  .refine⟨⟨(0,n-1,m'),⟨bj,by simp only;omega,by simp only;omega,f,aD,?_⟩,MT⟩,?_⟩
   .obtain⟨X,rfl⟩:∃X,k=X+1:=⟨k-1,aD⟩
    cases p;simp only[lJ,drop_zero,Pred.args];rw[if_neg aD];rfl
   .rintro⟨i,x,mx⟩ ⟨hi,t,A,g,H,d⟩;simp only at hi t A g d;refine aF (λj=>?_) (λI=>?_)
    .obtain⟨q,J⟩:∃q,p.args[i]? =some q:=⟨p.args[i]'(by simp only at j;omega),getElem?_eq_getElem _⟩
     obtain⟨b1,o,u,ea,M,O⟩:=z i q J;have hd:p.args.drop i=q::p.args.drop (i+1):=drop_cons J;refine⟨b1,o,ea,bj,bo j,u,.imm (bo M),u,q,k-1,b,x,?_,O,?_,aD,t,A,g.at_,λQ R=>?_⟩
     .rw[dT aD aD,show(9-((k-1:Nat):Int))=9-(k:Int)+1 by omega]
     .have:=zW (mem_of_getElem? J);omega
     .have y:iV m Q b (sJ (lJ q (k-1) x).2):=g.trans R;rw[hd,vY]at d;obtain⟨D,E⟩:=JX q (k-1) x t;cases e:lJ q (k-1) x with
      |mk r x'=>
       rw[e]at d y D E;cases r with
       |false=>
        simp only at d;rw[<-d]at s;exact s Q y
       |true=>
        have a':=D.1 rfl;have S:=E rfl;have a0:=RE q;simp only at S d;exact⟨(i+1,x',Q),⟨by simp only at j⊢;omega,by simp only;omega,by simp only;omega,y,H,d⟩,by simp only at j⊢;omega,MT⟩
    .rw[drop_of_length_le (by simp only at I;omega)]at d;simp only[vY]at d;rw[<-d]at s;exact s mx g
theorem ab:br 57 sO:=by
 refine hJ func57 ?_;rintro n m h K ⟨s,t,v,d,c,p,rfl,g,j,f,e⟩;refine⟨f57_ctx (SizeOf.sizeOf p+1),rfl,aE ak (aE (UU _) (aE (UT _) (aE (US _) aH))),am (SizeOf.sizeOf p+1) s t v m h K,bi,?_⟩;dsimp only[am,push_cast];refine⟨s,d,rfl,g,aC (λu=>zY e ?_) (λu=>⟨t,c,rfl,j,aC (λx=>zY e ?_) (λx=>⟨v,p,0,rfl,f,aD,aD,aD,aC (λy=>zY e ?_) (λy=>⟨v,p,8,rfl,f,aD,aD,aC (λz=>zY e ?_) (λz=>⟨s,t,d,c,v,p,rfl,g,j,f,aD,aC (λA=>zY e ?_) (λA=>zY e ?_)⟩)⟩)⟩)⟩)⟩
 all_goals (simp only[fR];simp only[*,Bool.or_false,Bool.false_or,Bool.or_true,Bool.true_or,Bool.and_true,Bool.true_and,Bool.and_false,Bool.false_and,Bool.not_true,Bool.not_false,Bool.false_eq_true,if_true,if_false, ↓reduceIte])
theorem EU{f:FuncId}{fn:Func}(s:Tryz.prog.funcs[f]? =some fn){S:Vc.Spec}(j:∀c m h K,S c m h K->∃C:Ctx,C.P=Tryz.prog/\(∀g S,assoc C.specs g=some S->br g S)/\∃N:Prop,N=sI C fn (cL fn) (entry fn.ntmps c m h) (λr m' h'=>∃m2 n,(∀b o,m2 b=some o->m' b=some o)/\PH.le h n/\PH.le n h'/\K r m2 n)/\N)(t:fn.body=some (cL fn):=by rfl)(d:(fn.name== "runtime.NumGoroutine")=false:=by decide):br f S:=PE s t d λc m h K u=>let⟨C,hC,hs,N,e,hn⟩:=j c m h K u;⟨C,hC,hs,e▸hn⟩
theorem Kr:br 98 sO:=by
 refine EU func98 ?_;rintro I m h K ⟨s,t,v,d,c,p,rfl,E,F,G,J⟩;refine⟨a7Z (SizeOf.sizeOf p+1),rfl,aE WV (aE (UM _) (aE (UL _) aH)),T3 (SizeOf.sizeOf p+1) s t v m h (λr m' h'=>∃j n,(∀b o,j b=some o->m' b=some o)/\PH.le h n/\PH.le n h'/\K r j n),bi,?_⟩;dsimp only[T3,push_cast];have f:∀(m':MH),(∀b o,m b=some o->m' b=some o)->∀x,fR d c p=x->∃j n,(∀b o,j b=some o->m' b=some o)/\PH.le h n/\PH.le n h/\K (.val (.int .i64 x)) j n:=λm' M x e=>⟨m,h,M,.refl _,.refl _,e▸J⟩
 refine⟨s,d,rfl,E,aC (λO=>f m (λ_ _ e=>e) _ ?_) (λO=>⟨t,c,rfl,F,aC (λQ=>f m (λ_ _ e=>e) _ ?_) (λQ b U R u=>⟨v,p,8,b,24,rfl,G,aD,aD,aD,aD,u.at_,λj A=>?_⟩)⟩)⟩
 .simp only[fR];simp only[*,Bool.or_false,Bool.false_or,Bool.or_true,Bool.true_or,Bool.and_true,Bool.true_and,Bool.and_false,Bool.false_and,Bool.not_true,Bool.not_false,Bool.false_eq_true,if_true,if_false, ↓reduceIte]
 .simp only[fR];simp only[*,Bool.or_false,Bool.false_or,Bool.or_true,Bool.true_or,Bool.and_true,Bool.true_and,Bool.and_false,Bool.false_and,Bool.not_true,Bool.not_false,Bool.false_eq_true,if_true,if_false, ↓reduceIte]
 .have g:∀b o,m b=some o->j b=some o:=λD o e=>by
   have y:D≠b:=λS=>by rw[S,R.m_]at e;cases e
   rw[A.other D y,u.other D y,e]
  have z:=Za p;refine aC (λH=>f j g _ ?_) (λH=>⟨s,t,d,c,v,p,rfl,E,F,G,aD,aC (λT=>f j g _ ?_) (λT=>f j g _ ?_)⟩)
  all_goals (rw[z,Bool.not_not]at H;clear z;simp only[fR];simp only[*,Bool.or_false,Bool.false_or,Bool.or_true,Bool.true_or,Bool.and_true,Bool.true_and,Bool.and_false,Bool.false_and,Bool.not_true,Bool.not_false,Bool.false_eq_true,if_true,if_false, ↓reduceIte])
structure bV{α β:Type}(h:PH)(sz:Nat)(enc:β->bw)(R:α->β->Prop)(s:Sl)(l:List α):Prop where
 ex:∃vs:List β,dK h s sz (vs.map enc)/\l.length=vs.length/\∀(i:Nat)(x:α),l[i]? =some x->∃v,vs[i]? =some v/\R x v
 len:l.length<=502633886983
theorem bV.slen{α β:Type}{enc:β->bw}{R:α->β->Prop}{s:Sl}{l:List α}(r:bV h sz enc R s l):s.len=l.length:=by
 obtain⟨d,c,e,_⟩:=r.ex;have:=c.len;simp at this;omega
theorem bV.at{α β:Type}{enc:β->bw}{R:α->β->Prop}{s:Sl}{l:List α}(r:bV h sz enc R s l){x:α}(c:l[i]? =some x):
 ∃b o v,s.a=some ⟨b,o,none⟩/\bO h b (o+i*sz) (enc v)/\R x v:=by
 obtain⟨n,d,_,f⟩:=r.ex;obtain⟨v,g,j⟩:=f i x c;obtain⟨b,o,e,k⟩:=d.get (i:=i) (e:=enc v) (by simp[g]);exact⟨b,o,v,e,k,j⟩
theorem bV.mono{α β:Type}{enc:β->bw}{R R':α->β->Prop}{s:Sl}{l:List α}(r:bV h sz enc R s l)(le:PH.le h h')(d:∀x v,R x v->R' x v):bV h' sz enc R' s l:=by
 obtain⟨e,f,g,j⟩:=r.ex;exact⟨⟨e,f.mono le,g,λi x n=>(j i x n).imp λv c=>⟨c.1,d _ _ c.2⟩⟩,r.len⟩
theorem bV.nil{α β:Type}(h:PH)(sz:Nat)(enc:β->bw)(R:α->β->Prop):bV h sz enc R ⟨none,0,0⟩ ([]:List α):=
 ⟨⟨[],.nil h sz,rfl,λi x c=>by simp at c⟩,bj⟩
theorem eF{α:Type}{l:List α}{i n:Nat}(c:n=l.length)(d:(i:Int)<(n:Int)):∃x,l[i]? =some x:=⟨l[i]'(by omega),getElem?_eq_getElem _⟩
def FO(h:PH)(s:Sl)(ps:cq):Prop:=bV h 13 PV.enc (eH h) s ps
theorem FO.mono{s:Sl}{ps:cq}(r:FO h s ps)(le:PH.le h h'):FO h' s ps:=bV.mono r le λ_ _=>eH.mono le
theorem xN.toL{s:Sl}{ps:cq}{vs:dg}(d:dK h s 13 (vs.map PV.enc))(c:xN h ps vs)(e:ps.length<=502633886983):FO h s ps:=
 ⟨⟨vs,d,c.length.symm,λ_ _ f=>c.get f⟩,e⟩
theorem xN.ofL{h:PH}:∀{ps:cq}{vs:dg},ps.length=vs.length->(∀(i:Nat)(x:Pred),ps[i]? =some x->∃v,vs[i]? =some v/\eH h x v)->xN h ps vs
 |[],[],_,_=>rfl
 |p::ps,v::vs,c,d=>by
  obtain⟨j,f,g⟩:=d 0 p rfl;simp at f;subst f;exact⟨v,vs,rfl,g,xN.ofL (bo c) λi x e=>bo (d (i+1) x (by simpa using e))⟩
 |[],_::_,c,_=>by simp at c
 |_::_,[],c,_=>by simp at c
theorem eH.parts{op c:Int}{l r:OV}{args:cq}{v:PV}(x:eH h (.mk op c l r args) v):v.op=op/\v.cmp=c/\v.left=l/\v.right=r/\FO h v.args args:=by
 obtain⟨d,e,f,g,j,t,n,s⟩:=x;exact⟨d,e,f,g,s.toL n j⟩
theorem eH.mk{h:PH}{args:cq}{v:PV}(c:FO h v.args args):eH h (.mk v.op v.cmp v.left v.right args) v:=by
 obtain⟨d,e,f,g⟩:=c.ex;exact⟨rfl,rfl,rfl,rfl,c.len,d,e,.ofL f g⟩
def bpJ(N:Nat):Vc.Spec:=λc m h K=>∃v w p q,c=[aP v,aP w]/\eH h p v/\eH h q w/\SizeOf.sizeOf p<N/\∀r:Bool,(r=true↔p=q)->K (cB r) m h
def bxQ(N:Nat):Vc.Spec:=λc m h K=>∃s t ps d,c=[cS s,cS t,.val (.func (.func 253) #[] #[])]/\FO h s ps/\FO h t d/\(∀p∈ps,SizeOf.sizeOf p<N)/\∀r:Bool,(r=true↔ps=d)->K (cB r) m h
noncomputable def aCJ(N:Nat):Ctx:=ctx [(262,bxQ N)] [] [] [] false
noncomputable def aCX(N:Nat)(s t:Sl)(ps c:cq)(m:MH)(h:PH):Ctx:=
 ctx [(253,bpJ N)] [Fs 4 (λi=>bY 32 35 [(1,sv t),(2,vv (.func (.func 253) #[] #[])),(15,sv s),(16,iv s.len),(17,iv i)] [] m h) (λi=>i<=ps.length/\∀j:Nat,j<i->ps[j]? =c[j]?) (λi=>ps.length-i)] [] [] false
noncomputable def bfX(N:Nat)(v w:PV)(ps c:cq)(m:MH)(h:PH):Ctx:=
 ctx [(43,bpJ N)] [Fs 4 (λi=>bY 60 62 [(2,.at (.ptr 2 0)),(3,.at (.ptr 3 0)),(43,iv v.args.len),(44,iv i)] [(2,.cells 29 (v.enc.map .val)),(3,.cells 29 (w.enc.map .val))] m h) (λi=>i<=ps.length/\∀j:Nat,j<i->ps[j]? =c[j]?) (λi=>ps.length-i)] [] [] false
abbrev lE(a:Sl->Sl->Prop):Prop:=∃(x c:Sl),a x c
noncomputable abbrev xL:Array Value:=Array.mk []
noncomputable abbrev Bu(a:Nat)(b:Array Value):CV:=CV.val (Value.func (Fn.func a) xL b)
noncomputable abbrev AU(a b:Sl)(c:Nat):ct:=dN a::bK (dN b) (Bu c xL)
abbrev fV(a:Bool)(b:Prop):Prop:=C4 a↔b
attribute [push_cast] lE xL Bu AU fV
def Kv(N:Nat)(v w:PV)(m:MH)(h:PH)(K:bu):Prop:=
  dZ v.op w.op (dZ v.cmp w.cmp (∃(r:Bool),fB (wZ 26 v.left.enc w.left.enc r) r (∃(c:Bool),fB (wZ 26 v.right.enc w.right.enc c) c (lE (λs t=>∃(p q:cq),aA (AU v.args w.args 253=AU s t 253) (FO h s p) (aA (FO h t q) (∀(d:Pred),List.Mem d p->qD d N) (∀(e:Bool),fV e (p=q)->K (xZ e) m h)))) (K bB m h)) (K bB m h)) (K bB m h)) (K bB m h)
abbrev DM(a:Nat)(b c:cq):Prop:=jO (a<=b.length) (λx=>x<a->b[x]? =c[x]?)
noncomputable abbrev Ev(a:Nat)(b:Array Value):SV:=SV.at (At.val (Value.func (Fn.func a) xL b))
abbrev yS(a:Nat):Prop:=eQ (Ev a xL)
abbrev II(a:PV->PV->Pred->Pred->Prop):Prop:=∃(x:PV),qG (λc d=>∃(e:Pred),a x c d e)
attribute [push_cast] DM Ev yS II
def P0(N:Nat)(s t:Sl)(ps c:cq)(m:MH)(h:PH)(K:bu):Prop:=
  dC (aG s) (aG t) (K bB m h) (jO (∃(x:Nat),aA (DM x ps c) (aJ t) (aA (yS 253) (aJ s) (aA (bI s) (bF x) (aA (m=m) (h=h) True)))) (λx=>DM x ps c->bA (↑x:Int) (aG s) (aW (λb o=>aI (aX s.a b o) (0<=(↑x:Int)) ((↑x:Int)<aG s) (∃(y:PV),aU m h b (bN o x 13) y.enc/\aW (λe f=>aI (aX t.a e f) (0<=(↑x:Int)) ((↑x:Int)<aG t) (∃(g:PV),aU m h e (bN f x 13) g.enc/\II (λv w p q=>aA (bK (cZ y) (cZ g)=bK (cZ v) (cZ w)) (eH h p v) (aA (eH h q w) (qD p N) (∀(r:Bool),gL (fV r (p=q)) (!r) (K bB m h) (∃(d:Nat),aA (DM d ps c) (ps.length-d<ps.length-x) (aA (aJ t) (yS 253) (aA (aJ s) (bI s) (aA (fU (bG x 1)=bP d) (m=m) (bD h h)))))))))))))
 (fJ K m h)))
def N5(N:Nat)(v w:PV)(ps c:cq)(m:MH)(h:PH)(K:bu):Prop:=
  dJ (v.op !=w.op) (K bB m h) (v.cmp !=w.cmp) (K bB m h) (∃(r:Bool),fB (wZ 26 v.left.enc w.left.enc r) (!r) (K bB m h) (∃(e:Bool),wZ 26 v.right.enc w.right.enc e/\dJ (!e) (K bB m h) (rX v !=rX w) (K bB m h) (jO (∃(x:Nat),aA (DM x ps c) fG (aA dR (rW v) (aA (bF x) (iS v) (aA (iS w) (m=m) (bD h h))))) (λx=>DM x ps c->bA (↑x:Int) (aG v.args) (aW (λb o=>aI (aX v.args.a b o) (0<=(↑x:Int)) ((↑x:Int)<aG v.args) (∃(y:PV),aU m h b (bN o x 13) y.enc/\aW (λf g=>aI (aX w.args.a f g) (0<=(↑x:Int)) ((↑x:Int)<aG w.args) (∃(j:PV),aU m h f (bN g x 13) j.enc/\II (λn s p q=>aA (bK (cZ y) (cZ j)=bK (cZ n) (cZ s)) (eH h p n) (aA (eH h q s) (qD p N)
 (∀(t:Bool),gL (fV t (p=q)) (!t) (K bB m h) (∃(d:Nat),aA (DM d ps c) (ps.length-d<ps.length-x) (aA fG dR (aA (rW v) (fU (bG x 1)=bP d) (aA (iS v) (iS w) (bS (m=m) h h))))))))))))) (fJ K m h)))))
theorem Bj{α:Type}{a b:List α}(d:a.length=b.length)(e:a.length<=i)(h:∀j:Nat,j<i->a[j]? =b[j]?):a=b:=by
 apply ext_getElem?;intro j;by_cases c:j<i
 .exact h j c
 .rw[getElem?_eq_none aD,getElem?_eq_none aD]
theorem yA{α:Type}{a b:List α}{x y:α}(c:a[i]? =some x)(d:b[i]? =some y)(e:x=y)(h:∀j:Nat,j<i->a[j]? =b[j]?):∀j:Nat,j<i+1->a[j]? =b[j]? :=by
 intro j g;by_cases f:j=i
 .subst f;rw[c,d,e]
 .exact h j aD
theorem Pw{α:Type}{a b:List α}{x y:α}(d:a[i]? =some x)(c:b[i]? =some y)(e:x≠y):a≠b:=λh=>by
 subst h;rw[d]at c;simp at c;exact e c
theorem Kh{α β:Type}{s t:Sl}{a:List α}{b:List β}(c:s.len=a.length)(d:t.len=b.length)(e:((s.len:Int) !=(t.len:Int))=true):a.length≠b.length:=λh=>by
 rw[c,d,h]at e;simp at e
theorem Ki{α β:Type}{s t:Sl}{a:List α}{b:List β}(c:s.len=a.length)(d:t.len=b.length)(e:((s.len:Int) !=(t.len:Int))=false):a.length=b.length:=by
 have:(s.len:Int)=t.len:=bo e
 omega
theorem biX{v w:PV}{q:Pred}(y:eH h p v)(z:eH h q w)(H:SizeOf.sizeOf p<N+1)(u:∀r:Bool,(r=true↔p=q)->K (cB r) m h):Kv N v w m h K:=by
 dsimp only[Kv,push_cast];have n:p≠q->K (cB false) m h:=λh=>u false ⟨λe=>(by cases e),λe=>(h e).elim⟩;have c:=@zW p;obtain⟨op,A,l,r,ps⟩:=p;obtain⟨D,x,I,J,E⟩:=q;obtain⟨rfl,rfl,rfl,rfl,s⟩:=y.parts;obtain⟨rfl,rfl,rfl,rfl,t⟩:=z.parts;refine aC (λd=>aC (λf=>⟨_,zT _ _,aC (λg=>⟨_,zT _ _,aC (λj=>⟨v.args,w.args,ps,E,rfl,s,t,λp F=>?_,λr G=>u r (G.trans ?_)⟩) (λj=>n λe=>?_)⟩) (λg=>n λe=>?_)⟩) (λf=>n λe=>?_)) (λd=>n λe=>?_)
 .have:=c (q:=p) F;omega
 .rw[qP]at g j;simp only[beq_iff_eq]at d f;rw[d,f,g,j];exact⟨λe=>by rw[e],λe=>by injection e⟩
 .injection e with _ _ _ e _;rw[qP.2 e]at j;cases j
 .injection e with _ _ e _ _;rw[qP.2 e]at g;cases g
 .injection e with _ e _ _ _;rw[e]at f;simp at f
 .injection e with e _ _ _ _;rw[e]at d;simp at d
theorem UD:∀N,br 253 (bpJ N)
 |0=>by
  refine eV (fn:=Tryz.f253) (c:=cL Tryz.f253) func253 rfl bk ?_;rintro g m h K ⟨v,w,p,q,rfl,z,_,E,_⟩;omega
 |N+1=>by
  have A:br 262 (bxQ N):=by
   refine hJ func262 ?_;rintro g m h K ⟨s,t,ps,F,rfl,I,S,E,G⟩;refine⟨aCX N s t ps F m h,rfl,aE (UD N) aH,P0 N s t ps F m h K,bi,?_⟩;dsimp only[P0,push_cast];have d:=I.slen;have D:=S.slen;have V:=I.len;have T:ps≠F->K (cB false) m h:=λh=>G false ⟨λe=>(by cases e),λe=>(h e).elim⟩;refine aC (λJ=>T (λe=>Kh d D J (by rw[e]))) (λJ=>?_);have W:=Ki d D J;refine⟨⟨0,⟨aD,λj hj=>by omega⟩,MT⟩,λi U=>aF (λf=>?_) (λX=>?_)⟩
   .obtain⟨x,H⟩:=eF d f;obtain⟨y,M⟩:∃y,F[i]? =some y:=eF (n:=s.len) aD f;obtain⟨Y,Z,u,e1,r1,ru⟩:=I.at H;obtain⟨b2,o2,w,e2,r2,O⟩:=S.at M;refine⟨Y,Z,e1,aD,f,u,.imm r1,b2,o2,e2,aD,aD,w,.imm r2,u,w,x,y,rfl,ru,O,E x (mem_of_getElem? H),λr z=>aC (λQ=>T (Pw H M (λe=>?_))) (λhe=>?_)⟩
    .have:=z.2 e;subst this;cases Q
    .have R:r=true:=bo he
     exact⟨i+1,⟨aD,yA H M (z.1 R) U.2⟩,aD,MT⟩
   .exact G true ⟨λ_=>Bj W aD U.2,λ_=>rfl⟩
  refine hJ func253 ?_;rintro g m h K ⟨v,w,p,q,rfl,z,hq,E,G⟩;refine⟨aCJ N,rfl,aE A aH,Kv N v w m h K,bi,?_⟩;exact biX z hq E G
theorem bIX{v w:PV}{q:Pred}(V:eH h p v)(W:eH h q w)(hN:SizeOf.sizeOf p<N+1)(H:∀r:Bool,(r=true↔p=q)->K (cB r) m h):N5 N v w p.args q.args m h K:=by
 dsimp only[N5,push_cast];have d:p≠q->K (cB false) m h:=λh=>H false ⟨λe=>(by cases e),λe=>(h e).elim⟩;have c:=@zW p;obtain⟨op,X,l,r,ps⟩:=p;obtain⟨Y,Q,l',r',R⟩:=q;obtain⟨rfl,rfl,rfl,rfl,I⟩:=V.parts;obtain⟨rfl,rfl,rfl,rfl,S⟩:=W.parts;simp only[Pred.args]at c⊢
 have f:=I.slen;have F:=S.slen;have Z:=I.len;refine aC (λt=>d λe=>?_) (λt=>aC (λA=>d λe=>?_) (λA=>⟨_,zT _ _,aC (λD=>d λe=>?_) (λD=>⟨_,zT _ _,aC (λE=>d λe=>?_) (λE=>aC (λJ=>d λe=>?_) (λJ=>?_))⟩)⟩))
 .injection e with e _ _ _ _;rw[e]at t;simp at t
 .injection e with _ e _ _ _;rw[e]at A;simp at A
 .injection e with _ _ e _ _;rw[qP.2 e]at D;cases D
 .injection e with _ _ _ e _;rw[qP.2 e]at E;cases E
 .injection e with _ _ _ _ e;exact Kh f F J (by rw[e])
 .have hl:=Ki f F J;have D:v.left=w.left:=qP.1 (bo D);have E:v.right=w.right:=qP.1 (bo E);have t:v.op=w.op:=bo t
  have A:v.cmp=w.cmp:=bo A
  rw[t,A,D,E]at H d;have d:ps≠R->K (cB false) m h:=λg=>d λe=>g (by injection e);refine⟨⟨0,⟨aD,λj hj=>by omega⟩,MT⟩,λi T=>aF (λs=>?_) (λa'=>?_)⟩
  .obtain⟨x,G⟩:=eF f s;obtain⟨y,M⟩:∃y,R[i]? =some y:=eF (n:=v.args.len) aD s;obtain⟨b1,o1,u,e1,r1,ru⟩:=I.at G;obtain⟨b2,o2,z,e2,r2,rz⟩:=S.at M;refine⟨b1,o1,e1,aD,s,u,.imm r1,b2,o2,e2,aD,aD,z,.imm r2,u,z,x,y,rfl,ru,rz,?_,λr U=>aC (λg=>d (Pw G M (λe=>?_))) (λhe=>?_)⟩
   .have:=c (mem_of_getElem? G);omega
   .have:=U.2 e;subst this;cases g
   .have O:r=true:=bo he
    exact⟨i+1,⟨aD,yA G M (U.1 O) T.2⟩,aD,MT⟩
  .exact H true ⟨λ_=>by rw[Bj hl aD T.2],λ_=>rfl⟩
theorem Yr:∀N,br 43 (bpJ N)
 |0=>by
  refine eV (fn:=Tryz.f43) (c:=cL Tryz.f43) func43 rfl bk ?_;rintro d m h K ⟨v,w,p,q,rfl,e,_,f,_⟩;omega
 |N+1=>by
  refine hJ func43 ?_;rintro d m h K ⟨v,w,p,q,rfl,e,g,f,j⟩;refine⟨bfX N v w p.args q.args m h,rfl,aE (Yr N) aH,N5 N v w p.args q.args m h K,bi,?_⟩;exact bIX e g f j
def bqQ:Vc.Spec:=λc m h K=>∃v w p q,c=[aP v,aP w]/\eH h p v/\eH h q w/\∀r:Bool,(r=true↔p=q)->K (cB r) m h
theorem lI{f:FuncId}{S:Nat->Vc.Spec}{S':Vc.Spec}(h:∀N,br f (S N))(e:∀c m h K,S' c m h K->∃N,S N c m h K):br f S':=by
 refine⟨(h 0).1,λc g m d w K j n=>?_⟩;obtain⟨N,s⟩:=e c m d K j;exact(h N).2 c g m d w K s n
theorem V8:br 253 bqQ:=lI UD λ_ _ _ _⟨v,w,p,q,e,c,d,f⟩=>⟨SizeOf.sizeOf p+1,v,w,p,q,e,c,d,aD,f⟩
theorem Z8:br 43 bqQ:=lI Yr λ_ _ _ _⟨v,w,p,q,e,c,d,f⟩=>⟨SizeOf.sizeOf p+1,v,w,p,q,e,c,d,aD,f⟩
theorem Js{d e c i:Nat}{g:cu}{xs f:Array Value}{w:World}{x y:Value}{r r':Bool}(j:Ak Tryz.prog (part e xs (i*c))=some x)(n:Ak Tryz.prog (part e f (i*c))=some y)
 (s:(Op.equalIn d e x y).run Tryz.prog w= .ok r w)(t:(Op.eqItems d e c xs f g).run Tryz.prog w= .ok r' w):(Op.eqItems d e c xs f (i::g)).run Tryz.prog w= .ok (r&&r') w:=by
 simp only[Op.eqItems,Sem.run_bind,Bp _ _ _ j,Bp _ _ _ n,Result.andThen_ok,s];cases r
 .simp
 .simpa using t
def bKQ(a b:Int×Int):Bool:=a.1==b.1&&(a.2==b.2&&true)
def bJJ(a b:Int×Bool):Bool:=a.1==b.1&&(a.2==b.2&&true)
theorem aOJ(a b:Int×Int):StructEq Tryz.prog 91 (.agg #[.int .i64 a.1,.int .i64 a.2]) (.agg #[.int .i64 b.1,.int .i64 b.2]) (bKQ a b):=by
 refine⟨bi,λw=>?_⟩;obtain⟨i,c⟩:=Option.isSome_iff_exists.1 (show(Tryz.prog.info? 3).isSome=true by kernel_rfl);rw[run_equalIn_array w 9999 (e:=3) (n:=2) _ _ bi c,show Tryz.prog.cellsOf 3=1 by kernel_rfl,show List.range 2=[0,1]from rfl];refine Js (x:=.int .i64 a.1) (y:=.int .i64 b.1) bi bi (run_equalIn_int w 9998 _ .i64 .i64 _ _ bi) ?_;refine Js (x:=.int .i64 a.2) (y:=.int .i64 b.2) bi bi (run_equalIn_int w 9998 _ .i64 .i64 _ _ bi) ?_;simp[Op.eqItems]
theorem aOZ(a b:Int×Bool):StructEq Tryz.prog 93 (.agg #[.int .i64 a.1,.bool a.2]) (.agg #[.int .i64 b.1,.bool b.2]) (bJJ a b):=by
 refine⟨bi,λw=>?_⟩;rw[run_equalIn_struct w 9999 93 _ _ bi bi,show(Tryz.prog.fieldsOf 93).toList=[OW 93 0,OW 93 1]by kernel_rfl];refine lU (x:=.int .i64 a.1) (y:=.int .i64 b.1) bi bi bi (run_equalIn_int w 9998 _ .i64 .i64 _ _ bi) ?_;refine lU (x:=.bool a.2) (y:=.bool b.2) bi bi bi (run_equalIn_bool w 9998 _ _ _ bi) ?_;simp[Op.eqFields]
theorem U0{a b:Int×Int}:bKQ a b=true↔a=b:=by
 obtain⟨c,d⟩:=a;obtain⟨e,f⟩:=b;simp[bKQ]
theorem UZ{a b:Int×Bool}:bJJ a b=true↔a=b:=by
 obtain⟨c,d⟩:=a;obtain⟨e,f⟩:=b;simp[bJJ]
theorem iD.at{s:Sl}{l:bz}(r:iD h s l){x:Int×Int}(c:l[i]? =some x):∃b o,s.a=some ⟨b,o,none⟩/\bO h b (o+i*2) (pY x):=r.row.get (by simp[c])
theorem jD.at{s:Sl}{l:ca}(r:jD h s l){x:Int×Bool}(c:l[i]? =some x):∃b o,s.a=some ⟨b,o,none⟩/\bO h b (o+i*2) (BU x):=r.row.get (by simp[c])
def Rh:Vc.Spec:=λc m h K=>∃(s t:Sl)(a b:bz),c=[cS s,cS t]/\iD h s a/\iD h t b/\∀r:Bool,(r=true↔a=b)->K (cB r) m h
def Rg:Vc.Spec:=λc m h K=>∃(s t:Sl)(a b:ca),c=[cS s,cS t]/\jD h s a/\jD h t b/\∀r:Bool,(r=true↔a=b)->K (cB r) m h
noncomputable def UC{α:Type}(s t:Sl)(a b:List α)(m:MH)(h:PH):Ctx:=
 ctx [] [Fs 4 (λi=>bY 26 28 [(0,sv s),(1,sv t),(12,iv s.len),(13,iv i)] [] m h) (λi=>i<=a.length/\∀j:Nat,j<i->a[j]? =b[j]?) (λi=>a.length-i)] [] [] false
noncomputable abbrev CG(a b:Int):bw:=nA (dY a) (dY b)
noncomputable abbrev tC(a:Int×Int):bw:=CG a.1 a.2
attribute [push_cast] CG tC
def P5(s t:Sl)(a b:bz)(m:MH)(h:PH)(K:bu):Prop:=
  dC (aG s) (aG t) (K bB m h) (jO (∃(x:Nat),aA (jO (x<=a.length) (λj=>j<x->a[j]? =b[j]?)) (aJ s) (aA (aJ t) (bI s) (aI (bF x) (m=m) (h=h) True))) (λx=>jO (x<=a.length) (λj=>j<x->a[j]? =b[j]?)->bA (↑x:Int) (aG s) (aW (λd o=>aI (aX s.a d o) (0<=(↑x:Int)) ((↑x:Int)<aG s) (∃(y:Int×Int),aU m h d (bN o x 2) (tC y)/\aW (λe f=>aI (aX t.a e f) (0<=(↑x:Int)) ((↑x:Int)<aG t) (∃(g:Int×Int),aU m h e (bN f x 2) (tC g)/\∃(r:Bool),fB (wZ 91 (tC y) (tC g) r) (!r) (K bB m h) (∃(c:Nat),aA (jO (c<=a.length) (λj=>j<c->a[j]? =b[j]?)) (a.length-c<a.length-x) (aA (aJ s) (aJ t) (aA (bI s) (fU (bG x 1)=bP c) (aA (m=m) (h=h) True)))))))))
 (fJ K m h)))
noncomputable abbrev yR(a:Int×Bool):bw:=nA (dY a.1) (Value.bool a.2)
attribute [push_cast] yR
def P4(s t:Sl)(a b:ca)(m:MH)(h:PH)(K:bu):Prop:=
  dC (aG s) (aG t) (K bB m h) (jO (∃(x:Nat),aA (jO (x<=a.length) (λj=>j<x->a[j]? =b[j]?)) (aJ s) (aA (aJ t) (bI s) (aI (bF x) (m=m) (h=h) True))) (λx=>jO (x<=a.length) (λj=>j<x->a[j]? =b[j]?)->bA (↑x:Int) (aG s) (aW (λd o=>aI (aX s.a d o) (0<=(↑x:Int)) ((↑x:Int)<aG s) (∃(y:Int×Bool),aU m h d (bN o x 2) (yR y)/\aW (λe f=>aI (aX t.a e f) (0<=(↑x:Int)) ((↑x:Int)<aG t) (∃(g:Int×Bool),aU m h e (bN f x 2) (yR g)/\∃(r:Bool),fB (wZ 93 (yR y) (yR g) r) (!r) (K bB m h) (∃(c:Nat),aA (jO (c<=a.length) (λj=>j<c->a[j]? =b[j]?)) (a.length-c<a.length-x) (aA (aJ s) (aJ t) (aA (bI s) (fU (bG x 1)=bP c) (aA (m=m) (h=h) True)))))))))
 (fJ K m h)))
theorem V7:br 254 Rh:=by
 refine hJ func254 ?_;rintro I m h K ⟨s,t,a,b,rfl,u,E,F⟩;refine⟨UC s t a b m h,rfl,aH,P5 s t a b m h K,bi,?_⟩;dsimp only[P5,push_cast];have c:=u.slen;have f:=E.slen;have J:=u.len;have G:a≠b->K (cB false) m h:=λh=>F false ⟨λe=>(by cases e),λe=>(h e).elim⟩;refine aC (λz=>G (λe=>Kh c f z (by rw[e]))) (λz=>?_);have M:=Ki c f z;refine⟨⟨0,⟨aD,λj Z=>by omega⟩,MT⟩,λi H=>aF (λd=>?_) (λO=>?_)⟩
 .obtain⟨x,A⟩:=eF c d;obtain⟨y,D⟩:∃y,b[i]? =some y:=eF (n:=s.len) aD d;obtain⟨Q,R,S,T⟩:=u.at A;obtain⟨U,V,W,X⟩:=E.at D;refine⟨Q,R,S,aD,d,x,.imm T,U,V,W,aD,aD,y,.imm X,_,aOJ x y,aC (λg=>G (Pw A D (λe=>?_))) (λY=>?_)⟩
  .rw[U0.2 e]at g;cases g
  .exact⟨i+1,⟨aD,yA A D (U0.1 (bo Y)) H.2⟩,aD,MT⟩
 .exact F true ⟨λ_=>Bj M aD H.2,λ_=>rfl⟩
theorem V6:br 255 Rg:=by
 refine hJ func255 ?_;rintro I m h K ⟨s,t,a,b,rfl,u,E,F⟩;refine⟨UC s t a b m h,rfl,aH,P4 s t a b m h K,bi,?_⟩;dsimp only[P4,push_cast];have c:=u.slen;have f:=E.slen;have J:=u.len;have G:a≠b->K (cB false) m h:=λh=>F false ⟨λe=>(by cases e),λe=>(h e).elim⟩;refine aC (λz=>G (λe=>Kh c f z (by rw[e]))) (λz=>?_);have M:=Ki c f z;refine⟨⟨0,⟨aD,λj Z=>by omega⟩,MT⟩,λi H=>aF (λd=>?_) (λO=>?_)⟩
 .obtain⟨x,A⟩:=eF c d;obtain⟨y,D⟩:∃y,b[i]? =some y:=eF (n:=s.len) aD d;obtain⟨Q,R,S,T⟩:=u.at A;obtain⟨U,V,W,X⟩:=E.at D;refine⟨Q,R,S,aD,d,x,.imm T,U,V,W,aD,aD,y,.imm X,_,aOZ x y,aC (λg=>G (Pw A D (λe=>?_))) (λY=>?_)⟩
  .rw[UZ.2 e]at g;cases g
  .exact⟨i+1,⟨aD,yA A D (UZ.1 (bo Y)) H.2⟩,aD,MT⟩
 .exact F true ⟨λ_=>Bj M aD H.2,λ_=>rfl⟩
noncomputable def MN(s t:Sl)(a b:bt)(m:MH)(h:PH):Ctx:=
 ctx [] [Fs 4 (λi=>bY 26 28 [(0,sv s),(1,sv t),(12,iv s.len),(13,iv i)] [] m h) (λi=>i<=a.length/\∀j:Nat,j<i->a[j]? =b[j]?) (λi=>a.length-i)] [] [] false
def Jp(s t:Sl)(a b:bt)(m:MH)(h:PH)(K:bu):Prop:=
  dC (aG s) (aG t) (K bB m h) (jO (∃(x:Nat),aA (jO (x<=a.length) (λj=>j<x->a[j]? =b[j]?)) (aJ s) (aA (aJ t) (bI s) (aI (bF x) (m=m) (h=h) True))) (λx=>jO (x<=a.length) (λj=>j<x->a[j]? =b[j]?)->bA (↑x:Int) (aG s) (aW (λd o=>aI (aX s.a d o) (0<=(↑x:Int)) ((↑x:Int)<aG s) (∃(y:Int),aU m h d (bN o x 1) (bJ y)/\aW (λe f=>aI (aX t.a e f) (0<=(↑x:Int)) ((↑x:Int)<aG t) (∃(g:Int),aU m h e (bN f x 1) (bJ g)/\dC y g (K bB m h) (∃(c:Nat),aA (jO (c<=a.length) (λj=>j<c->a[j]? =b[j]?)) (a.length-c<a.length-x) (aA (aJ s) (aJ t) (aA (bI s) (fU (bG x 1)=bP c) (aA (m=m) (h=h) True))))))))) (fJ K m h)))
theorem bIZ(s t:Sl)(a b:bt)(m:MH)(h:PH)(K:bu):Jp s t a b m h K=(sI (MN s t a b m h) Tryz.f42 (cL Tryz.f42) (entry 26 [cS s,cS t] m h) K):=bi
theorem bnJ(s t:Sl)(a b:bt)(m:MH)(h:PH)(K:bu):Jp s t a b m h K=(sI (MN s t a b m h) Tryz.f104 (cL Tryz.f104) (entry 26 [cS s,cS t] m h) K):=bi
def BH:Vc.Spec:=λc m h K=>∃(s t:Sl)(a b:bt),c=[cS s,cS t]/\Ints h s a/\Ints h t b/\∀r:Bool,(r=true↔a=b)->K (cB r) m h
theorem aBJ{s t:Sl}{b:bt}(n:Ints h s a)(E:Ints h t b)(F:∀r:Bool,(r=true↔a=b)->K (cB r) m h):Jp s t a b m h K:=by
 dsimp only[Jp,push_cast];have c:=n.slen;have d:=E.slen;have I:=n.len;have G:a≠b->K (cB false) m h:=λh=>F false ⟨λe=>by(cases e),λe=>(h e).elim⟩;refine aC (λf=>G (λe=>?_)) (λf=>?_)
 .subst e;rw[c,d]at f;simp at f
 .have X:a.length=b.length:=by rw[c,d]at f;have:(a.length:Int)=b.length:=(bo f);omega
  refine⟨⟨0,⟨aD,λj u=>by omega⟩,rfl,rfl,rfl,rfl,rfl,rfl,trivial⟩,λi H=>aF (λz=>?_) (λJ=>?_)⟩
  .obtain⟨x,A⟩:∃x,a[i]? =some x:=⟨a[i]'(by omega),getElem?_eq_getElem _⟩
   obtain⟨y,g⟩:∃y,b[i]? =some y:=⟨b[i]'(by omega),getElem?_eq_getElem _⟩
   obtain⟨M,O,Q,R⟩:=n.at A;obtain⟨S,T,U,V⟩:=E.at g;refine⟨M,O,Q,aD,z,x,.imm (bo R),S,T,U,aD,aD,y,.imm (bo V),aC (λD=>G (λe=>?_)) (λW=>?_)⟩
   .subst e;rw[A]at g;simp at g;subst g;simp at D
   .have:x=y:=bo W
    refine⟨i+1,⟨aD,λj u=>?_⟩,aD,rfl,rfl,rfl,by rw[kA aD],rfl,rfl,trivial⟩;by_cases e:j=i
    .subst e;rw[A,g,this]
    .exact H.2 j aD
  .refine F true ⟨λ_=>?_,λ_=>rfl⟩;apply ext_getElem?;intro j;by_cases u:j<i
   .exact H.2 j u
   .rw[getElem?_eq_none aD,getElem?_eq_none aD]
theorem Z9:br 42 BH:=by
 refine eV (fn:=Tryz.f42) (c:=cL Tryz.f42) func42 rfl bk ?_;rintro d m h K ⟨s,t,a,b,rfl,e,f,g⟩;exact⟨MN s t a b m h,rfl,aH,(bIZ s t a b m h K)▸aBJ e f g⟩
theorem EE:br 104 BH:=by
 refine eV (fn:=Tryz.f104) (c:=cL Tryz.f104) func104 rfl bk ?_;rintro d m h K ⟨s,t,a,b,rfl,e,f,g⟩;exact⟨MN s t a b m h,rfl,aH,(bnJ s t a b m h K)▸aBJ e f g⟩
def aQ(v:QV):CV:=.val (.agg ⟨v.enc⟩)
def Query.args:Query->cg
 |.mk _ _ _ _ _ _ _ _ l=>l
theorem zZ{p:Query}{q:Query}(h:q∈p.args):SizeOf.sizeOf q<SizeOf.sizeOf p:=by
 cases p with
 |mk op t w c o g s l args=>
  have:=sizeOf_lt_of_mem h;simp only[Query.args]at this;simp only[Query.mk.sizeOf_spec];omega
def ER(h:PH)(s:Sl)(ps:cg):Prop:=bV h 21 QV.enc (eO h) s ps
theorem ER.mono{s:Sl}{ps:cg}(r:ER h s ps)(le:PH.le h h'):ER h' s ps:=bV.mono r le λ_ _=>eO.mono le
theorem AA.ofL{h:PH}:∀{ps:cg}{vs:de},ps.length=vs.length->(∀(i:Nat)(x:Query),ps[i]? =some x->∃v,vs[i]? =some v/\eO h x v)->AA h ps vs
 |[],[],_,_=>rfl
 |p::ps,v::vs,c,d=>by
  obtain⟨j,f,g⟩:=d 0 p rfl;simp at f;subst f;exact⟨v,vs,rfl,g,AA.ofL (bo c) λi x e=>bo (d (i+1) x (by simpa using e))⟩
 |[],_::_,c,_=>by simp at c
 |_::_,[],c,_=>by simp at c
structure sN(h:PH)(op table:Int)(w:Pred)(c:bt)(o:bz)(g:bt)(s:ca)(l:Int)(args:cg)(v:QV):Prop where
 op_:v.op=op
 table_:v.table=table
 where_:eH h w v.where_
 columns_:Ints h v.columns c
 on_:iD h v.on o
 group_:Ints h v.group g
 order_:jD h v.order s
 limit_:v.limit=l
 args_:ER h v.args args
theorem eO.parts{op table:Int}{w:Pred}{c:bt}{o:bz}{g:bt}{s:ca}{l:Int}{args:cg}(x:eO h (.mk op table w c o g s l args) v):sN h op table w c o g s l args v:=by
 obtain⟨f,j,n,t,u,y,z,A,D,E,e,d⟩:=x;exact⟨f,j,n,t,u,y,z,A,⟨⟨E,e,d.length.symm,λ_ _ F=>d.get F⟩,D⟩⟩
theorem sN.rep{op table:Int}{w:Pred}{c:bt}{o:bz}{g:bt}{s:ca}{l:Int}{args:cg}(x:sN h op table w c o g s l args v):eO h (.mk op table w c o g s l args) v:=by
 obtain⟨d,e,f,j⟩:=x.args_.ex;exact⟨x.op_,x.table_,x.where_,x.columns_,x.on_,x.group_,x.order_,x.limit_,x.args_.len,d,e,.ofL f j⟩
def bRX(N:Nat):Vc.Spec:=λc m h K=>∃v w p q,c=[aQ v,aQ w]/\eO h p v/\eO h q w/\SizeOf.sizeOf p<N/\∀r:Bool,(r=true↔p=q)->K (cB r) m h
def bRZ:Vc.Spec:=λc m h K=>∃v w p q,c=[aQ v,aQ w]/\eO h p v/\eO h q w/\∀r:Bool,(r=true↔p=q)->K (cB r) m h
def bwJ(N:Nat):Vc.Spec:=λc m h K=>∃s t ps d,c=[cS s,cS t,.val (.func (.func 242) #[] #[])]/\ER h s ps/\ER h t d/\(∀p∈ps,SizeOf.sizeOf p<N)/\∀r:Bool,(r=true↔ps=d)->K (cB r) m h
noncomputable def aDQ(N:Nat):Ctx:=ctx [(253,bqQ),(104,BH),(254,Rh),(255,Rg),(256,bwJ N)] [] [] [] false
noncomputable def aCZ(N:Nat)(s t:Sl)(ps c:cg)(m:MH)(h:PH):Ctx:=
 ctx [(242,bRX N)] [Fs 4 (λi=>bY 32 35 [(1,sv t),(2,vv (.func (.func 242) #[] #[])),(15,sv s),(16,iv s.len),(17,iv i)] [] m h) (λi=>i<=ps.length/\∀j:Nat,j<i->ps[j]? =c[j]?) (λi=>ps.length-i)] [] [] false
noncomputable abbrev dX(a b:Sl):ct:=bK (dN a) (dN b)
abbrev yJ(a b:Sl)(c:PH)(d:bt->bt->Bool->Prop):Prop:=∃(x:Sl),B4 (λe f g=>aI (dX a b=dX x e) (Ints c x f) (Ints c e g) (∀(j:Bool),d f g j))
abbrev Ao(a:Query)(b:Nat):Prop:=SizeOf.sizeOf a<b
attribute [push_cast] dX yJ Ao
def Kx(N:Nat)(v w:QV)(m:MH)(h:PH)(K:bu):Prop:=
  dZ v.op w.op (dZ v.table w.table (dZ v.limit w.limit (II (λd e p q=>aI (bK (cZ v.where_) (cZ w.where_)=bK (cZ d) (cZ e)) (eH h p d) (eH h q e) (∀(r:Bool),gL (fV r (p=q)) r (yJ v.columns w.columns h (λa b f=>gL (fV f (a=b)) f (lE (λs t=>∃(g j:bz),aI (dX v.on w.on=dX s t) (iD h s g) (iD h t j) (∀(n:Bool),gL (fV n (g=j)) n (yJ v.group w.group h (λJ M u=>gL (fV u (J=M)) u (lE (λx y=>∃(z A:ca),aI (dX v.order w.order=dX x y) (jD h x z) (jD h y A) (∀(D:Bool),gL (fV D (z=A)) D (lE (λE F=>∃(c G:cg),aA (AU v.args w.args 242=AU E F 242) (ER h E c) (aA (ER h F G) (∀(H:Query),
 List.Mem H c->Ao H N) (∀(I:Bool),fV I (c=G)->K (xZ I) m h)))) (K bB m h)))) (K bB m h))) (K bB m h)))) (K bB m h))) (K bB m h)))) (K bB m h)) (K bB m h)) (K bB m h)
abbrev vG(a:QV->Query->Prop):Prop:=∃(x:QV)(c:Query),a x c
noncomputable abbrev cC(a:QV):CV:=lG a.enc
attribute [push_cast] vG cC
def P1(N:Nat)(s t:Sl)(ps d:cg)(m:MH)(h:PH)(K:bu):Prop:=
  dC (aG s) (aG t) (K bB m h) (jO (∃(x:Nat),aA (jO (x<=ps.length) (λj=>j<x->ps[j]? =d[j]?)) (aJ t) (aA (yS 242) (aJ s) (aA (bI s) (bF x) (aA (m=m) (h=h) True)))) (λx=>jO (x<=ps.length) (λj=>j<x->ps[j]? =d[j]?)->bA (↑x:Int) (aG s) (aW (λb o=>aI (aX s.a b o) (0<=(↑x:Int)) ((↑x:Int)<aG s) (∃(y:QV),aU m h b (bN o x 21) y.enc/\aW (λe f=>aI (aX t.a e f) (0<=(↑x:Int)) ((↑x:Int)<aG t) (∃(g:QV),aU m h e (bN f x 21) g.enc/\∃(v:QV),vG (λw p=>∃(q:Query),aA (bK (cC y) (cC g)=bK (cC v) (cC w)) (eO h p v) (aA (eO h q w) (Ao p N) (∀(r:Bool),gL (fV r (p=q)) (!r) (K bB m h) (∃(c:Nat),aA (jO (c<=ps.length) (λj=>j<c->ps[j]? =d[j]?))
 (ps.length-c<ps.length-x) (aA (aJ t) (yS 242) (aA (aJ s) (bI s) (aA (fU (bG x 1)=bP c) (m=m) (bD h h))))))))))))) (fJ K m h)))
theorem biZ{w:QV}{p q:Query}(G:eO h p v)(H:eO h q w)(W:SizeOf.sizeOf p<N+1)(y:∀r:Bool,(r=true↔p=q)->K (cB r) m h):Kx N v w m h K:=by
 dsimp only[Kx,push_cast];have c:p≠q->K (cB false) m h:=λh=>y false ⟨λe=>(by cases e),λe=>(h e).elim⟩;have d:=@zZ p;obtain⟨op,ta,X,co,on,gr,od,li,ps⟩:=p;obtain⟨I,J,M,O,Q,R,S,T,Y⟩:=q;have a:=G.parts;have b:=H.parts
 refine aC (λf=>aC (λg=>aC (λj=>⟨_,_,_,_,rfl,a.where_,b.where_,λZ z=>aC (λn=>⟨_,_,_,_,rfl,a.columns_,b.columns_,λr5 A=>aC (λs=>⟨_,_,_,_,rfl,a.on_,b.on_,λr6 D=>aC (λt=>⟨_,_,_,_,rfl,a.group_,b.group_,λr7 E=>aC (λu=>⟨_,_,_,_,rfl,a.order_,b.order_,λr8 F=>aC (λx=>⟨_,_,_,_,rfl,a.args_,b.args_,λp U=>?_,λr V=>y r (V.trans ?_)⟩)
  (λx=>c λe=>?_)⟩) (λu=>c λe=>?_)⟩) (λt=>c λe=>?_)⟩) (λs=>c λe=>?_)⟩) (λn=>c λe=>?_)⟩) (λj=>c λe=>?_)) (λg=>c λe=>?_)) (λf=>c λe=>?_)
 .have:=d (q:=p) U;omega
 .rw[a.op_,b.op_,beq_iff_eq]at f;rw[a.table_,b.table_,beq_iff_eq]at g;rw[a.limit_,b.limit_,beq_iff_eq]at j;rw[f,g,j,z.1 n,A.1 s,D.1 t,E.1 u,F.1 x];exact⟨λe=>by rw[e],λe=>by injection e⟩
 .injection e with _ _ _ _ _ _ e _ _;rw[F.2 e]at x;cases x
 .injection e with _ _ _ _ _ e _ _ _;rw[E.2 e]at u;cases u
 .injection e with _ _ _ _ e _ _ _ _;rw[D.2 e]at t;cases t
 .injection e with _ _ _ e _ _ _ _ _;rw[A.2 e]at s;cases s
 .injection e with _ _ e _ _ _ _ _ _;rw[z.2 e]at n;cases n
 .injection e with _ _ _ _ _ _ _ e _;rw[a.limit_,b.limit_,e]at j;simp at j
 .injection e with _ e _ _ _ _ _ _ _;rw[a.table_,b.table_,e]at g;simp at g
 .injection e with e _ _ _ _ _ _ _ _;rw[a.op_,b.op_,e]at f;simp at f
theorem UE:∀N,br 242 (bRX N)
 |0=>by
  refine eV (fn:=Tryz.f242) (c:=cL Tryz.f242) func242 rfl bk ?_;rintro g m h K ⟨v,w,p,q,rfl,z,_,E,_⟩;omega
 |N+1=>by
  have A:br 256 (bwJ N):=by
   refine hJ func256 ?_;rintro g m h K ⟨s,t,ps,F,rfl,I,S,E,G⟩;refine⟨aCZ N s t ps F m h,rfl,aE (UE N) aH,P1 N s t ps F m h K,bi,?_⟩;dsimp only[P1,push_cast];have d:=I.slen;have D:=S.slen;have V:=I.len;have T:ps≠F->K (cB false) m h:=λh=>G false ⟨λe=>(by cases e),λe=>(h e).elim⟩;refine aC (λJ=>T (λe=>Kh d D J (by rw[e]))) (λJ=>?_);have W:=Ki d D J;refine⟨⟨0,⟨aD,λj hj=>by omega⟩,MT⟩,λi U=>aF (λf=>?_) (λX=>?_)⟩
   .obtain⟨x,H⟩:=eF d f;obtain⟨y,M⟩:∃y,F[i]? =some y:=eF (n:=s.len) aD f;obtain⟨Y,Z,u,e1,r1,ru⟩:=I.at H;obtain⟨b2,o2,w,e2,r2,O⟩:=S.at M;refine⟨Y,Z,e1,aD,f,u,.imm r1,b2,o2,e2,aD,aD,w,.imm r2,u,w,x,y,rfl,ru,O,E x (mem_of_getElem? H),λr z=>aC (λQ=>T (Pw H M (λe=>?_))) (λhe=>?_)⟩
    .have:=z.2 e;subst this;cases Q
    .have R:r=true:=bo he
     exact⟨i+1,⟨aD,yA H M (z.1 R) U.2⟩,aD,MT⟩
   .exact G true ⟨λ_=>Bj W aD U.2,λ_=>rfl⟩
  refine hJ func242 ?_;rintro g m h K ⟨v,w,p,q,rfl,z,hq,E,G⟩;refine⟨aDQ N,rfl,aE V8 (aE EE (aE V7 (aE V6 (aE A aH)))),Kx N v w m h K,bi,?_⟩;exact biZ z hq E G
theorem Wa:br 242 bRZ:=lI UE λ_ _ _ _⟨v,w,p,q,e,c,d,f⟩=>⟨SizeOf.sizeOf p+1,v,w,p,q,e,c,d,aD,f⟩
end Go.Ps
