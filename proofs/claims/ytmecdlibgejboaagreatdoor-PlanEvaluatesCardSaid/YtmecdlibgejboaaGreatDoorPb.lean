/-
  Part 2 of a proof that a law of the given program returns true: a condition generator that is proved sound, and contracts of functions. No condition of its own. Own work, joined by a program (pack2.py).
-/
import Derived.MapKept
import Derived.Maps.RangeRun
import Derived.Test.YtmecdlibgejboaaGreatDoorProg
import Derived.IntWalk
import Derived.ChangeKeysEq
import Derived.Test.YtmecdlibgejboaaGreatDoorPa
set_option linter.unusedVariables false
set_option linter.unusedSimpArgs false
namespace Go.Vc
open Go List
section
variable{B:qJ}{C:Ctx}{ι:cg}{σ:St}{a:Act}{w:World}{o:Oper}{K:St->Prop}
theorem aKJ(f:aI B ι σ a w)(ob:Obj):
 aI B ι {σ with m:=λb=>if b=w.heap.size then some ob else σ.m b} a (w.alloc ob)/\bW σ.m σ.h w.heap.size/\∀o,HS σ ι o w (w.alloc ob):=by
 have d:=f.wrel
 have l:bW σ.m σ.h w.heap.size:=by
  constructor
  .cases e:σ.m w.heap.size with
   |none=>rfl
   |some x=>have:=(Array.getElem?_eq_some_iff.1 (d.msat _ _ e)).1;omega
  .intro i;cases e:σ.h w.heap.size i with
   |none=>rfl
   |some x=>have:=World.block_lt_of_cell? w ⟨w.heap.size,i,none⟩ (d.hsat _ _ _ e);simp at this
 have q:(w.alloc ob).heap.size=w.heap.size+1:=by show(w.heap.push ob).size=_;simp
 refine⟨⟨f.slots,f.defers,λk n j=>(f.own k n j).world (λb c=>fG w ob (pA (f.own k n j) c)),f.dist,?_,?_,f.one⟩,l,λo=>⟨?_,?_,λ_ b c=>fG w ob c,λ_ b _ c _ _=>fG w ob c⟩⟩
 .intro k n b j c;obtain⟨s,t,u⟩:=f.fresh k n b j c;have y:=pA (f.own k n j) c;refine⟨s,?_,u⟩;show(if b=w.heap.size then some ob else σ.m b)=none;rw[if_neg aC];exact t
 .refine⟨d.tape,d.os,d.output,d.drawn,by rw[q];exact Nat.le_succ_of_le d.size,?_,?_,?_,?_,d.hle,d.hold,?_⟩
  .intro b c z;rw[fG w ob (Nat.lt_of_lt_of_le c d.size)];exact d.frame b c z
  .intro b i v r;have g:=d.hsat b i v r;rw[<-g];exact World.cell?_of_block (w:=w) (w':=w.alloc ob) (a:=⟨b,i,none⟩) (fG w ob (World.block_lt_of_cell? w ⟨b,i,none⟩ g))
  .intro b x c;have c:(if b=w.heap.size then some ob else σ.m b)=some x:=c;by_cases e:b=w.heap.size
   .rw[if_pos e]at c;rw[e,j5];exact c
   .rw[if_neg e]at c;have g:=d.msat b x c;rw[fG w ob (Array.getElem?_eq_some_iff.1 g).1];exact g
  .intro b x c i;have c:(if b=w.heap.size then some ob else σ.m b)=some x:=c;by_cases e:b=w.heap.size
   .rw[e];exact l.h_ i
   .rw[if_neg e]at c;exact d.disj b x c i
  .intro b x c;have c:(if b=w.heap.size then some ob else σ.m b)=some x:=c;by_cases e:b=w.heap.size
   .left;rw[e];exact d.size
   .rw[if_neg e]at c;exact d.mfr b x c
 .intro k p T D b j _ A;exact fG w ob (pA (f.own k _ j) (by rw[A];rfl))
 .intro b i v r;have g:=d.hsat b i v r;rw[<-g];exact World.cell?_of_block (w:=w) (w':=w.alloc ob) (a:=⟨b,i,none⟩) (fG w ob (World.block_lt_of_cell? w ⟨b,i,none⟩ g))
theorem Uh(r:aI B ι σ a w){b:Nat}{z ob:Obj}(s:σ.m b=some z):
 aI B ι {σ with m:=λc=>if c=b then some ob else σ.m c} a {w with heap:=w.heap.setIfInBounds b ob}/\∀o,Au o.op=false->HS σ ι o w {w with heap:=w.heap.setIfInBounds b ob}:=by
 have g:=r.wrel;have A:b<w.heap.size:=(Array.getElem?_eq_some_iff.1 (g.msat _ _ s)).1
 have f:∀c,c≠b->(w.heap.setIfInBounds b ob)[c]? =w.heap[c]? :=λc j=>by
  rw[Array.getElem?_setIfInBounds_ne (Ne.symm j)]
 have t:(w.heap.setIfInBounds b ob)[b]? =some ob:=by simp[A]
 have u:∀k n,nth σ.own k=some (some n)->blk (ι k)≠some b:=by
  intro k n q G;have:=(r.fresh k n b q G).2.1;rw[s]at this;cases this
 have l:∀c i v,σ.h c i=some v->({w with heap:=w.heap.setIfInBounds b ob}:World).cell? ⟨c,i,none⟩=some v:=by
  intro c i v D;have j:c≠b:=λe=>by subst e;rw[g.disj c _ s i]at D;cases D
  have y:=g.hsat c i v D;rw[<-y];exact World.cell?_of_block (w:=w) (w':={w with heap:=w.heap.setIfInBounds b ob}) (a:=⟨c,i,none⟩) (f c j)
 refine⟨⟨r.slots,r.defers,λk n q=>(r.own k n q).world (λc d=>f c (λe=>u k n q (e▸d))),r.dist,?_,?_,r.one⟩,λo H=>⟨?_,l,λh=>(by rw[H]at h;cases h),λ_ c _ _ E _=>f c (λe=>by rw[e,s]at E;cases E)⟩⟩
 .intro k n c q d;obtain⟨I,J,L⟩:=r.fresh k n c q d;refine⟨I,?_,L⟩;show(if c=b then some ob else σ.m c)=none;rw[if_neg (fun(e:c=b)=>u k n q (e▸d))];exact J
 .refine⟨g.tape,g.os,g.output,g.drawn,bj g.size,?_,l,?_,?_,g.hle,g.hold,?_⟩
  .intro c d F
   have j:c≠b:=λe=>by
    subst e;rcases g.mfr c _ s with y|y
    .omega
    .exact F y
   rw[f c j];exact g.frame c d F
  .intro c x d;have d:(if c=b then some ob else σ.m c)=some x:=d;by_cases e:c=b
   .rw[if_pos e]at d;rw[e, <-d];exact t
   .rw[if_neg e]at d;rw[f c e];exact g.msat c x d
  .intro c x d i;have d:(if c=b then some ob else σ.m c)=some x:=d;by_cases e:c=b
   .rw[e];exact g.disj b _ s i
   .rw[if_neg e]at d;exact g.disj c _ d i
  .intro c x d;have d:(if c=b then some ob else σ.m c)=some x:=d;by_cases e:c=b
   .rw[e];exact g.mfr b _ s
   .rw[if_neg e]at d;exact g.mfr c _ d
 .intro k p T N c q _ M;exact f c (λe=>u k _ q (by rw[M,e];rfl))
theorem PX(g:aI B ι σ a w){t:Nat}{r:Option Operand}(i:o.op= .makeMap t r)(h:Kp o r σ K):TW B C ι o σ K a w:=by
 intro next Q b
 unfold Kp at h;split at h
 .obtain⟨d,e,j⟩:=aKJ g (.map #[] 0)
  have c:(execOp a.eval o).run C.P w= .ok (.value (.map (some w.heap.size))) (w.alloc (.map #[] 0)):=by
   unfold execOp;simp[i,Instr.makeMap]
  unfold Oper.wp;rw[c,Oper.upon_value];exact b ι _ _ _ (d.put o.dst (x:=.at (.val (.map (some w.heap.size)))) rfl) (h w.heap.size _ e ⟨bg,λk f=>by simp[f]⟩) (j o)
 .exact h.elim
theorem aI.drew{B:qJ}{ι:cg}{σ:St}{a:Act}{w:World}(h:aI B ι σ a w)(k:Nat)(c:w.drawn<=k):aI B ι σ a {w with drawn:=k}:=by
 refine⟨h.slots,h.defers,λj o d=>(h.own j o d).world (λ_ _=>rfl),h.dist,h.fresh,?_,h.one⟩;have b:=h.wrel;exact⟨b.tape,b.os,b.output,Nat.le_trans b.drawn c,b.size,b.frame,b.hsat,b.msat,b.disj,b.hle,b.hold,b.mfr⟩
theorem xV{α:Type}{l:List α}{j:Nat}{x:α}(h:l[j]? =some x):l=l.take j++x::l.drop (j+1):=by
 have b:=(List.getElem?_eq_some_iff.1 h).1;have e:=(List.getElem?_eq_some_iff.1 h).2;rw[<-e, <-drop_eq_getElem_cons b,take_append_drop]
theorem Ut(n:aI B ι σ a w){t:Nat}{x:Operand}(y:o.op= .range t x)(h:SR C o t x σ K):TW B C ι o σ K a w:=by
 intro next Q f
 have d:=n.ev x;unfold SR at h;split at h
 .rename_i s p q;rw[q]at d;have d:a.eval x= .string s:=d;obtain⟨j,k,r⟩:=aKJ n (.stringIter s 0)
  have g:(execOp a.eval o).run C.P w= .ok (.value (.pointer (some ⟨w.heap.size,0,none⟩))) (w.alloc (.stringIter s 0)):=by
   unfold execOp;simp[y,d,Instr.range,run_underlying p]
  unfold Oper.wp;rw[g,Oper.upon_value];exact f ι _ _ _ (j.put o.dst (x:=.at (.val (.pointer (some ⟨w.heap.size,0,none⟩)))) rfl) (h w.heap.size _ k ⟨bg,λD l=>by simp[l]⟩) (r o)
 .rename_i G H b p q;rw[q]at d;have d:a.eval x= .map (some b):=d;obtain⟨E,⟨F,c,z,m,i,u⟩,h⟩:=h;have A:=n.wrel.msat b _ z;obtain⟨j,k,r⟩:=aKJ n (.mapIter (some b) c #[] c)
  have g:(execOp a.eval o).run C.P w= .ok (.value (.pointer (some ⟨w.heap.size,0,none⟩))) (w.alloc (.mapIter (some b) c #[] c)):=by
   unfold execOp;simp[y,d,Instr.range,run_underlying p,MapKept.run_getObj_map A,Result.andThen]
  unfold Oper.wp;rw[g,Oper.upon_value];have v:b≠w.heap.size:=λe=>by have:=(Array.getElem?_eq_some_iff.1 A).1;omega
  refine f ι _ _ _ (j.put o.dst (x:=.at (.val (.pointer (some ⟨w.heap.size,0,none⟩)))) rfl) (h w.heap.size _ k ⟨λD l=>by simp[l]⟩ ⟨F,c,c, #[],c,?_,m,i,u,bg,i,Nat.le_refl _,Nat.le_refl _,?_⟩) (r o)
  .simp[v,z]
  .rw[<-m];congr 1;exact filter_eq_self.2 (λ_ _=>bg)
 .exact h.elim
theorem WT(q:aI B ι σ a w){x:Operand}{st:Bool}(T:o.op= .next x st)(h:WU o x st σ K):TW B C ι o σ K a w:=by
 intro next Q k
 have i:=q.ev x;unfold WU at h;split at h
 .rename_i b I;rw[I]at i;have i:a.eval x= .pointer (some ⟨b,0,none⟩):=i;obtain⟨s,p,hm,X,Y⟩:=h;have hg:=q.wrel.msat b _ hm.at_;by_cases y:p<s.size
  .obtain⟨J,Z⟩:=Uh (ob:=.stringIter s (p+(Utf8.decode s p).2)) q hm.at_
   have d:(execOp a.eval o).run C.P w= .ok (.value (.tuple #[.bool true,.int .i64 p,.int .i32 (Utf8.decode s p).1])) {w with heap:=w.heap.setIfInBounds b (.stringIter s (p+(Utf8.decode s p).2))}:=by
    unfold execOp;simp[T,i,Instr.next,getObj,setObj,Sem.run,hg,y,goInt,Result.andThen]
   unfold Oper.wp;rw[d,Oper.upon_value];refine k ι _ _ _ (J.put o.dst (x:=.tup _) ?_) (Y y _ ⟨bg,λb' M=>by simp[M]⟩) (Z o (by rw[T];rfl));exact⟨_,rfl,rfl,rfl,rfl,trivial⟩
  .have d:(execOp a.eval o).run C.P w= .ok (.value (.tuple #[.bool false])) w:=by
    unfold execOp;simp[T,i,Instr.next,getObj,Sem.run,hg,y,Result.andThen]
   unfold Oper.wp;rw[d,Oper.upon_value];refine k ι _ _ _ (q.put o.dst (x:=.tup _) ?_) (X aC) (kZ q);exact⟨_,rfl,rfl,trivial⟩
 .rename_i r I;rw[I]at i;have i:a.eval x= .pointer (some ⟨r,0,none⟩):=i;obtain⟨b,a6,left,⟨l,f,g,c,c0,N,a',O,R,z,F,a0,G,t⟩,X,Y⟩:=h;have a1:=q.wrel.msat b _ N;have a2:=q.wrel.msat r _ z;rcases run_next_at (P:=C.P) w o.type r b g c0 c l f a2 a1 F a0 with⟨h0,d⟩|⟨e,he,w1,hw1,d⟩
  .have hl:left=[]:=by
    rw[<-t];have:(leftOf l c).toList=[]:=bj h0
    unfold leftOf at this;rw[Array.toList_filter]at this;rw[this];rfl
   have d:(execOp a.eval o).run C.P w= .ok (.value (.tuple #[.bool false])) w:=by
    unfold execOp;simp[T,i,d,Result.andThen]
   unfold Oper.wp;rw[d,Oper.upon_value];refine k ι _ _ _ (q.put o.dst (x:=.tup _) ?_) (X hl) (kZ q);exact⟨_,rfl,rfl,trivial⟩
  .have S:∃n,aI B ι σ a w1/\w1={w with drawn:=n}:=by
    rcases hw1 with rfl|rfl
    .exact⟨w1.drawn,q,rfl⟩
    .exact⟨w.drawn+1,q.drew (w.drawn+1) (Nat.le_succ _),rfl⟩
   obtain⟨n,S,U⟩:=S;obtain⟨J,Z⟩:=Uh (ob:=.mapIter (some b) g (c.push e.born) f) S z
   have d:(execOp a.eval o).run C.P w= .ok (.value (.tuple #[.bool true,e.key,e.val])) {w1 with heap:=w1.heap.setIfInBounds r (.mapIter (some b) g (c.push e.born) f)}:=by
    unfold execOp;simp[T,i,d,Result.andThen,ChangeMaps.setBlock]
   have V:e∈l.toList.filter λe=> !c.contains e.born:=by
    unfold leftOf at he;rw[Array.toList_filter]at he;exact he
   have W:e∈l.toList:=(mem_filter.1 V).1;obtain⟨j,hj⟩:=getElem?_of_mem V;have u:=xV hj;have a3:r≠b:=λe=>by rw[e,N]at z;cases z
   have v:(((l.toList.filter λe=> !c.contains e.born)).map (·.born)).Nodup:=R.sublist (filter_sublist.map _)
   have E:l.toList.filter (λx=> !(c.push e.born).contains x.born)=(l.toList.filter λe=> !c.contains e.born).take j++(l.toList.filter λe=> !c.contains e.born).drop (j+1):=by
    have h3:l.toList.filter (λx=> !(c.push e.born).contains x.born)=(l.toList.filter λe=> !c.contains e.born).filter λx=>x.born !=e.born:=by
     rw[filter_filter];congr 1;funext x;simp only[Array.contains_push,Bool.not_or];rw[Bool.and_comm];rfl
    rw[h3];generalize (l.toList.filter λe=> !c.contains e.born)=L at u v hj;have y:=(List.getElem?_eq_some_iff.1 hj).1;generalize L.take j=A at u;generalize L.drop (j+1)=D at u;subst u;simp only[map_append,map_cons,nodup_append,nodup_cons,mem_map,mem_cons]at v;obtain⟨_,⟨a4,_⟩,a5⟩:=v;rw[filter_append,filter_cons];simp only[bne_self_eq_false,Bool.false_eq_true,if_false];congr 1
    .refine filter_eq_self.2 λx I=>?_;simp only[bne_iff_ne,ne_eq]
     exactλh4=>a5 _ ⟨x,I,rfl⟩ _ (.inl rfl) h4
    .refine filter_eq_self.2 λx I=>?_;simp only[bne_iff_ne,ne_eq]
     exactλh4=>a4 ⟨x,I,h4⟩
   unfold Oper.wp;rw[d,Oper.upon_value];have H:(if b=r then some (Obj.mapIter (some b) g (c.push e.born) f)else σ.m b)=some (.map l f):=by rw[if_neg (λe=>a3 e.symm)];exact N
   refine k ι _ _ _ (J.put o.dst (x:=.tup _) ?_) (Y (((l.toList.filter λe=> !c.contains e.born).take j).map λe=>(e.key,e.val)) (e.key,e.val) (((l.toList.filter λe=> !c.contains e.born).drop (j+1)).map λe=>(e.key,e.val)) ?_ _ ⟨λb' M=>by simp[M]⟩ ⟨⟨l,f,g,c.push e.born,f,H,a',O,R,bg,F,G,G,?_⟩,l,f,g,c,e,H,R,bg,W,rfl⟩) ?_
   .exact⟨_,rfl,rfl,rfl,rfl,trivial⟩
   .rw[<-t]
    conv=>lhs;rw[u]
    simp
   .rw[E];simp
   .have:=Z o (by rw[T];rfl);subst U;exact⟨this.cells,this.imm,this.ext,this.args⟩
 .exact h.elim
theorem V3(j:aI B ι σ a w){x:Operand}(q:o.op= .entry x)(h:Tu C o x σ K):TW B C ι o σ K a w:=by
 intro next Q f
 have d:=j.ev x;unfold Tu at h;split at h
 .rename_i r t;rw[t]at d;have d:a.eval x= .pointer (some ⟨r,0,none⟩):=d;obtain⟨b,u,left,x,⟨_,v,g,i,k,e,l,m,n,y,rfl⟩,h⟩:=h;have c:=run_entry_at (P:=C.P) w r b i k v g e (j.wrel.msat r _ n) (j.wrel.msat b _ l) y m
  have c:(execOp a.eval o).run C.P w= .ok (.value (.tuple #[e.key,e.val])) w:=by
   unfold execOp;simp[q,d,c,Result.andThen]
  have h:K (σ.put o.dst (.tup [.inl (.val e.key),.inl (.val e.val)])):=by
   split at h
   .obtain⟨s,p,h⟩:=h;have p:e.val=Sl.val s:=p;rw[p];exact h
   .exact h
  unfold Oper.wp;rw[c,Oper.upon_value];refine f ι _ _ _ (j.put o.dst (x:=.tup _) ?_) h (kZ j);exact⟨_,rfl,rfl,rfl,trivial⟩
 .exact h.elim
theorem Ff{P:Program}{g:TypeId}{Ok:Value->Prop}(L:KeyLaw P g Ok){k:Value}(q:Ok k)(w:World):∀(es:List MapEntry)(i:Nat),(∀e∈es,Ok e.key)->
 ((∀e∈es,e.key≠k)/\(Instr.findAsking g k es i).run P w= .ok none w)\/∃j e,es[j]? =some e/\e.key=k/\(Instr.findAsking g k es i).run P w= .ok (some (i+j,e.val)) w
 |[],i,_=>.inl ⟨λe s=>(by cases s),by simp[Instr.findAsking]⟩
 |e::es,i,c=>by
  obtain⟨r,l,d⟩:=L.eq k e.key w q (c e bg);cases r with
  |true=>exact .inr ⟨0,e,rfl,(d.1 rfl).symm,by simp[Instr.findAsking,l]⟩
  |false=>
   have m:e.key≠k:=λh=>by have:=d.2 h.symm;cases this
   rcases Ff L q w es (i+1) (λf b=>c f (by simp[b]))with⟨n,p⟩|⟨j,f,n,p,t⟩
   .refine .inl ⟨λf b=>?_,by simp[Instr.findAsking,l,p]⟩;rcases mem_cons.1 b with rfl|h
    .exact m
    .exact n f h
   .exact .inr ⟨j+1,f,bj n,p,by simp[Instr.findAsking,l,t];omega⟩
theorem findNow_spec{P:Program}{s:TypeId}{Ok:Value->Prop}(L:KeyLaw P s Ok){d:TypeDesc}(g:P.underlying s=some d){k:Value}(l:Ok k):∀(es:List MapEntry)(i:Nat)(r:Option (Nat×Value)),(∀e∈es,Ok e.key)->
 Instr.findNow d k es i=some r->((∀e∈es,e.key≠k)/\r=none)\/∃j e,es[j]? =some e/\e.key=k/\r=some (i+j,e.val)
 |[],i,r,_,h=>by
  simp[Instr.findNow]at h;exact .inl ⟨λe t=>(by cases t),h.symm⟩
 |e::es,i,r,b,h=>by
  simp only[Instr.findNow]at h;split at h
  .rename_i m;simp only[Option.some.injEq]at h;exact .inr ⟨0,e,rfl,((L.now d k e.key true g l (b e bg) m).1 rfl).symm,bj h.symm⟩
  .rename_i m;have n:e.key≠k:=λu=>by have:=(L.now d k e.key false g l (b e bg) m).2 u.symm;cases this
   rcases findNow_spec L g l es (i+1) r (λf c=>b f (by simp[c])) h with⟨p,q⟩|⟨j,f,p,q,v⟩
   .refine .inl ⟨λf c=>?_,q⟩;rcases mem_cons.1 c with rfl|h
    .exact n
    .exact p f h
   .exact .inr ⟨j+1,f,bj p,q,by rw[v];congr 2;omega⟩
  .cases h
theorem run_findKey{P:Program}{f:TypeId}{Ok:Value->Prop}(L:KeyLaw P f Ok){k:Value}(m:Ok k)(w:World)(es:List MapEntry)(g:∀e∈es,Ok e.key):
 ((∀e∈es,e.key≠k)/\(Instr.findKey f k es).run P w= .ok none w)\/∃j e,es[j]? =some e/\e.key=k/\(Instr.findKey f k es).run P w= .ok (some (j,e.val)) w:=by
 obtain⟨d,i⟩:=L.under;cases l:Instr.findNow d k es 0 with
 |some r=>
  have b:(Instr.findKey f k es).run P w= .ok r w:=by simp[Instr.findKey,run_underlying i,l]
  rcases findNow_spec L i m es 0 r g l with⟨c,rfl⟩|⟨j,e,c,h,rfl⟩
  .exact .inl ⟨c,b⟩
  .exact .inr ⟨j,e,c,h,by rw[b];simp⟩
 |none=>
  have b:(Instr.findKey f k es).run P w=(Instr.findAsking f k es).run P w:=by simp[Instr.findKey,run_underlying i,l]
  rw[b];rcases Ff L m w es 0 g with⟨c,h⟩|⟨j,e,c,h,n⟩
  .exact .inl ⟨c,h⟩
  .exact .inr ⟨j,e,c,h,by rw[n];simp⟩
theorem TZ{P:Program}{T:TypeId}{z:Value}(h:SA P T=some z)(w:World):(zeroValue T).run P w= .ok z w:=by
 unfold SA at h;split at h
 .rename_i i d;split at h
  .rename_i k n c;simp only[Option.some.injEq]at h;subst h;simp[zeroValue,typeInfo,d,c]
  .rename_i b c;simp only[Option.some.injEq]at h;subst h;simp[zeroValue,typeInfo,d,c]
  .rename_i c;simp only[Option.some.injEq]at h;subst h;simp[zeroValue,typeInfo,d,c]
  .cases h
 .cases h
theorem Ta(m:aI B ι σ a w){t:Nat}{x k:Operand}{ok:Bool}(T:o.op= .lookup t x k ok)(h:Og C o t x k ok σ K):TW B C ι o σ K a w:=by
 intro next Q c
 have d:=m.ev x;unfold Og at h;split at h
 .rename_i kt I b U V X J;rw[X]at d;have d:a.eval x= .map (some b):=d;have v:a.eval k=U:=(m.ev k).val? J;split at h
  .rename_i z Y;obtain⟨y,Ok,⟨s,M,Z,A⟩,L,D,E,n,F⟩:=h;have W:=m.wrel.msat b _ Z
   have i:∀e∈s.toList,∃p∈y,e.key=p.1/\e.val=only ((C.dec I).enc p.2):=by
    intro e q
    have:(e.key,e.val)∈y.map λp=>(p.1,only ((C.dec I).enc p.2)):=by
     rw[<-A];exact mem_map.2 ⟨e,q,rfl⟩
    obtain⟨p,r,g⟩:=mem_map.1 this;simp only[Prod.mk.injEq]at g;exact⟨p,r,g.1.symm,g.2.symm⟩
   have G:∀e∈s.toList,Ok e.key:=λe q=>by
    obtain⟨p,r,H,_⟩:=i e q;rw[H];exact E p r
   have l:=L.check U w s.isEmpty D;unfold Oper.wp;rcases run_findKey L D w s.toList G with⟨N,O⟩|⟨j,e,N,O,h3⟩
   .have f:(execOp a.eval o).run C.P w= .ok (.value (if ok then .tuple #[z,.bool false]else z)) w:=by
     unfold execOp;simp[T,d,v,Instr.lookup,run_underlying V,MapKept.run_getObj_map W,l,O,TZ Y,Result.andThen]
    rw[f,Oper.upon_value];refine c ι _ _ _ (m.put o.dst ?_) (n ?_) (kZ m)
    .cases ok
     .rfl
     .exact⟨_,rfl,rfl,rfl,trivial⟩
    .intro p r H
     have:(p.1,only ((C.dec I).enc p.2))∈s.toList.map λe=>(e.key,e.val):=by
      rw[A];exact mem_map.2 ⟨p,r,rfl⟩
     obtain⟨e,q,g⟩:=mem_map.1 this;simp only[Prod.mk.injEq]at g;exact N e q (g.1.trans H)
   .have q:e∈s.toList:=mem_of_getElem? N;obtain⟨p,r,H,g⟩:=i e q
    have f:(execOp a.eval o).run C.P w= .ok (.value (if ok then .tuple #[e.val,.bool true]else e.val)) w:=by
     unfold execOp;simp[T,d,v,Instr.lookup,run_underlying V,MapKept.run_getObj_map W,l,h3,Result.andThen]
    have R:=F p.2 (by rw[<-O,H];exact r);rw[f,Oper.upon_value];split at R
    .rename_i u S;rw[S]at g;refine c ι _ _ _ (m.put o.dst ?_) R (kZ m);cases ok
     .exact g
     .exact⟨_,rfl,g,rfl,trivial⟩
    .exact R.elim
  .exact h.elim
 .exact h.elim
theorem Mk(l:aI B ι σ a w){t:Nat}{x k v:Operand}(N:o.op= .mapUpdate t x k v)(m:o.dst=none)(h:CI C t x k v σ K):TW B C ι o σ K a w:=by
 intro next Q g
 have d:=l.ev x;unfold CI at h;split at h
 .rename_i Y Z b n u T U D V;rw[U]at d;have d:a.eval x= .map (some b):=d;have E:a.eval k=n:=(l.ev k).val? D;have F:a.eval v=u:=(l.ev v).val? V;obtain⟨G,Ok,⟨i,c,O,p⟩,L,q,r,s,W⟩:=h;have R:=l.wrel.msat b _ O;have f:∀e∈i.toList,(e.key,e.val)∈G:=λe H=>by rw[<-p];exact mem_map.2 ⟨e,H,rfl⟩
  have y:∀e∈i.toList,Ok e.key:=λe H=>r _ (f e H);have z:=L.check n w false q;rcases run_findKey L q w i.toList y with⟨S,I⟩|⟨j,e,S,I,h3⟩
  .obtain⟨J,X⟩:=Uh (ob:=.map (i.push {key:=n,val:=u,born:=c}) (c+1)) l O
   have A:(execOp a.eval o).run C.P w= .ok .skip {w with heap:=w.heap.setIfInBounds b (.map (i.push {key:=n,val:=u,born:=c}) (c+1))}:=by
    unfold execOp;simp[N,d,E,F,Instr.mapUpdate,run_underlying T,MapKept.run_getObj_map R,MapKept.run_setObj_map _ R,z,I,Result.andThen]
   unfold Oper.wp;rw[A,Oper.upon_skip,show a.put o.dst undef=a by rw[m];rfl];refine g ι _ _ _ J (W _ ⟨λb' M=>by simp[M]⟩ ⟨i.push {key:=n,val:=u,born:=c},c+1,bg,?_⟩) (X o (by rw[N];rfl));simp[p]
  .exact(s _ (f e (mem_of_getElem? S)) I).elim
 .exact h.elim
theorem S9(I:aI B ι σ a w){t:Nat}{x k v:Operand}(X:o.op= .mapUpdate t x k v)(z:o.dst=none)(h:Jg C t x k v σ K):TW B C ι o σ K a w:=by
 intro next Q m
 have n:=I.ev x;unfold Jg at h;split at h
 .rename_i kt et b r u hu i a' hv;rw[i]at n;have n:a.eval x= .map (some b):=n;have M:a.eval k=r:=(I.ev k).val? a';have N:a.eval v=u:=(I.ev v).val? hv;obtain⟨a0,Ok,⟨f,c,hm,s,d,D⟩,L,O,E,R,S,T⟩:=h;have Y:=I.wrel.msat b _ hm;have U:∀e∈f.toList,(e.key,e.val)∈a0:=λe l=>by rw[<-s];exact mem_map.2 ⟨e,l,rfl⟩
  have V:∀e∈f.toList,Ok e.key:=λe l=>R _ (U e l);have A:=L.check r w false O;rcases run_findKey L O w f.toList V with⟨J,Z⟩|⟨j,e,J,Z,h3⟩
  .obtain⟨F,hk⟩:=Uh (ob:=.map (f.push {key:=r,val:=u,born:=c}) (c+1)) I hm
   have q:(execOp a.eval o).run C.P w= .ok .skip {w with heap:=w.heap.setIfInBounds b (.map (f.push {key:=r,val:=u,born:=c}) (c+1))}:=by
    unfold execOp;simp[X,n,M,N,Instr.mapUpdate,run_underlying hu,MapKept.run_getObj_map Y,MapKept.run_setObj_map _ Y,A,Z,Result.andThen]
   unfold Oper.wp;rw[q,Oper.upon_skip,show a.put o.dst undef=a by rw[z];rfl];refine m ι _ _ _ F (S (λp hp e1=>?_) _ ⟨λb' G=>by simp[G]⟩ ⟨f.push {key:=r,val:=u,born:=c},c+1,bg,by simp[s],λe l=>?_,?_⟩) (hk o (by rw[X];rfl))
   .rw[<-s]at hp;obtain⟨e,l,rfl⟩:=mem_map.1 hp;exact J e l e1
   .rw[Array.toList_push,mem_append,mem_singleton]at l;rcases l with l|rfl
    .have:=d e l;omega
    .exact Nat.lt_succ_self _
   .rw[Array.toList_push,map_append,nodup_append];refine⟨D,bg,λx i y hy e1=>?_⟩;obtain⟨e,l,rfl⟩:=mem_map.1 i;simp at hy;have:=d e l;omega
  .have W:=(List.getElem?_eq_some_iff.1 J).1;have a1:f[j]? =some e:=by rw[<-Array.getElem?_toList];exact J
   obtain⟨F,hk⟩:=Uh (ob:=.map (f.modify j λe=>{e with key:=r,val:=u}) c) I hm
   have q:(execOp a.eval o).run C.P w= .ok .skip {w with heap:=w.heap.setIfInBounds b (.map (f.modify j λe=>{e with key:=r,val:=u}) c)}:=by
    unfold execOp;simp[X,n,M,N,Instr.mapUpdate,run_underlying hu,MapKept.run_getObj_map Y,MapKept.run_setObj_map _ Y,A,h3,a1,Z,Instr.keyThatStays,E,Result.andThen]
   have g:(f.modify j λe=>{e with key:=r,val:=u}).toList=f.toList.take j++{e with key:=r,val:=u}::f.toList.drop (j+1):=by
    rw[Array.toList_modify,modify_eq_take_cons_drop W];congr 2;have:=(List.getElem?_eq_some_iff.1 J).2;rw[this]
   have H:=xV J;unfold Oper.wp;rw[q,Oper.upon_skip,show a.put o.dst undef=a by rw[z];rfl];refine m ι _ _ _ F (T ((f.toList.take j).map λe=>(e.key,e.val)) e.val ((f.toList.drop (j+1)).map λe=>(e.key,e.val)) ?_ _ ⟨λb' G=>by simp[G]⟩ ⟨f.modify j λe=>{e with key:=r,val:=u},c,bg,?_,?_,?_⟩) (hk o (by rw[X];rfl))
   .rw[<-s]
    conv=>lhs;rw[H]
    simp[Z]
   .rw[g];simp
   .intro x i;rw[g]at i;rw[H]at d;rcases mem_append.1 i with i|i
    .exact d x (mem_append_left _ i)
    .rcases mem_cons.1 i with rfl|i
     .exact d e (mem_append_right _ (mem_cons_self ..))
     .exact d x (mem_append_right _ (mem_cons_of_mem _ i))
   .rw[g];rw[H]at D;simpa using D
 .exact h.elim
end
end Go.Vc
namespace Go.Vc
open Go List
section
variable{B:qJ}{C:Ctx}{ι:cg}{σ:St}{a:Act}{w:World}{o:Oper}{K:St->Prop}
theorem aJQ(j:aI B ι σ a w)(m:EA o.op=true)(h:PT C o σ K):TL C ι o σ K a w:=by
 unfold PT at h;cases g:o.op<;>simp only[g]at h m
 case move x=>exact Oe j (.inl g) h
 case assign x=>exact Oe j (.inr g) h
 case pick c x y=>exact WN j g h
 case build T ps=>exact Wc j g h
 case load T x=>exact WW j g h
 case nilCheck x=>exact N7 j g h
 case binOp op tx x y ty=>
  cases op
  case eql=>
   simp only at h;split at h
   .exact Fb (neg:=false) j g h
   .exact lE j (λp b=>by rw[g];intro e;cases e) h
  case neq=>
   simp only at h;split at h
   .exact Fb (neg:=true) j g h
   .exact lE j (λp b=>by rw[g];intro e;cases e) h
  case add=>exact Tx j g h
  all_goals first
   |exact lE j (λp b=>by rw[g];intro e;cases e) h
   |exact aAZ j g h
 case unOp op t x=>exact lE j (λp b=>by rw[g];intro e;cases e) h
 case convert s d x=>exact P1 j g h
 case fieldAddr T x f=>exact Mn j g h
 case field T x f=>exact U6 j g h
 case indexAddr T x i=>exact Mm j g h
 case index T x i=>exact UX j g h
 case extract x i=>exact P0 j g h
 case call c=>
  obtain⟨k,args,l⟩:=c;cases k with
  |builtin b=>
   cases b<;>simp only[EA,Bool.false_eq_true]at m
   case len=>
    simp only at h;split at h
    .rename_i x q;exact ahJ j g rfl q h
    .exact h.elim
   case min=>exact lE j (λp b=>by rw[g];intro e;cases e) h
   case max=>exact lE j (λp b=>by rw[g];intro e;cases e) h
  |value f=>simp[EA]at m
  |invoke r n=>simp[EA]at m
 all_goals (first|exact h.elim|(simp[EA]at m))
theorem TL.stp(d:aI B ι σ a w)(h:TL C ι o σ K a w):TW B C ι o σ K a w:=by
 intro next Q b
 obtain⟨v,x,c,e,f⟩:=h;unfold Oper.wp;rw[c w (.inr rfl),Oper.upon_value];exact b ι _ _ _ (d.put o.dst e) f (kZ d)
theorem BN(e:aI B ι σ a w):∀(i:Nat)(l:cz)(ts:dg)(b:cq),qS C.P σ [] i l ts=some b->b=(l.map a.eval).map .val
 |i,[],ts,b,h=>by simp[qS]at h;subst h;rfl
 |i,x::r,ts,b,h=>by
  simp only[qS]at h;split at h
  .cases h
  .rename_i d c;have f:=BN e (i+1) r ts.tail d c;simp only[contains_nil]at h;split at h
   .rename_i u g;simp only[Option.some.injEq]at h;subst h;simp only[map_cons,(e.ev x).val? g,f]
   .cases h
theorem JP:∀(l b:bm),Nj (l.map .val) b=(l++b).map .val
 |[],_=>rfl
 |v::l,b=>by simp only[map_cons,Nj,JP l b,cons_append]
theorem S6{P:Program}{T:TypeId}{cs:bm}{ι:cg}:Den ι (mk P T (cs.map .val)) (valOf P T cs):=by
 unfold mk valOf;cases BJ P T with
 |true=>exact⟨_,rfl,by simpa using(iC.vals (ι:=ι)).2 rfl⟩
 |false=>match cs with
  |[]=>exact trivial
  |[x]=>exact rfl
  |_::_::_=>exact trivial
theorem Sound.fat{P:Program}{f:FuncId}{S:Spec}{T:TypeId}{vs:bm}{m:MH}{h:PH}{R:bm->MH->PH->Prop}(H:Sound P f S)(I:S (vs.map .val) m h (λr m' z=>∃l,r= .val (valOf P T l)/\R l m' z)):FAt P f T (vs.map .val) m h R:=by
 have A:∀{l D:bm},l.map CV.val=D.map CV.val->l=D:=fun{l D} e=>(List.map_inj_right (λx y h=>by cases h;rfl)).1 e;refine⟨H.1,λJ w L E=>?_⟩;rw[<-A L]
 have p:∀(l:bm)(w:World),BV w (l.map .val) l:=λl w=>by
  induction l with
  |nil=>trivial
  |cons a l M=>exact⟨rfl,M⟩
 have q:∀(l:bm)(i:Nat)(c:CV)(u:Value)(b:Nat),(l.map CV.val)[i]? =some c->gE c u=some b->False:=λl i c u b k g=>by
  rw[getElem?_map]at k;cases e:l[i]? with
  |none=>rw[e]at k;cases k
  |some v=>rw[e]at k;simp at k;subst k;simp[gE]at g
 refine(H.2 _ vs m h w _ I ⟨p _ _,E.hsat,E.msat,E.disj,λi j c d u v b k _ _ _ g _=>(q _ i c u b k g).elim,λi c u b k _ g=>(q _ i c u b k g).elim⟩).mono ?_;rintro e U ⟨r,u,m',z,rfl,⟨l,rfl,N⟩,s,n,_⟩;have s:u=valOf P T l:=s;subst s
 have F:∀b,m b=none->¬rU m (vs.map .val) vs b:=by
  rintro b g (t|⟨i,c,u,k,_,O⟩)
  .exact t g
  .exact q _ i c u b k O
 refine⟨l,m',z,rfl,N,⟨n.tape,n.os,n.output,n.drawn,n.size,λb g G=>n.frame b g (F b G),⟨n.hsat,n.msat,n.disj⟩,⟨n.hle⟩,λb g G=>n.hold b g (F b G),λb o g=>?_⟩⟩;rcases n.mfr b o g with t|t
 .exact .inl t
 .refine .inr λQ=>F b Q t
theorem aAX(r:aI B ι σ a w){c:Call}{g:Operand}{T:TypeId}{f:FuncId}{H cs:Array Value}(Z:o.op= .call c)(hc:c.callee= .value g)
 (hg:σ.ev g= .at (.val (.func (.func f) H cs)))(J:H.toList=[])(h:a5J C o T f cs.toList c.args.toList σ K):TW B C ι o σ K a w:=by
 intro next Q s
 unfold a5J at h;split at h
 .rename_i a' y;obtain⟨R,L,h⟩:=h;have M:=BN r 0 _ _ _ y;subst M;rw[JP]at L;have I:=r.wrel;obtain⟨fn,N,i,t⟩:=L.fn;have u:=L.go _ w rfl ⟨I.hsat,I.msat,I.disj⟩;have O:a.eval g= .func (.func f) H cs:=by have:=r.ev g;rw[hg]at this;exact this
  have z:H= #[]:=by apply Array.toList_inj.1;simpa using J
  subst z;have q: #[]++c.args.map a.eval++cs=(c.args.toList.map a.eval++cs.toList).toArray:=by apply Array.toList_inj.1;simp
  have S:¬fn.body=none:=by intro e;rw[e]at i;cases i
  have U:¬fn.name= "runtime.NumGoroutine" :=bj t
  have A:(execOp a.eval o).run C.P w= .ok (.enter f (c.args.toList.map a.eval++cs.toList).toArray) w:=by
   unfold execOp;simp only[Z,resolve,hc,O,Deferred.ofValue,Sem.run_bind,Sem.run_pure,Result.andThen_ok,invoke,callFunc];rw[q];simp[program,Sem.run,N,U,S]
  unfold Oper.wp;rw[A,Oper.upon_enter];refine Calls.mono u ?_;rintro e w' ⟨l,m',h',rfl,⟨x,rfl,hx⟩,d⟩;show next (a.put o.dst (valOf C.P T ((C.dec T).enc x))) w'
  have V:vR ⟨w,λb=>σ.m b≠none,σ.h,[]⟩ m' h' w':=
   ⟨d.tape,d.os,d.output,d.drawn,d.size,λb n D=>d.frame b n (Classical.byContradiction D),d.heapy.hsat,d.heapy.msat,d.heapy.disj,d.hle.le,λb n D=>d.hold b n (Classical.byContradiction D),λb W n=>d.mfr b W n⟩
  have X:=r.called V (λb n=>by
   cases hm:σ.m b with
   |none=>exact(n hm).elim
   |some W=>exact I.mfr b W hm) (λj o' b hj n D=>D (r.fresh j o' b hj n).2.1)
  refine s ι _ _ _ (X.put o.dst S6) (h x m' h' hx) ⟨λk p T a0 b hk _ hι=>?_,λb E v M=>d.heapy.hsat b E v (d.hle.le b E v M),λF=>?_,λl b _ n Y _=>d.frame b n Y⟩
  .have G:blk (ι k)=some b:=by rw[hι];rfl
   exact d.frame b (pA (r.own k _ hk) G) (r.fresh k _ b hk G).2.1
  .rw[Z]at F;simp[Au]at F
 .exact h.elim
theorem UG(F:∀g S,assoc C.specs g=some S->Sound C.P g S)(i:aI B ι σ a w)(h:PT C o σ K):TW B C ι o σ K a w:=by
 cases W:EA o.op with
 |true=>exact(aJQ i W h).stp i
 |false=>
  unfold PT at h;cases m:o.op<;>simp only[m]at h W
  case alloc T=>
   intro next Q s
   refine Wh i m h next Q (λu O z A j D E=>?_)
   obtain⟨R,p,q,_⟩:=yK _ _ j D;exact s u R z A p q E
  case box T x=>
   split at h
   .intro next Q s
    obtain⟨τ,t,I,J⟩:=nH _ _ i h;refine Se t m I next Q (λu O z A j D E=>?_)
    obtain⟨R,p,q,_⟩:=yK _ _ j D;exact s u R z A p q (E.of_fz J)
   .exact Se i m h
  case buildSlice T n ps=>
   intro next Q s
   refine Lg i m h next Q (λu O z A j D E=>?_)
   obtain⟨R,p,q,_⟩:=C7 _ _ j D;obtain⟨X,L,M,_⟩:=nH _ _ p q;exact s u X z A L M E
  case makeFunc f x Y=>
   intro next Q s
   obtain⟨τ,t,I,a1⟩:=yK _ _ i h;obtain⟨v,x,V,Z,I⟩:=lE t (λY b=>by rw[m];intro e;cases e) I;unfold Oper.wp;rw[V w (.inr rfl),Oper.upon_value];exact s ι _ _ _ (t.put o.dst Z) I (kZ i)
  case store T x v=>
   cases H:o.dst with
   |none=>
    rw[H]at h;intro next Q s
    obtain⟨τ,t,I,J⟩:=nH _ _ i h;exact Uc t m H I next Q (λu O z A j D E=>s u O z A j D (E.of_fz J))
   |some d=>rw[H]at h;exact h.elim
  case makeSlice T l c=>
   intro next Q s
   refine Ml i m h next Q (λu O z A j D E=>?_)
   obtain⟨R,p,q,_⟩:=C7 _ _ j D;exact s u R z A p q E
  case slice T x lo hi mx=>exact Ug i m h
  case makeMap T r=>exact PX i m h
  case lookup T x k ok=>exact Ta i m h
  case mapUpdate T x k v=>
   cases H:o.dst with
   |none=>
    rw[H]at h;have h:(match PU C.heapT 400000 with|true=>Jg C T x k v σ K|false=>CI C T x k v σ K):=h;split at h
    .exact S9 i m H h
    .exact Mk i m H h
   |some d=>rw[H]at h;exact h.elim
  case range T x=>exact Ut i m h
  case next x b=>exact WT i m h
  case entry x=>exact V3 i m h
  case call c=>
   obtain⟨G,args,U⟩:=c;cases G with
   |builtin b=>
    cases b<;>simp only[EA,Bool.true_eq_false]at W<;>simp only at h
    case append=>
     split at h
     .rename_i x y T tx Z ht;intro next Q s
      refine Tz i m rfl Z ht h next Q (λu O z A j D E=>?_)
      obtain⟨X,L,M,_⟩:=nH _ _ j D;exact s u X z A L M E
     .exact h.elim
    case cap=>exact(lE i (λY b=>by rw[m];intro e;cases e) h).stp i
    all_goals exact h.elim
   |value g=>
    simp only at h;split at h
    .rename_i f fs Y hg;split at h
     .split at h
      .rename_i N;exact aAX i m rfl hg N h
      .exact h.elim
     .split at h
      .rename_i N a0;exact YP F i m rfl hg N a0 h
      .exact h.elim
    .exact h.elim
   |invoke r n=>exact h.elim
  all_goals (first|exact h.elim|(simp[EA]at W))
theorem Nt(c:aI B ι σ a w){d:Nat}{xs:Array Value}(h:σ.ev (.tmp d)= .at (.val (.tuple xs))):a.tmps[d]? =none\/∃xs,a.tmps[d]? =some (.tuple xs):=by
 have b:=c.ev (.tmp d);rw[h]at b;have b:a.eval (.tmp d)= .tuple xs:=b;simp only[Act.eval,Array.getD_eq_getD_getElem?]at b;cases e:a.tmps[d]? with
 |none=>exact .inl rfl
 |some v=>rw[e]at b;simp at b;exact .inr ⟨xs,by rw[b]⟩
theorem Hl(e:aI B ι σ a w){d:Nat}{t:Bool}(h:σ.ev (.tmp d)= .at (.val (.bool t))):a.tmps[d]? =some (.bool t):=by
 have b:=e.ev (.tmp d);rw[h]at b;have b:a.eval (.tmp d)= .bool t:=b;simp only[Act.eval,Array.getD_eq_getD_getElem?]at b;cases c:a.tmps[d]? with
 |none=>rw[c]at b;simp[undef]at b
 |some v=>rw[c]at b;simp at b;rw[b]
theorem aI.setTmp(b:aI B ι σ a w){c:Operand}{t:Bool}(h:σ.ev c= .at (.val (.bool t))):aI B ι (setTmp σ c t) a w:=by
 cases c with
 |tmp d=>
  refine⟨?_,b.defers,b.own,b.dist,b.fresh,b.wrel,b.one⟩;have k:=Hl b h;have:=b.slots.set d (x:=.at (.val (.bool t))) (v:=.bool t) rfl;show DenS ι (σ.sl.set d _) a.tmps.toList
  have e:a.tmps.toList.set d (.bool t)=a.tmps.toList:=by
   apply ext_getElem?;intro j;rw[getElem?_set];split
   .rename_i l;subst l;rw[Array.getElem?_toList,k];split
    .rfl
    .rename_i i;simp at i;rw[Array.getElem?_eq_none i]at k;cases k
   .rfl
  rw[e]at this;exact this
 |const v=>exact b
 |global g=>exact b
 |func f=>exact b
theorem QF{c:Operand}{t:Bool}(h:σ.ev c= .at (.val (.bool t))):Fz σ (setTmp σ c t):=by
 cases c with
 |tmp d=>
  refine⟨λ_ _ _ j h=>⟨j,h⟩,λ_ _ _ h=>h,?_,?_,rfl⟩
  .intro x k l b;cases x with
   |tmp e=>
    simp only[Vc.setTmp,St.ev,yV]at b;simp only[St.ev];by_cases i:e=d/\d<σ.sl.length
    .rw[if_pos i]at b;cases b
    .rw[if_neg i]at b;exact b
   |const v=>exact b
   |global g=>exact b
   |func f=>exact b
  .intro x k b;cases x with
   |tmp e=>
    simp only[Vc.setTmp,St.ev,yV]at b;simp only[St.ev];by_cases i:e=d/\d<σ.sl.length
    .rw[if_pos i]at b;cases b
    .rw[if_neg i]at b;exact b
   |const v=>exact b
   |global g=>exact b
   |func f=>exact b
 |const v=>exact Fz.refl σ
 |global g=>exact Fz.refl σ
 |func f=>exact Fz.refl σ
def GWp(C:Ctx)(ops:Array Oper)(o:Oper)(a:Act)(w:World)(next:Act->World->Prop)(Q:Exit->Act->World->Prop):Prop:=
 if Region.wanted o (yielded ops a.tmps)then o.wp C.P a w next Q else next (a.put o.dst undef) w
theorem P9{ops:Array Oper}{j d:Nat}{b t:Bool}{g:Oper}(e:o.guard=some (j,b))(c:nth ops.toList j=some g)(f:g.dst=some d)(h:a.tmps[d]? =some (.bool t)):
 Region.wanted o (yielded ops a.tmps)=(t==b):=by
 unfold Region.wanted;rw[e];rw[jB,Array.getElem?_toList]at c;simp[yielded,c,f,h]
theorem HU{ops:Array Oper}{j d:Nat}{b:Bool}{g:Oper}(f:o.guard=some (j,b))(e:nth ops.toList j=some g)(h:g.dst=some d)(c:a.tmps[d]? =none\/∃xs,a.tmps[d]? =some (.tuple xs)):
 Region.wanted o (yielded ops a.tmps)=false:=by
 unfold Region.wanted;rw[f];rw[jB,Array.getElem?_toList]at e;rcases c with c|⟨xs,c⟩<;>simp[yielded,e,h,c]
theorem CL{f:Oper->St->(St->Prop)->Prop}{ops:Array Oper}(e:aI B ι σ a w)(h:Oo f ops o σ K):
 ∃i,aI B ι i a w/\Fz σ i/\((Region.wanted o (yielded ops a.tmps)=true/\f o i K)\/(Region.wanted o (yielded ops a.tmps)=false/\K (i.put o.dst (.at (.val undef))))):=by
 unfold Oo at h;split at h
 .rename_i k;exact⟨σ,e,Fz.refl σ,.inl ⟨by simp[Region.wanted,k],h⟩⟩
 .rename_i j b k;split at h
  .exact h.elim
  .rename_i g n;split at h
   .exact h.elim
   .rename_i d p;split at h
    .rename_i t c;have m:=Hl e c;have l:=P9 (o:=o) (a:=a) k n p m;rcases sG h with⟨rfl,h⟩|⟨rfl,h⟩
     .refine⟨setTmp σ (.tmp d) true,e.setTmp c,QF c,?_⟩;cases b with
      |true=>exact .inl ⟨bj l,h⟩
      |false=>exact .inr ⟨bj l,h⟩
     .refine⟨setTmp σ (.tmp d) false,e.setTmp c,QF c,?_⟩;cases b with
      |true=>exact .inr ⟨bj l,h⟩
      |false=>exact .inl ⟨bj l,h⟩
    .rename_i q c;exact⟨σ,e,Fz.refl σ,.inr ⟨HU k n p (Nt e c),h⟩⟩
    .exact h.elim
theorem U0(c:∀g S,assoc C.specs g=some S->Sound C.P g S){ops:Array Oper}(l:aI B ι σ a w)(h:Tl C ops o σ K)
 (next:Act->World->Prop)(Q:Exit->Act->World->Prop)(b:∀i e f w',aI B i e f w'->K e->HS σ ι o w w'->next f w'):GWp C ops o a w next Q:=by
 obtain⟨r,d,j,m⟩:=CL l h;unfold GWp;rcases m with⟨k,h⟩|⟨k,h⟩
 .rw[if_pos k];exact UG c d h next Q (λi e f w' n p q=>b i e f w' n p (q.of_fz j))
 .rw[if_neg (by simp[k])];exact b ι _ _ _ (d.put o.dst (x:=.at (.val undef)) rfl) h (kZ l)
theorem Nq{P:Program}{next:Act->World->Prop}{Q:Exit->Act->World->Prop}(h:o.wp P a w next Q):o.wpIn Fence.wide 0 P a w next Q:=by
 refine⟨λ_ _=>trivial,?_⟩;show o.uponIn Fence.wide 0 P a next Q ((execOp a.eval o).run P w)
 unfold Oper.wp at h;cases b:(execOp a.eval o).run P w with
 |ok x g=>
  rw[b]at h;cases x with
  |value v=>exact h
  |skip=>exact h
  |defer d=>exact h
  |enter f args=>exact⟨λe=>by simp[Fence.wide]at e,callsIn_wide.2 h⟩
  |row r args=>
   refine⟨λe=>by simp[Fence.wide]at e,λc i _=>?_⟩;obtain⟨v,j,k,l⟩:=h c i;exact⟨v,j,k,stepsIn_wide.2 l⟩
  |_=>exact h.elim
 |halt x g=>
  rw[b]at h;cases x with
  |panic v=>exact h
  |_=>exact h.elim
def a9Z(B:qJ)(C:Ctx)(o:Oper)(K:St->Prop)(a:Act)(w:World):Prop:=
 ∀(next:Act->World->Prop)(Q:Exit->Act->World->Prop),(∀e b c d,aI B e b c d->K b->next c d)->o.wpIn Fence.wide 0 C.P a w next Q
theorem T0(r:aI B ι σ a w){c:Call}{g:Operand}{l:Nat}{E cs:Array Value}(R:o.op= .call c)(T:c.callee= .value g)
 (U:σ.ev g= .at (.val (.func (.yield l) E cs)))(G:E.toList=[])(H:cs.toList=[])(h:SC C o (.func (.yield l) #[] #[]) c.args.toList σ K):a9Z B C o K a w:=by
 intro next Q p
 unfold SC at h;split at h
 .exact h.elim
 .rename_i S hS;split at h
  .rename_i V s;obtain⟨W,h⟩:=h;have X:=BN r 0 _ _ _ s;subst X;have F:=r.wrel;obtain⟨Y,t,f,v,y,i⟩:=W.go l _ σ.m σ.h w _ h ⟨F.hsat,F.msat,F.disj⟩;have I:a.eval g= .func (.yield l) E cs:=by have:=r.ev g;rw[U]at this;exact this
   have z:E= #[]:=by apply Array.toList_inj.1;simpa using G
   have A:cs= #[]:=by apply Array.toList_inj.1;simpa using H
   subst z A;have k:c.args.map a.eval=(c.args.toList.map a.eval).toArray:=by apply Array.toList_inj.1;simp
   have q:(execOp a.eval o).run C.P w= .ok (.round l Y t f v) w:=by
    unfold execOp;simp only[R,resolve,T,I,Deferred.ofValue,Sem.run_bind,Sem.run_pure,Result.andThen_ok,invoke];simp[k,y]
   refine⟨λ_ _=>trivial,?_⟩;show o.uponIn Fence.wide 0 C.P a next Q ((execOp a.eval o).run C.P w)
   rw[q,Oper.uponIn_round];refine⟨λe=>by simp[Fence.wide]at e,i.mono ?_⟩;rintro e N ⟨u,Z,h',rfl,hK,d⟩;show next (a.put o.dst u) N
   have J:vR ⟨w,λb=>σ.m b≠none,σ.h,[]⟩ Z h' N:=
    ⟨d.tape,d.os,d.output,d.drawn,d.size,λb n D=>d.frame b n (Classical.byContradiction D),d.heapy.hsat,d.heapy.msat,d.heapy.disj,d.hle.le,λb n D=>d.hold b n (Classical.byContradiction D),λb L n=>d.mfr b L n⟩
   have M:=r.called J (λb n=>by
    cases O:σ.m b with
    |none=>exact(n O).elim
    |some L=>exact F.mfr b L O) (λj o' b hj n D=>D (r.fresh j o' b hj n).2.1)
   exact p ι _ _ _ (M.put o.dst (x:=.at (.val u)) rfl) hK
  .exact h.elim
theorem Qn(b:∀g S,assoc C.specs g=some S->Sound C.P g S)(i:aI B ι σ a w)(h:Qo C o σ K):a9Z B C o K a w:=by
 have d:PT C o σ K->a9Z B C o K a w:=λh next Q j=>Nq (UG b i h next Q (λk m n p q r _=>j k m n p q r))
 unfold Qo at h;split at h
 .rename_i c s;split at h
  .rename_i g t;split at h
   .rename_i l v y u;split at h
    .rename_i e f;exact T0 i s t u e f h
    .exact h.elim
   .exact d h
  .exact d h
 .exact d h
theorem PZ(c:∀g S,assoc C.specs g=some S->Sound C.P g S){ops:Array Oper}(k:aI B ι σ a w)(h:Oo (Qo C) ops o σ K)
 (next:Act->World->Prop)(Q:Exit->Act->World->Prop)(b:∀l i j w',aI B l i j w'->K i->next j w'):
 if Region.wanted o (yielded ops a.tmps)then o.wpIn Fence.wide 0 C.P a w next Q else(∀f,o.about C.P w a.eval=some f->Fence.wide.fn f)/\next (a.put o.dst undef) w:=by
 obtain⟨p,d,m,n⟩:=CL k h;rcases n with⟨e,h⟩|⟨e,h⟩
 .rw[if_pos e];exact Qn c d h next Q b
 .rw[if_neg (by simp[e])];exact⟨λ_ _=>trivial,b ι _ _ _ (d.put o.dst (x:=.at (.val undef)) rfl) h⟩
theorem Ho(b:∀g S,assoc C.specs g=some S->Sound C.P g S){ops:Array Oper}{Q:Exit->Act->World->Prop}{R:St->Prop}{rest:ck}(d:∀ι σ a w,aI B ι σ a w->R σ->wpOpsIn Fence.wide 0 C.P ops Q rest a w):
 ∀(l:List Oper)(s:Nat)(ι:cg)(σ:St)(a:Act)(w:World),(∀j,j<l.length->l[j]? =ops.toList[s+j]?)->aI B ι σ a w->Qf C ops l σ R->wpOpsIn Fence.wide 0 C.P ops Q (range' s l.length++rest) a w
 |[],s,ι,σ,a,w,_,c,h=>d ι σ a w c h
 |o::l,s,ι,σ,a,w,e,c,h=>by
  have f:ops[s]? =some o:=by have:=e 0 bg;simp at this;exact this.symm
  simp only[length_cons,range'_succ,cons_append,wpOpsIn,f]
  exact PZ b c h (wpOpsIn Fence.wide 0 C.P ops Q (range' (s+1) l.length++rest)) Q (λi k m n p q=>
   Ho b d l (s+1) i k m n (λj r=>by have:=e (j+1) (by simp;omega);simp only[getElem?_cons_succ]at this;rw[this];congr 1;omega) p q)
end
end Go.Vc
namespace Go.Vc
open Go List
def Yd(P:Program)(ops:Array Oper)(w:World)(o:Oper)(v:Value)(a:Act):Prop:=
 (Region.wanted o (yielded ops a.tmps)=true/\(execOp a.eval o).run P w= .ok (.value v) w)\/(Region.wanted o (yielded ops a.tmps)=false/\v=undef)
def Aft(ops:Array Oper)(ok:Oper)(i:Nat):Prop:=waits ok i=true\/∃j b,ops[j]? =some b/\waits ok j=true/\waits b i=true
def YX(ops:Array Oper)(b:Oper):Prop:=∀(k:Nat)(ok:Oper)(d:Nat),ops[k]? =some ok->ok.dst=some d->d∈b.looksAt ops->waits b k=true
structure bdJ(ops:Array Oper)(i:Nat)(oi:Oper):Prop where
 mv:bmQ oi.op=true
 look:∀(k:Nat)(ok:Oper)(d:Nat),ops[k]? =some ok->ok.dst=some d->d∈oi.looksAt ops->Aft ops ok i
structure Ssa(ops:Array Oper):Prop where
 look:∀(i:Nat)(oi:Oper),ops[i]? =some oi->YX ops oi\/bdJ ops i oi
 dst:∀(i k:Nat)(oi ok:Oper)(d:Nat),ops[i]? =some oi->ops[k]? =some ok->ok.dst=some d->i≠k->oi.dst≠some d
 topo:∀(i:Nat)(oi:Oper)(k:Nat),ops[i]? =some oi->waits oi k=true->k<i
 sel:∀(j:Nat)(o:Oper) cs b,ops[j]? =some o->o.op≠ .select cs b
theorem Aft.in_{ops:Array Oper}{ok:Oper}{i:Nat}{L:Array Bool}(h:Aft ops ok i)(c:∀j,waits ok j=true->L.getD j false=true)(d:∀(j:Nat)(b:Oper),ops[j]? =some b->L.getD j false=true->∀k,waits b k=true->L.getD k false=true):L.getD i false=true:=by
 rcases h with h|⟨j,b,e,f,g⟩
 .exact c i h
 .exact d j b e (c j f) i g
theorem Ssa.self{ops:Array Oper}(c:Ssa ops){k:Nat}{o:Oper}(b:ops[k]? =some o):∀d,o.dst=some d->d∉o.looksAt ops:=λd f g=>by
 rcases c.look k o b with h|h
 .have:=c.topo k o k b (h k o d b f g);omega
 .rcases h.look k o d b f g with e|⟨j,i,l,e,m⟩
  .have:=c.topo k o k b e;omega
  .have:=c.topo k o j b e;have:=c.topo j i k l m;omega
theorem aLQ{P:Program}{o:Oper}(h:bmQ o.op=true):AP P o=false:=by
 unfold AP;cases e:o.op<;>simp_all [bmQ]
theorem JX{o:Oper}{k:Nat}:waits o k=true↔∃e∈o.after,Region.binds .any e=true/\e.on=k:=by
 unfold waits;rw[any_eq_true];constructor
 .rintro⟨e,b,h⟩;simp only[Bool.and_eq_true]at h;exact⟨e,bj b,h.1,Nat.eq_of_beq_eq_true h.2⟩
 .rintro⟨e,b,c,d⟩;exact⟨e,bj b,by simp[c,d]⟩
theorem aGZ{ops:Array Oper}(h:bNQ ops=true)(t:Region.noSelect ops=true):Ssa ops:=by
 unfold bNQ at h;simp only[all_eq_true,mem_range]at h;have l:∀{i:Nat}{n:Oper},ops[i]? =some n->i<ops.toList.length:=λf=>by have:=(Array.getElem?_eq_some_iff.1 f).1;simpa using this
 refine⟨?_,?_,?_,Region.noSelect_spec t⟩
 .intro i n f;have c:=h i (l f);rw[jB,Array.getElem?_toList,f]at c;simp only[Bool.and_eq_true,Bool.or_eq_true,all_eq_true,mem_range]at c;rcases c.2 with p|⟨u,p⟩
  .refine .inl λk ok d g m q=>?_;have b:=p k (l g);rw[jB,Array.getElem?_toList,g]at b;simp only[m,Bool.or_eq_true,Bool.not_eq_true',contains_eq_mem,decide_eq_false_iff_not]at b;rcases b with b|b
   .exact(b q).elim
   .exact b
  .refine .inr ⟨u,λk ok d g m q=>?_⟩;have b:=p k (l g);rw[jB,Array.getElem?_toList,g]at b;simp only[m,Bool.or_eq_true,Bool.not_eq_true',contains_eq_mem,decide_eq_false_iff_not]at b;rcases b with b|b
   .exact(b q).elim
   .unfold bWJ at b;simp only[Bool.or_eq_true,any_eq_true,Bool.and_eq_true]at b;rcases b with b|⟨⟨v,j⟩,y,z,A⟩
    .exact .inl b
    .refine .inr ⟨j,v,?_,z,A⟩;have:=mem_zipIdx_iff_getElem?.1 y;simpa using this
 .intro i k n ok d f g m r;have c:=h i (l f);rw[jB,Array.getElem?_toList,f]at c;simp only[Bool.and_eq_true,all_eq_true,mem_range]at c;have b:=c.1.2 k (l g);rw[jB,Array.getElem?_toList,g]at b;simp only[m,Bool.or_eq_true]at b;rcases b with b|b
  .exact(r (Nat.eq_of_beq_eq_true b)).elim
  .simpa using b
 .intro i n k f D;have s:i<ops.toList.length:=by have:=(Array.getElem?_eq_some_iff.1 f).1;simpa using this
  have c:=h i s;rw[jB,Array.getElem?_toList,f]at c;simp only[Bool.and_eq_true,all_eq_true]at c;obtain⟨e,E,F,rfl⟩:=JX.1 D;have:=c.1.1 e (bj E);simp only[F,Bool.not_true,Bool.false_or]at this;rw[<-Nat.blt_eq];exact this
theorem vK{ops:Array Oper}{b:Array Bool}{j:Nat}:j∈Region.ready .any ops b↔b.getD j true=false/\∃o,ops[j]? =some o/\∀k,waits o k=true->b.getD k false=true:=by
 rw[mem_ready];constructor
 .rintro⟨c,o,d,f⟩;refine⟨c,o,d,λk i=>?_⟩;obtain⟨e,g,h,rfl⟩:=JX.1 i;exact f e g h
 .rintro⟨c,o,d,f⟩;exact⟨c,o,d,λe g h=>f e.on (JX.2 ⟨e,g,h,rfl⟩)⟩
theorem Nd{l:Array Bool}{i:Nat}(h:l.getD i true=false):l.getD i false=false/\i<l.size:=by
 by_cases b:i<l.size
 .simp[Array.getD,b]at h⊢;exact h
 .simp[Array.getD,b]at h
theorem uD{l:Array Bool}{i:Nat}(h:i<l.size):(l.setIfInBounds i true).getD i false=true:=by
 simp[Array.getD,h]
theorem HJ{ops:Array Oper}{o:Oper}{c e:Act}(k:∀cs b,o.op≠ .select cs b)(h:∀t∈o.looksAt ops,c.tmps[t]? =e.tmps[t]?):
 execOp c.eval o=execOp e.eval o/\Region.wanted o (yielded ops c.tmps)=Region.wanted o (yielded ops e.tmps):=by
 constructor
 .refine execOp_congr o k λx l=>?_;cases x with
  |tmp t=>
   have:t∈o.looksAt ops:=mem_append_left _ (mem_filterMap.2 ⟨.tmp t,bj l,rfl⟩);simp only[Act.eval,Array.getD_eq_getD_getElem?,h t this]
  |const v=>rfl
  |global g=>rfl
  |func f=>rfl
 .unfold Region.wanted;split
  .rfl
  .rename_i j i m
   have:yielded ops c.tmps j=yielded ops e.tmps j:=by
    unfold yielded;cases n:(ops[j]?).bind (·.dst)with
    |none=>rfl
    |some d=>
     have p:d∈o.looksAt ops:=by
      unfold Oper.looksAt;refine mem_append_right _ ?_;simp[m,n]
     simp only[Option.bind_some,h d p]
   rw[this]
theorem My{a:Act}{d:Option Tmp}{v:Value}{t:Nat}(h:d≠some t):(a.put d v).tmps[t]? =a.tmps[t]? :=by
 cases d with
 |none=>rfl
 |some e=>
  have:e≠t:=λx=>h (by rw[x]);simp[Act.put,Array.getElem?_setIfInBounds_ne this]
theorem bkX(a:Act)(d:Option Tmp)(u v:Value):(a.put d u).put d v=a.put d v:=by
 cases d with
 |none=>rfl
 |some e=>simp[Act.put]
structure Si(P:Program)(ops:Array Oper)(L Cl:Array Bool)(ar ac:Act)(w:World):Prop where
 szL:L.size=ops.size
 szC:Cl.size=ops.size
 sub:∀i,L.getD i false=true->Cl.getD i false=true
 rd:∀(i:Nat)(o:Oper),ops[i]? =some o->Cl.getD i false=true->L.getD i false=false->EA o.op=true
 clC:∀(i:Nat)(o:Oper),ops[i]? =some o->Cl.getD i false=true->∀k,waits o k=true->Cl.getD k false=true
 clL:∀(i:Nat)(o:Oper),ops[i]? =some o->L.getD i false=true->∀k,waits o k=true->L.getD k false=true
 tsz:ar.tmps.size=ac.tmps.size
 df:ar.defers=ac.defers
 agree:∀t,(∀(i:Nat)(o:Oper),ops[i]? =some o->Cl.getD i false=true->L.getD i false=false->o.dst≠some t)->ar.tmps[t]? =ac.tmps[t]?
 pend:∀(i:Nat)(o:Oper),ops[i]? =some o->Cl.getD i false=true->L.getD i false=false->∃v,(YX ops o->∀w'',(AP P o=false\/w''=w)->Yd P ops w'' o v ac)/\(bdJ ops i o->∀w'',Yd P ops w'' o v ar)/\ac.put o.dst v=ac
section
variable{P:Program}{ops:Array Oper}{L Cl:Array Bool}{ar ac:Act}{w:World}
theorem Yd.congr{o:Oper}{v:Value}{a b:Act}{w:World}(h:Yd P ops w o v a)(c:execOp b.eval o=execOp a.eval o)(d:Region.wanted o (yielded ops b.tmps)=Region.wanted o (yielded ops a.tmps)):Yd P ops w o v b:=by
 unfold Yd at*
 rw[c,d];exact h
theorem Si.looks(h:Si P ops L Cl ar ac w){o:Oper}(b:YX ops o)(d:∀k,waits o k=true->L.getD k false=true):∀t∈o.looksAt ops,ar.tmps[t]? =ac.tmps[t]? :=by
 intro t e;refine h.agree t (λk ok f _ c g=>?_);have:=d k (b k ok t f g e);rw[this]at c;cases c
theorem Si.looks'(h:Si P ops L Cl ar ac w){i:Nat}{o:Oper}(b:bdJ ops i o)(d:Cl.getD i false=false):∀t∈o.looksAt ops,ar.tmps[t]? =ac.tmps[t]? :=by
 intro t f;refine h.agree t (λk ok e c _ g=>?_);have:=(b.look k ok t e g f).in_ (h.clC k ok e c) h.clC;rw[this]at d;cases d
theorem Si.stepA(A:Ssa ops)(h:Si P ops L Cl ar ac w){i:Nat}{o:Oper}(n:ops[i]? =some o)(D:Cl.getD i false=true)(r:∀k,waits o k=true->L.getD k false=true){v:Value}(s:ac.put o.dst v=ac):
 Si P ops (L.setIfInBounds i true) Cl (ar.put o.dst v) ac w:=by
 have p:i<L.size:=by rw[h.szL];exact(Array.getElem?_eq_some_iff.1 n).1
 have f:∀k,(L.setIfInBounds i true).getD k false=false->L.getD k false=false/\k≠i:=by
  intro k b;by_cases e:i=k
  .subst e;rw[uD p]at b;cases b
  .rw[getD_set_ne false e]at b;exact⟨b,λx=>e x.symm⟩
 refine⟨bj h.szL,h.szC,?_,λk ok b g c=>h.rd k ok b g (f k c).1,h.clC,?_,?_,?_,?_,λk ok b g c=>?_⟩
 .intro k b;by_cases e:i=k
  .subst e;exact D
  .rw[getD_set_ne false e]at b;exact h.sub k b
 .intro k ok b c j y;by_cases e:i=k
  .subst e;rw[n]at b;cases b;exact getD_set_true (r j y)
  .rw[getD_set_ne false e]at c;exact getD_set_true (h.clL k ok b c j y)
 .rw[<-h.tsz];cases o.dst<;>simp[Act.put]
 .rw[<-h.df];cases o.dst<;>rfl
 .intro t E;by_cases e:o.dst=some t
  .rw[e]at s⊢
   rw[<-s];simp only[Act.put,Array.getElem?_setIfInBounds_self,h.tsz]
  .rw[My e];refine h.agree t (λk ok b g c=>?_);by_cases z:i=k
   .subst z;rw[n]at b;cases b;exact e
   .exact E k ok b g (by rw[getD_set_ne false z];exact c)
 .obtain⟨u,F,G,H⟩:=h.pend k ok b g (f k c).1;refine⟨u,F,λl q=>?_,H⟩
  have m:∀d,o.dst=some d->d∉ok.looksAt ops:=λd I J=>by
   have:=(l.look i o d n I J).in_ r h.clL;rw[(f k c).1]at this;cases this
  exact(G l q).congr (execOp_put ok (A.sel k ok · · b) ar o.dst v m) (wanted_put ok ar o.dst v m)
theorem Si.take(y:Ssa ops)(h:Si P ops L Cl ar ac w){k:Nat}{o:Oper}(n:ops[k]? =some o)(z:Cl.getD k false=false)(S:∀j,waits o j=true->Cl.getD j false=true)(F:EA o.op=true){v:Value}
 (Q:∀f,(AP P o=false\/f=w)->Yd P ops f o v ac):Si P ops L (Cl.setIfInBounds k true) ar (ac.put o.dst v) w:=by
 have G:k<Cl.size:=by rw[h.szC];exact(Array.getElem?_eq_some_iff.1 n).1
 have g:∀j,(Cl.setIfInBounds k true).getD j false=true->j=k\/Cl.getD j false=true:=by
  intro j s;by_cases e:k=j
  .exact .inl e.symm
  .rw[getD_set_ne false e]at s;exact .inr s
 have H:L.getD k false=false:=by
  cases T:L.getD k false with
  |false=>rfl
  |true=>rw[h.sub k T]at z;cases z
 have p:∀j,Cl.getD j false=true->(Cl.setIfInBounds k true).getD j false=true:=by
  intro j s;exact getD_set_true s
 have A:=y.self n;refine⟨h.szL,bj h.szC,λi c=>p i (h.sub i c),?_,?_,h.clL,?_,?_,?_,?_⟩
 .intro i l c b m;rcases g i b with rfl|b
  .rw[n]at c;cases c;exact F
  .exact h.rd i l c b m
 .intro i l c b j s;rcases g i b with rfl|b
  .rw[n]at c;cases c;exact p j (S j s)
  .exact p j (h.clC i l c b j s)
 .rw[h.tsz];cases o.dst<;>simp[Act.put]
 .rw[h.df];cases o.dst<;>rfl
 .intro t R;have e:o.dst≠some t:=R k o n (uD G) H;rw[My e];exact h.agree t (λi l c b m=>R i l c (p i b) m)
 .intro i l c b m;by_cases e:i=k
  .subst e;rw[n]at c;cases c;refine⟨v,λ_ f I=>(Q f I).congr (execOp_put o (y.sel i o · · n) ac o.dst v A) (wanted_put o ac o.dst v A),λD f=>?_,bkX _ _ _ _⟩;obtain⟨U,J⟩:=HJ (y.sel i o · · n) (h.looks' D z);exact(Q f (.inl (aLQ D.mv))).congr U J
  .have q:=(g i b).resolve_left e;obtain⟨u,V,M,N⟩:=h.pend i l c q m;refine⟨u,λE f I=>?_,M,?_⟩
   .have r:∀d,o.dst=some d->d∉l.looksAt ops:=λd O W=>by
     have:=h.clC i l c q k (E k o d n O W);rw[this]at z;cases z
    exact(V E f I).congr (execOp_put l (y.sel i l · · c) ac o.dst v r) (wanted_put l ac o.dst v r)
   rw[Act.put_comm ac v u (λd O=>y.dst i k l o d c n O e),N]
theorem T1{o:Oper}{k m:Act}{w:World}{b g:Act->World->Prop}{Q:Exit->Act->World->Prop}(q:execOp m.eval o=execOp k.eval o)(h:o.wp P k w b Q)
 (l:∀v w',b (k.put o.dst v) w'->g (m.put o.dst v) w')(s:∀d w',¬b (({k with defers:=d::k.defers}:Act).put o.dst undef) w')(p:∀c a w,¬Q (.panic c) a w):o.wp P m w g Q:=by
 unfold Oper.wp at*
 rw[q];generalize (execOp k.eval o).run P w=r at*
 cases r with
 |ok n w'=>
  cases n<;>simp only[Oper.upon]at h⊢
  case value u=>exact l u w' h
  case skip=>exact l undef w' h
  case defer d=>exact(s d w' h).elim
  case enter f args=>
   refine Calls.mono h λe j i=>?_;cases e with
   |returned u=>exact l u j i
   |panicked c=>exact(p _ _ _ i).elim
   |outgrown=>exact i
  case row row args=>exact Rows.mono h λu j i=>l u j i
 |halt x w'=>
  cases x<;>simp only[Oper.upon]at h⊢
  case panic u=>exact(p _ _ _ h).elim
theorem Si.stepB(M:Ssa ops)(h:Si P ops L Cl ar ac w){j:Nat}{o:Oper}(A:ops[j]? =some o)(N:Cl.getD j false=false)(O:∀k,waits o k=true->L.getD k false=true)(u:Value)(w':World)
 (D:∀(i:Nat)(c:Oper)(v:Value),ops[i]? =some c->Cl.getD i false=true->L.getD i false=false->Yd P ops w c v ac->Yd P ops w' c v ac\/AP P c=false):
 Si P ops (L.setIfInBounds j true) (Cl.setIfInBounds j true) (ar.put o.dst u) (ac.put o.dst u) w':=by
 have E:j<Cl.size:=by rw[h.szC];exact(Array.getElem?_eq_some_iff.1 A).1
 have F:j<L.size:=by rw[h.szL];exact(Array.getElem?_eq_some_iff.1 A).1
 have m:∀i,(Cl.setIfInBounds j true).getD i false=true->i=j\/Cl.getD i false=true:=by
  intro i b;by_cases e:j=i
  .exact .inl e.symm
  .rw[getD_set_ne false e]at b;exact .inr b
 have n:∀i,(L.setIfInBounds j true).getD i false=false->i≠j/\L.getD i false=false:=by
  intro i b;by_cases e:j=i
  .subst e;rw[uD F]at b;cases b
  .rw[getD_set_ne false e]at b;exact⟨λx=>e x.symm,b⟩
 have s:∀i,Cl.getD i false=true->(Cl.setIfInBounds j true).getD i false=true:=λi b=>getD_set_true b;refine⟨bj h.szL,bj h.szC,?_,?_,?_,?_,?_,?_,?_,?_⟩
 .intro i b;by_cases e:j=i
  .subst e;exact uD E
  .rw[getD_set_ne false e]at b;exact s i (h.sub i b)
 .intro i c b f l;obtain⟨p,g⟩:=n i l;exact h.rd i c b ((m i f).resolve_left p) g
 .intro i c b f k G;rcases m i f with rfl|f
  .rw[A]at b;cases b;exact s k (h.sub k (O k G))
  .exact s k (h.clC i c b f k G)
 .intro i c b l k G;by_cases e:j=i
  .subst e;rw[A]at b;cases b;exact getD_set_true (O k G)
  .rw[getD_set_ne false e]at l;exact getD_set_true (h.clL i c b l k G)
 .cases o.dst<;>simp[Act.put,h.tsz]
 .have:=h.df;cases o.dst<;>exact this
 .intro t V;by_cases e:o.dst=some t
  .rw[e];simp only[Act.put,Array.getElem?_setIfInBounds_self,h.tsz]
  .rw[My e,My e];refine h.agree t (λi c b f l=>V i c b (s i f) ?_);have p:j≠i:=λx=>by subst x;rw[N]at f;cases f
   rw[getD_set_ne false p];exact l
 .intro i c b f l;obtain⟨p,g⟩:=n i l;have q:=(m i f).resolve_left p;obtain⟨v,Q,R,S⟩:=h.pend i c b q g;refine⟨v,λy z H=>?_,λI z=>?_,?_⟩
  .have r:∀d,o.dst=some d->d∉c.looksAt ops:=λd J T=>by
    have:=h.clC i c b q j (y j o d A J T);rw[this]at N;cases N
   have W:Yd P ops z c v ac:=by
    rcases H with H|H
    .exact Q y z (.inl H)
    .rw[H];rcases D i c v b q g (Q y w (.inr rfl))with U|U
     .exact U
     .exact Q y w' (.inl U)
   exact W.congr (execOp_put c (M.sel i c · · b) ac o.dst u r) (wanted_put c ac o.dst u r)
  .have r:∀d,o.dst=some d->d∉c.looksAt ops:=λd J T=>by
    have:=(I.look j o d A J T).in_ O h.clL;rw[this]at g;cases g
   exact(R I z).congr (execOp_put c (M.sel i c · · b) ar o.dst u r) (wanted_put c ar o.dst u r)
  .rw[Act.put_comm ac u v (λd J=>M.dst i j c o d b A J p),S]
end
section
variable{B:qJ}{C:Ctx}{ι:cg}{σ:St}{a:Act}{w:World}
theorem Uf{P:Program}{b:Bool}{σ:St}{c d:Oper}{K:Prop}(h:LB P b σ c d K):LB P b σ c d True/\K:=by
 unfold LB at h⊢
 repeat' split at h
 all_goals first|exact h.elim|skip
 all_goals simp_all
theorem Nw{P:Program}{j:Bool}{ops:Array Oper}{b:Array Bool}{σ:St}{d:Oper}:∀(l:List Oper)(s:Nat){K:Prop},JZ P j ops b σ d s l K->
 K/\∀(i:Nat)(c:Oper),l[i]? =some c->b.getD (s+i) false=true->EA c.op=true->waits d (s+i)=false->Ac ops σ c=false->LB P j σ d c True
 |[],s,K,h=>⟨h,λi c e=>by simp at e⟩
 |o::l,s,K,h=>by
  have key:(JZ P j ops b σ d (s+1) l K)/\(b.getD s false=true->EA o.op=true->waits d s=false->Ac ops σ o=false->LB P j σ d o True):=by
   simp only[JZ]at h;split at h
   .obtain⟨f,g⟩:=Uf h;exact⟨g,λ_ _ _ _=>f⟩
   .rename_i n;refine⟨h,λf g k m=>?_⟩;exact(n f g k m).elim
  obtain⟨p,q⟩:=Nw l (s+1) key.1;refine⟨p,λi c e f g k m=>?_⟩;cases i with
  |zero=>simp at e;subst e;exact key.2 (bj f) g (bj k) m
  |succ i=>
   simp only[getElem?_cons_succ]at e;exact q i c e (by rw[show s+1+i=s+(i+1)by omega];exact f) g (by rw[show s+1+i=s+(i+1)by omega];exact k) m
theorem Ue{σ:St}{b c:Oper}{τ:St}{K:Prop}(h:H4 σ b c τ K):H4 σ b c τ True/\K:=by
 unfold H4 at h⊢
 repeat' split at h
 all_goals simp_all
theorem LA{ops:Array Oper}{b:Array Bool}{σ:St}{d:Oper}{τ:St}:∀(l:List Oper)(s:Nat){K:Prop},FZ ops b σ d τ s l K->
 K/\∀(i:Nat)(c:Oper),l[i]? =some c->b.getD (s+i) false=true->EA c.op=true->waits d (s+i)=false->Ac ops σ c=false->H4 σ d c τ True
 |[],s,K,h=>⟨h,λi c e=>by simp at e⟩
 |o::l,s,K,h=>by
  have key:(FZ ops b σ d τ (s+1) l K)/\(b.getD s false=true->EA o.op=true->waits d s=false->Ac ops σ o=false->H4 σ d o τ True):=by
   simp only[FZ]at h;split at h
   .obtain⟨f,g⟩:=Ue h;exact⟨g,λ_ _ _ _=>f⟩
   .rename_i m;refine⟨h,λf g j k=>?_⟩;exact(m f g j k).elim
  obtain⟨n,p⟩:=LA l (s+1) key.1;refine⟨n,λi c e f g j k=>?_⟩;cases i with
  |zero=>simp at e;subst e;exact key.2 (bj f) g (bj j) k
  |succ i=>
   simp only[getElem?_cons_succ]at e;exact p i c e (by rw[show s+1+i=s+(i+1)by omega];exact f) g (by rw[show s+1+i=s+(i+1)by omega];exact j) k
theorem Te{ops:Array Oper}{c:Oper}(e:aI B ι σ a w)(h:Ac ops σ c=true):Region.wanted c (yielded ops a.tmps)=false:=by
 unfold Ac at h;split at h
 .cases h
 .rename_i j f i;split at h
  .cases h
  .rename_i g k;split at h
   .cases h
   .rename_i d l;split at h
    .rename_i t b;rw[P9 i k l (Hl e b)];split at h
     .rfl
     .rfl
     .cases h
    .rename_i m b;exact HU i k l (Nt e b)
    .cases h
theorem BO(m:aI B ι σ a w){k:Nat}{p:Own}(c:nth σ.own k=some (some p)){b:Nat}(n:blk (ι k)=some b):∀{l:cz},G5 σ k l=true->∀x∈l,∀j,(σ.ev x= .at (.lst j)\/∃off,σ.ev x= .at (.ptr j off))->blk (ι j)≠some b
 |[],_,x,d=>by cases d
 |y::r,h,x,d=>by
  simp only[G5,Bool.and_eq_true]at h;rcases mem_cons.1 d with rfl|d
  .intro j e g;have f:=h.1;rcases e with e|⟨off,e⟩
   all_goals
    simp only[e]at f;split at f
    .rename_i q i;have:=m.dist j k _ _ b i c g n;subst this;simp at f
    .cases f
  .exact BO m c n h.2 x d
theorem bkZ{ops:Array Oper}{fl:Bool}{oj V:Oper}{v:Value}{w':World}(D:aI B ι σ a w)(hk:HS σ ι oj w w')(f:LB C.P fl σ oj V True)(a':fl=true->∃τ:St,vR B τ.m τ.h w'/\H4 σ oj V τ True)(hy:Yd C.P ops w V v a):Yd C.P ops w' V v a\/AP C.P V=false:=by
 unfold LB at f;split at f
 .rename_i hm;exact .inr hm
 .left;rcases hy with⟨hw,A⟩|hy
  .left;refine⟨hw,?_⟩;split at f
   .rename_i T x I;split at f
    .exact f.elim
    .rename_i hT;have y:=D.ev x
     have W:∀(b t:Nat)(J:bm),a.eval x= .pointer (some ⟨b,t,none⟩)->J.length=C.P.cellsOf T->(∀j u,J[j]? =some u->w.cell? ⟨b,t+j,none⟩=some u)->(∀j u,J[j]? =some u->w'.cell? ⟨b,t+j,none⟩=some u)->
      (execOp a.eval V).run C.P w'= .ok (.value v) w':=by
      intro b t J M X hc a6;have Z:=An hT X hc;have h2:=An hT X a6
      have e1:(execOp a.eval V).run C.P w= .ok (.value (mkV C.P T J)) w:=by
       unfold execOp;simp only[I,M,Instr.loadAt,Instr.sureAddr,Sem.run_bind,Sem.run_pure,Result.andThen_ok,Z]
      have e2:(execOp a.eval V).run C.P w'= .ok (.value (mkV C.P T J)) w':=by
       unfold execOp;simp only[I,M,Instr.loadAt,Instr.sureAddr,Sem.run_bind,Sem.run_pure,Result.andThen_ok,h2]
      rw[e1]at A;simp only[Result.ok.injEq,Next.value.injEq,and_true]at A;rw[e2,A]
     split at f
     .rename_i k t M;rw[M]at y;split at f
      .rename_i p T' J q;split at f
       .rename_i ht a1;have a1:=Nat.le_of_ble_eq_true a1;obtain⟨b,vs,hι,hh,a7⟩:=vM D q;obtain⟨b',a0,a8⟩:=y;rw[hι]at a0;simp only[Value.pointer.injEq,Option.some.injEq,Addr.mk.injEq]at a0;obtain⟨rfl, -, -⟩:=a0;have a2:=hk.cells k p T' J b q ht hι;rw[hh]at a2;have a9:J.length=vs.toList.length:=a7.length;refine W b t ((vs.toList.drop t).take (C.P.cellsOf T)) a8 (by simp at a9⊢;omega) (λj u H=>?_) (λj u H=>?_)
        .rw[cell_of_heap hh];exact xZ H
        .rw[cell_of_heap a2];exact xZ H
       .exact f.elim
      .exact f.elim
     .rename_i b t d M hd;rw[M]at y;have y:a.eval x= .pointer (some ⟨b,t,none⟩):=y;split at f
      .rename_i J a3;split at f
       .rename_i l X;split at f
        .rename_i G;split at f
         .rename_i Y;have hc:=DA D.wrel f.1;refine W b t l y (Nat.eq_of_beq_eq_true G) hc (λj u H=>?_);have Z:=hc j u H;cases N:Au oj.op with
          |false=>
           rw[N,Bool.false_or]at Y;obtain⟨τ,b0,h2⟩:=a' Y;unfold H4 at h2;simp only[I,M,hd,a3,X,N]at h2;exact DA b0 h2.1 j u H
          |true=>
          have Y:=N;rw[<-Z];exact World.cell?_of_block (w:=w) (w':=w') (a:=⟨b,t+j,none⟩) (hk.ext Y b (World.block_lt_of_cell? w ⟨b,t+j,none⟩ Z))
         .refine W b t l y (Nat.eq_of_beq_eq_true G) (λj u H=>D.wrel.hsat _ _ _ (f.1.rd j u H)) (λj u H=>hk.imm _ _ _ (f.1.rd j u H))
        .exact f.elim
       .exact f.elim
      .exact f.elim
     .rename_i k i sz t d M hd;rw[M]at y;split at f
      .rename_i E' s U J q a3;split at f
       .rename_i l X hs r;have hs:=Nat.eq_of_beq_eq_true hs;subst hs;split at f
        .rename_i G;obtain⟨e,he,b1⟩:=f.1;obtain⟨O,Q⟩:=rF D q;obtain⟨b,n,c,hι,hp⟩:=y
         have z:∀b,blk (ι k)=some b->w'.heap[b]? =w.heap[b]? :=by
          intro b R;have S:=pA (D.own k _ q) R;unfold TA at r;rw[Bool.or_eq_true]at r;rcases r with r|r
          .exact hk.ext r b S
          .split at r
           .rename_i l X;refine hk.args l b X S (D.fresh k _ b q R).2.1 ?_;exact BO D q R r
           .cases r
         have F:w'.ownsRow 0 E' s (ι k) U.length U.flatten:=((D.own k _ q).world (λb R=>z b R)).2
         have rd:∀w1:World,w1.ownsRow 0 E' s (ι k) U.length U.flatten->∀j u,l[j]? =some u->w1.cell? ⟨b,i*s+t+j,none⟩=some u:=by
          intro w1 Z j u H;rw[<-b1]at H;have b2:=xZ H;have hf:=kU O.len he _ _ b2;have:=Z.cells (g:=b) (by rw[hι];rfl) _ _ hf;rw[Addr.add_none]at this;rw[<-this];congr 1;simp only[Addr.mk.injEq,and_true,true_and];omega
         exact W b (i*s+t) l hp (Nat.eq_of_beq_eq_true G) (rd w Q) (rd w' F)
        .exact f.elim
       .exact f.elim
      .exact f.elim
     .exact f.elim
   .rename_i src b5 x I;have y:=D.ev x;split at f
    .rename_i k d M hd;rw[M]at y;have y:a.eval x=ι k:=y;split at f
     .rename_i E' sz U s q hs;split at f
      .rename_i E a4 a5;split at f
       .rename_i hE;split at f
        .rename_i r;have b3:=f.1;obtain⟨O,Q⟩:=rF D q;have b4:U=aU s.data.toList:=b3
         have z:∀b,blk (ι k)=some b->w'.heap[b]? =w.heap[b]? :=by
          intro b R;have S:=pA (D.own k _ q) R;unfold TA at r;rw[Bool.or_eq_true]at r;rcases r with r|r
          .exact hk.ext r b S
          .split at r
           .rename_i l X;refine hk.args l b X S (D.fresh k _ b q R).2.1 ?_;exact BO D q R r
           .cases r
         have F:w'.ownsRow 0 E' sz (ι k) U.length U.flatten:=((D.own k _ q).world (λb R=>z b R)).2
         have go:∀w1:World,w1.ownsRow 0 E' sz (ι k) U.length U.flatten->(execOp a.eval V).run C.P w1= .ok (.value (.string ⟨s.data.toList.toArray⟩)) w1:=by
          intro w1 Z;subst b4;exact ES I a4 hE a5 y Z
         rw[go w Q]at A;rw[go w' F];simp only[Result.ok.injEq,Next.value.injEq,and_true]at A;rw[A]
        .exact f.elim
       .exact f.elim
      .exact f.elim
     .exact f.elim
    .exact f.elim
   .exact f.elim
  .exact .inr hy
theorem Sg{g:Nat->Prop}:∀{l:ck},a7X g l->∀j∈l,g j
 |[],_,j,b=>by cases b
 |[i],h,j,b=>by simp at b;subst b;exact h
 |i::k::r,h,j,b=>by
  rcases mem_cons.1 b with rfl|b
  .exact h.1
  .exact Sg h.2 j b
theorem EE{ops:Array Oper}:∀{l:ck}{i:Nat}{o:Oper},GL ops l=some (i,o)->i∈l/\ops[i]? =some o/\EA o.op=true
 |[],i,o,h=>by simp[GL]at h
 |k::r,i,o,h=>by
  simp only[GL]at h;split at h
  .rename_i ok b;split at h
   .rename_i e;simp only[Option.some.injEq,Prod.mk.injEq]at h;obtain⟨rfl,rfl⟩:=h;rw[jB,Array.getElem?_toList]at b;exact⟨mem_cons_self,b,e⟩
   .obtain⟨c,d⟩:=EE h;exact⟨mem_cons_of_mem _ c,d⟩
  .obtain⟨c,d⟩:=EE h;exact⟨mem_cons_of_mem _ c,d⟩
def tY(ops:Array Oper)(L:Array Bool):Nat:=((List.range ops.size).filter λi=> !L.getD i false).length
theorem HZ{ops:Array Oper}{L:Array Bool}{i:Nat}(g:L.size=ops.size)(h:i<ops.size)(k:L.getD i false=false):tY ops (L.setIfInBounds i true)+1=tY ops L:=by
 unfold tY
 have key:∀(l:ck),l.Nodup->(l.filter λj=> !(L.setIfInBounds i true).getD j false).length+(if i∈l then 1 else 0)=(l.filter λj=> !L.getD j false).length:=by
  intro l
  induction l with
  |nil=>intro _;simp
  |cons j r m=>
   intro d;have b:=nodup_cons.1 d;have:=m b.2;by_cases e:i=j
   .subst e;have f:(L.setIfInBounds i true).getD i false=true:=uD aC;have c:i∉r:=b.1;simp only[filter_cons,f,k,Bool.not_true,Bool.not_false,if_true,Bool.false_eq_true,if_false,length_cons,mem_cons_self];simp only[c,if_false]at this;omega
   .have f:(L.setIfInBounds i true).getD j false=L.getD j false:=getD_set_ne false e;have c:(i∈j::r)↔i∈r:=by simp[e]
    simp only[filter_cons,f];split
    .simp only[length_cons,c];omega
    .simp only[c];exact this
 have:=key (List.range ops.size) nodup_range;rw[if_pos (mem_range.2 h)]at this;exact this
theorem Lh{ops:Array Oper}{L:Array Bool}(d:Ssa ops)(j:L.size=ops.size)(h:Region.ready .any ops L=[]):∀i,i<ops.size->L.getD i false=true:=by
 intro i
 induction i using Nat.strongRecOn with
 |_ i l=>
  intro e;cases f:L.getD i false with
  |true=>rfl
  |false=>
   exfalso;have b:ops[i]? =some ops[i]:=Array.getElem?_eq_getElem e
   have:i∈Region.ready .any ops L:=by
    rw[vK];refine⟨?_,_,b,λk g=>l k (d.topo i _ k b g) (Nat.lt_trans (d.topo i _ k b g) e)⟩;have c:i<L.size:=by omega
    simp[Array.getD,c]at f⊢
    exact f
   rw[h]at this;cases this
theorem Dg{ops:Array Oper}{L:Array Bool}(h:∀i,i<ops.size->L.getD i false=true):Region.ready .any ops L=[]:=by
 cases b:Region.ready .any ops L with
 |nil=>rfl
 |cons i r=>
  exfalso;have:i∈Region.ready .any ops L:=by rw[b];exact mem_cons_self
  obtain⟨c,o,d,_⟩:=vK.1 this;have e:=(Array.getElem?_eq_some_iff.1 d).1;have:=h i e;rw[(Nd c).1]at this;cases this
theorem Si.eq_of_all{P:Program}{ops:Array Oper}{L Cl:Array Bool}{ar ac:Act}(h:Si P ops L Cl ar ac w)(b:∀i,i<ops.size->L.getD i false=true):ar=ac:=by
 have c:ar.tmps=ac.tmps:=by
  apply Array.ext_getElem?;intro t;refine h.agree t (λi o e _ f=>?_);have:=b i (Array.getElem?_eq_some_iff.1 e).1;rw[f]at this;cases this
 have d:=h.df;cases ar;cases ac;simp at c d;rw[c,d]
theorem aDQ{ops:Array Oper}{R:St->Prop}{n:Nat}{Cl:Array Bool}(h:CO C ops n Cl σ R)(b:Region.ready .any ops Cl=[]):R σ:=by
 cases n<;>simp only[CO,b]at h<;>exact h
theorem Wj{ops:Array Oper}{b:Array Bool}{σ:St}{d:Oper}{τ:St}{K:Prop}(h:JO C ops b σ d τ K):
 (YU C=true->∀(i:Nat)(c:Oper),ops.toList[i]? =some c->b.getD (0+i) false=true->EA c.op=true->waits d (0+i)=false->Ac ops σ c=false->H4 σ d c τ True)/\K:=by
 unfold JO at h;split at h
 .rename_i e;obtain⟨g,j⟩:=LA _ 0 h;exact⟨λ_=>j,g⟩
 .rename_i e;refine⟨λf=>?_,h⟩;rw[e]at f;cases f
theorem Sf(J:∀g S,assoc C.specs g=some S->Sound C.P g S){ops:Array Oper}(M:Ssa ops){Q:Exit->Act->World->Prop}{R:St->Prop}(hQ:∀ι σ a w,aI B ι σ a w->R σ->Q .normal a w)
 (b3:∀c a w,¬Q (.panic c) a w):
 ∀(n:Nat)(b:Nat)(Cl:Array Bool)(ι:cg)(σ:St)(ac:Act)(w:World),aI B ι σ ac w->CO C ops n Cl σ R->∀(L:Array Bool)(ar:Act),Si C.P ops L Cl ar ac w->tY ops L=b->
  wpAny C.P .any ops Q b L ar w:=by
 have fin:∀(n:Nat)(Cl:Array Bool)(ι:cg)(σ:St)(ac:Act)(w:World),aI B ι σ ac w->CO C ops n Cl σ R->∀(L:Array Bool)(ar:Act),Si C.P ops L Cl ar ac w->Region.ready .any ops L=[]->Q .normal ar w:=by
  intro n Cl ι σ ac w m h L ar f Y;have q:=Lh M f.szL Y;rw[f.eq_of_all q];exact hQ ι σ ac w m (aDQ h (Dg (λi r=>f.sub i (q i r))))
 have zero:∀(n:Nat)(Cl:Array Bool)(ι:cg)(σ:St)(ac:Act)(w:World),aI B ι σ ac w->CO C ops n Cl σ R->∀(L:Array Bool)(ar:Act),Si C.P ops L Cl ar ac w->tY ops L=0->wpAny C.P .any ops Q 0 L ar w:=by
  intro n Cl ι σ ac w m h L ar f N
  have q:∀i,i<ops.size->L.getD i false=true:=by
   intro i r;unfold tY at N;have a6:=eq_nil_of_length_eq_zero N;cases hL:L.getD i false with
   |true=>rfl
   |false=>
    have:i∈(List.range ops.size).filter λi=> !L.getD i false:=mem_filter.2 ⟨mem_range.2 r,by simp[hL]⟩;rw[a6]at this;cases this
  have Y:=Dg q;exact⟨Y,fin n Cl ι σ ac w m h L ar f Y⟩
 have z:∀(n b:Nat),(∀(Cl:Array Bool)(ι:cg)(σ:St)(ac:Act)(w:World),aI B ι σ ac w->CO C ops n Cl σ R->∀(L:Array Bool)(ar:Act),Si C.P ops L Cl ar ac w->tY ops L=b->wpAny C.P .any ops Q b L ar w)->
  ∀(Cl:Array Bool)(ι:cg)(σ:St)(ac:Act)(w:World),aI B ι σ ac w->CO C ops n Cl σ R->∀(L:Array Bool)(ar:Act),Si C.P ops L Cl ar ac w->tY ops L=b+1->
   ∀i∈Region.ready .any ops L,Cl.getD i false=true->wpOp C.P ops Q i (wpAny C.P .any ops Q b (L.setIfInBounds i true)) ar w:=by
  intro n b ih Cl ι σ ac w m h L ar f N i r y;obtain⟨O,o,p,T⟩:=vK.1 r;obtain⟨hL,b4⟩:=Nd O;obtain⟨v,hv,b5,b6⟩:=f.pend i o p y hL
  have hy:Yd C.P ops w o v ar:=by
   rcases M.look i o p with U|b7
   .obtain⟨he,a0⟩:=HJ (M.sel i o · · p) (f.looks U T);exact(hv U w (.inr rfl)).congr he a0
   .exact b5 b7 w
  have A:wpAny C.P .any ops Q b (L.setIfInBounds i true) (ar.put o.dst v) w:=
   ih Cl ι σ ac w m h _ _ (f.stepA M p y T b6) (by have:=HZ f.szL (by have:=f.szL;omega) hL;omega)
  unfold wpOp;simp only[p];rcases hy with⟨l,D⟩|⟨l,rfl⟩
  .rw[if_pos l];left;unfold Oper.wp;rw[D,Oper.upon_value];exact A
  .rw[if_neg (by simp[l])];exact A
 intro n
 induction n with
 |zero=>
  intro b
  induction b with
  |zero=>exact zero 0
  |succ b a1=>
   intro Cl ι σ ac w m h L ar f N;refine⟨fin 0 Cl ι σ ac w m h L ar f,λi r=>?_⟩;cases y:Cl.getD i false with
   |true=>exact z 0 b a1 Cl ι σ ac w m h L ar f N i r y
   |false=>
    exfalso;obtain⟨O,o,p,T⟩:=vK.1 r
    have s:i∈Region.ready .any ops Cl:=by
     rw[vK];refine⟨?_,o,p,λk hk=>f.sub k (T k hk)⟩;have:i<Cl.size:=by rw[f.szC];exact(Array.getElem?_eq_some_iff.1 p).1
     simp[Array.getD,this]at y⊢
     exact y
    simp only[CO]at h;split at h
    .rename_i Y;rw[Y]at s;cases s
    .exact h
 |succ n a2=>
  intro b
  induction b with
  |zero=>exact zero (n+1)
  |succ b a1=>
   intro Cl ι σ ac w m h L ar f N;refine⟨fin (n+1) Cl ι σ ac w m h L ar f,λi r=>?_⟩;cases y:Cl.getD i false with
   |true=>exact z (n+1) b a1 Cl ι σ ac w m h L ar f N i r y
   |false=>
    obtain⟨O,o,p,T⟩:=vK.1 r;obtain⟨b8,b4⟩:=Nd O
    have s:i∈Region.ready .any ops Cl:=by
     rw[vK];refine⟨?_,o,p,λk hk=>f.sub k (T k hk)⟩;have:i<Cl.size:=by rw[f.szC];exact(Array.getElem?_eq_some_iff.1 p).1
     simp[Array.getD,this]at y⊢
     exact y
    simp only[CO]at h;split at h
    .rename_i Y;rw[Y]at s;cases s
    .split at h
     ·
      rename_i k ok b9;obtain⟨c',a3,E⟩:=EE b9;obtain⟨a7,c4,Z,a8⟩:=vK.1 c';rw[a3]at Z;cases Z;obtain⟨a9,c3⟩:=Nd a7;obtain⟨σ1,a4,c5,hc⟩:=CL m h;rcases hc with⟨l,h⟩|⟨l,h⟩
      .obtain⟨v,x,D,hx,hK⟩:=aJQ a4 E h;have F:=f.take M a3 a9 a8 E (v:=v) (λb' b0=>.inl ⟨l,D b' b0⟩);exact(a2 (b+1) _ ι _ _ w (a4.put ok.dst hx) hK L ar F N).2 i r
      .have F:=f.take M a3 a9 a8 E (v:=undef) (λb' _=>.inr ⟨l,rfl⟩);exact(a2 (b+1) _ ι _ _ w (a4.put ok.dst (x:=.at (.val undef)) rfl) h L ar F N).2 i r
     ·
      have hg:=Sg h i s;split at hg
      .rename_i o' b1;rw[jB,Array.getElem?_toList,p]at b1;cases b1;obtain⟨hg,a5⟩:=Nw _ 0 hg;obtain⟨he,a0⟩:=HJ (M.sel i o · · p) ((M.look i o p).elim (f.looks · T) (f.looks' · y));have G:=U0 J m hg (λa' H=>∃ι' t,aI B ι' t a' H/\JO C ops Cl σ o t (CO C ops n (Cl.setIfInBounds i true) t R)/\HS σ ι o w H) Q (λι' t a' H h1 h2 h3=>⟨ι',t,h1,h2,h3⟩)
       have hB:∀(u:Value)(H:World),(∃ι' t,aI B ι' t (ac.put o.dst u) H/\JO C ops Cl σ o t (CO C ops n (Cl.setIfInBounds i true) t R)/\HS σ ι o w H)->
        wpAny C.P .any ops Q b (L.setIfInBounds i true) (ar.put o.dst u) H:=by
        rintro u H ⟨ι',t,V,h',c0⟩;obtain⟨c1,h'⟩:=Wj h';refine a2 b _ ι' t _ H V h' _ _ (f.stepB M p y T u H ?_) (by have:=HZ f.szL (by have:=f.szL;omega) b8;omega);intro j oj v hj W X hy;cases I:Ac ops σ oj with
        |true=>
         have:=Te m I;rcases hy with⟨h1,_⟩|h1
         .rw[this]at h1;cases h1
         .exact .inl (.inr h1)
        |false=>
         have b2:waits o j=false:=by
          cases c2:waits o j with
          |false=>rfl
          |true=>rw[T j c2]at X;cases X
         have U:=a5 j oj (by rw[Array.getElem?_toList];exact hj) (bj W) (f.rd j oj hj W X) (bj b2) I;exact bkZ m c0 U (λe=>⟨t,V.wrel,c1 e j oj (by rw[Array.getElem?_toList];exact hj) (bj W) (f.rd j oj hj W X) (bj b2) I⟩) hy
       unfold GWp at G;unfold wpOp;simp only[p];rw[a0];split
       .rename_i l;rw[if_pos l]at G;left;refine T1 he G hB ?_ b3;rintro d H ⟨ι',t,V,_⟩;have:=V.defers;rw[<-m.defers]at this;cases hd:o.dst<;>simp[Act.put,hd]at this
       .rename_i l;rw[if_neg l]at G;exact hB undef w G
      .exact hg.elim
end
end Go.Vc
namespace Go.Vc
open Go List
section
variable{B:qJ}{C:Ctx}{ι:cg}{σ:St}{a:Act}{w:World}
theorem Ab:∀{xs e:dd}{vs:bm}{K:Prop},CH xs e K->DenS ι xs vs->DenS ι e vs/\K
 |[],[],vs,K,h,b=>⟨b,h⟩
 |x::xs,y::e,[],K,_,b=>b.elim
 |x::xs,y::e,v::vs,K,h,b=>by
  unfold CH at h;split at h
  .rename_i c d;cases c
  .rename_i i f g c d;simp only[List.cons.injEq]at c d;obtain⟨rfl,rfl⟩:=c;obtain⟨rfl,rfl⟩:=d;have:=Ab h b.2;exact⟨⟨trivial,this.1⟩,this.2⟩
  .rename_i i f j g _ c d;simp only[List.cons.injEq]at c d;obtain⟨rfl,rfl⟩:=c;obtain⟨rfl,rfl⟩:=d;obtain⟨rfl,h⟩:=h;have:=Ab h b.2;exact⟨⟨b.1,this.1⟩,this.2⟩
  .exact h.elim
 |[],_::_,_,K,h,_=>by simp[CH]at h
 |_::_,[],_,K,h,_=>by simp[CH]at h
theorem xC:∀{xs c:db}{K:Prop},xD xs c K->(∀k o,nth c k=some (some o)->nth xs k=some (some o))/\K
 |[],[],K,h=>⟨λk o b=>by simp[nth]at b,h⟩
 |x::xs,none::c,K,h=>by
  simp only[xD]at h;obtain⟨d,e⟩:=xC h;refine⟨λk o b=>?_,e⟩;cases k with
  |zero=>simp[nth]at b
  |succ k=>exact d k o b
 |x::xs,some y::c,K,h=>by
  simp only[xD]at h;obtain⟨rfl,h⟩:=h;obtain⟨d,e⟩:=xC h;refine⟨λk o b=>?_,e⟩;cases k with
  |zero=>exact b
  |succ k=>exact d k o b
 |[],_::_,K,h=>by simp[xD]at h
 |_::_,[],K,h=>by simp[xD]at h
theorem aI.setSlot(b:aI B ι σ a w){i:Nat}{x:SV}{v:Value}(d:a.tmps[i]? =some v)(hx:Den ι x v):aI B ι (σ.put (some i) x) a w:=by
 refine⟨?_,b.defers,b.own,b.dist,b.fresh,b.wrel,b.one⟩;have:=b.slots.set i hx;show DenS ι (σ.sl.set i x) a.tmps.toList
 have e:a.tmps.toList.set i v=a.tmps.toList:=by
  apply ext_getElem?;intro j;rw[getElem?_set];split
  .rename_i f;subst f;rw[Array.getElem?_toList,d];split
   .rfl
   .rename_i c;simp at c;rw[Array.getElem?_eq_none c]at d;cases d
  .rfl
 rw[e]at this;exact this
theorem aI.nilList(c:aI B ι σ a w)(k E sz:Nat):aI B (upd ι k (.slice none 0 0)) ((σ.kill k).setOwn k (some (.lst E sz []))) a w:=by
 refine c.place k _ _ (Dq.refl _ _) ⟨Hq sz,World.ownsRow_nil w 0 E sz⟩ rfl (λb d=>by simp[blk]at d)
theorem tI(τ:St):∀(c:dd)(i:Nat)(ι:cg)(σ:St),aI B ι σ a w->∃g,aI B g (Tw τ c i σ) a w
 |[],i,ι,σ,b=>⟨ι,b⟩
 |y::c,i,ι,σ,b=>by
  simp only[Tw];split
  .rename_i k;split
   .rename_i f;split
    .rename_i E h j l m
     have d:a.tmps[i]? =some (.slice none 0 0):=by
      rw[jB]at f;obtain⟨v,d,e⟩:=b.slots.get i _ f;rw[Array.getElem?_toList]at d;have e:v= .slice none 0 0:=e;rw[d,e]
     exact tI τ c (i+1) _ _ ((b.nilList k E h).setSlot d (x:=.at (.lst k)) (by show _=_;simp))
    .exact tI τ c (i+1) ι σ b
   .exact tI τ c (i+1) ι σ b
  .exact tI τ c (i+1) ι σ b
theorem mW(τ:St)(q:Nat):∀(f:cr)(j:Nat)(ι:cg)(σ:St),aI B ι σ a w->∃I,aI B I (G2 τ q f j σ) a w
 |[],j,ι,σ,d=>⟨ι,d⟩
 |y::f,j,ι,σ,d=>by
  simp only[G2];split
  .rename_i k;split
   .rename_i p T J n;split
    .rename_i H;split
     .rename_i E u S U M;have i:q≠k:=λe=>by subst e;rw[M]at n;cases n
      have z:=d.nilList k E u
      have c:nth ((σ.kill k).setOwn k (some (.lst E u []))).own q=some (some (.cellsP p T (J.map (At.sub k (λ_=>.junk))))):=by
       simp only[M9,St.setOwn,St.sub,yV,AW,i,false_and,if_false,n];rfl
      obtain⟨b,r,l,s,N⟩:=vM z c
      have g:r.toList[j]? =some (.slice none 0 0):=by
       obtain⟨V,O,A,D,F⟩:=vM d n;rw[jB]at H;obtain⟨v,Q,h⟩:=F.get j _ H;have h:v= .slice none 0 0:=h;rw[oI _ _ i,A]at l;simp only[Value.pointer.injEq,Option.some.injEq,Addr.mk.injEq]at l;obtain⟨rfl, -, -⟩:=l;rw[D]at s;simp only[Option.some.injEq,Obj.cells.injEq]at s;rw[<-s.1,Q,h]
      have m:r.toList.set j (.slice none 0 0)=r.toList:=by
       apply ext_getElem?;intro t;rw[getElem?_set];split
       .rename_i e;subst e;rw[g];split
        .rfl
        .rename_i G;rw[getElem?_eq_none (Nat.le_of_not_lt G)]at g;cases g
       .rfl
      have R:aI B (upd ι k (.slice none 0 0)) (Hn ((σ.kill k).setOwn k (some (.lst E u []))) q j (.lst k)) a w:=by
       unfold Hn;rw[c];refine z.rewrite c (Dq.refl _ _) ⟨b,r,l,s,?_,λW e=>by subst e;have:=Zm z c;rw[l]at this;simpa using this⟩;have:=N.set j (x:=.lst k) (v:=.slice none 0 0) (by show _=_;simp)
       rwa [m]at this
      exact mW τ q f (j+1) _ _ R
     .exact mW τ q f (j+1) ι σ d
    .exact mW τ q f (j+1) ι σ d
   .exact mW τ q f (j+1) ι σ d
  .exact mW τ q f (j+1) ι σ d
theorem Ag(τ:St):∀(b:db)(q:Nat)(ι:cg)(σ:St),aI B ι σ a w->∃d,aI B d (Nh τ b q σ) a w
 |[],q,ι,σ,c=>⟨ι,c⟩
 |y::b,q,ι,σ,c=>by
  simp only[Nh];split
  .rename_i T f;obtain⟨d,e⟩:=mW τ q f 0 ι σ c;exact Ag τ b (q+1) d _ e
  .exact Ag τ b (q+1) ι σ c
theorem kT{τ:St}{K:Prop}(s:aI B ι σ a w)(h:xB σ τ K):∃t,aI B t τ a w/\K:=by
 obtain⟨u,f⟩:=tI τ τ.sl 0 ι σ s;obtain⟨m,c⟩:=Ag τ τ.own 0 u _ f;have c:aI B m (conv σ τ) a w:=c;unfold xB at h;obtain⟨g,h⟩:=Ab h c.slots;obtain⟨d,n,p,v⟩:=xC h;refine⟨m,⟨g,c.defers,λk o e=>c.own k o (d k o e),λk q o r b e i j l=>c.dist k q o r b (d k o e) (d q r i) j l,?_,?_,c.one⟩,v⟩
 .intro k o b e j;rw[<-n, <-p];exact c.fresh k o b (d k o e) j
 .rw[<-n, <-p];exact c.wrel
theorem aI.froze(l:aI B ι σ a w){m2:MH}{g:PH}(f:FV σ.m σ.h m2 g):aI B ι {σ with m:=m2,h:=g} a w:=by
 have d:=l.wrel;refine⟨l.slots,l.defers,l.own,l.dist,λk o b y z=>?_,?_,l.one⟩
 .obtain⟨A,p,D⟩:=l.fresh k o b y z;refine⟨A,?_,λi=>?_⟩
  .show m2 b=none;cases j:m2 b with
   |none=>rfl
   |some o=>rw[f.sub b o j]at p;cases p
  .show g b i=none;cases j:g b i with
   |none=>rfl
   |some v=>
    rcases f.new b i v j with c|⟨q,E,r,c,_,_⟩
    .rw[D i]at c;cases c
    .rw[p]at c;cases c
 .refine⟨d.tape,d.os,d.output,d.drawn,d.size,d.frame,λb o v e=>?_,λb o e=>d.msat b o (f.sub b o e),λb o e i=>?_,λb o v e=>f.le.le b o v (d.hle b o v e),λb F n=>?_,λb o e=>d.mfr b o (f.sub b o e)⟩
  .rcases f.new b o v e with c|⟨q,E,r,c,s,_⟩
   .exact d.hsat b o v c
   .rw[cell_of_heap (d.msat b _ c),Array.getElem?_toList];exact s
  .show g b i=none;have e:m2 b=some o:=e;cases j:g b i with
   |none=>rfl
   |some v=>
    rcases f.new b i v j with c|⟨q,E,r,c,s,t⟩
    .rw[d.disj b o (f.sub b o e) i]at c;cases c
    .rw[t]at e;cases e
  .funext i;have e:=congrFun (d.hold b F n) i;show g b i=B.h0 b i;cases j:B.h0 b i with
   |some v=>exact f.le.le b i v (d.hle b i v j)
   |none=>
    cases G:g b i with
    |none=>rfl
    |some v=>
     rcases f.new b i v G with c|⟨q,E,r,c,s,t⟩
     .rw[e,j]at c;cases c
     .rcases d.mfr b _ c with u|u
      .omega
      .exact(n u).elim
theorem Jf{τ:St}{K:Prop}(r:aI B ι σ a w)(h:S8 σ τ K):∃s,aI B s τ a w/\K:=by
 obtain⟨t,g⟩:=tI τ τ.sl 0 ι σ r;obtain⟨n,c⟩:=Ag τ τ.own 0 t _ g;have c:aI B n (conv σ τ) a w:=c;unfold S8 at h;obtain⟨i,h⟩:=Ab h c.slots;obtain⟨d,u,v⟩:=xC h;have e:=c.froze u;exact⟨n,⟨i,c.defers,λk o f=>c.own k o (d k o f),λk p o q b f j l m=>c.dist k p o q b (d k o f) (d p q j) l m,λk o b f l=>e.fresh k o b (d k o f) l,e.wrel,c.one⟩,v⟩
theorem Aq{c:tL}{R:c.A->Prop}(d:aI B ι σ a w)(h:Ic c R σ):∃x i,R x/\aI B i (c.st x) a w:=by
 unfold Ic at h;split at h
 .obtain⟨x,e,f⟩:=h;obtain⟨g,b,_⟩:=kT d f;exact⟨x,g,e,b⟩
 .obtain⟨x,e,f⟩:=h ⟨d.wrel.disj⟩;obtain⟨g,b,_⟩:=Jf d f;exact⟨x,g,e,b⟩
theorem Me{c:tL}{I S:c.A->Prop}(d:aI B ι σ a w)(h:TC c I S σ):∃x j,I x/\S x/\aI B j (c.st x) a w:=by
 unfold TC at h;split at h
 .obtain⟨x,e,f,g⟩:=h;obtain⟨i,b,_⟩:=kT d g;exact⟨x,i,e,f,b⟩
 .obtain⟨x,e,f,g⟩:=h ⟨d.wrel.disj⟩;obtain⟨i,b,_⟩:=Jf d g;exact⟨x,i,e,f,b⟩
def QD(B:qJ)(Q:Az->St->Prop):Exit->Act->World->Prop
 |.normal,a,w=>∃ι σ,aI B ι σ a w/\Q .normal σ
 |.exit id,a,w=>∃ι σ,aI B ι σ a w/\Q (.exit id) σ
 |.ret,a,w=>∃ι σ,aI B ι σ a w/\Q .ret σ
 |_,_,_=>False
theorem J6(b:∀g S,assoc C.specs g=some S->Sound C.P g S){ops:Array Oper}{Q:Az->St->Prop}:
 ∀(c:da)(l:List Oper)(s:Nat)(ι:cg)(σ:St)(a:Act)(w:World),(∀j,l[j]? =ops.toList[s+j]?)->aI B ι σ a w->Zh C ops c l σ (Q .normal)->wpOpsIn Fence.wide 0 C.P ops (QD B Q) (range' s l.length) a w
 |[],l,s,ι,σ,a,w,d,e,h=>by
  have:=Ho b (ops:=ops) (Q:=QD B Q) (R:=Q .normal) (rest:=[]) (λι σ a w e h=>⟨ι,σ,e,h⟩) l s ι σ a w (λj _=>d j) e h;simpa using this
 |(n,f)::c,l,s,ι,σ,a,w,d,e,h=>by
  obtain⟨I,r,t⟩:=h
  have:=Ho b (ops:=ops) (Q:=QD B Q) (R:=λτ=>∃x,I x/\xB τ (f.st x) True) (rest:=range' (s+(l.take n).length) (l.drop n).length) (λD E u v i k=>by
   obtain⟨x,k,y⟩:=k;obtain⟨z,m,_⟩:=kT i y;refine J6 b c (l.drop n) (s+(l.take n).length) z _ u v (λj=>?_) m (t x k);rw[getElem?_drop,d];by_cases F:n<=l.length
   .congr 1;simp;omega
   .have p:l[n+j]? =none:=getElem?_eq_none aC;have q:l[l.length+j]? =none:=getElem?_eq_none aC;rw[d]at p q;rw[p,show s+(List.take n l).length+j=s+(l.length+j)by simp;omega,q]) (l.take n) s ι σ a w (λj A=>by
    rw[<-d,getElem?_take];rw[if_pos (by simp at A;omega)]) e r
  rwa [range'_append_1, <-length_append,take_append_drop]at this
theorem HW(r:∀g S,assoc C.specs g=some S->Sound C.P g S):∀(c:Code)(σ:St)(Q:Az->St->Prop)(ι:cg)(a:Act)(w:World),aI B ι σ a w->VC C c σ Q->c.wp C.P (QD B Q) a w:=by
 intro c
 induction c with
 |skip=>intro σ Q ι a w d h;exact wp_skip ⟨ι,σ,d,h⟩
 |label l=>intro σ Q ι a w d h;exact wp_label ⟨ι,σ,d,h⟩
 |exit id=>intro σ Q ι a w d h;exact wp_exit ⟨ι,σ,d,h⟩
 |ret=>intro σ Q ι a w d h;exact wp_ret ⟨ι,σ,d,h⟩
 |goto l=>intro σ Q ι a w d h;exact h.elim
 |refuse a3=>intro σ Q ι a w d h;exact h.elim
 |scope a2 W=>intro σ Q ι a w d h;exact h.elim
 |rangeFunc f ps x y s u=>intro σ Q ι a w d h;exact h.elim
 |region id ops X=>
  intro σ Q ι a w d h;cases X with
  |false=>
   refine(wpIn_wide (n:=0)).1 (wpIn_region ?_);have:=J6 r (ops:=ops) (Q:=Q) (J5 C id) ops.toList 0 ι σ a w (λj=>bg) d h;rw[range_eq_range'];simpa using this
  |true=>
   simp only[VC]at h;split at h
   .rename_i h1 h2 h3;have hs:=aGZ h1 h2;refine wp_region_any h3 ?_;refine Sf r hs (Q:=QD B Q) (R:=Q .normal) (λι σ a w d h=>⟨ι,σ,d,h⟩) (λc a w h=>h) ops.size ops.size _ ι σ a _ (d.drew (w.drawn+1) (Nat.le_succ _)) h _ a ?_ ?_
    .have F:∀i,(Array.replicate ops.size false).getD i false=true->False:=by
      intro i v;by_cases p:i<ops.size
      .simp[Array.getD,p]at v
      .simp[Array.getD,p]at v
     exact⟨bg,bg,λi v=>v,λi o _ v=>(F i v).elim,λi o _ v=>(F i v).elim,λi o _ v=>(F i v).elim,rfl,rfl,λt _=>rfl,λi o _ v=>(F i v).elim⟩
    .unfold tY;rw[filter_eq_self.2]
     .simp
     .intro i v;by_cases p:i<ops.size<;>simp[Array.getD,p]
   .exact h.elim
 |seq x y s u=>
  intro σ Q ι a w d h;simp only[VC]at h;split at h
  .obtain⟨h,m⟩:=h;refine wp_seq (wp_mono (s σ _ ι a w d h) ?_);intro e z A b;cases e with
   |normal=>
    obtain⟨E,U,k,x,G,H⟩:=b;show y.wp C.P (QD B Q) z A;obtain⟨J,q,_⟩:=kT k H;exact u _ Q J z A q (m x G)
   |exit id=>exact b
   |ret=>exact b
   |goto l=>exact b
   |panic Y=>exact b
   |outgrown=>exact b
  .split at h
   .obtain⟨I,h,m⟩:=h;refine wp_seq (wp_mono (s σ _ ι a w d h) ?_);intro e z A b;cases e with
    |normal=>
     obtain⟨E,U,k,H⟩:=b;show y.wp C.P (QD B Q) z A;obtain⟨x,J,G,q⟩:=Aq k H;exact u _ Q J z A q (m x G)
    |exit id=>exact b
    |ret=>exact b
    |goto l=>exact b
    |panic Y=>exact b
    |outgrown=>exact b
   .refine wp_seq (wp_mono (s σ _ ι a w d h) ?_);intro e z A b;cases e with
    |normal=>
     obtain⟨E,U,k,V⟩:=b;show y.wp C.P (QD B Q) z A;exact u U Q E z A k V
    |exit id=>exact b
    |ret=>exact b
    |goto l=>exact b
    |panic Y=>exact b
    |outgrown=>exact b
 |cond c x y s u=>
  intro σ Q ι a w d h;simp only[VC]at h;split at h
  .rename_i t Z;have D:=d.ev c;rw[Z]at D;have D:a.eval c= .bool t:=D;rcases sG h with⟨rfl,h⟩|⟨rfl,h⟩
   .exact wp_cond_true D (s _ Q ι a w (d.setTmp Z) h)
   .exact wp_cond_false D (u _ Q ι a w (d.setTmp Z) h)
  .exact h.elim
 |block id c W=>
  intro σ Q ι a w d h;refine wp_block (wp_mono (W σ _ ι a w d h) ?_);intro e z A b;cases e with
  |normal=>exact b
  |exit i=>
   obtain⟨E,U,k,V⟩:=b;show if i=id then _ else _
   simp only at V;split at V
   .rename_i hb;rw[if_pos (Nat.eq_of_beq_eq_true hb)];exact⟨E,U,k,V⟩
   .rename_i hb;rw[if_neg (λe=>by subst e;simp at hb)];exact⟨E,U,k,V⟩
  |ret=>exact b
  |goto l=>exact b
  |panic Y=>exact b
  |outgrown=>exact b
 |loop c W=>
  intro σ Q ι a w d h;simp only[VC]at h;split at h
  .rename_i l hl;obtain⟨⟨x,G,H⟩,m⟩:=h;obtain⟨J,q,_⟩:=kT d H;refine wp_loop_ghost (λn a w=>∃x ι,l.inv x/\l.mu x=n/\aI B ι (l.st x) a w) (l.mu x) ⟨x,J,G,rfl,q⟩ ?_;rintro n z A ⟨x',E,M,rfl,k⟩;refine wp_mono (W _ _ E z A k (m x' M)) ?_;intro e a0 a1 b;cases e with
   |normal=>
    obtain⟨ι3,σ3,N,y,hy,p,O⟩:=b;obtain⟨ι4,T,_⟩:=kT N O;exact⟨l.mu y,p,y,ι4,hy,rfl,T⟩
   |exit id=>exact b
   |ret=>exact b
   |goto l=>exact b
   |panic Y=>exact b
   |outgrown=>exact b
  .split at h
   .rename_i l hl;obtain⟨I,mu,H,m⟩:=h;obtain⟨x,J,G,q⟩:=Aq d H;refine wp_loop_ghost (λn a w=>∃x ι,I x/\mu x=n/\aI B ι (l.st x) a w) (mu x) ⟨x,J,G,rfl,q⟩ ?_;rintro n z A ⟨x',E,M,rfl,k⟩;refine wp_mono (W _ _ E z A k (m x' M)) ?_;intro e a0 a1 b;cases e with
    |normal=>
     obtain⟨ι3,σ3,N,O⟩:=b;obtain⟨y,ι4,hy,p,T⟩:=Me N O;exact⟨mu y,p,y,ι4,hy,rfl,T⟩
    |exit id=>exact b
    |ret=>exact b
    |goto l=>exact b
    |panic Y=>exact b
    |outgrown=>exact b
   .exact h.elim
end
end Go.Vc
namespace Go.Vc
open Go List
section
variable{B:qJ}{C:Ctx}{ι:cg}{σ:St}{a:Act}{w:World}
def Kx(tmps:Array Value):ResultVar->Sem Value
 |.tmp t=>pure (tmps.getD t undef)
 |.cell a t=>do loadVar t (<-asAddr (tmps.getD a undef))
theorem NM(fn:Func)(tmps:Array Value):results fn tmps=(do let vs <-fn.results.mapM (Kx tmps);pure (if h:vs.size=1 then vs[0]else .tuple vs)):=by
 unfold results;congr 1
theorem Uq(f:aI B ι σ a w){r:ResultVar}{x:SV}(h:Zk C σ r=some x):∃v,(Kx a.tmps r).run C.P w= .ok v w/\Den ι x v:=by
 cases r with
 |tmp t=>
  simp only[Zk,Option.some.injEq]at h;subst h;exact⟨_,rfl,f.ev (.tmp t)⟩
 |cell m T=>
  have d:=f.ev (.tmp m);simp only[Zk]at h;split at h
  .rename_i k off s;rw[s]at d;split at h
   .rename_i p T' cs u;split at h
    .rename_i e y;have e:=Nat.le_of_ble_eq_true e;simp only[Option.some.injEq]at h;subst h;obtain⟨b,n,z,A,q⟩:=vM f u;obtain⟨G,c,D⟩:=d;rw[z]at c;simp only[Value.pointer.injEq,Option.some.injEq,Addr.mk.injEq]at c;obtain⟨rfl, -, -⟩:=c;have g:=(q.drop off).take (C.P.cellsOf T);have i:cs.length=n.toList.length:=q.length;have E:=An (w:=w) (b:=b) (off:=off) (cs:=(n.toList.drop off).take (C.P.cellsOf T)) y (by simp at i⊢;omega) (λj v F=>by rw[cell_of_heap A];exact xZ F);refine⟨_,?_,HM g⟩;have l:a.tmps.getD m undef= .pointer (some ⟨b,off,none⟩):=D;simp only[Kx,l,asAddr,Sem.run_bind,Sem.run_pure,Result.andThen_ok,E]
    .cases h
   .cases h
  .cases h
theorem Ib(f:aI B ι σ a w):∀(l:List ResultVar)(xs:dd),Hr C σ l=some xs->∃vs,(l.mapM (Kx a.tmps)).run C.P w= .ok vs w/\DenS ι xs vs
 |[],xs,h=>by
  simp[Hr]at h;subst h;exact⟨[],bg,trivial⟩
 |r::l,xs,h=>by
  simp only[Hr]at h;split at h
  .rename_i x b g c;simp only[Option.some.injEq]at h;subst h;obtain⟨v,i,j⟩:=Uq f g;obtain⟨vs,d,e⟩:=Ib f l b c;exact⟨v::vs,by simp[mapM_cons,i,d],j,e⟩
  .cases h
theorem xJ(y:aI B ι σ a w){mv:Bool}:∀(xs:dd)(ts:dg)(rs:cq)(vs:bm),Dp C.P σ mv xs ts=some rs->DenS ι xs vs->
 rs.length=vs.length/\(mv=false->rs=vs.map .val)/\∀(i:Nat)(r:CV)(v:Value),rs[i]? =some r->vs[i]? =some v->Du w r v/\∀b,gE r v=some b->∃k m,nth σ.own k=some (some m)/\blk (ι k)=some b
 |[],ts,rs,[],h,_=>by
  simp[Dp]at h;subst h;exact⟨rfl,λ_=>rfl,λi r v c=>by simp at c⟩
 |[],_,_,_::_,_,d=>d.elim
 |x::xs,_,_,[],_,d=>d.elim
 |x::xs,ts,rs,v::vs,h,d=>by
  simp only[Dp]at h;split at h
  .cases h
  .rename_i l F;obtain⟨p,q,s⟩:=xJ y xs ts.tail l vs F d.2
   have fin:∀(n:CV),rs=n::l->(mv=false->n= .val v)->Du w n v->(∀b,gE n v=some b->∃k m,nth σ.own k=some (some m)/\blk (ι k)=some b)->
    rs.length=(v::vs).length/\(mv=false->rs=(v::vs).map .val)/\∀(i:Nat)(r:CV)(u:Value),rs[i]? =some r->(v::vs)[i]? =some u->Du w r u/\∀b,gE r u=some b->∃k m,nth σ.own k=some (some m)/\blk (ι k)=some b:=by
    intro n t G H I;subst t;refine⟨by simp[p],λA=>by rw[G A,q A];rfl,λi r u c g=>?_⟩;cases i with
    |zero=>simp at c g;subst c g;exact⟨H,I⟩
    |succ i=>simp only[getElem?_cons_succ]at c g;exact s i r u c g
   split at h
   .split at h
    .rename_i k;have f:v=ι k:=d.1;split at h
     .rename_i E M N D;simp only[Option.some.injEq]at h;obtain⟨c,J⟩:=rF y D;exact fin _ h.symm (λe=>by cases e) ⟨c,by rw[f];exact J⟩ (λb j=>⟨k,_,D,by rw[<-f];exact j⟩)
     .cases h
    .have f:v= .slice none 0 0:=d.1;split at h
     .rename_i E z O;simp only[Option.some.injEq]at h;refine fin _ h.symm (λe=>by cases e) ⟨Hq _,by rw[f];exact World.ownsRow_nil w 0 E _⟩ (λb j=>?_);rw[f]at j;simp[gE,blk]at j
     .cases h
    .cases h
   .split at h
    .rename_i u g;simp only[Option.some.injEq]at h;have f:=(d.1).val? g;exact fin _ h.symm (λ_=>by rw[f]) f (λb j=>by simp[gE]at j)
    .cases h
theorem F0(N:aI B ι σ a w){fn:Func}{K:bo}(h:Df C fn K σ):
 ∃u,(results fn a.tmps).run C.P w= .ok u w/\∃r m' y,K r m' y/\Du w r u/\vR B m' y w/\∀b,gE r u=some b->(B.w0.heap.size<=b\/B.E b)/\m' b=none/\∀i,y b i=none:=by
 unfold Df at h;split at h
 .exact h.elim
 .rename_i V O;obtain⟨W,q,h,_⟩:=nH _ _ N h;obtain⟨τ,d,h,_⟩:=yK _ _ q h;split at h
  .exact h.elim
  .rename_i Q z;obtain⟨f,A,l⟩:=Ib d _ _ z
   have j:(results fn a.tmps).run C.P w= .ok (if h:f.toArray.size=1 then f.toArray[0]else .tuple f.toArray) w:=by
    rw[NM,Array.mapM_eq_mapM_toList];simp[A]
   have g:∀(p:cq)(r:CV)(v:Value),Dp C.P τ C.retMove Q fn.resultTypes.toList=some p->(∃i:Nat,p[i]? =some r/\f[i]? =some v)->Du w r v/\∀b,gE r v=some b->(B.w0.heap.size<=b\/B.E b)/\τ.m b=none/\∀i,τ.h b i=none:=by
    rintro p r v n ⟨i,t,R⟩;obtain⟨_,_,S⟩:=xJ d _ _ _ _ n l;obtain⟨D,F⟩:=S i r v t R;refine⟨D,λb G=>?_⟩;obtain⟨k,T,U,H⟩:=F b G;exact d.fresh k T b U H
   split at h
   .rename_i r t;obtain⟨c,_,_⟩:=xJ d _ _ _ _ t l;simp at c
    obtain⟨v,rfl⟩:∃v,f=[v]:=by
     match f,c with
     |[v],_=>exact⟨v,rfl⟩
    obtain⟨D,F⟩:=g _ r v t ⟨0,rfl,rfl⟩;refine⟨v,bj j,r,τ.m,τ.h,h,D,d.wrel,F⟩
   .rename_i p I n;split at h
    .exact h.elim
    .rename_i J;obtain⟨c,s,_⟩:=xJ d _ _ _ _ n l
     have M:f.length≠1:=by
      intro e;rw[e]at c
      match p,c with
      |[r],_=>exact I r rfl
     refine⟨.tuple f.toArray,by rw[j,dif_neg (bj M)],.tup p,τ.m,τ.h,h,⟨f.toArray,rfl,bj (s J)⟩,d.wrel,λb G=>by simp[gE]at G⟩
   .exact h.elim
def LU(n:Nat)(b:cq)(vs:bm)(k:Nat):Value:=
 match b[k-n]?,vs[k-n]? with
 |some (.lst _ _ _),some v=>v
 |_,_=>.slice none 0 0
theorem nY{w:World}:∀{b:cq}{vs:bm},BV w b vs->b.length=vs.length/\∀(i:Nat)(c:CV)(v:Value),b[i]? =some c->vs[i]? =some v->Du w c v
 |[],[],_=>⟨rfl,λi c v h=>by simp at h⟩
 |c::cs,v::vs,h=>by
  obtain⟨f,g⟩:=nY h.2;refine⟨by simp[f],λi j k d e=>?_⟩;cases i with
  |zero=>simp at d e;subst d e;exact h.1
  |succ i=>simp at d e;exact g i j k d e
 |[],_::_,h=>h.elim
 |_::_,[],h=>h.elim
theorem L6{n:Nat}{all:cq}{avs:bm}{w:World}:∀(i:Nat)(b:cq)(vs:bm),BV w b vs->(∀j:Nat,b[j]? =all[i+j]?)->(∀j:Nat,vs[j]? =avs[i+j]?)->
 DenS (LU n all avs) (G1 n i b) vs
 |i,[],[],_,_,_=>trivial
 |i,c::b,v::vs,h,e,f=>by
  have d:=L6 (n:=n) (all:=all) (avs:=avs) (i+1) b vs h.2 (λj=>by have:=e (j+1);simp only[getElem?_cons_succ]at this;rw[this];congr 1;omega) (λj=>by have:=f (j+1);simp only[getElem?_cons_succ]at this;rw[this];congr 1;omega);cases c with
  |val u=>exact⟨h.1,d⟩
  |lst E l m=>
   refine⟨?_,d⟩;show v=LU n all avs (n+i);have g:=e 0;have k:=f 0;simp at g k;unfold LU;rw[show n+i-n=i by omega, <-g, <-k]
  |tup p=>exact⟨trivial,d⟩
 |i,[],_::_,h,_,_=>h.elim
 |i,_::_,[],h,_,_=>h.elim
theorem Jy:∀(b:cq)(k:Nat)(o:Own),nth (Av b) k=some (some o)->∃E sz xs,b[k]? =some (.lst E sz xs)/\o= .lst E sz xs
 |[],k,o,h=>by simp[Av,nth]at h
 |c::b,0,o,h=>by
  cases c<;>simp[Av,nth]at h;rename_i E sz xs;exact⟨E,sz,xs,rfl,h.symm⟩
 |c::b,k+1,o,h=>by
  have:nth (Av b) k=some (some o):=by cases c<;>simpa[Av,nth]using h
  obtain⟨E,sz,xs,d,e⟩:=Jy b k o this;exact⟨E,sz,xs,bj d,e⟩
theorem Sa{ι:cg}:∀(n:Nat)(vs:bm),vs.length=n->DenS ι (replicate n (.at .junk)) vs
 |0,[],_=>trivial
 |n+1,v::vs,h=>⟨trivial,Sa n vs (bj h)⟩
 |0,_::_,h=>by simp at h
 |_+1,[],h=>by simp at h
theorem DenS.append{ι:cg}:∀{xs b:dd}{vs c:bm},DenS ι xs vs->DenS ι b c->DenS ι (xs++b) (vs++c)
 |[],_,[],_,_,d=>bj d
 |_::_,_,_::_,_,h,d=>⟨h.1,DenS.append h.2 d⟩
 |[],_,_::_,_,h,_=>h.elim
 |_::_,_,[],_,h,_=>h.elim
theorem EM{w:World}{m:MH}{h:PH}{c:cq}{vs:bm}(n:Nat)(t:Al w m h c vs):
 aI ⟨w,rU m c vs,h,[]⟩ (LU n c vs) (entry n c m h) {tmps:=vs.toArray++Array.replicate (n-vs.toArray.size) undef,defers:=[]} w:=by
 obtain⟨r,s⟩:=nY t.args
 have d:∀k o,nth (entry n c m h).own k=some (some o)->n<=k/\∃E l p,c[k-n]? =some (.lst E l p)/\o= .lst E l p/\∃v,vs[k-n]? =some v/\LU n c vs k=v/\Du w (.lst E l p) v:=by
  intro k o e;simp only[entry]at e;rw[jB]at e;by_cases g:k<n
  .rw[getElem?_append_left (bj g)]at e;simp[g]at e
  .rw[getElem?_append_right (bj (Nat.le_of_not_lt g))]at e;simp only[length_replicate]at e;rw[<-jB]at e;obtain⟨E,l,p,f,A⟩:=Jy c (k-n) o e
   have D:k-n<vs.length:=by
    rw[<-r];exact(List.getElem?_eq_some_iff.1 f).1
   have q:vs[k-n]? =some vs[k-n]:=getElem?_eq_getElem D;refine⟨aC,E,l,p,f,A,_,q,?_,s _ _ _ f q⟩;unfold LU;rw[f,q]
 refine⟨?_,rfl,?_,?_,?_,?_,?_⟩
 .have f:=L6 (n:=n) (all:=c) (avs:=vs) 0 c vs t.args (λj=>bg) (λj=>bg);show DenS _ (G1 n 0 c++replicate (n-c.length) (.at .junk)) _;have:(vs.toArray++Array.replicate (n-vs.toArray.size) undef).toList=vs++replicate (n-vs.length) undef:=bg
  rw[this];exact f.append (Sa _ _ (by simp[r]))
 .intro k o e;obtain⟨g,E,l,p,f,rfl,v,q,y,u⟩:=d k o e;rw[y];exact u
 .intro k J o O b e F i z;obtain⟨g,E,l,p,f,rfl,v,q,y,u⟩:=d k o e;obtain⟨M,E',Q,R,G,rfl,S,H,I,N⟩:=d J O F;rw[y]at i;rw[I]at z;have:=t.sep (k-n) (J-n) _ _ v S b f q G H i z;omega
 .intro k o b e i;obtain⟨g,E,l,p,f,rfl,v,q,y,u⟩:=d k o e;rw[y]at i;obtain⟨T,U⟩:=t.free (k-n) _ v b f q i;exact⟨.inr (.inr ⟨k-n,_,v,f,q,i⟩),T,U⟩
 .refine⟨rfl,rfl,rfl,Nat.le_refl _,Nat.le_refl _,λ_ _ _=>rfl,t.hsat,t.msat,t.disj,λ_ _ _ h=>h,λ_ _ _=>rfl,λb V i=>.inr (.inl (by have i:m b=some V:=i;rw[i];simp))⟩
 .intro k;unfold LU;split
  .rename_i E l p v f A;exact LK (s _ _ _ f A).2
  .rfl
theorem eV{P:Program}{f:FuncId}{fn:Func}{c:Code}(A:P.funcs[f]? =some fn)(D:fn.body=some c)(k:(fn.name== "runtime.NumGoroutine")=false){S:Spec}
 (t:∀d m h K,S d m h K->∃C:Ctx,C.P=P/\(∀g S,assoc C.specs g=some S->Sound P g S)/\sC C fn c (entry fn.ntmps d m h) K):Sound P f S:=by
 refine⟨⟨fn,A,by rw[D];rfl,k⟩,?_⟩;intro d y m h w K F G;obtain⟨C,rfl,j,H⟩:=t d m h K F;refine calls_of_wp A D ?_;refine wp_mono (HW j c _ _ _ _ w (EM fn.ntmps G) H) ?_;intro e z p n
 have key:(∃ι σ,aI ⟨w,rU m d y,h,[]⟩ ι σ z p/\Df C fn K σ)->z.defers=[]/\∃v,(results fn z.tmps).run C.P p= .ok v p/\∃r u q s,Ending.returned v= .returned u/\K r q s/\Du p r u/\vR ⟨w,rU m d y,h,[]⟩ q s p/\
  ∀b,gE r u=some b->(w.heap.size<=b\/rU m d y b)/\q b=none/\∀i,s b i=none:=by
  rintro⟨ι,σ,E,I⟩;obtain⟨u,J,r,q,s,M,N,O,Q⟩:=F0 E I;exact⟨E.defers,u,J,r,u,q,s,rfl,M,N,O,Q⟩
 cases e with
 |normal=>exact key n
 |ret=>exact key n
 |exit id=>obtain⟨_,_,_,h⟩:=n;exact h.elim
 |goto l=>exact n.elim
 |panic R=>exact n.elim
 |outgrown=>exact n.elim
theorem QH{P:Program}{f:FuncId}{fn:Func}{c:Code}(J:P.funcs[f]? =some fn)(t:fn.body=some c)(n:(fn.name== "runtime.NumGoroutine")=false){S:Spec}
 (y:∀d m h K,S d m h K->∃C:Ctx,C.P=P/\(∀g S,assoc C.specs g=some S->Sound P g S)/\sC C fn c (entry fn.ntmps d m h) (λr m' q=>∃m2 k,(∀b o,m2 b=some o->m' b=some o)/\PH.le h k/\PH.le k q/\K r m2 k)):Sound P f S:=by
 have F:=eV J t n (S:=λd m h K=>∃K',S d m h K'/\K=λr m' q=>∃m2 k,(∀b o,m2 b=some o->m' b=some o)/\PH.le h k/\PH.le k q/\K' r m2 k) (by
  rintro d m h K ⟨K',z,rfl⟩;exact y d m h K' z)
 refine⟨F.1,λd M m h w K z N=>?_⟩;refine(F.2 d M m h w _ ⟨K,z,rfl⟩ N).mono ?_;rintro e V ⟨r,u,m',q,O,⟨m2,k,s,G,H,Q⟩,A,l,D⟩
 have j:∀b i,q b i=none->k b i=none:=by
  intro b i e;cases p:k b i with
  |none=>rfl
  |some v=>rw[H.le b i v p]at e;cases e
 refine⟨r,u,m2,k,O,Q,A,?_,λb t=>?_⟩
 .refine⟨l.tape,l.os,l.output,l.drawn,l.size,l.frame,λb o v e=>l.hsat b o v (H.le b o v e),λb o e=>l.msat b o (s b o e),λb o e i=>j b i (l.disj b o (s b o e) i),G.le,λb R E=>?_,λb o e=>l.mfr b o (s b o e)⟩;funext i;have e:=congrFun (l.hold b R E) i;show k b i=h b i;cases p:h b i with
  |some v=>exact(G.le b i v p)
  |none=>exact j b i (by rw[e];exact p)
 .obtain⟨T,I,U⟩:=D b t;refine⟨T,?_,λi=>j b i (U i)⟩;cases p:m2 b with
  |none=>rfl
  |some o=>rw[s b o p]at I;cases I
def cE(h:PH)(K:bo):CV->MH->PH->Prop:=λr c f=>(∀b o,c b=some o->∀i,f b i=none)->∃d e,(∀b o,d b=some o->c b=some o)/\PH.le h e/\
 (∀b i v,e b i=some v->f b i=some v\/∃g E j,c b=some (.cells g E j)/\g[i]? =some v/\d b=none)/\K r d e
theorem Sound.strong{P:Program}{f:FuncId}{S:Spec}(H:Sound P f (λj m h K=>∃K',S j m h K'/\K=cE h K')):Sound P f S:=by
 refine⟨H.1,λj N m h w K O Q=>?_⟩;refine(H.2 j N m h w _ ⟨K,O,rfl⟩ Q).mono ?_;rintro e Y ⟨r,u,Z,h',R,k,t,d,y⟩;obtain⟨I,l,p,J,q,T⟩:=k d.disj;refine⟨r,u,I,l,R,T,t,?_,λb U=>?_⟩
 .refine⟨d.tape,d.os,d.output,d.drawn,d.size,d.frame,λb o v e=>?_,λb o e=>d.msat b o (p b o e),λb o e i=>?_,J.le,λb z n=>?_,λb o e=>d.mfr b o (p b o e)⟩
  .rcases q b o v e with c|⟨A,E,D,c,F,_⟩
   .exact d.hsat b o v c
   .rw[cell_of_heap (d.msat b _ c),Array.getElem?_toList];exact F
  .cases g:l b i with
   |none=>rfl
   |some v=>
    rcases q b i v g with c|⟨A,E,D,c,F,M⟩
    .rw[d.disj b o (p b o e) i]at c;cases c
    .rw[M]at e;cases e
  .funext i;have e:=congrFun (d.hold b z n) i;show l b i=h b i;cases g:h b i with
   |some v=>exact(J.le b i v g)
   |none=>
    cases V:l b i with
    |none=>rfl
    |some v=>
     rcases q b i v V with c|⟨A,E,D,c,F,M⟩
     .rw[e]at c;have:h b i=some v:=c;rw[g]at this;cases this
     .rcases d.mfr b _ c with s|s
      .have s:w.heap.size<=b:=s;have z:b<w.heap.size:=z;omega
      .exact(n s).elim
 .obtain⟨W,G,X⟩:=y b U;refine⟨W,?_,λi=>?_⟩
  .cases g:I b with
   |none=>rfl
   |some o=>rw[p b o g]at G;cases G
  .cases g:l b i with
   |none=>rfl
   |some v=>
    rcases q b i v g with c|⟨A,E,D,c,_,_⟩
    .rw[X i]at c;cases c
    .rw[G]at c;cases c
theorem ajJ{P:Program}{f:FuncId}{fn:Func}{c:Code}(i:P.funcs[f]? =some fn)(j:fn.body=some c)(d:(fn.name== "runtime.NumGoroutine")=false){S:Spec}
 (e:∀b m h K,S b m h K->∃C:Ctx,C.P=P/\(∀g S,assoc C.specs g=some S->Sound P g S)/\sC C fn c (entry fn.ntmps b m h) (cE h K)):Sound P f S:=
 .strong (eV i j d (S:=λb m h K=>∃K',S b m h K'/\K=cE h K') (by
  rintro b m h K ⟨K',k,rfl⟩;exact e b m h K' k))
end
end Go.Vc
namespace Go.Vc
open Go List
theorem aB{c:Bool}{A B:Prop}(b:c=true->A)(d:c=false->B):branch c A B:=by
 cases c
 .exact d rfl
 .exact b rfl
theorem aE{p:Prop}[Decidable p]{A B:Prop}(b:p->A)(c:¬p->B):branch (decide p) A B:=
 aB (λh=>b (of_decide_eq_true h)) (λh=>c (of_decide_eq_false h))
theorem eG{n:Int}(b: -9223372036854775808<=n)(c:n<9223372036854775808):IntKind.i64.wrap n=n:=by
 rw[IntKind.wrap_i64];omega
theorem aJ.of_m{m:MH}{h:PH}{b off:Nat}{cs:Array Value}{E:TypeId}{c:Nat×Nat}{l:bm}(d:m b=some (.cells cs E c))(e:(cs.toList.drop off).take l.length=l):aJ m h b off l:=.lent cs E c d e
end Go.Vc
namespace Go.Ps
open Go Go.Vc Go.Proofs List Tryz
variable{K:bo}{m:MH}{h:PH}{ps:br}{cb:Nat}{l:br}{i:Nat}{N:Nat}{m':MH}{h':PH}{co:br}{gr:br}{od:bz}{ta:Int}{li:Int}{xs:List bm}{sz:Nat}{k:Nat}{ks:List br}{rs:br}{r:Sl}{a:br}{b:Nat}
structure VV where
 kind:Int
 int:Int
 text:ByteArray
abbrev bu:=List VV
abbrev cv:=List (Sl×bu)
abbrev bt:=List bu
structure OV where
 kind:Int
 index:Int
 value:VV
abbrev dl:=List OV
structure PV where
 op:Int
 cmp:Int
 left:OV
 right:OV
 args:Sl
abbrev dh:=List PV
structure QV where
 op:Int
 table:Int
 where_:PV
 columns:Sl
 on:Sl
 group:Sl
 order:Sl
 limit:Int
 args:Sl
abbrev cw:=List (Nat×QV)
abbrev cu:=List QV
variable{v:QV}
structure l7 where
 op:Int
 table:Int
 where_:PV
 columns:Sl
 on:Sl
 group:Sl
 order:Sl
 limit:Int
 left:Int
 right:Int
structure nZ where
 name:ByteArray
 kind:Int
structure E3 where
 columns:Sl
 table:Int
structure cK where
 name:ByteArray
 columns:Sl
 key:Int
 references:Sl
 checks:Sl
structure bY where
 version:Int
 tables:Sl
variable{sc:bY}
abbrev fD(n:Int):Value:=.int .i64 n
abbrev dT(s:Sl):Value:=.slice s.a s.len s.cap
abbrev rV:Value:=.slice none 0 0
abbrev PN:Value:=.string ⟨⟨[]⟩⟩
abbrev WE(b o:Nat):Value:=.pointer (some ⟨b,o,none⟩)
abbrev jI(n:Int):At:=.val (.int .i64 n)
abbrev qK(s:Sl):At:=.val (.slice s.a s.len s.cap)
abbrev PO:At:=.val (.slice none 0 0)
abbrev WA:At:=.val (.string ⟨⟨[]⟩⟩)
abbrev fP(n:Int):SV:=.at (.val (.int .i64 n))
abbrev sQs(s:Sl):SV:=.at (.val (.slice s.a s.len s.cap))
abbrev sQn:SV:=.at (.val (.slice none 0 0))
abbrev sQp(b o:Nat):SV:=.at (.ptr b o)
abbrev Uk(b o:Nat):SV:=.at (.val (.pointer (some ⟨b,o,none⟩)))
abbrev sQb(b:Bool):SV:=.at (.val (.bool b))
abbrev sQl(k:Nat):SV:=.at (.lst k)
abbrev fQ(n:Int):CV:=.val (.int .i64 n)
abbrev Ah(b:Bool):CV:=.val (.bool b)
abbrev rC(s:Sl):CV:=.val (.slice s.a s.len s.cap)
abbrev jG:CV:=.val (.slice none 0 0)
abbrev uX(b o:Nat):CV:=.val (.pointer (some ⟨b,o,none⟩))
abbrev jR(l:bm):CV:=.val (.agg ⟨l⟩)
abbrev oQ(T:TypeId)(l:cr):Option Go.Vc.Own:=some (.cells T l)
abbrev eQ{α:Type}(x:α):Prop:=x=x
abbrev eP(k:Nat):Prop:=sQp k 0=sQp k 0
abbrev eL(k:Nat):Prop:=sQl k=sQl k
abbrev TD(s:ByteArray):At:=.val (.string s)
abbrev zQ:cr:=[jI 0,jI 0,jI 0,jI 0,jI 0,jI 0,jI 0,jI 0,WA,jI 0,jI 0,jI 0,jI 0,WA,PO,PO,PO,PO,PO,jI 0,PO]
abbrev zP:cr:=[jI 0,jI 0,jI 0,jI 0,jI 0,jI 0,WA,jI 0,jI 0,jI 0,jI 0,WA,PO]
def eI(n:Int):bm:=[.int .i64 n]
def eS(s:Sl):bm:=[.slice s.a s.len s.cap]
def VV.enc(v:VV):bm:=[.int .i64 v.kind,.int .i64 v.int,.string v.text]
def OV.enc(o:OV):bm:=[.int .i64 o.kind,.int .i64 o.index,.int .i64 o.value.kind,.int .i64 o.value.int,.string o.value.text]
def PV.enc(p:PV):bm:=
 [.int .i64 p.op,.int .i64 p.cmp,
  .int .i64 p.left.kind,.int .i64 p.left.index,.int .i64 p.left.value.kind,.int .i64 p.left.value.int,.string p.left.value.text,
  .int .i64 p.right.kind,.int .i64 p.right.index,.int .i64 p.right.value.kind,.int .i64 p.right.value.int,.string p.right.value.text,
  .slice p.args.a p.args.len p.args.cap]
def QV.enc(q:QV):bm:=
 [.int .i64 q.op,.int .i64 q.table,
  .int .i64 q.where_.op,.int .i64 q.where_.cmp,
  .int .i64 q.where_.left.kind,.int .i64 q.where_.left.index,.int .i64 q.where_.left.value.kind,.int .i64 q.where_.left.value.int,.string q.where_.left.value.text,
  .int .i64 q.where_.right.kind,.int .i64 q.where_.right.index,.int .i64 q.where_.right.value.kind,.int .i64 q.where_.right.value.int,.string q.where_.right.value.text,
  .slice q.where_.args.a q.where_.args.len q.where_.args.cap,
  .slice q.columns.a q.columns.len q.columns.cap,.slice q.on.a q.on.len q.on.cap,.slice q.group.a q.group.len q.group.cap,.slice q.order.a q.order.len q.order.cap,
  .int .i64 q.limit,.slice q.args.a q.args.len q.args.cap]
def l7.enc(q:l7):bm:=
 [.int .i64 q.op,.int .i64 q.table,
  .int .i64 q.where_.op,.int .i64 q.where_.cmp,
  .int .i64 q.where_.left.kind,.int .i64 q.where_.left.index,.int .i64 q.where_.left.value.kind,.int .i64 q.where_.left.value.int,.string q.where_.left.value.text,
  .int .i64 q.where_.right.kind,.int .i64 q.where_.right.index,.int .i64 q.where_.right.value.kind,.int .i64 q.where_.right.value.int,.string q.where_.right.value.text,
  .slice q.where_.args.a q.where_.args.len q.where_.args.cap,
  .slice q.columns.a q.columns.len q.columns.cap,.slice q.on.a q.on.len q.on.cap,.slice q.group.a q.group.len q.group.cap,.slice q.order.a q.order.len q.order.cap,
  .int .i64 q.limit,.int .i64 q.left,.int .i64 q.right]
def nZ.enc(c:nZ):bm:=[.string c.name,.int .i64 c.kind]
def E3.enc(r:E3):bm:=[.slice r.columns.a r.columns.len r.columns.cap,.int .i64 r.table]
def cK.enc(t:cK):bm:=[.string t.name,.slice t.columns.a t.columns.len t.columns.cap,.int .i64 t.key,.slice t.references.a t.references.len t.references.cap,.slice t.checks.a t.checks.len t.checks.cap]
def bY.enc(s:bY):bm:=[.int .i64 s.version,.slice s.tables.a s.tables.len s.tables.cap]
abbrev zV:bm:=[fD 0,fD 0,fD 0,fD 0,fD 0,fD 0,fD 0,fD 0,PN,fD 0,fD 0,fD 0,fD 0,PN,rV,rV,rV,rV,rV,fD 0,rV]
abbrev pQ(p:PV)(r:cr):cr:=jI p.op::jI p.cmp::jI p.left.kind::jI p.left.index::jI p.left.value.kind::jI p.left.value.int::TD p.left.value.text::jI p.right.kind::jI p.right.index::jI p.right.value.kind::jI p.right.value.int::TD p.right.value.text::qK p.args::r
abbrev qQ(q:QV)(x:At):cr:=jI q.op::jI q.table::pQ q.where_ [qK q.columns,qK q.on,qK q.group,qK q.order,jI q.limit,x]
def uJ(p:Int×Int):bm:=[.int .i64 p.1,.int .i64 p.2]
def B7(p:Int×Bool):bm:=[.int .i64 p.1,.bool p.2]
def dI:Dec:=⟨Int,eI⟩
def dS:Dec:=⟨Sl,eS⟩
def dB:Dec:=⟨Bool,λb=>[.bool b]⟩
def dU8:Dec:=⟨UInt8,λb=>[.int .u8 b.toNat]⟩
def b1Q:Dec:=⟨ByteArray,λs=>[.string s]⟩
def a5Z:Option Nat->Value
 |none=>.nilFunc
 |some f=>.func (.func f) #[] #[]
def dF:Dec:=⟨Option Nat,λf=>[a5Z f]⟩
structure NV where
 s:bY
 params:Sl
 q:QV
 args:Sl
def NV.enc(n:NV):bm:=n.s.enc++eS n.params++n.q.enc++eS n.args
structure PlV where
 query:QV
 args:Sl
 rows:Int
 env:Int
 width:Int
def PlV.enc(x:PlV):bm:=x.query.enc++[.slice x.args.a x.args.len x.args.cap,.int .i64 x.rows,.int .i64 x.env,.int .i64 x.width]
def dec:TypeId->Dec:=λT=>match T with
 |2=>dI
 |3=>dI
 |4=>dB
 |5=>dU8
 |9=>b1Q
 |44=>dI
 |22=>dS
 |61=>dS
 |63=>dS
 |27=>dS
 |30=>dS
 |31=>dS
 |32=>dS
 |33=>dS
 |38=>dS
 |68=>dS
 |100=>dS
 |79=>dS
 |80=>dS
 |57=>dS
 |40=>⟨bY,bY.enc⟩
 |24=>⟨VV,VV.enc⟩
 |26=>⟨OV,OV.enc⟩
 |29=>⟨PV,PV.enc⟩
 |35=>⟨QV,QV.enc⟩
 |82=>⟨cK,cK.enc⟩
 |91=>⟨Int×Int,uJ⟩
 |93=>⟨Int×Bool,B7⟩
 |97=>⟨nZ,nZ.enc⟩
 |138=>⟨E3,E3.enc⟩
 |197=>⟨NV,NV.enc⟩
 |198=>dF
 |221=>dF
 |234=>⟨Nat,λb=>[.func (.func 205) #[] #[.pointer (some ⟨b,0,none⟩)]]⟩
 |182=>⟨Nat,λb=>[.map (some b)]⟩
 |185=>⟨Nat,λb=>[.map (some b)]⟩
 |50=>dS
 |105=>dS
 |52=>⟨Sl×Sl,λp=>[.slice p.1.a p.1.len p.1.cap,.slice p.2.a p.2.len p.2.cap]⟩
 |111=>⟨l7,l7.enc⟩
 |126=>⟨Nat,λb=>[.map (some b)]⟩
 |101=>⟨Nat,λb=>[.map (some b)]⟩
 |107=>⟨PlV,PlV.enc⟩
 |104=>⟨Nat×Nat×Nat,λb=>[.func (.func 45) #[] #[.pointer (some ⟨b.1,0,none⟩),.pointer (some ⟨b.2.1,0,none⟩),.pointer (some ⟨b.2.2,0,none⟩)]]⟩
 |_=>⟨Unit,λ_=>[]⟩
def cC(f:Func):Code:=match f.body with|some c=>c|none=>.skip
noncomputable def ctx(specs:List (Nat×Vc.Spec))(loops:List (Nat×No))(cuts:List (Nat×Y7))(moves:List (Nat×ck))(retMove:Bool):Ctx:=
 {P:=Tryz.prog,loops2:=[],cuts2:=[],rcuts:=[],heapT:=[],specs:=specs,dec:=dec,loops:=loops,cuts:=cuts,moves:=moves,retMove:=retMove,yield:=none}
noncomputable def dG(specs:List (Nat×Vc.Spec))(loops:da)(cuts:da)(moves:List (Nat×ck))(retMove:Bool):Ctx:=
 {P:=Tryz.prog,loops2:=loops,cuts2:=cuts,rcuts:=[],heapT:=[],specs:=specs,dec:=dec,loops:=[],cuts:=[],moves:=moves,retMove:=retMove,yield:=none}
noncomputable def b1X(specs:List (Nat×Vc.Spec))(loops:da)(cuts:da)(rcuts:List (Nat×da))(moves:List (Nat×ck))(retMove:Bool):Ctx:=
 {P:=Tryz.prog,loops2:=loops,cuts2:=cuts,rcuts:=rcuts,heapT:=[],specs:=specs,dec:=dec,loops:=[],cuts:=[],moves:=moves,retMove:=retMove,yield:=none}
noncomputable def pF(specs:List (Nat×Vc.Spec))(loops:da)(cuts:da)(rcuts:List (Nat×da))(heapT:dg)(moves:List (Nat×ck))(retMove:Bool):Ctx:=
 {P:=Tryz.prog,loops2:=loops,cuts2:=cuts,rcuts:=rcuts,heapT:=heapT,specs:=specs,dec:=dec,loops:=[],cuts:=[],moves:=moves,retMove:=retMove,yield:=none}
abbrev bk:=Sound Tryz.prog
theorem aF:∀g S,assoc ([]:List (Nat×Vc.Spec)) g=some S->bk g S:=λg S h=>by simp[assoc]at h
theorem aD{c:Nat}{S0:Vc.Spec}{r:List (Nat×Vc.Spec)}(d:bk c S0)(e:∀g S,assoc r g=some S->bk g S):∀g S,assoc ((c,S0)::r) g=some S->bk g S:=by
 intro g S h;simp only[assoc]at h;split at h
 .rename_i f;have:=Nat.eq_of_beq_eq_true f;subst this;simp at h;subst h;exact d
 .exact e g S h
def Wb(n:Int):ci->Int×ci
 |[]=>(0,[])
 |b::r=>if n<1 then(0,b::r)else((b.toNat:Int)%n,r)
structure Y9(m:MH)(h:PH)(cb:Nat)(r:ci):Prop where
 ex:∃(s:Sl)(cs:ci)(k:Nat),m cb=some (.cells #[.slice s.a s.len s.cap,.int .i64 k] 78 (0,0))/\cZ h s 1 (aU cs)/\k<=cs.length/\cs.length<=1000/\r=cs.drop k
structure bI(m m':MH)(cb:Nat):Prop where
 other:∀b,b≠cb->m' b=m b
end Go.Ps
namespace Go.Vc
open Go List
theorem PH.le.refl(h:PH):PH.le h h:=⟨λ_ _ _ e=>e⟩
theorem PH.le.trans{h h' c:PH}(a:PH.le h h')(b:PH.le h' c):PH.le h c:=⟨λx y v e=>b.le x y v (a.le x y v e)⟩
theorem bT.mono{h h':PH}{b o:Nat}{l:bm}(r:bT h b o l)(le:PH.le h h'):bT h' b o l:=⟨λi v e=>le.le _ _ _ (r.rd i v e)⟩
theorem cZ.mono{h h':PH}{s:Sl}{sz:Nat}{xs:List bm}(r:cZ h s sz xs)(le:PH.le h h'):cZ h' s sz xs:=
 ⟨r.len,r.row.imp id λ⟨b,o,e,k⟩=>⟨b,o,e,λi x c=>(k i x c).mono le⟩,r.cap⟩
theorem cZ.get{h:PH}{s:Sl}{sz:Nat}{xs:List bm}(r:cZ h s sz xs){i:Nat}{e:bm}(c:xs[i]? =some e):
 ∃b o,s.a=some ⟨b,o,none⟩/\bT h b (o+i*sz) e:=by
 rcases r.row with rfl|⟨b,o,d,k⟩
 .simp at c
 .exact⟨b,o,d,k i e c⟩
theorem cR.blk{m:MH}{s:Sl}{E sz:Nat}{xs:List bm}(h:cR m s E sz xs){b i:Nat}(e:s.a=some ⟨b,i,none⟩):∃c,m b=some (.cells c E (0,0)):=by
 rcases h.ex with⟨rfl,_⟩|⟨g,d,c,rfl,f,_⟩
 .cases e
 .simp only[Option.some.injEq,Addr.mk.injEq]at e;rw[<-e.1];exact⟨c,f⟩
theorem cR.slen{m:MH}{s:Sl}{E sz:Nat}{xs:List bm}(h:cR m s E sz xs):s.len=xs.length:=by
 rcases h.ex with⟨rfl,rfl⟩|⟨e,c,d,rfl,f,_⟩<;>rfl
theorem cR.keep{m m':MH}{s:Sl}{E sz:Nat}{xs:List bm}(h:cR m s E sz xs)(e:∀b i,s.a=some ⟨b,i,none⟩->m' b=m b):cR m' s E sz xs:=by
 refine⟨h.rows,?_⟩;rcases h.ex with f|⟨b,c,d,rfl,g,j⟩
 .exact .inl f
 .exact .inr ⟨b,c,d,rfl,by rw[e b 0 rfl];exact g,j⟩
theorem cZ.nil(h:PH)(sz:Nat):cZ h ⟨none,0,0⟩ sz []:=⟨rfl,.inl rfl,Nat.le_refl _⟩
end Go.Vc
namespace Go.Ps
open Go Go.Vc Go.Proofs List Tryz
variable{K:bo}{m:MH}{h:PH}{ps:br}{cb:Nat}{sc:bY}{v:QV}{l:br}{i:Nat}{N:Nat}{m':MH}{h':PH}{co:br}{gr:br}{od:bz}{ta:Int}{li:Int}{xs:List bm}{sz:Nat}{k:Nat}{ks:List br}{rs:br}{r:Sl}{a:br}{b:Nat}
structure Ints(h:PH)(s:Sl)(l:br):Prop where
 row:cZ h s 1 (l.map eI)
 len:l.length<=17592186044416
theorem Ints.mono{s:Sl}(r:Ints h s l)(le:PH.le h h'):Ints h' s l:=⟨r.row.mono le,r.len⟩
theorem Ints.slen{s:Sl}(r:Ints h s l):s.len=l.length:=by have:=r.row.len;simpa using this
structure jK(h:PH)(s:Sl)(l:bx):Prop where
 row:cZ h s 2 (l.map uJ)
 len:l.length<=8796093022208
theorem jK.mono{s:Sl}{l:bx}(r:jK h s l)(le:PH.le h h'):jK h' s l:=⟨r.row.mono le,r.len⟩
theorem jK.slen{s:Sl}{l:bx}(r:jK h s l):s.len=l.length:=by have:=r.row.len;simpa using this
structure gZ(h:PH)(s:Sl)(l:bz):Prop where
 row:cZ h s 2 (l.map B7)
 len:l.length<=8796093022208
theorem gZ.mono{s:Sl}{l:bz}(r:gZ h s l)(le:PH.le h h'):gZ h' s l:=⟨r.row.mono le,r.len⟩
theorem gZ.slen{s:Sl}{l:bz}(r:gZ h s l):s.len=l.length:=by have:=r.row.len;simpa using this
inductive Pred where
 |mk (op cmp:Int) (left right:OV) (args:List Pred)
abbrev cm:=List Pred
variable{p:Pred}{w:Pred}
mutual
def eW(h:PH):Pred->PV->Prop
 |.mk op c l r args,v=>v.op=op/\v.cmp=c/\v.left=l/\v.right=r/\args.length<=502633886983/\∃d:dh,cZ h v.args 13 (d.map PV.enc)/\xW h args d
def xW(h:PH):cm->dh->Prop
 |[],d=>d=[]
 |p::ps,d=>∃v c,d=v::c/\eW h p v/\xW h ps c
end
mutual
theorem eW.mono{h h':PH}(le:PH.le h h'):∀{p:Pred}{v:PV},eW h p v->eW h' p v
 |.mk ..,_,⟨c,d,e,f,g,j,n,q⟩=>⟨c,d,e,f,g,j,n.mono le,xW.mono le q⟩
theorem xW.mono{h h':PH}(le:PH.le h h'):∀{ps:cm}{vs:dh},xW h ps vs->xW h' ps vs
 |[],_,h=>h
 |_::_,_,⟨v,c,d,e,f⟩=>⟨v,c,d,eW.mono le e,xW.mono le f⟩
end
theorem xW.length{h:PH}:∀{ps:cm}{vs:dh},xW h ps vs->vs.length=ps.length
 |[],_,h=>by rw[show _=[]from h];rfl
 |_::_,_,⟨_,_,c,_,d⟩=>by rw[c];simp[xW.length d]
theorem xW.get{h:PH}:∀{ps:cm}{vs:dh},xW h ps vs->∀{i:Nat}{p:Pred},ps[i]? =some p->∃v,vs[i]? =some v/\eW h p v
 |[],_,_,i,p,e=>by simp at e
 |p0::ps,_,⟨v,c,rfl,d,f⟩,0,p,e=>by simp at e;subst e;exact⟨v,rfl,d⟩
 |p0::ps,_,⟨v,c,rfl,d,f⟩,i+1,p,e=>by simp at e;simpa using xW.get f e
inductive Query where
 |mk (op table:Int) (wher:Pred) (columns:br) (on:bx) (group:br) (order:bz) (limit:Int) (args:List Query)
abbrev ce:=List Query
variable{q:Query}
mutual
def dQ(h:PH):Query->QV->Prop
 |.mk op table w c on d e f args,v=>v.op=op/\v.table=table/\eW h w v.where_/\Ints h v.columns c/\jK h v.on on/\Ints h v.group d/\gZ h v.order e/\v.limit=f/\
  args.length<=502633886983/\∃g:cu,cZ h v.args 21 (g.map QV.enc)/\AA h args g
def AA(h:PH):ce->cu->Prop
 |[],d=>d=[]
 |p::ps,d=>∃v c,d=v::c/\dQ h p v/\AA h ps c
end
mutual
theorem dQ.mono{h h':PH}(le:PH.le h h'):∀{p:Query}{v:QV},dQ h p v->dQ h' p v
 |.mk ..,_,⟨e,f,g,j,n,s,t,u,y,z,c,d⟩=>⟨e,f,g.mono le,j.mono le,n.mono le,s.mono le,t.mono le,u,y,z,c.mono le,AA.mono le d⟩
theorem AA.mono{h h':PH}(le:PH.le h h'):∀{ps:ce}{vs:cu},AA h ps vs->AA h' ps vs
 |[],_,h=>h
 |_::_,_,⟨v,c,d,e,f⟩=>⟨v,c,d,dQ.mono le e,AA.mono le f⟩
end
theorem AA.length{h:PH}:∀{ps:ce}{vs:cu},AA h ps vs->vs.length=ps.length
 |[],_,h=>by rw[show _=[]from h];rfl
 |_::_,_,⟨_,_,c,_,d⟩=>by rw[c];simp[AA.length d]
theorem AA.get{h:PH}:∀{ps:ce}{vs:cu},AA h ps vs->∀{i:Nat}{p:Query},ps[i]? =some p->∃v,vs[i]? =some v/\dQ h p v
 |[],_,_,i,p,e=>by simp at e
 |p0::ps,_,⟨v,c,rfl,d,f⟩,0,p,e=>by simp at e;subst e;exact⟨v,rfl,d⟩
 |p0::ps,_,⟨v,c,rfl,d,f⟩,i+1,p,e=>by simp at e;simpa using AA.get f e
def iv(n:Int):SV:=.at (.val (.int .i64 n))
def sv(s:Sl):SV:=.at (.val (.slice s.a s.len s.cap))
def bv(b:Bool):SV:=.at (.val (.bool b))
def vv(v:Value):SV:=.at (.val v)
def cS(s:Sl):CV:=.val (.slice s.a s.len s.cap)
def cI(n:Int):CV:=.val (.int .i64 n)
def cB(b:Bool):CV:=.val (.bool b)
def cP(b:Nat):CV:=.val (.pointer (some ⟨b,0,none⟩))
def Fu(id:Nat)(st:Nat->St)(inv:Nat->Prop)(mu:Nat->Nat):Nat×No:=(id,{A:=Nat,st:=st,inv:=inv,mu:=mu})
theorem iJ(h:i<=140737488355328):IntKind.i64.wrap ((i:Int)+1)=((i+1:Nat):Int):=by
 rw[eG aC aC];rfl
theorem Ints.at{s:Sl}(r:Ints h s l){x:Int}(c:l[i]? =some x):∃b o,s.a=some ⟨b,o,none⟩/\bT h b (o+i) [.int .i64 x]:=by
 obtain⟨b,o,d,f⟩:=r.row.get (i:=i) (e:=eI x) (by simp[c]);exact⟨b,o,d,by simpa[eI]using f⟩
theorem MT{p:Prop}(h:p:=by repeat' (first|with_reducible rfl|exact trivial|refine⟨?_,?_⟩|rfl|(rw[iJ aC];done)|(rw[iJ aC]))):p:=h
def dC(k:Int):Bool:=k==3||k==4||k==5
def Fj(t:ByteArray):Bool:=t.toList==[]
def lD(v:VV):Bool:=
 if v.kind==1||v.kind==2 then v.int==0&&Fj v.text
 else if v.kind==3 then(v.int==0||v.int==1)&&Fj v.text
 else if v.kind==4 then Fj v.text
 else if v.kind==5 then v.int==0&&(v.text.size:Int)<=64
 else false
def l9(v:VV):Bool:=lD v&&v.kind>=3
def aV(v:VV):CV:=.val (.agg #[.int .i64 v.kind,.int .i64 v.int,.string v.text])
def beQ:Vc.Spec:=λc m h K=>∃k,c=[cI k]/\K (cB (dC k)) m h
def Pm:Vc.Spec:=λc m h K=>∃v,c=[aV v]/\K (cB (lD v)) m h
def Sm:Vc.Spec:=λc m h K=>∃v,c=[aV v]/\K (cB (l9 v)) m h
def Pz:Vc.Spec:=λc m h K=>∃s l,c=[cS s]/\Ints h s l/\K (cB (l.all dC)) m h
noncomputable def f52_ctx(s:Sl)(l:br)(m:MH)(h:PH):Ctx:=
 ctx [(93,beQ)] [Fu 2 (λi=>bO 15 16 [(5,sv s),(6,iv s.len),(7,iv i)] [] m h) (λi=>i<=l.length/\(l.take i).all dC=true) (λi=>l.length-i)] [] [] false
noncomputable def aXQ(s:Sl)(l:br)(m:MH)(h:PH):Ctx:=
 ctx [] [Fu 2 (λi=>bO 22 23 [(5,sv s),(6,iv s.len),(7,iv i)] [] m h) (λi=>i<=l.length/\(l.take i).all dC=true) (λi=>l.length-i)] [] [] false
abbrev dN(a:Bool)(b:Prop)(c:Bool)(d e:Prop):Prop:=branch a b (branch c d e)
noncomputable abbrev gL:CV:=Ah true
attribute [push_cast] dN gL
def Va(k:Int)(m:MH)(h:PH)(K:bo):Prop:=
  dN (k==3) (K gL m h) (k==4) (K gL m h) (K (Ah (k==5)) m h)
abbrev eD(a b:Int)(c d:Prop):Prop:=branch (a==b) c d
noncomputable abbrev CF(a:VV):ci:=a.text.toList
abbrev Gm(a:bo)(b:VV)(c:MH)(d:PH):Prop:=a (Ah (CF b==[])) c d
noncomputable abbrev aX:CV:=Ah false
attribute [push_cast] eD CF Gm aX
def GO(v:VV)(m:MH)(h:PH)(K:bo):Prop:=
  dN (v.kind==1) (eD v.int 0 (Gm K v m h) (K aX m h)) (v.kind==2) (eD v.int 0 (Gm K v m h) (K aX m h)) (dN (v.kind==3) (dN (v.int==0) (Gm K v m h) (v.int==1) (Gm K v m h) (K aX m h)) (v.kind==4) (Gm K v m h) (eD v.kind 5 (eD v.int 0 (K (Ah (decide ((↑v.text.size:Int)<=64))) m h) (K aX m h)) (K aX m h)))
abbrev gK(a:Prop)(b:Bool)(c d:Prop):Prop:=a/\branch b c d
noncomputable abbrev tT(a:CV):cq:=[a]
noncomputable abbrev pY(a:bm):cq:=tT (jR a)
noncomputable abbrev qD(a:VV):cq:=pY a.enc
attribute [push_cast] gK tT pY qD
def Rh(v:VV)(m:MH)(h:PH)(K:bo):Prop:=
  ∃(c:VV),gK (qD v=qD c) (lD c) (K (Ah (decide (v.kind>=3))) m h) (K aX m h)
abbrev cO(a b:Int)(c d:Prop):Prop:=branch (a !=b) c d
attribute [push_cast] cO
def Rm(v:VV)(m:MH)(h:PH)(K:bo):Prop:=
  ∃(c:VV),gK (qD v=qD c) (lD c) (cO v.kind 1 (K (Ah (v.kind !=2)) m h) (K aX m h)) (K aX m h)
abbrev jP(a:Prop)(b:Nat->Prop):Prop:=a/\∀(x:Nat),b x
abbrev aA(a b c:Prop):Prop:=a/\b/\c
abbrev fS(a:Bool):Prop:=a=true
noncomputable abbrev BD(a:br):Bool:=List.all a dC
abbrev AY(a:Nat)(b:br):Prop:=a<=b.length/\fS (BD (List.take a b))
abbrev aH(a:Sl):Prop:=eQ (sQs a)
abbrev bG(a:Sl):Prop:=eQ (fP (↑a.len:Int))
abbrev bD(a:SV)(b:Nat):Prop:=a=fP (↑b:Int)
abbrev bC(a:Nat):Prop:=bD (fP 0) a
abbrev gX(a b:Prop):Prop:=aA a b True
abbrev dW(a b:MH)(c d:Nat->Nat->Option Value):Prop:=gX (a=b) (c=d)
abbrev aZ(a b:Int)(c d:Prop):Prop:=branch (decide (a<b)) c d
noncomputable abbrev aG(a:Sl):Int:=(↑a.len:Int)
abbrev aK(a:Nat->Nat->Prop):Prop:=∃(x c:Nat),a x c
abbrev aL(a:Option Addr)(b c:Nat):Prop:=a=Option.some (Addr.mk b c Option.none)
noncomputable abbrev fX(a:Nat)(b:Int)(c:Nat):Nat:=a+b.toNat*c
noncomputable abbrev bK(a b c:Nat):Nat:=fX a (↑b:Int) c
noncomputable abbrev jD(a:Value):bm:=[a]
noncomputable abbrev bL(a:Int):bm:=jD (fD a)
noncomputable abbrev nT(a:Int):cq:=tT (fQ a)
abbrev dK(a:Prop)(b c:Nat->Option Obj)(d e:PH):Prop:=aA a (b=c) (d=e/\True)
noncomputable abbrev eT(a:Int):Int:=IntKind.wrap IntKind.i64 a
noncomputable abbrev bE(a:Nat)(b:Int):Int:=eT ((↑a:Int)+b)
attribute [push_cast] jP aA fS BD AY aH bG bD bC gX dW aZ aG aK aL fX bK jD bL nT dK eT bE
def aj(s:Sl)(l:br)(m:MH)(h:PH)(K:bo):Prop:=
  jP (∃(x:Nat),aA (AY x l) (aH s) (aA (bG s) (bC x) (dW m m h h))) (λx=>AY x l->aZ (↑x:Int) (aG s) (aK (λb o=>aA (aL s.a b o) (0<=(↑x:Int)) ((↑x:Int)<aG s/\∃(y:Int),aJ m h b (bK o x 1) (bL y)/\∃(k:Int),gK (nT y=nT k) (!(dC k)) (K aX m h) (∃(c:Nat),aA (AY c l) (l.length-c<l.length-x) (aA (aH s) (bG s) (dK (bD (fP (bE x 1)) c) m m h h)))))) (K gL m h))
def Ry(s:Sl)(l:br)(m:MH)(h:PH)(K:bo):Prop:=
  jP (∃(x:Nat),aA (AY x l) (aH s) (aA (bG s) (bC x) (dW m m h h))) (λx=>AY x l->aZ (↑x:Int) (aG s) (aK (λb o=>aA (aL s.a b o) (0<=(↑x:Int)) ((↑x:Int)<aG s/\∃(y:Int),aJ m h b (bK o x 1) (bL y)/\cO y 3 (cO y 4 (cO y 5 (K aX m h) (∃(c:Nat),aA (AY c l) (l.length-c<l.length-x) (aA (aH s) (bG s) (dK (bD (fP (bE x 1)) c) m m h h)))) (∃(c:Nat),aA (AY c l) (l.length-c<l.length-x) (aA (aH s) (bG s) (dK (bD (fP (bE x 1)) c) m m h h)))) (∃(c:Nat),aA (AY c l) (l.length-c<l.length-x) (aA (aH s) (bG s) (dK (bD (fP (bE x 1)) c) m m h h)))))) (K gL m h))
theorem bAX(v:VV)(m:MH)(h:PH)(K:bo):GO v m h K=sC (ctx [] [] [] [] false) Tryz.f164 (cC Tryz.f164) (entry Tryz.f164.ntmps [aV v] m h) K:=bf
theorem iV{x y:Bool}(c:K (cB x) m h)(e:x=y):K (.val (.bool y)) m h:=e▸c
theorem ZN{v:VV}(c:K (cB (lD v)) m h):GO v m h K:=by
 dsimp only[GO,push_cast]
 repeat' (first|(refine aB (λ_=>?_) (λ_=>?_))|(refine iV c ?_;simp_all [lD,Fj]))
theorem iB{f:FuncId}{fn:Func}(n:Tryz.prog.funcs[f]? =some fn){S:Vc.Spec}(j:∀c m h K,S c m h K->∃C:Ctx,C.P=Tryz.prog/\(∀g S,assoc C.specs g=some S->bk g S)/\∃N:Prop,N=sC C fn (cC fn) (entry fn.ntmps c m h) K/\N)(s:fn.body=some (cC fn):=by rfl)(d:(fn.name== "runtime.NumGoroutine")=false:=by decide):bk f S:=eV n s d λc m h K t=>let⟨C,hC,hs,N,e,hn⟩:=j c m h K t;⟨C,hC,hs,e▸hn⟩
theorem QL:bk 93 beQ:=by
 refine iB func93 ?_;rintro c m h K ⟨k,rfl,d⟩;refine⟨ctx [] [] [] [] false,rfl,aF,Va k m h K,bf,?_⟩;dsimp only[Va,push_cast]
 repeat' (first|(refine aB (λ_=>?_) (λ_=>?_))|(refine iV d ?_;simp_all [dC]))
theorem Xn:bk 220 Pm:=by
 refine iB func220 ?_;rintro c m h K ⟨v,rfl,d⟩;refine⟨ctx [] [] [] [] false,rfl,aF,GO v m h K,bf,?_⟩;exact ZN d
theorem OW:bk 164 Pm:=by
 refine eV (fn:=Tryz.f164) (c:=cC Tryz.f164) func164 rfl bh ?_;rintro d m h K ⟨v,rfl,e⟩;refine⟨ctx [] [] [] [] false,rfl,aF,?_⟩;rw[<-bAX v m h K];exact ZN e
theorem XK:bk 191 Sm:=by
 refine iB func191 ?_;rintro c m h K ⟨v,rfl,d⟩;refine⟨ctx [(220,Pm)] [] [] [] false,rfl,aD Xn aF,Rh v m h K,bf,?_⟩;dsimp only[Rh,push_cast];refine⟨v,rfl,?_⟩
 repeat' (first|(refine aB (λ_=>?_) (λ_=>?_))|(refine iV d ?_;simp_all [l9]))
theorem EH:bk 168 Sm:=by
 refine iB func168 ?_;rintro g m h K ⟨v,rfl,e⟩;refine⟨ctx [(164,Pm)] [] [] [] false,rfl,aD OW aF,Rm v m h K,bf,?_⟩;dsimp only[Rm,push_cast];refine⟨v,rfl,?_⟩;refine aB (λc=>aB (λd=>iV e ?_) (λd=>iV e ?_)) (λc=>iV e ?_)
 .have d:v.kind≠1:=bj d
  by_cases f:v.kind=2
  .simp[l9,c,f]
  .have:3<=v.kind:=by
    simp only[lD]at c
    repeat' split at c
    all_goals first|(simp_all;done)|skip
    all_goals simp_all
   simp[l9,c,f,this]
 .have d:v.kind=1:=bj d
  simp[l9,d]
 .simp[l9,c]
theorem xL{α:Type}{p:α->Bool}{l:List α}{x:α}(hx:l[i]? =some x):(l.take (i+1)).all p=((l.take i).all p&&p x):=by
 rw[take_add_one,all_append,hx];simp
theorem Bm{α:Type}{p:α->Bool}{l:List α}{x:α}(hx:l[i]? =some x)(c:p x=false):l.all p=false:=by
 rw[all_eq_false];exact⟨x,mem_of_getElem? hx,by simp[c]⟩
theorem ak:bk 52 Pz:=by
 refine iB func52 ?_;rintro n m h K ⟨s,l,rfl,c,g⟩;refine⟨f52_ctx s l m h,rfl,aD QL aF,aj s l m h K,bf,?_⟩;dsimp only[aj,push_cast];have D:=c.slen;have E:=c.len;refine⟨⟨0,⟨aC,bg⟩,rfl,rfl,rfl,rfl,rfl,trivial⟩,λi j=>aE (λd=>?_) (λt=>?_)⟩
 .obtain⟨x,e⟩:∃x,l[i]? =some x:=⟨l[i]'(by omega),getElem?_eq_getElem _⟩
  obtain⟨u,y,z,A⟩:=c.at e;refine⟨u,y,z,aC,d,x,.imm (bj A),x,rfl,aB (λf=>iV g ?_) (λf=>?_)⟩
  .exact Bm e (bj f)
  .refine⟨i+1,⟨aC,?_⟩,aC,rfl,rfl,by rw[iJ aC],rfl,rfl,trivial⟩;rw[xL e,j.2];simpa using f
 .refine iV g ?_;have:=j.2
  rwa [take_of_length_le aC]at this
theorem Yb:bk 153 Pz:=by
 refine iB func153 ?_;rintro t m h K ⟨s,l,rfl,d,j⟩;refine⟨aXQ s l m h,rfl,aF,Ry s l m h K,bf,?_⟩;dsimp only[Ry,push_cast];have F:=d.slen;have G:=d.len;refine⟨⟨0,⟨aC,bg⟩,rfl,rfl,rfl,rfl,rfl,trivial⟩,λi n=>aE (λe=>?_) (λu=>?_)⟩
 .obtain⟨x,f⟩:∃x,l[i]? =some x:=⟨l[i]'(by omega),getElem?_eq_getElem _⟩
  obtain⟨z,A,D,E⟩:=d.at f;have c:dC x=true->(l.take (i+1)).all dC=true:=λg=>by rw[xL f,n.2,g];rfl
  refine⟨z,A,D,aC,e,x,.imm (bj E),?_⟩;have next:dC x=true->∃(y:Nat),(y<=l.length/\(l.take y).all dC=true)/\l.length-y<l.length-i/\y=i+1:=λg=>⟨i+1,⟨aC,c g⟩,aC,rfl⟩
  repeat' (first|(refine aB (λ_=>?_) (λ_=>?_))|(refine iV j (Bm f ?_);simp_all [dC];done)|(refine⟨i+1,⟨aC,c (by simp_all [dC])⟩,aC,rfl,rfl,by rw[iJ aC],rfl,rfl,trivial⟩))
 .refine iV j ?_;have:=n.2
  rwa [take_of_length_le aC]at this
def ZR(a b:VV):Bool:=a.kind==b.kind&&(a.int==b.int&&(a.text.toList==b.text.toList&&true))
def Wz(a b:OV):Bool:=a.kind==b.kind&&(a.index==b.index&&(ZR a.value b.value&&true))
theorem eO{f:Field}{g:List Field}{d:Nat}{xs c:Array Value}{w:World}{x y:Value}{r r':Bool}(e:(f.name== "_")=false)(hx:yC Tryz.prog (part f.type xs f.offset)=some x)(j:yC Tryz.prog (part f.type c f.offset)=some y)
 (n:(Op.equalIn d f.type x y).run Tryz.prog w= .ok r w)(s:(Op.eqFields d xs c g).run Tryz.prog w= .ok r' w):(Op.eqFields d xs c (f::g)).run Tryz.prog w= .ok (r&&r') w:=by
 have e:f.name≠ "_" :=bj e
 simp only[Op.eqFields,if_pos e,Sem.run_bind,yB _ _ _ hx,yB _ _ _ j,Result.andThen_ok,n];cases r
 .simp
 .simpa using s
noncomputable def Hh(t k:Nat):Field:=(Tryz.prog.fieldsOf t).toList.getD k default
theorem ZQ(a b:VV)(d:Nat)(w:World):(Op.equalIn (d+2) 24 (.agg #[.int .i64 a.kind,.int .i64 a.int,.string a.text]) (.agg #[.int .i64 b.kind,.int .i64 b.int,.string b.text])).run Tryz.prog w= .ok (ZR a b) w:=by
 rw[run_equalIn_struct w (d+1) 24 _ _ bf bf,show(Tryz.prog.fieldsOf 24).toList=[Hh 24 0,Hh 24 1,Hh 24 2]by kernel_rfl];refine eO (x:=.int .i64 a.kind) (y:=.int .i64 b.kind) bf bf bf (run_equalIn_int w d _ .i64 .i64 _ _ bf) ?_;refine eO (x:=.int .i64 a.int) (y:=.int .i64 b.int) bf bf bf (run_equalIn_int w d _ .i64 .i64 _ _ bf) ?_;refine eO (x:=.string a.text) (y:=.string b.text) bf bf bf (run_equalIn_string w d _ _ _ bf) ?_;simp[Op.eqFields]
theorem bBX(a b:OV)(d:Nat)(w:World):(Op.equalIn (d+3) 26 (.agg #[.int .i64 a.kind,.int .i64 a.index,.int .i64 a.value.kind,.int .i64 a.value.int,.string a.value.text]) (.agg #[.int .i64 b.kind,.int .i64 b.index,.int .i64 b.value.kind,.int .i64 b.value.int,.string b.value.text])).run Tryz.prog w= .ok (Wz a b) w:=by
 rw[run_equalIn_struct w (d+2) 26 _ _ bf bf,show(Tryz.prog.fieldsOf 26).toList=[Hh 26 0,Hh 26 1,Hh 26 2]by kernel_rfl];refine eO (x:=.int .i64 a.kind) (y:=.int .i64 b.kind) bf bf bf (run_equalIn_int w (d+1) _ .i64 .i64 _ _ bf) ?_;refine eO (x:=.int .i64 a.index) (y:=.int .i64 b.index) bf bf bf (run_equalIn_int w (d+1) _ .i64 .i64 _ _ bf) ?_;refine eO (x:=.agg #[.int .i64 a.value.kind,.int .i64 a.value.int,.string a.value.text]) (y:=.agg #[.int .i64 b.value.kind,.int .i64 b.value.int,.string b.value.text]) bf bf bf ?_ ?_
 .rw[show(Hh 26 2).type=24 by kernel_rfl];exact ZQ a.value b.value d w
 .simp[Op.eqFields]
theorem Ts(a b:VV):StructEq Tryz.prog 24 (.agg #[.int .i64 a.kind,.int .i64 a.int,.string a.text]) (.agg #[.int .i64 b.kind,.int .i64 b.int,.string b.text]) (ZR a b):=
 ⟨bf,λw=>ZQ a b 9998 w⟩
theorem Af(a b:OV):StructEq Tryz.prog 26 (.agg #[.int .i64 a.kind,.int .i64 a.index,.int .i64 a.value.kind,.int .i64 a.value.int,.string a.value.text]) (.agg #[.int .i64 b.kind,.int .i64 b.index,.int .i64 b.value.kind,.int .i64 b.value.int,.string b.value.text]) (Wz a b):=
 ⟨bf,λw=>bBX a b 9997 w⟩
theorem o9{a b:ByteArray}(h:a.toList=b.toList):a=b:=by
 rw[ByteArray.toList_eq,ByteArray.toList_eq]at h;cases a;cases b;simp only[ByteArray.mk.injEq];exact Array.toList_inj.1 h
theorem Tt{a b:VV}:ZR a b=true↔a=b:=by
 obtain⟨k,i,t⟩:=a;obtain⟨f,g,j⟩:=b;simp only[ZR,Bool.and_true,Bool.and_eq_true,beq_iff_eq,VV.mk.injEq];exact⟨λ⟨c,d,e⟩=>⟨c,d,o9 e⟩,λ⟨c,d,e⟩=>⟨c,d,by rw[e]⟩⟩
theorem oH{a b:OV}:Wz a b=true↔a=b:=by
 obtain⟨k,i,t⟩:=a;obtain⟨c,d,e⟩:=b;simp only[Wz,Bool.and_true,Bool.and_eq_true,beq_iff_eq,OV.mk.injEq,Tt]
def zeroV:VV:=⟨0,0,⟨#[]⟩⟩
def dR:OV:=⟨0,0,zeroV⟩
def pB(l:br)(o:OV):Int:=if o.index<0||o.index>=l.length|| !ZR o.value zeroV then 0 else l.getD o.index.toNat 0
def kindOf(cols params:br)(o:OV):Int:=
 if o.kind==3 then(if o.index !=0|| !l9 o.value then 0 else o.value.kind)
 else if o.kind==2 then pB params o
 else if o.kind==1 then pB cols o
 else 0
def v7(v:PV):Bool:=v.cmp==0&&Wz v.left dR&&Wz v.right dR
def aO(o:OV):CV:=.val (.agg #[.int .i64 o.kind,.int .i64 o.index,.int .i64 o.value.kind,.int .i64 o.value.int,.string o.value.text])
def aP(p:PV):CV:=.val (.agg #[.int .i64 p.op,.int .i64 p.cmp,
 .int .i64 p.left.kind,.int .i64 p.left.index,.int .i64 p.left.value.kind,.int .i64 p.left.value.int,.string p.left.value.text,
 .int .i64 p.right.kind,.int .i64 p.right.index,.int .i64 p.right.value.kind,.int .i64 p.right.value.int,.string p.right.value.text,
 .slice p.args.a p.args.len p.args.cap])
def a2S(s t:Sl):CV:=.val (.agg #[.slice s.a s.len s.cap,.slice t.a t.len t.cap])
def bcJ:Vc.Spec:=λc m h K=>∃v,c=[aP v]/\K (cB (v7 v)) m h
def abZ:Vc.Spec:=λe m h K=>∃s t d c o,e=[cS s,cS t,aO o]/\Ints h s d/\Ints h t c/\K (cI (kindOf d c o)) m h
def Wr:Vc.Spec:=λe m h K=>∃s t d c o,e=[a2S s t,aO o]/\Ints h s d/\Ints h t c/\K (cI (kindOf d c o)) m h
abbrev w9(a:Nat)(b c:bm)(d:Bool):Prop:=StructEq Proofs.Tryz.prog a (Value.agg (Array.mk b)) (Value.agg (Array.mk c)) d
noncomputable abbrev bA(a b:Value)(c:bm):bm:=a::b::c
noncomputable abbrev bJ:Value:=fD 0
abbrev Ep(a:bm)(b:Bool):Prop:=w9 26 a (bA bJ bJ (bA bJ bJ (jD PN))) b
noncomputable abbrev w8(a:PV):bm:=a.right.enc
attribute [push_cast] w9 bA bJ Ep w8
def Rr(v:PV)(m:MH)(h:PH)(K:bo):Prop:=
  eD v.cmp 0 (∃(r:Bool),gK (Ep v.left.enc r) r (∃(c:Bool),Ep (w8 v) c/\K (Ah c) m h) (K aX m h)) (K aX m h)
noncomputable abbrev oP(a:OV):Int:=a.value.kind
abbrev fO(a b:Int)(c d:Prop):Prop:=branch (decide (a>=b)) c d
noncomputable abbrev wQ:bm:=bA bJ bJ (jD PN)
attribute [push_cast] oP fO wQ
def G0(s t:Sl)(o:OV)(m:MH)(h:PH)(K:bo):Prop:=
  dN (o.kind==3) (cO o.index 0 (K (fQ 0) m h) (∃(v:VV),gK (qD o.value=qD v) (!(l9 v)) (K (fQ 0) m h) (K (fQ (oP o)) m h))) (o.kind==2) (aZ o.index 0 (K (fQ 0) m h) (fO o.index (aG t) (K (fQ 0) m h) (∃(r:Bool),gK (w9 24 o.value.enc wQ r) (!r) (K (fQ 0) m h) (aK (λb c=>aA (aL t.a b c) (0<=o.index) (o.index<aG t/\∃(y:Int),aJ m h b (fX c o.index 1) (bL y)/\K (fQ y) m h)))))) (eD o.kind 1 (aZ o.index 0 (K (fQ 0) m h) (fO o.index (aG s) (K (fQ 0) m h) (∃(r:Bool),gK (w9 24 o.value.enc wQ r) (!r) (K (fQ 0) m h) (aK (λb c=>aA (aL s.a b c) (0<=o.index) (o.index<aG s/\∃(y:Int),aJ m h b (fX c o.index 1) (bL y)/\K (fQ y) m h)))))) (K (fQ 0) m h))
theorem Ap{x y:Int}(c:K (cI x) m h)(e:x=y):K (.val (.int .i64 y)) m h:=e▸c
theorem Ints.inb{s:Sl}(r:Ints h s l){n:Int}(d:0<=n)(f:n<(l.length:Int)):∃b o,s.a=some ⟨b,o,none⟩/\bT h b (o+n.toNat*1) [.int .i64 (l.getD n.toNat 0)]:=by
 have c:l[n.toNat]? =some (l.getD n.toNat 0):=by
  rw[getD_eq_getElem?_getD,getElem?_eq_getElem aC];simp
 obtain⟨b,o,e,r⟩:=r.at c;exact⟨b,o,e,bj r⟩
theorem ZP{s t:Sl}{cols params:br}{o:OV}(A:Ints h s cols)(D:Ints h t params)(c:K (cI (kindOf cols params o)) m h):G0 s t o m h K:=by
 have E:=A.slen;have F:=D.slen;dsimp only[G0,push_cast];refine aB (λG=>aB (λy=>Ap c ?_) (λy=>⟨o.value,rfl,aB (λd=>Ap c ?_) (λd=>Ap c ?_)⟩)) (λG=>aB (λy=>?_) (λy=>aB (λd=>?_) (λd=>Ap c ?_)))
 .simp_all [kindOf]
 .simp_all [kindOf]
 .simp_all [kindOf]
 .have z:kindOf cols params o=pB params o:=by simp_all [kindOf]
  rw[z]at c;refine aE (λd=>Ap c ?_) (λd=>aE (λg=>Ap c ?_) (λg=>⟨ZR o.value zeroV,Ts o.value zeroV,aB (λf=>Ap c ?_) (λf=>?_)⟩))
  .simp[pB,d]
  .rw[F]at g;simp[pB,g]
  .simp only[Bool.not_eq_true']at f;simp[pB,f]
  .obtain⟨b,j,e,r⟩:=D.inb (n:=o.index) aC aC;refine⟨b,j,e,aC,aC,_,.imm r,Ap c ?_⟩;have u:¬o.index>=params.length:=by omega
   simp only[Bool.not_eq_false']at f;simp[pB,d,u,f]
 .have z:kindOf cols params o=pB cols o:=by simp_all [kindOf]
  rw[z]at c;refine aE (λd=>Ap c ?_) (λd=>aE (λg=>Ap c ?_) (λg=>⟨ZR o.value zeroV,Ts o.value zeroV,aB (λf=>Ap c ?_) (λf=>?_)⟩))
  .simp[pB,d]
  .rw[E]at g;simp[pB,g]
  .simp only[Bool.not_eq_true']at f;simp[pB,f]
  .obtain⟨b,j,e,r⟩:=A.inb (n:=o.index) aC aC;refine⟨b,j,e,aC,aC,_,.imm r,Ap c ?_⟩;have u:¬o.index>=cols.length:=by omega
   simp only[Bool.not_eq_false']at f;simp[pB,d,u,f]
 .simp_all [kindOf]
theorem X6:bk 160 bcJ:=by
 refine iB func160 ?_;rintro d m h K ⟨v,rfl,c⟩;refine⟨ctx [] [] [] [] false,rfl,aF,Rr v m h K,bf,?_⟩;dsimp only[Rr,push_cast];refine aB (λe=>⟨Wz v.left dR,Af v.left dR,aB (λf=>⟨Wz v.right dR,Af v.right dR,iV c ?_⟩) (λf=>iV c ?_)⟩) (λe=>iV c ?_)
 all_goals simp_all [v7]
theorem X5:bk 161 abZ:=by
 refine iB func161 ?_;rintro e m h K ⟨s,t,d,c,o,rfl,f,g,j⟩;refine⟨ctx [(191,Sm)] [] [] [] false,rfl,aD XK aF,G0 s t o m h K,bf,?_⟩;exact ZP f g j
theorem XL:bk 190 Wr:=by
 refine iB func190 ?_;rintro e m h K ⟨s,t,d,c,o,rfl,f,g,j⟩;refine⟨ctx [(168,Sm)] [] [] [] false,rfl,aD EH aF,G0 s t o m h K,bf,?_⟩;exact ZP f g j
def Pred.args:Pred->cm
 |.mk _ _ _ _ l=>l
mutual
def oM:Pred->Int->Int
 |.mk _ _ _ _ args,n=>kX args (n+1)
def kX:cm->Int->Int
 |[],n=>n
 |p::ps,n=>if n<=24 then kX ps (oM p n)else n
end
mutual
def mF:Pred->Nat->Bool
 |.mk _ _ _ _ _,0=>true
 |.mk _ _ _ _ args,n+1=>uH args n
def uH:cm->Nat->Bool
 |[],_=>false
 |p::ps,n=>mF p n||uH ps n
end
mutual
theorem DG:∀(p:Pred)(n:Int),n<=24->n<oM p n/\oM p n<=25
 |.mk _ _ _ _ args,n,h=>by
  have:=Hb args (n+1) aC;simp only[oM];omega
theorem Hb:∀(ps:cm)(n:Int),n<=25->n<=kX ps n/\kX ps n<=25
 |[],n,h=>by simp only[kX];omega
 |p::ps,n,h=>by
  simp only[kX];split
  .rename_i c;have d:=DG p n c;have e:=Hb ps (oM p n) d.2;omega
  .omega
end
theorem SY(ps:cm){n:Int}(h:¬n<=24):kX ps n=n:=by
 cases ps
 .simp[kX]
 .simp only[kX,if_neg h]
theorem JC(n:Nat):∀ps:cm,uH ps n=ps.any (mF · n)
 |[]=>by simp[uH]
 |p::ps=>by simp[uH,JC n ps]
theorem Ai{p:Pred}{q:Pred}(h:q∈p.args):SizeOf.sizeOf q<SizeOf.sizeOf p:=by
 cases p with
 |mk op c l r args=>
  have:=sizeOf_lt_of_mem h;simp only[Pred.args]at this;simp only[Pred.mk.sizeOf_spec];omega
theorem eW.open{v:PV}(r:eW h p v):p.args.length<=502633886983/\v.args.len=p.args.length/\∀(i:Nat)(q:Pred),p.args[i]? =some q->∃b o u,v.args.a=some ⟨b,o,none⟩/\bT h b (o+i*13) (PV.enc u)/\eW h q u:=by
 cases p with
 |mk op f l t args=>
  obtain⟨y,z,A,D,g,E,c,d⟩:=r;have F:=d.length;refine⟨g,?_,λi q j=>?_⟩
  .have:=c.len;simp at this;simp only[Pred.args];omega
  .obtain⟨u,n,s⟩:=d.get j;obtain⟨b,o,e,r⟩:=c.get (i:=i) (e:=PV.enc u) (by simp[n]);exact⟨b,o,u,e,r,s⟩
def Y3(N:Nat):Vc.Spec:=λc m h K=>∃v p k,c=[aP v,cI k]/\eW h p v/\SizeOf.sizeOf p<N/\0<=k/\k<=24/\K (cI (oM p k)) m h
def TR(N:Nat):Vc.Spec:=λc m h K=>∃v p,∃k:Nat,c=[aP v,cI k]/\eW h p v/\SizeOf.sizeOf p<N/\k<=100/\K (cB (mF p k)) m h
noncomputable def a2J(N:Nat)(v:PV)(p:Pred)(k:Int)(m:MH)(h:PH):Ctx:=
 ctx [(109,Y3 N)] [(3,{A:=Nat×Int,st:=λx=>bO 27 29 [(1,iv x.2),(2,.at (.ptr 2 0)),(5,iv x.1)] [(2,.cells 29 (v.enc.map .val))] m h,inv:=λx=>x.1<=p.args.length/\0<=x.2/\x.2<=25/\kX (p.args.drop x.1) x.2=oM p k,mu:=λx=>p.args.length-x.1})] [] [] false
noncomputable def a2Z(N:Nat)(v:PV)(p:Pred)(k:Nat)(m:MH)(h:PH):Ctx:=
 ctx [(110,TR N)] [Fu 4 (λi=>bO 23 25 [(1,iv k),(2,.at (.ptr 2 0)),(10,iv v.args.len),(11,iv i)] [(2,.cells 29 (v.enc.map .val))] m h) (λi=>i<=p.args.length/\(p.args.take i).any (mF · (k-1))=false) (λi=>p.args.length-i)] [] [] false
noncomputable abbrev r9(a:Pred):Nat:=a.args.length
abbrev MA(a:Nat×Int)(b:Pred)(c d e:Int):Prop:=aA (a.1<=r9 b) (c<=a.2) (a.2<=d/\kX (List.drop a.1 b.args) a.2=oM b e)
abbrev cQ(a b:Int):Prop:=fP a=fP b
abbrev gI:Prop:=eP 2
noncomputable abbrev uB(a:Nat)(b:bm):Option Go.Vc.Own:=oQ a (List.map At.val b)
abbrev lS(a:PV):Prop:=eQ (uB 29 a.enc)
abbrev M4(a:Option Addr)(b:Nat)(c:Sl)(d:Nat->Nat->PV->Prop):Prop:=aK (λx e=>aA (aL a x e) (0<=(↑b:Int)) ((↑b:Int)<aG c/\∃(f:PV),d x e f))
abbrev rA(a:PV->Pred->Prop):Prop:=∃(x:PV)(c:Pred),a x c
noncomputable abbrev gJ(a b:CV):cq:=a::tT b
noncomputable abbrev aW(a:CV)(b:Int):cq:=gJ a (fQ b)
abbrev pU(a:Pred)(b:Nat):Prop:=SizeOf.sizeOf a<b
abbrev cF(a:Int):Prop:=0<=a
attribute [push_cast] r9 MA cQ gI uB lS M4 rA gJ aW pU cF
def RY(N:Nat)(v:PV)(p:Pred)(k:Int)(m:MH)(h:PH)(K:bo):Prop:=
  (∃(x:Nat×Int),aA (MA x p 0 25 k) (cQ (eT (k+1)) x.2) (aA gI (bC x.1) (dK (lS v) m m h h)))/\∀(x:Nat×Int),MA x p 0 25 k->aZ (↑x.1:Int) (aG v.args) (branch (decide (x.2<=24)) (M4 v.args.a x.1 v.args (λb o y=>aJ m h b (bK o x.1 13) y.enc/\rA (λf e=>∃(c:Int),aA (aW (jR y.enc) x.2=aW (jR f.enc) c) (eW h e f) (aA (pU e N) (cF c) (c<=24/\∃(d:Nat×Int),aA (MA d p 0 25 k) (r9 p-d.1<r9 p-x.1) (aA (cQ (oM e c) d.2) gI (aA (bD (fP (bE x.1 1)) d.1) (lS v) (aA (m=m) (h=h) True)))))))) (K (fQ x.2) m h)) (K (fQ x.2) m h)
abbrev MB(a:Nat)(b:Pred)(c:Pred->Pred)(d:Nat):Prop:=a<=r9 b/\List.any (List.take a b.args) (fun(x:Pred)=>mF (c x) (d-1))=false
abbrev qW(a:Nat):Prop:=eQ (fP (↑a:Int))
abbrev rP(a:PV):Prop:=bG a.args
abbrev j4(a:Prop):Prop:=a/\True
abbrev bX(a b:PH):Prop:=j4 (a=b)
attribute [push_cast] MB qW rP j4 bX
def RX(N:Nat)(v:PV)(p:Pred)(k:Nat)(m:MH)(h:PH)(K:bo):Prop:=
  eD (↑k:Int) 0 (K gL m h) (jP (∃(x:Nat),aA (MB x p (λc=>c) k) (qW k) (aA gI (rP v) (aA (bC x) (lS v) (aA (m=m) (h=h) True)))) (λx=>MB x p (λc=>c) k->aZ (↑x:Int) (aG v.args) (aK (λb o=>aA (aL v.args.a b o) (0<=(↑x:Int)) ((↑x:Int)<aG v.args/\∃(y:PV),aJ m h b (bK o x 13) y.enc/\rA (λg d=>∃(e:Nat),aA (aW (jR y.enc) (eT ((↑k:Int)-1))=aW (jR g.enc) (↑e:Int)) (eW h d g) (aA (pU d N) (e<=100) (branch (mF d e) (K gL m h) (∃(f:Nat),aA (MB f p (λc=>c) k) (r9 p-f<r9 p-x) (aA (qW k) gI (aA (rP v) (bD (fP (bE x 1)) f) (aA (lS v) (m=m) (bX h h))))))))))) (K aX m h)))
theorem VX:∀N,bk 109 (Y3 N)
 |0=>by
  refine eV (fn:=Tryz.f109) (c:=cC Tryz.f109) func109 rfl bh ?_;rintro t m h K ⟨v,p,k,rfl,E,H,_⟩;omega
 |N+1=>by
  refine iB func109 ?_;rintro t m h K ⟨v,p,k,rfl,E,H,O,Q,F⟩;refine⟨a2J N v p k m h,rfl,aD (VX N) aF,RY N v p k m h K,bf,?_⟩;dsimp only[RY,push_cast];obtain⟨R,G,e⟩:=E.open;refine⟨⟨(0,k+1),⟨bg,by simp;omega,by simp;omega,?_⟩,by rw[eG aC aC],rfl,rfl,rfl,rfl,rfl,trivial⟩,?_⟩
  .cases p;simp[oM,Pred.args]
  rintro⟨i,n⟩ ⟨I,f,y,g⟩;simp only at I f y g;refine aE (λj=>aE (λd=>?_) (λd=>Ap F ?_)) (λz=>Ap F ?_)
  .simp only at j d;obtain⟨q,s⟩:∃q,p.args[i]? =some q:=⟨p.args[i]'(by omega),getElem?_eq_getElem _⟩
   obtain⟨b,o,u,J,A,D⟩:=e i q s
   have M:p.args.drop i=q::p.args.drop (i+1):=by
    rw[drop_eq_getElem_cons aC];rw[getElem?_eq_getElem aC]at s;simp at s;rw[s]
   have S:=DG q n d;refine⟨b,o,J,bg,bj j,u,.imm (bj A),u,q,n,rfl,D,?_,f,d,(i+1,oM q n),⟨by simp only;omega,by simp only;omega,by simp only;omega,?_⟩,by simp only;omega,rfl,rfl,by rw[iJ aC],rfl,rfl,rfl,trivial⟩
   .have:=Ai (mem_of_getElem? s);omega
   .rw[M,kX,if_pos d]at g;exact g
  .rw[<-g,SY _ d]
  .rw[<-g,drop_of_length_le (by simp only at z;omega)];simp[kX]
theorem VW:∀N,bk 110 (TR N)
 |0=>by
  refine eV (fn:=Tryz.f110) (c:=cC Tryz.f110) func110 rfl bh ?_;rintro n m h K ⟨v,p,k,rfl,D,H,_⟩;omega
 |N+1=>by
  refine iB func110 ?_;rintro n m h K ⟨v,p,k,rfl,D,H,M,f⟩;refine⟨a2Z N v p k m h,rfl,aD (VW N) aF,RX N v p k m h K,bf,?_⟩;dsimp only[RX,push_cast];obtain⟨O,E,d⟩:=D.open;refine aB (λg=>iV f ?_) (λg=>?_)
  .have:k=0:=by have:(k:Int)=0:=(bj g);omega
   subst this;cases p;simp[mF]
  .have g:k≠0:=by intro e;subst e;simp at g
   have s:mF p k=p.args.any (mF · (k-1)):=by
    obtain⟨F,rfl⟩:∃F,k=F+1:=⟨k-1,aC⟩
    cases p;simp[mF,JC,Pred.args]
   rw[s]at f;refine⟨⟨0,⟨aC,bg⟩,rfl,rfl,rfl,rfl,rfl,rfl,rfl,trivial⟩,λi G=>aE (λt=>?_) (λI=>iV f ?_)⟩
   .obtain⟨q,j⟩:∃q,p.args[i]? =some q:=⟨p.args[i]'(by omega),getElem?_eq_getElem _⟩
    obtain⟨b,o,u,J,y,z⟩:=d i q j;refine⟨b,o,J,aC,t,u,.imm (bj y),u,q,k-1,?_,z,?_,aC,aB (λA=>iV f ?_) (λA=>?_)⟩
    .rw[eG aC aC,show((k-1:Nat):Int)=(k:Int)-1 by omega]
    .have:=Ai (mem_of_getElem? j);omega
    .rw[any_eq_true];exact⟨q,mem_of_getElem? j,A⟩
    .refine⟨i+1,⟨aC,?_⟩,aC,rfl,rfl,rfl,by rw[iJ aC],rfl,rfl,rfl,trivial⟩;rw[take_add_one,any_append,G.2,j];simpa using A
   .have:=G.2
    rwa [take_of_length_le aC]at this
def DD(c:Int)(l r:OV):Bool:=c==0&&Wz l dR&&Wz r dR
mutual
def iK(cols params:br):Pred->Bool
 |.mk op c l r args=>
  if op==1||op==2 then DD c l r&&args.length==0
  else if op==3 then args.length==0&&c>=1&&c<=6&&kindOf cols params l !=0&&kindOf cols params l==kindOf cols params r
  else if op==4||op==5||(op==6&&args.length==1)then DD c l r&&vT cols params args
  else false
def vT(cols params:br):cm->Bool
 |[]=>true
 |p::ps=>iK cols params p&&vT cols params ps
end
theorem E8(cols params:br):∀ps:cm,vT cols params ps=ps.all (iK cols params)
 |[]=>by simp[vT]
 |p::ps=>by simp[vT,E8 cols params ps]
structure Mo(cols params:br)(v:PV)(p:Pred):Prop where
 eq:iK cols params p=(v7 v&&p.args.all (iK cols params))
def TH(N:Nat):Vc.Spec:=λe m h K=>∃s t d c v p,e=[cS s,cS t,aP v]/\Ints h s d/\Ints h t c/\eW h p v/\SizeOf.sizeOf p<N/\K (cB (iK d c p)) m h
def Pn(N:Nat):Vc.Spec:=λe m h K=>∃s t d c v p,e=[a2S s t,aP v]/\Ints h s d/\Ints h t c/\eW h p v/\SizeOf.sizeOf p<N/\K (cB (iK d c p)) m h
noncomputable def a2X(N:Nat)(s t:Sl)(cols params:br)(v:PV)(p:Pred)(m:MH)(h:PH):Ctx:=
 ctx [(111,TH N),(160,bcJ),(161,abZ)] [Fu 17 (λi=>bO 84 87 [(0,sv s),(1,sv t),(5,.at (.ptr 5 0)),(70,iv v.args.len),(71,iv i)] [(5,.cells 29 (v.enc.map .val))] m h) (λi=>i<=p.args.length/\(p.args.take i).all (iK cols params)=true) (λi=>p.args.length-i)] [(14,{A:=Unit,st:=λ_=>bO 84 87 [(0,sv s),(1,sv t),(5,.at (.ptr 5 0))] [(5,.cells 29 (v.enc.map .val))] m h,inv:=λ_=>Mo cols params v p})] [] false
noncomputable def aWZ(N:Nat)(s t:Sl)(cols params:br)(v:PV)(p:Pred)(m:MH)(h:PH):Ctx:=
 ctx [(155,Pn N),(190,Wr)] [Fu 18 (λi=>bO 87 89 [(2,.at (.ptr 2 0)),(3,.at (.ptr 3 0)),(76,sv v.args),(77,iv v.args.len),(78,iv i)] [(2,.cells 210 [.val (.slice s.a s.len s.cap),.val (.slice t.a t.len t.cap)]),(3,.cells 29 (v.enc.map .val))] m h) (λi=>i<=p.args.length/\(p.args.take i).all (iK cols params)=true) (λi=>p.args.length-i)] [(15,{A:=Unit,st:=λ_=>bO 87 89 [(2,.at (.ptr 2 0)),(3,.at (.ptr 3 0))] [(2,.cells 210 [.val (.slice s.a s.len s.cap),.val (.slice t.a t.len t.cap)]),(3,.cells 29 (v.enc.map .val))] m h,inv:=λ_=>Mo cols params v p})] [] false
noncomputable abbrev qC(a:PV):cq:=pY a.enc
noncomputable abbrev tF(a:PV):Int:=aG a.args
abbrev Ar(a:Sl->br->Prop):Prop:=∃(x:Sl)(c:br),a x c
abbrev vE(a:Sl->br->br->Prop):Prop:=Ar (λx c=>∃(d:br),a x c d)
abbrev Ir(a:cq)(b:Sl->Sl->OV->cq)(c:PH)(d:br->br->OV->Prop):Prop:=∃(x:Sl),vE (λe f g=>∃(j:OV),aA (a=b x e j) (Ints c x f) (Ints c e g/\d f g j))
noncomputable abbrev cN(a:Sl)(b:cq):cq:=rC a::b
noncomputable abbrev eJ(a:Sl)(b:CV):cq:=gJ (rC a) b
abbrev dY:Prop:=eP 5
abbrev D7(a:Nat)(b:Pred)(c d:br):Prop:=a<=r9 b/\fS (List.all (List.take a b.args) (iK c d))
attribute [push_cast] qC tF Ar vE Ir cN eJ dY D7
def RW(N:Nat)(s t:Sl)(cols params:br)(v:PV)(p:Pred)(m:MH)(h:PH)(K:bo):Prop:=
  dN (v.op==1) (∃(d:PV),gK (qC v=qC d) (v7 d) (K (Ah (tF v==0)) m h) (K aX m h)) (v.op==2) (∃(d:PV),gK (qC v=qC d) (v7 d) (K (Ah (tF v==0)) m h) (K aX m h)) (dN (v.op==3) (Ir (cN s (eJ t (jR v.left.enc))) (λe f o=>cN e (eJ f (jR o.enc))) h (λc g o=>eD (tF v) 0 (fO v.cmp 1 (branch (decide (v.cmp<=6)) (cO (kindOf c g o) 0 (Ir (cN s (eJ t (jR (w8 v)))) (λe f n=>cN e (eJ f (jR n.enc))) h (λA j n=>K (Ah (kindOf c g o==kindOf A j n)) m h)) (K aX m h)) (K aX m h)) (K aX m h)) (K aX m h))) (v.op==4) (∃(x:Unit),aA (Mo cols params v p) (aH s) (aA (aH t) dY (dK (lS v) m m h h))) (dN (v.op==5) (∃(x:Unit),aA (Mo cols params v p) (aH s) (aA (aH t)
 dY (dK (lS v) m m h h))) (v.op==6) (cO (tF v) 1 (K aX m h) (∃(x:Unit),aA (Mo cols params v p) (aH s) (aA (aH t) dY (dK (lS v) m m h h)))) (K aX m h)))/\∀(_:Unit),Mo cols params v p->∃(d:PV),gK (qC v=qC d) (!(v7 d)) (K aX m h) (jP (∃(x:Nat),aA (D7 x p cols params) (aH s) (aA (aH t) dY (aA (rP v) (bC x) (aA (lS v) (m=m) (bX h h))))) (λx=>D7 x p cols params->aZ (↑x:Int) (aG v.args) (aK (λb o=>aA (aL v.args.a b o) (0<=(↑x:Int)) ((↑x:Int)<aG v.args/\∃(y:PV),aJ m h b (bK o x 13) y.enc/\∃(e:Sl),vE (λf c g=>rA (λz j=>aA (cN s (eJ t (jR y.enc))=cN e (eJ f (jR z.enc))) (Ints h e c) (aA (Ints h f g) (eW h j z) (gK (pU j N)
 (!(iK c g j)) (K aX m h) (∃(u:Nat),aA (D7 u p cols params) (r9 p-u<r9 p-x) (aA (aH s) (aH t) (aA dY (rP v) (aA (bD (fP (bE x 1)) u) (lS v) (dW m m h h)))))))))))) (K gL m h)))
noncomputable abbrev jT(a b:bm):cq:=gJ (jR a) (jR b)
noncomputable abbrev gV(a b:Value):bm:=bA a b []
abbrev iM:Prop:=eP 3
noncomputable abbrev eZ(a b:At)(c:cr):cr:=a::b::c
noncomputable abbrev lX(a b:At):cr:=eZ a b []
abbrev Cq(a b:Sl):Prop:=eQ (oQ 210 (lX (qK a) (qK b)))
attribute [push_cast] jT gV iM eZ lX Cq
def Rw(N:Nat)(s t:Sl)(cols params:br)(v:PV)(p:Pred)(m:MH)(h:PH)(K:bo):Prop:=
  dN (v.op==3) (Ir (jT (gV (dT s) (dT t)) v.left.enc) (λd e o=>jT (gV (dT d) (dT e)) o.enc) h (λc f o=>Ir (jT (gV (dT s) (dT t)) (w8 v)) (λd e j=>jT (gV (dT d) (dT e)) j.enc) h (λA g j=>eD (tF v) 0 (fO v.cmp 1 (branch (decide (v.cmp<=6)) (cO (kindOf c f o) 0 (K (Ah (kindOf c f o==kindOf A g j)) m h) (K aX m h)) (K aX m h)) (K aX m h)) (K aX m h)))) (v.op==1) (cO (tF v) 0 (K aX m h) (∃(x:Unit),aA (Mo cols params v p) gI (aA iM (Cq s t) (dK (lS v) m m h h)))) (dN (v.op==2) (cO (tF v) 0 (K aX m h) (∃(x:Unit),aA (Mo cols params v p) gI (aA iM (Cq s t) (dK (lS v) m m h h)))) (v.op==6) (cO (tF v) 1 (K aX m h) (∃(x:Unit),aA (Mo cols params v p) gI
 (aA iM (Cq s t) (dK (lS v) m m h h)))) (dN (v.op==4) (∃(x:Unit),aA (Mo cols params v p) gI (aA iM (Cq s t) (dK (lS v) m m h h))) (v.op==5) (∃(x:Unit),aA (Mo cols params v p) gI (aA iM (Cq s t) (dK (lS v) m m h h))) (K aX m h)))/\∀(_:Unit),Mo cols params v p->cO v.cmp 0 (K aX m h) (∃(r:Bool),gK (Ep v.left.enc r) (!r) (K aX m h) (∃(u:Bool),gK (Ep (w8 v) u) (!u) (K aX m h) (jP (∃(x:Nat),aA (D7 x p cols params) gI (aA (eP 3) (aH v.args) (aA (rP v) (bC x) (aA (Cq s t) (lS v) (dW m m h h))))) (λx=>D7 x p cols params->aZ (↑x:Int) (aG v.args) (aK (λb o=>aA (aL v.args.a b o) (0<=(↑x:Int)) ((↑x:Int)<aG v.args/\∃(y:PV),aJ m h b (bK o x 13) y.enc/\∃
 (d:Sl),vE (λe c f=>rA (λz g=>aA (jT (gV (dT s) (dT t)) y.enc=jT (gV (dT d) (dT e)) z.enc) (Ints h d c) (aA (Ints h e f) (eW h g z) (gK (pU g N) (!(iK c f g)) (K aX m h) (∃(n:Nat),aA (D7 n p cols params) (r9 p-n<r9 p-x) (aA gI iM (aA (aH v.args) (bG v.args) (aA (bD (fP (bE x 1)) n) (Cq s t) (dK (lS v) m m h h)))))))))))) (K gL m h)))))
theorem eW.top{v:PV}(r:eW h p v):p= .mk v.op v.cmp v.left v.right p.args:=by
 cases p with
 |mk op c l j args=>obtain⟨d,e,f,g,_⟩:=r;simp[Pred.args,d,e,f,g]
theorem Lu{cols params:br}{h:PH}{p:Pred}{v:PV}(r:eW h p v):iK cols params p=if v.op==1||v.op==2 then v7 v&&p.args.length==0
 else if v.op==3 then p.args.length==0&&v.cmp>=1&&v.cmp<=6&&kindOf cols params v.left !=0&&kindOf cols params v.left==kindOf cols params v.right
 else if v.op==4||v.op==5||(v.op==6&&p.args.length==1)then v7 v&&p.args.all (iK cols params)
 else false:=by
 have:=r.top;generalize p.args=xs at this⊢
 subst this;rw[iK,E8];rfl
theorem Na{n:Nat}{k:Nat}:((n:Int)==(k:Int))=(n==k):=by
 apply Bool.eq_iff_iff.2;rw[beq_iff_eq,beq_iff_eq];omega
theorem VU:∀N,bk 111 (TH N)
 |0=>by
  refine eV (fn:=Tryz.f111) (c:=cC Tryz.f111) func111 rfl bh ?_;rintro F m h K ⟨s,t,cols,params,v,p,rfl,_,_,G,X,_⟩;omega
 |N+1=>by
  refine iB func111 ?_;rintro F m h K ⟨s,t,cols,params,v,p,rfl,H,I,G,X,d⟩;refine⟨a2X N s t cols params v p m h,rfl,aD (VU N) (aD X6 (aD X5 aF)),RW N s t cols params v p m h K,bf,?_⟩;obtain⟨hl,j,y⟩:=G.open;have g:=Lu (cols:=cols) (params:=params) G;have J:((v.args.len:Int)==0)=(p.args.length==0):=by rw[j];exact Na (k:=0)
  have V:((v.args.len:Int) !=1)=(p.args.length !=1):=by rw[j];simp only[bne];rw[show(1:Int)=((1:Nat):Int)from rfl,Na]
  dsimp only[RW,push_cast];refine⟨?_,?_⟩
  .refine aB (λe=>⟨v,rfl,aB (λf=>iV d ?_) (λf=>iV d ?_)⟩) (λe=>aB (λn=>⟨v,rfl,aB (λf=>iV d ?_) (λf=>iV d ?_)⟩) (λn=>aB (λf=>⟨s,t,cols,params,v.left,rfl,H,I,?_⟩) (λf=>?_)))
   .rw[g,J];simp[e,f]
   .rw[g];simp[e,f]
   .rw[g,J];simp[n,f]
   .rw[g];simp[n,f]
   .have M:iK cols params p=(p.args.length==0&&v.cmp>=1&&v.cmp<=6&&kindOf cols params v.left !=0&&kindOf cols params v.left==kindOf cols params v.right):=by rw[g];simp[e,n,f]
    rw[M]at d;refine aB (λz=>aB (λD=>aB (λO=>aB (λA=>⟨s,t,cols,params,v.right,rfl,H,I,iV d ?_⟩) (λA=>iV d ?_)) (λO=>iV d ?_)) (λD=>iV d ?_)) (λz=>iV d ?_)
    all_goals (rw[J]at z;simp only[beq_iff_eq,decide_eq_true_eq,decide_eq_false_iff_not]at*;simp[*])
   .refine aB (λz=>⟨(),⟨by rw[g];simp[e,n,f,z]⟩,rfl,rfl,rfl,rfl,rfl,rfl,trivial⟩) (λz=>aB (λD=>⟨(),⟨by rw[g];simp[e,n,f,D]⟩,rfl,rfl,rfl,rfl,rfl,rfl,trivial⟩) (λD=>aB (λO=>aB (λA=>iV d ?_) (λA=>⟨(),⟨?_⟩,rfl,rfl,rfl,rfl,rfl,rfl,trivial⟩)) (λO=>iV d ?_)))
    .rw[V]at A;rw[g];simp_all
    .rw[V]at A;rw[g];simp_all
    .rw[g];simp_all
  .intro _ Q;rw[Q.eq]at d;refine⟨v,rfl,aB (λe=>iV d ?_) (λe=>?_)⟩
   .simp_all
   .have e:v7 v=true:=bj e
    rw[e,Bool.true_and]at d;refine⟨⟨0,⟨aC,bg⟩,rfl,rfl,rfl,rfl,rfl,rfl,rfl,rfl,trivial⟩,λi W=>aE (λR=>?_) (λY=>iV d ?_)⟩
    .obtain⟨q,E⟩:∃q,p.args[i]? =some q:=⟨p.args[i]'(by omega),getElem?_eq_getElem _⟩
     obtain⟨b,o,u,Z,S,T⟩:=y i q E;refine⟨b,o,Z,aC,R,u,.imm (bj S),s,t,cols,params,u,q,rfl,H,I,T,?_,aB (λU=>iV d ?_) (λU=>?_)⟩
     .have:=Ai (mem_of_getElem? E);omega
     .exact Bm E (bj U)
     .refine⟨i+1,⟨aC,?_⟩,aC,rfl,rfl,rfl,rfl,by rw[iJ aC],rfl,rfl,rfl,trivial⟩;rw[xL E,W.2];simpa using U
    .have:=W.2
     rwa [take_of_length_le aC]at this
theorem VM:∀N,bk 155 (Pn N)
 |0=>by
  refine eV (fn:=Tryz.f155) (c:=cC Tryz.f155) func155 rfl bh ?_;rintro I m h K ⟨s,t,cols,params,v,p,rfl,_,_,J,hN,_⟩;omega
 |N+1=>by
  refine iB func155 ?_;rintro I m h K ⟨s,t,cols,params,v,p,rfl,M,O,J,hN,d⟩;refine⟨aWZ N s t cols params v p m h,rfl,aD (VM N) (aD XL aF),Rw N s t cols params v p m h K,bf,?_⟩;obtain⟨hl,y,E⟩:=J.open;have j:=Lu (cols:=cols) (params:=params) J;have Y:((v.args.len:Int)==0)=(p.args.length==0):=by rw[y];exact Na (k:=0)
  have n:((v.args.len:Int) !=0)=(p.args.length !=0):=by simp only[bne];rw[Y]
  have Z:((v.args.len:Int) !=1)=(p.args.length !=1):=by rw[y];simp only[bne];rw[show(1:Int)=((1:Nat):Int)from rfl,Na]
  have z:p.args.length=0->p.args.all (iK cols params)=true:=λe=>by rw[eq_nil_of_length_eq_zero e];rfl
  dsimp only[Rw,push_cast];refine⟨?_,?_⟩
  .refine aB (λA=>⟨s,t,cols,params,v.left,rfl,M,O,s,t,cols,params,v.right,rfl,M,O,?_⟩) (λA=>aB (λe=>aB (λf=>iV d ?_) (λf=>⟨(),⟨?_⟩,rfl,rfl,rfl,rfl,rfl,rfl,trivial⟩)) (λe=>aB (λD=>aB (λf=>iV d ?_) (λf=>⟨(),⟨?_⟩,rfl,rfl,rfl,rfl,rfl,rfl,trivial⟩)) (λD=>aB (λQ=>aB (λF=>iV d ?_) (λF=>⟨(),⟨?_⟩,rfl,rfl,rfl,rfl,rfl,rfl,trivial⟩)) (λQ=>aB (λf=>⟨(),⟨?_⟩,rfl,rfl,rfl,rfl,rfl,rfl,trivial⟩) (λf=>aB (λG=>⟨(),⟨?_⟩,rfl,rfl,rfl,rfl,rfl,rfl,trivial⟩) (λG=>iV d ?_))))))
   .have R:v.op=3:=bj A
    have S:iK cols params p=(p.args.length==0&&v.cmp>=1&&v.cmp<=6&&kindOf cols params v.left !=0&&kindOf cols params v.left==kindOf cols params v.right):=by rw[j];simp[R]
    rw[S]at d;refine aB (λf=>aB (λG=>aB (λQ=>aB (λF=>iV d ?_) (λF=>iV d ?_)) (λQ=>iV d ?_)) (λG=>iV d ?_)) (λf=>iV d ?_)
    all_goals (rw[Y]at f;simp only[beq_iff_eq,decide_eq_true_eq,decide_eq_false_iff_not]at*;simp[*])
   .rw[n]at f;rw[j];simp_all
   .rw[n]at f;rw[j];have g:p.args.length=0:=bj f
    rw[z g,g];simp[e]
   .rw[n]at f;rw[j];simp_all
   .rw[n]at f;rw[j];have g:p.args.length=0:=bj f
    rw[z g,g];simp[D]
   .rw[Z]at F;rw[j];simp_all
   .rw[Z]at F;rw[j];simp_all
   .rw[j];simp[e,D,A,f]
   .rw[j];simp[e,D,A,G]
   .rw[j];simp_all
  .intro _ T;rw[T.eq]at d;refine aB (λe=>iV d ?_) (λe=>⟨Wz v.left dR,Af v.left dR,aB (λD=>iV d ?_) (λD=>⟨Wz v.right dR,Af v.right dR,aB (λA=>iV d ?_) (λA=>?_)⟩)⟩)
   .simp_all [v7]
   .simp_all [v7]
   .simp_all [v7]
   .have e:v7 v=true:=by simp_all [v7]
    rw[e,Bool.true_and]at d;refine⟨⟨0,⟨aC,bg⟩,rfl,rfl,rfl,rfl,rfl,rfl,rfl,rfl,rfl,trivial⟩,λi hi=>aE (λU=>?_) (λa'=>iV d ?_)⟩
    .obtain⟨q,H⟩:∃q,p.args[i]? =some q:=⟨p.args[i]'(by omega),getElem?_eq_getElem _⟩
     obtain⟨b,o,u,ea,V,W⟩:=E i q H;refine⟨b,o,ea,aC,U,u,.imm (bj V),s,t,cols,params,u,q,rfl,M,O,W,?_,aB (λX=>iV d ?_) (λX=>?_)⟩
     .have:=Ai (mem_of_getElem? H);omega
     .exact Bm H (bj X)
     .refine⟨i+1,⟨aC,?_⟩,aC,rfl,rfl,rfl,rfl,by rw[iJ aC],rfl,rfl,rfl,rfl,trivial⟩;rw[xL H,hi.2];simpa using X
    .have:=hi.2
     rwa [take_of_length_le aC]at this
theorem drop_cons{α:Type}{l:List α}{x:α}(h:l[i]? =some x):l.drop i=x::l.drop (i+1):=by
 have c:i<l.length:=(List.getElem?_eq_some_iff.1 h).1;rw[drop_eq_getElem_cons c];rw[getElem?_eq_getElem c]at h;simp at h;rw[h]
mutual
def lQ:Pred->Nat->Int->Bool×Int
 |.mk _ _ _ _ args,k,b=>if b<1 then(false,b-1)else match k with|0=>(false,b-1)|k+1=>vW args k (b-1)
def vW:cm->Nat->Int->Bool×Int
 |[],_,b=>(true,b)
 |p::ps,k,b=>match lQ p k b with|(false,c)=>(false,c)|(true,c)=>vW ps k c
end
mutual
def Mj:Pred->Int
 |.mk _ _ _ _ args=>1+BX args
def BX:cm->Int
 |[]=>0
 |p::ps=>Mj p+BX ps
end
mutual
theorem SH:∀p:Pred,1<=Mj p
 |.mk _ _ _ _ args=>by have:=E9 args;simp only[Mj];omega
theorem E9:∀ps:cm,0<=BX ps
 |[]=>by simp[BX]
 |p::ps=>by have:=SH p;have:=E9 ps;simp only[BX];omega
end
mutual
theorem F3:∀(p:Pred)(n:Int),n<=24->(n+Mj p<=24->oM p n=n+Mj p)/\(24<n+Mj p->oM p n=25)
 |.mk _ _ _ _ args,n,h=>by
  obtain⟨c,d⟩:=N5 args (n+1) aC;simp only[oM,Mj];exact⟨λe=>by rw[c aC];omega,λe=>d aC⟩
theorem N5:∀(ps:cm)(n:Int),n<=25->(n+BX ps<=24->kX ps n=n+BX ps)/\(24<n+BX ps->kX ps n=25)
 |[],n,h=>by
  simp only[kX,BX];omega
 |p::ps,n,h=>by
  have t:=SH p;have u:=E9 ps;simp only[kX,BX];by_cases d:n<=24
  .rw[if_pos d];have g:=F3 p n d;have j:=(DG p n d).2;have c:=N5 ps _ j;by_cases s:n+Mj p<=24
   .have f:=g.1 s;rw[f]at c⊢
    exact⟨λe=>by rw[c.1 aC];omega,λe=>c.2 aC⟩
   .have f:=g.2 aC;rw[f]at c⊢
    exact⟨λe=>by omega,λe=>c.2 aC⟩
  .rw[if_neg d];omega
end
mutual
theorem J3:∀(p:Pred)(k:Nat)(b:Int),0<=b->((lQ p k b).1=true↔Mj p<=b/\mF p k=false)/\((lQ p k b).1=true->(lQ p k b).2=b-Mj p)
 |.mk _ _ _ _ args,k,b,h=>by
  have g:=E9 args;simp only[lQ,Mj];by_cases c:b<1
  .rw[if_pos c];exact⟨⟨λe=>(by cases e),λe=>aC⟩,λe=>(by cases e)⟩
  .rw[if_neg c];cases k with
   |zero=>exact⟨⟨λe=>(by cases e),λe=>(by simp[mF]at e)⟩,λe=>(by cases e)⟩
   |succ k=>
    obtain⟨d,f⟩:=NC args k (b-1) aC;simp only[mF];refine⟨⟨λe=>?_,λe=>d.2 ⟨aC,e.2⟩⟩,λe=>by have:=f e;omega⟩;have:=d.1 e;exact⟨aC,this.2⟩
theorem NC:∀(ps:cm)(k:Nat)(b:Int),0<=b->((vW ps k b).1=true↔BX ps<=b/\uH ps k=false)/\((vW ps k b).1=true->(vW ps k b).2=b-BX ps)
 |[],k,b,h=>by simp[vW,BX,uH,h]
 |p::ps,k,b,h=>by
  obtain⟨c,d⟩:=J3 p k b h;have s:=E9 ps;simp only[vW,BX,uH];cases e:lQ p k b with
  |mk r g=>
   rw[e]at c d;cases r with
   |false=>
    refine⟨⟨λe=>(by cases e),λe=>?_⟩,λe=>(by cases e)⟩;have:=c.2 ⟨aC,(Bool.or_eq_false_iff.1 e.2).1⟩;cases this
   |true=>
    have j:=d rfl;have c:=c.1 rfl;simp only at j;obtain⟨f,n⟩:=NC ps k g aC;refine⟨⟨λe=>?_,λe=>?_⟩,λe=>by have:=n e;simp only;omega⟩
    .have:=f.1 e;exact⟨aC,by rw[c.2,this.2];rfl⟩
    .exact f.2 ⟨aC,(Bool.or_eq_false_iff.1 e.2).2⟩
end
def fI(cols params:br)(p:Pred):Int:=
 if !cols.all dC|| !params.all dC then 1
 else if oM p 0>24||mF p 8 then 2
 else if !iK cols params p then 50 else 0
theorem afX(p:Pred):(lQ p 8 24).1= !(decide (oM p 0>24)||mF p 8):=by
 have d:=(J3 p 8 24 aC).1;have c:=F3 p 0 aC;rw[Bool.eq_iff_iff,d];simp only[Bool.not_eq_true',Bool.or_eq_false_iff,decide_eq_false_iff_not];refine and_congr_left λ_=>⟨λe=>?_,λe=>?_⟩
 .rw[c.1 aC];omega
 .by_cases f:Mj p<=24
  .exact f
  .rw[c.2 aC]at e;omega
def sE(n:Int):Obj:=.cells #[.int .i64 n] 3 (0,0)
def YZ(N:Nat):Vc.Spec:=λc m h K=>∃v p,∃k b:Nat,∃n,c=[aP v,cI (9-k),cP b]/\eW h p v/\SizeOf.sizeOf p<N/\k<=9/\0<=n/\n<=24/\m b=some (sE n)/\∀m',gG m m' b (sE (lQ p k n).2)->K (cB (lQ p k n).1) m' h
noncomputable def aWJ(N:Nat)(v:PV)(p:Pred)(k b:Nat)(n:Int)(m:MH)(h:PH):Ctx:=
 ctx [(154,YZ N)] [(5,{A:=Nat×Int×MH,st:=λx=>bO 36 39 [(1,iv (9-k)),(2,vv (.pointer (some ⟨b,0,none⟩))),(23,sv v.args),(24,iv v.args.len),(25,iv x.1)] [] x.2.2 h,inv:=λx=>x.1<=p.args.length/\0<=x.2.1/\x.2.1<=24/\gG m x.2.2 b (sE x.2.1)/\1<=k/\vW (p.args.drop x.1) (k-1) x.2.1=lQ p k n,mu:=λx=>p.args.length-x.1})] [] [] false
def sJ:Vc.Spec:=λe m h K=>∃s t v d c p,e=[cS s,cS t,aP v]/\Ints h s d/\Ints h t c/\eW h p v/\K (cI (fI d c p)) m h
noncomputable def f57_ctx(N:Nat):Ctx:=ctx [(52,Pz),(109,Y3 N),(110,TR N),(111,TH N)] [] [] [] false
noncomputable def bnX(N:Nat):Ctx:=ctx [(153,Pz),(154,YZ N),(155,Pn N)] [] [] [] false
abbrev uN(a:MH)(b:PH)(c d:Nat)(e:Int->Prop):Prop:=∃(x:Int),aJ a b c d (bL x)/\e x
abbrev Fp(a:(Array Value)->TypeId->Prop):Prop:=∃(x:Array Value)(c:TypeId),a x c
noncomputable abbrev qL(a:Array Value)(b:TypeId)(c:Nat):Obj:=Obj.cells a b (c,c)
abbrev cM(a b:MH)(c:Nat)(d:bm)(e:Nat):Prop:=gG a b c (qL (Array.mk d) e 0)
noncomputable abbrev xS(a:Value)(b:Nat)(c:bm):bm:=a::List.drop b c
abbrev fN(a:MH)(b:Nat)(c:Value)(d:MH->Prop):Prop:=Fp (λx e=>aA (Lo a b (qL x e 0)) (0<x.size) (∀(f:MH),cM a f b (xS c 1 x.toList) e->d f))
abbrev dZ(a b:Int)(c d:Prop):Prop:=branch (decide (a>b)) c d
noncomputable abbrev sM(a:Nat):Int:=9-(↑a:Int)
noncomputable abbrev MC(a:Nat×Int×MH)(b:Pred)(c:Nat):Bool×Int:=vW (List.drop a.1 b.args) (c-1) a.2.1
abbrev mQ(a:Int):Prop:=eQ (fP a)
abbrev dD(a:Nat):Prop:=eQ (Uk a 0)
noncomputable abbrev cJ(a:bm)(b:cq):cq:=jR a::b
abbrev fA(a:Prop)(b:Bool)(c d:Prop):Prop:=a->branch b c d
attribute [push_cast] uN Fp qL cM xS fN dZ sM MC mQ dD cJ fA
def Rx(N:Nat)(v:PV)(p:Pred)(k b:Nat)(n:Int)(m:MH)(h:PH)(K:bo):Prop:=
  uN m h b 0 (λy=>fN m b (fD (eT (y-1))) (λe=>uN e h b 0 (λA=>aZ A 0 (K aX e h) (dZ (sM k) 8 (K aX e h) ((∃(x:Nat×Int×MH),aA (aA (x.1<=r9 p) (cF x.2.1) (aA (x.2.1<=24) (cM m x.2.2 b (bL x.2.1) 3) (1<=k/\MC x p k=lQ p k n))) (mQ (sM k)) (aA (dD b) (aH v.args) (aA (rP v) (bC x.1) (aA (e=x.2.2) (h=h) True))))/\∀(x:Nat×Int×MH),aA (x.1<=r9 p) (cF x.2.1) (aA (x.2.1<=24) (cM m x.2.2 b (bL x.2.1) 3) (1<=k/\MC x p k=lQ p k n))->aZ (↑x.1:Int) (aG v.args) (aK (λt o=>aA (aL v.args.a t o) (0<=(↑x.1:Int)) ((↑x.1:Int)<aG v.args/\∃(u:PV),aJ x.2.2 h t (bK o x.1 13) u.enc/\rA (λz f=>aK (λg j=>∃(d:Int),aA (cJ u.enc (gJ (fQ (eT
 (sM k+1))) (uX b 0))=cJ z.enc (gJ (fQ (sM g)) (uX j 0))) (eW h f z) (aA (pU f N) (g<=9) (aA (cF d) (d<=24) (x.2.2 j=Option.some (qL (Array.mk (bL d)) 3 0)/\∀(s:MH),fA (cM x.2.2 s j (bL (lQ f g d).2) 3) (!(lQ f g d).1) (K aX s h) (∃(c:Nat×Int×MH),aA (aA (c.1<=r9 p) (cF c.2.1) (aA (c.2.1<=24) (cM m c.2.2 b (bL c.2.1) 3) (1<=k/\MC c p k=lQ p k n))) (r9 p-c.1<r9 p-x.1) (aA (mQ (sM k)) (dD b) (aA (aH v.args) (bG v.args) (aA (bD (fP (bE x.1 1)) c.1) (s=c.2.2) (bX h h))))))))))))) (K gL x.2.2 h))))))
noncomputable abbrev gW(a:Sl):cq:=tT (rC a)
abbrev p9(a:Sl)(b:PH)(c:br->Prop):Prop:=Ar (λx d=>aA (gW a=gW x) (Ints b x d) (c d))
abbrev mA(a:Bool)(b c:Prop):Prop:=branch (!a) b c
attribute [push_cast] gW p9 mA
def am(N:Nat)(s t:Sl)(v:PV)(m:MH)(h:PH)(K:bo):Prop:=
  p9 s h (λl=>mA (BD l) (K (fQ 1) m h) (p9 t h (λA=>mA (BD A) (K (fQ 1) m h) (rA (λg p=>∃(k:Int),aA (aW (jR v.enc) 0=aW (jR g.enc) k) (eW h p g) (aA (pU p N) (cF k) (k<=24/\dZ (oM p k) 24 (K (fQ 2) m h) (rA (λj d=>∃(e:Nat),aA (aW (jR v.enc) 8=aW (jR j.enc) (↑e:Int)) (eW h d j) (aA (pU d N) (e<=100) (branch (mF d e) (K (fQ 2) m h) (∃(n:Sl),vE (λu c y=>rA (λz f=>aA (cN s (eJ t (jR v.enc))=cN n (eJ u (jR z.enc))) (Ints h n c) (aA (Ints h u y) (eW h f z) (gK (pU f N) (!(iK c y f)) (K (fQ 50) m h) (K (fQ 0) m h)))))))))))))))))
abbrev fR(a:Nat->MH->Prop):Prop:=∀(x:Nat)(c:MH),a x c
abbrev aY(a b c:Prop):Prop:=a->b->c
attribute [push_cast] fR aY
def U8(N:Nat)(s t:Sl)(v:PV)(m:MH)(h:PH)(K:bo):Prop:=
  p9 s h (λl=>mA (BD l) (K (fQ 1) m h) (p9 t h (λD=>mA (BD D) (K (fQ 1) m h) (fR (λb e=>aY (bW m h b) (cM m e b (bL 24) 3) (rA (λj p=>aK (λk f=>∃(n:Int),aA (cJ v.enc (gJ (fQ 1) (uX b 0))=cJ j.enc (gJ (fQ (sM k)) (uX f 0))) (eW h p j) (aA (pU p N) (k<=9) (aA (cF n) (n<=24) (e f=Option.some (qL (Array.mk (bL n)) 3 0)/\∀(d:MH),fA (cM e d f (bL (lQ p k n).2) 3) (!(lQ p k n).1) (K (fQ 2) d h) (∃(u:Sl),vE (λy c z=>rA (λA g=>aA (jT (gV (dT s) (dT t)) v.enc=jT (gV (dT u) (dT y)) A.enc) (Ints h u c) (aA (Ints h y z) (eW h g A) (gK (pU g N) (!(iK c z g)) (K (fQ 50) d h) (K (fQ 0) d h)))))))))))))))))
end Go.Ps
namespace Go.Vc
open Go.Ps Go.Proofs List
theorem gG.trans{m m' c:MH}{b:Nat}{o o':Obj}(g:gG m m' b o)(d:gG m' c b o'):gG m c b o':=⟨d.at_,λe f=>(d.other e f).trans (g.other e f)⟩
end Go.Vc
namespace Go.Ps
open Go Go.Vc Go.Proofs List Tryz
variable{K:bo}{m:MH}{h:PH}{ps:br}{cb:Nat}{sc:bY}{v:QV}{q:Query}{p:Pred}{l:br}{i:Nat}{N:Nat}{m':MH}{h':PH}{co:br}{gr:br}{od:bz}{w:Pred}{ta:Int}{li:Int}{xs:List bm}{sz:Nat}{k:Nat}{ks:List br}{rs:br}{r:Sl}{a:br}{b:Nat}
theorem VN:∀N,bk 154 (YZ N)
 |0=>by
  refine eV (fn:=Tryz.f154) (c:=cC Tryz.f154) func154 rfl bh ?_;rintro F m h K ⟨v,p,k,b,n,rfl,T,Y,_⟩;omega
 |N+1=>by
  refine iB func154 ?_;rintro F m h K ⟨v,p,k,b,n,rfl,T,Y,hk,h0,h1,U,s⟩;refine⟨aWJ N v p k b n m h,rfl,aD (VN N) aF,Rx N v p k b n m h K,bf,?_⟩;dsimp only[Rx,push_cast];obtain⟨hl,V,z⟩:=T.open;have Z:IntKind.i64.wrap (n-1)=n-1:=eG aC aC;refine⟨n,.of_m U rfl,_,_,⟨U⟩,bg,λm' W=>?_⟩;rw[Z]at W;have f:gG m m' b (sE (n-1)):=W;refine⟨n-1,.of_m f.at_ rfl,aE (λh2=>?_) (λh2=>aE (λh3=>?_) (λh3=>?_))⟩
  .have e:lQ p k n=(false,n-1):=by cases p;simp only[lQ];rw[if_pos aC]
   rw[e]at s;exact s m' f
  .have G:k=0:=by omega
   subst G;have e:lQ p 0 n=(false,n-1):=by cases p;simp only[lQ];rw[if_neg aC]
   rw[e]at s;exact s m' f
  .refine⟨⟨(0,n-1,m'),⟨bg,by simp only;omega,by simp only;omega,f,aC,?_⟩,MT⟩,?_⟩
   .obtain⟨X,rfl⟩:∃X,k=X+1:=⟨k-1,aC⟩
    cases p;simp only[lQ,drop_zero,Pred.args];rw[if_neg aC];rfl
   .rintro⟨i,x,mx⟩ ⟨hi,t,A,g,H,d⟩;simp only at hi t A g d;refine aE (λj=>?_) (λI=>?_)
    .obtain⟨q,J⟩:∃q,p.args[i]? =some q:=⟨p.args[i]'(by simp only at j;omega),getElem?_eq_getElem _⟩
     obtain⟨b1,o,u,ea,M,O⟩:=z i q J;have hd:p.args.drop i=q::p.args.drop (i+1):=drop_cons J;refine⟨b1,o,ea,bg,bj j,u,.imm (bj M),u,q,k-1,b,x,?_,O,?_,aC,t,A,g.at_,λQ R=>?_⟩
     .rw[eG aC aC,show(9-((k-1:Nat):Int))=9-(k:Int)+1 by omega]
     .have:=Ai (mem_of_getElem? J);omega
     .have y:gG m Q b (sE (lQ q (k-1) x).2):=g.trans R;rw[hd,vW]at d;obtain⟨D,E⟩:=J3 q (k-1) x t;cases e:lQ q (k-1) x with
      |mk r x'=>
       rw[e]at d y D E;cases r with
       |false=>
        simp only at d;rw[<-d]at s;exact s Q y
       |true=>
        have a':=D.1 rfl;have S:=E rfl;have a0:=SH q;simp only at S d;exact⟨(i+1,x',Q),⟨by simp only at j⊢;omega,by simp only;omega,by simp only;omega,y,H,d⟩,by simp only at j⊢;omega,MT⟩
    .rw[drop_of_length_le (by simp only at I;omega)]at d;simp only[vW]at d;rw[<-d]at s;exact s mx g
theorem ae:bk 57 sJ:=by
 refine iB func57 ?_;rintro n m h K ⟨s,t,v,d,c,p,rfl,g,j,f,e⟩;refine⟨f57_ctx (SizeOf.sizeOf p+1),rfl,aD ak (aD (VX _) (aD (VW _) (aD (VU _) aF))),am (SizeOf.sizeOf p+1) s t v m h K,bf,?_⟩;dsimp only[am,push_cast];refine⟨s,d,rfl,g,aB (λu=>Ap e ?_) (λu=>⟨t,c,rfl,j,aB (λy=>Ap e ?_) (λy=>⟨v,p,0,rfl,f,aC,aC,aC,aB (λz=>Ap e ?_) (λz=>⟨v,p,8,rfl,f,aC,aC,aB (λA=>Ap e ?_) (λA=>⟨s,t,d,c,v,p,rfl,g,j,f,aC,aB (λD=>Ap e ?_) (λD=>Ap e ?_)⟩)⟩)⟩)⟩)⟩
 all_goals (simp only[fI];simp only[*,Bool.or_false,Bool.false_or,Bool.or_true,Bool.true_or,Bool.and_true,Bool.true_and,Bool.and_false,Bool.false_and,Bool.not_true,Bool.not_false,Bool.false_eq_true,if_true,if_false, ↓reduceIte])
theorem ED{f:FuncId}{fn:Func}(s:Tryz.prog.funcs[f]? =some fn){S:Vc.Spec}(j:∀c m h K,S c m h K->∃C:Ctx,C.P=Tryz.prog/\(∀g S,assoc C.specs g=some S->bk g S)/\∃N:Prop,N=sC C fn (cC fn) (entry fn.ntmps c m h) (λr m' h'=>∃m2 n,(∀b o,m2 b=some o->m' b=some o)/\PH.le h n/\PH.le n h'/\K r m2 n)/\N)(t:fn.body=some (cC fn):=by rfl)(d:(fn.name== "runtime.NumGoroutine")=false:=by decide):bk f S:=QH s t d λc m h K u=>let⟨C,hC,hs,N,e,hn⟩:=j c m h K u;⟨C,hC,hs,e▸hn⟩
theorem Kz:bk 98 sJ:=by
 refine ED func98 ?_;rintro I m h K ⟨s,t,v,d,c,p,rfl,E,F,G,J⟩;refine⟨bnX (SizeOf.sizeOf p+1),rfl,aD Yb (aD (VN _) (aD (VM _) aF)),U8 (SizeOf.sizeOf p+1) s t v m h (λr m' h'=>∃j n,(∀b o,j b=some o->m' b=some o)/\PH.le h n/\PH.le n h'/\K r j n),bf,?_⟩;dsimp only[U8,push_cast];have f:∀(m':MH),(∀b o,m b=some o->m' b=some o)->∀x,fI d c p=x->∃j n,(∀b o,j b=some o->m' b=some o)/\PH.le h n/\PH.le n h/\K (.val (.int .i64 x)) j n:=λm' M x e=>⟨m,h,M,.refl _,.refl _,e▸J⟩
 refine⟨s,d,rfl,E,aB (λO=>f m (λ_ _ e=>e) _ ?_) (λO=>⟨t,c,rfl,F,aB (λQ=>f m (λ_ _ e=>e) _ ?_) (λQ b U R u=>⟨v,p,8,b,24,rfl,G,aC,aC,aC,aC,u.at_,λj A=>?_⟩)⟩)⟩
 .simp only[fI];simp only[*,Bool.or_false,Bool.false_or,Bool.or_true,Bool.true_or,Bool.and_true,Bool.true_and,Bool.and_false,Bool.false_and,Bool.not_true,Bool.not_false,Bool.false_eq_true,if_true,if_false, ↓reduceIte]
 .simp only[fI];simp only[*,Bool.or_false,Bool.false_or,Bool.or_true,Bool.true_or,Bool.and_true,Bool.true_and,Bool.and_false,Bool.false_and,Bool.not_true,Bool.not_false,Bool.false_eq_true,if_true,if_false, ↓reduceIte]
 .have g:∀b o,m b=some o->j b=some o:=λD o e=>by
   have y:D≠b:=λS=>by rw[S,R.m_]at e;cases e
   rw[A.other D y,u.other D y,e]
  have z:=afX p;refine aB (λH=>f j g _ ?_) (λH=>⟨s,t,d,c,v,p,rfl,E,F,G,aC,aB (λT=>f j g _ ?_) (λT=>f j g _ ?_)⟩)
  all_goals (rw[z,Bool.not_not]at H;clear z;simp only[fI];simp only[*,Bool.or_false,Bool.false_or,Bool.or_true,Bool.true_or,Bool.and_true,Bool.true_and,Bool.and_false,Bool.false_and,Bool.not_true,Bool.not_false,Bool.false_eq_true,if_true,if_false, ↓reduceIte])
structure bN{α β:Type}(h:PH)(sz:Nat)(enc:β->bm)(R:α->β->Prop)(s:Sl)(l:List α):Prop where
 ex:∃vs:List β,cZ h s sz (vs.map enc)/\l.length=vs.length/\∀(i:Nat)(x:α),l[i]? =some x->∃v,vs[i]? =some v/\R x v
 len:l.length<=502633886983
theorem bN.slen{α β:Type}{enc:β->bm}{R:α->β->Prop}{s:Sl}{l:List α}(r:bN h sz enc R s l):s.len=l.length:=by
 obtain⟨d,c,e,_⟩:=r.ex;have:=c.len;simp at this;omega
theorem bN.at{α β:Type}{enc:β->bm}{R:α->β->Prop}{s:Sl}{l:List α}(r:bN h sz enc R s l){x:α}(c:l[i]? =some x):
 ∃b o v,s.a=some ⟨b,o,none⟩/\bT h b (o+i*sz) (enc v)/\R x v:=by
 obtain⟨n,d,_,f⟩:=r.ex;obtain⟨v,g,j⟩:=f i x c;obtain⟨b,o,e,k⟩:=d.get (i:=i) (e:=enc v) (by simp[g]);exact⟨b,o,v,e,k,j⟩
theorem bN.mono{α β:Type}{enc:β->bm}{R R':α->β->Prop}{s:Sl}{l:List α}(r:bN h sz enc R s l)(le:PH.le h h')(d:∀x v,R x v->R' x v):bN h' sz enc R' s l:=by
 obtain⟨e,f,g,j⟩:=r.ex;exact⟨⟨e,f.mono le,g,λi x n=>(j i x n).imp λv c=>⟨c.1,d _ _ c.2⟩⟩,r.len⟩
theorem bN.nil{α β:Type}(h:PH)(sz:Nat)(enc:β->bm)(R:α->β->Prop):bN h sz enc R ⟨none,0,0⟩ ([]:List α):=
 ⟨⟨[],.nil h sz,rfl,λi x c=>by simp at c⟩,bg⟩
theorem eN{α:Type}{l:List α}{i n:Nat}(c:n=l.length)(d:(i:Int)<(n:Int)):∃x,l[i]? =some x:=⟨l[i]'(by omega),getElem?_eq_getElem _⟩
def FO(h:PH)(s:Sl)(ps:cm):Prop:=bN h 13 PV.enc (eW h) s ps
theorem FO.mono{s:Sl}{ps:cm}(r:FO h s ps)(le:PH.le h h'):FO h' s ps:=bN.mono r le λ_ _=>eW.mono le
theorem xW.toL{s:Sl}{ps:cm}{vs:dh}(d:cZ h s 13 (vs.map PV.enc))(c:xW h ps vs)(e:ps.length<=502633886983):FO h s ps:=
 ⟨⟨vs,d,c.length.symm,λ_ _ f=>c.get f⟩,e⟩
theorem xW.ofL{h:PH}:∀{ps:cm}{vs:dh},ps.length=vs.length->(∀(i:Nat)(x:Pred),ps[i]? =some x->∃v,vs[i]? =some v/\eW h x v)->xW h ps vs
 |[],[],_,_=>rfl
 |p::ps,v::vs,c,d=>by
  obtain⟨j,f,g⟩:=d 0 p rfl;simp at f;subst f;exact⟨v,vs,rfl,g,xW.ofL (bj c) λi x e=>bj (d (i+1) x (by simpa using e))⟩
 |[],_::_,c,_=>by simp at c
 |_::_,[],c,_=>by simp at c
theorem eW.parts{op c:Int}{l r:OV}{args:cm}{v:PV}(x:eW h (.mk op c l r args) v):v.op=op/\v.cmp=c/\v.left=l/\v.right=r/\FO h v.args args:=by
 obtain⟨d,e,f,g,j,t,n,s⟩:=x;exact⟨d,e,f,g,s.toL n j⟩
theorem eW.mk{h:PH}{args:cm}{v:PV}(c:FO h v.args args):eW h (.mk v.op v.cmp v.left v.right args) v:=by
 obtain⟨d,e,f,g⟩:=c.ex;exact⟨rfl,rfl,rfl,rfl,c.len,d,e,.ofL f g⟩
def bDX(N:Nat):Vc.Spec:=λc m h K=>∃v w p q,c=[aP v,aP w]/\eW h p v/\eW h q w/\SizeOf.sizeOf p<N/\∀r:Bool,(r=true↔p=q)->K (cB r) m h
def bJX(N:Nat):Vc.Spec:=λc m h K=>∃s t ps d,c=[cS s,cS t,.val (.func (.func 253) #[] #[])]/\FO h s ps/\FO h t d/\(∀p∈ps,SizeOf.sizeOf p<N)/\∀r:Bool,(r=true↔ps=d)->K (cB r) m h
noncomputable def aRQ(N:Nat):Ctx:=ctx [(262,bJX N)] [] [] [] false
noncomputable def aQZ(N:Nat)(s t:Sl)(ps c:cm)(m:MH)(h:PH):Ctx:=
 ctx [(253,bDX N)] [Fu 4 (λi=>bO 32 35 [(1,sv t),(2,vv (.func (.func 253) #[] #[])),(15,sv s),(16,iv s.len),(17,iv i)] [] m h) (λi=>i<=ps.length/\∀j:Nat,j<i->ps[j]? =c[j]?) (λi=>ps.length-i)] [] [] false
noncomputable def btX(N:Nat)(v w:PV)(ps c:cm)(m:MH)(h:PH):Ctx:=
 ctx [(43,bDX N)] [Fu 4 (λi=>bO 60 62 [(2,.at (.ptr 2 0)),(3,.at (.ptr 3 0)),(43,iv v.args.len),(44,iv i)] [(2,.cells 29 (v.enc.map .val)),(3,.cells 29 (w.enc.map .val))] m h) (λi=>i<=ps.length/\∀j:Nat,j<i->ps[j]? =c[j]?) (λi=>ps.length-i)] [] [] false
abbrev mS(a:Sl->Sl->Prop):Prop:=∃(x c:Sl),a x c
noncomputable abbrev Di:Array Value:=Array.mk []
noncomputable abbrev DY(a:Fn)(b:Array Value):CV:=CV.val (Value.func a Di b)
noncomputable abbrev wO(a:Nat):CV:=DY (Fn.func a) Di
attribute [push_cast] mS Di DY wO
def KD(N:Nat)(v w:PV)(m:MH)(h:PH)(K:bo):Prop:=
  eD v.op w.op (eD v.cmp w.cmp (∃(r:Bool),gK (w9 26 v.left.enc w.left.enc r) r (∃(c:Bool),gK (w9 26 (w8 v) (w8 w) c) c (mS (λs t=>∃(p q:cm),aA (cN v.args (eJ w.args (wO 253))=cN s (eJ t (wO 253))) (FO h s p) (aA (FO h t q) (∀(d:Pred),List.Mem d p->pU d N) (∀(e:Bool),(fS e↔p=q)->K (Ah e) m h)))) (K aX m h)) (K aX m h)) (K aX m h)) (K aX m h)
abbrev DZ(a:Nat)(b c:cm):Prop:=jP (a<=b.length) (λx=>x<a->b[x]? =c[x]?)
noncomputable abbrev Fk(a:Fn)(b:Array Value):SV:=SV.at (At.val (Value.func a Di b))
abbrev zY(a:Nat):Prop:=eQ (Fk (Fn.func a) Di)
abbrev IM(a:PV->PV->Pred->Pred->Prop):Prop:=∃(x:PV),rA (λc d=>∃(e:Pred),a x c d e)
attribute [push_cast] DZ Fk zY IM
def Q0(N:Nat)(s t:Sl)(ps c:cm)(m:MH)(h:PH)(K:bo):Prop:=
  cO (aG s) (aG t) (K aX m h) (jP (∃(x:Nat),aA (DZ x ps c) (aH t) (aA (zY 253) (aH s) (aA (bG s) (bC x) (aA (m=m) (h=h) True)))) (λx=>DZ x ps c->aZ (↑x:Int) (aG s) (aK (λb o=>aA (aL s.a b o) (0<=(↑x:Int)) ((↑x:Int)<aG s/\∃(y:PV),aJ m h b (bK o x 13) y.enc/\M4 t.a x t (λf g e=>aJ m h f (bK g x 13) e.enc/\IM (λv w p q=>aA (jT y.enc e.enc=jT v.enc w.enc) (eW h p v) (aA (eW h q w) (pU p N) (∀(r:Bool),fA (fS r↔p=q) (!r) (K aX m h) (∃(d:Nat),aA (DZ d ps c) (ps.length-d<ps.length-x) (aA (aH t) (zY 253) (aA (aH s) (bG s) (aA (bD (fP (bE x 1)) d) (m=m) (bX h h)))))))))))) (K gL m h)))
def OD(N:Nat)(v w:PV)(ps c:cm)(m:MH)(h:PH)(K:bo):Prop:=
  dN (v.op !=w.op) (K aX m h) (v.cmp !=w.cmp) (K aX m h) (∃(r:Bool),gK (w9 26 v.left.enc w.left.enc r) (!r) (K aX m h) (∃(e:Bool),w9 26 (w8 v) (w8 w) e/\dN (!e) (K aX m h) (tF v !=tF w) (K aX m h) (jP (∃(x:Nat),aA (DZ x ps c) gI (aA (eP 3) (rP v) (aA (bC x) (lS v) (aA (lS w) (m=m) (bX h h))))) (λx=>DZ x ps c->aZ (↑x:Int) (aG v.args) (aK (λb o=>aA (aL v.args.a b o) (0<=(↑x:Int)) ((↑x:Int)<aG v.args/\∃(y:PV),aJ m h b (bK o x 13) y.enc/\M4 w.args.a x w.args (λs t f=>aJ m h s (bK t x 13) f.enc/\IM (λg j p q=>aA (jT y.enc f.enc=jT g.enc j.enc) (eW h p g) (aA (eW h q j) (pU p N) (∀(n:Bool),fA (fS n↔p=q) (!n) (K aX m h) (∃(d:Nat),aA
 (DZ d ps c) (ps.length-d<ps.length-x) (aA gI iM (aA (rP v) (bD (fP (bE x 1)) d) (aA (lS v) (lS w) (dW m m h h)))))))))))) (K gL m h)))))
theorem Bt{α:Type}{a b:List α}(d:a.length=b.length)(e:a.length<=i)(h:∀j:Nat,j<i->a[j]? =b[j]?):a=b:=by
 apply ext_getElem?;intro j;by_cases c:j<i
 .exact h j c
 .rw[getElem?_eq_none aC,getElem?_eq_none aC]
theorem yO{α:Type}{a b:List α}{x y:α}(hx:a[i]? =some x)(c:b[i]? =some y)(e:x=y)(h:∀j:Nat,j<i->a[j]? =b[j]?):∀j:Nat,j<i+1->a[j]? =b[j]? :=by
 intro j f;by_cases d:j=i
 .subst d;rw[hx,c,e]
 .exact h j aC
theorem Qr{α:Type}{a b:List α}{x y:α}(hx:a[i]? =some x)(c:b[i]? =some y)(e:x≠y):a≠b:=λh=>by
 subst h;rw[hx]at c;simp at c;exact e c
theorem Kq{α β:Type}{s t:Sl}{a:List α}{b:List β}(c:s.len=a.length)(d:t.len=b.length)(e:((s.len:Int) !=(t.len:Int))=true):a.length≠b.length:=λh=>by
 rw[c,d,h]at e;simp at e
theorem Kr{α β:Type}{s t:Sl}{a:List α}{b:List β}(c:s.len=a.length)(d:t.len=b.length)(e:((s.len:Int) !=(t.len:Int))=false):a.length=b.length:=by
 have:(s.len:Int)=t.len:=bj e
 omega
theorem bwX{v w:PV}{q:Pred}(z:eW h p v)(A:eW h q w)(I:SizeOf.sizeOf p<N+1)(u:∀r:Bool,(r=true↔p=q)->K (cB r) m h):KD N v w m h K:=by
 dsimp only[KD,push_cast];have n:p≠q->K (cB false) m h:=λh=>u false ⟨λe=>(by cases e),λe=>(h e).elim⟩;have c:=@Ai p;obtain⟨op,D,l,r,ps⟩:=p;obtain⟨E,y,J,M,F⟩:=q;obtain⟨rfl,rfl,rfl,rfl,s⟩:=z.parts;obtain⟨rfl,rfl,rfl,rfl,t⟩:=A.parts;refine aB (λd=>aB (λf=>⟨_,Af _ _,aB (λg=>⟨_,Af _ _,aB (λj=>⟨v.args,w.args,ps,F,rfl,s,t,λp G=>?_,λr H=>u r (H.trans ?_)⟩) (λj=>n λe=>?_)⟩) (λg=>n λe=>?_)⟩) (λf=>n λe=>?_)) (λd=>n λe=>?_)
 .have:=c (q:=p) G;omega
 .rw[oH]at g j;simp only[beq_iff_eq]at d f;rw[d,f,g,j];exact⟨λe=>by rw[e],λe=>by injection e⟩
 .injection e with _ _ _ e _;rw[oH.2 e]at j;cases j
 .injection e with _ _ e _ _;rw[oH.2 e]at g;cases g
 .injection e with _ e _ _ _;rw[e]at f;simp at f
 .injection e with e _ _ _ _;rw[e]at d;simp at d
theorem Vz:∀N,bk 253 (bDX N)
 |0=>by
  refine eV (fn:=Tryz.f253) (c:=cC Tryz.f253) func253 rfl bh ?_;rintro g m h K ⟨v,w,p,q,rfl,z,_,E,_⟩;omega
 |N+1=>by
  have A:bk 262 (bJX N):=by
   refine iB func262 ?_;rintro g m h K ⟨s,t,ps,F,rfl,I,S,E,G⟩;refine⟨aQZ N s t ps F m h,rfl,aD (Vz N) aF,Q0 N s t ps F m h K,bf,?_⟩;dsimp only[Q0,push_cast];have d:=I.slen;have D:=S.slen;have V:=I.len;have T:ps≠F->K (cB false) m h:=λh=>G false ⟨λe=>(by cases e),λe=>(h e).elim⟩;refine aB (λJ=>T (λe=>Kq d D J (by rw[e]))) (λJ=>?_);have W:=Kr d D J;refine⟨⟨0,⟨aC,λj hj=>by omega⟩,MT⟩,λi U=>aE (λf=>?_) (λX=>?_)⟩
   .obtain⟨x,H⟩:=eN d f;obtain⟨y,M⟩:∃y,F[i]? =some y:=eN (n:=s.len) aC f;obtain⟨Y,Z,u,e1,r1,ru⟩:=I.at H;obtain⟨b2,o2,w,e2,r2,O⟩:=S.at M;refine⟨Y,Z,e1,aC,f,u,.imm r1,b2,o2,e2,aC,aC,w,.imm r2,u,w,x,y,rfl,ru,O,E x (mem_of_getElem? H),λr z=>aB (λQ=>T (Qr H M (λe=>?_))) (λhe=>?_)⟩
    .have:=z.2 e;subst this;cases Q
    .have R:r=true:=bj he
     exact⟨i+1,⟨aC,yO H M (z.1 R) U.2⟩,aC,MT⟩
   .exact G true ⟨λ_=>Bt W aC U.2,λ_=>rfl⟩
  refine iB func253 ?_;rintro g m h K ⟨v,w,p,q,rfl,z,hq,E,G⟩;refine⟨aRQ N,rfl,aD A aF,KD N v w m h K,bf,?_⟩;exact bwX z hq E G
theorem bQJ{v w:PV}{q:Pred}(V:eW h p v)(W:eW h q w)(hN:SizeOf.sizeOf p<N+1)(H:∀r:Bool,(r=true↔p=q)->K (cB r) m h):OD N v w p.args q.args m h K:=by
 dsimp only[OD,push_cast];have d:p≠q->K (cB false) m h:=λh=>H false ⟨λe=>(by cases e),λe=>(h e).elim⟩;have c:=@Ai p;obtain⟨op,X,l,r,ps⟩:=p;obtain⟨Y,Q,l',r',R⟩:=q;obtain⟨rfl,rfl,rfl,rfl,I⟩:=V.parts;obtain⟨rfl,rfl,rfl,rfl,S⟩:=W.parts;simp only[Pred.args]at c⊢
 have f:=I.slen;have F:=S.slen;have Z:=I.len;refine aB (λt=>d λe=>?_) (λt=>aB (λA=>d λe=>?_) (λA=>⟨_,Af _ _,aB (λD=>d λe=>?_) (λD=>⟨_,Af _ _,aB (λE=>d λe=>?_) (λE=>aB (λJ=>d λe=>?_) (λJ=>?_))⟩)⟩))
 .injection e with e _ _ _ _;rw[e]at t;simp at t
 .injection e with _ e _ _ _;rw[e]at A;simp at A
 .injection e with _ _ e _ _;rw[oH.2 e]at D;cases D
 .injection e with _ _ _ e _;rw[oH.2 e]at E;cases E
 .injection e with _ _ _ _ e;exact Kq f F J (by rw[e])
 .have hl:=Kr f F J;have D:v.left=w.left:=oH.1 (bj D);have E:v.right=w.right:=oH.1 (bj E);have t:v.op=w.op:=bj t
  have A:v.cmp=w.cmp:=bj A
  rw[t,A,D,E]at H d;have d:ps≠R->K (cB false) m h:=λg=>d λe=>g (by injection e);refine⟨⟨0,⟨aC,λj hj=>by omega⟩,MT⟩,λi T=>aE (λs=>?_) (λa'=>?_)⟩
  .obtain⟨x,G⟩:=eN f s;obtain⟨y,M⟩:∃y,R[i]? =some y:=eN (n:=v.args.len) aC s;obtain⟨b1,o1,u,e1,r1,ru⟩:=I.at G;obtain⟨b2,o2,z,e2,r2,rz⟩:=S.at M;refine⟨b1,o1,e1,aC,s,u,.imm r1,b2,o2,e2,aC,aC,z,.imm r2,u,z,x,y,rfl,ru,rz,?_,λr U=>aB (λg=>d (Qr G M (λe=>?_))) (λhe=>?_)⟩
   .have:=c (mem_of_getElem? G);omega
   .have:=U.2 e;subst this;cases g
   .have O:r=true:=bj he
    exact⟨i+1,⟨aC,yO G M (U.1 O) T.2⟩,aC,MT⟩
  .exact H true ⟨λ_=>by rw[Bt hl aC T.2],λ_=>rfl⟩
theorem ZJ:∀N,bk 43 (bDX N)
 |0=>by
  refine eV (fn:=Tryz.f43) (c:=cC Tryz.f43) func43 rfl bh ?_;rintro d m h K ⟨v,w,p,q,rfl,e,_,f,_⟩;omega
 |N+1=>by
  refine iB func43 ?_;rintro d m h K ⟨v,w,p,q,rfl,e,g,f,j⟩;refine⟨btX N v w p.args q.args m h,rfl,aD (ZJ N) aF,OD N v w p.args q.args m h K,bf,?_⟩;exact bQJ e g f j
def bDZ:Vc.Spec:=λc m h K=>∃v w p q,c=[aP v,aP w]/\eW h p v/\eW h q w/\∀r:Bool,(r=true↔p=q)->K (cB r) m h
theorem pJ{f:FuncId}{S:Nat->Vc.Spec}{S':Vc.Spec}(h:∀N,bk f (S N))(e:∀c m h K,S' c m h K->∃N,S N c m h K):bk f S':=by
 refine⟨(h 0).1,λc g m d w K j n=>?_⟩;obtain⟨N,s⟩:=e c m d K j;exact(h N).2 c g m d w K s n
theorem Xd:bk 253 bDZ:=pJ Vz λ_ _ _ _⟨v,w,p,q,e,c,d,f⟩=>⟨SizeOf.sizeOf p+1,v,w,p,q,e,c,d,aC,f⟩
theorem aqX:bk 43 bDZ:=pJ ZJ λ_ _ _ _⟨v,w,p,q,e,c,d,f⟩=>⟨SizeOf.sizeOf p+1,v,w,p,q,e,c,d,aC,f⟩
theorem Jx{d e c i:Nat}{g:ck}{xs f:Array Value}{w:World}{x y:Value}{r r':Bool}(hx:yC Tryz.prog (part e xs (i*c))=some x)(j:yC Tryz.prog (part e f (i*c))=some y)
 (n:(Op.equalIn d e x y).run Tryz.prog w= .ok r w)(s:(Op.eqItems d e c xs f g).run Tryz.prog w= .ok r' w):(Op.eqItems d e c xs f (i::g)).run Tryz.prog w= .ok (r&&r') w:=by
 simp only[Op.eqItems,Sem.run_bind,yB _ _ _ hx,yB _ _ _ j,Result.andThen_ok,n];cases r
 .simp
 .simpa using s
def bSX(a b:Int×Int):Bool:=a.1==b.1&&(a.2==b.2&&true)
def bSQ(a b:Int×Bool):Bool:=a.1==b.1&&(a.2==b.2&&true)
theorem a4J(a b:Int×Int):StructEq Tryz.prog 91 (.agg #[.int .i64 a.1,.int .i64 a.2]) (.agg #[.int .i64 b.1,.int .i64 b.2]) (bSX a b):=by
 refine⟨bf,λw=>?_⟩;obtain⟨i,c⟩:=Option.isSome_iff_exists.1 (show(Tryz.prog.info? 3).isSome=true by kernel_rfl);rw[run_equalIn_array w 9999 (e:=3) (n:=2) _ _ bf c,show Tryz.prog.cellsOf 3=1 by kernel_rfl,show List.range 2=[0,1]from rfl];refine Jx (x:=.int .i64 a.1) (y:=.int .i64 b.1) bf bf (run_equalIn_int w 9998 _ .i64 .i64 _ _ bf) ?_;refine Jx (x:=.int .i64 a.2) (y:=.int .i64 b.2) bf bf (run_equalIn_int w 9998 _ .i64 .i64 _ _ bf) ?_;simp[Op.eqItems]
theorem a4Z(a b:Int×Bool):StructEq Tryz.prog 93 (.agg #[.int .i64 a.1,.bool a.2]) (.agg #[.int .i64 b.1,.bool b.2]) (bSQ a b):=by
 refine⟨bf,λw=>?_⟩;rw[run_equalIn_struct w 9999 93 _ _ bf bf,show(Tryz.prog.fieldsOf 93).toList=[Hh 93 0,Hh 93 1]by kernel_rfl];refine eO (x:=.int .i64 a.1) (y:=.int .i64 b.1) bf bf bf (run_equalIn_int w 9998 _ .i64 .i64 _ _ bf) ?_;refine eO (x:=.bool a.2) (y:=.bool b.2) bf bf bf (run_equalIn_bool w 9998 _ _ _ bf) ?_;simp[Op.eqFields]
theorem V2{a b:Int×Int}:bSX a b=true↔a=b:=by
 obtain⟨c,d⟩:=a;obtain⟨e,f⟩:=b;simp[bSX]
theorem V1{a b:Int×Bool}:bSQ a b=true↔a=b:=by
 obtain⟨c,d⟩:=a;obtain⟨e,f⟩:=b;simp[bSQ]
theorem jK.at{s:Sl}{l:bx}(r:jK h s l){x:Int×Int}(c:l[i]? =some x):∃b o,s.a=some ⟨b,o,none⟩/\bT h b (o+i*2) (uJ x):=r.row.get (by simp[c])
theorem gZ.at{s:Sl}{l:bz}(r:gZ h s l){x:Int×Bool}(c:l[i]? =some x):∃b o,s.a=some ⟨b,o,none⟩/\bT h b (o+i*2) (B7 x):=r.row.get (by simp[c])
def Sk:Vc.Spec:=λc m h K=>∃(s t:Sl)(a b:bx),c=[cS s,cS t]/\jK h s a/\jK h t b/\∀r:Bool,(r=true↔a=b)->K (cB r) m h
def Sj:Vc.Spec:=λc m h K=>∃(s t:Sl)(a b:bz),c=[cS s,cS t]/\gZ h s a/\gZ h t b/\∀r:Bool,(r=true↔a=b)->K (cB r) m h
noncomputable def Vy{α:Type}(s t:Sl)(a b:List α)(m:MH)(h:PH):Ctx:=
 ctx [] [Fu 4 (λi=>bO 26 28 [(0,sv s),(1,sv t),(12,iv s.len),(13,iv i)] [] m h) (λi=>i<=a.length/\∀j:Nat,j<i->a[j]? =b[j]?) (λi=>a.length-i)] [] [] false
noncomputable abbrev uS(a:Int×Int):bm:=gV (fD a.1) (fD a.2)
attribute [push_cast] uS
def Q4(s t:Sl)(a b:bx)(m:MH)(h:PH)(K:bo):Prop:=
  cO (aG s) (aG t) (K aX m h) (jP (∃(x:Nat),aA (jP (x<=a.length) (λj=>j<x->a[j]? =b[j]?)) (aH s) (aA (aH t) (bG s) (dK (bC x) m m h h))) (λx=>jP (x<=a.length) (λj=>j<x->a[j]? =b[j]?)->aZ (↑x:Int) (aG s) (aK (λd o=>aA (aL s.a d o) (0<=(↑x:Int)) ((↑x:Int)<aG s/\∃(y:Int×Int),aJ m h d (bK o x 2) (uS y)/\aK (λe f=>aA (aL t.a e f) (0<=(↑x:Int)) ((↑x:Int)<aG t/\∃(g:Int×Int),aJ m h e (bK f x 2) (uS g)/\∃(r:Bool),gK (w9 91 (uS y) (uS g) r) (!r) (K aX m h) (∃(c:Nat),aA (jP (c<=a.length) (λj=>j<c->a[j]? =b[j]?)) (a.length-c<a.length-x) (aA (aH s) (aH t) (aA (bG s) (bD (fP (bE x 1)) c) (aA (m=m) (h=h) True))))))))) (K gL m h)))
noncomputable abbrev zR(a:Int×Bool):bm:=gV (fD a.1) (Value.bool a.2)
attribute [push_cast] zR
def Q3(s t:Sl)(a b:bz)(m:MH)(h:PH)(K:bo):Prop:=
  cO (aG s) (aG t) (K aX m h) (jP (∃(x:Nat),aA (jP (x<=a.length) (λj=>j<x->a[j]? =b[j]?)) (aH s) (aA (aH t) (bG s) (dK (bC x) m m h h))) (λx=>jP (x<=a.length) (λj=>j<x->a[j]? =b[j]?)->aZ (↑x:Int) (aG s) (aK (λd o=>aA (aL s.a d o) (0<=(↑x:Int)) ((↑x:Int)<aG s/\∃(y:Int×Bool),aJ m h d (bK o x 2) (zR y)/\aK (λe f=>aA (aL t.a e f) (0<=(↑x:Int)) ((↑x:Int)<aG t/\∃(g:Int×Bool),aJ m h e (bK f x 2) (zR g)/\∃(r:Bool),gK (w9 93 (zR y) (zR g) r) (!r) (K aX m h) (∃(c:Nat),aA (jP (c<=a.length) (λj=>j<c->a[j]? =b[j]?)) (a.length-c<a.length-x) (aA (aH s) (aH t) (aA (bG s) (bD (fP (bE x 1)) c) (aA (m=m) (h=h) True))))))))) (K gL m
 h)))
theorem Xc:bk 254 Sk:=by
 refine iB func254 ?_;rintro I m h K ⟨s,t,a,b,rfl,u,E,F⟩;refine⟨Vy s t a b m h,rfl,aF,Q4 s t a b m h K,bf,?_⟩;dsimp only[Q4,push_cast];have c:=u.slen;have f:=E.slen;have J:=u.len;have G:a≠b->K (cB false) m h:=λh=>F false ⟨λe=>(by cases e),λe=>(h e).elim⟩;refine aB (λz=>G (λe=>Kq c f z (by rw[e]))) (λz=>?_);have M:=Kr c f z;refine⟨⟨0,⟨aC,λj Z=>by omega⟩,MT⟩,λi H=>aE (λd=>?_) (λO=>?_)⟩
 .obtain⟨x,A⟩:=eN c d;obtain⟨y,D⟩:∃y,b[i]? =some y:=eN (n:=s.len) aC d;obtain⟨Q,R,S,T⟩:=u.at A;obtain⟨U,V,W,X⟩:=E.at D;refine⟨Q,R,S,aC,d,x,.imm T,U,V,W,aC,aC,y,.imm X,_,a4J x y,aB (λg=>G (Qr A D (λe=>?_))) (λY=>?_)⟩
  .rw[V2.2 e]at g;cases g
  .exact⟨i+1,⟨aC,yO A D (V2.1 (bj Y)) H.2⟩,aC,MT⟩
 .exact F true ⟨λ_=>Bt M aC H.2,λ_=>rfl⟩
theorem Xb:bk 255 Sj:=by
 refine iB func255 ?_;rintro I m h K ⟨s,t,a,b,rfl,u,E,F⟩;refine⟨Vy s t a b m h,rfl,aF,Q3 s t a b m h K,bf,?_⟩;dsimp only[Q3,push_cast];have c:=u.slen;have f:=E.slen;have J:=u.len;have G:a≠b->K (cB false) m h:=λh=>F false ⟨λe=>(by cases e),λe=>(h e).elim⟩;refine aB (λz=>G (λe=>Kq c f z (by rw[e]))) (λz=>?_);have M:=Kr c f z;refine⟨⟨0,⟨aC,λj Z=>by omega⟩,MT⟩,λi H=>aE (λd=>?_) (λO=>?_)⟩
 .obtain⟨x,A⟩:=eN c d;obtain⟨y,D⟩:∃y,b[i]? =some y:=eN (n:=s.len) aC d;obtain⟨Q,R,S,T⟩:=u.at A;obtain⟨U,V,W,X⟩:=E.at D;refine⟨Q,R,S,aC,d,x,.imm T,U,V,W,aC,aC,y,.imm X,_,a4Z x y,aB (λg=>G (Qr A D (λe=>?_))) (λY=>?_)⟩
  .rw[V1.2 e]at g;cases g
  .exact⟨i+1,⟨aC,yO A D (V1.1 (bj Y)) H.2⟩,aC,MT⟩
 .exact F true ⟨λ_=>Bt M aC H.2,λ_=>rfl⟩
noncomputable def Ng(s t:Sl)(a b:br)(m:MH)(h:PH):Ctx:=
 ctx [] [Fu 4 (λi=>bO 26 28 [(0,sv s),(1,sv t),(12,iv s.len),(13,iv i)] [] m h) (λi=>i<=a.length/\∀j:Nat,j<i->a[j]? =b[j]?) (λi=>a.length-i)] [] [] false
def Ju(s t:Sl)(a b:br)(m:MH)(h:PH)(K:bo):Prop:=
  cO (aG s) (aG t) (K aX m h) (jP (∃(x:Nat),aA (jP (x<=a.length) (λj=>j<x->a[j]? =b[j]?)) (aH s) (aA (aH t) (bG s) (dK (bC x) m m h h))) (λx=>jP (x<=a.length) (λj=>j<x->a[j]? =b[j]?)->aZ (↑x:Int) (aG s) (aK (λd o=>aA (aL s.a d o) (0<=(↑x:Int)) ((↑x:Int)<aG s/\∃(y:Int),aJ m h d (bK o x 1) (bL y)/\aK (λe f=>aA (aL t.a e f) (0<=(↑x:Int)) ((↑x:Int)<aG t/\∃(g:Int),aJ m h e (bK f x 1) (bL g)/\cO y g (K aX m h) (∃(c:Nat),aA (jP (c<=a.length) (λj=>j<c->a[j]? =b[j]?)) (a.length-c<a.length-x) (aA (aH s) (aH t) (aA (bG s) (bD (fP (bE x 1)) c) (aA (m=m) (h=h) True))))))))) (K gL m h)))
theorem bRQ(s t:Sl)(a b:br)(m:MH)(h:PH)(K:bo):Ju s t a b m h K=(sC (Ng s t a b m h) Tryz.f42 (cC Tryz.f42) (entry 26 [cS s,cS t] m h) K):=bf
theorem bBQ(s t:Sl)(a b:br)(m:MH)(h:PH)(K:bo):Ju s t a b m h K=(sC (Ng s t a b m h) Tryz.f104 (cC Tryz.f104) (entry 26 [cS s,cS t] m h) K):=bf
def BR:Vc.Spec:=λc m h K=>∃(s t:Sl)(a b:br),c=[cS s,cS t]/\Ints h s a/\Ints h t b/\∀r:Bool,(r=true↔a=b)->K (cB r) m h
theorem aPJ{s t:Sl}{b:br}(n:Ints h s a)(E:Ints h t b)(F:∀r:Bool,(r=true↔a=b)->K (cB r) m h):Ju s t a b m h K:=by
 dsimp only[Ju,push_cast];have c:=n.slen;have d:=E.slen;have I:=n.len;have G:a≠b->K (cB false) m h:=λh=>F false ⟨λe=>by(cases e),λe=>(h e).elim⟩;refine aB (λf=>G (λe=>?_)) (λf=>?_)
 .subst e;rw[c,d]at f;simp at f
 .have X:a.length=b.length:=by rw[c,d]at f;have:(a.length:Int)=b.length:=(bj f);omega
  refine⟨⟨0,⟨aC,λj u=>by omega⟩,rfl,rfl,rfl,rfl,rfl,rfl,trivial⟩,λi H=>aE (λz=>?_) (λJ=>?_)⟩
  .obtain⟨x,A⟩:∃x,a[i]? =some x:=⟨a[i]'(by omega),getElem?_eq_getElem _⟩
   obtain⟨y,g⟩:∃y,b[i]? =some y:=⟨b[i]'(by omega),getElem?_eq_getElem _⟩
   obtain⟨M,O,Q,R⟩:=n.at A;obtain⟨S,T,U,V⟩:=E.at g;refine⟨M,O,Q,aC,z,x,.imm (bj R),S,T,U,aC,aC,y,.imm (bj V),aB (λD=>G (λe=>?_)) (λW=>?_)⟩
   .subst e;rw[A]at g;simp at g;subst g;simp at D
   .have:x=y:=bj W
    refine⟨i+1,⟨aC,λj u=>?_⟩,aC,rfl,rfl,rfl,by rw[iJ aC],rfl,rfl,trivial⟩;by_cases e:j=i
    .subst e;rw[A,g,this]
    .exact H.2 j aC
  .refine F true ⟨λ_=>?_,λ_=>rfl⟩;apply ext_getElem?;intro j;by_cases u:j<i
   .exact H.2 j u
   .rw[getElem?_eq_none aC,getElem?_eq_none aC]
theorem aqZ:bk 42 BR:=by
 refine eV (fn:=Tryz.f42) (c:=cC Tryz.f42) func42 rfl bh ?_;rintro d m h K ⟨s,t,a,b,rfl,e,f,g⟩;exact⟨Ng s t a b m h,rfl,aF,(bRQ s t a b m h K)▸aPJ e f g⟩
theorem EL:bk 104 BR:=by
 refine eV (fn:=Tryz.f104) (c:=cC Tryz.f104) func104 rfl bh ?_;rintro d m h K ⟨s,t,a,b,rfl,e,f,g⟩;exact⟨Ng s t a b m h,rfl,aF,(bBQ s t a b m h K)▸aPJ e f g⟩
def aQ(v:QV):CV:=.val (.agg ⟨v.enc⟩)
def Query.args:Query->ce
 |.mk _ _ _ _ _ _ _ _ l=>l
theorem By{p:Query}{q:Query}(h:q∈p.args):SizeOf.sizeOf q<SizeOf.sizeOf p:=by
 cases p with
 |mk op t w c o g s l args=>
  have:=sizeOf_lt_of_mem h;simp only[Query.args]at this;simp only[Query.mk.sizeOf_spec];omega
def xM(h:PH)(s:Sl)(ps:ce):Prop:=bN h 21 QV.enc (dQ h) s ps
theorem xM.mono{s:Sl}{ps:ce}(r:xM h s ps)(le:PH.le h h'):xM h' s ps:=bN.mono r le λ_ _=>dQ.mono le
theorem AA.ofL{h:PH}:∀{ps:ce}{vs:cu},ps.length=vs.length->(∀(i:Nat)(x:Query),ps[i]? =some x->∃v,vs[i]? =some v/\dQ h x v)->AA h ps vs
 |[],[],_,_=>rfl
 |p::ps,v::vs,c,d=>by
  obtain⟨j,f,g⟩:=d 0 p rfl;simp at f;subst f;exact⟨v,vs,rfl,g,AA.ofL (bj c) λi x e=>bj (d (i+1) x (by simpa using e))⟩
 |[],_::_,c,_=>by simp at c
 |_::_,[],c,_=>by simp at c
structure tV(h:PH)(op table:Int)(w:Pred)(c:br)(o:bx)(g:br)(s:bz)(l:Int)(args:ce)(v:QV):Prop where
 op_:v.op=op
 table_:v.table=table
 where_:eW h w v.where_
 columns_:Ints h v.columns c
 on_:jK h v.on o
 group_:Ints h v.group g
 order_:gZ h v.order s
 limit_:v.limit=l
 args_:xM h v.args args
theorem dQ.parts{op table:Int}{c:br}{o:bx}{g:br}{s:bz}{l:Int}{args:ce}(x:dQ h (.mk op table w c o g s l args) v):tV h op table w c o g s l args v:=by
 obtain⟨f,j,n,t,u,y,z,A,D,E,e,d⟩:=x;exact⟨f,j,n,t,u,y,z,A,⟨⟨E,e,d.length.symm,λ_ _ F=>d.get F⟩,D⟩⟩
theorem tV.rep{op table:Int}{c:br}{o:bx}{g:br}{s:bz}{l:Int}{args:ce}(x:tV h op table w c o g s l args v):dQ h (.mk op table w c o g s l args) v:=by
 obtain⟨d,e,f,j⟩:=x.args_.ex;exact⟨x.op_,x.table_,x.where_,x.columns_,x.on_,x.group_,x.order_,x.limit_,x.args_.len,d,e,.ofL f j⟩
def bZQ(N:Nat):Vc.Spec:=λc m h K=>∃v w p q,c=[aQ v,aQ w]/\dQ h p v/\dQ h q w/\SizeOf.sizeOf p<N/\∀r:Bool,(r=true↔p=q)->K (cB r) m h
def bZX:Vc.Spec:=λc m h K=>∃v w p q,c=[aQ v,aQ w]/\dQ h p v/\dQ h q w/\∀r:Bool,(r=true↔p=q)->K (cB r) m h
def bJQ(N:Nat):Vc.Spec:=λc m h K=>∃s t ps d,c=[cS s,cS t,.val (.func (.func 242) #[] #[])]/\xM h s ps/\xM h t d/\(∀p∈ps,SizeOf.sizeOf p<N)/\∀r:Bool,(r=true↔ps=d)->K (cB r) m h
noncomputable def aRJ(N:Nat):Ctx:=ctx [(253,bDZ),(104,BR),(254,Sk),(255,Sj),(256,bJQ N)] [] [] [] false
noncomputable def aQJ(N:Nat)(s t:Sl)(ps c:ce)(m:MH)(h:PH):Ctx:=
 ctx [(242,bZQ N)] [Fu 4 (λi=>bO 32 35 [(1,sv t),(2,vv (.func (.func 242) #[] #[])),(15,sv s),(16,iv s.len),(17,iv i)] [] m h) (λi=>i<=ps.length/\∀j:Nat,j<i->ps[j]? =c[j]?) (λi=>ps.length-i)] [] [] false
abbrev u9(a b:cq)(c d:Prop)(e:Bool->Prop):Prop:=aA (a=b) c (d/\∀(x:Bool),e x)
noncomputable abbrev cA(a b:Sl):cq:=eJ a (rC b)
abbrev Ck(a b:Sl)(c:PH)(d:br->br->Bool->Prop):Prop:=∃(x:Sl),vE (λe f g=>u9 (cA a b) (cA x e) (Ints c x f) (Ints c e g) (λj=>d f g j))
abbrev oR(a:Query)(b:Nat):Prop:=SizeOf.sizeOf a<b
attribute [push_cast] u9 cA Ck oR
def KF(N:Nat)(v w:QV)(m:MH)(h:PH)(K:bo):Prop:=
  eD v.op w.op (eD v.table w.table (eD v.limit w.limit (IM (λd e p q=>u9 (jT v.where_.enc w.where_.enc) (jT d.enc e.enc) (eW h p d) (eW h q e) (λr=>fA (fS r↔p=q) r (Ck v.columns w.columns h (λa b f=>fA (fS f↔a=b) f (mS (λs t=>∃(g j:bx),u9 (cA v.on w.on) (cA s t) (jK h s g) (jK h t j) (λn=>fA (fS n↔g=j) n (Ck v.group w.group h (λM O u=>fA (fS u↔M=O) u (mS (λy z=>∃(A D:bz),u9 (cA v.order w.order) (cA y z) (gZ h y A) (gZ h z D) (λE=>fA (fS E↔A=D) E (mS (λF G=>∃(c H:ce),aA (cN v.args (eJ w.args (wO 242))=cN F (eJ G (wO 242))) (xM h F c) (aA (xM h G H) (∀(I:Query),
 List.Mem I c->oR I N) (∀(J:Bool),(fS J↔c=H)->K (Ah J) m h)))) (K aX m h)))) (K aX m h))) (K aX m h)))) (K aX m h))) (K aX m h)))) (K aX m h)) (K aX m h)) (K aX m h)
abbrev oU(a:QV->Query->Prop):Prop:=∃(x:QV)(c:Query),a x c
noncomputable abbrev dL(a:QV):CV:=jR a.enc
attribute [push_cast] oU dL
def Q1(N:Nat)(s t:Sl)(ps d:ce)(m:MH)(h:PH)(K:bo):Prop:=
  cO (aG s) (aG t) (K aX m h) (jP (∃(x:Nat),aA (jP (x<=ps.length) (λj=>j<x->ps[j]? =d[j]?)) (aH t) (aA (zY 242) (aH s) (aA (bG s) (bC x) (aA (m=m) (h=h) True)))) (λx=>jP (x<=ps.length) (λj=>j<x->ps[j]? =d[j]?)->aZ (↑x:Int) (aG s) (aK (λb o=>aA (aL s.a b o) (0<=(↑x:Int)) ((↑x:Int)<aG s/\∃(y:QV),aJ m h b (bK o x 21) y.enc/\aK (λe f=>aA (aL t.a e f) (0<=(↑x:Int)) ((↑x:Int)<aG t/\∃(g:QV),aJ m h e (bK f x 21) g.enc/\∃(v:QV),oU (λw p=>∃(q:Query),aA (gJ (dL y) (dL g)=gJ (dL v) (dL w)) (dQ h p v) (aA (dQ h q w) (oR p N) (∀(r:Bool),fA (fS r↔p=q) (!r) (K aX m h) (∃(c:Nat),aA (jP (c<=ps.length) (λj=>j<c->ps[j]? =d[j]?))
 (ps.length-c<ps.length-x) (aA (aH t) (zY 242) (aA (aH s) (bG s) (aA (bD (fP (bE x 1)) c) (m=m) (bX h h))))))))))))) (K gL m h)))
theorem bwJ{w:QV}{p:Query}(H:dQ h p v)(I:dQ h q w)(X:SizeOf.sizeOf p<N+1)(z:∀r:Bool,(r=true↔p=q)->K (cB r) m h):KF N v w m h K:=by
 dsimp only[KF,push_cast];have c:p≠q->K (cB false) m h:=λh=>z false ⟨λe=>(by cases e),λe=>(h e).elim⟩;have d:=@By p;obtain⟨op,ta,Y,co,on,gr,od,li,ps⟩:=p;obtain⟨J,M,O,Q,R,S,T,U,Z⟩:=q;have a:=H.parts;have b:=I.parts
 refine aB (λf=>aB (λg=>aB (λj=>⟨_,_,_,_,rfl,a.where_,b.where_,λr4 A=>aB (λn=>⟨_,_,_,_,rfl,a.columns_,b.columns_,λr5 D=>aB (λs=>⟨_,_,_,_,rfl,a.on_,b.on_,λr6 E=>aB (λt=>⟨_,_,_,_,rfl,a.group_,b.group_,λr7 F=>aB (λu=>⟨_,_,_,_,rfl,a.order_,b.order_,λr8 G=>aB (λy=>⟨_,_,_,_,rfl,a.args_,b.args_,λp V=>?_,λr W=>z r (W.trans ?_)⟩)
  (λy=>c λe=>?_)⟩) (λu=>c λe=>?_)⟩) (λt=>c λe=>?_)⟩) (λs=>c λe=>?_)⟩) (λn=>c λe=>?_)⟩) (λj=>c λe=>?_)) (λg=>c λe=>?_)) (λf=>c λe=>?_)
 .have:=d (q:=p) V;omega
 .rw[a.op_,b.op_,beq_iff_eq]at f;rw[a.table_,b.table_,beq_iff_eq]at g;rw[a.limit_,b.limit_,beq_iff_eq]at j;rw[f,g,j,A.1 n,D.1 s,E.1 t,F.1 u,G.1 y];exact⟨λe=>by rw[e],λe=>by injection e⟩
 .injection e with _ _ _ _ _ _ e _ _;rw[G.2 e]at y;cases y
 .injection e with _ _ _ _ _ e _ _ _;rw[F.2 e]at u;cases u
 .injection e with _ _ _ _ e _ _ _ _;rw[E.2 e]at t;cases t
 .injection e with _ _ _ e _ _ _ _ _;rw[D.2 e]at s;cases s
 .injection e with _ _ e _ _ _ _ _ _;rw[A.2 e]at n;cases n
 .injection e with _ _ _ _ _ _ _ e _;rw[a.limit_,b.limit_,e]at j;simp at j
 .injection e with _ e _ _ _ _ _ _ _;rw[a.table_,b.table_,e]at g;simp at g
 .injection e with e _ _ _ _ _ _ _ _;rw[a.op_,b.op_,e]at f;simp at f
theorem VA:∀N,bk 242 (bZQ N)
 |0=>by
  refine eV (fn:=Tryz.f242) (c:=cC Tryz.f242) func242 rfl bh ?_;rintro g m h K ⟨v,w,p,q,rfl,z,_,E,_⟩;omega
 |N+1=>by
  have A:bk 256 (bJQ N):=by
   refine iB func256 ?_;rintro g m h K ⟨s,t,ps,F,rfl,I,S,E,G⟩;refine⟨aQJ N s t ps F m h,rfl,aD (VA N) aF,Q1 N s t ps F m h K,bf,?_⟩;dsimp only[Q1,push_cast];have d:=I.slen;have D:=S.slen;have V:=I.len;have T:ps≠F->K (cB false) m h:=λh=>G false ⟨λe=>(by cases e),λe=>(h e).elim⟩;refine aB (λJ=>T (λe=>Kq d D J (by rw[e]))) (λJ=>?_);have W:=Kr d D J;refine⟨⟨0,⟨aC,λj hj=>by omega⟩,MT⟩,λi U=>aE (λf=>?_) (λX=>?_)⟩
   .obtain⟨x,H⟩:=eN d f;obtain⟨y,M⟩:∃y,F[i]? =some y:=eN (n:=s.len) aC f;obtain⟨Y,Z,u,e1,r1,ru⟩:=I.at H;obtain⟨b2,o2,w,e2,r2,O⟩:=S.at M;refine⟨Y,Z,e1,aC,f,u,.imm r1,b2,o2,e2,aC,aC,w,.imm r2,u,w,x,y,rfl,ru,O,E x (mem_of_getElem? H),λr z=>aB (λQ=>T (Qr H M (λe=>?_))) (λhe=>?_)⟩
    .have:=z.2 e;subst this;cases Q
    .have R:r=true:=bj he
     exact⟨i+1,⟨aC,yO H M (z.1 R) U.2⟩,aC,MT⟩
   .exact G true ⟨λ_=>Bt W aC U.2,λ_=>rfl⟩
  refine iB func242 ?_;rintro g m h K ⟨v,w,p,q,rfl,z,hq,E,G⟩;refine⟨aRJ N,rfl,aD Xd (aD EL (aD Xc (aD Xb (aD A aF)))),KF N v w m h K,bf,?_⟩;exact bwJ z hq E G
theorem Xh:bk 242 bZX:=pJ VA λ_ _ _ _⟨v,w,p,q,e,c,d,f⟩=>⟨SizeOf.sizeOf p+1,v,w,p,q,e,c,d,aC,f⟩
end Go.Ps
