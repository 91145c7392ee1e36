/- Own work. -/
import Derived.MapKept
import Derived.Maps.RangeRun
import Derived.Test.YtbpoogcannjnbaaGreatDoorProg
import Derived.IntWalk
import Derived.ChangeKeysEq
import Derived.Test.YtbpoogcannjnbaaGreatDoorGa
set_option linter.unusedVariables false
set_option linter.unusedSimpArgs false
namespace Go.Vc
open Go List
section
variable{B:rL}{C:Ctx}{ι:dj}{σ:St}{a:Act}{w:World}{o:Oper}{K:St->Prop}
theorem a0X(f:aK B ι σ a w)(ob:Obj):
 aK B ι {σ with m:=λb=>if b=w.heap.size then some ob else σ.m b} a (w.alloc ob)/\dL σ.m σ.h w.heap.size/\∀o,IX σ ι o w (w.alloc ob):=by
 have d:=f.wrel
 have l:dL σ.m σ.h w.heap.size:=by
  constructor
  .cases e:σ.m w.heap.size with
   |none=>rfl
   |some x=>have:=(Array.getElem?_eq_some_iff.1 (d.msat _ _ e)).1;omega
  .intro i;cases e:σ.h w.heap.size i with
   |none=>rfl
   |some x=>have:=World.block_lt_of_cell? w ⟨w.heap.size,i,none⟩ (d.hsat _ _ _ e);simp at this
 have q:(w.alloc ob).heap.size=w.heap.size+1:=by show(w.heap.push ob).size=_;simp
 refine⟨⟨f.slots,f.defers,λk n j=>(f.own k n j).world (λb c=>fH w ob (qG (f.own k n j) c)),f.dist,?_,?_,f.one⟩,l,λo=>⟨?_,?_,λ_ b c=>fH w ob c,λ_ b _ c _ _=>fH w ob c⟩⟩
 .intro k n b j c;obtain⟨y,z,A⟩:=f.fresh k n b j c;have s:=qG (f.own k n j) c
  grind
 .refine⟨d.tape,d.os,d.output,d.drawn,by rw[q];exact Nat.le_succ_of_le d.size,?_,?_,?_,?_,d.hle,d.hold,?_⟩
  .intro b c t;rw[fH w ob (ct c d.size)];exact d.frame b c t
  .intro b i v r;have g:=d.hsat b i v r;rw[<-g];exact World.cell?_of_block (w:=w) (w':=w.alloc ob) (a:=⟨b,i,none⟩) (fH w ob (World.block_lt_of_cell? w ⟨b,i,none⟩ g))
  .intro b x c;have c:(if b=w.heap.size then some ob else σ.m b)=some x:=c;by_cases e:b=w.heap.size
   .rw[if_pos e]at c;rw[e,kM];exact c
   .rw[if_neg e]at c;have g:=d.msat b x c;rw[fH w ob (Array.getElem?_eq_some_iff.1 g).1];exact g
  .intro b x c i;have c:(if b=w.heap.size then some ob else σ.m b)=some x:=c;by_cases e:b=w.heap.size
   .rw[e];exact l.h_ i
   .rw[if_neg e]at c;exact d.disj b x c i
  .intro b x c;have c:(if b=w.heap.size then some ob else σ.m b)=some x:=c;by_cases e:b=w.heap.size
   .left;rw[e];exact d.size
   .rw[if_neg e]at c;exact d.mfr b x c
 .intro k p T cs b j _ u;exact fH w ob (qG (f.own k _ j) (by rw[u];rfl))
 .intro b i v r;have g:=d.hsat b i v r;rw[<-g];exact World.cell?_of_block (w:=w) (w':=w.alloc ob) (a:=⟨b,i,none⟩) (fH w ob (World.block_lt_of_cell? w ⟨b,i,none⟩ g))
theorem U1(n:aK B ι σ a w){b:Nat}{u ob:Obj}(s:σ.m b=some u):
 aK B ι {σ with m:=λc=>if c=b then some ob else σ.m c} a {w with heap:=w.heap.setIfInBounds b ob}/\∀o,AR o.op=false->IX σ ι o w {w with heap:=w.heap.setIfInBounds b ob}:=by
 have g:=n.wrel;have y:b<w.heap.size:=(Array.getElem?_eq_some_iff.1 (g.msat _ _ s)).1
 have f:∀c,c≠b->(w.heap.setIfInBounds b ob)[c]? =w.heap[c]? :=λc l=>by
  grind
 have z:(w.heap.setIfInBounds b ob)[b]? =some ob:=by simp[y]
 have t:∀k q,nth σ.own k=some (some q)->blk (ι k)≠some b:=by
  intro k q r E;have:=(n.fresh k q b r E).2.1
  grind
 have j:∀c i v,σ.h c i=some v->({w with heap:=w.heap.setIfInBounds b ob}:World).cell? ⟨c,i,none⟩=some v:=by
  intro c i v A;have l:c≠b:=λe=>by subst e;rw[g.disj c _ s i]at A;cases A
  have D:=g.hsat c i v A;rw[<-D];exact World.cell?_of_block (w:=w) (w':={w with heap:=w.heap.setIfInBounds b ob}) (a:=⟨c,i,none⟩) (f c l)
 refine⟨⟨n.slots,n.defers,λk q r=>(n.own k q r).world (λc d=>f c (λe=>t k q r (e▸d))),n.dist,?_,?_,n.one⟩,λo H=>⟨?_,j,λh=>bk,λ_ c _ _ I _=>f c (λe=>bk)⟩⟩
 .intro k q c r d;obtain⟨J,L,M⟩:=n.fresh k q c r d
  grind
 .refine⟨g.tape,g.os,g.output,g.drawn,br g.size,?_,j,?_,?_,g.hle,g.hold,?_⟩
  .intro c d F
   have l:c≠b:=λe=>by
    subst e;rcases g.mfr c _ s with D|D
    .omega
    grind
   rw[f c l];exact g.frame c d F
  .intro c x d;have d:(if c=b then some ob else σ.m c)=some x:=d;by_cases e:c=b
   .grind
   .rw[if_neg e]at d;rw[f c e];exact g.msat c x d
  .intro c x d i;have d:(if c=b then some ob else σ.m c)=some x:=d;by_cases e:c=b
   .rw[e];exact g.disj b _ s i
   .rw[if_neg e]at d;exact g.disj c _ d i
  .intro c x d;have d:(if c=b then some ob else σ.m c)=some x:=d;by_cases e:c=b
   .rw[e];exact g.mfr b _ s
   .rw[if_neg e]at d;exact g.mfr c _ d
 .intro k p T cs c r _ G;exact f c (λe=>t k _ r (by rw[G,e];rfl))
theorem QI(g:aK B ι σ a w){t:Nat}{r:Option Operand}(i:o.op= .makeMap t r)(h:LB o r σ K):Uo B C ι o σ K a w:=by
 intro next Q b
 unfold LB at h;split at h
 .obtain⟨d,e,j⟩:=a0X g (.map #[] 0)
  have c:(execOp a.eval o).run C.P w= .ok (.value (.map (some w.heap.size))) (w.alloc (.map #[] 0)):=by
   unfold execOp;simp[i,Instr.makeMap]
  unfold Oper.wp;rw[c,Oper.upon_value];exact b ι _ _ _ (d.put o.dst (x:=.at (.val (.map (some w.heap.size)))) rfl) (h w.heap.size _ e ⟨bf,λk f=>by simp[f]⟩) (j o)
 grind
theorem aK.drew{B:rL}{ι:dj}{σ:St}{a:Act}{w:World}(h:aK B ι σ a w)(k:Nat)(c:w.drawn<=k):aK B ι σ a {w with drawn:=k}:=by
 refine⟨h.slots,h.defers,λj o d=>(h.own j o d).world (λ_ _=>rfl),h.dist,h.fresh,?_,h.one⟩;have b:=h.wrel;exact⟨b.tape,b.os,b.output,cr b.drawn c,b.size,b.frame,b.hsat,b.msat,b.disj,b.hle,b.hold,b.mfr⟩
theorem zF{α:Type}{l:List α}{j:Nat}{x:α}(h:l[j]? =some x):l=l.take j++x::l.drop (j+1):=by
 have b:=(bt h);have e:=(List.getElem?_eq_some_iff.1 h).2;rw[<-e, <-drop_eq_getElem_cons b,take_append_drop]
theorem Vh(n:aK B ι σ a w){t:Nat}{x:Operand}(v:o.op= .range t x)(h:Tx C o t x σ K):Uo B C ι o σ K a w:=by
 intro next Q f
 have d:=n.ev x;unfold Tx at h;split at h
 .rename_i s p q;rw[q]at d;have d:a.eval x= .string s:=d;obtain⟨j,k,r⟩:=a0X n (.stringIter s 0)
  have g:(execOp a.eval o).run C.P w= .ok (.value (.pointer (some ⟨w.heap.size,0,none⟩))) (w.alloc (.stringIter s 0)):=by
   unfold execOp;simp[v,d,Instr.range,run_underlying p]
  unfold Oper.wp;rw[g,Oper.upon_value];exact f ι _ _ _ (j.put o.dst (x:=.at (.val (.pointer (some ⟨w.heap.size,0,none⟩)))) rfl) (h w.heap.size _ k ⟨bf,λy l=>by simp[l]⟩) (r o)
 .rename_i G H b p q;rw[q]at d;have d:a.eval x= .map (some b):=d;obtain⟨z,⟨A,c,D,m,i,u⟩,h⟩:=h;have E:=n.wrel.msat b _ D;obtain⟨j,k,r⟩:=a0X n (.mapIter (some b) c #[] c)
  have g:(execOp a.eval o).run C.P w= .ok (.value (.pointer (some ⟨w.heap.size,0,none⟩))) (w.alloc (.mapIter (some b) c #[] c)):=by
   unfold execOp;simp[v,d,Instr.range,run_underlying p,MapKept.run_getObj_map E,Result.andThen]
  unfold Oper.wp;rw[g,Oper.upon_value];have F:b≠w.heap.size:=λe=>bk
  refine f ι _ _ _ (j.put o.dst (x:=.at (.val (.pointer (some ⟨w.heap.size,0,none⟩)))) rfl) (h w.heap.size _ k ⟨λy l=>by simp[l]⟩ ⟨A,c,c, #[],c,?_,m,i,u,bf,i,Nat.le_refl _,Nat.le_refl _,?_⟩) (r o)
  .grind
  .rw[<-m];congr 1;exact filter_eq_self.2 (λ_ _=>bf)
 grind
theorem XT(t:aK B ι σ a w){x:Operand}{st:Bool}(N:o.op= .next x st)(h:XU o x st σ K):Uo B C ι o σ K a w:=by
 intro next Q k
 have i:=t.ev x;unfold XU at h;split at h
 .rename_i b O;rw[O]at i;have i:a.eval x= .pointer (some ⟨b,0,none⟩):=i;obtain⟨s,p,hm,W,X⟩:=h;have hg:=t.wrel.msat b _ hm.at_;by_cases u:p<s.size
  .obtain⟨F,Y⟩:=U1 (ob:=.stringIter s (p+(Utf8.decode s p).2)) t hm.at_
   have d:(execOp a.eval o).run C.P w= .ok (.value (.tuple #[.bool true,.int .i64 p,.int .i32 (Utf8.decode s p).1])) {w with heap:=w.heap.setIfInBounds b (.stringIter s (p+(Utf8.decode s p).2))}:=by
    unfold execOp;simp[N,i,Instr.next,getObj,setObj,Sem.run,hg,u,goInt,Result.andThen]
   unfold Oper.wp;rw[d,Oper.upon_value];refine k ι _ _ _ (F.put o.dst (x:=.tup _) ?_) (X u _ ⟨bf,λb' G=>by simp[G]⟩) (Y o (by rw[N];rfl));exact⟨_,rfl,rfl,rfl,rfl,trivial⟩
  .have d:(execOp a.eval o).run C.P w= .ok (.value (.tuple #[.bool false])) w:=by
    unfold execOp;simp[N,i,Instr.next,getObj,Sem.run,hg,u,Result.andThen]
   unfold Oper.wp;rw[d,Oper.upon_value];refine k ι _ _ _ (t.put o.dst (x:=.tup _) ?_) (W aC) (lB t);exact⟨_,rfl,rfl,trivial⟩
 .rename_i r O;rw[O]at i;have i:a.eval x= .pointer (some ⟨r,0,none⟩):=i;obtain⟨b,a3,left,⟨l,f,g,c,c0,Z,a',H,I,R,y,a0,z,J⟩,W,X⟩:=h;have a1:=t.wrel.msat b _ Z;have a2:=t.wrel.msat r _ R;rcases run_next_at (P:=C.P) w o.type r b g c0 c l f a2 a1 y a0 with⟨h0,d⟩|⟨e,he,w1,hw1,d⟩
  .have hl:left=[]:=by
    rw[<-J];have:(leftOf l c).toList=[]:=bk
    unfold leftOf at this
    grind
   have d:(execOp a.eval o).run C.P w= .ok (.value (.tuple #[.bool false])) w:=by
    unfold execOp;simp[N,i,d,Result.andThen]
   unfold Oper.wp;rw[d,Oper.upon_value];refine k ι _ _ _ (t.put o.dst (x:=.tup _) ?_) (W hl) (lB t);exact⟨_,rfl,rfl,trivial⟩
  .have M:∃n,aK B ι σ a w1/\w1={w with drawn:=n}:=by
    rcases hw1 with rfl|rfl
    .grind
    .exact⟨w.drawn+1,t.drew (w.drawn+1) (Nat.le_succ _),rfl⟩
   obtain⟨n,M,S⟩:=M;obtain⟨F,Y⟩:=U1 (ob:=.mapIter (some b) g (c.push e.born) f) M R
   have d:(execOp a.eval o).run C.P w= .ok (.value (.tuple #[.bool true,e.key,e.val])) {w1 with heap:=w1.heap.setIfInBounds r (.mapIter (some b) g (c.push e.born) f)}:=by
    unfold execOp;simp[N,i,d,Result.andThen,ChangeMaps.setBlock]
   have T:e∈l.toList.filter λe=> !c.contains e.born:=by
    unfold leftOf at he
    grind
   have U:e∈l.toList:=(mem_filter.1 T).1;obtain⟨j,hj⟩:=getElem?_of_mem T;have v:=zF hj;have a4:r≠b:=λe=>bk
   have q:(((l.toList.filter λe=> !c.contains e.born)).map (·.born)).Nodup:=I.sublist (filter_sublist.map _)
   have V:l.toList.filter (λx=> !(c.push e.born).contains x.born)=(l.toList.filter λe=> !c.contains e.born).take j++(l.toList.filter λe=> !c.contains e.born).drop (j+1):=by
    have h3:l.toList.filter (λx=> !(c.push e.born).contains x.born)=(l.toList.filter λe=> !c.contains e.born).filter λx=>x.born !=e.born:=by
     rw[filter_filter]
     grind
    rw[h3];generalize (l.toList.filter λe=> !c.contains e.born)=L at v q hj;have u:=(bt hj);generalize L.take j=A at v;generalize L.drop (j+1)=D at v;subst v;simp only[cd,map_cons,nodup_append,nodup_cons,mem_map,mem_cons]at q;obtain⟨_,⟨a5,_⟩,a6⟩:=q;rw[filter_append,filter_cons];simp only[bne_self_eq_false,Bool.false_eq_true,if_false];congr 1
    .refine filter_eq_self.2 λx O=>?_
     grind
    .refine filter_eq_self.2 λx O=>?_
     grind
   unfold Oper.wp;rw[d,Oper.upon_value];have E:(if b=r then some (Obj.mapIter (some b) g (c.push e.born) f)else σ.m b)=some (.map l f):=bk
   refine k ι _ _ _ (F.put o.dst (x:=.tup _) ?_) (X (((l.toList.filter λe=> !c.contains e.born).take j).map λe=>(e.key,e.val)) (e.key,e.val) (((l.toList.filter λe=> !c.contains e.born).drop (j+1)).map λe=>(e.key,e.val)) ?_ _ ⟨λb' G=>by simp[G]⟩ ⟨⟨l,f,g,c.push e.born,f,E,a',H,I,bf,y,z,z,?_⟩,l,f,g,c,e,E,I,bf,U,rfl⟩) ?_
   .exact⟨_,rfl,rfl,rfl,rfl,trivial⟩
   .grind
   .grind
   .have:=Y o (by rw[N];rfl);subst S;exact⟨this.cells,this.imm,this.ext,this.args⟩
 grind
theorem W8(j:aK B ι σ a w){x:Operand}(q:o.op= .entry x)(h:T8 C o x σ K):Uo B C ι o σ K a w:=by
 intro next Q f
 have d:=j.ev x;unfold T8 at h;split at h
 .rename_i r t;rw[t]at d;have d:a.eval x= .pointer (some ⟨r,0,none⟩):=d;obtain⟨b,u,left,x,⟨_,v,g,i,k,e,l,m,n,y,rfl⟩,h⟩:=h;have c:=run_entry_at (P:=C.P) w r b i k v g e (j.wrel.msat r _ n) (j.wrel.msat b _ l) y m
  have c:(execOp a.eval o).run C.P w= .ok (.value (.tuple #[e.key,e.val])) w:=by
   unfold execOp;simp[q,d,c,Result.andThen]
  have h:K (σ.put o.dst (.tup [.inl (.val e.key),.inl (.val e.val)])):=by
   split at h
   .obtain⟨s,p,h⟩:=h;have p:e.val=Sl.val s:=p;rw[p];exact h
   .exact h
  unfold Oper.wp;rw[c,Oper.upon_value];refine f ι _ _ _ (j.put o.dst (x:=.tup _) ?_) h (lB j);exact⟨_,rfl,rfl,rfl,trivial⟩
 grind
theorem F8{P:Program}{f:TypeId}{Ok:Value->Prop}(L:KeyLaw P f Ok){k:Value}(n:Ok k)(w:World):∀(es:List MapEntry)(i:Nat),(∀e∈es,Ok e.key)->
 ((∀e∈es,e.key≠k)/\(Instr.findAsking f k es i).run P w= .ok none w)\/∃j e,es[j]? =some e/\e.key=k/\(Instr.findAsking f k es i).run P w= .ok (some (i+j,e.val)) w
 |[],i,_=>.inl ⟨λe p=>(by cases p),by simp[Instr.findAsking]⟩
 |e::es,i,b=>by
  obtain⟨r,g,l⟩:=L.eq k e.key w n (b e bf);cases r with
  |true=>exact .inr ⟨0,e,rfl,(l.1 rfl).symm,by simp[Instr.findAsking,g]⟩
  |false=>
   have q:e.key≠k:=λh=>bk
   rcases F8 L n w es (i+1) (λd c=>b d (by simp[c]))with⟨s,m⟩|⟨j,d,s,m,t⟩
   .refine .inl ⟨λd c=>?_,by simp[Instr.findAsking,g,m]⟩
    grind
   .exact .inr ⟨j+1,d,bk,m,by simp[Instr.findAsking,g,t];omega⟩
theorem findNow_spec{P:Program}{n:TypeId}{Ok:Value->Prop}(L:KeyLaw P n Ok){d:TypeDesc}(c:P.underlying n=some d){k:Value}(f:Ok k):∀(es:List MapEntry)(i:Nat)(r:Option (Nat×Value)),(∀e∈es,Ok e.key)->
 Instr.findNow d k es i=some r->((∀e∈es,e.key≠k)/\r=none)\/∃j e,es[j]? =some e/\e.key=k/\r=some (i+j,e.val)
 |[],i,r,_,h=>by
  simp[Instr.findNow]at h
  grind
 |e::es,i,r,b,h=>by
  simp only[Instr.findNow]at h;split at h
  .rename_i g;simp only[ce]at h;exact .inr ⟨0,e,rfl,((L.now d k e.key true c f (b e bf) g).1 rfl).symm,bk⟩
  .rename_i g;have q:e.key≠k:=λs=>by have:=(L.now d k e.key false c f (b e bf) g).2 s.symm;cases this
   rcases findNow_spec L c f es (i+1) r (λl m=>b l (by simp[m])) h with⟨t,p⟩|⟨j,l,t,p,u⟩
   .grind
   .exact .inr ⟨j+1,l,bk,p,bk⟩
  .cases h
theorem run_findKey{P:Program}{c:TypeId}{Ok:Value->Prop}(L:KeyLaw P c Ok){k:Value}(l:Ok k)(w:World)(es:List MapEntry)(f:∀e∈es,Ok e.key):
 ((∀e∈es,e.key≠k)/\(Instr.findKey c k es).run P w= .ok none w)\/∃j e,es[j]? =some e/\e.key=k/\(Instr.findKey c k es).run P w= .ok (some (j,e.val)) w:=by
 obtain⟨d,g⟩:=L.under;cases h:Instr.findNow d k es 0 with
 |some r=>
  have b:(Instr.findKey c k es).run P w= .ok r w:=by simp[Instr.findKey,run_underlying g,h]
  rcases findNow_spec L g l es 0 r f h with⟨i,rfl⟩|⟨j,e,i,m,rfl⟩
  .grind
  grind
 |none=>
  have b:(Instr.findKey c k es).run P w=(Instr.findAsking c k es).run P w:=by simp[Instr.findKey,run_underlying g,h]
  rw[b];rcases F8 L l w es 0 f with⟨i,m⟩|⟨j,e,i,m,n⟩
  .grind
  grind
theorem UG{P:Program}{T:TypeId}{z:Value}(h:Tb P T=some z)(w:World):(zeroValue T).run P w= .ok z w:=by
 unfold Tb at h;split at h
 .rename_i i d;split at h
  .rename_i k n c;simp only[ce]at h;subst h;simp[zeroValue,typeInfo,d,c]
  .rename_i b c;simp only[ce]at h;subst h;simp[zeroValue,typeInfo,d,c]
  .rename_i c;simp only[ce]at h;subst h;simp[zeroValue,typeInfo,d,c]
  .cases h
 .cases h
theorem TL(i:aK B ι σ a w){t:Nat}{x k:Operand}{ok:Bool}(I:o.op= .lookup t x k ok)(h:Pa C o t x k ok σ K):Uo B C ι o σ K a w:=by
 intro next Q c
 have d:=i.ev x;unfold Pa at h;split at h
 .rename_i kt A b J M U D;rw[U]at d;have d:a.eval x= .map (some b):=d;have n:a.eval k=J:=(i.ev k).val? D;split at h
  .rename_i z V;obtain⟨q,Ok,⟨m,E,W,X⟩,L,r,N,l,s⟩:=h;have O:=i.wrel.msat b _ W
   have v:∀e∈m.toList,∃p∈q,e.key=p.1/\e.val=only ((C.dec A).enc p.2):=by
    intro e F
    have:(e.key,e.val)∈q.map λp=>(p.1,only ((C.dec A).enc p.2)):=by
     grind
    grind
   have y:∀e∈m.toList,Ok e.key:=λe F=>by
    grind
   have g:=L.check J w m.isEmpty r;unfold Oper.wp;rcases run_findKey L r w m.toList y with⟨R,S⟩|⟨j,e,R,S,Y⟩
   .have f:(execOp a.eval o).run C.P w= .ok (.value (if ok then .tuple #[z,.bool false]else z)) w:=by
     unfold execOp;simp[I,d,n,Instr.lookup,run_underlying M,MapKept.run_getObj_map O,g,S,UG V,Result.andThen]
    rw[f,Oper.upon_value];refine c ι _ _ _ (i.put o.dst ?_) (l ?_) (lB i)
    .cases ok
     .rfl
     .exact⟨_,rfl,rfl,rfl,trivial⟩
    .intro p Z e1
     have:(p.1,only ((C.dec A).enc p.2))∈m.toList.map λe=>(e.key,e.val):=by
      grind
     grind
   .have F:e∈m.toList:=bx R;obtain⟨p,Z,e1,G⟩:=v e F
    have f:(execOp a.eval o).run C.P w= .ok (.value (if ok then .tuple #[e.val,.bool true]else e.val)) w:=by
     unfold execOp;simp[I,d,n,Instr.lookup,run_underlying M,MapKept.run_getObj_map O,g,Y,Result.andThen]
    have T:=s p.2 bk;rw[f,Oper.upon_value];split at T
    .rename_i u H;rw[H]at G;refine c ι _ _ _ (i.put o.dst ?_) T (lB i);cases ok
     .exact G
     .exact⟨_,rfl,G,rfl,trivial⟩
    grind
  grind
 grind
theorem Nr(i:aK B ι σ a w){t:Nat}{x k v:Operand}(I:o.op= .mapUpdate t x k v)(l:o.dst=none)(h:Dj C t x k v σ K):Uo B C ι o σ K a w:=by
 intro next Q f
 have d:=i.ev x;unfold Dj at h;split at h
 .rename_i Y Z b m u S T z U;rw[T]at d;have d:a.eval x= .map (some b):=d;have A:a.eval k=m:=(i.ev k).val? z;have D:a.eval v=u:=(i.ev v).val? U;obtain⟨E,Ok,⟨g,c,J,F⟩,L,n,p,M,V⟩:=h;have N:=i.wrel.msat b _ J;have q:∀e∈g.toList,(e.key,e.val)∈E:=λe O=>bk
  have r:∀e∈g.toList,Ok e.key:=λe O=>p _ (q e O);have s:=L.check m w false n;rcases run_findKey L n w g.toList r with⟨W,R⟩|⟨j,e,W,R,h3⟩
  .obtain⟨G,X⟩:=U1 (ob:=.map (g.push {key:=m,val:=u,born:=c}) (c+1)) i J
   have y:(execOp a.eval o).run C.P w= .ok .skip {w with heap:=w.heap.setIfInBounds b (.map (g.push {key:=m,val:=u,born:=c}) (c+1))}:=by
    unfold execOp;simp[I,d,A,D,Instr.mapUpdate,run_underlying S,MapKept.run_getObj_map N,MapKept.run_setObj_map _ N,s,R,Result.andThen]
   unfold Oper.wp;rw[y,Oper.upon_skip,show a.put o.dst undef=a by rw[l];rfl];refine f ι _ _ _ G (V _ ⟨λb' H=>by simp[H]⟩ ⟨g.push {key:=m,val:=u,born:=c},c+1,bf,?_⟩) (X o (by rw[I];rfl));simp[F]
  grind
 grind
theorem TK(y:aK B ι σ a w){t:Nat}{x k v:Operand}(M:o.op= .mapUpdate t x k v)(m:o.dst=none)(h:Kv C t x k v σ K):Uo B C ι o σ K a w:=by
 intro next Q f
 have g:=y.ev x;unfold Kv at h;split at h
 .rename_i kt et b l u hu hx O hv;rw[hx]at g;have g:a.eval x= .map (some b):=g;have z:a.eval k=l:=(y.ev k).val? O;have A:a.eval v=u:=(y.ev v).val? hv;obtain⟨R,Ok,⟨d,c,S,T,U,a0⟩,L,D,q,E,F,G⟩:=h;have N:=y.wrel.msat b _ S;have H:∀e∈d.toList,(e.key,e.val)∈R:=λe V=>bk
  have I:∀e∈d.toList,Ok e.key:=λe V=>E _ (H e V);have n:=L.check l w false D;rcases run_findKey L D w d.toList I with⟨W,X⟩|⟨j,e,W,X,h3⟩
  .obtain⟨r,Y⟩:=U1 (ob:=.map (d.push {key:=l,val:=u,born:=c}) (c+1)) y S
   have i:(execOp a.eval o).run C.P w= .ok .skip {w with heap:=w.heap.setIfInBounds b (.map (d.push {key:=l,val:=u,born:=c}) (c+1))}:=by
    unfold execOp;simp[M,g,z,A,Instr.mapUpdate,run_underlying hu,MapKept.run_getObj_map N,MapKept.run_setObj_map _ N,n,X,Result.andThen]
   unfold Oper.wp;rw[i,Oper.upon_skip,show a.put o.dst undef=a by rw[m];rfl];refine f ι _ _ _ r (F (λp hp e1=>?_) _ ⟨λb' s=>by simp[s]⟩ ⟨d.push {key:=l,val:=u,born:=c},c+1,bf,by simp[T],λe V=>?_,?_⟩) (Y o (by rw[M];rfl))
   .grind
   .grind
   grind
  .have J:=(bt W);have Z:d[j]? =some e:=bk
   obtain⟨r,Y⟩:=U1 (ob:=.map (d.modify j λe=>{e with key:=l,val:=u}) c) y S
   have i:(execOp a.eval o).run C.P w= .ok .skip {w with heap:=w.heap.setIfInBounds b (.map (d.modify j λe=>{e with key:=l,val:=u}) c)}:=by
    unfold execOp;simp[M,g,z,A,Instr.mapUpdate,run_underlying hu,MapKept.run_getObj_map N,MapKept.run_setObj_map _ N,n,h3,Z,X,Instr.keyThatStays,q,Result.andThen]
   have a':(d.modify j λe=>{e with key:=l,val:=u}).toList=d.toList.take j++{e with key:=l,val:=u}::d.toList.drop (j+1):=by
    rw[Array.toList_modify,modify_eq_take_cons_drop J]
    grind
   have a1:=zF W;unfold Oper.wp;rw[i,Oper.upon_skip,show a.put o.dst undef=a by rw[m];rfl];refine f ι _ _ _ r (G ((d.toList.take j).map λe=>(e.key,e.val)) e.val ((d.toList.drop (j+1)).map λe=>(e.key,e.val)) ?_ _ ⟨λb' s=>by simp[s]⟩ ⟨d.modify j λe=>{e with key:=l,val:=u},c,bf,?_,?_,?_⟩) (Y o (by rw[M];rfl))
   .grind
   .grind
   .grind
   grind
 grind
end
end Go.Vc
namespace Go.Vc
open Go List
section
variable{B:rL}{C:Ctx}{ι:dj}{σ:St}{a:Act}{w:World}{o:Oper}{K:St->Prop}
theorem a0Q(g:aK B ι σ a w)(m:FR o.op=true)(h:QH C o σ K):Ut C ι o σ K a w:=by
 unfold QH at h;cases j:o.op<;>simp only[j]at h m
 case move x=>exact O7 g (.inl j) h
 case assign x=>exact O7 g (.inr j) h
 case pick c x y=>exact XQ g j h
 case build T ps=>exact Xg g j h
 case load T x=>exact XW g j h
 case nilCheck x=>exact O0 g j h
 case binOp op tx x y ty=>
  cases op
  case eql=>
   simp only at h;split at h
   .exact F6 (neg:=false) g j h
   .exact lW g (λcs b=>bk) h
  case neq=>
   simp only at h;split at h
   .exact F6 (neg:=true) g j h
   .exact lW g (λcs b=>bk) h
  case add=>exact Uc g j h
  all_goals first
   |exact lW g (λcs b=>by rw[j];intro e;cases e) h
   |exact aRX g j h
 case unOp op t x=>exact lW g (λcs b=>bk) h
 case convert s d x=>exact QL g j h
 case fieldAddr T x f=>exact Nu g j h
 case field T x f=>exact VW g j h
 case indexAddr T x i=>exact Nt g j h
 case index T x i=>exact VJ g j h
 case extract x i=>exact QK g j h
 case call c=>
  obtain⟨k,args,l⟩:=c;cases k with
  |builtin b=>
   cases b<;>simp only[FR,Bool.false_eq_true]at m
   case len=>
    simp only at h;split at h
    .rename_i x p;exact ayJ g j rfl p h
    grind
   case min=>exact lW g (λcs b=>bk) h
   case max=>exact lW g (λcs b=>bk) h
  |value f=>simp[FR]at m
  |invoke r n=>grind
 all_goals (first|exact h.elim|(simp[FR]at m))
theorem Ut.stp(d:aK B ι σ a w)(h:Ut C ι o σ K a w):Uo B C ι o σ K a w:=by
 intro next Q b
 obtain⟨v,x,c,e,f⟩:=h;unfold Oper.wp;rw[c w (.inr rfl),Oper.upon_value];exact b ι _ _ _ (d.put o.dst e) f (lB d)
theorem Cq(f:aK B ι σ a w):∀(i:Nat)(l:dw)(e:em)(b:du),r9 C.P σ [] i l e=some b->b=(l.map a.eval).map .val
 |i,[],e,b,h=>by simp[r9]at h;subst h;rfl
 |i,x::r,e,b,h=>by
  simp only[r9]at h;split at h
  .cases h
  .rename_i d c;have g:=Cq f (i+1) r e.tail d c;simp only[contains_nil]at h;split at h
   .rename_i u j;simp only[ce]at h;subst h;simp only[map_cons,(f.ev x).val? j,g]
   .cases h
theorem K7:∀(l b:cv),Oi (l.map .val) b=(l++b).map .val
 |[],_=>rfl
 |v::l,b=>by simp only[map_cons,Oi,K7 l b,cons_append]
theorem TH{P:Program}{T:TypeId}{cs:cv}{ι:dj}:Dnt ι (mk P T (cs.map .val)) (valOf P T cs):=by
 unfold mk valOf;cases Cm P T with
 |true=>exact⟨_,rfl,by simpa using(iM.vals (ι:=ι)).2 rfl⟩
 |false=>match cs with
  |[]=>exact trivial
  |[x]=>exact rfl
  |_::_::_=>exact trivial
theorem Sound.fat{P:Program}{f:FuncId}{S:Spec}{T:TypeId}{vs:cv}{m:MH}{h:PH}{R:cv->MH->PH->Prop}(G:Sound P f S)(I:S (vs.map .val) m h (λr m' z=>∃l,r= .val (valOf P T l)/\R l m' z)):FAt P f T (vs.map .val) m h R:=by
 have A:∀{l D:cv},l.map CV.val=D.map CV.val->l=D:=fun{l D} e=>(List.map_inj_right (λx y h=>by cases h;rfl)).1 e;refine⟨G.1,λJ w L E=>?_⟩;rw[<-A L]
 have p:∀(l:cv)(w:World),Cy w (l.map .val) l:=λl w=>by
  induction l with
  |nil=>trivial
  |cons a l M=>exact⟨rfl,M⟩
 have s:∀(l:cv)(i:Nat)(c:CV)(u:Value)(b:Nat),(l.map CV.val)[i]? =some c->gA c u=some b->False:=λl i c u b n g=>by
  rw[getElem?_map]at n;cases e:l[i]? with
  |none=>grind
  |some v=>rw[e]at n;simp at n;subst n;simp[gA]at g
 refine(G.2 _ vs m h w _ I ⟨p _ _,E.hsat,E.msat,E.disj,λi j c d u v b n _ _ _ g _=>(s _ i c u b n g).elim,λi c u b n _ g=>(s _ i c u b n g).elim⟩).mono ?_;rintro e O ⟨r,u,m',z,rfl,⟨l,rfl,N⟩,q,k,_⟩;have q:u=valOf P T l:=q;subst q
 have H:∀b,m b=none->¬tA m (vs.map .val) vs b:=by
  rintro b g (t|⟨i,c,u,n,_,Q⟩)
  .exact t g
  grind
 refine⟨l,m',z,rfl,N,⟨k.tape,k.os,k.output,k.drawn,k.size,λb g F=>k.frame b g (H b F),⟨k.hsat,k.msat,k.disj⟩,⟨k.hle⟩,λb g F=>k.hold b g (H b F),λb o g=>?_⟩⟩;rcases k.mfr b o g with t|t
 .exact .inl t
 grind
theorem aRQ(q:aK B ι σ a w){c:Call}{g:Operand}{T:TypeId}{f:FuncId}{F cs:Array Value}(Y:o.op= .call c)(hc:c.callee= .value g)
 (hg:σ.ev g= .at (.val (.func (.func f) F cs)))(a':F.toList=[])(h:blZ C o T f cs.toList c.args.toList σ K):Uo B C ι o σ K a w:=by
 intro next Q r
 unfold blZ at h;split at h
 .rename_i a0 t;obtain⟨R,H,h⟩:=h;have I:=Cq q 0 _ _ _ t;subst I;rw[K7]at H;have G:=q.wrel;obtain⟨Z,J,L,M⟩:=H.fn;have s:=H.go _ w rfl ⟨G.hsat,G.msat,G.disj⟩;have N:a.eval g= .func (.func f) F cs:=by have:=q.ev g;rw[hg]at this;exact this
  have u:F= #[]:=bk
  subst u;have n: #[]++c.args.map a.eval++cs=(c.args.toList.map a.eval++cs.toList).toArray:=bk
  have O:¬Z.body=none:=bk
  have S:¬Z.name= "runtime.NumGoroutine" :=bk
  have y:(execOp a.eval o).run C.P w= .ok (.enter f (c.args.toList.map a.eval++cs.toList).toArray) w:=by
   unfold execOp;simp only[Y,resolve,hc,N,Deferred.ofValue,Sem.run_bind,Sem.run_pure,Result.andThen_ok,invoke,callFunc];rw[n];simp[program,Sem.run,J,S,O]
  unfold Oper.wp;rw[y,Oper.upon_enter];refine Calls.mono s ?_;rintro e w' ⟨l,m',h',rfl,⟨x,rfl,hx⟩,d⟩;show next (a.put o.dst (valOf C.P T ((C.dec T).enc x))) w'
  have U:xC ⟨w,λb=>σ.m b≠none,σ.h,[]⟩ m' h' w':=
   ⟨d.tape,d.os,d.output,d.drawn,d.size,λb i z=>d.frame b i (Classical.byContradiction z),d.heapy.hsat,d.heapy.msat,d.heapy.disj,d.hle.le,λb i z=>d.hold b i (Classical.byContradiction z),λb V i=>d.mfr b V i⟩
  have W:=q.called U (λb i=>by
   cases hm:σ.m b with
   |none=>grind
   |some V=>exact G.mfr b V hm) (λj o' b hj i z=>z (q.fresh j o' b hj i).2.1)
  refine r ι _ _ _ (W.put o.dst TH) (h x m' h' hx) ⟨λk p T a1 b hk _ hι=>?_,λb A v I=>d.heapy.hsat b A v (d.hle.le b A v I),λD=>?_,λl b _ i X _=>d.frame b i X⟩
  .have E:blk (ι k)=some b:=by rw[hι];rfl
   exact d.frame b (qG (q.own k _ hk) E) (q.fresh k _ b hk E).2.1
  .rw[Y]at D;simp[AR]at D
 grind
theorem Vq(t:∀g S,assoc C.specs g=some S->Sound C.P g S)(e:aK B ι σ a w)(h:QH C o σ K):Uo B C ι o σ K a w:=by
 cases R:FR o.op with
 |true=>exact(a0Q e R h).stp e
 |false=>
  unfold QH at h;cases j:o.op<;>simp only[j]at h R
  case alloc T=>
   intro next Q u
   refine Xk e j h next Q (λA J D E i p F=>?_)
   obtain⟨U,q,s,_⟩:=zU _ _ i p
   grind
  case box T x=>
   split at h
   .intro next Q u
    obtain⟨τ,m,G,H⟩:=oT _ _ e h;refine SO m j G next Q (λA J D E i p F=>?_)
    obtain⟨U,q,s,_⟩:=zU _ _ i p;exact u A U D E q s (F.of_fz H)
   .exact SO e j h
  case buildSlice T n ps=>
   intro next Q u
   refine Mt e j h next Q (λA J D E i p F=>?_)
   obtain⟨U,q,s,_⟩:=DL _ _ i p;obtain⟨σ3,V,W,_⟩:=oT _ _ q s
   grind
  case makeFunc f x cs=>
   intro next Q u
   obtain⟨τ,m,G,a0⟩:=zU _ _ e h;obtain⟨v,x,N,O,G⟩:=lW m (λcs b=>bk) G;unfold Oper.wp;rw[N w (.inr rfl),Oper.upon_value];exact u ι _ _ _ (m.put o.dst O) G (lB e)
  case store T x v=>
   cases L:o.dst with
   |none=>
    rw[L]at h;intro next Q u
    obtain⟨τ,m,G,H⟩:=oT _ _ e h;exact US m j L G next Q (λA J D E i p F=>u A J D E i p (F.of_fz H))
   |some d=>grind
  case makeSlice T l c=>
   intro next Q u
   refine Ns e j h next Q (λA J D E i p F=>?_)
   obtain⟨U,q,s,_⟩:=DL _ _ i p
   grind
  case slice T x lo hi mx=>exact U0 e j h
  case makeMap T r=>exact QI e j h
  case lookup T x k ok=>exact TL e j h
  case mapUpdate T x k v=>
   cases L:o.dst with
   |none=>
    rw[L]at h;have h:(match O9 C.heapT 400000 with|true=>Kv C T x k v σ K|false=>Dj C T x k v σ K):=h;split at h
    .exact TK e j L h
    .exact Nr e j L h
   |some d=>grind
  case range T x=>exact Vh e j h
  case next x b=>exact XT e j h
  case entry x=>exact W8 e j h
  case call c=>
   obtain⟨z,args,M⟩:=c;cases z with
   |builtin b=>
    cases b<;>simp only[FR,Bool.true_eq_false]at R<;>simp only at h
    case append=>
     split at h
     .rename_i x y T tx O X;intro next Q u
      refine Ug e j rfl O X h next Q (λA J D E i p F=>?_)
      obtain⟨σ3,V,W,_⟩:=oT _ _ i p
      grind
     .exact h.elim
    case copy=>
     split at h
     .rename_i x y T tx O X;exact ZI e j rfl O X h
     .exact h.elim
    case cap=>exact(lW e (λcs b=>bk) h).stp e
    all_goals exact h.elim
   |value g=>
    simp only at h;split at h
    .rename_i f fs cs Z;split at h
     .split at h
      .rename_i I;exact aRQ e j rfl Z I h
      .exact h.elim
     .split at h
      .rename_i I Y;exact ZO t e j rfl Z I Y h
      .exact h.elim
    .exact h.elim
   |invoke r n=>exact h.elim
  all_goals (first|exact h.elim|(simp[FR]at R))
theorem Ou(c:aK B ι σ a w){d:Nat}{xs:Array Value}(h:σ.ev (.tmp d)= .at (.val (.tuple xs))):a.tmps[d]? =none\/∃xs,a.tmps[d]? =some (.tuple xs):=by
 have b:=c.ev (.tmp d);rw[h]at b;have b:a.eval (.tmp d)= .tuple xs:=b;simp only[Act.eval,Array.getD_eq_getD_getElem?]at b
 grind
theorem Ip(c:aK B ι σ a w){d:Nat}{t:Bool}(h:σ.ev (.tmp d)= .at (.val (.bool t))):a.tmps[d]? =some (.bool t):=by
 have b:=c.ev (.tmp d);rw[h]at b;have b:a.eval (.tmp d)= .bool t:=b;simp only[Act.eval,Array.getD_eq_getD_getElem?]at b;cases e:a.tmps[d]? with
 |none=>rw[e]at b;simp[undef]at b
 |some v=>grind
theorem aK.setTmp(b:aK B ι σ a w){c:Operand}{t:Bool}(h:σ.ev c= .at (.val (.bool t))):aK B ι (setTmp σ c t) a w:=by
 cases c with
 |tmp d=>
  refine⟨?_,b.defers,b.own,b.dist,b.fresh,b.wrel,b.one⟩;have i:=Ip b h;have:=b.slots.set d (x:=.at (.val (.bool t))) (v:=.bool t) rfl;show DenS ι (σ.sl.set d _) a.tmps.toList
  have e:a.tmps.toList.set d (.bool t)=a.tmps.toList:=by
   apply ext_getElem?
   grind
  grind
 |const v=>exact b
 |global g=>exact b
 |func f=>exact b
theorem Ro{c:Operand}{t:Bool}(h:σ.ev c= .at (.val (.bool t))):Fz σ (setTmp σ c t):=by
 cases c with
 |tmp d=>
  refine⟨λ_ _ _ cs h=>⟨cs,h⟩,λ_ _ _ h=>h,?_,?_,rfl⟩
  .intro x k i b;cases x with
   |tmp e=>
    simp only[Vc.setTmp,St.ev,Af]at b;simp only[St.ev]
    grind
   |const v=>exact b
   |global g=>exact b
   |func f=>exact b
  .intro x k b;cases x with
   |tmp e=>
    simp only[Vc.setTmp,St.ev,Af]at b;simp only[St.ev]
    grind
   |const v=>exact b
   |global g=>exact b
   |func f=>exact b
 |const v=>exact Fz.refl σ
 |global g=>exact Fz.refl σ
 |func f=>exact Fz.refl σ
def GWp(C:Ctx)(ops:Array Oper)(o:Oper)(a:Act)(w:World)(next:Act->World->Prop)(Q:Exit->Act->World->Prop):Prop:=
 if Region.wanted o (yielded ops a.tmps)then o.wp C.P a w next Q else next (a.put o.dst undef) w
theorem QS{ops:Array Oper}{j d:Nat}{b t:Bool}{g:Oper}(e:o.guard=some (j,b))(c:nth ops.toList j=some g)(f:g.dst=some d)(h:a.tmps[d]? =some (.bool t)):
 Region.wanted o (yielded ops a.tmps)=(t==b):=by
 unfold Region.wanted;rw[e];rw[jN,cn]at c;simp[yielded,c,f,h]
theorem IZ{ops:Array Oper}{j d:Nat}{b:Bool}{g:Oper}(f:o.guard=some (j,b))(e:nth ops.toList j=some g)(h:g.dst=some d)(c:a.tmps[d]? =none\/∃xs,a.tmps[d]? =some (.tuple xs)):
 Region.wanted o (yielded ops a.tmps)=false:=by
 unfold Region.wanted;rw[f];rw[jN,cn]at e;rcases c with c|⟨xs,c⟩<;>simp[yielded,e,h,c]
theorem Dp{f:Oper->St->(St->Prop)->Prop}{ops:Array Oper}(c:aK B ι σ a w)(h:Pl f ops o σ K):
 ∃e,aK B ι e a w/\Fz σ e/\((Region.wanted o (yielded ops a.tmps)=true/\f o e K)\/(Region.wanted o (yielded ops a.tmps)=false/\K (e.put o.dst (.at (.val undef))))):=by
 unfold Pl at h;split at h
 .rename_i i;exact⟨σ,c,Fz.refl σ,.inl ⟨by simp[Region.wanted,i],h⟩⟩
 .rename_i j l i;split at h
  .exact h.elim
  .rename_i g m;split at h
   .exact h.elim
   .rename_i d n;split at h
    .rename_i t b;have k:=Ip c b;have p:=QS (o:=o) (a:=a) i m n k;rcases tQ h with⟨rfl,h⟩|⟨rfl,h⟩
     .refine⟨setTmp σ (.tmp d) true,c.setTmp b,Ro b,?_⟩
      grind
     .refine⟨setTmp σ (.tmp d) false,c.setTmp b,Ro b,?_⟩
      grind
    .rename_i q b;exact⟨σ,c,Fz.refl σ,.inr ⟨IZ i m n (Ou c b),h⟩⟩
    grind
theorem VL(c:∀g S,assoc C.specs g=some S->Sound C.P g S){ops:Array Oper}(l:aK B ι σ a w)(h:TW C ops o σ K)
 (next:Act->World->Prop)(Q:Exit->Act->World->Prop)(b:∀i e f w',aK B i e f w'->K e->IX σ ι o w w'->next f w'):GWp C ops o a w next Q:=by
 obtain⟨r,d,j,m⟩:=Dp l h;unfold GWp;rcases m with⟨k,h⟩|⟨k,h⟩
 .rw[if_pos k];exact Vq c d h next Q (λi e f w' n p q=>b i e f w' n p (q.of_fz j))
 .rw[if_neg (by simp[k])];exact b ι _ _ _ (d.put o.dst (x:=.at (.val undef)) rfl) h (lB l)
theorem Oo{P:Program}{next:Act->World->Prop}{Q:Exit->Act->World->Prop}(h:o.wp P a w next Q):o.wpIn Fence.wide 0 P a w next Q:=by
 refine⟨λ_ _=>trivial,?_⟩;show o.uponIn Fence.wide 0 P a next Q ((execOp a.eval o).run P w)
 unfold Oper.wp at h;cases b:(execOp a.eval o).run P w with
 |ok x g=>
  rw[b]at h;cases x with
  |value v=>exact h
  |skip=>exact h
  |defer d=>exact h
  |enter f args=>exact⟨λe=>by simp[Fence.wide]at e,callsIn_wide.2 h⟩
  |row r args=>
   refine⟨λe=>by simp[Fence.wide]at e,λc cs _=>?_⟩;obtain⟨v,i,j,k⟩:=h c cs;exact⟨v,i,j,stepsIn_wide.2 k⟩
  |_=>exact h.elim
 |halt x g=>
  rw[b]at h;cases x with
  |panic v=>exact h
  |_=>exact h.elim
def bpQ(B:rL)(C:Ctx)(o:Oper)(K:St->Prop)(a:Act)(w:World):Prop:=
 ∀(next:Act->World->Prop)(Q:Exit->Act->World->Prop),(∀e b c d,aK B e b c d->K b->next c d)->o.wpIn Fence.wide 0 C.P a w next Q
theorem UH(q:aK B ι σ a w){c:Call}{g:Operand}{l:Nat}{A cs:Array Value}(M:o.op= .call c)(N:c.callee= .value g)
 (O:σ.ev g= .at (.val (.func (.yield l) A cs)))(R:A.toList=[])(T:cs.toList=[])(h:Td C o (.func (.yield l) #[] #[]) c.args.toList σ K):bpQ B C o K a w:=by
 intro next Q n
 unfold Td at h;split at h
 .exact h.elim
 .rename_i S hS;split at h
  .rename_i U r;obtain⟨V,h⟩:=h;have W:=Cq q 0 _ _ _ r;subst W;have D:=q.wrel;obtain⟨X,s,f,t,J,i⟩:=V.go l _ σ.m σ.h w _ h ⟨D.hsat,D.msat,D.disj⟩;have F:a.eval g= .func (.yield l) A cs:=by have:=q.ev g;rw[O]at this;exact this
   have v:A= #[]:=bk
   have y:cs= #[]:=bk
   subst v y;have E:c.args.map a.eval=(c.args.toList.map a.eval).toArray:=bk
   have p:(execOp a.eval o).run C.P w= .ok (.round l X s f t) w:=by
    unfold execOp;simp only[M,resolve,N,F,Deferred.ofValue,Sem.run_bind,Sem.run_pure,Result.andThen_ok,invoke]
    grind
   refine⟨λ_ _=>trivial,?_⟩;show o.uponIn Fence.wide 0 C.P a next Q ((execOp a.eval o).run C.P w)
   rw[p,Oper.uponIn_round];refine⟨λe=>by simp[Fence.wide]at e,i.mono ?_⟩;rintro e L ⟨u,Y,Z,rfl,hK,d⟩;show next (a.put o.dst u) L
   have G:xC ⟨w,λb=>σ.m b≠none,σ.h,[]⟩ Y Z L:=
    ⟨d.tape,d.os,d.output,d.drawn,d.size,λb k z=>d.frame b k (Classical.byContradiction z),d.heapy.hsat,d.heapy.msat,d.heapy.disj,d.hle.le,λb k z=>d.hold b k (Classical.byContradiction z),λb H k=>d.mfr b H k⟩
   have I:=q.called G (λb k=>by
    cases hm:σ.m b with
    |none=>grind
    |some H=>exact D.mfr b H hm) (λj o' b hj k z=>z (q.fresh j o' b hj k).2.1)
   exact n ι _ _ _ (I.put o.dst (x:=.at (.val u)) rfl) hK
  grind
theorem Ra(b:∀g S,assoc C.specs g=some S->Sound C.P g S)(f:aK B ι σ a w)(h:Rb C o σ K):bpQ B C o K a w:=by
 have i:QH C o σ K->bpQ B C o K a w:=λh next Q j=>Oo (Vq b f h next Q (λk m n p q r _=>j k m n p q r))
 unfold Rb at h;split at h
 .rename_i c s;split at h
  .rename_i g t;split at h
   .rename_i l v cs u;split at h
    .rename_i d e;exact UH f s t u d e h
    grind
   grind
  grind
 grind
theorem QJ(c:∀g S,assoc C.specs g=some S->Sound C.P g S){ops:Array Oper}(k:aK B ι σ a w)(h:Pl (Rb C) ops o σ K)
 (next:Act->World->Prop)(Q:Exit->Act->World->Prop)(b:∀l i j w',aK B l i j w'->K i->next j w'):
 if Region.wanted o (yielded ops a.tmps)then o.wpIn Fence.wide 0 C.P a w next Q else(∀f,o.about C.P w a.eval=some f->Fence.wide.fn f)/\next (a.put o.dst undef) w:=by
 obtain⟨p,d,m,n⟩:=Dp k h;rcases n with⟨e,h⟩|⟨e,h⟩
 .rw[if_pos e];exact Ra c d h next Q b
 .rw[if_neg (by simp[e])];exact⟨λ_ _=>trivial,b ι _ _ _ (d.put o.dst (x:=.at (.val undef)) rfl) h⟩
theorem Is(b:∀g S,assoc C.specs g=some S->Sound C.P g S){ops:Array Oper}{Q:Exit->Act->World->Prop}{R:St->Prop}{rest:dq}(d:∀ι σ a w,aK B ι σ a w->R σ->wpOpsIn Fence.wide 0 C.P ops Q rest a w):
 ∀(l:List Oper)(s:Nat)(ι:dj)(σ:St)(a:Act)(w:World),(∀j,j<l.length->l[j]? =ops.toList[s+j]?)->aK B ι σ a w->Q1 C ops l σ R->wpOpsIn Fence.wide 0 C.P ops Q (range' s l.length++rest) a w
 |[],s,ι,σ,a,w,_,c,h=>d ι σ a w c h
 |o::l,s,ι,σ,a,w,e,c,h=>by
  have f:ops[s]? =some o:=by have:=e 0 bf;grind
  simp only[cq,range'_succ,cons_append,wpOpsIn,f]
  exact QJ b c h (wpOpsIn Fence.wide 0 C.P ops Q (range' (s+1) l.length++rest)) Q (λi k m n p q=>
   Is b d l (s+1) i k m n (λj r=>by have:=e (j+1) bj;grind) p q)
end
end Go.Vc
namespace Go.Vc
open Go List
def Yd(P:Program)(ops:Array Oper)(w:World)(o:Oper)(v:Value)(a:Act):Prop:=
 (Region.wanted o (yielded ops a.tmps)=true/\(execOp a.eval o).run P w= .ok (.value v) w)\/(Region.wanted o (yielded ops a.tmps)=false/\v=undef)
def Aft(ops:Array Oper)(ok:Oper)(i:Nat):Prop:=waits ok i=true\/∃j b,ops[j]? =some b/\waits ok j=true/\waits b i=true
def ZY(ops:Array Oper)(b:Oper):Prop:=∀(k:Nat)(ok:Oper)(d:Nat),ops[k]? =some ok->ok.dst=some d->d∈b.looksAt ops->waits b k=true
structure bsX(ops:Array Oper)(i:Nat)(oi:Oper):Prop where
 mv:bBZ oi.op=true
 look:∀(k:Nat)(ok:Oper)(d:Nat),ops[k]? =some ok->ok.dst=some d->d∈oi.looksAt ops->Aft ops ok i
structure Ssa(ops:Array Oper):Prop where
 look:∀(i:Nat)(oi:Oper),ops[i]? =some oi->ZY ops oi\/bsX ops i oi
 dst:∀(i k:Nat)(oi ok:Oper)(d:Nat),ops[i]? =some oi->ops[k]? =some ok->ok.dst=some d->i≠k->oi.dst≠some d
 topo:∀(i:Nat)(oi:Oper)(k:Nat),ops[i]? =some oi->waits oi k=true->k<i
 sel:∀(j:Nat)(o:Oper) cs b,ops[j]? =some o->o.op≠ .select cs b
theorem Aft.in_{ops:Array Oper}{ok:Oper}{i:Nat}{L:Array Bool}(h:Aft ops ok i)(c:∀j,waits ok j=true->L.getD j false=true)(d:∀(j:Nat)(b:Oper),ops[j]? =some b->L.getD j false=true->∀k,waits b k=true->L.getD k false=true):L.getD i false=true:=by
 rcases h with h|⟨j,b,e,f,g⟩
 .exact c i h
 grind
theorem Ssa.self{ops:Array Oper}(c:Ssa ops){k:Nat}{o:Oper}(b:ops[k]? =some o):∀d,o.dst=some d->d∉o.looksAt ops:=λd f g=>by
 rcases c.look k o b with h|h
 .have:=c.topo k o k b (h k o d b f g);omega
 .rcases h.look k o d b f g with e|⟨j,i,l,e,m⟩
  .have:=c.topo k o k b e;omega
  .have:=c.topo k o j b e;have:=c.topo j i k l m;omega
theorem a0Z{P:Program}{o:Oper}(h:bBZ o.op=true):Bj P o=false:=by
 unfold Bj;cases e:o.op<;>simp_all [bBZ]
theorem Li{o:Oper}{k:Nat}:waits o k=true↔∃e∈o.after,Region.binds .any e=true/\e.on=k:=by
 unfold waits;rw[any_eq_true];constructor
 .rintro⟨e,b,h⟩;simp only[cg]at h;exact⟨e,bk,h.1,ci h.2⟩
 .rintro⟨e,b,c,d⟩;exact⟨e,bk,by simp[c,d]⟩
theorem aXQ{ops:Array Oper}(h:b6J ops=true)(s:Region.noSelect ops=true):Ssa ops:=by
 unfold b6J at h;simp only[all_eq_true,mem_range]at h;have l:∀{i:Nat}{m:Oper},ops[i]? =some m->i<ops.toList.length:=λf=>bk
 refine⟨?_,?_,?_,Region.noSelect_spec s⟩
 .intro i m f;have c:=h i (l f);rw[jN,cn,f]at c;simp only[cg,Bool.or_eq_true,all_eq_true,mem_range]at c;rcases c.2 with p|⟨t,p⟩
  .refine .inl λk ok d g n u=>?_;have b:=p k (l g);rw[jN,cn,g]at b
   grind
  .refine .inr ⟨t,λk ok d g n u=>?_⟩;have b:=p k (l g);rw[jN,cn,g]at b;simp only[n,Bool.or_eq_true,Bool.not_eq_true',contains_eq_mem,decide_eq_false_iff_not]at b;rcases b with b|b
   .grind
   .unfold ciQ at b;simp only[Bool.or_eq_true,any_eq_true,cg]at b;rcases b with b|⟨⟨v,j⟩,E,y,z⟩
    .exact .inl b
    .refine .inr ⟨j,v,?_,y,z⟩
     grind
 .intro i k m ok d f g n q;have c:=h i (l f);rw[jN,cn,f]at c;simp only[cg,all_eq_true,mem_range]at c;have b:=c.1.2 k (l g);rw[jN,cn,g]at b;simp only[n,Bool.or_eq_true]at b;rcases b with b|b
  .exact(q (ci b)).elim
  grind
 .intro i m k f A;have r:i<ops.toList.length:=bk
  have c:=h i r;rw[jN,cn,f]at c;simp only[cg,all_eq_true]at c;obtain⟨e,F,D,rfl⟩:=Li.1 A;have:=c.1.1 e bk;simp only[D,Bool.not_true,Bool.false_or]at this;rw[<-Nat.blt_eq];exact this
theorem w7{ops:Array Oper}{b:Array Bool}{j:Nat}:j∈Region.ready .any ops b↔b.getD j true=false/\∃o,ops[j]? =some o/\∀k,waits o k=true->b.getD k false=true:=by
 rw[mem_ready];constructor
 .rintro⟨c,o,d,f⟩;refine⟨c,o,d,λk i=>?_⟩;obtain⟨e,g,h,rfl⟩:=Li.1 i
  grind
 .rintro⟨c,o,d,f⟩;exact⟨c,o,d,λe g h=>f e.on (Li.2 ⟨e,g,h,rfl⟩)⟩
theorem TX{l:Array Bool}{i:Nat}(h:l.getD i true=false):l.getD i false=false/\i<l.size:=by
 grind
theorem vS{l:Array Bool}{i:Nat}(h:i<l.size):(l.setIfInBounds i true).getD i false=true:=by
 simp[Array.getD,h]
theorem IN{ops:Array Oper}{o:Oper}{c e:Act}(k:∀cs b,o.op≠ .select cs b)(h:∀t∈o.looksAt ops,c.tmps[t]? =e.tmps[t]?):
 execOp c.eval o=execOp e.eval o/\Region.wanted o (yielded ops c.tmps)=Region.wanted o (yielded ops e.tmps):=by
 constructor
 .refine execOp_congr o k λx l=>?_;cases x with
  |tmp t=>
   have:t∈o.looksAt ops:=mem_append_left _ (mem_filterMap.2 ⟨.tmp t,bk,rfl⟩);simp only[Act.eval,Array.getD_eq_getD_getElem?,h t this]
  |const v=>rfl
  |global g=>rfl
  |func f=>rfl
 .unfold Region.wanted;split
  .rfl
  .rename_i j i m
   have:yielded ops c.tmps j=yielded ops e.tmps j:=by
    unfold yielded;cases n:(ops[j]?).bind (·.dst)with
    |none=>rfl
    |some d=>
     have p:d∈o.looksAt ops:=by
      unfold Oper.looksAt
      grind
     grind
   rw[this]
theorem NB{a:Act}{d:Option Tmp}{v:Value}{t:Nat}(h:d≠some t):(a.put d v).tmps[t]? =a.tmps[t]? :=by
 cases d with
 |none=>rfl
 |some e=>
  have:e≠t:=λx=>h (by rw[x]);simp[Act.put,Array.getElem?_setIfInBounds_ne this]
theorem byJ(a:Act)(d:Option Tmp)(u v:Value):(a.put d u).put d v=a.put d v:=by
 cases d with
 |none=>rfl
 |some e=>simp[Act.put]
structure SS(P:Program)(ops:Array Oper)(L Cl:Array Bool)(ar ac:Act)(w:World):Prop where
 szL:L.size=ops.size
 szC:Cl.size=ops.size
 sub:∀i,L.getD i false=true->Cl.getD i false=true
 rd:∀(i:Nat)(o:Oper),ops[i]? =some o->Cl.getD i false=true->L.getD i false=false->FR o.op=true
 clC:∀(i:Nat)(o:Oper),ops[i]? =some o->Cl.getD i false=true->∀k,waits o k=true->Cl.getD k false=true
 clL:∀(i:Nat)(o:Oper),ops[i]? =some o->L.getD i false=true->∀k,waits o k=true->L.getD k false=true
 tsz:ar.tmps.size=ac.tmps.size
 df:ar.defers=ac.defers
 agree:∀t,(∀(i:Nat)(o:Oper),ops[i]? =some o->Cl.getD i false=true->L.getD i false=false->o.dst≠some t)->ar.tmps[t]? =ac.tmps[t]?
 pend:∀(i:Nat)(o:Oper),ops[i]? =some o->Cl.getD i false=true->L.getD i false=false->∃v,(ZY ops o->∀w'',(Bj P o=false\/w''=w)->Yd P ops w'' o v ac)/\(bsX ops i o->∀w'',Yd P ops w'' o v ar)/\ac.put o.dst v=ac
section
variable{P:Program}{ops:Array Oper}{L Cl:Array Bool}{ar ac:Act}{w:World}
theorem Yd.congr{o:Oper}{v:Value}{a b:Act}{w:World}(h:Yd P ops w o v a)(c:execOp b.eval o=execOp a.eval o)(d:Region.wanted o (yielded ops b.tmps)=Region.wanted o (yielded ops a.tmps)):Yd P ops w o v b:=by
 unfold Yd at*
 grind
theorem SS.looks(h:SS P ops L Cl ar ac w){o:Oper}(b:ZY ops o)(c:∀k,waits o k=true->L.getD k false=true):∀t∈o.looksAt ops,ar.tmps[t]? =ac.tmps[t]? :=by
 intro t d;refine h.agree t (λk ok e _ g f=>?_);have:=c k (b k ok t e f d)
 grind
theorem SS.looks'(h:SS P ops L Cl ar ac w){i:Nat}{o:Oper}(b:bsX ops i o)(g:Cl.getD i false=false):∀t∈o.looksAt ops,ar.tmps[t]? =ac.tmps[t]? :=by
 intro t e;refine h.agree t (λk ok d c _ f=>?_);have:=(b.look k ok t d f e).in_ (h.clC k ok d c) h.clC
 grind
theorem SS.stepA(r:Ssa ops)(h:SS P ops L Cl ar ac w){i:Nat}{o:Oper}(s:ops[i]? =some o)(J:Cl.getD i false=true)(y:∀k,waits o k=true->L.getD k false=true){v:Value}(q:ac.put o.dst v=ac):
 SS P ops (L.setIfInBounds i true) Cl (ar.put o.dst v) ac w:=by
 have n:i<L.size:=by rw[h.szL];grind
 have g:∀k,(L.setIfInBounds i true).getD k false=false->L.getD k false=false/\k≠i:=by
  intro k c;by_cases e:i=k
  .subst e;rw[vS n]at c;cases c
  .rw[getD_set_ne false e]at c;grind
 refine⟨br h.szL,h.szC,?_,λk ok c f b=>h.rd k ok c f (g k b).1,h.clC,?_,?_,?_,?_,λk ok c f b=>?_⟩
 .intro k c;by_cases e:i=k
  .grind
  .rw[getD_set_ne false e]at c;exact h.sub k c
 .intro k ok c b j z;by_cases e:i=k
  .grind
  .rw[getD_set_ne false e]at b;exact getD_set_true (h.clL k ok c b j z)
 .rw[<-h.tsz];cases o.dst<;>simp[Act.put]
 .rw[<-h.df];cases o.dst<;>rfl
 .intro t A;by_cases e:o.dst=some t
  .rw[e]at q⊢
   rw[<-q];simp only[Act.put,Array.getElem?_setIfInBounds_self,h.tsz]
  .rw[NB e];refine h.agree t (λk ok c f b=>?_);by_cases D:i=k
   .grind
   .exact A k ok c f (by rw[getD_set_ne false D];exact b)
 .obtain⟨u,E,F,G⟩:=h.pend k ok c f (g k b).1;refine⟨u,E,λl p=>?_,G⟩
  have m:∀d,o.dst=some d->d∉ok.looksAt ops:=λd H I=>by
   have:=(l.look i o d s H I).in_ y h.clL
   grind
  exact(F l p).congr (execOp_put ok (r.sel k ok · · c) ar o.dst v m) (wanted_put ok ar o.dst v m)
theorem SS.take(y:Ssa ops)(h:SS P ops L Cl ar ac w){k:Nat}{o:Oper}(q:ops[k]? =some o)(E:Cl.getD k false=false)(W:∀j,waits o j=true->Cl.getD j false=true)(R:FR o.op=true){v:Value}
 (O:∀c,(Bj P o=false\/c=w)->Yd P ops c o v ac):SS P ops L (Cl.setIfInBounds k true) ar (ac.put o.dst v) w:=by
 have F:k<Cl.size:=by rw[h.szC];grind
 have f:∀j,(Cl.setIfInBounds k true).getD j false=true->j=k\/Cl.getD j false=true:=by
  intro j s;by_cases e:k=j
  .omega
  .rw[getD_set_ne false e]at s;exact .inr s
 have G:L.getD k false=false:=by
  cases S:L.getD k false with
  |false=>rfl
  |true=>rw[h.sub k S]at E;cases E
 have r:∀j,Cl.getD j false=true->(Cl.setIfInBounds k true).getD j false=true:=by
  intro j s;exact getD_set_true s
 have z:=y.self q;refine⟨h.szL,br h.szC,λi g=>r i (h.sub i g),?_,?_,h.clL,?_,?_,?_,?_⟩
 .intro i l g b m;rcases f i b with rfl|b
  .grind
  .exact h.rd i l g b m
 .intro i l g b j s;rcases f i b with rfl|b
  .grind
  .exact r j (h.clC i l g b j s)
 .rw[h.tsz];cases o.dst<;>simp[Act.put]
 .rw[h.df];cases o.dst<;>rfl
 .intro t Q;have e:o.dst≠some t:=Q k o q (vS F) G;rw[NB e];exact h.agree t (λi l g b m=>Q i l g (r i b) m)
 .intro i l g b m;by_cases e:i=k
  .subst e;rw[q]at g;cases g;refine⟨v,λ_ c H=>(O c H).congr (execOp_put o (y.sel i o · · q) ac o.dst v z) (wanted_put o ac o.dst v z),λA c=>?_,byJ _ _ _ _⟩;obtain⟨T,I⟩:=IN (y.sel i o · · q) (h.looks' A E);exact(O c (.inl (a0Z A.mv))).congr T I
  .have n:=(f i b).resolve_left e;obtain⟨u,U,J,M⟩:=h.pend i l g n m;refine⟨u,λD c H=>?_,J,?_⟩
   .have p:∀d,o.dst=some d->d∉l.looksAt ops:=λd N V=>by
     have:=h.clC i l g n k (D k o d q N V)
     grind
    exact(U D c H).congr (execOp_put l (y.sel i l · · g) ac o.dst v p) (wanted_put l ac o.dst v p)
   rw[Act.put_comm ac v u (λd N=>y.dst i k l o d g q N e),M]
theorem UJ{o:Oper}{i l:Act}{w:World}{b g:Act->World->Prop}{Q:Exit->Act->World->Prop}(m:execOp l.eval o=execOp i.eval o)(h:o.wp P i w b Q)
 (p:∀v w',b (i.put o.dst v) w'->g (l.put o.dst v) w')(q:∀d w',¬b (({i with defers:=d::i.defers}:Act).put o.dst undef) w')(s:∀c a w,¬Q (.panic c) a w):o.wp P l w g Q:=by
 unfold Oper.wp at*
 rw[m];generalize (execOp i.eval o).run P w=r at*
 cases r with
 |ok n w'=>
  cases n<;>simp only[Oper.upon]at h⊢
  case value u=>grind
  case skip=>grind
  case defer d=>grind
  case enter f args=>
   refine Calls.mono h λe j k=>?_
   grind
  case row row args=>exact Rows.mono h λu j k=>p u j k
 |halt x w'=>
  cases x<;>simp only[Oper.upon]at h⊢
  grind
theorem SS.stepB(H:Ssa ops)(h:SS P ops L Cl ar ac w){j:Nat}{o:Oper}(F:ops[j]? =some o)(T:Cl.getD j false=false)(Q:∀k,waits o k=true->L.getD k false=true)(u:Value)(w':World)
 (I:∀(i:Nat)(c:Oper)(v:Value),ops[i]? =some c->Cl.getD i false=true->L.getD i false=false->Yd P ops w c v ac->Yd P ops w' c v ac\/Bj P c=false):
 SS P ops (L.setIfInBounds j true) (Cl.setIfInBounds j true) (ar.put o.dst u) (ac.put o.dst u) w':=by
 have z:j<Cl.size:=by rw[h.szC];grind
 have A:j<L.size:=by rw[h.szL];grind
 have l:∀i,(Cl.setIfInBounds j true).getD i false=true->i=j\/Cl.getD i false=true:=by
  intro i b;by_cases e:j=i
  .omega
  .rw[getD_set_ne false e]at b;exact .inr b
 have m:∀i,(L.setIfInBounds j true).getD i false=false->i≠j/\L.getD i false=false:=by
  intro i b;by_cases e:j=i
  .subst e;rw[vS A]at b;cases b
  .rw[getD_set_ne false e]at b;grind
 have r:∀i,Cl.getD i false=true->(Cl.setIfInBounds j true).getD i false=true:=λi b=>getD_set_true b;refine⟨br h.szL,br h.szC,?_,?_,?_,?_,?_,?_,?_,?_⟩
 .intro i b;by_cases e:j=i
  .subst e;exact vS z
  .rw[getD_set_ne false e]at b;exact r i (h.sub i b)
 .intro i c b f g;obtain⟨n,p⟩:=m i g;exact h.rd i c b ((l i f).resolve_left n) p
 .intro i c b f k G;rcases l i f with rfl|f
  .rw[F]at b;cases b;exact r k (h.sub k (Q k G))
  .exact r k (h.clC i c b f k G)
 .intro i c b g k G;by_cases e:j=i
  .grind
  .rw[getD_set_ne false e]at g;exact getD_set_true (h.clL i c b g k G)
 .cases o.dst<;>simp[Act.put,h.tsz]
 .have:=h.df;cases o.dst<;>exact this
 .intro t R;by_cases e:o.dst=some t
  .rw[e];simp only[Act.put,Array.getElem?_setIfInBounds_self,h.tsz]
  .rw[NB e,NB e];refine h.agree t (λi c b f g=>R i c b (r i f) ?_);have n:j≠i:=λx=>bk
   rw[getD_set_ne false n];exact g
 .intro i c b f g;obtain⟨n,p⟩:=m i g;have s:=(l i f).resolve_left n;obtain⟨v,U,J,M⟩:=h.pend i c b s p;refine⟨v,λN y V=>?_,λD y=>?_,?_⟩
  .have q:∀d,o.dst=some d->d∉c.looksAt ops:=λd E O=>by
    have:=h.clC i c b s j (N j o d F E O)
    grind
   have S:Yd P ops y c v ac:=by
    grind
   exact S.congr (execOp_put c (H.sel i c · · b) ac o.dst u q) (wanted_put c ac o.dst u q)
  .have q:∀d,o.dst=some d->d∉c.looksAt ops:=λd E O=>by
    have:=(D.look j o d F E O).in_ Q h.clL
    grind
   exact(J D y).congr (execOp_put c (H.sel i c · · b) ar o.dst u q) (wanted_put c ar o.dst u q)
  .rw[Act.put_comm ac u v (λd E=>H.dst i j c o d b F E n),M]
end
section
variable{B:rL}{C:Ctx}{ι:dj}{σ:St}{a:Act}{w:World}
theorem UW{P:Program}{b:Bool}{σ:St}{c d:Oper}{K:Prop}(h:ML P b σ c d K):ML P b σ c d True/\K:=by
 unfold ML at h⊢
 repeat' split at h
 all_goals first|exact h.elim|skip
 all_goals simp_all
theorem Ow{P:Program}{e:Bool}{ops:Array Oper}{b:Array Bool}{σ:St}{c:Oper}:∀(l:List Oper)(s:Nat){K:Prop},Ll P e ops b σ c s l K->
 K/\∀(i:Nat)(d:Oper),l[i]? =some d->b.getD (s+i) false=true->FR d.op=true->waits c (s+i)=false->AG ops σ d=false->ML P e σ c d True
 |[],s,K,h=>⟨h,λi d f=>by simp at f⟩
 |o::l,s,K,h=>by
  have key:(Ll P e ops b σ c (s+1) l K)/\(b.getD s false=true->FR o.op=true->waits c s=false->AG ops σ o=false->ML P e σ c o True):=by
   simp only[Ll]at h;split at h
   .obtain⟨g,j⟩:=UW h
    grind
   grind
  obtain⟨k,m⟩:=Ow l (s+1) key.1
  grind
theorem UU{σ:St}{b c:Oper}{τ:St}{K:Prop}(h:Jf σ b c τ K):Jf σ b c τ True/\K:=by
 unfold Jf at h⊢
 repeat' split at h
 all_goals simp_all
theorem MK{ops:Array Oper}{b:Array Bool}{σ:St}{c:Oper}{τ:St}:∀(l:List Oper)(s:Nat){K:Prop},GL ops b σ c τ s l K->
 K/\∀(i:Nat)(d:Oper),l[i]? =some d->b.getD (s+i) false=true->FR d.op=true->waits c (s+i)=false->AG ops σ d=false->Jf σ c d τ True
 |[],s,K,h=>⟨h,λi d e=>by simp at e⟩
 |o::l,s,K,h=>by
  have key:(GL ops b σ c τ (s+1) l K)/\(b.getD s false=true->FR o.op=true->waits c s=false->AG ops σ o=false->Jf σ c o τ True):=by
   simp only[GL]at h;split at h
   .obtain⟨f,g⟩:=UU h
    grind
   grind
  obtain⟨j,k⟩:=MK l (s+1) key.1
  grind
theorem TQ{ops:Array Oper}{c:Oper}(e:aK B ι σ a w)(h:AG ops σ c=true):Region.wanted c (yielded ops a.tmps)=false:=by
 unfold AG at h;split at h
 .cases h
 .rename_i j f i;split at h
  .cases h
  .rename_i g k;split at h
   .cases h
   .rename_i d l;split at h
    .rename_i t b;rw[QS i k l (Ip e b)]
     grind
    .rename_i m b;exact IZ i k l (Ou e b)
    .cases h
theorem Cs(m:aK B ι σ a w){k:Nat}{p:Own}(c:nth σ.own k=some (some p)){b:Nat}(n:blk (ι k)=some b):∀{l:dw},H4 σ k l=true->∀x∈l,∀j,(σ.ev x= .at (.lst j)\/∃off,σ.ev x= .at (.ptr j off))->blk (ι j)≠some b
 |[],_,x,d=>by cases d
 |y::r,h,x,d=>by
  simp only[H4,cg]at h;rcases mem_cons.1 d with rfl|d
  .intro j e g;have f:=h.1;rcases e with e|⟨off,e⟩
   all_goals
    simp only[e]at f;split at f
    .rename_i q i;have:=m.dist j k _ _ b i c g n;subst this;simp at f
    .cases f
  .exact Cs m c n h.2 x d
theorem bzX{ops:Array Oper}{fl:Bool}{oj R:Oper}{v:Value}{w':World}(A:aK B ι σ a w)(Z:IX σ ι oj w w')(f:ML C.P fl σ oj R True)(a':fl=true->∃τ:St,xC B τ.m τ.h w'/\Jf σ oj R τ True)(hy:Yd C.P ops w R v a):Yd C.P ops w' R v a\/Bj C.P R=false:=by
 unfold ML at f;split at f
 .grind
 .left;rcases hy with⟨hw,b4⟩|hy
  .left;refine⟨hw,?_⟩;split at f
   .rename_i T x F;split at f
    .grind
    .rename_i hT;have y:=A.ev x
     have S:∀(b t:Nat)(cs:cv),a.eval x= .pointer (some ⟨b,t,none⟩)->cs.length=C.P.cellsOf T->(∀j u,cs[j]? =some u->w.cell? ⟨b,t+j,none⟩=some u)->(∀j u,cs[j]? =some u->w'.cell? ⟨b,t+j,none⟩=some u)->
      (execOp a.eval R).run C.P w'= .ok (.value v) w':=by
      intro b t cs G U hc a6;have W:=AO hT U hc;have h2:=AO hT U a6
      have e1:(execOp a.eval R).run C.P w= .ok (.value (mkV C.P T cs)) w:=by
       unfold execOp;simp only[F,G,Instr.loadAt,Instr.sureAddr,Sem.run_bind,Sem.run_pure,Result.andThen_ok,W]
      have e2:(execOp a.eval R).run C.P w'= .ok (.value (mkV C.P T cs)) w':=by
       unfold execOp;simp only[F,G,Instr.loadAt,Instr.sureAddr,Sem.run_bind,Sem.run_pure,Result.andThen_ok,h2]
      grind
     split at f
     .rename_i k t G;rw[G]at y;split at f
      .rename_i p T' cs q;split at f
       .rename_i ht a1;have a1:=Nat.le_of_ble_eq_true a1;obtain⟨b,vs,hι,hh,a7⟩:=w9 A q;obtain⟨b',a0,a8⟩:=y;rw[hι]at a0;simp only[Value.pointer.injEq,ce,Addr.mk.injEq]at a0;obtain⟨rfl, -, -⟩:=a0;have a2:=Z.cells k p T' cs b q ht hι;rw[hh]at a2;have b5:cs.length=vs.toList.length:=a7.length;refine S b t ((vs.toList.drop t).take (C.P.cellsOf T)) a8 bk (λj u H=>?_) (λj u H=>?_)
        .rw[cell_of_heap hh];grind
        .rw[cell_of_heap a2];grind
       grind
      grind
     .rename_i b t d G hd;rw[G]at y;have y:a.eval x= .pointer (some ⟨b,t,none⟩):=y;split at f
      .rename_i cs a3;split at f
       .rename_i l U;split at f
        .rename_i D;split at f
         .rename_i V;have hc:=Ej A.wrel f.1;refine S b t l y (ci D) hc (λj u H=>?_);have W:=hc j u H;cases I:AR oj.op with
          |false=>
           rw[I,Bool.false_or]at V;obtain⟨τ,a9,h2⟩:=a' V;unfold Jf at h2;simp only[F,G,hd,a3,U,I]at h2;exact Ej a9 h2.1 j u H
          |true=>
          have V:=I;rw[<-W];exact World.cell?_of_block (w:=w) (w':=w') (a:=⟨b,t+j,none⟩) (Z.ext V b (World.block_lt_of_cell? w ⟨b,t+j,none⟩ W))
         .refine S b t l y (ci D) (λj u H=>A.wrel.hsat _ _ _ (f.1.rd j u H)) (λj u H=>Z.imm _ _ _ (f.1.rd j u H))
        grind
       grind
      grind
     .rename_i k i sz t d G hd;rw[G]at y;split at f
      .rename_i E' s Q cs q a3;split at f
       .rename_i l U hs r;have hs:=ci hs;subst hs;split at f
        .rename_i D;obtain⟨e,he,b0⟩:=f.1;obtain⟨J,X⟩:=sN A q;obtain⟨b,n,c,hι,hp⟩:=y
         have z:∀b,blk (ι k)=some b->w'.heap[b]? =w.heap[b]? :=by
          intro b M;have N:=qG (A.own k _ q) M;unfold Uh at r;rw[Bool.or_eq_true]at r;rcases r with r|r
          .exact Z.ext r b N
          .split at r
           .rename_i l U;refine Z.args l b U N (A.fresh k _ b q M).2.1 ?_;exact Cs A q M r
           .cases r
         have O:w'.ownsRow 0 E' s (ι k) Q.length Q.flatten:=((A.own k _ q).world (λb M=>z b M)).2
         have rd:∀Y:World,Y.ownsRow 0 E' s (ι k) Q.length Q.flatten->∀j u,l[j]? =some u->Y.cell? ⟨b,i*s+t+j,none⟩=some u:=by
          intro Y W j u H;rw[<-b0]at H;have b1:=QY H;have hf:=oU J.len he _ _ b1;have:=W.cells (g:=b) (by rw[hι];rfl) _ _ hf;rw[Addr.add_none]at this
          grind
         exact S b (i*s+t) l hp (ci D) (rd w X) (rd w' O)
        grind
       grind
      grind
     grind
   .rename_i src b6 x F;have y:=A.ev x;split at f
    .rename_i k d G hd;rw[G]at y;have y:a.eval x=ι k:=y;split at f
     .rename_i E' sz Q s q hs;split at f
      .rename_i E a4 a5;split at f
       .rename_i hE;split at f
        .rename_i r;have b2:=f.1;obtain⟨J,X⟩:=sN A q;have b3:Q=cC s.data.toList:=b2
         have z:∀b,blk (ι k)=some b->w'.heap[b]? =w.heap[b]? :=by
          intro b M;have N:=qG (A.own k _ q) M;unfold Uh at r;rw[Bool.or_eq_true]at r;rcases r with r|r
          .exact Z.ext r b N
          .split at r
           .rename_i l U;refine Z.args l b U N (A.fresh k _ b q M).2.1 ?_;exact Cs A q M r
           .cases r
         have O:w'.ownsRow 0 E' sz (ι k) Q.length Q.flatten:=((A.own k _ q).world (λb M=>z b M)).2
         have go:∀Y:World,Y.ownsRow 0 E' sz (ι k) Q.length Q.flatten->(execOp a.eval R).run C.P Y= .ok (.value (.string ⟨s.data.toList.toArray⟩)) Y:=by
          intro Y W;subst b3;exact FH F a4 hE a5 y W
         grind
        grind
       grind
      grind
     grind
    grind
   grind
  .exact .inr hy
theorem SQ{g:Nat->Prop}:∀{l:dq},bnZ g l->∀j∈l,g j
 |[],_,j,b=>by cases b
 |[i],h,j,b=>by simp at b;subst b;exact h
 |i::k::r,h,j,b=>by
  rcases mem_cons.1 b with rfl|b
  .exact h.1
  .exact SQ h.2 j b
theorem Fv{ops:Array Oper}:∀{l:dq}{i:Nat}{o:Oper},HG ops l=some (i,o)->i∈l/\ops[i]? =some o/\FR o.op=true
 |[],i,o,h=>by simp[HG]at h
 |k::r,i,o,h=>by
  simp only[HG]at h;split at h
  .rename_i ok b;split at h
   .rename_i e;simp only[ce,Prod.mk.injEq]at h;obtain⟨rfl,rfl⟩:=h;rw[jN,cn]at b
    grind
   .obtain⟨c,d⟩:=Fv h
    grind
  .obtain⟨c,d⟩:=Fv h
   grind
def vM(ops:Array Oper)(L:Array Bool):Nat:=((List.range ops.size).filter λi=> !L.getD i false).length
theorem I8{ops:Array Oper}{L:Array Bool}{i:Nat}(d:L.size=ops.size)(h:i<ops.size)(k:L.getD i false=false):vM ops (L.setIfInBounds i true)+1=vM ops L:=by
 unfold vM
 have key:∀(l:dq),l.Nodup->(l.filter λj=> !(L.setIfInBounds i true).getD j false).length+(if i∈l then 1 else 0)=(l.filter λj=> !L.getD j false).length:=by
  intro l
  induction l with
  |nil=>intro _;simp
  |cons j r f=>
   intro c;have b:=nodup_cons.1 c;have:=f b.2;by_cases e:i=j
   .subst e;have g:(L.setIfInBounds i true).getD i false=true:=vS aC
    grind
   .have g:(L.setIfInBounds i true).getD j false=L.getD j false:=getD_set_ne false e
    grind
 grind
theorem Mv{ops:Array Oper}{L:Array Bool}(c:Ssa ops)(f:L.size=ops.size)(h:Region.ready .any ops L=[]):∀i,i<ops.size->L.getD i false=true:=by
 intro i
 induction i using Nat.strongRecOn with
 |_ i g=>
  intro d;cases j:L.getD i false with
  |true=>rfl
  |false=>
   exfalso;have b:ops[i]? =some ops[i]:=Array.getElem?_eq_getElem d
   have:i∈Region.ready .any ops L:=by
    rw[w7];refine⟨?_,_,b,λk e=>g k (c.topo i _ k b e) (Nat.lt_trans (c.topo i _ k b e) d)⟩
    grind
   grind
theorem DS{ops:Array Oper}{L:Array Bool}(h:∀i,i<ops.size->L.getD i false=true):Region.ready .any ops L=[]:=by
 cases b:Region.ready .any ops L with
 |nil=>rfl
 |cons i r=>
  exfalso;have:i∈Region.ready .any ops L:=bk
  obtain⟨c,o,d,_⟩:=w7.1 this
  grind
theorem SS.eq_of_all{P:Program}{ops:Array Oper}{L Cl:Array Bool}{ar ac:Act}(h:SS P ops L Cl ar ac w)(b:∀i,i<ops.size->L.getD i false=true):ar=ac:=by
 have c:ar.tmps=ac.tmps:=by
  apply Array.ext_getElem?;intro t;refine h.agree t (λi o d _ e=>?_)
  grind
 have f:=h.df;cases ar;cases ac
 grind
theorem aTZ{ops:Array Oper}{R:St->Prop}{n:Nat}{Cl:Array Bool}(h:Dt C ops n Cl σ R)(b:Region.ready .any ops Cl=[]):R σ:=by
 cases n<;>simp only[Dt,b]at h<;>exact h
theorem Xm{ops:Array Oper}{b:Array Bool}{σ:St}{d:Oper}{τ:St}{K:Prop}(h:K6 C ops b σ d τ K):
 (ZU C=true->∀(i:Nat)(c:Oper),ops.toList[i]? =some c->b.getD (0+i) false=true->FR c.op=true->waits d (0+i)=false->AG ops σ c=false->Jf σ d c τ True)/\K:=by
 unfold K6 at h;split at h
 .rename_i e;obtain⟨f,g⟩:=MK _ 0 h
  grind
 grind
theorem SP(E:∀g S,assoc C.specs g=some S->Sound C.P g S){ops:Array Oper}(F:Ssa ops){Q:Exit->Act->World->Prop}{R:St->Prop}(hQ:∀ι σ a w,aK B ι σ a w->R σ->Q .normal a w)
 (a9:∀c a w,¬Q (.panic c) a w):
 ∀(n:Nat)(b:Nat)(Cl:Array Bool)(ι:dj)(σ:St)(ac:Act)(w:World),aK B ι σ ac w->Dt C ops n Cl σ R->∀(L:Array Bool)(ar:Act),SS C.P ops L Cl ar ac w->vM ops L=b->
  wpAny C.P .any ops Q b L ar w:=by
 have fin:∀(n:Nat)(Cl:Array Bool)(ι:dj)(σ:St)(ac:Act)(w:World),aK B ι σ ac w->Dt C ops n Cl σ R->∀(L:Array Bool)(ar:Act),SS C.P ops L Cl ar ac w->Region.ready .any ops L=[]->Q .normal ar w:=by
  intro n Cl ι σ ac w m h L ar f hr;have p:=Mv F f.szL hr;rw[f.eq_of_all p];exact hQ ι σ ac w m (aTZ h (DS (λi s=>f.sub i (p i s))))
 have zero:∀(n:Nat)(Cl:Array Bool)(ι:dj)(σ:St)(ac:Act)(w:World),aK B ι σ ac w->Dt C ops n Cl σ R->∀(L:Array Bool)(ar:Act),SS C.P ops L Cl ar ac w->vM ops L=0->wpAny C.P .any ops Q 0 L ar w:=by
  intro n Cl ι σ ac w m h L ar f O
  have p:∀i,i<ops.size->L.getD i false=true:=by
   intro i s;unfold vM at O;have b8:=eq_nil_of_length_eq_zero O;cases hL:L.getD i false with
   |true=>rfl
   |false=>
    have:i∈(List.range ops.size).filter λi=> !L.getD i false:=mem_filter.2 ⟨mem_range.2 s,by simp[hL]⟩
    grind
  have hr:=DS p;exact⟨hr,fin n Cl ι σ ac w m h L ar f hr⟩
 have b':∀(n b:Nat),(∀(Cl:Array Bool)(ι:dj)(σ:St)(ac:Act)(w:World),aK B ι σ ac w->Dt C ops n Cl σ R->∀(L:Array Bool)(ar:Act),SS C.P ops L Cl ar ac w->vM ops L=b->wpAny C.P .any ops Q b L ar w)->
  ∀(Cl:Array Bool)(ι:dj)(σ:St)(ac:Act)(w:World),aK B ι σ ac w->Dt C ops n Cl σ R->∀(L:Array Bool)(ar:Act),SS C.P ops L Cl ar ac w->vM ops L=b+1->
   ∀i∈Region.ready .any ops L,Cl.getD i false=true->wpOp C.P ops Q i (wpAny C.P .any ops Q b (L.setIfInBounds i true)) ar w:=by
  intro n b ih Cl ι σ ac w m h L ar f O i s hC;obtain⟨G,o,q,J⟩:=w7.1 s;obtain⟨hL,b0⟩:=TX G;obtain⟨v,hv,c',b1⟩:=f.pend i o q hC hL
  have hy:Yd C.P ops w o v ar:=by
   rcases F.look i o q with H|c0
   .obtain⟨he,T⟩:=IN (F.sel i o · · q) (f.looks H J);exact(hv H w (.inr rfl)).congr he T
   grind
  have U:wpAny C.P .any ops Q b (L.setIfInBounds i true) (ar.put o.dst v) w:=
   ih Cl ι σ ac w m h _ _ (f.stepA F q hC J b1) (by have:=I8 f.szL bk hL;omega)
  unfold wpOp;simp only[q];rcases hy with⟨l,t⟩|⟨l,rfl⟩
  .rw[if_pos l];left;unfold Oper.wp;rw[t,Oper.upon_value];exact U
  grind
 intro n
 induction n with
 |zero=>
  intro b
  induction b with
  |zero=>exact zero 0
  |succ b b2=>
   intro Cl ι σ ac w m h L ar f O;refine⟨fin 0 Cl ι σ ac w m h L ar f,λi s=>?_⟩;cases hC:Cl.getD i false with
   |true=>grind
   |false=>
    exfalso;obtain⟨G,o,q,J⟩:=w7.1 s
    have a0:i∈Region.ready .any ops Cl:=by
     rw[w7];refine⟨?_,o,q,λk hk=>f.sub k (J k hk)⟩;have:i<Cl.size:=by rw[f.szC];grind
     grind
    simp only[Dt]at h
    grind
 |succ n V=>
  intro b
  induction b with
  |zero=>grind
  |succ b b2=>
   intro Cl ι σ ac w m h L ar f O;refine⟨fin (n+1) Cl ι σ ac w m h L ar f,λi s=>?_⟩;cases hC:Cl.getD i false with
   |true=>grind
   |false=>
    obtain⟨G,o,q,J⟩:=w7.1 s;obtain⟨b3,b0⟩:=TX G
    have a0:i∈Region.ready .any ops Cl:=by
     rw[w7];refine⟨?_,o,q,λk hk=>f.sub k (J k hk)⟩;have:i<Cl.size:=by rw[f.szC];grind
     grind
    simp only[Dt]at h;split at h
    .grind
    .split at h
     ·
      rename_i k ok b4;obtain⟨b5,W,y⟩:=Fv b4;obtain⟨a1,c1,M,a2⟩:=w7.1 b5;rw[W]at M;cases M;obtain⟨a3,b9⟩:=TX a1;obtain⟨σ1,X,c2,hc⟩:=Dp m h;rcases hc with⟨l,h⟩|⟨l,h⟩
      .obtain⟨v,x,t,hx,hK⟩:=a0Q X y h;have z:=f.take F W a3 a2 y (v:=v) (λa4 a5=>.inl ⟨l,t a4 a5⟩);exact(V (b+1) _ ι _ _ w (X.put ok.dst hx) hK L ar z O).2 i s
      .have z:=f.take F W a3 a2 y (v:=undef) (λa4 _=>.inr ⟨l,rfl⟩);exact(V (b+1) _ ι _ _ w (X.put ok.dst (x:=.at (.val undef)) rfl) h L ar z O).2 i s
     ·
      have hg:=SQ h i a0;split at hg
      .rename_i o' a6;rw[jN,cn,q]at a6;cases a6;obtain⟨hg,Y⟩:=Ow _ 0 hg;obtain⟨he,T⟩:=IN (F.sel i o · · q) ((F.look i o q).elim (f.looks · J) (f.looks' · hC));have Z:=VL E m hg (λa' A=>∃N r,aK B N r a' A/\K6 C ops Cl σ o r (Dt C ops n (Cl.setIfInBounds i true) r R)/\IX σ ι o w A) Q (λN r a' A h1 h2 h3=>⟨N,r,h1,h2,h3⟩)
       have hB:∀(u:Value)(A:World),(∃N r,aK B N r (ac.put o.dst u) A/\K6 C ops Cl σ o r (Dt C ops n (Cl.setIfInBounds i true) r R)/\IX σ ι o w A)->
        wpAny C.P .any ops Q b (L.setIfInBounds i true) (ar.put o.dst u) A:=by
        rintro u A ⟨N,r,I,h',b6⟩;obtain⟨b7,h'⟩:=Xm h';refine V b _ N r _ A I h' _ _ (f.stepB F q hC J u A ?_) (by have:=I8 f.szL bk b3;omega);intro j oj v hj a7 a8 hy;cases D:AG ops σ oj with
        |true=>
         have:=TQ m D;rcases hy with⟨h1,_⟩|h1
         .grind
         .exact .inl (.inr h1)
        |false=>
         have c3:waits o j=false:=by
          grind
         have H:=Y j oj bk bk (f.rd j oj hj a7 a8) bk D;exact bzX m b6 H (λe=>⟨r,I.wrel,b7 e j oj bk bk (f.rd j oj hj a7 a8) bk D⟩) hy
       unfold GWp at Z;unfold wpOp;simp only[q];rw[T];split
       .rename_i l;rw[if_pos l]at Z;left;refine UJ he Z hB ?_ a9;rintro d A ⟨N,r,I,_⟩;have:=I.defers;rw[<-m.defers]at this;cases hd:o.dst<;>simp[Act.put,hd]at this
       grind
      grind
end
end Go.Vc
namespace Go.Vc
open Go List
section
variable{B:rL}{C:Ctx}{ι:dj}{σ:St}{a:Act}{w:World}
theorem AF:∀{xs e:ej}{vs:cv}{K:Prop},Di xs e K->DenS ι xs vs->DenS ι e vs/\K
 |[],[],vs,K,h,b=>⟨b,h⟩
 |x::xs,y::e,[],K,_,b=>b.elim
 |x::xs,y::e,v::vs,K,h,b=>by
  unfold Di at h;split at h
  .grind
  .rename_i i f g c d;simp only[List.cons.injEq]at c d;obtain⟨rfl,rfl⟩:=c;obtain⟨rfl,rfl⟩:=d;have:=AF h b.2;exact⟨⟨trivial,this.1⟩,this.2⟩
  .rename_i i f j g _ c d;simp only[List.cons.injEq]at c d;obtain⟨rfl,rfl⟩:=c;obtain⟨rfl,rfl⟩:=d;obtain⟨rfl,h⟩:=h;have:=AF h b.2;exact⟨⟨b.1,this.1⟩,this.2⟩
  grind
 |[],_::_,_,K,h,_=>by simp[Di]at h
 |_::_,[],_,K,h,_=>by simp[Di]at h
theorem yP:∀{xs c:eb}{K:Prop},yQ xs c K->(∀k o,nth c k=some (some o)->nth xs k=some (some o))/\K
 |[],[],K,h=>⟨λk o b=>by omega,h⟩
 |x::xs,none::c,K,h=>by
  simp only[yQ]at h;obtain⟨d,e⟩:=yP h;refine⟨λk o b=>?_,e⟩;cases k with
  |zero=>simp[nth]at b
  |succ k=>exact d k o b
 |x::xs,some y::c,K,h=>by
  simp only[yQ]at h;obtain⟨rfl,h⟩:=h;obtain⟨d,e⟩:=yP h;refine⟨λk o b=>?_,e⟩;cases k with
  |zero=>exact b
  |succ k=>exact d k o b
 |[],_::_,K,h=>by simp[yQ]at h
 |_::_,[],K,h=>by simp[yQ]at h
theorem aK.setSlot(b:aK B ι σ a w){i:Nat}{x:SV}{v:Value}(c:a.tmps[i]? =some v)(hx:Dnt ι x v):aK B ι (σ.put (some i) x) a w:=by
 refine⟨?_,b.defers,b.own,b.dist,b.fresh,b.wrel,b.one⟩;have:=b.slots.set i hx;show DenS ι (σ.sl.set i x) a.tmps.toList
 have e:a.tmps.toList.set i v=a.tmps.toList:=by
  apply ext_getElem?
  grind
 grind
theorem aK.nilList(c:aK B ι σ a w)(k E sz:Nat):aK B (upd ι k (.slice none 0 0)) ((σ.kill k).setOwn k (some (.lst E sz []))) a w:=by
 refine c.place k _ _ (D6.refl _ _) ⟨Iu sz,World.ownsRow_nil w 0 E sz⟩ rfl (λb d=>by simp[blk]at d)
theorem uV(τ:St):∀(c:ej)(i:Nat)(ι:dj)(σ:St),aK B ι σ a w->∃g,aK B g (Ub τ c i σ) a w
 |[],i,ι,σ,b=>⟨ι,b⟩
 |y::c,i,ι,σ,b=>by
  simp only[Ub];split
  .rename_i k;split
   .rename_i f;split
    .rename_i E h j l m
     have d:a.tmps[i]? =some (.slice none 0 0):=by
      rw[jN]at f;obtain⟨v,d,e⟩:=b.slots.get i _ f;rw[cn]at d;have e:v= .slice none 0 0:=e;rw[d,e]
     exact uV τ c (i+1) _ _ ((b.nilList k E h).setSlot d (x:=.at (.lst k)) (by show _=_;simp))
    .exact uV τ c (i+1) ι σ b
   .exact uV τ c (i+1) ι σ b
  .exact uV τ c (i+1) ι σ b
theorem oH(τ:St)(q:Nat):∀(f:dt)(j:Nat)(ι:dj)(σ:St),aK B ι σ a w->∃A,aK B A (H0 τ q f j σ) a w
 |[],j,ι,σ,d=>⟨ι,d⟩
 |y::f,j,ι,σ,d=>by
  simp only[H0];split
  .rename_i k;split
   .rename_i p T cs s;split
    .rename_i t;split
     .rename_i E l M N O;have g:q≠k:=λe=>bk
      have m:=d.nilList k E l
      have c:nth ((σ.kill k).setOwn k (some (.lst E l []))).own q=some (some (.cellsP p T (cs.map (At.sub k (λ_=>.junk))))):=by
       simp only[Oc,St.setOwn,St.sub,Af,Bo,g,false_and,if_false,s];rfl
      obtain⟨b,i,u,D,F⟩:=w9 m c
      have G:i.toList[j]? =some (.slice none 0 0):=by
       obtain⟨Q,H,n,I,r⟩:=w9 d s;rw[jN]at t;obtain⟨v,R,h⟩:=r.get j _ t;have h:v= .slice none 0 0:=h;rw[pY _ _ g,n]at u
       grind
      have z:i.toList.set j (.slice none 0 0)=i.toList:=by
       apply ext_getElem?
       grind
      have J:aK B (upd ι k (.slice none 0 0)) (Ir ((σ.kill k).setOwn k (some (.lst E l []))) q j (.lst k)) a w:=by
       unfold Ir;rw[c];refine m.rewrite c (D6.refl _ _) ⟨b,i,u,D,?_,λS e=>by subst e;have:=acJ m c;grind⟩;have:=F.set j (x:=.lst k) (v:=.slice none 0 0) (by show _=_;simp)
       grind
      exact oH τ q f (j+1) _ _ J
     .exact oH τ q f (j+1) ι σ d
    .exact oH τ q f (j+1) ι σ d
   .exact oH τ q f (j+1) ι σ d
  .exact oH τ q f (j+1) ι σ d
theorem AI(τ:St):∀(b:eb)(q:Nat)(ι:dj)(σ:St),aK B ι σ a w->∃d,aK B d (Of τ b q σ) a w
 |[],q,ι,σ,c=>⟨ι,c⟩
 |y::b,q,ι,σ,c=>by
  simp only[Of];split
  .rename_i T cs;obtain⟨d,e⟩:=oH τ q cs 0 ι σ c;exact AI τ b (q+1) d _ e
  .exact AI τ b (q+1) ι σ c
theorem lK{τ:St}{K:Prop}(s:aK B ι σ a w)(h:yO σ τ K):∃t,aK B t τ a w/\K:=by
 obtain⟨u,f⟩:=uV τ τ.sl 0 ι σ s;obtain⟨m,c⟩:=AI τ τ.own 0 u _ f;have c:aK B m (conv σ τ) a w:=c;unfold yO at h;obtain⟨g,h⟩:=AF h c.slots;obtain⟨d,n,p,v⟩:=yP h;refine⟨m,⟨g,c.defers,λk o e=>c.own k o (d k o e),λk q o r b e i j l=>c.dist k q o r b (d k o e) (d q r i) j l,?_,?_,c.one⟩,v⟩
 .intro k o b e j;rw[<-n, <-p];exact c.fresh k o b (d k o e) j
 .rw[<-n, <-p];exact c.wrel
theorem aK.froze(j:aK B ι σ a w){m2:MH}{g:PH}(f:vX σ.m σ.h m2 g):aK B ι {σ with m:=m2,h:=g} a w:=by
 have c:=j.wrel;refine⟨j.slots,j.defers,j.own,j.dist,λk o b s t=>?_,?_,j.one⟩
 .obtain⟨u,r,F⟩:=j.fresh k o b s t;refine⟨u,?_,λi=>?_⟩
  .show m2 b=none;cases l:m2 b with
   |none=>rfl
   |some o=>rw[f.sub b o l]at r;cases r
  .show g b i=none;cases l:g b i with
   |none=>rfl
   |some v=>
    rcases f.new b i v l with d|⟨cs,E,n,d,_,_⟩
    .grind
    grind
 .refine⟨c.tape,c.os,c.output,c.drawn,c.size,c.frame,λb o v e=>?_,λb o e=>c.msat b o (f.sub b o e),λb o e i=>?_,λb o v e=>f.le.le b o v (c.hle b o v e),λb y p=>?_,λb o e=>c.mfr b o (f.sub b o e)⟩
  .rcases f.new b o v e with d|⟨cs,E,n,d,q,_⟩
   .exact c.hsat b o v d
   .rw[cell_of_heap (c.msat b _ d),cn];exact q
  .show g b i=none;have e:m2 b=some o:=e;cases l:g b i with
   |none=>rfl
   |some v=>
    rcases f.new b i v l with d|⟨cs,E,n,d,q,z⟩
    .rw[c.disj b o (f.sub b o e) i]at d;cases d
    grind
  .funext i;have e:=congrFun (c.hold b y p) i;show g b i=B.h0 b i;cases l:B.h0 b i with
   |some v=>exact f.le.le b i v (c.hle b i v l)
   |none=>
    cases A:g b i with
    |none=>rfl
    |some v=>
     rcases f.new b i v A with d|⟨cs,E,n,d,q,z⟩
     .grind
     .rcases c.mfr b _ d with D|D
      .omega
      grind
theorem Ku{τ:St}{K:Prop}(r:aK B ι σ a w)(h:TJ σ τ K):∃s,aK B s τ a w/\K:=by
 obtain⟨t,g⟩:=uV τ τ.sl 0 ι σ r;obtain⟨n,c⟩:=AI τ τ.own 0 t _ g;have c:aK B n (conv σ τ) a w:=c;unfold TJ at h;obtain⟨i,h⟩:=AF h c.slots;obtain⟨d,u,v⟩:=yP h;have e:=c.froze u;exact⟨n,⟨i,c.defers,λk o f=>c.own k o (d k o f),λk p o q b f j l m=>c.dist k p o q b (d k o f) (d p q j) l m,λk o b f l=>e.fresh k o b (d k o f) l,e.wrel,c.one⟩,v⟩
theorem AQ{c:uY}{R:c.A->Prop}(b:aK B ι σ a w)(h:Jm c R σ):∃x f,R x/\aK B f (c.st x) a w:=by
 unfold Jm at h;split at h
 .obtain⟨x,g,d⟩:=h;obtain⟨i,e,_⟩:=lK b d
  grind
 .obtain⟨x,g,d⟩:=h ⟨b.wrel.disj⟩;obtain⟨i,e,_⟩:=Ku b d
  grind
theorem Nl{c:uY}{I S:c.A->Prop}(b:aK B ι σ a w)(h:Uj c I S σ):∃x f,I x/\S x/\aK B f (c.st x) a w:=by
 unfold Uj at h;split at h
 .obtain⟨x,g,i,d⟩:=h;obtain⟨j,e,_⟩:=lK b d
  grind
 .obtain⟨x,g,i,d⟩:=h ⟨b.wrel.disj⟩;obtain⟨j,e,_⟩:=Ku b d
  grind
def QD(B:rL)(Q:AZ->St->Prop):Exit->Act->World->Prop
 |.normal,a,w=>∃ι σ,aK B ι σ a w/\Q .normal σ
 |.exit id,a,w=>∃ι σ,aK B ι σ a w/\Q (.exit id) σ
 |.ret,a,w=>∃ι σ,aK B ι σ a w/\Q .ret σ
 |_,_,_=>False
theorem Lp(b:∀g S,assoc C.specs g=some S->Sound C.P g S){ops:Array Oper}{Q:AZ->St->Prop}:
 ∀(c:dx)(l:List Oper)(s:Nat)(ι:dj)(σ:St)(a:Act)(w:World),(∀j,l[j]? =ops.toList[s+j]?)->aK B ι σ a w->abQ C ops c l σ (Q .normal)->wpOpsIn Fence.wide 0 C.P ops (QD B Q) (range' s l.length) a w
 |[],l,s,ι,σ,a,w,e,d,h=>by
  have:=Is b (ops:=ops) (Q:=QD B Q) (R:=Q .normal) (rest:=[]) (λι σ a w d h=>⟨ι,σ,d,h⟩) l s ι σ a w (λj _=>e j) d h
  grind
 |(n,f)::c,l,s,ι,σ,a,w,e,d,h=>by
  obtain⟨I,p,q⟩:=h
  have:=Is b (ops:=ops) (Q:=QD B Q) (R:=λτ=>∃x,I x/\yO τ (f.st x) True) (rest:=range' (s+(l.take n).length) (l.drop n).length) (λy z r t i k=>by
   obtain⟨x,k,u⟩:=k;obtain⟨v,m,_⟩:=lK i u;refine Lp b c (l.drop n) (s+(l.take n).length) v _ r t (λj=>?_) m (q x k);rw[getElem?_drop,e];by_cases A:n<=l.length
   .grind
   .have D:l[n+j]? =none:=getElem?_eq_none aC;have E:l[l.length+j]? =none:=getElem?_eq_none aC
    grind) (l.take n) s ι σ a w (λj F=>by
    grind) d p
  grind
theorem I0(q:∀g S,assoc C.specs g=some S->Sound C.P g S):∀(c:Code)(σ:St)(Q:AZ->St->Prop)(ι:dj)(a:Act)(w:World),aK B ι σ a w->VC C c σ Q->c.wp C.P (QD B Q) a w:=by
 intro c
 induction c with
 |skip=>intro σ Q ι a w d h;exact wp_skip ⟨ι,σ,d,h⟩
 |label l=>intro σ Q ι a w d h;exact wp_label ⟨ι,σ,d,h⟩
 |exit id=>intro σ Q ι a w d h;exact wp_exit ⟨ι,σ,d,h⟩
 |ret=>intro σ Q ι a w d h;exact wp_ret ⟨ι,σ,d,h⟩
 |goto l=>intro σ Q ι a w d h;exact h.elim
 |refuse a3=>intro σ Q ι a w d h;exact h.elim
 |scope a2 O=>intro σ Q ι a w d h;exact h.elim
 |rangeFunc f ps x y r F=>intro σ Q ι a w d h;exact h.elim
 |region id ops T=>
  intro σ Q ι a w d h;cases T with
  |false=>
   refine(wpIn_wide (n:=0)).1 (wpIn_region ?_);have:=Lp q (ops:=ops) (Q:=Q) (Lo C id) ops.toList 0 ι σ a w (λj=>bf) d h;rw[range_eq_range'];omega
  |true=>
   simp only[VC]at h;split at h
   .rename_i h1 h2 h3;have hs:=aXQ h1 h2;refine wp_region_any h3 ?_;refine SP q hs (Q:=QD B Q) (R:=Q .normal) (λι σ a w d h=>⟨ι,σ,d,h⟩) (λc a w h=>h) ops.size ops.size _ ι σ a _ (d.drew (w.drawn+1) (Nat.le_succ _)) h _ a ?_ ?_
    .have D:∀i,(Array.replicate ops.size false).getD i false=true->False:=by
      intro i s;by_cases p:i<ops.size
      .simp[Array.getD,p]at s
      grind
     exact⟨bf,bf,λi s=>s,λi o _ s=>(D i s).elim,λi o _ s=>(D i s).elim,λi o _ s=>(D i s).elim,rfl,rfl,λt _=>rfl,λi o _ s=>(D i s).elim⟩
    .unfold vM;rw[filter_eq_self.2]
     .simp
     .intro i s;by_cases p:i<ops.size<;>simp[Array.getD,p]
   grind
 |seq x y r F=>
  intro σ Q ι a w d h;simp only[VC]at h;split at h
  .obtain⟨h,m⟩:=h;refine wp_seq (wp_mono (r σ _ ι a w d h) ?_);intro e z A b;cases e with
   |normal=>
    obtain⟨E,U,k,x,V,G⟩:=b;show y.wp C.P (QD B Q) z A;obtain⟨W,u,_⟩:=lK k G
    grind
   |exit id=>exact b
   |ret=>exact b
   |goto l=>exact b
   |panic X=>exact b
   |outgrown=>exact b
  .split at h
   .obtain⟨I,h,m⟩:=h;refine wp_seq (wp_mono (r σ _ ι a w d h) ?_);intro e z A b;cases e with
    |normal=>
     obtain⟨E,U,k,G⟩:=b;show y.wp C.P (QD B Q) z A;obtain⟨x,W,V,u⟩:=AQ k G
     grind
    |exit id=>exact b
    |ret=>exact b
    |goto l=>exact b
    |panic X=>exact b
    |outgrown=>exact b
   .refine wp_seq (wp_mono (r σ _ ι a w d h) ?_);intro e z A b;cases e with
    |normal=>
     obtain⟨E,U,k,Y⟩:=b;show y.wp C.P (QD B Q) z A
     grind
    |exit id=>exact b
    |ret=>exact b
    |goto l=>exact b
    |panic X=>exact b
    |outgrown=>exact b
 |cond c x y r F=>
  intro σ Q ι a w d h;simp only[VC]at h;split at h
  .rename_i t Z;have v:=d.ev c;rw[Z]at v;have v:a.eval c= .bool t:=v;rcases tQ h with⟨rfl,h⟩|⟨rfl,h⟩
   .exact wp_cond_true v (r _ Q ι a w (d.setTmp Z) h)
   .exact wp_cond_false v (F _ Q ι a w (d.setTmp Z) h)
  grind
 |block id c O=>
  intro σ Q ι a w d h;refine wp_block (wp_mono (O σ _ ι a w d h) ?_);intro e z A b;cases e with
  |normal=>exact b
  |exit i=>
   obtain⟨E,U,k,Y⟩:=b;show if i=id then _ else _
   simp only at Y;split at Y
   .rename_i hb;rw[if_pos (ci hb)];exact⟨E,U,k,Y⟩
   .rename_i hb;rw[if_neg (λe=>by subst e;simp at hb)];exact⟨E,U,k,Y⟩
  |ret=>exact b
  |goto l=>exact b
  |panic X=>exact b
  |outgrown=>exact b
 |loop c O=>
  intro σ Q ι a w d h;simp only[VC]at h;split at h
  .rename_i l hl;obtain⟨⟨x,V,G⟩,m⟩:=h;obtain⟨W,u,_⟩:=lK d G;refine wp_loop_ghost (λn a w=>∃x ι,l.inv x/\l.mu x=n/\aK B ι (l.st x) a w) (l.mu x) ⟨x,W,V,rfl,u⟩ ?_;rintro n z A ⟨x',E,H,rfl,k⟩;refine wp_mono (O _ _ E z A k (m x' H)) ?_;intro e a0 a1 b;cases e with
   |normal=>
    obtain⟨ι3,σ3,J,y,hy,p,M⟩:=b;obtain⟨ι4,N,_⟩:=lK J M;exact⟨l.mu y,p,y,ι4,hy,rfl,N⟩
   |exit id=>exact b
   |ret=>exact b
   |goto l=>exact b
   |panic X=>exact b
   |outgrown=>exact b
  .split at h
   .rename_i l hl;obtain⟨I,mu,G,m⟩:=h;obtain⟨x,W,V,u⟩:=AQ d G;refine wp_loop_ghost (λn a w=>∃x ι,I x/\mu x=n/\aK B ι (l.st x) a w) (mu x) ⟨x,W,V,rfl,u⟩ ?_;rintro n z A ⟨x',E,H,rfl,k⟩;refine wp_mono (O _ _ E z A k (m x' H)) ?_;intro e a0 a1 b;cases e with
    |normal=>
     obtain⟨ι3,σ3,J,M⟩:=b;obtain⟨y,ι4,hy,p,N⟩:=Nl J M;exact⟨mu y,p,y,ι4,hy,rfl,N⟩
    |exit id=>exact b
    |ret=>exact b
    |goto l=>exact b
    |panic X=>exact b
    |outgrown=>exact b
   grind
end
end Go.Vc
namespace Go.Vc
open Go List
section
variable{B:rL}{C:Ctx}{ι:dj}{σ:St}{a:Act}{w:World}
def LI(tmps:Array Value):ResultVar->Sem Value
 |.tmp t=>pure (tmps.getD t undef)
 |.cell a t=>do loadVar t (<-asAddr (tmps.getD a undef))
theorem OI(fn:Func)(tmps:Array Value):results fn tmps=(do let vs <-fn.results.mapM (LI tmps);pure (if h:vs.size=1 then vs[0]else .tuple vs)):=by
 unfold results;congr 1
theorem Ve(f:aK B ι σ a w){r:ResultVar}{x:SV}(h:acQ C σ r=some x):∃v,(LI a.tmps r).run C.P w= .ok v w/\Dnt ι x v:=by
 cases r with
 |tmp t=>
  simp only[acQ,ce]at h;subst h;exact⟨_,rfl,f.ev (.tmp t)⟩
 |cell l T=>
  have d:=f.ev (.tmp l);simp only[acQ]at h;split at h
  .rename_i k off q;rw[q]at d;split at h
   .rename_i p T' cs s;split at h
    .rename_i e u;have e:=Nat.le_of_ble_eq_true e;simp only[ce]at h;subst h;obtain⟨b,m,y,z,n⟩:=w9 f s;obtain⟨F,c,A⟩:=d;rw[y]at c;simp only[Value.pointer.injEq,ce,Addr.mk.injEq]at c;obtain⟨rfl, -, -⟩:=c;have g:=(n.drop off).take (C.P.cellsOf T);have D:cs.length=m.toList.length:=n.length;have E:=AO (w:=w) (b:=b) (off:=off) (cs:=(m.toList.drop off).take (C.P.cellsOf T)) u bk (λj v G=>by rw[cell_of_heap z];grind);refine⟨_,?_,IQ g⟩;have i:a.tmps.getD l undef= .pointer (some ⟨b,off,none⟩):=A;simp only[LI,i,asAddr,Sem.run_bind,Sem.run_pure,Result.andThen_ok,E]
    .cases h
   .cases h
  .cases h
theorem Jl(f:aK B ι σ a w):∀(l:List ResultVar)(xs:ej),Iv C σ l=some xs->∃vs,(l.mapM (LI a.tmps)).run C.P w= .ok vs w/\DenS ι xs vs
 |[],xs,h=>by
  simp[Iv]at h;subst h;exact⟨[],bf,trivial⟩
 |r::l,xs,h=>by
  simp only[Iv]at h;split at h
  .rename_i x b g c;simp only[ce]at h;subst h;obtain⟨v,i,j⟩:=Ve f g;obtain⟨vs,d,e⟩:=Jl f l b c;exact⟨v::vs,by simp[mapM_cons,i,d],j,e⟩
  .cases h
theorem yX(n:aK B ι σ a w){mv:Bool}:∀(xs:ej)(j:em)(rs:du)(vs:cv),D4 C.P σ mv xs j=some rs->DenS ι xs vs->
 rs.length=vs.length/\(mv=false->rs=vs.map .val)/\∀(i:Nat)(r:CV)(v:Value),rs[i]? =some r->vs[i]? =some v->Ea w r v/\∀b,gA r v=some b->∃k g,nth σ.own k=some (some g)/\blk (ι k)=some b
 |[],j,rs,[],h,_=>by
  simp[D4]at h;grind
 |[],_,_,_::_,_,c=>c.elim
 |x::xs,_,_,[],_,c=>c.elim
 |x::xs,j,rs,v::vs,h,c=>by
  simp only[D4]at h;split at h
  .cases h
  .rename_i l q;obtain⟨s,t,y⟩:=yX n xs j.tail l vs q c.2
   have fin:∀(m:CV),rs=m::l->(mv=false->m= .val v)->Ea w m v->(∀b,gA m v=some b->∃k g,nth σ.own k=some (some g)/\blk (ι k)=some b)->
    rs.length=(v::vs).length/\(mv=false->rs=(v::vs).map .val)/\∀(i:Nat)(r:CV)(u:Value),rs[i]? =some r->(v::vs)[i]? =some u->Ea w r u/\∀b,gA r u=some b->∃k g,nth σ.own k=some (some g)/\blk (ι k)=some b:=by
    grind
   split at h
   .split at h
    .rename_i k;have d:v=ι k:=c.1;split at h
     .rename_i E F G p;simp only[ce]at h;obtain⟨A,H⟩:=sN n p;exact fin _ h.symm (λe=>by cases e) ⟨A,bk⟩ (λb f=>⟨k,_,p,by rw[<-d];exact f⟩)
     .cases h
    .have d:v= .slice none 0 0:=c.1;split at h
     .rename_i E z I;simp only[ce]at h;refine fin _ h.symm (λe=>by cases e) ⟨Iu _,by rw[d];exact World.ownsRow_nil w 0 E _⟩ (λb f=>?_);rw[d]at f;simp[gA,blk]at f
     .cases h
    .cases h
   .split at h
    .rename_i u D;simp only[ce]at h;have d:=(c.1).val? D;exact fin _ h.symm (λ_=>by rw[d]) d (λb f=>by simp[gA]at f)
    .cases h
theorem GM(I:aK B ι σ a w){fn:Func}{K:dc}(h:DR C fn K σ):
 ∃u,(results fn a.tmps).run C.P w= .ok u w/\∃r m' s,K r m' s/\Ea w r u/\xC B m' s w/\∀b,gA r u=some b->(B.w0.heap.size<=b\/B.E b)/\m' b=none/\∀i,s b i=none:=by
 unfold DR at h;split at h
 .exact h.elim
 .rename_i V J;obtain⟨W,p,h,_⟩:=oT _ _ I h;obtain⟨τ,d,h,_⟩:=zU _ _ p h;split at h
  .exact h.elim
  .rename_i M t;obtain⟨f,y,j⟩:=Jl d _ _ t
   have G:(results fn a.tmps).run C.P w= .ok (if h:f.toArray.size=1 then f.toArray[0]else .tuple f.toArray) w:=by
    rw[OI,Array.mapM_eq_mapM_toList];simp[y]
   have g:∀(n:du)(r:CV)(v:Value),D4 C.P τ C.retMove M fn.resultTypes.toList=some n->(∃i:Nat,n[i]? =some r/\f[i]? =some v)->Ea w r v/\∀b,gA r v=some b->(B.w0.heap.size<=b\/B.E b)/\τ.m b=none/\∀i,τ.h b i=none:=by
    rintro n r v l ⟨i,q,N⟩;obtain⟨_,_,O⟩:=yX d _ _ _ _ l j;obtain⟨z,A⟩:=O i r v q N;refine⟨z,λb D=>?_⟩;obtain⟨k,Q,R,F⟩:=A b D;exact d.fresh k Q b R F
   split at h
   .rename_i r q;obtain⟨c,_,_⟩:=yX d _ _ _ _ q j;simp at c
    obtain⟨v,rfl⟩:∃v,f=[v]:=by
     match f,c with
     |[v],_=>grind
    obtain⟨z,A⟩:=g _ r v q ⟨0,rfl,rfl⟩;refine⟨v,bk,r,τ.m,τ.h,h,z,d.wrel,A⟩
   .rename_i n S l;split at h
    .exact h.elim
    .rename_i T;obtain⟨c,H,_⟩:=yX d _ _ _ _ l j
     have U:f.length≠1:=by
      intro e;rw[e]at c
      match n,c with
      |[r],_=>grind
     refine⟨.tuple f.toArray,bk,.tup n,τ.m,τ.h,h,⟨f.toArray,rfl,bk⟩,d.wrel,λb D=>by simp[gA]at D⟩
   grind
def M0(n:Nat)(b:du)(vs:cv)(k:Nat):Value:=
 match b[k-n]?,vs[k-n]? with
 |some (.lst _ _ _),some v=>v
 |_,_=>.slice none 0 0
theorem rJ{w:World}:∀{b:du}{vs:cv},Cy w b vs->b.length=vs.length/\∀(i:Nat)(c:CV)(v:Value),b[i]? =some c->vs[i]? =some v->Ea w c v
 |[],[],_=>⟨rfl,λi c v h=>by simp at h⟩
 |c::cs,v::vs,h=>by
  obtain⟨f,g⟩:=rJ h.2;refine⟨by simp[f],λi j k d e=>?_⟩;cases i with
  |zero=>simp at d e;subst d e;exact h.1
  |succ i=>grind
 |[],_::_,h=>h.elim
 |_::_,[],h=>h.elim
theorem Nf{n:Nat}{all:du}{avs:cv}{w:World}:∀(i:Nat)(b:du)(vs:cv),Cy w b vs->(∀j:Nat,b[j]? =all[i+j]?)->(∀j:Nat,vs[j]? =avs[i+j]?)->
 DenS (M0 n all avs) (HZ n i b) vs
 |i,[],[],_,_,_=>trivial
 |i,c::b,v::vs,h,e,f=>by
  have d:=Nf (n:=n) (all:=all) (avs:=avs) (i+1) b vs h.2 (λj=>by have:=e (j+1);grind) (λj=>by have:=f (j+1);grind);cases c with
  |val u=>exact⟨h.1,d⟩
  |lst E l m=>
   refine⟨?_,d⟩;show v=M0 n all avs (n+i);have g:=e 0;have k:=f 0;simp at g k;unfold M0
   grind
  |tup p=>exact⟨trivial,d⟩
 |i,[],_::_,h,_,_=>h.elim
 |i,_::_,[],h,_,_=>h.elim
theorem KN:∀(b:du)(k:Nat)(o:Own),nth (AV b) k=some (some o)->∃E sz xs,b[k]? =some (.lst E sz xs)/\o= .lst E sz xs
 |[],k,o,h=>by simp[AV,nth]at h
 |c::b,0,o,h=>by
  cases c<;>simp[AV,nth]at h
  grind
 |c::b,k+1,o,h=>by
  have:nth (AV b) k=some (some o):=by cases c<;>simpa[AV,nth]using h
  obtain⟨E,sz,xs,d,e⟩:=KN b k o this
  grind
theorem SJ{ι:dj}:∀(n:Nat)(vs:cv),vs.length=n->DenS ι (replicate n (.at .junk)) vs
 |0,[],_=>trivial
 |n+1,v::vs,h=>⟨trivial,SJ n vs (br h)⟩
 |0,_::_,h=>by simp at h
 |_+1,[],h=>by simp at h
theorem DenS.append{ι:dj}:∀{xs b:ej}{vs c:cv},DenS ι xs vs->DenS ι b c->DenS ι (xs++b) (vs++c)
 |[],_,[],_,_,d=>bk
 |_::_,_,_::_,_,h,d=>⟨h.1,DenS.append h.2 d⟩
 |[],_,_::_,_,h,_=>h.elim
 |_::_,_,[],_,h,_=>h.elim
theorem FB{w:World}{m:MH}{h:PH}{c:du}{vs:cv}(n:Nat)(r:AK w m h c vs):
 aK ⟨w,tA m c vs,h,[]⟩ (M0 n c vs) (entry n c m h) {tmps:=vs.toArray++Array.replicate (n-vs.toArray.size) undef,defers:=[]} w:=by
 obtain⟨u,q⟩:=rJ r.args
 have d:∀k o,nth (entry n c m h).own k=some (some o)->n<=k/\∃E i l,c[k-n]? =some (.lst E i l)/\o= .lst E i l/\∃v,vs[k-n]? =some v/\M0 n c vs k=v/\Ea w (.lst E i l) v:=by
  intro k o f;simp only[entry]at f;rw[jN]at f;by_cases s:k<n
  .grind
  .rw[getElem?_append_right bk]at f;simp only[length_replicate]at f;rw[<-jN]at f;obtain⟨E,i,l,e,A⟩:=KN c (k-n) o f
   have D:k-n<vs.length:=by
    grind
   have p:vs[k-n]? =some vs[k-n]:=bu D;refine⟨aC,E,i,l,e,A,_,p,?_,q _ _ _ e p⟩;unfold M0;rw[e,p]
 refine⟨?_,rfl,?_,?_,?_,?_,?_⟩
 .have e:=Nf (n:=n) (all:=c) (avs:=vs) 0 c vs r.args (λj=>bf) (λj=>bf);show DenS _ (HZ n 0 c++replicate (n-c.length) (.at .junk)) _;have:(vs.toArray++Array.replicate (n-vs.toArray.size) undef).toList=vs++replicate (n-vs.length) undef:=bf
  rw[this];exact e.append (SJ _ _ (by simp[u]))
 .intro k o f;obtain⟨s,E,i,l,e,rfl,v,p,y,t⟩:=d k o f;rw[y];exact t
 .intro k J o O b f F g z;obtain⟨s,E,i,l,e,rfl,v,p,y,t⟩:=d k o f;obtain⟨M,E',Q,R,G,rfl,S,H,I,N⟩:=d J O F;rw[y]at g;rw[I]at z;have:=r.sep (k-n) (J-n) _ _ v S b e p G H g z;omega
 .intro k o b f g;obtain⟨s,E,i,l,e,rfl,v,p,y,t⟩:=d k o f;rw[y]at g;obtain⟨T,U⟩:=r.free (k-n) _ v b e p g;exact⟨.inr (.inr ⟨k-n,_,v,e,p,g⟩),T,U⟩
 .refine⟨rfl,rfl,rfl,Nat.le_refl _,Nat.le_refl _,λ_ _ _=>rfl,r.hsat,r.msat,r.disj,λ_ _ _ h=>h,λ_ _ _=>rfl,λb V g=>.inr (.inl (by have g:m b=some V:=g;rw[g];simp))⟩
 .intro k;unfold M0;split
  .rename_i E i l v e A;exact MP (q _ _ _ e A).2
  .rfl
theorem eR{P:Program}{f:FuncId}{fn:Func}{c:Code}(A:P.funcs[f]? =some fn)(D:fn.body=some c)(k:(fn.name== "runtime.NumGoroutine")=false){S:Spec}
 (t:∀d m h K,S d m h K->∃C:Ctx,C.P=P/\(∀g S,assoc C.specs g=some S->Sound P g S)/\tM C fn c (entry fn.ntmps d m h) K):Sound P f S:=by
 refine⟨⟨fn,A,by rw[D];rfl,k⟩,?_⟩;intro d y m h w K F G;obtain⟨C,rfl,j,H⟩:=t d m h K F;refine calls_of_wp A D ?_;refine wp_mono (I0 j c _ _ _ _ w (FB fn.ntmps G) H) ?_;intro e z p n
 have key:(∃ι σ,aK ⟨w,tA m d y,h,[]⟩ ι σ z p/\DR C fn K σ)->z.defers=[]/\∃v,(results fn z.tmps).run C.P p= .ok v p/\∃r u q s,Ending.returned v= .returned u/\K r q s/\Ea p r u/\xC ⟨w,tA m d y,h,[]⟩ q s p/\
  ∀b,gA r u=some b->(w.heap.size<=b\/tA m d y b)/\q b=none/\∀i,s b i=none:=by
  rintro⟨ι,σ,E,I⟩;obtain⟨u,J,r,q,s,M,N,O,Q⟩:=GM E I;exact⟨E.defers,u,J,r,u,q,s,rfl,M,N,O,Q⟩
 cases e with
 |normal=>exact key n
 |ret=>exact key n
 |exit id=>obtain⟨_,_,_,h⟩:=n;exact h.elim
 |goto l=>exact n.elim
 |panic R=>exact n.elim
 |outgrown=>exact n.elim
theorem aAJ{P:Program}{f:FuncId}{fn:Func}{c:Code}(G:P.funcs[f]? =some fn)(s:fn.body=some c)(n:(fn.name== "runtime.NumGoroutine")=false){S:Spec}
 (H:∀d m h K,S d m h K->∃C:Ctx,C.P=P/\(∀g S,assoc C.specs g=some S->Sound P g S)/\tM C fn c (entry fn.ntmps d m h) (λr m' p=>∃m2 j,(∀b o,m2 b=some o->m' b=some o)/\PH.le h j/\PH.le j p/\K r m2 j)):Sound P f S:=by
 have D:=eR G s n (S:=λd m h K=>∃K',S d m h K'/\K=λr m' p=>∃m2 j,(∀b o,m2 b=some o->m' b=some o)/\PH.le h j/\PH.le j p/\K' r m2 j) (by
  grind)
 refine⟨D.1,λd I m h w K J M=>?_⟩;refine(D.2 d I m h w _ ⟨K,J,rfl⟩ M).mono ?_;rintro e U ⟨r,u,m',p,N,⟨m2,j,t,E,F,O⟩,y,k,z⟩
 have l:∀b i,p b i=none->j b i=none:=by
  intro b i e;cases q:j b i with
  |none=>rfl
  |some v=>rw[F.le b i v q]at e;cases e
 refine⟨r,u,m2,j,N,O,y,?_,λb s=>?_⟩
 .refine⟨k.tape,k.os,k.output,k.drawn,k.size,k.frame,λb o v e=>k.hsat b o v (F.le b o v e),λb o e=>k.msat b o (t b o e),λb o e i=>l b i (k.disj b o (t b o e) i),E.le,λb Q A=>?_,λb o e=>k.mfr b o (t b o e)⟩;funext i;have e:=congrFun (k.hold b Q A) i;show j b i=h b i;cases q:h b i with
  |some v=>exact(E.le b i v q)
  |none=>grind
 .obtain⟨R,V,T⟩:=z b s;refine⟨R,?_,λi=>l b i (T i)⟩;cases q:m2 b with
  |none=>rfl
  |some o=>grind
def dE(h:PH)(K:dc):CV->MH->PH->Prop:=λr c f=>(∀b o,c b=some o->∀i,f b i=none)->∃d e,(∀b o,d b=some o->c b=some o)/\PH.le h e/\
 (∀b i v,e b i=some v->f b i=some v\/∃cs E g,c b=some (.cells cs E g)/\cs[i]? =some v/\d b=none)/\K r d e
theorem Sound.strong{P:Program}{f:FuncId}{S:Spec}(z:Sound P f (λg m h K=>∃K',S g m h K'/\K=dE h K')):Sound P f S:=by
 refine⟨z.1,λg G m h w K H I=>?_⟩;refine(z.2 g G m h w _ ⟨K,H,rfl⟩ I).mono ?_;rintro e V ⟨r,u,W,X,J,j,n,c,p⟩;obtain⟨A,k,q,D,s,M⟩:=j c.disj;refine⟨r,u,A,k,J,M,n,?_,λb N=>?_⟩
 .refine⟨c.tape,c.os,c.output,c.drawn,c.size,c.frame,λb o v e=>?_,λb o e=>c.msat b o (q b o e),λb o e i=>?_,D.le,λb O t=>?_,λb o e=>c.mfr b o (q b o e)⟩
  .rcases s b o v e with d|⟨cs,E,F,d,y,_⟩
   .exact c.hsat b o v d
   .rw[cell_of_heap (c.msat b _ d),cn];exact y
  .cases l:k b i with
   |none=>rfl
   |some v=>
    rcases s b i v l with d|⟨cs,E,F,d,y,Q⟩
    .rw[c.disj b o (q b o e) i]at d;cases d
    grind
  .funext i;have e:=congrFun (c.hold b O t) i;show k b i=h b i;cases l:h b i with
   |some v=>exact(D.le b i v l)
   |none=>
    cases R:k b i with
    |none=>rfl
    |some v=>
     rcases s b i v R with d|⟨cs,E,F,d,y,Q⟩
     .grind
     .rcases c.mfr b _ d with T|T
      .omega
      grind
 .obtain⟨U,Y,Z⟩:=p b N;refine⟨U,?_,λi=>?_⟩
  .cases l:A b with
   |none=>rfl
   |some o=>grind
  .cases l:k b i with
   |none=>rfl
   |some v=>
    grind
theorem aAZ{P:Program}{f:FuncId}{fn:Func}{c:Code}(e:P.funcs[f]? =some fn)(i:fn.body=some c)(d:(fn.name== "runtime.NumGoroutine")=false){S:Spec}
 (j:∀b m h K,S b m h K->∃C:Ctx,C.P=P/\(∀g S,assoc C.specs g=some S->Sound P g S)/\tM C fn c (entry fn.ntmps b m h) (dE h K)):Sound P f S:=
 .strong (eR e i d (S:=λb m h K=>∃K',S b m h K'/\K=dE h K') (by
  grind))
end
end Go.Vc
namespace Go.Vc
open Go List
theorem aB{c:Bool}{A B:Prop}(b:c=true->A)(d:c=false->B):branch c A B:=by
 cases c
 .exact d rfl
 .exact b rfl
theorem aE{p:Prop}[Decidable p]{A B:Prop}(b:p->A)(c:¬p->B):branch (decide p) A B:=
 aB (λh=>b (of_decide_eq_true h)) (λh=>c (of_decide_eq_false h))
theorem dO{n:Int}(b: -9223372036854775808<=n)(c:n<9223372036854775808):IntKind.i64.wrap n=n:=by
 rw[IntKind.wrap_i64];omega
theorem aJ.of_m{m:MH}{h:PH}{b off:Nat}{cs:Array Value}{E:TypeId}{c:Nat×Nat}{l:cv}(d:m b=some (.cells cs E c))(e:(cs.toList.drop off).take l.length=l):aJ m h b off l:=.lent cs E c d e
end Go.Vc
namespace Go.Ps
open Go Go.Vc Go.Proofs List Tryz
variable{K:dc}{m:MH}{h:PH}{ps:dd}{cb:Nat}{l:dd}{i:Nat}{N:Nat}{m':MH}{h':PH}{co:dd}{gr:dd}{od:dg}{ta:Int}{li:Int}{xs:List cv}{sz:Nat}{k:Nat}{ks:List dd}{rs:dd}{r:Sl}{a:dd}{b:Nat}
structure VV where
 kind:Int
 int:Int
 text:ByteArray
abbrev de:=List VV
abbrev dy:=List (Sl×de)
abbrev cw:=List de
structure OV where
 kind:Int
 index:Int
 value:VV
abbrev ff:=List OV
structure PV where
 op:Int
 cmp:Int
 left:OV
 right:OV
 args:Sl
abbrev ei:=List PV
structure QV where
 op:Int
 table:Int
 where_:PV
 columns:Sl
 on:Sl
 group:Sl
 order:Sl
 limit:Int
 args:Sl
abbrev ef:=List QV
abbrev dz:=List (Nat×QV)
variable{v:QV}
structure lD where
 name:ByteArray
 kind:Int
structure FX where
 columns:Sl
 table:Int
structure bR where
 name:ByteArray
 columns:Sl
 key:Int
 references:Sl
 checks:Sl
structure bJ where
 version:Int
 tables:Sl
variable{sc:bJ}
abbrev cV(n:Int):Value:=.int .i64 n
abbrev eF(s:Sl):Value:=.slice s.a s.len s.cap
abbrev tE:Value:=.slice none 0 0
abbrev Cz:Value:=.string ⟨⟨[]⟩⟩
abbrev vQp(b o:Nat):Value:=.pointer (some ⟨b,o,none⟩)
abbrev iN(n:Int):At:=.val (.int .i64 n)
abbrev fY(s:Sl):At:=.val (.slice s.a s.len s.cap)
abbrev BV:At:=.val (.slice none 0 0)
abbrev aQz:At:=.val (.string ⟨⟨[]⟩⟩)
abbrev fJ(n:Int):SV:=.at (.val (.int .i64 n))
abbrev sQs(s:Sl):SV:=.at (.val (.slice s.a s.len s.cap))
abbrev sQn:SV:=.at (.val (.slice none 0 0))
abbrev sQp(b o:Nat):SV:=.at (.ptr b o)
abbrev sQo(b o:Nat):SV:=.at (.val (.pointer (some ⟨b,o,none⟩)))
abbrev sQb(b:Bool):SV:=.at (.val (.bool b))
abbrev sQl(k:Nat):SV:=.at (.lst k)
abbrev jA(n:Int):CV:=.val (.int .i64 n)
abbrev Cr(b:Bool):CV:=.val (.bool b)
abbrev mL(s:Sl):CV:=.val (.slice s.a s.len s.cap)
abbrev CE:CV:=.val (.slice none 0 0)
abbrev F1(b o:Nat):CV:=.val (.pointer (some ⟨b,o,none⟩))
abbrev nS(l:cv):CV:=.val (.agg ⟨l⟩)
abbrev oQ(T:TypeId)(l:dt):Option Go.Vc.Own:=some (.cells T l)
abbrev eQ{α:Type}(x:α):Prop:=x=x
abbrev eP(k:Nat):Prop:=sQp k 0=sQp k 0
abbrev eL(k:Nat):Prop:=sQl k=sQl k
abbrev Uk(s:ByteArray):At:=.val (.string s)
abbrev zQ:dt:=[iN 0,iN 0,iN 0,iN 0,iN 0,iN 0,iN 0,iN 0,aQz,iN 0,iN 0,iN 0,iN 0,aQz,BV,BV,BV,BV,BV,iN 0,BV]
abbrev zP:dt:=[iN 0,iN 0,iN 0,iN 0,iN 0,iN 0,aQz,iN 0,iN 0,iN 0,iN 0,aQz,BV]
def eI(n:Int):cv:=[.int .i64 n]
def eS(s:Sl):cv:=[.slice s.a s.len s.cap]
def VV.enc(v:VV):cv:=[.int .i64 v.kind,.int .i64 v.int,.string v.text]
def OV.enc(o:OV):cv:=[.int .i64 o.kind,.int .i64 o.index,.int .i64 o.value.kind,.int .i64 o.value.int,.string o.value.text]
def PV.enc(p:PV):cv:=
 [.int .i64 p.op,.int .i64 p.cmp,
  .int .i64 p.left.kind,.int .i64 p.left.index,.int .i64 p.left.value.kind,.int .i64 p.left.value.int,.string p.left.value.text,
  .int .i64 p.right.kind,.int .i64 p.right.index,.int .i64 p.right.value.kind,.int .i64 p.right.value.int,.string p.right.value.text,
  .slice p.args.a p.args.len p.args.cap]
def QV.enc(q:QV):cv:=
 [.int .i64 q.op,.int .i64 q.table,
  .int .i64 q.where_.op,.int .i64 q.where_.cmp,
  .int .i64 q.where_.left.kind,.int .i64 q.where_.left.index,.int .i64 q.where_.left.value.kind,.int .i64 q.where_.left.value.int,.string q.where_.left.value.text,
  .int .i64 q.where_.right.kind,.int .i64 q.where_.right.index,.int .i64 q.where_.right.value.kind,.int .i64 q.where_.right.value.int,.string q.where_.right.value.text,
  .slice q.where_.args.a q.where_.args.len q.where_.args.cap,
  .slice q.columns.a q.columns.len q.columns.cap,.slice q.on.a q.on.len q.on.cap,.slice q.group.a q.group.len q.group.cap,.slice q.order.a q.order.len q.order.cap,
  .int .i64 q.limit,.slice q.args.a q.args.len q.args.cap]
def lD.enc(c:lD):cv:=[.string c.name,.int .i64 c.kind]
def FX.enc(r:FX):cv:=[.slice r.columns.a r.columns.len r.columns.cap,.int .i64 r.table]
def bR.enc(t:bR):cv:=[.string t.name,.slice t.columns.a t.columns.len t.columns.cap,.int .i64 t.key,.slice t.references.a t.references.len t.references.cap,.slice t.checks.a t.checks.len t.checks.cap]
def bJ.enc(s:bJ):cv:=[.int .i64 s.version,.slice s.tables.a s.tables.len s.tables.cap]
abbrev zV:cv:=[cV 0,cV 0,cV 0,cV 0,cV 0,cV 0,cV 0,cV 0,Cz,cV 0,cV 0,cV 0,cV 0,Cz,tE,tE,tE,tE,tE,cV 0,tE]
abbrev pQ(p:PV)(r:dt):dt:=iN p.op::iN p.cmp::iN p.left.kind::iN p.left.index::iN p.left.value.kind::iN p.left.value.int::Uk p.left.value.text::iN p.right.kind::iN p.right.index::iN p.right.value.kind::iN p.right.value.int::Uk p.right.value.text::fY p.args::r
abbrev qQ(q:QV)(x:At):dt:=iN q.op::iN q.table::pQ q.where_ [fY q.columns,fY q.on,fY q.group,fY q.order,iN q.limit,x]
def qP(p:Int×Int):cv:=[.int .i64 p.1,.int .i64 p.2]
def CI(p:Int×Bool):cv:=[.int .i64 p.1,.bool p.2]
def dI:Dec:=⟨Int,eI⟩
def dS:Dec:=⟨Sl,eS⟩
def dB:Dec:=⟨Bool,λb=>[.bool b]⟩
def dU8:Dec:=⟨UInt8,λb=>[.int .u8 b.toNat]⟩
def cmX:Dec:=⟨ByteArray,λs=>[.string s]⟩
def blX:Option Nat->Value
 |none=>.nilFunc
 |some f=>.func (.func f) #[] #[]
def dF:Dec:=⟨Option Nat,λf=>[blX f]⟩
structure NV where
 s:bJ
 params:Sl
 q:QV
 args:Sl
def NV.enc(n:NV):cv:=n.s.enc++eS n.params++n.q.enc++eS n.args
structure bM where
 kind:Int
 table:Int
 columns:Sl
 query:QV
def bM.enc(r:bM):cv:=.int .i64 r.kind:: .int .i64 r.table:: .slice r.columns.a r.columns.len r.columns.cap::r.query.enc
structure fO where
 table:Int
 old:Sl
 new:Sl
def fO.enc(c:fO):cv:=[.int .i64 c.table,.slice c.old.a c.old.len c.old.cap,.slice c.new.a c.new.len c.new.cap]
structure zC where
 change:Int
 after:Bool
 table:Int
 key:Sl
 column:Int
def zC.enc(d:zC):cv:=[.int .i64 d.change,.bool d.after,.int .i64 d.table,.slice d.key.a d.key.len d.key.cap,.int .i64 d.column]
structure Mx where
 columns:Sl
 before:Sl
 after:Sl
def Mx.enc(w:Mx):cv:=[.slice w.columns.a w.columns.len w.columns.cap,.slice w.before.a w.before.len w.before.cap,.slice w.after.a w.after.len w.after.cap]
def dec:TypeId->Dec:=λT=>match T with
 |2=>dI
 |3=>dI
 |4=>dB
 |5=>dU8
 |9=>cmX
 |47=>dI
 |22=>dS
 |36=>dS
 |38=>dS
 |61=>dS
 |31=>dS
 |64=>dS
 |65=>dS
 |66=>dS
 |27=>dS
 |95=>dS
 |75=>dS
 |71=>dS
 |72=>dS
 |165=>dS
 |29=>⟨bJ,bJ.enc⟩
 |58=>⟨VV,VV.enc⟩
 |60=>⟨OV,OV.enc⟩
 |63=>⟨PV,PV.enc⟩
 |68=>⟨QV,QV.enc⟩
 |74=>⟨bR,bR.enc⟩
 |81=>⟨Int×Int,qP⟩
 |138=>⟨Int×Bool,CI⟩
 |80=>⟨lD,lD.enc⟩
 |126=>⟨FX,FX.enc⟩
 |206=>⟨NV,NV.enc⟩
 |207=>dF
 |262=>dF
 |214=>⟨Nat,λb=>[.func (.func 174) #[] #[.pointer (some ⟨b,0,none⟩)]]⟩
 |197=>⟨Nat,λb=>[.map (some b)]⟩
 |243=>⟨Nat,λb=>[.map (some b)]⟩
 |23=>dS
 |24=>dS
 |32=>dS
 |46=>dS
 |117=>dS
 |155=>dS
 |34=>⟨Sl×Sl,λp=>[.slice p.1.a p.1.len p.1.cap,.slice p.2.a p.2.len p.2.cap]⟩
 |70=>⟨bM,bM.enc⟩
 |84=>⟨fO,fO.enc⟩
 |77=>⟨zC,zC.enc⟩
 |114=>⟨Mx,Mx.enc⟩
 |108=>⟨Nat,λb=>[.map (some b)]⟩
 |109=>⟨Nat,λb=>[.map (some b)]⟩
 |_=>⟨Unit,λ_=>[]⟩
def cK(f:Func):Code:=match f.body with|some c=>c|none=>.skip
noncomputable def ctx(specs:List (Nat×Vc.Spec))(loops:List (Nat×Ol))(cuts:List (Nat×Z5))(moves:List (Nat×dq))(retMove:Bool):Ctx:=
 {P:=Tryz.prog,loops2:=[],cuts2:=[],rcuts:=[],heapT:=[],specs:=specs,dec:=dec,loops:=loops,cuts:=cuts,moves:=moves,retMove:=retMove,yield:=none}
noncomputable def dD(specs:List (Nat×Vc.Spec))(loops:dx)(cuts:dx)(moves:List (Nat×dq))(retMove:Bool):Ctx:=
 {P:=Tryz.prog,loops2:=loops,cuts2:=cuts,rcuts:=[],heapT:=[],specs:=specs,dec:=dec,loops:=[],cuts:=[],moves:=moves,retMove:=retMove,yield:=none}
noncomputable def cmZ(specs:List (Nat×Vc.Spec))(loops:dx)(cuts:dx)(rcuts:List (Nat×dx))(moves:List (Nat×dq))(retMove:Bool):Ctx:=
 {P:=Tryz.prog,loops2:=loops,cuts2:=cuts,rcuts:=rcuts,heapT:=[],specs:=specs,dec:=dec,loops:=[],cuts:=[],moves:=moves,retMove:=retMove,yield:=none}
noncomputable def rT(specs:List (Nat×Vc.Spec))(loops:dx)(cuts:dx)(rcuts:List (Nat×dx))(heapT:em)(moves:List (Nat×dq))(retMove:Bool):Ctx:=
 {P:=Tryz.prog,loops2:=loops,cuts2:=cuts,rcuts:=rcuts,heapT:=heapT,specs:=specs,dec:=dec,loops:=[],cuts:=[],moves:=moves,retMove:=retMove,yield:=none}
abbrev cu:=Sound Tryz.prog
theorem aF:∀g S,assoc ([]:List (Nat×Vc.Spec)) g=some S->cu g S:=λg S h=>by simp[assoc]at h
theorem aD{c:Nat}{S0:Vc.Spec}{r:List (Nat×Vc.Spec)}(e:cu c S0)(f:∀g S,assoc r g=some S->cu g S):∀g S,assoc ((c,S0)::r) g=some S->cu g S:=by
 intro g S h;simp only[assoc]at h;split at h
 .rename_i d;have:=ci d
  grind
 grind
def Xf(n:Int):dp->Int×dp
 |[]=>(0,[])
 |b::r=>if n<1 then(0,b::r)else((b.toNat:Int)%n,r)
structure Z6(m:MH)(h:PH)(cb:Nat)(r:dp):Prop where
 ex:∃(s:Sl)(cs:dp)(k:Nat),m cb=some (.cells #[.slice s.a s.len s.cap,.int .i64 k] 88 (0,0))/\bX h s 1 (cC cs)/\k<=cs.length/\cs.length<=1000/\r=cs.drop k
structure aT(m m':MH)(cb:Nat):Prop where
 other:∀b,b≠cb->m' b=m b
end Go.Ps
namespace Go.Vc
open Go List
theorem PH.le.refl(h:PH):PH.le h h:=⟨λ_ _ _ e=>e⟩
theorem PH.le.trans{h h' c:PH}(a:PH.le h h')(b:PH.le h' c):PH.le h c:=⟨λx y v e=>b.le x y v (a.le x y v e)⟩
theorem bA.mono{h h':PH}{b o:Nat}{l:cv}(r:bA h b o l)(le:PH.le h h'):bA h' b o l:=⟨λi v e=>le.le _ _ _ (r.rd i v e)⟩
theorem bX.mono{h h':PH}{s:Sl}{sz:Nat}{xs:List cv}(r:bX h s sz xs)(le:PH.le h h'):bX h' s sz xs:=
 ⟨r.len,r.row.imp id λ⟨b,o,e,k⟩=>⟨b,o,e,λi x c=>(k i x c).mono le⟩,r.cap⟩
theorem bX.get{h:PH}{s:Sl}{sz:Nat}{xs:List cv}(r:bX h s sz xs){i:Nat}{e:cv}(c:xs[i]? =some e):
 ∃b o,s.a=some ⟨b,o,none⟩/\bA h b (o+i*sz) e:=by
 rcases r.row with rfl|⟨b,o,d,k⟩
 .simp at c
 grind
theorem cT.blk{m:MH}{s:Sl}{E sz:Nat}{xs:List cv}(h:cT m s E sz xs){b i:Nat}(e:s.a=some ⟨b,i,none⟩):∃c,m b=some (.cells c E (0,0)):=by
 rcases h.ex with⟨rfl,_⟩|⟨f,d,c,rfl,g,_⟩
 .cases e
 grind
theorem cT.slen{m:MH}{s:Sl}{E sz:Nat}{xs:List cv}(h:cT m s E sz xs):s.len=xs.length:=by
 rcases h.ex with⟨rfl,rfl⟩|⟨e,c,d,rfl,f,_⟩<;>rfl
theorem cT.keep{m m':MH}{s:Sl}{E sz:Nat}{xs:List cv}(h:cT m s E sz xs)(f:∀b i,s.a=some ⟨b,i,none⟩->m' b=m b):cT m' s E sz xs:=by
 refine⟨h.rows,?_⟩;rcases h.ex with c|⟨b,d,e,rfl,g,j⟩
 .exact .inl c
 grind
theorem tB.keep{m m':MH}{b:Nat}{d:dh}(h:tB m b d)(g:m' b=m b):tB m' b d:=by
 obtain⟨e,c,j,f⟩:=h.ex;exact⟨e,c,bk,f⟩
theorem bX.nil(h:PH)(sz:Nat):bX h ⟨none,0,0⟩ sz []:=⟨rfl,.inl rfl,Nat.le_refl _⟩
end Go.Vc
namespace Go.Ps
open Go Go.Vc Go.Proofs List Tryz
variable{K:dc}{m:MH}{h:PH}{ps:dd}{cb:Nat}{sc:bJ}{v:QV}{l:dd}{i:Nat}{N:Nat}{m':MH}{h':PH}{co:dd}{gr:dd}{od:dg}{ta:Int}{li:Int}{xs:List cv}{sz:Nat}{k:Nat}{ks:List dd}{rs:dd}{r:Sl}{a:dd}{b:Nat}
structure Ints(h:PH)(s:Sl)(l:dd):Prop where
 row:bX h s 1 (l.map eI)
 len:l.length<=17592186044416
theorem Ints.mono{s:Sl}(r:Ints h s l)(le:PH.le h h'):Ints h' s l:=⟨r.row.mono le,r.len⟩
theorem Ints.slen{s:Sl}(r:Ints h s l):s.len=l.length:=by have:=r.row.len;grind
structure lF(h:PH)(s:Sl)(l:di):Prop where
 row:bX h s 2 (l.map qP)
 len:l.length<=8796093022208
theorem lF.mono{s:Sl}{l:di}(r:lF h s l)(le:PH.le h h'):lF h' s l:=⟨r.row.mono le,r.len⟩
theorem lF.slen{s:Sl}{l:di}(r:lF h s l):s.len=l.length:=by have:=r.row.len;grind
structure kC(h:PH)(s:Sl)(l:dg):Prop where
 row:bX h s 2 (l.map CI)
 len:l.length<=8796093022208
theorem kC.mono{s:Sl}{l:dg}(r:kC h s l)(le:PH.le h h'):kC h' s l:=⟨r.row.mono le,r.len⟩
theorem kC.slen{s:Sl}{l:dg}(r:kC h s l):s.len=l.length:=by have:=r.row.len;grind
inductive Pred where
 |mk (op cmp:Int) (left right:OV) (args:List Pred)
abbrev dr:=List Pred
variable{p:Pred}{w:Pred}
mutual
def eX(h:PH):Pred->PV->Prop
 |.mk op c l r args,v=>v.op=op/\v.cmp=c/\v.left=l/\v.right=r/\args.length<=502633886983/\∃d:ei,bX h v.args 13 (d.map PV.enc)/\zG h args d
def zG(h:PH):dr->ei->Prop
 |[],d=>d=[]
 |p::ps,d=>∃v c,d=v::c/\eX h p v/\zG h ps c
end
mutual
theorem eX.mono{h h':PH}(le:PH.le h h'):∀{p:Pred}{v:PV},eX h p v->eX h' p v
 |.mk ..,_,⟨c,d,e,f,g,j,n,q⟩=>⟨c,d,e,f,g,j,n.mono le,zG.mono le q⟩
theorem zG.mono{h h':PH}(le:PH.le h h'):∀{ps:dr}{vs:ei},zG h ps vs->zG h' ps vs
 |[],_,h=>h
 |_::_,_,⟨v,c,d,e,f⟩=>⟨v,c,d,eX.mono le e,zG.mono le f⟩
end
theorem zG.length{h:PH}:∀{ps:dr}{vs:ei},zG h ps vs->vs.length=ps.length
 |[],_,h=>by rw[show _=[]from h];rfl
 |_::_,_,⟨_,_,c,_,d⟩=>by rw[c];simp[zG.length d]
theorem zG.get{h:PH}:∀{ps:dr}{vs:ei},zG h ps vs->∀{i:Nat}{p:Pred},ps[i]? =some p->∃v,vs[i]? =some v/\eX h p v
 |[],_,_,i,p,e=>by simp at e
 |p0::ps,_,⟨v,c,rfl,f,d⟩,0,p,e=>bk
 |p0::ps,_,⟨v,c,rfl,f,d⟩,i+1,p,e=>by simp at e;simpa using zG.get d e
inductive Query where
 |mk (op table:Int) (wher:Pred) (columns:dd) (on:di) (group:dd) (order:dg) (limit:Int) (args:List Query)
abbrev dl:=List Query
variable{q:Query}
mutual
def dR(h:PH):Query->QV->Prop
 |.mk op table w c on d e f args,v=>v.op=op/\v.table=table/\eX h w v.where_/\Ints h v.columns c/\lF h v.on on/\Ints h v.group d/\kC h v.order e/\v.limit=f/\
  args.length<=502633886983/\∃g:ef,bX h v.args 21 (g.map QV.enc)/\A0 h args g
def A0(h:PH):dl->ef->Prop
 |[],d=>d=[]
 |p::ps,d=>∃v c,d=v::c/\dR h p v/\A0 h ps c
end
mutual
theorem dR.mono{h h':PH}(le:PH.le h h'):∀{p:Query}{v:QV},dR h p v->dR h' p v
 |.mk ..,_,⟨e,f,g,j,n,s,t,u,y,z,c,d⟩=>⟨e,f,g.mono le,j.mono le,n.mono le,s.mono le,t.mono le,u,y,z,c.mono le,A0.mono le d⟩
theorem A0.mono{h h':PH}(le:PH.le h h'):∀{ps:dl}{vs:ef},A0 h ps vs->A0 h' ps vs
 |[],_,h=>h
 |_::_,_,⟨v,c,d,e,f⟩=>⟨v,c,d,dR.mono le e,A0.mono le f⟩
end
theorem A0.length{h:PH}:∀{ps:dl}{vs:ef},A0 h ps vs->vs.length=ps.length
 |[],_,h=>by rw[show _=[]from h];rfl
 |_::_,_,⟨_,_,c,_,d⟩=>by rw[c];simp[A0.length d]
theorem A0.get{h:PH}:∀{ps:dl}{vs:ef},A0 h ps vs->∀{i:Nat}{p:Query},ps[i]? =some p->∃v,vs[i]? =some v/\dR h p v
 |[],_,_,i,p,e=>by simp at e
 |p0::ps,_,⟨v,c,rfl,f,d⟩,0,p,e=>bk
 |p0::ps,_,⟨v,c,rfl,f,d⟩,i+1,p,e=>by simp at e;simpa using A0.get d e
def iv(n:Int):SV:=.at (.val (.int .i64 n))
def sv(s:Sl):SV:=.at (.val (.slice s.a s.len s.cap))
def bv(b:Bool):SV:=.at (.val (.bool b))
def vv(v:Value):SV:=.at (.val v)
def cS(s:Sl):CV:=.val (.slice s.a s.len s.cap)
def cI(n:Int):CV:=.val (.int .i64 n)
def cB(b:Bool):CV:=.val (.bool b)
def cP(b:Nat):CV:=.val (.pointer (some ⟨b,0,none⟩))
def Gm(id:Nat)(st:Nat->St)(inv:Nat->Prop)(mu:Nat->Nat):Nat×Ol:=(id,{A:=Nat,st:=st,inv:=inv,mu:=mu})
theorem jG{i:Nat}(h:i<=140737488355328):IntKind.i64.wrap ((i:Int)+1)=((i+1:Nat):Int):=by
 rw[dO aC aC];rfl
theorem Ints.at{s:Sl}(r:Ints h s l){x:Int}(c:l[i]? =some x):∃b o,s.a=some ⟨b,o,none⟩/\bA h b (o+i) [.int .i64 x]:=by
 obtain⟨b,o,d,f⟩:=r.row.get (i:=i) (e:=eI x) (by simp[c]);exact⟨b,o,d,by simpa[eI]using f⟩
theorem MT{p:Prop}(h:p:=by repeat' (first|with_reducible rfl|exact trivial|refine⟨?_,?_⟩|rfl|(rw[jG aC];done)|(rw[jG aC]))):p:=h
def cX(k:Int):Bool:=k==3||k==4||k==5
def Ge(t:ByteArray):Bool:=t.toList==[]
def kN(v:VV):Bool:=
 if v.kind==1||v.kind==2 then v.int==0&&Ge v.text
 else if v.kind==3 then(v.int==0||v.int==1)&&Ge v.text
 else if v.kind==4 then Ge v.text
 else if v.kind==5 then v.int==0&&(v.text.size:Int)<=64
 else false
def mF(v:VV):Bool:=kN v&&v.kind>=3
def aV(v:VV):CV:=.val (.agg #[.int .i64 v.kind,.int .i64 v.int,.string v.text])
def bsZ:Vc.Spec:=λc m h K=>∃k,c=[cI k]/\K (cB (cX k)) m h
def My:Vc.Spec:=λc m h K=>∃v,c=[aV v]/\K (cB (kN v)) m h
def Qk:Vc.Spec:=λc m h K=>∃v,c=[aV v]/\K (cB (mF v)) m h
def Qs:Vc.Spec:=λc m h K=>∃s l,c=[cS s]/\Ints h s l/\K (cB (l.all cX)) m h
noncomputable def f59_ctx(s:Sl)(l:dd)(m:MH)(h:PH):Ctx:=
 ctx [(99,bsZ)] [Gm 2 (λi=>bU 15 16 [(5,sv s),(6,iv s.len),(7,iv i)] [] m h) (λi=>i<=l.length/\(l.take i).all cX=true) (λi=>l.length-i)] [] [] false
noncomputable def beX(s:Sl)(l:dd)(m:MH)(h:PH):Ctx:=
 ctx [] [Gm 2 (λi=>bU 22 23 [(5,sv s),(6,iv s.len),(7,iv i)] [] m h) (λi=>i<=l.length/\(l.take i).all cX=true) (λi=>l.length-i)] [] [] false
noncomputable abbrev fB:CV:=Cr true
attribute [push_cast] fB
def VY(k:Int)(m:MH)(h:PH)(K:dc):Prop:=
  branch (k==3) (K fB m h) (branch (k==4) (K fB m h) (K (Cr (k==5)) m h))
abbrev bK(a b:Int)(c d:Prop):Prop:=branch (a==b) c d
noncomputable abbrev Da(a:VV):dp:=a.text.toList
noncomputable abbrev Hc(a:VV):CV:=Cr (Da a==[])
noncomputable abbrev aZ:CV:=Cr false
attribute [push_cast] bK Da Hc aZ
def KI(v:VV)(m:MH)(h:PH)(K:dc):Prop:=
  bK v.kind 1 (branch (v.int==0) (K (Hc v) m h) (K aZ m h)) (bK v.kind 2 (branch (v.int==0) (K (Hc v) m h) (K aZ m h)) (bK v.kind 3 (branch (v.int==0) (K (Hc v) m h) (branch (v.int==1) (K (Hc v) m h) (K aZ m h))) (branch (v.kind==4) (K (Hc v) m h) (bK v.kind 5 (branch (v.int==0) (K (Cr (decide ((↑v.text.size:Int)<=64))) m h) (K aZ m h)) (K aZ m h)))))
noncomputable abbrev LA(a:CV):du:=[a]
abbrev eW(a b:CV):Prop:=LA a=LA b
noncomputable abbrev oD(a:VV):CV:=nS a.enc
abbrev JG(a:VV)(b:VV->Prop):Prop:=∃(x:VV),eW (oD a) (oD x)/\b x
attribute [push_cast] LA eW oD JG
def ah(v:VV)(m:MH)(h:PH)(K:dc):Prop:=
  JG v (λc=>branch (kN c) (K (Cr (decide (v.kind>=3))) m h) (K aZ m h))
def Wb(v:VV)(m:MH)(h:PH)(K:dc):Prop:=
  JG v (λc=>branch (kN c) (branch (v.kind !=1) (K (Cr (v.kind !=2)) m h) (K aZ m h)) (K aZ m h))
abbrev jK(a:Prop)(b:Nat->Prop):Prop:=a/\∀(x:Nat),b x
abbrev aA(a b c:Prop):Prop:=a/\b/\c
abbrev gO(a:Bool):Prop:=a=true
noncomputable abbrev DE(a:dd):Bool:=List.all a cX
abbrev Bx(a:Nat)(b:dd):Prop:=a<=b.length/\gO (DE (List.take a b))
abbrev aH(a:Sl):Prop:=eQ (sQs a)
noncomputable abbrev bY(a:Nat):SV:=fJ (↑a:Int)
abbrev bI(a:Sl):Prop:=eQ (bY a.len)
abbrev bE(a:Nat):Prop:=fJ 0=bY a
abbrev dP(a:MH)(b:Nat->Option Obj)(c d:PH):Prop:=aA (a=b) (c=d) True
abbrev aY(a b:Int)(c d:Prop):Prop:=branch (decide (a<b)) c d
noncomputable abbrev aG(a:Sl):Int:=(↑a.len:Int)
abbrev bD(a:Nat->Nat->Prop):Prop:=∃(x c:Nat),a x c
abbrev aI(a b c d:Prop):Prop:=aA a b (c/\d)
noncomputable abbrev Dh(a b:Nat):Addr:=Addr.mk a b Option.none
abbrev bF(a:Option Addr)(b c:Nat):Prop:=a=Option.some (Dh b c)
noncomputable abbrev eM(a:Nat)(b:Int)(c:Nat):Nat:=a+b.toNat*c
noncomputable abbrev bB(a b c:Nat):Nat:=eM a (↑b:Int) c
noncomputable abbrev mI(a:Value):cv:=[a]
noncomputable abbrev bG(a:Int):cv:=mI (cV a)
abbrev eN(a b:Int):Prop:=eW (jA a) (jA b)
abbrev oF(a:Bool)(b:dc)(c:MH)(d:PH)(e:Nat->Prop):Prop:=branch a (b aZ c d) (∃(x:Nat),e x)
abbrev cF(a:Prop)(b c:Nat->Option Obj)(d e:PH):Prop:=aI a (b=c) (d=e) True
noncomputable abbrev eE(a:Int):Int:=IntKind.wrap IntKind.i64 a
noncomputable abbrev aW(a:Nat)(b:Int):Int:=eE ((↑a:Int)+b)
attribute [push_cast] jK aA gO DE Bx aH bY bI bE dP aY aG bD aI Dh bF eM bB mI bG eN oF cF eE aW
def ai(s:Sl)(l:dd)(m:MH)(h:PH)(K:dc):Prop:=
  jK (∃(x:Nat),aA (Bx x l) (aH s) (aA (bI s) (bE x) (dP m m h h))) (λx=>Bx x l->aY (↑x:Int) (aG s) (bD (λb o=>aI (bF s.a b o) (0<=(↑x:Int)) ((↑x:Int)<aG s) (∃(y:Int),aJ m h b (bB o x 1) (bG y)/\∃(k:Int),eN y k/\oF (!(cX k)) K m h (λc=>aA (Bx c l) (l.length-c<l.length-x) (aA (aH s) (bI s) (cF (fJ (aW x 1)=bY c) m m h h)))))) (K fB m h))
abbrev nK(a b:Int)(c d:Prop):Prop:=branch (a !=b) c d
attribute [push_cast] nK
def R8(s:Sl)(l:dd)(m:MH)(h:PH)(K:dc):Prop:=
  jK (∃(x:Nat),aA (Bx x l) (aH s) (aA (bI s) (bE x) (dP m m h h))) (λx=>Bx x l->aY (↑x:Int) (aG s) (bD (λb o=>aI (bF s.a b o) (0<=(↑x:Int)) ((↑x:Int)<aG s) (∃(y:Int),aJ m h b (bB o x 1) (bG y)/\nK y 3 (nK y 4 (oF (y !=5) K m h (λc=>aA (Bx c l) (l.length-c<l.length-x) (aA (aH s) (bI s) (cF (fJ (aW x 1)=bY c) m m h h)))) (∃(c:Nat),aA (Bx c l) (l.length-c<l.length-x) (aA (aH s) (bI s) (cF (fJ (aW x 1)=bY c) m m h h)))) (∃(c:Nat),aA (Bx c l) (l.length-c<l.length-x) (aA (aH s) (bI s) (cF (fJ (aW x 1)=bY c) m m h h)))))) (K fB m h))
theorem bTZ(v:VV)(m:MH)(h:PH)(K:dc):KI v m h K=tM (ctx [] [] [] [] false) Tryz.f114 (cK Tryz.f114) (entry Tryz.f114.ntmps [aV v] m h) K:=be
theorem jM{x y:Bool}(c:K (cB x) m h)(e:x=y):K (.val (.bool y)) m h:=e▸c
theorem a4J{v:VV}(c:K (cB (kN v)) m h):KI v m h K:=by
 dsimp only[KI,push_cast]
 repeat' (first|(refine aB (λ_=>?_) (λ_=>?_))|(refine jM c ?_;simp_all [kN,Ge]))
theorem iB{f:FuncId}{fn:Func}(n:Tryz.prog.funcs[f]? =some fn){S:Vc.Spec}(j:∀c m h K,S c m h K->∃C:Ctx,C.P=Tryz.prog/\(∀g S,assoc C.specs g=some S->cu g S)/\∃N:Prop,N=tM C fn (cK fn) (entry fn.ntmps c m h) K/\N)(s:fn.body=some (cK fn):=by rfl)(d:(fn.name== "runtime.NumGoroutine")=false:=by decide):cu f S:=eR n s d λc m h K t=>let⟨C,hC,hs,N,e,hn⟩:=j c m h K t;⟨C,hC,hs,e▸hn⟩
theorem Rs:cu 99 bsZ:=by
 refine iB func99 ?_;rintro c m h K ⟨k,rfl,d⟩;refine⟨ctx [] [] [] [] false,rfl,aF,VY k m h K,be,?_⟩;dsimp only[VY,push_cast]
 repeat' (first|(refine aB (λ_=>?_) (λ_=>?_))|(refine jM d ?_;simp_all [cX]))
theorem aCX:cu 93 My:=by
 refine iB func93 ?_;rintro c m h K ⟨v,rfl,d⟩;refine⟨ctx [] [] [] [] false,rfl,aF,KI v m h K,be,?_⟩;exact a4J d
theorem IL:cu 114 My:=by
 refine eR (fn:=Tryz.f114) (c:=cK Tryz.f114) func114 rfl bg ?_;rintro d m h K ⟨v,rfl,e⟩;refine⟨ctx [] [] [] [] false,rfl,aF,?_⟩;rw[<-bTZ v m h K];exact a4J e
theorem ap:cu 50 Qk:=by
 refine iB func50 ?_;rintro c m h K ⟨v,rfl,d⟩;refine⟨ctx [(93,My)] [] [] [] false,rfl,aD aCX aF,ah v m h K,be,?_⟩;dsimp only[ah,push_cast];refine⟨v,rfl,?_⟩
 repeat' (first|(refine aB (λ_=>?_) (λ_=>?_))|(refine jM d ?_;simp_all [mF]))
theorem HI:cu 71 Qk:=by
 refine iB func71 ?_;rintro g m h K ⟨v,rfl,e⟩;refine⟨ctx [(114,My)] [] [] [] false,rfl,aD IL aF,Wb v m h K,be,?_⟩;dsimp only[Wb,push_cast];refine⟨v,rfl,?_⟩;refine aB (λc=>aB (λd=>jM e ?_) (λd=>jM e ?_)) (λc=>jM e ?_)
 .have d:v.kind≠1:=bk
  by_cases f:v.kind=2
  .simp[mF,c,f]
  .have:3<=v.kind:=by
    simp only[kN]at c
    grind
   simp[mF,c,f,this]
 .have d:v.kind=1:=bk
  simp[mF,d]
 .simp[mF,c]
theorem Ct{α:Type}{p:α->Bool}{l:List α}{x:α}(hx:l[i]? =some x):(l.take (i+1)).all p=((l.take i).all p&&p x):=by
 rw[cj,all_append,hx];simp
theorem Og{α:Type}{p:α->Bool}{l:List α}{x:α}(hx:l[i]? =some x)(c:p x=false):l.all p=false:=by
 grind
theorem aj:cu 59 Qs:=by
 refine iB func59 ?_;rintro g m h K ⟨s,l,rfl,c,e⟩;refine⟨f59_ctx s l m h,rfl,aD Rs aF,ai s l m h K,be,?_⟩;dsimp only[ai,push_cast];have A:=c.slen;have D:=c.len;refine⟨⟨0,⟨aC,bf⟩,rfl,rfl,rfl,rfl,rfl,trivial⟩,λi j=>aE (λd=>?_) (λn=>?_)⟩
 .obtain⟨x,f⟩:∃x,l[i]? =some x:=⟨l[i]'(by omega),bu _⟩
  obtain⟨t,u,y,E⟩:=c.at f;refine⟨t,u,y,aC,d,x,.imm bk,x,rfl,aB (λz=>jM e ?_) (λz=>?_)⟩
  .grind
  .refine⟨i+1,⟨aC,?_⟩,aC,rfl,rfl,by rw[jG aC],rfl,rfl,trivial⟩;rw[Ct f,j.2]
   grind
 .refine jM e ?_
  grind
theorem Zj:cu 144 Qs:=by
 refine iB func144 ?_;rintro n m h K ⟨s,l,rfl,d,j⟩;refine⟨beX s l m h,rfl,aF,R8 s l m h K,be,?_⟩;dsimp only[R8,push_cast];have E:=d.slen;have F:=d.len;refine⟨⟨0,⟨aC,bf⟩,rfl,rfl,rfl,rfl,rfl,trivial⟩,λi t=>aE (λe=>?_) (λu=>?_)⟩
 .obtain⟨x,f⟩:∃x,l[i]? =some x:=⟨l[i]'(by omega),bu _⟩
  obtain⟨z,A,D,G⟩:=d.at f;have c:cX x=true->(l.take (i+1)).all cX=true:=λg=>by rw[Ct f,t.2,g];rfl
  refine⟨z,A,D,aC,e,x,.imm bk,?_⟩;have next:cX x=true->∃(y:Nat),(y<=l.length/\(l.take y).all cX=true)/\l.length-y<l.length-i/\y=i+1:=λg=>⟨i+1,⟨aC,c g⟩,aC,rfl⟩
  repeat' (first|(refine aB (λ_=>?_) (λ_=>?_))|(refine jM j (Og f ?_);simp_all [cX];done)|(refine⟨i+1,⟨aC,c (by simp_all [cX])⟩,aC,rfl,rfl,by rw[jG aC],rfl,rfl,trivial⟩))
 .refine jM j ?_
  grind
def W4(a b:VV):Bool:=a.kind==b.kind&&(a.int==b.int&&(a.text.toList==b.text.toList&&true))
def eqO(a b:OV):Bool:=a.kind==b.kind&&(a.index==b.index&&(W4 a.value b.value&&true))
theorem nB{f:Field}{e:List Field}{d:Nat}{xs c:Array Value}{w:World}{x y:Value}{r g:Bool}(j:(f.name== "_")=false)(hx:A2 Tryz.prog (part f.type xs f.offset)=some x)(n:A2 Tryz.prog (part f.type c f.offset)=some y)
 (s:(Op.equalIn d f.type x y).run Tryz.prog w= .ok r w)(t:(Op.eqFields d xs c e).run Tryz.prog w= .ok g w):(Op.eqFields d xs c (f::e)).run Tryz.prog w= .ok (r&&g) w:=by
 have j:f.name≠ "_" :=bk
 simp only[Op.eqFields,if_pos j,Sem.run_bind,B6 _ _ _ hx,B6 _ _ _ n,Result.andThen_ok,s];cases r
 .simp
 grind
noncomputable def QB(t k:Nat):Field:=(Tryz.prog.fieldsOf t).toList.getD k default
theorem ajQ(a b:VV)(d:Nat)(w:World):(Op.equalIn (d+2) 58 (.agg #[.int .i64 a.kind,.int .i64 a.int,.string a.text]) (.agg #[.int .i64 b.kind,.int .i64 b.int,.string b.text])).run Tryz.prog w= .ok (W4 a b) w:=by
 rw[run_equalIn_struct w (d+1) 58 _ _ be be,show(Tryz.prog.fieldsOf 58).toList=[QB 58 0,QB 58 1,QB 58 2]by kernel_rfl];refine nB (x:=.int .i64 a.kind) (y:=.int .i64 b.kind) be be be (run_equalIn_int w d _ .i64 .i64 _ _ be) ?_;refine nB (x:=.int .i64 a.int) (y:=.int .i64 b.int) be be be (run_equalIn_int w d _ .i64 .i64 _ _ be) ?_;refine nB (x:=.string a.text) (y:=.string b.text) be be be (run_equalIn_string w d _ _ _ be) ?_;simp[Op.eqFields]
theorem bUZ(a b:OV)(d:Nat)(w:World):(Op.equalIn (d+3) 60 (.agg #[.int .i64 a.kind,.int .i64 a.index,.int .i64 a.value.kind,.int .i64 a.value.int,.string a.value.text]) (.agg #[.int .i64 b.kind,.int .i64 b.index,.int .i64 b.value.kind,.int .i64 b.value.int,.string b.value.text])).run Tryz.prog w= .ok (eqO a b) w:=by
 rw[run_equalIn_struct w (d+2) 60 _ _ be be,show(Tryz.prog.fieldsOf 60).toList=[QB 60 0,QB 60 1,QB 60 2]by kernel_rfl];refine nB (x:=.int .i64 a.kind) (y:=.int .i64 b.kind) be be be (run_equalIn_int w (d+1) _ .i64 .i64 _ _ be) ?_;refine nB (x:=.int .i64 a.index) (y:=.int .i64 b.index) be be be (run_equalIn_int w (d+1) _ .i64 .i64 _ _ be) ?_;refine nB (x:=.agg #[.int .i64 a.value.kind,.int .i64 a.value.int,.string a.value.text]) (y:=.agg #[.int .i64 b.value.kind,.int .i64 b.value.int,.string b.value.text]) be be be ?_ ?_
 .rw[show(QB 60 2).type=58 by kernel_rfl];exact ajQ a.value b.value d w
 .simp[Op.eqFields]
theorem Oe(a b:VV):StructEq Tryz.prog 58 (.agg #[.int .i64 a.kind,.int .i64 a.int,.string a.text]) (.agg #[.int .i64 b.kind,.int .i64 b.int,.string b.text]) (W4 a b):=
 ⟨be,λw=>ajQ a b 9998 w⟩
theorem Dq(a b:OV):StructEq Tryz.prog 60 (.agg #[.int .i64 a.kind,.int .i64 a.index,.int .i64 a.value.kind,.int .i64 a.value.int,.string a.value.text]) (.agg #[.int .i64 b.kind,.int .i64 b.index,.int .i64 b.value.kind,.int .i64 b.value.int,.string b.value.text]) (eqO a b):=
 ⟨be,λw=>bUZ a b 9997 w⟩
theorem B4{a b:ByteArray}(h:a.toList=b.toList):a=b:=by
 rw[ByteArray.toList_eq,ByteArray.toList_eq]at h;cases a;cases b;simp only[ByteArray.mk.injEq];exact Array.toList_inj.1 h
theorem ajX{a b:VV}:W4 a b=true↔a=b:=by
 obtain⟨k,i,t⟩:=a;obtain⟨f,g,j⟩:=b;simp only[W4,Bool.and_true,cg,beq_iff_eq,VV.mk.injEq];exact⟨λ⟨c,d,e⟩=>⟨c,d,B4 e⟩,λ⟨c,d,e⟩=>⟨c,d,by rw[e]⟩⟩
theorem FA{a b:OV}:eqO a b=true↔a=b:=by
 obtain⟨k,i,t⟩:=a;obtain⟨c,d,e⟩:=b;simp only[eqO,Bool.and_true,cg,beq_iff_eq,OV.mk.injEq,ajX]
def zeroV:VV:=⟨0,0,⟨#[]⟩⟩
def eY:OV:=⟨0,0,zeroV⟩
def sK(l:dd)(o:OV):Int:=if o.index<0||o.index>=l.length|| !W4 o.value zeroV then 0 else l.getD o.index.toNat 0
def kindOf(cols params:dd)(o:OV):Int:=
 if o.kind==3 then(if o.index !=0|| !mF o.value then 0 else o.value.kind)
 else if o.kind==2 then sK params o
 else if o.kind==1 then sK cols o
 else 0
def xI(v:PV):Bool:=v.cmp==0&&eqO v.left eY&&eqO v.right eY
def aO(o:OV):CV:=.val (.agg #[.int .i64 o.kind,.int .i64 o.index,.int .i64 o.value.kind,.int .i64 o.value.int,.string o.value.text])
def aP(p:PV):CV:=.val (.agg #[.int .i64 p.op,.int .i64 p.cmp,
 .int .i64 p.left.kind,.int .i64 p.left.index,.int .i64 p.left.value.kind,.int .i64 p.left.value.int,.string p.left.value.text,
 .int .i64 p.right.kind,.int .i64 p.right.index,.int .i64 p.right.value.kind,.int .i64 p.right.value.int,.string p.right.value.text,
 .slice p.args.a p.args.len p.args.cap])
def a2S(s t:Sl):CV:=.val (.agg #[.slice s.a s.len s.cap,.slice t.a t.len t.cap])
def brQ:Vc.Spec:=λc m h K=>∃v,c=[aP v]/\K (cB (xI v)) m h
def aqJ:Vc.Spec:=λe m h K=>∃s t d c o,e=[cS s,cS t,aO o]/\Ints h s d/\Ints h t c/\K (cI (kindOf d c o)) m h
def Xr:Vc.Spec:=λe m h K=>∃s t d c o,e=[a2S s t,aO o]/\Ints h s d/\Ints h t c/\K (cI (kindOf d c o)) m h
abbrev qY(a:Nat)(b c:cv)(d:Bool->Prop):Prop:=∃(x:Bool),StructEq Proofs.Tryz.prog a (Value.agg (Array.mk b)) (Value.agg (Array.mk c)) x/\d x
noncomputable abbrev bH(a b:Value)(c:cv):cv:=a::b::c
noncomputable abbrev lI(a:cv):cv:=bH (cV 0) (cV 0) (bH (cV 0) (cV 0) a)
noncomputable abbrev AD(a:PV):cv:=a.right.enc
attribute [push_cast] qY bH lI AD
def RY(v:PV)(m:MH)(h:PH)(K:dc):Prop:=
  bK v.cmp 0 (qY 60 v.left.enc (lI (mI Cz)) (λr=>branch r (qY 60 (AD v) (lI (mI Cz)) (λc=>K (Cr c) m h)) (K aZ m h))) (K aZ m h)
abbrev mE(a b:Int)(c:dc)(d:CV)(e:MH)(g:PH)(i:Prop):Prop:=branch (decide (a>=b)) (c d e g) i
noncomputable abbrev Ci(a b:Int):cv:=bH (cV a) (cV b) (mI Cz)
noncomputable abbrev Ag:cv:=Ci 0 0
attribute [push_cast] mE Ci Ag
def HX(s t:Sl)(o:OV)(m:MH)(h:PH)(K:dc):Prop:=
  bK o.kind 3 (branch (o.index !=0) (K (jA 0) m h) (JG o.value (λv=>branch (!(mF v)) (K (jA 0) m h) (K (jA o.value.kind) m h)))) (bK o.kind 2 (aY o.index 0 (K (jA 0) m h) (mE o.index (aG t) K (jA 0) m h (qY 58 o.value.enc Ag (λr=>branch (!r) (K (jA 0) m h) (bD (λb c=>aI (bF t.a b c) (0<=o.index) (o.index<aG t) (∃(y:Int),aJ m h b (eM c o.index 1) (bG y)/\K (jA y) m h))))))) (bK o.kind 1 (aY o.index 0 (K (jA 0) m h) (mE o.index (aG s) K (jA 0) m h (qY 58 o.value.enc Ag (λr=>branch (!r) (K (jA 0) m h) (bD (λb c=>aI (bF s.a b c) (0<=o.index) (o.index<aG s) (∃(y:Int),aJ m h b (eM c o.index 1) (bG y)/\K (jA y) m h))))))) (K (jA 0) m h)))
theorem Bm{x y:Int}(c:K (cI x) m h)(e:x=y):K (.val (.int .i64 y)) m h:=e▸c
theorem Ints.inb{s:Sl}(r:Ints h s l){n:Int}(d:0<=n)(f:n<(l.length:Int)):∃b o,s.a=some ⟨b,o,none⟩/\bA h b (o+n.toNat*1) [.int .i64 (l.getD n.toNat 0)]:=by
 have c:l[n.toNat]? =some (l.getD n.toNat 0):=by
  grind
 obtain⟨b,o,e,r⟩:=r.at c
 grind
theorem aiZ{s t:Sl}{cols params:dd}{o:OV}(A:Ints h s cols)(D:Ints h t params)(c:K (cI (kindOf cols params o)) m h):HX s t o m h K:=by
 have E:=A.slen;have F:=D.slen;dsimp only[HX,push_cast];refine aB (λG=>aB (λy=>Bm c ?_) (λy=>⟨o.value,rfl,aB (λd=>Bm c ?_) (λd=>Bm c ?_)⟩)) (λG=>aB (λy=>?_) (λy=>aB (λd=>?_) (λd=>Bm c ?_)))
 .simp_all [kindOf]
 .simp_all [kindOf]
 .simp_all [kindOf]
 .have z:kindOf cols params o=sK params o:=by simp_all [kindOf]
  rw[z]at c;refine aE (λd=>Bm c ?_) (λd=>aE (λg=>Bm c ?_) (λg=>⟨W4 o.value zeroV,Oe o.value zeroV,aB (λf=>Bm c ?_) (λf=>?_)⟩))
  .simp[sK,d]
  .rw[F]at g;simp[sK,g]
  .simp only[Bool.not_eq_true']at f;simp[sK,f]
  .obtain⟨b,j,e,r⟩:=D.inb (n:=o.index) aC aC;refine⟨b,j,e,aC,aC,_,.imm r,Bm c ?_⟩;have u:¬o.index>=params.length:=by omega
   simp only[Bool.not_eq_false']at f;simp[sK,d,u,f]
 .have z:kindOf cols params o=sK cols o:=by simp_all [kindOf]
  rw[z]at c;refine aE (λd=>Bm c ?_) (λd=>aE (λg=>Bm c ?_) (λg=>⟨W4 o.value zeroV,Oe o.value zeroV,aB (λf=>Bm c ?_) (λf=>?_)⟩))
  .simp[sK,d]
  .rw[E]at g;simp[sK,g]
  .simp only[Bool.not_eq_true']at f;simp[sK,f]
  .obtain⟨b,j,e,r⟩:=A.inb (n:=o.index) aC aC;refine⟨b,j,e,aC,aC,_,.imm r,Bm c ?_⟩;have u:¬o.index>=cols.length:=by omega
   simp only[Bool.not_eq_false']at f;simp[sK,d,u,f]
 .simp_all [kindOf]
theorem Za:cu 159 brQ:=by
 refine iB func159 ?_;rintro d m h K ⟨v,rfl,c⟩;refine⟨ctx [] [] [] [] false,rfl,aF,RY v m h K,be,?_⟩;dsimp only[RY,push_cast];refine aB (λe=>⟨eqO v.left eY,Dq v.left eY,aB (λf=>⟨eqO v.right eY,Dq v.right eY,jM c ?_⟩) (λf=>jM c ?_)⟩) (λe=>jM c ?_)
 all_goals simp_all [xI]
theorem Y9:cu 160 aqJ:=by
 refine iB func160 ?_;rintro e m h K ⟨s,t,d,c,o,rfl,f,g,j⟩;refine⟨ctx [(50,Qk)] [] [] [] false,rfl,aD ap aF,HX s t o m h K,be,?_⟩;exact aiZ f g j
theorem Y7:cu 162 Xr:=by
 refine iB func162 ?_;rintro e m h K ⟨s,t,d,c,o,rfl,f,g,j⟩;refine⟨ctx [(71,Qk)] [] [] [] false,rfl,aD HI aF,HX s t o m h K,be,?_⟩;exact aiZ f g j
def Pred.args:Pred->dr
 |.mk _ _ _ _ l=>l
mutual
def nE:Pred->Int->Int
 |.mk _ _ _ _ args,n=>kF args (n+1)
def kF:dr->Int->Int
 |[],n=>n
 |p::ps,n=>if n<=24 then kF ps (nE p n)else n
end
mutual
def lH:Pred->Nat->Bool
 |.mk _ _ _ _ _,0=>true
 |.mk _ _ _ _ args,n+1=>qF args n
def qF:dr->Nat->Bool
 |[],_=>false
 |p::ps,n=>lH p n||qF ps n
end
mutual
theorem Eo:∀(p:Pred)(n:Int),n<=24->n<nE p n/\nE p n<=25
 |.mk _ _ _ _ args,n,h=>by
  have:=Ib args (n+1) aC;simp only[nE];omega
theorem Ib:∀(ps:dr)(n:Int),n<=25->n<=kF ps n/\kF ps n<=25
 |[],n,h=>by simp only[kF];omega
 |p::ps,n,h=>by
  simp only[kF];split
  .rename_i c;have d:=Eo p n c;have e:=Ib ps (nE p n) d.2;omega
  .omega
end
theorem TC(ps:dr){n:Int}(h:¬n<=24):kF ps n=n:=by
 cases ps
 .simp[kF]
 .simp only[kF,if_neg h]
theorem KV(n:Nat):∀ps:dr,qF ps n=ps.any (lH · n)
 |[]=>by simp[qF]
 |p::ps=>by simp[qF,KV n ps]
theorem BU{p:Pred}{q:Pred}(h:q∈p.args):SizeOf.sizeOf q<SizeOf.sizeOf p:=by
 cases p with
 |mk op c l r args=>
  have:=sizeOf_lt_of_mem h;simp only[Pred.args]at this
  grind
theorem eX.open{v:PV}(r:eX h p v):p.args.length<=502633886983/\v.args.len=p.args.length/\∀(i:Nat)(q:Pred),p.args[i]? =some q->∃b o u,v.args.a=some ⟨b,o,none⟩/\bA h b (o+i*13) (PV.enc u)/\eX h q u:=by
 cases p with
 |mk op f l s args=>
  obtain⟨t,y,z,A,g,D,c,d⟩:=r;have E:=d.length;refine⟨g,?_,λi q j=>?_⟩
  .have:=c.len;simp at this;simp only[Pred.args];omega
  .obtain⟨u,n,F⟩:=d.get j;obtain⟨b,o,e,r⟩:=c.get (i:=i) (e:=PV.enc u) (by simp[n])
   grind
def Z4(N:Nat):Vc.Spec:=λc m h K=>∃v p k,c=[aP v,cI k]/\eX h p v/\SizeOf.sizeOf p<N/\0<=k/\k<=24/\K (cI (nE p k)) m h
def Ux(N:Nat):Vc.Spec:=λc m h K=>∃v p,∃k:Nat,c=[aP v,cI k]/\eX h p v/\SizeOf.sizeOf p<N/\k<=100/\K (cB (lH p k)) m h
noncomputable def bgX(N:Nat)(v:PV)(p:Pred)(k:Int)(m:MH)(h:PH):Ctx:=
 ctx [(134,Z4 N)] [(3,{A:=Nat×Int,st:=λx=>bU 27 29 [(1,iv x.2),(2,.at (.ptr 2 0)),(5,iv x.1)] [(2,.cells 63 (v.enc.map .val))] m h,inv:=λx=>x.1<=p.args.length/\0<=x.2/\x.2<=25/\kF (p.args.drop x.1) x.2=nE p k,mu:=λx=>p.args.length-x.1})] [] [] false
noncomputable def bgQ(N:Nat)(v:PV)(p:Pred)(k:Nat)(m:MH)(h:PH):Ctx:=
 ctx [(135,Ux N)] [Gm 4 (λi=>bU 23 25 [(1,iv k),(2,.at (.ptr 2 0)),(10,iv v.args.len),(11,iv i)] [(2,.cells 63 (v.enc.map .val))] m h) (λi=>i<=p.args.length/\(p.args.take i).any (lH · (k-1))=false) (λi=>p.args.length-i)] [] [] false
noncomputable abbrev tJ(a:Pred):Nat:=a.args.length
abbrev ND(a:Nat×Int)(b:Pred)(c d e:Int):Prop:=aI (a.1<=tJ b) (c<=a.2) (a.2<=d) (kF (List.drop a.1 b.args) a.2=nE b e)
abbrev bV(a b:Int):Prop:=fJ a=fJ b
abbrev gV:Prop:=eP 2
noncomputable abbrev vP(a:Nat)(b:cv):Option Go.Vc.Own:=oQ a (List.map At.val b)
abbrev nI(a:PV):Prop:=eQ (vP 63 a.enc)
abbrev Dg(a b:Int)(c d:Prop):Prop:=branch (decide (a<=b)) c d
abbrev Ey(a:PV->Pred->Prop):Prop:=∃(x:PV)(c:Pred),a x c
noncomputable abbrev qS(a b:CV):du:=a::LA b
noncomputable abbrev cO(a:CV)(b:Int):du:=qS a (jA b)
noncomputable abbrev gX(a:PV):CV:=nS a.enc
abbrev wP(a:Pred)(b:Nat):Prop:=SizeOf.sizeOf a<b
abbrev dG(a:Int):Prop:=0<=a
attribute [push_cast] tJ ND bV gV vP nI Dg Ey qS cO gX wP dG
def Sg(N:Nat)(v:PV)(p:Pred)(k:Int)(m:MH)(h:PH)(K:dc):Prop:=
  (∃(x:Nat×Int),aA (ND x p 0 25 k) (bV (eE (k+1)) x.2) (aA gV (bE x.1) (cF (nI v) m m h h)))/\∀(x:Nat×Int),ND x p 0 25 k->aY (↑x.1:Int) (aG v.args) (Dg x.2 24 (bD (λb o=>aI (bF v.args.a b o) (0<=(↑x.1:Int)) ((↑x.1:Int)<aG v.args) (∃(y:PV),aJ m h b (bB o x.1 13) y.enc/\Ey (λf e=>∃(c:Int),aA (cO (gX y) x.2=cO (gX f) c) (eX h e f) (aA (wP e N) (dG c) (c<=24/\∃(d:Nat×Int),aA (ND d p 0 25 k) (tJ p-d.1<tJ p-x.1) (aA (bV (nE e c) d.2) gV (aA (fJ (aW x.1 1)=bY d.1) (nI v) (aA (m=m) (h=h) True))))))))) (K (jA x.2) m h)) (K (jA x.2) m h)
abbrev NF(a:Nat)(b:Pred)(c:Pred->Pred)(d:Nat):Prop:=a<=tJ b/\List.any (List.take a b.args) (fun(x:Pred)=>lH (c x) (d-1))=false
abbrev nM(a:Nat):Prop:=eQ (bY a)
abbrev uS(a:PV):Prop:=bI a.args
abbrev JA(a:du)(b:CV)(c d:Prop)(e:Nat->Prop):Prop:=∃(x:Nat),aA (a=cO b (↑x:Int)) c (aA d (x<=100) (e x))
abbrev dH(a b:PH):Prop:=a=b/\True
attribute [push_cast] NF nM uS JA dH
def Sf(N:Nat)(v:PV)(p:Pred)(k:Nat)(m:MH)(h:PH)(K:dc):Prop:=
  branch ((↑k:Int)==0) (K fB m h) (jK (∃(x:Nat),aA (NF x p (λc=>c) k) (nM k) (aA (eP 2) (uS v) (aA (bE x) (nI v) (aA (m=m) (h=h) True)))) (λx=>NF x p (λc=>c) k->aY (↑x:Int) (aG v.args) (bD (λb o=>aI (bF v.args.a b o) (0<=(↑x:Int)) ((↑x:Int)<aG v.args) (∃(y:PV),aJ m h b (bB o x 13) y.enc/\Ey (λf d=>JA (cO (gX y) (eE ((↑k:Int)-1))) (gX f) (eX h d f) (wP d N) (λg=>branch (lH d g) (K fB m h) (∃(e:Nat),aA (NF e p (λc=>c) k) (tJ p-e<tJ p-x) (aA (nM k) gV (aA (uS v) (fJ (aW x 1)=bY e) (aA (nI v) (m=m) (dH h h)))))))))) (K aZ m h)))
theorem WS:∀N,cu 134 (Z4 N)
 |0=>by
  refine eR (fn:=Tryz.f134) (c:=cK Tryz.f134) func134 rfl bg ?_;rintro j m h K ⟨v,p,k,rfl,z,F,_⟩;omega
 |N+1=>by
  refine iB func134 ?_;rintro j m h K ⟨v,p,k,rfl,z,F,O,Q,A⟩;refine⟨bgX N v p k m h,rfl,aD (WS N) aF,Sg N v p k m h K,be,?_⟩;dsimp only[Sg,push_cast];obtain⟨R,D,e⟩:=z.open;refine⟨⟨(0,k+1),⟨bf,bj,bj,?_⟩,by rw[dO aC aC],rfl,rfl,rfl,rfl,rfl,trivial⟩,?_⟩
  .cases p;simp[nE,Pred.args]
  rintro⟨i,n⟩ ⟨G,f,s,g⟩;simp only at G f s g;refine aE (λt=>aE (λd=>?_) (λd=>Bm A ?_)) (λH=>Bm A ?_)
  .simp only at t d;obtain⟨q,E⟩:∃q,p.args[i]? =some q:=⟨p.args[i]'(by omega),bu _⟩
   obtain⟨b,o,u,I,J,y⟩:=e i q E
   have M:p.args.drop i=q::p.args.drop (i+1):=by
    rw[drop_eq_getElem_cons aC];grind
   have S:=Eo q n d;refine⟨b,o,I,bf,aC,u,.imm bk,u,q,n,rfl,y,?_,f,d,(i+1,nE q n),⟨aC,aC,aC,?_⟩,aC,rfl,rfl,by rw[jG aC],rfl,rfl,rfl,trivial⟩
   .have:=BU (bx E);omega
   .rw[M,kF,if_pos d]at g;exact g
  .rw[<-g,TC _ d]
  .rw[<-g,drop_of_length_le aC];simp[kF]
theorem WR:∀N,cu 135 (Ux N)
 |0=>by
  refine eR (fn:=Tryz.f135) (c:=cK Tryz.f135) func135 rfl bg ?_;rintro f m h K ⟨v,p,k,rfl,t,D,_⟩;omega
 |N+1=>by
  refine iB func135 ?_;rintro f m h K ⟨v,p,k,rfl,t,D,J,e⟩;refine⟨bgQ N v p k m h,rfl,aD (WR N) aF,Sf N v p k m h K,be,?_⟩;dsimp only[Sf,push_cast];obtain⟨M,y,d⟩:=t.open;refine aB (λz=>jM e ?_) (λz=>?_)
  .have:k=0:=bk
   subst this;cases p;simp[lH]
  .have z:k≠0:=bk
   have g:lH p k=p.args.any (lH · (k-1)):=by
    obtain⟨A,rfl⟩:∃A,k=A+1:=⟨k-1,aC⟩
    cases p;simp[lH,KV,Pred.args]
   rw[g]at e;refine⟨⟨0,⟨aC,bf⟩,rfl,rfl,rfl,rfl,rfl,rfl,rfl,trivial⟩,λi E=>aE (λj=>?_) (λF=>jM e ?_)⟩
   .obtain⟨q,n⟩:∃q,p.args[i]? =some q:=⟨p.args[i]'(by omega),bu _⟩
    obtain⟨b,o,u,G,H,s⟩:=d i q n;refine⟨b,o,G,aC,j,u,.imm bk,u,q,k-1,?_,s,?_,aC,aB (λI=>jM e ?_) (λI=>?_)⟩
    .rw[dO aC aC,show((k-1:Nat):Int)=(k:Int)-1 by omega]
    .have:=BU (bx n);omega
    .grind
    .refine⟨i+1,⟨aC,?_⟩,aC,rfl,rfl,rfl,by rw[jG aC],rfl,rfl,rfl,trivial⟩;rw[cj,any_append,E.2,n];grind
   grind
def Iw(c:Int)(l r:OV):Bool:=c==0&&eqO l eY&&eqO r eY
mutual
def kE(cols params:dd):Pred->Bool
 |.mk op c l r args=>
  if op==1||op==2 then Iw c l r&&args.length==0
  else if op==3 then args.length==0&&c>=1&&c<=6&&kindOf cols params l !=0&&kindOf cols params l==kindOf cols params r
  else if op==4||op==5||(op==6&&args.length==1)then Iw c l r&&Ac cols params args
  else false
def Ac(cols params:dd):dr->Bool
 |[]=>true
 |p::ps=>kE cols params p&&Ac cols params ps
end
theorem F3(cols params:dd):∀ps:dr,Ac cols params ps=ps.all (kE cols params)
 |[]=>by simp[Ac]
 |p::ps=>by simp[Ac,F3 cols params ps]
structure Nv(cols params:dd)(v:PV)(p:Pred):Prop where
 eq:kE cols params p=(xI v&&p.args.all (kE cols params))
def Un(N:Nat):Vc.Spec:=λe m h K=>∃s t d c v p,e=[cS s,cS t,aP v]/\Ints h s d/\Ints h t c/\eX h p v/\SizeOf.sizeOf p<N/\K (cB (kE d c p)) m h
def Qg(N:Nat):Vc.Spec:=λe m h K=>∃s t d c v p,e=[a2S s t,aP v]/\Ints h s d/\Ints h t c/\eX h p v/\SizeOf.sizeOf p<N/\K (cB (kE d c p)) m h
noncomputable def bfJ(N:Nat)(s t:Sl)(cols params:dd)(v:PV)(p:Pred)(m:MH)(h:PH):Ctx:=
 ctx [(136,Un N),(159,brQ),(160,aqJ)] [Gm 17 (λi=>bU 84 87 [(0,sv s),(1,sv t),(5,.at (.ptr 5 0)),(70,iv v.args.len),(71,iv i)] [(5,.cells 63 (v.enc.map .val))] m h) (λi=>i<=p.args.length/\(p.args.take i).all (kE cols params)=true) (λi=>p.args.length-i)] [(14,{A:=Unit,st:=λ_=>bU 84 87 [(0,sv s),(1,sv t),(5,.at (.ptr 5 0))] [(5,.cells 63 (v.enc.map .val))] m h,inv:=λ_=>Nv cols params v p})] [] false
noncomputable def bdJ(N:Nat)(s t:Sl)(cols params:dd)(v:PV)(p:Pred)(m:MH)(h:PH):Ctx:=
 ctx [(146,Qg N),(162,Xr)] [Gm 18 (λi=>bU 87 89 [(2,.at (.ptr 2 0)),(3,.at (.ptr 3 0)),(76,sv v.args),(77,iv v.args.len),(78,iv i)] [(2,.cells 201 [.val (.slice s.a s.len s.cap),.val (.slice t.a t.len t.cap)]),(3,.cells 63 (v.enc.map .val))] m h) (λi=>i<=p.args.length/\(p.args.take i).all (kE cols params)=true) (λi=>p.args.length-i)] [(15,{A:=Unit,st:=λ_=>bU 87 89 [(2,.at (.ptr 2 0)),(3,.at (.ptr 3 0))] [(2,.cells 201 [.val (.slice s.a s.len s.cap),.val (.slice t.a t.len t.cap)]),(3,.cells 63 (v.enc.map .val))] m h,inv:=λ_=>Nv cols params v p})] [] false
abbrev jE(a:Sl->Sl->Prop):Prop:=∃(x c:Sl),a x c
abbrev Bc(a:dd->dd->Prop):Prop:=∃(x c:dd),a x c
abbrev Jy(a:du)(b:Sl->Sl->OV->du)(c:PH)(d:dd->dd->OV->Prop):Prop:=jE (λx e=>Bc (λf g=>∃(j:OV),aI (a=b x e j) (Ints c x f) (Ints c e g) (d f g j)))
noncomputable abbrev cQ(a:Sl)(b:du):du:=mL a::b
noncomputable abbrev fP(a:Sl)(b:CV):du:=qS (mL a) b
abbrev A7(a b:Int)(c d:Prop):Prop:=branch (decide (a>=b)) c d
abbrev bS:Prop:=eP 5
abbrev Kh(a:PV)(b:Int)(c:dc)(d:MH)(e:PH)(g:Prop):Prop:=branch (aG a.args !=b) (c aZ d e) (∃(x:Unit),g)
abbrev ER(a:Nat)(b:Pred)(c d:dd):Prop:=a<=tJ b/\gO (List.all (List.take a b.args) (kE c d))
abbrev Jz(a:du)(b:Sl->Sl->PV->du)(c:PH)(d:Nat)(e:dd->dd->Pred->Prop):Prop:=jE (λx g=>Bc (λj n=>Ey (λs f=>aA (a=b x g s) (Ints c x j) (aA (Ints c g n) (eX c f s) (wP f d/\e j n f)))))
attribute [push_cast] jE Bc Jy cQ fP A7 bS Kh ER Jz
def Se(N:Nat)(s t:Sl)(cols params:dd)(v:PV)(p:Pred)(m:MH)(h:PH)(K:dc):Prop:=
  bK v.op 1 (∃(d:PV),eW (gX v) (gX d)/\branch (xI d) (K (Cr (aG v.args==0)) m h) (K aZ m h)) (bK v.op 2 (∃(d:PV),eW (gX v) (gX d)/\branch (xI d) (K (Cr (aG v.args==0)) m h) (K aZ m h)) (bK v.op 3 (Jy (cQ s (fP t (nS v.left.enc))) (λe f o=>cQ e (fP f (nS o.enc))) h (λc g o=>bK (aG v.args) 0 (A7 v.cmp 1 (Dg v.cmp 6 (nK (kindOf c g o) 0 (Jy (cQ s (fP t (nS (AD v)))) (λe f j=>cQ e (fP f (nS j.enc))) h (λz n j=>K (Cr (kindOf c g o==kindOf z n j)) m h)) (K aZ m h)) (K aZ m h)) (K aZ m h)) (K aZ m h))) (bK v.op 4 (∃(x:Unit),aA (Nv cols params v p) (aH s) (aA (aH t) bS (cF (nI v) m m h h))) (bK v.op 5 (∃(x:Unit),aA (Nv cols params v p) (aH s) (aA
 (aH t) bS (cF (nI v) m m h h))) (bK v.op 6 (Kh v 1 K m h (aA (Nv cols params v p) (aH s) (aA (aH t) bS (cF (nI v) m m h h)))) (K aZ m h))))))/\∀(_:Unit),Nv cols params v p->∃(d:PV),eW (gX v) (gX d)/\branch (!(xI d)) (K aZ m h) (jK (∃(x:Nat),aA (ER x p cols params) (aH s) (aA (aH t) bS (aA (uS v) (bE x) (aA (nI v) (m=m) (dH h h))))) (λx=>ER x p cols params->aY (↑x:Int) (aG v.args) (bD (λb o=>aI (bF v.args.a b o) (0<=(↑x:Int)) ((↑x:Int)<aG v.args) (∃(y:PV),aJ m h b (bB o x 13) y.enc/\Jz (cQ s (fP t (gX y))) (λe f A=>cQ e (fP f (gX A))) h N (λc g n=>oF (!(kE c g n)) K m h (λu=>aA (ER u p cols params) (tJ p-u<tJ p-x)
 (aA (aH s) (aH t) (aA bS (uS v) (aA (fJ (aW x 1)=bY u) (nI v) (dP m m h h))))))))) (K fB m h)))
noncomputable abbrev eC(a:cv)(b:CV):du:=qS (nS a) b
noncomputable abbrev xR(a b:Sl):cv:=bH (eF a) (eF b) []
abbrev fW:Prop:=eP 3
noncomputable abbrev cG(a b:At)(c:dt):dt:=a::b::c
noncomputable abbrev fZ(a b:At):dt:=cG a b []
abbrev CT(a b:Sl):Prop:=eQ (oQ 201 (fZ (fY a) (fY b)))
attribute [push_cast] eC xR fW cG fZ CT
def R6(N:Nat)(s t:Sl)(cols params:dd)(v:PV)(p:Pred)(m:MH)(h:PH)(K:dc):Prop:=
  bK v.op 3 (Jy (eC (xR s t) (nS v.left.enc)) (λd e o=>eC (xR d e) (nS o.enc)) h (λc f o=>Jy (eC (xR s t) (nS (AD v))) (λd e g=>eC (xR d e) (nS g.enc)) h (λu j g=>bK (aG v.args) 0 (A7 v.cmp 1 (Dg v.cmp 6 (branch (kindOf c f o !=0) (K (Cr (kindOf c f o==kindOf u j g)) m h) (K aZ m h)) (K aZ m h)) (K aZ m h)) (K aZ m h)))) (bK v.op 1 (Kh v 0 K m h (aA (Nv cols params v p) gV (aA fW (CT s t) (cF (nI v) m m h h)))) (bK v.op 2 (Kh v 0 K m h (aA (Nv cols params v p) gV (aA fW (CT s t) (cF (nI v) m m h h)))) (bK v.op 6 (Kh v 1 K m h (aA (Nv cols params v p) gV (aA fW (CT s t) (cF (nI v) m m h h)))) (bK v.op 4 (∃(x:Unit),aA (Nv cols params v p) gV
 (aA fW (CT s t) (cF (nI v) m m h h))) (bK v.op 5 (∃(x:Unit),aA (Nv cols params v p) gV (aA fW (CT s t) (cF (nI v) m m h h))) (K aZ m h))))))/\∀(_:Unit),Nv cols params v p->branch (v.cmp !=0) (K aZ m h) (qY 60 v.left.enc (lI (mI Cz)) (λr=>branch (!r) (K aZ m h) (qY 60 (AD v) (lI (mI Cz)) (λz=>branch (!z) (K aZ m h) (jK (∃(x:Nat),aA (ER x p cols params) gV (aA (eP 3) (aH v.args) (aA (uS v) (bE x) (aA (CT s t) (nI v) (dP m m h h))))) (λx=>ER x p cols params->aY (↑x:Int) (aG v.args) (bD (λb o=>aI (bF v.args.a b o) (0<=(↑x:Int)) ((↑x:Int)<aG v.args) (∃(y:PV),aJ m h b (bB o x 13) y.enc/\Jz (eC (xR s t) (gX y)) (λd e A=>eC (xR d e) (gX
 A)) h N (λc f j=>oF (!(kE c f j)) K m h (λn=>aA (ER n p cols params) (tJ p-n<tJ p-x) (aA gV fW (aA (aH v.args) (bI v.args) (aA (fJ (aW x 1)=bY n) (CT s t) (cF (nI v) m m h h))))))))) (K fB m h)))))))
theorem eX.top{v:PV}(r:eX h p v):p= .mk v.op v.cmp v.left v.right p.args:=by
 cases p with
 |mk op c l j args=>obtain⟨d,e,f,g,_⟩:=r;simp[Pred.args,d,e,f,g]
theorem ME{cols params:dd}{h:PH}{p:Pred}{v:PV}(r:eX h p v):kE cols params p=if v.op==1||v.op==2 then xI v&&p.args.length==0
 else if v.op==3 then p.args.length==0&&v.cmp>=1&&v.cmp<=6&&kindOf cols params v.left !=0&&kindOf cols params v.left==kindOf cols params v.right
 else if v.op==4||v.op==5||(v.op==6&&p.args.length==1)then xI v&&p.args.all (kE cols params)
 else false:=by
 have:=r.top;generalize p.args=xs at this⊢
 subst this;rw[kE,F3];rfl
theorem ckJ{n:Nat}:((n:Int)==(k:Int))=(n==k):=by
 grind
theorem WQ:∀N,cu 136 (Un N)
 |0=>by
  refine eR (fn:=Tryz.f136) (c:=cK Tryz.f136) func136 rfl bg ?_;rintro n m h K ⟨s,t,cols,params,v,p,rfl,_,_,y,Q,_⟩;omega
 |N+1=>by
  refine iB func136 ?_;rintro n m h K ⟨s,t,cols,params,v,p,rfl,z,A,y,Q,d⟩;refine⟨bfJ N s t cols params v p m h,rfl,aD (WQ N) (aD Za (aD Y9 aF)),Se N s t cols params v p m h K,be,?_⟩;obtain⟨Y,O,f⟩:=y.open;have Z:=ME (cols:=cols) (params:=params) y;have R:((v.args.len:Int)==0)=(p.args.length==0):=bk
  have h1:((v.args.len:Int) !=1)=(p.args.length !=1):=bk
  dsimp only[Se,push_cast];refine⟨?_,?_⟩
  .refine aB (λe=>⟨v,rfl,aB (λg=>jM d ?_) (λg=>jM d ?_)⟩) (λe=>aB (λS=>⟨v,rfl,aB (λg=>jM d ?_) (λg=>jM d ?_)⟩) (λS=>aB (λg=>⟨s,t,cols,params,v.left,rfl,z,A,?_⟩) (λg=>?_)))
   .grind
   .grind
   .grind
   .grind
   .have D:kE cols params p=(p.args.length==0&&v.cmp>=1&&v.cmp<=6&&kindOf cols params v.left !=0&&kindOf cols params v.left==kindOf cols params v.right):=bk
    rw[D]at d;refine aB (λj=>aB (λE=>aB (λF=>aB (λG=>⟨s,t,cols,params,v.right,rfl,z,A,jM d ?_⟩) (λG=>jM d ?_)) (λF=>jM d ?_)) (λE=>jM d ?_)) (λj=>jM d ?_)
    all_goals (rw[R]at j;simp only[beq_iff_eq,cm,decide_eq_false_iff_not]at*;simp[*])
   .refine aB (λj=>⟨(),⟨bk⟩,rfl,rfl,rfl,rfl,rfl,rfl,trivial⟩) (λj=>aB (λE=>⟨(),⟨bk⟩,rfl,rfl,rfl,rfl,rfl,rfl,trivial⟩) (λE=>aB (λF=>aB (λG=>jM d ?_) (λG=>⟨(),⟨?_⟩,rfl,rfl,rfl,rfl,rfl,rfl,trivial⟩)) (λF=>jM d ?_)))
    .grind
    .grind
    grind
  .intro _ H;rw[H.eq]at d;refine⟨v,rfl,aB (λe=>jM d ?_) (λe=>?_)⟩
   .simp_all
   .have e:xI v=true:=br e
    rw[e,Bool.true_and]at d;refine⟨⟨0,⟨aC,bf⟩,rfl,rfl,rfl,rfl,rfl,rfl,rfl,rfl,trivial⟩,λi T=>aE (λI=>?_) (λU=>jM d ?_)⟩
    .obtain⟨q,J⟩:∃q,p.args[i]? =some q:=⟨p.args[i]'(by omega),bu _⟩
     obtain⟨b,o,u,V,W,M⟩:=f i q J;refine⟨b,o,V,aC,I,u,.imm bk,s,t,cols,params,u,q,rfl,z,A,M,?_,aB (λX=>jM d ?_) (λX=>?_)⟩
     .have:=BU (bx J);omega
     .grind
     .refine⟨i+1,⟨aC,?_⟩,aC,rfl,rfl,rfl,rfl,by rw[jG aC],rfl,rfl,rfl,trivial⟩;rw[Ct J,T.2];grind
    grind
theorem WM:∀N,cu 146 (Qg N)
 |0=>by
  refine eR (fn:=Tryz.f146) (c:=cK Tryz.f146) func146 rfl bg ?_;rintro j m h K ⟨s,t,cols,params,v,p,rfl,_,_,n,S,_⟩;omega
 |N+1=>by
  refine iB func146 ?_;rintro j m h K ⟨s,t,cols,params,v,p,rfl,y,z,n,S,d⟩;refine⟨bdJ N s t cols params v p m h,rfl,aD (WM N) (aD Y7 aF),R6 N s t cols params v p m h K,be,?_⟩;obtain⟨hl,Q,g⟩:=n.open;have hv:=ME (cols:=cols) (params:=params) n;have T:((v.args.len:Int)==0)=(p.args.length==0):=bk
  have U:((v.args.len:Int) !=0)=(p.args.length !=0):=bk
  have h1:((v.args.len:Int) !=1)=(p.args.length !=1):=bk
  have R:p.args.length=0->p.args.all (kE cols params)=true:=λe=>bk
  dsimp only[R6,push_cast];refine⟨?_,?_⟩
  .refine aB (λA=>⟨s,t,cols,params,v.left,rfl,y,z,s,t,cols,params,v.right,rfl,y,z,?_⟩) (λA=>aB (λe=>aB (λf=>jM d ?_) (λf=>⟨(),⟨?_⟩,rfl,rfl,rfl,rfl,rfl,rfl,trivial⟩)) (λe=>aB (λD=>aB (λf=>jM d ?_) (λf=>⟨(),⟨?_⟩,rfl,rfl,rfl,rfl,rfl,rfl,trivial⟩)) (λD=>aB (λE=>aB (λF=>jM d ?_) (λF=>⟨(),⟨?_⟩,rfl,rfl,rfl,rfl,rfl,rfl,trivial⟩)) (λE=>aB (λf=>⟨(),⟨?_⟩,rfl,rfl,rfl,rfl,rfl,rfl,trivial⟩) (λf=>aB (λG=>⟨(),⟨?_⟩,rfl,rfl,rfl,rfl,rfl,rfl,trivial⟩) (λG=>jM d ?_))))))
   .have V:v.op=3:=bk
    have H:kE cols params p=(p.args.length==0&&v.cmp>=1&&v.cmp<=6&&kindOf cols params v.left !=0&&kindOf cols params v.left==kindOf cols params v.right):=bk
    rw[H]at d;refine aB (λf=>aB (λG=>aB (λE=>aB (λF=>jM d ?_) (λF=>jM d ?_)) (λE=>jM d ?_)) (λG=>jM d ?_)) (λf=>jM d ?_)
    all_goals (rw[T]at f;simp only[beq_iff_eq,cm,decide_eq_false_iff_not]at*;simp[*])
   .grind
   .grind
   .grind
   .grind
   .grind
   .grind
   .grind
   .grind
   grind
  .intro _ I;rw[I.eq]at d;refine aB (λe=>jM d ?_) (λe=>⟨eqO v.left eY,Dq v.left eY,aB (λD=>jM d ?_) (λD=>⟨eqO v.right eY,Dq v.right eY,aB (λA=>jM d ?_) (λA=>?_)⟩)⟩)
   .simp_all [xI]
   .simp_all [xI]
   .simp_all [xI]
   .have e:xI v=true:=by simp_all [xI]
    rw[e,Bool.true_and]at d;refine⟨⟨0,⟨aC,bf⟩,rfl,rfl,rfl,rfl,rfl,rfl,rfl,rfl,rfl,trivial⟩,λi W=>aE (λJ=>?_) (λX=>jM d ?_)⟩
    .obtain⟨q,M⟩:∃q,p.args[i]? =some q:=⟨p.args[i]'(by omega),bu _⟩
     obtain⟨b,o,u,Y,Z,O⟩:=g i q M;refine⟨b,o,Y,aC,J,u,.imm bk,s,t,cols,params,u,q,rfl,y,z,O,?_,aB (λhd=>jM d ?_) (λhd=>?_)⟩
     .have:=BU (bx M);omega
     .grind
     .refine⟨i+1,⟨aC,?_⟩,aC,rfl,rfl,rfl,rfl,by rw[jG aC],rfl,rfl,rfl,rfl,trivial⟩;rw[Ct M,W.2];grind
    grind
theorem drop_cons{α:Type}{l:List α}{x:α}(h:l[i]? =some x):l.drop i=x::l.drop (i+1):=by
 have c:i<l.length:=(bt h);rw[drop_eq_getElem_cons c]
 grind
mutual
def mP:Pred->Nat->Int->Bool×Int
 |.mk _ _ _ _ args,k,b=>if b<1 then(false,b-1)else match k with|0=>(false,b-1)|k+1=>xF args k (b-1)
def xF:dr->Nat->Int->Bool×Int
 |[],_,b=>(true,b)
 |p::ps,k,b=>match mP p k b with|(false,c)=>(false,c)|(true,c)=>xF ps k c
end
mutual
def szF:Pred->Int
 |.mk _ _ _ _ args=>1+Jb args
def Jb:dr->Int
 |[]=>0
 |p::ps=>szF p+Jb ps
end
mutual
theorem Tn:∀p:Pred,1<=szF p
 |.mk _ _ _ _ args=>by have:=F5 args;simp only[szF];omega
theorem F5:∀ps:dr,0<=Jb ps
 |[]=>by simp[Jb]
 |p::ps=>by have:=Tn p;have:=F5 ps;simp only[Jb];omega
end
mutual
theorem Re:∀(p:Pred)(n:Int),n<=24->(n+szF p<=24->nE p n=n+szF p)/\(24<n+szF p->nE p n=25)
 |.mk _ _ _ _ args,n,h=>by
  obtain⟨c,d⟩:=OY args (n+1) aC;simp only[nE,szF];omega
theorem OY:∀(ps:dr)(n:Int),n<=25->(n+Jb ps<=24->kF ps n=n+Jb ps)/\(24<n+Jb ps->kF ps n=25)
 |[],n,h=>by
  simp only[kF,Jb];omega
 |p::ps,n,h=>by
  have e:=Tn p;have f:=F5 ps;simp only[kF,Jb];by_cases c:n<=24
  .rw[if_pos c];have g:=Re p n c;have d:=(Eo p n c).2;have j:=OY ps _ d;omega
  omega
end
mutual
theorem Lm:∀(p:Pred)(k:Nat)(b:Int),0<=b->((mP p k b).1=true↔szF p<=b/\lH p k=false)/\((mP p k b).1=true->(mP p k b).2=b-szF p)
 |.mk _ _ _ _ args,k,b,h=>by
  have d:=F5 args;simp only[mP,szF];by_cases c:b<1
  .grind
  .rw[if_neg c];cases k with
   |zero=>exact⟨⟨λe=>(by cases e),λe=>(by simp[lH]at e)⟩,λe=>(by cases e)⟩
   |succ k=>
    obtain⟨f,g⟩:=Oz args k (b-1) aC;simp only[lH]
    grind
theorem Oz:∀(ps:dr)(k:Nat)(b:Int),0<=b->((xF ps k b).1=true↔Jb ps<=b/\qF ps k=false)/\((xF ps k b).1=true->(xF ps k b).2=b-Jb ps)
 |[],k,b,h=>by simp[xF,Jb,qF,h]
 |p::ps,k,b,h=>by
  obtain⟨c,d⟩:=Lm p k b h;have j:=F5 ps;simp only[xF,Jb,qF];cases e:mP p k b with
  |mk r f=>
   rw[e]at c d;cases r with
   |false=>
    grind
   |true=>
    have g:=d rfl;have c:=c.1 rfl;simp only at g;obtain⟨n,s⟩:=Oz ps k f aC
    grind
end
def jD(cols params:dd)(p:Pred):Int:=
 if !cols.all cX|| !params.all cX then 1
 else if nE p 0>24||lH p 8 then 2
 else if !kE cols params p then 50 else 0
theorem awX(p:Pred):(mP p 8 24).1= !(decide (nE p 0>24)||lH p 8):=by
 have c:=(Lm p 8 24 aC).1;have d:=Re p 0 aC
 grind
def tP(n:Int):Obj:=.cells #[.int .i64 n] 3 (0,0)
def ZZ(N:Nat):Vc.Spec:=λc m h K=>∃v p,∃k b:Nat,∃n,c=[aP v,cI (9-k),cP b]/\eX h p v/\SizeOf.sizeOf p<N/\k<=9/\0<=n/\n<=24/\m b=some (tP n)/\∀m',gR m m' b (tP (mP p k n).2)->K (cB (mP p k n).1) m' h
noncomputable def beQ(N:Nat)(v:PV)(p:Pred)(k b:Nat)(n:Int)(m:MH)(h:PH):Ctx:=
 ctx [(145,ZZ N)] [(5,{A:=Nat×Int×MH,st:=λx=>bU 36 39 [(1,iv (9-k)),(2,vv (.pointer (some ⟨b,0,none⟩))),(23,sv v.args),(24,iv v.args.len),(25,iv x.1)] [] x.2.2 h,inv:=λx=>x.1<=p.args.length/\0<=x.2.1/\x.2.1<=24/\gR m x.2.2 b (tP x.2.1)/\1<=k/\xF (p.args.drop x.1) (k-1) x.2.1=mP p k n,mu:=λx=>p.args.length-x.1})] [] [] false
def wY:Vc.Spec:=λe m h K=>∃s t v d c p,e=[cS s,cS t,aP v]/\Ints h s d/\Ints h t c/\eX h p v/\K (cI (jD d c p)) m h
noncomputable def bEX(N:Nat):Ctx:=ctx [(59,Qs),(134,Z4 N),(135,Ux N),(136,Un N)] [] [] [] false
noncomputable def biZ(N:Nat):Ctx:=ctx [(144,Qs),(145,ZZ N),(146,Qg N)] [] [] [] false
abbrev sO(a:MH)(b:PH)(c d:Nat)(e:Int->Prop):Prop:=∃(x:Int),aJ a b c d (bG x)/\e x
abbrev mH(a:(Array Value)->TypeId->Prop):Prop:=∃(x:Array Value)(c:TypeId),a x c
noncomputable abbrev jI(a:Array Value)(b:TypeId)(c:Nat):Obj:=Obj.cells a b (c,c)
abbrev cL(a b:MH)(c:Nat)(d:cv)(e:TypeId):Prop:=gR a b c (jI (Array.mk d) e 0)
noncomputable abbrev jJ(a:Value)(b:Nat)(c:Array Value):cv:=a::List.drop b c.toList
abbrev iG(a b:Int)(c:dc)(d:CV)(e:MH)(g:PH)(i:Prop):Prop:=branch (decide (a>b)) (c d e g) i
noncomputable abbrev uB(a:Nat):Int:=9-(↑a:Int)
noncomputable abbrev NG(a:Nat×Int×MH)(b:Pred)(c:Nat):Bool×Int:=xF (List.drop a.1 b.args) (c-1) a.2.1
abbrev bL(a:Int):Prop:=eQ (fJ a)
abbrev bZ(a:Nat):Prop:=eQ (sQo a 0)
noncomputable abbrev cE(a:cv)(b:du):du:=nS a::b
noncomputable abbrev fT(a:Int)(b:CV):du:=qS (jA a) b
attribute [push_cast] sO mH jI cL jJ iG uB NG bL bZ cE fT
def R7(N:Nat)(v:PV)(p:Pred)(k b:Nat)(n:Int)(m:MH)(h:PH)(K:dc):Prop:=
  sO m h b 0 (λy=>mH (λc E=>aA (CA m b (jI c E 0)) (0<c.size) (∀(e:MH),cL m e b (jJ (cV (eE (y-1))) 1 c) E->sO e h b 0 (λD=>aY D 0 (K aZ e h) (iG (uB k) 8 K aZ e h ((∃(x:Nat×Int×MH),aA (aA (x.1<=tJ p) (dG x.2.1) (aA (x.2.1<=24) (cL m x.2.2 b (bG x.2.1) 3) (1<=k/\NG x p k=mP p k n))) (bL (uB k)) (aA (bZ b) (aH v.args) (aA (uS v) (bE x.1) (aA (e=x.2.2) (h=h) True))))/\∀(x:Nat×Int×MH),aA (x.1<=tJ p) (dG x.2.1) (aA (x.2.1<=24) (cL m x.2.2 b (bG x.2.1) 3) (1<=k/\NG x p k=mP p k n))->aY (↑x.1:Int) (aG v.args) (bD (λu o=>aI (bF v.args.a u o) (0<=(↑x.1:Int)) ((↑x.1:Int)<aG v.args) (∃(z:PV),aJ x.2.2 h u (bB o x.1 13) z.enc/\Ey (fun
 A g=>bD (λj s=>∃(f:Int),aA (cE z.enc (fT (eE (uB k+1)) (F1 b 0))=cE A.enc (fT (uB j) (F1 s 0))) (eX h g A) (aA (wP g N) (j<=9) (aI (dG f) (f<=24) (x.2.2 s=Option.some (jI (Array.mk (bG f)) 3 0)) (∀(t:MH),cL x.2.2 t s (bG (mP g j f).2) 3->branch (!(mP g j f).1) (K aZ t h) (∃(d:Nat×Int×MH),aA (aA (d.1<=tJ p) (dG d.2.1) (aA (d.2.1<=24) (cL m d.2.2 b (bG d.2.1) 3) (1<=k/\NG d p k=mP p k n))) (tJ p-d.1<tJ p-x.1) (aA (bL (uB k)) (bZ b) (aA (aH v.args) (bI v.args) (aA (fJ (aW x.1 1)=bY d.1) (t=d.2.2) (dH h h))))))))))))) (K fB x.2.2 h)))))))
abbrev IC(a:Sl->dd->Prop):Prop:=∃(x:Sl)(c:dd),a x c
abbrev CQ(a:Sl)(b:PH)(c:dd->Prop):Prop:=IC (λx d=>aA (eW (mL a) (mL x)) (Ints b x d) (c d))
noncomputable abbrev lG:CV:=jA 2
attribute [push_cast] IC CQ lG
def V1(N:Nat)(s t:Sl)(v:PV)(m:MH)(h:PH)(K:dc):Prop:=
  CQ s h (λl=>branch (!(DE l)) (K (jA 1) m h) (CQ t h (λg=>branch (!(DE g)) (K (jA 1) m h) (Ey (λe p=>∃(k:Int),aA (cO (gX v) 0=cO (gX e) k) (eX h p e) (aA (wP p N) (dG k) (k<=24/\iG (nE p k) 24 K lG m h (Ey (λf d=>JA (cO (gX v) 8) (gX f) (eX h d f) (wP d N) (λj=>branch (lH d j) (K lG m h) (Jz (cQ s (fP t (gX v))) (λn u y=>cQ n (fP u (gX y))) h N (λc z A=>branch (!(kE c z A)) (K (jA 50) m h) (K (jA 0) m h)))))))))))))
abbrev aR(a b c:Prop):Prop:=a->b->c
attribute [push_cast] aR
def Sy(N:Nat)(s t:Sl)(v:PV)(m:MH)(h:PH)(K:dc):Prop:=
  CQ s h (λl=>branch (!(DE l)) (K (jA 1) m h) (CQ t h (λj=>branch (!(DE j)) (K (jA 1) m h) (∀(b:Nat)(e:MH),aR (dL m h b) (cL m e b (bG 24) 3) (Ey (λg p=>bD (λk f=>∃(n:Int),aA (cE v.enc (fT 1 (F1 b 0))=cE g.enc (fT (uB k) (F1 f 0))) (eX h p g) (aA (wP p N) (k<=9) (aI (dG n) (n<=24) (e f=Option.some (jI (Array.mk (bG n)) 3 0)) (∀(d:MH),cL e d f (bG (mP p k n).2) 3->branch (!(mP p k n).1) (K (jA 2) d h) (Jz (eC (xR s t) (gX v)) (λu y z=>eC (xR u y) (gX z)) h N (λc A D=>branch (!(kE c A D)) (K (jA 50) d h) (K (jA 0) d h)))))))))))))
end Go.Ps
namespace Go.Vc
open Go.Ps Go.Proofs List
theorem gR.trans{m m' c:MH}{b:Nat}{o d:Obj}(j:gR m m' b o)(e:gR m' c b d):gR m c b d:=⟨e.at_,λf g=>(e.other f g).trans (j.other f g)⟩
end Go.Vc
namespace Go.Ps
open Go Go.Vc Go.Proofs List Tryz
variable{K:dc}{m:MH}{h:PH}{ps:dd}{cb:Nat}{sc:bJ}{v:QV}{q:Query}{p:Pred}{l:dd}{i:Nat}{N:Nat}{m':MH}{h':PH}{co:dd}{gr:dd}{od:dg}{w:Pred}{ta:Int}{li:Int}{xs:List cv}{sz:Nat}{k:Nat}{ks:List dd}{rs:dd}{r:Sl}{a:dd}{b:Nat}
theorem WN:∀N,cu 145 (ZZ N)
 |0=>by
  refine eR (fn:=Tryz.f145) (c:=cK Tryz.f145) func145 rfl bg ?_;rintro E m h K ⟨v,p,k,b,n,rfl,Q,V,_⟩;omega
 |N+1=>by
  refine iB func145 ?_;rintro E m h K ⟨v,p,k,b,n,rfl,Q,V,hk,h0,h1,R,j⟩;refine⟨beQ N v p k b n m h,rfl,aD (WN N) aF,R7 N v p k b n m h K,be,?_⟩;dsimp only[R7,push_cast];obtain⟨hl,S,y⟩:=Q.open;have W:IntKind.i64.wrap (n-1)=n-1:=dO aC aC;refine⟨n,.of_m R rfl,_,_,⟨R⟩,bf,λm' T=>?_⟩;rw[W]at T;have f:gR m m' b (tP (n-1)):=T;refine⟨n-1,.of_m f.at_ rfl,aE (λX=>?_) (λX=>aE (λY=>?_) (λY=>?_))⟩
  .have e:mP p k n=(false,n-1):=by cases p;simp only[mP];grind
   rw[e]at j;exact j m' f
  .have F:k=0:=by omega
   subst F;have e:mP p 0 n=(false,n-1):=by cases p;simp only[mP];grind
   rw[e]at j;exact j m' f
  .refine⟨⟨(0,n-1,m'),⟨bf,bk,bk,f,aC,?_⟩,MT⟩,?_⟩
   .obtain⟨U,rfl⟩:∃U,k=U+1:=⟨k-1,aC⟩
    cases p;simp only[mP,drop_zero,Pred.args]
    grind
   .rintro⟨i,x,Z⟩ ⟨hi,s,z,g,G,d⟩;simp only at hi s z g d;refine aE (λa'=>?_) (λa0=>?_)
    .obtain⟨q,H⟩:∃q,p.args[i]? =some q:=⟨p.args[i]'(by omega),bu _⟩
     obtain⟨b1,o,u,ea,a1,I⟩:=y i q H;have hd:p.args.drop i=q::p.args.drop (i+1):=drop_cons H;refine⟨b1,o,ea,bf,aC,u,.imm bk,u,q,k-1,b,x,?_,I,?_,aC,s,z,g.at_,λJ M=>?_⟩
     .rw[dO aC aC,show(9-((k-1:Nat):Int))=9-(k:Int)+1 by omega]
     .have:=BU (bx H);omega
     .have t:gR m J b (tP (mP q (k-1) x).2):=g.trans M;rw[hd,xF]at d;obtain⟨A,D⟩:=Lm q (k-1) x s;cases e:mP q (k-1) x with
      |mk r x'=>
       rw[e]at d t A D;cases r with
       |false=>
        simp only at d;rw[<-d]at j;exact j J t
       |true=>
        have a2:=A.1 rfl;have O:=D rfl;have a3:=Tn q;simp only at O d;exact⟨(i+1,x',J),⟨aC,bk,bk,t,G,d⟩,aC,MT⟩
    .rw[drop_of_length_le aC]at d;simp only[xF]at d;rw[<-d]at j;exact j Z g
theorem LM:cu 95 wY:=by
 refine iB func95 ?_;rintro n m h K ⟨s,t,v,d,c,p,rfl,g,j,f,e⟩;refine⟨bEX (SizeOf.sizeOf p+1),rfl,aD aj (aD (WS _) (aD (WR _) (aD (WQ _) aF))),V1 (SizeOf.sizeOf p+1) s t v m h K,be,?_⟩;dsimp only[V1,push_cast];refine⟨s,d,rfl,g,aB (λu=>Bm e ?_) (λu=>⟨t,c,rfl,j,aB (λy=>Bm e ?_) (λy=>⟨v,p,0,rfl,f,aC,aC,aC,aB (λz=>Bm e ?_) (λz=>⟨v,p,8,rfl,f,aC,aC,aB (λA=>Bm e ?_) (λA=>⟨s,t,d,c,v,p,rfl,g,j,f,aC,aB (λD=>Bm e ?_) (λD=>Bm e ?_)⟩)⟩)⟩)⟩)⟩
 all_goals (simp only[jD];simp only[*,Bool.or_false,Bool.false_or,Bool.or_true,Bool.true_or,Bool.and_true,Bool.true_and,Bool.and_false,Bool.false_and,Bool.not_true,Bool.not_false,Bool.false_eq_true,if_true,if_false, ↓reduceIte])
theorem KC{f:FuncId}{fn:Func}(s:Tryz.prog.funcs[f]? =some fn){S:Vc.Spec}(j:∀c m h K,S c m h K->∃C:Ctx,C.P=Tryz.prog/\(∀g S,assoc C.specs g=some S->cu g S)/\∃N:Prop,N=tM C fn (cK fn) (entry fn.ntmps c m h) (λr m' h'=>∃m2 n,(∀b o,m2 b=some o->m' b=some o)/\PH.le h n/\PH.le n h'/\K r m2 n)/\N)(t:fn.body=some (cK fn):=by rfl)(d:(fn.name== "runtime.NumGoroutine")=false:=by decide):cu f S:=aAJ s t d λc m h K u=>let⟨C,hC,hs,N,e,hn⟩:=j c m h K u;⟨C,hC,hs,e▸hn⟩
theorem PT:cu 110 wY:=by
 refine KC func110 ?_;rintro I m h K ⟨s,t,v,d,c,p,rfl,E,F,G,J⟩;refine⟨biZ (SizeOf.sizeOf p+1),rfl,aD Zj (aD (WN _) (aD (WM _) aF)),Sy (SizeOf.sizeOf p+1) s t v m h (λr m' h'=>∃j n,(∀b o,j b=some o->m' b=some o)/\PH.le h n/\PH.le n h'/\K r j n),be,?_⟩;dsimp only[Sy,push_cast];have f:∀(m':MH),(∀b o,m b=some o->m' b=some o)->∀x,jD d c p=x->∃j n,(∀b o,j b=some o->m' b=some o)/\PH.le h n/\PH.le n h/\K (.val (.int .i64 x)) j n:=λm' M x e=>⟨m,h,M,.refl _,.refl _,e▸J⟩
 refine⟨s,d,rfl,E,aB (λO=>f m (λ_ _ e=>e) _ ?_) (λO=>⟨t,c,rfl,F,aB (λQ=>f m (λ_ _ e=>e) _ ?_) (λQ b U R u=>⟨v,p,8,b,24,rfl,G,aC,aC,aC,aC,u.at_,λj A=>?_⟩)⟩)⟩
 .simp only[jD];grind
 .simp only[jD];grind
 .have g:∀b o,m b=some o->j b=some o:=λD o e=>by
   have y:D≠b:=λS=>by rw[S,R.m_]at e;cases e
   rw[A.other D y,u.other D y,e]
  have z:=awX p;refine aB (λH=>f j g _ ?_) (λH=>⟨s,t,d,c,v,p,rfl,E,F,G,aC,aB (λT=>f j g _ ?_) (λT=>f j g _ ?_)⟩)
  all_goals (rw[z,Bool.not_not]at H;clear z;simp only[jD];simp only[*,Bool.or_false,Bool.false_or,Bool.or_true,Bool.true_or,Bool.and_true,Bool.true_and,Bool.and_false,Bool.false_and,Bool.not_true,Bool.not_false,Bool.false_eq_true,if_true,if_false, ↓reduceIte])
structure bC{α β:Type}(h:PH)(sz:Nat)(enc:β->cv)(R:α->β->Prop)(s:Sl)(l:List α):Prop where
 ex:∃vs:List β,bX h s sz (vs.map enc)/\l.length=vs.length/\∀(i:Nat)(x:α),l[i]? =some x->∃v,vs[i]? =some v/\R x v
 len:l.length<=502633886983
theorem bC.slen{α β:Type}{enc:β->cv}{R:α->β->Prop}{s:Sl}{l:List α}(r:bC h sz enc R s l):s.len=l.length:=by
 obtain⟨d,c,e,_⟩:=r.ex;have:=c.len
 grind
theorem bC.at{α β:Type}{enc:β->cv}{R:α->β->Prop}{s:Sl}{l:List α}(r:bC h sz enc R s l){x:α}(c:l[i]? =some x):
 ∃b o v,s.a=some ⟨b,o,none⟩/\bA h b (o+i*sz) (enc v)/\R x v:=by
 obtain⟨j,d,_,f⟩:=r.ex;obtain⟨v,g,n⟩:=f i x c;obtain⟨b,o,e,k⟩:=d.get (i:=i) (e:=enc v) (by simp[g])
 grind
theorem bC.mono{α β:Type}{enc:β->cv}{R R':α->β->Prop}{s:Sl}{l:List α}(r:bC h sz enc R s l)(le:PH.le h h')(d:∀x v,R x v->R' x v):bC h' sz enc R' s l:=by
 obtain⟨e,f,g,j⟩:=r.ex;exact⟨⟨e,f.mono le,g,λi x n=>(j i x n).imp λv c=>⟨c.1,d _ _ c.2⟩⟩,r.len⟩
theorem bC.nil{α β:Type}(h:PH)(sz:Nat)(enc:β->cv)(R:α->β->Prop):bC h sz enc R ⟨none,0,0⟩ ([]:List α):=
 ⟨⟨[],.nil h sz,rfl,λi x c=>by simp at c⟩,bf⟩
theorem eO{α:Type}{l:List α}{i n:Nat}(c:n=l.length)(d:(i:Int)<(n:Int)):∃x,l[i]? =some x:=⟨l[i]'(by omega),bu _⟩
def GG(h:PH)(s:Sl)(ps:dr):Prop:=bC h 13 PV.enc (eX h) s ps
theorem GG.mono{s:Sl}{ps:dr}(r:GG h s ps)(le:PH.le h h'):GG h' s ps:=bC.mono r le λ_ _=>eX.mono le
theorem zG.toL{s:Sl}{ps:dr}{vs:ei}(d:bX h s 13 (vs.map PV.enc))(c:zG h ps vs)(e:ps.length<=502633886983):GG h s ps:=
 ⟨⟨vs,d,c.length.symm,λ_ _ f=>c.get f⟩,e⟩
theorem zG.ofL{h:PH}:∀{ps:dr}{vs:ei},ps.length=vs.length->(∀(i:Nat)(x:Pred),ps[i]? =some x->∃v,vs[i]? =some v/\eX h x v)->zG h ps vs
 |[],[],_,_=>rfl
 |p::ps,v::vs,c,d=>by
  obtain⟨j,f,g⟩:=d 0 p rfl;simp at f;subst f;exact⟨v,vs,rfl,g,zG.ofL bk λi x e=>br (d (i+1) x (by simpa using e))⟩
 |[],_::_,c,_=>by simp at c
 |_::_,[],c,_=>by simp at c
theorem eX.parts{op c:Int}{l r:OV}{args:dr}{v:PV}(x:eX h (.mk op c l r args) v):v.op=op/\v.cmp=c/\v.left=l/\v.right=r/\GG h v.args args:=by
 obtain⟨d,e,f,g,j,t,n,s⟩:=x;exact⟨d,e,f,g,s.toL n j⟩
theorem eX.mk{h:PH}{args:dr}{v:PV}(c:GG h v.args args):eX h (.mk v.op v.cmp v.left v.right args) v:=by
 obtain⟨d,e,f,g⟩:=c.ex;exact⟨rfl,rfl,rfl,rfl,c.len,d,e,.ofL f g⟩
def bWZ(N:Nat):Vc.Spec:=λc m h K=>∃v w p q,c=[aP v,aP w]/\eX h p v/\eX h q w/\SizeOf.sizeOf p<N/\∀r:Bool,(r=true↔p=q)->K (cB r) m h
def b3Z(N:Nat):Vc.Spec:=λc m h K=>∃s t ps d,c=[cS s,cS t,.val (.func (.func 228) #[] #[])]/\GG h s ps/\GG h t d/\(∀p∈ps,SizeOf.sizeOf p<N)/\∀r:Bool,(r=true↔ps=d)->K (cB r) m h
noncomputable def a7Q(N:Nat):Ctx:=ctx [(241,b3Z N)] [] [] [] false
noncomputable def a6X(N:Nat)(s t:Sl)(ps c:dr)(m:MH)(h:PH):Ctx:=
 ctx [(228,bWZ N)] [Gm 4 (λi=>bU 32 35 [(1,sv t),(2,vv (.func (.func 228) #[] #[])),(15,sv s),(16,iv s.len),(17,iv i)] [] m h) (λi=>i<=ps.length/\∀j:Nat,j<i->ps[j]? =c[j]?) (λi=>ps.length-i)] [] [] false
noncomputable def bcJ(N:Nat)(v w:PV)(ps c:dr)(m:MH)(h:PH):Ctx:=
 ctx [(161,bWZ N)] [Gm 4 (λi=>bU 60 62 [(2,.at (.ptr 2 0)),(3,.at (.ptr 3 0)),(43,iv v.args.len),(44,iv i)] [(2,.cells 63 (v.enc.map .val)),(3,.cells 63 (w.enc.map .val))] m h) (λi=>i<=ps.length/\∀j:Nat,j<i->ps[j]? =c[j]?) (λi=>ps.length-i)] [] [] false
noncomputable abbrev uX:Array Value:=Array.mk []
noncomputable abbrev qU(a:Nat)(b:Array Value):CV:=CV.val (Value.func (Fn.func a) uX b)
attribute [push_cast] uX qU
def LV(N:Nat)(v w:PV)(m:MH)(h:PH)(K:dc):Prop:=
  bK v.op w.op (bK v.cmp w.cmp (qY 60 v.left.enc w.left.enc (λr=>branch r (qY 60 (AD v) (AD w) (λe=>branch e (jE (λs t=>∃(p q:dr),aA (cQ v.args (fP w.args (qU 228 uX))=cQ s (fP t (qU 228 uX))) (GG h s p) (aA (GG h t q) (∀(c:Pred),List.Mem c p->wP c N) (∀(d:Bool),(gO d↔p=q)->K (Cr d) m h)))) (K aZ m h))) (K aZ m h))) (K aZ m h)) (K aZ m h)
abbrev EE(a:Nat)(b c:dr):Prop:=jK (a<=b.length) (λx=>x<a->b[x]? =c[x]?)
noncomputable abbrev De(a:Fn)(b:Array Value):SV:=SV.at (At.val (Value.func a uX b))
abbrev Fg(a:Nat):Prop:=eQ (De (Fn.func a) uX)
abbrev JT(a:PV->PV->Pred->Pred->Prop):Prop:=∃(x:PV),Ey (λc d=>∃(e:Pred),a x c d e)
attribute [push_cast] EE De Fg JT
def RC(N:Nat)(s t:Sl)(ps c:dr)(m:MH)(h:PH)(K:dc):Prop:=
  branch (aG s !=aG t) (K aZ m h) (jK (∃(x:Nat),aA (EE x ps c) (aH t) (aA (Fg 228) (aH s) (aA (bI s) (bE x) (aA (m=m) (h=h) True)))) (λx=>EE x ps c->aY (↑x:Int) (aG s) (bD (λb o=>aI (bF s.a b o) (0<=(↑x:Int)) ((↑x:Int)<aG s) (∃(y:PV),aJ m h b (bB o x 13) y.enc/\bD (λe f=>aI (bF t.a e f) (0<=(↑x:Int)) ((↑x:Int)<aG t) (∃(g:PV),aJ m h e (bB f x 13) g.enc/\JT (λv w p q=>aA (eC y.enc (gX g)=eC v.enc (gX w)) (eX h p v) (aA (eX h q w) (wP p N) (∀(r:Bool),(gO r↔p=q)->oF (!r) K m h (λd=>aA (EE d ps c) (ps.length-d<ps.length-x) (aA (aH t) (Fg 228) (aA (aH s) (bI s) (aA (fJ (aW x 1)=bY d) (m=m) (dH h h))))))))))))) (K fB m h)))
def Md(N:Nat)(v w:PV)(ps c:dr)(m:MH)(h:PH)(K:dc):Prop:=
  branch (v.op !=w.op) (K aZ m h) (branch (v.cmp !=w.cmp) (K aZ m h) (qY 60 v.left.enc w.left.enc (λr=>branch (!r) (K aZ m h) (qY 60 (AD v) (AD w) (λt=>branch (!t) (K aZ m h) (branch (aG v.args !=aG w.args) (K aZ m h) (jK (∃(x:Nat),aA (EE x ps c) gV (aA (eP 3) (uS v) (aA (bE x) (nI v) (aA (nI w) (m=m) (dH h h))))) (λx=>EE x ps c->aY (↑x:Int) (aG v.args) (bD (λb o=>aI (bF v.args.a b o) (0<=(↑x:Int)) ((↑x:Int)<aG v.args) (∃(y:PV),aJ m h b (bB o x 13) y.enc/\bD (λe f=>aI (bF w.args.a e f) (0<=(↑x:Int)) ((↑x:Int)<aG w.args) (∃(g:PV),aJ m h e (bB f x 13) g.enc/\JT (λj n p q=>aA (eC y.enc (gX g)=eC j.enc (gX n)) (eX h p j) (aA (eX h q n) (wP p N)
 (∀(s:Bool),(gO s↔p=q)->oF (!s) K m h (λd=>aA (EE d ps c) (ps.length-d<ps.length-x) (aA gV fW (aA (uS v) (fJ (aW x 1)=bY d) (aA (nI v) (nI w) (dP m m h h))))))))))))) (K fB m h)))))))))
theorem D5{α:Type}{a b:List α}(c:a.length=b.length)(d:a.length<=i)(h:∀j:Nat,j<i->a[j]? =b[j]?):a=b:=by
 apply ext_getElem?
 grind
theorem Cu{α:Type}{a b:List α}{x y:α}(hx:a[i]? =some x)(c:b[i]? =some y)(e:x=y)(h:∀j:Nat,j<i->a[j]? =b[j]?):∀j:Nat,j<i+1->a[j]? =b[j]? :=by
 grind
theorem Vv{α:Type}{a b:List α}{x y:α}(hx:a[i]? =some x)(c:b[i]? =some y)(e:x≠y):a≠b:=λh=>by
 grind
theorem TP{α β:Type}{s t:Sl}{a:List α}{b:List β}(c:s.len=a.length)(d:t.len=b.length)(e:((s.len:Int) !=(t.len:Int))=true):a.length≠b.length:=λh=>by
 grind
theorem Pe{α β:Type}{s t:Sl}{a:List α}{b:List β}(c:s.len=a.length)(d:t.len=b.length)(e:((s.len:Int) !=(t.len:Int))=false):a.length=b.length:=by
 grind
theorem bNJ{v w:PV}{q:Pred}(u:eX h p v)(y:eX h q w)(I:SizeOf.sizeOf p<N+1)(s:∀r:Bool,(r=true↔p=q)->K (cB r) m h):LV N v w m h K:=by
 dsimp only[LV,push_cast];have d:p≠q->K (cB false) m h:=λh=>s false ⟨λe=>(by cases e),λe=>(h e).elim⟩;have c:=@BU p;obtain⟨op,z,l,r,ps⟩:=p;obtain⟨A,t,J,M,D⟩:=q;obtain⟨rfl,rfl,rfl,rfl,j⟩:=u.parts;obtain⟨rfl,rfl,rfl,rfl,n⟩:=y.parts;refine aB (λE=>aB (λF=>⟨_,Dq _ _,aB (λf=>⟨_,Dq _ _,aB (λg=>⟨v.args,w.args,ps,D,rfl,j,n,λp G=>?_,λr H=>s r (H.trans ?_)⟩) (λg=>d λe=>?_)⟩) (λf=>d λe=>?_)⟩) (λF=>d λe=>?_)) (λE=>d λe=>?_)
 .have:=c (q:=p) G;omega
 .rw[FA]at f g
  grind
 .injection e with _ _ _ e _;rw[FA.2 e]at g;cases g
 .injection e with _ _ e _ _;rw[FA.2 e]at f;cases f
 .grind
 grind
theorem WB:∀N,cu 228 (bWZ N)
 |0=>by
  refine eR (fn:=Tryz.f228) (c:=cK Tryz.f228) func228 rfl bg ?_;rintro g m h K ⟨v,w,p,q,rfl,D,_,E,_⟩;omega
 |N+1=>by
  have z:cu 241 (b3Z N):=by
   refine iB func241 ?_;rintro g m h K ⟨s,t,ps,F,rfl,I,R,E,G⟩;refine⟨a6X N s t ps F m h,rfl,aD (WB N) aF,RC N s t ps F m h K,be,?_⟩;dsimp only[RC,push_cast];have d:=I.slen;have A:=R.slen;have U:=I.len;have S:ps≠F->K (cB false) m h:=λh=>G false ⟨λe=>(by cases e),λe=>(h e).elim⟩;refine aB (λJ=>S (λe=>TP d A J (by rw[e]))) (λJ=>?_);have V:=Pe d A J;refine⟨⟨0,⟨aC,λj hj=>by omega⟩,MT⟩,λi T=>aE (λf=>?_) (λW=>?_)⟩
   .obtain⟨x,H⟩:=eO d f;obtain⟨y,M⟩:∃y,F[i]? =some y:=eO (n:=s.len) aC f;obtain⟨X,Y,u,Z,r1,ru⟩:=I.at H;obtain⟨b2,o2,w,e2,r2,O⟩:=R.at M;refine⟨X,Y,Z,aC,f,u,.imm r1,b2,o2,e2,aC,aC,w,.imm r2,u,w,x,y,rfl,ru,O,E x (bx H),λr D=>aB (λa'=>S (Vv H M (λe=>?_))) (λhe=>?_)⟩
    .grind
    .have Q:r=true:=bk
     exact⟨i+1,⟨aC,Cu H M (D.1 Q) T.2⟩,aC,MT⟩
   .exact G true ⟨λ_=>D5 V aC T.2,λ_=>rfl⟩
  refine iB func228 ?_;rintro g m h K ⟨v,w,p,q,rfl,D,hq,E,G⟩;refine⟨a7Q N,rfl,aD z aF,LV N v w m h K,be,?_⟩;exact bNJ D hq E G
theorem bRJ{v w:PV}{q:Pred}(U:eX h p v)(V:eX h q w)(hN:SizeOf.sizeOf p<N+1)(D:∀r:Bool,(r=true↔p=q)->K (cB r) m h):Md N v w p.args q.args m h K:=by
 dsimp only[Md,push_cast];have c:p≠q->K (cB false) m h:=λh=>D false ⟨λe=>(by cases e),λe=>(h e).elim⟩;have d:=@BU p;obtain⟨op,W,l,r,ps⟩:=p;obtain⟨X,O,l',r',Q⟩:=q;obtain⟨rfl,rfl,rfl,rfl,E⟩:=U.parts;obtain⟨rfl,rfl,rfl,rfl,R⟩:=V.parts;simp only[Pred.args]at d⊢
 have g:=E.slen;have F:=R.slen;have Y:=E.len;refine aB (λG=>c λe=>?_) (λG=>aB (λH=>c λe=>?_) (λH=>⟨_,Dq _ _,aB (λs=>c λe=>?_) (λs=>⟨_,Dq _ _,aB (λt=>c λe=>?_) (λt=>aB (λS=>c λe=>?_) (λS=>?_))⟩)⟩))
 .grind
 .grind
 .injection e with _ _ e _ _;rw[FA.2 e]at s;cases s
 .injection e with _ _ _ e _;rw[FA.2 e]at t;cases t
 .grind
 .have Z:=Pe g F S;have s:v.left=w.left:=FA.1 bk;have t:v.right=w.right:=FA.1 bk;have G:v.op=w.op:=bk
  have H:v.cmp=w.cmp:=bk
  rw[G,H,s,t]at D c;have c:ps≠Q->K (cB false) m h:=λA=>c λe=>A (by injection e);refine⟨⟨0,⟨aC,λj hj=>by omega⟩,MT⟩,λi T=>aE (λf=>?_) (λa'=>?_)⟩
  .obtain⟨x,I⟩:=eO g f;obtain⟨y,J⟩:∃y,Q[i]? =some y:=eO (n:=v.args.len) aC f;obtain⟨b1,o1,u,e1,r1,ru⟩:=E.at I;obtain⟨b2,o2,z,e2,r2,rz⟩:=R.at J;refine⟨b1,o1,e1,aC,f,u,.imm r1,b2,o2,e2,aC,aC,z,.imm r2,u,z,x,y,rfl,ru,rz,?_,λr hr=>aB (λA=>c (Vv I J (λe=>?_))) (λhe=>?_)⟩
   .grind
   .grind
   .have M:r=true:=bk
    exact⟨i+1,⟨aC,Cu I J (hr.1 M) T.2⟩,aC,MT⟩
  .exact D true ⟨λ_=>by rw[D5 Z aC T.2],λ_=>rfl⟩
theorem WJ:∀N,cu 161 (bWZ N)
 |0=>by
  refine eR (fn:=Tryz.f161) (c:=cK Tryz.f161) func161 rfl bg ?_;rintro d m h K ⟨v,w,p,q,rfl,e,_,f,_⟩;omega
 |N+1=>by
  refine iB func161 ?_;rintro d m h K ⟨v,w,p,q,rfl,e,g,f,j⟩;refine⟨bcJ N v w p.args q.args m h,rfl,aD (WJ N) aF,Md N v w p.args q.args m h K,be,?_⟩;exact bRJ e g f j
def bWJ:Vc.Spec:=λc m h K=>∃v w p q,c=[aP v,aP w]/\eX h p v/\eX h q w/\∀r:Bool,(r=true↔p=q)->K (cB r) m h
theorem tY{f:FuncId}{S:Nat->Vc.Spec}{S':Vc.Spec}(h:∀N,cu f (S N))(e:∀c m h K,S' c m h K->∃N,S N c m h K):cu f S':=by
 refine⟨(h 0).1,λc g m d w K j n=>?_⟩;obtain⟨N,s⟩:=e c m d K j;exact(h N).2 c g m d w K s n
theorem Yt:cu 228 bWJ:=tY WB λ_ _ _ _⟨v,w,p,q,e,c,d,f⟩=>⟨SizeOf.sizeOf p+1,v,w,p,q,e,c,d,aC,f⟩
theorem Y8:cu 161 bWJ:=tY WJ λ_ _ _ _⟨v,w,p,q,e,c,d,f⟩=>⟨SizeOf.sizeOf p+1,v,w,p,q,e,c,d,aC,f⟩
theorem KM{d e c i:Nat}{g:dq}{xs f:Array Value}{w:World}{x y:Value}{r j:Bool}(hx:A2 Tryz.prog (part e xs (i*c))=some x)(n:A2 Tryz.prog (part e f (i*c))=some y)
 (s:(Op.equalIn d e x y).run Tryz.prog w= .ok r w)(t:(Op.eqItems d e c xs f g).run Tryz.prog w= .ok j w):(Op.eqItems d e c xs f (i::g)).run Tryz.prog w= .ok (r&&j) w:=by
 simp only[Op.eqItems,Sem.run_bind,B6 _ _ _ hx,B6 _ _ _ n,Result.andThen_ok,s];cases r
 .simp
 grind
def ccZ(a b:Int×Int):Bool:=a.1==b.1&&(a.2==b.2&&true)
def ccX(a b:Int×Bool):Bool:=a.1==b.1&&(a.2==b.2&&true)
theorem blQ(a b:Int×Int):StructEq Tryz.prog 81 (.agg #[.int .i64 a.1,.int .i64 a.2]) (.agg #[.int .i64 b.1,.int .i64 b.2]) (ccZ a b):=by
 refine⟨be,λw=>?_⟩;obtain⟨i,c⟩:=Option.isSome_iff_exists.1 (show(Tryz.prog.info? 3).isSome=true by kernel_rfl);rw[run_equalIn_array w 9999 (e:=3) (n:=2) _ _ be c,show Tryz.prog.cellsOf 3=1 by kernel_rfl,show List.range 2=[0,1]from rfl];refine KM (x:=.int .i64 a.1) (y:=.int .i64 b.1) be be (run_equalIn_int w 9998 _ .i64 .i64 _ _ be) ?_;refine KM (x:=.int .i64 a.2) (y:=.int .i64 b.2) be be (run_equalIn_int w 9998 _ .i64 .i64 _ _ be) ?_;simp[Op.eqItems]
theorem bkJ(a b:Int×Bool):StructEq Tryz.prog 138 (.agg #[.int .i64 a.1,.bool a.2]) (.agg #[.int .i64 b.1,.bool b.2]) (ccX a b):=by
 refine⟨be,λw=>?_⟩;rw[run_equalIn_struct w 9999 138 _ _ be be,show(Tryz.prog.fieldsOf 138).toList=[QB 138 0,QB 138 1]by kernel_rfl];refine nB (x:=.int .i64 a.1) (y:=.int .i64 b.1) be be be (run_equalIn_int w 9998 _ .i64 .i64 _ _ be) ?_;refine nB (x:=.bool a.2) (y:=.bool b.2) be be be (run_equalIn_bool w 9998 _ _ _ be) ?_;simp[Op.eqFields]
theorem W7{a b:Int×Int}:ccZ a b=true↔a=b:=by
 obtain⟨c,d⟩:=a;obtain⟨e,f⟩:=b;simp[ccZ]
theorem W6{a b:Int×Bool}:ccX a b=true↔a=b:=by
 obtain⟨c,d⟩:=a;obtain⟨e,f⟩:=b;simp[ccX]
theorem lF.at{s:Sl}{l:di}(r:lF h s l){x:Int×Int}(c:l[i]? =some x):∃b o,s.a=some ⟨b,o,none⟩/\bA h b (o+i*2) (qP x):=r.row.get (by simp[c])
theorem kC.at{s:Sl}{l:dg}(r:kC h s l){x:Int×Bool}(c:l[i]? =some x):∃b o,s.a=some ⟨b,o,none⟩/\bA h b (o+i*2) (CI x):=r.row.get (by simp[c])
def SX:Vc.Spec:=λc m h K=>∃(s t:Sl)(a b:di),c=[cS s,cS t]/\lF h s a/\lF h t b/\∀r:Bool,(r=true↔a=b)->K (cB r) m h
def SU:Vc.Spec:=λc m h K=>∃(s t:Sl)(a b:dg),c=[cS s,cS t]/\kC h s a/\kC h t b/\∀r:Bool,(r=true↔a=b)->K (cB r) m h
noncomputable def WA{α:Type}(s t:Sl)(a b:List α)(m:MH)(h:PH):Ctx:=
 ctx [] [Gm 4 (λi=>bU 26 28 [(0,sv s),(1,sv t),(12,iv s.len),(13,iv i)] [] m h) (λi=>i<=a.length/\∀j:Nat,j<i->a[j]? =b[j]?) (λi=>a.length-i)] [] [] false
noncomputable abbrev zE(a:Int)(b:Value):cv:=bH (cV a) b []
noncomputable abbrev As(a:Int×Int):cv:=zE a.1 (cV a.2)
attribute [push_cast] zE As
def RF(s t:Sl)(a b:di)(m:MH)(h:PH)(K:dc):Prop:=
  branch (aG s !=aG t) (K aZ m h) (jK (∃(x:Nat),aA (jK (x<=a.length) (λj=>j<x->a[j]? =b[j]?)) (aH s) (aA (aH t) (bI s) (cF (bE x) m m h h))) (λx=>jK (x<=a.length) (λj=>j<x->a[j]? =b[j]?)->aY (↑x:Int) (aG s) (bD (λd o=>aI (bF s.a d o) (0<=(↑x:Int)) ((↑x:Int)<aG s) (∃(y:Int×Int),aJ m h d (bB o x 2) (As y)/\bD (λe f=>aI (bF t.a e f) (0<=(↑x:Int)) ((↑x:Int)<aG t) (∃(g:Int×Int),aJ m h e (bB f x 2) (As g)/\qY 81 (As y) (As g) (λr=>oF (!r) K m h (λc=>aA (jK (c<=a.length) (λj=>j<c->a[j]? =b[j]?)) (a.length-c<a.length-x) (aA (aH s) (aH t) (aA (bI s) (fJ (aW x 1)=bY c) (aA (m=m) (h=h) True)))))))))) (K fB m h)))
noncomputable abbrev CY(a:Int×Bool):cv:=zE a.1 (Value.bool a.2)
attribute [push_cast] CY
def RE(s t:Sl)(a b:dg)(m:MH)(h:PH)(K:dc):Prop:=
  branch (aG s !=aG t) (K aZ m h) (jK (∃(x:Nat),aA (jK (x<=a.length) (λj=>j<x->a[j]? =b[j]?)) (aH s) (aA (aH t) (bI s) (cF (bE x) m m h h))) (λx=>jK (x<=a.length) (λj=>j<x->a[j]? =b[j]?)->aY (↑x:Int) (aG s) (bD (λd o=>aI (bF s.a d o) (0<=(↑x:Int)) ((↑x:Int)<aG s) (∃(y:Int×Bool),aJ m h d (bB o x 2) (CY y)/\bD (λe f=>aI (bF t.a e f) (0<=(↑x:Int)) ((↑x:Int)<aG t) (∃(g:Int×Bool),aJ m h e (bB f x 2) (CY g)/\qY 138 (CY y) (CY g) (λr=>oF (!r) K m h (λc=>aA (jK (c<=a.length) (λj=>j<c->a[j]? =b[j]?)) (a.length-c<a.length-x) (aA (aH s) (aH t) (aA (bI s) (fJ (aW x 1)=bY c) (aA (m=m) (h=h) True)))))))))) (K fB m h)))
theorem Ys:cu 229 SX:=by
 refine iB func229 ?_;rintro I m h K ⟨s,t,a,b,rfl,u,E,F⟩;refine⟨WA s t a b m h,rfl,aF,RF s t a b m h K,be,?_⟩;dsimp only[RF,push_cast];have c:=u.slen;have f:=E.slen;have J:=u.len;have G:a≠b->K (cB false) m h:=λh=>F false ⟨λe=>(by cases e),λe=>(h e).elim⟩;refine aB (λz=>G (λe=>TP c f z (by rw[e]))) (λz=>?_);have M:=Pe c f z;refine⟨⟨0,⟨aC,λj Y=>by omega⟩,MT⟩,λi H=>aE (λd=>?_) (λO=>?_)⟩
 .obtain⟨x,A⟩:=eO c d;obtain⟨y,D⟩:∃y,b[i]? =some y:=eO (n:=s.len) aC d;obtain⟨Q,R,S,T⟩:=u.at A;obtain⟨U,V,W,X⟩:=E.at D;refine⟨Q,R,S,aC,d,x,.imm T,U,V,W,aC,aC,y,.imm X,_,blQ x y,aB (λg=>G (Vv A D (λe=>?_))) (λZ=>?_)⟩
  .rw[W7.2 e]at g;cases g
  .exact⟨i+1,⟨aC,Cu A D (W7.1 bk) H.2⟩,aC,MT⟩
 .exact F true ⟨λ_=>D5 M aC H.2,λ_=>rfl⟩
theorem Yr:cu 230 SU:=by
 refine iB func230 ?_;rintro I m h K ⟨s,t,a,b,rfl,u,E,F⟩;refine⟨WA s t a b m h,rfl,aF,RE s t a b m h K,be,?_⟩;dsimp only[RE,push_cast];have c:=u.slen;have f:=E.slen;have J:=u.len;have G:a≠b->K (cB false) m h:=λh=>F false ⟨λe=>(by cases e),λe=>(h e).elim⟩;refine aB (λz=>G (λe=>TP c f z (by rw[e]))) (λz=>?_);have M:=Pe c f z;refine⟨⟨0,⟨aC,λj Y=>by omega⟩,MT⟩,λi H=>aE (λd=>?_) (λO=>?_)⟩
 .obtain⟨x,A⟩:=eO c d;obtain⟨y,D⟩:∃y,b[i]? =some y:=eO (n:=s.len) aC d;obtain⟨Q,R,S,T⟩:=u.at A;obtain⟨U,V,W,X⟩:=E.at D;refine⟨Q,R,S,aC,d,x,.imm T,U,V,W,aC,aC,y,.imm X,_,bkJ x y,aB (λg=>G (Vv A D (λe=>?_))) (λZ=>?_)⟩
  .rw[W6.2 e]at g;cases g
  .exact⟨i+1,⟨aC,Cu A D (W6.1 bk) H.2⟩,aC,MT⟩
 .exact F true ⟨λ_=>D5 M aC H.2,λ_=>rfl⟩
noncomputable def KL(s t:Sl)(a b:dd)(m:MH)(h:PH):Ctx:=
 ctx [] [Gm 4 (λi=>bU 26 28 [(0,sv s),(1,sv t),(12,iv s.len),(13,iv i)] [] m h) (λi=>i<=a.length/\∀j:Nat,j<i->a[j]? =b[j]?) (λi=>a.length-i)] [] [] false
def HY(s t:Sl)(a b:dd)(m:MH)(h:PH)(K:dc):Prop:=
  branch (aG s !=aG t) (K aZ m h) (jK (∃(x:Nat),aA (jK (x<=a.length) (λj=>j<x->a[j]? =b[j]?)) (aH s) (aA (aH t) (bI s) (cF (bE x) m m h h))) (λx=>jK (x<=a.length) (λj=>j<x->a[j]? =b[j]?)->aY (↑x:Int) (aG s) (bD (λd o=>aI (bF s.a d o) (0<=(↑x:Int)) ((↑x:Int)<aG s) (∃(y:Int),aJ m h d (bB o x 1) (bG y)/\bD (λe f=>aI (bF t.a e f) (0<=(↑x:Int)) ((↑x:Int)<aG t) (∃(g:Int),aJ m h e (bB f x 1) (bG g)/\oF (y !=g) K m h (λc=>aA (jK (c<=a.length) (λj=>j<c->a[j]? =b[j]?)) (a.length-c<a.length-x) (aA (aH s) (aH t) (aA (bI s) (fJ (aW x 1)=bY c) (aA (m=m) (h=h) True))))))))) (K fB m h)))
theorem bSQ(s t:Sl)(a b:dd)(m:MH)(h:PH)(K:dc):HY s t a b m h K=(tM (KL s t a b m h) Tryz.f132 (cK Tryz.f132) (entry 26 [cS s,cS t] m h) K):=be
theorem caJ(s t:Sl)(a b:dd)(m:MH)(h:PH)(K:dc):HY s t a b m h K=(tM (KL s t a b m h) Tryz.f69 (cK Tryz.f69) (entry 26 [cS s,cS t] m h) K):=be
def Cv:Vc.Spec:=λc m h K=>∃(s t:Sl)(a b:dd),c=[cS s,cS t]/\Ints h s a/\Ints h t b/\∀r:Bool,(r=true↔a=b)->K (cB r) m h
theorem aiJ{s t:Sl}{b:dd}(c:Ints h s a)(f:Ints h t b)(g:∀r:Bool,(r=true↔a=b)->K (cB r) m h):HY s t a b m h K:=by
 dsimp only[HY,push_cast];have u:=c.slen;have z:=f.slen;have A:=c.len;have n:a≠b->K (cB false) m h:=λh=>g false ⟨λe=>by(cases e),λe=>(h e).elim⟩;refine aB (λD=>n (λe=>?_)) (λD=>?_)
 .grind
 .have T:a.length=b.length:=bk
  refine⟨⟨0,⟨aC,λj E=>by omega⟩,rfl,rfl,rfl,rfl,rfl,rfl,trivial⟩,λi U=>aE (λd=>?_) (λF=>?_)⟩
  .obtain⟨x,G⟩:∃x,a[i]? =some x:=⟨a[i]'(by omega),bu _⟩
   obtain⟨y,H⟩:∃y,b[i]? =some y:=⟨b[i]'(by omega),bu _⟩
   obtain⟨I,J,M,V⟩:=c.at G;obtain⟨O,Q,R,W⟩:=f.at H;refine⟨I,J,M,aC,d,x,.imm bk,O,Q,R,aC,aC,y,.imm bk,aB (λS=>n (λe=>?_)) (λX=>?_)⟩
   .grind
   .have:x=y:=bk
    refine⟨i+1,⟨aC,λj E=>?_⟩,aC,rfl,rfl,rfl,by rw[jG aC],rfl,rfl,trivial⟩
    grind
  .refine g true ⟨λ_=>?_,λ_=>rfl⟩;apply ext_getElem?
   grind
theorem Zq:cu 132 Cv:=by
 refine eR (fn:=Tryz.f132) (c:=cK Tryz.f132) func132 rfl bg ?_;rintro d m h K ⟨s,t,a,b,rfl,e,f,g⟩;exact⟨KL s t a b m h,rfl,aF,(bSQ s t a b m h K)▸aiJ e f g⟩
theorem HJ:cu 69 Cv:=by
 refine eR (fn:=Tryz.f69) (c:=cK Tryz.f69) func69 rfl bg ?_;rintro d m h K ⟨s,t,a,b,rfl,e,f,g⟩;exact⟨KL s t a b m h,rfl,aF,(caJ s t a b m h K)▸aiJ e f g⟩
def aQ(v:QV):CV:=.val (.agg ⟨v.enc⟩)
def Query.args:Query->dl
 |.mk _ _ _ _ _ _ _ _ l=>l
theorem B9{p:Query}{q:Query}(h:q∈p.args):SizeOf.sizeOf q<SizeOf.sizeOf p:=by
 cases p with
 |mk op t w c o g s l args=>
  have:=sizeOf_lt_of_mem h;simp only[Query.args]at this
  grind
def D8(h:PH)(s:Sl)(ps:dl):Prop:=bC h 21 QV.enc (dR h) s ps
theorem D8.mono{s:Sl}{ps:dl}(r:D8 h s ps)(le:PH.le h h'):D8 h' s ps:=bC.mono r le λ_ _=>dR.mono le
theorem A0.ofL{h:PH}:∀{ps:dl}{vs:ef},ps.length=vs.length->(∀(i:Nat)(x:Query),ps[i]? =some x->∃v,vs[i]? =some v/\dR h x v)->A0 h ps vs
 |[],[],_,_=>rfl
 |p::ps,v::vs,c,d=>by
  obtain⟨j,f,g⟩:=d 0 p rfl;simp at f;subst f;exact⟨v,vs,rfl,g,A0.ofL bk λi x e=>br (d (i+1) x (by simpa using e))⟩
 |[],_::_,c,_=>by simp at c
 |_::_,[],c,_=>by simp at c
structure sL(h:PH)(op table:Int)(w:Pred)(c:dd)(o:di)(g:dd)(s:dg)(l:Int)(args:dl)(v:QV):Prop where
 op_:v.op=op
 table_:v.table=table
 where_:eX h w v.where_
 columns_:Ints h v.columns c
 on_:lF h v.on o
 group_:Ints h v.group g
 order_:kC h v.order s
 limit_:v.limit=l
 args_:D8 h v.args args
theorem dR.parts{op table:Int}{c:dd}{o:di}{g:dd}{s:dg}{l:Int}{args:dl}(x:dR h (.mk op table w c o g s l args) v):sL h op table w c o g s l args v:=by
 obtain⟨f,j,n,t,u,y,z,A,D,E,e,d⟩:=x;exact⟨f,j,n,t,u,y,z,A,⟨⟨E,e,d.length.symm,λ_ _ F=>d.get F⟩,D⟩⟩
theorem sL.rep{op table:Int}{c:dd}{o:di}{g:dd}{s:dg}{l:Int}{args:dl}(x:sL h op table w c o g s l args v):dR h (.mk op table w c o g s l args) v:=by
 obtain⟨d,e,f,j⟩:=x.args_.ex;exact⟨x.op_,x.table_,x.where_,x.columns_,x.on_,x.group_,x.order_,x.limit_,x.args_.len,d,e,.ofL f j⟩
def ckQ(N:Nat):Vc.Spec:=λc m h K=>∃v w p q,c=[aQ v,aQ w]/\dR h p v/\dR h q w/\SizeOf.sizeOf p<N/\∀r:Bool,(r=true↔p=q)->K (cB r) m h
def ckX:Vc.Spec:=λc m h K=>∃v w p q,c=[aQ v,aQ w]/\dR h p v/\dR h q w/\∀r:Bool,(r=true↔p=q)->K (cB r) m h
def b3X(N:Nat):Vc.Spec:=λc m h K=>∃s t ps d,c=[cS s,cS t,.val (.func (.func 217) #[] #[])]/\D8 h s ps/\D8 h t d/\(∀p∈ps,SizeOf.sizeOf p<N)/\∀r:Bool,(r=true↔ps=d)->K (cB r) m h
noncomputable def a8X(N:Nat):Ctx:=ctx [(228,bWJ),(69,Cv),(229,SX),(230,SU),(231,b3X N)] [] [] [] false
noncomputable def a6J(N:Nat)(s t:Sl)(ps c:dl)(m:MH)(h:PH):Ctx:=
 ctx [(217,ckQ N)] [Gm 4 (λi=>bU 32 35 [(1,sv t),(2,vv (.func (.func 217) #[] #[])),(15,sv s),(16,iv s.len),(17,iv i)] [] m h) (λi=>i<=ps.length/\∀j:Nat,j<i->ps[j]? =c[j]?) (λi=>ps.length-i)] [] [] false
abbrev lA(a:Prop)(b:Bool)(c d:Prop):Prop:=a->branch b c d
noncomputable abbrev gK(a b:Sl):du:=fP a (mL b)
abbrev EJ(a b:Sl)(c:PH)(d:dd->dd->Bool->Prop):Prop:=jE (λx e=>Bc (λf g=>aI (gK a b=gK x e) (Ints c x f) (Ints c e g) (∀(j:Bool),d f g j)))
abbrev sD(a:Query)(b:Nat):Prop:=SizeOf.sizeOf a<b
attribute [push_cast] lA gK EJ sD
def LX(N:Nat)(v w:QV)(m:MH)(h:PH)(K:dc):Prop:=
  bK v.op w.op (bK v.table w.table (bK v.limit w.limit (JT (λd e p q=>aI (eC v.where_.enc (gX w.where_)=eC d.enc (gX e)) (eX h p d) (eX h q e) (∀(r:Bool),lA (gO r↔p=q) r (EJ v.columns w.columns h (λa b f=>lA (gO f↔a=b) f (jE (λs t=>∃(g j:di),aI (gK v.on w.on=gK s t) (lF h s g) (lF h t j) (∀(n:Bool),lA (gO n↔g=j) n (EJ v.group w.group h (λM O u=>lA (gO u↔M=O) u (jE (λy z=>∃(A D:dg),aI (gK v.order w.order=gK y z) (kC h y A) (kC h z D) (∀(E:Bool),lA (gO E↔A=D) E (jE (λF G=>∃(c H:dl),aA (cQ v.args (fP w.args (qU 217 uX))=cQ F (fP G (qU 217 uX))) (D8 h F c) (aA (D8 h
 G H) (∀(I:Query),List.Mem I c->sD I N) (∀(J:Bool),(gO J↔c=H)->K (Cr J) m h)))) (K aZ m h)))) (K aZ m h))) (K aZ m h)))) (K aZ m h))) (K aZ m h)))) (K aZ m h)) (K aZ m h)) (K aZ m h)
abbrev sG(a:QV->Query->Prop):Prop:=∃(x:QV)(c:Query),a x c
noncomputable abbrev eH(a:QV):CV:=nS a.enc
attribute [push_cast] sG eH
def RD(N:Nat)(s t:Sl)(ps d:dl)(m:MH)(h:PH)(K:dc):Prop:=
  branch (aG s !=aG t) (K aZ m h) (jK (∃(x:Nat),aA (jK (x<=ps.length) (λj=>j<x->ps[j]? =d[j]?)) (aH t) (aA (Fg 217) (aH s) (aA (bI s) (bE x) (aA (m=m) (h=h) True)))) (λx=>jK (x<=ps.length) (λj=>j<x->ps[j]? =d[j]?)->aY (↑x:Int) (aG s) (bD (λb o=>aI (bF s.a b o) (0<=(↑x:Int)) ((↑x:Int)<aG s) (∃(y:QV),aJ m h b (bB o x 21) y.enc/\bD (λe f=>aI (bF t.a e f) (0<=(↑x:Int)) ((↑x:Int)<aG t) (∃(g:QV),aJ m h e (bB f x 21) g.enc/\∃(v:QV),sG (λw p=>∃(q:Query),aA (eC y.enc (eH g)=eC v.enc (eH w)) (dR h p v) (aA (dR h q w) (sD p N) (∀(r:Bool),(gO r↔p=q)->oF (!r) K m h (λc=>aA (jK (c<=ps.length) (λj=>j<c->ps[j]? =d[j]?)) (ps.length-c<
 ps.length-x) (aA (aH t) (Fg 217) (aA (aH s) (bI s) (aA (fJ (aW x 1)=bY c) (m=m) (dH h h))))))))))))) (K fB m h)))
theorem bOQ{w:QV}{p:Query}(s:dR h p v)(t:dR h q w)(S:SizeOf.sizeOf p<N+1)(n:∀r:Bool,(r=true↔p=q)->K (cB r) m h):LX N v w m h K:=by
 dsimp only[LX,push_cast];have c:p≠q->K (cB false) m h:=λh=>n false ⟨λe=>(by cases e),λe=>(h e).elim⟩;have d:=@B9 p;obtain⟨op,ta,T,co,on,gr,od,li,ps⟩:=p;obtain⟨u,y,z,A,D,E,F,G,U⟩:=q;have a:=s.parts;have b:=t.parts
 refine aB (λf=>aB (λg=>aB (λj=>⟨_,_,_,_,rfl,a.where_,b.where_,λV W=>aB (λH=>⟨_,_,_,_,rfl,a.columns_,b.columns_,λX Y=>aB (λI=>⟨_,_,_,_,rfl,a.on_,b.on_,λZ h6=>aB (λJ=>⟨_,_,_,_,rfl,a.group_,b.group_,λr7 h7=>aB (λM=>⟨_,_,_,_,rfl,a.order_,b.order_,λr8 h8=>aB (λO=>⟨_,_,_,_,rfl,a.args_,b.args_,λp Q=>?_,λr R=>n r (R.trans ?_)⟩)
  (λO=>c λe=>?_)⟩) (λM=>c λe=>?_)⟩) (λJ=>c λe=>?_)⟩) (λI=>c λe=>?_)⟩) (λH=>c λe=>?_)⟩) (λj=>c λe=>?_)) (λg=>c λe=>?_)) (λf=>c λe=>?_)
 .have:=d (q:=p) Q;omega
 .rw[a.op_,b.op_,beq_iff_eq]at f;rw[a.table_,b.table_,beq_iff_eq]at g;rw[a.limit_,b.limit_,beq_iff_eq]at j
  grind
 .grind
 .grind
 .grind
 .grind
 .grind
 .injection e with _ _ _ _ _ _ _ e _;rw[a.limit_,b.limit_,e]at j;simp at j
 .injection e with _ e _ _ _ _ _ _ _;rw[a.table_,b.table_,e]at g;simp at g
 .injection e with e _ _ _ _ _ _ _ _;rw[a.op_,b.op_,e]at f;simp at f
theorem WE:∀N,cu 217 (ckQ N)
 |0=>by
  refine eR (fn:=Tryz.f217) (c:=cK Tryz.f217) func217 rfl bg ?_;rintro g m h K ⟨v,w,p,q,rfl,D,_,E,_⟩;omega
 |N+1=>by
  have z:cu 231 (b3X N):=by
   refine iB func231 ?_;rintro g m h K ⟨s,t,ps,F,rfl,I,R,E,G⟩;refine⟨a6J N s t ps F m h,rfl,aD (WE N) aF,RD N s t ps F m h K,be,?_⟩;dsimp only[RD,push_cast];have d:=I.slen;have A:=R.slen;have U:=I.len;have S:ps≠F->K (cB false) m h:=λh=>G false ⟨λe=>(by cases e),λe=>(h e).elim⟩;refine aB (λJ=>S (λe=>TP d A J (by rw[e]))) (λJ=>?_);have V:=Pe d A J;refine⟨⟨0,⟨aC,λj hj=>by omega⟩,MT⟩,λi T=>aE (λf=>?_) (λW=>?_)⟩
   .obtain⟨x,H⟩:=eO d f;obtain⟨y,M⟩:∃y,F[i]? =some y:=eO (n:=s.len) aC f;obtain⟨X,Y,u,Z,r1,ru⟩:=I.at H;obtain⟨b2,o2,w,e2,r2,O⟩:=R.at M;refine⟨X,Y,Z,aC,f,u,.imm r1,b2,o2,e2,aC,aC,w,.imm r2,u,w,x,y,rfl,ru,O,E x (bx H),λr D=>aB (λa'=>S (Vv H M (λe=>?_))) (λhe=>?_)⟩
    .grind
    .have Q:r=true:=bk
     exact⟨i+1,⟨aC,Cu H M (D.1 Q) T.2⟩,aC,MT⟩
   .exact G true ⟨λ_=>D5 V aC T.2,λ_=>rfl⟩
  refine iB func217 ?_;rintro g m h K ⟨v,w,p,q,rfl,D,hq,E,G⟩;refine⟨a8X N,rfl,aD Yt (aD HJ (aD Ys (aD Yr (aD z aF)))),LX N v w m h K,be,?_⟩;exact bOQ D hq E G
theorem YB:cu 217 ckX:=tY WE λ_ _ _ _⟨v,w,p,q,e,c,d,f⟩=>⟨SizeOf.sizeOf p+1,v,w,p,q,e,c,d,aC,f⟩
structure Ref where
 columns:dd
 table:Int
structure sZ where
 name:ByteArray
 columns:List lD
 key:Int
 refs:List Ref
 checks:dr
structure j4 where
 version:Int
 tables:List sZ
variable{s:j4}
structure Us(h:PH)(r:Ref)(v:FX):Prop where
 columns:Ints h v.columns r.columns
 table:v.table=r.table
def FZ(h:PH)(s:Sl)(l:List lD):Prop:=bC h 2 lD.enc Eq s l
structure Qj(h:PH)(t:sZ)(v:bR):Prop where
 name:v.name=t.name
 columns:FZ h v.columns t.columns
 key:v.key=t.key
 refs:bC h 2 FX.enc (Us h) v.references t.refs
 checks:GG h v.checks t.checks
structure dM(h:PH)(s:j4)(v:bJ):Prop where
 version:v.version=s.version
 tables:bC h 5 bR.enc (Qj h) v.tables s.tables
theorem Us.mono{r:Ref}{v:FX}(x:Us h r v)(le:PH.le h h'):Us h' r v:=⟨x.columns.mono le,x.table⟩
theorem Qj.mono{t:sZ}{v:bR}(x:Qj h t v)(le:PH.le h h'):Qj h' t v:=
 ⟨x.name,bC.mono x.columns le λ_ _ e=>e,x.key,x.refs.mono le λ_ _ e=>e.mono le,x.checks.mono le⟩
theorem dM.mono{v:bJ}(x:dM h s v)(le:PH.le h h'):dM h' s v:=⟨x.version,x.tables.mono le λ_ _ e=>e.mono le⟩
def lower(c:Nat):Bool:=97<=c&&c<=122
def zD(c:Nat):Bool:=lower c||(48<=c&&c<=57)||c==95
def qN(s:ByteArray):dq:=s.data.toList.map UInt8.toNat
def oY(s:ByteArray):Bool:=1<=s.size&&s.size<=32&&lower ((qN s).headD 0)&&(qN s).all zD
theorem SL(s:ByteArray):(qN s).length=s.size:=by simp[qN]
theorem aSQ{s:ByteArray}{c:Nat}(h:(qN s)[i]? =some c):(s.get! i).toNat=c/\c<256:=by
 simp only[qN,getElem?_map,Option.map_eq_some_iff]at h;obtain⟨b,e,rfl⟩:=h;refine⟨?_,b.toNat_lt⟩
 have f:i<s.data.size:=by
  grind
 have:s.data[i]? =some b:=bk
 cases s with
 |mk d=>
  show(d[i]!).toNat=b.toNat
  grind
theorem Mo{s:ByteArray}(h:(s.get! i).toNat<128):Utf8.decode s i=((s.get! i).toNat,1):=by
 simp only[Utf8.decode,Nat.add_zero];rw[if_pos h]
theorem aRJ{s:ByteArray}(h:¬(s.get! i).toNat<128):128<=(Utf8.decode s i).1:=by
 simp only[Utf8.decode,Nat.add_zero];rw[if_neg h]
 repeat' split
 all_goals simp_all [Utf8.runeError]
 all_goals omega
def Ue(s:ByteArray):CV:=.val (.string s)
def aqX:Vc.Spec:=λc m h K=>∃s,c=[Ue s]/\K (cB (oY s)) m h
noncomputable def beZ(s:ByteArray)(m:MH)(h:PH):Ctx:=
 ctx [] [(4,{A:=Nat×Nat×MH,st:=λx=>bU 44 45 [(15,vv (.pointer (some ⟨x.2.1,0,none⟩)))] [] x.2.2 h,inv:=λx=>x.1<=s.size/\dL m h x.2.1/\gR m x.2.2 x.2.1 (.stringIter s x.1)/\(x.1=0\/lower ((qN s).headD 0)=true)/\((qN s).take x.1).all zD=true,mu:=λx=>s.size-x.1})] [] [] false
noncomputable def bfZ(s:ByteArray)(m:MH)(h:PH):Ctx:=
 ctx [] [Gm 4 (λi=>bU 50 51 [(0,vv (.string s)),(3,iv i)] [] m h) (λi=>i<=s.size/\((qN s).take i).all zD=true) (λi=>s.size-i)] [] [] false
abbrev Oa(a b:(Nat×Nat×MH)->Prop):Prop:=(∃(x:Nat×Nat×MH),a x)/\∀(x:Nat×Nat×MH),b x
abbrev nO(a b c d:Prop):Prop:=aA a b (aA c d True)
noncomputable abbrev kA(a:Nat×Nat×MH):Nat:=a.2.1
noncomputable abbrev gH(a:Nat×Nat×MH):Nat->Option Obj:=a.2.2
abbrev CN(a:Nat×Nat×MH)(b:ByteArray)(c:MH)(d:PH):Prop:=aA (a.1<=b.size) (dL c d (kA a)) (aA (gR c (gH a) (kA a) (Obj.stringIter b a.1)) (a.1=0\/gO (lower (headD (qN b) 0))) (gO (List.all (List.take a.1 (qN b)) zD)))
abbrev eU(a b:Nat):Prop:=sQo a 0=sQo b 0
noncomputable abbrev Ew(a:ByteArray)(b:Nat):Nat:=(Utf8.decode a b).1
abbrev GW(a:(Nat×Nat×MH)->Prop)(b:ByteArray)(c:Nat×Nat×MH)(d:MH)(e:PH):Prop:=∃(x:Nat×Nat×MH),aA (a x) (b.size-x.1<b.size-c.1) (aA (eU (kA c) (kA x)) (d=gH x) (dH e e))
attribute [push_cast] Oa nO kA gH CN eU Ew GW
def Mg(s:ByteArray)(m:MH)(h:PH)(K:dc):Prop:=
  aY (↑s.size:Int) 1 (K aZ m h) (iG (↑s.size:Int) 32 K aZ m h (∀(b:Nat)(e:MH),aR (dL m h b) (gR m e b (Obj.stringIter s 0)) (Oa (λx=>nO (CN x s m h) (eU b (kA x)) (e=gH x) (h=h)) (λx=>CN x s m h->∃(c:ByteArray)(p:Nat),aA (CA (gH x) (kA x) (Obj.stringIter c p)) (c.size<=p->K fB (gH x) h) (p<c.size->∀(d:MH),lA (gR (gH x) d (kA x) (Obj.stringIter c (p+(Utf8.decode c p).2))) (decide ((↑(Ew c p):Int)>=97)) (branch (!(decide ((↑(Ew c p):Int)<=122))) (branch ((↑p:Int)==0) (K aZ d h) (nK (↑(Ew c p):Int) 95 (aY (↑(Ew c p):Int) 48 (K aZ d h) (iG (↑(Ew c p):Int) 57 K aZ d h (GW (λy=>CN y s m h) s x d h))) (GW (λy=>CN y s m h) s x d h))) (GW (λy=>
 CN y s m h) s x d h)) (branch ((↑p:Int)==0) (K aZ d h) (nK (↑(Ew c p):Int) 95 (aY (↑(Ew c p):Int) 48 (K aZ d h) (iG (↑(Ew c p):Int) 57 K aZ d h (GW (λy=>CN y s m h) s x d h))) (GW (λy=>CN y s m h) s x d h))))))))
abbrev NH(a:Prop)(b:ByteArray)(c:Nat)(d:UInt8->UInt8)(e:UInt8->Prop):Prop:=a/\∃(x:UInt8),b.data.toList[c]? =Option.some (d x)/\e x
noncomputable abbrev yI(a:UInt8):Int:=(↑a.toNat:Int)
abbrev An(a:Nat)(b:ByteArray):Prop:=a<=b.size/\gO (List.all (List.take a (qN b)) zD)
abbrev sC(a:Nat):Prop:=dG (↑a:Int)
noncomputable abbrev nL(a:Nat):Nat:=(↑a:Int).toNat
abbrev kK(a b:Int)(c d:Prop):Prop:=branch (decide (a>b)) c d
attribute [push_cast] NH yI An sC nL kK
def Sd(s:ByteArray)(m:MH)(h:PH)(K:dc):Prop:=
  branch ((↑s.size:Int)==0) (K aZ m h) (iG (↑s.size:Int) 32 K aZ m h (NH (dG 0) s 0 (λb=>b) (λb=>aY (↑b.toNat:Int) 97 (K aZ m h) (NH (dG 0) s 0 (λd=>d) (λd=>iG (yI d) 122 K aZ m h (jK (∃(x:Nat),aA (An x s) (eQ (SV.at (Uk s))) (aA (bE x) (m=m) (dH h h))) (λx=>An x s->aY (↑x:Int) (↑s.size:Int) (NH (sC x) s (nL x) (λc=>c) (λc=>aY (↑c.toNat:Int) 97 (aY (↑c.toNat:Int) 48 (oF (yI c !=95) K m h (λy=>aA (An y s) (s.size-y<s.size-x) (aA (eQ (SV.at (Uk s))) (fJ (aW x 1)=bY y) (dP m m h h)))) (kK (yI c) 57 (oF (yI c !=95) K m h (λy=>aA (An y s) (s.size-y<s.size-x) (aA (eQ (SV.at (Uk s))) (fJ (aW x 1)=bY y) (dP m m h h)))) (∃(y:Nat),aA
 (An y s) (s.size-y<s.size-x) (aA (eQ (SV.at (Uk s))) (fJ (aW x 1)=bY y) (dP m m h h))))) (kK (yI c) 122 (aY (↑c.toNat:Int) 48 (oF (yI c !=95) K m h (λy=>aA (An y s) (s.size-y<s.size-x) (aA (eQ (SV.at (Uk s))) (fJ (aW x 1)=bY y) (dP m m h h)))) (kK (yI c) 57 (oF (yI c !=95) K m h (λy=>aA (An y s) (s.size-y<s.size-x) (aA (eQ (SV.at (Uk s))) (fJ (aW x 1)=bY y) (dP m m h h)))) (∃(y:Nat),aA (An y s) (s.size-y<s.size-x) (aA (eQ (SV.at (Uk s))) (fJ (aW x 1)=bY y) (dP m m h h))))) (∃(y:Nat),aA (An y s) (s.size-y<s.size-x) (aA (eQ (SV.at (Uk s))) (fJ (aW x 1)=bY y) (dP m m h h)))))) (K fB m h))))))))
def oG(h:PH)(K:dc):CV->MH->PH->Prop:=λr m' h'=>∃d c,(∀b o,d b=some o->m' b=some o)/\PH.le h c/\PH.le c h'/\K r d c
theorem oG.here{r:CV}(c:K r m h):oG h K r m h:=⟨m,h,λ_ _ e=>e,.refl _,.refl _,c⟩
theorem oG.sub{r:CV}(c:∀b o,m b=some o->m' b=some o)(d:K r m h):oG h K r m' h:=⟨m,h,c,.refl _,.refl _,d⟩
theorem gR.keeps{o:Obj}(f:dL m h b)(g:gR m m' b o):∀b o,m b=some o->m' b=some o:=λd n e=>by
 have c:d≠b:=λj=>by rw[j,f.m_]at e;cases e
 rw[g.other d c,e]
theorem Zk:cu 143 aqX:=by
 refine KC func143 ?_;rintro U m h K ⟨s,rfl,E⟩;refine⟨beZ s m h,rfl,aF,Mg s m h (λr m' h'=>∃u F,(∀b o,u b=some o->m' b=some o)/\PH.le h F/\PH.le F h'/\K r u F),be,?_⟩;show Mg s m h (oG h K);dsimp only[Mg,push_cast];have hl:=SL s;refine aE (λV=>?_) (λV=>aE (λF=>?_) (λF b W D G=>?_))
 .refine .here (jM E ?_);have:¬1<=s.size:=by omega
  simp[oY,this]
 .refine .here (jM E ?_);have:¬s.size<=32:=by omega
  simp[oY,this]
 refine⟨⟨(0,b,W),⟨bf,D,G,.inl rfl,bf⟩,MT⟩,?_⟩;rintro⟨d,b,mx⟩ ⟨X,D,n,g,f⟩;simp only at X D n g f;refine⟨s,d,⟨n.at_⟩,λY=>?_,λZ u H=>?_⟩
 .refine .sub (gR.keeps D n) (jM E ?_);rw[ca aC]at f
  have h3:lower ((qN s).headD 0)=true:=by
   grind
  have O:1<=s.size:=by omega
  have Q:s.size<=32:=by omega
  simp only[oY,f,h3,decide_eq_true O,decide_eq_true Q];rfl
 .have t:=n.trans H;obtain⟨c,M⟩:∃c,(qN s)[d]? =some c:=⟨(qN s)[d]'(by omega),bu _⟩
  obtain⟨T,R⟩:=aSQ M
  have z:d=0->(qN s).headD 0=c:=λe=>by
   subst e;cases a':qN s with
   |nil=>grind
   |cons x l=>grind
  have I:¬((97<=(Utf8.decode s d).1/\(Utf8.decode s d).1<=122)\/(d≠0/\((Utf8.decode s d).1=95\/(48<=(Utf8.decode s d).1/\(Utf8.decode s d).1<=57))))->oG h K (.val (.bool false)) u h:=by
   intro hn;refine .sub (gR.keeps D t) (jM E ?_);by_cases j:(s.get! d).toNat<128
   .rw[Mo j,T]at hn;by_cases S:d=0
    .have:lower c=false:=by
      simp only[lower,Bool.and_eq_false_iff,decide_eq_false_iff_not];omega
     simp only[oY,z S,this,Bool.and_false,Bool.false_and]
    .have:zD c=false:=by
      simp only[zD,lower,Bool.or_eq_false_iff,Bool.and_eq_false_iff,decide_eq_false_iff_not,beq_eq_false_iff_ne];omega
     simp[oY,Og M this]
   .have:zD c=false:=by
     simp only[zD,lower,Bool.or_eq_false_iff,Bool.and_eq_false_iff,decide_eq_false_iff_not,beq_eq_false_iff_ne];omega
    simp[oY,Og M this]
  have J:((97<=(Utf8.decode s d).1/\(Utf8.decode s d).1<=122)\/(d≠0/\((Utf8.decode s d).1=95\/(48<=(Utf8.decode s d).1/\(Utf8.decode s d).1<=57))))->d+1<=s.size/\gR m u b (.stringIter s (d+1))/\lower ((qN s).headD 0)=true/\((qN s).take (d+1)).all zD=true:=by
   intro A
   have j:(s.get! d).toNat<128:=by
    refine Decidable.byContradiction λj=>?_;have:=aRJ j;omega
   rw[Mo j]at t;rw[Mo j,T]at A;simp only at A;refine⟨aC,t,?_,?_⟩
   .rcases g with e|e
    .rw[z e];simp only[lower,cg,cm];omega
    .exact e
   .rw[Ct M,f];simp only[zD,lower,Bool.true_and,Bool.or_eq_true,cg,cm,beq_iff_eq];omega
  have next:((97<=(Utf8.decode s d).1/\(Utf8.decode s d).1<=122)\/(d≠0/\((Utf8.decode s d).1=95\/(48<=(Utf8.decode s d).1/\(Utf8.decode s d).1<=57))))->_:=λA=>(⟨(d+1,b,u),⟨(J A).1,D,(J A).2.1,.inr (J A).2.2.1,(J A).2.2.2⟩,aC,MT⟩:∃(y:Nat×Nat×MH),(y.fst<=s.size/\dL m h y.snd.fst/\gR m y.snd.2 y.snd.fst (Obj.stringIter s y.fst)/\(y.fst=0\/lower ((qN s).headD 0)=true)/\(List.take y.fst (qN s)).all zD=true)/\s.size-y.fst<s.size-d/\SV.at (At.val (Value.pointer (some (Addr.mk b 0 none))))=SV.at (At.val (Value.pointer (some (Addr.mk y.snd.fst 0 none))))/\u=y.snd.2/\h=h/\True)
  clear J t H f g z n G E
  repeat' (first|(refine aB (λ_=>?_) (λ_=>?_))|exact I (by simp only[cm,decide_eq_false_iff_not,bne_iff_ne,ne_eq,beq_iff_eq,beq_eq_false_iff_ne,bne_eq_false_iff_eq,Bool.not_eq_true',Bool.not_eq_false']at*;omega)|exact next (by simp only[cm,decide_eq_false_iff_not,bne_iff_ne,ne_eq,beq_iff_eq,beq_eq_false_iff_ne,bne_eq_false_iff_eq,Bool.not_eq_true',Bool.not_eq_false']at*;omega))
theorem Zo:cu 137 aqX:=by
 refine iB func137 ?_;rintro I m h K ⟨s,rfl,j⟩;refine⟨bfZ s m h,rfl,aF,Sd s m h K,be,?_⟩;dsimp only[Sd,push_cast];have T:=SL s;refine aB (λu=>jM j ?_) (λu=>aE (λJ=>jM j ?_) (λJ=>?_))
 .have:¬1<=s.size:=by have:(s.size:Int)=0:=(br u);omega
  simp[oY,this]
 .have:¬s.size<=32:=by omega
  simp[oY,this]
 have u:s.size≠0:=by intro e;rw[e]at u;simp at u
 obtain⟨t,d⟩:∃c,s.data.toList[0]? =some c:=⟨s.data.toList[0]'(by simpa using(by omega:0<s.size)),bu _⟩
 have g:(qN s).headD 0=t.toNat:=by
  unfold qN;cases z:s.data.toList with
  |nil=>rw[z]at d;simp at d
  |cons x l=>rw[z]at d;simp at d;simp[d]
 refine⟨aC,t,d,aE (λM=>jM j ?_) (λM=>⟨aC,t,d,aE (λO=>jM j ?_) (λO=>?_)⟩)⟩
 .have:lower t.toNat=false:=by simp only[lower,Bool.and_eq_false_iff,decide_eq_false_iff_not];omega
  simp only[oY,g,this,Bool.and_false,Bool.false_and]
 .have:lower t.toNat=false:=by simp only[lower,Bool.and_eq_false_iff,decide_eq_false_iff_not];omega
  simp only[oY,g,this,Bool.and_false,Bool.false_and]
 refine⟨⟨0,⟨aC,bf⟩,MT⟩,λi D=>aE (λQ=>?_) (λR=>jM j ?_)⟩
 .obtain⟨c,H⟩:∃c,s.data.toList[i]? =some c:=⟨s.data.toList[i]'(by simpa using(by omega:i<s.size)),bu _⟩
  have n:(qN s)[i]? =some c.toNat:=by simp[qN,H]
  have f:zD c.toNat=false->K (.val (.bool false)) m h:=λe=>jM j (by simp[oY,Og n e]);have next:zD c.toNat=true->∃(y:Nat),(y<=s.size/\(List.take y (qN s)).all zD=true)/\s.size-y<s.size-i/\SV.at (At.val (Value.string s))=SV.at (At.val (Value.string s))/\SV.at (At.val (Value.int IntKind.i64 (IntKind.i64.wrap ((i:Int)+1))))=SV.at (At.val (Value.int IntKind.i64 (y:Int)))/\m=m/\h=h/\True:=λe=>⟨i+1,⟨aC,by rw[Ct n,D.2,e];rfl⟩,aC,MT⟩
  have A:zD c.toNat=true↔(97<=c.toNat/\c.toNat<=122)\/(48<=c.toNat/\c.toNat<=57)\/c.toNat=95:=by
   simp only[zD,lower,Bool.or_eq_true,cg,cm,beq_iff_eq];omega
  have E:zD c.toNat=false↔¬((97<=c.toNat/\c.toNat<=122)\/(48<=c.toNat/\c.toNat<=57)\/c.toNat=95):=by
   rw[<-A];simp
  refine⟨aC,c,br H,?_⟩;clear j D g n E;rw[A]at next
  have f:=λe=>f (by rw[<-Bool.not_eq_true,A];exact e);clear A
  repeat' (first|(refine aB (λ_=>?_) (λ_=>?_))|exact f (by simp only[cm,decide_eq_false_iff_not,bne_iff_ne,ne_eq,beq_iff_eq,beq_eq_false_iff_ne,bne_eq_false_iff_eq,Bool.not_eq_true',Bool.not_eq_false']at*;omega)|exact next (by simp only[cm,decide_eq_false_iff_not,bne_iff_ne,ne_eq,beq_iff_eq,beq_eq_false_iff_ne,bne_eq_false_iff_eq,Bool.not_eq_true',Bool.not_eq_false']at*;omega))
 .have:=D.2;rw[ca aC]at this;have S:lower t.toNat=true:=by simp only[lower,cg,cm];omega
  have F:1<=s.size:=by omega
  have G:s.size<=32:=by omega
  simp only[oY,this,g,S,decide_eq_true F,decide_eq_true G];rfl
end Go.Ps
