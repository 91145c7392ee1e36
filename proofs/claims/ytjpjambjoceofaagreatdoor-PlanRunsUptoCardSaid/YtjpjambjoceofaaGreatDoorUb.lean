/- Own work. -/
import Derived.MapKept
import Derived.Maps.RangeRun
import Derived.Test.YtjpjambjoceofaaGreatDoorProg
import Derived.IntWalk
import Derived.ChangeKeysEq
import Derived.Test.YtjpjambjoceofaaGreatDoorUa
set_option linter.unusedVariables false
set_option linter.unusedSimpArgs false
namespace Go.Vc
open Go List
section
variable{B:tI}{C:Ctx}{ι:du}{σ:St}{a:Act}{w:World}{o:Oper}{K:St->Prop}
theorem bcZ(f:aL B ι σ a w)(ob:Obj):
 aL B ι {σ with m:=λb=>if b=w.heap.size then some ob else σ.m b} a (w.alloc ob)/\lZ σ.m σ.h w.heap.size/\∀o,Js σ ι o w (w.alloc ob):=by
 have d:=f.wrel
 have l:lZ σ.m σ.h w.heap.size:=by
  constructor
  .cases e:σ.m w.heap.size with
   |none=>rfl
   |some x=>have:=(Array.getElem?_eq_some_iff.1 (d.msat _ _ e)).1;omega
  .intro i;cases e:σ.h w.heap.size i with
   |none=>rfl
   |some x=>have:=World.block_lt_of_cell? w ⟨w.heap.size,i,none⟩ (d.hsat _ _ _ e);grind
 have q:(w.alloc ob).heap.size=w.heap.size+1:=by show(w.heap.push ob).size=_;simp
 refine⟨⟨f.slots,f.defers,λk n j=>(f.own k n j).world (λb c=>fG w ob (rC (f.own k n j) c)),f.dist,?_,?_,f.one⟩,l,λo=>⟨?_,?_,λ_ b c=>fG w ob c,λ_ b _ c _ _=>fG w ob c⟩⟩
 .intro k n b j c;obtain⟨y,z,A⟩:=f.fresh k n b j c;have s:=rC (f.own k n j) c
  grind
 .refine⟨d.tape,d.os,d.output,d.drawn,by rw[q];exact Nat.le_succ_of_le d.size,?_,?_,?_,?_,d.hle,d.hold,?_⟩
  .intro b c t;rw[fG w ob (dh c d.size)];exact d.frame b c t
  .intro b i v r;have g:=d.hsat b i v r;rw[<-g];exact World.cell?_of_block (w:=w) (w':=w.alloc ob) (a:=⟨b,i,none⟩) (fG w ob (World.block_lt_of_cell? w ⟨b,i,none⟩ g))
  .intro b x c;have c:(if b=w.heap.size then some ob else σ.m b)=some x:=c;by_cases e:b=w.heap.size
   .rw[if_pos e]at c;rw[e,kC];exact c
   .rw[if_neg e]at c;have g:=d.msat b x c;rw[fG w ob (Array.getElem?_eq_some_iff.1 g).1];exact g
  .intro b x c i;have c:(if b=w.heap.size then some ob else σ.m b)=some x:=c;by_cases e:b=w.heap.size
   .rw[e];exact l.h_ i
   .rw[if_neg e]at c;exact d.disj b x c i
  .intro b x c;have c:(if b=w.heap.size then some ob else σ.m b)=some x:=c;by_cases e:b=w.heap.size
   .left;rw[e];exact d.size
   .rw[if_neg e]at c;exact d.mfr b x c
 .intro k p T D b j _ u;exact fG w ob (rC (f.own k _ j) (by rw[u];rfl))
 .intro b i v r;have g:=d.hsat b i v r;rw[<-g];exact World.cell?_of_block (w:=w) (w':=w.alloc ob) (a:=⟨b,i,none⟩) (fG w ob (World.block_lt_of_cell? w ⟨b,i,none⟩ g))
theorem VE(n:aL B ι σ a w){b:Nat}{u ob:Obj}(s:σ.m b=some u):
 aL B ι {σ with m:=λc=>if c=b then some ob else σ.m c} a {w with heap:=w.heap.setIfInBounds b ob}/\∀o,A2 o.op=false->Js σ ι o w {w with heap:=w.heap.setIfInBounds b ob}:=by
 have g:=n.wrel;have y:b<w.heap.size:=(Array.getElem?_eq_some_iff.1 (g.msat _ _ s)).1
 have f:∀c,c≠b->(w.heap.setIfInBounds b ob)[c]? =w.heap[c]? :=λc l=>by
  grind
 have z:(w.heap.setIfInBounds b ob)[b]? =some ob:=by simp[y]
 have t:∀k q,nth σ.own k=some (some q)->blk (ι k)≠some b:=by
  intro k q r E;have:=(n.fresh k q b r E).2.1
  grind
 have j:∀c i v,σ.h c i=some v->({w with heap:=w.heap.setIfInBounds b ob}:World).cell? ⟨c,i,none⟩=some v:=by
  intro c i v A;have l:c≠b:=λe=>by subst e;rw[g.disj c _ s i]at A;cases A
  have D:=g.hsat c i v A;rw[<-D];exact World.cell?_of_block (w:=w) (w':={w with heap:=w.heap.setIfInBounds b ob}) (a:=⟨c,i,none⟩) (f c l)
 refine⟨⟨n.slots,n.defers,λk q r=>(n.own k q r).world (λc d=>f c (λe=>t k q r (e▸d))),n.dist,?_,?_,n.one⟩,λo H=>⟨?_,j,λh=>cg,λ_ c _ _ I _=>f c (λe=>cg)⟩⟩
 .intro k q c r d;obtain⟨J,L,M⟩:=n.fresh k q c r d
  grind
 .refine⟨g.tape,g.os,g.output,g.drawn,cm g.size,?_,j,?_,?_,g.hle,g.hold,?_⟩
  .intro c d F
   have l:c≠b:=λe=>by
    subst e;rcases g.mfr c _ s with D|D
    .omega
    grind
   rw[f c l];exact g.frame c d F
  .intro c x d;have d:(if c=b then some ob else σ.m c)=some x:=d;by_cases e:c=b
   .grind
   .rw[if_neg e]at d;rw[f c e];exact g.msat c x d
  .intro c x d i;have d:(if c=b then some ob else σ.m c)=some x:=d;by_cases e:c=b
   .rw[e];exact g.disj b _ s i
   .rw[if_neg e]at d;exact g.disj c _ d i
  .intro c x d;have d:(if c=b then some ob else σ.m c)=some x:=d;by_cases e:c=b
   .rw[e];exact g.mfr b _ s
   .rw[if_neg e]at d;exact g.mfr c _ d
 .intro k p T N c r _ G;exact f c (λe=>t k _ r (by rw[G,e];rfl))
theorem Rh(g:aL B ι σ a w){t:Nat}{r:Option Operand}(i:o.op= .makeMap t r)(h:LX o r σ K):Vi B C ι o σ K a w:=by
 intro next Q b
 unfold LX at h;split at h
 .obtain⟨d,e,j⟩:=bcZ g (.map #[] 0)
  have c:(execOp a.eval o).run C.P w= .ok (.value (.map (some w.heap.size))) (w.alloc (.map #[] 0)):=by
   unfold execOp;simp[i,Instr.makeMap]
  unfold Oper.wp;rw[c,Oper.upon_value];exact b ι _ _ _ (d.put o.dst (x:=.at (.val (.map (some w.heap.size)))) rfl) (h w.heap.size _ e ⟨bx,λk f=>by simp[f]⟩) (j o)
 grind
theorem aL.drew{B:tI}{ι:du}{σ:St}{a:Act}{w:World}(h:aL B ι σ a w)(k:Nat)(c:w.drawn<=k):aL B ι σ a {w with drawn:=k}:=by
 refine⟨h.slots,h.defers,λj o d=>(h.own j o d).world (λ_ _=>rfl),h.dist,h.fresh,?_,h.one⟩;have b:=h.wrel;exact⟨b.tape,b.os,b.output,dg b.drawn c,b.size,b.frame,b.hsat,b.msat,b.disj,b.hle,b.hold,b.mfr⟩
theorem zB{α:Type}{l:List α}{j:Nat}{x:α}(h:l[j]? =some x):l=l.take j++x::l.drop (j+1):=by
 have b:=(cn h);have e:=(List.getElem?_eq_some_iff.1 h).2;rw[<-e, <-drop_eq_getElem_cons b,take_append_drop]
theorem VK(n:aL B ι σ a w){t:Nat}{x:Operand}(v:o.op= .range t x)(h:Uk C o t x σ K):Vi B C ι o σ K a w:=by
 intro next Q f
 have d:=n.ev x;unfold Uk at h;split at h
 .rename_i s p q;rw[q]at d;have d:a.eval x= .string s:=d;obtain⟨j,k,r⟩:=bcZ n (.stringIter s 0)
  have g:(execOp a.eval o).run C.P w= .ok (.value (.pointer (some ⟨w.heap.size,0,none⟩))) (w.alloc (.stringIter s 0)):=by
   unfold execOp;simp[v,d,Instr.range,run_underlying p]
  unfold Oper.wp;rw[g,Oper.upon_value];exact f ι _ _ _ (j.put o.dst (x:=.at (.val (.pointer (some ⟨w.heap.size,0,none⟩)))) rfl) (h w.heap.size _ k ⟨bx,λy l=>by simp[l]⟩) (r o)
 .rename_i G H b p q;rw[q]at d;have d:a.eval x= .map (some b):=d;obtain⟨z,⟨A,c,D,m,i,u⟩,h⟩:=h;have E:=n.wrel.msat b _ D;obtain⟨j,k,r⟩:=bcZ n (.mapIter (some b) c #[] c)
  have g:(execOp a.eval o).run C.P w= .ok (.value (.pointer (some ⟨w.heap.size,0,none⟩))) (w.alloc (.mapIter (some b) c #[] c)):=by
   unfold execOp;simp[v,d,Instr.range,run_underlying p,MapKept.run_getObj_map E,Result.andThen]
  unfold Oper.wp;rw[g,Oper.upon_value];have F:b≠w.heap.size:=λe=>cg
  refine f ι _ _ _ (j.put o.dst (x:=.at (.val (.pointer (some ⟨w.heap.size,0,none⟩)))) rfl) (h w.heap.size _ k ⟨λy l=>by simp[l]⟩ ⟨A,c,c, #[],c,?_,m,i,u,bx,i,Nat.le_refl _,Nat.le_refl _,?_⟩) (r o)
  .grind
  .rw[<-m];congr 1;exact filter_eq_self.2 (λ_ _=>bx)
 grind
theorem Yp(t:aL B ι σ a w){x:Operand}{st:Bool}(N:o.op= .next x st)(h:Yq o x st σ K):Vi B C ι o σ K a w:=by
 intro next Q k
 have i:=t.ev x;unfold Yq at h;split at h
 .rename_i b O;rw[O]at i;have i:a.eval x= .pointer (some ⟨b,0,none⟩):=i;obtain⟨s,p,hm,W,X⟩:=h;have hg:=t.wrel.msat b _ hm.at_;by_cases u:p<s.size
  .obtain⟨F,Y⟩:=VE (ob:=.stringIter s (p+(Utf8.decode s p).2)) t hm.at_
   have d:(execOp a.eval o).run C.P w= .ok (.value (.tuple #[.bool true,.int .i64 p,.int .i32 (Utf8.decode s p).1])) {w with heap:=w.heap.setIfInBounds b (.stringIter s (p+(Utf8.decode s p).2))}:=by
    unfold execOp;simp[N,i,Instr.next,getObj,setObj,Sem.run,hg,u,goInt,Result.andThen]
   unfold Oper.wp;rw[d,Oper.upon_value];refine k ι _ _ _ (F.put o.dst (x:=.tup _) ?_) (X u _ ⟨bx,λb' G=>by simp[G]⟩) (Y o (by rw[N];rfl));exact⟨_,rfl,rfl,rfl,rfl,trivial⟩
  .have d:(execOp a.eval o).run C.P w= .ok (.value (.tuple #[.bool false])) w:=by
    unfold execOp;simp[N,i,Instr.next,getObj,Sem.run,hg,u,Result.andThen]
   unfold Oper.wp;rw[d,Oper.upon_value];refine k ι _ _ _ (t.put o.dst (x:=.tup _) ?_) (W aC) (lP t);exact⟨_,rfl,rfl,trivial⟩
 .rename_i r O;rw[O]at i;have i:a.eval x= .pointer (some ⟨r,0,none⟩):=i;obtain⟨b,a3,left,⟨l,f,g,c,c0,Z,a',H,I,R,y,a0,z,J⟩,W,X⟩:=h;have a1:=t.wrel.msat b _ Z;have a2:=t.wrel.msat r _ R;rcases run_next_at (P:=C.P) w o.type r b g c0 c l f a2 a1 y a0 with⟨h0,d⟩|⟨e,he,w1,hw1,d⟩
  .have hl:left=[]:=by
    rw[<-J];have:(leftOf l c).toList=[]:=cg
    unfold leftOf at this
    grind
   have d:(execOp a.eval o).run C.P w= .ok (.value (.tuple #[.bool false])) w:=by
    unfold execOp;simp[N,i,d,Result.andThen]
   unfold Oper.wp;rw[d,Oper.upon_value];refine k ι _ _ _ (t.put o.dst (x:=.tup _) ?_) (W hl) (lP t);exact⟨_,rfl,rfl,trivial⟩
  .have M:∃n,aL B ι σ a w1/\w1={w with drawn:=n}:=by
    rcases hw1 with rfl|rfl
    .grind
    .exact⟨w.drawn+1,t.drew (w.drawn+1) (Nat.le_succ _),rfl⟩
   obtain⟨n,M,S⟩:=M;obtain⟨F,Y⟩:=VE (ob:=.mapIter (some b) g (c.push e.born) f) M R
   have d:(execOp a.eval o).run C.P w= .ok (.value (.tuple #[.bool true,e.key,e.val])) {w1 with heap:=w1.heap.setIfInBounds r (.mapIter (some b) g (c.push e.born) f)}:=by
    unfold execOp;simp[N,i,d,Result.andThen,ChangeMaps.setBlock]
   have T:e∈l.toList.filter λe=> !c.contains e.born:=by
    unfold leftOf at he
    grind
   have U:e∈l.toList:=(mem_filter.1 T).1;obtain⟨j,hj⟩:=getElem?_of_mem T;have v:=zB hj;have a4:r≠b:=λe=>cg
   have q:(((l.toList.filter λe=> !c.contains e.born)).map (·.born)).Nodup:=I.sublist (filter_sublist.map _)
   have V:l.toList.filter (λx=> !(c.push e.born).contains x.born)=(l.toList.filter λe=> !c.contains e.born).take j++(l.toList.filter λe=> !c.contains e.born).drop (j+1):=by
    have h3:l.toList.filter (λx=> !(c.push e.born).contains x.born)=(l.toList.filter λe=> !c.contains e.born).filter λx=>x.born !=e.born:=by
     rw[filter_filter]
     grind
    rw[h3];generalize (l.toList.filter λe=> !c.contains e.born)=L at v q hj;have u:=(cn hj);generalize L.take j=A at v;generalize L.drop (j+1)=D at v;subst v;simp only[cv,map_cons,nodup_append,nodup_cons,mem_map,mem_cons]at q;obtain⟨_,⟨a5,_⟩,a6⟩:=q;rw[filter_append,filter_cons];simp only[bne_self_eq_false,Bool.false_eq_true,if_false];congr 1
    .refine filter_eq_self.2 λx O=>?_
     grind
    .refine filter_eq_self.2 λx O=>?_
     grind
   unfold Oper.wp;rw[d,Oper.upon_value];have E:(if b=r then some (Obj.mapIter (some b) g (c.push e.born) f)else σ.m b)=some (.map l f):=cg
   refine k ι _ _ _ (F.put o.dst (x:=.tup _) ?_) (X (((l.toList.filter λe=> !c.contains e.born).take j).map λe=>(e.key,e.val)) (e.key,e.val) (((l.toList.filter λe=> !c.contains e.born).drop (j+1)).map λe=>(e.key,e.val)) ?_ _ ⟨λb' G=>by simp[G]⟩ ⟨⟨l,f,g,c.push e.born,f,E,a',H,I,bx,y,z,z,?_⟩,l,f,g,c,e,E,I,bx,U,rfl⟩) ?_
   .exact⟨_,rfl,rfl,rfl,rfl,trivial⟩
   .grind
   .grind
   .have:=Y o (by rw[N];rfl);subst S;exact⟨this.cells,this.imm,this.ext,this.args⟩
 grind
theorem Xp(j:aL B ι σ a w){x:Operand}(q:o.op= .entry x)(h:UN C o x σ K):Vi B C ι o σ K a w:=by
 intro next Q f
 have d:=j.ev x;unfold UN at h;split at h
 .rename_i r t;rw[t]at d;have d:a.eval x= .pointer (some ⟨r,0,none⟩):=d;obtain⟨b,u,left,x,⟨_,v,g,i,k,e,l,m,n,y,rfl⟩,h⟩:=h;have c:=run_entry_at (P:=C.P) w r b i k v g e (j.wrel.msat r _ n) (j.wrel.msat b _ l) y m
  have c:(execOp a.eval o).run C.P w= .ok (.value (.tuple #[e.key,e.val])) w:=by
   unfold execOp;simp[q,d,c,Result.andThen]
  have h:K (σ.put o.dst (.tup [.inl (.val e.key),.inl (.val e.val)])):=by
   split at h
   .obtain⟨s,p,h⟩:=h;have p:e.val=Sl.val s:=p;rw[p];exact h
   .exact h
  unfold Oper.wp;rw[c,Oper.upon_value];refine f ι _ _ _ (j.put o.dst (x:=.tup _) ?_) h (lP j);exact⟨_,rfl,rfl,rfl,trivial⟩
 grind
theorem Gq{P:Program}{g:TypeId}{Ok:Value->Prop}(L:KeyLaw P g Ok){k:Value}(p:Ok k)(w:World):∀(b:List MapEntry)(i:Nat),(∀e∈b,Ok e.key)->
 ((∀e∈b,e.key≠k)/\(Instr.findAsking g k b i).run P w= .ok none w)\/∃j e,b[j]? =some e/\e.key=k/\(Instr.findAsking g k b i).run P w= .ok (some (i+j,e.val)) w
 |[],i,_=>.inl ⟨λe q=>(by cases q),by simp[Instr.findAsking]⟩
 |e::b,i,c=>by
  obtain⟨r,l,m⟩:=L.eq k e.key w p (c e bx);cases r with
  |true=>exact .inr ⟨0,e,rfl,(m.1 rfl).symm,by simp[Instr.findAsking,l]⟩
  |false=>
   have s:e.key≠k:=λh=>cg
   rcases Gq L p w b (i+1) (λf d=>c f (by simp[d]))with⟨t,n⟩|⟨j,f,t,n,u⟩
   .refine .inl ⟨λf d=>?_,by simp[Instr.findAsking,l,n]⟩
    grind
   .exact .inr ⟨j+1,f,cg,n,by simp[Instr.findAsking,l,u];omega⟩
theorem findNow_spec{P:Program}{p:TypeId}{Ok:Value->Prop}(L:KeyLaw P p Ok){d:TypeDesc}(f:P.underlying p=some d){k:Value}(g:Ok k):∀(c:List MapEntry)(i:Nat)(r:Option (Nat×Value)),(∀e∈c,Ok e.key)->
 Instr.findNow d k c i=some r->((∀e∈c,e.key≠k)/\r=none)\/∃j e,c[j]? =some e/\e.key=k/\r=some (i+j,e.val)
 |[],i,r,_,h=>by
  simp[Instr.findNow]at h
  grind
 |e::c,i,r,b,h=>by
  simp only[Instr.findNow]at h;split at h
  .rename_i l;simp only[cw]at h;exact .inr ⟨0,e,rfl,((L.now d k e.key true f g (b e bx) l).1 rfl).symm,cg⟩
  .rename_i l;have s:e.key≠k:=λt=>by have:=(L.now d k e.key false f g (b e bx) l).2 t.symm;cases this
   rcases findNow_spec L f g c (i+1) r (λm n=>b m (by simp[n])) h with⟨u,q⟩|⟨j,m,u,q,v⟩
   .grind
   .exact .inr ⟨j+1,m,cg,q,cg⟩
  .cases h
theorem run_findKey{P:Program}{f:TypeId}{Ok:Value->Prop}(L:KeyLaw P f Ok){k:Value}(m:Ok k)(w:World)(b:List MapEntry)(g:∀e∈b,Ok e.key):
 ((∀e∈b,e.key≠k)/\(Instr.findKey f k b).run P w= .ok none w)\/∃j e,b[j]? =some e/\e.key=k/\(Instr.findKey f k b).run P w= .ok (some (j,e.val)) w:=by
 obtain⟨d,h⟩:=L.under;cases i:Instr.findNow d k b 0 with
 |some r=>
  have c:(Instr.findKey f k b).run P w= .ok r w:=by simp[Instr.findKey,run_underlying h,i]
  rcases findNow_spec L h m b 0 r g i with⟨l,rfl⟩|⟨j,e,l,n,rfl⟩
  .grind
  grind
 |none=>
  have c:(Instr.findKey f k b).run P w=(Instr.findAsking f k b).run P w:=by simp[Instr.findKey,run_underlying h,i]
  rw[c];rcases Gq L m w b 0 g with⟨l,n⟩|⟨j,e,l,n,p⟩
  .grind
  grind
theorem Vl{P:Program}{T:TypeId}{z:Value}(h:T4 P T=some z)(w:World):(zeroValue T).run P w= .ok z w:=by
 unfold T4 at h;split at h
 .rename_i i d;split at h
  .rename_i k n c;simp only[cw]at h;subst h;simp[zeroValue,typeInfo,d,c]
  .rename_i b c;simp only[cw]at h;subst h;simp[zeroValue,typeInfo,d,c]
  .rename_i c;simp only[cw]at h;subst h;simp[zeroValue,typeInfo,d,c]
  .cases h
 .cases h
theorem Ut(i:aL B ι σ a w){t:Nat}{x k:Operand}{ok:Bool}(I:o.op= .lookup t x k ok)(h:PB C o t x k ok σ K):Vi B C ι o σ K a w:=by
 intro next Q c
 have d:=i.ev x;unfold PB at h;split at h
 .rename_i kt A b J M U D;rw[U]at d;have d:a.eval x= .map (some b):=d;have n:a.eval k=J:=(i.ev k).val? D;split at h
  .rename_i z V;obtain⟨q,Ok,⟨m,E,W,X⟩,L,r,N,l,s⟩:=h;have O:=i.wrel.msat b _ W
   have v:∀e∈m.toList,∃p∈q,e.key=p.1/\e.val=only ((C.dec A).enc p.2):=by
    intro e F
    have:(e.key,e.val)∈q.map λp=>(p.1,only ((C.dec A).enc p.2)):=by
     grind
    grind
   have y:∀e∈m.toList,Ok e.key:=λe F=>by
    grind
   have g:=L.check J w m.isEmpty r;unfold Oper.wp;rcases run_findKey L r w m.toList y with⟨R,S⟩|⟨j,e,R,S,Y⟩
   .have f:(execOp a.eval o).run C.P w= .ok (.value (if ok then .tuple #[z,.bool false]else z)) w:=by
     unfold execOp;simp[I,d,n,Instr.lookup,run_underlying M,MapKept.run_getObj_map O,g,S,Vl V,Result.andThen]
    rw[f,Oper.upon_value];refine c ι _ _ _ (i.put o.dst ?_) (l ?_) (lP i)
    .cases ok
     .rfl
     .exact⟨_,rfl,rfl,rfl,trivial⟩
    .intro p Z e1
     have:(p.1,only ((C.dec A).enc p.2))∈m.toList.map λe=>(e.key,e.val):=by
      grind
     grind
   .have F:e∈m.toList:=cr R;obtain⟨p,Z,e1,G⟩:=v e F
    have f:(execOp a.eval o).run C.P w= .ok (.value (if ok then .tuple #[e.val,.bool true]else e.val)) w:=by
     unfold execOp;simp[I,d,n,Instr.lookup,run_underlying M,MapKept.run_getObj_map O,g,Y,Result.andThen]
    have T:=s p.2 cg;rw[f,Oper.upon_value];split at T
    .rename_i u H;rw[H]at G;refine c ι _ _ _ (i.put o.dst ?_) T (lP i);cases ok
     .exact G
     .exact⟨_,rfl,G,rfl,trivial⟩
    grind
  grind
 grind
theorem ND(i:aL B ι σ a w){t:Nat}{x k v:Operand}(I:o.op= .mapUpdate t x k v)(l:o.dst=none)(h:Dw C t x k v σ K):Vi B C ι o σ K a w:=by
 intro next Q f
 have d:=i.ev x;unfold Dw at h;split at h
 .rename_i Y Z b m u S T z U;rw[T]at d;have d:a.eval x= .map (some b):=d;have A:a.eval k=m:=(i.ev k).val? z;have D:a.eval v=u:=(i.ev v).val? U;obtain⟨E,Ok,⟨g,c,J,F⟩,L,n,p,M,V⟩:=h;have N:=i.wrel.msat b _ J;have q:∀e∈g.toList,(e.key,e.val)∈E:=λe O=>cg
  have r:∀e∈g.toList,Ok e.key:=λe O=>p _ (q e O);have s:=L.check m w false n;rcases run_findKey L n w g.toList r with⟨W,R⟩|⟨j,e,W,R,h3⟩
  .obtain⟨G,X⟩:=VE (ob:=.map (g.push {key:=m,val:=u,born:=c}) (c+1)) i J
   have y:(execOp a.eval o).run C.P w= .ok .skip {w with heap:=w.heap.setIfInBounds b (.map (g.push {key:=m,val:=u,born:=c}) (c+1))}:=by
    unfold execOp;simp[I,d,A,D,Instr.mapUpdate,run_underlying S,MapKept.run_getObj_map N,MapKept.run_setObj_map _ N,s,R,Result.andThen]
   unfold Oper.wp;rw[y,Oper.upon_skip,show a.put o.dst undef=a by rw[l];rfl];refine f ι _ _ _ G (V _ ⟨λb' H=>by simp[H]⟩ ⟨g.push {key:=m,val:=u,born:=c},c+1,bx,?_⟩) (X o (by rw[I];rfl));simp[F]
  grind
 grind
theorem Us(y:aL B ι σ a w){t:Nat}{x k v:Operand}(M:o.op= .mapUpdate t x k v)(m:o.dst=none)(h:KN C t x k v σ K):Vi B C ι o σ K a w:=by
 intro next Q f
 have g:=y.ev x;unfold KN at h;split at h
 .rename_i kt et b l u hu hx O hv;rw[hx]at g;have g:a.eval x= .map (some b):=g;have z:a.eval k=l:=(y.ev k).val? O;have A:a.eval v=u:=(y.ev v).val? hv;obtain⟨R,Ok,⟨d,c,S,T,U,a0⟩,L,D,q,E,F,G⟩:=h;have N:=y.wrel.msat b _ S;have H:∀e∈d.toList,(e.key,e.val)∈R:=λe V=>cg
  have I:∀e∈d.toList,Ok e.key:=λe V=>E _ (H e V);have n:=L.check l w false D;rcases run_findKey L D w d.toList I with⟨W,X⟩|⟨j,e,W,X,h3⟩
  .obtain⟨r,Y⟩:=VE (ob:=.map (d.push {key:=l,val:=u,born:=c}) (c+1)) y S
   have i:(execOp a.eval o).run C.P w= .ok .skip {w with heap:=w.heap.setIfInBounds b (.map (d.push {key:=l,val:=u,born:=c}) (c+1))}:=by
    unfold execOp;simp[M,g,z,A,Instr.mapUpdate,run_underlying hu,MapKept.run_getObj_map N,MapKept.run_setObj_map _ N,n,X,Result.andThen]
   unfold Oper.wp;rw[i,Oper.upon_skip,show a.put o.dst undef=a by rw[m];rfl];refine f ι _ _ _ r (F (λp hp e1=>?_) _ ⟨λb' s=>by simp[s]⟩ ⟨d.push {key:=l,val:=u,born:=c},c+1,bx,by simp[T],λe V=>?_,?_⟩) (Y o (by rw[M];rfl))
   .grind
   .grind
   grind
  .have J:=(cn W);have Z:d[j]? =some e:=cg
   obtain⟨r,Y⟩:=VE (ob:=.map (d.modify j λe=>{e with key:=l,val:=u}) c) y S
   have i:(execOp a.eval o).run C.P w= .ok .skip {w with heap:=w.heap.setIfInBounds b (.map (d.modify j λe=>{e with key:=l,val:=u}) c)}:=by
    unfold execOp;simp[M,g,z,A,Instr.mapUpdate,run_underlying hu,MapKept.run_getObj_map N,MapKept.run_setObj_map _ N,n,h3,Z,X,Instr.keyThatStays,q,Result.andThen]
   have a':(d.modify j λe=>{e with key:=l,val:=u}).toList=d.toList.take j++{e with key:=l,val:=u}::d.toList.drop (j+1):=by
    rw[Array.toList_modify,modify_eq_take_cons_drop J]
    grind
   have a1:=zB W;unfold Oper.wp;rw[i,Oper.upon_skip,show a.put o.dst undef=a by rw[m];rfl];refine f ι _ _ _ r (G ((d.toList.take j).map λe=>(e.key,e.val)) e.val ((d.toList.drop (j+1)).map λe=>(e.key,e.val)) ?_ _ ⟨λb' s=>by simp[s]⟩ ⟨d.modify j λe=>{e with key:=l,val:=u},c,bx,?_,?_,?_⟩) (Y o (by rw[M];rfl))
   .grind
   .grind
   .grind
   grind
 grind
end
end Go.Vc
namespace Go.Vc
open Go List
section
variable{B:tI}{C:Ctx}{ι:du}{σ:St}{a:Act}{w:World}{o:Oper}{K:St->Prop}
theorem baZ(g:aL B ι σ a w)(p:F8 o.op=true)(h:Rf C o σ K):U5 C ι o σ K a w:=by
 unfold Rf at h;cases j:o.op<;>simp only[j]at h p
 case move x=>exact Pz g (.inl j) h
 case assign x=>exact Pz g (.inr j) h
 case pick c x y=>exact Yh g j h
 case build T ps=>exact XB g j h
 case load T x=>exact Yr g j h
 case nilCheck x=>exact Pn g j h
 case binOp op tx x y ty=>
  cases op
  case eql=>
   simp only at h;split at h
   .exact Gj (neg:=false) g j h
   .exact lR g (λm b=>cg) h
  case neq=>
   simp only at h;split at h
   .exact Gj (neg:=true) g j h
   .exact lR g (λm b=>cg) h
  case add=>exact UR g j h
  all_goals first
   |exact lR g (λm b=>by rw[j];intro e;cases e) h
   |exact a1X g j h
 case unOp op t x=>exact lR g (λm b=>cg) h
 case convert s d x=>exact Rm g j h
 case fieldAddr T x f=>exact NH g j h
 case field T x f=>exact Wo g j h
 case indexAddr T x i=>exact NG g j h
 case index T x i=>exact We g j h
 case extract x i=>exact Rl g j h
 case call c=>
  obtain⟨k,args,l⟩:=c;cases k with
  |builtin b=>
   cases b<;>simp only[F8,Bool.false_eq_true]at p
   case len=>
    simp only at h;split at h
    .rename_i x q;exact aLQ g j rfl q h
    grind
   case min=>exact lR g (λm b=>cg) h
   case max=>exact lR g (λm b=>cg) h
  |value f=>simp[F8]at p
  |invoke r n=>grind
 all_goals (first|exact h.elim|(simp[F8]at p))
theorem U5.stp(d:aL B ι σ a w)(h:U5 C ι o σ K a w):Vi B C ι o σ K a w:=by
 intro next Q b
 obtain⟨v,x,c,e,f⟩:=h;unfold Oper.wp;rw[c w (.inr rfl),Oper.upon_value];exact b ι _ _ _ (d.put o.dst e) f (lP d)
theorem Cy(e:aL B ι σ a w):∀(i:Nat)(l:ej)(ts:fb)(b:eb),rQ C.P σ [] i l ts=some b->b=(l.map a.eval).map .val
 |i,[],ts,b,h=>by simp[rQ]at h;grind
 |i,x::r,ts,b,h=>by
  simp only[rQ]at h;split at h
  .cases h
  .rename_i d c;have f:=Cy e (i+1) r ts.tail d c;simp only[contains_nil]at h;split at h
   .rename_i u g;simp only[cw]at h;subst h;simp only[map_cons,(e.ev x).val? g,f]
   .cases h
theorem Lp:∀(l b:dj),OE (l.map .val) b=(l++b).map .val
 |[],_=>rfl
 |v::l,b=>by simp only[map_cons,OE,Lp l b,cons_append]
theorem crQ{P:Program}{T:TypeId}{cs:dj}{ι:du}:Den ι (mk P T (cs.map .val)) (valOf P T cs):=by
 unfold mk valOf;cases Cu P T with
 |true=>exact⟨_,rfl,by simpa using(iW.vals (ι:=ι)).2 rfl⟩
 |false=>match cs with
  |[]=>exact trivial
  |[x]=>exact rfl
  |_::_::_=>exact trivial
theorem Sound.fat{P:Program}{f:FuncId}{S:Spec}{T:TypeId}{vs:dj}{m:MH}{h:PH}{R:dj->MH->PH->Prop}(F:Sound P f S)(I:S (vs.map .val) m h (λr m' t=>∃l,r= .val (valOf P T l)/\R l m' t)):FAt P f T (vs.map .val) m h R:=by
 have z:∀{l A:dj},l.map CV.val=A.map CV.val->l=A:=fun{l A} e=>(List.map_inj_right (λx y h=>cg)).1 e;refine⟨F.1,λJ w L D=>?_⟩;rw[<-z L]
 have p:∀(l:dj)(w:World),DV w (l.map .val) l:=λl w=>by
  induction l with
  |nil=>trivial
  |cons a l M=>exact⟨rfl,M⟩
 have s:∀(l:dj)(i:Nat)(c:CV)(u:Value)(b:Nat),(l.map CV.val)[i]? =some c->iG c u=some b->False:=λl i c u b n g=>by
  rw[getElem?_map]at n;cases e:l[i]? with
  |none=>grind
  |some v=>rw[e]at n;simp at n;subst n;simp[iG]at g
 refine(F.2 _ vs m h w _ I ⟨p _ _,D.hsat,D.msat,D.disj,λi j c d u v b n _ _ _ g _=>(s _ i c u b n g).elim,λi c u b n _ g=>(s _ i c u b n g).elim⟩).mono ?_;rintro e O ⟨r,u,m',t,rfl,⟨l,rfl,N⟩,q,k,_⟩;have q:u=valOf P T l:=q;subst q
 have G:∀b,m b=none->¬y7 m (vs.map .val) vs b:=by
  rintro b g (H|⟨i,c,u,n,_,Q⟩)
  .grind
  grind
 refine⟨l,m',t,rfl,N,⟨k.tape,k.os,k.output,k.drawn,k.size,λb g E=>k.frame b g (G b E),⟨k.hsat,k.msat,k.disj⟩,⟨k.hle⟩,λb g E=>k.hold b g (G b E),λb o g=>?_⟩⟩;rcases k.mfr b o g with H|H
 .grind
 grind
theorem a0J(q:aL B ι σ a w){c:Call}{g:Operand}{T:TypeId}{f:FuncId}{E cs:Array Value}(X:o.op= .call c)(hc:c.callee= .value g)
 (hg:σ.ev g= .at (.val (.func (.func f) E cs)))(a':E.toList=[])(h:bCJ C o T f cs.toList c.args.toList σ K):Vi B C ι o σ K a w:=by
 intro next Q r
 unfold bCJ at h;split at h
 .rename_i a0 t;obtain⟨R,G,h⟩:=h;have H:=Cy q 0 _ _ _ t;subst H;rw[Lp]at G;have F:=q.wrel;obtain⟨Y,I,J,L⟩:=G.fn;have s:=G.go _ w rfl ⟨F.hsat,F.msat,F.disj⟩;have M:a.eval g= .func (.func f) E cs:=by have:=q.ev g;rw[hg]at this;exact this
  have u:E= #[]:=cg
  subst u;have n: #[]++c.args.map a.eval++cs=(c.args.toList.map a.eval++cs.toList).toArray:=cg
  have N:¬Y.body=none:=cg
  have O:¬Y.name= "runtime.NumGoroutine" :=cg
  have y:(execOp a.eval o).run C.P w= .ok (.enter f (c.args.toList.map a.eval++cs.toList).toArray) w:=by
   unfold execOp;simp only[X,resolve,hc,M,Deferred.ofValue,Sem.run_bind,Sem.run_pure,Result.andThen_ok,invoke,callFunc];rw[n];simp[program,Sem.run,I,O,N]
  unfold Oper.wp;rw[y,Oper.upon_enter];refine Calls.mono s ?_;rintro e Z ⟨l,m',h',rfl,⟨x,rfl,hx⟩,d⟩;show next (a.put o.dst (valOf C.P T ((C.dec T).enc x))) Z
  have S:A7 ⟨w,λb=>σ.m b≠none,σ.h,[]⟩ m' h' Z:=
   ⟨d.tape,d.os,d.output,d.drawn,d.size,λb i z=>d.frame b i (Classical.byContradiction z),d.heapy.hsat,d.heapy.msat,d.heapy.disj,d.hle.le,λb i z=>d.hold b i (Classical.byContradiction z),λb U i=>d.mfr b U i⟩
  have V:=q.called S (λb i=>by
   cases hm:σ.m b with
   |none=>grind
   |some U=>exact F.mfr b U hm) (λj o' b hj i z=>z (q.fresh j o' b hj i).2.1)
  refine r ι _ _ _ (V.put o.dst crQ) (h x m' h' hx) ⟨λk p T a1 b hk _ hι=>?_,λb off v H=>d.heapy.hsat b off v (d.hle.le b off v H),λA=>?_,λl b _ i W _=>d.frame b i W⟩
  .have D:blk (ι k)=some b:=by rw[hι];rfl
   exact d.frame b (rC (q.own k _ hk) D) (q.fresh k _ b hk D).2.1
  .rw[X]at A;simp[A2]at A
 grind
theorem VY(t:∀g S,assoc C.specs g=some S->Sound C.P g S)(e:aL B ι σ a w)(h:Rf C o σ K):Vi B C ι o σ K a w:=by
 cases O:F8 o.op with
 |true=>exact(baZ e O h).stp e
 |false=>
  unfold Rf at h;cases j:o.op<;>simp only[j]at h O
  case alloc T=>
   intro next Q u
   refine XG e j h next Q (λA J D E i p F=>?_)
   obtain⟨R,q,s,_⟩:=z6 _ _ i p
   grind
  case box T x=>
   split at h
   .intro next Q u
    obtain⟨τ,m,G,H⟩:=oH _ _ e h;refine TO m j G next Q (λA J D E i p F=>?_)
    obtain⟨R,q,s,_⟩:=z6 _ _ i p;exact u A R D E q s (F.of_fz H)
   .exact TO e j h
  case buildSlice T n ps=>
   intro next Q u
   refine MI e j h next Q (λA J D E i p F=>?_)
   obtain⟨R,q,s,_⟩:=DR _ _ i p;obtain⟨σ3,U,V,_⟩:=oH _ _ q s
   grind
  case makeFunc f x W=>
   intro next Q u
   obtain⟨τ,m,G,a0⟩:=z6 _ _ e h;obtain⟨v,x,N,X,G⟩:=lR m (λW b=>cg) G;unfold Oper.wp;rw[N w (.inr rfl),Oper.upon_value];exact u ι _ _ _ (m.put o.dst X) G (lP e)
  case store T x v=>
   cases L:o.dst with
   |none=>
    rw[L]at h;intro next Q u
    obtain⟨τ,m,G,H⟩:=oH _ _ e h;exact Vx m j L G next Q (λA J D E i p F=>u A J D E i p (F.of_fz H))
   |some d=>grind
  case makeSlice T l c=>
   intro next Q u
   refine NF e j h next Q (λA J D E i p F=>?_)
   obtain⟨R,q,s,_⟩:=DR _ _ i p
   grind
  case slice T x lo hi mx=>exact VD e j h
  case makeMap T r=>exact Rh e j h
  case lookup T x k ok=>exact Ut e j h
  case mapUpdate T x k v=>
   cases L:o.dst with
   |none=>
    rw[L]at h;have h:(match Rg C.heapT 400000 with|true=>KN C T x k v σ K|false=>Dw C T x k v σ K):=h;split at h
    .exact Us e j L h
    .exact ND e j L h
   |some d=>grind
  case range T x=>exact VK e j h
  case next x b=>exact Yp e j h
  case entry x=>exact Xp e j h
  case call c=>
   obtain⟨z,args,M⟩:=c;cases z with
   |builtin b=>
    cases b<;>simp only[F8,Bool.true_eq_false]at O<;>simp only at h
    case append=>
     split at h
     .rename_i x y T tx X ht;intro next Q u
      refine UU e j rfl X ht h next Q (λA J D E i p F=>?_)
      obtain⟨σ3,U,V,_⟩:=oH _ _ i p
      grind
     grind
    case cap=>exact(lR e (λW b=>cg) h).stp e
    all_goals exact h.elim
   |value g=>
    simp only at h;split at h
    .rename_i f fs W Z;split at h
     .split at h
      .rename_i I;exact a0J e j rfl Z I h
      grind
     .split at h
      .rename_i I Y;exact aeJ t e j rfl Z I Y h
      grind
    grind
   |invoke r n=>exact h.elim
  all_goals (first|exact h.elim|(simp[F8]at O))
theorem OL(c:aL B ι σ a w){d:Nat}{xs:Array Value}(h:σ.ev (.tmp d)= .at (.val (.tuple xs))):a.tmps[d]? =none\/∃xs,a.tmps[d]? =some (.tuple xs):=by
 have b:=c.ev (.tmp d);rw[h]at b;have b:a.eval (.tmp d)= .tuple xs:=b;simp only[Act.eval,Array.getD_eq_getD_getElem?]at b
 grind
theorem IM(c:aL B ι σ a w){d:Nat}{t:Bool}(h:σ.ev (.tmp d)= .at (.val (.bool t))):a.tmps[d]? =some (.bool t):=by
 have b:=c.ev (.tmp d);rw[h]at b;have b:a.eval (.tmp d)= .bool t:=b;simp only[Act.eval,Array.getD_eq_getD_getElem?]at b;cases e:a.tmps[d]? with
 |none=>rw[e]at b;simp[undef]at b
 |some v=>grind
theorem aL.setTmp(b:aL B ι σ a w){c:Operand}{t:Bool}(h:σ.ev c= .at (.val (.bool t))):aL B ι (setTmp σ c t) a w:=by
 cases c with
 |tmp d=>
  refine⟨?_,b.defers,b.own,b.dist,b.fresh,b.wrel,b.one⟩;have i:=IM b h;have:=b.slots.set d (x:=.at (.val (.bool t))) (v:=.bool t) rfl;show DenS ι (σ.sl.set d _) a.tmps.toList
  have e:a.tmps.toList.set d (.bool t)=a.tmps.toList:=by
   apply ext_getElem?
   grind
  grind
 |const v=>exact b
 |global g=>exact b
 |func f=>exact b
theorem R3{c:Operand}{t:Bool}(h:σ.ev c= .at (.val (.bool t))):Fz σ (setTmp σ c t):=by
 cases c with
 |tmp d=>
  refine⟨λ_ _ _ i h=>⟨i,h⟩,λ_ _ _ h=>h,?_,?_,rfl⟩
  .intro x k off b;cases x with
   |tmp e=>
    simp only[Vc.setTmp,St.ev,Aj]at b;simp only[St.ev]
    grind
   |const v=>exact b
   |global g=>exact b
   |func f=>exact b
  .intro x k b;cases x with
   |tmp e=>
    simp only[Vc.setTmp,St.ev,Aj]at b;simp only[St.ev]
    grind
   |const v=>exact b
   |global g=>exact b
   |func f=>exact b
 |const v=>exact Fz.refl σ
 |global g=>exact Fz.refl σ
 |func f=>exact Fz.refl σ
def GWp(C:Ctx)(ops:Array Oper)(o:Oper)(a:Act)(w:World)(next:Act->World->Prop)(Q:Exit->Act->World->Prop):Prop:=
 if Region.wanted o (yielded ops a.tmps)then o.wp C.P a w next Q else next (a.put o.dst undef) w
theorem Ru{ops:Array Oper}{j d:Nat}{b t:Bool}{g:Oper}(e:o.guard=some (j,b))(c:nth ops.toList j=some g)(f:g.dst=some d)(h:a.tmps[d]? =some (.bool t)):
 Region.wanted o (yielded ops a.tmps)=(t==b):=by
 unfold Region.wanted;rw[e];rw[jI,dd]at c;simp[yielded,c,f,h]
theorem Ju{ops:Array Oper}{j d:Nat}{b:Bool}{g:Oper}(f:o.guard=some (j,b))(e:nth ops.toList j=some g)(h:g.dst=some d)(c:a.tmps[d]? =none\/∃xs,a.tmps[d]? =some (.tuple xs)):
 Region.wanted o (yielded ops a.tmps)=false:=by
 unfold Region.wanted;rw[f];rw[jI,dd]at e;rcases c with c|⟨xs,c⟩<;>simp[yielded,e,h,c]
theorem Dz{f:Oper->St->(St->Prop)->Prop}{ops:Array Oper}(c:aL B ι σ a w)(h:PL f ops o σ K):
 ∃e,aL B ι e a w/\Fz σ e/\((Region.wanted o (yielded ops a.tmps)=true/\f o e K)\/(Region.wanted o (yielded ops a.tmps)=false/\K (e.put o.dst (.at (.val undef))))):=by
 unfold PL at h;split at h
 .rename_i i;exact⟨σ,c,Fz.refl σ,.inl ⟨by simp[Region.wanted,i],h⟩⟩
 .rename_i j l i;split at h
  .exact h.elim
  .rename_i g m;split at h
   .exact h.elim
   .rename_i d n;split at h
    .rename_i t b;have k:=IM c b;have p:=Ru (o:=o) (a:=a) i m n k;rcases A6 h with⟨rfl,h⟩|⟨rfl,h⟩
     .refine⟨setTmp σ (.tmp d) true,c.setTmp b,R3 b,?_⟩
      grind
     .refine⟨setTmp σ (.tmp d) false,c.setTmp b,R3 b,?_⟩
      grind
    .rename_i q b;exact⟨σ,c,Fz.refl σ,.inr ⟨Ju i m n (OL c b),h⟩⟩
    grind
theorem Wg(c:∀g S,assoc C.specs g=some S->Sound C.P g S){ops:Array Oper}(l:aL B ι σ a w)(h:UC C ops o σ K)
 (next:Act->World->Prop)(Q:Exit->Act->World->Prop)(b:∀i e f w',aL B i e f w'->K e->Js σ ι o w w'->next f w'):GWp C ops o a w next Q:=by
 obtain⟨r,d,j,m⟩:=Dz l h;unfold GWp;rcases m with⟨k,h⟩|⟨k,h⟩
 .rw[if_pos k];exact VY c d h next Q (λi e f w' n p q=>b i e f w' n p (q.of_fz j))
 .rw[if_neg (by simp[k])];exact b ι _ _ _ (d.put o.dst (x:=.at (.val undef)) rfl) h (lP l)
theorem X6{P:Program}{next:Act->World->Prop}{Q:Exit->Act->World->Prop}(h:o.wp P a w next Q):o.wpIn Fence.wide 0 P a w next Q:=by
 refine⟨λ_ _=>trivial,?_⟩;show o.uponIn Fence.wide 0 P a next Q ((execOp a.eval o).run P w)
 unfold Oper.wp at h;cases b:(execOp a.eval o).run P w with
 |ok x g=>
  rw[b]at h;cases x with
  |value v=>exact h
  |skip=>exact h
  |defer d=>exact h
  |enter f args=>exact⟨λe=>by simp[Fence.wide]at e,callsIn_wide.2 h⟩
  |row r args=>
   refine⟨λe=>by simp[Fence.wide]at e,λc i _=>?_⟩;obtain⟨v,j,k,l⟩:=h c i;exact⟨v,j,k,stepsIn_wide.2 l⟩
  |_=>exact h.elim
 |halt x g=>
  rw[b]at h;cases x with
  |panic v=>exact h
  |_=>exact h.elim
def bGX(B:tI)(C:Ctx)(o:Oper)(K:St->Prop)(a:Act)(w:World):Prop:=
 ∀(next:Act->World->Prop)(Q:Exit->Act->World->Prop),(∀e b c d,aL B e b c d->K b->next c d)->o.wpIn Fence.wide 0 C.P a w next Q
theorem Vm(q:aL B ι σ a w){c:Call}{g:Operand}{l:Nat}{A cs:Array Value}(M:o.op= .call c)(N:c.callee= .value g)
 (O:σ.ev g= .at (.val (.func (.yield l) A cs)))(R:A.toList=[])(T:cs.toList=[])(h:T6 C o (.func (.yield l) #[] #[]) c.args.toList σ K):bGX B C o K a w:=by
 intro next Q n
 unfold T6 at h;split at h
 .exact h.elim
 .rename_i S hS;split at h
  .rename_i U r;obtain⟨V,h⟩:=h;have W:=Cy q 0 _ _ _ r;subst W;have D:=q.wrel;obtain⟨X,s,f,t,J,i⟩:=V.go l _ σ.m σ.h w _ h ⟨D.hsat,D.msat,D.disj⟩;have F:a.eval g= .func (.yield l) A cs:=by have:=q.ev g;rw[O]at this;exact this
   have v:A= #[]:=cg
   have y:cs= #[]:=cg
   subst v y;have E:c.args.map a.eval=(c.args.toList.map a.eval).toArray:=cg
   have p:(execOp a.eval o).run C.P w= .ok (.round l X s f t) w:=by
    unfold execOp;simp only[M,resolve,N,F,Deferred.ofValue,Sem.run_bind,Sem.run_pure,Result.andThen_ok,invoke]
    grind
   refine⟨λ_ _=>trivial,?_⟩;show o.uponIn Fence.wide 0 C.P a next Q ((execOp a.eval o).run C.P w)
   rw[p,Oper.uponIn_round];refine⟨λe=>by simp[Fence.wide]at e,i.mono ?_⟩;rintro e L ⟨u,Y,Z,rfl,hK,d⟩;show next (a.put o.dst u) L
   have G:A7 ⟨w,λb=>σ.m b≠none,σ.h,[]⟩ Y Z L:=
    ⟨d.tape,d.os,d.output,d.drawn,d.size,λb k z=>d.frame b k (Classical.byContradiction z),d.heapy.hsat,d.heapy.msat,d.heapy.disj,d.hle.le,λb k z=>d.hold b k (Classical.byContradiction z),λb H k=>d.mfr b H k⟩
   have I:=q.called G (λb k=>by
    cases hm:σ.m b with
    |none=>grind
    |some H=>exact D.mfr b H hm) (λj o' b hj k z=>z (q.fresh j o' b hj k).2.1)
   exact n ι _ _ _ (I.put o.dst (x:=.at (.val u)) rfl) hK
  grind
theorem RR(b:∀g S,assoc C.specs g=some S->Sound C.P g S)(f:aL B ι σ a w)(h:RS C o σ K):bGX B C o K a w:=by
 have i:Rf C o σ K->bGX B C o K a w:=λh next Q j=>X6 (VY b f h next Q (λk m n p q r _=>j k m n p q r))
 unfold RS at h;split at h
 .rename_i c s;split at h
  .rename_i g t;split at h
   .rename_i l v x u;split at h
    .rename_i d e;exact Vm f s t u d e h
    grind
   grind
  grind
 grind
theorem Rk(c:∀g S,assoc C.specs g=some S->Sound C.P g S){ops:Array Oper}(k:aL B ι σ a w)(h:PL (RS C) ops o σ K)
 (next:Act->World->Prop)(Q:Exit->Act->World->Prop)(b:∀l i j w',aL B l i j w'->K i->next j w'):
 if Region.wanted o (yielded ops a.tmps)then o.wpIn Fence.wide 0 C.P a w next Q else(∀f,o.about C.P w a.eval=some f->Fence.wide.fn f)/\next (a.put o.dst undef) w:=by
 obtain⟨p,d,m,n⟩:=Dz k h;rcases n with⟨e,h⟩|⟨e,h⟩
 .rw[if_pos e];exact RR c d h next Q b
 .rw[if_neg (by simp[e])];exact⟨λ_ _=>trivial,b ι _ _ _ (d.put o.dst (x:=.at (.val undef)) rfl) h⟩
theorem IT(b:∀g S,assoc C.specs g=some S->Sound C.P g S){ops:Array Oper}{Q:Exit->Act->World->Prop}{R:St->Prop}{rest:ed}(d:∀ι σ a w,aL B ι σ a w->R σ->wpOpsIn Fence.wide 0 C.P ops Q rest a w):
 ∀(l:List Oper)(s:Nat)(ι:du)(σ:St)(a:Act)(w:World),(∀j,j<l.length->l[j]? =ops.toList[s+j]?)->aL B ι σ a w->RH C ops l σ R->wpOpsIn Fence.wide 0 C.P ops Q (range' s l.length++rest) a w
 |[],s,ι,σ,a,w,_,c,h=>d ι σ a w c h
 |o::l,s,ι,σ,a,w,e,c,h=>by
  have f:ops[s]? =some o:=by have:=e 0 bx;grind
  simp only[de,range'_succ,cons_append,wpOpsIn,f]
  exact Rk b c h (wpOpsIn Fence.wide 0 C.P ops Q (range' (s+1) l.length++rest)) Q (λi k m n p q=>
   IT b d l (s+1) i k m n (λj r=>by have:=e (j+1) cg;grind) p q)
end
end Go.Vc
namespace Go.Vc
open Go List
def Yd(P:Program)(ops:Array Oper)(w:World)(o:Oper)(v:Value)(a:Act):Prop:=
 (Region.wanted o (yielded ops a.tmps)=true/\(execOp a.eval o).run P w= .ok (.value v) w)\/(Region.wanted o (yielded ops a.tmps)=false/\v=undef)
def Aft(ops:Array Oper)(ok:Oper)(i:Nat):Prop:=waits ok i=true\/∃j b,ops[j]? =some b/\waits ok j=true/\waits b i=true
def ahZ(ops:Array Oper)(b:Oper):Prop:=∀(k:Nat)(ok:Oper)(d:Nat),ops[k]? =some ok->ok.dst=some d->d∈b.looksAt ops->waits b k=true
structure bLZ(ops:Array Oper)(i:Nat)(oi:Oper):Prop where
 mv:bUZ oi.op=true
 look:∀(k:Nat)(ok:Oper)(d:Nat),ops[k]? =some ok->ok.dst=some d->d∈oi.looksAt ops->Aft ops ok i
structure Ssa(ops:Array Oper):Prop where
 look:∀(i:Nat)(oi:Oper),ops[i]? =some oi->ahZ ops oi\/bLZ ops i oi
 dst:∀(i k:Nat)(oi ok:Oper)(d:Nat),ops[i]? =some oi->ops[k]? =some ok->ok.dst=some d->i≠k->oi.dst≠some d
 topo:∀(i:Nat)(oi:Oper)(k:Nat),ops[i]? =some oi->waits oi k=true->k<i
 sel:∀(j:Nat)(o:Oper) cs b,ops[j]? =some o->o.op≠ .select cs b
theorem Aft.in_{ops:Array Oper}{ok:Oper}{i:Nat}{L:Array Bool}(h:Aft ops ok i)(c:∀j,waits ok j=true->L.getD j false=true)(d:∀(j:Nat)(b:Oper),ops[j]? =some b->L.getD j false=true->∀k,waits b k=true->L.getD k false=true):L.getD i false=true:=by
 rcases h with h|⟨j,b,e,f,g⟩
 .grind
 grind
theorem Ssa.self{ops:Array Oper}(c:Ssa ops){k:Nat}{o:Oper}(b:ops[k]? =some o):∀d,o.dst=some d->d∉o.looksAt ops:=λd f g=>by
 rcases c.look k o b with h|h
 .have:=c.topo k o k b (h k o d b f g);omega
 .rcases h.look k o d b f g with e|⟨j,i,l,e,m⟩
  .have:=c.topo k o k b e;omega
  .have:=c.topo k o j b e;have:=c.topo j i k l m;omega
theorem bcJ{P:Program}{o:Oper}(h:bUZ o.op=true):Br P o=false:=by
 unfold Br;cases e:o.op<;>simp_all [bUZ]
theorem Lw{o:Oper}{k:Nat}:waits o k=true↔∃e∈o.after,Region.binds .any e=true/\e.on=k:=by
 unfold waits;rw[any_eq_true];constructor
 .rintro⟨e,b,h⟩;simp only[cz]at h;exact⟨e,cg,h.1,da h.2⟩
 .rintro⟨e,b,c,d⟩;exact⟨e,cg,by simp[c,d]⟩
theorem cnJ{ops:Array Oper}(h:coQ ops=true)(s:Region.noSelect ops=true):Ssa ops:=by
 unfold coQ at h;simp only[all_eq_true,mem_range]at h;have l:∀{i:Nat}{m:Oper},ops[i]? =some m->i<ops.toList.length:=λf=>cg
 refine⟨?_,?_,?_,Region.noSelect_spec s⟩
 .intro i m f;have c:=h i (l f);rw[jI,dd,f]at c;simp only[cz,Bool.or_eq_true,all_eq_true,mem_range]at c;rcases c.2 with p|⟨t,p⟩
  .refine .inl λk ok d g n u=>?_;have b:=p k (l g);rw[jI,dd,g]at b
   grind
  .refine .inr ⟨t,λk ok d g n u=>?_⟩;have b:=p k (l g);rw[jI,dd,g]at b;simp only[n,Bool.or_eq_true,Bool.not_eq_true',contains_eq_mem,decide_eq_false_iff_not]at b;rcases b with b|b
   .grind
   .unfold cDQ at b;simp only[Bool.or_eq_true,any_eq_true,cz]at b;rcases b with b|⟨⟨v,j⟩,D,x,y⟩
    .exact .inl b
    .refine .inr ⟨j,v,?_,x,y⟩
     grind
 .intro i k m ok d f g n q;have c:=h i (l f);rw[jI,dd,f]at c;simp only[cz,all_eq_true,mem_range]at c;have b:=c.1.2 k (l g);rw[jI,dd,g]at b;simp only[n,Bool.or_eq_true]at b;rcases b with b|b
  .exact(q (da b)).elim
  grind
 .intro i m k f z;have r:i<ops.toList.length:=cg
  have c:=h i r;rw[jI,dd,f]at c;simp only[cz,all_eq_true]at c;obtain⟨e,E,A,rfl⟩:=Lw.1 z;have:=c.1.1 e cg;simp only[A,Bool.not_true,Bool.false_or]at this;rw[<-Nat.blt_eq];exact this
theorem wQ{ops:Array Oper}{b:Array Bool}{j:Nat}:j∈Region.ready .any ops b↔b.getD j true=false/\∃o,ops[j]? =some o/\∀k,waits o k=true->b.getD k false=true:=by
 rw[mem_ready];constructor
 .rintro⟨c,o,d,f⟩;refine⟨c,o,d,λk i=>?_⟩;obtain⟨e,g,h,rfl⟩:=Lw.1 i
  grind
 .rintro⟨c,o,d,f⟩;exact⟨c,o,d,λe g h=>f e.on (Lw.2 ⟨e,g,h,rfl⟩)⟩
theorem UE{l:Array Bool}{i:Nat}(h:l.getD i true=false):l.getD i false=false/\i<l.size:=by
 grind
theorem vH{l:Array Bool}{i:Nat}(h:i<l.size):(l.setIfInBounds i true).getD i false=true:=by
 simp[Array.getD,h]
theorem Jl{ops:Array Oper}{o:Oper}{c e:Act}(k:∀cs b,o.op≠ .select cs b)(h:∀t∈o.looksAt ops,c.tmps[t]? =e.tmps[t]?):
 execOp c.eval o=execOp e.eval o/\Region.wanted o (yielded ops c.tmps)=Region.wanted o (yielded ops e.tmps):=by
 constructor
 .refine execOp_congr o k λx l=>?_;cases x with
  |tmp t=>
   have:t∈o.looksAt ops:=mem_append_left _ (mem_filterMap.2 ⟨.tmp t,cg,rfl⟩);simp only[Act.eval,Array.getD_eq_getD_getElem?,h t this]
  |const v=>rfl
  |global g=>rfl
  |func f=>rfl
 .unfold Region.wanted;split
  .rfl
  .rename_i j i m
   have:yielded ops c.tmps j=yielded ops e.tmps j:=by
    unfold yielded;cases n:(ops[j]?).bind (·.dst)with
    |none=>rfl
    |some d=>
     have p:d∈o.looksAt ops:=by
      unfold Oper.looksAt
      grind
     grind
   rw[this]
theorem NW{a:Act}{d:Option Tmp}{v:Value}{t:Nat}(h:d≠some t):(a.put d v).tmps[t]? =a.tmps[t]? :=by
 cases d with
 |none=>rfl
 |some e=>
  have:e≠t:=λx=>h (by rw[x]);simp[Act.put,Array.getElem?_setIfInBounds_ne this]
theorem bRJ(a:Act)(d:Option Tmp)(u v:Value):(a.put d u).put d v=a.put d v:=by
 cases d with
 |none=>rfl
 |some e=>simp[Act.put]
structure TR(P:Program)(ops:Array Oper)(L Cl:Array Bool)(ar ac:Act)(w:World):Prop where
 szL:L.size=ops.size
 szC:Cl.size=ops.size
 sub:∀i,L.getD i false=true->Cl.getD i false=true
 rd:∀(i:Nat)(o:Oper),ops[i]? =some o->Cl.getD i false=true->L.getD i false=false->F8 o.op=true
 clC:∀(i:Nat)(o:Oper),ops[i]? =some o->Cl.getD i false=true->∀k,waits o k=true->Cl.getD k false=true
 clL:∀(i:Nat)(o:Oper),ops[i]? =some o->L.getD i false=true->∀k,waits o k=true->L.getD k false=true
 tsz:ar.tmps.size=ac.tmps.size
 df:ar.defers=ac.defers
 agree:∀t,(∀(i:Nat)(o:Oper),ops[i]? =some o->Cl.getD i false=true->L.getD i false=false->o.dst≠some t)->ar.tmps[t]? =ac.tmps[t]?
 pend:∀(i:Nat)(o:Oper),ops[i]? =some o->Cl.getD i false=true->L.getD i false=false->∃v,(ahZ ops o->∀w'',(Br P o=false\/w''=w)->Yd P ops w'' o v ac)/\(bLZ ops i o->∀w'',Yd P ops w'' o v ar)/\ac.put o.dst v=ac
section
variable{P:Program}{ops:Array Oper}{L Cl:Array Bool}{ar ac:Act}{w:World}
theorem Yd.congr{o:Oper}{v:Value}{a b:Act}{w:World}(h:Yd P ops w o v a)(c:execOp b.eval o=execOp a.eval o)(d:Region.wanted o (yielded ops b.tmps)=Region.wanted o (yielded ops a.tmps)):Yd P ops w o v b:=by
 unfold Yd at*
 grind
theorem TR.looks(h:TR P ops L Cl ar ac w){o:Oper}(b:ahZ ops o)(c:∀k,waits o k=true->L.getD k false=true):∀t∈o.looksAt ops,ar.tmps[t]? =ac.tmps[t]? :=by
 intro t d;refine h.agree t (λk ok e _ g f=>?_);have:=c k (b k ok t e f d)
 grind
theorem TR.looks'(h:TR P ops L Cl ar ac w){i:Nat}{o:Oper}(b:bLZ ops i o)(g:Cl.getD i false=false):∀t∈o.looksAt ops,ar.tmps[t]? =ac.tmps[t]? :=by
 intro t e;refine h.agree t (λk ok d c _ f=>?_);have:=(b.look k ok t d f e).in_ (h.clC k ok d c) h.clC
 grind
theorem TR.stepA(r:Ssa ops)(h:TR P ops L Cl ar ac w){i:Nat}{o:Oper}(s:ops[i]? =some o)(I:Cl.getD i false=true)(x:∀k,waits o k=true->L.getD k false=true){v:Value}(q:ac.put o.dst v=ac):
 TR P ops (L.setIfInBounds i true) Cl (ar.put o.dst v) ac w:=by
 have n:i<L.size:=by rw[h.szL];grind
 have g:∀k,(L.setIfInBounds i true).getD k false=false->L.getD k false=false/\k≠i:=by
  intro k c;by_cases e:i=k
  .subst e;rw[vH n]at c;cases c
  .rw[getD_set_ne false e]at c;grind
 refine⟨cm h.szL,h.szC,?_,λk ok c f b=>h.rd k ok c f (g k b).1,h.clC,?_,?_,?_,?_,λk ok c f b=>?_⟩
 .intro k c;by_cases e:i=k
  .grind
  .rw[getD_set_ne false e]at c;exact h.sub k c
 .intro k ok c b j y;by_cases e:i=k
  .grind
  .rw[getD_set_ne false e]at b;exact getD_set_true (h.clL k ok c b j y)
 .rw[<-h.tsz];cases o.dst<;>simp[Act.put]
 .rw[<-h.df];cases o.dst<;>rfl
 .intro t z;by_cases e:o.dst=some t
  .rw[e]at q⊢
   rw[<-q];simp only[Act.put,Array.getElem?_setIfInBounds_self,h.tsz]
  .rw[NW e];refine h.agree t (λk ok c f b=>?_);by_cases A:i=k
   .grind
   .exact z k ok c f (by rw[getD_set_ne false A];exact b)
 .obtain⟨u,D,E,F⟩:=h.pend k ok c f (g k b).1;refine⟨u,D,λl p=>?_,F⟩
  have m:∀d,o.dst=some d->d∉ok.looksAt ops:=λd G H=>by
   have:=(l.look i o d s G H).in_ x h.clL
   grind
  exact(E l p).congr (execOp_put ok (r.sel k ok · · c) ar o.dst v m) (wanted_put ok ar o.dst v m)
theorem TR.take(s:Ssa ops)(h:TR P ops L Cl ar ac w){k:Nat}{o:Oper}(q:ops[k]? =some o)(D:Cl.getD k false=false)(V:∀j,waits o j=true->Cl.getD j false=true)(Q:F8 o.op=true){v:Value}
 (N:∀c,(Br P o=false\/c=w)->Yd P ops c o v ac):TR P ops L (Cl.setIfInBounds k true) ar (ac.put o.dst v) w:=by
 have E:k<Cl.size:=by rw[h.szC];grind
 have f:∀j,(Cl.setIfInBounds k true).getD j false=true->j=k\/Cl.getD j false=true:=by
  intro j x;by_cases e:k=j
  .omega
  .rw[getD_set_ne false e]at x;grind
 have F:L.getD k false=false:=by
  cases R:L.getD k false with
  |false=>rfl
  |true=>rw[h.sub k R]at D;cases D
 have r:∀j,Cl.getD j false=true->(Cl.setIfInBounds k true).getD j false=true:=by
  intro j x;exact getD_set_true x
 have y:=s.self q;refine⟨h.szL,cm h.szC,λi g=>r i (h.sub i g),?_,?_,h.clL,?_,?_,?_,?_⟩
 .intro i l g b m;rcases f i b with rfl|b
  .grind
  .exact h.rd i l g b m
 .intro i l g b j x;rcases f i b with rfl|b
  .grind
  .exact r j (h.clC i l g b j x)
 .rw[h.tsz];cases o.dst<;>simp[Act.put]
 .rw[h.df];cases o.dst<;>rfl
 .intro t O;have e:o.dst≠some t:=O k o q (vH E) F;rw[NW e];exact h.agree t (λi l g b m=>O i l g (r i b) m)
 .intro i l g b m;by_cases e:i=k
  .subst e;rw[q]at g;cases g;refine⟨v,λ_ c G=>(N c G).congr (execOp_put o (s.sel i o · · q) ac o.dst v y) (wanted_put o ac o.dst v y),λz c=>?_,bRJ _ _ _ _⟩;obtain⟨S,H⟩:=Jl (s.sel i o · · q) (h.looks' z D);exact(N c (.inl (bcJ z.mv))).congr S H
  .have n:=(f i b).resolve_left e;obtain⟨u,T,I,J⟩:=h.pend i l g n m;refine⟨u,λA c G=>?_,I,?_⟩
   .have p:∀d,o.dst=some d->d∉l.looksAt ops:=λd M U=>by
     have:=h.clC i l g n k (A k o d q M U)
     grind
    exact(T A c G).congr (execOp_put l (s.sel i l · · g) ac o.dst v p) (wanted_put l ac o.dst v p)
   rw[Act.put_comm ac v u (λd M=>s.dst i k l o d g q M e),J]
theorem Vn{o:Oper}{i l:Act}{w:World}{b g:Act->World->Prop}{Q:Exit->Act->World->Prop}(m:execOp l.eval o=execOp i.eval o)(h:o.wp P i w b Q)
 (p:∀v w',b (i.put o.dst v) w'->g (l.put o.dst v) w')(q:∀d w',¬b (({i with defers:=d::i.defers}:Act).put o.dst undef) w')(s:∀c a w,¬Q (.panic c) a w):o.wp P l w g Q:=by
 unfold Oper.wp at*
 rw[m];generalize (execOp i.eval o).run P w=r at*
 cases r with
 |ok n w'=>
  cases n<;>simp only[Oper.upon]at h⊢
  case value u=>grind
  case skip=>grind
  case defer d=>grind
  case enter f args=>
   refine Calls.mono h λe j k=>?_
   grind
  case row row args=>exact Rows.mono h λu j k=>p u j k
 |halt x w'=>
  cases x<;>simp only[Oper.upon]at h⊢
  grind
theorem TR.stepB(H:Ssa ops)(h:TR P ops L Cl ar ac w){j:Nat}{o:Oper}(F:ops[j]? =some o)(T:Cl.getD j false=false)(Q:∀k,waits o k=true->L.getD k false=true)(u:Value)(w':World)
 (I:∀(i:Nat)(c:Oper)(v:Value),ops[i]? =some c->Cl.getD i false=true->L.getD i false=false->Yd P ops w c v ac->Yd P ops w' c v ac\/Br P c=false):
 TR P ops (L.setIfInBounds j true) (Cl.setIfInBounds j true) (ar.put o.dst u) (ac.put o.dst u) w':=by
 have z:j<Cl.size:=by rw[h.szC];grind
 have A:j<L.size:=by rw[h.szL];grind
 have l:∀i,(Cl.setIfInBounds j true).getD i false=true->i=j\/Cl.getD i false=true:=by
  intro i b;by_cases e:j=i
  .omega
  .rw[getD_set_ne false e]at b;grind
 have m:∀i,(L.setIfInBounds j true).getD i false=false->i≠j/\L.getD i false=false:=by
  intro i b;by_cases e:j=i
  .subst e;rw[vH A]at b;cases b
  .rw[getD_set_ne false e]at b;grind
 have r:∀i,Cl.getD i false=true->(Cl.setIfInBounds j true).getD i false=true:=λi b=>getD_set_true b;refine⟨cm h.szL,cm h.szC,?_,?_,?_,?_,?_,?_,?_,?_⟩
 .intro i b;by_cases e:j=i
  .subst e;exact vH z
  .rw[getD_set_ne false e]at b;exact r i (h.sub i b)
 .intro i c b f g;obtain⟨n,p⟩:=m i g;exact h.rd i c b ((l i f).resolve_left n) p
 .intro i c b f k G;rcases l i f with rfl|f
  .rw[F]at b;cases b;exact r k (h.sub k (Q k G))
  .exact r k (h.clC i c b f k G)
 .intro i c b g k G;by_cases e:j=i
  .grind
  .rw[getD_set_ne false e]at g;exact getD_set_true (h.clL i c b g k G)
 .cases o.dst<;>simp[Act.put,h.tsz]
 .have:=h.df;cases o.dst<;>exact this
 .intro t R;by_cases e:o.dst=some t
  .rw[e];simp only[Act.put,Array.getElem?_setIfInBounds_self,h.tsz]
  .rw[NW e,NW e];refine h.agree t (λi c b f g=>R i c b (r i f) ?_);have n:j≠i:=λx=>cg
   rw[getD_set_ne false n];exact g
 .intro i c b f g;obtain⟨n,p⟩:=m i g;have s:=(l i f).resolve_left n;obtain⟨v,U,J,M⟩:=h.pend i c b s p;refine⟨v,λN y V=>?_,λD y=>?_,?_⟩
  .have q:∀d,o.dst=some d->d∉c.looksAt ops:=λd E O=>by
    have:=h.clC i c b s j (N j o d F E O)
    grind
   have S:Yd P ops y c v ac:=by
    grind
   exact S.congr (execOp_put c (H.sel i c · · b) ac o.dst u q) (wanted_put c ac o.dst u q)
  .have q:∀d,o.dst=some d->d∉c.looksAt ops:=λd E O=>by
    have:=(D.look j o d F E O).in_ Q h.clL
    grind
   exact(J D y).congr (execOp_put c (H.sel i c · · b) ar o.dst u q) (wanted_put c ar o.dst u q)
  .rw[Act.put_comm ac u v (λd E=>H.dst i j c o d b F E n),M]
end
section
variable{B:tI}{C:Ctx}{ι:du}{σ:St}{a:Act}{w:World}
theorem VA{P:Program}{b:Bool}{σ:St}{c d:Oper}{K:Prop}(h:M4 P b σ c d K):M4 P b σ c d True/\K:=by
 unfold M4 at h⊢
 repeat' split at h
 all_goals first|exact h.elim|skip
 all_goals simp_all
theorem ON{P:Program}{e:Bool}{ops:Array Oper}{b:Array Bool}{σ:St}{c:Oper}:∀(l:List Oper)(s:Nat){K:Prop},Ly P e ops b σ c s l K->
 K/\∀(i:Nat)(d:Oper),l[i]? =some d->b.getD (s+i) false=true->F8 d.op=true->waits c (s+i)=false->AU ops σ d=false->M4 P e σ c d True
 |[],s,K,h=>⟨h,λi d f=>by simp at f⟩
 |o::l,s,K,h=>by
  have key:(Ly P e ops b σ c (s+1) l K)/\(b.getD s false=true->F8 o.op=true->waits c s=false->AU ops σ o=false->M4 P e σ c o True):=by
   simp only[Ly]at h;split at h
   .obtain⟨g,j⟩:=VA h
    grind
   grind
  obtain⟨k,m⟩:=ON l (s+1) key.1
  grind
theorem Vz{σ:St}{b c:Oper}{τ:St}{K:Prop}(h:JC σ b c τ K):JC σ b c τ True/\K:=by
 unfold JC at h⊢
 repeat' split at h
 all_goals simp_all
theorem M3{ops:Array Oper}{b:Array Bool}{σ:St}{c:Oper}{τ:St}:∀(l:List Oper)(s:Nat){K:Prop},G9 ops b σ c τ s l K->
 K/\∀(i:Nat)(d:Oper),l[i]? =some d->b.getD (s+i) false=true->F8 d.op=true->waits c (s+i)=false->AU ops σ d=false->JC σ c d τ True
 |[],s,K,h=>⟨h,λi d e=>by simp at e⟩
 |o::l,s,K,h=>by
  have key:(G9 ops b σ c τ (s+1) l K)/\(b.getD s false=true->F8 o.op=true->waits c s=false->AU ops σ o=false->JC σ c o τ True):=by
   simp only[G9]at h;split at h
   .obtain⟨f,g⟩:=Vz h
    grind
   grind
  obtain⟨j,k⟩:=M3 l (s+1) key.1
  grind
theorem Uy{ops:Array Oper}{c:Oper}(e:aL B ι σ a w)(h:AU ops σ c=true):Region.wanted c (yielded ops a.tmps)=false:=by
 unfold AU at h;split at h
 .cases h
 .rename_i j f i;split at h
  .cases h
  .rename_i g k;split at h
   .cases h
   .rename_i d l;split at h
    .rename_i t b;rw[Ru i k l (IM e b)]
     grind
    .rename_i m b;exact Ju i k l (OL e b)
    .cases h
theorem CA(m:aL B ι σ a w){k:Nat}{p:Own}(c:nth σ.own k=some (some p)){b:Nat}(n:blk (ι k)=some b):∀{l:ej},IA σ k l=true->∀x∈l,∀j,(σ.ev x= .at (.lst j)\/∃off,σ.ev x= .at (.ptr j off))->blk (ι j)≠some b
 |[],_,x,d=>by cases d
 |y::r,h,x,d=>by
  simp only[IA,cz]at h;rcases mem_cons.1 d with rfl|d
  .intro j e g;have f:=h.1;rcases e with e|⟨off,e⟩
   all_goals
    simp only[e]at f;split at f
    .rename_i q i;have:=m.dist j k _ _ b i c g n;subst this;simp at f
    .cases f
  .exact CA m c n h.2 x d
theorem bSZ{ops:Array Oper}{fl:Bool}{oj R:Oper}{v:Value}{w':World}(z:aL B ι σ a w)(Z:Js σ ι oj w w')(f:M4 C.P fl σ oj R True)(a':fl=true->∃τ:St,A7 B τ.m τ.h w'/\JC σ oj R τ True)(hy:Yd C.P ops w R v a):Yd C.P ops w' R v a\/Br C.P R=false:=by
 unfold M4 at f;split at f
 .grind
 .left;rcases hy with⟨hw,b4⟩|hy
  .left;refine⟨hw,?_⟩;split at f
   .rename_i T x D;split at f
    .grind
    .rename_i hT;have t:=z.ev x
     have S:∀(b off:Nat)(F:dj),a.eval x= .pointer (some ⟨b,off,none⟩)->F.length=C.P.cellsOf T->(∀j u,F[j]? =some u->w.cell? ⟨b,off+j,none⟩=some u)->(∀j u,F[j]? =some u->w'.cell? ⟨b,off+j,none⟩=some u)->
      (execOp a.eval R).run C.P w'= .ok (.value v) w':=by
      intro b off F G U hc a6;have W:=CN hT U hc;have h2:=CN hT U a6
      have e1:(execOp a.eval R).run C.P w= .ok (.value (mkV C.P T F)) w:=by
       unfold execOp;simp only[D,G,Instr.loadAt,Instr.sureAddr,Sem.run_bind,Sem.run_pure,Result.andThen_ok,W]
      have e2:(execOp a.eval R).run C.P w'= .ok (.value (mkV C.P T F)) w':=by
       unfold execOp;simp only[D,G,Instr.loadAt,Instr.sureAddr,Sem.run_bind,Sem.run_pure,Result.andThen_ok,h2]
      grind
     split at f
     .rename_i k off G;rw[G]at t;split at f
      .rename_i p T' F q;split at f
       .rename_i ht a1;have a1:=Nat.le_of_ble_eq_true a1;obtain⟨b,vs,hι,hh,a7⟩:=wS z q;obtain⟨b',a0,a8⟩:=t;rw[hι]at a0;simp only[Value.pointer.injEq,cw,Addr.mk.injEq]at a0;obtain⟨rfl, -, -⟩:=a0;have a2:=Z.cells k p T' F b q ht hι;rw[hh]at a2;have b5:F.length=vs.toList.length:=a7.length;refine S b off ((vs.toList.drop off).take (C.P.cellsOf T)) a8 cg (λj u H=>?_) (λj u H=>?_)
        .rw[cell_of_heap hh];grind
        .rw[cell_of_heap a2];grind
       grind
      grind
     .rename_i b off d G hd;rw[G]at t;have t:a.eval x= .pointer (some ⟨b,off,none⟩):=t;split at f
      .rename_i F a3;split at f
       .rename_i l U;split at f
        .rename_i A;split at f
         .rename_i V;have hc:=IW z.wrel f.1;refine S b off l t (da A) hc (λj u H=>?_);have W:=hc j u H;cases I:A2 oj.op with
          |false=>
           rw[I,Bool.false_or]at V;obtain⟨τ,a9,h2⟩:=a' V;unfold JC at h2;simp only[D,G,hd,a3,U,I]at h2;exact IW a9 h2.1 j u H
          |true=>
          have V:=I;rw[<-W];exact World.cell?_of_block (w:=w) (w':=w') (a:=⟨b,off+j,none⟩) (Z.ext V b (World.block_lt_of_cell? w ⟨b,off+j,none⟩ W))
         .refine S b off l t (da A) (λj u H=>z.wrel.hsat _ _ _ (f.1.rd j u H)) (λj u H=>Z.imm _ _ _ (f.1.rd j u H))
        grind
       grind
      grind
     .rename_i k i sz off d G hd;rw[G]at t;split at f
      .rename_i E' s Q F q a3;split at f
       .rename_i l U hs r;have hs:=da hs;subst hs;split at f
        .rename_i A;obtain⟨e,he,b0⟩:=f.1;obtain⟨J,X⟩:=sE z q;obtain⟨b,n,c,hι,hp⟩:=t
         have y:∀b,blk (ι k)=some b->w'.heap[b]? =w.heap[b]? :=by
          intro b M;have N:=rC (z.own k _ q) M;unfold UW at r;rw[Bool.or_eq_true]at r;rcases r with r|r
          .exact Z.ext r b N
          .split at r
           .rename_i l U;refine Z.args l b U N (z.fresh k _ b q M).2.1 ?_;exact CA z q M r
           grind
         have O:w'.ownsRow 0 E' s (ι k) Q.length Q.flatten:=((z.own k _ q).world (λb M=>y b M)).2
         have rd:∀Y:World,Y.ownsRow 0 E' s (ι k) Q.length Q.flatten->∀j u,l[j]? =some u->Y.cell? ⟨b,i*s+off+j,none⟩=some u:=by
          intro Y W j u H;rw[<-b0]at H;have b1:=RB H;have hf:=lJ J.len he _ _ b1;have:=W.cells (g:=b) (by rw[hι];rfl) _ _ hf;rw[Addr.add_none]at this
          grind
         exact S b (i*s+off) l hp (da A) (rd w X) (rd w' O)
        grind
       grind
      grind
     grind
   .rename_i src b6 x D;have t:=z.ev x;split at f
    .rename_i k d G hd;rw[G]at t;have t:a.eval x=ι k:=t;split at f
     .rename_i E' sz Q s q hs;split at f
      .rename_i E a4 a5;split at f
       .rename_i hE;split at f
        .rename_i r;have b2:=f.1;obtain⟨J,X⟩:=sE z q;have b3:Q=bH s.data.toList:=b2
         have y:∀b,blk (ι k)=some b->w'.heap[b]? =w.heap[b]? :=by
          intro b M;have N:=rC (z.own k _ q) M;unfold UW at r;rw[Bool.or_eq_true]at r;rcases r with r|r
          .exact Z.ext r b N
          .split at r
           .rename_i l U;refine Z.args l b U N (z.fresh k _ b q M).2.1 ?_;exact CA z q M r
           grind
         have O:w'.ownsRow 0 E' sz (ι k) Q.length Q.flatten:=((z.own k _ q).world (λb M=>y b M)).2
         have go:∀Y:World,Y.ownsRow 0 E' sz (ι k) Q.length Q.flatten->(execOp a.eval R).run C.P Y= .ok (.value (.string ⟨s.data.toList.toArray⟩)) Y:=by
          intro Y W;subst b3;exact FX D a4 hE a5 t W
         grind
        grind
       grind
      grind
     grind
    grind
   grind
  .exact .inr hy
theorem TQ{g:Nat->Prop}:∀{l:ed},bEZ g l->∀j∈l,g j
 |[],_,j,b=>by cases b
 |[i],h,j,b=>by simp at b;subst b;exact h
 |i::k::r,h,j,b=>by
  rcases mem_cons.1 b with rfl|b
  .exact h.1
  .exact TQ h.2 j b
theorem FI{ops:Array Oper}:∀{l:ed}{i:Nat}{o:Oper},Ig ops l=some (i,o)->i∈l/\ops[i]? =some o/\F8 o.op=true
 |[],i,o,h=>by simp[Ig]at h
 |k::r,i,o,h=>by
  simp only[Ig]at h;split at h
  .rename_i ok b;split at h
   .rename_i e;simp only[cw,Prod.mk.injEq]at h;obtain⟨rfl,rfl⟩:=h;rw[jI,dd]at b
    grind
   .obtain⟨c,d⟩:=FI h
    grind
  .obtain⟨c,d⟩:=FI h
   grind
def xA(ops:Array Oper)(L:Array Bool):Nat:=((List.range ops.size).filter λi=> !L.getD i false).length
theorem Jy{ops:Array Oper}{L:Array Bool}{i:Nat}(d:L.size=ops.size)(h:i<ops.size)(k:L.getD i false=false):xA ops (L.setIfInBounds i true)+1=xA ops L:=by
 unfold xA
 have key:∀(l:ed),l.Nodup->(l.filter λj=> !(L.setIfInBounds i true).getD j false).length+(if i∈l then 1 else 0)=(l.filter λj=> !L.getD j false).length:=by
  intro l
  induction l with
  |nil=>grind
  |cons j r f=>
   intro c;have b:=nodup_cons.1 c;have:=f b.2;by_cases e:i=j
   .subst e;have g:(L.setIfInBounds i true).getD i false=true:=vH aC
    grind
   .have g:(L.setIfInBounds i true).getD j false=L.getD j false:=getD_set_ne false e
    grind
 grind
theorem MJ{ops:Array Oper}{L:Array Bool}(c:Ssa ops)(f:L.size=ops.size)(h:Region.ready .any ops L=[]):∀i,i<ops.size->L.getD i false=true:=by
 intro i
 induction i using Nat.strongRecOn with
 |_ i g=>
  intro d;cases j:L.getD i false with
  |true=>rfl
  |false=>
   exfalso;have b:ops[i]? =some ops[i]:=Array.getElem?_eq_getElem d
   have:i∈Region.ready .any ops L:=by
    rw[wQ];refine⟨?_,_,b,λk e=>g k (c.topo i _ k b e) (Nat.lt_trans (c.topo i _ k b e) d)⟩
    grind
   grind
theorem DW{ops:Array Oper}{L:Array Bool}(h:∀i,i<ops.size->L.getD i false=true):Region.ready .any ops L=[]:=by
 cases b:Region.ready .any ops L with
 |nil=>rfl
 |cons i r=>
  exfalso;have:i∈Region.ready .any ops L:=cg
  obtain⟨c,o,d,_⟩:=wQ.1 this
  grind
theorem TR.eq_of_all{P:Program}{ops:Array Oper}{L Cl:Array Bool}{ar ac:Act}(h:TR P ops L Cl ar ac w)(b:∀i,i<ops.size->L.getD i false=true):ar=ac:=by
 have c:ar.tmps=ac.tmps:=by
  apply Array.ext_getElem?;intro t;refine h.agree t (λi o d _ e=>?_)
  grind
 have f:=h.df;cases ar;cases ac
 grind
theorem a4X{ops:Array Oper}{R:St->Prop}{n:Nat}{Cl:Array Bool}(h:DB C ops n Cl σ R)(b:Region.ready .any ops Cl=[]):R σ:=by
 cases n<;>simp only[DB,b]at h<;>exact h
theorem XI{ops:Array Oper}{b:Array Bool}{σ:St}{d:Oper}{τ:St}{K:Prop}(h:Lo C ops b σ d τ K):
 (agJ C=true->∀(i:Nat)(c:Oper),ops.toList[i]? =some c->b.getD (0+i) false=true->F8 c.op=true->waits d (0+i)=false->AU ops σ c=false->JC σ d c τ True)/\K:=by
 unfold Lo at h;split at h
 .rename_i e;obtain⟨f,g⟩:=M3 _ 0 h
  grind
 grind
theorem a4Q(E:∀g S,assoc C.specs g=some S->Sound C.P g S){ops:Array Oper}(F:Ssa ops){Q:Exit->Act->World->Prop}{R:St->Prop}(hQ:∀ι σ a w,aL B ι σ a w->R σ->Q .normal a w)
 (a9:∀c a w,¬Q (.panic c) a w):
 ∀(n:Nat)(b:Nat)(Cl:Array Bool)(ι:du)(σ:St)(ac:Act)(w:World),aL B ι σ ac w->DB C ops n Cl σ R->∀(L:Array Bool)(ar:Act),TR C.P ops L Cl ar ac w->xA ops L=b->
  wpAny C.P .any ops Q b L ar w:=by
 have fin:∀(n:Nat)(Cl:Array Bool)(ι:du)(σ:St)(ac:Act)(w:World),aL B ι σ ac w->DB C ops n Cl σ R->∀(L:Array Bool)(ar:Act),TR C.P ops L Cl ar ac w->Region.ready .any ops L=[]->Q .normal ar w:=by
  intro n Cl ι σ ac w m h L ar f hr;have p:=MJ F f.szL hr;rw[f.eq_of_all p];exact hQ ι σ ac w m (a4X h (DW (λi s=>f.sub i (p i s))))
 have zero:∀(n:Nat)(Cl:Array Bool)(ι:du)(σ:St)(ac:Act)(w:World),aL B ι σ ac w->DB C ops n Cl σ R->∀(L:Array Bool)(ar:Act),TR C.P ops L Cl ar ac w->xA ops L=0->wpAny C.P .any ops Q 0 L ar w:=by
  intro n Cl ι σ ac w m h L ar f O
  have p:∀i,i<ops.size->L.getD i false=true:=by
   intro i s;unfold xA at O;have b9:=eq_nil_of_length_eq_zero O;cases hL:L.getD i false with
   |true=>rfl
   |false=>
    have:i∈(List.range ops.size).filter λi=> !L.getD i false:=mem_filter.2 ⟨mem_range.2 s,by simp[hL]⟩
    grind
  have hr:=DW p;exact⟨hr,fin n Cl ι σ ac w m h L ar f hr⟩
 have b':∀(n b:Nat),(∀(Cl:Array Bool)(ι:du)(σ:St)(ac:Act)(w:World),aL B ι σ ac w->DB C ops n Cl σ R->∀(L:Array Bool)(ar:Act),TR C.P ops L Cl ar ac w->xA ops L=b->wpAny C.P .any ops Q b L ar w)->
  ∀(Cl:Array Bool)(ι:du)(σ:St)(ac:Act)(w:World),aL B ι σ ac w->DB C ops n Cl σ R->∀(L:Array Bool)(ar:Act),TR C.P ops L Cl ar ac w->xA ops L=b+1->
   ∀i∈Region.ready .any ops L,Cl.getD i false=true->wpOp C.P ops Q i (wpAny C.P .any ops Q b (L.setIfInBounds i true)) ar w:=by
  intro n b ih Cl ι σ ac w m h L ar f O i s Z;obtain⟨G,o,q,J⟩:=wQ.1 s;obtain⟨hL,b0⟩:=UE G;obtain⟨v,hv,c0,b1⟩:=f.pend i o q Z hL
  have hy:Yd C.P ops w o v ar:=by
   rcases F.look i o q with H|c1
   .obtain⟨he,T⟩:=Jl (F.sel i o · · q) (f.looks H J);exact(hv H w (.inr rfl)).congr he T
   grind
  have b2:wpAny C.P .any ops Q b (L.setIfInBounds i true) (ar.put o.dst v) w:=
   ih Cl ι σ ac w m h _ _ (f.stepA F q Z J b1) (by have:=Jy f.szL cg hL;omega)
  unfold wpOp;simp only[q];rcases hy with⟨l,t⟩|⟨l,rfl⟩
  .rw[if_pos l];left;unfold Oper.wp;rw[t,Oper.upon_value];omega
  grind
 intro n
 induction n with
 |zero=>
  intro b
  induction b with
  |zero=>grind
  |succ b b3=>
   intro Cl ι σ ac w m h L ar f O;refine⟨fin 0 Cl ι σ ac w m h L ar f,λi s=>?_⟩;cases Z:Cl.getD i false with
   |true=>grind
   |false=>
    exfalso;obtain⟨G,o,q,J⟩:=wQ.1 s
    have a0:i∈Region.ready .any ops Cl:=by
     rw[wQ];refine⟨?_,o,q,λk hk=>f.sub k (J k hk)⟩;have:i<Cl.size:=by rw[f.szC];grind
     grind
    simp only[DB]at h
    grind
 |succ n U=>
  intro b
  induction b with
  |zero=>grind
  |succ b b3=>
   intro Cl ι σ ac w m h L ar f O;refine⟨fin (n+1) Cl ι σ ac w m h L ar f,λi s=>?_⟩;cases Z:Cl.getD i false with
   |true=>grind
   |false=>
    obtain⟨G,o,q,J⟩:=wQ.1 s;obtain⟨b4,b0⟩:=UE G
    have a0:i∈Region.ready .any ops Cl:=by
     rw[wQ];refine⟨?_,o,q,λk hk=>f.sub k (J k hk)⟩;have:i<Cl.size:=by rw[f.szC];grind
     grind
    simp only[DB]at h;split at h
    .grind
    .split at h
     ·
      rename_i k ok b5;obtain⟨b6,V,y⟩:=FI b5;obtain⟨a1,c2,M,a2⟩:=wQ.1 b6;rw[V]at M;cases M;obtain⟨a3,c'⟩:=UE a1;obtain⟨σ1,W,c3,hc⟩:=Dz m h;rcases hc with⟨l,h⟩|⟨l,h⟩
      .obtain⟨v,x,t,hx,hK⟩:=baZ W y h;have z:=f.take F V a3 a2 y (v:=v) (λa4 a5=>.inl ⟨l,t a4 a5⟩);exact(U (b+1) _ ι _ _ w (W.put ok.dst hx) hK L ar z O).2 i s
      .have z:=f.take F V a3 a2 y (v:=undef) (λa4 _=>.inr ⟨l,rfl⟩);exact(U (b+1) _ ι _ _ w (W.put ok.dst (x:=.at (.val undef)) rfl) h L ar z O).2 i s
     ·
      have hg:=TQ h i a0;split at hg
      .rename_i o' a6;rw[jI,dd,q]at a6;cases a6;obtain⟨hg,X⟩:=ON _ 0 hg;obtain⟨he,T⟩:=Jl (F.sel i o · · q) ((F.look i o q).elim (f.looks · J) (f.looks' · Z));have Y:=Wg E m hg (λa' A=>∃N r,aL B N r a' A/\Lo C ops Cl σ o r (DB C ops n (Cl.setIfInBounds i true) r R)/\Js σ ι o w A) Q (λN r a' A h1 h2 h3=>⟨N,r,h1,h2,h3⟩)
       have hB:∀(u:Value)(A:World),(∃N r,aL B N r (ac.put o.dst u) A/\Lo C ops Cl σ o r (DB C ops n (Cl.setIfInBounds i true) r R)/\Js σ ι o w A)->
        wpAny C.P .any ops Q b (L.setIfInBounds i true) (ar.put o.dst u) A:=by
        rintro u A ⟨N,r,I,h',b7⟩;obtain⟨b8,h'⟩:=XI h';refine U b _ N r _ A I h' _ _ (f.stepB F q Z J u A ?_) (by have:=Jy f.szL cg b4;omega);intro j oj v hj a7 a8 hy;cases D:AU ops σ oj with
        |true=>
         have:=Uy m D;rcases hy with⟨h1,_⟩|h1
         .grind
         .exact .inl (.inr h1)
        |false=>
         have c4:waits o j=false:=by
          grind
         have H:=X j oj cg cg (f.rd j oj hj a7 a8) cg D;exact bSZ m b7 H (λe=>⟨r,I.wrel,b8 e j oj cg cg (f.rd j oj hj a7 a8) cg D⟩) hy
       unfold GWp at Y;unfold wpOp;simp only[q];rw[T];split
       .rename_i l;rw[if_pos l]at Y;left;refine Vn he Y hB ?_ a9;rintro d A ⟨N,r,I,_⟩;have:=I.defers;rw[<-m.defers]at this;cases hd:o.dst<;>simp[Act.put,hd]at this
       grind
      grind
end
end Go.Vc
namespace Go.Vc
open Go List
section
variable{B:tI}{C:Ctx}{ι:du}{σ:St}{a:Act}{w:World}
theorem AS:∀{xs e:fd}{vs:dj}{K:Prop},Dv xs e K->DenS ι xs vs->DenS ι e vs/\K
 |[],[],vs,K,h,b=>⟨b,h⟩
 |x::xs,y::e,[],K,_,b=>b.elim
 |x::xs,y::e,v::vs,K,h,b=>by
  unfold Dv at h;split at h
  .grind
  .rename_i i f g c d;simp only[List.cons.injEq]at c d;obtain⟨rfl,rfl⟩:=c;obtain⟨rfl,rfl⟩:=d;have:=AS h b.2;exact⟨⟨trivial,this.1⟩,this.2⟩
  .rename_i i f j g _ c d;simp only[List.cons.injEq]at c d;obtain⟨rfl,rfl⟩:=c;obtain⟨rfl,rfl⟩:=d;obtain⟨rfl,h⟩:=h;have:=AS h b.2;exact⟨⟨b.1,this.1⟩,this.2⟩
  grind
 |[],_::_,_,K,h,_=>by simp[Dv]at h
 |_::_,[],_,K,h,_=>by simp[Dv]at h
theorem yR:∀{xs c:ez}{K:Prop},yS xs c K->(∀k o,nth c k=some (some o)->nth xs k=some (some o))/\K
 |[],[],K,h=>⟨λk o b=>by omega,h⟩
 |x::xs,none::c,K,h=>by
  simp only[yS]at h;obtain⟨d,e⟩:=yR h;refine⟨λk o b=>?_,e⟩;cases k with
  |zero=>simp[nth]at b
  |succ k=>exact d k o b
 |x::xs,some y::c,K,h=>by
  simp only[yS]at h;obtain⟨rfl,h⟩:=h;obtain⟨d,e⟩:=yR h;refine⟨λk o b=>?_,e⟩;cases k with
  |zero=>exact b
  |succ k=>exact d k o b
 |[],_::_,K,h=>by simp[yS]at h
 |_::_,[],K,h=>by simp[yS]at h
theorem aL.setSlot(b:aL B ι σ a w){i:Nat}{x:SV}{v:Value}(d:a.tmps[i]? =some v)(c:Den ι x v):aL B ι (σ.put (some i) x) a w:=by
 refine⟨?_,b.defers,b.own,b.dist,b.fresh,b.wrel,b.one⟩;have:=b.slots.set i c;show DenS ι (σ.sl.set i x) a.tmps.toList
 have e:a.tmps.toList.set i v=a.tmps.toList:=by
  apply ext_getElem?
  grind
 grind
theorem aL.nilList(c:aL B ι σ a w)(k E sz:Nat):aL B (upd ι k (.slice none 0 0)) ((σ.kill k).setOwn k (some (.lst E sz []))) a w:=by
 refine c.place k _ _ (D6.refl _ _) ⟨IV sz,World.ownsRow_nil w 0 E sz⟩ rfl (λb d=>by simp[blk]at d)
theorem uJ(τ:St):∀(c:fd)(i:Nat)(ι:du)(σ:St),aL B ι σ a w->∃g,aL B g (UQ τ c i σ) a w
 |[],i,ι,σ,b=>⟨ι,b⟩
 |y::c,i,ι,σ,b=>by
  simp only[UQ];split
  .rename_i k;split
   .rename_i e;split
    .rename_i E h j l m
     have d:a.tmps[i]? =some (.slice none 0 0):=by
      rw[jI]at e;obtain⟨v,d,f⟩:=b.slots.get i _ e;rw[dd]at d;have f:v= .slice none 0 0:=f
      grind
     exact uJ τ c (i+1) _ _ ((b.nilList k E h).setSlot d (x:=.at (.lst k)) (by show _=_;simp))
    .exact uJ τ c (i+1) ι σ b
   .exact uJ τ c (i+1) ι σ b
  .exact uJ τ c (i+1) ι σ b
theorem nU(τ:St)(q:Nat):∀(f:dz)(j:Nat)(ι:du)(σ:St),aL B ι σ a w->∃A,aL B A (Ix τ q f j σ) a w
 |[],j,ι,σ,d=>⟨ι,d⟩
 |y::f,j,ι,σ,d=>by
  simp only[Ix];split
  .rename_i k;split
   .rename_i p T D s;split
    .rename_i t;split
     .rename_i E l N O Q;have g:q≠k:=λe=>cg
      have m:=d.nilList k E l
      have c:nth ((σ.kill k).setOwn k (some (.lst E l []))).own q=some (some (.cellsP p T (D.map (At.sub k (λ_=>.junk))))):=by
       simp only[Ov,St.setOwn,St.sub,Aj,CR,g,false_and,if_false,s];rfl
      obtain⟨b,i,u,F,G⟩:=wS m c
      have H:i.toList[j]? =some (.slice none 0 0):=by
       obtain⟨R,I,n,J,r⟩:=wS d s;rw[jI]at t;obtain⟨v,S,h⟩:=r.get j _ t;have h:v= .slice none 0 0:=h;rw[pO _ _ g,n]at u
       grind
      have z:i.toList.set j (.slice none 0 0)=i.toList:=by
       apply ext_getElem?
       grind
      have M:aL B (upd ι k (.slice none 0 0)) (IS ((σ.kill k).setOwn k (some (.lst E l []))) q j (.lst k)) a w:=by
       unfold IS;rw[c];refine m.rewrite c (D6.refl _ _) ⟨b,i,u,F,?_,λU e=>by subst e;have:=aoQ m c;grind⟩;have:=G.set j (x:=.lst k) (v:=.slice none 0 0) (by show _=_;simp)
       grind
      exact nU τ q f (j+1) _ _ M
     .exact nU τ q f (j+1) ι σ d
    .exact nU τ q f (j+1) ι σ d
   .exact nU τ q f (j+1) ι σ d
  .exact nU τ q f (j+1) ι σ d
theorem AX(τ:St):∀(b:ez)(q:Nat)(ι:du)(σ:St),aL B ι σ a w->∃d,aL B d (OB τ b q σ) a w
 |[],q,ι,σ,c=>⟨ι,c⟩
 |y::b,q,ι,σ,c=>by
  simp only[OB];split
  .rename_i T f;obtain⟨d,e⟩:=nU τ q f 0 ι σ c;exact AX τ b (q+1) d _ e
  .exact AX τ b (q+1) ι σ c
theorem qK{τ:St}{K:Prop}(s:aL B ι σ a w)(h:yQ σ τ K):∃t,aL B t τ a w/\K:=by
 obtain⟨u,f⟩:=uJ τ τ.sl 0 ι σ s;obtain⟨m,c⟩:=AX τ τ.own 0 u _ f;have c:aL B m (conv σ τ) a w:=c;unfold yQ at h;obtain⟨g,h⟩:=AS h c.slots;obtain⟨d,n,p,v⟩:=yR h;refine⟨m,⟨g,c.defers,λk o e=>c.own k o (d k o e),λk q o r b e i j l=>c.dist k q o r b (d k o e) (d q r i) j l,?_,?_,c.one⟩,v⟩
 .intro k o b e j;rw[<-n, <-p];exact c.fresh k o b (d k o e) j
 .rw[<-n, <-p];exact c.wrel
theorem aL.froze(j:aL B ι σ a w){m2:MH}{g:PH}(f:CG σ.m σ.h m2 g):aL B ι {σ with m:=m2,h:=g} a w:=by
 have c:=j.wrel;refine⟨j.slots,j.defers,j.own,j.dist,λk o b t u=>?_,?_,j.one⟩
 .obtain⟨x,s,F⟩:=j.fresh k o b t u;refine⟨x,?_,λi=>?_⟩
  .show m2 b=none;cases l:m2 b with
   |none=>rfl
   |some o=>rw[f.sub b o l]at s;cases s
  .show g b i=none;cases l:g b i with
   |none=>rfl
   |some v=>
    rcases f.new b i v l with d|⟨n,E,p,d,_,_⟩
    .grind
    grind
 .refine⟨c.tape,c.os,c.output,c.drawn,c.size,c.frame,λb o v e=>?_,λb o e=>c.msat b o (f.sub b o e),λb o e i=>?_,λb o v e=>f.le.le b o v (c.hle b o v e),λb y q=>?_,λb o e=>c.mfr b o (f.sub b o e)⟩
  .rcases f.new b o v e with d|⟨n,E,p,d,r,_⟩
   .exact c.hsat b o v d
   .rw[cell_of_heap (c.msat b _ d),dd];exact r
  .show g b i=none;have e:m2 b=some o:=e;cases l:g b i with
   |none=>rfl
   |some v=>
    rcases f.new b i v l with d|⟨n,E,p,d,r,z⟩
    .rw[c.disj b o (f.sub b o e) i]at d;cases d
    grind
  .funext i;have e:=congrFun (c.hold b y q) i;show g b i=B.h0 b i;cases l:B.h0 b i with
   |some v=>exact f.le.le b i v (c.hle b i v l)
   |none=>
    cases A:g b i with
    |none=>rfl
    |some v=>
     rcases f.new b i v A with d|⟨n,E,p,d,r,z⟩
     .grind
     .rcases c.mfr b _ d with D|D
      .omega
      grind
theorem KM{τ:St}{K:Prop}(r:aL B ι σ a w)(h:Ur σ τ K):∃s,aL B s τ a w/\K:=by
 obtain⟨t,g⟩:=uJ τ τ.sl 0 ι σ r;obtain⟨n,c⟩:=AX τ τ.own 0 t _ g;have c:aL B n (conv σ τ) a w:=c;unfold Ur at h;obtain⟨i,h⟩:=AS h c.slots;obtain⟨d,u,v⟩:=yR h;have e:=c.froze u;exact⟨n,⟨i,c.defers,λk o f=>c.own k o (d k o f),λk p o q b f j l m=>c.dist k p o q b (d k o f) (d p q j) l m,λk o b f l=>e.fresh k o b (d k o f) l,e.wrel,c.one⟩,v⟩
theorem M7{c:vQ}{R:c.A->Prop}(b:aL B ι σ a w)(h:NR c R σ):∃x f,R x/\aL B f (c.st x) a w:=by
 unfold NR at h;split at h
 .obtain⟨x,g,d⟩:=h;obtain⟨i,e,_⟩:=qK b d
  grind
 .obtain⟨x,g,d⟩:=h ⟨b.wrel.disj⟩;obtain⟨i,e,_⟩:=KM b d
  grind
theorem XH{c:vQ}{I S:c.A->Prop}(b:aL B ι σ a w)(h:UY c I S σ):∃x f,I x/\S x/\aL B f (c.st x) a w:=by
 unfold UY at h;split at h
 .obtain⟨x,g,i,d⟩:=h;obtain⟨j,e,_⟩:=qK b d
  grind
 .obtain⟨x,g,i,d⟩:=h ⟨b.wrel.disj⟩;obtain⟨j,e,_⟩:=KM b d
  grind
def QD(B:tI)(Q:Lr->St->Prop):Exit->Act->World->Prop
 |.normal,a,w=>∃ι σ,aL B ι σ a w/\Q .normal σ
 |.exit id,a,w=>∃ι σ,aL B ι σ a w/\Q (.exit id) σ
 |.ret,a,w=>∃ι σ,aL B ι σ a w/\Q .ret σ
 |_,_,_=>False
theorem RI(b:∀g S,assoc C.specs g=some S->Sound C.P g S){ops:Array Oper}{Q:Lr->St->Prop}:
 ∀(c:eo)(l:List Oper)(s:Nat)(ι:du)(σ:St)(a:Act)(w:World),(∀j,l[j]? =ops.toList[s+j]?)->aL B ι σ a w->anQ C ops c l σ (Q .normal)->wpOpsIn Fence.wide 0 C.P ops (QD B Q) (range' s l.length) a w
 |[],l,s,ι,σ,a,w,e,d,h=>by
  have:=IT b (ops:=ops) (Q:=QD B Q) (R:=Q .normal) (rest:=[]) (λι σ a w d h=>⟨ι,σ,d,h⟩) l s ι σ a w (λj _=>e j) d h
  grind
 |(n,f)::c,l,s,ι,σ,a,w,e,d,h=>by
  obtain⟨I,p,q⟩:=h
  have:=IT b (ops:=ops) (Q:=QD B Q) (R:=λτ=>∃x,I x/\yQ τ (f.st x) True) (rest:=range' (s+(l.take n).length) (l.drop n).length) (λy z r t i k=>by
   obtain⟨x,k,u⟩:=k;obtain⟨v,m,_⟩:=qK i u;refine RI b c (l.drop n) (s+(l.take n).length) v _ r t (λj=>?_) m (q x k);rw[getElem?_drop,e];by_cases A:n<=l.length
   .grind
   .have D:l[n+j]? =none:=getElem?_eq_none aC;have E:l[l.length+j]? =none:=getElem?_eq_none aC
    grind) (l.take n) s ι σ a w (λj F=>by
    grind) d p
  grind
theorem OI(q:∀g S,assoc C.specs g=some S->Sound C.P g S):∀(c:Code)(σ:St)(Q:Lr->St->Prop)(ι:du)(a:Act)(w:World),aL B ι σ a w->VC C c σ Q->c.wp C.P (QD B Q) a w:=by
 intro c
 induction c with
 |skip=>intro σ Q ι a w d h;exact wp_skip ⟨ι,σ,d,h⟩
 |label l=>intro σ Q ι a w d h;exact wp_label ⟨ι,σ,d,h⟩
 |exit id=>intro σ Q ι a w d h;exact wp_exit ⟨ι,σ,d,h⟩
 |ret=>intro σ Q ι a w d h;exact wp_ret ⟨ι,σ,d,h⟩
 |goto l=>intro σ Q ι a w d h;exact h.elim
 |refuse a3=>intro σ Q ι a w d h;exact h.elim
 |scope a2 O=>intro σ Q ι a w d h;exact h.elim
 |rangeFunc f ps x y r F=>intro σ Q ι a w d h;exact h.elim
 |region id ops T=>
  intro σ Q ι a w d h;cases T with
  |false=>
   refine(wpIn_wide (n:=0)).1 (wpIn_region ?_);have:=RI q (ops:=ops) (Q:=Q) (OU C id) ops.toList 0 ι σ a w (λj=>bx) d h;rw[range_eq_range'];omega
  |true=>
   simp only[VC]at h;split at h
   .rename_i h1 h2 h3;have hs:=cnJ h1 h2;refine wp_region_any h3 ?_;refine a4Q q hs (Q:=QD B Q) (R:=Q .normal) (λι σ a w d h=>⟨ι,σ,d,h⟩) (λc a w h=>h) ops.size ops.size _ ι σ a _ (d.drew (w.drawn+1) (Nat.le_succ _)) h _ a ?_ ?_
    .have D:∀i,(Array.replicate ops.size false).getD i false=true->False:=by
      intro i s;by_cases p:i<ops.size
      .simp[Array.getD,p]at s
      grind
     exact⟨bx,bx,λi s=>s,λi o _ s=>(D i s).elim,λi o _ s=>(D i s).elim,λi o _ s=>(D i s).elim,rfl,rfl,λt _=>rfl,λi o _ s=>(D i s).elim⟩
    .unfold xA;rw[filter_eq_self.2]
     .simp
     .intro i s;by_cases p:i<ops.size<;>simp[Array.getD,p]
   grind
 |seq x y r F=>
  intro σ Q ι a w d h;simp only[VC]at h;split at h
  .obtain⟨h,m⟩:=h;refine wp_seq (wp_mono (r σ _ ι a w d h) ?_);intro e z A b;cases e with
   |normal=>
    obtain⟨E,U,k,x,V,G⟩:=b;show y.wp C.P (QD B Q) z A;obtain⟨W,u,_⟩:=qK k G
    grind
   |exit id=>exact b
   |ret=>exact b
   |goto l=>exact b
   |panic X=>exact b
   |outgrown=>exact b
  .split at h
   .obtain⟨I,h,m⟩:=h;refine wp_seq (wp_mono (r σ _ ι a w d h) ?_);intro e z A b;cases e with
    |normal=>
     obtain⟨E,U,k,G⟩:=b;show y.wp C.P (QD B Q) z A;obtain⟨x,W,V,u⟩:=M7 k G
     grind
    |exit id=>exact b
    |ret=>exact b
    |goto l=>exact b
    |panic X=>exact b
    |outgrown=>exact b
   .refine wp_seq (wp_mono (r σ _ ι a w d h) ?_);intro e z A b;cases e with
    |normal=>
     obtain⟨E,U,k,Y⟩:=b;show y.wp C.P (QD B Q) z A
     grind
    |exit id=>exact b
    |ret=>exact b
    |goto l=>exact b
    |panic X=>exact b
    |outgrown=>exact b
 |cond c x y r F=>
  intro σ Q ι a w d h;simp only[VC]at h;split at h
  .rename_i t Z;have v:=d.ev c;rw[Z]at v;have v:a.eval c= .bool t:=v;rcases A6 h with⟨rfl,h⟩|⟨rfl,h⟩
   .exact wp_cond_true v (r _ Q ι a w (d.setTmp Z) h)
   .exact wp_cond_false v (F _ Q ι a w (d.setTmp Z) h)
  grind
 |block id c O=>
  intro σ Q ι a w d h;refine wp_block (wp_mono (O σ _ ι a w d h) ?_);intro e z A b;cases e with
  |normal=>exact b
  |exit i=>
   obtain⟨E,U,k,Y⟩:=b;show if i=id then _ else _
   simp only at Y;split at Y
   .rename_i hb;rw[if_pos (da hb)];exact⟨E,U,k,Y⟩
   .rename_i hb;rw[if_neg (λe=>by subst e;simp at hb)];exact⟨E,U,k,Y⟩
  |ret=>exact b
  |goto l=>exact b
  |panic X=>exact b
  |outgrown=>exact b
 |loop c O=>
  intro σ Q ι a w d h;simp only[VC]at h;split at h
  .rename_i l hl;obtain⟨⟨x,V,G⟩,m⟩:=h;obtain⟨W,u,_⟩:=qK d G;refine wp_loop_ghost (λn a w=>∃x ι,l.inv x/\l.mu x=n/\aL B ι (l.st x) a w) (l.mu x) ⟨x,W,V,rfl,u⟩ ?_;rintro n z A ⟨x',E,H,rfl,k⟩;refine wp_mono (O _ _ E z A k (m x' H)) ?_;intro e a0 a1 b;cases e with
   |normal=>
    obtain⟨ι3,σ3,J,y,hy,p,M⟩:=b;obtain⟨ι4,N,_⟩:=qK J M;exact⟨l.mu y,p,y,ι4,hy,rfl,N⟩
   |exit id=>exact b
   |ret=>exact b
   |goto l=>exact b
   |panic X=>exact b
   |outgrown=>exact b
  .split at h
   .rename_i l hl;obtain⟨I,mu,G,m⟩:=h;obtain⟨x,W,V,u⟩:=M7 d G;refine wp_loop_ghost (λn a w=>∃x ι,I x/\mu x=n/\aL B ι (l.st x) a w) (mu x) ⟨x,W,V,rfl,u⟩ ?_;rintro n z A ⟨x',E,H,rfl,k⟩;refine wp_mono (O _ _ E z A k (m x' H)) ?_;intro e a0 a1 b;cases e with
    |normal=>
     obtain⟨ι3,σ3,J,M⟩:=b;obtain⟨y,ι4,hy,p,N⟩:=XH J M;exact⟨mu y,p,y,ι4,hy,rfl,N⟩
    |exit id=>exact b
    |ret=>exact b
    |goto l=>exact b
    |panic X=>exact b
    |outgrown=>exact b
   grind
end
end Go.Vc
namespace Go.Vc
open Go List
section
variable{B:tI}{C:Ctx}{ι:du}{σ:St}{a:Act}{w:World}
def UD(tmps:Array Value):ResultVar->Sem Value
 |.tmp t=>pure (tmps.getD t undef)
 |.cell a t=>do loadVar t (<-asAddr (tmps.getD a undef))
theorem Yf(fn:Func)(tmps:Array Value):results fn tmps=(do let vs <-fn.results.mapM (UD tmps);pure (if h:vs.size=1 then vs[0]else .tuple vs)):=by
 unfold results;congr 1
theorem VI(f:aL B ι σ a w){r:ResultVar}{x:SV}(h:anZ C σ r=some x):∃v,(UD a.tmps r).run C.P w= .ok v w/\Den ι x v:=by
 cases r with
 |tmp t=>
  simp only[anZ,cw]at h;subst h;exact⟨_,rfl,f.ev (.tmp t)⟩
 |cell l T=>
  have d:=f.ev (.tmp l);simp only[anZ]at h;split at h
  .rename_i k off q;rw[q]at d;split at h
   .rename_i p T' cs s;split at h
    .rename_i e u;have e:=Nat.le_of_ble_eq_true e;simp only[cw]at h;subst h;obtain⟨b,m,y,z,n⟩:=wS f s;obtain⟨F,c,A⟩:=d;rw[y]at c;simp only[Value.pointer.injEq,cw,Addr.mk.injEq]at c;obtain⟨rfl, -, -⟩:=c;have g:=(n.drop off).take (C.P.cellsOf T);have D:cs.length=m.toList.length:=n.length;have E:=CN (w:=w) (b:=b) (off:=off) (cs:=(m.toList.drop off).take (C.P.cellsOf T)) u cg (λj v G=>by rw[cell_of_heap z];grind);refine⟨_,?_,MA g⟩;have i:a.tmps.getD l undef= .pointer (some ⟨b,off,none⟩):=A;simp only[UD,i,asAddr,Sem.run_bind,Sem.run_pure,Result.andThen_ok,E]
    .cases h
   .cases h
  .cases h
theorem JJ(f:aL B ι σ a w):∀(l:List ResultVar)(xs:fd),LH C σ l=some xs->∃vs,(l.mapM (UD a.tmps)).run C.P w= .ok vs w/\DenS ι xs vs
 |[],xs,h=>by
  simp[LH]at h;subst h;exact⟨[],bx,trivial⟩
 |r::l,xs,h=>by
  simp only[LH]at h;split at h
  .rename_i x b g c;simp only[cw]at h;subst h;obtain⟨v,i,j⟩:=VI f g;obtain⟨vs,d,e⟩:=JJ f l b c;exact⟨v::vs,by simp[mapM_cons,i,d],j,e⟩
  .cases h
theorem yV(m:aL B ι σ a w){mv:Bool}:∀(xs:fd)(ts:fb)(rs:eb)(vs:dj),D5 C.P σ mv xs ts=some rs->DenS ι xs vs->
 rs.length=vs.length/\(mv=false->rs=vs.map .val)/\∀(i:Nat)(r:CV)(v:Value),rs[i]? =some r->vs[i]? =some v->G5 w r v/\∀b,iG r v=some b->∃k g,nth σ.own k=some (some g)/\blk (ι k)=some b
 |[],ts,rs,[],h,_=>by
  simp[D5]at h;grind
 |[],_,_,_::_,_,c=>c.elim
 |x::xs,_,_,[],_,c=>c.elim
 |x::xs,ts,rs,v::vs,h,c=>by
  simp only[D5]at h;split at h
  .cases h
  .rename_i l p;obtain⟨q,s,t⟩:=yV m xs ts.tail l vs p c.2
   have fin:∀(j:CV),rs=j::l->(mv=false->j= .val v)->G5 w j v->(∀b,iG j v=some b->∃k g,nth σ.own k=some (some g)/\blk (ι k)=some b)->
    rs.length=(v::vs).length/\(mv=false->rs=(v::vs).map .val)/\∀(i:Nat)(r:CV)(u:Value),rs[i]? =some r->(v::vs)[i]? =some u->G5 w r u/\∀b,iG r u=some b->∃k g,nth σ.own k=some (some g)/\blk (ι k)=some b:=by
    grind
   split at h
   .split at h
    .rename_i k;have d:v=ι k:=c.1;split at h
     .rename_i E D F n;simp only[cw]at h;obtain⟨y,G⟩:=sE m n;exact fin _ h.symm (λe=>by cases e) ⟨y,cg⟩ (λb f=>⟨k,_,n,by rw[<-d];exact f⟩)
     .cases h
    .have d:v= .slice none 0 0:=c.1;split at h
     .rename_i E z H;simp only[cw]at h;refine fin _ h.symm (λe=>by cases e) ⟨IV _,by rw[d];exact World.ownsRow_nil w 0 E _⟩ (λb f=>?_);rw[d]at f;simp[iG,blk]at f
     .cases h
    .cases h
   .split at h
    .rename_i u A;simp only[cw]at h;have d:=(c.1).val? A;exact fin _ h.symm (λ_=>by rw[d]) d (λb f=>by simp[iG]at f)
    .cases h
theorem LG(H:aL B ι σ a w){fn:Func}{K:dk}(h:FY C fn K σ):
 ∃u,(results fn a.tmps).run C.P w= .ok u w/\∃r m' s,K r m' s/\G5 w r u/\A7 B m' s w/\∀b,iG r u=some b->(B.w0.heap.size<=b\/B.E b)/\m' b=none/\∀i,s b i=none:=by
 unfold FY at h;split at h
 .exact h.elim
 .rename_i U I;obtain⟨V,p,h,_⟩:=oH _ _ H h;obtain⟨τ,d,h,_⟩:=z6 _ _ p h;split at h
  .exact h.elim
  .rename_i J t;obtain⟨f,x,j⟩:=JJ d _ _ t
   have F:(results fn a.tmps).run C.P w= .ok (if h:f.toArray.size=1 then f.toArray[0]else .tuple f.toArray) w:=by
    rw[Yf,Array.mapM_eq_mapM_toList];simp[x]
   have g:∀(n:eb)(r:CV)(v:Value),D5 C.P τ C.retMove J fn.resultTypes.toList=some n->(∃i:Nat,n[i]? =some r/\f[i]? =some v)->G5 w r v/\∀b,iG r v=some b->(B.w0.heap.size<=b\/B.E b)/\τ.m b=none/\∀i,τ.h b i=none:=by
    rintro n r v l ⟨i,q,M⟩;obtain⟨_,_,N⟩:=yV d _ _ _ _ l j;obtain⟨y,z⟩:=N i r v q M;refine⟨y,λb A=>?_⟩;obtain⟨k,O,Q,D⟩:=z b A;exact d.fresh k O b Q D
   split at h
   .rename_i r q;obtain⟨c,_,_⟩:=yV d _ _ _ _ q j;simp at c
    obtain⟨v,rfl⟩:∃v,f=[v]:=by
     match f,c with
     |[v],_=>grind
    obtain⟨y,z⟩:=g _ r v q ⟨0,rfl,rfl⟩;refine⟨v,cg,r,τ.m,τ.h,h,y,d.wrel,z⟩
   .rename_i n R l;split at h
    .exact h.elim
    .rename_i S;obtain⟨c,G,_⟩:=yV d _ _ _ _ l j
     have T:f.length≠1:=by
      intro e;rw[e]at c
      match n,c with
      |[r],_=>grind
     refine⟨.tuple f.toArray,cg,.tup n,τ.m,τ.h,h,⟨f.toArray,rfl,cg⟩,d.wrel,λb A=>by simp[iG]at A⟩
   grind
def PG(n:Nat)(b:eb)(vs:dj)(k:Nat):Value:=
 match b[k-n]?,vs[k-n]? with
 |some (.lst _ _ _),some v=>v
 |_,_=>.slice none 0 0
theorem rD{w:World}:∀{b:eb}{vs:dj},DV w b vs->b.length=vs.length/\∀(i:Nat)(c:CV)(v:Value),b[i]? =some c->vs[i]? =some v->G5 w c v
 |[],[],_=>⟨rfl,λi c v h=>by simp at h⟩
 |c::cs,v::vs,h=>by
  obtain⟨f,g⟩:=rD h.2;refine⟨by simp[f],λi j k d e=>?_⟩;cases i with
  |zero=>simp at d e;subst d e;exact h.1
  |succ i=>grind
 |[],_::_,h=>h.elim
 |_::_,[],h=>h.elim
theorem Nq{n:Nat}{all:eb}{avs:dj}{w:World}:∀(i:Nat)(b:eb)(vs:dj),DV w b vs->(∀j:Nat,b[j]? =all[i+j]?)->(∀j:Nat,vs[j]? =avs[i+j]?)->
 DenS (PG n all avs) (Iw n i b) vs
 |i,[],[],_,_,_=>trivial
 |i,c::b,v::vs,h,e,f=>by
  have d:=Nq (n:=n) (all:=all) (avs:=avs) (i+1) b vs h.2 (λj=>by have:=e (j+1);grind) (λj=>by have:=f (j+1);grind);cases c with
  |val u=>exact⟨h.1,d⟩
  |lst E l m=>
   refine⟨?_,d⟩;show v=PG n all avs (n+i);have g:=e 0;have k:=f 0;simp at g k;unfold PG
   grind
  |tup p=>exact⟨trivial,d⟩
 |i,[],_::_,h,_,_=>h.elim
 |i,_::_,[],h,_,_=>h.elim
theorem La:∀(b:eb)(k:Nat)(o:Own),nth (A4 b) k=some (some o)->∃E sz xs,b[k]? =some (.lst E sz xs)/\o= .lst E sz xs
 |[],k,o,h=>by simp[A4,nth]at h
 |c::b,0,o,h=>by
  cases c<;>simp[A4,nth]at h
  grind
 |c::b,k+1,o,h=>by
  have:nth (A4 b) k=some (some o):=by cases c<;>simpa[A4,nth]using h
  obtain⟨E,sz,xs,d,e⟩:=La b k o this
  grind
theorem TJ{ι:du}:∀(n:Nat)(vs:dj),vs.length=n->DenS ι (replicate n (.at .junk)) vs
 |0,[],_=>trivial
 |n+1,v::vs,h=>⟨trivial,TJ n vs cg⟩
 |0,_::_,h=>by simp at h
 |_+1,[],h=>by simp at h
theorem DenS.append{ι:du}:∀{xs b:fd}{vs c:dj},DenS ι xs vs->DenS ι b c->DenS ι (xs++b) (vs++c)
 |[],_,[],_,_,d=>cg
 |_::_,_,_::_,_,h,d=>⟨h.1,DenS.append h.2 d⟩
 |[],_,_::_,_,h,_=>h.elim
 |_::_,_,[],_,h,_=>h.elim
theorem K9{w:World}{m:MH}{h:PH}{c:eb}{vs:dj}(n:Nat)(r:B9 w m h c vs):
 aL ⟨w,y7 m c vs,h,[]⟩ (PG n c vs) (entry n c m h) {tmps:=vs.toArray++Array.replicate (n-vs.toArray.size) undef,defers:=[]} w:=by
 obtain⟨H,p⟩:=rD r.args
 have d:∀k o,nth (entry n c m h).own k=some (some o)->n<=k/\∃E g i,c[k-n]? =some (.lst E g i)/\o= .lst E g i/\∃v,vs[k-n]? =some v/\PG n c vs k=v/\G5 w (.lst E g i) v:=by
  intro k o e;simp only[entry]at e;rw[jI]at e;by_cases s:k<n
  .grind
  .rw[getElem?_append_right cg]at e;simp only[length_replicate]at e;rw[<-jI]at e;obtain⟨E,g,i,f,y⟩:=La c (k-n) o e
   have z:k-n<vs.length:=by
    grind
   have q:vs[k-n]? =some vs[k-n]:=cq z;refine⟨aC,E,g,i,f,y,_,q,?_,p _ _ _ f q⟩;unfold PG
   grind
 refine⟨?_,rfl,?_,?_,?_,?_,?_⟩
 .have f:=Nq (n:=n) (all:=c) (avs:=vs) 0 c vs r.args (λj=>bx) (λj=>bx);show DenS _ (Iw n 0 c++replicate (n-c.length) (.at .junk)) _;have:(vs.toArray++Array.replicate (n-vs.toArray.size) undef).toList=vs++replicate (n-vs.length) undef:=bx
  rw[this];exact f.append (TJ _ _ cg)
 .intro k o e;obtain⟨s,E,g,i,f,rfl,v,q,u,t⟩:=d k o e;rw[u];exact t
 .intro k I o N b e A l x;obtain⟨s,E,g,i,f,rfl,v,q,u,t⟩:=d k o e;obtain⟨J,E',O,Q,D,rfl,R,F,G,M⟩:=d I N A;rw[u]at l;rw[G]at x;have:=r.sep (k-n) (I-n) _ _ v R b f q D F l x;omega
 .intro k o b e l;obtain⟨s,E,g,i,f,rfl,v,q,u,t⟩:=d k o e;rw[u]at l;obtain⟨S,T⟩:=r.free (k-n) _ v b f q l;exact⟨.inr (.inr ⟨k-n,_,v,f,q,l⟩),S,T⟩
 .refine⟨rfl,rfl,rfl,Nat.le_refl _,Nat.le_refl _,λ_ _ _=>rfl,r.hsat,r.msat,r.disj,λ_ _ _ h=>h,λ_ _ _=>rfl,λb U l=>.inr (.inl (by have l:m b=some U:=l;grind))⟩
 .intro k;unfold PG;split
  .rename_i E g i v f y;exact Nd (p _ _ _ f y).2
  .rfl
theorem eA{P:Program}{f:FuncId}{fn:Func}{c:Code}(z:P.funcs[f]? =some fn)(D:fn.body=some c)(k:(fn.name== "runtime.NumGoroutine")=false){S:Spec}
 (t:∀d m h K,S d m h K->∃C:Ctx,C.P=P/\(∀g S,assoc C.specs g=some S->Sound P g S)/\tB C fn c (entry fn.ntmps d m h) K):Sound P f S:=by
 refine⟨⟨fn,z,cg,k⟩,?_⟩;intro d x m h w K E F;obtain⟨C,rfl,j,G⟩:=t d m h K E;refine calls_of_wp z D ?_;refine wp_mono (OI j c _ _ _ _ w (K9 fn.ntmps F) G) ?_;intro e y p n
 have key:(∃ι σ,aL ⟨w,y7 m d x,h,[]⟩ ι σ y p/\FY C fn K σ)->y.defers=[]/\∃v,(results fn y.tmps).run C.P p= .ok v p/\∃r u q s,Ending.returned v= .returned u/\K r q s/\G5 p r u/\A7 ⟨w,y7 m d x,h,[]⟩ q s p/\
  ∀b,iG r u=some b->(w.heap.size<=b\/y7 m d x b)/\q b=none/\∀i,s b i=none:=by
  rintro⟨ι,σ,A,H⟩;obtain⟨u,I,r,q,s,J,M,N,O⟩:=LG A H;exact⟨A.defers,u,I,r,u,q,s,rfl,J,M,N,O⟩
 cases e with
 |normal=>exact key n
 |ret=>exact key n
 |exit id=>obtain⟨_,_,_,h⟩:=n;grind
 |goto l=>exact n.elim
 |panic Q=>exact n.elim
 |outgrown=>exact n.elim
theorem R4{P:Program}{f:FuncId}{fn:Func}{c:Code}(F:P.funcs[f]? =some fn)(s:fn.body=some c)(n:(fn.name== "runtime.NumGoroutine")=false){S:Spec}
 (G:∀d m h K,S d m h K->∃C:Ctx,C.P=P/\(∀g S,assoc C.specs g=some S->Sound P g S)/\tB C fn c (entry fn.ntmps d m h) (λr m' p=>∃m2 j,(∀b o,m2 b=some o->m' b=some o)/\PH.le h j/\PH.le j p/\K r m2 j)):Sound P f S:=by
 have A:=eA F s n (S:=λd m h K=>∃K',S d m h K'/\K=λr m' p=>∃m2 j,(∀b o,m2 b=some o->m' b=some o)/\PH.le h j/\PH.le j p/\K' r m2 j) (by
  grind)
 refine⟨A.1,λd H m h w K I J=>?_⟩;refine(A.2 d H m h w _ ⟨K,I,rfl⟩ J).mono ?_;rintro e T ⟨r,u,m',p,M,⟨m2,j,t,D,E,N⟩,x,k,y⟩
 have l:∀b i,p b i=none->j b i=none:=by
  intro b i e;cases q:j b i with
  |none=>rfl
  |some v=>rw[E.le b i v q]at e;cases e
 refine⟨r,u,m2,j,M,N,x,?_,λb s=>?_⟩
 .refine⟨k.tape,k.os,k.output,k.drawn,k.size,k.frame,λb o v e=>k.hsat b o v (E.le b o v e),λb o e=>k.msat b o (t b o e),λb o e i=>l b i (k.disj b o (t b o e) i),D.le,λb O z=>?_,λb o e=>k.mfr b o (t b o e)⟩;funext i;have e:=congrFun (k.hold b O z) i;show j b i=h b i;cases q:h b i with
  |some v=>exact(D.le b i v q)
  |none=>grind
 .obtain⟨Q,U,R⟩:=y b s;refine⟨Q,?_,λi=>l b i (R i)⟩;cases q:m2 b with
  |none=>rfl
  |some o=>grind
def fJ(h:PH)(K:dk):CV->MH->PH->Prop:=λr c f=>(∀b o,c b=some o->∀i,f b i=none)->∃d e,(∀b o,d b=some o->c b=some o)/\PH.le h e/\
 (∀b i v,e b i=some v->f b i=some v\/∃g E j,c b=some (.cells g E j)/\g[i]? =some v/\d b=none)/\K r d e
theorem Sound.strong{P:Program}{f:FuncId}{S:Spec}(y:Sound P f (λg m h K=>∃K',S g m h K'/\K=fJ h K')):Sound P f S:=by
 refine⟨y.1,λg G m h w K H I=>?_⟩;refine(y.2 g G m h w _ ⟨K,H,rfl⟩ I).mono ?_;rintro e V ⟨r,u,W,X,J,j,n,c,p⟩;obtain⟨z,k,q,A,s,M⟩:=j c.disj;refine⟨r,u,z,k,J,M,n,?_,λb N=>?_⟩
 .refine⟨c.tape,c.os,c.output,c.drawn,c.size,c.frame,λb o v e=>?_,λb o e=>c.msat b o (q b o e),λb o e i=>?_,A.le,λb O t=>?_,λb o e=>c.mfr b o (q b o e)⟩
  .rcases s b o v e with d|⟨D,E,F,d,x,_⟩
   .exact c.hsat b o v d
   .rw[cell_of_heap (c.msat b _ d),dd];exact x
  .cases l:k b i with
   |none=>rfl
   |some v=>
    rcases s b i v l with d|⟨D,E,F,d,x,Q⟩
    .rw[c.disj b o (q b o e) i]at d;cases d
    grind
  .funext i;have e:=congrFun (c.hold b O t) i;show k b i=h b i;cases l:h b i with
   |some v=>exact(A.le b i v l)
   |none=>
    cases R:k b i with
    |none=>rfl
    |some v=>
     rcases s b i v R with d|⟨D,E,F,d,x,Q⟩
     .grind
     .rcases c.mfr b _ d with T|T
      .omega
      grind
 .obtain⟨U,Y,Z⟩:=p b N;refine⟨U,?_,λi=>?_⟩
  .cases l:z b with
   |none=>rfl
   |some o=>grind
  .cases l:k b i with
   |none=>rfl
   |some v=>
    grind
theorem aNQ{P:Program}{f:FuncId}{fn:Func}{c:Code}(e:P.funcs[f]? =some fn)(i:fn.body=some c)(d:(fn.name== "runtime.NumGoroutine")=false){S:Spec}
 (j:∀b m h K,S b m h K->∃C:Ctx,C.P=P/\(∀g S,assoc C.specs g=some S->Sound P g S)/\tB C fn c (entry fn.ntmps b m h) (fJ h K)):Sound P f S:=
 .strong (eA e i d (S:=λb m h K=>∃K',S b m h K'/\K=fJ h K') (by
  grind))
end
end Go.Vc
namespace Go.Vc
open Go List
theorem aB{c:Bool}{A B:Prop}(b:c=true->A)(d:c=false->B):branch c A B:=by
 cases c
 .exact d rfl
 .exact b rfl
theorem aD{p:Prop}[Decidable p]{A B:Prop}(b:p->A)(c:¬p->B):branch (decide p) A B:=
 aB (λh=>b (of_decide_eq_true h)) (λh=>c (of_decide_eq_false h))
theorem dL{n:Int}(b: -9223372036854775808<=n)(c:n<9223372036854775808):IntKind.i64.wrap n=n:=by
 rw[IntKind.wrap_i64];omega
theorem aR.of_m{m:MH}{h:PH}{b off:Nat}{cs:Array Value}{E:TypeId}{c:Nat×Nat}{l:dj}(d:m b=some (.cells cs E c))(e:(cs.toList.drop off).take l.length=l):aR m h b off l:=.lent cs E c d e
end Go.Vc
namespace Go.Ps
open Go Go.Vc Go.Proofs List Tryz
variable{K:dk}{m:MH}{h:PH}{ps:dl}{cb:Nat}{l:dl}{i:Nat}{N:Nat}{m':MH}{h':PH}{co:dl}{gr:dl}{od:dr}{ta:Int}{li:Int}{xs:List dj}{sz:Nat}{k:Nat}{ks:List dl}{rs:dl}{r:Sl}{a:dl}{b:Nat}
structure VV where
 kind:Int
 int:Int
 text:ByteArray
abbrev dp:=List VV
abbrev em:=List (Sl×dp)
abbrev dm:=List dp
structure OV where
 kind:Int
 index:Int
 value:VV
structure PV where
 op:Int
 cmp:Int
 left:OV
 right:OV
 args:Sl
abbrev en:=List PV
structure QV where
 op:Int
 table:Int
 where_:PV
 columns:Sl
 on:Sl
 group:Sl
 order:Sl
 limit:Int
 args:Sl
abbrev eh:=List QV
variable{v:QV}
structure gA where
 op:Int
 table:Int
 where_:PV
 columns:Sl
 on:Sl
 group:Sl
 order:Sl
 limit:Int
 left:Int
 right:Int
structure pB where
 name:ByteArray
 kind:Int
structure Ga where
 columns:Sl
 table:Int
structure cR where
 name:ByteArray
 columns:Sl
 key:Int
 references:Sl
 checks:Sl
structure bX where
 version:Int
 tables:Sl
variable{sc:bX}
abbrev fE(n:Int):Value:=.int .i64 n
abbrev iI(s:Sl):Value:=.slice s.a s.len s.cap
abbrev sC:Value:=.slice none 0 0
abbrev MX:Value:=.string ⟨⟨[]⟩⟩
abbrev vQp(b o:Nat):Value:=.pointer (some ⟨b,o,none⟩)
abbrev fL(n:Int):At:=.val (.int .i64 n)
abbrev jR(s:Sl):At:=.val (.slice s.a s.len s.cap)
abbrev Q9:At:=.val (.slice none 0 0)
abbrev OF:At:=.val (.string ⟨⟨[]⟩⟩)
abbrev eR(n:Int):SV:=.at (.val (.int .i64 n))
abbrev Ye(s:Sl):SV:=.at (.val (.slice s.a s.len s.cap))
abbrev sQn:SV:=.at (.val (.slice none 0 0))
abbrev sQp(b o:Nat):SV:=.at (.ptr b o)
abbrev sQo(b o:Nat):SV:=.at (.val (.pointer (some ⟨b,o,none⟩)))
abbrev sQb(b:Bool):SV:=.at (.val (.bool b))
abbrev sQl(k:Nat):SV:=.at (.lst k)
abbrev fN(n:Int):CV:=.val (.int .i64 n)
abbrev vD(b:Bool):CV:=.val (.bool b)
abbrev F9(s:Sl):CV:=.val (.slice s.a s.len s.cap)
abbrev iO:CV:=.val (.slice none 0 0)
abbrev uR(b o:Nat):CV:=.val (.pointer (some ⟨b,o,none⟩))
abbrev gV(l:dj):CV:=.val (.agg ⟨l⟩)
abbrev oQ(T:TypeId)(l:dz):Option Go.Vc.Own:=some (.cells T l)
abbrev eQ{α:Type}(x:α):Prop:=x=x
abbrev eP(k:Nat):Prop:=sQp k 0=sQp k 0
abbrev eL(k:Nat):Prop:=sQl k=sQl k
abbrev UZ(s:ByteArray):At:=.val (.string s)
abbrev zQ:dz:=[fL 0,fL 0,fL 0,fL 0,fL 0,fL 0,fL 0,fL 0,OF,fL 0,fL 0,fL 0,fL 0,OF,Q9,Q9,Q9,Q9,Q9,fL 0,Q9]
abbrev zP:dz:=[fL 0,fL 0,fL 0,fL 0,fL 0,fL 0,OF,fL 0,fL 0,fL 0,fL 0,OF,Q9]
def eI(n:Int):dj:=[.int .i64 n]
def eS(s:Sl):dj:=[.slice s.a s.len s.cap]
def VV.enc(v:VV):dj:=[.int .i64 v.kind,.int .i64 v.int,.string v.text]
def OV.enc(o:OV):dj:=[.int .i64 o.kind,.int .i64 o.index,.int .i64 o.value.kind,.int .i64 o.value.int,.string o.value.text]
def PV.enc(p:PV):dj:=
 [.int .i64 p.op,.int .i64 p.cmp,
  .int .i64 p.left.kind,.int .i64 p.left.index,.int .i64 p.left.value.kind,.int .i64 p.left.value.int,.string p.left.value.text,
  .int .i64 p.right.kind,.int .i64 p.right.index,.int .i64 p.right.value.kind,.int .i64 p.right.value.int,.string p.right.value.text,
  .slice p.args.a p.args.len p.args.cap]
def QV.enc(q:QV):dj:=
 [.int .i64 q.op,.int .i64 q.table,
  .int .i64 q.where_.op,.int .i64 q.where_.cmp,
  .int .i64 q.where_.left.kind,.int .i64 q.where_.left.index,.int .i64 q.where_.left.value.kind,.int .i64 q.where_.left.value.int,.string q.where_.left.value.text,
  .int .i64 q.where_.right.kind,.int .i64 q.where_.right.index,.int .i64 q.where_.right.value.kind,.int .i64 q.where_.right.value.int,.string q.where_.right.value.text,
  .slice q.where_.args.a q.where_.args.len q.where_.args.cap,
  .slice q.columns.a q.columns.len q.columns.cap,.slice q.on.a q.on.len q.on.cap,.slice q.group.a q.group.len q.group.cap,.slice q.order.a q.order.len q.order.cap,
  .int .i64 q.limit,.slice q.args.a q.args.len q.args.cap]
def gA.enc(q:gA):dj:=
 [.int .i64 q.op,.int .i64 q.table,
  .int .i64 q.where_.op,.int .i64 q.where_.cmp,
  .int .i64 q.where_.left.kind,.int .i64 q.where_.left.index,.int .i64 q.where_.left.value.kind,.int .i64 q.where_.left.value.int,.string q.where_.left.value.text,
  .int .i64 q.where_.right.kind,.int .i64 q.where_.right.index,.int .i64 q.where_.right.value.kind,.int .i64 q.where_.right.value.int,.string q.where_.right.value.text,
  .slice q.where_.args.a q.where_.args.len q.where_.args.cap,
  .slice q.columns.a q.columns.len q.columns.cap,.slice q.on.a q.on.len q.on.cap,.slice q.group.a q.group.len q.group.cap,.slice q.order.a q.order.len q.order.cap,
  .int .i64 q.limit,.int .i64 q.left,.int .i64 q.right]
def pB.enc(c:pB):dj:=[.string c.name,.int .i64 c.kind]
def Ga.enc(r:Ga):dj:=[.slice r.columns.a r.columns.len r.columns.cap,.int .i64 r.table]
def cR.enc(t:cR):dj:=[.string t.name,.slice t.columns.a t.columns.len t.columns.cap,.int .i64 t.key,.slice t.references.a t.references.len t.references.cap,.slice t.checks.a t.checks.len t.checks.cap]
def bX.enc(s:bX):dj:=[.int .i64 s.version,.slice s.tables.a s.tables.len s.tables.cap]
abbrev zV:dj:=[fE 0,fE 0,fE 0,fE 0,fE 0,fE 0,fE 0,fE 0,MX,fE 0,fE 0,fE 0,fE 0,MX,sC,sC,sC,sC,sC,fE 0,sC]
abbrev pQ(p:PV)(r:dz):dz:=fL p.op::fL p.cmp::fL p.left.kind::fL p.left.index::fL p.left.value.kind::fL p.left.value.int::UZ p.left.value.text::fL p.right.kind::fL p.right.index::fL p.right.value.kind::fL p.right.value.int::UZ p.right.value.text::jR p.args::r
abbrev qQ(q:QV)(x:At):dz:=fL q.op::fL q.table::pQ q.where_ [jR q.columns,jR q.on,jR q.group,jR q.order,fL q.limit,x]
def tL(p:Int×Int):dj:=[.int .i64 p.1,.int .i64 p.2]
def Ah(p:Int×Bool):dj:=[.int .i64 p.1,.bool p.2]
def dI:Dec:=⟨Int,eI⟩
def dS:Dec:=⟨Sl,eS⟩
def dB:Dec:=⟨Bool,λb=>[.bool b]⟩
def dU8:Dec:=⟨UInt8,λb=>[.int .u8 b.toNat]⟩
def cIZ:Dec:=⟨ByteArray,λs=>[.string s]⟩
def bCZ:Option Nat->Value
 |none=>.nilFunc
 |some f=>.func (.func f) #[] #[]
def dF:Dec:=⟨Option Nat,λf=>[bCZ f]⟩
structure NV where
 s:bX
 params:Sl
 q:QV
 args:Sl
def NV.enc(n:NV):dj:=n.s.enc++eS n.params++n.q.enc++eS n.args
structure PlV where
 query:QV
 args:Sl
 rows:Int
 env:Int
 width:Int
def PlV.enc(x:PlV):dj:=x.query.enc++[.slice x.args.a x.args.len x.args.cap,.int .i64 x.rows,.int .i64 x.env,.int .i64 x.width]
def dec:TypeId->Dec:=λT=>match T with
 |2=>dI
 |3=>dI
 |4=>dB
 |5=>dU8
 |9=>cIZ
 |54=>dI
 |22=>dS
 |23=>dS
 |25=>dS
 |30=>dS
 |33=>dS
 |34=>dS
 |35=>dS
 |36=>dS
 |41=>dS
 |53=>dS
 |94=>dS
 |84=>dS
 |85=>dS
 |79=>dS
 |43=>⟨bX,bX.enc⟩
 |27=>⟨VV,VV.enc⟩
 |29=>⟨OV,OV.enc⟩
 |32=>⟨PV,PV.enc⟩
 |38=>⟨QV,QV.enc⟩
 |87=>⟨cR,cR.enc⟩
 |101=>⟨Int×Int,tL⟩
 |103=>⟨Int×Bool,Ah⟩
 |113=>⟨pB,pB.enc⟩
 |146=>⟨Ga,Ga.enc⟩
 |218=>⟨NV,NV.enc⟩
 |219=>dF
 |235=>dF
 |226=>⟨Nat,λb=>[.func (.func 233) #[] #[.pointer (some ⟨b,0,none⟩)]]⟩
 |169=>⟨Nat,λb=>[.map (some b)]⟩
 |173=>⟨Nat,λb=>[.map (some b)]⟩
 |60=>dS
 |134=>dS
 |62=>⟨Sl×Sl,λp=>[.slice p.1.a p.1.len p.1.cap,.slice p.2.a p.2.len p.2.cap]⟩
 |123=>⟨gA,gA.enc⟩
 |130=>⟨Nat,λb=>[.map (some b)]⟩
 |136=>⟨PlV,PlV.enc⟩
 |133=>⟨Nat×Nat×Nat,λb=>[.func (.func 80) #[] #[.pointer (some ⟨b.1,0,none⟩),.pointer (some ⟨b.2.1,0,none⟩),.pointer (some ⟨b.2.2,0,none⟩)]]⟩
 |_=>⟨Unit,λ_=>[]⟩
def cM(f:Func):Code:=match f.body with|some c=>c|none=>.skip
noncomputable def ctx(specs:List (Nat×Vc.Spec))(loops:List (Nat×OH))(cuts:List (Nat×akJ))(moves:List (Nat×ed))(retMove:Bool):Ctx:=
 {P:=Tryz.prog,loops2:=[],cuts2:=[],rcuts:=[],heapT:=[],specs:=specs,dec:=dec,loops:=loops,cuts:=cuts,moves:=moves,retMove:=retMove,yield:=none}
noncomputable def cT(specs:List (Nat×Vc.Spec))(loops:eo)(cuts:eo)(moves:List (Nat×ed))(retMove:Bool):Ctx:=
 {P:=Tryz.prog,loops2:=loops,cuts2:=cuts,rcuts:=[],heapT:=[],specs:=specs,dec:=dec,loops:=[],cuts:=[],moves:=moves,retMove:=retMove,yield:=none}
noncomputable def cIJ(specs:List (Nat×Vc.Spec))(loops:eo)(cuts:eo)(rcuts:List (Nat×eo))(moves:List (Nat×ed))(retMove:Bool):Ctx:=
 {P:=Tryz.prog,loops2:=loops,cuts2:=cuts,rcuts:=rcuts,heapT:=[],specs:=specs,dec:=dec,loops:=[],cuts:=[],moves:=moves,retMove:=retMove,yield:=none}
noncomputable def rI(specs:List (Nat×Vc.Spec))(loops:eo)(cuts:eo)(rcuts:List (Nat×eo))(heapT:fb)(moves:List (Nat×ed))(retMove:Bool):Ctx:=
 {P:=Tryz.prog,loops2:=loops,cuts2:=cuts,rcuts:=rcuts,heapT:=heapT,specs:=specs,dec:=dec,loops:=[],cuts:=[],moves:=moves,retMove:=retMove,yield:=none}
abbrev di:=Sound Tryz.prog
theorem aG:∀g S,assoc ([]:List (Nat×Vc.Spec)) g=some S->di g S:=λg S h=>by simp[assoc]at h
theorem aE{c:Nat}{S0:Vc.Spec}{r:List (Nat×Vc.Spec)}(e:di c S0)(f:∀g S,assoc r g=some S->di g S):∀g S,assoc ((c,S0)::r) g=some S->di g S:=by
 intro g S h;simp only[assoc]at h;split at h
 .rename_i d;have:=da d
  grind
 grind
def Xz(n:Int):dw->Int×dw
 |[]=>(0,[])
 |b::r=>if n<1 then(0,b::r)else((b.toNat:Int)%n,r)
structure alZ(m:MH)(h:PH)(cb:Nat)(r:dw):Prop where
 ex:∃(s:Sl)(cs:dw)(k:Nat),m cb=some (.cells #[.slice s.a s.len s.cap,.int .i64 k] 83 (0,0))/\cE h s 1 (bH cs)/\k<=cs.length/\cs.length<=1000/\r=cs.drop k
structure bK(m m':MH)(cb:Nat):Prop where
 other:∀b,b≠cb->m' b=m b
end Go.Ps
namespace Go.Vc
open Go List
theorem PH.le.refl(h:PH):PH.le h h:=⟨λ_ _ _ e=>e⟩
theorem PH.le.trans{h h' c:PH}(a:PH.le h h')(b:PH.le h' c):PH.le h c:=⟨λx y v e=>b.le x y v (a.le x y v e)⟩
theorem bZ.mono{h h':PH}{b o:Nat}{l:dj}(r:bZ h b o l)(le:PH.le h h'):bZ h' b o l:=⟨λi v e=>le.le _ _ _ (r.rd i v e)⟩
theorem cE.mono{h h':PH}{s:Sl}{sz:Nat}{xs:List dj}(r:cE h s sz xs)(le:PH.le h h'):cE h' s sz xs:=
 ⟨r.len,r.row.imp id λ⟨b,o,e,k⟩=>⟨b,o,e,λi x c=>(k i x c).mono le⟩,r.cap⟩
theorem cE.get{h:PH}{s:Sl}{sz:Nat}{xs:List dj}(r:cE h s sz xs){i:Nat}{e:dj}(c:xs[i]? =some e):
 ∃b o,s.a=some ⟨b,o,none⟩/\bZ h b (o+i*sz) e:=by
 rcases r.row with rfl|⟨b,o,d,k⟩
 .simp at c
 grind
theorem dC.blk{m:MH}{s:Sl}{E sz:Nat}{xs:List dj}(h:dC m s E sz xs){b i:Nat}(e:s.a=some ⟨b,i,none⟩):∃c,m b=some (.cells c E (0,0)):=by
 rcases h.ex with⟨rfl,_⟩|⟨f,d,c,rfl,g,_⟩
 .cases e
 grind
theorem dC.slen{m:MH}{s:Sl}{E sz:Nat}{xs:List dj}(h:dC m s E sz xs):s.len=xs.length:=by
 rcases h.ex with⟨rfl,rfl⟩|⟨e,c,d,rfl,f,_⟩<;>rfl
theorem dC.keep{m m':MH}{s:Sl}{E sz:Nat}{xs:List dj}(h:dC m s E sz xs)(f:∀b i,s.a=some ⟨b,i,none⟩->m' b=m b):dC m' s E sz xs:=by
 refine⟨h.rows,?_⟩;rcases h.ex with c|⟨b,d,e,rfl,g,j⟩
 .exact .inl c
 grind
theorem cE.nil(h:PH)(sz:Nat):cE h ⟨none,0,0⟩ sz []:=⟨rfl,.inl rfl,Nat.le_refl _⟩
end Go.Vc
namespace Go.Ps
open Go Go.Vc Go.Proofs List Tryz
variable{K:dk}{m:MH}{h:PH}{ps:dl}{cb:Nat}{sc:bX}{v:QV}{l:dl}{i:Nat}{N:Nat}{m':MH}{h':PH}{co:dl}{gr:dl}{od:dr}{ta:Int}{li:Int}{xs:List dj}{sz:Nat}{k:Nat}{ks:List dl}{rs:dl}{r:Sl}{a:dl}{b:Nat}
structure Ints(h:PH)(s:Sl)(l:dl):Prop where
 row:cE h s 1 (l.map eI)
 len:l.length<=17592186044416
theorem Ints.mono{s:Sl}(r:Ints h s l)(le:PH.le h h'):Ints h' s l:=⟨r.row.mono le,r.len⟩
theorem Ints.slen{s:Sl}(r:Ints h s l):s.len=l.length:=by have:=r.row.len;grind
structure jA(h:PH)(s:Sl)(l:dq):Prop where
 row:cE h s 2 (l.map tL)
 len:l.length<=8796093022208
theorem jA.mono{s:Sl}{l:dq}(r:jA h s l)(le:PH.le h h'):jA h' s l:=⟨r.row.mono le,r.len⟩
theorem jA.slen{s:Sl}{l:dq}(r:jA h s l):s.len=l.length:=by have:=r.row.len;grind
structure iV(h:PH)(s:Sl)(l:dr):Prop where
 row:cE h s 2 (l.map Ah)
 len:l.length<=8796093022208
theorem iV.mono{s:Sl}{l:dr}(r:iV h s l)(le:PH.le h h'):iV h' s l:=⟨r.row.mono le,r.len⟩
theorem iV.slen{s:Sl}{l:dr}(r:iV h s l):s.len=l.length:=by have:=r.row.len;grind
inductive Pred where
 |mk (op cmp:Int) (left right:OV) (args:List Pred)
abbrev dx:=List Pred
variable{p:Pred}{w:Pred}
mutual
def dX(h:PH):Pred->PV->Prop
 |.mk op c l r args,v=>v.op=op/\v.cmp=c/\v.left=l/\v.right=r/\args.length<=502633886983/\∃d:en,cE h v.args 13 (d.map PV.enc)/\qC h args d
def qC(h:PH):dx->en->Prop
 |[],d=>d=[]
 |p::ps,d=>∃v c,d=v::c/\dX h p v/\qC h ps c
end
mutual
theorem dX.mono{h h':PH}(le:PH.le h h'):∀{p:Pred}{v:PV},dX h p v->dX h' p v
 |.mk ..,_,⟨c,d,e,f,g,j,n,q⟩=>⟨c,d,e,f,g,j,n.mono le,qC.mono le q⟩
theorem qC.mono{h h':PH}(le:PH.le h h'):∀{ps:dx}{vs:en},qC h ps vs->qC h' ps vs
 |[],_,h=>h
 |_::_,_,⟨v,c,d,e,f⟩=>⟨v,c,d,dX.mono le e,qC.mono le f⟩
end
theorem qC.length{h:PH}:∀{ps:dx}{vs:en},qC h ps vs->vs.length=ps.length
 |[],_,h=>by rw[show _=[]from h];rfl
 |_::_,_,⟨_,_,c,_,d⟩=>by rw[c];simp[qC.length d]
theorem qC.get{h:PH}:∀{ps:dx}{vs:en},qC h ps vs->∀{i:Nat}{p:Pred},ps[i]? =some p->∃v,vs[i]? =some v/\dX h p v
 |[],_,_,i,p,e=>by simp at e
 |p0::ps,_,⟨v,c,rfl,f,d⟩,0,p,e=>cg
 |p0::ps,_,⟨v,c,rfl,f,d⟩,i+1,p,e=>by simp at e;simpa using qC.get d e
inductive Query where
 |mk (op table:Int) (wher:Pred) (columns:dl) (on:dq) (group:dl) (order:dr) (limit:Int) (args:List Query)
abbrev ds:=List Query
variable{q:Query}
mutual
def dZ(h:PH):Query->QV->Prop
 |.mk op table w c on d e f args,v=>v.op=op/\v.table=table/\dX h w v.where_/\Ints h v.columns c/\jA h v.on on/\Ints h v.group d/\iV h v.order e/\v.limit=f/\
  args.length<=502633886983/\∃g:eh,cE h v.args 21 (g.map QV.enc)/\Bv h args g
def Bv(h:PH):ds->eh->Prop
 |[],d=>d=[]
 |p::ps,d=>∃v c,d=v::c/\dZ h p v/\Bv h ps c
end
mutual
theorem dZ.mono{h h':PH}(le:PH.le h h'):∀{p:Query}{v:QV},dZ h p v->dZ h' p v
 |.mk ..,_,⟨e,f,g,j,n,s,t,u,x,y,c,d⟩=>⟨e,f,g.mono le,j.mono le,n.mono le,s.mono le,t.mono le,u,x,y,c.mono le,Bv.mono le d⟩
theorem Bv.mono{h h':PH}(le:PH.le h h'):∀{ps:ds}{vs:eh},Bv h ps vs->Bv h' ps vs
 |[],_,h=>h
 |_::_,_,⟨v,c,d,e,f⟩=>⟨v,c,d,dZ.mono le e,Bv.mono le f⟩
end
theorem Bv.length{h:PH}:∀{ps:ds}{vs:eh},Bv h ps vs->vs.length=ps.length
 |[],_,h=>by rw[show _=[]from h];rfl
 |_::_,_,⟨_,_,c,_,d⟩=>by rw[c];simp[Bv.length d]
theorem Bv.get{h:PH}:∀{ps:ds}{vs:eh},Bv h ps vs->∀{i:Nat}{p:Query},ps[i]? =some p->∃v,vs[i]? =some v/\dZ h p v
 |[],_,_,i,p,e=>by simp at e
 |p0::ps,_,⟨v,c,rfl,f,d⟩,0,p,e=>cg
 |p0::ps,_,⟨v,c,rfl,f,d⟩,i+1,p,e=>by simp at e;simpa using Bv.get d e
def iv(n:Int):SV:=.at (.val (.int .i64 n))
def sv(s:Sl):SV:=.at (.val (.slice s.a s.len s.cap))
def bv(b:Bool):SV:=.at (.val (.bool b))
def vv(v:Value):SV:=.at (.val v)
def cS(s:Sl):CV:=.val (.slice s.a s.len s.cap)
def cI(n:Int):CV:=.val (.int .i64 n)
def cB(b:Bool):CV:=.val (.bool b)
def cP(b:Nat):CV:=.val (.pointer (some ⟨b,0,none⟩))
def Dx(id:Nat)(st:Nat->St)(inv:Nat->Prop)(mu:Nat->Nat):Nat×OH:=(id,{A:=Nat,st:=st,inv:=inv,mu:=mu})
theorem fD(h:i<=140737488355328):IntKind.i64.wrap ((i:Int)+1)=((i+1:Nat):Int):=by
 rw[dL aC aC];rfl
theorem Ints.at{s:Sl}(r:Ints h s l){x:Int}(c:l[i]? =some x):∃b o,s.a=some ⟨b,o,none⟩/\bZ h b (o+i) [.int .i64 x]:=by
 obtain⟨b,o,d,f⟩:=r.row.get (i:=i) (e:=eI x) (by simp[c]);exact⟨b,o,d,by simpa[eI]using f⟩
theorem MT{p:Prop}(h:p:=by repeat' (first|with_reducible rfl|exact trivial|refine⟨?_,?_⟩|rfl|(rw[fD aC];done)|(rw[fD aC]))):p:=h
def eH(k:Int):Bool:=k==3||k==4||k==5
def DI(t:ByteArray):Bool:=t.toList==[]
def jW(v:VV):Bool:=
 if v.kind==1||v.kind==2 then v.int==0&&DI v.text
 else if v.kind==3 then(v.int==0||v.int==1)&&DI v.text
 else if v.kind==4 then DI v.text
 else if v.kind==5 then v.int==0&&(v.text.size:Int)<=64
 else false
def jH(v:VV):Bool:=jW v&&v.kind>=3
def aV(v:VV):CV:=.val (.agg #[.int .i64 v.kind,.int .i64 v.int,.string v.text])
def bLJ:Vc.Spec:=λc m h K=>∃k,c=[cI k]/\K (cB (eH k)) m h
def ML:Vc.Spec:=λc m h K=>∃v,c=[aV v]/\K (cB (jW v)) m h
def NA:Vc.Spec:=λc m h K=>∃v,c=[aV v]/\K (cB (jH v)) m h
def QZ:Vc.Spec:=λc m h K=>∃s l,c=[cS s]/\Ints h s l/\K (cB (l.all eH)) m h
noncomputable def bXJ(s:Sl)(l:dl)(m:MH)(h:PH):Ctx:=
 ctx [(151,bLJ)] [Dx 2 (λi=>bO 15 16 [(5,sv s),(6,iv s.len),(7,iv i)] [] m h) (λi=>i<=l.length/\(l.take i).all eH=true) (λi=>l.length-i)] [] [] false
noncomputable def bmX(s:Sl)(l:dl)(m:MH)(h:PH):Ctx:=
 ctx [] [Dx 2 (λi=>bO 22 23 [(5,sv s),(6,iv s.len),(7,iv i)] [] m h) (λi=>i<=l.length/\(l.take i).all eH=true) (λi=>l.length-i)] [] [] false
abbrev cO(a:Bool)(b:Prop)(c:Bool)(d e:Prop):Prop:=branch a b (branch c d e)
noncomputable abbrev dR:CV:=vD true
attribute [push_cast] cO dR
def Tn(k:Int)(m:MH)(h:PH)(K:dk):Prop:=
  cO (k==3) (K dR m h) (k==4) (K dR m h) (K (vD (k==5)) m h)
abbrev dD(a b:Int)(c d:Prop):Prop:=branch (a==b) c d
noncomputable abbrev Dt(a:VV):dw:=a.text.toList
abbrev HB(a:dk)(b:VV)(c:MH)(d:PH):Prop:=a (vD (Dt b==[])) c d
noncomputable abbrev aX:CV:=vD false
attribute [push_cast] dD Dt HB aX
def Iv(v:VV)(m:MH)(h:PH)(K:dk):Prop:=
  cO (v.kind==1) (dD v.int 0 (HB K v m h) (K aX m h)) (v.kind==2) (dD v.int 0 (HB K v m h) (K aX m h)) (cO (v.kind==3) (cO (v.int==0) (HB K v m h) (v.int==1) (HB K v m h) (K aX m h)) (v.kind==4) (HB K v m h) (dD v.kind 5 (dD v.int 0 (K (vD (decide ((↑v.text.size:Int)<=64))) m h) (K aX m h)) (K aX m h)))
abbrev hZ(a:Prop)(b:Bool)(c d:Prop):Prop:=a/\branch b c d
noncomputable abbrev w6(a:CV):eb:=[a]
noncomputable abbrev gK(a:dj):eb:=w6 (gV a)
noncomputable abbrev mW(a:VV):eb:=gK a.enc
attribute [push_cast] hZ w6 gK mW
def Sq(v:VV)(m:MH)(h:PH)(K:dk):Prop:=
  ∃(c:VV),hZ (mW v=mW c) (jW c) (K (vD (decide (v.kind>=3))) m h) (K aX m h)
abbrev cK(a b:Int)(c d:Prop):Prop:=branch (a !=b) c d
attribute [push_cast] cK
def SX(v:VV)(m:MH)(h:PH)(K:dk):Prop:=
  ∃(c:VV),hZ (mW v=mW c) (jW c) (cK v.kind 1 (K (vD (v.kind !=2)) m h) (K aX m h)) (K aX m h)
abbrev pX(a:Prop)(b:Nat->Prop):Prop:=a/\∀(x:Nat),b x
abbrev aA(a b c:Prop):Prop:=a/\b/\c
abbrev eZ(a:Bool):Prop:=a=true
noncomputable abbrev Bd(a:dl):Bool:=List.all a eH
abbrev BC(a:Nat)(b:dl):Prop:=a<=b.length/\eZ (Bd (List.take a b))
abbrev aH(a:Sl):Prop:=eQ (Ye a)
noncomputable abbrev bL(a:Nat):SV:=eR (↑a:Int)
abbrev aY(a:Sl):Prop:=eQ (bL a.len)
abbrev aZ(a:Nat):Prop:=eR 0=bL a
abbrev bG(a b:Nat->Option Obj)(c d:Nat->Nat->Option Value):Prop:=aA (a=b) (c=d) True
abbrev aW(a b:Int)(c d:Prop):Prop:=branch (decide (a<b)) c d
noncomputable abbrev aF(a:Sl):Int:=(↑a.len:Int)
abbrev aJ(a:Nat->Nat->Prop):Prop:=∃(x c:Nat),a x c
abbrev aI(a b c d:Prop):Prop:=aA a b (c/\d)
abbrev aK(a:Option Addr)(b c:Nat):Prop:=a=Option.some (Addr.mk b c Option.none)
noncomputable abbrev cC(a:Nat)(b:Int)(c:Nat):Nat:=a+b.toNat*c
noncomputable abbrev bE(a b c:Nat):Nat:=cC a (↑b:Int) c
noncomputable abbrev kH(a:Value):dj:=[a]
noncomputable abbrev bQ(a:Int):dj:=kH (fE a)
abbrev yG(a:Prop)(b:Bool)(c:dk)(d:MH)(e:PH)(g:Nat->Prop):Prop:=hZ a (!b) (c aX d e) (∃(x:Nat),g x)
abbrev bS(a:Prop)(b c:Nat->Option Obj)(d e:PH):Prop:=aI a (b=c) (d=e) True
noncomputable abbrev bF(a:Int):Int:=IntKind.wrap IntKind.i64 a
attribute [push_cast] pX aA eZ Bd BC aH bL aY aZ bG aW aF aJ aI aK cC bE kH bQ yG bS bF
def Wx(s:Sl)(l:dl)(m:MH)(h:PH)(K:dk):Prop:=
  pX (∃(x:Nat),aA (BC x l) (aH s) (aA (aY s) (aZ x) (bG m m h h))) (λx=>BC x l->aW (↑x:Int) (aF s) (aJ (λb o=>aI (aK s.a b o) (0<=(↑x:Int)) ((↑x:Int)<aF s) (∃(y:Int),aR m h b (bE o x 1) (bQ y)/\∃(k:Int),yG (w6 (fN y)=w6 (fN k)) (eH k) K m h (λc=>aA (BC c l) (l.length-c<l.length-x) (aA (aH s) (aY s) (bS (eR (bF ((↑x:Int)+1))=bL c) m m h h)))))) (K dR m h))
def SB(s:Sl)(l:dl)(m:MH)(h:PH)(K:dk):Prop:=
  pX (∃(x:Nat),aA (BC x l) (aH s) (aA (aY s) (aZ x) (bG m m h h))) (λx=>BC x l->aW (↑x:Int) (aF s) (aJ (λb o=>aI (aK s.a b o) (0<=(↑x:Int)) ((↑x:Int)<aF s) (∃(y:Int),aR m h b (bE o x 1) (bQ y)/\cK y 3 (cK y 4 (cK y 5 (K aX m h) (∃(c:Nat),aA (BC c l) (l.length-c<l.length-x) (aA (aH s) (aY s) (bS (eR (bF ((↑x:Int)+1))=bL c) m m h h)))) (∃(c:Nat),aA (BC c l) (l.length-c<l.length-x) (aA (aH s) (aY s) (bS (eR (bF ((↑x:Int)+1))=bL c) m m h h)))) (∃(c:Nat),aA (BC c l) (l.length-c<l.length-x) (aA (aH s) (aY s) (bS (eR (bF ((↑x:Int)+1))=bL c) m m h h)))))) (K dR m h))
theorem b8Z(v:VV)(m:MH)(h:PH)(K:dk):Iv v m h K=tB (ctx [] [] [] [] false) Tryz.f176 (cM Tryz.f176) (entry Tryz.f176.ntmps [aV v] m h) K:=bu
theorem jB{x y:Bool}(c:K (cB x) m h)(e:x=y):K (.val (.bool y)) m h:=e▸c
theorem atZ{v:VV}(c:K (cB (jW v)) m h):Iv v m h K:=by
 dsimp only[Iv,push_cast]
 repeat' (first|(refine aB (λ_=>?_) (λ_=>?_))|(refine jB c ?_;simp_all [jW,DI]))
theorem fU{f:FuncId}{fn:Func}(n:Tryz.prog.funcs[f]? =some fn){S:Vc.Spec}(j:∀c m h K,S c m h K->∃C:Ctx,C.P=Tryz.prog/\(∀g S,assoc C.specs g=some S->di g S)/\∃N:Prop,N=tB C fn (cM fn) (entry fn.ntmps c m h) K/\N)(s:fn.body=some (cM fn):=by rfl)(d:(fn.name== "runtime.NumGoroutine")=false:=by decide):di f S:=eA n s d λc m h K t=>let⟨C,hC,hs,N,e,hn⟩:=j c m h K t;⟨C,hC,hs,e▸hn⟩
theorem Qo:di 151 bLJ:=by
 refine fU func151 ?_;rintro c m h K ⟨k,rfl,d⟩;refine⟨ctx [] [] [] [] false,rfl,aG,Tn k m h K,bu,?_⟩;dsimp only[Tn,push_cast]
 repeat' (first|(refine aB (λ_=>?_) (λ_=>?_))|(refine jB d ?_;simp_all [eH]))
theorem Qk:di 180 ML:=by
 refine fU func180 ?_;rintro c m h K ⟨v,rfl,d⟩;refine⟨ctx [] [] [] [] false,rfl,aG,Iv v m h K,bu,?_⟩;exact atZ d
theorem Ql:di 176 ML:=by
 refine eA (fn:=Tryz.f176) (c:=cM Tryz.f176) func176 rfl bz ?_;rintro d m h K ⟨v,rfl,e⟩;refine⟨ctx [] [] [] [] false,rfl,aG,?_⟩;rw[<-b8Z v m h K];exact atZ e
theorem Jb:di 259 NA:=by
 refine fU func259 ?_;rintro c m h K ⟨v,rfl,d⟩;refine⟨ctx [(180,ML)] [] [] [] false,rfl,aE Qk aG,Sq v m h K,bu,?_⟩;dsimp only[Sq,push_cast];refine⟨v,rfl,?_⟩
 repeat' (first|(refine aB (λ_=>?_) (λ_=>?_))|(refine jB d ?_;simp_all [jH]))
theorem Jd:di 186 NA:=by
 refine fU func186 ?_;rintro g m h K ⟨v,rfl,e⟩;refine⟨ctx [(176,ML)] [] [] [] false,rfl,aE Ql aG,SX v m h K,bu,?_⟩;dsimp only[SX,push_cast];refine⟨v,rfl,?_⟩;refine aB (λc=>aB (λd=>jB e ?_) (λd=>jB e ?_)) (λc=>jB e ?_)
 .have d:v.kind≠1:=cg
  by_cases f:v.kind=2
  .simp[jH,c,f]
  .have:3<=v.kind:=by
    simp only[jW]at c
    grind
   simp[jH,c,f,this]
 .have d:v.kind=1:=cg
  simp[jH,d]
 .simp[jH,c]
theorem yX{α:Type}{p:α->Bool}{l:List α}{x:α}(c:l[i]? =some x):(l.take (i+1)).all p=((l.take i).all p&&p x):=by
 rw[db,all_append,c];simp
theorem OC{α:Type}{p:α->Bool}{l:List α}{x:α}(c:l[i]? =some x)(d:p x=false):l.all p=false:=by
 grind
theorem R6:di 87 QZ:=by
 refine fU func87 ?_;rintro g m h K ⟨s,l,rfl,c,e⟩;refine⟨bXJ s l m h,rfl,aE Qo aG,Wx s l m h K,bu,?_⟩;dsimp only[Wx,push_cast];have A:=c.slen;have D:=c.len;refine⟨⟨0,⟨aC,bx⟩,rfl,rfl,rfl,rfl,rfl,trivial⟩,λi j=>aD (λd=>?_) (λn=>?_)⟩
 .obtain⟨x,f⟩:∃x,l[i]? =some x:=⟨l[i]'(by omega),cq _⟩
  obtain⟨t,u,y,E⟩:=c.at f;refine⟨t,u,y,aC,d,x,.imm cg,x,rfl,aB (λz=>jB e ?_) (λz=>?_)⟩
  .grind
  .refine⟨i+1,⟨aC,?_⟩,aC,rfl,rfl,by rw[fD aC],rfl,rfl,trivial⟩;rw[yX f,j.2]
   grind
 .refine jB e ?_
  grind
theorem Ze:di 218 QZ:=by
 refine fU func218 ?_;rintro n m h K ⟨s,l,rfl,d,j⟩;refine⟨bmX s l m h,rfl,aG,SB s l m h K,bu,?_⟩;dsimp only[SB,push_cast];have E:=d.slen;have F:=d.len;refine⟨⟨0,⟨aC,bx⟩,rfl,rfl,rfl,rfl,rfl,trivial⟩,λi t=>aD (λe=>?_) (λu=>?_)⟩
 .obtain⟨x,f⟩:∃x,l[i]? =some x:=⟨l[i]'(by omega),cq _⟩
  obtain⟨z,A,D,G⟩:=d.at f;have c:eH x=true->(l.take (i+1)).all eH=true:=λg=>by rw[yX f,t.2,g];rfl
  refine⟨z,A,D,aC,e,x,.imm cg,?_⟩;have next:eH x=true->∃(y:Nat),(y<=l.length/\(l.take y).all eH=true)/\l.length-y<l.length-i/\y=i+1:=λg=>⟨i+1,⟨aC,c g⟩,aC,rfl⟩
  repeat' (first|(refine aB (λ_=>?_) (λ_=>?_))|(refine jB j (OC f ?_);simp_all [eH];done)|(refine⟨i+1,⟨aC,c (by simp_all [eH])⟩,aC,rfl,rfl,by rw[fD aC],rfl,rfl,trivial⟩))
 .refine jB j ?_
  grind
def X2(a b:VV):Bool:=a.kind==b.kind&&(a.int==b.int&&(a.text.toList==b.text.toList&&true))
def X3(a b:OV):Bool:=a.kind==b.kind&&(a.index==b.index&&(X2 a.value b.value&&true))
theorem eM{f:Field}{e:List Field}{d:Nat}{xs c:Array Value}{w:World}{x y:Value}{r r':Bool}(g:(f.name== "_")=false)(j:zG Tryz.prog (part f.type xs f.offset)=some x)(n:zG Tryz.prog (part f.type c f.offset)=some y)
 (s:(Op.equalIn d f.type x y).run Tryz.prog w= .ok r w)(t:(Op.eqFields d xs c e).run Tryz.prog w= .ok r' w):(Op.eqFields d xs c (f::e)).run Tryz.prog w= .ok (r&&r') w:=by
 have g:f.name≠ "_" :=cg
 simp only[Op.eqFields,if_pos g,Sem.run_bind,zF _ _ _ j,zF _ _ _ n,Result.andThen_ok,s];cases r
 .simp
 grind
noncomputable def II(t k:Nat):Field:=(Tryz.prog.fieldsOf t).toList.getD k default
theorem auQ(a b:VV)(d:Nat)(w:World):(Op.equalIn (d+2) 27 (.agg #[.int .i64 a.kind,.int .i64 a.int,.string a.text]) (.agg #[.int .i64 b.kind,.int .i64 b.int,.string b.text])).run Tryz.prog w= .ok (X2 a b) w:=by
 rw[run_equalIn_struct w (d+1) 27 _ _ bu bu,show(Tryz.prog.fieldsOf 27).toList=[II 27 0,II 27 1,II 27 2]by kernel_rfl];refine eM (x:=.int .i64 a.kind) (y:=.int .i64 b.kind) bu bu bu (run_equalIn_int w d _ .i64 .i64 _ _ bu) ?_;refine eM (x:=.int .i64 a.int) (y:=.int .i64 b.int) bu bu bu (run_equalIn_int w d _ .i64 .i64 _ _ bu) ?_;refine eM (x:=.string a.text) (y:=.string b.text) bu bu bu (run_equalIn_string w d _ _ _ bu) ?_;simp[Op.eqFields]
theorem cbX(a b:OV)(d:Nat)(w:World):(Op.equalIn (d+3) 29 (.agg #[.int .i64 a.kind,.int .i64 a.index,.int .i64 a.value.kind,.int .i64 a.value.int,.string a.value.text]) (.agg #[.int .i64 b.kind,.int .i64 b.index,.int .i64 b.value.kind,.int .i64 b.value.int,.string b.value.text])).run Tryz.prog w= .ok (X3 a b) w:=by
 rw[run_equalIn_struct w (d+2) 29 _ _ bu bu,show(Tryz.prog.fieldsOf 29).toList=[II 29 0,II 29 1,II 29 2]by kernel_rfl];refine eM (x:=.int .i64 a.kind) (y:=.int .i64 b.kind) bu bu bu (run_equalIn_int w (d+1) _ .i64 .i64 _ _ bu) ?_;refine eM (x:=.int .i64 a.index) (y:=.int .i64 b.index) bu bu bu (run_equalIn_int w (d+1) _ .i64 .i64 _ _ bu) ?_;refine eM (x:=.agg #[.int .i64 a.value.kind,.int .i64 a.value.int,.string a.value.text]) (y:=.agg #[.int .i64 b.value.kind,.int .i64 b.value.int,.string b.value.text]) bu bu bu ?_ ?_
 .rw[show(II 29 2).type=27 by kernel_rfl];exact auQ a.value b.value d w
 .simp[Op.eqFields]
theorem K4(a b:VV):StructEq Tryz.prog 27 (.agg #[.int .i64 a.kind,.int .i64 a.int,.string a.text]) (.agg #[.int .i64 b.kind,.int .i64 b.int,.string b.text]) (X2 a b):=
 ⟨bu,λw=>auQ a b 9998 w⟩
theorem AW(a b:OV):StructEq Tryz.prog 29 (.agg #[.int .i64 a.kind,.int .i64 a.index,.int .i64 a.value.kind,.int .i64 a.value.int,.string a.value.text]) (.agg #[.int .i64 b.kind,.int .i64 b.index,.int .i64 b.value.kind,.int .i64 b.value.int,.string b.value.text]) (X3 a b):=
 ⟨bu,λw=>cbX a b 9997 w⟩
theorem nV{a b:ByteArray}(h:a.toList=b.toList):a=b:=by
 rw[ByteArray.toList_eq,ByteArray.toList_eq]at h;cases a;cases b;simp only[ByteArray.mk.injEq];exact Array.toList_inj.1 h
theorem FN{a b:VV}:X2 a b=true↔a=b:=by
 obtain⟨k,i,t⟩:=a;obtain⟨f,g,j⟩:=b;simp only[X2,Bool.and_true,cz,beq_iff_eq,VV.mk.injEq];exact⟨λ⟨c,d,e⟩=>⟨c,d,nV e⟩,λ⟨c,d,e⟩=>⟨c,d,by rw[e]⟩⟩
theorem rB{a b:OV}:X3 a b=true↔a=b:=by
 obtain⟨k,i,t⟩:=a;obtain⟨c,d,e⟩:=b;simp only[X3,Bool.and_true,cz,beq_iff_eq,OV.mk.injEq,FN]
def zeroV:VV:=⟨0,0,⟨#[]⟩⟩
def dG:OV:=⟨0,0,zeroV⟩
def qB(l:dl)(o:OV):Int:=if o.index<0||o.index>=l.length|| !X2 o.value zeroV then 0 else l.getD o.index.toNat 0
def kindOf(cols params:dl)(o:OV):Int:=
 if o.kind==3 then(if o.index !=0|| !jH o.value then 0 else o.value.kind)
 else if o.kind==2 then qB params o
 else if o.kind==1 then qB cols o
 else 0
def xF(v:PV):Bool:=v.cmp==0&&X3 v.left dG&&X3 v.right dG
def aO(o:OV):CV:=.val (.agg #[.int .i64 o.kind,.int .i64 o.index,.int .i64 o.value.kind,.int .i64 o.value.int,.string o.value.text])
def aP(p:PV):CV:=.val (.agg #[.int .i64 p.op,.int .i64 p.cmp,
 .int .i64 p.left.kind,.int .i64 p.left.index,.int .i64 p.left.value.kind,.int .i64 p.left.value.int,.string p.left.value.text,
 .int .i64 p.right.kind,.int .i64 p.right.index,.int .i64 p.right.value.kind,.int .i64 p.right.value.int,.string p.right.value.text,
 .slice p.args.a p.args.len p.args.cap])
def a2S(s t:Sl):CV:=.val (.agg #[.slice s.a s.len s.cap,.slice t.a t.len t.cap])
def bJJ:Vc.Spec:=λc m h K=>∃v,c=[aP v]/\K (cB (xF v)) m h
def aCQ:Vc.Spec:=λe m h K=>∃s t d c o,e=[cS s,cS t,aO o]/\Ints h s d/\Ints h t c/\K (cI (kindOf d c o)) m h
def XT:Vc.Spec:=λe m h K=>∃s t d c o,e=[a2S s t,aO o]/\Ints h s d/\Ints h t c/\K (cI (kindOf d c o)) m h
abbrev wE(a:Nat)(b c:dj)(d:Bool):Prop:=StructEq Proofs.Tryz.prog a (Value.agg (Array.mk b)) (Value.agg (Array.mk c)) d
noncomputable abbrev bC(a b:Value)(c:dj):dj:=a::b::c
noncomputable abbrev cF:Value:=fE 0
abbrev E6(a:dj)(b:Bool):Prop:=wE 29 a (bC cF cF (bC cF cF (kH MX))) b
noncomputable abbrev uE(a:PV):dj:=a.left.enc
noncomputable abbrev sZ(a:PV):dj:=a.right.enc
attribute [push_cast] wE bC cF E6 uE sZ
def Sw(v:PV)(m:MH)(h:PH)(K:dk):Prop:=
  dD v.cmp 0 (∃(r:Bool),hZ (E6 (uE v) r) r (∃(c:Bool),E6 (sZ v) c/\K (vD c) m h) (K aX m h)) (K aX m h)
noncomputable abbrev kU(a:OV):Int:=a.value.kind
abbrev eK(a b:Int)(c d:Prop):Prop:=branch (decide (a>=b)) c d
noncomputable abbrev xG(a:OV):dj:=a.value.enc
noncomputable abbrev yP:dj:=bC cF cF (kH MX)
attribute [push_cast] kU eK xG yP
def Iu(s t:Sl)(o:OV)(m:MH)(h:PH)(K:dk):Prop:=
  cO (o.kind==3) (cK o.index 0 (K (fN 0) m h) (∃(v:VV),hZ (mW o.value=mW v) (!(jH v)) (K (fN 0) m h) (K (fN (kU o)) m h))) (o.kind==2) (aW o.index 0 (K (fN 0) m h) (eK o.index (aF t) (K (fN 0) m h) (∃(r:Bool),hZ (wE 27 (xG o) yP r) (!r) (K (fN 0) m h) (aJ (λb c=>aI (aK t.a b c) (0<=o.index) (o.index<aF t) (∃(y:Int),aR m h b (cC c o.index 1) (bQ y)/\K (fN y) m h)))))) (dD o.kind 1 (aW o.index 0 (K (fN 0) m h) (eK o.index (aF s) (K (fN 0) m h) (∃(r:Bool),hZ (wE 27 (xG o) yP r) (!r) (K (fN 0) m h) (aJ (λb c=>aI (aK s.a b c) (0<=o.index) (o.index<aF s) (∃(y:Int),aR m h b (cC c o.index 1) (bQ y)/\K (fN y) m h)))))) (K (fN 0) m h))
theorem A0{x y:Int}(c:K (cI x) m h)(e:x=y):K (.val (.int .i64 y)) m h:=e▸c
theorem Ints.inb{s:Sl}(r:Ints h s l){n:Int}(d:0<=n)(f:n<(l.length:Int)):∃b o,s.a=some ⟨b,o,none⟩/\bZ h b (o+n.toNat*1) [.int .i64 (l.getD n.toNat 0)]:=by
 have c:l[n.toNat]? =some (l.getD n.toNat 0):=by
  grind
 obtain⟨b,o,e,r⟩:=r.at c
 grind
theorem atQ{s t:Sl}{cols params:dl}{o:OV}(y:Ints h s cols)(z:Ints h t params)(c:K (cI (kindOf cols params o)) m h):Iu s t o m h K:=by
 have A:=y.slen;have D:=z.slen;dsimp only[Iu,push_cast];refine aB (λE=>aB (λu=>A0 c ?_) (λu=>⟨o.value,rfl,aB (λd=>A0 c ?_) (λd=>A0 c ?_)⟩)) (λE=>aB (λu=>?_) (λu=>aB (λd=>?_) (λd=>A0 c ?_)))
 .simp_all [kindOf]
 .simp_all [kindOf]
 .simp_all [kindOf]
 .have x:kindOf cols params o=qB params o:=by simp_all [kindOf]
  rw[x]at c;refine aD (λd=>A0 c ?_) (λd=>aD (λg=>A0 c ?_) (λg=>⟨X2 o.value zeroV,K4 o.value zeroV,aB (λf=>A0 c ?_) (λf=>?_)⟩))
  .simp[qB,d]
  .rw[D]at g;simp[qB,g]
  .simp only[Bool.not_eq_true']at f;simp[qB,f]
  .obtain⟨b,off,e,r⟩:=z.inb (n:=o.index) aC aC;refine⟨b,off,e,aC,aC,_,.imm r,A0 c ?_⟩;have j:¬o.index>=params.length:=by omega
   simp only[Bool.not_eq_false']at f;simp[qB,d,j,f]
 .have x:kindOf cols params o=qB cols o:=by simp_all [kindOf]
  rw[x]at c;refine aD (λd=>A0 c ?_) (λd=>aD (λg=>A0 c ?_) (λg=>⟨X2 o.value zeroV,K4 o.value zeroV,aB (λf=>A0 c ?_) (λf=>?_)⟩))
  .simp[qB,d]
  .rw[A]at g;simp[qB,g]
  .simp only[Bool.not_eq_true']at f;simp[qB,f]
  .obtain⟨b,off,e,r⟩:=y.inb (n:=o.index) aC aC;refine⟨b,off,e,aC,aC,_,.imm r,A0 c ?_⟩;have j:¬o.index>=cols.length:=by omega
   simp only[Bool.not_eq_false']at f;simp[qB,d,j,f]
 .simp_all [kindOf]
theorem Zb:di 223 bJJ:=by
 refine fU func223 ?_;rintro d m h K ⟨v,rfl,c⟩;refine⟨ctx [] [] [] [] false,rfl,aG,Sw v m h K,bu,?_⟩;dsimp only[Sw,push_cast];refine aB (λe=>⟨X3 v.left dG,AW v.left dG,aB (λf=>⟨X3 v.right dG,AW v.right dG,jB c ?_⟩) (λf=>jB c ?_)⟩) (λe=>jB c ?_)
 all_goals simp_all [xF]
theorem Za:di 224 aCQ:=by
 refine fU func224 ?_;rintro e m h K ⟨s,t,d,c,o,rfl,f,g,j⟩;refine⟨ctx [(259,NA)] [] [] [] false,rfl,aE Jb aG,Iu s t o m h K,bu,?_⟩;exact atQ f g j
theorem YL:di 264 XT:=by
 refine fU func264 ?_;rintro e m h K ⟨s,t,d,c,o,rfl,f,g,j⟩;refine⟨ctx [(186,NA)] [] [] [] false,rfl,aE Jd aG,Iu s t o m h K,bu,?_⟩;exact atQ f g j
def Pred.args:Pred->dx
 |.mk _ _ _ _ l=>l
mutual
def pR:Pred->Int->Int
 |.mk _ _ _ _ args,n=>lO args (n+1)
def lO:dx->Int->Int
 |[],n=>n
 |p::ps,n=>if n<=24 then lO ps (pR p n)else n
end
mutual
def nG:Pred->Nat->Bool
 |.mk _ _ _ _ _,0=>true
 |.mk _ _ _ _ args,n+1=>vL args n
def vL:dx->Nat->Bool
 |[],_=>false
 |p::ps,n=>nG p n||vL ps n
end
mutual
theorem Em:∀(p:Pred)(n:Int),n<=24->n<pR p n/\pR p n<=25
 |.mk _ _ _ _ args,n,h=>by
  have:=IE args (n+1) aC;simp only[pR];omega
theorem IE:∀(ps:dx)(n:Int),n<=25->n<=lO ps n/\lO ps n<=25
 |[],n,h=>by simp only[lO];omega
 |p::ps,n,h=>by
  simp only[lO];split
  .rename_i c;have d:=Em p n c;have e:=IE ps (pR p n) d.2;omega
  .omega
end
theorem Uo(ps:dx){n:Int}(h:¬n<=24):lO ps n=n:=by
 cases ps
 .simp[lO]
 .simp only[lO,if_neg h]
theorem Lf(n:Nat):∀ps:dx,vL ps n=ps.any (nG · n)
 |[]=>by simp[vL]
 |p::ps=>by simp[vL,Lf n ps]
theorem uK{p:Pred}{q:Pred}(h:q∈p.args):SizeOf.sizeOf q<SizeOf.sizeOf p:=by
 cases p with
 |mk op c l r args=>
  have:=sizeOf_lt_of_mem h;simp only[Pred.args]at this
  grind
theorem dX.open{v:PV}(r:dX h p v):p.args.length<=502633886983/\v.args.len=p.args.length/\∀(i:Nat)(q:Pred),p.args[i]? =some q->∃b o u,v.args.a=some ⟨b,o,none⟩/\bZ h b (o+i*13) (PV.enc u)/\dX h q u:=by
 cases p with
 |mk op f l s args=>
  obtain⟨t,x,y,z,g,A,c,d⟩:=r;have D:=d.length;refine⟨g,?_,λi q j=>?_⟩
  .have:=c.len;simp at this;simp only[Pred.args];omega
  .obtain⟨u,n,E⟩:=d.get j;obtain⟨b,o,e,r⟩:=c.get (i:=i) (e:=PV.enc u) (by simp[n])
   grind
def ajZ(N:Nat):Vc.Spec:=λc m h K=>∃v p k,c=[aP v,cI k]/\dX h p v/\SizeOf.sizeOf p<N/\0<=k/\k<=24/\K (cI (pR p k)) m h
def Ve(N:Nat):Vc.Spec:=λc m h K=>∃v p,∃k:Nat,c=[aP v,cI k]/\dX h p v/\SizeOf.sizeOf p<N/\k<=100/\K (cB (nG p k)) m h
noncomputable def bsJ(N:Nat)(v:PV)(p:Pred)(k:Int)(m:MH)(h:PH):Ctx:=
 ctx [(166,ajZ N)] [(3,{A:=Nat×Int,st:=λx=>bO 27 29 [(1,iv x.2),(2,.at (.ptr 2 0)),(5,iv x.1)] [(2,.cells 32 (v.enc.map .val))] m h,inv:=λx=>x.1<=p.args.length/\0<=x.2/\x.2<=25/\lO (p.args.drop x.1) x.2=pR p k,mu:=λx=>p.args.length-x.1})] [] [] false
noncomputable def bsZ(N:Nat)(v:PV)(p:Pred)(k:Nat)(m:MH)(h:PH):Ctx:=
 ctx [(167,Ve N)] [Dx 4 (λi=>bO 23 25 [(1,iv k),(2,.at (.ptr 2 0)),(10,iv v.args.len),(11,iv i)] [(2,.cells 32 (v.enc.map .val))] m h) (λi=>i<=p.args.length/\(p.args.take i).any (nG · (k-1))=false) (λi=>p.args.length-i)] [] [] false
noncomputable abbrev sY(a:Pred):Nat:=a.args.length
abbrev NY(a:Nat×Int)(b:Pred)(c d:Int):Prop:=aI (a.1<=sY b) (0<=a.2) (a.2<=c) (lO (List.drop a.1 b.args) a.2=pR b d)
abbrev dA(a b:Int):Prop:=eR a=eR b
abbrev cW:Prop:=eP 2
noncomputable abbrev nK(a:Nat)(b:dj):Option Go.Vc.Own:=oQ a (List.map At.val b)
abbrev fM(a:PV):Prop:=eQ (nK 32 a.enc)
abbrev Gt(a b:Int)(c d:Prop):Prop:=branch (decide (a<=b)) c d
abbrev Om(a:Option Addr)(b:Nat)(c:Sl)(d:Nat->Nat->PV->Prop):Prop:=aJ (λx e=>aI (aK a x e) (0<=(↑b:Int)) ((↑b:Int)<aF c) (∃(f:PV),d x e f))
abbrev qA(a:PV->Pred->Prop):Prop:=∃(x:PV)(c:Pred),a x c
noncomputable abbrev nO(a b:CV):eb:=a::w6 b
noncomputable abbrev bD(a:CV)(b:Int):eb:=nO a (fN b)
abbrev qP(a:Pred)(b:Nat):Prop:=SizeOf.sizeOf a<b
abbrev bY(a:Int):Prop:=0<=a
attribute [push_cast] sY NY dA cW nK fM Gt Om qA nO bD qP bY
def Tb(N:Nat)(v:PV)(p:Pred)(k:Int)(m:MH)(h:PH)(K:dk):Prop:=
  (∃(x:Nat×Int),aA (NY x p 25 k) (dA (bF (k+1)) x.2) (aA cW (aZ x.1) (bS (fM v) m m h h)))/\∀(x:Nat×Int),NY x p 25 k->aW (↑x.1:Int) (aF v.args) (Gt x.2 24 (Om v.args.a x.1 v.args (λb o y=>aR m h b (bE o x.1 13) y.enc/\qA (λf e=>∃(c:Int),aA (bD (gV y.enc) x.2=bD (gV f.enc) c) (dX h e f) (aA (qP e N) (bY c) (c<=24/\∃(d:Nat×Int),aA (NY d p 25 k) (sY p-d.1<sY p-x.1) (aA (dA (pR e c) d.2) cW (aA (eR (bF ((↑x.1:Int)+1))=bL d.1) (fM v) (aA (m=m) (h=h) True)))))))) (K (fN x.2) m h)) (K (fN x.2) m h)
abbrev H8(a:Bool):Prop:=a=false
abbrev NZ(a:Nat)(b:Pred)(c:Pred->Pred)(d:Nat):Prop:=a<=sY b/\H8 (List.any (List.take a b.args) (fun(x:Pred)=>nG (c x) (d-1)))
abbrev pY(a:PV):Prop:=aY a.args
abbrev bR(a b:PH):Prop:=a=b/\True
attribute [push_cast] H8 NZ pY bR
def Ta(N:Nat)(v:PV)(p:Pred)(k:Nat)(m:MH)(h:PH)(K:dk):Prop:=
  dD (↑k:Int) 0 (K dR m h) (pX (∃(x:Nat),aA (NZ x p (λc=>c) k) (eQ (bL k)) (aA cW (pY v) (aA (aZ x) (fM v) (aA (m=m) (h=h) True)))) (λx=>NZ x p (λc=>c) k->aW (↑x:Int) (aF v.args) (aJ (λb o=>aI (aK v.args.a b o) (0<=(↑x:Int)) ((↑x:Int)<aF v.args) (∃(y:PV),aR m h b (bE o x 13) y.enc/\qA (λg d=>∃(e:Nat),aA (bD (gV y.enc) (bF ((↑k:Int)-1))=bD (gV g.enc) (↑e:Int)) (dX h d g) (aA (qP d N) (e<=100) (branch (nG d e) (K dR m h) (∃(f:Nat),aA (NZ f p (λc=>c) k) (sY p-f<sY p-x) (aA (eQ (bL k)) cW (aA (pY v) (eR (bF ((↑x:Int)+1))=bL f) (aA (fM v) (m=m) (bR h h))))))))))) (K aX m h)))
theorem Xb:∀N,di 166 (ajZ N)
 |0=>by
  refine eA (fn:=Tryz.f166) (c:=cM Tryz.f166) func166 rfl bz ?_;rintro j m h K ⟨v,p,k,rfl,y,E,_⟩;omega
 |N+1=>by
  refine fU func166 ?_;rintro j m h K ⟨v,p,k,rfl,y,E,M,O,z⟩;refine⟨bsJ N v p k m h,rfl,aE (Xb N) aG,Tb N v p k m h K,bu,?_⟩;dsimp only[Tb,push_cast];obtain⟨Q,A,e⟩:=y.open;refine⟨⟨(0,k+1),⟨bx,ce,ce,?_⟩,by rw[dL aC aC],rfl,rfl,rfl,rfl,rfl,trivial⟩,?_⟩
  .cases p;simp[pR,Pred.args]
  rintro⟨i,n⟩ ⟨F,f,s,g⟩;simp only at F f s g;refine aD (λt=>aD (λd=>?_) (λd=>A0 z ?_)) (λG=>A0 z ?_)
  .simp only at t d;obtain⟨q,D⟩:∃q,p.args[i]? =some q:=⟨p.args[i]'(by omega),cq _⟩
   obtain⟨b,o,u,H,I,x⟩:=e i q D
   have J:p.args.drop i=q::p.args.drop (i+1):=by
    rw[drop_eq_getElem_cons aC];grind
   have R:=Em q n d;refine⟨b,o,H,bx,aC,u,.imm cg,u,q,n,rfl,x,?_,f,d,(i+1,pR q n),⟨aC,aC,aC,?_⟩,aC,rfl,rfl,by rw[fD aC],rfl,rfl,rfl,trivial⟩
   .have:=uK (cr D);omega
   .rw[J,lO,if_pos d]at g;exact g
  .rw[<-g,Uo _ d]
  .rw[<-g,drop_of_length_le aC];simp[lO]
theorem Xa:∀N,di 167 (Ve N)
 |0=>by
  refine eA (fn:=Tryz.f167) (c:=cM Tryz.f167) func167 rfl bz ?_;rintro f m h K ⟨v,p,k,rfl,t,A,_⟩;omega
 |N+1=>by
  refine fU func167 ?_;rintro f m h K ⟨v,p,k,rfl,t,A,I,e⟩;refine⟨bsZ N v p k m h,rfl,aE (Xa N) aG,Ta N v p k m h K,bu,?_⟩;dsimp only[Ta,push_cast];obtain⟨J,x,d⟩:=t.open;refine aB (λy=>jB e ?_) (λy=>?_)
  .have:k=0:=cg
   subst this;cases p;simp[nG]
  .have y:k≠0:=cg
   have g:nG p k=p.args.any (nG · (k-1)):=by
    obtain⟨z,rfl⟩:∃z,k=z+1:=⟨k-1,aC⟩
    cases p;simp[nG,Lf,Pred.args]
   rw[g]at e;refine⟨⟨0,⟨aC,bx⟩,rfl,rfl,rfl,rfl,rfl,rfl,rfl,trivial⟩,λi D=>aD (λj=>?_) (λE=>jB e ?_)⟩
   .obtain⟨q,n⟩:∃q,p.args[i]? =some q:=⟨p.args[i]'(by omega),cq _⟩
    obtain⟨b,o,u,F,G,s⟩:=d i q n;refine⟨b,o,F,aC,j,u,.imm cg,u,q,k-1,?_,s,?_,aC,aB (λH=>jB e ?_) (λH=>?_)⟩
    .rw[dL aC aC,show((k-1:Nat):Int)=(k:Int)-1 by omega]
    .have:=uK (cr n);omega
    .grind
    .refine⟨i+1,⟨aC,?_⟩,aC,rfl,rfl,rfl,by rw[fD aC],rfl,rfl,rfl,trivial⟩;rw[db,any_append,D.2,n];grind
   grind
def Ej(c:Int)(l r:OV):Bool:=c==0&&X3 l dG&&X3 r dG
mutual
def iP(cols params:dl):Pred->Bool
 |.mk op c l r args=>
  if op==1||op==2 then Ej c l r&&args.length==0
  else if op==3 then args.length==0&&c>=1&&c<=6&&kindOf cols params l !=0&&kindOf cols params l==kindOf cols params r
  else if op==4||op==5||(op==6&&args.length==1)then Ej c l r&&w9 cols params args
  else false
def w9(cols params:dl):dx->Bool
 |[]=>true
 |p::ps=>iP cols params p&&w9 cols params ps
end
theorem Gg(cols params:dl):∀ps:dx,w9 cols params ps=ps.all (iP cols params)
 |[]=>by simp[w9]
 |p::ps=>by simp[w9,Gg cols params ps]
structure NK(cols params:dl)(v:PV)(p:Pred):Prop where
 eq:iP cols params p=(xF v&&p.args.all (iP cols params))
def U0(N:Nat):Vc.Spec:=λe m h K=>∃s t d c v p,e=[cS s,cS t,aP v]/\Ints h s d/\Ints h t c/\dX h p v/\SizeOf.sizeOf p<N/\K (cB (iP d c p)) m h
def QP(N:Nat):Vc.Spec:=λe m h K=>∃s t d c v p,e=[a2S s t,aP v]/\Ints h s d/\Ints h t c/\dX h p v/\SizeOf.sizeOf p<N/\K (cB (iP d c p)) m h
noncomputable def bsX(N:Nat)(s t:Sl)(cols params:dl)(v:PV)(p:Pred)(m:MH)(h:PH):Ctx:=
 ctx [(168,U0 N),(223,bJJ),(224,aCQ)] [Dx 17 (λi=>bO 84 87 [(0,sv s),(1,sv t),(5,.at (.ptr 5 0)),(70,iv v.args.len),(71,iv i)] [(5,.cells 32 (v.enc.map .val))] m h) (λi=>i<=p.args.length/\(p.args.take i).all (iP cols params)=true) (λi=>p.args.length-i)] [(14,{A:=Unit,st:=λ_=>bO 84 87 [(0,sv s),(1,sv t),(5,.at (.ptr 5 0))] [(5,.cells 32 (v.enc.map .val))] m h,inv:=λ_=>NK cols params v p})] [] false
noncomputable def blJ(N:Nat)(s t:Sl)(cols params:dl)(v:PV)(p:Pred)(m:MH)(h:PH):Ctx:=
 ctx [(220,QP N),(264,XT)] [Dx 18 (λi=>bO 87 89 [(2,.at (.ptr 2 0)),(3,.at (.ptr 3 0)),(76,sv v.args),(77,iv v.args.len),(78,iv i)] [(2,.cells 266 [.val (.slice s.a s.len s.cap),.val (.slice t.a t.len t.cap)]),(3,.cells 32 (v.enc.map .val))] m h) (λi=>i<=p.args.length/\(p.args.take i).all (iP cols params)=true) (λi=>p.args.length-i)] [(15,{A:=Unit,st:=λ_=>bO 87 89 [(2,.at (.ptr 2 0)),(3,.at (.ptr 3 0))] [(2,.cells 266 [.val (.slice s.a s.len s.cap),.val (.slice t.a t.len t.cap)]),(3,.cells 32 (v.enc.map .val))] m h,inv:=λ_=>NK cols params v p})] [] false
noncomputable abbrev mG(a:PV):Int:=aF a.args
abbrev gQ(a:Sl->Sl->Prop):Prop:=∃(x c:Sl),a x c
abbrev mV(a:dl->dl->Prop):Prop:=∃(x c:dl),a x c
abbrev JS(a:eb)(b:Sl->Sl->OV->eb)(c:PH)(d:dl->dl->OV->Prop):Prop:=gQ (λx e=>mV (λf g=>∃(j:OV),aI (a=b x e j) (Ints c x f) (Ints c e g) (d f g j)))
noncomputable abbrev cA(a:Sl)(b:eb):eb:=F9 a::b
noncomputable abbrev fP(a:Sl)(b:CV):eb:=nO (F9 a) b
abbrev dM:Prop:=eP 5
abbrev EO(a:Nat)(b:Pred)(c d:dl):Prop:=a<=sY b/\eZ (List.all (List.take a b.args) (iP c d))
noncomputable abbrev pZ(a:PV):CV:=gV a.enc
attribute [push_cast] mG gQ mV JS cA fP dM EO pZ
def S9(N:Nat)(s t:Sl)(cols params:dl)(v:PV)(p:Pred)(m:MH)(h:PH)(K:dk):Prop:=
  cO (v.op==1) (∃(d:PV),hZ (gK v.enc=gK d.enc) (xF d) (K (vD (mG v==0)) m h) (K aX m h)) (v.op==2) (∃(d:PV),hZ (gK v.enc=gK d.enc) (xF d) (K (vD (mG v==0)) m h) (K aX m h)) (cO (v.op==3) (JS (cA s (fP t (gV (uE v)))) (λe f o=>cA e (fP f (gV o.enc))) h (λc g o=>dD (mG v) 0 (eK v.cmp 1 (Gt v.cmp 6 (cK (kindOf c g o) 0 (JS (cA s (fP t (gV (sZ v)))) (λe f n=>cA e (fP f (gV n.enc))) h (λA j n=>K (vD (kindOf c g o==kindOf A j n)) m h)) (K aX m h)) (K aX m h)) (K aX m h)) (K aX m h))) (v.op==4) (∃(x:Unit),aA (NK cols params v p) (aH s) (aA (aH t) dM (bS (fM v) m m h h))) (cO (v.op==5) (∃(x:Unit),aA (NK cols params v p) (aH s) (aA (aH t)
 dM (bS (fM v) m m h h))) (v.op==6) (cK (mG v) 1 (K aX m h) (∃(x:Unit),aA (NK cols params v p) (aH s) (aA (aH t) dM (bS (fM v) m m h h)))) (K aX m h)))/\∀(_:Unit),NK cols params v p->∃(d:PV),hZ (gK v.enc=gK d.enc) (!(xF d)) (K aX m h) (pX (∃(x:Nat),aA (EO x p cols params) (aH s) (aA (aH t) dM (aA (pY v) (aZ x) (aA (fM v) (m=m) (bR h h))))) (λx=>EO x p cols params->aW (↑x:Int) (aF v.args) (aJ (λb o=>aI (aK v.args.a b o) (0<=(↑x:Int)) ((↑x:Int)<aF v.args) (∃(y:PV),aR m h b (bE o x 13) y.enc/\gQ (λe f=>mV (λc g=>qA (λz j=>aA (cA s (fP t (pZ y))=cA e (fP f (pZ z))) (Ints h e c) (aA (Ints h f g) (dX h j z) (yG (qP j N)
 (iP c g j) K m h (λu=>aA (EO u p cols params) (sY p-u<sY p-x) (aA (aH s) (aH t) (aA dM (pY v) (aA (eR (bF ((↑x:Int)+1))=bL u) (fM v) (bG m m h h))))))))))))) (K dR m h)))
noncomputable abbrev fY(a b:dj):eb:=nO (gV a) (gV b)
noncomputable abbrev nL(a b:Value):dj:=bC a b []
noncomputable abbrev kP(a b:Sl):dj:=nL (iI a) (iI b)
abbrev bJ:Prop:=eP 3
noncomputable abbrev cH(a b:At)(c:dz):dz:=a::b::c
noncomputable abbrev iU(a b:At):dz:=cH a b []
abbrev C2(a b:Sl):Prop:=eQ (oQ 266 (iU (jR a) (jR b)))
attribute [push_cast] fY nL kP bJ cH iU C2
def Sz(N:Nat)(s t:Sl)(cols params:dl)(v:PV)(p:Pred)(m:MH)(h:PH)(K:dk):Prop:=
  cO (v.op==3) (JS (fY (kP s t) (uE v)) (λd e o=>fY (kP d e) o.enc) h (λc f o=>JS (fY (kP s t) (sZ v)) (λd e j=>fY (kP d e) j.enc) h (λA g j=>dD (mG v) 0 (eK v.cmp 1 (Gt v.cmp 6 (cK (kindOf c f o) 0 (K (vD (kindOf c f o==kindOf A g j)) m h) (K aX m h)) (K aX m h)) (K aX m h)) (K aX m h)))) (v.op==1) (cK (mG v) 0 (K aX m h) (∃(x:Unit),aA (NK cols params v p) cW (aA bJ (C2 s t) (bS (fM v) m m h h)))) (cO (v.op==2) (cK (mG v) 0 (K aX m h) (∃(x:Unit),aA (NK cols params v p) cW (aA bJ (C2 s t) (bS (fM v) m m h h)))) (v.op==6) (cK (mG v) 1 (K aX m h) (∃(x:Unit),aA (NK cols params v p) cW (aA bJ (C2 s t) (bS (fM v) m m h h)))) (cO
 (v.op==4) (∃(x:Unit),aA (NK cols params v p) cW (aA bJ (C2 s t) (bS (fM v) m m h h))) (v.op==5) (∃(x:Unit),aA (NK cols params v p) cW (aA bJ (C2 s t) (bS (fM v) m m h h))) (K aX m h)))/\∀(_:Unit),NK cols params v p->cK v.cmp 0 (K aX m h) (∃(r:Bool),hZ (E6 (uE v) r) (!r) (K aX m h) (∃(u:Bool),hZ (E6 (sZ v) u) (!u) (K aX m h) (pX (∃(x:Nat),aA (EO x p cols params) cW (aA bJ (aH v.args) (aA (pY v) (aZ x) (aA (C2 s t) (fM v) (bG m m h h))))) (λx=>EO x p cols params->aW (↑x:Int) (aF v.args) (aJ (λb o=>aI (aK v.args.a b o) (0<=(↑x:Int)) ((↑x:Int)<aF v.args) (∃(y:PV),aR m h b (bE o x 13) y.enc/\gQ (λd e=>mV (λc f=>qA (λz g=>aA
 (fY (kP s t) y.enc=fY (kP d e) z.enc) (Ints h d c) (aA (Ints h e f) (dX h g z) (yG (qP g N) (iP c f g) K m h (λn=>aA (EO n p cols params) (sY p-n<sY p-x) (aA cW bJ (aA (aH v.args) (aY v.args) (aA (eR (bF ((↑x:Int)+1))=bL n) (C2 s t) (bS (fM v) m m h h))))))))))))) (K dR m h)))))
theorem dX.top{v:PV}(r:dX h p v):p= .mk v.op v.cmp v.left v.right p.args:=by
 cases p with
 |mk op c l j args=>obtain⟨d,e,f,g,_⟩:=r;simp[Pred.args,d,e,f,g]
theorem MW{cols params:dl}{h:PH}{p:Pred}{v:PV}(r:dX h p v):iP cols params p=if v.op==1||v.op==2 then xF v&&p.args.length==0
 else if v.op==3 then p.args.length==0&&v.cmp>=1&&v.cmp<=6&&kindOf cols params v.left !=0&&kindOf cols params v.left==kindOf cols params v.right
 else if v.op==4||v.op==5||(v.op==6&&p.args.length==1)then xF v&&p.args.all (iP cols params)
 else false:=by
 have:=r.top;generalize p.args=xs at this⊢
 subst this;rw[iP,Gg];rfl
theorem cHJ{n:Nat}:((n:Int)==(k:Int))=(n==k):=by
 grind
theorem W9:∀N,di 168 (U0 N)
 |0=>by
  refine eA (fn:=Tryz.f168) (c:=cM Tryz.f168) func168 rfl bz ?_;rintro n m h K ⟨s,t,cols,params,v,p,rfl,_,_,x,O,_⟩;omega
 |N+1=>by
  refine fU func168 ?_;rintro n m h K ⟨s,t,cols,params,v,p,rfl,y,z,x,O,d⟩;refine⟨bsX N s t cols params v p m h,rfl,aE (W9 N) (aE Zb (aE Za aG)),S9 N s t cols params v p m h K,bu,?_⟩;obtain⟨X,M,f⟩:=x.open;have Y:=MW (cols:=cols) (params:=params) x;have Q:((v.args.len:Int)==0)=(p.args.length==0):=cg
  have Z:((v.args.len:Int) !=1)=(p.args.length !=1):=cg
  dsimp only[S9,push_cast];refine⟨?_,?_⟩
  .refine aB (λe=>⟨v,rfl,aB (λg=>jB d ?_) (λg=>jB d ?_)⟩) (λe=>aB (λR=>⟨v,rfl,aB (λg=>jB d ?_) (λg=>jB d ?_)⟩) (λR=>aB (λg=>⟨s,t,cols,params,v.left,rfl,y,z,?_⟩) (λg=>?_)))
   .grind
   .grind
   .grind
   .grind
   .have A:iP cols params p=(p.args.length==0&&v.cmp>=1&&v.cmp<=6&&kindOf cols params v.left !=0&&kindOf cols params v.left==kindOf cols params v.right):=cg
    rw[A]at d;refine aB (λj=>aB (λD=>aB (λE=>aB (λF=>⟨s,t,cols,params,v.right,rfl,y,z,jB d ?_⟩) (λF=>jB d ?_)) (λE=>jB d ?_)) (λD=>jB d ?_)) (λj=>jB d ?_)
    all_goals (rw[Q]at j;simp only[beq_iff_eq,dc,decide_eq_false_iff_not]at*;simp[*])
   .refine aB (λj=>⟨(),⟨cg⟩,rfl,rfl,rfl,rfl,rfl,rfl,trivial⟩) (λj=>aB (λD=>⟨(),⟨cg⟩,rfl,rfl,rfl,rfl,rfl,rfl,trivial⟩) (λD=>aB (λE=>aB (λF=>jB d ?_) (λF=>⟨(),⟨?_⟩,rfl,rfl,rfl,rfl,rfl,rfl,trivial⟩)) (λE=>jB d ?_)))
    .grind
    .grind
    grind
  .intro _ G;rw[G.eq]at d;refine⟨v,rfl,aB (λe=>jB d ?_) (λe=>?_)⟩
   .simp_all
   .have e:xF v=true:=cm e
    rw[e,Bool.true_and]at d;refine⟨⟨0,⟨aC,bx⟩,rfl,rfl,rfl,rfl,rfl,rfl,rfl,rfl,trivial⟩,λi S=>aD (λH=>?_) (λT=>jB d ?_)⟩
    .obtain⟨q,I⟩:∃q,p.args[i]? =some q:=⟨p.args[i]'(by omega),cq _⟩
     obtain⟨b,o,u,U,V,J⟩:=f i q I;refine⟨b,o,U,aC,H,u,.imm cg,s,t,cols,params,u,q,rfl,y,z,J,?_,aB (λW=>jB d ?_) (λW=>?_)⟩
     .have:=uK (cr I);omega
     .grind
     .refine⟨i+1,⟨aC,?_⟩,aC,rfl,rfl,rfl,rfl,by rw[fD aC],rfl,rfl,rfl,trivial⟩;rw[yX I,S.2];grind
    grind
theorem WY:∀N,di 220 (QP N)
 |0=>by
  refine eA (fn:=Tryz.f220) (c:=cM Tryz.f220) func220 rfl bz ?_;rintro j m h K ⟨s,t,cols,params,v,p,rfl,_,_,n,R,_⟩;omega
 |N+1=>by
  refine fU func220 ?_;rintro j m h K ⟨s,t,cols,params,v,p,rfl,x,y,n,R,d⟩;refine⟨blJ N s t cols params v p m h,rfl,aE (WY N) (aE YL aG),Sz N s t cols params v p m h K,bu,?_⟩;obtain⟨hl,O,g⟩:=n.open;have hv:=MW (cols:=cols) (params:=params) n;have S:((v.args.len:Int)==0)=(p.args.length==0):=cg
  have T:((v.args.len:Int) !=0)=(p.args.length !=0):=cg
  have h1:((v.args.len:Int) !=1)=(p.args.length !=1):=cg
  have Q:p.args.length=0->p.args.all (iP cols params)=true:=λe=>cg
  dsimp only[Sz,push_cast];refine⟨?_,?_⟩
  .refine aB (λz=>⟨s,t,cols,params,v.left,rfl,x,y,s,t,cols,params,v.right,rfl,x,y,?_⟩) (λz=>aB (λe=>aB (λf=>jB d ?_) (λf=>⟨(),⟨?_⟩,rfl,rfl,rfl,rfl,rfl,rfl,trivial⟩)) (λe=>aB (λA=>aB (λf=>jB d ?_) (λf=>⟨(),⟨?_⟩,rfl,rfl,rfl,rfl,rfl,rfl,trivial⟩)) (λA=>aB (λD=>aB (λE=>jB d ?_) (λE=>⟨(),⟨?_⟩,rfl,rfl,rfl,rfl,rfl,rfl,trivial⟩)) (λD=>aB (λf=>⟨(),⟨?_⟩,rfl,rfl,rfl,rfl,rfl,rfl,trivial⟩) (λf=>aB (λF=>⟨(),⟨?_⟩,rfl,rfl,rfl,rfl,rfl,rfl,trivial⟩) (λF=>jB d ?_))))))
   .have U:v.op=3:=cg
    have G:iP cols params p=(p.args.length==0&&v.cmp>=1&&v.cmp<=6&&kindOf cols params v.left !=0&&kindOf cols params v.left==kindOf cols params v.right):=cg
    rw[G]at d;refine aB (λf=>aB (λF=>aB (λD=>aB (λE=>jB d ?_) (λE=>jB d ?_)) (λD=>jB d ?_)) (λF=>jB d ?_)) (λf=>jB d ?_)
    all_goals (rw[S]at f;simp only[beq_iff_eq,dc,decide_eq_false_iff_not]at*;simp[*])
   .grind
   .grind
   .grind
   .grind
   .grind
   .grind
   .grind
   .grind
   grind
  .intro _ H;rw[H.eq]at d;refine aB (λe=>jB d ?_) (λe=>⟨X3 v.left dG,AW v.left dG,aB (λA=>jB d ?_) (λA=>⟨X3 v.right dG,AW v.right dG,aB (λz=>jB d ?_) (λz=>?_)⟩)⟩)
   .simp_all [xF]
   .simp_all [xF]
   .simp_all [xF]
   .have e:xF v=true:=by simp_all [xF]
    rw[e,Bool.true_and]at d;refine⟨⟨0,⟨aC,bx⟩,rfl,rfl,rfl,rfl,rfl,rfl,rfl,rfl,rfl,trivial⟩,λi V=>aD (λI=>?_) (λW=>jB d ?_)⟩
    .obtain⟨q,J⟩:∃q,p.args[i]? =some q:=⟨p.args[i]'(by omega),cq _⟩
     obtain⟨b,o,u,X,Y,M⟩:=g i q J;refine⟨b,o,X,aC,I,u,.imm cg,s,t,cols,params,u,q,rfl,x,y,M,?_,aB (λZ=>jB d ?_) (λZ=>?_)⟩
     .have:=uK (cr J);omega
     .grind
     .refine⟨i+1,⟨aC,?_⟩,aC,rfl,rfl,rfl,rfl,by rw[fD aC],rfl,rfl,rfl,rfl,trivial⟩;rw[yX J,V.2];grind
    grind
theorem drop_cons{α:Type}{l:List α}{x:α}(h:l[i]? =some x):l.drop i=x::l.drop (i+1):=by
 have c:i<l.length:=(cn h);rw[drop_eq_getElem_cons c]
 grind
mutual
def l9:Pred->Nat->Int->Bool×Int
 |.mk _ _ _ _ args,k,b=>if b<1 then(false,b-1)else match k with|0=>(false,b-1)|k+1=>xC args k (b-1)
def xC:dx->Nat->Int->Bool×Int
 |[],_,b=>(true,b)
 |p::ps,k,b=>match l9 p k b with|(false,c)=>(false,c)|(true,c)=>xC ps k c
end
mutual
def RA:Pred->Int
 |.mk _ _ _ _ args=>1+CH args
def CH:dx->Int
 |[]=>0
 |p::ps=>RA p+CH ps
end
mutual
theorem Ub:∀p:Pred,1<=RA p
 |.mk _ _ _ _ args=>by have:=Gh args;simp only[RA];omega
theorem Gh:∀ps:dx,0<=CH ps
 |[]=>by simp[CH]
 |p::ps=>by have:=Ub p;have:=Gh ps;simp only[CH];omega
end
mutual
theorem He:∀(p:Pred)(n:Int),n<=24->(n+RA p<=24->pR p n=n+RA p)/\(24<n+RA p->pR p n=25)
 |.mk _ _ _ _ args,n,h=>by
  obtain⟨c,d⟩:=Pk args (n+1) aC;simp only[pR,RA];omega
theorem Pk:∀(ps:dx)(n:Int),n<=25->(n+CH ps<=24->lO ps n=n+CH ps)/\(24<n+CH ps->lO ps n=25)
 |[],n,h=>by
  simp only[lO,CH];omega
 |p::ps,n,h=>by
  have e:=Ub p;have f:=Gh ps;simp only[lO,CH];by_cases c:n<=24
  .rw[if_pos c];have g:=He p n c;have d:=(Em p n c).2;have j:=Pk ps _ d;omega
  omega
end
mutual
theorem LB:∀(p:Pred)(k:Nat)(b:Int),0<=b->((l9 p k b).1=true↔RA p<=b/\nG p k=false)/\((l9 p k b).1=true->(l9 p k b).2=b-RA p)
 |.mk _ _ _ _ args,k,b,h=>by
  have d:=Gh args;simp only[l9,RA];by_cases c:b<1
  .grind
  .rw[if_neg c];cases k with
   |zero=>exact⟨⟨λe=>(by cases e),λe=>(by simp[nG]at e)⟩,λe=>(by cases e)⟩
   |succ k=>
    obtain⟨f,g⟩:=OR args k (b-1) aC;simp only[nG]
    grind
theorem OR:∀(ps:dx)(k:Nat)(b:Int),0<=b->((xC ps k b).1=true↔CH ps<=b/\vL ps k=false)/\((xC ps k b).1=true->(xC ps k b).2=b-CH ps)
 |[],k,b,h=>by simp[xC,CH,vL,h]
 |p::ps,k,b,h=>by
  obtain⟨c,d⟩:=LB p k b h;have j:=Gh ps;simp only[xC,CH,vL];cases e:l9 p k b with
  |mk r f=>
   rw[e]at c d;cases r with
   |false=>
    grind
   |true=>
    have g:=d rfl;have c:=c.1 rfl;simp only at g;obtain⟨n,s⟩:=OR ps k f aC
    grind
end
def fH(cols params:dl)(p:Pred):Int:=
 if !cols.all eH|| !params.all eH then 1
 else if pR p 0>24||nG p 8 then 2
 else if !iP cols params p then 50 else 0
theorem aHX(p:Pred):(l9 p 8 24).1= !(decide (pR p 0>24)||nG p 8):=by
 have c:=(LB p 8 24 aC).1;have d:=He p 0 aC
 grind
def tD(n:Int):Obj:=.cells #[.int .i64 n] 3 (0,0)
def aiX(N:Nat):Vc.Spec:=λc m h K=>∃v p,∃k b:Nat,∃n,c=[aP v,cI (9-k),cP b]/\dX h p v/\SizeOf.sizeOf p<N/\k<=9/\0<=n/\n<=24/\m b=some (tD n)/\∀m',iD m m' b (tD (l9 p k n).2)->K (cB (l9 p k n).1) m' h
noncomputable def bmQ(N:Nat)(v:PV)(p:Pred)(k b:Nat)(n:Int)(m:MH)(h:PH):Ctx:=
 ctx [(219,aiX N)] [(5,{A:=Nat×Int×MH,st:=λx=>bO 36 39 [(1,iv (9-k)),(2,vv (.pointer (some ⟨b,0,none⟩))),(23,sv v.args),(24,iv v.args.len),(25,iv x.1)] [] x.2.2 h,inv:=λx=>x.1<=p.args.length/\0<=x.2.1/\x.2.1<=24/\iD m x.2.2 b (tD x.2.1)/\1<=k/\xC (p.args.drop x.1) (k-1) x.2.1=l9 p k n,mu:=λx=>p.args.length-x.1})] [] [] false
def tH:Vc.Spec:=λe m h K=>∃s t v d c p,e=[cS s,cS t,aP v]/\Ints h s d/\Ints h t c/\dX h p v/\K (cI (fH d c p)) m h
noncomputable def bWZ(N:Nat):Ctx:=ctx [(87,QZ),(166,ajZ N),(167,Ve N),(168,U0 N)] [] [] [] false
noncomputable def buZ(N:Nat):Ctx:=ctx [(218,QZ),(219,aiX N),(220,QP N)] [] [] [] false
abbrev xV(a:MH)(b:PH)(c d:Nat)(e:Int->Prop):Prop:=∃(x:Int),aR a b c d (bQ x)/\e x
abbrev kS(a:(Array Value)->TypeId->Prop):Prop:=∃(x:Array Value)(c:TypeId),a x c
noncomputable abbrev lF(a:Array Value)(b:TypeId)(c:Nat):Obj:=Obj.cells a b (c,c)
abbrev nR(a:Nat)(b:Array Value):Prop:=a<b.size
abbrev gP(a b:MH)(c:Nat)(d:dj)(e:Nat):Prop:=iD a b c (lF (Array.mk d) e 0)
noncomputable abbrev tA(a:Value)(b:Nat)(c:dj):dj:=a::List.drop b c
abbrev vR(a:MH)(b:Nat)(c:Value)(d:MH->Prop):Prop:=kS (λx e=>aA (Gc a b (lF x e 0)) (nR 0 x) (∀(f:MH),gP a f b (tA c 1 x.toList) e->d f))
noncomputable abbrev kY(a:Int):Int:=bF (a-1)
abbrev fA(a b:Int)(c d:Prop):Prop:=branch (decide (a>b)) c d
noncomputable abbrev tN(a:Nat):Int:=9-(↑a:Int)
noncomputable abbrev N0(a:Nat×Int×MH)(b:Pred)(c:Nat):Bool×Int:=xC (List.drop a.1 b.args) (c-1) a.2.1
abbrev iF(a:Int):Prop:=eQ (eR a)
abbrev dE(a:Nat):Prop:=eQ (sQo a 0)
noncomputable abbrev cV(a:dj)(b:eb):eb:=gV a::b
noncomputable abbrev fO(a:Int)(b:CV):eb:=nO (fN a) b
abbrev eT(a:Prop)(b:Bool)(c d:Prop):Prop:=a->branch b c d
attribute [push_cast] xV kS lF nR gP tA vR kY fA tN N0 iF dE cV fO eT
def SA(N:Nat)(v:PV)(p:Pred)(k b:Nat)(n:Int)(m:MH)(h:PH)(K:dk):Prop:=
  xV m h b 0 (λy=>vR m b (fE (kY y)) (λe=>xV e h b 0 (λA=>aW A 0 (K aX e h) (fA (tN k) 8 (K aX e h) ((∃(x:Nat×Int×MH),aA (aA (x.1<=sY p) (bY x.2.1) (aA (x.2.1<=24) (gP m x.2.2 b (bQ x.2.1) 3) (1<=k/\N0 x p k=l9 p k n))) (iF (tN k)) (aA (dE b) (aH v.args) (aA (pY v) (aZ x.1) (aA (e=x.2.2) (h=h) True))))/\∀(x:Nat×Int×MH),aA (x.1<=sY p) (bY x.2.1) (aA (x.2.1<=24) (gP m x.2.2 b (bQ x.2.1) 3) (1<=k/\N0 x p k=l9 p k n))->aW (↑x.1:Int) (aF v.args) (aJ (λt o=>aI (aK v.args.a t o) (0<=(↑x.1:Int)) ((↑x.1:Int)<aF v.args) (∃(u:PV),aR x.2.2 h t (bE o x.1 13) u.enc/\qA (λz f=>aJ (λg j=>∃(d:Int),aA (cV u.enc (fO (bF (tN k
 +1)) (uR b 0))=cV z.enc (fO (tN g) (uR j 0))) (dX h f z) (aA (qP f N) (g<=9) (aI (bY d) (d<=24) (x.2.2 j=Option.some (lF (Array.mk (bQ d)) 3 0)) (∀(s:MH),eT (gP x.2.2 s j (bQ (l9 f g d).2) 3) (!(l9 f g d).1) (K aX s h) (∃(c:Nat×Int×MH),aA (aA (c.1<=sY p) (bY c.2.1) (aA (c.2.1<=24) (gP m c.2.2 b (bQ c.2.1) 3) (1<=k/\N0 c p k=l9 p k n))) (sY p-c.1<sY p-x.1) (aA (iF (tN k)) (dE b) (aA (aH v.args) (aY v.args) (aA (eR (bF ((↑x.1:Int)+1))=bL c.1) (s=c.2.2) (bR h h))))))))))))) (K dR x.2.2 h))))))
abbrev DP(a:Sl->dl->Prop):Prop:=∃(x:Sl)(c:dl),a x c
noncomputable abbrev eY(a:Sl):eb:=w6 (F9 a)
abbrev qT(a:Sl)(b:PH)(c:dl->Prop):Prop:=DP (λx d=>aA (eY a=eY x) (Ints b x d) (c d))
abbrev mB(a:Bool)(b c:Prop):Prop:=branch (!a) b c
attribute [push_cast] DP eY qT mB
def Wt(N:Nat)(s t:Sl)(v:PV)(m:MH)(h:PH)(K:dk):Prop:=
  qT s h (λl=>mB (Bd l) (K (fN 1) m h) (qT t h (λz=>mB (Bd z) (K (fN 1) m h) (qA (λg p=>∃(k:Int),aA (bD (gV v.enc) 0=bD (gV g.enc) k) (dX h p g) (aA (qP p N) (bY k) (k<=24/\fA (pR p k) 24 (K (fN 2) m h) (qA (λj d=>∃(e:Nat),aA (bD (gV v.enc) 8=bD (gV j.enc) (↑e:Int)) (dX h d j) (aA (qP d N) (e<=100) (branch (nG d e) (K (fN 2) m h) (gQ (λn u=>mV (λc x=>qA (λy f=>aA (cA s (fP t (pZ v))=cA n (fP u (pZ y))) (Ints h n c) (aA (Ints h u x) (dX h f y) (hZ (qP f N) (!(iP c x f)) (K (fN 50) m h) (K (fN 0) m h))))))))))))))))))
abbrev mE(a:MH)(b:PH)(c d:Nat->MH->Prop):Prop:=∀(x:Nat)(e:MH),lZ a b x->c x e->d x e
attribute [push_cast] mE
def Tk(N:Nat)(s t:Sl)(v:PV)(m:MH)(h:PH)(K:dk):Prop:=
  qT s h (λl=>mB (Bd l) (K (fN 1) m h) (qT t h (λA=>mB (Bd A) (K (fN 1) m h) (mE m h (λb d=>gP m d b (bQ 24) 3) (λb d=>qA (λj p=>aJ (λk f=>∃(n:Int),aA (cV v.enc (fO 1 (uR b 0))=cV j.enc (fO (tN k) (uR f 0))) (dX h p j) (aA (qP p N) (k<=9) (aI (bY n) (n<=24) (d f=Option.some (lF (Array.mk (bQ n)) 3 0)) (∀(e:MH),eT (gP d e f (bQ (l9 p k n).2) 3) (!(l9 p k n).1) (K (fN 2) e h) (gQ (λu x=>mV (λc y=>qA (λz g=>aA (fY (kP s t) v.enc=fY (kP u x) z.enc) (Ints h u c) (aA (Ints h x y) (dX h g z) (hZ (qP g N) (!(iP c y g)) (K (fN 50) e h) (K (fN 0) e h)))))))))))))))))
end Go.Ps
namespace Go.Vc
open Go.Ps Go.Proofs List
theorem iD.trans{m m' c:MH}{b:Nat}{o o':Obj}(g:iD m m' b o)(d:iD m' c b o'):iD m c b o':=⟨d.at_,λe f=>(d.other e f).trans (g.other e f)⟩
end Go.Vc
namespace Go.Ps
open Go Go.Vc Go.Proofs List Tryz
variable{K:dk}{m:MH}{h:PH}{ps:dl}{cb:Nat}{sc:bX}{v:QV}{q:Query}{p:Pred}{l:dl}{i:Nat}{N:Nat}{m':MH}{h':PH}{co:dl}{gr:dl}{od:dr}{w:Pred}{ta:Int}{li:Int}{xs:List dj}{sz:Nat}{k:Nat}{ks:List dl}{rs:dl}{r:Sl}{a:dl}{b:Nat}
theorem W0:∀N,di 219 (aiX N)
 |0=>by
  refine eA (fn:=Tryz.f219) (c:=cM Tryz.f219) func219 rfl bz ?_;rintro E m h K ⟨v,p,k,b,n,rfl,Q,V,_⟩;omega
 |N+1=>by
  refine fU func219 ?_;rintro E m h K ⟨v,p,k,b,n,rfl,Q,V,hk,h0,h1,R,j⟩;refine⟨bmQ N v p k b n m h,rfl,aE (W0 N) aG,SA N v p k b n m h K,bu,?_⟩;dsimp only[SA,push_cast];obtain⟨hl,S,y⟩:=Q.open;have W:IntKind.i64.wrap (n-1)=n-1:=dL aC aC;refine⟨n,.of_m R rfl,_,_,⟨R⟩,bx,λm' T=>?_⟩;rw[W]at T;have f:iD m m' b (tD (n-1)):=T;refine⟨n-1,.of_m f.at_ rfl,aD (λX=>?_) (λX=>aD (λY=>?_) (λY=>?_))⟩
  .have e:l9 p k n=(false,n-1):=by cases p;simp only[l9];grind
   rw[e]at j;exact j m' f
  .have F:k=0:=by omega
   subst F;have e:l9 p 0 n=(false,n-1):=by cases p;simp only[l9];grind
   rw[e]at j;exact j m' f
  .refine⟨⟨(0,n-1,m'),⟨bx,cg,cg,f,aC,?_⟩,MT⟩,?_⟩
   .obtain⟨U,rfl⟩:∃U,k=U+1:=⟨k-1,aC⟩
    cases p;simp only[l9,drop_zero,Pred.args]
    grind
   .rintro⟨i,x,Z⟩ ⟨hi,s,z,g,G,d⟩;simp only at hi s z g d;refine aD (λa'=>?_) (λa0=>?_)
    .obtain⟨q,H⟩:∃q,p.args[i]? =some q:=⟨p.args[i]'(by omega),cq _⟩
     obtain⟨b1,o,u,ea,a1,I⟩:=y i q H;have hd:p.args.drop i=q::p.args.drop (i+1):=drop_cons H;refine⟨b1,o,ea,bx,aC,u,.imm cg,u,q,k-1,b,x,?_,I,?_,aC,s,z,g.at_,λJ M=>?_⟩
     .rw[dL aC aC,show(9-((k-1:Nat):Int))=9-(k:Int)+1 by omega]
     .have:=uK (cr H);omega
     .have t:iD m J b (tD (l9 q (k-1) x).2):=g.trans M;rw[hd,xC]at d;obtain⟨A,D⟩:=LB q (k-1) x s;cases e:l9 q (k-1) x with
      |mk r x'=>
       rw[e]at d t A D;cases r with
       |false=>
        simp only at d;rw[<-d]at j;exact j J t
       |true=>
        have a2:=A.1 rfl;have O:=D rfl;have a3:=Ub q;simp only at O d;exact⟨(i+1,x',J),⟨aC,cg,cg,t,G,d⟩,aC,MT⟩
    .rw[drop_of_length_le aC]at d;simp only[xC]at d;rw[<-d]at j;exact j Z g
theorem L4:di 94 tH:=by
 refine fU func94 ?_;rintro n m h K ⟨s,t,v,d,c,p,rfl,g,j,f,e⟩;refine⟨bWZ (SizeOf.sizeOf p+1),rfl,aE R6 (aE (Xb _) (aE (Xa _) (aE (W9 _) aG))),Wt (SizeOf.sizeOf p+1) s t v m h K,bu,?_⟩;dsimp only[Wt,push_cast];refine⟨s,d,rfl,g,aB (λu=>A0 e ?_) (λu=>⟨t,c,rfl,j,aB (λx=>A0 e ?_) (λx=>⟨v,p,0,rfl,f,aC,aC,aC,aB (λy=>A0 e ?_) (λy=>⟨v,p,8,rfl,f,aC,aC,aB (λz=>A0 e ?_) (λz=>⟨s,t,d,c,v,p,rfl,g,j,f,aC,aB (λA=>A0 e ?_) (λA=>A0 e ?_)⟩)⟩)⟩)⟩)⟩
 all_goals (simp only[fH];simp only[*,Bool.or_false,Bool.false_or,Bool.or_true,Bool.true_or,Bool.and_true,Bool.true_and,Bool.and_false,Bool.false_and,Bool.not_true,Bool.not_false,Bool.false_eq_true,if_true,if_false, ↓reduceIte])
theorem DS{f:FuncId}{fn:Func}(s:Tryz.prog.funcs[f]? =some fn){S:Vc.Spec}(j:∀c m h K,S c m h K->∃C:Ctx,C.P=Tryz.prog/\(∀g S,assoc C.specs g=some S->di g S)/\∃N:Prop,N=tB C fn (cM fn) (entry fn.ntmps c m h) (λr m' h'=>∃m2 n,(∀b o,m2 b=some o->m' b=some o)/\PH.le h n/\PH.le n h'/\K r m2 n)/\N)(t:fn.body=some (cM fn):=by rfl)(d:(fn.name== "runtime.NumGoroutine")=false:=by decide):di f S:=R4 s t d λc m h K u=>let⟨C,hC,hs,N,e,hn⟩:=j c m h K u;⟨C,hC,hs,e▸hn⟩
theorem Je:di 156 tH:=by
 refine DS func156 ?_;rintro I m h K ⟨s,t,v,d,c,p,rfl,E,F,G,J⟩;refine⟨buZ (SizeOf.sizeOf p+1),rfl,aE Ze (aE (W0 _) (aE (WY _) aG)),Tk (SizeOf.sizeOf p+1) s t v m h (λr m' h'=>∃j n,(∀b o,j b=some o->m' b=some o)/\PH.le h n/\PH.le n h'/\K r j n),bu,?_⟩;dsimp only[Tk,push_cast];have f:∀(m':MH),(∀b o,m b=some o->m' b=some o)->∀x,fH d c p=x->∃j n,(∀b o,j b=some o->m' b=some o)/\PH.le h n/\PH.le n h/\K (.val (.int .i64 x)) j n:=λm' M x e=>⟨m,h,M,.refl _,.refl _,e▸J⟩
 refine⟨s,d,rfl,E,aB (λO=>f m (λ_ _ e=>e) _ ?_) (λO=>⟨t,c,rfl,F,aB (λQ=>f m (λ_ _ e=>e) _ ?_) (λQ b U R u=>⟨v,p,8,b,24,rfl,G,aC,aC,aC,aC,u.at_,λj A=>?_⟩)⟩)⟩
 .simp only[fH];grind
 .simp only[fH];grind
 .have g:∀b o,m b=some o->j b=some o:=λD o e=>by
   have y:D≠b:=λS=>by rw[S,R.m_]at e;cases e
   rw[A.other D y,u.other D y,e]
  have z:=aHX p;refine aB (λH=>f j g _ ?_) (λH=>⟨s,t,d,c,v,p,rfl,E,F,G,aC,aB (λT=>f j g _ ?_) (λT=>f j g _ ?_)⟩)
  all_goals (rw[z,Bool.not_not]at H;clear z;simp only[fH];simp only[*,Bool.or_false,Bool.false_or,Bool.or_true,Bool.true_or,Bool.and_true,Bool.true_and,Bool.and_false,Bool.false_and,Bool.not_true,Bool.not_false,Bool.false_eq_true,if_true,if_false, ↓reduceIte])
structure bI{α β:Type}(h:PH)(sz:Nat)(enc:β->dj)(R:α->β->Prop)(s:Sl)(l:List α):Prop where
 ex:∃vs:List β,cE h s sz (vs.map enc)/\l.length=vs.length/\∀(i:Nat)(x:α),l[i]? =some x->∃v,vs[i]? =some v/\R x v
 len:l.length<=502633886983
theorem bI.slen{α β:Type}{enc:β->dj}{R:α->β->Prop}{s:Sl}{l:List α}(r:bI h sz enc R s l):s.len=l.length:=by
 obtain⟨d,c,e,_⟩:=r.ex;have:=c.len
 grind
theorem bI.at{α β:Type}{enc:β->dj}{R:α->β->Prop}{s:Sl}{l:List α}(r:bI h sz enc R s l){x:α}(c:l[i]? =some x):
 ∃b o v,s.a=some ⟨b,o,none⟩/\bZ h b (o+i*sz) (enc v)/\R x v:=by
 obtain⟨j,d,_,f⟩:=r.ex;obtain⟨v,g,n⟩:=f i x c;obtain⟨b,o,e,k⟩:=d.get (i:=i) (e:=enc v) (by simp[g])
 grind
theorem bI.mono{α β:Type}{enc:β->dj}{R R':α->β->Prop}{s:Sl}{l:List α}(r:bI h sz enc R s l)(le:PH.le h h')(d:∀x v,R x v->R' x v):bI h' sz enc R' s l:=by
 obtain⟨e,f,g,j⟩:=r.ex;exact⟨⟨e,f.mono le,g,λi x n=>(j i x n).imp λv c=>⟨c.1,d _ _ c.2⟩⟩,r.len⟩
theorem bI.nil{α β:Type}(h:PH)(sz:Nat)(enc:β->dj)(R:α->β->Prop):bI h sz enc R ⟨none,0,0⟩ ([]:List α):=
 ⟨⟨[],.nil h sz,rfl,λi x c=>by simp at c⟩,bx⟩
theorem dO{α:Type}{l:List α}{i n:Nat}(c:n=l.length)(d:(i:Int)<(n:Int)):∃x,l[i]? =some x:=⟨l[i]'(by omega),cq _⟩
def GX(h:PH)(s:Sl)(ps:dx):Prop:=bI h 13 PV.enc (dX h) s ps
theorem GX.mono{s:Sl}{ps:dx}(r:GX h s ps)(le:PH.le h h'):GX h' s ps:=bI.mono r le λ_ _=>dX.mono le
theorem qC.toL{s:Sl}{ps:dx}{vs:en}(d:cE h s 13 (vs.map PV.enc))(c:qC h ps vs)(e:ps.length<=502633886983):GX h s ps:=
 ⟨⟨vs,d,c.length.symm,λ_ _ f=>c.get f⟩,e⟩
theorem qC.ofL{h:PH}:∀{ps:dx}{vs:en},ps.length=vs.length->(∀(i:Nat)(x:Pred),ps[i]? =some x->∃v,vs[i]? =some v/\dX h x v)->qC h ps vs
 |[],[],_,_=>rfl
 |p::ps,v::vs,c,d=>by
  obtain⟨j,f,g⟩:=d 0 p rfl;simp at f;subst f;exact⟨v,vs,rfl,g,qC.ofL cg λi x e=>cm (d (i+1) x (by simpa using e))⟩
 |[],_::_,c,_=>by simp at c
 |_::_,[],c,_=>by simp at c
theorem dX.parts{op c:Int}{l r:OV}{args:dx}{v:PV}(x:dX h (.mk op c l r args) v):v.op=op/\v.cmp=c/\v.left=l/\v.right=r/\GX h v.args args:=by
 obtain⟨d,e,f,g,j,t,n,s⟩:=x;exact⟨d,e,f,g,s.toL n j⟩
theorem dX.mk{h:PH}{args:dx}{v:PV}(c:GX h v.args args):dX h (.mk v.op v.cmp v.left v.right args) v:=by
 obtain⟨d,e,f,g⟩:=c.ex;exact⟨rfl,rfl,rfl,rfl,c.len,d,e,.ofL f g⟩
def ceX(N:Nat):Vc.Spec:=λc m h K=>∃v w p q,c=[aP v,aP w]/\dX h p v/\dX h q w/\SizeOf.sizeOf p<N/\∀r:Bool,(r=true↔p=q)->K (cB r) m h
def cjX(N:Nat):Vc.Spec:=λc m h K=>∃s t ps d,c=[cS s,cS t,.val (.func (.func 300) #[] #[])]/\GX h s ps/\GX h t d/\(∀p∈ps,SizeOf.sizeOf p<N)/\∀r:Bool,(r=true↔ps=d)->K (cB r) m h
noncomputable def bjQ(N:Nat):Ctx:=ctx [(309,cjX N)] [] [] [] false
noncomputable def biZ(N:Nat)(s t:Sl)(ps c:dx)(m:MH)(h:PH):Ctx:=
 ctx [(300,ceX N)] [Dx 4 (λi=>bO 32 35 [(1,sv t),(2,vv (.func (.func 300) #[] #[])),(15,sv s),(16,iv s.len),(17,iv i)] [] m h) (λi=>i<=ps.length/\∀j:Nat,j<i->ps[j]? =c[j]?) (λi=>ps.length-i)] [] [] false
noncomputable def bYZ(N:Nat)(v w:PV)(ps c:dx)(m:MH)(h:PH):Ctx:=
 ctx [(76,ceX N)] [Dx 4 (λi=>bO 60 62 [(2,.at (.ptr 2 0)),(3,.at (.ptr 3 0)),(43,iv v.args.len),(44,iv i)] [(2,.cells 32 (v.enc.map .val)),(3,.cells 32 (w.enc.map .val))] m h) (λi=>i<=ps.length/\∀j:Nat,j<i->ps[j]? =c[j]?) (λi=>ps.length-i)] [] [] false
noncomputable abbrev Cm:Array Value:=Array.mk []
noncomputable abbrev Cn(a:Nat)(b:Array Value):CV:=CV.val (Value.func (Fn.func a) Cm b)
noncomputable abbrev BN(a b:Sl)(c:Nat):eb:=cA a (fP b (Cn c Cm))
attribute [push_cast] Cm Cn BN
def L9(N:Nat)(v w:PV)(m:MH)(h:PH)(K:dk):Prop:=
  dD v.op w.op (dD v.cmp w.cmp (∃(r:Bool),hZ (wE 29 (uE v) (uE w) r) r (∃(c:Bool),hZ (wE 29 (sZ v) (sZ w) c) c (gQ (λs t=>∃(p q:dx),aA (BN v.args w.args 300=BN s t 300) (GX h s p) (aA (GX h t q) (∀(d:Pred),List.Mem d p->qP d N) (∀(e:Bool),(eZ e↔p=q)->K (vD e) m h)))) (K aX m h)) (K aX m h)) (K aX m h)) (K aX m h)
abbrev Ey(a:Nat)(b c:dx):Prop:=pX (a<=b.length) (λx=>x<a->b[x]? =c[x]?)
noncomputable abbrev Fv(a:Nat)(b:Array Value):SV:=SV.at (At.val (Value.func (Fn.func a) Cm b))
abbrev Az(a:Nat):Prop:=eQ (Fv a Cm)
abbrev HF(a:PV->PV->Pred->Pred->Prop):Prop:=∃(x:PV),qA (λc d=>∃(e:Pred),a x c d e)
attribute [push_cast] Ey Fv Az HF
def Sf(N:Nat)(s t:Sl)(ps c:dx)(m:MH)(h:PH)(K:dk):Prop:=
  cK (aF s) (aF t) (K aX m h) (pX (∃(x:Nat),aA (Ey x ps c) (aH t) (aA (Az 300) (aH s) (aA (aY s) (aZ x) (aA (m=m) (h=h) True)))) (λx=>Ey x ps c->aW (↑x:Int) (aF s) (aJ (λb o=>aI (aK s.a b o) (0<=(↑x:Int)) ((↑x:Int)<aF s) (∃(y:PV),aR m h b (bE o x 13) y.enc/\Om t.a x t (λf g e=>aR m h f (bE g x 13) e.enc/\HF (λv w p q=>aA (fY y.enc e.enc=fY v.enc w.enc) (dX h p v) (aA (dX h q w) (qP p N) (∀(r:Bool),eT (eZ r↔p=q) (!r) (K aX m h) (∃(d:Nat),aA (Ey d ps c) (ps.length-d<ps.length-x) (aA (aH t) (Az 300) (aA (aH s) (aY s) (aA (eR (bF ((↑x:Int)+1))=bL d) (m=m) (bR h h)))))))))))) (K dR m h)))
def PY(N:Nat)(v w:PV)(ps c:dx)(m:MH)(h:PH)(K:dk):Prop:=
  cO (v.op !=w.op) (K aX m h) (v.cmp !=w.cmp) (K aX m h) (∃(r:Bool),hZ (wE 29 (uE v) (uE w) r) (!r) (K aX m h) (∃(e:Bool),wE 29 (sZ v) (sZ w) e/\cO (!e) (K aX m h) (mG v !=mG w) (K aX m h) (pX (∃(x:Nat),aA (Ey x ps c) cW (aA bJ (pY v) (aA (aZ x) (fM v) (aA (fM w) (m=m) (bR h h))))) (λx=>Ey x ps c->aW (↑x:Int) (aF v.args) (aJ (λb o=>aI (aK v.args.a b o) (0<=(↑x:Int)) ((↑x:Int)<aF v.args) (∃(y:PV),aR m h b (bE o x 13) y.enc/\Om w.args.a x w.args (λs t f=>aR m h s (bE t x 13) f.enc/\HF (λg j p q=>aA (fY y.enc f.enc=fY g.enc j.enc) (dX h p g) (aA (dX h q j) (qP p N) (∀(n:Bool),eT (eZ n↔p=q) (!n) (K aX m h) (∃(d:Nat),aA
 (Ey d ps c) (ps.length-d<ps.length-x) (aA cW bJ (aA (pY v) (eR (bF ((↑x:Int)+1))=bL d) (aA (fM v) (fM w) (bG m m h h)))))))))))) (K dR m h)))))
theorem uN{α:Type}{a b:List α}(c:a.length=b.length)(d:a.length<=i)(h:∀j:Nat,j<i->a[j]? =b[j]?):a=b:=by
 apply ext_getElem?
 grind
theorem rE{α:Type}{a b:List α}{x y:α}(c:a[i]? =some x)(d:b[i]? =some y)(e:x=y)(h:∀j:Nat,j<i->a[j]? =b[j]?):∀j:Nat,j<i+1->a[j]? =b[j]? :=by
 grind
theorem JO{α:Type}{a b:List α}{x y:α}(c:a[i]? =some x)(d:b[i]? =some y)(e:x≠y):a≠b:=λh=>by
 grind
theorem GB{α β:Type}{s t:Sl}{a:List α}{b:List β}(c:s.len=a.length)(d:t.len=b.length)(e:((s.len:Int) !=(t.len:Int))=true):a.length≠b.length:=λh=>by
 grind
theorem Fx{α β:Type}{s t:Sl}{a:List α}{b:List β}(c:s.len=a.length)(d:t.len=b.length)(e:((s.len:Int) !=(t.len:Int))=false):a.length=b.length:=by
 grind
theorem b3Z{v w:PV}{q:Pred}(u:dX h p v)(x:dX h q w)(H:SizeOf.sizeOf p<N+1)(s:∀r:Bool,(r=true↔p=q)->K (cB r) m h):L9 N v w m h K:=by
 dsimp only[L9,push_cast];have d:p≠q->K (cB false) m h:=λh=>s false ⟨λe=>(by cases e),λe=>(h e).elim⟩;have c:=@uK p;obtain⟨op,y,l,r,ps⟩:=p;obtain⟨z,t,I,J,A⟩:=q;obtain⟨rfl,rfl,rfl,rfl,j⟩:=u.parts;obtain⟨rfl,rfl,rfl,rfl,n⟩:=x.parts;refine aB (λD=>aB (λE=>⟨_,AW _ _,aB (λf=>⟨_,AW _ _,aB (λg=>⟨v.args,w.args,ps,A,rfl,j,n,λp F=>?_,λr G=>s r (G.trans ?_)⟩) (λg=>d λe=>?_)⟩) (λf=>d λe=>?_)⟩) (λE=>d λe=>?_)) (λD=>d λe=>?_)
 .have:=c (q:=p) F;omega
 .rw[rB]at f g
  grind
 .injection e with _ _ _ e _;rw[rB.2 e]at g;cases g
 .injection e with _ _ e _ _;rw[rB.2 e]at f;cases f
 .grind
 grind
theorem WQ:∀N,di 300 (ceX N)
 |0=>by
  refine eA (fn:=Tryz.f300) (c:=cM Tryz.f300) func300 rfl bz ?_;rintro g m h K ⟨v,w,p,q,rfl,D,_,E,_⟩;omega
 |N+1=>by
  have z:di 309 (cjX N):=by
   refine fU func309 ?_;rintro g m h K ⟨s,t,ps,F,rfl,I,R,E,G⟩;refine⟨biZ N s t ps F m h,rfl,aE (WQ N) aG,Sf N s t ps F m h K,bu,?_⟩;dsimp only[Sf,push_cast];have d:=I.slen;have A:=R.slen;have U:=I.len;have S:ps≠F->K (cB false) m h:=λh=>G false ⟨λe=>(by cases e),λe=>(h e).elim⟩;refine aB (λJ=>S (λe=>GB d A J (by rw[e]))) (λJ=>?_);have V:=Fx d A J;refine⟨⟨0,⟨aC,λj hj=>by omega⟩,MT⟩,λi T=>aD (λf=>?_) (λW=>?_)⟩
   .obtain⟨x,H⟩:=dO d f;obtain⟨y,M⟩:∃y,F[i]? =some y:=dO (n:=s.len) aC f;obtain⟨X,Y,u,Z,r1,ru⟩:=I.at H;obtain⟨b2,o2,w,e2,r2,O⟩:=R.at M;refine⟨X,Y,Z,aC,f,u,.imm r1,b2,o2,e2,aC,aC,w,.imm r2,u,w,x,y,rfl,ru,O,E x (cr H),λr D=>aB (λa'=>S (JO H M (λe=>?_))) (λhe=>?_)⟩
    .grind
    .have Q:r=true:=cg
     exact⟨i+1,⟨aC,rE H M (D.1 Q) T.2⟩,aC,MT⟩
   .exact G true ⟨λ_=>uN V aC T.2,λ_=>rfl⟩
  refine fU func300 ?_;rintro g m h K ⟨v,w,p,q,rfl,D,hq,E,G⟩;refine⟨bjQ N,rfl,aE z aG,L9 N v w m h K,bu,?_⟩;exact b3Z D hq E G
theorem ctZ{v w:PV}{q:Pred}(U:dX h p v)(V:dX h q w)(hN:SizeOf.sizeOf p<N+1)(D:∀r:Bool,(r=true↔p=q)->K (cB r) m h):PY N v w p.args q.args m h K:=by
 dsimp only[PY,push_cast];have c:p≠q->K (cB false) m h:=λh=>D false ⟨λe=>(by cases e),λe=>(h e).elim⟩;have d:=@uK p;obtain⟨op,W,l,r,ps⟩:=p;obtain⟨X,O,l',r',Q⟩:=q;obtain⟨rfl,rfl,rfl,rfl,E⟩:=U.parts;obtain⟨rfl,rfl,rfl,rfl,R⟩:=V.parts;simp only[Pred.args]at d⊢
 have g:=E.slen;have F:=R.slen;have Y:=E.len;refine aB (λG=>c λe=>?_) (λG=>aB (λH=>c λe=>?_) (λH=>⟨_,AW _ _,aB (λs=>c λe=>?_) (λs=>⟨_,AW _ _,aB (λt=>c λe=>?_) (λt=>aB (λS=>c λe=>?_) (λS=>?_))⟩)⟩))
 .grind
 .grind
 .injection e with _ _ e _ _;rw[rB.2 e]at s;cases s
 .injection e with _ _ _ e _;rw[rB.2 e]at t;cases t
 .grind
 .have Z:=Fx g F S;have s:v.left=w.left:=rB.1 cg;have t:v.right=w.right:=rB.1 cg;have G:v.op=w.op:=cg
  have H:v.cmp=w.cmp:=cg
  rw[G,H,s,t]at D c;have c:ps≠Q->K (cB false) m h:=λA=>c λe=>A (by injection e);refine⟨⟨0,⟨aC,λj hj=>by omega⟩,MT⟩,λi T=>aD (λf=>?_) (λa'=>?_)⟩
  .obtain⟨x,I⟩:=dO g f;obtain⟨y,J⟩:∃y,Q[i]? =some y:=dO (n:=v.args.len) aC f;obtain⟨b1,o1,u,e1,r1,ru⟩:=E.at I;obtain⟨b2,o2,z,e2,r2,rz⟩:=R.at J;refine⟨b1,o1,e1,aC,f,u,.imm r1,b2,o2,e2,aC,aC,z,.imm r2,u,z,x,y,rfl,ru,rz,?_,λr hr=>aB (λA=>c (JO I J (λe=>?_))) (λhe=>?_)⟩
   .grind
   .grind
   .have M:r=true:=cg
    exact⟨i+1,⟨aC,rE I J (hr.1 M) T.2⟩,aC,MT⟩
  .exact D true ⟨λ_=>by rw[uN Z aC T.2],λ_=>rfl⟩
theorem arJ:∀N,di 76 (ceX N)
 |0=>by
  refine eA (fn:=Tryz.f76) (c:=cM Tryz.f76) func76 rfl bz ?_;rintro d m h K ⟨v,w,p,q,rfl,e,_,f,_⟩;omega
 |N+1=>by
  refine fU func76 ?_;rintro d m h K ⟨v,w,p,q,rfl,e,g,f,j⟩;refine⟨bYZ N v w p.args q.args m h,rfl,aE (arJ N) aG,PY N v w p.args q.args m h K,bu,?_⟩;exact ctZ e g f j
def bNX:Vc.Spec:=λc m h K=>∃v w p q,c=[aP v,aP w]/\dX h p v/\dX h q w/\∀r:Bool,(r=true↔p=q)->K (cB r) m h
theorem iQ{f:FuncId}{S:Nat->Vc.Spec}{S':Vc.Spec}(h:∀N,di f (S N))(e:∀c m h K,S' c m h K->∃N,S N c m h K):di f S':=by
 refine⟨(h 0).1,λc g m d w K j n=>?_⟩;obtain⟨N,s⟩:=e c m d K j;exact(h N).2 c g m d w K s n
theorem YG:di 300 bNX:=iQ WQ λ_ _ _ _⟨v,w,p,q,e,c,d,f⟩=>⟨SizeOf.sizeOf p+1,v,w,p,q,e,c,d,aC,f⟩
theorem R8:di 76 bNX:=iQ arJ λ_ _ _ _⟨v,w,p,q,e,c,d,f⟩=>⟨SizeOf.sizeOf p+1,v,w,p,q,e,c,d,aC,f⟩
theorem K8{d e c i:Nat}{g:ed}{xs f:Array Value}{w:World}{x y:Value}{r r':Bool}(j:zG Tryz.prog (part e xs (i*c))=some x)(n:zG Tryz.prog (part e f (i*c))=some y)
 (s:(Op.equalIn d e x y).run Tryz.prog w= .ok r w)(t:(Op.eqItems d e c xs f g).run Tryz.prog w= .ok r' w):(Op.eqItems d e c xs f (i::g)).run Tryz.prog w= .ok (r&&r') w:=by
 simp only[Op.eqItems,Sem.run_bind,zF _ _ _ j,zF _ _ _ n,Result.andThen_ok,s];cases r
 .simp
 grind
def cvJ(a b:Int×Int):Bool:=a.1==b.1&&(a.2==b.2&&true)
def cvZ(a b:Int×Bool):Bool:=a.1==b.1&&(a.2==b.2&&true)
theorem Xo(a b:Int×Int):StructEq Tryz.prog 101 (.agg #[.int .i64 a.1,.int .i64 a.2]) (.agg #[.int .i64 b.1,.int .i64 b.2]) (cvJ a b):=by
 refine⟨bu,λw=>?_⟩;obtain⟨i,c⟩:=Option.isSome_iff_exists.1 (show(Tryz.prog.info? 3).isSome=true by kernel_rfl);rw[run_equalIn_array w 9999 (e:=3) (n:=2) _ _ bu c,show Tryz.prog.cellsOf 3=1 by kernel_rfl,show List.range 2=[0,1]from rfl];refine K8 (x:=.int .i64 a.1) (y:=.int .i64 b.1) bu bu (run_equalIn_int w 9998 _ .i64 .i64 _ _ bu) ?_;refine K8 (x:=.int .i64 a.2) (y:=.int .i64 b.2) bu bu (run_equalIn_int w 9998 _ .i64 .i64 _ _ bu) ?_;simp[Op.eqItems]
theorem Xn(a b:Int×Bool):StructEq Tryz.prog 103 (.agg #[.int .i64 a.1,.bool a.2]) (.agg #[.int .i64 b.1,.bool b.2]) (cvZ a b):=by
 refine⟨bu,λw=>?_⟩;rw[run_equalIn_struct w 9999 103 _ _ bu bu,show(Tryz.prog.fieldsOf 103).toList=[II 103 0,II 103 1]by kernel_rfl];refine eM (x:=.int .i64 a.1) (y:=.int .i64 b.1) bu bu bu (run_equalIn_int w 9998 _ .i64 .i64 _ _ bu) ?_;refine eM (x:=.bool a.2) (y:=.bool b.2) bu bu bu (run_equalIn_bool w 9998 _ _ _ bu) ?_;simp[Op.eqFields]
theorem K6{a b:Int×Int}:cvJ a b=true↔a=b:=by
 obtain⟨c,d⟩:=a;obtain⟨e,f⟩:=b;simp[cvJ]
theorem K5{a b:Int×Bool}:cvZ a b=true↔a=b:=by
 obtain⟨c,d⟩:=a;obtain⟨e,f⟩:=b;simp[cvZ]
theorem jA.at{s:Sl}{l:dq}(r:jA h s l){x:Int×Int}(c:l[i]? =some x):∃b o,s.a=some ⟨b,o,none⟩/\bZ h b (o+i*2) (tL x):=r.row.get (by simp[c])
theorem iV.at{s:Sl}{l:dr}(r:iV h s l){x:Int×Bool}(c:l[i]? =some x):∃b o,s.a=some ⟨b,o,none⟩/\bZ h b (o+i*2) (Ah x):=r.row.get (by simp[c])
def TT:Vc.Spec:=λc m h K=>∃(s t:Sl)(a b:dq),c=[cS s,cS t]/\jA h s a/\jA h t b/\∀r:Bool,(r=true↔a=b)->K (cB r) m h
def TS:Vc.Spec:=λc m h K=>∃(s t:Sl)(a b:dr),c=[cS s,cS t]/\iV h s a/\iV h t b/\∀r:Bool,(r=true↔a=b)->K (cB r) m h
noncomputable def WO{α:Type}(s t:Sl)(a b:List α)(m:MH)(h:PH):Ctx:=
 ctx [] [Dx 4 (λi=>bO 26 28 [(0,sv s),(1,sv t),(12,iv s.len),(13,iv i)] [] m h) (λi=>i<=a.length/\∀j:Nat,j<i->a[j]? =b[j]?) (λi=>a.length-i)] [] [] false
abbrev EB(a:Nat)(b c:dq):Prop:=pX (a<=b.length) (λx=>x<a->b[x]? =c[x]?)
noncomputable abbrev oD(a:Int×Int):dj:=nL (fE a.1) (fE a.2)
attribute [push_cast] EB oD
def Si(s t:Sl)(a b:dq)(m:MH)(h:PH)(K:dk):Prop:=
  cK (aF s) (aF t) (K aX m h) (pX (∃(x:Nat),aA (EB x a b) (aH s) (aA (aH t) (aY s) (bS (aZ x) m m h h))) (λx=>EB x a b->aW (↑x:Int) (aF s) (aJ (λd o=>aI (aK s.a d o) (0<=(↑x:Int)) ((↑x:Int)<aF s) (∃(y:Int×Int),aR m h d (bE o x 2) (oD y)/\aJ (λe f=>aI (aK t.a e f) (0<=(↑x:Int)) ((↑x:Int)<aF t) (∃(g:Int×Int),aR m h e (bE f x 2) (oD g)/\∃(r:Bool),yG (wE 101 (oD y) (oD g) r) r K m h (λc=>aA (EB c a b) (a.length-c<a.length-x) (aA (aH s) (aH t) (aA (aY s) (eR (bF ((↑x:Int)+1))=bL c) (aA (m=m) (h=h) True))))))))) (K dR m h)))
abbrev EC(a:Nat)(b c:dr):Prop:=pX (a<=b.length) (λx=>x<a->b[x]? =c[x]?)
noncomputable abbrev qX(a:Int×Bool):dj:=nL (fE a.1) (Value.bool a.2)
attribute [push_cast] EC qX
def Sh(s t:Sl)(a b:dr)(m:MH)(h:PH)(K:dk):Prop:=
  cK (aF s) (aF t) (K aX m h) (pX (∃(x:Nat),aA (EC x a b) (aH s) (aA (aH t) (aY s) (bS (aZ x) m m h h))) (λx=>EC x a b->aW (↑x:Int) (aF s) (aJ (λd o=>aI (aK s.a d o) (0<=(↑x:Int)) ((↑x:Int)<aF s) (∃(y:Int×Bool),aR m h d (bE o x 2) (qX y)/\aJ (λe f=>aI (aK t.a e f) (0<=(↑x:Int)) ((↑x:Int)<aF t) (∃(g:Int×Bool),aR m h e (bE f x 2) (qX g)/\∃(r:Bool),yG (wE 103 (qX y) (qX g) r) r K m h (λc=>aA (EC c a b) (a.length-c<a.length-x) (aA (aH s) (aH t) (aA (aY s) (eR (bF ((↑x:Int)+1))=bL c) (aA (m=m) (h=h) True))))))))) (K dR m h)))
theorem YF:di 301 TT:=by
 refine fU func301 ?_;rintro I m h K ⟨s,t,a,b,rfl,u,E,F⟩;refine⟨WO s t a b m h,rfl,aG,Si s t a b m h K,bu,?_⟩;dsimp only[Si,push_cast];have c:=u.slen;have f:=E.slen;have J:=u.len;have G:a≠b->K (cB false) m h:=λh=>F false ⟨λe=>(by cases e),λe=>(h e).elim⟩;refine aB (λz=>G (λe=>GB c f z (by rw[e]))) (λz=>?_);have M:=Fx c f z;refine⟨⟨0,⟨aC,λj Y=>by omega⟩,MT⟩,λi H=>aD (λd=>?_) (λO=>?_)⟩
 .obtain⟨x,A⟩:=dO c d;obtain⟨y,D⟩:∃y,b[i]? =some y:=dO (n:=s.len) aC d;obtain⟨Q,R,S,T⟩:=u.at A;obtain⟨U,V,W,X⟩:=E.at D;refine⟨Q,R,S,aC,d,x,.imm T,U,V,W,aC,aC,y,.imm X,_,Xo x y,aB (λg=>G (JO A D (λe=>?_))) (λZ=>?_)⟩
  .rw[K6.2 e]at g;cases g
  .exact⟨i+1,⟨aC,rE A D (K6.1 cg) H.2⟩,aC,MT⟩
 .exact F true ⟨λ_=>uN M aC H.2,λ_=>rfl⟩
theorem YE:di 302 TS:=by
 refine fU func302 ?_;rintro I m h K ⟨s,t,a,b,rfl,u,E,F⟩;refine⟨WO s t a b m h,rfl,aG,Sh s t a b m h K,bu,?_⟩;dsimp only[Sh,push_cast];have c:=u.slen;have f:=E.slen;have J:=u.len;have G:a≠b->K (cB false) m h:=λh=>F false ⟨λe=>(by cases e),λe=>(h e).elim⟩;refine aB (λz=>G (λe=>GB c f z (by rw[e]))) (λz=>?_);have M:=Fx c f z;refine⟨⟨0,⟨aC,λj Y=>by omega⟩,MT⟩,λi H=>aD (λd=>?_) (λO=>?_)⟩
 .obtain⟨x,A⟩:=dO c d;obtain⟨y,D⟩:∃y,b[i]? =some y:=dO (n:=s.len) aC d;obtain⟨Q,R,S,T⟩:=u.at A;obtain⟨U,V,W,X⟩:=E.at D;refine⟨Q,R,S,aC,d,x,.imm T,U,V,W,aC,aC,y,.imm X,_,Xn x y,aB (λg=>G (JO A D (λe=>?_))) (λZ=>?_)⟩
  .rw[K5.2 e]at g;cases g
  .exact⟨i+1,⟨aC,rE A D (K5.1 cg) H.2⟩,aC,MT⟩
 .exact F true ⟨λ_=>uN M aC H.2,λ_=>rfl⟩
noncomputable def OA(s t:Sl)(a b:dl)(m:MH)(h:PH):Ctx:=
 ctx [] [Dx 4 (λi=>bO 26 28 [(0,sv s),(1,sv t),(12,iv s.len),(13,iv i)] [] m h) (λi=>i<=a.length/\∀j:Nat,j<i->a[j]? =b[j]?) (λi=>a.length-i)] [] [] false
def K2(s t:Sl)(a b:dl)(m:MH)(h:PH)(K:dk):Prop:=
  cK (aF s) (aF t) (K aX m h) (pX (∃(x:Nat),aA (pX (x<=a.length) (λj=>j<x->a[j]? =b[j]?)) (aH s) (aA (aH t) (aY s) (bS (aZ x) m m h h))) (λx=>pX (x<=a.length) (λj=>j<x->a[j]? =b[j]?)->aW (↑x:Int) (aF s) (aJ (λd o=>aI (aK s.a d o) (0<=(↑x:Int)) ((↑x:Int)<aF s) (∃(y:Int),aR m h d (bE o x 1) (bQ y)/\aJ (λe f=>aI (aK t.a e f) (0<=(↑x:Int)) ((↑x:Int)<aF t) (∃(g:Int),aR m h e (bE f x 1) (bQ g)/\cK y g (K aX m h) (∃(c:Nat),aA (pX (c<=a.length) (λj=>j<c->a[j]? =b[j]?)) (a.length-c<a.length-x) (aA (aH s) (aH t) (aA (aY s) (eR (bF ((↑x:Int)+1))=bL c) (aA (m=m) (h=h) True))))))))) (K dR m h)))
theorem ctJ(s t:Sl)(a b:dl)(m:MH)(h:PH)(K:dk):K2 s t a b m h K=(tB (OA s t a b m h) Tryz.f75 (cM Tryz.f75) (entry 26 [cS s,cS t] m h) K):=bu
theorem b9Q(s t:Sl)(a b:dl)(m:MH)(h:PH)(K:dk):K2 s t a b m h K=(tB (OA s t a b m h) Tryz.f162 (cM Tryz.f162) (entry 26 [cS s,cS t] m h) K):=bu
def A9:Vc.Spec:=λc m h K=>∃(s t:Sl)(a b:dl),c=[cS s,cS t]/\Ints h s a/\Ints h t b/\∀r:Bool,(r=true↔a=b)->K (cB r) m h
theorem bhZ{s t:Sl}{b:dl}(c:Ints h s a)(f:Ints h t b)(g:∀r:Bool,(r=true↔a=b)->K (cB r) m h):K2 s t a b m h K:=by
 dsimp only[K2,push_cast];have u:=c.slen;have z:=f.slen;have A:=c.len;have n:a≠b->K (cB false) m h:=λh=>g false ⟨λe=>by(cases e),λe=>(h e).elim⟩;refine aB (λD=>n (λe=>?_)) (λD=>?_)
 .grind
 .have T:a.length=b.length:=cg
  refine⟨⟨0,⟨aC,λj E=>by omega⟩,rfl,rfl,rfl,rfl,rfl,rfl,trivial⟩,λi U=>aD (λd=>?_) (λF=>?_)⟩
  .obtain⟨x,G⟩:∃x,a[i]? =some x:=⟨a[i]'(by omega),cq _⟩
   obtain⟨y,H⟩:∃y,b[i]? =some y:=⟨b[i]'(by omega),cq _⟩
   obtain⟨I,J,M,V⟩:=c.at G;obtain⟨O,Q,R,W⟩:=f.at H;refine⟨I,J,M,aC,d,x,.imm cg,O,Q,R,aC,aC,y,.imm cg,aB (λS=>n (λe=>?_)) (λX=>?_)⟩
   .grind
   .have:x=y:=cg
    refine⟨i+1,⟨aC,λj E=>?_⟩,aC,rfl,rfl,rfl,by rw[fD aC],rfl,rfl,trivial⟩
    grind
  .refine g true ⟨λ_=>?_,λ_=>rfl⟩;apply ext_getElem?
   grind
theorem R9:di 75 A9:=by
 refine eA (fn:=Tryz.f75) (c:=cM Tryz.f75) func75 rfl bz ?_;rintro d m h K ⟨s,t,a,b,rfl,e,f,g⟩;exact⟨OA s t a b m h,rfl,aG,(ctJ s t a b m h K)▸bhZ e f g⟩
theorem FM:di 162 A9:=by
 refine eA (fn:=Tryz.f162) (c:=cM Tryz.f162) func162 rfl bz ?_;rintro d m h K ⟨s,t,a,b,rfl,e,f,g⟩;exact⟨OA s t a b m h,rfl,aG,(b9Q s t a b m h K)▸bhZ e f g⟩
def aQ(v:QV):CV:=.val (.agg ⟨v.enc⟩)
def Query.args:Query->ds
 |.mk _ _ _ _ _ _ _ _ l=>l
theorem vF{p:Query}{q:Query}(h:q∈p.args):SizeOf.sizeOf q<SizeOf.sizeOf p:=by
 cases p with
 |mk op t w c o g s l args=>
  have:=sizeOf_lt_of_mem h;simp only[Query.args]at this
  grind
def wV(h:PH)(s:Sl)(ps:ds):Prop:=bI h 21 QV.enc (dZ h) s ps
theorem wV.mono{s:Sl}{ps:ds}(r:wV h s ps)(le:PH.le h h'):wV h' s ps:=bI.mono r le λ_ _=>dZ.mono le
theorem Bv.ofL{h:PH}:∀{ps:ds}{vs:eh},ps.length=vs.length->(∀(i:Nat)(x:Query),ps[i]? =some x->∃v,vs[i]? =some v/\dZ h x v)->Bv h ps vs
 |[],[],_,_=>rfl
 |p::ps,v::vs,c,d=>by
  obtain⟨j,f,g⟩:=d 0 p rfl;simp at f;subst f;exact⟨v,vs,rfl,g,Bv.ofL cg λi x e=>cm (d (i+1) x (by simpa using e))⟩
 |[],_::_,c,_=>by simp at c
 |_::_,[],c,_=>by simp at c
structure nS(h:PH)(op table:Int)(w:Pred)(c:dl)(o:dq)(g:dl)(s:dr)(l:Int)(args:ds)(v:QV):Prop where
 op_:v.op=op
 table_:v.table=table
 where_:dX h w v.where_
 columns_:Ints h v.columns c
 on_:jA h v.on o
 group_:Ints h v.group g
 order_:iV h v.order s
 limit_:v.limit=l
 args_:wV h v.args args
theorem dZ.parts{op table:Int}{c:dl}{o:dq}{g:dl}{s:dr}{l:Int}{args:ds}(x:dZ h (.mk op table w c o g s l args) v):nS h op table w c o g s l args v:=by
 obtain⟨f,j,n,t,u,y,z,A,D,E,e,d⟩:=x;exact⟨f,j,n,t,u,y,z,A,⟨⟨E,e,d.length.symm,λ_ _ F=>d.get F⟩,D⟩⟩
theorem nS.rep{op table:Int}{c:dl}{o:dq}{g:dl}{s:dr}{l:Int}{args:ds}(x:nS h op table w c o g s l args v):dZ h (.mk op table w c o g s l args) v:=by
 obtain⟨d,e,f,j⟩:=x.args_.ex;exact⟨x.op_,x.table_,x.where_,x.columns_,x.on_,x.group_,x.order_,x.limit_,x.args_.len,d,e,.ofL f j⟩
def cdJ(N:Nat):Vc.Spec:=λc m h K=>∃v w p q,c=[aQ v,aQ w]/\dZ h p v/\dZ h q w/\SizeOf.sizeOf p<N/\∀r:Bool,(r=true↔p=q)->K (cB r) m h
def ceQ:Vc.Spec:=λc m h K=>∃v w p q,c=[aQ v,aQ w]/\dZ h p v/\dZ h q w/\∀r:Bool,(r=true↔p=q)->K (cB r) m h
def cjQ(N:Nat):Vc.Spec:=λc m h K=>∃s t ps d,c=[cS s,cS t,.val (.func (.func 290) #[] #[])]/\wV h s ps/\wV h t d/\(∀p∈ps,SizeOf.sizeOf p<N)/\∀r:Bool,(r=true↔ps=d)->K (cB r) m h
noncomputable def bjX(N:Nat):Ctx:=ctx [(300,bNX),(162,A9),(301,TT),(302,TS),(303,cjQ N)] [] [] [] false
noncomputable def biJ(N:Nat)(s t:Sl)(ps c:ds)(m:MH)(h:PH):Ctx:=
 ctx [(290,cdJ N)] [Dx 4 (λi=>bO 32 35 [(1,sv t),(2,vv (.func (.func 290) #[] #[])),(15,sv s),(16,iv s.len),(17,iv i)] [] m h) (λi=>i<=ps.length/\∀j:Nat,j<i->ps[j]? =c[j]?) (λi=>ps.length-i)] [] [] false
noncomputable abbrev B3(a:QV):dj:=a.where_.enc
noncomputable abbrev dK(a b:Sl):eb:=fP a (F9 b)
abbrev vS(a b:Sl)(c:PH)(d:dl->dl->Bool->Prop):Prop:=gQ (λx e=>mV (λf g=>aI (dK a b=dK x e) (Ints c x f) (Ints c e g) (∀(j:Bool),d f g j)))
abbrev sB(a:Query)(b:Nat):Prop:=SizeOf.sizeOf a<b
attribute [push_cast] B3 dK vS sB
def Mb(N:Nat)(v w:QV)(m:MH)(h:PH)(K:dk):Prop:=
  dD v.op w.op (dD v.table w.table (dD v.limit w.limit (HF (λd e p q=>aI (fY (B3 v) (B3 w)=fY d.enc e.enc) (dX h p d) (dX h q e) (∀(r:Bool),eT (eZ r↔p=q) r (vS v.columns w.columns h (λa b f=>eT (eZ f↔a=b) f (gQ (λs t=>∃(g j:dq),aI (dK v.on w.on=dK s t) (jA h s g) (jA h t j) (∀(n:Bool),eT (eZ n↔g=j) n (vS v.group w.group h (λJ M u=>eT (eZ u↔J=M) u (gQ (λx y=>∃(z A:dr),aI (dK v.order w.order=dK x y) (iV h x z) (iV h y A) (∀(D:Bool),eT (eZ D↔z=A) D (gQ (λE F=>∃(c G:ds),aA (BN v.args w.args 290=BN E F 290) (wV h E c) (aA (wV h F G) (∀(H:Query),List.Mem H c->sB H N)
 (∀(I:Bool),(eZ I↔c=G)->K (vD I) m h)))) (K aX m h)))) (K aX m h))) (K aX m h)))) (K aX m h))) (K aX m h)))) (K aX m h)) (K aX m h)) (K aX m h)
abbrev ED(a:Nat)(b c:ds):Prop:=pX (a<=b.length) (λx=>x<a->b[x]? =c[x]?)
abbrev qR(a:QV->Query->Prop):Prop:=∃(x:QV)(c:Query),a x c
abbrev Ko(a:QV->QV->Query->Query->Prop):Prop:=∃(x:QV),qR (λc d=>∃(e:Query),a x c d e)
attribute [push_cast] ED qR Ko
def Sg(N:Nat)(s t:Sl)(ps c:ds)(m:MH)(h:PH)(K:dk):Prop:=
  cK (aF s) (aF t) (K aX m h) (pX (∃(x:Nat),aA (ED x ps c) (aH t) (aA (Az 290) (aH s) (aA (aY s) (aZ x) (aA (m=m) (h=h) True)))) (λx=>ED x ps c->aW (↑x:Int) (aF s) (aJ (λb o=>aI (aK s.a b o) (0<=(↑x:Int)) ((↑x:Int)<aF s) (∃(y:QV),aR m h b (bE o x 21) y.enc/\aJ (λe f=>aI (aK t.a e f) (0<=(↑x:Int)) ((↑x:Int)<aF t) (∃(g:QV),aR m h e (bE f x 21) g.enc/\Ko (λv w p q=>aA (fY y.enc g.enc=fY v.enc w.enc) (dZ h p v) (aA (dZ h q w) (sB p N) (∀(r:Bool),eT (eZ r↔p=q) (!r) (K aX m h) (∃(d:Nat),aA (ED d ps c) (ps.length-d<ps.length-x) (aA (aH t) (Az 290) (aA (aH s) (aY s) (aA (eR (bF ((↑x:Int)+1))=bL d) (m=m) (bR h h))))))))))))) (K dR m
 h)))
theorem b3J{w:QV}{p:Query}(s:dZ h p v)(t:dZ h q w)(R:SizeOf.sizeOf p<N+1)(n:∀r:Bool,(r=true↔p=q)->K (cB r) m h):Mb N v w m h K:=by
 dsimp only[Mb,push_cast];have c:p≠q->K (cB false) m h:=λh=>n false ⟨λe=>(by cases e),λe=>(h e).elim⟩;have d:=@vF p;obtain⟨op,ta,S,co,on,gr,od,li,ps⟩:=p;obtain⟨u,x,y,z,A,D,E,F,T⟩:=q;have a:=s.parts;have b:=t.parts
 refine aB (λf=>aB (λg=>aB (λj=>⟨_,_,_,_,rfl,a.where_,b.where_,λU V=>aB (λG=>⟨_,_,_,_,rfl,a.columns_,b.columns_,λW X=>aB (λH=>⟨_,_,_,_,rfl,a.on_,b.on_,λY Z=>aB (λI=>⟨_,_,_,_,rfl,a.group_,b.group_,λr7 h7=>aB (λJ=>⟨_,_,_,_,rfl,a.order_,b.order_,λr8 h8=>aB (λM=>⟨_,_,_,_,rfl,a.args_,b.args_,λp O=>?_,λr Q=>n r (Q.trans ?_)⟩)
  (λM=>c λe=>?_)⟩) (λJ=>c λe=>?_)⟩) (λI=>c λe=>?_)⟩) (λH=>c λe=>?_)⟩) (λG=>c λe=>?_)⟩) (λj=>c λe=>?_)) (λg=>c λe=>?_)) (λf=>c λe=>?_)
 .have:=d (q:=p) O;omega
 .rw[a.op_,b.op_,beq_iff_eq]at f;rw[a.table_,b.table_,beq_iff_eq]at g;rw[a.limit_,b.limit_,beq_iff_eq]at j
  grind
 .grind
 .grind
 .grind
 .grind
 .grind
 .injection e with _ _ _ _ _ _ _ e _;rw[a.limit_,b.limit_,e]at j;simp at j
 .injection e with _ e _ _ _ _ _ _ _;rw[a.table_,b.table_,e]at g;simp at g
 .injection e with e _ _ _ _ _ _ _ _;rw[a.op_,b.op_,e]at f;simp at f
theorem WR:∀N,di 290 (cdJ N)
 |0=>by
  refine eA (fn:=Tryz.f290) (c:=cM Tryz.f290) func290 rfl bz ?_;rintro g m h K ⟨v,w,p,q,rfl,D,_,E,_⟩;omega
 |N+1=>by
  have z:di 303 (cjQ N):=by
   refine fU func303 ?_;rintro g m h K ⟨s,t,ps,F,rfl,I,R,E,G⟩;refine⟨biJ N s t ps F m h,rfl,aE (WR N) aG,Sg N s t ps F m h K,bu,?_⟩;dsimp only[Sg,push_cast];have d:=I.slen;have A:=R.slen;have U:=I.len;have S:ps≠F->K (cB false) m h:=λh=>G false ⟨λe=>(by cases e),λe=>(h e).elim⟩;refine aB (λJ=>S (λe=>GB d A J (by rw[e]))) (λJ=>?_);have V:=Fx d A J;refine⟨⟨0,⟨aC,λj hj=>by omega⟩,MT⟩,λi T=>aD (λf=>?_) (λW=>?_)⟩
   .obtain⟨x,H⟩:=dO d f;obtain⟨y,M⟩:∃y,F[i]? =some y:=dO (n:=s.len) aC f;obtain⟨X,Y,u,Z,r1,ru⟩:=I.at H;obtain⟨b2,o2,w,e2,r2,O⟩:=R.at M;refine⟨X,Y,Z,aC,f,u,.imm r1,b2,o2,e2,aC,aC,w,.imm r2,u,w,x,y,rfl,ru,O,E x (cr H),λr D=>aB (λa'=>S (JO H M (λe=>?_))) (λhe=>?_)⟩
    .grind
    .have Q:r=true:=cg
     exact⟨i+1,⟨aC,rE H M (D.1 Q) T.2⟩,aC,MT⟩
   .exact G true ⟨λ_=>uN V aC T.2,λ_=>rfl⟩
  refine fU func290 ?_;rintro g m h K ⟨v,w,p,q,rfl,D,hq,E,G⟩;refine⟨bjX N,rfl,aE YG (aE FM (aE YF (aE YE (aE z aG)))),Mb N v w m h K,bu,?_⟩;exact b3J D hq E G
theorem YI:di 290 ceQ:=iQ WR λ_ _ _ _⟨v,w,p,q,e,c,d,f⟩=>⟨SizeOf.sizeOf p+1,v,w,p,q,e,c,d,aC,f⟩
structure Ref where
 columns:dl
 table:Int
structure A8 where
 name:ByteArray
 columns:List pB
 key:Int
 refs:List Ref
 checks:dx
structure lL where
 version:Int
 tables:List A8
variable{s:lL}
structure U4(h:PH)(r:Ref)(v:Ga):Prop where
 columns:Ints h v.columns r.columns
 table:v.table=r.table
def Gb(h:PH)(s:Sl)(l:List pB):Prop:=bI h 2 pB.enc Eq s l
structure MM(h:PH)(t:A8)(v:cR):Prop where
 name:v.name=t.name
 columns:Gb h v.columns t.columns
 key:v.key=t.key
 refs:bI h 2 Ga.enc (U4 h) v.references t.refs
 checks:GX h v.checks t.checks
structure fR(h:PH)(s:lL)(v:bX):Prop where
 version:v.version=s.version
 tables:bI h 5 cR.enc (MM h) v.tables s.tables
theorem U4.mono{r:Ref}{v:Ga}(x:U4 h r v)(le:PH.le h h'):U4 h' r v:=⟨x.columns.mono le,x.table⟩
theorem MM.mono{t:A8}{v:cR}(x:MM h t v)(le:PH.le h h'):MM h' t v:=
 ⟨x.name,bI.mono x.columns le λ_ _ e=>e,x.key,x.refs.mono le λ_ _ e=>e.mono le,x.checks.mono le⟩
theorem fR.mono{v:bX}(x:fR h s v)(le:PH.le h h'):fR h' s v:=⟨x.version,x.tables.mono le λ_ _ e=>e.mono le⟩
def lower(c:Nat):Bool:=97<=c&&c<=122
def zA(c:Nat):Bool:=lower c||(48<=c&&c<=57)||c==95
def qL(s:ByteArray):ed:=s.data.toList.map UInt8.toNat
def oM(s:ByteArray):Bool:=1<=s.size&&s.size<=32&&lower ((qL s).headD 0)&&(qL s).all zA
theorem TK(s:ByteArray):(qL s).length=s.size:=by simp[qL]
theorem a2X{s:ByteArray}{c:Nat}(h:(qL s)[i]? =some c):(s.get! i).toNat=c/\c<256:=by
 simp only[qL,getElem?_map,Option.map_eq_some_iff]at h;obtain⟨b,e,rfl⟩:=h;refine⟨?_,b.toNat_lt⟩
 have f:i<s.data.size:=by
  grind
 have:s.data[i]? =some b:=cg
 cases s with
 |mk d=>
  show(d[i]!).toNat=b.toNat
  grind
theorem MC{s:ByteArray}(h:(s.get! i).toNat<128):Utf8.decode s i=((s.get! i).toNat,1):=by
 simp only[Utf8.decode,Nat.add_zero];rw[if_pos h]
theorem a1J{s:ByteArray}(h:¬(s.get! i).toNat<128):128<=(Utf8.decode s i).1:=by
 simp only[Utf8.decode,Nat.add_zero];rw[if_neg h]
 repeat' split
 all_goals simp_all [Utf8.runeError]
 all_goals omega
def Xy(s:ByteArray):CV:=.val (.string s)
def aBX:Vc.Spec:=λc m h K=>∃s,c=[Xy s]/\K (cB (oM s)) m h
noncomputable def bmZ(s:ByteArray)(m:MH)(h:PH):Ctx:=
 ctx [] [(4,{A:=Nat×Nat×MH,st:=λx=>bO 44 45 [(15,vv (.pointer (some ⟨x.2.1,0,none⟩)))] [] x.2.2 h,inv:=λx=>x.1<=s.size/\lZ m h x.2.1/\iD m x.2.2 x.2.1 (.stringIter s x.1)/\(x.1=0\/lower ((qL s).headD 0)=true)/\((qL s).take x.1).all zA=true,mu:=λx=>s.size-x.1})] [] [] false
noncomputable def bmJ(s:ByteArray)(m:MH)(h:PH):Ctx:=
 ctx [] [Dx 4 (λi=>bO 50 51 [(0,vv (.string s)),(3,iv i)] [] m h) (λi=>i<=s.size/\((qL s).take i).all zA=true) (λi=>s.size-i)] [] [] false
abbrev Oq(a b:(Nat×Nat×MH)->Prop):Prop:=(∃(x:Nat×Nat×MH),a x)/\∀(x:Nat×Nat×MH),b x
abbrev rZ(a b:Prop)(c:MH)(d:Nat->Option Obj)(e g:PH):Prop:=aA a b (aA (c=d) (e=g) True)
noncomputable abbrev iE(a:Nat×Nat×MH):Nat:=a.2.1
noncomputable abbrev gG(a:Nat×Nat×MH):Nat->Option Obj:=a.2.2
abbrev CS(a:Nat×Nat×MH)(b:ByteArray)(c:MH)(d:PH):Prop:=aA (a.1<=b.size) (lZ c d (iE a)) (aA (iD c (gG a) (iE a) (Obj.stringIter b a.1)) (a.1=0\/eZ (lower (headD (qL b) 0))) (eZ (List.all (List.take a.1 (qL b)) zA)))
abbrev dP(a b:Nat):Prop:=sQo a 0=sQo b 0
noncomputable abbrev Es(a:ByteArray)(b:Nat):Nat:=(Utf8.decode a b).1
abbrev Hj(a:(Nat×Nat×MH)->Prop)(b:ByteArray)(c:Nat×Nat×MH)(d:MH)(e:PH):Prop:=∃(x:Nat×Nat×MH),aA (a x) (b.size-x.1<b.size-c.1) (aA (dP (iE c) (iE x)) (d=gG x) (bR e e))
attribute [push_cast] Oq rZ iE gG CS dP Es Hj
def Mh(s:ByteArray)(m:MH)(h:PH)(K:dk):Prop:=
  aW (↑s.size:Int) 1 (K aX m h) (fA (↑s.size:Int) 32 (K aX m h) (mE m h (λb e=>iD m e b (Obj.stringIter s 0)) (λb e=>Oq (λx=>rZ (CS x s m h) (dP b (iE x)) e (gG x) h h) (λx=>CS x s m h->∃(c:ByteArray)(p:Nat),aA (Gc (gG x) (iE x) (Obj.stringIter c p)) (c.size<=p->K dR (gG x) h) (p<c.size->∀(d:MH),iD (gG x) d (iE x) (Obj.stringIter c (p+(Utf8.decode c p).2))->cO (decide ((↑(Es c p):Int)>=97)) (mB (decide ((↑(Es c p):Int)<=122)) (cO ((↑p:Int)==0) (K aX d h) ((↑(Es c p):Int) !=95) (aW (↑(Es c p):Int) 48 (K aX d h) (fA (↑(Es c p):Int) 57 (K aX d h) (Hj (λy=>CS y s m h) s x d h))) (Hj (λy=>CS y s m h) s x d h)) (Hj (λy=>CS y s m h) s x d h))
 ((↑p:Int)==0) (K aX d h) (cK (↑(Es c p):Int) 95 (aW (↑(Es c p):Int) 48 (K aX d h) (fA (↑(Es c p):Int) 57 (K aX d h) (Hj (λy=>CS y s m h) s x d h))) (Hj (λy=>CS y s m h) s x d h)))))))
abbrev mY(a:Bool)(b:Prop)(c d:Int)(e g:Prop):Prop:=cO a b (decide (c>d)) e g
abbrev N1(a:Prop)(b:ByteArray)(c:Nat)(d:UInt8->UInt8)(e:UInt8->Prop):Prop:=a/\∃(x:UInt8),b.data.toList[c]? =Option.some (d x)/\e x
noncomputable abbrev yM(a:UInt8):Int:=(↑a.toNat:Int)
abbrev Ao(a:Nat)(b:ByteArray):Prop:=a<=b.size/\eZ (List.all (List.take a (qL b)) zA)
attribute [push_cast] mY N1 yM Ao
def SC(s:ByteArray)(m:MH)(h:PH)(K:dk):Prop:=
  mY ((↑s.size:Int)==0) (K aX m h) (↑s.size:Int) 32 (K aX m h) (N1 (bY 0) s 0 (λb=>b) (λb=>aW (↑b.toNat:Int) 97 (K aX m h) (N1 (bY 0) s 0 (λd=>d) (λd=>fA (yM d) 122 (K aX m h) (pX (∃(x:Nat),aA (Ao x s) (eQ (SV.at (UZ s))) (aA (aZ x) (m=m) (bR h h))) (λx=>Ao x s->aW (↑x:Int) (↑s.size:Int) (N1 (bY (↑x:Int)) s (↑x:Int).toNat (λc=>c) (λc=>aW (↑c.toNat:Int) 97 (aW (↑c.toNat:Int) 48 (cK (yM c) 95 (K aX m h) (∃(y:Nat),aA (Ao y s) (s.size-y<s.size-x) (aA (eQ (SV.at (UZ s))) (eR (bF ((↑x:Int)+1))=bL y) (bG m m h h)))) (fA (yM c) 57 (cK (yM c) 95 (K aX m h) (∃(y:Nat),aA (Ao y s) (s.size-y<s.size-x) (aA (eQ (SV.at (UZ s))) (eR (bF ((↑x:Int)+1))=
 bL y) (bG m m h h)))) (∃(y:Nat),aA (Ao y s) (s.size-y<s.size-x) (aA (eQ (SV.at (UZ s))) (eR (bF ((↑x:Int)+1))=bL y) (bG m m h h))))) (fA (yM c) 122 (aW (↑c.toNat:Int) 48 (cK (yM c) 95 (K aX m h) (∃(y:Nat),aA (Ao y s) (s.size-y<s.size-x) (aA (eQ (SV.at (UZ s))) (eR (bF ((↑x:Int)+1))=bL y) (bG m m h h)))) (fA (yM c) 57 (cK (yM c) 95 (K aX m h) (∃(y:Nat),aA (Ao y s) (s.size-y<s.size-x) (aA (eQ (SV.at (UZ s))) (eR (bF ((↑x:Int)+1))=bL y) (bG m m h h)))) (∃(y:Nat),aA (Ao y s) (s.size-y<s.size-x) (aA (eQ (SV.at (UZ s))) (eR (bF ((↑x:Int)+1))=bL y) (bG m m h h))))) (∃(y:Nat),aA (Ao y s) (s.size-y<s.size-x) (aA (eQ (SV.at (UZ s))) (eR (bF ((↑x:Int)+1))=bL y) (bG m m h
 h)))))) (K dR m h)))))))
def jF(h:PH)(K:dk):CV->MH->PH->Prop:=λr m' h'=>∃d c,(∀b o,d b=some o->m' b=some o)/\PH.le h c/\PH.le c h'/\K r d c
theorem jF.here{r:CV}(c:K r m h):jF h K r m h:=⟨m,h,λ_ _ e=>e,.refl _,.refl _,c⟩
theorem jF.sub{r:CV}(c:∀b o,m b=some o->m' b=some o)(d:K r m h):jF h K r m' h:=⟨m,h,c,.refl _,.refl _,d⟩
theorem iD.keeps{o:Obj}(f:lZ m h b)(g:iD m m' b o):∀b o,m b=some o->m' b=some o:=λd n e=>by
 have c:d≠b:=λj=>by rw[j,f.m_]at e;cases e
 rw[g.other d c,e]
theorem Zf:di 217 aBX:=by
 refine DS func217 ?_;rintro U m h K ⟨s,rfl,E⟩;refine⟨bmZ s m h,rfl,aG,Mh s m h (λr m' h'=>∃u F,(∀b o,u b=some o->m' b=some o)/\PH.le h F/\PH.le F h'/\K r u F),bu,?_⟩;show Mh s m h (jF h K);dsimp only[Mh,push_cast];have hl:=TK s;refine aD (λV=>?_) (λV=>aD (λF=>?_) (λF b W D G=>?_))
 .refine .here (jB E ?_);have:¬1<=s.size:=by omega
  simp[oM,this]
 .refine .here (jB E ?_);have:¬s.size<=32:=by omega
  simp[oM,this]
 refine⟨⟨(0,b,W),⟨bx,D,G,.inl rfl,bx⟩,MT⟩,?_⟩;rintro⟨d,b,mx⟩ ⟨X,D,n,g,f⟩;simp only at X D n g f;refine⟨s,d,⟨n.at_⟩,λY=>?_,λZ u H=>?_⟩
 .refine .sub (iD.keeps D n) (jB E ?_);rw[cu aC]at f
  have h3:lower ((qL s).headD 0)=true:=by
   grind
  have O:1<=s.size:=by omega
  have Q:s.size<=32:=by omega
  simp only[oM,f,h3,decide_eq_true O,decide_eq_true Q];rfl
 .have t:=n.trans H;obtain⟨c,M⟩:∃c,(qL s)[d]? =some c:=⟨(qL s)[d]'(by omega),cq _⟩
  obtain⟨T,R⟩:=a2X M
  have z:d=0->(qL s).headD 0=c:=λe=>by
   subst e;cases a':qL s with
   |nil=>grind
   |cons x l=>grind
  have I:¬((97<=(Utf8.decode s d).1/\(Utf8.decode s d).1<=122)\/(d≠0/\((Utf8.decode s d).1=95\/(48<=(Utf8.decode s d).1/\(Utf8.decode s d).1<=57))))->jF h K (.val (.bool false)) u h:=by
   intro hn;refine .sub (iD.keeps D t) (jB E ?_);by_cases j:(s.get! d).toNat<128
   .rw[MC j,T]at hn;by_cases S:d=0
    .have:lower c=false:=by
      simp only[lower,Bool.and_eq_false_iff,decide_eq_false_iff_not];omega
     simp only[oM,z S,this,Bool.and_false,Bool.false_and]
    .have:zA c=false:=by
      simp only[zA,lower,Bool.or_eq_false_iff,Bool.and_eq_false_iff,decide_eq_false_iff_not,beq_eq_false_iff_ne];omega
     simp[oM,OC M this]
   .have:zA c=false:=by
     simp only[zA,lower,Bool.or_eq_false_iff,Bool.and_eq_false_iff,decide_eq_false_iff_not,beq_eq_false_iff_ne];omega
    simp[oM,OC M this]
  have J:((97<=(Utf8.decode s d).1/\(Utf8.decode s d).1<=122)\/(d≠0/\((Utf8.decode s d).1=95\/(48<=(Utf8.decode s d).1/\(Utf8.decode s d).1<=57))))->d+1<=s.size/\iD m u b (.stringIter s (d+1))/\lower ((qL s).headD 0)=true/\((qL s).take (d+1)).all zA=true:=by
   intro A
   have j:(s.get! d).toNat<128:=by
    refine Decidable.byContradiction λj=>?_;have:=a1J j;omega
   rw[MC j]at t;rw[MC j,T]at A;simp only at A;refine⟨aC,t,?_,?_⟩
   .rcases g with e|e
    .rw[z e];simp only[lower,cz,dc];omega
    .exact e
   .rw[yX M,f];simp only[zA,lower,Bool.true_and,Bool.or_eq_true,cz,dc,beq_iff_eq];omega
  have next:((97<=(Utf8.decode s d).1/\(Utf8.decode s d).1<=122)\/(d≠0/\((Utf8.decode s d).1=95\/(48<=(Utf8.decode s d).1/\(Utf8.decode s d).1<=57))))->_:=λA=>(⟨(d+1,b,u),⟨(J A).1,D,(J A).2.1,.inr (J A).2.2.1,(J A).2.2.2⟩,aC,MT⟩:∃(y:Nat×Nat×MH),(y.fst<=s.size/\lZ m h y.snd.fst/\iD m y.snd.2 y.snd.fst (Obj.stringIter s y.fst)/\(y.fst=0\/lower ((qL s).headD 0)=true)/\(List.take y.fst (qL s)).all zA=true)/\s.size-y.fst<s.size-d/\SV.at (At.val (Value.pointer (some (Addr.mk b 0 none))))=SV.at (At.val (Value.pointer (some (Addr.mk y.snd.fst 0 none))))/\u=y.snd.2/\h=h/\True)
  clear J t H f g z n G E
  repeat' (first|(refine aB (λ_=>?_) (λ_=>?_))|exact I (by simp only[dc,decide_eq_false_iff_not,bne_iff_ne,ne_eq,beq_iff_eq,beq_eq_false_iff_ne,bne_eq_false_iff_eq,Bool.not_eq_true',Bool.not_eq_false']at*;omega)|exact next (by simp only[dc,decide_eq_false_iff_not,bne_iff_ne,ne_eq,beq_iff_eq,beq_eq_false_iff_ne,bne_eq_false_iff_eq,Bool.not_eq_true',Bool.not_eq_false']at*;omega))
theorem Zg:di 216 aBX:=by
 refine fU func216 ?_;rintro I m h K ⟨s,rfl,j⟩;refine⟨bmJ s m h,rfl,aG,SC s m h K,bu,?_⟩;dsimp only[SC,push_cast];have T:=TK s;refine aB (λu=>jB j ?_) (λu=>aD (λJ=>jB j ?_) (λJ=>?_))
 .have:¬1<=s.size:=by have:(s.size:Int)=0:=(cm u);omega
  simp[oM,this]
 .have:¬s.size<=32:=by omega
  simp[oM,this]
 have u:s.size≠0:=by intro e;rw[e]at u;simp at u
 obtain⟨t,d⟩:∃c,s.data.toList[0]? =some c:=⟨s.data.toList[0]'(by simpa using(by omega:0<s.size)),cq _⟩
 have g:(qL s).headD 0=t.toNat:=by
  unfold qL;cases z:s.data.toList with
  |nil=>rw[z]at d;simp at d
  |cons x l=>rw[z]at d;simp at d;simp[d]
 refine⟨aC,t,d,aD (λM=>jB j ?_) (λM=>⟨aC,t,d,aD (λO=>jB j ?_) (λO=>?_)⟩)⟩
 .have:lower t.toNat=false:=by simp only[lower,Bool.and_eq_false_iff,decide_eq_false_iff_not];omega
  simp only[oM,g,this,Bool.and_false,Bool.false_and]
 .have:lower t.toNat=false:=by simp only[lower,Bool.and_eq_false_iff,decide_eq_false_iff_not];omega
  simp only[oM,g,this,Bool.and_false,Bool.false_and]
 refine⟨⟨0,⟨aC,bx⟩,MT⟩,λi D=>aD (λQ=>?_) (λR=>jB j ?_)⟩
 .obtain⟨c,H⟩:∃c,s.data.toList[i]? =some c:=⟨s.data.toList[i]'(by simpa using(by omega:i<s.size)),cq _⟩
  have n:(qL s)[i]? =some c.toNat:=by simp[qL,H]
  have f:zA c.toNat=false->K (.val (.bool false)) m h:=λe=>jB j (by simp[oM,OC n e]);have next:zA c.toNat=true->∃(y:Nat),(y<=s.size/\(List.take y (qL s)).all zA=true)/\s.size-y<s.size-i/\SV.at (At.val (Value.string s))=SV.at (At.val (Value.string s))/\SV.at (At.val (Value.int IntKind.i64 (IntKind.i64.wrap ((i:Int)+1))))=SV.at (At.val (Value.int IntKind.i64 (y:Int)))/\m=m/\h=h/\True:=λe=>⟨i+1,⟨aC,by rw[yX n,D.2,e];rfl⟩,aC,MT⟩
  have A:zA c.toNat=true↔(97<=c.toNat/\c.toNat<=122)\/(48<=c.toNat/\c.toNat<=57)\/c.toNat=95:=by
   simp only[zA,lower,Bool.or_eq_true,cz,dc,beq_iff_eq];omega
  have E:zA c.toNat=false↔¬((97<=c.toNat/\c.toNat<=122)\/(48<=c.toNat/\c.toNat<=57)\/c.toNat=95):=by
   rw[<-A];simp
  refine⟨aC,c,cm H,?_⟩;clear j D g n E;rw[A]at next
  have f:=λe=>f (by rw[<-Bool.not_eq_true,A];exact e);clear A
  repeat' (first|(refine aB (λ_=>?_) (λ_=>?_))|exact f (by simp only[dc,decide_eq_false_iff_not,bne_iff_ne,ne_eq,beq_iff_eq,beq_eq_false_iff_ne,bne_eq_false_iff_eq,Bool.not_eq_true',Bool.not_eq_false']at*;omega)|exact next (by simp only[dc,decide_eq_false_iff_not,bne_iff_ne,ne_eq,beq_iff_eq,beq_eq_false_iff_ne,bne_eq_false_iff_eq,Bool.not_eq_true',Bool.not_eq_false']at*;omega))
 .have:=D.2;rw[cu aC]at this;have S:lower t.toNat=true:=by simp only[lower,cz,dc];omega
  have F:1<=s.size:=by omega
  have G:s.size<=32:=by omega
  simp only[oM,this,g,S,decide_eq_true F,decide_eq_true G];rfl
end Go.Ps
