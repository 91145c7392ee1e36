/- Own work. -/
import Derived.MapKept
import Derived.Maps.RangeRun
import Derived.Test.YtbpoogcannjnbaaGreatDoorProg
import Derived.IntWalk
import Derived.ChangeKeysEq
import Derived.Test.YtbpoogcannjnbaaGreatDoorAa
noncomputable section
namespace Go.Vc
open Go List
section
variable{B:vU}{C:bk}{ι:tv}{σ:St}{a:Act}{w:World}{o:Oper}{K:St->Prop}
theorem ckZ(f:aL B ι σ a w) ob:
 aL B ι {σ with m:=λb=>if b=w.heap.size then some ob else σ.m b} a (w.alloc ob)/\eT σ.m σ.h w.heap.size/\∀o,LS σ ι o w (w.alloc ob):=by
 have d:=f.g
 have l:eT σ.m σ.h w.heap.size:=by
  constructor
  .cases e:σ.m w.heap.size with
   |none=>rfl
   |some x=>have:=(Array.getElem?_eq_some_iff.1 (d.t _ _ e)).1;omega
  .intro i;cases e:σ.h w.heap.size i with
   |none=>rfl
   |some x=>have:=World.block_lt_of_cell? w ⟨w.heap.size,i,none⟩ (d.F _ _ _ e);simp at this
 have q:(w.alloc ob).heap.size=w.heap.size+1:=bz
 refine⟨⟨f.dq,f.defers,λk n g=>(f.own k n g).world (λb c=>iF w ob (uM (f.own k n g) c)),f.eh,?_,?_,f.one⟩,l,λo=>⟨?_,?_,λ_ b c=>iF w ob c,λ_ b _ c _ _=>iF w ob c⟩⟩
 .intro k n b g c;have⟨y,z,A⟩:=f.f k n b g c;have s:=uM (f.own k n g) c
  grind
 .refine⟨d.tape,d.os,d.output,d.drawn,by rw[q];exact Nat.le_succ_of_le d.size,?_,?_,?_,?_,d.iz,d.hold,?_⟩
  .intro b c t;rw[iF w ob (tg c d.size)];exact d.frame b c t
  .intro b i v r;have j:=d.F b i v r;rw[<-j];exact World.cell?_of_block (w:=w) (w':=w.alloc ob) (a:=⟨b,i,none⟩) (iF w ob (World.block_lt_of_cell? w ⟨b,i,none⟩ j))
  .intro b x c;have c:(if b=w.heap.size then some ob else σ.m b)=some x:=c;by_cases e:b=w.heap.size
   .rw[if_pos e]at c;grind[nA]
   .rw[if_neg e]at c;have j:=d.t b x c
    grind[iF,Array.getElem?_eq_some_iff]
  .intro b x c i;have c:(if b=w.heap.size then some ob else σ.m b)=some x:=c;by_cases e:b=w.heap.size
   .rw[e];exact l.h_ i
   .rw[if_neg e]at c;exact d.z b x c i
  .intro b x c;have c:(if b=w.heap.size then some ob else σ.m b)=some x:=c;by_cases e:b=w.heap.size
   .left;rw[e];exact d.size
   .rw[if_neg e]at c;exact d.gc b x c
 .intro k p T cs b g _ u;exact iF w ob (uM (f.own k _ g) (by rw[u];rfl))
 .intro b i v r;have j:=d.F b i v r;rw[<-j];exact World.cell?_of_block (w:=w) (w':=w.alloc ob) (a:=⟨b,i,none⟩) (iF w ob (World.block_lt_of_cell? w ⟨b,i,none⟩ j))
theorem Zm(l:aL B ι σ a w){b u ob}(s:σ.m b=some u):
 aL B ι {σ with m:=λc=>if c=b then some ob else σ.m c} a {w with heap:=w.heap.setIfInBounds b ob}/\∀o,CQ o.op=false->LS σ ι o w {w with heap:=w.heap.setIfInBounds b ob}:=by
 have g:=l.g;have y:b<w.heap.size:=(Array.getElem?_eq_some_iff.1 (g.t _ _ s)).1
 have f:∀c,c≠b->(w.heap.setIfInBounds b ob)[c]?=w.heap[c]? :=λc r=>by
  grind
 have z:(w.heap.setIfInBounds b ob)[b]?=some ob:=by simp[y]
 have t:∀k n,cr σ.own k=some (some n)->cj (ι k)≠some b:=by
  intro k n q E;have:=(l.f k n b q E).2.1
  grind
 have j:∀c i v,σ.h c i=some v->({w with heap:=w.heap.setIfInBounds b ob}:World).cell? ⟨c,i,none⟩=some v:=by
  intro c i v A;have r:c≠b:=λe=>by subst e;rw[g.z c _ s i]at A;cases A
  have D:=g.F c i v A
  grind[World.cell?_of_block]
 refine⟨⟨l.dq,l.defers,λk n q=>(l.own k n q).world (λc d=>f c (λe=>t k n q (e▸d))),l.eh,?_,?_,l.one⟩,λo H=>⟨?_,j,λh=>da,λ_ c _ _ I _=>f c (λe=>da)⟩⟩
 .intro k n c q d;have⟨J,L,M⟩:=l.f k n c q d
  grind
 .refine⟨g.tape,g.os,g.output,g.drawn,mp g.size,?_,j,?_,?_,g.iz,g.hold,?_⟩
  .intro c d F
   have r:c≠b:=λe=>by
    subst e;rcases g.gc c _ s with D|D
    .omega
    grind
   rw[f c r];exact g.frame c d F
  .intro c x d;have d:(if c=b then some ob else σ.m c)=some x:=d;by_cases e:c=b
   .grind
   .rw[if_neg e]at d;rw[f c e];exact g.t c x d
  .intro c x d i;have d:(if c=b then some ob else σ.m c)=some x:=d;by_cases e:c=b
   .rw[e];exact g.z b _ s i
   .rw[if_neg e]at d;exact g.z c _ d i
  .intro c x d;have d:(if c=b then some ob else σ.m c)=some x:=d;by_cases e:c=b
   .rw[e];exact g.gc b _ s
   .rw[if_neg e]at d;exact g.gc c _ d
 .intro k p T cs c q _ G;exact f c (λe=>t k _ q (by rw[G,e];rfl))
theorem Uv(g:aL B ι σ a w){t r}(i:o.op=.makeMap t r)(h:O9 o r σ K):YB B C ι o σ K a w:=by
 intro next Q b
 unfold O9 at h;split at h
 .have⟨d,e,j⟩:=ckZ g (.map #[] 0)
  have c:(execOp a.eval o).run C.P w=.ok (.value (.map (some w.heap.size))) (w.alloc (.map #[] 0)):=by
   unfold execOp;simp[i,Instr.makeMap]
  unfold Oper.wp;rw[c,Oper.upon_value];exact b ι _ _ _ (d.put o.dst (x:=.at (.val (.map (some w.heap.size)))) rfl) (h w.heap.size _ e ⟨bu,λl f=>by simp[f]⟩) (j o)
 grind
theorem aL.drew{B ι σ a w}(h:aL B ι σ a w) k(c:w.drawn<=k):aL B ι σ a {w with drawn:=k}:=by
 refine⟨h.dq,h.defers,λj o d=>(h.own j o d).world (λ_ _=>rfl),h.eh,h.f,?_,h.one⟩;have b:=h.g;exact⟨b.tape,b.os,b.output,tf b.drawn c,b.size,b.frame,b.F,b.t,b.z,b.iz,b.hold,b.gc⟩
theorem BI{α}{l:List α}{j x}(h:l[j]?=some x):l=l.take j++x::l.drop (j+1):=by
 grind[List.getElem?_eq_some_iff,drop_eq_getElem_cons,take_append_drop]
theorem ZA(p:aL B ι σ a w){t x}(y:o.op=.range t x)(h:XL C o t x σ K):YB B C ι o σ K a w:=by
 intro next Q f
 have d:=p.ev x;unfold XL at h;split at h
 .rename_i s q r;rw[r]at d;have d:a.eval x=.string s:=d;have⟨j,l,u⟩:=ckZ p (.stringIter s 0)
  have g:(execOp a.eval o).run C.P w=.ok (.value (.pointer (some ⟨w.heap.size,0,none⟩))) (w.alloc (.stringIter s 0)):=by
   unfold execOp;simp[y,d,Instr.range,run_underlying q]
  unfold Oper.wp;rw[g,Oper.upon_value];exact f ι _ _ _ (j.put o.dst (x:=.at (.val (.pointer (some ⟨w.heap.size,0,none⟩)))) rfl) (h w.heap.size _ l ⟨bu,λz m=>by simp[m]⟩) (u o)
 .rename_i H I b q r;rw[r]at d;have d:a.eval x=.map (some b):=d;obtain⟨A,⟨D,c,E,n,i,v⟩,h⟩:=h;have F:=p.g.t b _ E;have⟨j,l,u⟩:=ckZ p (.mapIter (some b) c #[] c)
  have g:(execOp a.eval o).run C.P w=.ok (.value (.pointer (some ⟨w.heap.size,0,none⟩))) (w.alloc (.mapIter (some b) c #[] c)):=by
   unfold execOp;simp[y,d,Instr.range,run_underlying q,MapKept.run_getObj_map F,Result.andThen]
  unfold Oper.wp;rw[g,Oper.upon_value];have G:b≠w.heap.size:=λe=>da
  refine f ι _ _ _ (j.put o.dst (x:=.at (.val (.pointer (some ⟨w.heap.size,0,none⟩)))) rfl) (h w.heap.size _ l ⟨λz m=>by simp[m]⟩ ⟨D,c,c, #[],c,?_,n,i,v,bu,i,Nat.le_refl _,Nat.le_refl _,?_⟩) (u o)
  .grind
  .rw[<-n];congr 1;exact filter_eq_self.2 (λ_ _=>bu)
 grind
theorem aIJ(u:aL B ι σ a w){x st}(O:o.op=.next x st)(h:aJQ o x st σ K):YB B C ι o σ K a w:=by
 intro next Q l
 have i:=u.ev x;unfold aJQ at h;split at h
 .rename_i b R;rw[R]at i;have i:a.eval x=.pointer (some ⟨b,0,none⟩):=i;obtain⟨s,q,hm,X,Y⟩:=h;have hg:=u.g.t b _ hm.y;by_cases v:q<s.size
  .have⟨G,Z⟩:=Zm (ob:=.stringIter s (q+(Utf8.decode s q).2)) u hm.y
   have d:(execOp a.eval o).run C.P w=.ok (.value (.tuple #[.bool true,.int .i64 q,.int .i32 (Utf8.decode s q).1])) {w with heap:=w.heap.setIfInBounds b (.stringIter s (q+(Utf8.decode s q).2))}:=by
    unfold execOp;simp[O,i,Instr.next,getObj,setObj,Sem.run,hg,v,goInt,Result.andThen]
   unfold Oper.wp;rw[d,Oper.upon_value];refine l ι _ _ _ (G.put o.dst (x:=.dg _) ?_) (Y v _ ⟨bu,λb' H=>by simp[H]⟩) (Z o (by rw[O];rfl));exact⟨_,rfl,rfl,rfl,rfl,trivial⟩
  .have d:(execOp a.eval o).run C.P w=.ok (.value (.tuple #[.bool false])) w:=by
    unfold execOp;simp[O,i,Instr.next,getObj,Sem.run,hg,v,Result.andThen]
   unfold Oper.wp;rw[d,Oper.upon_value];refine l ι _ _ _ (u.put o.dst (x:=.dg _) ?_) (X aC) (nX u);exact⟨_,rfl,rfl,trivial⟩
 .rename_i r R;rw[R]at i;have i:a.eval x=.pointer (some ⟨r,0,none⟩):=i;obtain⟨b,a4,left,⟨p,f,g,c,c0,a',a0,I,J,S,z,a1,E,M⟩,X,Y⟩:=h;have a2:=u.g.t b _ a';have a3:=u.g.t r _ S;rcases run_next_at (P:=C.P) w o.type r b g c0 c p f a3 a2 z a1 with⟨h0,d⟩|⟨e,he,w1,hw1,d⟩
  .have hl:left=[]:=by
    rw[<-M];have:(leftOf p c).toList=[]:=da
    unfold leftOf at this
    grind
   have d:(execOp a.eval o).run C.P w=.ok (.value (.tuple #[.bool false])) w:=by
    unfold execOp;simp[O,i,d,Result.andThen]
   unfold Oper.wp;rw[d,Oper.upon_value];refine l ι _ _ _ (u.put o.dst (x:=.dg _) ?_) (X hl) (nX u);exact⟨_,rfl,rfl,trivial⟩
  .have N:∃n,aL B ι σ a w1/\w1={w with drawn:=n}:=by
    rcases hw1 with rfl|rfl
    .grind
    .exact⟨w.drawn+1,u.drew (w.drawn+1) (Nat.le_succ _),rfl⟩
   obtain⟨n,N,T⟩:=N;have⟨G,Z⟩:=Zm (ob:=.mapIter (some b) g (c.push e.born) f) N S
   have d:(execOp a.eval o).run C.P w=.ok (.value (.tuple #[.bool true,e.key,e.val])) {w1 with heap:=w1.heap.setIfInBounds r (.mapIter (some b) g (c.push e.born) f)}:=by
    unfold execOp;simp[O,i,d,Result.andThen,ChangeMaps.setBlock]
   have U:e∈p.toList.filter λe=>!c.contains e.born:=by
    unfold leftOf at he
    grind
   have V:e∈p.toList:=(mem_filter.1 U).1;have⟨j,hj⟩:=getElem?_of_mem U;have y:=BI hj;have a5:r≠b:=λe=>da
   have t:(((p.toList.filter λe=>!c.contains e.born)).map (·.born)).Nodup:=J.sublist (filter_sublist.map _)
   have W:p.toList.filter (λx=>!(c.push e.born).contains x.born)=(p.toList.filter λe=>!c.contains e.born).take j++(p.toList.filter λe=>!c.contains e.born).drop (j+1):=by
    have h3:p.toList.filter (λx=>!(c.push e.born).contains x.born)=(p.toList.filter λe=>!c.contains e.born).filter λx=>x.born !=e.born:=by
     rw[filter_filter]
     grind
    rw[h3];generalize (p.toList.filter λe=>!c.contains e.born)=L at y t hj;have v:=(sg hj);generalize L.take j=A at y;generalize L.drop (j+1)=D at y;subst y;simp only[sn,map_cons,nodup_append,nodup_cons,mem_map,mem_cons]at t;obtain⟨_,⟨a6,_⟩,a7⟩:=t;rw[filter_append,filter_cons];simp only[bne_self_eq_false,Bool.false_eq_true,if_false];congr 1
    .refine filter_eq_self.2 λx R=>?_
     grind
    .refine filter_eq_self.2 λx R=>?_
     grind
   unfold Oper.wp;rw[d,Oper.upon_value];have F:(if b=r then some (Obj.mapIter (some b) g (c.push e.born) f)else σ.m b)=some (.map p f):=da
   refine l ι _ _ _ (G.put o.dst (x:=.dg _) ?_) (Y (((p.toList.filter λe=>!c.contains e.born).take j).map λe=>(e.key,e.val)) (e.key,e.val) (((p.toList.filter λe=>!c.contains e.born).drop (j+1)).map λe=>(e.key,e.val)) ?_ _ ⟨λb' H=>by simp[H]⟩ ⟨⟨p,f,g,c.push e.born,f,F,a0,I,J,bu,z,E,E,?_⟩,p,f,g,c,e,F,J,bu,V,rfl⟩) ?_
   .exact⟨_,rfl,rfl,rfl,rfl,trivial⟩
   .grind
   .grind
   .have:=Z o (by rw[O];rfl);subst T;exact⟨this.cells,this.ay,this.ext,this.args⟩
 grind
theorem awQ(j:aL B ι σ a w){x}(t:o.op=.entry x)(h:Yj C o x σ K):YB B C ι o σ K a w:=by
 intro next Q f
 have d:=j.ev x;unfold Yj at h;split at h
 .rename_i r u;rw[u]at d;have d:a.eval x=.pointer (some ⟨r,0,none⟩):=d;obtain⟨b,v,left,x,⟨_,y,g,i,l,e,m,n,p,z,rfl⟩,h⟩:=h;have c:=run_entry_at (P:=C.P) w r b i l y g e (j.g.t r _ p) (j.g.t b _ m) z n
  have c:(execOp a.eval o).run C.P w=.ok (.value (.tuple #[e.key,e.val])) w:=by
   unfold execOp;simp[t,d,c,Result.andThen]
  have h:K (σ.put o.dst (.dg [.inl (.val e.key),.inl (.val e.val)])):=by
   split at h
   .obtain⟨s,q,h⟩:=h;have q:e.val=Sl.val s:=q;rw[q];exact h
   .exact h
  unfold Oper.wp;rw[c,Oper.upon_value];refine f ι _ _ _ (j.put o.dst (x:=.dg _) ?_) h (nX j);exact⟨_,rfl,rfl,rfl,trivial⟩
 grind
theorem Iq{P:Program}{c:TypeId}{Ok:Value->Prop}(L:dz P c Ok){k:Value}(l:Ok k)(w:World):∀(es:List MapEntry)(i:Nat),(∀e∈es,Ok e.key)->
 ((∀e∈es,e.key≠k)/\(Instr.findAsking c k es i).run P w=.ok none w)\/∃j e,es[j]?=some e/\e.key=k/\(Instr.findAsking c k es i).run P w=.ok (some (i+j,e.val)) w
 |[],i,_=>.inl ⟨λe n=>(by cases n),by simp[Instr.findAsking]⟩
 |e::es,i,b=>by
  have⟨r,p,d⟩:=L.eq k e.key w l (b e bu);cases r with
  |true=>exact .inr ⟨0,e,rfl,(d.1 rfl).symm,by simp_all[Instr.findAsking]⟩
  |false=>
   have q:e.key≠k:=λh=>da
   rcases Iq L l w es (i+1) (λf g=>b f (by simp[g]))with⟨s,m⟩|⟨j,f,s,m,t⟩
   .simp_all[Instr.findAsking]
   .exact .inr ⟨j+1,f,da,m,by simp[Instr.findAsking,p,t];omega⟩
theorem jk{P:Program}{n:TypeId}{Ok:Value->Prop}(L:dz P n Ok){d:TypeDesc}(c:P.underlying n=some d){k:Value}(f:Ok k):∀(es:List MapEntry)(i:Nat)(r:Option (Nat×Value)),(∀e∈es,Ok e.key)->
 Instr.findNow d k es i=some r->((∀e∈es,e.key≠k)/\r=none)\/∃j e,es[j]?=some e/\e.key=k/\r=some (i+j,e.val)
 |[],i,r,_,h=>by
  grind[Instr.findNow]
 |e::es,i,r,b,h=>by
  simp only[Instr.findNow]at h;split at h
  .rename_i g;simp only[ss]at h;exact .inr ⟨0,e,rfl,((L.now d k e.key true c f (b e bu) g).1 rfl).symm,da⟩
  .rename_i g;have q:e.key≠k:=λs=>by have:=(L.now d k e.key false c f (b e bu) g).2 s.symm;cases this
   rcases jk L c f es (i+1) r (λl m=>b l (by simp[m])) h with⟨t,p⟩|⟨j,l,t,p,u⟩
   .grind
   .exact .inr ⟨j+1,l,da,p,da⟩
  .cases h
theorem hP{P b Ok}(L:dz P b Ok){k}(g:Ok k) w es(f:∀e∈es,Ok e.key):
 ((∀e∈es,e.key≠k)/\(Instr.findKey b k es).run P w=.ok none w)\/∃j e,es[j]?=some e/\e.key=k/\(Instr.findKey b k es).run P w=.ok (some (j,e.val)) w:=by
 have⟨d,h⟩:=L.gw;cases i:Instr.findNow d k es 0 with
 |some r=>
  have c:(Instr.findKey b k es).run P w=.ok r w:=by simp_all[Instr.findKey,run_underlying]
  rcases jk L h g es 0 r f i with⟨l,rfl⟩|⟨j,e,l,m,rfl⟩
  .grind
  grind
 |none=>
  have c:(Instr.findKey b k es).run P w=(Instr.findAsking b k es).run P w:=by simp_all[Instr.findKey,run_underlying]
  grind[Iq]
theorem Y2{P T z}(h:Xr P T=some z) w:(zeroValue T).run P w=.ok z w:=by
 unfold Xr at h;split at h
 .rename_i i b;split at h
  .simp_all[zeroValue,typeInfo]
  .simp_all[zeroValue,typeInfo]
  .simp_all[zeroValue,typeInfo]
  .cases h
 .cases h
theorem XZ(i:aL B ι σ a w){t x k ok}(I:o.op=.lookup t x k ok)(h:SS C o t x k ok σ K):YB B C ι o σ K a w:=by
 intro next Q c
 have d:=i.ev x;unfold SS at h;split at h
 .rename_i kt A b J M U D;rw[U]at d;have d:a.eval x=.map (some b):=d;have n:a.eval k=J:=(i.ev k).val? D;split at h
  .rename_i z V;obtain⟨q,Ok,⟨m,E,W,X⟩,L,r,N,l,s⟩:=h;have O:=i.g.t b _ W
   have v:∀e∈m.toList,∃p∈q,e.key=p.1/\e.val=only ((C.gn A).ag p.2):=by
    intro e F
    have:(e.key,e.val)∈q.map λp=>(p.1,only ((C.gn A).ag p.2)):=by
     grind
    grind
   have y:∀e∈m.toList,Ok e.key:=λe F=>by
    grind
   have g:=L.rh J w m.isEmpty r;unfold Oper.wp;rcases hP L r w m.toList y with⟨R,S⟩|⟨j,e,R,S,Y⟩
   .have f:(execOp a.eval o).run C.P w=.ok (.value (if ok then .tuple #[z,.bool false]else z)) w:=by
     unfold execOp;simp[I,d,n,Instr.lookup,run_underlying M,MapKept.run_getObj_map O,g,S,Y2 V,Result.andThen]
    rw[f,Oper.upon_value];refine c ι _ _ _ (i.put o.dst ?_) (l ?_) (nX i)
    .cases ok
     .rfl
     .exact⟨_,rfl,rfl,rfl,trivial⟩
    .intro p Z e1
     have:(p.1,only ((C.gn A).ag p.2))∈m.toList.map λe=>(e.key,e.val):=by
      grind
     grind
   .have F:e∈m.toList:=si R;have⟨p,Z,e1,G⟩:=v e F
    have f:(execOp a.eval o).run C.P w=.ok (.value (if ok then .tuple #[e.val,.bool true]else e.val)) w:=by
     unfold execOp;simp[I,d,n,Instr.lookup,run_underlying M,MapKept.run_getObj_map O,g,Y,Result.andThen]
    have T:=s p.2 da;rw[f,Oper.upon_value];split at T
    .rename_i u H;rw[H]at G;refine c ι _ _ _ (i.put o.dst ?_) T (nX i);cases ok
     .exact G
     .exact⟨_,rfl,G,rfl,trivial⟩
    grind
  grind
 grind
theorem Rg(i:aL B ι σ a w){t x k v}(I:o.op=.mapUpdate t x k v)(l:o.dst=none)(h:FK C t x k v σ K):YB B C ι o σ K a w:=by
 intro next Q f
 have d:=i.ev x;unfold FK at h;split at h
 .rename_i Y Z b m u S T z U;rw[T]at d;have d:a.eval x=.map (some b):=d;have A:a.eval k=m:=(i.ev k).val? z;have D:a.eval v=u:=(i.ev v).val? U;obtain⟨E,Ok,⟨g,c,J,F⟩,L,n,p,M,V⟩:=h;have N:=i.g.t b _ J;have q:∀e∈g.toList,(e.key,e.val)∈E:=λe O=>da
  have r:∀e∈g.toList,Ok e.key:=λe O=>p _ (q e O);have s:=L.rh m w false n;rcases hP L n w g.toList r with⟨W,R⟩|⟨j,e,W,R,h3⟩
  .have⟨G,X⟩:=Zm (ob:=.map (g.push {key:=m,val:=u,born:=c}) (c+1)) i J
   have y:(execOp a.eval o).run C.P w=.ok .skip {w with heap:=w.heap.setIfInBounds b (.map (g.push {key:=m,val:=u,born:=c}) (c+1))}:=by
    unfold execOp;simp[I,d,A,D,Instr.mapUpdate,run_underlying S,MapKept.run_getObj_map N,MapKept.run_setObj_map _ N,s,R,Result.andThen]
   unfold Oper.wp;rw[y,Oper.upon_skip,show a.put o.dst undef=a by rw[l];rfl];refine f ι _ _ _ G (V _ ⟨λb' H=>by simp[H]⟩ ⟨g.push {key:=m,val:=u,born:=c},c+1,bu,?_⟩) (X o (by rw[I];rfl));simp[F]
  grind
 grind
theorem XY(y:aL B ι σ a w){t x k v}(M:o.op=.mapUpdate t x k v)(m:o.dst=none)(h:NR C t x k v σ K):YB B C ι o σ K a w:=by
 intro next Q f
 have g:=y.ev x;unfold NR at h;split at h
 .rename_i kt et b l u hu hx O hv;rw[hx]at g;have g:a.eval x=.map (some b):=g;have z:a.eval k=l:=(y.ev k).val? O;have A:a.eval v=u:=(y.ev v).val? hv;obtain⟨R,Ok,⟨d,c,S,T,U,a0⟩,L,D,q,E,F,G⟩:=h;have N:=y.g.t b _ S;have H:∀e∈d.toList,(e.key,e.val)∈R:=λe V=>da
  have I:∀e∈d.toList,Ok e.key:=λe V=>E _ (H e V);have n:=L.rh l w false D;rcases hP L D w d.toList I with⟨W,X⟩|⟨j,e,W,X,h3⟩
  .have⟨r,Y⟩:=Zm (ob:=.map (d.push {key:=l,val:=u,born:=c}) (c+1)) y S
   have i:(execOp a.eval o).run C.P w=.ok .skip {w with heap:=w.heap.setIfInBounds b (.map (d.push {key:=l,val:=u,born:=c}) (c+1))}:=by
    unfold execOp;simp[M,g,z,A,Instr.mapUpdate,run_underlying hu,MapKept.run_getObj_map N,MapKept.run_setObj_map _ N,n,X,Result.andThen]
   unfold Oper.wp;rw[i,Oper.upon_skip,show a.put o.dst undef=a by rw[m];rfl];refine f ι _ _ _ r (F (λp hp e1=>?_) _ ⟨λb' s=>by simp[s]⟩ ⟨d.push {key:=l,val:=u,born:=c},c+1,bu,by simp[T],λe V=>?_,?_⟩) (Y o (by rw[M];rfl))
   .grind
   .grind
   grind
  .have J:=(sg W);have Z:d[j]?=some e:=da
   have⟨r,Y⟩:=Zm (ob:=.map (d.modify j λe=>{e with key:=l,val:=u}) c) y S
   have i:(execOp a.eval o).run C.P w=.ok .skip {w with heap:=w.heap.setIfInBounds b (.map (d.modify j λe=>{e with key:=l,val:=u}) c)}:=by
    unfold execOp;simp[M,g,z,A,Instr.mapUpdate,run_underlying hu,MapKept.run_getObj_map N,MapKept.run_setObj_map _ N,n,h3,Z,X,Instr.keyThatStays,q,Result.andThen]
   have a':(d.modify j λe=>{e with key:=l,val:=u}).toList=d.toList.take j++{e with key:=l,val:=u}::d.toList.drop (j+1):=by
    rw[Array.toList_modify,modify_eq_take_cons_drop J]
    grind
   have a1:=BI W;unfold Oper.wp;rw[i,Oper.upon_skip,show a.put o.dst undef=a by rw[m];rfl];refine f ι _ _ _ r (G ((d.toList.take j).map λe=>(e.key,e.val)) e.val ((d.toList.drop (j+1)).map λe=>(e.key,e.val)) ?_ _ ⟨λb' s=>by simp[s]⟩ ⟨d.modify j λe=>{e with key:=l,val:=u},c,bu,?_,?_,?_⟩) (Y o (by rw[M];rfl))
   .grind
   .grind
   .grind
   grind
 grind
end
end Go.Vc
namespace Go.Vc
open Go List
section
variable{B:vU}{C:bk}{ι:tv}{σ:St}{a:Act}{w:World}{o:Oper}{K:St->Prop}
theorem cjJ(l:aL B ι σ a w)(p:Ih o.op=true)(h:Ut C o σ K):YH C ι o σ K a w:=by
 unfold Ut at h;cases j:o.op<;>simp only[j]at h p
 case move x=>grind[SP]
 case assign x=>exact SP l (.inr j) h
 case pick c x y=>grind[aIQ]
 case build T ps=>grind[azX]
 case load T x=>grind[aJJ]
 case nilCheck x=>grind[SK]
 case binOp op tx x y ty=>
  cases op
  case eql=>
   simp only at h;split at h
   .exact Io (neg:=false) l j h
   grind[pF]
  case neq=>
   simp only at h;split at h
   .exact Io (neg:=true) l j h
   grind[pF]
  case add=>grind[Yp]
  all_goals first
   |exact pF l (λcs b=>by rw[j];intro e;cases e) h
   |exact b9J l j h
 case unOp op t x=>grind[pF]
 case convert s d x=>grind[UA]
 case fieldAddr T x f=>grind[Rj]
 case field T x f=>grind[aaQ]
 case indexAddr T x i=>grind[Ri]
 case index T x i=>grind[ZZ]
 case extract x i=>grind[Uz]
 case call c=>
  obtain⟨g,args,m⟩:=c;cases g with
  |builtin b=>
   cases b<;>simp only[Ih,Bool.false_eq_true]at p
   case len=>
    simp only at h;split at h
    .rename_i x q;exact bQQ l j rfl q h
    grind
   case min=>grind[pF]
   grind[max,pF]
  |value f=>simp[Ih]at p
  |invoke r n=>grind
 all_goals (first|exact h.elim|(simp[Ih]at p))
theorem YH.stp(d:aL B ι σ a w)(h:YH C ι o σ K a w):YB B C ι o σ K a w:=by
 intro next Q b
 obtain⟨v,x,c,e,f⟩:=h;unfold Oper.wp;rw[c w (.inr rfl),Oper.upon_value];exact b ι _ _ _ (d.put o.dst e) f (nX d)
theorem EG(f:aL B ι σ a w):∀(i:Nat)(l:uf)(e:ut)(b:uc),wH C.P σ [] i l e=some b->b=(l.map a.eval).map .val
 |i,[],e,b,h=>by grind[wH]
 |i,x::r,e,b,h=>by
  simp only[wH]at h;split at h
  .cases h
  .rename_i d c;have g:=EG f (i+1) r e.tail d c;simp only[contains_nil]at h;split at h
   .rename_i u j;simp only[ss]at h;subst h;simp only[map_cons,(f.ev x).val? j,g]
   .cases h
theorem OA:∀(l b:tm),R6 (l.map .val) b=(l++b).map .val
 |[],_=>rfl
 |v::l,b=>by simp only[map_cons,R6,OA l b,cons_append]
theorem XV{P T cs ι}:fw ι (mk P T (cs.map .val)) (iw P T cs):=by
 unfold mk iw;cases EC P T with
 |true=>exact⟨_,rfl,by simpa using(kB.fk (ι:=ι)).2 rfl⟩
 |false=>match cs with
  |[]=>exact trivial
  |[x]=>exact rfl
  |_::_::_=>exact trivial
theorem af.fat{P f S T}{vs:tm}{m h R}(H:af P f S)(J:S (vs.map .val) m h (λr m' A=>∃l,r=.val (iw P T l)/\R l m' A)):FAt P f T (vs.map .val) m h R:=by
 have D:∀{l E:tm},l.map CV.val=E.map CV.val->l=E:=fun{l E} e=>(List.map_inj_right (λx y h=>by cases h;rfl)).1 e;refine⟨H.1,λL w M F=>?_⟩;rw[<-D M]
 have p:∀(l:tm)(w:World),EM w (l.map .val) l:=λl w=>by
  induction l with
  |nil=>trivial
  |cons a l N=>exact⟨rfl,N⟩
 have s:∀(l:tm)(i:Nat)(c:CV)(u:Value)(b:Nat),(l.map CV.val)[i]?=some c->jC c u=some b->False:=λl i c u b t g=>by
  grind[jC]
 refine(H.2 _ vs m h w _ J ⟨p _ _,F.F,F.t,F.z,λi j c d u v b t _ _ _ g _=>(s _ i c u b t g).elim,λi c u b t _ g=>(s _ i c u b t g).elim⟩).mono ?_;rintro e Q⟨r,u,m',A,rfl,⟨l,rfl,O⟩,q,n,_⟩;have q:u=iw P T l:=q;subst q
 have I:∀b,m b=none->¬xL m (vs.map .val) vs b:=by
  rintro b g (z|⟨i,c,u,t,_,U⟩)
  .exact z g
  grind
 refine⟨l,m',A,rfl,O,⟨n.tape,n.os,n.output,n.drawn,n.size,λb g G=>n.frame b g (I b G),⟨n.F,n.t,n.z⟩,⟨n.iz⟩,λb g G=>n.hold b g (I b G),λb o g=>?_⟩⟩;rcases n.gc b o g with z|z
 .exact .inl z
 grind
theorem b9Z(q:aL B ι σ a w){c g T f E cs}(X:o.op=.call c)(hc:c.callee=.value g)(hg:σ.ev g=.at (.val (.func (.func f) E cs)))(a':E.toList=[])(h:cLZ C o T f cs.toList c.args.toList σ K):YB B C ι o σ K a w:=by
 intro next Q r
 unfold cLZ at h;split at h
 .rename_i a0 t;obtain⟨R,G,h⟩:=h;have H:=EG q 0 _ _ _ t;subst H;rw[OA]at G;have F:=q.g;have⟨Y,I,J,L⟩:=G.fn;have s:=G.go _ w rfl ⟨F.F,F.t,F.z⟩;have M:a.eval g=.func (.func f) E cs:=by have:=q.ev g;rw[hg]at this;exact this
  have u:E=#[]:=da
  subst u;have n: #[]++c.args.map a.eval++cs=(c.args.toList.map a.eval++cs.toList).toArray:=da
  have N:¬Y.body=none:=da
  have O:¬Y.name= "runtime.NumGoroutine" :=da
  have y:(execOp a.eval o).run C.P w=.ok (.enter f (c.args.toList.map a.eval++cs.toList).toArray) w:=by
   unfold execOp;simp only[X,resolve,hc,M,Deferred.ofValue,Sem.run_bind,Sem.run_pure,Result.andThen_ok,invoke,callFunc];rw[n];simp[program,Sem.run,I,O,N]
  unfold Oper.wp;rw[y,Oper.upon_enter];refine Calls.mono s ?_;rintro e Z⟨l,m',h',rfl,⟨x,rfl,hx⟩,d⟩;show next (a.put o.dst (iw C.P T ((C.gn T).ag x))) Z
  have S:AV ⟨w,λb=>σ.m b≠none,σ.h,[]⟩ m' h' Z:=
   ⟨d.tape,d.os,d.output,d.drawn,d.size,λb i z=>d.frame b i (Classical.byContradiction z),d.jz.F,d.jz.t,d.jz.z,d.iz.le,λb i z=>d.hold b i (Classical.byContradiction z),λb U i=>d.gc b U i⟩
  have V:=q.nk S (λb i=>by
   cases hm:σ.m b with
   |none=>grind
   |some U=>exact F.gc b U hm) (λj o' b hj i z=>z (q.f j o' b hj i).2.1)
  refine r ι _ _ _ (V.put o.dst XV) (h x m' h' hx) ⟨λk p T a1 b hk _ hι=>?_,λb off v H=>d.jz.F b off v (d.iz.le b off v H),λA=>?_,λl b _ i W _=>d.frame b i W⟩
  .have D:cj (ι k)=some b:=by rw[hι];rfl
   exact d.frame b (uM (q.own k _ hk) D) (q.f k _ b hk D).2.1
  .rw[X]at A;simp[CQ]at A
 grind
theorem ZI(t:∀g S,cg C.cq g=some S->af C.P g S)(e:aL B ι σ a w)(h:Ut C o σ K):YB B C ι o σ K a w:=by
 cases R:Ih o.op with
 |true=>exact(cjJ e R h).stp e
 |false=>
  unfold Ut at h;cases j:o.op<;>simp only[j]at h R
  case alloc T=>
   intro next Q u
   refine azJ e j h next Q (λA J D E i p F=>?_)
   have⟨U,q,s,_⟩:=BW _ _ i p
   grind
  case box T x=>
   split at h
   .intro next Q u
    have⟨τ,m,G,H⟩:=sU _ _ e h;refine Xc m j G next Q (λA J D E i p F=>?_)
    have⟨U,q,s,_⟩:=BW _ _ i p;exact u A U D E q s (F.np H)
   .exact Xc e j h
  case buildSlice T n ps=>
   intro next Q u
   refine P9 e j h next Q (λA J D E i p F=>?_)
   have⟨U,q,s,_⟩:=F8 _ _ i p;have⟨σ3,V,W,_⟩:=sU _ _ q s
   grind
  case makeFunc f x cs=>
   intro next Q u
   have⟨τ,m,G,a0⟩:=BW _ _ e h;have⟨v,x,N,O,G⟩:=pF m (λcs b=>da) G;unfold Oper.wp;rw[N w (.inr rfl),Oper.upon_value];exact u ι _ _ _ (m.put o.dst O) G (nX e)
  case store T x v=>
   cases L:o.dst with
   |none=>
    rw[L]at h;intro next Q u
    have⟨τ,m,G,H⟩:=sU _ _ e h;exact Zg m j L G next Q (λA J D E i p F=>u A J D E i p (F.np H))
   |some d=>grind
  case makeSlice T l c=>
   intro next Q u
   refine Rh e j h next Q (λA J D E i p F=>?_)
   have⟨U,q,s,_⟩:=F8 _ _ i p
   grind
  case slice T x lo hi mx=>exact Zl e j h
  case makeMap T r=>exact Uv e j h
  case lookup T x k ok=>exact XZ e j h
  case mapUpdate T x k v=>
   cases L:o.dst with
   |none=>
    rw[L]at h;have h:(match SR C.ff 400000 with|true=>NR C T x k v σ K|false=>FK C T x k v σ K):=h;split at h
    .exact XY e j L h
    .exact Rg e j L h
   |some d=>grind
  case range T x=>exact ZA e j h
  case next x b=>exact aIJ e j h
  case entry x=>exact awQ e j h
  case call c=>
   obtain⟨z,args,M⟩:=c;cases z with
   |builtin b=>
    cases b<;>simp only[Ih,Bool.true_eq_false]at R<;>simp only at h
    case append=>
     split at h
     .rename_i x y T tx O X;intro next Q u
      refine Yt e j rfl O X h next Q (λA J D E i p F=>?_)
      have⟨σ3,V,W,_⟩:=sU _ _ i p
      grind
     .exact h.elim
    case copy=>
     split at h
     .rename_i x y T tx O X;exact bgX e j rfl O X h
     .exact h.elim
    case cap=>exact(pF e (λcs b=>da) h).stp e
    all_goals exact h.elim
   |value g=>
    simp only at h;split at h
    .rename_i f fs cs Z;split at h
     .split at h
      .rename_i I;exact b9Z e j rfl Z I h
      .exact h.elim
     .split at h
      .rename_i I Y;exact bhZ t e j rfl Z I Y h
      .exact h.elim
    .exact h.elim
   |invoke r n=>exact h.elim
  all_goals (first|exact h.elim|(simp[Ih]at R))
theorem Sf(c:aL B ι σ a w){d xs}(h:σ.ev (.tmp d)=.at (.val (.tuple xs))):a.tmps[d]?=none\/∃xs,a.tmps[d]?=some (.tuple xs):=by
 have b:=c.ev (.tmp d);rw[h]at b;have b:a.eval (.tmp d)=.tuple xs:=b;simp only[Act.eval,Array.getD_eq_getD_getElem?]at b
 grind
theorem K8(c:aL B ι σ a w){d t}(h:σ.ev (.tmp d)=.at (.val (.bool t))):a.tmps[d]?=some (.bool t):=by
 have b:=c.ev (.tmp d);rw[h]at b;have b:a.eval (.tmp d)=.bool t:=b;simp only[Act.eval,Array.getD_eq_getD_getElem?]at b
 grind[undef]
theorem aL.dk(b:aL B ι σ a w){c t}(h:σ.ev c=.at (.val (.bool t))):aL B ι (dk σ c t) a w:=by
 cases c with
 |tmp d=>
  refine⟨?_,b.defers,b.own,b.eh,b.f,b.g,b.one⟩;have i:=K8 b h;have:=b.dq.set d (x:=.at (.val (.bool t))) (v:=.bool t) rfl;show dp ι (σ.sl.set d _) a.tmps.toList
  have e:a.tmps.toList.set d (.bool t)=a.tmps.toList:=by
   apply ext_getElem?
   grind
  grind
 |const v=>exact b
 |global g=>exact b
 |func f=>exact b
theorem Va{c t}(h:σ.ev c=.at (.val (.bool t))):Fz σ (dk σ c t):=by
 cases c with
 |tmp d=>
  refine⟨λ_ _ _ cs h=>⟨cs,h⟩,λ_ _ _ h=>h,?_,?_,rfl⟩
  .intro x k off b;cases x with
   |tmp e=>
    grind[Vc.dk,St.ev,Cb]
   |const v=>exact b
   |global g=>exact b
   |func f=>exact b
  .intro x k b;cases x with
   |tmp e=>
    grind[Vc.dk,St.ev,Cb]
   |const v=>exact b
   |global g=>exact b
   |func f=>exact b
 |const v=>exact Fz.refl σ
 |global g=>exact Fz.refl σ
 |func f=>exact Fz.refl σ
def GWp(C:bk)(ops:Array Oper)(o:Oper)(a:Act)(w:World)(next:Act->World->Prop)(Q:Exit->Act->World->Prop):=
 if Region.wanted o (yielded ops a.tmps)then o.wp C.P a w next Q else next (a.put o.dst undef) w
theorem UG{ops j d b t g}(c:o.guard=some (j,b))(e:cr ops.toList j=some g)(f:g.dst=some d)(h:a.tmps[d]?=some (.bool t)):
 Region.wanted o (yielded ops a.tmps)=(t==b):=by
 grind[Region.wanted,yielded,mK,td]
theorem LW{ops j d b g}(c:o.guard=some (j,b))(e:cr ops.toList j=some g)(f:g.dst=some d)(h:a.tmps[d]?=none\/∃xs,a.tmps[d]?=some (.tuple xs)):
 Region.wanted o (yielded ops a.tmps)=false:=by
 grind[Region.wanted,yielded,mK,td]
theorem FO{f ops}(e:aL B ι σ a w)(h:Tc f ops o σ K):
 ∃c,aL B ι c a w/\Fz σ c/\((Region.wanted o (yielded ops a.tmps)=true/\f o c K)\/(Region.wanted o (yielded ops a.tmps)=false/\K (c.put o.dst (.at (.val undef))))):=by
 unfold Tc at h;split at h
 .grind[Region.wanted,Fz.refl]
 .rename_i j l m;split at h
  .exact h.elim
  .rename_i g n;split at h
   .exact h.elim
   .rename_i d p;split at h
    .rename_i t b;have i:=K8 e b;have q:=UG (o:=o) (a:=a) m n p i;rcases xW h with⟨rfl,h⟩|⟨rfl,h⟩
     .refine⟨dk σ (.tmp d) true,e.dk b,Va b,?_⟩
      grind
     .refine⟨dk σ (.tmp d) false,e.dk b,Va b,?_⟩
      grind
    .grind[Fz.refl,LW,Sf]
    grind
theorem Z0(c:∀g S,cg C.cq g=some S->af C.P g S){ops}(m:aL B ι σ a w)(h:X8 C ops o σ K) next Q(b:∀i e f w',aL B i e f w'->K e->LS σ ι o w w'->next f w'):GWp C ops o a w next Q:=by
 have⟨s,d,j,n⟩:=FO m h;unfold GWp;rcases n with⟨l,h⟩|⟨l,h⟩
 .rw[if_pos l];exact ZI c d h next Q (λi e f w' p q r=>b i e f w' p q (r.np j))
 .rw[if_neg (by simp[l])];exact b ι _ _ _ (d.put o.dst (x:=.at (.val undef)) rfl) h (nX m)
theorem Sc{P next Q}(h:o.wp P a w next Q):o.wpIn Fence.wide 0 P a w next Q:=by
 refine⟨λ_ _=>trivial,?_⟩;show o.uponIn Fence.wide 0 P a next Q ((execOp a.eval o).run P w)
 unfold Oper.wp at h;cases b:(execOp a.eval o).run P w with
 |ok x g=>
  rw[b]at h;cases x with
  |value v=>exact h
  |skip=>exact h
  |defer d=>exact h
  |enter f args=>exact⟨λe=>by grind[Fence.wide],callsIn_wide.2 h⟩
  |row r args=>
   refine⟨λe=>by grind[Fence.wide],λc cs _=>?_⟩;have⟨v,i,j,l⟩:=h c cs
   grind[stepsIn_wide]
  |_=>exact h.elim
 |halt x g=>
  rw[b]at h;cases x with
  |panic v=>exact h
  |_=>exact h.elim
def cRQ(B:vU)(C:bk)(o:Oper)(K:St->Prop)(a:Act)(w:World):=
 ∀next Q,(∀e b c d,aL B e b c d->K b->next c d)->o.wpIn Fence.wide 0 C.P a w next Q
theorem Y3(r:aL B ι σ a w){c g l D cs}(N:o.op=.call c)(O:c.callee=.value g)(R:σ.ev g=.at (.val (.func (.yield l) D cs)))(T:D.toList=[])(U:cs.toList=[])(h:Xt C o (.func (.yield l) #[] #[]) c.args.toList σ K):cRQ B C o K a w:=by
 intro next Q p
 unfold Xt at h;split at h
 .exact h.elim
 .rename_i S hS;split at h
  .rename_i V s;obtain⟨W,h⟩:=h;have X:=EG r 0 _ _ _ s;subst X;have E:=r.g;have⟨Y,t,f,v,L,i⟩:=W.go l _ σ.m σ.h w _ h ⟨E.F,E.t,E.z⟩;have G:a.eval g=.func (.yield l) D cs:=by have:=r.ev g;rw[R]at this;exact this
   have y:D=#[]:=da
   have z:cs=#[]:=da
   subst y z;have F:c.args.map a.eval=(c.args.toList.map a.eval).toArray:=da
   have q:(execOp a.eval o).run C.P w=.ok (.round l Y t f v) w:=by
    unfold execOp;simp only[N,resolve,O,G,Deferred.ofValue,Sem.run_bind,Sem.run_pure,Result.andThen_ok,invoke]
    grind
   refine⟨λ_ _=>trivial,?_⟩;show o.uponIn Fence.wide 0 C.P a next Q ((execOp a.eval o).run C.P w)
   rw[q,Oper.uponIn_round];refine⟨λe=>by simp[Fence.wide]at e,i.mono ?_⟩;rintro e M⟨u,Z,h',rfl,hK,d⟩;show next (a.put o.dst u) M
   have H:AV ⟨w,λb=>σ.m b≠none,σ.h,[]⟩ Z h' M:=
    ⟨d.tape,d.os,d.output,d.drawn,d.size,λb n A=>d.frame b n (Classical.byContradiction A),d.jz.F,d.jz.t,d.jz.z,d.iz.le,λb n A=>d.hold b n (Classical.byContradiction A),λb I n=>d.gc b I n⟩
   have J:=r.nk H (λb n=>by
    cases hm:σ.m b with
    |none=>grind
    |some I=>exact E.gc b I hm) (λj o' b hj n A=>A (r.f j o' b hj n).2.1)
   exact p ι _ _ _ (J.put o.dst (x:=.at (.val u)) rfl) hK
  grind
theorem UX(b:∀g S,cg C.cq g=some S->af C.P g S)(c:aL B ι σ a w)(h:UY C o σ K):cRQ B C o K a w:=by
 have d:Ut C o σ K->cRQ B C o K a w:=λh next Q e=>Sc (ZI b c h next Q (λf i j l m n _=>e f i j l m n))
 grind[UY,Y3]
theorem Uw(c:∀g S,cg C.cq g=some S->af C.P g S){ops}(l:aL B ι σ a w)(h:Tc (UY C) ops o σ K) next Q(b:∀m i j w',aL B m i j w'->K i->next j w'):
 if Region.wanted o (yielded ops a.tmps)then o.wpIn Fence.wide 0 C.P a w next Q else(∀f,o.about C.P w a.eval=some f->Fence.wide.fn f)/\next (a.put o.dst undef) w:=by
 have⟨q,d,n,p⟩:=FO l h;rcases p with⟨e,h⟩|⟨e,h⟩
 .rw[if_pos e];exact UX c d h next Q b
 .rw[if_neg (by simp[e])];exact⟨λ_ _=>trivial,b ι _ _ _ (d.put o.dst (x:=.at (.val undef)) rfl) h⟩
theorem Lc(b:∀g S,cg C.cq g=some S->af C.P g S){ops:Array Oper}{Q:Exit->Act->World->Prop}{R:St->Prop}{jg:tw}(d:∀ι σ a w,aL B ι σ a w->R σ->wpOpsIn Fence.wide 0 C.P ops Q jg a w):
 ∀(l:List Oper)(s:Nat)(ι:tv)(σ:St)(a:Act)(w:World),(∀j,j<l.length->l[j]?=ops.toList[s+j]?)->aL B ι σ a w->UN C ops l σ R->wpOpsIn Fence.wide 0 C.P ops Q (range' s l.length++jg) a w
 |[],s,ι,σ,a,w,_,c,h=>d ι σ a w c h
 |o::l,s,ι,σ,a,w,e,c,h=>by
  have f:ops[s]?=some o:=by have:=e 0 bu;grind
  simp only[te,range'_succ,cons_append,wpOpsIn,f]
  exact Uw b c h (wpOpsIn Fence.wide 0 C.P ops Q (range' (s+1) l.length++jg)) Q (λi m n p q r=>
   Lc b d l (s+1) i m n p (λj t=>by have:=e (j+1) cv;grind) q r)
end
end Go.Vc
namespace Go.Vc
open Go List
def Yd(P:Program)(ops:Array Oper)(w:World)(o:Oper)(v:Value)(a:Act):=
 (Region.wanted o (yielded ops a.tmps)=true/\(execOp a.eval o).run P w=.ok (.value v) w)\/(Region.wanted o (yielded ops a.tmps)=false/\v=undef)
def Aft(ops:Array Oper)(ok:Oper)(i:Nat):=waits ok i=true\/∃j b,ops[j]?=some b/\waits ok j=true/\waits b i=true
def bkJ ops b:=∀(k:_)(ok:Oper)(d:Nat),ops[k]?=some ok->ok.dst=some d->d∈b.looksAt ops->waits b k=true
structure cVX(ops:Array Oper)(i:Nat)(oi:Oper):Prop where
 mv:c8Z oi.op=true
 ic:∀(k:Nat)(ok:_)(d:Nat),ops[k]?=some ok->ok.dst=some d->d∈oi.looksAt ops->Aft ops ok i
structure Ssa(ops:Array Oper):Prop where
 ic:∀i oi,ops[i]?=some oi->bkJ ops oi\/cVX ops i oi
 dst:∀(i k:Nat)(oi ok:_)(d:Nat),ops[i]?=some oi->ops[k]?=some ok->ok.dst=some d->i≠k->oi.dst≠some d
 oq:∀i oi k,ops[i]?=some oi->waits oi k=true->k<i
 sel:∀(j:Nat)(o:Oper) cs b,ops[j]?=some o->o.op≠ .select cs b
theorem Aft.in_{ops ok i}{L:Array Bool}(h:Aft ops ok i)(c:∀j,waits ok j=true->L.getD j false=true)(d:∀j b,ops[j]?=some b->L.getD j false=true->∀k,waits b k=true->L.getD k false=true):L.getD i false=true:=by
 rcases h with h|⟨j,b,e,f,g⟩
 .exact c i h
 grind
theorem Ssa.self{ops}(c:Ssa ops){k:Nat}{o}(b:ops[k]?=some o):∀d,o.dst=some d->d∉o.looksAt ops:=λd f g=>by
 rcases c.ic k o b with h|h
 .have:=c.oq k o k b (h k o d b f g);omega
 .rcases h.ic k o d b f g with e|⟨j,i,l,e,m⟩
  .have:=c.oq k o k b e;omega
  .have:=c.oq k o j b e;have:=c.oq j i k l m;omega
theorem ckJ{P o}(h:c8Z o.op=true):Dg P o=false:=by
 grind[Dg,c8Z]
theorem OI{o k}:waits o k=true↔∃e∈o.after,Region.binds .any e=true/\e.on=k:=by
 unfold waits;rw[any_eq_true];simp_all
theorem cfZ{ops}(h:dJJ ops=true)(r:Region.noSelect ops=true):Ssa ops:=by
 unfold dJJ at h;simp only[all_eq_true,mem_range]at h;have l:∀{i:Nat}{m:Oper},ops[i]?=some m->i<ops.toList.length:=λf=>da
 refine⟨?_,?_,?_,Region.noSelect_spec r⟩
 .intro i m f;have c:=h i (l f);rw[mK,td,f]at c;simp only[su,Bool.or_eq_true,all_eq_true,mem_range]at c;rcases c.2 with q|⟨s,q⟩
  .refine .inl λk ok d g n t=>?_
   grind[mK,td]
  .refine .inr ⟨s,λk ok d g n t=>?_⟩;have b:=q k (l g);rw[mK,td,g]at b;simp only[n,Bool.or_eq_true,Bool.not_eq_true',contains_eq_mem,decide_eq_false_iff_not]at b;rcases b with b|b
   .grind
   .unfold dWZ at b;simp only[Bool.or_eq_true,any_eq_true,su]at b;rcases b with b|⟨⟨u,j⟩,D,v,y⟩
    .exact .inl b
    .refine .inr ⟨j,u,?_,v,y⟩
     grind
 .intro i k m ok d f g n z;have c:=h i (l f);rw[mK,td,f]at c;simp only[su,all_eq_true,mem_range]at c;have b:=c.1.2 k (l g);rw[mK,td,g]at b;simp_all
 .intro i m k f A;have p:i<ops.toList.length:=da
  have c:=h i p;rw[mK,td,f]at c;simp only[su,all_eq_true]at c;obtain⟨e,E,F,rfl⟩:=OI.1 A;have:=c.1.1 e da;simp_all
theorem AJ{ops b j}:j∈Region.ready .any ops b↔b.getD j true=false/\∃o,ops[j]?=some o/\∀k,waits o k=true->b.getD k false=true:=by
 rw[mem_ready];constructor
 .rintro⟨c,o,d,f⟩;refine⟨c,o,d,λk i=>?_⟩;obtain⟨e,g,h,rfl⟩:=OI.1 i
  grind
 .rintro⟨c,o,d,f⟩;exact⟨c,o,d,λe g h=>f e.on (OI.2 ⟨e,g,h,rfl⟩)⟩
theorem X9{l:Array Bool}{i}(h:l.getD i true=false):l.getD i false=false/\i<l.size:=by
 grind
theorem Ux{l:Array Bool}{i}(h:i<l.size):(l.setIfInBounds i true).getD i false=true:=by
 simp_all
theorem LB{ops o}{c e:Act}(l:∀cs b,o.op≠ .select cs b)(h:∀t∈o.looksAt ops,c.tmps[t]?=e.tmps[t]?):
 execOp c.eval o=execOp e.eval o/\Region.wanted o (yielded ops c.tmps)=Region.wanted o (yielded ops e.tmps):=by
 constructor
 .refine execOp_congr o l λx m=>?_;cases x with
  |tmp t=>
   have:t∈o.looksAt ops:=mem_append_left _ (mem_filterMap.2 ⟨.tmp t,da,rfl⟩);simp_all[Act.eval,Array.getD_eq_getD_getElem?]
  |const v=>rfl
  |global g=>rfl
  |func f=>rfl
 .unfold Region.wanted;split
  .rfl
  .rename_i j i n
   have:yielded ops c.tmps j=yielded ops e.tmps j:=by
    unfold yielded;cases p:(ops[j]?).bind (·.dst)with
    |none=>rfl
    |some d=>
     grind[Oper.looksAt]
   rw[this]
theorem Rr{a:Act}{d v t}(h:d≠some t):(a.put d v).tmps[t]?=a.tmps[t]? :=by
 cases d with
 |none=>rfl
 |some e=>
  grind[Act.put,Array.getElem?_setIfInBounds_ne]
theorem c5X(a:Act) d u v:(a.put d u).put d v=a.put d v:=by
 cases d with
 |none=>rfl
 |some e=>simp[Act.put]
structure Xg(P:Program)(ops:Array Oper)(L Cl:Array Bool)(ar ac:Act)(w:World):Prop where
 szL:L.size=ops.size
 szC:Cl.size=ops.size
 sub:∀i,L.getD i false=true->Cl.getD i false=true
 rd:∀i o,ops[i]?=some o->Cl.getD i false=true->L.getD i false=false->Ih o.op=true
 clC:∀i o,ops[i]?=some o->Cl.getD i false=true->∀k,waits o k=true->Cl.getD k false=true
 clL:∀i o,ops[i]?=some o->L.getD i false=true->∀k,waits o k=true->L.getD k false=true
 tsz:ar.tmps.size=ac.tmps.size
 df:ar.defers=ac.defers
 ct:∀t,(∀i o,ops[i]?=some o->Cl.getD i false=true->L.getD i false=false->o.dst≠some t)->ar.tmps[t]?=ac.tmps[t]?
 pend:∀i o,ops[i]?=some o->Cl.getD i false=true->L.getD i false=false->∃v,(bkJ ops o->∀w'',(Dg P o=false\/w''=w)->Yd P ops w'' o v ac)/\(cVX ops i o->∀w'',Yd P ops w'' o v ar)/\ac.put o.dst v=ac
section
variable{P:Program}{ops:Array Oper}{L Cl:Array Bool}{ar ac:Act}{w:World}
theorem Yd.congr{o v a b w}(h:Yd P ops w o v a)(c:execOp b.eval o=execOp a.eval o)(d:Region.wanted o (yielded ops b.tmps)=Region.wanted o (yielded ops a.tmps)):Yd P ops w o v b:=by
 grind[Yd]
theorem Xg.looks(h:Xg P ops L Cl ar ac w){o}(b:bkJ ops o)(c:∀k,waits o k=true->L.getD k false=true):∀t∈o.looksAt ops,ar.tmps[t]?=ac.tmps[t]? :=by
 intro t d;refine h.ct t (λk ok e _ g f=>?_);have:=c k (b k ok t e f d)
 grind
theorem Xg.qj(h:Xg P ops L Cl ar ac w){i o}(b:cVX ops i o)(g:Cl.getD i false=false):∀t∈o.looksAt ops,ar.tmps[t]?=ac.tmps[t]? :=by
 intro t e;refine h.ct t (λk ok d c _ f=>?_);have:=(b.ic k ok t d f e).in_ (h.clC k ok d c) h.clC
 grind
theorem Xg.stepA(q:Ssa ops)(h:Xg P ops L Cl ar ac w){i o}(r:ops[i]?=some o)(I:Cl.getD i false=true)(s:∀k,waits o k=true->L.getD k false=true){v}(p:ac.put o.dst v=ac):
 Xg P ops (L.setIfInBounds i true) Cl (ar.put o.dst v) ac w:=by
 have y:i<L.size:=by rw[h.szL];grind
 have g:∀k,(L.setIfInBounds i true).getD k false=false->L.getD k false=false/\k≠i:=by
  intro k c;by_cases e:i=k
  .simp_all
  .rw[getD_set_ne false e]at c;grind
 refine⟨mp h.szL,h.szC,?_,λk ok c f b=>h.rd k ok c f (g k b).1,h.clC,?_,?_,?_,?_,λk ok c f b=>?_⟩
 .intro k c;by_cases e:i=k
  .grind
  .rw[getD_set_ne false e]at c;exact h.sub k c
 .intro k ok c b j z;by_cases e:i=k
  .grind
  .rw[getD_set_ne false e]at b;exact getD_set_true (h.clL k ok c b j z)
 .rw[<-h.tsz];cases o.dst<;>simp[Act.put]
 .rw[<-h.df];cases o.dst<;>rfl
 .intro t A;by_cases e:o.dst=some t
  .rw[e]at p⊢
   rw[<-p];simp only[Act.put,Array.getElem?_setIfInBounds_self,h.tsz]
  .rw[Rr e];refine h.ct t (λk ok c f b=>?_);by_cases J:i=k
   .grind
   .exact A k ok c f bz
 .have⟨u,D,E,F⟩:=h.pend k ok c f (g k b).1;refine⟨u,D,λl n=>?_,F⟩
  have m:∀d,o.dst=some d->d∉ok.looksAt ops:=λd G H=>by
   have:=(l.ic i o d r G H).in_ s h.clL
   grind
  exact(E l n).congr (execOp_put ok (q.sel k ok · · c) ar o.dst v m) (wanted_put ok ar o.dst v m)
theorem Xg.take(s:Ssa ops)(h:Xg P ops L Cl ar ac w){k o}(q:ops[k]?=some o)(D:Cl.getD k false=false)(W:∀j,waits o j=true->Cl.getD j false=true)(R:Ih o.op=true){v}(N:∀c,(Dg P o=false\/c=w)->Yd P ops c o v ac):Xg P ops L (Cl.setIfInBounds k true) ar (ac.put o.dst v) w:=by
 have E:k<Cl.size:=by rw[h.szC];grind
 have f:∀j,(Cl.setIfInBounds k true).getD j false=true->j=k\/Cl.getD j false=true:=by
  intro j O;by_cases e:k=j
  .omega
  simp_all
 have F:L.getD k false=false:=by
  cases S:L.getD k false with
  |false=>rfl
  |true=>rw[h.sub k S]at D;cases D
 have r:∀j,Cl.getD j false=true->(Cl.setIfInBounds k true).getD j false=true:=by
  grind[getD_set_true]
 have y:=s.self q;refine⟨h.szL,mp h.szC,λi g=>r i (h.sub i g),?_,?_,h.clL,?_,?_,?_,?_⟩
 .intro i l g b m;rcases f i b with rfl|b
  .grind
  .exact h.rd i l g b m
 .intro i l g b j O;rcases f i b with rfl|b
  .grind
  .exact r j (h.clC i l g b j O)
 .rw[h.tsz];cases o.dst<;>simp[Act.put]
 .rw[h.df];cases o.dst<;>rfl
 .intro t Q;have e:o.dst≠some t:=Q k o q (Ux E) F;rw[Rr e];exact h.ct t (λi l g b m=>Q i l g (r i b) m)
 .intro i l g b m;by_cases e:i=k
  .subst e;rw[q]at g;cases g;refine⟨v,λ_ c G=>(N c G).congr (execOp_put o (s.sel i o · · q) ac o.dst v y) (wanted_put o ac o.dst v y),λz c=>?_,c5X _ _ _ _⟩;have⟨T,H⟩:=LB (s.sel i o · · q) (h.qj z D);exact(N c (.inl (ckJ z.mv))).congr T H
  .have n:=(f i b).resolve_left e;have⟨u,U,I,J⟩:=h.pend i l g n m;refine⟨u,λA c G=>?_,I,?_⟩
   .have p:∀d,o.dst=some d->d∉l.looksAt ops:=λd M V=>by
     have:=h.clC i l g n k (A k o d q M V)
     grind
    exact(U A c G).congr (execOp_put l (s.sel i l · · g) ac o.dst v p) (wanted_put l ac o.dst v p)
   rw[Act.put_comm ac v u (λd M=>s.dst i k l o d g q M e),J]
theorem Y5{o g i w b e Q}(j:execOp i.eval o=execOp g.eval o)(h:o.wp P g w b Q)(l:∀v w',b (g.put o.dst v) w'->e (i.put o.dst v) w')(m:∀d w',¬b (({g with defers:=d::g.defers}:Act).put o.dst undef) w')(p:∀c a w,¬Q (.panic c) a w):o.wp P i w e Q:=by
 unfold Oper.wp at*
 rw[j];generalize (execOp g.eval o).run P w=r at*
 cases r with
 |ok n w'=>
  cases n<;>simp only[Oper.upon]at h⊢
  case value u=>grind
  case skip=>grind
  case defer d=>grind
  case enter f args=>
   grind[Calls.mono]
  grind[Rows.mono]
 |halt x w'=>
  cases x<;>simp only[Oper.upon]at h⊢
  grind
theorem Xg.stepB(F:Ssa ops)(h:Xg P ops L Cl ar ac w){j o}(D:ops[j]?=some o)(T:Cl.getD j false=false)(N:∀k,waits o k=true->L.getD k false=true) u w'(G:∀i b v,ops[i]?=some b->Cl.getD i false=true->L.getD i false=false->Yd P ops w b v ac->Yd P ops w' b v ac\/Dg P b=false):
 Xg P ops (L.setIfInBounds j true) (Cl.setIfInBounds j true) (ar.put o.dst u) (ac.put o.dst u) w':=by
 have O:j<Cl.size:=by rw[h.szC];grind
 have Q:j<L.size:=by rw[h.szL];grind
 have g:∀i,(Cl.setIfInBounds j true).getD i false=true->i=j\/Cl.getD i false=true:=by
  intro i c;by_cases e:j=i
  .omega
  simp_all
 have m:∀i,(L.setIfInBounds j true).getD i false=false->i≠j/\L.getD i false=false:=by
  intro i c;by_cases e:j=i
  .simp_all
  .rw[getD_set_ne false e]at c;grind
 have r:∀i,Cl.getD i false=true->(Cl.setIfInBounds j true).getD i false=true:=λi c=>getD_set_true c;refine⟨mp h.szL,mp h.szC,?_,?_,?_,?_,?_,?_,?_,?_⟩
 .intro i c;by_cases e:j=i
  .simp_all
  .rw[getD_set_ne false e]at c;exact r i (h.sub i c)
 .intro i b c f l;have⟨n,p⟩:=m i l;exact h.rd i b c ((g i f).resolve_left n) p
 .intro i b c f k E;rcases g i f with rfl|f
  .rw[D]at c;cases c;exact r k (h.sub k (N k E))
  .exact r k (h.clC i b c f k E)
 .intro i b c l k E;by_cases e:j=i
  .grind
  .rw[getD_set_ne false e]at l;exact getD_set_true (h.clL i b c l k E)
 .cases o.dst<;>simp[Act.put,h.tsz]
 .have:=h.df;cases o.dst<;>exact this
 .intro t R;by_cases e:o.dst=some t
  .rw[e];simp only[Act.put,Array.getElem?_setIfInBounds_self,h.tsz]
  .rw[Rr e,Rr e];refine h.ct t (λi b c f l=>R i b c (r i f) ?_);have n:j≠i:=λx=>da
   simp_all
 .intro i b c f l;have⟨n,p⟩:=m i l;have s:=(g i f).resolve_left n;have⟨v,U,H,I⟩:=h.pend i b c s p;refine⟨v,λJ y V=>?_,λz y=>?_,?_⟩
  .have q:∀d,o.dst=some d->d∉b.looksAt ops:=λd A M=>by
    have:=h.clC i b c s j (J j o d D A M)
    grind
   have S:Yd P ops y b v ac:=by
    grind
   exact S.congr (execOp_put b (F.sel i b · · c) ac o.dst u q) (wanted_put b ac o.dst u q)
  .have q:∀d,o.dst=some d->d∉b.looksAt ops:=λd A M=>by
    have:=(z.ic j o d D A M).in_ N h.clL
    grind
   exact(H z y).congr (execOp_put b (F.sel i b · · c) ar o.dst u q) (wanted_put b ar o.dst u q)
  .rw[Act.put_comm ac u v (λd A=>F.dst i j b o d c D A n),I]
end
section
variable{B:vU}{C:bk}{ι:tv}{σ:St}{a:Act}{w:World}
theorem Zj{P b σ c d K}(h:Qt P b σ c d K):Qt P b σ c d True/\K:=by
 unfold Qt at h⊢
 repeat' split at h
 all_goals first|exact h.elim|skip
 all_goals simp_all
theorem Sj{P:Program}{e:Bool}{ops:Array Oper}{b:Array Bool}{σ:St}{c:Oper}:∀(l:List Oper)(s:Nat){K:Prop},OL P e ops b σ c s l K->
 K/\∀(i:Nat)(d:Oper),l[i]?=some d->b.getD (s+i) false=true->Ih d.op=true->waits c (s+i)=false->CF ops σ d=false->Qt P e σ c d True
 |[],s,K,h=>⟨h,λi d f=>by simp at f⟩
 |o::l,s,K,h=>by
  have key:(OL P e ops b σ c (s+1) l K)/\(b.getD s false=true->Ih o.op=true->waits c s=false->CF ops σ o=false->Qt P e σ c o True):=by
   grind[OL,Zj]
  have⟨g,j⟩:=Sj l (s+1) key.1
  grind
theorem Zi{σ b c τ K}(h:Mb σ b c τ K):Mb σ b c τ True/\K:=by
 unfold Mb at h⊢
 repeat' split at h
 all_goals simp_all
theorem Qs{ops:Array Oper}{b:Array Bool}{σ:St}{c:Oper}{τ:St}:∀(l:List Oper)(s:Nat){K:Prop},Jf ops b σ c τ s l K->
 K/\∀(i:Nat)(d:Oper),l[i]?=some d->b.getD (s+i) false=true->Ih d.op=true->waits c (s+i)=false->CF ops σ d=false->Mb σ c d τ True
 |[],s,K,h=>⟨h,λi d e=>by simp at e⟩
 |o::l,s,K,h=>by
  have key:(Jf ops b σ c τ (s+1) l K)/\(b.getD s false=true->Ih o.op=true->waits c s=false->CF ops σ o=false->Mb σ c o τ True):=by
   grind[Jf,Zi]
  have⟨f,g⟩:=Qs l (s+1) key.1
  grind
theorem X3{ops b}(c:aL B ι σ a w)(h:CF ops σ b=true):Region.wanted b (yielded ops a.tmps)=false:=by
 unfold CF at h;split at h
 .cases h
 grind[UG,K8,LW,Sf]
theorem EH(m:aL B ι σ a w){k:Nat}{p:fi}(c:cr σ.own k=some (some p)){b:Nat}(n:cj (ι k)=some b):∀{l:uf},KE σ k l=true->∀x∈l,∀j,(σ.ev x=.at (.au j)\/∃off,σ.ev x=.at (.ptr j off))->cj (ι j)≠some b
 |[],_,x,d=>by cases d
 |y::r,h,x,d=>by
  simp only[KE,su]at h;rcases mem_cons.1 d with rfl|d
  .intro j e g;have f:=h.1;rcases e with e|⟨off,e⟩
   all_goals
    simp only[e]at f;split at f
    .rename_i q i;have:=m.eh j k _ _ b i c g n;subst this;simp at f
    .cases f
  .exact EH m c n h.2 x d
theorem c6X{ops fl oj O v w'}(z:aL B ι σ a w)(Q:LS σ ι oj w w')(f:Qt C.P fl σ oj O True)(a':fl=true->∃τ:St,AV B τ.m τ.h w'/\Mb σ oj O τ True)(hy:Yd C.P ops w O v a):Yd C.P ops w' O v a\/Dg C.P O=false:=by
 unfold Qt at f;split at f
 .grind
 .left;rcases hy with⟨hw,a9⟩|hy
  .left;refine⟨hw,?_⟩;split at f
   .rename_i T x a0;split at f
    .grind
    .rename_i hT;have t:=z.ev x
     have R:∀(b off:Nat)(cs:tm),a.eval x=.pointer (some ⟨b,off,none⟩)->cs.length=C.P.cellsOf T->(∀j u,cs[j]?=some u->w.cell? ⟨b,off+j,none⟩=some u)->(∀j u,cs[j]?=some u->w'.cell? ⟨b,off+j,none⟩=some u)->
      (execOp a.eval O).run C.P w'=.ok (.value v) w':=by
      intro b off cs J M hc a1;have X:=CL hT M hc;have h2:=CL hT M a1
      grind[execOp,mkV,Instr.loadAt,Instr.sureAddr,Sem.run_bind,Sem.run_pure,Result.andThen_ok]
     split at f
     .rename_i k off J;rw[J]at t;split at f
      .rename_i p T' cs q;split at f
       .rename_i ht Y;have Y:=Nat.le_of_ble_eq_true Y;have⟨b,vs,hι,hh,a2⟩:=AM z q;obtain⟨b',S,a3⟩:=t;rw[hι]at S;simp only[Value.pointer.injEq,ss,Addr.mk.injEq]at S;obtain⟨rfl,-,-⟩:=S;have a4:=Q.cells k p T' cs b q ht hι;rw[hh]at a4;have b2:cs.length=vs.toList.length:=a2.length;refine R b off ((vs.toList.drop off).take (C.P.cellsOf T)) a3 da (λj u G=>?_) (λj u G=>?_)
        .grind[dj]
        grind[dj]
       grind
      grind
     .rename_i b off d J hd;rw[J]at t;have t:a.eval x=.pointer (some ⟨b,off,none⟩):=t;split at f
      .rename_i cs a5;split at f
       .rename_i l M;split at f
        .rename_i A;split at f
         .rename_i U;have hc:=GM z.g f.1;refine R b off l t (sw A) hc (λj u G=>?_);have X:=hc j u G;cases N:CQ oj.op with
          |false=>
           rw[N,Bool.false_or]at U
           grind[Mb,GM]
          |true=>
          have U:=N;rw[<-X];exact World.cell?_of_block (w:=w) (w':=w') (a:=⟨b,off+j,none⟩) (Q.ext U b (World.block_lt_of_cell? w ⟨b,off+j,none⟩ X))
         .refine R b off l t (sw A) (λj u G=>z.g.F _ _ _ (f.1.rd j u G)) (λj u G=>Q.ay _ _ _ (f.1.rd j u G))
        grind
       grind
      grind
     .rename_i k i sz off d J hd;rw[J]at t;split at f
      .rename_i E' s H cs q a5;split at f
       .rename_i l M hs r;have hs:=sw hs;subst hs;split at f
        .rename_i A;have⟨e,he,a6⟩:=f.1;have⟨D,Z⟩:=wW z q;obtain⟨b,n,c,hι,hp⟩:=t
         have y:∀b,cj (ι k)=some b->w'.heap[b]?=w.heap[b]? :=by
          intro b I;have F:=uM (z.own k _ q) I;unfold Yu at r;rw[Bool.or_eq_true]at r;rcases r with r|r
          .exact Q.ext r b F
          .split at r
           .rename_i l M;refine Q.args l b M F (z.f k _ b q I).2.1 ?_
            grind[EH]
           .cases r
         have V:w'.ownsRow 0 E' s (ι k) H.length H.flatten:=((z.own k _ q).world (λb I=>y b I)).2
         have rd:∀W:World,W.ownsRow 0 E' s (ι k) H.length H.flatten->∀j u,l[j]?=some u->W.cell? ⟨b,i*s+off+j,none⟩=some u:=by
          intro W X j u G;rw[<-a6]at G;have a7:=UL G;have hf:=oR D.len he _ _ a7;have:=X.cells (g:=b) (by rw[hι];rfl) _ _ hf
          grind[Addr.ei]
         grind[sw]
        grind
       grind
      grind
     grind
   .rename_i ko b3 x a0;have t:=z.ev x;split at f
    .rename_i k d J hd;rw[J]at t;have t:a.eval x=ι k:=t;split at f
     .rename_i E' sz H s q hs;split at f
      .rename_i E b0 b1;split at f
       .rename_i hE;split at f
        .rename_i r;have a8:=f.1;have⟨D,Z⟩:=wW z q;have b4:H=dE s.data.toList:=a8
         have y:∀b,cj (ι k)=some b->w'.heap[b]?=w.heap[b]? :=by
          intro b I;have F:=uM (z.own k _ q) I;unfold Yu at r;rw[Bool.or_eq_true]at r;rcases r with r|r
          .exact Q.ext r b F
          .split at r
           .rename_i l M;refine Q.args l b M F (z.f k _ b q I).2.1 ?_
            grind[EH]
           .cases r
         have V:w'.ownsRow 0 E' sz (ι k) H.length H.flatten:=((z.own k _ q).world (λb I=>y b I)).2
         have go:∀W:World,W.ownsRow 0 E' sz (ι k) H.length H.flatten->(execOp a.eval O).run C.P W=.ok (.value (.string ⟨s.data.toList.toArray⟩)) W:=by
          grind[H4]
         grind
        grind
       grind
      grind
     grind
    grind
   grind
  .exact .inr hy
theorem Xe{g:Nat->Prop}:∀{l:tw},cQQ g l->∀j∈l,g j
 |[],_,j,b=>by cases b
 |[i],h,j,b=>by simp at b;subst b;exact h
 |i::k::r,h,j,b=>by
  rcases mem_cons.1 b with rfl|b
  .exact h.1
  .exact Xe h.2 j b
theorem HP{ops:Array Oper}:∀{l:tw}{i:Nat}{o:Oper},Kh ops l=some (i,o)->i∈l/\ops[i]?=some o/\Ih o.op=true
 |[],i,o,h=>by simp[Kh]at h
 |k::r,i,o,h=>by
  simp only[Kh]at h;split at h
  .rename_i ok b;split at h
   .rename_i e;simp only[ss,Prod.mk.injEq]at h;obtain⟨rfl,rfl⟩:=h;rw[mK,td]at b
    grind
   .have⟨c,d⟩:=HP h
    grind
  .have⟨c,d⟩:=HP h
   grind
def zS(ops:Array Oper)(L:Array Bool):=((List.range ops.size).filter λi=>!L.getD i false).length
theorem L0{ops L i}(d:L.size=ops.size)(g:i<ops.size)(h:L.getD i false=false):zS ops (L.setIfInBounds i true)+1=zS ops L:=by
 unfold zS
 have key:∀(l:tw),l.Nodup->(l.filter λj=>!(L.setIfInBounds i true).getD j false).length+(if i∈l then 1 else 0)=(l.filter λj=>!L.getD j false).length:=by
  intro l
  induction l with
  |nil=>intro _;simp
  |cons j r f=>
   intro c;have b:=nodup_cons.1 c;have:=f b.2;by_cases e:i=j
   .simp_all
   .have m:(L.setIfInBounds i true).getD j false=L.getD j false:=getD_set_ne false e
    grind
 grind
theorem Qa{ops L}(c:Ssa ops)(f:L.size=ops.size)(h:Region.ready .any ops L=[]):∀i,i<ops.size->L.getD i false=true:=by
 intro i
 induction i using Nat.strongRecOn with
 |_ i g=>
  intro d;cases j:L.getD i false with
  |true=>rfl
  |false=>
   exfalso;have b:ops[i]?=some ops[i]:=Array.getElem?_eq_getElem d
   have:i∈Region.ready .any ops L:=by
    rw[AJ];refine⟨?_,_,b,λk e=>g k (c.oq i _ k b e) (Nat.lt_trans (c.oq i _ k b e) d)⟩
    grind
   grind
theorem Gl{ops L}(h:∀i,i<ops.size->L.getD i false=true):Region.ready .any ops L=[]:=by
 cases b:Region.ready .any ops L with
 |nil=>rfl
 |cons i r=>
  exfalso;have:i∈Region.ready .any ops L:=da
  have⟨c,o,d,_⟩:=AJ.1 this
  grind
theorem Xg.pj{P ops L Cl ar ac}(h:Xg P ops L Cl ar ac w)(b:∀i,i<ops.size->L.getD i false=true):ar=ac:=by
 have c:ar.tmps=ac.tmps:=by
  apply Array.ext_getElem?;intro t;refine h.ct t (λi o d _ e=>?_)
  grind
 have f:=h.df;cases ar;cases ac
 grind
theorem ccQ{ops R n Cl}(h:FV C ops n Cl σ R)(b:Region.ready .any ops Cl=[]):R σ:=by
 cases n<;>simp only[FV,b]at h<;>exact h
theorem aAZ{ops b σ d τ K}(h:Oz C ops b σ d τ K):
 (bjJ C=true->∀i c,ops.toList[i]?=some c->b.getD (0+i) false=true->Ih c.op=true->waits d (0+i)=false->CF ops σ c=false->Mb σ d c τ True)/\K:=by
 grind[Oz,Qs]
theorem Xd(E:∀g S,cg C.cq g=some S->af C.P g S){ops}(F:Ssa ops){Q R}(hQ:∀ι σ a w,aL B ι σ a w->R σ->Q .normal a w)(a9:∀c a w,¬Q (.panic c) a w):
 ∀n b Cl ι σ ac w,aL B ι σ ac w->FV C ops n Cl σ R->∀L ar,Xg C.P ops L Cl ar ac w->zS ops L=b->
  wpAny C.P .any ops Q b L ar w:=by
 have du:∀(n:Nat)(Cl:Array Bool)(ι:tv)(σ:St)(ac:Act)(w:World),aL B ι σ ac w->FV C ops n Cl σ R->∀(L:Array Bool)(ar:Act),Xg C.P ops L Cl ar ac w->Region.ready .any ops L=[]->Q .normal ar w:=by
  intro n Cl ι σ ac w m h L ar f hr;have p:=Qa F f.szL hr;rw[f.pj p];exact hQ ι σ ac w m (ccQ h (Gl (λi s=>f.sub i (p i s))))
 have zero:∀(n:Nat)(Cl:Array Bool)(ι:tv)(σ:St)(ac:Act)(w:World),aL B ι σ ac w->FV C ops n Cl σ R->∀(L:Array Bool)(ar:Act),Xg C.P ops L Cl ar ac w->zS ops L=0->wpAny C.P .any ops Q 0 L ar w:=by
  intro n Cl ι σ ac w m h L ar f O
  have p:∀i,i<ops.size->L.getD i false=true:=by
   intro i s;unfold zS at O;have b8:=eq_nil_of_length_eq_zero O;cases hL:L.getD i false with
   |true=>rfl
   |false=>
    have:i∈(List.range ops.size).filter λi=>!L.getD i false:=mem_filter.2 ⟨mem_range.2 s,by simp[hL]⟩
    grind
  have hr:=Gl p;exact⟨hr,du n Cl ι σ ac w m h L ar f hr⟩
 have b':∀(n b:Nat),(∀(Cl:Array Bool)(ι:tv)(σ:St)(ac:Act)(w:World),aL B ι σ ac w->FV C ops n Cl σ R->∀(L:Array Bool)(ar:Act),Xg C.P ops L Cl ar ac w->zS ops L=b->wpAny C.P .any ops Q b L ar w)->
  ∀(Cl:Array Bool)(ι:tv)(σ:St)(ac:Act)(w:World),aL B ι σ ac w->FV C ops n Cl σ R->∀(L:Array Bool)(ar:Act),Xg C.P ops L Cl ar ac w->zS ops L=b+1->
   ∀i∈Region.ready .any ops L,Cl.getD i false=true->wpOp C.P ops Q i (wpAny C.P .any ops Q b (L.setIfInBounds i true)) ar w:=by
  intro n b ih Cl ι σ ac w m h L ar f O i s hC;have⟨G,o,q,J⟩:=AJ.1 s;have⟨hL,b0⟩:=X9 G;have⟨v,hv,c',b1⟩:=f.pend i o q hC hL
  have hy:Yd C.P ops w o v ar:=by
   rcases F.ic i o q with H|c0
   .have⟨he,T⟩:=LB (F.sel i o · · q) (f.looks H J);exact(hv H w (.inr rfl)).congr he T
   grind
  have U:wpAny C.P .any ops Q b (L.setIfInBounds i true) (ar.put o.dst v) w:=
   ih Cl ι σ ac w m h _ _ (f.stepA F q hC J b1) (by have:=L0 f.szL da hL;omega)
  unfold wpOp;simp only[q];rcases hy with⟨l,t⟩|⟨l,rfl⟩
  .rw[if_pos l];left;unfold Oper.wp;rw[t,Oper.upon_value];exact U
  grind
 intro n
 induction n with
 |zero=>
  intro b
  induction b with
  |zero=>exact zero 0
  |succ b b2=>
   intro Cl ι σ ac w m h L ar f O;refine⟨du 0 Cl ι σ ac w m h L ar f,λi s=>?_⟩;cases hC:Cl.getD i false with
   |true=>grind
   |false=>
    exfalso;have⟨G,o,q,J⟩:=AJ.1 s
    have a0:i∈Region.ready .any ops Cl:=by
     rw[AJ];refine⟨?_,o,q,λk hk=>f.sub k (J k hk)⟩;have:i<Cl.size:=by rw[f.szC];grind
     grind
    simp only[FV]at h
    grind
 |succ n V=>
  intro b
  induction b with
  |zero=>grind
  |succ b b2=>
   intro Cl ι σ ac w m h L ar f O;refine⟨du (n+1) Cl ι σ ac w m h L ar f,λi s=>?_⟩;cases hC:Cl.getD i false with
   |true=>grind
   |false=>
    have⟨G,o,q,J⟩:=AJ.1 s;have⟨b3,b0⟩:=X9 G
    have a0:i∈Region.ready .any ops Cl:=by
     rw[AJ];refine⟨?_,o,q,λk hk=>f.sub k (J k hk)⟩;have:i<Cl.size:=by rw[f.szC];grind
     grind
    simp only[FV]at h;split at h
    .grind
    .split at h
     ·
      rename_i k ok b4;have⟨b5,W,y⟩:=HP b4;have⟨a1,c1,M,a2⟩:=AJ.1 b5;rw[W]at M;cases M;have⟨a3,b9⟩:=X9 a1;have⟨σ1,X,c2,hc⟩:=FO m h;rcases hc with⟨l,h⟩|⟨l,h⟩
      .have⟨v,x,t,hx,hK⟩:=cjJ X y h;have z:=f.take F W a3 a2 y (v:=v) (λa4 a5=>.inl ⟨l,t a4 a5⟩);exact(V (b+1) _ ι _ _ w (X.put ok.dst hx) hK L ar z O).2 i s
      .have z:=f.take F W a3 a2 y (v:=undef) (λa4 _=>.inr ⟨l,rfl⟩);exact(V (b+1) _ ι _ _ w (X.put ok.dst (x:=.at (.val undef)) rfl) h L ar z O).2 i s
     ·
      have hg:=Xe h i a0;split at hg
      .rename_i o' a6;rw[mK,td,q]at a6;cases a6;have⟨hg,Y⟩:=Sj _ 0 hg;have⟨he,T⟩:=LB (F.sel i o · · q) ((F.ic i o q).elim (f.looks · J) (f.qj · hC));have Z:=Z0 E m hg (λa' A=>∃N r,aL B N r a' A/\Oz C ops Cl σ o r (FV C ops n (Cl.setIfInBounds i true) r R)/\LS σ ι o w A) Q (λN r a' A h1 h2 h3=>⟨N,r,h1,h2,h3⟩)
       have hB:∀(u:Value)(A:World),(∃N r,aL B N r (ac.put o.dst u) A/\Oz C ops Cl σ o r (FV C ops n (Cl.setIfInBounds i true) r R)/\LS σ ι o w A)->
        wpAny C.P .any ops Q b (L.setIfInBounds i true) (ar.put o.dst u) A:=by
        rintro u A⟨N,r,I,h',b6⟩;have⟨b7,h'⟩:=aAZ h';refine V b _ N r _ A I h' _ _ (f.stepB F q hC J u A ?_) (by have:=L0 f.szL da b3;omega);intro j oj v hj a7 a8 hy;cases D:CF ops σ oj with
        |true=>
         have:=X3 m D;rcases hy with⟨h1,_⟩|h1
         .grind
         .exact .inl (.inr h1)
        |false=>
         have c3:waits o j=false:=by
          grind
         have H:=Y j oj da da (f.rd j oj hj a7 a8) da D;exact c6X m b6 H (λe=>⟨r,I.g,b7 e j oj da da (f.rd j oj hj a7 a8) da D⟩) hy
       unfold GWp at Z;unfold wpOp;simp only[q];rw[T];split
       .rename_i l;rw[if_pos l]at Z;left;refine Y5 he Z hB ?_ a9;rintro d A⟨N,r,I,_⟩;have:=I.defers;rw[<-m.defers]at this;cases hd:o.dst<;>simp[Act.put,hd]at this
       grind
      grind
end
end Go.Vc
namespace Go.Vc
open Go List
section
variable{B:vU}{C:bk}{ι:tv}{σ:St}{a:Act}{w:World}
theorem CE:∀{xs e:uj}{vs:tm}{K:Prop},FJ xs e K->dp ι xs vs->dp ι e vs/\K
 |[],[],vs,K,h,b=>⟨b,h⟩
 |x::xs,y::e,[],K,_,b=>b.elim
 |x::xs,y::e,v::vs,K,h,b=>by
  unfold FJ at h;split at h
  .grind
  .rename_i i f g c d;simp only[List.cons.injEq]at c d;obtain⟨rfl,rfl⟩:=c;obtain⟨rfl,rfl⟩:=d;have:=CE h b.2;exact⟨⟨trivial,this.1⟩,this.2⟩
  .rename_i i f j g _ c d;simp only[List.cons.injEq]at c d;obtain⟨rfl,rfl⟩:=c;obtain⟨rfl,rfl⟩:=d;obtain⟨rfl,h⟩:=h;have:=CE h b.2;exact⟨⟨b.1,this.1⟩,this.2⟩
  grind
 |[],_::_,_,K,h,_=>by simp[FJ]at h
 |_::_,[],_,K,h,_=>by simp[FJ]at h
theorem By:∀{xs c:ui}{K:Prop},Bz xs c K->(∀k o,cr c k=some (some o)->cr xs k=some (some o))/\K
 |[],[],K,h=>⟨λk o b=>by omega,h⟩
 |x::xs,none::c,K,h=>by
  simp only[Bz]at h;have⟨d,e⟩:=By h;refine⟨λk o b=>?_,e⟩;cases k with
  |zero=>simp[cr]at b
  |succ k=>exact d k o b
 |x::xs,some y::c,K,h=>by
  simp only[Bz]at h;obtain⟨rfl,h⟩:=h;have⟨d,e⟩:=By h;refine⟨λk o b=>?_,e⟩;cases k with
  |zero=>exact b
  |succ k=>exact d k o b
 |[],_::_,K,h=>by simp[Bz]at h
 |_::_,[],K,h=>by simp[Bz]at h
theorem aL.setSlot(b:aL B ι σ a w){i x v}(c:a.tmps[i]?=some v)(hx:fw ι x v):aL B ι (σ.put (some i) x) a w:=by
 refine⟨?_,b.defers,b.own,b.eh,b.f,b.g,b.one⟩;have:=b.dq.set i hx;show dp ι (σ.sl.set i x) a.tmps.toList
 have e:a.tmps.toList.set i v=a.tmps.toList:=by
  apply ext_getElem?
  grind
 grind
theorem aL.nr(c:aL B ι σ a w) k E sz:aL B (dv ι k (.slice none 0 0)) ((σ.fo k).bl k (some (.au E sz []))) a w:=by
 refine c.fx k _ _ (Gz.refl _ _) ⟨Lf sz,World.ownsRow_nil w 0 E sz⟩ rfl (λb d=>by simp[cj]at d)
theorem yW(τ:St):∀(c:uj)(i:Nat)(ι:tv)(σ:St),aL B ι σ a w->∃g,aL B g (Yo τ c i σ) a w
 |[],i,ι,σ,b=>⟨ι,b⟩
 |y::c,i,ι,σ,b=>by
  simp only[Yo];split
  .rename_i k;split
   .rename_i f;split
    .rename_i E h j l m
     have d:a.tmps[i]?=some (.slice none 0 0):=by
      rw[mK]at f;have⟨v,d,e⟩:=b.dq.get i _ f;rw[td]at d;have e:v=.slice none 0 0:=e;rw[d,e]
     exact yW τ c (i+1) _ _ ((b.nr k E h).setSlot d (x:=.at (.au k)) (by show _=_;simp))
    .exact yW τ c (i+1) ι σ b
   .exact yW τ c (i+1) ι σ b
  .exact yW τ c (i+1) ι σ b
theorem sB(τ:St)(q:Nat):∀(f:ue)(j:Nat)(ι:tv)(σ:St),aL B ι σ a w->∃A,aL B A (KA τ q f j σ) a w
 |[],j,ι,σ,d=>⟨ι,d⟩
 |y::f,j,ι,σ,d=>by
  simp only[KA];split
  .rename_i k;split
   .rename_i p T cs s;split
    .rename_i t;split
     .rename_i E l M N O;have g:q≠k:=λe=>da
      have m:=d.nr k E l
      have c:cr ((σ.fo k).bl k (some (.au E l []))).own q=some (some (.de p T (cs.map (At.sub k (λ_=>.di))))):=by
       simp only[R0,St.bl,St.sub,Cb,Dp,g,false_and,if_false,s];rfl
      have⟨b,i,u,D,F⟩:=AM m c
      have G:i.toList[j]?=some (.slice none 0 0):=by
       have⟨Q,H,n,I,r⟩:=AM d s;rw[mK]at t;have⟨v,R,h⟩:=r.get j _ t;have h:v=.slice none 0 0:=h;rw[tW _ _ g,n]at u
       grind
      have z:i.toList.set j (.slice none 0 0)=i.toList:=by
       apply ext_getElem?
       grind
      have J:aL B (dv ι k (.slice none 0 0)) (Lb ((σ.fo k).bl k (some (.au E l []))) q j (.au k)) a w:=by
       unfold Lb;rw[c];refine m.kr c (Gz.refl _ _) ⟨b,i,u,D,?_,λS e=>by subst e;have:=bqZ m c;grind⟩;have:=F.set j (x:=.au k) (v:=.slice none 0 0) (by show _=_;simp)
       grind
      exact sB τ q f (j+1) _ _ J
     .exact sB τ q f (j+1) ι σ d
    .exact sB τ q f (j+1) ι σ d
   .exact sB τ q f (j+1) ι σ d
  .exact sB τ q f (j+1) ι σ d
theorem CH(τ:St):∀(b:ui)(q:Nat)(ι:tv)(σ:St),aL B ι σ a w->∃d,aL B d (R3 τ b q σ) a w
 |[],q,ι,σ,c=>⟨ι,c⟩
 |y::b,q,ι,σ,c=>by
  simp only[R3];split
  .rename_i T cs;have⟨d,e⟩:=sB τ q cs 0 ι σ c;exact CH τ b (q+1) d _ e
  .exact CH τ b (q+1) ι σ c
theorem oP{τ K}(s:aL B ι σ a w)(h:Bx σ τ K):∃t,aL B t τ a w/\K:=by
 have⟨u,f⟩:=yW τ τ.sl 0 ι σ s;have⟨m,c⟩:=CH τ τ.own 0 u _ f;have c:aL B m (conv σ τ) a w:=c;unfold Bx at h;have⟨g,h⟩:=CE h c.dq;have⟨d,n,p,v⟩:=By h;refine⟨m,⟨g,c.defers,λk o e=>c.own k o (d k o e),λk q o r b e i j l=>c.eh k q o r b (d k o e) (d q r i) j l,?_,?_,c.one⟩,v⟩
 .intro k o b e j;rw[<-n,<-p];exact c.f k o b (d k o e) j
 .rw[<-n,<-p];exact c.g
theorem aL.froze(j:aL B ι σ a w){m2 g}(f:wA σ.m σ.h m2 g):aL B ι {σ with m:=m2,h:=g} a w:=by
 have c:=j.g;refine⟨j.dq,j.defers,j.own,j.eh,λk o b s t=>?_,?_,j.one⟩
 .have⟨u,r,F⟩:=j.f k o b s t;refine⟨u,?_,λi=>?_⟩
  .show m2 b=none;cases l:m2 b with
   |none=>rfl
   |some o=>rw[f.sub b o l]at r;cases r
  .show g b i=none;cases l:g b i with
   |none=>rfl
   |some v=>
    rcases f.new b i v l with d|⟨cs,E,n,d,_,_⟩
    .grind
    grind
 .refine⟨c.tape,c.os,c.output,c.drawn,c.size,c.frame,λb o v e=>?_,λb o e=>c.t b o (f.sub b o e),λb o e i=>?_,λb o v e=>f.le.le b o v (c.iz b o v e),λb y p=>?_,λb o e=>c.gc b o (f.sub b o e)⟩
  .rcases f.new b o v e with d|⟨cs,E,n,d,q,_⟩
   .exact c.F b o v d
   .rw[dj (c.t b _ d),td];exact q
  .show g b i=none;have e:m2 b=some o:=e;cases l:g b i with
   |none=>rfl
   |some v=>
    rcases f.new b i v l with d|⟨cs,E,n,d,q,z⟩
    .rw[c.z b o (f.sub b o e) i]at d;cases d
    grind
  .funext i;have e:=congrFun (c.hold b y p) i;show g b i=B.h0 b i;cases l:B.h0 b i with
   |some v=>exact f.le.le b i v (c.iz b i v l)
   |none=>
    cases A:g b i with
    |none=>rfl
    |some v=>
     rcases f.new b i v A with d|⟨cs,E,n,d,q,z⟩
     .grind
     .rcases c.gc b _ d with D|D
      .omega
      grind
theorem NQ{τ K}(r:aL B ι σ a w)(h:XX σ τ K):∃s,aL B s τ a w/\K:=by
 have⟨t,g⟩:=yW τ τ.sl 0 ι σ r;have⟨n,c⟩:=CH τ τ.own 0 t _ g;have c:aL B n (conv σ τ) a w:=c;unfold XX at h;have⟨i,h⟩:=CE h c.dq;have⟨d,u,v⟩:=By h;have e:=c.froze u;exact⟨n,⟨i,c.defers,λk o f=>c.own k o (d k o f),λk p o q b f j l m=>c.eh k p o q b (d k o f) (d p q j) l m,λk o b f l=>e.f k o b (d k o f) l,e.g,c.one⟩,v⟩
theorem CM{c R}(b:aL B ι σ a w)(h:Mm c R σ):∃x f,R x/\aL B f (c.st x) a w:=by
 unfold Mm at h;split at h
 .obtain⟨x,g,d⟩:=h;have⟨i,e,_⟩:=oP b d
  grind
 .have⟨x,g,d⟩:=h ⟨b.g.z⟩;have⟨i,e,_⟩:=NQ b d
  grind
theorem Q8{c I S}(b:aL B ι σ a w)(h:Yw c I S σ):∃x f,I x/\S x/\aL B f (c.st x) a w:=by
 unfold Yw at h;split at h
 .obtain⟨x,g,i,d⟩:=h;have⟨j,e,_⟩:=oP b d
  grind
 .have⟨x,g,i,d⟩:=h ⟨b.g.z⟩;have⟨j,e,_⟩:=NQ b d
  grind
def QD(B:vU)(Q:CW->St->Prop):Exit->Act->World->Prop
 |.normal,a,w=>∃ι σ,aL B ι σ a w/\Q .normal σ
 |.exit id,a,w=>∃ι σ,aL B ι σ a w/\Q (.exit id) σ
 |.ret,a,w=>∃ι σ,aL B ι σ a w/\Q .ret σ
 |_,_,_=>False
theorem OQ(b:∀g S,cg C.cq g=some S->af C.P g S){ops:Array Oper}{Q:CW->St->Prop}:
 ∀(c:um)(l:List Oper)(s:Nat)(ι:tv)(σ:St)(a:Act)(w:World),(∀j,l[j]?=ops.toList[s+j]?)->aL B ι σ a w->boX C ops c l σ (Q .normal)->wpOpsIn Fence.wide 0 C.P ops (QD B Q) (range' s l.length) a w
 |[],l,s,ι,σ,a,w,e,d,h=>by
  have:=Lc b (ops:=ops) (Q:=QD B Q) (R:=Q .normal) (jg:=[]) (λι σ a w d h=>⟨ι,σ,d,h⟩) l s ι σ a w (λj _=>e j) d h
  grind
 |(n,f)::c,l,s,ι,σ,a,w,e,d,h=>by
  obtain⟨I,q,r⟩:=h
  have:=Lc b (ops:=ops) (Q:=QD B Q) (R:=λτ=>∃x,I x/\Bx τ (f.st x) True) (jg:=range' (s+(l.take n).length) (l.drop n).length) (λz A t u i m=>by
   obtain⟨x,m,v⟩:=m;have⟨y,p,_⟩:=oP i v;refine OQ b c (l.drop n) (s+(l.take n).length) y _ t u (λj=>?_) p (r x m);rw[getElem?_drop,e];by_cases D:n<=l.length
   .grind
   .have E:l[n+j]?=none:=getElem?_eq_none aC;have F:l[l.length+j]?=none:=getElem?_eq_none aC
    grind) (l.take n) s ι σ a w (λj G=>by
    grind) d q
  grind
theorem LX(r:∀g S,cg C.cq g=some S->af C.P g S):∀c σ Q ι a w,aL B ι σ a w->VC C c σ Q->c.wp C.P (QD B Q) a w:=by
 intro c
 induction c with
 |skip=>intro σ Q ι a w d h;exact wp_skip ⟨ι,σ,d,h⟩
 |label l=>intro σ Q ι a w d h;exact wp_label ⟨ι,σ,d,h⟩
 |exit id=>intro σ Q ι a w d h;exact wp_exit ⟨ι,σ,d,h⟩
 |ret=>intro σ Q ι a w d h;exact wp_ret ⟨ι,σ,d,h⟩
 |goto l=>intro σ Q ι a w d h;exact h.elim
 |refuse a3=>intro σ Q ι a w d h;exact h.elim
 |scope a2 T=>intro σ Q ι a w d h;exact h.elim
 |rangeFunc f ps x y s G=>intro σ Q ι a w d h;exact h.elim
 |region id ops U=>
  intro σ Q ι a w d h;cases U with
  |false=>
   refine(wpIn_wide (n:=0)).1 (wpIn_region ?_);have:=OQ r (ops:=ops) (Q:=Q) (OP C id) ops.toList 0 ι σ a w (λj=>bu) d h;rw[range_eq_range'];omega
  |true=>
   simp only[VC]at h;split at h
   .rename_i h1 h2 h3;have hs:=cfZ h1 h2;refine wp_region_any h3 ?_;refine Xd r hs (Q:=QD B Q) (R:=Q .normal) (λι σ a w d h=>⟨ι,σ,d,h⟩) (λc a w h=>h) ops.size ops.size _ ι σ a _ (d.drew (w.drawn+1) (Nat.le_succ _)) h _ a ?_ ?_
    .have E:∀i,(Array.replicate ops.size false).getD i false=true->False:=by
      intro i u;by_cases q:i<ops.size
      .simp[Array.getD,q]at u
      grind
     exact⟨bu,bu,λi u=>u,λi o _ u=>(E i u).elim,λi o _ u=>(E i u).elim,λi o _ u=>(E i u).elim,rfl,rfl,λt _=>rfl,λi o _ u=>(E i u).elim⟩
    .unfold zS;rw[filter_eq_self.2]
     .simp
     .intro i u;by_cases q:i<ops.size<;>simp[Array.getD,q]
   grind
 |seq x y s G=>
  intro σ Q ι a w d h;simp only[VC]at h;split at h
  .obtain⟨h,p⟩:=h;refine wp_seq (wp_mono (s σ _ ι a w d h) ?_);intro e A D b;cases e with
   |normal=>
    obtain⟨F,V,m,x,W,H⟩:=b;show y.wp C.P (QD B Q) A D;have⟨X,v,_⟩:=oP m H
    grind
   |exit id=>exact b
   |ret=>exact b
   |goto l=>exact b
   |panic Y=>exact b
   |outgrown=>exact b
  .split at h
   .obtain⟨I,h,p⟩:=h;refine wp_seq (wp_mono (s σ _ ι a w d h) ?_);intro e A D b;cases e with
    |normal=>
     obtain⟨F,V,m,H⟩:=b;show y.wp C.P (QD B Q) A D;have⟨x,X,W,v⟩:=CM m H
     grind
    |exit id=>exact b
    |ret=>exact b
    |goto l=>exact b
    |panic Y=>exact b
    |outgrown=>exact b
   .refine wp_seq (wp_mono (s σ _ ι a w d h) ?_);intro e A D b;cases e with
    |normal=>
     obtain⟨F,V,m,Z⟩:=b;show y.wp C.P (QD B Q) A D
     grind
    |exit id=>exact b
    |ret=>exact b
    |goto l=>exact b
    |panic Y=>exact b
    |outgrown=>exact b
 |cond c x y s G=>
  intro σ Q ι a w d h;simp only[VC]at h;split at h
  .rename_i t hc;have z:=d.ev c;rw[hc]at z;have z:a.eval c=.bool t:=z;rcases xW h with⟨rfl,h⟩|⟨rfl,h⟩
   .exact wp_cond_true z (s _ Q ι a w (d.dk hc) h)
   .exact wp_cond_false z (G _ Q ι a w (d.dk hc) h)
  grind
 |block id c T=>
  intro σ Q ι a w d h;refine wp_block (wp_mono (T σ _ ι a w d h) ?_);intro e A D b;cases e with
  |normal=>exact b
  |exit i=>
   obtain⟨F,V,m,Z⟩:=b;show if i=id then _ else _
   simp only at Z;split at Z
   .rename_i hb;rw[if_pos (sw hb)];exact⟨F,V,m,Z⟩
   .rename_i hb;rw[if_neg (λe=>by subst e;simp at hb)];exact⟨F,V,m,Z⟩
  |ret=>exact b
  |goto l=>exact b
  |panic Y=>exact b
  |outgrown=>exact b
 |loop c T=>
  intro σ Q ι a w d h;simp only[VC]at h;split at h
  .rename_i l hl;obtain⟨⟨x,W,H⟩,p⟩:=h;have⟨X,v,_⟩:=oP d H;refine wp_loop_ghost (λn a w=>∃x ι,l.ml x/\l.mu x=n/\aL B ι (l.st x) a w) (l.mu x) ⟨x,X,W,rfl,v⟩ ?_;rintro n A D⟨x',F,J,rfl,m⟩;refine wp_mono (T _ _ F A D m (p x' J)) ?_;intro e a0 a1 b;cases e with
   |normal=>
    obtain⟨ι3,σ3,M,y,hy,q,N⟩:=b;have⟨ι4,O,_⟩:=oP M N;exact⟨l.mu y,q,y,ι4,hy,rfl,O⟩
   |exit id=>exact b
   |ret=>exact b
   |goto l=>exact b
   |panic Y=>exact b
   |outgrown=>exact b
  .split at h
   .rename_i l hl;obtain⟨I,mu,H,p⟩:=h;have⟨x,X,W,v⟩:=CM d H;refine wp_loop_ghost (λn a w=>∃x ι,I x/\mu x=n/\aL B ι (l.st x) a w) (mu x) ⟨x,X,W,rfl,v⟩ ?_;rintro n A D⟨x',F,J,rfl,m⟩;refine wp_mono (T _ _ F A D m (p x' J)) ?_;intro e a0 a1 b;cases e with
    |normal=>
     obtain⟨ι3,σ3,M,N⟩:=b;have⟨y,ι4,hy,q,O⟩:=Q8 M N;exact⟨mu y,q,y,ι4,hy,rfl,O⟩
    |exit id=>exact b
    |ret=>exact b
    |goto l=>exact b
    |panic Y=>exact b
    |outgrown=>exact b
   grind
end
end Go.Vc
namespace Go.Vc
open Go List
section
variable{B:vU}{C:bk}{ι:tv}{σ:St}{a:Act}{w:World}
def Pg(tmps:Array Value):ResultVar->Sem Value
 |.tmp t=>pure (tmps.getD t undef)
 |.cell a t=>do loadVar t (<-asAddr (tmps.getD a undef))
theorem Sv fn tmps:results fn tmps=(do let vs <-fn.results.mapM (Pg tmps);pure (if h:vs.size=1 then vs[0]else .tuple vs)):=by
 unfold results;congr 1
theorem Zx(f:aL B ι σ a w){r x}(h:bpX C σ r=some x):∃v,(Pg a.tmps r).run C.P w=.ok v w/\fw ι x v:=by
 cases r with
 |tmp t=>
  simp only[bpX,ss]at h;subst h;exact⟨_,rfl,f.ev (.tmp t)⟩
 |cell l T=>
  have d:=f.ev (.tmp l);simp only[bpX]at h;split at h
  .rename_i k off q;rw[q]at d;split at h
   .rename_i p T' cs s;split at h
    .rename_i e u;have e:=Nat.le_of_ble_eq_true e;simp only[ss]at h;subst h;have⟨b,m,y,z,n⟩:=AM f s;obtain⟨F,c,A⟩:=d;rw[y]at c;simp only[Value.pointer.injEq,ss,Addr.mk.injEq]at c;obtain⟨rfl,-,-⟩:=c;have g:=(n.drop off).take (C.P.cellsOf T);have D:cs.length=m.toList.length:=n.length;have E:=CL (w:=w) (b:=b) (off:=off) (cs:=(m.toList.drop off).take (C.P.cellsOf T)) u da (λj v G=>by rw[dj z];grind);refine⟨_,?_,LD g⟩;have i:a.tmps.getD l undef=.pointer (some ⟨b,off,none⟩):=A;simp only[Pg,i,asAddr,Sem.run_bind,Sem.run_pure,Result.andThen_ok,E]
    .cases h
   .cases h
  .cases h
theorem Mk(f:aL B ι σ a w):∀(l:List ResultVar)(xs:uj),Lg C σ l=some xs->∃vs,(l.mapM (Pg a.tmps)).run C.P w=.ok vs w/\dp ι xs vs
 |[],xs,h=>by
  simp[Lg]at h;subst h;exact⟨[],bu,trivial⟩
 |r::l,xs,h=>by
  simp only[Lg]at h;split at h
  .rename_i x b g c;simp only[ss]at h;subst h;have⟨v,i,j⟩:=Zx f g;have⟨vs,d,e⟩:=Mk f l b c;exact⟨v::vs,by simp[mapM_cons,i,d],j,e⟩
  .cases h
theorem BC(p:aL B ι σ a w){mv:Bool}:∀(xs:uj)(m:ut)(c:uc)(vs:tm),Gx C.P σ mv xs m=some c->dp ι xs vs->
 c.length=vs.length/\(mv=false->c=vs.map .val)/\∀(i:Nat)(r:CV)(v:Value),c[i]?=some r->vs[i]?=some v->GD w r v/\∀b,jC r v=some b->∃k j,cr σ.own k=some (some j)/\cj (ι k)=some b
 |[],m,c,[],h,_=>by
  simp[Gx]at h;grind
 |[],_,_,_::_,_,d=>d.elim
 |x::xs,_,_,[],_,d=>d.elim
 |x::xs,m,c,v::vs,h,d=>by
  simp only[Gx]at h;split at h
  .cases h
  .rename_i l s;have⟨t,y,A⟩:=BC p xs m.tail l vs s d.2
   have du:∀(n:CV),c=n::l->(mv=false->n=.val v)->GD w n v->(∀b,jC n v=some b->∃k j,cr σ.own k=some (some j)/\cj (ι k)=some b)->
    c.length=(v::vs).length/\(mv=false->c=(v::vs).map .val)/\∀(i:Nat)(r:CV)(u:Value),c[i]?=some r->(v::vs)[i]?=some u->GD w r u/\∀b,jC r u=some b->∃k j,cr σ.own k=some (some j)/\cj (ι k)=some b:=by
    grind
   split at h
   .split at h
    .rename_i k;have f:v=ι k:=d.1;split at h
     .rename_i E G H q;simp only[ss]at h;have⟨D,I⟩:=wW p q;exact du _ h.symm (λe=>by cases e) ⟨D,da⟩ (λb g=>⟨k,_,q,by rw[<-f];exact g⟩)
     .cases h
    .have f:v=.slice none 0 0:=d.1;split at h
     .rename_i E z J;simp only[ss]at h;refine du _ h.symm (λe=>by cases e) ⟨Lf _,by rw[f];exact World.ownsRow_nil w 0 E _⟩ (λb g=>?_);rw[f]at g;simp[jC,cj]at g
     .cases h
    .cases h
   .split at h
    .rename_i u F;simp only[ss]at h;have f:=(d.1).val? F;exact du _ h.symm (λ_=>by rw[f]) f (λb g=>by simp[jC]at g)
    .cases h
theorem Jk(I:aL B ι σ a w){fn K}(h:Gi C fn K σ):
 ∃u,(results fn a.tmps).run C.P w=.ok u w/\∃r m' s,K r m' s/\GD w r u/\AV B m' s w/\∀b,jC r u=some b->(B.w0.heap.size<=b\/B.E b)/\m' b=none/\∀i,s b i=none:=by
 unfold Gi at h;split at h
 .exact h.elim
 .rename_i V J;have⟨W,p,h,_⟩:=sU _ _ I h;have⟨τ,d,h,_⟩:=BW _ _ p h;split at h
  .exact h.elim
  .rename_i M t;have⟨f,y,j⟩:=Mk d _ _ t
   have G:(results fn a.tmps).run C.P w=.ok (if h:f.toArray.size=1 then f.toArray[0]else .tuple f.toArray) w:=by
    rw[Sv,Array.mapM_eq_mapM_toList];simp[y]
   have g:∀(n:uc)(r:CV)(v:Value),Gx C.P τ C.dt M fn.resultTypes.toList=some n->(∃i:Nat,n[i]?=some r/\f[i]?=some v)->GD w r v/\∀b,jC r v=some b->(B.w0.heap.size<=b\/B.E b)/\τ.m b=none/\∀i,τ.h b i=none:=by
    rintro n r v l⟨i,q,N⟩;have⟨_,_,O⟩:=BC d _ _ _ _ l j;have⟨z,A⟩:=O i r v q N;refine⟨z,λb D=>?_⟩;have⟨k,Q,R,F⟩:=A b D;exact d.f k Q b R F
   split at h
   .rename_i r q;have⟨c,_,_⟩:=BC d _ _ _ _ q j;simp at c
    obtain⟨v,rfl⟩:∃v,f=[v]:=by
     match f,c with
     |[v],_=>grind
    have⟨z,A⟩:=g _ r v q ⟨0,rfl,rfl⟩;refine⟨v,da,r,τ.m,τ.h,h,z,d.g,A⟩
   .rename_i n S l;split at h
    .exact h.elim
    .rename_i T;have⟨c,H,_⟩:=BC d _ _ _ _ l j
     have U:f.length≠1:=by
      intro e;rw[e]at c
      match n,c with
      |[r],_=>grind
     refine⟨.tuple f.toArray,da,.dg n,τ.m,τ.h,h,⟨f.toArray,rfl,da⟩,d.g,λb D=>by simp[jC]at D⟩
   grind
def QK(n:Nat)(b:uc)(vs:tm)(k:Nat):=
 match b[k-n]?,vs[k-n]? with
 |some (.au _ _ _),some v=>v
 |_,_=>.slice none 0 0
theorem vS{w:World}:∀{b:uc}{vs:tm},EM w b vs->b.length=vs.length/\∀(i:Nat)(c:CV)(v:Value),b[i]?=some c->vs[i]?=some v->GD w c v
 |[],[],_=>⟨rfl,λi c v h=>by simp at h⟩
 |c::cs,v::vs,h=>by
  have⟨f,g⟩:=vS h.2;refine⟨by simp[f],λi j l d e=>?_⟩;cases i with
  |zero=>simp at d e;subst d e;exact h.1
  |succ i=>grind
 |[],_::_,h=>h.elim
 |_::_,[],h=>h.elim
theorem QZ{n:Nat}{all:uc}{avs:tm}{w:World}:∀(i:Nat)(b:uc)(vs:tm),EM w b vs->(∀j:Nat,b[j]?=all[i+j]?)->(∀j:Nat,vs[j]?=avs[i+j]?)->
 dp (QK n all avs) (Kz n i b) vs
 |i,[],[],_,_,_=>trivial
 |i,c::b,v::vs,h,e,f=>by
  have d:=QZ (n:=n) (all:=all) (avs:=avs) (i+1) b vs h.2 (λj=>by have:=e (j+1);grind) (λj=>by have:=f (j+1);grind);cases c with
  |val u=>exact⟨h.1,d⟩
  |au E g l=>
   refine⟨?_,d⟩;show v=QK n all avs (n+i);have m:=e 0;have p:=f 0
   grind[QK]
  |dg q=>exact⟨trivial,d⟩
 |i,[],_::_,h,_,_=>h.elim
 |i,_::_,[],h,_,_=>h.elim
theorem Od:∀(b:uc)(k:Nat)(o:fi),cr (CS b) k=some (some o)->∃E sz xs,b[k]?=some (.au E sz xs)/\o=.au E sz xs
 |[],k,o,h=>by grind[CS,cr]
 |c::b,0,o,h=>by
  cases c<;>simp[CS,cr]at h
  grind
 |c::b,k+1,o,h=>by
  have:cr (CS b) k=some (some o):=by cases c<;>simpa[CS,cr]using h
  have⟨E,sz,xs,d,e⟩:=Od b k o this
  grind
theorem W3{ι:tv}:∀(n:Nat)(vs:tm),vs.length=n->dp ι (replicate n (.at .di)) vs
 |0,[],_=>trivial
 |n+1,v::vs,h=>⟨trivial,W3 n vs (mp h)⟩
 |0,_::_,h=>by simp at h
 |_+1,[],h=>by simp at h
theorem dp.append{ι:tv}:∀{xs b:uj}{vs c:tm},dp ι xs vs->dp ι b c->dp ι (xs++b) (vs++c)
 |[],_,[],_,_,d=>da
 |_::_,_,_::_,_,h,d=>⟨h.1,dp.append h.2 d⟩
 |[],_,_::_,_,h,_=>h.elim
 |_::_,_,[],_,h,_=>h.elim
theorem HU{w m h c vs} n(i:CJ w m h c vs):
 aL ⟨w,xL m c vs,h,[]⟩ (QK n c vs) (entry n c m h) {tmps:=vs.toArray++Array.replicate (n-vs.toArray.size) undef,defers:=[]} w:=by
 have⟨s,t⟩:=vS i.args
 have d:∀k o,cr (entry n c m h).own k=some (some o)->n<=k/\∃E l p,c[k-n]?=some (.au E l p)/\o=.au E l p/\∃v,vs[k-n]?=some v/\QK n c vs k=v/\GD w (.au E l p) v:=by
  intro k o e;simp only[entry]at e;rw[mK]at e;by_cases q:k<n
  .grind
  .rw[getElem?_append_right da]at e;simp only[length_replicate]at e;rw[<-mK]at e
   grind[QK,Od,sh]
 refine⟨?_,rfl,?_,?_,?_,?_,?_⟩
 .have g:=QZ (n:=n) (all:=c) (avs:=vs) 0 c vs i.args (λj=>bu) (λj=>bu);show dp _ (Kz n 0 c++replicate (n-c.length) (.at .di)) _;have:(vs.toArray++Array.replicate (n-vs.toArray.size) undef).toList=vs++replicate (n-vs.length) undef:=bu
  rw[this];exact g.append (W3 _ _ (by simp[s]))
 .intro k o e;obtain⟨q,E,l,p,g,rfl,v,u,y,r⟩:=d k o e;rw[y];exact r
 .intro k H o M b e A f z;obtain⟨q,E,l,p,g,rfl,v,u,y,r⟩:=d k o e;obtain⟨I,E',N,O,D,rfl,Q,F,G,J⟩:=d H M A;rw[y]at f;rw[G]at z;have:=i.sep (k-n) (H-n) _ _ v Q b g u D F f z;omega
 .intro k o b e f;obtain⟨q,E,l,p,g,rfl,v,u,y,r⟩:=d k o e;rw[y]at f;have⟨R,S⟩:=i.jb (k-n) _ v b g u f;exact⟨.inr (.inr ⟨k-n,_,v,g,u,f⟩),R,S⟩
 .refine⟨rfl,rfl,rfl,Nat.le_refl _,Nat.le_refl _,λ_ _ _=>rfl,i.F,i.t,i.z,λ_ _ _ h=>h,λ_ _ _=>rfl,λb T f=>.inr (.inl (by have f:m b=some T:=f;rw[f];simp))⟩
 .intro k;unfold QK;split
  .rename_i E l p v g U;exact Qy (t _ _ _ g U).2
  .rfl
theorem eM{P f fn c}(D:P.funcs[f]?=some fn)(E:fn.body=some c)(n:(fn.name== "runtime.NumGoroutine")=false){S}(y:∀d m h K,S d m h K->∃C:bk,C.P=P/\(∀g S,cg C.cq g=some S->af P g S)/\xS C fn c (entry fn.ntmps d m h) K):af P f S:=by
 refine⟨⟨fn,D,by rw[E];rfl,n⟩,?_⟩;intro d z m h w K G H;obtain⟨C,rfl,j,I⟩:=y d m h K G;refine calls_of_wp D E ?_;refine wp_mono (LX j c _ _ _ _ w (HU fn.ntmps H) I) ?_;intro e A q p
 have key:(∃ι σ,aL ⟨w,xL m d z,h,[]⟩ ι σ A q/\Gi C fn K σ)->A.defers=[]/\∃v,(results fn A.tmps).run C.P q=.ok v q/\∃r u s t,Ending.returned v=.returned u/\K r s t/\GD q r u/\AV ⟨w,xL m d z,h,[]⟩ s t q/\
  ∀b,jC r u=some b->(w.heap.size<=b\/xL m d z b)/\s b=none/\∀i,t b i=none:=by
  rintro⟨ι,σ,F,J⟩;have⟨u,M,r,s,t,N,O,Q,R⟩:=Jk F J;exact⟨F.defers,u,M,r,u,s,t,rfl,N,O,Q,R⟩
 cases e with
 |normal=>exact key p
 |ret=>exact key p
 |exit id=>obtain⟨_,_,_,h⟩:=p;exact h.elim
 |goto l=>exact p.elim
 |panic T=>exact p.elim
 |outgrown=>exact p.elim
theorem bSX{P f fn c}(H:P.funcs[f]?=some fn)(t:fn.body=some c)(p:(fn.name== "runtime.NumGoroutine")=false){S}(I:∀d m h K,S d m h K->∃C:bk,C.P=P/\(∀g S,cg C.cq g=some S->af P g S)/\xS C fn c (entry fn.ntmps d m h) (λr m' q=>∃m2 j,(∀b o,m2 b=some o->m' b=some o)/\PH.le h j/\PH.le j q/\K r m2 j)):af P f S:=by
 have E:=eM H t p (S:=λd m h K=>∃K',S d m h K'/\K=λr m' q=>∃m2 j,(∀b o,m2 b=some o->m' b=some o)/\PH.le h j/\PH.le j q/\K' r m2 j) (by
  grind)
 refine⟨E.1,λd J m h w K M N=>?_⟩;refine(E.2 d J m h w _ ⟨K,M,rfl⟩ N).mono ?_;rintro e V⟨r,u,m',q,O,⟨m2,j,y,F,G,Q⟩,z,l,A⟩
 have n:∀b i,q b i=none->j b i=none:=by
  intro b i e;cases s:j b i with
  |none=>rfl
  |some v=>rw[G.le b i v s]at e;cases e
 refine⟨r,u,m2,j,O,Q,z,?_,λb t=>?_⟩
 .refine⟨l.tape,l.os,l.output,l.drawn,l.size,l.frame,λb o v e=>l.F b o v (G.le b o v e),λb o e=>l.t b o (y b o e),λb o e i=>n b i (l.z b o (y b o e) i),F.le,λb R D=>?_,λb o e=>l.gc b o (y b o e)⟩;funext i;have e:=congrFun (l.hold b R D) i;show j b i=h b i;cases s:h b i with
  |some v=>exact(F.le b i v s)
  |none=>grind
 .have⟨T,W,U⟩:=A b t;refine⟨T,?_,λi=>n b i (U i)⟩;cases s:m2 b with
  |none=>rfl
  |some o=>grind
def dR(h:PH)(K:tt):CV->MH->PH->Prop:=λr c f=>(∀b o,c b=some o->∀i,f b i=none)->∃d e,(∀b o,d b=some o->c b=some o)/\PH.le h e/\
 (∀b i v,e b i=some v->f b i=some v\/∃cs E g,c b=some (.cells cs E g)/\cs[i]?=some v/\d b=none)/\K r d e
theorem af.qd{P f S}(A:af P f (λg m h K=>∃K',S g m h K'/\K=dR h K')):af P f S:=by
 refine⟨A.1,λg H m h w K I J=>?_⟩;refine(A.2 g H m h w _ ⟨K,I,rfl⟩ J).mono ?_;rintro e W⟨r,u,X,Y,M,j,p,c,q⟩;have⟨D,l,s,F,t,N⟩:=j c.z;refine⟨r,u,D,l,M,N,p,?_,λb O=>?_⟩
 .refine⟨c.tape,c.os,c.output,c.drawn,c.size,c.frame,λb o v e=>?_,λb o e=>c.t b o (s b o e),λb o e i=>?_,F.le,λb Q y=>?_,λb o e=>c.gc b o (s b o e)⟩
  .rcases t b o v e with d|⟨cs,E,G,d,z,_⟩
   .exact c.F b o v d
   .rw[dj (c.t b _ d),td];exact z
  .cases n:l b i with
   |none=>rfl
   |some v=>
    rcases t b i v n with d|⟨cs,E,G,d,z,R⟩
    .rw[c.z b o (s b o e) i]at d;cases d
    grind
  .funext i;have e:=congrFun (c.hold b Q y) i;show l b i=h b i;cases n:h b i with
   |some v=>exact(F.le b i v n)
   |none=>
    cases T:l b i with
    |none=>rfl
    |some v=>
     rcases t b i v T with d|⟨cs,E,G,d,z,R⟩
     .grind
     .rcases c.gc b _ d with U|U
      .omega
      grind
 .have⟨V,Z,f3⟩:=q b O;refine⟨V,?_,λi=>?_⟩
  .cases n:D b with
   |none=>rfl
   |some o=>grind
  .cases n:l b i with
   |none=>rfl
   |some v=>
    grind
theorem bSQ{P f fn c}(e:P.funcs[f]?=some fn)(i:fn.body=some c)(d:(fn.name== "runtime.NumGoroutine")=false){S}(j:∀b m h K,S b m h K->∃C:bk,C.P=P/\(∀g S,cg C.cq g=some S->af P g S)/\xS C fn c (entry fn.ntmps b m h) (dR h K)):af P f S:=
 .qd (eM e i d (S:=λb m h K=>∃K',S b m h K'/\K=dR h K') (by
  grind))
end
end Go.Vc
namespace Go.Vc
open Go List
theorem aB{c A B}(b:c=true->A)(d:c=false->B):branch c A B:=by
 cases c
 .exact d rfl
 .exact b rfl
theorem aE{p}[Decidable p]{A B}(b:p->A)(c:¬p->B):branch (decide p) A B:=
 aB (λh=>b (of_decide_eq_true h)) (λh=>c (of_decide_eq_false h))
theorem dW{n}(b: -9223372036854775808<=n)(c:n<9223372036854775808):IntKind.i64.wrap n=n:=by
 rw[IntKind.wrap_i64];omega
theorem aK.i{m h b off cs E c l}(d:m b=some (.cells cs E c))(e:(cs.toList.drop off).take l.length=l):aK m h b off l:=.dx cs E c d e
end Go.Vc
namespace Go.Ps
open Go Go.Vc Go.Proofs List Tryz
variable{m:MH}{h:PH}{cb:Nat}{l:ti}{m':MH}{r:Sl}{a:ti}{b:Nat}
structure VV where
 kind:Int
 int:Int
 text:ByteArray
abbrev to:=List VV
abbrev uu:=List (Sl×to)
abbrev tj:=List to
structure OV where
 kind:Int
 index:Int
 value:VV
structure PV where
 op:Int
 dy:Int
 left:OV
 right:OV
 args:Sl
abbrev uo:=List PV
structure QV where
 op:Int
 ah:Int
 ap:PV
 aa:Sl
 on:Sl
 be:Sl
 bh:Sl
 bg:Int
 args:Sl
abbrev uh:=List (Nat×QV)
abbrev ud:=List QV
variable{v:QV}
structure oI where
 name:ByteArray
 kind:Int
structure Ii where
 aa:Sl
 ah:Int
structure cD where
 name:ByteArray
 aa:Sl
 key:Int
 ba:Sl
 cd:Sl
structure bQ where
 dc:Int
 c:Sl
abbrev pW(n:Int):Value:=.int .i64 n
abbrev fW(s:Sl):Value:=.slice s.a s.len s.cap
abbrev B8:Value:=.slice none 0 0
abbrev EN:Value:=.string ⟨⟨[]⟩⟩
abbrev py(b o:Nat):Value:=.pointer (some ⟨b,o,none⟩)
abbrev jX(n:Int):At:=.val (.int .i64 n)
abbrev rF(s:Sl):At:=.val (.slice s.a s.len s.cap)
abbrev Db:At:=.val (.slice none 0 0)
abbrev mh:At:=.val (.string ⟨⟨[]⟩⟩)
abbrev fI(n:Int):SV:=.at (.val (.int .i64 n))
abbrev Zq(s:Sl):SV:=.at (.val (.slice s.a s.len s.cap))
abbrev qe:SV:=.at (.val (.slice none 0 0))
abbrev sQp(b o:Nat):SV:=.at (.ptr b o)
abbrev ov(b o:Nat):SV:=.at (.val (.pointer (some ⟨b,o,none⟩)))
abbrev Zr(b:Bool):SV:=.at (.val (.bool b))
abbrev sQl(k:Nat):SV:=.at (.au k)
abbrev fD(n:Int):CV:=.val (.int .i64 n)
abbrev AU(b:Bool):CV:=.val (.bool b)
abbrev tV(s:Sl):CV:=.val (.slice s.a s.len s.cap)
abbrev EO:CV:=.val (.slice none 0 0)
abbrev mn(b o:Nat):CV:=.val (.pointer (some ⟨b,o,none⟩))
abbrev mX(l:tm):CV:=.val (.agg ⟨l⟩)
abbrev oQ(T:TypeId)(l:ue):Option Go.Vc.fi:=some (.cells T l)
abbrev eQ{α}(x:α):=x=x
abbrev eP k:=sQp k 0=sQp k 0
abbrev eL k:=sQl k=sQl k
abbrev LV(s:ByteArray):At:=.val (.string s)
abbrev zQ:=[jX 0,jX 0,jX 0,jX 0,jX 0,jX 0,jX 0,jX 0,mh,jX 0,jX 0,jX 0,jX 0,mh,Db,Db,Db,Db,Db,jX 0,Db]
abbrev zP:=[jX 0,jX 0,jX 0,jX 0,jX 0,jX 0,mh,jX 0,jX 0,jX 0,jX 0,mh,Db]
def eI(n:Int):tm:=[.int .i64 n]
def eS(s:Sl):tm:=[.slice s.a s.len s.cap]
def VV.ag(v:VV):tm:=[.int .i64 v.kind,.int .i64 v.int,.string v.text]
def OV.ag(o:OV):tm:=[.int .i64 o.kind,.int .i64 o.index,.int .i64 o.value.kind,.int .i64 o.value.int,.string o.value.text]
def PV.ag(p:PV):tm:=
 [.int .i64 p.op,.int .i64 p.dy,
  .int .i64 p.left.kind,.int .i64 p.left.index,.int .i64 p.left.value.kind,.int .i64 p.left.value.int,.string p.left.value.text,
  .int .i64 p.right.kind,.int .i64 p.right.index,.int .i64 p.right.value.kind,.int .i64 p.right.value.int,.string p.right.value.text,
  .slice p.args.a p.args.len p.args.cap]
def QV.ag(q:QV):tm:=
 [.int .i64 q.op,.int .i64 q.ah,
  .int .i64 q.ap.op,.int .i64 q.ap.dy,
  .int .i64 q.ap.left.kind,.int .i64 q.ap.left.index,.int .i64 q.ap.left.value.kind,.int .i64 q.ap.left.value.int,.string q.ap.left.value.text,
  .int .i64 q.ap.right.kind,.int .i64 q.ap.right.index,.int .i64 q.ap.right.value.kind,.int .i64 q.ap.right.value.int,.string q.ap.right.value.text,
  .slice q.ap.args.a q.ap.args.len q.ap.args.cap,
  .slice q.aa.a q.aa.len q.aa.cap,.slice q.on.a q.on.len q.on.cap,.slice q.be.a q.be.len q.be.cap,.slice q.bh.a q.bh.len q.bh.cap,
  .int .i64 q.bg,.slice q.args.a q.args.len q.args.cap]
def oI.ag(c:oI):tm:=[.string c.name,.int .i64 c.kind]
def Ii.ag(r:Ii):tm:=[.slice r.aa.a r.aa.len r.aa.cap,.int .i64 r.ah]
def cD.ag(t:cD):tm:=[.string t.name,.slice t.aa.a t.aa.len t.aa.cap,.int .i64 t.key,.slice t.ba.a t.ba.len t.ba.cap,.slice t.cd.a t.cd.len t.cd.cap]
def bQ.ag(s:bQ):tm:=[.int .i64 s.dc,.slice s.c.a s.c.len s.c.cap]
abbrev zV:=[pW 0,pW 0,pW 0,pW 0,pW 0,pW 0,pW 0,pW 0,EN,pW 0,pW 0,pW 0,pW 0,EN,B8,B8,B8,B8,B8,pW 0,B8]
abbrev pQ(p:PV)(r:ue):=jX p.op::jX p.dy::jX p.left.kind::jX p.left.index::jX p.left.value.kind::jX p.left.value.int::LV p.left.value.text::jX p.right.kind::jX p.right.index::jX p.right.value.kind::jX p.right.value.int::LV p.right.value.text::rF p.args::r
abbrev qQ(q:QV)(x:At):=jX q.op::jX q.ah::pQ q.ap [rF q.aa,rF q.on,rF q.be,rF q.bh,jX q.bg,x]
def oY(p:Int×Int):tm:=[.int .i64 p.1,.int .i64 p.2]
def wV(p:Int×Bool):tm:=[.int .i64 p.1,.bool p.2]
def dI:Dec:=⟨Int,eI⟩
def dS:Dec:=⟨Sl,eS⟩
def dB:Dec:=⟨Bool,λb=>[.bool b]⟩
def dU8:Dec:=⟨UInt8,λb=>[.int .u8 b.toNat]⟩
def d2Q:Dec:=⟨ByteArray,λs=>[.string s]⟩
def cLX:Option Nat->Value
 |none=>.nilFunc
 |some f=>.func (.func f) #[] #[]
def dF:Dec:=⟨Option Nat,λf=>[cLX f]⟩
structure NV where
 s:bQ
 params:Sl
 q:QV
 args:Sl
def NV.ag(n:NV):=n.s.ag++eS n.params++n.q.ag++eS n.args
structure dL where
 kind:Int
 ah:Int
 aa:Sl
 av:QV
def dL.ag(r:dL):=.int .i64 r.kind:: .int .i64 r.ah:: .slice r.aa.a r.aa.len r.aa.cap::r.av.ag
structure eG where
 ah:Int
 bj:Sl
 new:Sl
def eG.ag(c:eG):tm:=[.int .i64 c.ah,.slice c.bj.a c.bj.len c.bj.cap,.slice c.new.a c.new.len c.new.cap]
structure gR where
 change:Int
 after:Bool
 ah:Int
 key:Sl
 ju:Int
abbrev t8:=Nat×gR×Nat×Sl×Sl×eG×Sl×List gR×PH
def gR.ag(d:gR):tm:=[.int .i64 d.change,.bool d.after,.int .i64 d.ah,.slice d.key.a d.key.len d.key.cap,.int .i64 d.ju]
structure Qc where
 aa:Sl
 ij:Sl
 after:Sl
def Qc.ag(w:Qc):tm:=[.slice w.aa.a w.aa.len w.aa.cap,.slice w.ij.a w.ij.len w.ij.cap,.slice w.after.a w.after.len w.after.cap]
def gn:=λT=>match T with
 |2=>dI
 |3=>dI
 |4=>dB
 |5=>dU8
 |9=>d2Q
 |47=>dI
 |22=>dS
 |36=>dS
 |38=>dS
 |61=>dS
 |31=>dS
 |64=>dS
 |65=>dS
 |66=>dS
 |27=>dS
 |95=>dS
 |75=>dS
 |71=>dS
 |72=>dS
 |165=>dS
 |29=>⟨bQ,bQ.ag⟩
 |58=>⟨VV,VV.ag⟩
 |60=>⟨OV,OV.ag⟩
 |63=>⟨PV,PV.ag⟩
 |68=>⟨QV,QV.ag⟩
 |74=>⟨cD,cD.ag⟩
 |81=>⟨Int×Int,oY⟩
 |138=>⟨Int×Bool,wV⟩
 |80=>⟨oI,oI.ag⟩
 |126=>⟨Ii,Ii.ag⟩
 |206=>⟨NV,NV.ag⟩
 |207=>dF
 |262=>dF
 |214=>⟨Nat,λb=>[.func (.func 174) #[] #[.pointer (some ⟨b,0,none⟩)]]⟩
 |197=>⟨Nat,λb=>[.map (some b)]⟩
 |243=>⟨Nat,λb=>[.map (some b)]⟩
 |23=>dS
 |24=>dS
 |32=>dS
 |46=>dS
 |117=>dS
 |155=>dS
 |34=>⟨Sl×Sl,λp=>[.slice p.1.a p.1.len p.1.cap,.slice p.2.a p.2.len p.2.cap]⟩
 |70=>⟨dL,dL.ag⟩
 |84=>⟨eG,eG.ag⟩
 |77=>⟨gR,gR.ag⟩
 |114=>⟨Qc,Qc.ag⟩
 |108=>⟨Nat,λb=>[.map (some b)]⟩
 |109=>⟨Nat,λb=>[.map (some b)]⟩
 |_=>⟨Unit,λ_=>[]⟩
noncomputable def cZ(f:Func):=match f.body with|some c=>c|none=>.skip
abbrev AC:=Vc.jo
noncomputable def jc(cq:List (Nat×AC))(gd:List (Nat×R8))(iu:List (Nat×bmX))(gq:List (Nat×tw))(dt:Bool):bk:=
 {P:=Tryz.prog,jy:=[],ki:=[],jh:=[],ff:=[],cq:=cq,gn:=gn,gd:=gd,iu:=iu,gq:=gq,dt:=dt,yield:=none}
noncomputable def dD(cq:List (Nat×AC))(gd iu:um)(gq:List (Nat×tw))(dt:Bool):bk:=
 {P:=Tryz.prog,jy:=gd,ki:=iu,jh:=[],ff:=[],cq:=cq,gn:=gn,gd:=[],iu:=[],gq:=gq,dt:=dt,yield:=none}
noncomputable def d2X(cq:List (Nat×AC))(gd iu:um)(jh:List (Nat×um))(gq:List (Nat×tw))(dt:Bool):bk:=
 {P:=Tryz.prog,jy:=gd,ki:=iu,jh:=jh,ff:=[],cq:=cq,gn:=gn,gd:=[],iu:=[],gq:=gq,dt:=dt,yield:=none}
noncomputable def tH(cq:List (Nat×AC))(gd iu:um)(jh:List (Nat×um))(ff:ut)(gq:List (Nat×tw))(dt:Bool):bk:=
 {P:=Tryz.prog,jy:=gd,ki:=iu,jh:=jh,ff:=ff,cq:=cq,gn:=gn,gd:=[],iu:=[],gq:=gq,dt:=dt,yield:=none}
abbrev uz:=af Tryz.prog
theorem aG:∀g S,cg ([]:List (Nat×AC)) g=some S->uz g S:=λg S h=>by simp[cg]at h
theorem aD{c S0 r}(e:uz c S0)(f:∀g S,cg r g=some S->uz g S):∀g S,cg ((c,S0)::r) g=some S->uz g S:=by
 intro g S h;simp only[cg]at h;split at h
 .rename_i d;have:=sw d
  grind
 grind
def azQ(n:Int):ug->Int×ug
 |[]=>(0,[])
 |b::r=>if n<1 then(0,b::r)else((b.toNat:Int)%n,r)
structure bmZ(m:MH)(h:PH)(cb:Nat)(r:ug):Prop where
 ex:∃(s:_)(cs:_)(k:Nat),m cb=some (.cells #[.slice s.a s.len s.cap,.int .i64 k] 88 (0,0))/\bT h s 1 (dE cs)/\k<=cs.length/\cs.length<=1000/\r=cs.drop k
structure aZ(m m':MH)(cb:Nat):Prop where
 ai:∀b,b≠cb->m' b=m b
end Go.Ps
namespace Go.Vc
open Go List
theorem PH.le.refl h:PH.le h h:=⟨λ_ _ _ e=>e⟩
theorem PH.le.trans{h h' c}(a:PH.le h h')(b:PH.le h' c):PH.le h c:=⟨λx y v e=>b.le x y v (a.le x y v e)⟩
theorem bJ.mono{h h' b o l}(r:bJ h b o l)(le:PH.le h h'):bJ h' b o l:=⟨λi v e=>le.le _ _ _ (r.rd i v e)⟩
theorem bT.mono{h h' s sz xs}(r:bT h s sz xs)(le:PH.le h h'):bT h' s sz xs:=
 ⟨r.len,r.row.imp id λ⟨b,o,e,k⟩=>⟨b,o,e,λi x c=>(k i x c).mono le⟩,r.cap⟩
theorem bT.get{h s sz xs}(r:bT h s sz xs){i e}(c:xs[i]?=some e):
 ∃b o,s.a=some ⟨b,o,none⟩/\bJ h b (o+i*sz) e:=by
 rcases r.row with rfl|⟨b,o,d,k⟩
 .simp at c
 grind
theorem cH.cj{m s E sz xs}(h:cH m s E sz xs){b i}(e:s.a=some ⟨b,i,none⟩):∃c,m b=some (.cells c E (0,0)):=by
 rcases h.ex with⟨rfl,_⟩|⟨f,d,c,rfl,g,_⟩
 .cases e
 grind
theorem cH.e{m s E sz xs}(h:cH m s E sz xs):s.len=xs.length:=by
 rcases h.ex with⟨rfl,rfl⟩|⟨e,c,d,rfl,f,_⟩<;>rfl
theorem cH.br{m m' s E sz xs}(h:cH m s E sz xs)(f:∀b i,s.a=some ⟨b,i,none⟩->m' b=m b):cH m' s E sz xs:=by
 refine⟨h.rows,?_⟩;rcases h.ex with c|⟨b,d,e,rfl,g,j⟩
 .exact .inl c
 grind
theorem xZ.br{m m' b d}(h:xZ m b d)(g:m' b=m b):xZ m' b d:=by
 have⟨e,c,j,f⟩:=h.ex;exact⟨e,c,da,f⟩
theorem bT.nil h sz:bT h ⟨none,0,0⟩ sz []:=⟨rfl,.inl rfl,Nat.le_refl _⟩
end Go.Vc
namespace Go.Ps
open Go Go.Vc Go.Proofs List Tryz
variable{K:tt}{m:MH}{h:PH}{ps:ti}{v:QV}{l:ti}{i N:Nat}{m':MH}{h':PH}{xs:List tm}{r:Sl}{a:ti}{b:Nat}
structure an(h:PH)(s:Sl)(l:ti):Prop where
 row:bT h s 1 (l.map eI)
 len:l.length<=17592186044416
theorem an.mono{s}(r:an h s l)(le:PH.le h h'):an h' s l:=⟨r.row.mono le,r.len⟩
theorem an.e{s}(r:an h s l):s.len=l.length:=by have:=r.row.len;grind
structure l9(h:PH)(s:Sl)(l:tu):Prop where
 row:bT h s 2 (l.map oY)
 len:l.length<=8796093022208
theorem l9.mono{s l}(r:l9 h s l)(le:PH.le h h'):l9 h' s l:=⟨r.row.mono le,r.len⟩
theorem l9.e{s l}(r:l9 h s l):s.len=l.length:=by have:=r.row.len;grind
structure lF(h:PH)(s:Sl)(l:tp):Prop where
 row:bT h s 2 (l.map wV)
 len:l.length<=8796093022208
theorem lF.mono{s l}(r:lF h s l)(le:PH.le h h'):lF h' s l:=⟨r.row.mono le,r.len⟩
theorem lF.e{s l}(r:lF h s l):s.len=l.length:=by have:=r.row.len;grind
inductive ao where
 |mk (op dy:Int) (left right:OV) (args:List ao)
variable{p w:ao}
mutual
def fV(h:PH):ao->PV->Prop
 |.mk op c l r args,v=>v.op=op/\v.dy=c/\v.left=l/\v.right=r/\args.length<=502633886983/\∃d:uo,bT h v.args 13 (d.map PV.ag)/\uN h args d
def uN(h:PH):List ao->uo->Prop
 |[],d=>d=[]
 |p::ps,d=>∃v c,d=v::c/\fV h p v/\uN h ps c
end
mutual
theorem fV.mono{h h':PH}(le:PH.le h h'):∀{p:ao}{v:PV},fV h p v->fV h' p v
 |.mk ..,_,⟨c,d,e,f,g,j,n,q⟩=>⟨c,d,e,f,g,j,n.mono le,uN.mono le q⟩
theorem uN.mono{h h':PH}(le:PH.le h h'):∀{ps:List ao}{vs:uo},uN h ps vs->uN h' ps vs
 |[],_,h=>h
 |_::_,_,⟨v,c,d,e,f⟩=>⟨v,c,d,fV.mono le e,uN.mono le f⟩
end
theorem uN.length{h:PH}:∀{ps:List ao}{vs:uo},uN h ps vs->vs.length=ps.length
 |[],_,h=>by rw[show _=[]from h];rfl
 |_::_,_,⟨_,_,c,_,d⟩=>by rw[c];simp[uN.length d]
theorem uN.get{h:PH}:∀{ps:List ao}{vs:uo},uN h ps vs->∀{i:Nat}{p:ao},ps[i]?=some p->∃v,vs[i]?=some v/\fV h p v
 |[],_,_,i,p,e=>by simp at e
 |p0::ps,_,⟨v,c,rfl,f,d⟩,0,p,e=>da
 |p0::ps,_,⟨v,c,rfl,f,d⟩,i+1,p,e=>by simp at e;simpa using uN.get d e
inductive ae where
 |mk (op ah:Int) (jx:ao) (aa:ti) (on:tu) (be:ti) (bh:tp) (bg:Int) (args:List ae)
variable{q:ae}
mutual
def cQ(h:PH):ae->QV->Prop
 |.mk op ah w aa on be c d args,v=>v.op=op/\v.ah=ah/\fV h w v.ap/\an h v.aa aa/\l9 h v.on on/\an h v.be be/\lF h v.bh c/\v.bg=d/\
  args.length<=502633886983/\∃e:ud,bT h v.args 21 (e.map QV.ag)/\uV h args e
def uV(h:PH):List ae->ud->Prop
 |[],d=>d=[]
 |p::ps,d=>∃v c,d=v::c/\cQ h p v/\uV h ps c
end
mutual
theorem cQ.mono{h h':PH}(le:PH.le h h'):∀{p:ae}{v:QV},cQ h p v->cQ h' p v
 |.mk ..,_,⟨e,f,g,j,n,s,t,u,y,z,c,d⟩=>⟨e,f,g.mono le,j.mono le,n.mono le,s.mono le,t.mono le,u,y,z,c.mono le,uV.mono le d⟩
theorem uV.mono{h h':PH}(le:PH.le h h'):∀{ps:List ae}{vs:ud},uV h ps vs->uV h' ps vs
 |[],_,h=>h
 |_::_,_,⟨v,c,d,e,f⟩=>⟨v,c,d,cQ.mono le e,uV.mono le f⟩
end
theorem uV.length{h:PH}:∀{ps:List ae}{vs:ud},uV h ps vs->vs.length=ps.length
 |[],_,h=>by rw[show _=[]from h];rfl
 |_::_,_,⟨_,_,c,_,d⟩=>by rw[c];simp[uV.length d]
theorem uV.get{h:PH}:∀{ps:List ae}{vs:ud},uV h ps vs->∀{i:Nat}{p:ae},ps[i]?=some p->∃v,vs[i]?=some v/\cQ h p v
 |[],_,_,i,p,e=>by simp at e
 |p0::ps,_,⟨v,c,rfl,f,d⟩,0,p,e=>da
 |p0::ps,_,⟨v,c,rfl,f,d⟩,i+1,p,e=>by simp at e;simpa using uV.get d e
def iv(n:Int):SV:=.at (.val (.int .i64 n))
def sv(s:Sl):SV:=.at (.val (.slice s.a s.len s.cap))
abbrev WF(k:Nat)(s:Sl)(i:Nat):=[(k,sv s),(k+1,iv s.len),(k+2,iv i)]
def WP l:=dD l [] [] [] false
def bv(b:Bool):SV:=.at (.val (.bool b))
def vv(v:Value):SV:=.at (.val v)
def cS(s:Sl):CV:=.val (.slice s.a s.len s.cap)
def cI(n:Int):CV:=.val (.int .i64 n)
def cB(b:Bool):CV:=.val (.bool b)
def cP(b:Nat):CV:=.val (.pointer (some ⟨b,0,none⟩))
def ID(id:Nat)(st:Nat->St)(ml:Nat->Prop)(mu:Nat->Nat):Nat×R8:=(id,{A:=Nat,st:=st,ml:=ml,mu:=mu})
theorem fH{i:Nat}(h:i<=140737488355328):IntKind.i64.wrap ((i:Int)+1)=((i+1:Nat):Int):=by
 grind[dW]
theorem an.at{s}(r:an h s l){x}(c:l[i]?=some x):∃b o,s.a=some ⟨b,o,none⟩/\bJ h b (o+i) [.int .i64 x]:=by
 have⟨b,o,d,f⟩:=r.row.get (i:=i) (e:=eI x) (by simp[c])
 grind[eI]
theorem MT{p:Prop}(h:p:=by repeat' (first|with_reducible rfl|exact trivial|refine⟨?_,?_⟩|rfl|(rw[fH aC];done)|(rw[fH aC]))):p:=h
def eA(k:Int):=k==3||k==4||k==5
def Iw(t:ByteArray):=t.toList==[]
def lU(v:VV):=
 if v.kind==1||v.kind==2 then v.int==0&&Iw v.text
 else if v.kind==3 then(v.int==0||v.int==1)&&Iw v.text
 else if v.kind==4 then Iw v.text
 else if v.kind==5 then v.int==0&&(v.text.size:Int)<=64
 else false
def kF v:=lU v&&v.kind>=3
def aV(v:VV):CV:=.val (.agg #[.int .i64 v.kind,.int .i64 v.int,.string v.text])
def cVZ:AC:=λc m h K=>∃k,c=[cI k]/\K (cB (eA k)) m h
def LN:AC:=λc m h K=>∃v,c=[aV v]/\K (cB (lU v)) m h
def K5:AC:=λc m h K=>∃v,c=[aV v]/\K (cB (kF v)) m h
def Qg:AC:=λc m h K=>∃s l,c=[cS s]/\an h s l/\K (cB (l.all eA)) m h
def f59_ctx(s:Sl)(l:ti)(m:MH)(h:PH):=
 jc [(99,cVZ)] [ID 2 (λi=>bO 15 16 [(5,sv s),(6,iv s.len),(7,iv i)] [] m h) (λi=>i<=l.length/\(l.take i).all eA=true) (λi=>l.length-i)] [] [] false
def cDQ(s:Sl)(l:ti)(m:MH)(h:PH):=
 jc [] [ID 2 (λi=>bO 22 23 [(5,sv s),(6,iv s.len),(7,iv i)] [] m h) (λi=>i<=l.length/\(l.take i).all eA=true) (λi=>l.length-i)] [] [] false
abbrev dJ a b c d e:=branch a b (branch c d e)
abbrev eE:=AU true
abbrev dP(a b:Int)(c d:Prop):=branch (a==b) c d
abbrev FA(a:VV):=a.text.toList
abbrev JM(a:tt)(b:VV)(c:MH)(d:PH):=a (AU (FA b==[])) c d
abbrev bH:=AU false
abbrev Ex(a:CV):=[a]
abbrev eO a b:=Ex a=[b]
abbrev iE(a:VV):=mX a.ag
abbrev sI(a:Bool)(b:Prop)(c:tt)(d:Nat->Option Obj)(e:Nat->Nat->Option Value):=branch a b (c bH d e)
abbrev cM(a b:Int)(c d:Prop):=branch (a !=b) c d
abbrev lN(a:Prop)(b:Nat->Prop):=a/\∀x,b x
abbrev aA a b c:=a/\b/\c
abbrev mZ a:=a=true
abbrev Es a:=List.all a eA
abbrev DB a b:=a<=b.length/\mZ (Es (List.take a b))
abbrev aH a:=eQ (Zq a)
abbrev bR(a:Nat):=fI a
abbrev aY(a:Sl):=eQ (bR a.len)
abbrev bB a:=fI 0=bR a
abbrev eV a b:=a/\b/\True
abbrev aX(a b:Int)(c d:Prop):=branch (decide (a<b)) c d
abbrev aF(a:Sl):Int:=a.len
abbrev aM(a:Nat->Nat->Prop):=∃x c,a x c
abbrev aI a b c d:=aA a b (c/\d)
abbrev aR a b c:=a=some (Addr.mk b c none)
abbrev dN(a:Nat)(b:Int)(c:Nat):=a+b.toNat*c
abbrev ab{α}(s:Sl)(i:Int)(k:Nat)(e:α->tm)(m:MH)(h:PH)(A:α->Prop):=aM (λb o=>aR s.a b o/\0<=i/\i<aF s/\∃y,aK m h b (dN o i k) (e y)/\A y)
attribute [push_cast] ab
abbrev bI(a b c:Nat):=dN a b c
abbrev AB(a:Value):=[a]
abbrev bV a:=[pW a]
abbrev iJ a b:=eO (fD a) (fD b)
abbrev cC a b c:=branch (!a) b c
abbrev kO a b c:=aI a b c True
abbrev bX(a:Prop)(b c:Nat->Option Obj)(d e:PH):=kO a (b=c) (d=e)
abbrev Uu a:=IntKind.wrap IntKind.i64 a
abbrev bA(a:Nat)(b:Int):=Uu (a+b)
abbrev rI(a:Nat)(b c:tm)(d:Bool->Prop):=∃x,gh Tryz.prog a (.agg (.mk b)) (.agg (.mk c)) x/\d x
abbrev An(a:PV):=a.left.ag
abbrev dU(a b:Value)(c:tm):=a::b::c
abbrev bD a b c:=pW a::pW b::c
abbrev wM a b c:=bD a b (bD 0 0 c)
abbrev nP a:=wM 0 0 a
abbrev wR:=[EN]
abbrev CA(a:PV):=a.right.ag
abbrev Bu(a:OV):=iE a.value
abbrev zW(a:OV):=a.value.kind
abbrev iA(a b:Int)(c d:Prop):=branch (decide (a>=b)) c d
abbrev Bl:=bD 0 0 wR
attribute [push_cast] dJ eE dP FA JM bH Ex eO iE sI cM lN aA mZ Es DB aH bR aY bB eV aX aF aM aI aR dN bI AB bV iJ cC kO bX Uu bA rI An dU bD wM nP wR CA Bu zW iA Bl
abbrev ST:=MH->PH->tt->Prop
def aaZ(k:Int):ST:=λm h K=>dJ (k==3) (K eE m h) (k==4) (K eE m h) (K (AU (k==5)) m h)
def N9 v:=λm h K=>let A:=dP v.int 0 (JM K v m h) (K bH m h);dJ (v.kind==1) A (v.kind==2) A (dJ (v.kind==3) (dJ (v.int==0) (JM K v m h) (v.int==1) (JM K v m h) (K bH m h)) (v.kind==4) (JM K v m h) (dP v.kind 5 (dP v.int 0 (K (AU (decide ((↑v.text.size:Int)<=64))) m h) (K bH m h)) (K bH m h)))
def md v:=λm h K=>∃c,eO (iE v) (iE c)/\sI (lU c) (K (AU (decide (v.kind>=3))) m h) K m h
def afQ v:=λm h K=>∃c,eO (iE v) (iE c)/\sI (lU c) (cM v.kind 1 (K (AU (v.kind !=2)) m h) (K bH m h)) K m h
def ln(s:Sl)(l:ti):ST:=λm h K=>lN (∃x,DB x l/\aH s/\aY s/\bB x/\eV (m=m) (h=h)) (λx=>DB x l->aX x (aF s) (ab s x 1 bV m h (λy=>∃k,iJ y k/\cC (eA k) (K bH m h) (∃c,DB c l/\l.length-c<l.length-x/\aH s/\aY s/\bX (fI (bA x 1)=bR c) m m h h))) (K eE m h))
def Wn(s:Sl)(l:ti):ST:=λm h K=>lN (∃x,DB x l/\aH s/\aY s/\bB x/\eV (m=m) (h=h)) (λx=>DB x l->aX x (aF s) (aM (λb o=>aR s.a b o/\0<=(↑x:Int)/\x<aF s/\∃y,let A:=∃c,DB c l/\l.length-c<l.length-x/\aH s/\aY s/\bX (fI (bA x 1)=bR c) m m h h;aK m h b (bI o x 1) (bV y)/\cM y 3 (cM y 4 (cM y 5 (K bH m h) A) A) A)) (K eE m h))
theorem dvQ v m h K:N9 v m h K=xS (jc [] [] [] [] false) Tryz.f114 (cZ Tryz.f114) (entry Tryz.f114.ntmps [aV v] m h) K:=bt
theorem lQ{x y}(c:K (cB x) m h)(e:x=y):K (.val (.bool y)) m h:=e▸c
theorem cpQ{v}(c:K (cB (lU v)) m h):N9 v m h K:=by
 dsimp only[N9,push_cast]
 repeat' (first|(refine aB (λ_=>?_) (λ_=>?_))|(refine lQ c ?_;simp_all[lU,Iw]))
theorem gV{f fn}(n:Tryz.prog.funcs[f]?=some fn){S}(j:∀c m h K,S c m h K->∃C:bk,C.P=Tryz.prog/\(∀g S,cg C.cq g=some S->uz g S)/\∃N:ST,N m h K=xS C fn (cZ fn) (entry fn.ntmps c m h) K/\N m h K)(s:fn.body=some (cZ fn):=by rfl)(d:(fn.name== "runtime.NumGoroutine")=false:=by decide):uz f S:=eM n s d λc m h K t=>let⟨C,hC,hs,N,e,hn⟩:=j c m h K t;⟨C,hC,hs,e▸hn⟩
theorem Vf:uz 99 cVZ:=by
 refine gV func99 ?_;rintro c m h K⟨k,rfl,d⟩;refine⟨jc [] [] [] [] false,rfl,aG,aaZ k,bt,?_⟩;dsimp only[aaZ,push_cast]
 repeat' (first|(refine aB (λ_=>?_) (λ_=>?_))|(refine lQ d ?_;simp_all[eA]))
theorem Vg:uz 93 LN:=by
 refine gV func93 ?_;rintro c m h K⟨v,rfl,d⟩;refine⟨jc [] [] [] [] false,rfl,aG,N9 v,bt,?_⟩;exact cpQ d
theorem Lz:uz 114 LN:=by
 refine eM (fn:=Tryz.f114) (c:=cZ Tryz.f114) func114 rfl bx ?_;rintro d m h K⟨v,rfl,e⟩;refine⟨jc [] [] [] [] false,rfl,aG,?_⟩;rw[<-dvQ v m h K];exact cpQ e
theorem iq:uz 50 K5:=by
 refine gV func50 ?_;rintro c m h K⟨v,rfl,d⟩;refine⟨jc [(93,LN)] [] [] [] false,rfl,aD Vg aG,md v,bt,?_⟩;dsimp only[md,push_cast];refine⟨v,rfl,?_⟩
 repeat' (first|(refine aB (λ_=>?_) (λ_=>?_))|(refine lQ d ?_;simp_all[kF]))
theorem Ki:uz 71 K5:=by
 refine gV func71 ?_;rintro e m h K⟨v,rfl,c⟩;refine⟨jc [(114,LN)] [] [] [] false,rfl,aD Lz aG,afQ v,bt,?_⟩;dsimp only[afQ,push_cast];refine⟨v,rfl,?_⟩;refine aB (λd=>aB (λf=>lQ c ?_) (λf=>lQ c ?_)) (λd=>lQ c ?_)
 .grind[kF,lU]
 .grind[kF]
 .simp[kF,d]
theorem EI{α p}{l:List α}{x}(hx:l[i]?=some x):(l.take (i+1)).all p=((l.take i).all p&&p x):=by
 grind[sy]
theorem R4{α p}{l:List α}{x}(hx:l[i]?=some x)(c:p x=false):l.all p=false:=by
 grind
theorem jr:uz 59 Qg:=by
 refine gV func59 ?_;rintro f m h K⟨s,l,rfl,c,e⟩;refine⟨f59_ctx s l m h,rfl,aD Vf aG,ln s l,bt,?_⟩;dsimp only[ln,push_cast];have z:=c.e;have A:=c.len;refine⟨⟨0,⟨aC,bu⟩,rfl,rfl,rfl,rfl,rfl,trivial⟩,λi D=>aE (λd=>?_) (λg=>?_)⟩
 .obtain⟨x,j⟩:∃x,l[i]?=some x:=⟨l[i]'(by omega),sh _⟩
  have⟨n,t,u,E⟩:=c.at j;refine⟨n,t,u,aC,d,x,.ay da,x,rfl,aB (λy=>lQ e ?_) (λy=>?_)⟩
  .grind
  .refine⟨i+1,⟨aC,?_⟩,aC,rfl,rfl,by grind[fH],rfl,rfl,trivial⟩
   grind[EI]
 .refine lQ e ?_
  grind
theorem a9X:uz 144 Qg:=by
 refine gV func144 ?_;rintro n m h K⟨s,l,rfl,d,f⟩;refine⟨cDQ s l m h,rfl,aG,Wn s l,bt,?_⟩;dsimp only[Wn,push_cast];have D:=d.e;have E:=d.len;refine⟨⟨0,⟨aC,bu⟩,rfl,rfl,rfl,rfl,rfl,trivial⟩,λi F=>aE (λe=>?_) (λt=>?_)⟩
 .obtain⟨x,g⟩:∃x,l[i]?=some x:=⟨l[i]'(by omega),sh _⟩
  have⟨u,z,A,G⟩:=d.at g;have c:eA x=true->(l.take (i+1)).all eA=true:=λj=>by grind[EI]
  refine⟨u,z,A,aC,e,x,.ay da,?_⟩;have next:eA x=true->∃(y:Nat),(y<=l.length/\(l.take y).all eA=true)/\l.length-y<l.length-i/\y=i+1:=λj=>⟨i+1,⟨aC,c j⟩,aC,rfl⟩
  repeat' (first|(refine aB (λ_=>?_) (λ_=>?_))|(refine lQ f (R4 g ?_);grind[eA])|(refine⟨i+1,⟨aC,c (by simp_all[eA])⟩,aC,rfl,rfl,by rw[fH aC],rfl,rfl,trivial⟩))
 .refine lQ f ?_
  grind
def R2(a b:VV):=a.kind==b.kind&&(a.int==b.int&&(a.text.toList==b.text.toList&&true))
def oe(a b:OV):=a.kind==b.kind&&(a.index==b.index&&(R2 a.value b.value&&true))
theorem qP{f e d xs c w x y r g}(j:(f.name== "_")=false)(hx:CY Tryz.prog (part f.type xs f.offset)=some x)(n:CY Tryz.prog (part f.type c f.offset)=some y)(s:(Op.equalIn d f.type x y).run Tryz.prog w=.ok r w)(t:(Op.eqFields d xs c e).run Tryz.prog w=.ok g w):(Op.eqFields d xs c (f::e)).run Tryz.prog w=.ok (r&&g) w:=by
 have j:f.name≠ "_" :=da
 simp only[Op.eqFields,if_pos j,Sem.run_bind,Em _ _ _ hx,Em _ _ _ n,Result.andThen_ok,s];cases r
 .simp
 grind
noncomputable def Uo t k:=(Tryz.prog.fieldsOf t).toList.getD k default
theorem bxJ a b d w:(Op.equalIn (d+2) 58 (.agg #[.int .i64 a.kind,.int .i64 a.int,.string a.text]) (.agg #[.int .i64 b.kind,.int .i64 b.int,.string b.text])).run Tryz.prog w=.ok (R2 a b) w:=by
 rw[run_equalIn_struct w (d+1) 58 _ _ bt bt,show(Tryz.prog.fieldsOf 58).toList=[Uo 58 0,Uo 58 1,Uo 58 2]by kernel_rfl];refine qP (x:=.int .i64 a.kind) (y:=.int .i64 b.kind) bt bt bt (run_equalIn_int w d _ .i64 .i64 _ _ bt) ?_;refine qP (x:=.int .i64 a.int) (y:=.int .i64 b.int) bt bt bt (run_equalIn_int w d _ .i64 .i64 _ _ bt) ?_;refine qP (x:=.string a.text) (y:=.string b.text) bt bt bt (run_equalIn_string w d _ _ _ bt) ?_;simp[Op.eqFields]
theorem dwQ a b d w:(Op.equalIn (d+3) 60 (.agg #[.int .i64 a.kind,.int .i64 a.index,.int .i64 a.value.kind,.int .i64 a.value.int,.string a.value.text]) (.agg #[.int .i64 b.kind,.int .i64 b.index,.int .i64 b.value.kind,.int .i64 b.value.int,.string b.value.text])).run Tryz.prog w=.ok (oe a b) w:=by
 rw[run_equalIn_struct w (d+2) 60 _ _ bt bt,show(Tryz.prog.fieldsOf 60).toList=[Uo 60 0,Uo 60 1,Uo 60 2]by kernel_rfl];refine qP (x:=.int .i64 a.kind) (y:=.int .i64 b.kind) bt bt bt (run_equalIn_int w (d+1) _ .i64 .i64 _ _ bt) ?_;refine qP (x:=.int .i64 a.index) (y:=.int .i64 b.index) bt bt bt (run_equalIn_int w (d+1) _ .i64 .i64 _ _ bt) ?_;refine qP (x:=.agg #[.int .i64 a.value.kind,.int .i64 a.value.int,.string a.value.text]) (y:=.agg #[.int .i64 b.value.kind,.int .i64 b.value.int,.string b.value.text]) bt bt bt ?_ ?_
 .rw[show(Uo 60 2).type=58 by kernel_rfl];grind[bxJ]
 .simp[Op.eqFields]
theorem HS a b:gh Tryz.prog 58 (.agg #[.int .i64 a.kind,.int .i64 a.int,.string a.text]) (.agg #[.int .i64 b.kind,.int .i64 b.int,.string b.text]) (R2 a b):=
 ⟨bt,λw=>bxJ a b 9998 w⟩
theorem FQ a b:gh Tryz.prog 60 (.agg #[.int .i64 a.kind,.int .i64 a.index,.int .i64 a.value.kind,.int .i64 a.value.int,.string a.value.text]) (.agg #[.int .i64 b.kind,.int .i64 b.index,.int .i64 b.value.kind,.int .i64 b.value.int,.string b.value.text]) (oe a b):=
 ⟨bt,λw=>dwQ a b 9997 w⟩
theorem Ej{a b:ByteArray}(h:a.toList=b.toList):a=b:=by
 rw[ByteArray.toList_eq,ByteArray.toList_eq]at h;cases a;simp_all
theorem Ky{a b}:R2 a b=true↔a=b:=by
 obtain⟨k,i,t⟩:=a;obtain⟨c,d,e⟩:=b;simp only[R2,Bool.and_true,su,beq_iff_eq,VV.mk.injEq]
 grind[Ej]
theorem HT{a b}:oe a b=true↔a=b:=by
 obtain⟨k,i,t⟩:=a;obtain⟨c,d,e⟩:=b;simp_all[oe,Bool.and_true,beq_iff_eq,OV.mk.injEq,Ky]
def al:VV:=⟨0,0,⟨#[]⟩⟩
def eU:OV:=⟨0,0,al⟩
def wU(l:ti)(o:OV):=if o.index<0||o.index>=l.length|| !R2 o.value al then 0 else l.getD o.index.toNat 0
def ca ak params o:=
 if o.kind==3 then(if o.index !=0|| !kF o.value then 0 else o.value.kind)
 else if o.kind==2 then wU params o
 else if o.kind==1 then wU ak o
 else 0
def A4(v:PV):=v.dy==0&&oe v.left eU&&oe v.right eU
def aO(o:OV):CV:=.val (.agg #[.int .i64 o.kind,.int .i64 o.index,.int .i64 o.value.kind,.int .i64 o.value.int,.string o.value.text])
def aP(p:PV):CV:=.val (.agg #[.int .i64 p.op,.int .i64 p.dy,
 .int .i64 p.left.kind,.int .i64 p.left.index,.int .i64 p.left.value.kind,.int .i64 p.left.value.int,.string p.left.value.text,
 .int .i64 p.right.kind,.int .i64 p.right.index,.int .i64 p.right.value.kind,.int .i64 p.right.value.int,.string p.right.value.text,
 .slice p.args.a p.args.len p.args.cap])
def a2S(s t:Sl):CV:=.val (.agg #[.slice s.a s.len s.cap,.slice t.a t.len t.cap])
def cTJ:AC:=λc m h K=>∃v,c=[aP v]/\K (cB (A4 v)) m h
def bGJ:AC:=λe m h K=>∃s t d c o,e=[cS s,cS t,aO o]/\an h s d/\an h t c/\K (cI (ca d c o)) m h
def aCX:AC:=λe m h K=>∃s t d c o,e=[a2S s t,aO o]/\an h s d/\an h t c/\K (cI (ca d c o)) m h
def Wa v:=λm h K=>dP v.dy 0 (rI 60 (An v) (nP wR) (λr=>sI r (rI 60 (CA v) (nP wR) (λc=>K (AU c) m h)) K m h)) (K bH m h)
def Kw(s t:Sl)(o:OV):ST:=λm h K=>dJ (o.kind==3) (cM o.index 0 (K (fD 0) m h) (∃v,eO (Bu o) (iE v)/\cC (kF v) (K (fD 0) m h) (K (fD (zW o)) m h))) (o.kind==2) (aX o.index 0 (K (fD 0) m h) (iA o.index (aF t) (K (fD 0) m h) (rI 58 o.value.ag Bl (λr=>cC r (K (fD 0) m h) (ab t o.index 1 bV m h (λy=>K (fD y) m h)))))) (dP o.kind 1 (aX o.index 0 (K (fD 0) m h) (iA o.index (aF s) (K (fD 0) m h) (rI 58 o.value.ag Bl (λr=>cC r (K (fD 0) m h) (ab s o.index 1 bV m h (λy=>K (fD y) m h)))))) (K (fD 0) m h))
theorem Dm{x y}(c:K (cI x) m h)(e:x=y):K (.val (.int .i64 y)) m h:=e▸c
theorem an.nt{s}(r:an h s l){n}(d:0<=n)(f:n<(l.length:Int)):∃b o,s.a=some ⟨b,o,none⟩/\bJ h b (o+n.toNat*1) [.int .i64 (l.getD n.toNat 0)]:=by
 have c:l[n.toNat]?=some (l.getD n.toNat 0):=by
  grind
 have⟨b,o,e,r⟩:=r.at c
 grind
theorem bxX{s t ak params o}(y:an h s ak)(z:an h t params)(c:K (cI (ca ak params o)) m h):Kw s t o m h K:=by
 have D:=y.e;have E:=z.e;dsimp only[Kw,push_cast];refine aB (λA=>aB (λf=>Dm c ?_) (λf=>⟨o.value,rfl,aB (λd=>Dm c ?_) (λd=>Dm c ?_)⟩)) (λA=>aB (λf=>?_) (λf=>aB (λd=>?_) (λd=>Dm c ?_)))
 .simp_all[ca]
 .simp_all[ca]
 .simp_all[ca]
 .have g:ca ak params o=wU params o:=by simp_all[ca]
  rw[g]at c;refine aE (λd=>Dm c ?_) (λd=>aE (λj=>Dm c ?_) (λj=>⟨R2 o.value al,HS o.value al,aB (λu=>Dm c ?_) (λu=>?_)⟩))
  .simp[wU,d]
  .grind[wU]
  .grind[wU,Bool.not_eq_true']
  .have⟨b,off,e,r⟩:=z.nt (n:=o.index) aC aC;refine⟨b,off,e,aC,aC,_,.ay r,Dm c ?_⟩
   grind[wU,Bool.not_eq_false']
 .have g:ca ak params o=wU ak o:=by simp_all[ca]
  rw[g]at c;refine aE (λd=>Dm c ?_) (λd=>aE (λj=>Dm c ?_) (λj=>⟨R2 o.value al,HS o.value al,aB (λu=>Dm c ?_) (λu=>?_)⟩))
  .simp[wU,d]
  .grind[wU]
  .grind[wU,Bool.not_eq_true']
  .have⟨b,off,e,r⟩:=y.nt (n:=o.index) aC aC;refine⟨b,off,e,aC,aC,_,.ay r,Dm c ?_⟩
   grind[wU,Bool.not_eq_false']
 .simp_all[ca]
theorem a6Z:uz 159 cTJ:=by
 refine gV func159 ?_;rintro d m h K⟨v,rfl,c⟩;refine⟨jc [] [] [] [] false,rfl,aG,Wa v,bt,?_⟩;dsimp only[Wa,push_cast];refine aB (λe=>⟨oe v.left eU,FQ v.left eU,aB (λf=>⟨oe v.right eU,FQ v.right eU,lQ c ?_⟩) (λf=>lQ c ?_)⟩) (λe=>lQ c ?_)
 all_goals simp_all[A4]
theorem a6X:uz 160 bGJ:=by
 refine gV func160 ?_;rintro e m h K⟨s,t,d,c,o,rfl,f,g,j⟩;refine⟨jc [(50,K5)] [] [] [] false,rfl,aD iq aG,Kw s t o,bt,?_⟩;exact bxX f g j
theorem a5J:uz 162 aCX:=by
 refine gV func162 ?_;rintro e m h K⟨s,t,d,c,o,rfl,f,g,j⟩;refine⟨jc [(71,K5)] [] [] [] false,rfl,aD Ki aG,Kw s t o,bt,?_⟩;exact bxX f g j
def ao.args:ao->List ao
 |.mk _ _ _ _ l=>l
mutual
def qW:ao->Int->Int
 |.mk _ _ _ _ args,n=>mL args (n+1)
def mL:List ao->Int->Int
 |[],n=>n
 |p::ps,n=>if n<=24 then mL ps (qW p n)else n
end
mutual
def oH:ao->Nat->Bool
 |.mk _ _ _ _ _,0=>true
 |.mk _ _ _ _ args,n+1=>uK args n
def uK:List ao->Nat->Bool
 |[],_=>false
 |p::ps,n=>oH p n||uK ps n
end
mutual
theorem GR:∀(p:ao)(n:Int),n<=24->n<qW p n/\qW p n<=25
 |.mk _ _ _ _ args,n,h=>by
  have:=KS args (n+1) aC
  grind[qW]
theorem KS:∀(ps:List ao)(n:Int),n<=25->n<=mL ps n/\mL ps n<=25
 |[],n,h=>by grind[mL]
 |p::ps,n,h=>by
  simp only[mL];split
  .rename_i c;have d:=GR p n c;have e:=KS ps (qW p n) d.2;omega
  .omega
end
theorem XQ ps{n}(h:¬n<=24):mL ps n=n:=by
 cases ps
 .simp[mL]
 simp_all[mL,if_neg]
theorem Ol(n:Nat):∀ps:List ao,uK ps n=ps.any (oH · n)
 |[]=>by simp[uK]
 |p::ps=>by simp[uK,Ol n ps]
theorem Ar{p:ao}{q}(h:q∈p.args):SizeOf.sizeOf q<SizeOf.sizeOf p:=by
 cases p with
 |mk op c l r args=>
  have:=sizeOf_lt_of_mem h
  grind[ao.args]
theorem fV.open{v}(r:fV h p v):p.args.length<=502633886983/\v.args.len=p.args.length/\∀i q,p.args[i]?=some q->∃b o u,v.args.a=some ⟨b,o,none⟩/\bJ h b (o+i*13) (PV.ag u)/\fV h q u:=by
 cases p with
 |mk op f l s args=>
  obtain⟨t,y,z,A,g,D,c,d⟩:=r;have E:=d.length;refine⟨g,?_,λi q j=>?_⟩
  .have:=c.len;grind[ao.args]
  .have⟨u,n,F⟩:=d.get j;have⟨b,o,e,r⟩:=c.get (i:=i) (e:=PV.ag u) (by simp[n])
   grind
def bmQ(N:Nat):AC:=λc m h K=>∃v p k,c=[aP v,cI k]/\fV h p v/\SizeOf.sizeOf p<N/\0<=k/\k<=24/\K (cI (qW p k)) m h
def YN(N:Nat):AC:=λc m h K=>∃v p,∃k:Nat,c=[aP v,cI k]/\fV h p v/\SizeOf.sizeOf p<N/\k<=100/\K (cB (oH p k)) m h
def cFQ(N:Nat)(v:PV)(p:ao)(k:Int)(m:MH)(h:PH):=
 jc [(134,bmQ N)] [(3,{A:=Nat×Int,st:=λx=>bO 27 29 [(1,iv x.2),SW 2,(5,iv x.1)] [UV 2 63 v.ag] m h,ml:=λx=>x.1<=p.args.length/\0<=x.2/\x.2<=25/\mL (p.args.drop x.1) x.2=qW p k,mu:=λx=>p.args.length-x.1})] [] [] false
def cEJ(N:Nat)(v:PV)(p:ao)(k:Nat)(m:MH)(h:PH):=
 jc [(135,YN N)] [ID 4 (λi=>bO 23 25 [(1,iv k),SW 2,(10,iv v.args.len),(11,iv i)] [UV 2 63 v.ag] m h) (λi=>i<=p.args.length/\(p.args.take i).any (oH · (k-1))=false) (λi=>p.args.length-i)] [] [] false
abbrev xO(a:ao):=a.args.length
abbrev Rt(a:Nat×Int)(b:ao)(c d:Int):=a.1<=xO b/\0<=a.2/\a.2<=c/\mL (List.drop a.1 b.args) a.2=qW b d
abbrev cG a b:=fI a=fI b
abbrev j6 a b:=Uu (a+b)
abbrev gZ:=eP 2
abbrev Ay(a:PV):=oQ 63 (List.map At.val a.ag)
abbrev kZ a:=eQ (Ay a)
abbrev F3(a b:Int)(c d:Prop):=branch (decide (a<=b)) c d
abbrev Eu(a:PV->ao->Prop):=∃x c,a x c
abbrev nN(a b:CV):=a::[b]
abbrev dZ a b:=nN a (fD b)
abbrev oK(a:PV):=mX a.ag
abbrev BT(a:ao)(b:Nat):=SizeOf.sizeOf a<b
abbrev dK(a:Int):=0<=a
abbrev J8 a:=a=false
abbrev Ru(a:Nat)(b:ao)(c:ao->ao)(d:Nat):=a<=xO b/\J8 (List.any (List.take a b.args) (λx=>oH (c x) (d-1)))
abbrev qZ a:=eQ (bR a)
abbrev tB(a:PV):=aY a.args
abbrev jQ a b:=Uu (a-b)
abbrev jZ(a:Nat):=jQ a 1
abbrev dC(a b:PH):=a=b/\True
attribute [push_cast] xO Rt cG j6 gZ Ay kZ F3 Eu nN dZ oK BT dK J8 Ru qZ tB jQ jZ dC
def Wx(N:Nat)(v:PV)(p:ao)(k:Int):ST:=λm h K=>(∃x,Rt x p 25 k/\cG (j6 k 1) x.2/\gZ/\bB x.1/\bX (kZ v) m m h h)/\∀x,Rt x p 25 k->aX x.1 (aF v.args) (F3 x.2 24 (ab v.args x.1 13 PV.ag m h (λy=>Eu (λf e=>∃c,dZ (oK y) x.2=dZ (oK f) c/\fV h e f/\BT e N/\dK c/\c<=24/\∃d,Rt d p 25 k/\xO p-d.1<xO p-x.1/\cG (qW e c) d.2/\gZ/\fI (bA x.1 1)=bR d.1/\kZ v/\m=m/\h=h/\True))) (K (fD x.2) m h)) (K (fD x.2) m h)
def Ww(N:Nat)(v:PV)(p:ao)(k:Nat):ST:=λm h K=>dP k 0 (K eE m h) (lN (∃x,Ru x p (λc=>c) k/\qZ k/\eP 2/\tB v/\bB x/\kZ v/\m=m/\h=h/\True) (λx=>Ru x p (λc=>c) k->aX x (aF v.args) (ab v.args x 13 PV.ag m h (λy=>Eu (λg d=>∃e:Nat,dZ (oK y) (jZ k)=dZ (oK g) e/\fV h d g/\BT d N/\e<=100/\branch (oH d e) (K eE m h) (∃f,Ru f p (λc=>c) k/\xO p-f<xO p-x/\qZ k/\gZ/\tB v/\fI (bA x 1)=bR f/\kZ v/\m=m/\dC h h)))) (K bH m h)))
theorem asX:∀N,uz 134 (bmQ N)
 |0=>by
  refine gV func134 ?_;rintro g m h K⟨v,p,k,rfl,y,E,_⟩;omega
 |N+1=>by
  refine gV func134 ?_;rintro g m h K⟨v,p,k,rfl,y,E,M,O,z⟩;refine⟨cFQ N v p k m h,rfl,aD (asX N) aG,Wx N v p k,bt,?_⟩;dsimp only[Wx,push_cast];have⟨Q,A,d⟩:=y.open;refine⟨⟨(0,k+1),⟨bu,cv,cv,?_⟩,by grind[dW],rfl,rfl,rfl,rfl,rfl,trivial⟩,?_⟩
  .cases p;simp[qW,ao.args]
  rintro⟨i,n⟩⟨F,e,j,G⟩;simp only at F e j G;refine aE (λs=>aE (λf=>?_) (λf=>Dm z ?_)) (λH=>Dm z ?_)
  .simp only at s f;obtain⟨q,D⟩:∃q,p.args[i]?=some q:=⟨p.args[i]'(by omega),sh _⟩
   have⟨b,o,u,I,J,t⟩:=d i q D
   have R:p.args.drop i=q::p.args.drop (i+1):=by
    grind[drop_eq_getElem_cons]
   have S:=GR q n f;refine⟨b,o,I,bu,aC,u,.ay da,u,q,n,rfl,t,?_,e,f,(i+1,qW q n),⟨aC,aC,aC,?_⟩,aC,rfl,rfl,by grind[fH],rfl,rfl,rfl,trivial⟩
   .have:=Ar (si D);omega
   simp_all[mL]
  .grind[XQ]
  grind[mL,drop_of_length_le]
theorem asQ:∀N,uz 135 (YN N)
 |0=>by
  refine gV func135 ?_;rintro f m h K⟨v,p,k,rfl,s,D,_⟩;omega
 |N+1=>by
  refine gV func135 ?_;rintro f m h K⟨v,p,k,rfl,s,D,I,e⟩;refine⟨cEJ N v p k m h,rfl,aD (asQ N) aG,Ww N v p k,bt,?_⟩;dsimp only[Ww,push_cast];have⟨J,t,d⟩:=s.open;refine aB (λy=>lQ e ?_) (λy=>?_)
  .have:k=0:=da
   subst this;cases p;simp[oH]
  .have y:k≠0:=da
   have g:oH p k=p.args.any (oH · (k-1)):=by
    obtain⟨z,rfl⟩:∃z,k=z+1:=⟨k-1,aC⟩
    cases p;simp[oH,Ol,ao.args]
   rw[g]at e;refine⟨⟨0,⟨aC,bu⟩,MT⟩,λi M=>aE (λj=>?_) (λE=>lQ e ?_)⟩
   .obtain⟨q,A⟩:∃q,p.args[i]?=some q:=⟨p.args[i]'(by omega),sh _⟩
    have⟨b,o,u,F,G,n⟩:=d i q A;refine⟨b,o,F,aC,j,u,.ay da,u,q,k-1,?_,n,?_,aC,aB (λH=>lQ e ?_) (λH=>?_)⟩
    .grind[dW]
    .have:=Ar (si A);omega
    .grind
    .refine⟨i+1,⟨aC,?_⟩,aC,rfl,rfl,rfl,by grind[fH],rfl,rfl,rfl,trivial⟩
     grind[sy]
   grind
def Li(c:Int)(l r:OV):=c==0&&oe l eU&&oe r eU
mutual
def mI(ak params:ti):ao->Bool
 |.mk op c l r args=>
  if op==1||op==2 then Li c l r&&args.length==0
  else if op==3 then args.length==0&&c>=1&&c<=6&&ca ak params l !=0&&ca ak params l==ca ak params r
  else if op==4||op==5||(op==6&&args.length==1)then Li c l r&&B7 ak params args
  else false
def B7(ak params:ti):List ao->Bool
 |[]=>true
 |p::ps=>mI ak params p&&B7 ak params ps
end
theorem Il(ak params:ti):∀ps:List ao,B7 ak params ps=ps.all (mI ak params)
 |[]=>by simp[B7]
 |p::ps=>by simp[B7,Il ak params ps]
structure Rm(ak params:ti)(v:PV)(p:ao):Prop where
 eq:mI ak params p=(A4 v&&p.args.all (mI ak params))
def YA(N:Nat):AC:=λe m h K=>∃s t d c v p,e=[cS s,cS t,aP v]/\an h s d/\an h t c/\fV h p v/\SizeOf.sizeOf p<N/\K (cB (mI d c p)) m h
def T3(N:Nat):AC:=λe m h K=>∃s t d c v p,e=[a2S s t,aP v]/\an h s d/\an h t c/\fV h p v/\SizeOf.sizeOf p<N/\K (cB (mI d c p)) m h
def cEZ N s t ak params v p m h:=
 jc [(136,YA N),(159,cTJ),(160,bGJ)] [ID 17 (λi=>bO 84 87 [(0,sv s),(1,sv t),SW 5,(70,iv v.args.len),(71,iv i)] [UV 5 63 v.ag] m h) (λi=>i<=p.args.length/\(p.args.take i).all (mI ak params)=true) (λi=>p.args.length-i)] [(14,{A:=Unit,st:=λ_=>bO 84 87 [(0,sv s),(1,sv t),SW 5] [UV 5 63 v.ag] m h,ml:=λ_=>Rm ak params v p})] [] false
def cCZ(N:Nat)(s t:Sl)(ak params:ti)(v:PV)(p:ao)(m:MH)(h:PH):=
 jc [(146,T3 N),(162,aCX)] [ID 18 (λi=>bO 87 89 ([SW 2,SW 3]++WF 76 v.args i) [(2,.cells 201 [.val (.slice s.a s.len s.cap),.val (.slice t.a t.len t.cap)]),UV 3 63 v.ag] m h) (λi=>i<=p.args.length/\(p.args.take i).all (mI ak params)=true) (λi=>p.args.length-i)] [(15,{A:=Unit,st:=λ_=>bO 87 89 [SW 2,SW 3] [(2,.cells 201 [.val (.slice s.a s.len s.cap),.val (.slice t.a t.len t.cap)]),UV 3 63 v.ag] m h,ml:=λ_=>Rm ak params v p})] [] false
abbrev qK(a:PV):=aF a.args
abbrev lC(a:Sl->Sl->Prop):=∃x c,a x c
abbrev C7(a:ti->ti->Prop):=∃x c,a x c
abbrev Mw(a:uc)(b:Sl->Sl->OV->uc)(c:PH)(d:ti->ti->OV->Prop):=lC (λx e=>C7 (λf g=>∃j,a=b x e j/\an c x f/\an c e g/\d f g j))
abbrev bU a b:=tV a::b
abbrev bL a b:=nN a (mX b)
abbrev bY:=eP 5
abbrev Hf a b c d:=a<=xO b/\mZ (List.all (List.take a b.args) (mI c d))
abbrev Mx(a:uc)(b:Sl->Sl->PV->uc)(c:PH)(d:Nat)(e:ti->ti->ao->Prop):=lC (λx g=>C7 (λj n=>Eu (λs f=>a=b x g s/\an c x j/\an c g n/\fV c f s/\BT f d/\e j n f)))
abbrev gM(a b:MH)(c d:PH):=eV (a=b) (c=d)
abbrev gI a b:=fW a::fW b::[]
abbrev cR:=eP 3
abbrev dM(a b:At)(c:ue):=a::b::c
abbrev kW a b:=dM a b []
abbrev Fg a b:=eQ (oQ 201 [rF a,rF b])
attribute [push_cast] qK lC C7 Mw bU bL bY Hf Mx gM gI cR dM kW Fg
def Wv N s t ak params v p:=λm h K=>let B:=∃x:Unit,Rm ak params v p/\aH s/\aH t/\bY/\bX (kZ v) m m h h;let C:=∃d,eO (oK v) (oK d)/\sI (A4 d) (K (AU (qK v==0)) m h) K m h;dJ (v.op==1) C (v.op==2) C (dJ (v.op==3) (Mw (bU s (bL (tV t) (An v))) (λe f o=>bU e (bL (tV f) o.ag)) h (λc g o=>dP (qK v) 0 (iA v.dy 1 (F3 v.dy 6 (cM (ca c g o) 0 (Mw (bU s (bL (tV t) (CA v))) (λe f j=>bU e (bL (tV f) j.ag)) h (λz n j=>K (AU (ca c g o==ca z n j)) m h)) (K bH m h)) (K bH m h)) (K bH m h)) (K bH m h))) (v.op==4) B (dJ (v.op==5) B (v.op==6) (cM (qK v) 1 (K bH m h) B) (K bH m h)))/\∀_:Unit,Rm ak params v p->∃d,eO (oK v) (oK d)/\cC (A4 d) (K bH m h) (lN (∃x,Hf x p ak params/\aH s/\aH t/\bY/\tB v/\bB x/\kZ v/\m=m/\dC h h) (λx=>Hf x p ak params->aX x (aF v.args) (ab v.args x 13 PV.ag m h (λy=>Mx (bU s (bL (tV t) y.ag)) (λe f A=>bU e (bL (tV f) A.ag)) h N (λc g n=>cC (mI c g n) (K bH m h) (∃u,Hf u p ak params/\xO p-u <xO p-x/\aH s/\aH t/\bY/\tB v/\fI (bA x 1)=bR u/\kZ v/\gM m m h h)))) (K eE m h)))
def Wl(N:Nat)(s t:Sl)(ak params:ti)(v:PV)(p:ao):ST:=λm h K=>let B:=∃x:Unit,Rm ak params v p/\gZ/\cR/\Fg s t/\bX (kZ v) m m h h;let C:=cM (qK v) 0 (K bH m h) B;dJ (v.op==3) (Mw (bL (mX (gI s t)) (An v)) (λd e o=>bL (mX (gI d e)) o.ag) h (λc f o=>Mw (bL (mX (gI s t)) (CA v)) (λd e g=>bL (mX (gI d e)) g.ag) h (λu j g=>dP (qK v) 0 (iA v.dy 1 (F3 v.dy 6 (cM (ca c f o) 0 (K (AU (ca c f o==ca u j g)) m h) (K bH m h)) (K bH m h)) (K bH m h)) (K bH m h)))) (v.op==1) C (dJ (v.op==2) C (v.op==6) (cM (qK v) 1 (K bH m h) B) (dJ (v.op==4) B (v.op==5) B (K bH m h)))/\∀_:Unit,Rm ak params v p->cM v.dy 0 (K bH m h) (rI 60 (An v) (nP wR) (λr=>cC r (K bH m h) (rI 60 (CA v) (nP wR) (λz=>cC z (K bH m h) (lN (∃x,Hf x p ak params/\gZ/\eP 3/\aH v.args/\tB v/\bB x/\Fg s t/\kZ v/\gM m m h h) (λx=>Hf x p ak params->aX x (aF v.args) (ab v.args x 13 PV.ag m h (λy=>Mx (bL (mX (gI s t)) y.ag) (λd e A=>bL (mX (gI d e)) A.ag) h N (λc f j=>cC (mI c f j) (K bH m h) (∃n,Hf n p ak params/\xO p-n<xO p-x/\gZ/\cR/\aH v.args/\aY v.args/\fI (bA x 1)=bR n/\Fg s t/\bX (kZ v) m m h h)))) (K eE m h)))))))
theorem fV.top{v}(r:fV h p v):p=.mk v.op v.dy v.left v.right p.args:=by
 cases p with
 |mk op c l d args=>obtain⟨e,f,g,j,_⟩:=r;grind[ao.args]
theorem Qn{ak params h p v}(r:fV h p v):mI ak params p=if v.op==1||v.op==2 then A4 v&&p.args.length==0
 else if v.op==3 then p.args.length==0&&v.dy>=1&&v.dy<=6&&ca ak params v.left !=0&&ca ak params v.left==ca ak params v.right
 else if v.op==4||v.op==5||(v.op==6&&p.args.length==1)then A4 v&&p.args.all (mI ak params)
 else false:=by
 have:=r.top;generalize p.args=xs at this⊢
 subst this;rw[mI,Il];rfl
theorem d0Z{n k:Nat}:((n:Int)==(k:Int))=(n==k):=by
 grind
theorem arJ:∀N,uz 136 (YA N)
 |0=>by
  refine gV func136 ?_;rintro n m h K⟨s,t,ak,params,v,p,rfl,_,_,y,Q,_⟩;omega
 |N+1=>by
  refine gV func136 ?_;rintro n m h K⟨s,t,ak,params,v,p,rfl,z,A,y,Q,d⟩;refine⟨cEZ N s t ak params v p m h,rfl,aD (arJ N) (aD a6Z (aD a6X aG)),Wv N s t ak params v p,bt,?_⟩;have⟨X,M,f⟩:=y.open;have Y:=Qn (ak:=ak) (params:=params) y;have R:((v.args.len:Int)==0)=(p.args.length==0):=da
  have Z:((v.args.len:Int) !=1)=(p.args.length !=1):=da
  dsimp only[Wv,push_cast];refine⟨?_,?_⟩
  .refine aB (λe=>⟨v,rfl,aB (λg=>lQ d ?_) (λg=>lQ d ?_)⟩) (λe=>aB (λS=>⟨v,rfl,aB (λg=>lQ d ?_) (λg=>lQ d ?_)⟩) (λS=>aB (λg=>⟨s,t,ak,params,v.left,rfl,z,A,?_⟩) (λg=>?_)))
   .grind
   .grind
   .grind
   .grind
   .have D:mI ak params p=(p.args.length==0&&v.dy>=1&&v.dy<=6&&ca ak params v.left !=0&&ca ak params v.left==ca ak params v.right):=da
    rw[D]at d;refine aB (λj=>aB (λE=>aB (λF=>aB (λG=>⟨s,t,ak,params,v.right,rfl,z,A,lQ d ?_⟩) (λG=>lQ d ?_)) (λF=>lQ d ?_)) (λE=>lQ d ?_)) (λj=>lQ d ?_)
    all_goals (rw[R]at j;simp only[beq_iff_eq,s0,decide_eq_false_iff_not]at*;simp[*])
   .refine aB (λj=>⟨(),⟨da⟩,MT⟩) (λj=>aB (λE=>⟨(),⟨da⟩,MT⟩) (λE=>aB (λF=>aB (λG=>lQ d ?_) (λG=>⟨(),⟨?_⟩,rfl,rfl,rfl,rfl,rfl,rfl,trivial⟩)) (λF=>lQ d ?_)))
    .grind
    .grind
    grind
  .intro _ H;rw[H.eq]at d;refine⟨v,rfl,aB (λe=>lQ d ?_) (λe=>?_)⟩
   .simp_all
   .have e:A4 v=true:=mp e
    rw[e,Bool.true_and]at d;refine⟨⟨0,⟨aC,bu⟩,rfl,rfl,rfl,rfl,rfl,rfl,rfl,rfl,trivial⟩,λi hi=>aE (λI=>?_) (λT=>lQ d ?_)⟩
    .obtain⟨q,O⟩:∃q,p.args[i]?=some q:=⟨p.args[i]'(by omega),sh _⟩
     have⟨b,o,u,U,V,J⟩:=f i q O;refine⟨b,o,U,aC,I,u,.ay da,s,t,ak,params,u,q,rfl,z,A,J,?_,aB (λW=>lQ d ?_) (λW=>?_)⟩
     .have:=Ar (si O);omega
     .grind
     .refine⟨i+1,⟨aC,?_⟩,aC,rfl,rfl,rfl,rfl,by grind[fH],rfl,rfl,rfl,trivial⟩
      grind[EI]
    grind
theorem arQ:∀N,uz 146 (T3 N)
 |0=>by
  refine gV func146 ?_;rintro j m h K⟨s,t,ak,params,v,p,rfl,_,_,n,S,_⟩;omega
 |N+1=>by
  refine gV func146 ?_;rintro j m h K⟨s,t,ak,params,v,p,rfl,y,z,n,S,d⟩;refine⟨cCZ N s t ak params v p m h,rfl,aD (arQ N) (aD a5J aG),Wl N s t ak params v p,bt,?_⟩;have⟨hl,O,g⟩:=n.open;have hv:=Qn (ak:=ak) (params:=params) n;have T:((v.args.len:Int)==0)=(p.args.length==0):=da
  have U:((v.args.len:Int) !=0)=(p.args.length !=0):=da
  have h1:((v.args.len:Int) !=1)=(p.args.length !=1):=da
  have Q:p.args.length=0->p.args.all (mI ak params)=true:=λe=>da
  dsimp only[Wl,push_cast];refine⟨?_,?_⟩
  .refine aB (λA=>⟨s,t,ak,params,v.left,rfl,y,z,s,t,ak,params,v.right,rfl,y,z,?_⟩) (λA=>aB (λe=>aB (λf=>lQ d ?_) (λf=>⟨(),⟨?_⟩,rfl,rfl,rfl,rfl,rfl,rfl,trivial⟩)) (λe=>aB (λD=>aB (λf=>lQ d ?_) (λf=>⟨(),⟨?_⟩,rfl,rfl,rfl,rfl,rfl,rfl,trivial⟩)) (λD=>aB (λE=>aB (λF=>lQ d ?_) (λF=>⟨(),⟨?_⟩,rfl,rfl,rfl,rfl,rfl,rfl,trivial⟩)) (λE=>aB (λf=>⟨(),⟨?_⟩,rfl,rfl,rfl,rfl,rfl,rfl,trivial⟩) (λf=>aB (λG=>⟨(),⟨?_⟩,rfl,rfl,rfl,rfl,rfl,rfl,trivial⟩) (λG=>lQ d ?_))))))
   .have V:v.op=3:=da
    have H:mI ak params p=(p.args.length==0&&v.dy>=1&&v.dy<=6&&ca ak params v.left !=0&&ca ak params v.left==ca ak params v.right):=da
    rw[H]at d;refine aB (λf=>aB (λG=>aB (λE=>aB (λF=>lQ d ?_) (λF=>lQ d ?_)) (λE=>lQ d ?_)) (λG=>lQ d ?_)) (λf=>lQ d ?_)
    all_goals (rw[T]at f;simp only[beq_iff_eq,s0,decide_eq_false_iff_not]at*;simp[*])
   .grind
   .grind
   .grind
   .grind
   .grind
   .grind
   .grind
   .grind
   grind
  .intro _ I;rw[I.eq]at d;refine aB (λe=>lQ d ?_) (λe=>⟨oe v.left eU,FQ v.left eU,aB (λD=>lQ d ?_) (λD=>⟨oe v.right eU,FQ v.right eU,aB (λA=>lQ d ?_) (λA=>?_)⟩)⟩)
   .simp_all[A4]
   .simp_all[A4]
   .simp_all[A4]
   .have e:A4 v=true:=by simp_all[A4]
    rw[e,Bool.true_and]at d;refine⟨⟨0,⟨aC,bu⟩,MT⟩,λi hi=>aE (λJ=>?_) (λW=>lQ d ?_)⟩
    .obtain⟨q,R⟩:∃q,p.args[i]?=some q:=⟨p.args[i]'(by omega),sh _⟩
     have⟨b,o,u,X,Y,M⟩:=g i q R;refine⟨b,o,X,aC,J,u,.ay da,s,t,ak,params,u,q,rfl,y,z,M,?_,aB (λZ=>lQ d ?_) (λZ=>?_)⟩
     .have:=Ar (si R);omega
     .grind
     .refine⟨i+1,⟨aC,?_⟩,aC,rfl,rfl,rfl,rfl,by grind[fH],rfl,rfl,rfl,rfl,trivial⟩
      grind[EI]
    grind
theorem ci{α}{l:List α}{x}(h:l[i]?=some x):l.drop i=x::l.drop (i+1):=by
 grind[List.getElem?_eq_some_iff,drop_eq_getElem_cons]
mutual
def qA:ao->Nat->Int->Bool×Int
 |.mk _ _ _ _ args,k,b=>if b<1 then(false,b-1)else match k with|0=>(false,b-1)|k+1=>AY args k (b-1)
def AY:List ao->Nat->Int->Bool×Int
 |[],_,b=>(true,b)
 |p::ps,k,b=>match qA p k b with|(false,c)=>(false,c)|(true,c)=>AY ps k c
end
mutual
def mj:ao->Int
 |.mk _ _ _ _ args=>1+GH args
def GH:List ao->Int
 |[]=>0
 |p::ps=>mj p+GH ps
end
mutual
theorem L7:∀p:ao,1<=mj p
 |.mk _ _ _ _ args=>by have:=Gg args;grind[mj]
theorem Gg:∀ps:List ao,0<=GH ps
 |[]=>by simp[GH]
 |p::ps=>by have:=L7 p;have:=Gg ps;grind[GH]
end
mutual
theorem O5:∀(p:ao)(n:Int),n<=24->(n+mj p<=24->qW p n=n+mj p)/\(24<n+mj p->qW p n=25)
 |.mk _ _ _ _ args,n,h=>by
  have⟨c,d⟩:=SI args (n+1) aC
  grind[qW,mj]
theorem SI:∀(ps:List ao)(n:Int),n<=25->(n+GH ps<=24->mL ps n=n+GH ps)/\(24<n+GH ps->mL ps n=25)
 |[],n,h=>by
  grind[mL,GH]
 |p::ps,n,h=>by
  have e:=L7 p;have f:=Gg ps;simp only[mL,GH];by_cases c:n<=24
  .rw[if_pos c];have g:=O5 p n c;have d:=(GR p n c).2;have j:=SI ps _ d;omega
  omega
end
mutual
theorem OM:∀(p:ao)(k:Nat)(b:Int),0<=b->((qA p k b).1=true↔mj p<=b/\oH p k=false)/\((qA p k b).1=true->(qA p k b).2=b-mj p)
 |.mk _ _ _ _ args,k,b,h=>by
  have d:=Gg args;simp only[qA,mj];by_cases c:b<1
  .grind
  .rw[if_neg c];cases k with
   |zero=>grind[oH]
   |succ k=>
    have⟨e,f⟩:=Sn args k (b-1) aC
    grind[oH]
theorem Sn:∀(ps:List ao)(k:Nat)(b:Int),0<=b->((AY ps k b).1=true↔GH ps<=b/\uK ps k=false)/\((AY ps k b).1=true->(AY ps k b).2=b-GH ps)
 |[],k,b,h=>by simp[AY,GH,uK,h]
 |p::ps,k,b,h=>by
  have⟨c,d⟩:=OM p k b h;have j:=Gg ps;simp only[AY,GH,uK];cases e:qA p k b with
  |mk r f=>
   rw[e]at c d;cases r with
   |false=>
    grind
   |true=>
    have g:=d rfl;have c:=c.1 rfl;simp only at g;have⟨n,s⟩:=Sn ps k f aC
    grind
end
def kE(ak params:ti)(p:ao):Int:=
 if !ak.all eA|| !params.all eA then 1
 else if qW p 0>24||oH p 8 then 2
 else if !mI ak params p then 50 else 0
theorem bNZ p:(qA p 8 24).1= !(decide (qW p 0>24)||oH p 8):=by
 have c:=(OM p 8 24 aC).1;have d:=O5 p 0 aC
 grind
def xV(n:Int):Obj:=.cells #[.int .i64 n] 3 (0,0)
def blQ(N:Nat):AC:=λc m h K=>∃v p,∃k b:Nat,∃n,c=[aP v,cI (9-k),cP b]/\fV h p v/\SizeOf.sizeOf p<N/\k<=9/\0<=n/\n<=24/\m b=some (xV n)/\∀m',iZ m m' b (xV (qA p k n).2)->K (cB (qA p k n).1) m' h
def cCJ(N:Nat)(v:PV)(p:ao)(k b:Nat)(n:Int)(m:MH)(h:PH):=
 jc [(145,blQ N)] [(5,{A:=Nat×Int×MH,st:=λx=>bO 36 39 [(1,iv (9-k)),(2,vv (.pointer (some ⟨b,0,none⟩))),(23,sv v.args),(24,iv v.args.len),(25,iv x.1)] [] x.2.2 h,ml:=λx=>x.1<=p.args.length/\0<=x.2.1/\x.2.1<=24/\iZ m x.2.2 b (xV x.2.1)/\1<=k/\AY (p.args.drop x.1) (k-1) x.2.1=qA p k n,mu:=λx=>p.args.length-x.1})] [] [] false
def AH:AC:=λe m h K=>∃s t v d c p,e=[cS s,cS t,aP v]/\an h s d/\an h t c/\fV h p v/\K (cI (kE d c p)) m h
def dbX N:=jc [(59,Qg),(134,bmQ N),(135,YN N),(136,YA N)] [] [] [] false
def cIX N:=jc [(144,Qg),(145,blQ N),(146,T3 N)] [] [] [] false
abbrev wY(a:MH)(b:PH)(c d:Nat)(e:Int->Prop):=∃x,aK a b c d (bV x)/\e x
abbrev i6(a:(Array Value)->TypeId->Prop):=∃x c,a x c
abbrev gU a b c:=Obj.cells a b (c,c)
abbrev iP(a:Nat)(b:Array Value):=a<b.size
abbrev cF a b c d e:=iZ a b c (gU (.mk d) e 0)
abbrev kH(a:Value)(b:Nat)(c:Array Value):=a::List.drop b c.toList
abbrev eH(a b:Int)(c d:Prop):=branch (decide (a>b)) c d
abbrev yF(a:Nat):Int:=9-a
abbrev Rv(a:Nat×Int×MH)(b:ao)(c:Nat):=AY (List.drop a.1 b.args) (c-1) a.2.1
abbrev bM a:=eQ (fI a)
abbrev cK a:=eQ (ov a 0)
abbrev bE a b:=mX a::b
abbrev jN a:=mn a 0
abbrev HD(a:Sl->ti->Prop):=∃x c,a x c
abbrev Dw(a:Sl)(b:PH)(c:ti->Prop):=HD (λx d=>eO (tV a) (tV x)/\an b x d/\c d)
abbrev bG a b c:=a->b->c
attribute [push_cast] wY i6 gU iP cF kH eH yF Rv bM cK bE jN HD Dw bG
def Wm(N:Nat)(v:PV)(p:ao)(k b:Nat)(n:Int):ST:=λm h K=>wY m h b 0 (λy=>i6 (λc E=>yA m b (gU c E 0)/\iP 0 c/\∀e,cF m e b (kH (pW (jQ y 1)) 1 c) E->wY e h b 0 (λD=>aX D 0 (K bH e h) (eH (yF k) 8 (K bH e h) ((∃x,(x.1<=xO p/\dK x.2.1/\x.2.1<=24/\cF m x.2.2 b (bV x.2.1) 3/\1<=k/\Rv x p k=qA p k n)/\bM (yF k)/\cK b/\aH v.args/\tB v/\bB x.1/\e=x.2.2/\h=h/\True)/\∀x,x.1<=xO p/\dK x.2.1/\x.2.1<=24/\cF m x.2.2 b (bV x.2.1) 3/\1<=k/\Rv x p k=qA p k n->aX x.1 (aF v.args) (ab v.args x.1 13 PV.ag x.2.2 h (λz=>Eu (λA
 g=>aM (λj s=>∃f,bE z.ag (nN (fD (j6 (yF k) 1)) (jN b))=bE A.ag (nN (fD (yF j)) (jN s))/\fV h g A/\BT g N/\j<=9/\dK f/\f<=24/\x.2.2 s=some (gU (.mk (bV f)) 3 0)/\∀t,cF x.2.2 t s (bV (qA g j f).2) 3->cC (qA g j f).1 (K bH t h) (∃d,(d.1<=xO p/\dK d.2.1/\d.2.1<=24/\cF m d.2.2 b (bV d.2.1) 3/\1<=k/\Rv d p k=qA p k n)/\xO p-d.1<xO p-x.1/\bM (yF k)/\cK b/\aH v.args/\aY v.args/\fI (bA x.1 1)=bR d.1/\t=d.2.2/\dC h h))))) (K eE x.2.2 h))))))
def abX(N:Nat)(s t:Sl)(v:PV):ST:=λm h K=>Dw s h (λl=>cC (Es l) (K (fD 1) m h) (Dw t h (λj=>cC (Es j) (K (fD 1) m h) (Eu (λf p=>∃k,dZ (oK v) 0=dZ (oK f) k/\fV h p f/\BT p N/\dK k/\k<=24/\eH (qW p k) 24 (K (fD 2) m h) (Eu (λg d=>∃e:Nat,dZ (oK v) 8=dZ (oK g) e/\fV h d g/\BT d N/\e<=100/\branch (oH d e) (K (fD 2) m h) (Mx (bU s (bL (tV t) v.ag)) (λn u y=>bU n (bL (tV u) y.ag)) h N (λc z A=>cC (mI c z A) (K (fD 50) m h) (K (fD 0) m h))))))))))
def WS(N:Nat)(s t:Sl)(v:PV):ST:=λm h K=>Dw s h (λl=>cC (Es l) (K (fD 1) m h) (Dw t h (λj=>cC (Es j) (K (fD 1) m h) (∀b e,eT m h b->cF m e b (bV 24) 3->Eu (λg p=>aM (λk f=>∃n,bE v.ag (nN (fD 1) (jN b))=bE g.ag (nN (fD (yF k)) (jN f))/\fV h p g/\BT p N/\k<=9/\dK n/\n<=24/\e f=some (gU (.mk (bV n)) 3 0)/\∀d,cF e d f (bV (qA p k n).2) 3->cC (qA p k n).1 (K (fD 2) d h) (Mx (bL (mX (gI s t)) v.ag) (λu y z=>bL (mX (gI u y)) z.ag) h N (λc A D=>cC (mI c A D) (K (fD 50) d h) (K (fD 0) d h)))))))))
end Go.Ps
namespace Go.Vc
open Go.Ps Go.Proofs List
theorem iZ.trans{m m' c b o d}(j:iZ m m' b o)(e:iZ m' c b d):iZ m c b d:=⟨e.y,λf g=>(e.ai f g).trans (j.ai f g)⟩
end Go.Vc
namespace Go.Ps
open Go Go.Vc Go.Proofs List Tryz
variable{K:tt}{m:MH}{h:PH}{ps:ti}{v:QV}{q:ae}{p:ao}{l:ti}{i N:Nat}{m':MH}{h':PH}{co gr:ti}{od:tp}{w:ao}{ta li:Int}{xs:List tm}{sz:Nat}{r:Sl}{a:ti}{b:Nat}
theorem arX:∀N,uz 145 (blQ N)
 |0=>by
  refine gV func145 ?_;rintro E m h K⟨v,p,k,b,n,rfl,Q,V,_⟩;omega
 |N+1=>by
  refine gV func145 ?_;rintro E m h K⟨v,p,k,b,n,rfl,Q,V,hk,h0,h1,R,j⟩;refine⟨cCJ N v p k b n m h,rfl,aD (arX N) aG,Wm N v p k b n,bt,?_⟩;dsimp only[Wm,push_cast];have⟨hl,S,y⟩:=Q.open;have W:IntKind.i64.wrap (n-1)=n-1:=dW aC aC;refine⟨n,.i R rfl,_,_,⟨R⟩,bu,λm' T=>?_⟩;rw[W]at T;have f:iZ m m' b (xV (n-1)):=T;refine⟨n-1,.i f.y rfl,aE (λX=>?_) (λX=>aE (λY=>?_) (λY=>?_))⟩
  .have e:qA p k n=(false,n-1):=by cases p;simp only[qA];grind
   rw[e]at j;exact j m' f
  .have F:k=0:=by omega
   subst F;have e:qA p 0 n=(false,n-1):=by cases p;grind[qA]
   rw[e]at j;exact j m' f
  .refine⟨⟨(0,n-1,m'),⟨bu,da,da,f,aC,?_⟩,MT⟩,?_⟩
   .obtain⟨U,rfl⟩:∃U,k=U+1:=⟨k-1,aC⟩
    cases p
    grind[qA,ao.args]
   .rintro⟨i,x,Z⟩⟨hi,s,z,g,G,d⟩;simp only at hi s z g d;refine aE (λa'=>?_) (λa0=>?_)
    .obtain⟨q,H⟩:∃q,p.args[i]?=some q:=⟨p.args[i]'(by omega),sh _⟩
     have⟨b1,o,u,ea,a1,I⟩:=y i q H;have hd:p.args.drop i=q::p.args.drop (i+1):=ci H;refine⟨b1,o,ea,bu,aC,u,.ay da,u,q,k-1,b,x,?_,I,?_,aC,s,z,g.y,λJ M=>?_⟩
     .grind[dW]
     .have:=Ar (si H);omega
     .have t:iZ m J b (xV (qA q (k-1) x).2):=g.trans M;rw[hd,AY]at d;have⟨A,D⟩:=OM q (k-1) x s;cases e:qA q (k-1) x with
      |mk r x'=>
       rw[e]at d t A D;cases r with
       |false=>
        simp only at d;rw[<-d]at j;exact j J t
       |true=>
        have a2:=A.1 rfl;have O:=D rfl;have a3:=L7 q;simp only at O d;exact⟨(i+1,x',J),⟨aC,da,da,t,G,d⟩,aC,MT⟩
    .rw[drop_of_length_le aC]at d;simp only[AY]at d;rw[<-d]at j;exact j Z g
theorem Ph:uz 95 AH:=by
 refine gV func95 ?_;rintro n m h K⟨s,t,v,d,c,p,rfl,g,j,f,e⟩;refine⟨dbX (SizeOf.sizeOf p+1),rfl,aD jr (aD (asX _) (aD (asQ _) (aD (arJ _) aG))),abX (SizeOf.sizeOf p+1) s t v,bt,?_⟩;dsimp only[abX,push_cast];refine⟨s,d,rfl,g,aB (λu=>Dm e ?_) (λu=>⟨t,c,rfl,j,aB (λy=>Dm e ?_) (λy=>⟨v,p,0,rfl,f,aC,aC,aC,aB (λz=>Dm e ?_) (λz=>⟨v,p,8,rfl,f,aC,aC,aB (λA=>Dm e ?_) (λA=>⟨s,t,d,c,v,p,rfl,g,j,f,aC,aB (λD=>Dm e ?_) (λD=>Dm e ?_)⟩)⟩)⟩)⟩)⟩
 all_goals (simp only[kE];simp only[*,Bool.or_false,Bool.or_true,Bool.true_or,Bool.false_eq_true, ↓reduceIte])
theorem Lr{f fn}(s:Tryz.prog.funcs[f]?=some fn){S}(j:∀c m h K,S c m h K->∃C:bk,C.P=Tryz.prog/\(∀g S,cg C.cq g=some S->uz g S)/\∃N:Prop,N=xS C fn (cZ fn) (entry fn.ntmps c m h) (λr m' h'=>∃m2 n,(∀b o,m2 b=some o->m' b=some o)/\PH.le h n/\PH.le n h'/\K r m2 n)/\N)(t:fn.body=some (cZ fn):=by rfl)(d:(fn.name== "runtime.NumGoroutine")=false:=by decide):uz f S:=bSX s t d λc m h K u=>let⟨C,hC,hs,N,e,hn⟩:=j c m h K u;⟨C,hC,hs,e▸hn⟩
theorem TN:uz 110 AH:=by
 refine Lr func110 ?_;rintro I m h K⟨s,t,v,d,c,p,rfl,E,F,G,J⟩;refine⟨cIX (SizeOf.sizeOf p+1),rfl,aD a9X (aD (arX _) (aD (arQ _) aG)),WS (SizeOf.sizeOf p+1) s t v m h (λr m' h'=>∃j n,(∀b o,j b=some o->m' b=some o)/\PH.le h n/\PH.le n h'/\K r j n),bt,?_⟩;dsimp only[WS,push_cast];have f:∀(m':MH),(∀b o,m b=some o->m' b=some o)->∀x,kE d c p=x->∃j n,(∀b o,j b=some o->m' b=some o)/\PH.le h n/\PH.le n h/\K (.val (.int .i64 x)) j n:=λm' M x e=>⟨m,h,M,.refl _,.refl _,e▸J⟩
 refine⟨s,d,rfl,E,aB (λO=>f m (λ_ _ e=>e) _ ?_) (λO=>⟨t,c,rfl,F,aB (λQ=>f m (λ_ _ e=>e) _ ?_) (λQ b U R u=>⟨v,p,8,b,24,rfl,G,aC,aC,aC,aC,u.y,λj A=>?_⟩)⟩)⟩
 .grind[kE]
 .grind[kE]
 .have g:∀b o,m b=some o->j b=some o:=λD o e=>by
   have y:D≠b:=λS=>by rw[S,R.m_]at e;cases e
   rw[A.ai D y,u.ai D y,e]
  have z:=bNZ p;refine aB (λH=>f j g _ ?_) (λH=>⟨s,t,d,c,v,p,rfl,E,F,G,aC,aB (λT=>f j g _ ?_) (λT=>f j g _ ?_)⟩)
  all_goals (rw[z,Bool.not_not]at H;clear z;simp only[kE];simp only[*,Bool.or_false,Bool.false_eq_true, ↓reduceIte])
structure aU{α β:Type}(h:PH)(sz:Nat)(ag:β->tm)(R:α->β->Prop)(s:Sl)(l:List α):Prop where
 ex:∃vs:List β,bT h s sz (vs.map ag)/\l.length=vs.length/\∀(i:Nat)(x:α),l[i]?=some x->∃v,vs[i]?=some v/\R x v
 len:l.length<=502633886983
theorem aU.e{α β ag}{R:α->β->Prop}{s l}(r:aU h sz ag R s l):s.len=l.length:=by
 have⟨d,c,e,_⟩:=r.ex;have:=c.len
 grind
theorem aU.at{α β ag}{R:α->β->Prop}{s l}(r:aU h sz ag R s l){x}(c:l[i]?=some x):
 ∃b o v,s.a=some ⟨b,o,none⟩/\bJ h b (o+i*sz) (ag v)/\R x v:=by
 have⟨j,d,_,f⟩:=r.ex;have⟨v,g,n⟩:=f i x c;have⟨b,o,e,k⟩:=d.get (i:=i) (e:=ag v) (by simp[g])
 grind
theorem aU.mono{α β ag}{R:α->β->Prop}{R' s l}(r:aU h sz ag R s l)(le:PH.le h h')(d:∀x v,R x v->R' x v):aU h' sz ag R' s l:=by
 have⟨e,f,g,j⟩:=r.ex;exact⟨⟨e,f.mono le,g,λi x n=>(j i x n).imp λv c=>⟨c.1,d _ _ c.2⟩⟩,r.len⟩
theorem aU.nil{α β} h sz(ag:β->tm) R:aU h sz ag R ⟨none,0,0⟩ ([]:List α):=
 ⟨⟨[],.nil h sz,rfl,λi x c=>by simp at c⟩,bu⟩
theorem eF{α}{l:List α}{i:Nat}{n}(c:n=l.length)(d:(i:Int)<(n:Int)):∃x,l[i]?=some x:=⟨l[i]'(by omega),sh _⟩
def I6 h s ps:=aU h 13 PV.ag (fV h) s ps
theorem I6.mono{s ps}(r:I6 h s ps)(le:PH.le h h'):I6 h' s ps:=aU.mono r le λ_ _=>fV.mono le
theorem uN.toL{s ps vs}(d:bT h s 13 (vs.map PV.ag))(c:uN h ps vs)(e:ps.length<=502633886983):I6 h s ps:=
 ⟨⟨vs,d,c.length.symm,λ_ _ f=>c.get f⟩,e⟩
theorem uN.ofL{h:PH}:∀{ps:List ao}{vs:uo},ps.length=vs.length->(∀(i:Nat)(x:ao),ps[i]?=some x->∃v,vs[i]?=some v/\fV h x v)->uN h ps vs
 |[],[],_,_=>rfl
 |p::ps,v::vs,c,d=>by
  have⟨j,f,g⟩:=d 0 p rfl;simp at f;subst f;exact⟨v,vs,rfl,g,uN.ofL da λi x e=>mp (d (i+1) x (by simpa using e))⟩
 |[],_::_,c,_=>by simp at c
 |_::_,[],c,_=>by simp at c
theorem fV.parts{op c l r args v}(x:fV h (.mk op c l r args) v):v.op=op/\v.dy=c/\v.left=l/\v.right=r/\I6 h v.args args:=by
 obtain⟨d,e,f,g,j,t,n,s⟩:=x;exact⟨d,e,f,g,s.toL n j⟩
theorem fV.mk{h args v}(c:I6 h v.args args):fV h (.mk v.op v.dy v.left v.right args) v:=by
 have⟨d,e,f,g⟩:=c.ex;exact⟨rfl,rfl,rfl,rfl,c.len,d,e,.ofL f g⟩
def dzQ(N:Nat):AC:=λc m h K=>∃v w p q,c=[aP v,aP w]/\fV h p v/\fV h q w/\SizeOf.sizeOf p<N/\∀r:Bool,(r=true↔p=q)->K (cB r) m h
def dHQ(N:Nat):AC:=λc m h K=>∃s t ps qs,c=[cS s,cS t,.val (.func (.func 228) #[] #[])]/\I6 h s ps/\I6 h t qs/\(∀p∈ps,SizeOf.sizeOf p<N)/\∀r:Bool,(r=true↔ps=qs)->K (cB r) m h
def csZ N:=jc [(241,dHQ N)] [] [] [] false
def crZ(N:Nat)(s t:Sl)(ps qs:List ao)(m:MH)(h:PH):=
 jc [(228,dzQ N)] [ID 4 (λi=>bO 32 35 ([(1,sv t),(2,vv (.func (.func 228) #[] #[]))]++WF 15 s i) [] m h) (λi=>i<=ps.length/\∀j:Nat,j<i->ps[j]?=qs[j]?) (λi=>ps.length-i)] [] [] false
def cAJ(N:Nat)(v w:PV)(ps qs:List ao)(m:MH)(h:PH):=
 jc [(161,dzQ N)] [ID 4 (λi=>bO 60 62 [SW 2,SW 3,(43,iv v.args.len),(44,iv i)] [UV 2 63 v.ag,UV 3 63 w.ag] m h) (λi=>i<=ps.length/\∀j:Nat,j<i->ps[j]?=qs[j]?) (λi=>ps.length-i)] [] [] false
abbrev j8 a b:=nN (tV a) b
abbrev yZ:Array Value:=.mk []
abbrev vB(a:Nat)(b:Array Value):CV:=.val (.func (Fn.func a) yZ b)
abbrev G1(a:Nat)(b c:List ao):=lN (a<=b.length) (λx=>x<a->b[x]?=c[x]?)
abbrev FE a b:=SV.at (At.val (.func a yZ b))
abbrev HB a:=eQ (FE (Fn.func a) yZ)
abbrev M8(a:PV->PV->ao->ao->Prop):=∃x,Eu (λc d=>∃e,a x c d e)
abbrev Bk(a:Int×Int):=bD a.1 a.2 []
abbrev BH a b:=pW a::b::[]
abbrev DP(a:Int×Bool):=BH a.1 (.bool a.2)
attribute [push_cast] j8 yZ vB G1 FE HB M8 Bk BH DP
def Pu N v w:=λm h K=>dP v.op w.op (dP v.dy w.dy (rI 60 (An v) (An w) (λr=>sI r (rI 60 (CA v) (CA w) (λe=>sI e (lC (λs t=>∃p q,bU v.args (j8 w.args (vB 228 yZ))=bU s (j8 t (vB 228 yZ))/\I6 h s p/\I6 h t q/\(∀c,List.Mem c p->BT c N)/\∀d,(mZ d↔p=q)->K (AU d) m h)) K m h)) K m h)) (K bH m h)) (K bH m h)
def VD(N:Nat)(s t:Sl)(ps qs:List ao):ST:=λm h K=>cM (aF s) (aF t) (K bH m h) (lN (∃x,G1 x ps qs/\aH t/\HB 228/\aH s/\aY s/\bB x/\m=m/\h=h/\True) (λx=>G1 x ps qs->aX x (aF s) (ab s x 13 PV.ag m h (λy=>ab t x 13 PV.ag m h (λf=>M8 (λv w p q=>bL (oK y) f.ag=bL (oK v) w.ag/\fV h p v/\fV h q w/\BT p N/\∀r,(mZ r↔p=q)->cC r (K bH m h) (∃c,G1 c ps qs/\ps.length-c<ps.length-x/\aH t/\HB 228/\aH s/\aY s/\fI (bA x 1)=bR c/\m=m/\dC h h))))) (K eE m
 h)))
def PN(N:Nat)(v w:PV)(ps qs:List ao):ST:=λm h K=>dJ (v.op !=w.op) (K bH m h) (v.dy !=w.dy) (K bH m h) (rI 60 (An v) (An w) (λr=>cC r (K bH m h) (rI 60 (CA v) (CA w) (λs=>dJ (!s) (K bH m h) (qK v !=qK w) (K bH m h) (lN (∃x,G1 x ps qs/\gZ/\eP 3/\tB v/\bB x/\kZ v/\kZ w/\m=m/\dC h h) (λx=>G1 x ps qs->aX x (aF v.args) (ab v.args x 13 PV.ag m h (λy=>ab w.args x 13 PV.ag m h (λf=>M8 (λg j p q=>bL (oK y) f.ag=bL (oK g) j.ag/\fV h p g/\fV h q j/\BT p N/\∀n,(mZ n
 ↔p=q)->cC n (K bH m h) (∃c,G1 c ps qs/\ps.length-c<ps.length-x/\gZ/\cR/\tB v/\fI (bA x 1)=bR c/\kZ v/\kZ w/\gM m m h h))))) (K eE m h)))))))
theorem Gy{α}{a:List α}{b}(c:a.length=b.length)(d:a.length<=i)(h:∀j:Nat,j<i->a[j]?=b[j]?):a=b:=by
 apply ext_getElem?
 grind
theorem EJ{α}{a b:List α}{x y}(hx:a[i]?=some x)(c:b[i]?=some y)(e:x=y)(h:∀j:Nat,j<i->a[j]?=b[j]?):∀j:Nat,j<i+1->a[j]?=b[j]? :=by
 grind
theorem ZO{α}{a:List α}{b x y}(hx:a[i]?=some x)(c:b[i]?=some y)(e:x≠y):a≠b:=λh=>by
 grind
theorem X2{α β}{s t:Sl}{a:List α}{b:List β}(c:s.len=a.length)(d:t.len=b.length)(e:((s.len:Int) !=(t.len:Int))=true):a.length≠b.length:=λh=>by
 grind
theorem SZ{α β}{s t:Sl}{a:List α}{b:List β}(c:s.len=a.length)(d:t.len=b.length)(e:((s.len:Int) !=(t.len:Int))=false):a.length=b.length:=by
 grind
theorem doJ{v w q}(s:fV h p v)(t:fV h q w)(H:SizeOf.sizeOf p<N+1)(j:∀r:Bool,(r=true↔p=q)->K (cB r) m h):Pu N v w m h K:=by
 dsimp only[Pu,push_cast];have d:p≠q->K (cB false) m h:=λh=>j false ⟨λe=>(by cases e),λe=>(h e).elim⟩;have c:=@Ar p;obtain⟨op,u,l,r,ps⟩:=p;obtain⟨y,n,I,J,qs⟩:=q;obtain⟨rfl,rfl,rfl,rfl,f⟩:=s.parts;obtain⟨rfl,rfl,rfl,rfl,g⟩:=t.parts;refine aB (λz=>aB (λA=>⟨_,FQ _ _,aB (λD=>⟨_,FQ _ _,aB (λE=>⟨v.args,w.args,ps,qs,rfl,f,g,λp F=>?_,λr G=>j r (G.trans ?_)⟩) (λE=>d λe=>?_)⟩) (λD=>d λe=>?_)⟩) (λA=>d λe=>?_)) (λz=>d λe=>?_)
 .have:=c (q:=p) F;omega
 .grind[HT]
 .grind[HT]
 .grind[HT]
 .grind
 grind
theorem anX:∀N,uz 228 (dzQ N)
 |0=>by
  refine gV func228 ?_;rintro g m h K⟨v,w,p,q,rfl,D,_,E,_⟩;omega
 |N+1=>by
  have z:uz 241 (dHQ N):=by
   refine gV func241 ?_;rintro g m h K⟨s,t,ps,qs,rfl,H,Q,E,F⟩;refine⟨crZ N s t ps qs m h,rfl,aD (anX N) aG,VD N s t ps qs,bt,?_⟩;dsimp only[VD,push_cast];have d:=H.e;have A:=Q.e;have T:=H.len;have R:ps≠qs->K (cB false) m h:=λh=>F false ⟨λe=>(by cases e),λe=>(h e).elim⟩;refine aB (λI=>R (λe=>X2 d A I (by rw[e]))) (λI=>?_);have U:=SZ d A I;refine⟨⟨0,⟨aC,λj hj=>by omega⟩,MT⟩,λi S=>aE (λf=>?_) (λV=>?_)⟩
   .have⟨x,G⟩:=eF d f;obtain⟨y,J⟩:∃y,qs[i]?=some y:=eF (n:=s.len) aC f;have⟨W,X,u,Y,Z,ru⟩:=H.at G;have⟨b2,o2,w,e2,r2,M⟩:=Q.at J;refine⟨W,X,Y,aC,f,u,.ay Z,b2,o2,e2,aC,aC,w,.ay r2,u,w,x,y,rfl,ru,M,E x (si G),λr D=>aB (λa'=>R (ZO G J (λe=>?_))) (λhe=>?_)⟩
    .grind
    .have O:r=true:=da
     exact⟨i+1,⟨aC,EJ G J (D.1 O) S.2⟩,aC,MT⟩
   .exact F true ⟨λ_=>Gy U aC S.2,λ_=>rfl⟩
  refine gV func228 ?_;rintro g m h K⟨v,w,p,q,rfl,D,hq,E,F⟩;refine⟨csZ N,rfl,aD z aG,Pu N v w,bt,?_⟩;exact doJ D hq E F
theorem dtQ{v w q}(S:fV h p v)(T:fV h q w)(hN:SizeOf.sizeOf p<N+1)(t:∀r:Bool,(r=true↔p=q)->K (cB r) m h):PN N v w p.args q.args m h K:=by
 dsimp only[PN,push_cast];have c:p≠q->K (cB false) m h:=λh=>t false ⟨λe=>(by cases e),λe=>(h e).elim⟩;have d:=@Ar p;obtain⟨op,U,l,r,ps⟩:=p;obtain⟨V,O,l',r',qs⟩:=q;obtain⟨rfl,rfl,rfl,rfl,A⟩:=S.parts;obtain⟨rfl,rfl,rfl,rfl,Q⟩:=T.parts;simp only[ao.args]at d⊢
 have g:=A.e;have D:=Q.e;have W:=A.len;refine aB (λE=>c λe=>?_) (λE=>aB (λF=>c λe=>?_) (λF=>⟨_,FQ _ _,aB (λG=>c λe=>?_) (λG=>⟨_,FQ _ _,aB (λH=>c λe=>?_) (λH=>aB (λR=>c λe=>?_) (λR=>?_))⟩)⟩))
 .grind
 .grind
 .grind[HT]
 .grind[HT]
 .grind
 .have hl:=SZ g D R;have G:v.left=w.left:=HT.1 da;have H:v.right=w.right:=HT.1 da;have E:v.op=w.op:=da
  have F:v.dy=w.dy:=da
  rw[E,F,G,H]at t c;have c:ps≠qs->K (cB false) m h:=λs=>c λe=>s (by injection e);refine⟨⟨0,⟨aC,λj hj=>by omega⟩,MT⟩,λi X=>aE (λf=>?_) (λY=>?_)⟩
  .have⟨x,I⟩:=eF g f;obtain⟨y,J⟩:∃y,qs[i]?=some y:=eF (n:=v.args.len) aC f;have⟨Z,o1,u,e1,r1,ru⟩:=A.at I;have⟨b2,o2,z,e2,r2,rz⟩:=Q.at J;refine⟨Z,o1,e1,aC,f,u,.ay r1,b2,o2,e2,aC,aC,z,.ay r2,u,z,x,y,rfl,ru,rz,?_,λr hr=>aB (λs=>c (ZO I J (λe=>?_))) (λhe=>?_)⟩
   .grind
   .grind
   .have M:r=true:=da
    exact⟨i+1,⟨aC,EJ I J (hr.1 M) X.2⟩,aC,MT⟩
  .exact t true ⟨λ_=>by grind[Gy],λ_=>rfl⟩
theorem apJ:∀N,uz 161 (dzQ N)
 |0=>by
  refine gV func161 ?_;rintro d m h K⟨v,w,p,q,rfl,e,_,f,_⟩;omega
 |N+1=>by
  refine gV func161 ?_;rintro d m h K⟨v,w,p,q,rfl,e,g,f,j⟩;refine⟨cAJ N v w p.args q.args m h,rfl,aD (apJ N) aG,PN N v w p.args q.args,bt,?_⟩;exact dtQ e g f j
def dzX:AC:=λc m h K=>∃v w p q,c=[aP v,aP w]/\fV h p v/\fV h q w/\∀r:Bool,(r=true↔p=q)->K (cB r) m h
theorem jL{f}{S:Nat->AC}{S'}(h:∀N,uz f (S N))(e:∀c m h K,S' c m h K->∃N,S N c m h K):uz f S':=by
 refine⟨(h 0).1,λc g m d w K j n=>?_⟩;have⟨N,s⟩:=e c m d K j;exact(h N).2 c g m d w K s n
theorem aTX:uz 228 dzX:=jL anX λ_ _ _ _⟨v,w,p,q,e,c,d,f⟩=>⟨SizeOf.sizeOf p+1,v,w,p,q,e,c,d,aC,f⟩
theorem a6Q:uz 161 dzX:=jL apJ λ_ _ _ _⟨v,w,p,q,e,c,d,f⟩=>⟨SizeOf.sizeOf p+1,v,w,p,q,e,c,d,aC,f⟩
theorem Oc{d e c i g xs f w x y r j}(hx:CY Tryz.prog (part e xs (i*c))=some x)(n:CY Tryz.prog (part e f (i*c))=some y)(s:(Op.equalIn d e x y).run Tryz.prog w=.ok r w)(t:(Op.eqItems d e c xs f g).run Tryz.prog w=.ok j w):(Op.eqItems d e c xs f (i::g)).run Tryz.prog w=.ok (r&&j) w:=by
 simp only[Op.eqItems,Sem.run_bind,Em _ _ _ hx,Em _ _ _ n,Result.andThen_ok,s];cases r
 .simp
 grind
def dRQ(a b:Int×Int):=a.1==b.1&&(a.2==b.2&&true)
def dQJ(a b:Int×Bool):=a.1==b.1&&(a.2==b.2&&true)
theorem cLQ a b:gh Tryz.prog 81 (.agg #[.int .i64 a.1,.int .i64 a.2]) (.agg #[.int .i64 b.1,.int .i64 b.2]) (dRQ a b):=by
 refine⟨bt,λw=>?_⟩;have⟨i,c⟩:=Option.isSome_iff_exists.1 (show(Tryz.prog.info? 3).isSome=true by kernel_rfl);rw[run_equalIn_array w 9999 (e:=3) (n:=2) _ _ bt c,show Tryz.prog.cellsOf 3=1 by kernel_rfl,show List.range 2=[0,1]from rfl];refine Oc (x:=.int .i64 a.1) (y:=.int .i64 b.1) bt bt (run_equalIn_int w 9998 _ .i64 .i64 _ _ bt) ?_;refine Oc (x:=.int .i64 a.2) (y:=.int .i64 b.2) bt bt (run_equalIn_int w 9998 _ .i64 .i64 _ _ bt) ?_;simp[Op.eqItems]
theorem cKJ a b:gh Tryz.prog 138 (.agg #[.int .i64 a.1,.bool a.2]) (.agg #[.int .i64 b.1,.bool b.2]) (dQJ a b):=by
 refine⟨bt,λw=>?_⟩;rw[run_equalIn_struct w 9999 138 _ _ bt bt,show(Tryz.prog.fieldsOf 138).toList=[Uo 138 0,Uo 138 1]by kernel_rfl];refine qP (x:=.int .i64 a.1) (y:=.int .i64 b.1) bt bt bt (run_equalIn_int w 9998 _ .i64 .i64 _ _ bt) ?_;refine qP (x:=.bool a.2) (y:=.bool b.2) bt bt bt (run_equalIn_bool w 9998 _ _ _ bt) ?_;simp[Op.eqFields]
theorem avJ{a b}:dRQ a b=true↔a=b:=by
 grind[dRQ]
theorem avZ{a b}:dQJ a b=true↔a=b:=by
 grind[dQJ]
theorem l9.at{s l}(r:l9 h s l){x}(c:l[i]?=some x):∃b o,s.a=some ⟨b,o,none⟩/\bJ h b (o+i*2) (oY x):=r.row.get (by simp[c])
theorem lF.at{s l}(r:lF h s l){x}(c:l[i]?=some x):∃b o,s.a=some ⟨b,o,none⟩/\bJ h b (o+i*2) (wV x):=r.row.get (by simp[c])
def Xi:AC:=λc m h K=>∃s t a b,c=[cS s,cS t]/\l9 h s a/\l9 h t b/\∀r:Bool,(r=true↔a=b)->K (cB r) m h
def Xh:AC:=λc m h K=>∃s t a b,c=[cS s,cS t]/\lF h s a/\lF h t b/\∀r:Bool,(r=true↔a=b)->K (cB r) m h
def anQ{α}(s t:Sl)(a b:List α)(m:MH)(h:PH):=
 jc [] [ID 4 (λi=>bO 26 28 [(0,sv s),(1,sv t),(12,iv s.len),(13,iv i)] [] m h) (λi=>i<=a.length/\∀j:Nat,j<i->a[j]?=b[j]?) (λi=>a.length-i)] [] [] false
def VG(s t:Sl)(a b:tu):ST:=λm h K=>cM (aF s) (aF t) (K bH m h) (lN (∃x,lN (x<=a.length) (λj=>j<x->a[j]?=b[j]?)/\aH s/\aH t/\aY s/\bX (bB x) m m h h) (λx=>lN (x<=a.length) (λj=>j<x->a[j]?=b[j]?)->aX x (aF s) (ab s x 2 Bk m h (λy=>ab t x 2 Bk m h (λg=>rI 81 (Bk y) (Bk g) (λr=>cC r (K bH m h) (∃c,lN (c<=a.length) (λj=>j<c->a[j]?=b[j]?)/\a.length-c<a.length-x/\aH s/\aH t/\aY s/\fI (bA x 1)=bR c/\m=m/\h=h/\True))))) (K eE m h)))
def VF(s t:Sl)(a b:tp):ST:=λm h K=>cM (aF s) (aF t) (K bH m h) (lN (∃x,lN (x<=a.length) (λj=>j<x->a[j]?=b[j]?)/\aH s/\aH t/\aY s/\bX (bB x) m m h h) (λx=>lN (x<=a.length) (λj=>j<x->a[j]?=b[j]?)->aX x (aF s) (ab s x 2 DP m h (λy=>ab t x 2 DP m h (λg=>rI 138 (DP y) (DP g) (λr=>cC r (K bH m h) (∃c,lN (c<=a.length) (λj=>j<c->a[j]?=b[j]?)/\a.length-c<a.length-x/\aH s/\aH t/\aY s/\fI (bA x 1)=bR c/\m=m/\h=h/\True))))) (K eE m h)))
theorem aTQ:uz 229 Xi:=by
 refine gV func229 ?_;rintro H m h K⟨s,t,a,b,rfl,g,D,E⟩;refine⟨anQ s t a b m h,rfl,aG,VG s t a b,bt,?_⟩;dsimp only[VG,push_cast];have c:=g.e;have f:=D.e;have I:=g.len;have F:a≠b->K (cB false) m h:=λh=>E false ⟨λe=>(by cases e),λe=>(h e).elim⟩;refine aB (λu=>F (λe=>X2 c f u (by rw[e]))) (λu=>?_);have J:=SZ c f u;refine⟨⟨0,⟨aC,λj Y=>by omega⟩,MT⟩,λi G=>aE (λd=>?_) (λM=>?_)⟩
 .have⟨x,z⟩:=eF c d;obtain⟨y,A⟩:∃y,b[i]?=some y:=eF (n:=s.len) aC d;have⟨O,Q,R,S⟩:=g.at z;have⟨T,U,V,W⟩:=D.at A;refine⟨O,Q,R,aC,d,x,.ay S,T,U,V,aC,aC,y,.ay W,_,cLQ x y,aB (λX=>F (ZO z A (λe=>?_))) (λZ=>?_)⟩
  .grind[avJ]
  .exact⟨i+1,⟨aC,EJ z A (avJ.1 da) G.2⟩,aC,MT⟩
 .exact E true ⟨λ_=>Gy J aC G.2,λ_=>rfl⟩
theorem aSZ:uz 230 Xh:=by
 refine gV func230 ?_;rintro H m h K⟨s,t,a,b,rfl,g,D,E⟩;refine⟨anQ s t a b m h,rfl,aG,VF s t a b,bt,?_⟩;dsimp only[VF,push_cast];have c:=g.e;have f:=D.e;have I:=g.len;have F:a≠b->K (cB false) m h:=λh=>E false ⟨λe=>(by cases e),λe=>(h e).elim⟩;refine aB (λu=>F (λe=>X2 c f u (by rw[e]))) (λu=>?_);have J:=SZ c f u;refine⟨⟨0,⟨aC,λj Y=>by omega⟩,MT⟩,λi G=>aE (λd=>?_) (λM=>?_)⟩
 .have⟨x,z⟩:=eF c d;obtain⟨y,A⟩:∃y,b[i]?=some y:=eF (n:=s.len) aC d;have⟨O,Q,R,S⟩:=g.at z;have⟨T,U,V,W⟩:=D.at A;refine⟨O,Q,R,aC,d,x,.ay S,T,U,V,aC,aC,y,.ay W,_,cKJ x y,aB (λX=>F (ZO z A (λe=>?_))) (λZ=>?_)⟩
  .grind[avZ]
  .exact⟨i+1,⟨aC,EJ z A (avZ.1 da) G.2⟩,aC,MT⟩
 .exact E true ⟨λ_=>Gy J aC G.2,λ_=>rfl⟩
def Ob(s t:Sl)(a b:ti)(m:MH)(h:PH):=
 jc [] [ID 4 (λi=>bO 26 28 [(0,sv s),(1,sv t),(12,iv s.len),(13,iv i)] [] m h) (λi=>i<=a.length/\∀j:Nat,j<i->a[j]?=b[j]?) (λi=>a.length-i)] [] [] false
def Kx(s t:Sl)(a b:ti):ST:=λm h K=>cM (aF s) (aF t) (K bH m h) (lN (∃x,lN (x<=a.length) (λj=>j<x->a[j]?=b[j]?)/\aH s/\aH t/\aY s/\bX (bB x) m m h h) (λx=>lN (x<=a.length) (λj=>j<x->a[j]?=b[j]?)->aX x (aF s) (ab s x 1 bV m h (λy=>ab t x 1 bV m h (λg=>cM y g (K bH m h) (∃c,lN (c<=a.length) (λj=>j<c->a[j]?=b[j]?)/\a.length-c<a.length-x/\aH s/\aH t/\aY s/\fI (bA x 1)=bR c/\m=m/\h=h/\True)))) (K eE m h)))
theorem dtZ s t a b m h K:Kx s t a b m h K=(xS (Ob s t a b m h) Tryz.f132 (cZ Tryz.f132) (entry 26 [cS s,cS t] m h) K):=bt
theorem dOX s t a b m h K:Kx s t a b m h K=(xS (Ob s t a b m h) Tryz.f69 (cZ Tryz.f69) (entry 26 [cS s,cS t] m h) K):=bt
def CU:AC:=λc m h K=>∃s t a b,c=[cS s,cS t]/\an h s a/\an h t b/\∀r:Bool,(r=true↔a=b)->K (cB r) m h
theorem bxZ{s t b}(c:an h s a)(f:an h t b)(g:∀r:Bool,(r=true↔a=b)->K (cB r) m h):Kx s t a b m h K:=by
 dsimp only[Kx,push_cast];have u:=c.e;have z:=f.e;have A:=c.len;have n:a≠b->K (cB false) m h:=λh=>g false ⟨λe=>by(cases e),λe=>(h e).elim⟩;refine aB (λD=>n (λe=>?_)) (λD=>?_)
 .grind
 .have T:a.length=b.length:=da
  refine⟨⟨0,⟨aC,λj E=>by omega⟩,rfl,rfl,rfl,rfl,rfl,rfl,trivial⟩,λi U=>aE (λd=>?_) (λF=>?_)⟩
  .obtain⟨x,G⟩:∃x,a[i]?=some x:=⟨a[i]'(by omega),sh _⟩
   obtain⟨y,H⟩:∃y,b[i]?=some y:=⟨b[i]'(by omega),sh _⟩
   have⟨I,J,M,V⟩:=c.at G;have⟨O,Q,R,W⟩:=f.at H;refine⟨I,J,M,aC,d,x,.ay da,O,Q,R,aC,aC,y,.ay da,aB (λS=>n (λe=>?_)) (λX=>?_)⟩
   .grind
   .have:x=y:=da
    refine⟨i+1,⟨aC,λj E=>?_⟩,aC,rfl,rfl,rfl,by grind[fH],rfl,rfl,trivial⟩
    grind
  .refine g true ⟨λ_=>?_,λ_=>rfl⟩;apply ext_getElem?
   grind
theorem TE:uz 132 CU:=by
 refine eM (fn:=Tryz.f132) (c:=cZ Tryz.f132) func132 rfl bx ?_;rintro d m h K⟨s,t,a,b,rfl,e,f,g⟩;exact⟨Ob s t a b m h,rfl,aG,(dtZ s t a b m h K)▸bxZ e f g⟩
theorem Kj:uz 69 CU:=by
 refine eM (fn:=Tryz.f69) (c:=cZ Tryz.f69) func69 rfl bx ?_;rintro d m h K⟨s,t,a,b,rfl,e,f,g⟩;exact⟨Ob s t a b m h,rfl,aG,(dOX s t a b m h K)▸bxZ e f g⟩
def aQ(v:QV):CV:=.val (.agg ⟨v.ag⟩)
def ae.args:ae->List ae
 |.mk _ _ _ _ _ _ _ _ l=>l
theorem vV{p:ae}{q}(h:q∈p.args):SizeOf.sizeOf q<SizeOf.sizeOf p:=by
 cases p with
 |mk op t w c o g s l args=>
  have:=sizeOf_lt_of_mem h
  grind[ae.args]
def FX h s ps:=aU h 21 QV.ag (cQ h) s ps
theorem FX.mono{s ps}(r:FX h s ps)(le:PH.le h h'):FX h' s ps:=aU.mono r le λ_ _=>cQ.mono le
theorem uV.ofL{h:PH}:∀{ps:List ae}{vs:ud},ps.length=vs.length->(∀(i:Nat)(x:ae),ps[i]?=some x->∃v,vs[i]?=some v/\cQ h x v)->uV h ps vs
 |[],[],_,_=>rfl
 |p::ps,v::vs,c,d=>by
  have⟨j,f,g⟩:=d 0 p rfl;simp at f;subst f;exact⟨v,vs,rfl,g,uV.ofL da λi x e=>mp (d (i+1) x (by simpa using e))⟩
 |[],_::_,c,_=>by simp at c
 |_::_,[],c,_=>by simp at c
structure pV(h:PH)(op ah:Int)(w:ao)(c:ti)(o:tu)(g:ti)(s:tp)(l:Int)(args:List ae)(v:QV):Prop where
 jp:v.op=op
 dd:v.ah=ah
 ap:fV h w v.ap
 aw:an h v.aa c
 ez:l9 h v.on o
 az:an h v.be g
 bd:lF h v.bh s
 dm:v.bg=l
 bf:FX h v.args args
theorem cQ.parts{op ah c o g s l args}(x:cQ h (.mk op ah w c o g s l args) v):pV h op ah w c o g s l args v:=by
 obtain⟨f,j,n,t,u,y,z,A,D,E,e,d⟩:=x;exact⟨f,j,n,t,u,y,z,A,⟨⟨E,e,d.length.symm,λ_ _ F=>d.get F⟩,D⟩⟩
theorem pV.fm{op ah c o g s l args}(x:pV h op ah w c o g s l args v):cQ h (.mk op ah w c o g s l args) v:=by
 have⟨d,e,f,j⟩:=x.bf.ex;exact⟨x.jp,x.dd,x.ap,x.aw,x.ez,x.az,x.bd,x.dm,x.bf.len,d,e,.ofL f j⟩
def dZX(N:Nat):AC:=λc m h K=>∃v w p q,c=[aQ v,aQ w]/\cQ h p v/\cQ h q w/\SizeOf.sizeOf p<N/\∀r:Bool,(r=true↔p=q)->K (cB r) m h
def dZZ:AC:=λc m h K=>∃v w p q,c=[aQ v,aQ w]/\cQ h p v/\cQ h q w/\∀r:Bool,(r=true↔p=q)->K (cB r) m h
def dGJ(N:Nat):AC:=λc m h K=>∃s t ps qs,c=[cS s,cS t,.val (.func (.func 217) #[] #[])]/\FX h s ps/\FX h t qs/\(∀p∈ps,SizeOf.sizeOf p<N)/\∀r:Bool,(r=true↔ps=qs)->K (cB r) m h
def ctJ N:=jc [(228,dzX),(69,CU),(229,Xi),(230,Xh),(231,dGJ N)] [] [] [] false
def csQ(N:Nat)(s t:Sl)(ps qs:List ae)(m:MH)(h:PH):=
 jc [(217,dZX N)] [ID 4 (λi=>bO 32 35 ([(1,sv t),(2,vv (.func (.func 217) #[] #[]))]++WF 15 s i) [] m h) (λi=>i<=ps.length/\∀j:Nat,j<i->ps[j]?=qs[j]?) (λi=>ps.length-i)] [] [] false
abbrev D4(a b:uc)(c d e:Prop)(g:Bool->Prop):=a=b/\c/\d/\∀x,(mZ x↔e)->g x
abbrev fG a b:=nN (tV a) (tV b)
abbrev E8(a b:Sl)(c:PH)(d:Bool->Prop):=lC (λx e=>C7 (λf g=>D4 (fG a b) (fG x e) (an c x f) (an c e g) (f=g) (λj=>d j)))
abbrev pR(a:ae)(b:Nat):=SizeOf.sizeOf a<b
abbrev mQ(a:QV->ae->Prop):=∃x c,a x c
abbrev i7(a:QV):=mX a.ag
attribute [push_cast] D4 fG E8 pR mQ i7
def Py(N:Nat)(v w:QV):=λm h K=>dP v.op w.op (dP v.ah w.ah (dP v.bg w.bg (M8 (λd e p q=>D4 (bL (oK v.ap) w.ap.ag) (bL (oK d) e.ag) (fV h p d) (fV h q e) (p=q) (λr=>sI r (E8 v.aa w.aa h (λE=>sI E (lC (λs t=>∃a b,D4 (fG v.on w.on) (fG s t) (l9 h s a) (l9 h t b) (a=b) (λF=>sI F (E8 v.be w.be h (λG=>sI G (lC (λf g=>∃j n,D4 (fG v.bh w.bh) (fG f g) (lF h f j) (lF h g n) (j=n) (λH=>sI H (lC (λu y=>∃c z,bU v.args (j8 w.args (vB 217 yZ))=bU u (j8 y (vB 217 yZ))/\FX h u c/\FX h y z/\(∀A,List.Mem A c->pR A N)/\∀D,(mZ D↔c=
 z)->K (AU D) m h)) K m h))) K m h)) K m h))) K m h)) K m h))) (K bH m h)) (K bH m h)) (K bH m h)
def VE(N:Nat)(s t:Sl)(ps qs:List ae):ST:=λm h K=>cM (aF s) (aF t) (K bH m h) (lN (∃x,lN (x<=ps.length) (λj=>j<x->ps[j]?=qs[j]?)/\aH t/\HB 217/\aH s/\aY s/\bB x/\m=m/\h=h/\True) (λx=>lN (x<=ps.length) (λj=>j<x->ps[j]?=qs[j]?)->aX x (aF s) (ab s x 21 QV.ag m h (λy=>ab t x 21 QV.ag m h (λf=>∃v,mQ (λw p=>∃q,bL (i7 y) f.ag=bL (i7 v) w.ag/\cQ h p v/\cQ h q w/\pR p N/\∀r,(mZ r↔p=q)->cC r (K bH m h) (∃c,lN (c<=ps.length) (λj=>j<c->ps[j]?=qs[j]?)/\ps.length-
 c<ps.length-x/\aH t/\HB 217/\aH s/\aY s/\fI (bA x 1)=bR c/\m=m/\dC h h))))) (K eE m h)))
theorem dpX{w p}(s:cQ h p v)(t:cQ h q w)(S:SizeOf.sizeOf p<N+1)(n:∀r:Bool,(r=true↔p=q)->K (cB r) m h):Py N v w m h K:=by
 dsimp only[Py,push_cast];have c:p≠q->K (cB false) m h:=λh=>n false ⟨λe=>(by cases e),λe=>(h e).elim⟩;have d:=@vV p;obtain⟨op,ta,T,co,on,gr,od,li,ps⟩:=p;obtain⟨u,y,z,A,D,E,F,G,qs⟩:=q;have a:=s.parts;have b:=t.parts
 refine aB (λf=>aB (λg=>aB (λj=>⟨_,_,_,_,rfl,a.ap,b.ap,λU V=>aB (λH=>⟨_,_,_,_,rfl,a.aw,b.aw,λW X=>aB (λI=>⟨_,_,_,_,rfl,a.ez,b.ez,λY Z=>aB (λJ=>⟨_,_,_,_,rfl,a.az,b.az,λr7 h7=>aB (λM=>⟨_,_,_,_,rfl,a.bd,b.bd,λr8 h8=>aB (λO=>⟨_,_,_,_,rfl,a.bf,b.bf,λp Q=>?_,λr R=>n r (R.trans ?_)⟩)
  (λO=>c λe=>?_)⟩) (λM=>c λe=>?_)⟩) (λJ=>c λe=>?_)⟩) (λI=>c λe=>?_)⟩) (λH=>c λe=>?_)⟩) (λj=>c λe=>?_)) (λg=>c λe=>?_)) (λf=>c λe=>?_)
 .have:=d (q:=p) Q;omega
 .rw[a.jp,b.jp,beq_iff_eq]at f;rw[a.dd,b.dd,beq_iff_eq]at g;rw[a.dm,b.dm,beq_iff_eq]at j
  grind
 .grind
 .grind
 .grind
 .grind
 .grind
 .injection e with _ _ _ _ _ _ _ e _;rw[a.dm,b.dm,e]at j;simp at j
 .injection e with _ e _ _ _ _ _ _ _;rw[a.dd,b.dd,e]at g;simp at g
 .injection e with e _ _ _ _ _ _ _ _;rw[a.jp,b.jp,e]at f;simp at f
theorem aoX:∀N,uz 217 (dZX N)
 |0=>by
  refine gV func217 ?_;rintro g m h K⟨v,w,p,q,rfl,D,_,E,_⟩;omega
 |N+1=>by
  have z:uz 231 (dGJ N):=by
   refine gV func231 ?_;rintro g m h K⟨s,t,ps,qs,rfl,H,Q,E,F⟩;refine⟨csQ N s t ps qs m h,rfl,aD (aoX N) aG,VE N s t ps qs,bt,?_⟩;dsimp only[VE,push_cast];have d:=H.e;have A:=Q.e;have T:=H.len;have R:ps≠qs->K (cB false) m h:=λh=>F false ⟨λe=>(by cases e),λe=>(h e).elim⟩;refine aB (λI=>R (λe=>X2 d A I (by rw[e]))) (λI=>?_);have U:=SZ d A I;refine⟨⟨0,⟨aC,λj hj=>by omega⟩,MT⟩,λi S=>aE (λf=>?_) (λV=>?_)⟩
   .have⟨x,G⟩:=eF d f;obtain⟨y,J⟩:∃y,qs[i]?=some y:=eF (n:=s.len) aC f;have⟨W,X,u,Y,Z,ru⟩:=H.at G;have⟨b2,o2,w,e2,r2,M⟩:=Q.at J;refine⟨W,X,Y,aC,f,u,.ay Z,b2,o2,e2,aC,aC,w,.ay r2,u,w,x,y,rfl,ru,M,E x (si G),λr D=>aB (λa'=>R (ZO G J (λe=>?_))) (λhe=>?_)⟩
    .grind
    .have O:r=true:=da
     exact⟨i+1,⟨aC,EJ G J (D.1 O) S.2⟩,aC,MT⟩
   .exact F true ⟨λ_=>Gy U aC S.2,λ_=>rfl⟩
  refine gV func217 ?_;rintro g m h K⟨v,w,p,q,rfl,D,hq,E,F⟩;refine⟨ctJ N,rfl,aD aTX (aD Kj (aD aTQ (aD aSZ (aD z aG)))),Py N v w,bt,?_⟩;exact dpX D hq E F
theorem aVX:uz 217 dZZ:=jL aoX λ_ _ _ _⟨v,w,p,q,e,c,d,f⟩=>⟨SizeOf.sizeOf p+1,v,w,p,q,e,c,d,aC,f⟩
structure Ref where
 aa:ti
 ah:Int
structure xK where
 name:ByteArray
 aa:List oI
 key:Int
 ga:List Ref
 cd:List ao
structure kD where
 dc:Int
 c:List xK
variable{s:kD}
structure YG(h:PH)(r:Ref)(v:Ii):Prop where
 aa:an h v.aa r.aa
 ah:v.ah=r.ah
def Ij h s l:=aU h 2 oI.ag Eq s l
structure T8(h:PH)(t:xK)(v:cD):Prop where
 name:v.name=t.name
 aa:Ij h v.aa t.aa
 key:v.key=t.key
 ga:aU h 2 Ii.ag (YG h) v.ba t.ga
 cd:I6 h v.cd t.cd
structure dV(h:PH)(s:kD)(v:bQ):Prop where
 dc:v.dc=s.dc
 c:aU h 5 cD.ag (T8 h) v.c s.c
theorem YG.mono{r v}(x:YG h r v)(le:PH.le h h'):YG h' r v:=⟨x.aa.mono le,x.ah⟩
theorem T8.mono{t v}(x:T8 h t v)(le:PH.le h h'):T8 h' t v:=
 ⟨x.name,aU.mono x.aa le λ_ _ e=>e,x.key,x.ga.mono le λ_ _ e=>e.mono le,x.cd.mono le⟩
theorem dV.mono{v}(x:dV h s v)(le:PH.le h h'):dV h' s v:=⟨x.dc,x.c.mono le λ_ _ e=>e.mono le⟩
def fy c:=97<=c&&c<=122
def BG c:=fy c||(48<=c&&c<=57)||c==95
def uU(s:ByteArray):=s.data.toList.map UInt8.toNat
def tA s:=1<=s.size&&s.size<=32&&fy ((uU s).headD 0)&&(uU s).all BG
theorem W8 s:(uU s).length=s.size:=by simp[uU]
theorem caZ{s c}(h:(uU s)[i]?=some c):(s.get! i).toNat=c/\c<256:=by
 simp only[uU,getElem?_map,Option.map_eq_some_iff]at h;obtain⟨b,e,rfl⟩:=h;refine⟨?_,b.toNat_lt⟩
 have f:i<s.data.size:=by
  grind
 have:s.data[i]?=some b:=da
 cases s with
 |mk d=>
  show(d[i]!).toNat=b.toNat
  grind
theorem P2{s}(h:(s.get! i).toNat<128):Utf8.decode s i=((s.get! i).toNat,1):=by
 simp_all[Utf8.decode,Nat.add_zero]
theorem caX{s}(h:¬(s.get! i).toNat<128):128<=(Utf8.decode s i).1:=by
 grind[Utf8.decode,Utf8.runeError]
def Yr(s:ByteArray):CV:=.val (.string s)
def bGQ:AC:=λc m h K=>∃s,c=[Yr s]/\K (cB (tA s)) m h
def cDX s m h:=
 jc [] [(4,{A:=Nat×Nat×MH,st:=λx=>bO 44 45 [(15,vv (.pointer (some ⟨x.2.1,0,none⟩)))] [] x.2.2 h,ml:=λx=>x.1<=s.size/\eT m h x.2.1/\iZ m x.2.2 x.2.1 (.stringIter s x.1)/\(x.1=0\/fy ((uU s).headD 0)=true)/\((uU s).take x.1).all BG=true,mu:=λx=>s.size-x.1})] [] [] false
def cEX s m h:=
 jc [] [ID 4 (λi=>bO 50 51 [(0,vv (.string s)),(3,iv i)] [] m h) (λi=>i<=s.size/\((uU s).take i).all BG=true) (λi=>s.size-i)] [] [] false
abbrev RW(a b:(Nat×Nat×MH)->Prop):=(∃x,a x)/\∀x,b x
abbrev mP a b c d:=a/\b/\c/\d/\True
abbrev lM(a:Nat×Nat×MH):=a.2.1
abbrev jG(a:Nat×Nat×MH):=a.2.2
abbrev E3 a b c d:=a.1<=b.size/\eT c d (lM a)/\iZ c (jG a) (lM a) (Obj.stringIter b a.1)/\(a.1=0\/mZ (fy (headD (uU b) 0)))/\mZ (List.all (List.take a.1 (uU b)) BG)
abbrev fL a b:=ov a 0=ov b 0
abbrev GV a b:=(Utf8.decode a b).1
abbrev DZ(a:ByteArray)(b c:Nat):=a.size-b<a.size-c
abbrev Jw(a:(Nat×Nat×MH)->Prop)(b:ByteArray)(c:Nat×Nat×MH)(d:MH)(e:PH):=∃x,a x/\DZ b x.1 c.1/\fL (lM c) (lM x)/\d=jG x/\dC e e
abbrev wQ(a:Bool)(b:Prop)(c d:Int)(e g:Prop):=dJ a b (decide (c>d)) e g
abbrev Rw(a:Prop)(b:ByteArray)(c:Nat)(d:UInt8->UInt8)(e:UInt8->Prop):=a/\∃x,b.data.toList[c]?=some (d x)/\e x
abbrev Bt(a:UInt8):Int:=a.toNat
abbrev Cg a b:=a<=b.size/\mZ (List.all (List.take a (uU b)) BG)
abbrev vM(a:Nat):=dK a
abbrev tY(a:Nat):=(↑a:Int).toNat
attribute [push_cast] RW mP lM jG E3 fL GV DZ Jw wQ Rw Bt Cg vM tY
def PR(s:ByteArray):ST:=λm h K=>aX s.size 1 (K bH m h) (eH s.size 32 (K bH m h) (∀b e,eT m h b->iZ m e b (Obj.stringIter s 0)->RW (λx=>mP (E3 x s m h) (fL b (lM x)) (e=jG x) (h=h)) (λx=>E3 x s m h->∃c p,yA (jG x) (lM x) (Obj.stringIter c p)/\(c.size<=p->K eE (jG x) h)/\(p<c.size->∀d,let A:=Jw (λy=>E3 y s m h) s x d h;let B:=aX (↑(GV c p):Int) 48 (K bH d h) (eH (↑(GV c p):Int) 57 (K bH d h) A);iZ (jG x) d (lM x) (Obj.stringIter c (p+(Utf8.decode c p).2))->dJ (decide ((↑(GV c p):Int)>=97)) (cC (decide ((↑(GV c p):Int)<=122)) (dJ ((↑p:Int)==0) (K bH d h) ((↑(GV c p):Int) !=95) B A) A) ((↑p:Int)==0) (K bH d h) (cM (↑(GV c p):Int) 95 B A)))))
def Wu(s:ByteArray):ST:=λm h K=>wQ ((↑s.size:Int)==0) (K bH m h) s.size 32 (K bH m h) (Rw (dK 0) s 0 (λb=>b) (λb=>aX b.toNat 97 (K bH m h) (Rw (dK 0) s 0 (λd=>d) (λd=>eH (Bt d) 122 (K bH m h) (lN (∃x,Cg x s/\eQ (SV.at (LV s))/\bB x/\m=m/\dC h h) (λx=>Cg x s->aX x s.size (Rw (vM x) s (tY x) (λc=>c) (λc=>let A:=∃y,Cg y s/\DZ s y x/\eQ (SV.at (LV s))/\fI (bA x 1)=bR y/\eV (m=m) (h=h);let B:=cM (Bt c) 95 (K bH m h) A;aX c.toNat 97 (aX c.toNat 48 B (eH (Bt c) 57 B (∃y,Cg y s/\DZ s y x/\eQ (SV.at (LV s))/\fI (bA x 1)=bR y/\eV (m=m) (h=h)))) (eH (Bt c) 122 (aX c.toNat 48 B (eH (Bt c) 57 B A)) A))) (K eE m h)))))))
def pY(h:PH)(K:tt):CV->MH->PH->Prop:=λr m' h'=>∃d c,(∀b o,d b=some o->m' b=some o)/\PH.le h c/\PH.le c h'/\K r d c
theorem pY.lm{r}(c:K r m h):pY h K r m h:=⟨m,h,λ_ _ e=>e,.refl _,.refl _,c⟩
theorem pY.sub{r}(c:∀b o,m b=some o->m' b=some o)(d:K r m h):pY h K r m' h:=⟨m,h,c,.refl _,.refl _,d⟩
theorem iZ.keeps{o}(f:eT m h b)(g:iZ m m' b o):∀b o,m b=some o->m' b=some o:=λd n e=>by
 have c:d≠b:=λj=>by rw[j,f.m_]at e;cases e
 rw[g.ai d c,e]
theorem a9Z:uz 143 bGQ:=by
 refine Lr func143 ?_;rintro R m h K⟨s,rfl,D⟩;refine⟨cDX s m h,rfl,aG,PR s m h (λr m' h'=>∃u E,(∀b o,u b=some o->m' b=some o)/\PH.le h E/\PH.le E h'/\K r u E),bt,?_⟩;show PR s m h (pY h K);dsimp only[PR,push_cast];have hl:=W8 s;refine aE (λS=>?_) (λS=>aE (λE=>?_) (λE b T A F=>?_))
 .refine .lm (lQ D ?_)
  grind[tA]
 .refine .lm (lQ D ?_)
  grind[tA]
 refine⟨⟨(0,b,T),⟨bu,A,F,.inl rfl,bu⟩,MT⟩,?_⟩;rintro⟨d,b,mx⟩⟨U,A,f,g,j⟩;simp only at U A f g j;refine⟨s,d,⟨f.y⟩,λV=>?_,λW u G=>?_⟩
 .refine .sub (iZ.keeps A f) (lQ D ?_)
  grind[fy,uU,tA,sm,decide_eq_true]
 .have t:=f.trans G;obtain⟨c,O⟩:∃c,(uU s)[d]?=some c:=⟨(uU s)[d]'(by omega),sh _⟩
  have⟨Q,J⟩:=caZ O
  have M:d=0->(uU s).headD 0=c:=λe=>by
   subst e;cases X:uU s with
   |nil=>grind
   |cons x l=>grind
  have H:¬((97<=(Utf8.decode s d).1/\(Utf8.decode s d).1<=122)\/(d≠0/\((Utf8.decode s d).1=95\/(48<=(Utf8.decode s d).1/\(Utf8.decode s d).1<=57))))->pY h K (.val (.bool false)) u h:=by
   intro Y;refine .sub (iZ.keeps A t) (lQ D ?_);by_cases n:(s.get! d).toNat<128
   .rw[P2 n,Q]at Y;by_cases Z:d=0
    .grind[fy,tA]
    .have:BG c=false:=by
      grind[BG,fy,Bool.or_eq_false_iff,Bool.and_eq_false_iff,decide_eq_false_iff_not,beq_eq_false_iff_ne]
     grind[tA,R4]
   .have:BG c=false:=by
     grind[BG,fy,Bool.or_eq_false_iff,Bool.and_eq_false_iff,decide_eq_false_iff_not,beq_eq_false_iff_ne]
    grind[tA,R4]
  have I:((97<=(Utf8.decode s d).1/\(Utf8.decode s d).1<=122)\/(d≠0/\((Utf8.decode s d).1=95\/(48<=(Utf8.decode s d).1/\(Utf8.decode s d).1<=57))))->d+1<=s.size/\iZ m u b (.stringIter s (d+1))/\fy ((uU s).headD 0)=true/\((uU s).take (d+1)).all BG=true:=by
   intro z
   have n:(s.get! d).toNat<128:=by
    refine Decidable.byContradiction λn=>?_
    grind[caX]
   rw[P2 n]at t;rw[P2 n,Q]at z;simp only at z;refine⟨aC,t,?_,?_⟩
   .grind[fy]
   .rw[EI O,j]
    grind[BG,fy]
  have next:((97<=(Utf8.decode s d).1/\(Utf8.decode s d).1<=122)\/(d≠0/\((Utf8.decode s d).1=95\/(48<=(Utf8.decode s d).1/\(Utf8.decode s d).1<=57))))->_:=λz=>(⟨(d+1,b,u),⟨(I z).1,A,(I z).2.1,.inr (I z).2.2.1,(I z).2.2.2⟩,aC,MT⟩:∃(y:Nat×Nat×MH),(y.fst<=s.size/\eT m h y.snd.fst/\iZ m y.snd.2 y.snd.fst (Obj.stringIter s y.fst)/\(y.fst=0\/fy ((uU s).headD 0)=true)/\(List.take y.fst (uU s)).all BG=true)/\s.size-y.fst<s.size-d/\SV.at (At.val (Value.pointer (some (Addr.mk b 0 none))))=SV.at (At.val (Value.pointer (some (Addr.mk y.snd.fst 0 none))))/\u=y.snd.2/\h=h/\True)
  clear I t G j g M f F D
  repeat' (first|(refine aB (λ_=>?_) (λ_=>?_))|exact H (by simp only[s0,decide_eq_false_iff_not,bne_iff_ne,ne_eq,beq_iff_eq,beq_eq_false_iff_ne,bne_eq_false_iff_eq,Bool.not_eq_true',Bool.not_eq_false']at*;omega)|exact next (by simp only[s0,decide_eq_false_iff_not,bne_iff_ne,ne_eq,beq_eq_false_iff_ne,bne_eq_false_iff_eq,Bool.not_eq_true',Bool.not_eq_false']at*;omega))
theorem baJ:uz 137 bGQ:=by
 refine gV func137 ?_;rintro E m h K⟨s,rfl,f⟩;refine⟨cEX s m h,rfl,aG,Wu s,bt,?_⟩;dsimp only[Wu,push_cast];have Q:=W8 s;refine aB (λA=>lQ f ?_) (λA=>aE (λF=>lQ f ?_) (λF=>?_))
 .grind[tA]
 .grind[tA]
 have A:s.size≠0:=bz
 obtain⟨n,g⟩:∃c,s.data.toList[0]?=some c:=⟨s.data.toList[0]'(by simpa using(by omega:0<s.size)),sh _⟩
 have t:(uU s).headD 0=n.toNat:=by
  unfold uU;cases G:s.data.toList with
  |nil=>simp_all
  |cons x l=>simp_all
 refine⟨aC,n,g,aE (λH=>lQ f ?_) (λH=>⟨aC,n,g,aE (λI=>lQ f ?_) (λI=>?_)⟩)⟩
 .grind[fy,tA]
 .grind[fy,tA]
 refine⟨⟨0,⟨aC,bu⟩,MT⟩,λi J=>aE (λM=>?_) (λO=>lQ f ?_)⟩
 .obtain⟨c,D⟩:∃c,s.data.toList[i]?=some c:=⟨s.data.toList[i]' bz,sh _⟩
  have u:(uU s)[i]?=some c.toNat:=by simp[uU,D]
  have d:BG c.toNat=false->K (.val (.bool false)) m h:=λe=>lQ f (by grind[tA,R4]);have next:BG c.toNat=true->∃(y:Nat),(y<=s.size/\(List.take y (uU s)).all BG=true)/\s.size-y<s.size-i/\SV.at (At.val (Value.string s))=SV.at (At.val (Value.string s))/\SV.at (At.val (Value.int IntKind.i64 (IntKind.i64.wrap ((i:Int)+1))))=SV.at (At.val (Value.int IntKind.i64 (y:Int)))/\m=m/\h=h/\True:=λe=>⟨i+1,⟨aC,by grind[EI]⟩,aC,MT⟩
  have j:BG c.toNat=true↔(97<=c.toNat/\c.toNat<=122)\/(48<=c.toNat/\c.toNat<=57)\/c.toNat=95:=by
   grind[BG,fy]
  have z:BG c.toNat=false↔¬((97<=c.toNat/\c.toNat<=122)\/(48<=c.toNat/\c.toNat<=57)\/c.toNat=95):=by
   rw[<-j];simp
  refine⟨aC,c,mp D,?_⟩;clear f J t u z;rw[j]at next
  have d:=λe=>d (by rw[<-Bool.not_eq_true,j];exact e);clear j
  repeat' (first|(refine aB (λ_=>?_) (λ_=>?_))|exact d (by simp only[s0,decide_eq_false_iff_not,bne_iff_ne,ne_eq,beq_eq_false_iff_ne,bne_eq_false_iff_eq]at*;omega)|exact next (by simp only[s0,decide_eq_false_iff_not,ne_eq,beq_eq_false_iff_ne,bne_eq_false_iff_eq]at*;omega))
 grind[fy,tA]
end Go.Ps
