/-
  Part 2 of a proof that a law of the given program returns true: a condition generator that is proved sound, and contracts of functions. No condition of its own. Own work, joined by a program (pack2.py).
-/
import Derived.MapKept
import Derived.Maps.RangeRun
import Derived.Test.YtileehgdfcknkaaGreatDoorProg
import Derived.IntWalk
import Derived.ChangeKeysEq
import Derived.Test.YtileehgdfcknkaaGreatDoorGa
set_option linter.unusedVariables false
set_option linter.unusedSimpArgs false
namespace Go.Vc
open Go
section
variable{B:oH}{C:Ctx}{ι:Nat->Value}{σ:St}{a:Act}{w:World}{o:Oper}{K:St->Prop}
theorem Vd(hM:aI B ι σ a w)(ob:Obj):
 aI B ι {σ with m:=λb=>if b=w.heap.size then some ob else σ.m b} a (w.alloc ob)/\cH σ.m σ.h w.heap.size/\∀o,D4 σ ι o w (w.alloc ob):=by
 have hw:=hM.wrel
 have hun:cH σ.m σ.h w.heap.size:=by
  constructor
  .cases e:σ.m w.heap.size with
   |none=>rfl
   |some x=>have:=(Array.getElem?_eq_some_iff.1 (hw.msat _ _ e)).1;omega
  .intro i;cases e:σ.h w.heap.size i with
   |none=>rfl
   |some x=>have:=World.block_lt_of_cell? w ⟨w.heap.size,i,none⟩ (hw.hsat _ _ _ e);simp at this
 have hsz:(w.alloc ob).heap.size=w.heap.size+1:=by show(w.heap.push ob).size=_;simp
 refine⟨⟨hM.slots,hM.defers,λk o' hk=>(hM.own k o' hk).world (λb hb=>fM w ob (nD (hM.own k o' hk) hb)),hM.dist,?_,?_,hM.one⟩,hun,λo=>⟨?_,?_,λ_ b hb=>fM w ob hb,λ_ b _ hb _ _=>fM w ob hb⟩⟩
 .intro k o' b hk hb;obtain⟨f1,f2,f3⟩:=hM.fresh k o' b hk hb;have hlt:=nD (hM.own k o' hk) hb;refine⟨f1,?_,f3⟩;show(if b=w.heap.size then some ob else σ.m b)=none;rw[if_neg aC];exact f2
 .refine⟨hw.tape,hw.os,hw.output,hw.drawn,by rw[hsz];exact Nat.le_succ_of_le hw.size,?_,?_,?_,?_,hw.hle,hw.hold,?_⟩
  .intro b hb hE;rw[fM w ob (Nat.lt_of_lt_of_le hb hw.size)];exact hw.frame b hb hE
  .intro b i v hv;have h1:=hw.hsat b i v hv;rw[<-h1];exact World.cell?_of_block (w:=w) (w':=w.alloc ob) (a:=⟨b,i,none⟩) (fM w ob (World.block_lt_of_cell? w ⟨b,i,none⟩ h1))
  .intro b x hb;have hb:(if b=w.heap.size then some ob else σ.m b)=some x:=hb;by_cases e:b=w.heap.size
   .rw[if_pos e]at hb;rw[e,kS];exact hb
   .rw[if_neg e]at hb;have h1:=hw.msat b x hb;rw[fM w ob (Array.getElem?_eq_some_iff.1 h1).1];exact h1
  .intro b x hb i;have hb:(if b=w.heap.size then some ob else σ.m b)=some x:=hb;by_cases e:b=w.heap.size
   .rw[e];exact hun.h_ i
   .rw[if_neg e]at hb;exact hw.disj b x hb i
  .intro b x hb;have hb:(if b=w.heap.size then some ob else σ.m b)=some x:=hb;by_cases e:b=w.heap.size
   .left;rw[e];exact hw.size
   .rw[if_neg e]at hb;exact hw.mfr b x hb
 .intro k p T cs b hk _ hι;exact fM w ob (nD (hM.own k _ hk) (by rw[hι];rfl))
 .intro b i v hv;have h1:=hw.hsat b i v hv;rw[<-h1];exact World.cell?_of_block (w:=w) (w':=w.alloc ob) (a:=⟨b,i,none⟩) (fM w ob (World.block_lt_of_cell? w ⟨b,i,none⟩ h1))
theorem NN(hM:aI B ι σ a w){b:Nat}{ob0 ob:Obj}(hm:σ.m b=some ob0):
 aI B ι {σ with m:=λb'=>if b'=b then some ob else σ.m b'} a {w with heap:=w.heap.setIfInBounds b ob}/\∀o,vD o.op=false->D4 σ ι o w {w with heap:=w.heap.setIfInBounds b ob}:=by
 have hw:=hM.wrel;have hlt:b<w.heap.size:=(Array.getElem?_eq_some_iff.1 (hw.msat _ _ hm)).1
 have hblock:∀b',b'≠b->(w.heap.setIfInBounds b ob)[b']? =w.heap[b']? :=λb' hne=>by
  rw[Array.getElem?_setIfInBounds_ne (Ne.symm hne)]
 have hself:(w.heap.setIfInBounds b ob)[b]? =some ob:=by simp[hlt]
 have hnb:∀k o',nth σ.own k=some (some o')->blk (ι k)≠some b:=by
  intro k o' hk hb;have:=(hM.fresh k o' b hk hb).2.1;rw[hm]at this;cases this
 have hcell:∀b' i v,σ.h b' i=some v->({w with heap:=w.heap.setIfInBounds b ob}:World).cell? ⟨b',i,none⟩=some v:=by
  intro b' i v hv;have hne:b'≠b:=λe=>by subst e;rw[hw.disj b' _ hm i]at hv;cases hv
  have h2:=hw.hsat b' i v hv;rw[<-h2];exact World.cell?_of_block (w:=w) (w':={w with heap:=w.heap.setIfInBounds b ob}) (a:=⟨b',i,none⟩) (hblock b' hne)
 refine⟨⟨hM.slots,hM.defers,λk o' hk=>(hM.own k o' hk).world (λb' hb'=>hblock b' (λe=>hnb k o' hk (e▸hb'))),hM.dist,?_,?_,hM.one⟩,λo hg=>⟨?_,hcell,λh=>(by rw[hg]at h;cases h),λ_ b' _ _ hn _=>hblock b' (λe=>by rw[e,hm]at hn;cases hn)⟩⟩
 .intro k o' b' hk hb';obtain⟨f1,f2,f3⟩:=hM.fresh k o' b' hk hb';refine⟨f1,?_,f3⟩;show(if b'=b then some ob else σ.m b')=none;rw[if_neg (fun(e:b'=b)=>hnb k o' hk (e▸hb'))];exact f2
 .refine⟨hw.tape,hw.os,hw.output,hw.drawn,by simpa using hw.size,?_,hcell,?_,?_,hw.hle,hw.hold,?_⟩
  .intro b' hb' hE
   have hne:b'≠b:=λe=>by
    subst e;rcases hw.mfr b' _ hm with h2|h2
    .omega
    .exact hE h2
   rw[hblock b' hne];exact hw.frame b' hb' hE
  .intro b' x hb';have hb':(if b'=b then some ob else σ.m b')=some x:=hb';by_cases e:b'=b
   .rw[if_pos e]at hb';rw[e, <-hb'];exact hself
   .rw[if_neg e]at hb';rw[hblock b' e];exact hw.msat b' x hb'
  .intro b' x hb' i;have hb':(if b'=b then some ob else σ.m b')=some x:=hb';by_cases e:b'=b
   .rw[e];exact hw.disj b _ hm i
   .rw[if_neg e]at hb';exact hw.disj b' _ hb' i
  .intro b' x hb';have hb':(if b'=b then some ob else σ.m b')=some x:=hb';by_cases e:b'=b
   .rw[e];exact hw.mfr b _ hm
   .rw[if_neg e]at hb';exact hw.mfr b' _ hb'
 .intro k p T cs b' hk _ hι;exact hblock b' (λe=>hnb k _ hk (by rw[hι,e];rfl))
theorem Kk(hM:aI B ι σ a w){t:Nat}{r:Option Operand}(ho:o.op= .makeMap t r)(h:F0 o r σ K):PQ B C ι o σ K a w:=by
 intro next Q hnext
 unfold F0 at h;split at h
 .obtain⟨hM1,hun,hk⟩:=Vd hM (.map #[] 0)
  have hrun:(execOp a.eval o).run C.P w= .ok (.value (.map (some w.heap.size))) (w.alloc (.map #[] 0)):=by
   unfold execOp;simp[ho,Instr.makeMap]
  unfold Oper.wp;rw[hrun,Oper.upon_value];exact hnext ι _ _ _ (hM1.put o.dst (x:=.at (.val (.map (some w.heap.size)))) rfl) (h w.heap.size _ hun ⟨by simp,λb' hb'=>by simp[hb']⟩) (hk o)
 .exact h.elim
theorem aI.drew{B:oH}{ι:Nat->Value}{σ:St}{a:Act}{w:World}(h:aI B ι σ a w)(k:Nat)(hk:w.drawn<=k):aI B ι σ a {w with drawn:=k}:=by
 refine⟨h.slots,h.defers,λj o hj=>(h.own j o hj).world (λ_ _=>rfl),h.dist,h.fresh,?_,h.one⟩;have hw:=h.wrel;exact⟨hw.tape,hw.os,hw.output,Nat.le_trans hw.drawn hk,hw.size,hw.frame,hw.hsat,hw.msat,hw.disj,hw.hle,hw.hold,hw.mfr⟩
theorem sB{α:Type}{l:List α}{j:Nat}{x:α}(h:l[j]? =some x):l=l.take j++x::l.drop (j+1):=by
 have hj:=(List.getElem?_eq_some_iff.1 h).1;have e:=(List.getElem?_eq_some_iff.1 h).2;rw[<-e, <-List.drop_eq_getElem_cons hj,List.take_append_drop]
theorem NZ(hM:aI B ι σ a w){t:Nat}{x:Operand}(ho:o.op= .range t x)(h:Mn C o t x σ K):PQ B C ι o σ K a w:=by
 intro next Q hnext
 have hev:=hM.ev x;unfold Mn at h;split at h
 .rename_i s hu hx;rw[hx]at hev;have hev:a.eval x= .string s:=hev;obtain⟨hM1,hun,hk⟩:=Vd hM (.stringIter s 0)
  have hrun:(execOp a.eval o).run C.P w= .ok (.value (.pointer (some ⟨w.heap.size,0,none⟩))) (w.alloc (.stringIter s 0)):=by
   unfold execOp;simp[ho,hev,Instr.range,run_underlying hu]
  unfold Oper.wp;rw[hrun,Oper.upon_value];exact hnext ι _ _ _ (hM1.put o.dst (x:=.at (.val (.pointer (some ⟨w.heap.size,0,none⟩)))) rfl) (h w.heap.size _ hun ⟨by simp,λb' hb'=>by simp[hb']⟩) (hk o)
 .rename_i kt et b hu hx;rw[hx]at hev;have hev:a.eval x= .map (some b):=hev;obtain⟨kvs,⟨es,clock,hm,hes,hborn,hnd⟩,h⟩:=h;have hg:=hM.wrel.msat b _ hm;obtain⟨hM1,hun,hk⟩:=Vd hM (.mapIter (some b) clock #[] clock)
  have hrun:(execOp a.eval o).run C.P w= .ok (.value (.pointer (some ⟨w.heap.size,0,none⟩))) (w.alloc (.mapIter (some b) clock #[] clock)):=by
   unfold execOp;simp[ho,hev,Instr.range,run_underlying hu,MapKept.run_getObj_map hg,Result.andThen]
  unfold Oper.wp;rw[hrun,Oper.upon_value];have hne:b≠w.heap.size:=λe=>by have:=(Array.getElem?_eq_some_iff.1 hg).1;omega
  refine hnext ι _ _ _ (hM1.put o.dst (x:=.at (.val (.pointer (some ⟨w.heap.size,0,none⟩)))) rfl) (h w.heap.size _ hun ⟨λb' hb'=>by simp[hb']⟩ ⟨es,clock,clock, #[],clock,?_,hes,hborn,hnd,by simp,hborn,Nat.le_refl _,Nat.le_refl _,?_⟩) (hk o)
  .simp[hne,hm]
  .rw[<-hes];congr 1;exact List.filter_eq_self.2 (λ_ _=>by simp)
 .exact h.elim
theorem Qd(hM:aI B ι σ a w){x:Operand}{st:Bool}(ho:o.op= .next x st)(h:Qe o x st σ K):PQ B C ι o σ K a w:=by
 intro next Q hnext
 have hev:=hM.ev x;unfold Qe at h;split at h
 .rename_i b hx;rw[hx]at hev;have hev:a.eval x= .pointer (some ⟨b,0,none⟩):=hev;obtain⟨s,pos,hm,h1,h2⟩:=h;have hg:=hM.wrel.msat b _ hm.at_;by_cases hlt:pos<s.size
  .obtain⟨hM1,hk⟩:=NN (ob:=.stringIter s (pos+(Utf8.decode s pos).2)) hM hm.at_
   have hrun:(execOp a.eval o).run C.P w= .ok (.value (.tuple #[.bool true,.int .i64 pos,.int .i32 (Utf8.decode s pos).1])) {w with heap:=w.heap.setIfInBounds b (.stringIter s (pos+(Utf8.decode s pos).2))}:=by
    unfold execOp;simp[ho,hev,Instr.next,getObj,setObj,Sem.run,hg,hlt,goInt,Result.andThen]
   unfold Oper.wp;rw[hrun,Oper.upon_value];refine hnext ι _ _ _ (hM1.put o.dst (x:=.tup _) ?_) (h2 hlt _ ⟨by simp,λb' hb'=>by simp[hb']⟩) (hk o (by rw[ho];rfl));exact⟨_,rfl,rfl,rfl,rfl,trivial⟩
  .have hrun:(execOp a.eval o).run C.P w= .ok (.value (.tuple #[.bool false])) w:=by
    unfold execOp;simp[ho,hev,Instr.next,getObj,Sem.run,hg,hlt,Result.andThen]
   unfold Oper.wp;rw[hrun,Oper.upon_value];refine hnext ι _ _ _ (hM.put o.dst (x:=.tup _) ?_) (h1 aC) (j6 hM);exact⟨_,rfl,rfl,trivial⟩
 .rename_i r hx;rw[hx]at hev;have hev:a.eval x= .pointer (some ⟨r,0,none⟩):=hev;obtain⟨b,kvs,left,⟨es,clock,since,seen,c0,hmb,hes,hborn,hnd,hmr,hold,hsc,hscl,hleft⟩,h1,h2⟩:=h;have hgb:=hM.wrel.msat b _ hmb;have hgr:=hM.wrel.msat r _ hmr;rcases run_next_at (P:=C.P) w o.type r b since c0 seen es clock hgr hgb hold hsc with⟨h0,hrun⟩|⟨e,he,w1,hw1,hrun⟩
  .have hl:left=[]:=by
    rw[<-hleft];have:(leftOf es seen).toList=[]:=by simpa using h0
    unfold leftOf at this;rw[Array.toList_filter]at this;rw[this];rfl
   have hrun:(execOp a.eval o).run C.P w= .ok (.value (.tuple #[.bool false])) w:=by
    unfold execOp;simp[ho,hev,hrun,Result.andThen]
   unfold Oper.wp;rw[hrun,Oper.upon_value];refine hnext ι _ _ _ (hM.put o.dst (x:=.tup _) ?_) (h1 hl) (j6 hM);exact⟨_,rfl,rfl,trivial⟩
  .have hM0:∃n,aI B ι σ a w1/\w1={w with drawn:=n}:=by
    rcases hw1 with rfl|rfl
    .exact⟨w1.drawn,hM,rfl⟩
    .exact⟨w.drawn+1,hM.drew (w.drawn+1) (Nat.le_succ _),rfl⟩
   obtain⟨n,hM0,hw1e⟩:=hM0;obtain⟨hM1,hk⟩:=NN (ob:=.mapIter (some b) since (seen.push e.born) clock) hM0 hmr
   have hrun:(execOp a.eval o).run C.P w= .ok (.value (.tuple #[.bool true,e.key,e.val])) {w1 with heap:=w1.heap.setIfInBounds r (.mapIter (some b) since (seen.push e.born) clock)}:=by
    unfold execOp;simp[ho,hev,hrun,Result.andThen,ChangeMaps.setBlock]
   have hel:e∈es.toList.filter λe=> !seen.contains e.born:=by
    unfold leftOf at he;rw[Array.toList_filter]at he;exact he
   have hees:e∈es.toList:=(List.mem_filter.1 hel).1;obtain⟨j,hj⟩:=List.getElem?_of_mem hel;have hsp:=sB hj;have hrb:r≠b:=λe=>by rw[e,hmb]at hmr;cases hmr
   have hnd2:(((es.toList.filter λe=> !seen.contains e.born)).map (·.born)).Nodup:=hnd.sublist (List.filter_sublist.map _)
   have hleft2:es.toList.filter (λx=> !(seen.push e.born).contains x.born)=(es.toList.filter λe=> !seen.contains e.born).take j++(es.toList.filter λe=> !seen.contains e.born).drop (j+1):=by
    have h3:es.toList.filter (λx=> !(seen.push e.born).contains x.born)=(es.toList.filter λe=> !seen.contains e.born).filter λx=>x.born !=e.born:=by
     rw[List.filter_filter];congr 1;funext x;simp only[Array.contains_push,Bool.not_or];rw[Bool.and_comm];rfl
    rw[h3];generalize (es.toList.filter λe=> !seen.contains e.born)=L at hsp hnd2 hj;have hlt:=(List.getElem?_eq_some_iff.1 hj).1;generalize L.take j=A at hsp;generalize L.drop (j+1)=D at hsp;subst hsp;simp only[List.map_append,List.map_cons,List.nodup_append,List.nodup_cons,List.mem_map,List.mem_cons]at hnd2;obtain⟨_,⟨hn2,_⟩,hn3⟩:=hnd2;rw[List.filter_append,List.filter_cons];simp only[bne_self_eq_false,Bool.false_eq_true,if_false];congr 1
    .refine List.filter_eq_self.2 λx hx=>?_;simp only[bne_iff_ne,ne_eq]
     exactλh4=>hn3 _ ⟨x,hx,rfl⟩ _ (.inl rfl) h4
    .refine List.filter_eq_self.2 λx hx=>?_;simp only[bne_iff_ne,ne_eq]
     exactλh4=>hn2 ⟨x,hx,h4⟩
   unfold Oper.wp;rw[hrun,Oper.upon_value];have hmb':(if b=r then some (Obj.mapIter (some b) since (seen.push e.born) clock)else σ.m b)=some (.map es clock):=by rw[if_neg (λe=>hrb e.symm)];exact hmb
   refine hnext ι _ _ _ (hM1.put o.dst (x:=.tup _) ?_) (h2 (((es.toList.filter λe=> !seen.contains e.born).take j).map λe=>(e.key,e.val)) (e.key,e.val) (((es.toList.filter λe=> !seen.contains e.born).drop (j+1)).map λe=>(e.key,e.val)) ?_ _ ⟨λb' hb'=>by simp[hb']⟩ ⟨⟨es,clock,since,seen.push e.born,clock,hmb',hes,hborn,hnd,by simp,hold,hscl,hscl,?_⟩,es,clock,since,seen,e,hmb',hnd,by simp,hees,rfl⟩) ?_
   .exact⟨_,rfl,rfl,rfl,rfl,trivial⟩
   .rw[<-hleft]
    conv=>lhs;rw[hsp]
    simp
   .rw[hleft2];simp
   .have:=hk o (by rw[ho];rfl);subst hw1e;exact⟨this.cells,this.imm,this.ext,this.args⟩
 .exact h.elim
theorem PA(hM:aI B ι σ a w){x:Operand}(ho:o.op= .entry x)(h:MU o x σ K):PQ B C ι o σ K a w:=by
 intro next Q hnext
 have hev:=hM.ev x;unfold MU at h;split at h
 .rename_i r hx;rw[hx]at hev;have hev:a.eval x= .pointer (some ⟨r,0,none⟩):=hev;obtain⟨b,kvs,left,x,⟨_,es,clock,since,seen,e,hmb,hnd,hmr,he,rfl⟩,h⟩:=h;have hrun:=run_entry_at (P:=C.P) w r b since seen es clock e (hM.wrel.msat r _ hmr) (hM.wrel.msat b _ hmb) he hnd
  have hrun:(execOp a.eval o).run C.P w= .ok (.value (.tuple #[e.key,e.val])) w:=by
   unfold execOp;simp[ho,hev,hrun,Result.andThen]
  unfold Oper.wp;rw[hrun,Oper.upon_value];refine hnext ι _ _ _ (hM.put o.dst (x:=.tup _) ?_) h (j6 hM);exact⟨_,rfl,rfl,rfl,trivial⟩
 .exact h.elim
theorem BJ{P:Program}{kt:TypeId}{Ok:Value->Prop}(L:KeyLaw P kt Ok){k:Value}(hk:Ok k)(w:World):∀(es:List MapEntry)(i:Nat),(∀e∈es,Ok e.key)->
 ((∀e∈es,e.key≠k)/\(Instr.findAsking kt k es i).run P w= .ok none w)\/∃j e,es[j]? =some e/\e.key=k/\(Instr.findAsking kt k es i).run P w= .ok (some (i+j,e.val)) w
 |[],i,_=>.inl ⟨λe he=>(by cases he),by simp[Instr.findAsking]⟩
 |e::es,i,hes=>by
  obtain⟨r,hr,hrk⟩:=L.eq k e.key w hk (hes e (by simp));cases r with
  |true=>exact .inr ⟨0,e,rfl,(hrk.1 rfl).symm,by simp[Instr.findAsking,hr]⟩
  |false=>
   have hne:e.key≠k:=λh=>by have:=hrk.2 h.symm;cases this
   rcases BJ L hk w es (i+1) (λe' he'=>hes e' (by simp[he']))with⟨h1,h2⟩|⟨j,e',h1,h2,h3⟩
   .refine .inl ⟨λe' he'=>?_,by simp[Instr.findAsking,hr,h2]⟩;rcases List.mem_cons.1 he' with rfl|h
    .exact hne
    .exact h1 e' h
   .exact .inr ⟨j+1,e',by simpa using h1,h2,by simp[Instr.findAsking,hr,h3];omega⟩
theorem findNow_spec{P:Program}{kt:TypeId}{Ok:Value->Prop}(L:KeyLaw P kt Ok){d:TypeDesc}(hd:P.underlying kt=some d){k:Value}(hk:Ok k):∀(es:List MapEntry)(i:Nat)(r:Option (Nat×Value)),(∀e∈es,Ok e.key)->
 Instr.findNow d k es i=some r->((∀e∈es,e.key≠k)/\r=none)\/∃j e,es[j]? =some e/\e.key=k/\r=some (i+j,e.val)
 |[],i,r,_,h=>by
  simp[Instr.findNow]at h;exact .inl ⟨λe he=>(by cases he),h.symm⟩
 |e::es,i,r,hes,h=>by
  simp only[Instr.findNow]at h;split at h
  .rename_i hs;simp only[Option.some.injEq]at h;exact .inr ⟨0,e,rfl,((L.now d k e.key true hd hk (hes e (by simp)) hs).1 rfl).symm,by simpa using h.symm⟩
  .rename_i hs;have hne:e.key≠k:=λh'=>by have:=(L.now d k e.key false hd hk (hes e (by simp)) hs).2 h'.symm;cases this
   rcases findNow_spec L hd hk es (i+1) r (λe' he'=>hes e' (by simp[he'])) h with⟨h1,h2⟩|⟨j,e',h1,h2,h3⟩
   .refine .inl ⟨λe' he'=>?_,h2⟩;rcases List.mem_cons.1 he' with rfl|h
    .exact hne
    .exact h1 e' h
   .exact .inr ⟨j+1,e',by simpa using h1,h2,by rw[h3];congr 2;omega⟩
  .cases h
theorem run_findKey{P:Program}{kt:TypeId}{Ok:Value->Prop}(L:KeyLaw P kt Ok){k:Value}(hk:Ok k)(w:World)(es:List MapEntry)(hes:∀e∈es,Ok e.key):
 ((∀e∈es,e.key≠k)/\(Instr.findKey kt k es).run P w= .ok none w)\/∃j e,es[j]? =some e/\e.key=k/\(Instr.findKey kt k es).run P w= .ok (some (j,e.val)) w:=by
 obtain⟨d,hd⟩:=L.under;cases hn:Instr.findNow d k es 0 with
 |some r=>
  have hrun:(Instr.findKey kt k es).run P w= .ok r w:=by simp[Instr.findKey,run_underlying hd,hn]
  rcases findNow_spec L hd hk es 0 r hes hn with⟨h1,rfl⟩|⟨j,e,h1,h2,rfl⟩
  .exact .inl ⟨h1,hrun⟩
  .exact .inr ⟨j,e,h1,h2,by rw[hrun];simp⟩
 |none=>
  have hrun:(Instr.findKey kt k es).run P w=(Instr.findAsking kt k es).run P w:=by simp[Instr.findKey,run_underlying hd,hn]
  rw[hrun];rcases BJ L hk w es 0 hes with⟨h1,h2⟩|⟨j,e,h1,h2,h3⟩
  .exact .inl ⟨h1,h2⟩
  .exact .inr ⟨j,e,h1,h2,by rw[h3];simp⟩
theorem Nw{P:Program}{T:TypeId}{z:Value}(h:L4 P T=some z)(w:World):(zeroValue T).run P w= .ok z w:=by
 unfold L4 at h;split at h
 .rename_i i hi;split at h
  .rename_i k n hz;simp only[Option.some.injEq]at h;subst h;simp[zeroValue,typeInfo,hi,hz]
  .rename_i b hz;simp only[Option.some.injEq]at h;subst h;simp[zeroValue,typeInfo,hi,hz]
  .rename_i hz;simp only[Option.some.injEq]at h;subst h;simp[zeroValue,typeInfo,hi,hz]
  .cases h
 .cases h
theorem ME(hM:aI B ι σ a w){t:Nat}{x k:Operand}{ok:Bool}(ho:o.op= .lookup t x k ok)(h:Jg C o t x k ok σ K):PQ B C ι o σ K a w:=by
 intro next Q hnext
 have hev:=hM.ev x;unfold Jg at h;split at h
 .rename_i kt et b kv hu hx hkv;rw[hx]at hev;have hev:a.eval x= .map (some b):=hev;have hke:a.eval k=kv:=(hM.ev k).val? hkv;split at h
  .rename_i z hz;obtain⟨kvs,Ok,⟨es,clock,hm,hes⟩,L,hok,hoks,hmiss,hhit⟩:=h;have hg:=hM.wrel.msat b _ hm
   have hmem:∀e∈es.toList,∃p∈kvs,e.key=p.1/\e.val=only ((C.dec et).enc p.2):=by
    intro e he
    have:(e.key,e.val)∈kvs.map λp=>(p.1,only ((C.dec et).enc p.2)):=by
     rw[<-hes];exact List.mem_map.2 ⟨e,he,rfl⟩
    obtain⟨p,hp,e2⟩:=List.mem_map.1 this;simp only[Prod.mk.injEq]at e2;exact⟨p,hp,e2.1.symm,e2.2.symm⟩
   have hall:∀e∈es.toList,Ok e.key:=λe he=>by
    obtain⟨p,hp,e1,_⟩:=hmem e he;rw[e1];exact hoks p hp
   have hchk:=L.check kv w es.isEmpty hok;unfold Oper.wp;rcases run_findKey L hok w es.toList hall with⟨h1,h2⟩|⟨j,e,h1,h2,h3⟩
   .have hrun:(execOp a.eval o).run C.P w= .ok (.value (if ok then .tuple #[z,.bool false]else z)) w:=by
     unfold execOp;simp[ho,hev,hke,Instr.lookup,run_underlying hu,MapKept.run_getObj_map hg,hchk,h2,Nw hz,Result.andThen]
    rw[hrun,Oper.upon_value];refine hnext ι _ _ _ (hM.put o.dst ?_) (hmiss ?_) (j6 hM)
    .cases ok
     .rfl
     .exact⟨_,rfl,rfl,rfl,trivial⟩
    .intro p hp e1
     have:(p.1,only ((C.dec et).enc p.2))∈es.toList.map λe=>(e.key,e.val):=by
      rw[hes];exact List.mem_map.2 ⟨p,hp,rfl⟩
     obtain⟨e,he,e2⟩:=List.mem_map.1 this;simp only[Prod.mk.injEq]at e2;exact h1 e he (e2.1.trans e1)
   .have he:e∈es.toList:=List.mem_of_getElem? h1;obtain⟨p,hp,e1,e2⟩:=hmem e he
    have hrun:(execOp a.eval o).run C.P w= .ok (.value (if ok then .tuple #[e.val,.bool true]else e.val)) w:=by
     unfold execOp;simp[ho,hev,hke,Instr.lookup,run_underlying hu,MapKept.run_getObj_map hg,hchk,h3,Result.andThen]
    have hh:=hhit p.2 (by rw[<-h2,e1];exact hp);rw[hrun,Oper.upon_value];split at hh
    .rename_i u hu2;rw[hu2]at e2;refine hnext ι _ _ _ (hM.put o.dst ?_) hh (j6 hM);cases ok
     .exact e2
     .exact⟨_,rfl,e2,rfl,trivial⟩
    .exact hh.elim
  .exact h.elim
 .exact h.elim
theorem Ht(hM:aI B ι σ a w){t:Nat}{x k v:Operand}(ho:o.op= .mapUpdate t x k v)(hdst:o.dst=none)(h:yN C t x k v σ K):PQ B C ι o σ K a w:=by
 intro next Q hnext
 have hev:=hM.ev x;unfold yN at h;split at h
 .rename_i kt et b kv u hu hx hkv hv;rw[hx]at hev;have hev:a.eval x= .map (some b):=hev;have hke:a.eval k=kv:=(hM.ev k).val? hkv;have hve:a.eval v=u:=(hM.ev v).val? hv;obtain⟨kvs,Ok,⟨es,clock,hm,hes⟩,L,hok,hoks,hnew,hK⟩:=h;have hg:=hM.wrel.msat b _ hm;have hmem:∀e∈es.toList,(e.key,e.val)∈kvs:=λe he=>by rw[<-hes];exact List.mem_map.2 ⟨e,he,rfl⟩
  have hall:∀e∈es.toList,Ok e.key:=λe he=>hoks _ (hmem e he);have hchk:=L.check kv w false hok;rcases run_findKey L hok w es.toList hall with⟨h1,h2⟩|⟨j,e,h1,h2,h3⟩
  .obtain⟨hM1,hk⟩:=NN (ob:=.map (es.push {key:=kv,val:=u,born:=clock}) (clock+1)) hM hm
   have hrun:(execOp a.eval o).run C.P w= .ok .skip {w with heap:=w.heap.setIfInBounds b (.map (es.push {key:=kv,val:=u,born:=clock}) (clock+1))}:=by
    unfold execOp;simp[ho,hev,hke,hve,Instr.mapUpdate,run_underlying hu,MapKept.run_getObj_map hg,MapKept.run_setObj_map _ hg,hchk,h2,Result.andThen]
   unfold Oper.wp;rw[hrun,Oper.upon_skip,show a.put o.dst undef=a by rw[hdst];rfl];refine hnext ι _ _ _ hM1 (hK _ ⟨λb' hb'=>by simp[hb']⟩ ⟨es.push {key:=kv,val:=u,born:=clock},clock+1,by simp,?_⟩) (hk o (by rw[ho];rfl));simp[hes]
  .exact(hnew _ (hmem e (List.mem_of_getElem? h1)) h2).elim
 .exact h.elim
theorem MD(hM:aI B ι σ a w){t:Nat}{x k v:Operand}(ho:o.op= .mapUpdate t x k v)(hdst:o.dst=none)(h:E5 C t x k v σ K):PQ B C ι o σ K a w:=by
 intro next Q hnext
 have hev:=hM.ev x;unfold E5 at h;split at h
 .rename_i kt et b kv u hu hx hkv hv;rw[hx]at hev;have hev:a.eval x= .map (some b):=hev;have hke:a.eval k=kv:=(hM.ev k).val? hkv;have hve:a.eval v=u:=(hM.ev v).val? hv;obtain⟨kvs,Ok,⟨es,clock,hm,hes,hborn,hnd⟩,L,hok,hsame,hoks,hnew,hold⟩:=h;have hg:=hM.wrel.msat b _ hm;have hmem:∀e∈es.toList,(e.key,e.val)∈kvs:=λe he=>by rw[<-hes];exact List.mem_map.2 ⟨e,he,rfl⟩
  have hall:∀e∈es.toList,Ok e.key:=λe he=>hoks _ (hmem e he);have hchk:=L.check kv w false hok;rcases run_findKey L hok w es.toList hall with⟨h1,h2⟩|⟨j,e,h1,h2,h3⟩
  .obtain⟨hM1,hk⟩:=NN (ob:=.map (es.push {key:=kv,val:=u,born:=clock}) (clock+1)) hM hm
   have hrun:(execOp a.eval o).run C.P w= .ok .skip {w with heap:=w.heap.setIfInBounds b (.map (es.push {key:=kv,val:=u,born:=clock}) (clock+1))}:=by
    unfold execOp;simp[ho,hev,hke,hve,Instr.mapUpdate,run_underlying hu,MapKept.run_getObj_map hg,MapKept.run_setObj_map _ hg,hchk,h2,Result.andThen]
   unfold Oper.wp;rw[hrun,Oper.upon_skip,show a.put o.dst undef=a by rw[hdst];rfl];refine hnext ι _ _ _ hM1 (hnew (λp hp e1=>?_) _ ⟨λb' hb'=>by simp[hb']⟩ ⟨es.push {key:=kv,val:=u,born:=clock},clock+1,by simp,by simp[hes],λe he=>?_,?_⟩) (hk o (by rw[ho];rfl))
   .rw[<-hes]at hp;obtain⟨e,he,rfl⟩:=List.mem_map.1 hp;exact h1 e he e1
   .rw[Array.toList_push,List.mem_append,List.mem_singleton]at he;rcases he with he|rfl
    .have:=hborn e he;omega
    .exact Nat.lt_succ_self _
   .rw[Array.toList_push,List.map_append,List.nodup_append];refine⟨hnd,by simp,λx hx y hy e1=>?_⟩;obtain⟨e,he,rfl⟩:=List.mem_map.1 hx;simp at hy;have:=hborn e he;omega
  .have hjlt:=(List.getElem?_eq_some_iff.1 h1).1;have hje:es[j]? =some e:=by rw[<-Array.getElem?_toList];exact h1
   obtain⟨hM1,hk⟩:=NN (ob:=.map (es.modify j λe=>{e with key:=kv,val:=u}) clock) hM hm
   have hrun:(execOp a.eval o).run C.P w= .ok .skip {w with heap:=w.heap.setIfInBounds b (.map (es.modify j λe=>{e with key:=kv,val:=u}) clock)}:=by
    unfold execOp;simp[ho,hev,hke,hve,Instr.mapUpdate,run_underlying hu,MapKept.run_getObj_map hg,MapKept.run_setObj_map _ hg,hchk,h3,hje,h2,Instr.keyThatStays,hsame,Result.andThen]
   have hlist:(es.modify j λe=>{e with key:=kv,val:=u}).toList=es.toList.take j++{e with key:=kv,val:=u}::es.toList.drop (j+1):=by
    rw[Array.toList_modify,List.modify_eq_take_cons_drop hjlt];congr 2;have:=(List.getElem?_eq_some_iff.1 h1).2;rw[this]
   have hsp:=sB h1;unfold Oper.wp;rw[hrun,Oper.upon_skip,show a.put o.dst undef=a by rw[hdst];rfl];refine hnext ι _ _ _ hM1 (hold ((es.toList.take j).map λe=>(e.key,e.val)) e.val ((es.toList.drop (j+1)).map λe=>(e.key,e.val)) ?_ _ ⟨λb' hb'=>by simp[hb']⟩ ⟨es.modify j λe=>{e with key:=kv,val:=u},clock,by simp,?_,?_,?_⟩) (hk o (by rw[ho];rfl))
   .rw[<-hes]
    conv=>lhs;rw[hsp]
    simp[h2]
   .rw[hlist];simp
   .intro x hx;rw[hlist]at hx;rw[hsp]at hborn;rcases List.mem_append.1 hx with hx|hx
    .exact hborn x (List.mem_append_left _ hx)
    .rcases List.mem_cons.1 hx with rfl|hx
     .exact hborn e (List.mem_append_right _ (List.mem_cons_self ..))
     .exact hborn x (List.mem_append_right _ (List.mem_cons_of_mem _ hx))
   .rw[hlist];rw[hsp]at hnd;simpa using hnd
 .exact h.elim
end
end Go.Vc
namespace Go.Vc
open Go
section
variable{B:oH}{C:Ctx}{ι:Nat->Value}{σ:St}{a:Act}{w:World}{o:Oper}{K:St->Prop}
theorem Vb(hM:aI B ι σ a w)(hr:Bc o.op=true)(h:Mr C o σ K):Nj C ι o σ K a w:=by
 unfold Mr at h;cases ho:o.op<;>simp only[ho]at h hr
 case move x=>exact Jd hM (.inl ho) h
 case assign x=>exact Jd hM (.inr ho) h
 case pick c x y=>exact P9 hM ho h
 case build T ps=>exact PI hM ho h
 case load T x=>exact Qg hM ho h
 case nilCheck x=>exact IZ hM ho h
 case binOp op tx x y ty=>
  cases op
  case eql=>
   simp only at h;split at h
   .exact BG (neg:=false) hM ho h
   .exact jM hM (λcs b=>by rw[ho];intro e;cases e) h
  case neq=>
   simp only at h;split at h
   .exact BG (neg:=true) hM ho h
   .exact jM hM (λcs b=>by rw[ho];intro e;cases e) h
  case add=>exact MY hM ho h
  all_goals first
   |exact jM hM (λcs b=>by rw[ho];intro e;cases e) h
   |exact UH hM ho h
 case unOp op t x=>exact jM hM (λcs b=>by rw[ho];intro e;cases e) h
 case convert s d x=>exact Ko hM ho h
 case fieldAddr T x f=>exact Hw hM ho h
 case field T x f=>exact Ot hM ho h
 case indexAddr T x i=>exact Hv hM ho h
 case index T x i=>exact Oj hM ho h
 case extract x i=>exact Kn hM ho h
 case call c=>
  obtain⟨callee,args,argTypes⟩:=c;cases callee with
  |builtin b=>
   cases b<;>simp only[Bc,Bool.false_eq_true]at hr
   case len=>
    simp only at h;split at h
    .rename_i x hx;exact TE hM ho rfl hx h
    .exact h.elim
   case min=>exact jM hM (λcs b=>by rw[ho];intro e;cases e) h
   case max=>exact jM hM (λcs b=>by rw[ho];intro e;cases e) h
  |value f=>simp[Bc]at hr
  |invoke r n=>simp[Bc]at hr
 all_goals (first|exact h.elim|(simp[Bc]at hr))
theorem Nj.stp(hM:aI B ι σ a w)(h:Nj C ι o σ K a w):PQ B C ι o σ K a w:=by
 intro next Q hnext
 obtain⟨v,x,hrun,hx,hK⟩:=h;unfold Oper.wp;rw[hrun w (.inr rfl),Oper.upon_value];exact hnext ι _ _ _ (hM.put o.dst hx) hK (j6 hM)
theorem N6(hspecs:∀g S,assoc C.specs g=some S->Sound C.P g S)(hM:aI B ι σ a w)(h:Mr C o σ K):PQ B C ι o σ K a w:=by
 cases hr:Bc o.op with
 |true=>exact(Vb hM hr h).stp hM
 |false=>
  unfold Mr at h;cases ho:o.op<;>simp only[ho]at h hr
  case alloc T=>
   intro next Q hn
   refine PL hM ho h next Q (λι' σ' a' w' hM' h' hk=>?_)
   obtain⟨σ2,hM2,hK2,_⟩:=sQ _ _ hM' h';exact hn ι' σ2 a' w' hM2 hK2 hk
  case box T x=>
   split at h
   .intro next Q hn
    obtain⟨τ,hMτ,hK,hfz⟩:=lB _ _ hM h;refine LQ hMτ ho hK next Q (λι' σ' a' w' hM' h' hk=>?_)
    obtain⟨σ2,hM2,hK2,_⟩:=sQ _ _ hM' h';exact hn ι' σ2 a' w' hM2 hK2 (hk.of_fz hfz)
   .exact LQ hM ho h
  case buildSlice T n ps=>
   intro next Q hn
   refine GM hM ho h next Q (λι' σ' a' w' hM' h' hk=>?_)
   obtain⟨σ2,hM2,hK2,_⟩:=zL _ _ hM' h';obtain⟨σ3,hM3,hK3,_⟩:=lB _ _ hM2 hK2;exact hn ι' σ3 a' w' hM3 hK3 hk
  case makeFunc f x cs=>
   intro next Q hn
   obtain⟨τ,hMτ,hK,hld⟩:=sQ _ _ hM h;obtain⟨v,x,hrun,hx,hK⟩:=jM hMτ (λcs b=>by rw[ho];intro e;cases e) hK;unfold Oper.wp;rw[hrun w (.inr rfl),Oper.upon_value];exact hn ι _ _ _ (hMτ.put o.dst hx) hK (j6 hM)
  case store T x v=>
   cases hd:o.dst with
   |none=>
    rw[hd]at h;intro next Q hn
    obtain⟨τ,hMτ,hK,hfz⟩:=lB _ _ hM h;exact NG hMτ ho hd hK next Q (λι' σ' a' w' hM' h' hk=>hn ι' σ' a' w' hM' h' (hk.of_fz hfz))
   |some d=>rw[hd]at h;exact h.elim
  case makeSlice T l c=>
   intro next Q hn
   refine Hu hM ho h next Q (λι' σ' a' w' hM' h' hk=>?_)
   obtain⟨σ2,hM2,hK2,_⟩:=zL _ _ hM' h';exact hn ι' σ2 a' w' hM2 hK2 hk
  case slice T x lo hi mx=>exact NM hM ho h
  case makeMap T r=>exact Kk hM ho h
  case lookup T x k ok=>exact ME hM ho h
  case mapUpdate T x k v=>
   cases hd:o.dst with
   |none=>
    rw[hd]at h;have h:(match MB C.heapT 400000 with|true=>E5 C T x k v σ K|false=>yN C T x k v σ K):=h;split at h
    .exact MD hM ho hd h
    .exact Ht hM ho hd h
   |some d=>rw[hd]at h;exact h.elim
  case range T x=>exact NZ hM ho h
  case next x b=>exact Qd hM ho h
  case entry x=>exact PA hM ho h
  case call c=>
   obtain⟨callee,args,argTypes⟩:=c;cases callee with
   |builtin b=>
    cases b<;>simp only[Bc,Bool.true_eq_false]at hr<;>simp only at h
    case append=>
     split at h
     .rename_i x y T tx hx ht;intro next Q hn
      refine M3 hM ho rfl hx ht h next Q (λι' σ' a' w' hM' h' hk=>?_)
      obtain⟨σ3,hM3,hK3,_⟩:=lB _ _ hM' h';exact hn ι' σ3 a' w' hM3 hK3 hk
     .exact h.elim
    case cap=>exact(jM hM (λcs b=>by rw[ho];intro e;cases e) h).stp hM
    all_goals exact h.elim
   |value g=>
    simp only at h;split at h
    .rename_i f fs cs hg;split at h
     .rename_i hfs hcs;exact RP hspecs hM ho rfl hg hfs hcs h
     .exact h.elim
    .exact h.elim
   |invoke r n=>exact h.elim
  all_goals (first|exact h.elim|(simp[Bc]at hr))
theorem Ix(hM:aI B ι σ a w){d:Nat}{xs:Array Value}(h:σ.ev (.tmp d)= .at (.val (.tuple xs))):a.tmps[d]? =none\/∃xs,a.tmps[d]? =some (.tuple xs):=by
 have hev:=hM.ev (.tmp d);rw[h]at hev;have hev:a.eval (.tmp d)= .tuple xs:=hev;simp only[Act.eval,Array.getD_eq_getD_getElem?]at hev;cases hd:a.tmps[d]? with
 |none=>exact .inl rfl
 |some v=>rw[hd]at hev;simp at hev;exact .inr ⟨xs,by rw[hev]⟩
theorem DC(hM:aI B ι σ a w){d:Nat}{t:Bool}(h:σ.ev (.tmp d)= .at (.val (.bool t))):a.tmps[d]? =some (.bool t):=by
 have hev:=hM.ev (.tmp d);rw[h]at hev;have hev:a.eval (.tmp d)= .bool t:=hev;simp only[Act.eval,Array.getD_eq_getD_getElem?]at hev;cases hd:a.tmps[d]? with
 |none=>rw[hd]at hev;simp[undef]at hev
 |some v=>rw[hd]at hev;simp at hev;rw[hev]
theorem aI.setTmp(hM:aI B ι σ a w){c:Operand}{t:Bool}(h:σ.ev c= .at (.val (.bool t))):aI B ι (setTmp σ c t) a w:=by
 cases c with
 |tmp d=>
  refine⟨?_,hM.defers,hM.own,hM.dist,hM.fresh,hM.wrel,hM.one⟩;have ht:=DC hM h;have:=hM.slots.set d (x:=.at (.val (.bool t))) (v:=.bool t) rfl;show DenS ι (σ.sl.set d _) a.tmps.toList
  have e:a.tmps.toList.set d (.bool t)=a.tmps.toList:=by
   apply List.ext_getElem?;intro j;rw[List.getElem?_set];split
   .rename_i hj;subst hj;rw[Array.getElem?_toList,ht];split
    .rfl
    .rename_i hlt;simp at hlt;rw[Array.getElem?_eq_none hlt]at ht;cases ht
   .rfl
  rw[e]at this;exact this
 |const v=>exact hM
 |global g=>exact hM
 |func f=>exact hM
theorem KO{c:Operand}{t:Bool}(h:σ.ev c= .at (.val (.bool t))):Fz σ (setTmp σ c t):=by
 cases c with
 |tmp d=>
  refine⟨λ_ _ _ cs h=>⟨cs,h⟩,λ_ _ _ h=>h,?_,?_,rfl⟩
  .intro x k off hx;cases x with
   |tmp e=>
    simp only[Vc.setTmp,St.ev,tA]at hx;simp only[St.ev];by_cases he:e=d/\d<σ.sl.length
    .rw[if_pos he]at hx;cases hx
    .rw[if_neg he]at hx;exact hx
   |const v=>exact hx
   |global g=>exact hx
   |func f=>exact hx
  .intro x k hx;cases x with
   |tmp e=>
    simp only[Vc.setTmp,St.ev,tA]at hx;simp only[St.ev];by_cases he:e=d/\d<σ.sl.length
    .rw[if_pos he]at hx;cases hx
    .rw[if_neg he]at hx;exact hx
   |const v=>exact hx
   |global g=>exact hx
   |func f=>exact hx
 |const v=>exact Fz.refl σ
 |global g=>exact Fz.refl σ
 |func f=>exact Fz.refl σ
def ZH(C:Ctx)(ops:Array Oper)(o:Oper)(a:Act)(w:World)(next:Act->World->Prop)(Q:Exit->Act->World->Prop):Prop:=
 if Region.wanted o (yielded ops a.tmps)then o.wp C.P a w next Q else next (a.put o.dst undef) w
theorem Ku{ops:Array Oper}{j d:Nat}{want t:Bool}{g:Oper}(hg:o.guard=some (j,want))(hj:nth ops.toList j=some g)(hd:g.dst=some d)(ht:a.tmps[d]? =some (.bool t)):
 Region.wanted o (yielded ops a.tmps)=(t==want):=by
 unfold Region.wanted;rw[hg];rw[iY,Array.getElem?_toList]at hj;simp[yielded,hj,hd,ht]
theorem D6{ops:Array Oper}{j d:Nat}{want:Bool}{g:Oper}(hg:o.guard=some (j,want))(hj:nth ops.toList j=some g)(hd:g.dst=some d)(ht:a.tmps[d]? =none\/∃xs,a.tmps[d]? =some (.tuple xs)):
 Region.wanted o (yielded ops a.tmps)=false:=by
 unfold Region.wanted;rw[hg];rw[iY,Array.getElem?_toList]at hj;rcases ht with ht|⟨xs,ht⟩<;>simp[yielded,hj,hd,ht]
theorem B6{f:Oper->St->(St->Prop)->Prop}{ops:Array Oper}(hM:aI B ι σ a w)(h:Jm f ops o σ K):
 ∃σ1,aI B ι σ1 a w/\Fz σ σ1/\((Region.wanted o (yielded ops a.tmps)=true/\f o σ1 K)\/(Region.wanted o (yielded ops a.tmps)=false/\K (σ1.put o.dst (.at (.val undef))))):=by
 unfold Jm at h;split at h
 .rename_i hg;exact⟨σ,hM,Fz.refl σ,.inl ⟨by simp[Region.wanted,hg],h⟩⟩
 .rename_i j want hg;split at h
  .exact h.elim
  .rename_i g hj;split at h
   .exact h.elim
   .rename_i d hd;split at h
    .rename_i t ht;have htm:=DC hM ht;have hw:=Ku (o:=o) (a:=a) hg hj hd htm;rcases qG h with⟨rfl,h⟩|⟨rfl,h⟩
     .refine⟨setTmp σ (.tmp d) true,hM.setTmp ht,KO ht,?_⟩;cases want with
      |true=>exact .inl ⟨by simpa using hw,h⟩
      |false=>exact .inr ⟨by simpa using hw,h⟩
     .refine⟨setTmp σ (.tmp d) false,hM.setTmp ht,KO ht,?_⟩;cases want with
      |true=>exact .inr ⟨by simpa using hw,h⟩
      |false=>exact .inl ⟨by simpa using hw,h⟩
    .rename_i xs ht;exact⟨σ,hM,Fz.refl σ,.inr ⟨D6 hg hj hd (Ix hM ht),h⟩⟩
    .exact h.elim
theorem Om(hspecs:∀g S,assoc C.specs g=some S->Sound C.P g S){ops:Array Oper}(hM:aI B ι σ a w)(h:MP C ops o σ K)
 (next:Act->World->Prop)(Q:Exit->Act->World->Prop)(hnext:∀ι' σ' a' w',aI B ι' σ' a' w'->K σ'->D4 σ ι o w w'->next a' w'):ZH C ops o a w next Q:=by
 obtain⟨σ1,hM1,hfz,hc⟩:=B6 hM h;unfold ZH;rcases hc with⟨hw,h⟩|⟨hw,h⟩
 .rw[if_pos hw];exact N6 hspecs hM1 h next Q (λι' σ' a' w' h1 h2 h3=>hnext ι' σ' a' w' h1 h2 (h3.of_fz hfz))
 .rw[if_neg (by simp[hw])];exact hnext ι _ _ _ (hM1.put o.dst (x:=.at (.val undef)) rfl) h (j6 hM)
theorem Iu{P:Program}{next:Act->World->Prop}{Q:Exit->Act->World->Prop}(h:o.wp P a w next Q):o.wpIn Fence.wide 0 P a w next Q:=by
 refine⟨λ_ _=>trivial,?_⟩;show o.uponIn Fence.wide 0 P a next Q ((execOp a.eval o).run P w)
 unfold Oper.wp at h;cases hr:(execOp a.eval o).run P w with
 |ok x w'=>
  rw[hr]at h;cases x with
  |value v=>exact h
  |skip=>exact h
  |defer d=>exact h
  |enter f args=>exact⟨λe=>by simp[Fence.wide]at e,callsIn_wide.2 h⟩
  |row r args=>
   refine⟨λe=>by simp[Fence.wide]at e,λc cs _=>?_⟩;obtain⟨v,w2,hv,hs⟩:=h c cs;exact⟨v,w2,hv,stepsIn_wide.2 hs⟩
  |_=>exact h.elim
 |halt x w'=>
  rw[hr]at h;cases x with
  |panic v=>exact h
  |_=>exact h.elim
def Wn(B:oH)(C:Ctx)(o:Oper)(K:St->Prop)(a:Act)(w:World):Prop:=
 ∀(next:Act->World->Prop)(Q:Exit->Act->World->Prop),(∀ι' σ' a' w',aI B ι' σ' a' w'->K σ'->next a' w')->o.wpIn Fence.wide 0 C.P a w next Q
theorem Cf(hM:aI B ι σ a w):∀(i:Nat)(l:List Operand)(ts:List TypeId)(cvs:List CV),oG C.P σ [] i l ts=some cvs->cvs=(l.map a.eval).map .val
 |i,[],ts,cvs,h=>by simp[oG]at h;subst h;rfl
 |i,x::r,ts,cvs,h=>by
  simp only[oG]at h;split at h
  .cases h
  .rename_i rest hrest;have ih:=Cf hM (i+1) r ts.tail rest hrest;simp only[List.contains_nil]at h;split at h
   .rename_i u hu;simp only[Option.some.injEq]at h;subst h;simp only[List.map_cons,(hM.ev x).val? hu,ih]
   .cases h
theorem Nx(hM:aI B ι σ a w){c:Call}{g:Operand}{l:Nat}{fs cs:Array Value}(ho:o.op= .call c)(hc:c.callee= .value g)
 (hg:σ.ev g= .at (.val (.func (.yield l) fs cs)))(hfs:fs.toList=[])(hcs:cs.toList=[])(h:L6 C o (.func (.yield l) #[] #[]) c.args.toList σ K):Wn B C o K a w:=by
 intro next Q hnext
 unfold L6 at h;split at h
 .exact h.elim
 .rename_i S hS;split at h
  .rename_i cvs hcvs;obtain⟨hY,h⟩:=h;have hv:=Cf hM 0 _ _ _ hcvs;subst hv;have hw:=hM.wrel;obtain⟨fn,tmps,assign,body,hrun,hround⟩:=hY.go l _ σ.m σ.h w _ h ⟨hw.hsat,hw.msat,hw.disj⟩;have hev:a.eval g= .func (.yield l) fs cs:=by have:=hM.ev g;rw[hg]at this;exact this
   have hfs':fs= #[]:=by apply Array.toList_inj.1;simpa using hfs
   have hcs':cs= #[]:=by apply Array.toList_inj.1;simpa using hcs
   subst hfs' hcs';have hargsA:c.args.map a.eval=(c.args.toList.map a.eval).toArray:=by apply Array.toList_inj.1;simp
   have hrun2:(execOp a.eval o).run C.P w= .ok (.round l fn tmps assign body) w:=by
    unfold execOp;simp only[ho,resolve,hc,hev,Deferred.ofValue,Sem.run_bind,Sem.run_pure,Result.andThen_ok,invoke];simp[hargsA,hrun]
   refine⟨λ_ _=>trivial,?_⟩;show o.uponIn Fence.wide 0 C.P a next Q ((execOp a.eval o).run C.P w)
   rw[hrun2,Oper.uponIn_round];refine⟨λe=>by simp[Fence.wide]at e,hround.mono ?_⟩;rintro e w' ⟨u,m',h',rfl,hK,hf⟩;show next (a.put o.dst u) w'
   have hwr:zN ⟨w,λb=>σ.m b≠none,σ.h,[]⟩ m' h' w':=
    ⟨hf.tape,hf.os,hf.output,hf.drawn,hf.size,λb hb hn=>hf.frame b hb (Classical.byContradiction hn),hf.heapy.hsat,hf.heapy.msat,hf.heapy.disj,hf.hle.le,λb hb hn=>hf.hold b hb (Classical.byContradiction hn),λb ob hb=>hf.mfr b ob hb⟩
   have hM2:=hM.called hwr (λb hb=>by
    cases hm:σ.m b with
    |none=>exact(hb hm).elim
    |some ob=>exact hw.mfr b ob hm) (λj o' b hj hb hn=>hn (hM.fresh j o' b hj hb).2.1)
   exact hnext ι _ _ _ (hM2.put o.dst (x:=.at (.val u)) rfl) hK
  .exact h.elim
theorem TC(hspecs:∀g S,assoc C.specs g=some S->Sound C.P g S)(hM:aI B ι σ a w)(h:Sj C o σ K):Wn B C o K a w:=by
 have old:Mr C o σ K->Wn B C o K a w:=λh next Q hn=>Iu (N6 hspecs hM h next Q (λι' σ' a' w' h1 h2 _=>hn ι' σ' a' w' h1 h2))
 unfold Sj at h;split at h
 .rename_i c ho;split at h
  .rename_i g hc;split at h
   .rename_i l fs cs hg;split at h
    .rename_i hfs hcs;exact Nx hM ho hc hg hfs hcs h
    .exact h.elim
   .exact old h
  .exact old h
 .exact old h
theorem Km(hspecs:∀g S,assoc C.specs g=some S->Sound C.P g S){ops:Array Oper}(hM:aI B ι σ a w)(h:Jm (Sj C) ops o σ K)
 (next:Act->World->Prop)(Q:Exit->Act->World->Prop)(hnext:∀ι' σ' a' w',aI B ι' σ' a' w'->K σ'->next a' w'):
 if Region.wanted o (yielded ops a.tmps)then o.wpIn Fence.wide 0 C.P a w next Q else(∀f,o.about C.P w a.eval=some f->Fence.wide.fn f)/\next (a.put o.dst undef) w:=by
 obtain⟨σ1,hM1,hfz,hc⟩:=B6 hM h;rcases hc with⟨hw,h⟩|⟨hw,h⟩
 .rw[if_pos hw];exact TC hspecs hM1 h next Q hnext
 .rw[if_neg (by simp[hw])];exact⟨λ_ _=>trivial,hnext ι _ _ _ (hM1.put o.dst (x:=.at (.val undef)) rfl) h⟩
theorem DF(hspecs:∀g S,assoc C.specs g=some S->Sound C.P g S){ops:Array Oper}{Q:Exit->Act->World->Prop}{R:St->Prop}{rest:List Nat}(hQ:∀ι σ a w,aI B ι σ a w->R σ->wpOpsIn Fence.wide 0 C.P ops Q rest a w):
 ∀(l:List Oper)(s:Nat)(ι:Nat->Value)(σ:St)(a:Act)(w:World),(∀j,j<l.length->l[j]? =ops.toList[s+j]?)->aI B ι σ a w->Sd C ops l σ R->wpOpsIn Fence.wide 0 C.P ops Q (List.range' s l.length++rest) a w
 |[],s,ι,σ,a,w,_,hM,h=>hQ ι σ a w hM h
 |o::l,s,ι,σ,a,w,hl,hM,h=>by
  have ho:ops[s]? =some o:=by have:=hl 0 (by simp);simp at this;exact this.symm
  simp only[List.length_cons,List.range'_succ,List.cons_append,wpOpsIn,ho]
  exact Km hspecs hM h (wpOpsIn Fence.wide 0 C.P ops Q (List.range' (s+1) l.length++rest)) Q (λι' σ' a' w' h1 h2=>
   DF hspecs hQ l (s+1) ι' σ' a' w' (λj hj=>by have:=hl (j+1) (by simp;omega);simp only[List.getElem?_cons_succ]at this;rw[this];congr 1;omega) h1 h2)
end
end Go.Vc
namespace Go.Vc
open Go
def Yd(P:Program)(ops:Array Oper)(w:World)(o:Oper)(v:Value)(a:Act):Prop:=
 (Region.wanted o (yielded ops a.tmps)=true/\(execOp a.eval o).run P w= .ok (.value v) w)\/(Region.wanted o (yielded ops a.tmps)=false/\v=undef)
def ZJ(ops:Array Oper)(ok:Oper)(i:Nat):Prop:=waits ok i=true\/∃j oj,ops[j]? =some oj/\waits ok j=true/\waits oj i=true
def RV(ops:Array Oper)(oi:Oper):Prop:=∀(k:Nat)(ok:Oper)(d:Nat),ops[k]? =some ok->ok.dst=some d->d∈oi.looksAt ops->waits oi k=true
structure WC(ops:Array Oper)(i:Nat)(oi:Oper):Prop where
 mv:W4 oi.op=true
 look:∀(k:Nat)(ok:Oper)(d:Nat),ops[k]? =some ok->ok.dst=some d->d∈oi.looksAt ops->ZJ ops ok i
structure Yt(ops:Array Oper):Prop where
 look:∀(i:Nat)(oi:Oper),ops[i]? =some oi->RV ops oi\/WC ops i oi
 dst:∀(i k:Nat)(oi ok:Oper)(d:Nat),ops[i]? =some oi->ops[k]? =some ok->ok.dst=some d->i≠k->oi.dst≠some d
 topo:∀(i:Nat)(oi:Oper)(k:Nat),ops[i]? =some oi->waits oi k=true->k<i
 sel:∀(j:Nat)(o:Oper) cs b,ops[j]? =some o->o.op≠ .select cs b
theorem ZJ.in_{ops:Array Oper}{ok:Oper}{i:Nat}{L:Array Bool}(h:ZJ ops ok i)(hk:∀j,waits ok j=true->L.getD j false=true)(hL:∀(j:Nat)(oj:Oper),ops[j]? =some oj->L.getD j false=true->∀k,waits oj k=true->L.getD k false=true):L.getD i false=true:=by
 rcases h with h|⟨j,oj,hj,h1,h2⟩
 .exact hk i h
 .exact hL j oj hj (hk j h1) i h2
theorem Yt.self{ops:Array Oper}(hs:Yt ops){k:Nat}{o:Oper}(ho:ops[k]? =some o):∀d,o.dst=some d->d∉o.looksAt ops:=λd hd hm=>by
 rcases hs.look k o ho with h|h
 .have:=hs.topo k o k ho (h k o d ho hd hm);omega
 .rcases h.look k o d ho hd hm with h1|⟨j,oj,hj,h1,h2⟩
  .have:=hs.topo k o k ho h1;omega
  .have:=hs.topo k o j ho h1;have:=hs.topo j oj k hj h2;omega
theorem Ve{P:Program}{o:Oper}(h:W4 o.op=true):vC P o=false:=by
 unfold vC;cases e:o.op<;>simp_all [W4]
theorem FG{o:Oper}{k:Nat}:waits o k=true↔∃e∈o.after,Region.binds .any e=true/\e.on=k:=by
 unfold waits;rw[List.any_eq_true];constructor
 .rintro⟨e,he,h⟩;simp only[Bool.and_eq_true]at h;exact⟨e,by simpa using he,h.1,Nat.eq_of_beq_eq_true h.2⟩
 .rintro⟨e,he,h1,h2⟩;exact⟨e,by simpa using he,by simp[h1,h2]⟩
theorem U3{ops:Array Oper}(h:YR ops=true)(hs:Region.noSelect ops=true):Yt ops:=by
 unfold YR at h;simp only[List.all_eq_true,List.mem_range]at h;have lt:∀{i:Nat}{oi:Oper},ops[i]? =some oi->i<ops.toList.length:=λhi=>by have:=(Array.getElem?_eq_some_iff.1 hi).1;simpa using this
 refine⟨?_,?_,?_,Region.noSelect_spec hs⟩
 .intro i oi hi;have h1:=h i (lt hi);rw[iY,Array.getElem?_toList,hi]at h1;simp only[Bool.and_eq_true,Bool.or_eq_true,List.all_eq_true,List.mem_range]at h1;rcases h1.2 with h2|⟨hm,h2⟩
  .refine .inl λk ok d hk hd hl=>?_;have h3:=h2 k (lt hk);rw[iY,Array.getElem?_toList,hk]at h3;simp only[hd,Bool.or_eq_true,Bool.not_eq_true',List.contains_eq_mem,decide_eq_false_iff_not]at h3;rcases h3 with h3|h3
   .exact(h3 hl).elim
   .exact h3
  .refine .inr ⟨hm,λk ok d hk hd hl=>?_⟩;have h3:=h2 k (lt hk);rw[iY,Array.getElem?_toList,hk]at h3;simp only[hd,Bool.or_eq_true,Bool.not_eq_true',List.contains_eq_mem,decide_eq_false_iff_not]at h3;rcases h3 with h3|h3
   .exact(h3 hl).elim
   .unfold Zn at h3;simp only[Bool.or_eq_true,List.any_eq_true,Bool.and_eq_true]at h3;rcases h3 with h3|⟨⟨oj,j⟩,hj,h4,h5⟩
    .exact .inl h3
    .refine .inr ⟨j,oj,?_,h4,h5⟩;have:=List.mem_zipIdx_iff_getElem?.1 hj;simpa using this
 .intro i k oi ok d hi hk hd hne;have h1:=h i (lt hi);rw[iY,Array.getElem?_toList,hi]at h1;simp only[Bool.and_eq_true,List.all_eq_true,List.mem_range]at h1;have h3:=h1.1.2 k (lt hk);rw[iY,Array.getElem?_toList,hk]at h3;simp only[hd,Bool.or_eq_true]at h3;rcases h3 with h3|h3
  .exact(hne (Nat.eq_of_beq_eq_true h3)).elim
  .simpa using h3
 .intro i oi k hi hw;have hil:i<ops.toList.length:=by have:=(Array.getElem?_eq_some_iff.1 hi).1;simpa using this
  have h1:=h i hil;rw[iY,Array.getElem?_toList,hi]at h1;simp only[Bool.and_eq_true,List.all_eq_true]at h1;obtain⟨e,he,hb,rfl⟩:=FG.1 hw;have:=h1.1.1 e (by simpa using he);simp only[hb,Bool.not_true,Bool.false_or]at this;rw[<-Nat.blt_eq];exact this
theorem qE{ops:Array Oper}{listed:Array Bool}{j:Nat}:j∈Region.ready .any ops listed↔listed.getD j true=false/\∃o,ops[j]? =some o/\∀k,waits o k=true->listed.getD k false=true:=by
 rw[mem_ready];constructor
 .rintro⟨h1,o,ho,h2⟩;refine⟨h1,o,ho,λk hk=>?_⟩;obtain⟨e,he,hb,rfl⟩:=FG.1 hk;exact h2 e he hb
 .rintro⟨h1,o,ho,h2⟩;exact⟨h1,o,ho,λe he hb=>h2 e.on (FG.2 ⟨e,he,hb,rfl⟩)⟩
theorem Ij{l:Array Bool}{i:Nat}(h:l.getD i true=false):l.getD i false=false/\i<l.size:=by
 by_cases hi:i<l.size
 .simp[Array.getD,hi]at h⊢;exact h
 .simp[Array.getD,hi]at h
theorem pC{l:Array Bool}{i:Nat}(h:i<l.size):(l.setIfInBounds i true).getD i false=true:=by
 simp[Array.getD,h]
theorem DY{ops:Array Oper}{o:Oper}{ar ac:Act}(hs:∀cs b,o.op≠ .select cs b)(h:∀t∈o.looksAt ops,ar.tmps[t]? =ac.tmps[t]?):
 execOp ar.eval o=execOp ac.eval o/\Region.wanted o (yielded ops ar.tmps)=Region.wanted o (yielded ops ac.tmps):=by
 constructor
 .refine execOp_congr o hs λx hx=>?_;cases x with
  |tmp t=>
   have:t∈o.looksAt ops:=List.mem_append_left _ (List.mem_filterMap.2 ⟨.tmp t,by simpa using hx,rfl⟩);simp only[Act.eval,Array.getD_eq_getD_getElem?,h t this]
  |const v=>rfl
  |global g=>rfl
  |func f=>rfl
 .unfold Region.wanted;split
  .rfl
  .rename_i j want hg
   have:yielded ops ar.tmps j=yielded ops ac.tmps j:=by
    unfold yielded;cases hd:(ops[j]?).bind (·.dst)with
    |none=>rfl
    |some d=>
     have hm:d∈o.looksAt ops:=by
      unfold Oper.looksAt;refine List.mem_append_right _ ?_;simp[hg,hd]
     simp only[Option.bind_some,h d hm]
   rw[this]
theorem HF{a:Act}{d:Option Tmp}{v:Value}{t:Nat}(h:d≠some t):(a.put d v).tmps[t]? =a.tmps[t]? :=by
 cases d with
 |none=>rfl
 |some e=>
  have:e≠t:=λx=>h (by rw[x]);simp[Act.put,Array.getElem?_setIfInBounds_ne this]
theorem WV(a:Act)(d:Option Tmp)(u v:Value):(a.put d u).put d v=a.put d v:=by
 cases d with
 |none=>rfl
 |some e=>simp[Act.put]
structure LV(P:Program)(ops:Array Oper)(L Cl:Array Bool)(ar ac:Act)(w:World):Prop where
 szL:L.size=ops.size
 szC:Cl.size=ops.size
 sub:∀i,L.getD i false=true->Cl.getD i false=true
 rd:∀(i:Nat)(o:Oper),ops[i]? =some o->Cl.getD i false=true->L.getD i false=false->Bc o.op=true
 clC:∀(i:Nat)(o:Oper),ops[i]? =some o->Cl.getD i false=true->∀k,waits o k=true->Cl.getD k false=true
 clL:∀(i:Nat)(o:Oper),ops[i]? =some o->L.getD i false=true->∀k,waits o k=true->L.getD k false=true
 tsz:ar.tmps.size=ac.tmps.size
 df:ar.defers=ac.defers
 agree:∀t,(∀(i:Nat)(o:Oper),ops[i]? =some o->Cl.getD i false=true->L.getD i false=false->o.dst≠some t)->ar.tmps[t]? =ac.tmps[t]?
 pend:∀(i:Nat)(o:Oper),ops[i]? =some o->Cl.getD i false=true->L.getD i false=false->∃v,(RV ops o->∀w'',(vC P o=false\/w''=w)->Yd P ops w'' o v ac)/\(WC ops i o->∀w'',Yd P ops w'' o v ar)/\ac.put o.dst v=ac
section
variable{P:Program}{ops:Array Oper}{L Cl:Array Bool}{ar ac:Act}{w:World}
theorem Yd.congr{o:Oper}{v:Value}{a a':Act}{w:World}(h:Yd P ops w o v a)(he:execOp a'.eval o=execOp a.eval o)(hw:Region.wanted o (yielded ops a'.tmps)=Region.wanted o (yielded ops a.tmps)):Yd P ops w o v a':=by
 unfold Yd at*
 rw[he,hw];exact h
theorem LV.looks(h:LV P ops L Cl ar ac w){o:Oper}(hst:RV ops o)(hr:∀k,waits o k=true->L.getD k false=true):∀t∈o.looksAt ops,ar.tmps[t]? =ac.tmps[t]? :=by
 intro t ht;refine h.agree t (λk ok hk _ hL hd=>?_);have:=hr k (hst k ok t hk hd ht);rw[this]at hL;cases hL
theorem LV.looks'(h:LV P ops L Cl ar ac w){i:Nat}{o:Oper}(hlo:WC ops i o)(hC:Cl.getD i false=false):∀t∈o.looksAt ops,ar.tmps[t]? =ac.tmps[t]? :=by
 intro t ht;refine h.agree t (λk ok hk hCk _ hd=>?_);have:=(hlo.look k ok t hk hd ht).in_ (h.clC k ok hk hCk) h.clC;rw[this]at hC;cases hC
theorem LV.stepA(hs:Yt ops)(h:LV P ops L Cl ar ac w){i:Nat}{o:Oper}(ho:ops[i]? =some o)(hC:Cl.getD i false=true)(hr:∀k,waits o k=true->L.getD k false=true){v:Value}(hv:ac.put o.dst v=ac):
 LV P ops (L.setIfInBounds i true) Cl (ar.put o.dst v) ac w:=by
 have hsz:i<L.size:=by rw[h.szL];exact(Array.getElem?_eq_some_iff.1 ho).1
 have hsub:∀k,(L.setIfInBounds i true).getD k false=false->L.getD k false=false/\k≠i:=by
  intro k hk;by_cases e:i=k
  .subst e;rw[pC hsz]at hk;cases hk
  .rw[getD_set_ne false e]at hk;exact⟨hk,λx=>e x.symm⟩
 refine⟨by simpa using h.szL,h.szC,?_,λk ok hk hCk hLk=>h.rd k ok hk hCk (hsub k hLk).1,h.clC,?_,?_,?_,?_,λk ok hk hCk hLk=>?_⟩
 .intro k hk;by_cases e:i=k
  .subst e;exact hC
  .rw[getD_set_ne false e]at hk;exact h.sub k hk
 .intro k ok hk hLk j hj;by_cases e:i=k
  .subst e;rw[ho]at hk;cases hk;exact getD_set_true (hr j hj)
  .rw[getD_set_ne false e]at hLk;exact getD_set_true (h.clL k ok hk hLk j hj)
 .rw[<-h.tsz];cases o.dst<;>simp[Act.put]
 .rw[<-h.df];cases o.dst<;>rfl
 .intro t ht;by_cases e:o.dst=some t
  .rw[e]at hv⊢
   rw[<-hv];simp only[Act.put,Array.getElem?_setIfInBounds_self,h.tsz]
  .rw[HF e];refine h.agree t (λk ok hk hCk hLk=>?_);by_cases ek:i=k
   .subst ek;rw[ho]at hk;cases hk;exact e
   .exact ht k ok hk hCk (by rw[getD_set_ne false ek];exact hLk)
 .obtain⟨u,h1,h2,h3⟩:=h.pend k ok hk hCk (hsub k hLk).1;refine⟨u,h1,λhlo w''=>?_,h3⟩
  have hnl:∀d,o.dst=some d->d∉ok.looksAt ops:=λd hd hm=>by
   have:=(hlo.look i o d ho hd hm).in_ hr h.clL;rw[(hsub k hLk).1]at this;cases this
  exact(h2 hlo w'').congr (execOp_put ok (hs.sel k ok · · hk) ar o.dst v hnl) (wanted_put ok ar o.dst v hnl)
theorem LV.take(hs:Yt ops)(h:LV P ops L Cl ar ac w){k:Nat}{o:Oper}(ho:ops[k]? =some o)(hC:Cl.getD k false=false)(hr:∀j,waits o j=true->Cl.getD j false=true)(hrd:Bc o.op=true){v:Value}
 (hv:∀w'',(vC P o=false\/w''=w)->Yd P ops w'' o v ac):LV P ops L (Cl.setIfInBounds k true) ar (ac.put o.dst v) w:=by
 have hsz:k<Cl.size:=by rw[h.szC];exact(Array.getElem?_eq_some_iff.1 ho).1
 have hcase:∀j,(Cl.setIfInBounds k true).getD j false=true->j=k\/Cl.getD j false=true:=by
  intro j hj;by_cases e:k=j
  .exact .inl e.symm
  .rw[getD_set_ne false e]at hj;exact .inr hj
 have hLk:L.getD k false=false:=by
  cases hl:L.getD k false with
  |false=>rfl
  |true=>rw[h.sub k hl]at hC;cases hC
 have hup:∀j,Cl.getD j false=true->(Cl.setIfInBounds k true).getD j false=true:=by
  intro j hj;exact getD_set_true hj
 have hnl:=hs.self ho;refine⟨h.szL,by simpa using h.szC,λi hi=>hup i (h.sub i hi),?_,?_,h.clL,?_,?_,?_,?_⟩
 .intro i oi hi hCi hLi;rcases hcase i hCi with rfl|hCi
  .rw[ho]at hi;cases hi;exact hrd
  .exact h.rd i oi hi hCi hLi
 .intro i oi hi hCi j hj;rcases hcase i hCi with rfl|hCi
  .rw[ho]at hi;cases hi;exact hup j (hr j hj)
  .exact hup j (h.clC i oi hi hCi j hj)
 .rw[h.tsz];cases o.dst<;>simp[Act.put]
 .rw[h.df];cases o.dst<;>rfl
 .intro t ht;have e:o.dst≠some t:=ht k o ho (pC hsz) hLk;rw[HF e];exact h.agree t (λi oi hi hCi hLi=>ht i oi hi (hup i hCi) hLi)
 .intro i oi hi hCi hLi;by_cases e:i=k
  .subst e;rw[ho]at hi;cases hi;refine⟨v,λ_ w'' hw=>(hv w'' hw).congr (execOp_put o (hs.sel i o · · ho) ac o.dst v hnl) (wanted_put o ac o.dst v hnl),λhlo w''=>?_,WV _ _ _ _⟩;obtain⟨he,hwe⟩:=DY (hs.sel i o · · ho) (h.looks' hlo hC);exact(hv w'' (.inl (Ve hlo.mv))).congr he hwe
  .have hCi':=(hcase i hCi).resolve_left e;obtain⟨u,hu,hlu,hpu⟩:=h.pend i oi hi hCi' hLi;refine⟨u,λhst w'' hw=>?_,hlu,?_⟩
   .have hnl':∀d,o.dst=some d->d∉oi.looksAt ops:=λd hd hm=>by
     have:=h.clC i oi hi hCi' k (hst k o d ho hd hm);rw[this]at hC;cases hC
    exact(hu hst w'' hw).congr (execOp_put oi (hs.sel i oi · · hi) ac o.dst v hnl') (wanted_put oi ac o.dst v hnl')
   rw[Act.put_comm ac v u (λd hd=>hs.dst i k oi o d hi ho hd e),hpu]
theorem Ny{o:Oper}{a1 a2:Act}{w:World}{next1 next2:Act->World->Prop}{Q:Exit->Act->World->Prop}(he:execOp a2.eval o=execOp a1.eval o)(h:o.wp P a1 w next1 Q)
 (hv:∀v w',next1 (a1.put o.dst v) w'->next2 (a2.put o.dst v) w')(hd:∀d w',¬next1 (({a1 with defers:=d::a1.defers}:Act).put o.dst undef) w')(hQ:∀c a w,¬Q (.panic c) a w):o.wp P a2 w next2 Q:=by
 unfold Oper.wp at*
 rw[he];generalize (execOp a1.eval o).run P w=r at*
 cases r with
 |ok n w'=>
  cases n<;>simp only[Oper.upon]at h⊢
  case value u=>exact hv u w' h
  case skip=>exact hv undef w' h
  case defer d=>exact(hd d w' h).elim
  case enter f args=>
   refine Calls.mono h λe w'' he'=>?_;cases e with
   |returned u=>exact hv u w'' he'
   |panicked c=>exact(hQ _ _ _ he').elim
   |outgrown=>exact he'
  case row row args=>exact Rows.mono h λu w'' he'=>hv u w'' he'
 |halt x w'=>
  cases x<;>simp only[Oper.upon]at h⊢
  case panic u=>exact(hQ _ _ _ h).elim
theorem LV.stepB(hs:Yt ops)(h:LV P ops L Cl ar ac w){j:Nat}{o:Oper}(ho:ops[j]? =some o)(hC:Cl.getD j false=false)(hr:∀k,waits o k=true->L.getD k false=true)(u:Value)(w':World)
 (hpend:∀(i:Nat)(oi:Oper)(v:Value),ops[i]? =some oi->Cl.getD i false=true->L.getD i false=false->Yd P ops w oi v ac->Yd P ops w' oi v ac\/vC P oi=false):
 LV P ops (L.setIfInBounds j true) (Cl.setIfInBounds j true) (ar.put o.dst u) (ac.put o.dst u) w':=by
 have hszC:j<Cl.size:=by rw[h.szC];exact(Array.getElem?_eq_some_iff.1 ho).1
 have hszL:j<L.size:=by rw[h.szL];exact(Array.getElem?_eq_some_iff.1 ho).1
 have hcase:∀i,(Cl.setIfInBounds j true).getD i false=true->i=j\/Cl.getD i false=true:=by
  intro i hi;by_cases e:j=i
  .exact .inl e.symm
  .rw[getD_set_ne false e]at hi;exact .inr hi
 have hLcase:∀i,(L.setIfInBounds j true).getD i false=false->i≠j/\L.getD i false=false:=by
  intro i hi;by_cases e:j=i
  .subst e;rw[pC hszL]at hi;cases hi
  .rw[getD_set_ne false e]at hi;exact⟨λx=>e x.symm,hi⟩
 have hup:∀i,Cl.getD i false=true->(Cl.setIfInBounds j true).getD i false=true:=λi hi=>getD_set_true hi;refine⟨by simpa using h.szL,by simpa using h.szC,?_,?_,?_,?_,?_,?_,?_,?_⟩
 .intro i hi;by_cases e:j=i
  .subst e;exact pC hszC
  .rw[getD_set_ne false e]at hi;exact hup i (h.sub i hi)
 .intro i oi hi hCi hLi;obtain⟨hne,hLi'⟩:=hLcase i hLi;exact h.rd i oi hi ((hcase i hCi).resolve_left hne) hLi'
 .intro i oi hi hCi k hk;rcases hcase i hCi with rfl|hCi
  .rw[ho]at hi;cases hi;exact hup k (h.sub k (hr k hk))
  .exact hup k (h.clC i oi hi hCi k hk)
 .intro i oi hi hLi k hk;by_cases e:j=i
  .subst e;rw[ho]at hi;cases hi;exact getD_set_true (hr k hk)
  .rw[getD_set_ne false e]at hLi;exact getD_set_true (h.clL i oi hi hLi k hk)
 .cases o.dst<;>simp[Act.put,h.tsz]
 .have:=h.df;cases o.dst<;>exact this
 .intro t ht;by_cases e:o.dst=some t
  .rw[e];simp only[Act.put,Array.getElem?_setIfInBounds_self,h.tsz]
  .rw[HF e,HF e];refine h.agree t (λi oi hi hCi hLi=>ht i oi hi (hup i hCi) ?_);have hne:j≠i:=λx=>by subst x;rw[hC]at hCi;cases hCi
   rw[getD_set_ne false hne];exact hLi
 .intro i oi hi hCi hLi;obtain⟨hne,hLi'⟩:=hLcase i hLi;have hCi':=(hcase i hCi).resolve_left hne;obtain⟨v,hv,hlv,hpv⟩:=h.pend i oi hi hCi' hLi';refine⟨v,λhst w'' hw=>?_,λhlo w''=>?_,?_⟩
  .have hnl:∀d,o.dst=some d->d∉oi.looksAt ops:=λd hd hm=>by
    have:=h.clC i oi hi hCi' j (hst j o d ho hd hm);rw[this]at hC;cases hC
   have hy:Yd P ops w'' oi v ac:=by
    rcases hw with hw|hw
    .exact hv hst w'' (.inl hw)
    .rw[hw];rcases hpend i oi v hi hCi' hLi' (hv hst w (.inr rfl))with h1|h1
     .exact h1
     .exact hv hst w' (.inl h1)
   exact hy.congr (execOp_put oi (hs.sel i oi · · hi) ac o.dst u hnl) (wanted_put oi ac o.dst u hnl)
  .have hnl:∀d,o.dst=some d->d∉oi.looksAt ops:=λd hd hm=>by
    have:=(hlo.look j o d ho hd hm).in_ hr h.clL;rw[this]at hLi';cases hLi'
   exact(hlv hlo w'').congr (execOp_put oi (hs.sel i oi · · hi) ar o.dst u hnl) (wanted_put oi ar o.dst u hnl)
  .rw[Act.put_comm ac u v (λd hd=>hs.dst i j oi o d hi ho hd hne),hpv]
end
section
variable{B:oH}{C:Ctx}{ι:Nat->Value}{σ:St}{a:Act}{w:World}
theorem NJ{P:Program}{fl:Bool}{σ:St}{oj oi:Oper}{K:Prop}(h:G0 P fl σ oj oi K):G0 P fl σ oj oi True/\K:=by
 unfold G0 at h⊢
 repeat' split at h
 all_goals first|exact h.elim|skip
 all_goals simp_all
theorem Iz{P:Program}{fl:Bool}{ops:Array Oper}{listed:Array Bool}{σ:St}{oj:Oper}:∀(l:List Oper)(s:Nat){K:Prop},FI P fl ops listed σ oj s l K->
 K/\∀(i:Nat)(oi:Oper),l[i]? =some oi->listed.getD (s+i) false=true->Bc oi.op=true->waits oj (s+i)=false->uA ops σ oi=false->G0 P fl σ oj oi True
 |[],s,K,h=>⟨h,λi oi hi=>by simp at hi⟩
 |o::l,s,K,h=>by
  have key:(FI P fl ops listed σ oj (s+1) l K)/\(listed.getD s false=true->Bc o.op=true->waits oj s=false->uA ops σ o=false->G0 P fl σ oj o True):=by
   simp only[FI]at h;split at h
   .obtain⟨h1,h2⟩:=NJ h;exact⟨h2,λ_ _ _ _=>h1⟩
   .rename_i hn;refine⟨h,λh1 h2 h3 h4=>?_⟩;exact(hn h1 h2 h3 h4).elim
  obtain⟨hK,ih⟩:=Iz l (s+1) key.1;refine⟨hK,λi oi hi h1 h2 h3 h4=>?_⟩;cases i with
  |zero=>simp at hi;subst hi;exact key.2 (by simpa using h1) h2 (by simpa using h3) h4
  |succ i=>
   simp only[List.getElem?_cons_succ]at hi;exact ih i oi hi (by rw[show s+1+i=s+(i+1)by omega];exact h1) h2 (by rw[show s+1+i=s+(i+1)by omega];exact h3) h4
theorem NI{σ:St}{oj oi:Oper}{τ:St}{K:Prop}(h:Ee σ oj oi τ K):Ee σ oj oi τ True/\K:=by
 unfold Ee at h⊢
 repeat' split at h
 all_goals simp_all
theorem GZ{ops:Array Oper}{listed:Array Bool}{σ:St}{oj:Oper}{τ:St}:∀(l:List Oper)(s:Nat){K:Prop},Cr ops listed σ oj τ s l K->
 K/\∀(i:Nat)(oi:Oper),l[i]? =some oi->listed.getD (s+i) false=true->Bc oi.op=true->waits oj (s+i)=false->uA ops σ oi=false->Ee σ oj oi τ True
 |[],s,K,h=>⟨h,λi oi hi=>by simp at hi⟩
 |o::l,s,K,h=>by
  have key:(Cr ops listed σ oj τ (s+1) l K)/\(listed.getD s false=true->Bc o.op=true->waits oj s=false->uA ops σ o=false->Ee σ oj o τ True):=by
   simp only[Cr]at h;split at h
   .obtain⟨h1,h2⟩:=NI h;exact⟨h2,λ_ _ _ _=>h1⟩
   .rename_i hn;refine⟨h,λh1 h2 h3 h4=>?_⟩;exact(hn h1 h2 h3 h4).elim
  obtain⟨hK,ih⟩:=GZ l (s+1) key.1;refine⟨hK,λi oi hi h1 h2 h3 h4=>?_⟩;cases i with
  |zero=>simp at hi;subst hi;exact key.2 (by simpa using h1) h2 (by simpa using h3) h4
  |succ i=>
   simp only[List.getElem?_cons_succ]at hi;exact ih i oi hi (by rw[show s+1+i=s+(i+1)by omega];exact h1) h2 (by rw[show s+1+i=s+(i+1)by omega];exact h3) h4
theorem MI{ops:Array Oper}{oi:Oper}(hM:aI B ι σ a w)(h:uA ops σ oi=true):Region.wanted oi (yielded ops a.tmps)=false:=by
 unfold uA at h;split at h
 .cases h
 .rename_i j want hg;split at h
  .cases h
  .rename_i g hj;split at h
   .cases h
   .rename_i d hd;split at h
    .rename_i t ht;rw[Ku hg hj hd (DC hM ht)];split at h
     .rfl
     .rfl
     .cases h
    .rename_i xs ht;exact D6 hg hj hd (Ix hM ht)
    .cases h
theorem xC(hM:aI B ι σ a w){k:Nat}{ow:Own}(hown:nth σ.own k=some (some ow)){b:Nat}(hb:blk (ι k)=some b):∀{l:List Operand},Dn σ k l=true->∀x∈l,∀j,(σ.ev x= .at (.lst j)\/∃off,σ.ev x= .at (.ptr j off))->blk (ι j)≠some b
 |[],_,x,hx=>by cases hx
 |y::r,h,x,hx=>by
  simp only[Dn,Bool.and_eq_true]at h;rcases List.mem_cons.1 hx with rfl|hx
  .intro j hj hbj;have h1:=h.1;rcases hj with hj|⟨off,hj⟩
   all_goals
    simp only[hj]at h1;split at h1
    .rename_i o' ho';have:=hM.dist j k _ _ b ho' hown hbj hb;subst this;simp at h1
    .cases h1
  .exact xC hM hown hb h.2 x hx
theorem WW{ops:Array Oper}{fl:Bool}{oj oi:Oper}{v:Value}{w':World}(hM:aI B ι σ a w)(hk:D4 σ ι oj w w')(hst:G0 C.P fl σ oj oi True)(hpost:fl=true->∃τ:St,zN B τ.m τ.h w'/\Ee σ oj oi τ True)(hy:Yd C.P ops w oi v a):Yd C.P ops w' oi v a\/vC C.P oi=false:=by
 unfold G0 at hst;split at hst
 .rename_i hm;exact .inr hm
 .left;rcases hy with⟨hw,hrun⟩|hy
  .left;refine⟨hw,?_⟩;split at hst
   .rename_i T x hop;split at hst
    .exact hst.elim
    .rename_i hT;have hev:=hM.ev x
     have gen:∀(b off:Nat)(cs:List Value),a.eval x= .pointer (some ⟨b,off,none⟩)->cs.length=C.P.cellsOf T->(∀j u,cs[j]? =some u->w.cell? ⟨b,off+j,none⟩=some u)->(∀j u,cs[j]? =some u->w'.cell? ⟨b,off+j,none⟩=some u)->
      (execOp a.eval oi).run C.P w'= .ok (.value v) w':=by
      intro b off cs hx hl hc hc';have h1:=uG hT hl hc;have h2:=uG hT hl hc'
      have e1:(execOp a.eval oi).run C.P w= .ok (.value (W0 C.P T cs)) w:=by
       unfold execOp;simp only[hop,hx,Instr.loadAt,Instr.sureAddr,Sem.run_bind,Sem.run_pure,Result.andThen_ok,h1]
      have e2:(execOp a.eval oi).run C.P w'= .ok (.value (W0 C.P T cs)) w':=by
       unfold execOp;simp only[hop,hx,Instr.loadAt,Instr.sureAddr,Sem.run_bind,Sem.run_pure,Result.andThen_ok,h2]
      rw[e1]at hrun;simp only[Result.ok.injEq,Next.value.injEq,and_true]at hrun;rw[e2,hrun]
     split at hst
     .rename_i k off hx;rw[hx]at hev;split at hst
      .rename_i p T' cs hown;split at hst
       .rename_i ht hle;have hle:=Nat.le_of_ble_eq_true hle;obtain⟨b,vs,hι,hh,hdc⟩:=sI hM hown;obtain⟨b',hb',hpt⟩:=hev;rw[hι]at hb';simp only[Value.pointer.injEq,Option.some.injEq,Addr.mk.injEq]at hb';obtain⟨rfl, -, -⟩:=hb';have hh':=hk.cells k p T' cs b hown ht hι;rw[hh]at hh';have hvs:cs.length=vs.toList.length:=hdc.length;refine gen b off ((vs.toList.drop off).take (C.P.cellsOf T)) hpt (by simp at hvs⊢;omega) (λj u hu=>?_) (λj u hu=>?_)
        .rw[cell_of_heap hh];exact sF hu
        .rw[cell_of_heap hh'];exact sF hu
       .exact hst.elim
      .exact hst.elim
     .rename_i b off d hx hd;rw[hx]at hev;have hev:a.eval x= .pointer (some ⟨b,off,none⟩):=hev;split at hst
      .rename_i cs hcs;split at hst
       .rename_i l hl;split at hst
        .rename_i hlen;split at hst
         .rename_i hgr;have hc:=Av hM.wrel hst.1;refine gen b off l hev (Nat.eq_of_beq_eq_true hlen) hc (λj u hu=>?_);have h1:=hc j u hu;cases hgr2:vD oj.op with
          |false=>
           rw[hgr2,Bool.false_or]at hgr;obtain⟨τ,hwτ,h2⟩:=hpost hgr;unfold Ee at h2;simp only[hop,hx,hd,hcs,hl,hgr2]at h2;exact Av hwτ h2.1 j u hu
          |true=>
          have hgr:=hgr2;rw[<-h1];exact World.cell?_of_block (w:=w) (w':=w') (a:=⟨b,off+j,none⟩) (hk.ext hgr b (World.block_lt_of_cell? w ⟨b,off+j,none⟩ h1))
         .refine gen b off l hev (Nat.eq_of_beq_eq_true hlen) (λj u hu=>hM.wrel.hsat _ _ _ (hst.1.rd j u hu)) (λj u hu=>hk.imm _ _ _ (hst.1.rd j u hu))
        .exact hst.elim
       .exact hst.elim
      .exact hst.elim
     .rename_i k i sz off d hx hd;rw[hx]at hev;split at hst
      .rename_i E' s xs cs hown hcs;split at hst
       .rename_i l hl hs hap;have hs:=Nat.eq_of_beq_eq_true hs;subst hs;split at hst
        .rename_i hlen;obtain⟨e,he,hel⟩:=hst.1;obtain⟨hrows,hrow⟩:=nF hM hown;obtain⟨b,n,c,hι,hp⟩:=hev
         have blkSame:∀b,blk (ι k)=some b->w'.heap[b]? =w.heap[b]? :=by
          intro b hb;have hlt:=nD (hM.own k _ hown) hb;unfold M4 at hap;rw[Bool.or_eq_true]at hap;rcases hap with hap|hap
          .exact hk.ext hap b hlt
          .split at hap
           .rename_i l hl;refine hk.args l b hl hlt (hM.fresh k _ b hown hb).2.1 ?_;exact xC hM hown hb hap
           .cases hap
         have hrow':w'.ownsRow 0 E' s (ι k) xs.length xs.flatten:=((hM.own k _ hown).world (λb hb=>blkSame b hb)).2
         have rd:∀w1:World,w1.ownsRow 0 E' s (ι k) xs.length xs.flatten->∀j u,l[j]? =some u->w1.cell? ⟨b,i*s+off+j,none⟩=some u:=by
          intro w1 h1 j u hu;rw[<-hel]at hu;have hv':=sF hu;have hf:=lC hrows.len he _ _ hv';have:=h1.cells (g:=b) (by rw[hι];rfl) _ _ hf;rw[Addr.add_none]at this;rw[<-this];congr 1;simp only[Addr.mk.injEq,and_true,true_and];omega
         exact gen b (i*s+off) l hp (Nat.eq_of_beq_eq_true hlen) (rd w hrow) (rd w' hrow')
        .exact hst.elim
       .exact hst.elim
      .exact hst.elim
     .exact hst.elim
   .rename_i src dst x hop;have hev:=hM.ev x;split at hst
    .rename_i k d hx hd;rw[hx]at hev;have hev:a.eval x=ι k:=hev;split at hst
     .rename_i E' sz xs s hown hs;split at hst
      .rename_i E hsrc hdst;split at hst
       .rename_i hE;split at hst
        .rename_i hap;have hxs:=hst.1;obtain⟨hrows,hrow⟩:=nF hM hown;have hbl:xs=aY s.data.toList:=hxs
         have blkSame:∀b,blk (ι k)=some b->w'.heap[b]? =w.heap[b]? :=by
          intro b hb;have hlt:=nD (hM.own k _ hown) hb;unfold M4 at hap;rw[Bool.or_eq_true]at hap;rcases hap with hap|hap
          .exact hk.ext hap b hlt
          .split at hap
           .rename_i l hl;refine hk.args l b hl hlt (hM.fresh k _ b hown hb).2.1 ?_;exact xC hM hown hb hap
           .cases hap
         have hrow':w'.ownsRow 0 E' sz (ι k) xs.length xs.flatten:=((hM.own k _ hown).world (λb hb=>blkSame b hb)).2
         have go:∀w1:World,w1.ownsRow 0 E' sz (ι k) xs.length xs.flatten->(execOp a.eval oi).run C.P w1= .ok (.value (.string ⟨s.data.toList.toArray⟩)) w1:=by
          intro w1 h1;subst hbl;exact Bo hop hsrc hE hdst hev h1
         rw[go w hrow]at hrun;rw[go w' hrow'];simp only[Result.ok.injEq,Next.value.injEq,and_true]at hrun;rw[hrun]
        .exact hst.elim
       .exact hst.elim
      .exact hst.elim
     .exact hst.elim
    .exact hst.elim
   .exact hst.elim
  .exact .inr hy
theorem LS{g:Nat->Prop}:∀{l:List Nat},Wi g l->∀j∈l,g j
 |[],_,j,hj=>by cases hj
 |[i],h,j,hj=>by simp at hj;subst hj;exact h
 |i::k::r,h,j,hj=>by
  rcases List.mem_cons.1 hj with rfl|hj
  .exact h.1
  .exact LS h.2 j hj
theorem Bf{ops:Array Oper}:∀{l:List Nat}{i:Nat}{o:Oper},C1 ops l=some (i,o)->i∈l/\ops[i]? =some o/\Bc o.op=true
 |[],i,o,h=>by simp[C1]at h
 |k::r,i,o,h=>by
  simp only[C1]at h;split at h
  .rename_i ok hok;split at h
   .rename_i hr;simp only[Option.some.injEq,Prod.mk.injEq]at h;obtain⟨rfl,rfl⟩:=h;rw[iY,Array.getElem?_toList]at hok;exact⟨List.mem_cons_self,hok,hr⟩
   .obtain⟨h1,h2⟩:=Bf h;exact⟨List.mem_cons_of_mem _ h1,h2⟩
  .obtain⟨h1,h2⟩:=Bf h;exact⟨List.mem_cons_of_mem _ h1,h2⟩
def oZ(ops:Array Oper)(L:Array Bool):Nat:=((List.range ops.size).filter λi=> !L.getD i false).length
theorem D8{ops:Array Oper}{L:Array Bool}{i:Nat}(hsz:L.size=ops.size)(hi:i<ops.size)(hL:L.getD i false=false):oZ ops (L.setIfInBounds i true)+1=oZ ops L:=by
 unfold oZ
 have key:∀(l:List Nat),l.Nodup->(l.filter λj=> !(L.setIfInBounds i true).getD j false).length+(if i∈l then 1 else 0)=(l.filter λj=> !L.getD j false).length:=by
  intro l
  induction l with
  |nil=>intro _;simp
  |cons j r ih=>
   intro hnd;have hnd':=List.nodup_cons.1 hnd;have:=ih hnd'.2;by_cases e:i=j
   .subst e;have h1:(L.setIfInBounds i true).getD i false=true:=pC aC;have h2:i∉r:=hnd'.1;simp only[List.filter_cons,h1,hL,Bool.not_true,Bool.not_false,if_true,Bool.false_eq_true,if_false,List.length_cons,List.mem_cons_self];simp only[h2,if_false]at this;omega
   .have h1:(L.setIfInBounds i true).getD j false=L.getD j false:=getD_set_ne false e;have h2:(i∈j::r)↔i∈r:=by simp[e]
    simp only[List.filter_cons,h1];split
    .simp only[List.length_cons,h2];omega
    .simp only[h2];exact this
 have:=key (List.range ops.size) List.nodup_range;rw[if_pos (List.mem_range.2 hi)]at this;exact this
theorem GN{ops:Array Oper}{L:Array Bool}(hs:Yt ops)(hsz:L.size=ops.size)(h:Region.ready .any ops L=[]):∀i,i<ops.size->L.getD i false=true:=by
 intro i
 induction i using Nat.strongRecOn with
 |_ i ih=>
  intro hi;cases hL:L.getD i false with
  |true=>rfl
  |false=>
   exfalso;have ho:ops[i]? =some ops[i]:=Array.getElem?_eq_getElem hi
   have:i∈Region.ready .any ops L:=by
    rw[qE];refine⟨?_,_,ho,λk hk=>ih k (hs.topo i _ k ho hk) (Nat.lt_trans (hs.topo i _ k ho hk) hi)⟩;have hiL:i<L.size:=by omega
    simp[Array.getD,hiL]at hL⊢
    exact hL
   rw[h]at this;cases this
theorem zY{ops:Array Oper}{L:Array Bool}(h:∀i,i<ops.size->L.getD i false=true):Region.ready .any ops L=[]:=by
 cases hr:Region.ready .any ops L with
 |nil=>rfl
 |cons i r=>
  exfalso;have:i∈Region.ready .any ops L:=by rw[hr];exact List.mem_cons_self
  obtain⟨h1,o,ho,_⟩:=qE.1 this;have hi:=(Array.getElem?_eq_some_iff.1 ho).1;have:=h i hi;rw[(Ij h1).1]at this;cases this
theorem LV.eq_of_all{P:Program}{ops:Array Oper}{L Cl:Array Bool}{ar ac:Act}(h:LV P ops L Cl ar ac w)(hall:∀i,i<ops.size->L.getD i false=true):ar=ac:=by
 have ht:ar.tmps=ac.tmps:=by
  apply Array.ext_getElem?;intro t;refine h.agree t (λi o ho _ hL=>?_);have:=hall i (Array.getElem?_eq_some_iff.1 ho).1;rw[hL]at this;cases this
 have hd:=h.df;cases ar;cases ac;simp at ht hd;rw[ht,hd]
theorem UP{ops:Array Oper}{R:St->Prop}{n:Nat}{Cl:Array Bool}(h:yV C ops n Cl σ R)(hr:Region.ready .any ops Cl=[]):R σ:=by
 cases n<;>simp only[yV,hr]at h<;>exact h
theorem PN{ops:Array Oper}{listed:Array Bool}{σ:St}{oj:Oper}{τ:St}{K:Prop}(h:Fy C ops listed σ oj τ K):
 (RT C=true->∀(i:Nat)(oi:Oper),ops.toList[i]? =some oi->listed.getD (0+i) false=true->Bc oi.op=true->waits oj (0+i)=false->uA ops σ oi=false->Ee σ oj oi τ True)/\K:=by
 unfold Fy at h;split at h
 .rename_i e;obtain⟨h1,h2⟩:=GZ _ 0 h;exact⟨λ_=>h2,h1⟩
 .rename_i e;refine⟨λe2=>?_,h⟩;rw[e]at e2;cases e2
theorem LR(hspecs:∀g S,assoc C.specs g=some S->Sound C.P g S){ops:Array Oper}(hs:Yt ops){Q:Exit->Act->World->Prop}{R:St->Prop}(hQ:∀ι σ a w,aI B ι σ a w->R σ->Q .normal a w)
 (hQp:∀c a w,¬Q (.panic c) a w):
 ∀(n:Nat)(fuel:Nat)(Cl:Array Bool)(ι:Nat->Value)(σ:St)(ac:Act)(w:World),aI B ι σ ac w->yV C ops n Cl σ R->∀(L:Array Bool)(ar:Act),LV C.P ops L Cl ar ac w->oZ ops L=fuel->
  wpAny C.P .any ops Q fuel L ar w:=by
 have fin:∀(n:Nat)(Cl:Array Bool)(ι:Nat->Value)(σ:St)(ac:Act)(w:World),aI B ι σ ac w->yV C ops n Cl σ R->∀(L:Array Bool)(ar:Act),LV C.P ops L Cl ar ac w->Region.ready .any ops L=[]->Q .normal ar w:=by
  intro n Cl ι σ ac w hM h L ar sim hr;have hall:=GN hs sim.szL hr;rw[sim.eq_of_all hall];exact hQ ι σ ac w hM (UP h (zY (λi hi=>sim.sub i (hall i hi))))
 have zero:∀(n:Nat)(Cl:Array Bool)(ι:Nat->Value)(σ:St)(ac:Act)(w:World),aI B ι σ ac w->yV C ops n Cl σ R->∀(L:Array Bool)(ar:Act),LV C.P ops L Cl ar ac w->oZ ops L=0->wpAny C.P .any ops Q 0 L ar w:=by
  intro n Cl ι σ ac w hM h L ar sim hf
  have hall:∀i,i<ops.size->L.getD i false=true:=by
   intro i hi;unfold oZ at hf;have hnil:=List.eq_nil_of_length_eq_zero hf;cases hL:L.getD i false with
   |true=>rfl
   |false=>
    have:i∈(List.range ops.size).filter λi=> !L.getD i false:=List.mem_filter.2 ⟨List.mem_range.2 hi,by simp[hL]⟩;rw[hnil]at this;cases this
  have hr:=zY hall;exact⟨hr,fin n Cl ι σ ac w hM h L ar sim hr⟩
 have stepP:∀(n fuel:Nat),(∀(Cl:Array Bool)(ι:Nat->Value)(σ:St)(ac:Act)(w:World),aI B ι σ ac w->yV C ops n Cl σ R->∀(L:Array Bool)(ar:Act),LV C.P ops L Cl ar ac w->oZ ops L=fuel->wpAny C.P .any ops Q fuel L ar w)->
  ∀(Cl:Array Bool)(ι:Nat->Value)(σ:St)(ac:Act)(w:World),aI B ι σ ac w->yV C ops n Cl σ R->∀(L:Array Bool)(ar:Act),LV C.P ops L Cl ar ac w->oZ ops L=fuel+1->
   ∀i∈Region.ready .any ops L,Cl.getD i false=true->wpOp C.P ops Q i (wpAny C.P .any ops Q fuel (L.setIfInBounds i true)) ar w:=by
  intro n fuel ih Cl ι σ ac w hM h L ar sim hf i hi hC;obtain⟨hun,o,ho,hw⟩:=qE.1 hi;obtain⟨hL,hlt⟩:=Ij hun;obtain⟨v,hv,hlv,hpv⟩:=sim.pend i o ho hC hL
  have hy:Yd C.P ops w o v ar:=by
   rcases hs.look i o ho with hst|hlo
   .obtain⟨he,hwe⟩:=DY (hs.sel i o · · ho) (sim.looks hst hw);exact(hv hst w (.inr rfl)).congr he hwe
   .exact hlv hlo w
  have hnext:wpAny C.P .any ops Q fuel (L.setIfInBounds i true) (ar.put o.dst v) w:=
   ih Cl ι σ ac w hM h _ _ (sim.stepA hs ho hC hw hpv) (by have:=D8 sim.szL (by have:=sim.szL;omega) hL;omega)
  unfold wpOp;simp only[ho];rcases hy with⟨hwt,hrun⟩|⟨hwt,rfl⟩
  .rw[if_pos hwt];left;unfold Oper.wp;rw[hrun,Oper.upon_value];exact hnext
  .rw[if_neg (by simp[hwt])];exact hnext
 intro n
 induction n with
 |zero=>
  intro fuel
  induction fuel with
  |zero=>exact zero 0
  |succ fuel ihf=>
   intro Cl ι σ ac w hM h L ar sim hf;refine⟨fin 0 Cl ι σ ac w hM h L ar sim,λi hi=>?_⟩;cases hC:Cl.getD i false with
   |true=>exact stepP 0 fuel ihf Cl ι σ ac w hM h L ar sim hf i hi hC
   |false=>
    exfalso;obtain⟨hun,o,ho,hw⟩:=qE.1 hi
    have hiC:i∈Region.ready .any ops Cl:=by
     rw[qE];refine⟨?_,o,ho,λk hk=>sim.sub k (hw k hk)⟩;have:i<Cl.size:=by rw[sim.szC];exact(Array.getElem?_eq_some_iff.1 ho).1
     simp[Array.getD,this]at hC⊢
     exact hC
    simp only[yV]at h;split at h
    .rename_i hr;rw[hr]at hiC;cases hiC
    .exact h
 |succ n ihn=>
  intro fuel
  induction fuel with
  |zero=>exact zero (n+1)
  |succ fuel ihf=>
   intro Cl ι σ ac w hM h L ar sim hf;refine⟨fin (n+1) Cl ι σ ac w hM h L ar sim,λi hi=>?_⟩;cases hC:Cl.getD i false with
   |true=>exact stepP (n+1) fuel ihf Cl ι σ ac w hM h L ar sim hf i hi hC
   |false=>
    obtain⟨hun,o,ho,hw⟩:=qE.1 hi;obtain⟨hLi,hlt⟩:=Ij hun
    have hiC:i∈Region.ready .any ops Cl:=by
     rw[qE];refine⟨?_,o,ho,λk hk=>sim.sub k (hw k hk)⟩;have:i<Cl.size:=by rw[sim.szC];exact(Array.getElem?_eq_some_iff.1 ho).1
     simp[Array.getD,this]at hC⊢
     exact hC
    simp only[yV]at h;split at h
    .rename_i hr;rw[hr]at hiC;cases hiC
    .split at h
     ·
      rename_i k ok hfr;obtain⟨hkr,hok,hkrd⟩:=Bf hfr;obtain⟨hkun,ok',hok',hkw⟩:=qE.1 hkr;rw[hok]at hok';cases hok';obtain⟨hkC,hklt⟩:=Ij hkun;obtain⟨σ1,hM1,hfz,hc⟩:=B6 hM h;rcases hc with⟨hwt,h⟩|⟨hwt,h⟩
      .obtain⟨v,x,hrun,hx,hK⟩:=Vb hM1 hkrd h;have hsim:=sim.take hs hok hkC hkw hkrd (v:=v) (λw'' hw''=>.inl ⟨hwt,hrun w'' hw''⟩);exact(ihn (fuel+1) _ ι _ _ w (hM1.put ok.dst hx) hK L ar hsim hf).2 i hi
      .have hsim:=sim.take hs hok hkC hkw hkrd (v:=undef) (λw'' _=>.inr ⟨hwt,rfl⟩);exact(ihn (fuel+1) _ ι _ _ w (hM1.put ok.dst (x:=.at (.val undef)) rfl) h L ar hsim hf).2 i hi
     ·
      have hg:=LS h i hiC;split at hg
      .rename_i o' ho';rw[iY,Array.getElem?_toList,ho]at ho';cases ho';obtain⟨hg,hstab⟩:=Iz _ 0 hg;obtain⟨he,hwe⟩:=DY (hs.sel i o · · ho) ((hs.look i o ho).elim (sim.looks · hw) (sim.looks' · hC));have hgw:=Om hspecs hM hg (λa' w'=>∃ι' σ',aI B ι' σ' a' w'/\Fy C ops Cl σ o σ' (yV C ops n (Cl.setIfInBounds i true) σ' R)/\D4 σ ι o w w') Q (λι' σ' a' w' h1 h2 h3=>⟨ι',σ',h1,h2,h3⟩)
       have hB:∀(u:Value)(w':World),(∃ι' σ',aI B ι' σ' (ac.put o.dst u) w'/\Fy C ops Cl σ o σ' (yV C ops n (Cl.setIfInBounds i true) σ' R)/\D4 σ ι o w w')->
        wpAny C.P .any ops Q fuel (L.setIfInBounds i true) (ar.put o.dst u) w':=by
        rintro u w' ⟨ι',σ',hM',h',hk'⟩;obtain⟨hpo,h'⟩:=PN h';refine ihn fuel _ ι' σ' _ w' hM' h' _ _ (sim.stepB hs ho hC hw u w' ?_) (by have:=D8 sim.szL (by have:=sim.szL;omega) hLi;omega);intro j oj v hj hCj hLj hy;cases hun':uA ops σ oj with
        |true=>
         have:=MI hM hun';rcases hy with⟨h1,_⟩|h1
         .rw[this]at h1;cases h1
         .exact .inl (.inr h1)
        |false=>
         have hnw:waits o j=false:=by
          cases hwj:waits o j with
          |false=>rfl
          |true=>rw[hw j hwj]at hLj;cases hLj
         have hst:=hstab j oj (by rw[Array.getElem?_toList];exact hj) (by simpa using hCj) (sim.rd j oj hj hCj hLj) (by simpa using hnw) hun';exact WW hM hk' hst (λe=>⟨σ',hM'.wrel,hpo e j oj (by rw[Array.getElem?_toList];exact hj) (by simpa using hCj) (sim.rd j oj hj hCj hLj) (by simpa using hnw) hun'⟩) hy
       unfold ZH at hgw;unfold wpOp;simp only[ho];rw[hwe];split
       .rename_i hwt;rw[if_pos hwt]at hgw;left;refine Ny he hgw hB ?_ hQp;rintro d w' ⟨ι',σ',hM',_⟩;have:=hM'.defers;rw[<-hM.defers]at this;cases hd:o.dst<;>simp[Act.put,hd]at this
       .rename_i hwt;rw[if_neg hwt]at hgw;exact hB undef w hgw
      .exact hg.elim
end
end Go.Vc
namespace Go.Vc
open Go
section
variable{B:oH}{C:Ctx}{ι:Nat->Value}{σ:St}{a:Act}{w:World}
theorem tZ:∀{xs ys:List SV}{vs:List Value}{K:Prop},yM xs ys K->DenS ι xs vs->DenS ι ys vs/\K
 |[],[],vs,K,h,hd=>⟨hd,h⟩
 |x::xs,y::ys,[],K,_,hd=>hd.elim
 |x::xs,y::ys,v::vs,K,h,hd=>by
  unfold yM at h;split at h
  .rename_i h1 h2;cases h1
  .rename_i x' xs' ys' h1 h2;simp only[List.cons.injEq]at h1 h2;obtain⟨rfl,rfl⟩:=h1;obtain⟨rfl,rfl⟩:=h2;have:=tZ h hd.2;exact⟨⟨trivial,this.1⟩,this.2⟩
  .rename_i x' xs' y' ys' _ h1 h2;simp only[List.cons.injEq]at h1 h2;obtain⟨rfl,rfl⟩:=h1;obtain⟨rfl,rfl⟩:=h2;obtain⟨rfl,h⟩:=h;have:=tZ h hd.2;exact⟨⟨hd.1,this.1⟩,this.2⟩
  .exact h.elim
 |[],_::_,_,K,h,_=>by simp[yM]at h
 |_::_,[],_,K,h,_=>by simp[yM]at h
theorem rO:∀{xs ys:List (Option Own)}{K:Prop},rP xs ys K->(∀k o,nth ys k=some (some o)->nth xs k=some (some o))/\K
 |[],[],K,h=>⟨λk o hk=>by simp[nth]at hk,h⟩
 |x::xs,none::ys,K,h=>by
  simp only[rP]at h;obtain⟨h1,h2⟩:=rO h;refine⟨λk o hk=>?_,h2⟩;cases k with
  |zero=>simp[nth]at hk
  |succ k=>exact h1 k o hk
 |x::xs,some y::ys,K,h=>by
  simp only[rP]at h;obtain⟨rfl,h⟩:=h;obtain⟨h1,h2⟩:=rO h;refine⟨λk o hk=>?_,h2⟩;cases k with
  |zero=>exact hk
  |succ k=>exact h1 k o hk
 |[],_::_,K,h=>by simp[rP]at h
 |_::_,[],K,h=>by simp[rP]at h
theorem aI.setSlot(hM:aI B ι σ a w){i:Nat}{x:SV}{v:Value}(hv:a.tmps[i]? =some v)(hx:Den ι x v):aI B ι (σ.put (some i) x) a w:=by
 refine⟨?_,hM.defers,hM.own,hM.dist,hM.fresh,hM.wrel,hM.one⟩;have:=hM.slots.set i hx;show DenS ι (σ.sl.set i x) a.tmps.toList
 have e:a.tmps.toList.set i v=a.tmps.toList:=by
  apply List.ext_getElem?;intro j;rw[List.getElem?_set];split
  .rename_i hj;subst hj;rw[Array.getElem?_toList,hv];split
   .rfl
   .rename_i hlt;simp at hlt;rw[Array.getElem?_eq_none hlt]at hv;cases hv
  .rfl
 rw[e]at this;exact this
theorem aI.nilList(hM:aI B ι σ a w)(k E sz:Nat):aI B (upd ι k (.slice none 0 0)) ((σ.kill k).setOwn k (some (.lst E sz []))) a w:=by
 refine hM.place k _ _ (Ag.refl _ _) ⟨DH sz,World.ownsRow_nil w 0 E sz⟩ rfl (λb hb=>by simp[blk]at hb)
theorem oF(τ:St):∀(ys:List SV)(i:Nat)(ι:Nat->Value)(σ:St),aI B ι σ a w->∃ι',aI B ι' (MX τ ys i σ) a w
 |[],i,ι,σ,hM=>⟨ι,hM⟩
 |y::ys,i,ι,σ,hM=>by
  simp only[MX];split
  .rename_i k;split
   .rename_i hs;split
    .rename_i E sz xs hτ hσ
     have hv:a.tmps[i]? =some (.slice none 0 0):=by
      rw[iY]at hs;obtain⟨v,hv,hd⟩:=hM.slots.get i _ hs;rw[Array.getElem?_toList]at hv;have hd:v= .slice none 0 0:=hd;rw[hv,hd]
     exact oF τ ys (i+1) _ _ ((hM.nilList k E sz).setSlot hv (x:=.at (.lst k)) (by show _=_;simp))
    .exact oF τ ys (i+1) ι σ hM
   .exact oF τ ys (i+1) ι σ hM
  .exact oF τ ys (i+1) ι σ hM
theorem kT(τ:St)(q:Nat):∀(ys:List At)(j:Nat)(ι:Nat->Value)(σ:St),aI B ι σ a w->∃ι',aI B ι' (Dj τ q ys j σ) a w
 |[],j,ι,σ,hM=>⟨ι,hM⟩
 |y::ys,j,ι,σ,hM=>by
  simp only[Dj];split
  .rename_i k;split
   .rename_i p T cs hq;split
    .rename_i hj;split
     .rename_i E sz xs hτ hσ;have hqk:q≠k:=λe=>by subst e;rw[hσ]at hq;cases hq
      have h1:=hM.nilList k E sz
      have hq1:nth ((σ.kill k).setOwn k (some (.lst E sz []))).own q=some (some (.cellsP p T (cs.map (At.sub k (λ_=>.junk))))):=by
       simp only[Ih,St.setOwn,St.sub,tA,vI,hqk,false_and,if_false,hq];rfl
      obtain⟨b,vs,hι,hh,hd⟩:=sI h1 hq1
      have hvj:vs.toList[j]? =some (.slice none 0 0):=by
       obtain⟨b0,vs0,hι0,hh0,hd0⟩:=sI hM hq;rw[iY]at hj;obtain⟨v,hv,hdv⟩:=hd0.get j _ hj;have hdv:v= .slice none 0 0:=hdv;rw[lP _ _ hqk,hι0]at hι;simp only[Value.pointer.injEq,Option.some.injEq,Addr.mk.injEq]at hι;obtain⟨rfl, -, -⟩:=hι;rw[hh0]at hh;simp only[Option.some.injEq,Obj.cells.injEq]at hh;rw[<-hh.1,hv,hdv]
      have hset:vs.toList.set j (.slice none 0 0)=vs.toList:=by
       apply List.ext_getElem?;intro t;rw[List.getElem?_set];split
       .rename_i e;subst e;rw[hvj];split
        .rfl
        .rename_i hlt;rw[List.getElem?_eq_none (Nat.le_of_not_lt hlt)]at hvj;cases hvj
       .rfl
      have h2:aI B (upd ι k (.slice none 0 0)) (DE ((σ.kill k).setOwn k (some (.lst E sz []))) q j (.lst k)) a w:=by
       unfold DE;rw[hq1];refine h1.rewrite hq1 (Ag.refl _ _) ⟨b,vs,hι,hh,?_,λq' e=>by subst e;have:=Si h1 hq1;rw[hι]at this;simpa using this⟩;have:=hd.set j (x:=.lst k) (v:=.slice none 0 0) (by show _=_;simp)
       rwa [hset]at this
      exact kT τ q ys (j+1) _ _ h2
     .exact kT τ q ys (j+1) ι σ hM
    .exact kT τ q ys (j+1) ι σ hM
   .exact kT τ q ys (j+1) ι σ hM
  .exact kT τ q ys (j+1) ι σ hM
theorem uB(τ:St):∀(ys:List (Option Own))(q:Nat)(ι:Nat->Value)(σ:St),aI B ι σ a w->∃ι',aI B ι' (Il τ ys q σ) a w
 |[],q,ι,σ,hM=>⟨ι,hM⟩
 |y::ys,q,ι,σ,hM=>by
  simp only[Il];split
  .rename_i T cs;obtain⟨ι',hM'⟩:=kT τ q cs 0 ι σ hM;exact uB τ ys (q+1) ι' _ hM'
  .exact uB τ ys (q+1) ι σ hM
theorem kY{τ:St}{K:Prop}(hM:aI B ι σ a w)(h:wA σ τ K):∃ι',aI B ι' τ a w/\K:=by
 obtain⟨ι1,hM1⟩:=oF τ τ.sl 0 ι σ hM;obtain⟨ι2,hM2⟩:=uB τ τ.own 0 ι1 _ hM1;have hM2:aI B ι2 (conv σ τ) a w:=hM2;unfold wA at h;obtain⟨hsl,h⟩:=tZ h hM2.slots;obtain⟨hown,hm,hh,hK⟩:=rO h;refine⟨ι2,⟨hsl,hM2.defers,λk o hk=>hM2.own k o (hown k o hk),λk k' o o' b hk hk' hb hb'=>hM2.dist k k' o o' b (hown k o hk) (hown k' o' hk') hb hb',?_,?_,hM2.one⟩,hK⟩
 .intro k o b hk hb;rw[<-hm, <-hh];exact hM2.fresh k o b (hown k o hk) hb
 .rw[<-hm, <-hh];exact hM2.wrel
theorem aI.froze(hM:aI B ι σ a w){m2:MH}{h2:PH}(hF:Co σ.m σ.h m2 h2):aI B ι {σ with m:=m2,h:=h2} a w:=by
 have hw:=hM.wrel;refine⟨hM.slots,hM.defers,hM.own,hM.dist,λk o b hk hb=>?_,?_,hM.one⟩
 .obtain⟨f1,f2,f3⟩:=hM.fresh k o b hk hb;refine⟨f1,?_,λi=>?_⟩
  .show m2 b=none;cases e2:m2 b with
   |none=>rfl
   |some o=>rw[hF.sub b o e2]at f2;cases f2
  .show h2 b i=none;cases e2:h2 b i with
   |none=>rfl
   |some v=>
    rcases hF.new b i v e2 with h3|⟨cs,E,fz,h3,_,_⟩
    .rw[f3 i]at h3;cases h3
    .rw[f2]at h3;cases h3
 .refine⟨hw.tape,hw.os,hw.output,hw.drawn,hw.size,hw.frame,λb o v e=>?_,λb o e=>hw.msat b o (hF.sub b o e),λb o e i=>?_,λb o v e=>hF.le.le b o v (hw.hle b o v e),λb h1 h2'=>?_,λb o e=>hw.mfr b o (hF.sub b o e)⟩
  .rcases hF.new b o v e with h3|⟨cs,E,fz,h3,h4,_⟩
   .exact hw.hsat b o v h3
   .rw[cell_of_heap (hw.msat b _ h3),Array.getElem?_toList];exact h4
  .show h2 b i=none;have e:m2 b=some o:=e;cases e2:h2 b i with
   |none=>rfl
   |some v=>
    rcases hF.new b i v e2 with h3|⟨cs,E,fz,h3,h4,h5⟩
    .rw[hw.disj b o (hF.sub b o e) i]at h3;cases h3
    .rw[h5]at e;cases e
  .funext i;have e:=congrFun (hw.hold b h1 h2') i;show h2 b i=B.h0 b i;cases e2:B.h0 b i with
   |some v=>exact hF.le.le b i v (hw.hle b i v e2)
   |none=>
    cases e3:h2 b i with
    |none=>rfl
    |some v=>
     rcases hF.new b i v e3 with h3|⟨cs,E,fz,h3,h4,h5⟩
     .rw[e,e2]at h3;cases h3
     .rcases hw.mfr b _ h3 with h6|h6
      .omega
      .exact(h2' h6).elim
theorem E4{τ:St}{K:Prop}(hM:aI B ι σ a w)(h:MC σ τ K):∃ι',aI B ι' τ a w/\K:=by
 obtain⟨ι1,hM1⟩:=oF τ τ.sl 0 ι σ hM;obtain⟨ι2,hM2⟩:=uB τ τ.own 0 ι1 _ hM1;have hM2:aI B ι2 (conv σ τ) a w:=hM2;unfold MC at h;obtain⟨hsl,h⟩:=tZ h hM2.slots;obtain⟨hown,hF,hK⟩:=rO h;have hM3:=hM2.froze hF;exact⟨ι2,⟨hsl,hM2.defers,λk o hk=>hM2.own k o (hown k o hk),λk k' o o' b hk hk' hb hb'=>hM2.dist k k' o o' b (hown k o hk) (hown k' o' hk') hb hb',λk o b hk hb=>hM3.fresh k o b (hown k o hk) hb,hM3.wrel,hM2.one⟩,hK⟩
theorem uH{c:oI}{R:c.A->Prop}(hM:aI B ι σ a w)(h:Ek c R σ):∃x ι',R x/\aI B ι' (c.st x) a w:=by
 unfold Ek at h;split at h
 .obtain⟨x,hx,hm⟩:=h;obtain⟨ι2,hM2,_⟩:=kY hM hm;exact⟨x,ι2,hx,hM2⟩
 .obtain⟨x,hx,hm⟩:=h ⟨hM.wrel.disj⟩;obtain⟨ι2,hM2,_⟩:=E4 hM hm;exact⟨x,ι2,hx,hM2⟩
theorem Hp{c:oI}{I S:c.A->Prop}(hM:aI B ι σ a w)(h:M6 c I S σ):∃x ι',I x/\S x/\aI B ι' (c.st x) a w:=by
 unfold M6 at h;split at h
 .obtain⟨x,hx,hs,hm⟩:=h;obtain⟨ι2,hM2,_⟩:=kY hM hm;exact⟨x,ι2,hx,hs,hM2⟩
 .obtain⟨x,hx,hs,hm⟩:=h ⟨hM.wrel.disj⟩;obtain⟨ι2,hM2,_⟩:=E4 hM hm;exact⟨x,ι2,hx,hs,hM2⟩
def QD(B:oH)(Q:Bv->St->Prop):Exit->Act->World->Prop
 |.normal,a,w=>∃ι σ,aI B ι σ a w/\Q .normal σ
 |.exit id,a,w=>∃ι σ,aI B ι σ a w/\Q (.exit id) σ
 |.ret,a,w=>∃ι σ,aI B ι σ a w/\Q .ret σ
 |_,_,_=>False
theorem FK(hspecs:∀g S,assoc C.specs g=some S->Sound C.P g S){ops:Array Oper}{Q:Bv->St->Prop}:
 ∀(segs:List (Nat×oI))(l:List Oper)(s:Nat)(ι:Nat->Value)(σ:St)(a:Act)(w:World),(∀j,l[j]? =ops.toList[s+j]?)->aI B ι σ a w->U4 C ops segs l σ (Q .normal)->wpOpsIn Fence.wide 0 C.P ops (QD B Q) (List.range' s l.length) a w
 |[],l,s,ι,σ,a,w,hl,hM,h=>by
  have:=DF hspecs (ops:=ops) (Q:=QD B Q) (R:=Q .normal) (rest:=[]) (λι σ a w hM h=>⟨ι,σ,hM,h⟩) l s ι σ a w (λj _=>hl j) hM h;simpa using this
 |(n,ann)::segs,l,s,ι,σ,a,w,hl,hM,h=>by
  obtain⟨I,h1,h2⟩:=h
  have:=DF hspecs (ops:=ops) (Q:=QD B Q) (R:=λτ=>∃x,I x/\wA τ (ann.st x) True) (rest:=List.range' (s+(l.take n).length) (l.drop n).length) (λι' σ' a' w' hM' hx=>by
   obtain⟨x,hx,hm⟩:=hx;obtain⟨ι2,hM2,_⟩:=kY hM' hm;refine FK hspecs segs (l.drop n) (s+(l.take n).length) ι2 _ a' w' (λj=>?_) hM2 (h2 x hx);rw[List.getElem?_drop,hl];by_cases hn:n<=l.length
   .congr 1;simp;omega
   .have e1:l[n+j]? =none:=List.getElem?_eq_none aC;have e2:l[l.length+j]? =none:=List.getElem?_eq_none aC;rw[hl]at e1 e2;rw[e1,show s+(List.take n l).length+j=s+(l.length+j)by simp;omega,e2]) (l.take n) s ι σ a w (λj hj=>by
    rw[<-hl,List.getElem?_take];rw[if_pos (by simp at hj;omega)]) hM h1
  rwa [List.range'_append_1, <-List.length_append,List.take_append_drop]at this
theorem Nz(hspecs:∀g S,assoc C.specs g=some S->Sound C.P g S):∀(c:Code)(σ:St)(Q:Bv->St->Prop)(ι:Nat->Value)(a:Act)(w:World),aI B ι σ a w->VC C c σ Q->c.wp C.P (QD B Q) a w:=by
 intro c
 induction c with
 |skip=>intro σ Q ι a w hM h;exact wp_skip ⟨ι,σ,hM,h⟩
 |label l=>intro σ Q ι a w hM h;exact wp_label ⟨ι,σ,hM,h⟩
 |exit id=>intro σ Q ι a w hM h;exact wp_exit ⟨ι,σ,hM,h⟩
 |ret=>intro σ Q ι a w hM h;exact wp_ret ⟨ι,σ,hM,h⟩
 |goto l=>intro σ Q ι a w hM h;exact h.elim
 |refuse why=>intro σ Q ι a w hM h;exact h.elim
 |scope body ih=>intro σ Q ι a w hM h;exact h.elim
 |rangeFunc f ps x y ihx ihy=>intro σ Q ι a w hM h;exact h.elim
 |region id ops draw=>
  intro σ Q ι a w hM h;cases draw with
  |false=>
   refine(wpIn_wide (n:=0)).1 (wpIn_region ?_);have:=FK hspecs (ops:=ops) (Q:=Q) (P5 C id) ops.toList 0 ι σ a w (λj=>by simp) hM h;rw[List.range_eq_range'];simpa using this
  |true=>
   simp only[VC]at h;split at h
   .rename_i h1 h2 h3;have hs:=U3 h1 h2;refine wp_region_any h3 ?_;refine LR hspecs hs (Q:=QD B Q) (R:=Q .normal) (λι σ a w hM h=>⟨ι,σ,hM,h⟩) (λc a w h=>h) ops.size ops.size _ ι σ a _ (hM.drew (w.drawn+1) (Nat.le_succ _)) h _ a ?_ ?_
    .have hno:∀i,(Array.replicate ops.size false).getD i false=true->False:=by
      intro i hi;by_cases hlt:i<ops.size
      .simp[Array.getD,hlt]at hi
      .simp[Array.getD,hlt]at hi
     exact⟨by simp,by simp,λi hi=>hi,λi o _ hi=>(hno i hi).elim,λi o _ hi=>(hno i hi).elim,λi o _ hi=>(hno i hi).elim,rfl,rfl,λt _=>rfl,λi o _ hi=>(hno i hi).elim⟩
    .unfold oZ;rw[List.filter_eq_self.2]
     .simp
     .intro i hi;by_cases hlt:i<ops.size<;>simp[Array.getD,hlt]
   .exact h.elim
 |seq x y ihx ihy=>
  intro σ Q ι a w hM h;simp only[VC]at h;split at h
  .obtain⟨h,hall⟩:=h;refine wp_seq (wp_mono (ihx σ _ ι a w hM h) ?_);intro e a' w' hq;cases e with
   |normal=>
    obtain⟨ι',σ',hM',x,hx,hm⟩:=hq;show y.wp C.P (QD B Q) a' w';obtain⟨ι2,hM2,_⟩:=kY hM' hm;exact ihy _ Q ι2 a' w' hM2 (hall x hx)
   |exit id=>exact hq
   |ret=>exact hq
   |goto l=>exact hq
   |panic ch=>exact hq
   |outgrown=>exact hq
  .split at h
   .obtain⟨I,h,hall⟩:=h;refine wp_seq (wp_mono (ihx σ _ ι a w hM h) ?_);intro e a' w' hq;cases e with
    |normal=>
     obtain⟨ι',σ',hM',hm⟩:=hq;show y.wp C.P (QD B Q) a' w';obtain⟨x,ι2,hx,hM2⟩:=uH hM' hm;exact ihy _ Q ι2 a' w' hM2 (hall x hx)
    |exit id=>exact hq
    |ret=>exact hq
    |goto l=>exact hq
    |panic ch=>exact hq
    |outgrown=>exact hq
   .refine wp_seq (wp_mono (ihx σ _ ι a w hM h) ?_);intro e a' w' hq;cases e with
    |normal=>
     obtain⟨ι',σ',hM',h'⟩:=hq;show y.wp C.P (QD B Q) a' w';exact ihy σ' Q ι' a' w' hM' h'
    |exit id=>exact hq
    |ret=>exact hq
    |goto l=>exact hq
    |panic ch=>exact hq
    |outgrown=>exact hq
 |cond c x y ihx ihy=>
  intro σ Q ι a w hM h;simp only[VC]at h;split at h
  .rename_i t hc;have hev:=hM.ev c;rw[hc]at hev;have hev:a.eval c= .bool t:=hev;rcases qG h with⟨rfl,h⟩|⟨rfl,h⟩
   .exact wp_cond_true hev (ihx _ Q ι a w (hM.setTmp hc) h)
   .exact wp_cond_false hev (ihy _ Q ι a w (hM.setTmp hc) h)
  .exact h.elim
 |block id c ih=>
  intro σ Q ι a w hM h;refine wp_block (wp_mono (ih σ _ ι a w hM h) ?_);intro e a' w' hq;cases e with
  |normal=>exact hq
  |exit i=>
   obtain⟨ι',σ',hM',h'⟩:=hq;show if i=id then _ else _
   simp only at h';split at h'
   .rename_i hb;rw[if_pos (Nat.eq_of_beq_eq_true hb)];exact⟨ι',σ',hM',h'⟩
   .rename_i hb;rw[if_neg (λe=>by subst e;simp at hb)];exact⟨ι',σ',hM',h'⟩
  |ret=>exact hq
  |goto l=>exact hq
  |panic ch=>exact hq
  |outgrown=>exact hq
 |loop c ih=>
  intro σ Q ι a w hM h;simp only[VC]at h;split at h
  .rename_i l hl;obtain⟨⟨x,hx,hm⟩,hall⟩:=h;obtain⟨ι2,hM2,_⟩:=kY hM hm;refine wp_loop_ghost (λn a w=>∃x ι,l.inv x/\l.mu x=n/\aI B ι (l.st x) a w) (l.mu x) ⟨x,ι2,hx,rfl,hM2⟩ ?_;rintro n a' w' ⟨x',ι',hx',rfl,hM'⟩;refine wp_mono (ih _ _ ι' a' w' hM' (hall x' hx')) ?_;intro e a'' w'' hq;cases e with
   |normal=>
    obtain⟨ι3,σ3,hM3,y,hy,hlt,hmy⟩:=hq;obtain⟨ι4,hM4,_⟩:=kY hM3 hmy;exact⟨l.mu y,hlt,y,ι4,hy,rfl,hM4⟩
   |exit id=>exact hq
   |ret=>exact hq
   |goto l=>exact hq
   |panic ch=>exact hq
   |outgrown=>exact hq
  .split at h
   .rename_i l hl;obtain⟨I,mu,hm,hall⟩:=h;obtain⟨x,ι2,hx,hM2⟩:=uH hM hm;refine wp_loop_ghost (λn a w=>∃x ι,I x/\mu x=n/\aI B ι (l.st x) a w) (mu x) ⟨x,ι2,hx,rfl,hM2⟩ ?_;rintro n a' w' ⟨x',ι',hx',rfl,hM'⟩;refine wp_mono (ih _ _ ι' a' w' hM' (hall x' hx')) ?_;intro e a'' w'' hq;cases e with
    |normal=>
     obtain⟨ι3,σ3,hM3,hmy⟩:=hq;obtain⟨y,ι4,hy,hlt,hM4⟩:=Hp hM3 hmy;exact⟨mu y,hlt,y,ι4,hy,rfl,hM4⟩
    |exit id=>exact hq
    |ret=>exact hq
    |goto l=>exact hq
    |panic ch=>exact hq
    |outgrown=>exact hq
   .exact h.elim
end
end Go.Vc
namespace Go.Vc
open Go
section
variable{B:oH}{C:Ctx}{ι:Nat->Value}{σ:St}{a:Act}{w:World}
def F9(tmps:Array Value):ResultVar->Sem Value
 |.tmp t=>pure (tmps.getD t undef)
 |.cell a t=>do loadVar t (<-asAddr (tmps.getD a undef))
theorem IG(fn:Func)(tmps:Array Value):results fn tmps=(do let vs <-fn.results.mapM (F9 tmps);pure (if h:vs.size=1 then vs[0]else .tuple vs)):=by
 unfold results;congr 1
theorem NW(hM:aI B ι σ a w){r:ResultVar}{x:SV}(h:Sg C σ r=some x):∃v,(F9 a.tmps r).run C.P w= .ok v w/\Den ι x v:=by
 cases r with
 |tmp t=>
  simp only[Sg,Option.some.injEq]at h;subst h;exact⟨_,rfl,hM.ev (.tmp t)⟩
 |cell ad T=>
  have hev:=hM.ev (.tmp ad);simp only[Sg]at h;split at h
  .rename_i k off hx;rw[hx]at hev;split at h
   .rename_i p T' cs hk;split at h
    .rename_i hle hT;have hle:=Nat.le_of_ble_eq_true hle;simp only[Option.some.injEq]at h;subst h;obtain⟨b,vs,hι,hh,hd⟩:=sI hM hk;obtain⟨b',hb',hp⟩:=hev;rw[hι]at hb';simp only[Value.pointer.injEq,Option.some.injEq,Addr.mk.injEq]at hb';obtain⟨rfl, -, -⟩:=hb';have hd':=(hd.drop off).take (C.P.cellsOf T);have hvs:cs.length=vs.toList.length:=hd.length;have hl:=uG (w:=w) (b:=b) (off:=off) (cs:=(vs.toList.drop off).take (C.P.cellsOf T)) hT (by simp at hvs⊢;omega) (λj v hv=>by rw[cell_of_heap hh];exact sF hv);refine⟨_,?_,D0 hd'⟩;have hp':a.tmps.getD ad undef= .pointer (some ⟨b,off,none⟩):=hp;simp only[F9,hp',asAddr,Sem.run_bind,Sem.run_pure,Result.andThen_ok,hl]
    .cases h
   .cases h
  .cases h
theorem Ej(hM:aI B ι σ a w):∀(l:List ResultVar)(xs:List SV),DI C σ l=some xs->∃vs,(l.mapM (F9 a.tmps)).run C.P w= .ok vs w/\DenS ι xs vs
 |[],xs,h=>by
  simp[DI]at h;subst h;exact⟨[],by simp,trivial⟩
 |r::l,xs,h=>by
  simp only[DI]at h;split at h
  .rename_i x xs' hx hxs;simp only[Option.some.injEq]at h;subst h;obtain⟨v,hv,hd⟩:=NW hM hx;obtain⟨vs,hvs,hds⟩:=Ej hM l xs' hxs;exact⟨v::vs,by simp[List.mapM_cons,hv,hvs],hd,hds⟩
  .cases h
theorem rV(hM:aI B ι σ a w){mv:Bool}:∀(xs:List SV)(ts:List TypeId)(rs:List CV)(vs:List Value),Af C.P σ mv xs ts=some rs->DenS ι xs vs->
 rs.length=vs.length/\(mv=false->rs=vs.map .val)/\∀(i:Nat)(r:CV)(v:Value),rs[i]? =some r->vs[i]? =some v->Dr w r v/\∀b,gH r v=some b->∃k ow,nth σ.own k=some (some ow)/\blk (ι k)=some b
 |[],ts,rs,[],h,_=>by
  simp[Af]at h;subst h;exact⟨rfl,λ_=>rfl,λi r v hr=>by simp at hr⟩
 |[],_,_,_::_,_,hd=>hd.elim
 |x::xs,_,_,[],_,hd=>hd.elim
 |x::xs,ts,rs,v::vs,h,hd=>by
  simp only[Af]at h;split at h
  .cases h
  .rename_i l hl;obtain⟨ih1,ih2,ih3⟩:=rV hM xs ts.tail l vs hl hd.2
   have fin:∀(c0:CV),rs=c0::l->(mv=false->c0= .val v)->Dr w c0 v->(∀b,gH c0 v=some b->∃k ow,nth σ.own k=some (some ow)/\blk (ι k)=some b)->
    rs.length=(v::vs).length/\(mv=false->rs=(v::vs).map .val)/\∀(i:Nat)(r:CV)(u:Value),rs[i]? =some r->(v::vs)[i]? =some u->Dr w r u/\∀b,gH r u=some b->∃k ow,nth σ.own k=some (some ow)/\blk (ι k)=some b:=by
    intro c0 hrs h1 h2 h3;subst hrs;refine⟨by simp[ih1],λhm=>by rw[h1 hm,ih2 hm];rfl,λi r u hr hu=>?_⟩;cases i with
    |zero=>simp at hr hu;subst hr hu;exact⟨h2,h3⟩
    |succ i=>simp only[List.getElem?_cons_succ]at hr hu;exact ih3 i r u hr hu
   split at h
   .split at h
    .rename_i k;have hv:v=ι k:=hd.1;split at h
     .rename_i E sz ys hk;simp only[Option.some.injEq]at h;obtain⟨hr,ho⟩:=nF hM hk;exact fin _ h.symm (λe=>by cases e) ⟨hr,by rw[hv];exact ho⟩ (λb hb=>⟨k,_,hk,by rw[<-hv];exact hb⟩)
     .cases h
    .have hv:v= .slice none 0 0:=hd.1;split at h
     .rename_i E z hE;simp only[Option.some.injEq]at h;refine fin _ h.symm (λe=>by cases e) ⟨DH _,by rw[hv];exact World.ownsRow_nil w 0 E _⟩ (λb hb=>?_);rw[hv]at hb;simp[gH,blk]at hb
     .cases h
    .cases h
   .split at h
    .rename_i u hu;simp only[Option.some.injEq]at h;have hv:=(hd.1).val? hu;exact fin _ h.symm (λ_=>by rw[hv]) hv (λb hb=>by simp[gH]at hb)
    .cases h
theorem KA(hM:aI B ι σ a w){fn:Func}{K:CV->MH->PH->Prop}(h:KB C fn K σ):
 ∃u,(results fn a.tmps).run C.P w= .ok u w/\∃r m' h',K r m' h'/\Dr w r u/\zN B m' h' w/\∀b,gH r u=some b->(B.w0.heap.size<=b\/B.E b)/\m' b=none/\∀i,h' b i=none:=by
 unfold KB at h;split at h
 .exact h.elim
 .rename_i xs hxs;obtain⟨τ',hMτ',h,_⟩:=lB _ _ hM h;obtain⟨τ,hMτ,h,_⟩:=sQ _ _ hMτ' h;split at h
  .exact h.elim
  .rename_i ys hys;obtain⟨vs,hvs,hds⟩:=Ej hMτ _ _ hys
   have hres:(results fn a.tmps).run C.P w= .ok (if h:vs.toArray.size=1 then vs.toArray[0]else .tuple vs.toArray) w:=by
    rw[IG,Array.mapM_eq_mapM_toList];simp[hvs]
   have blocks:∀(rs:List CV)(r:CV)(v:Value),Af C.P τ C.retMove ys fn.resultTypes.toList=some rs->(∃i:Nat,rs[i]? =some r/\vs[i]? =some v)->Dr w r v/\∀b,gH r v=some b->(B.w0.heap.size<=b\/B.E b)/\τ.m b=none/\∀i,τ.h b i=none:=by
    rintro rs r v hrs ⟨i,hr,hv⟩;obtain⟨_,_,h3⟩:=rV hMτ _ _ _ _ hrs hds;obtain⟨h4,h5⟩:=h3 i r v hr hv;refine⟨h4,λb hb=>?_⟩;obtain⟨k,ow,hk,hbk⟩:=h5 b hb;exact hMτ.fresh k ow b hk hbk
   split at h
   .rename_i r hr;obtain⟨hlen,_,_⟩:=rV hMτ _ _ _ _ hr hds;simp at hlen
    obtain⟨v,rfl⟩:∃v,vs=[v]:=by
     match vs,hlen with
     |[v],_=>exact⟨v,rfl⟩
    obtain⟨h4,h5⟩:=blocks _ r v hr ⟨0,rfl,rfl⟩;refine⟨v,by simpa using hres,r,τ.m,τ.h,h,h4,hMτ.wrel,h5⟩
   .rename_i rs hne hrs;split at h
    .exact h.elim
    .rename_i hmv;obtain⟨hlen,hval,_⟩:=rV hMτ _ _ _ _ hrs hds
     have hnl:vs.length≠1:=by
      intro e;rw[e]at hlen
      match rs,hlen with
      |[r],_=>exact hne r rfl
     refine⟨.tuple vs.toArray,by rw[hres,dif_neg (by simpa using hnl)],.tup rs,τ.m,τ.h,h,⟨vs.toArray,rfl,by simpa using hval hmv⟩,hMτ.wrel,λb hb=>by simp[gH]at hb⟩
   .exact h.elim
def Hb(n:Nat)(cvs:List CV)(vs:List Value)(k:Nat):Value:=
 match cvs[k-n]?,vs[k-n]? with
 |some (.lst _ _ _),some v=>v
 |_,_=>.slice none 0 0
theorem mQ{w:World}:∀{cvs:List CV}{vs:List Value},zO w cvs vs->cvs.length=vs.length/\∀(i:Nat)(c:CV)(v:Value),cvs[i]? =some c->vs[i]? =some v->Dr w c v
 |[],[],_=>⟨rfl,λi c v h=>by simp at h⟩
 |c::cs,v::vs,h=>by
  obtain⟨h1,h2⟩:=mQ h.2;refine⟨by simp[h1],λi c' v' hc hv=>?_⟩;cases i with
  |zero=>simp at hc hv;subst hc hv;exact h.1
  |succ i=>simp at hc hv;exact h2 i c' v' hc hv
 |[],_::_,h=>h.elim
 |_::_,[],h=>h.elim
theorem Hj{n:Nat}{all:List CV}{avs:List Value}{w:World}:∀(i:Nat)(cvs:List CV)(vs:List Value),zO w cvs vs->(∀j:Nat,cvs[j]? =all[i+j]?)->(∀j:Nat,vs[j]? =avs[i+j]?)->
 DenS (Hb n all avs) (Di n i cvs) vs
 |i,[],[],_,_,_=>trivial
 |i,c::cvs,v::vs,h,h1,h2=>by
  have ih:=Hj (n:=n) (all:=all) (avs:=avs) (i+1) cvs vs h.2 (λj=>by have:=h1 (j+1);simp only[List.getElem?_cons_succ]at this;rw[this];congr 1;omega) (λj=>by have:=h2 (j+1);simp only[List.getElem?_cons_succ]at this;rw[this];congr 1;omega);cases c with
  |val u=>exact⟨h.1,ih⟩
  |lst E sz xs=>
   refine⟨?_,ih⟩;show v=Hb n all avs (n+i);have e1:=h1 0;have e2:=h2 0;simp at e1 e2;unfold Hb;rw[show n+i-n=i by omega, <-e1, <-e2]
  |tup rs=>exact⟨trivial,ih⟩
 |i,[],_::_,h,_,_=>h.elim
 |i,_::_,[],h,_,_=>h.elim
theorem Fj:∀(cvs:List CV)(k:Nat)(o:Own),nth (uK cvs) k=some (some o)->∃E sz xs,cvs[k]? =some (.lst E sz xs)/\o= .lst E sz xs
 |[],k,o,h=>by simp[uK,nth]at h
 |c::cvs,0,o,h=>by
  cases c<;>simp[uK,nth]at h;rename_i E sz xs;exact⟨E,sz,xs,rfl,h.symm⟩
 |c::cvs,k+1,o,h=>by
  have:nth (uK cvs) k=some (some o):=by cases c<;>simpa[uK,nth]using h
  obtain⟨E,sz,xs,h1,h2⟩:=Fj cvs k o this;exact⟨E,sz,xs,by simpa using h1,h2⟩
theorem LM{ι:Nat->Value}:∀(n:Nat)(vs:List Value),vs.length=n->DenS ι (List.replicate n (.at .junk)) vs
 |0,[],_=>trivial
 |n+1,v::vs,h=>⟨trivial,LM n vs (by simpa using h)⟩
 |0,_::_,h=>by simp at h
 |_+1,[],h=>by simp at h
theorem DenS.append{ι:Nat->Value}:∀{xs xs':List SV}{vs vs':List Value},DenS ι xs vs->DenS ι xs' vs'->DenS ι (xs++xs') (vs++vs')
 |[],_,[],_,_,h'=>by simpa using h'
 |_::_,_,_::_,_,h,h'=>⟨h.1,DenS.append h.2 h'⟩
 |[],_,_::_,_,h,_=>h.elim
 |_::_,_,[],_,h,_=>h.elim
theorem Fi{w:World}{m:MH}{h:PH}{cvs:List CV}{vs:List Value}(n:Nat)(hp:wE w m h cvs vs):
 aI ⟨w,rW m cvs vs,h,[]⟩ (Hb n cvs vs) (entry n cvs m h) {tmps:=vs.toArray++Array.replicate (n-vs.toArray.size) undef,defers:=[]} w:=by
 obtain⟨hlen,hget⟩:=mQ hp.args
 have hown:∀k o,nth (entry n cvs m h).own k=some (some o)->n<=k/\∃E sz xs,cvs[k-n]? =some (.lst E sz xs)/\o= .lst E sz xs/\∃v,vs[k-n]? =some v/\Hb n cvs vs k=v/\Dr w (.lst E sz xs) v:=by
  intro k o hk;simp only[entry]at hk;rw[iY]at hk;by_cases hkn:k<n
  .rw[List.getElem?_append_left (by simpa using hkn)]at hk;simp[hkn]at hk
  .rw[List.getElem?_append_right (by simpa using Nat.le_of_not_lt hkn)]at hk;simp only[List.length_replicate]at hk;rw[<-iY]at hk;obtain⟨E,sz,xs,h1,h2⟩:=Fj cvs (k-n) o hk
   have hlt:k-n<vs.length:=by
    rw[<-hlen];exact(List.getElem?_eq_some_iff.1 h1).1
   have hv:vs[k-n]? =some vs[k-n]:=List.getElem?_eq_getElem hlt;refine⟨aC,E,sz,xs,h1,h2,_,hv,?_,hget _ _ _ h1 hv⟩;unfold Hb;rw[h1,hv]
 refine⟨?_,rfl,?_,?_,?_,?_,?_⟩
 .have h1:=Hj (n:=n) (all:=cvs) (avs:=vs) 0 cvs vs hp.args (λj=>by simp) (λj=>by simp);show DenS _ (Di n 0 cvs++List.replicate (n-cvs.length) (.at .junk)) _;have:(vs.toArray++Array.replicate (n-vs.toArray.size) undef).toList=vs++List.replicate (n-vs.length) undef:=by simp
  rw[this];exact h1.append (LM _ _ (by simp[hlen]))
 .intro k o hk;obtain⟨hkn,E,sz,xs,h1,rfl,v,hv,hι,hok⟩:=hown k o hk;rw[hι];exact hok
 .intro k k' o o' b hk hk' hb hb';obtain⟨hkn,E,sz,xs,h1,rfl,v,hv,hι,hok⟩:=hown k o hk;obtain⟨hkn',E',sz',xs',h1',rfl,v',hv',hι',hok'⟩:=hown k' o' hk';rw[hι]at hb;rw[hι']at hb';have:=hp.sep (k-n) (k'-n) _ _ v v' b h1 hv h1' hv' hb hb';omega
 .intro k o b hk hb;obtain⟨hkn,E,sz,xs,h1,rfl,v,hv,hι,hok⟩:=hown k o hk;rw[hι]at hb;obtain⟨f1,f2⟩:=hp.free (k-n) _ v b h1 hv hb;exact⟨.inr (.inr ⟨k-n,_,v,h1,hv,hb⟩),f1,f2⟩
 .refine⟨rfl,rfl,rfl,Nat.le_refl _,Nat.le_refl _,λ_ _ _=>rfl,hp.hsat,hp.msat,hp.disj,λ_ _ _ h=>h,λ_ _ _=>rfl,λb ob hb=>.inr (.inl (by have hb:m b=some ob:=hb;rw[hb];simp))⟩
 .intro k;unfold Hb;split
  .rename_i E sz xs v h1 h2;exact G4 (hget _ _ _ h1 h2).2
  .rfl
theorem eJ{P:Program}{f:FuncId}{fn:Func}{c:Code}(hf:P.funcs[f]? =some fn)(hb:fn.body=some c)(hname:(fn.name== "runtime.NumGoroutine")=false){S:Spec}
 (hvc:∀cvs m h K,S cvs m h K->∃C:Ctx,C.P=P/\(∀g S,assoc C.specs g=some S->Sound P g S)/\Ab C fn c (entry fn.ntmps cvs m h) K):Sound P f S:=by
 refine⟨⟨fn,hf,by rw[hb];rfl,hname⟩,?_⟩;intro cvs vs m h w K hS hp;obtain⟨C,rfl,hspecs,hv⟩:=hvc cvs m h K hS;refine calls_of_wp hf hb ?_;refine wp_mono (Nz hspecs c _ _ _ _ w (Fi fn.ntmps hp) hv) ?_;intro e a' w' hq
 have key:(∃ι σ,aI ⟨w,rW m cvs vs,h,[]⟩ ι σ a' w'/\KB C fn K σ)->a'.defers=[]/\∃v,(results fn a'.tmps).run C.P w'= .ok v w'/\∃r u m' h',Ending.returned v= .returned u/\K r m' h'/\Dr w' r u/\zN ⟨w,rW m cvs vs,h,[]⟩ m' h' w'/\
  ∀b,gH r u=some b->(w.heap.size<=b\/rW m cvs vs b)/\m' b=none/\∀i,h' b i=none:=by
  rintro⟨ι,σ,hM,hr⟩;obtain⟨u,hu,r,m',h',h1,h2,h3,h4⟩:=KA hM hr;exact⟨hM.defers,u,hu,r,u,m',h',rfl,h1,h2,h3,h4⟩
 cases e with
 |normal=>exact key hq
 |ret=>exact key hq
 |exit id=>obtain⟨_,_,_,h⟩:=hq;exact h.elim
 |goto l=>exact hq.elim
 |panic ch=>exact hq.elim
 |outgrown=>exact hq.elim
theorem TM{P:Program}{f:FuncId}{fn:Func}{c:Code}(hf:P.funcs[f]? =some fn)(hb:fn.body=some c)(hname:(fn.name== "runtime.NumGoroutine")=false){S:Spec}
 (hvc:∀cvs m h K,S cvs m h K->∃C:Ctx,C.P=P/\(∀g S,assoc C.specs g=some S->Sound P g S)/\Ab C fn c (entry fn.ntmps cvs m h) (λr m' h'=>∃m2 h2,(∀b o,m2 b=some o->m' b=some o)/\PH.le h h2/\PH.le h2 h'/\K r m2 h2)):Sound P f S:=by
 have h0:=eJ hf hb hname (S:=λcvs m h K=>∃K',S cvs m h K'/\K=λr m' h'=>∃m2 h2,(∀b o,m2 b=some o->m' b=some o)/\PH.le h h2/\PH.le h2 h'/\K' r m2 h2) (by
  rintro cvs m h K ⟨K',hS,rfl⟩;exact hvc cvs m h K' hS)
 refine⟨h0.1,λcvs vs m h w K hS hp=>?_⟩;refine(h0.2 cvs vs m h w _ ⟨K,hS,rfl⟩ hp).mono ?_;rintro e w' ⟨r,u,m',h',he,⟨m2,h2,k1,k2,k3,hK⟩,hok,hw,hfr⟩
 have hnone:∀b i,h' b i=none->h2 b i=none:=by
  intro b i e;cases e2:h2 b i with
  |none=>rfl
  |some v=>rw[k3.le b i v e2]at e;cases e
 refine⟨r,u,m2,h2,he,hK,hok,?_,λb hb=>?_⟩
 .refine⟨hw.tape,hw.os,hw.output,hw.drawn,hw.size,hw.frame,λb o v e=>hw.hsat b o v (k3.le b o v e),λb o e=>hw.msat b o (k1 b o e),λb o e i=>hnone b i (hw.disj b o (k1 b o e) i),k2.le,λb h1 h2'=>?_,λb o e=>hw.mfr b o (k1 b o e)⟩;funext i;have e:=congrFun (hw.hold b h1 h2') i;show h2 b i=h b i;cases e2:h b i with
  |some v=>exact(k2.le b i v e2)
  |none=>exact hnone b i (by rw[e];exact e2)
 .obtain⟨f1,f2,f3⟩:=hfr b hb;refine⟨f1,?_,λi=>hnone b i (f3 i)⟩;cases e2:m2 b with
  |none=>rfl
  |some o=>rw[k1 b o e2]at f2;cases f2
def dJ(h:PH)(K:CV->MH->PH->Prop):CV->MH->PH->Prop:=λr m' h'=>(∀b o,m' b=some o->∀i,h' b i=none)->∃m2 h2,(∀b o,m2 b=some o->m' b=some o)/\PH.le h h2/\
 (∀b i v,h2 b i=some v->h' b i=some v\/∃cs E fz,m' b=some (.cells cs E fz)/\cs[i]? =some v/\m2 b=none)/\K r m2 h2
theorem Sound.strong{P:Program}{f:FuncId}{S:Spec}(h0:Sound P f (λcvs m h K=>∃K',S cvs m h K'/\K=dJ h K')):Sound P f S:=by
 refine⟨h0.1,λcvs vs m h w K hS hp=>?_⟩;refine(h0.2 cvs vs m h w _ ⟨K,hS,rfl⟩ hp).mono ?_;rintro e w' ⟨r,u,m',h',he,hStr,hok,hw,hfr⟩;obtain⟨m2,h2,k1,k2,k3,hK⟩:=hStr hw.disj;refine⟨r,u,m2,h2,he,hK,hok,?_,λb hb=>?_⟩
 .refine⟨hw.tape,hw.os,hw.output,hw.drawn,hw.size,hw.frame,λb o v e=>?_,λb o e=>hw.msat b o (k1 b o e),λb o e i=>?_,k2.le,λb h1 h2'=>?_,λb o e=>hw.mfr b o (k1 b o e)⟩
  .rcases k3 b o v e with h3|⟨cs,E,fz,h3,h4,_⟩
   .exact hw.hsat b o v h3
   .rw[cell_of_heap (hw.msat b _ h3),Array.getElem?_toList];exact h4
  .cases e2:h2 b i with
   |none=>rfl
   |some v=>
    rcases k3 b i v e2 with h3|⟨cs,E,fz,h3,h4,h5⟩
    .rw[hw.disj b o (k1 b o e) i]at h3;cases h3
    .rw[h5]at e;cases e
  .funext i;have e:=congrFun (hw.hold b h1 h2') i;show h2 b i=h b i;cases e2:h b i with
   |some v=>exact(k2.le b i v e2)
   |none=>
    cases e3:h2 b i with
    |none=>rfl
    |some v=>
     rcases k3 b i v e3 with h3|⟨cs,E,fz,h3,h4,h5⟩
     .rw[e]at h3;have:h b i=some v:=h3;rw[e2]at this;cases this
     .rcases hw.mfr b _ h3 with h6|h6
      .have h6:w.heap.size<=b:=h6;have h1:b<w.heap.size:=h1;omega
      .exact(h2' h6).elim
 .obtain⟨f1,f2,f3⟩:=hfr b hb;refine⟨f1,?_,λi=>?_⟩
  .cases e2:m2 b with
   |none=>rfl
   |some o=>rw[k1 b o e2]at f2;cases f2
  .cases e2:h2 b i with
   |none=>rfl
   |some v=>
    rcases k3 b i v e2 with h3|⟨cs,E,fz,h3,_,_⟩
    .rw[f3 i]at h3;cases h3
    .rw[f2]at h3;cases h3
theorem TL{P:Program}{f:FuncId}{fn:Func}{c:Code}(hf:P.funcs[f]? =some fn)(hb:fn.body=some c)(hname:(fn.name== "runtime.NumGoroutine")=false){S:Spec}
 (hvc:∀cvs m h K,S cvs m h K->∃C:Ctx,C.P=P/\(∀g S,assoc C.specs g=some S->Sound P g S)/\Ab C fn c (entry fn.ntmps cvs m h) (dJ h K)):Sound P f S:=
 .strong (eJ hf hb hname (S:=λcvs m h K=>∃K',S cvs m h K'/\K=dJ h K') (by
  rintro cvs m h K ⟨K',hS,rfl⟩;exact hvc cvs m h K' hS))
end
end Go.Vc
namespace Go.Vc
open Go
theorem aB{c:Bool}{A B:Prop}(h1:c=true->A)(h2:c=false->B):branch c A B:=by
 cases c
 .exact h2 rfl
 .exact h1 rfl
theorem aE{p:Prop}[Decidable p]{A B:Prop}(h1:p->A)(h2:¬p->B):branch (decide p) A B:=
 aB (λh=>h1 (of_decide_eq_true h)) (λh=>h2 (of_decide_eq_false h))
theorem eB{n:Int}(h1: -9223372036854775808<=n)(h2:n<9223372036854775808):IntKind.i64.wrap n=n:=by
 rw[IntKind.wrap_i64];omega
theorem aL.of_m{m:MH}{h:PH}{b off:Nat}{cs:Array Value}{E:TypeId}{fz:Nat×Nat}{l:List Value}(hm:m b=some (.cells cs E fz))(hl:(cs.toList.drop off).take l.length=l):aL m h b off l:=.lent cs E fz hm hl
end Go.Vc
namespace Go.Ps
open Go Go.Vc Go.Proofs
variable{K:CV->MH->PH->Prop}{m:MH}{h:PH}{ps:List Int}{cb:Nat}{l:List Int}{i:Nat}{N:Nat}{m':MH}{h':PH}{co:List Int}{gr:List Int}{od:List (Int×Bool)}{ta:Int}{li:Int}{xs:List (List Value)}{sz:Nat}{k:Nat}{ks:List (List Int)}{rs:List Int}{r:Sl}{a:List Int}{b:Nat}
structure VV where
 kind:Int
 int:Int
 text:ByteArray
structure OV where
 kind:Int
 index:Int
 value:VV
structure PV where
 op:Int
 cmp:Int
 left:OV
 right:OV
 args:Sl
structure QV where
 op:Int
 table:Int
 where_:PV
 columns:Sl
 on:Sl
 group:Sl
 order:Sl
 limit:Int
 args:Sl
variable{v:QV}
structure mA where
 name:ByteArray
 kind:Int
structure Bz where
 columns:Sl
 table:Int
structure bO where
 name:ByteArray
 columns:Sl
 key:Int
 references:Sl
 checks:Sl
structure bR where
 version:Int
 tables:Sl
variable{sc:bR}
abbrev eN(n:Int):Value:=.int .i64 n
abbrev eC(s:Sl):Value:=.slice s.a s.len s.cap
abbrev uE:Value:=.slice none 0 0
abbrev R9:Value:=.string ⟨⟨[]⟩⟩
abbrev P1(b o:Nat):Value:=.pointer (some ⟨b,o,none⟩)
abbrev eZ(n:Int):At:=.val (.int .i64 n)
abbrev uC(s:Sl):At:=.val (.slice s.a s.len s.cap)
abbrev JW:At:=.val (.slice none 0 0)
abbrev PO:At:=.val (.string ⟨⟨[]⟩⟩)
abbrev fV(n:Int):SV:=.at (.val (.int .i64 n))
abbrev WT(s:Sl):SV:=.at (.val (.slice s.a s.len s.cap))
abbrev Zc:SV:=.at (.val (.slice none 0 0))
abbrev ZK(b o:Nat):SV:=.at (.ptr b o)
abbrev U6(b o:Nat):SV:=.at (.val (.pointer (some ⟨b,o,none⟩)))
abbrev Ze(b:Bool):SV:=.at (.val (.bool b))
abbrev ZL(k:Nat):SV:=.at (.lst k)
abbrev fH(n:Int):CV:=.val (.int .i64 n)
abbrev zR(b:Bool):CV:=.val (.bool b)
abbrev lY(s:Sl):CV:=.val (.slice s.a s.len s.cap)
abbrev Dm:CV:=.val (.slice none 0 0)
abbrev qJ(b o:Nat):CV:=.val (.pointer (some ⟨b,o,none⟩))
abbrev jK(l:List Value):CV:=.val (.agg ⟨l⟩)
abbrev oQ(T:TypeId)(l:List At):Option Go.Vc.Own:=some (.cells T l)
abbrev eQ{α:Type}(x:α):Prop:=x=x
abbrev eP(k:Nat):Prop:=ZK k 0=ZK k 0
abbrev eL(k:Nat):Prop:=ZL k=ZL k
abbrev M7(s:ByteArray):At:=.val (.string s)
abbrev zQ:List At:=[eZ 0,eZ 0,eZ 0,eZ 0,eZ 0,eZ 0,eZ 0,eZ 0,PO,eZ 0,eZ 0,eZ 0,eZ 0,PO,JW,JW,JW,JW,JW,eZ 0,JW]
abbrev zP:List At:=[eZ 0,eZ 0,eZ 0,eZ 0,eZ 0,eZ 0,PO,eZ 0,eZ 0,eZ 0,eZ 0,PO,JW]
def eI(n:Int):List Value:=[.int .i64 n]
def eS(s:Sl):List Value:=[.slice s.a s.len s.cap]
def VV.enc(v:VV):List Value:=[.int .i64 v.kind,.int .i64 v.int,.string v.text]
def OV.enc(o:OV):List Value:=[.int .i64 o.kind,.int .i64 o.index,.int .i64 o.value.kind,.int .i64 o.value.int,.string o.value.text]
def PV.enc(p:PV):List Value:=
 [.int .i64 p.op,.int .i64 p.cmp,
  .int .i64 p.left.kind,.int .i64 p.left.index,.int .i64 p.left.value.kind,.int .i64 p.left.value.int,.string p.left.value.text,
  .int .i64 p.right.kind,.int .i64 p.right.index,.int .i64 p.right.value.kind,.int .i64 p.right.value.int,.string p.right.value.text,
  .slice p.args.a p.args.len p.args.cap]
def QV.enc(q:QV):List Value:=
 [.int .i64 q.op,.int .i64 q.table,
  .int .i64 q.where_.op,.int .i64 q.where_.cmp,
  .int .i64 q.where_.left.kind,.int .i64 q.where_.left.index,.int .i64 q.where_.left.value.kind,.int .i64 q.where_.left.value.int,.string q.where_.left.value.text,
  .int .i64 q.where_.right.kind,.int .i64 q.where_.right.index,.int .i64 q.where_.right.value.kind,.int .i64 q.where_.right.value.int,.string q.where_.right.value.text,
  .slice q.where_.args.a q.where_.args.len q.where_.args.cap,
  .slice q.columns.a q.columns.len q.columns.cap,.slice q.on.a q.on.len q.on.cap,.slice q.group.a q.group.len q.group.cap,.slice q.order.a q.order.len q.order.cap,
  .int .i64 q.limit,.slice q.args.a q.args.len q.args.cap]
def mA.enc(c:mA):List Value:=[.string c.name,.int .i64 c.kind]
def Bz.enc(r:Bz):List Value:=[.slice r.columns.a r.columns.len r.columns.cap,.int .i64 r.table]
def bO.enc(t:bO):List Value:=[.string t.name,.slice t.columns.a t.columns.len t.columns.cap,.int .i64 t.key,.slice t.references.a t.references.len t.references.cap,.slice t.checks.a t.checks.len t.checks.cap]
def bR.enc(s:bR):List Value:=[.int .i64 s.version,.slice s.tables.a s.tables.len s.tables.cap]
abbrev zV:List Value:=[eN 0,eN 0,eN 0,eN 0,eN 0,eN 0,eN 0,eN 0,R9,eN 0,eN 0,eN 0,eN 0,R9,uE,uE,uE,uE,uE,eN 0,uE]
abbrev pQ(p:PV)(r:List At):List At:=eZ p.op::eZ p.cmp::eZ p.left.kind::eZ p.left.index::eZ p.left.value.kind::eZ p.left.value.int::M7 p.left.value.text::eZ p.right.kind::eZ p.right.index::eZ p.right.value.kind::eZ p.right.value.int::M7 p.right.value.text::uC p.args::r
abbrev qQ(q:QV)(x:At):List At:=eZ q.op::eZ q.table::pQ q.where_ [uC q.columns,uC q.on,uC q.group,uC q.order,eZ q.limit,x]
def sY(p:Int×Int):List Value:=[.int .i64 p.1,.int .i64 p.2]
def Cs(p:Int×Bool):List Value:=[.int .i64 p.1,.bool p.2]
def dI:YI:=⟨Int,eI⟩
def dS:YI:=⟨Sl,eS⟩
def dB:YI:=⟨Bool,λb=>[.bool b]⟩
def ZO:YI:=⟨UInt8,λb=>[.int .u8 b.toNat]⟩
def ZC:YI:=⟨ByteArray,λs=>[.string s]⟩
def Wa:Option Nat->Value
 |none=>.nilFunc
 |some f=>.func (.func f) #[] #[]
def dF:YI:=⟨Option Nat,λf=>[Wa f]⟩
structure NV where
 s:bR
 params:Sl
 q:QV
 args:Sl
def NV.enc(n:NV):List Value:=n.s.enc++eS n.params++n.q.enc++eS n.args
def dec:TypeId->YI:=λT=>match T with
 |2=>dI
 |3=>dI
 |4=>dB
 |5=>ZO
 |9=>ZC
 |54=>dI
 |22=>dS
 |23=>dS
 |25=>dS
 |30=>dS
 |33=>dS
 |34=>dS
 |35=>dS
 |36=>dS
 |41=>dS
 |53=>dS
 |74=>dS
 |83=>dS
 |84=>dS
 |133=>dS
 |43=>⟨bR,bR.enc⟩
 |27=>⟨VV,VV.enc⟩
 |29=>⟨OV,OV.enc⟩
 |32=>⟨PV,PV.enc⟩
 |38=>⟨QV,QV.enc⟩
 |86=>⟨bO,bO.enc⟩
 |69=>⟨Int×Int,sY⟩
 |72=>⟨Int×Bool,Cs⟩
 |105=>⟨mA,mA.enc⟩
 |118=>⟨Bz,Bz.enc⟩
 |152=>⟨NV,NV.enc⟩
 |153=>dF
 |229=>dF
 |158=>⟨Nat,λb=>[.func (.func 147) #[] #[.pointer (some ⟨b,0,none⟩)]]⟩
 |177=>⟨Nat,λb=>[.map (some b)]⟩
 |207=>⟨Nat,λb=>[.map (some b)]⟩
 |_=>⟨Unit,λ_=>[]⟩
def dO(f:Func):Code:=match f.body with|some c=>c|none=>.skip
noncomputable def ctx(specs:List (Nat×Vc.Spec))(loops:List (Nat×Iq))(cuts:List (Nat×R3))(moves:List (Nat×List Nat))(retMove:Bool):Ctx:=
 {P:=Tryz.prog,loops2:=[],cuts2:=[],rcuts:=[],heapT:=[],specs:=specs,dec:=dec,loops:=loops,cuts:=cuts,moves:=moves,retMove:=retMove,yield:=none}
noncomputable def dL(specs:List (Nat×Vc.Spec))(loops:List (Nat×oI))(cuts:List (Nat×oI))(moves:List (Nat×List Nat))(retMove:Bool):Ctx:=
 {P:=Tryz.prog,loops2:=loops,cuts2:=cuts,rcuts:=[],heapT:=[],specs:=specs,dec:=dec,loops:=[],cuts:=[],moves:=moves,retMove:=retMove,yield:=none}
noncomputable def ZD(specs:List (Nat×Vc.Spec))(loops:List (Nat×oI))(cuts:List (Nat×oI))(rcuts:List (Nat×List (Nat×oI)))(moves:List (Nat×List Nat))(retMove:Bool):Ctx:=
 {P:=Tryz.prog,loops2:=loops,cuts2:=cuts,rcuts:=rcuts,heapT:=[],specs:=specs,dec:=dec,loops:=[],cuts:=[],moves:=moves,retMove:=retMove,yield:=none}
noncomputable def uM(specs:List (Nat×Vc.Spec))(loops:List (Nat×oI))(cuts:List (Nat×oI))(rcuts:List (Nat×List (Nat×oI)))(heapT:List TypeId)(moves:List (Nat×List Nat))(retMove:Bool):Ctx:=
 {P:=Tryz.prog,loops2:=loops,cuts2:=cuts,rcuts:=rcuts,heapT:=heapT,specs:=specs,dec:=dec,loops:=[],cuts:=[],moves:=moves,retMove:=retMove,yield:=none}
theorem aF:∀g S,assoc ([]:List (Nat×Vc.Spec)) g=some S->Sound Tryz.prog g S:=λg S h=>by simp[assoc]at h
theorem aD{g0:Nat}{S0:Vc.Spec}{r:List (Nat×Vc.Spec)}(h0:Sound Tryz.prog g0 S0)(hr:∀g S,assoc r g=some S->Sound Tryz.prog g S):∀g S,assoc ((g0,S0)::r) g=some S->Sound Tryz.prog g S:=by
 intro g S h;simp only[assoc]at h;split at h
 .rename_i hb;have:=Nat.eq_of_beq_eq_true hb;subst this;simp at h;subst h;exact h0
 .exact hr g S h
def PG(n:Int):List UInt8->Int×List UInt8
 |[]=>(0,[])
 |b::r=>if n<1 then(0,b::r)else((b.toNat:Int)%n,r)
structure R5(m:MH)(h:PH)(cb:Nat)(r:List UInt8):Prop where
 ex:∃(s:Sl)(cs:List UInt8)(k:Nat),m cb=some (.cells #[.slice s.a s.len s.cap,.int .i64 k] 82 (0,0))/\cR h s 1 (aY cs)/\k<=cs.length/\cs.length<=1000/\r=cs.drop k
structure bA(m m':MH)(cb:Nat):Prop where
 other:∀b,b≠cb->m' b=m b
end Go.Ps
namespace Go.Vc
open Go
theorem PH.le.refl(h:PH):PH.le h h:=⟨λ_ _ _ e=>e⟩
theorem PH.le.trans{h h' h'':PH}(a:PH.le h h')(b:PH.le h' h''):PH.le h h'':=⟨λx y v e=>b.le x y v (a.le x y v e)⟩
theorem aX.mono{h h':PH}{b o:Nat}{l:List Value}(r:aX h b o l)(le:PH.le h h'):aX h' b o l:=⟨λi v e=>le.le _ _ _ (r.rd i v e)⟩
theorem cR.mono{h h':PH}{s:Sl}{sz:Nat}{xs:List (List Value)}(r:cR h s sz xs)(le:PH.le h h'):cR h' s sz xs:=
 ⟨r.len,r.row.imp id λ⟨b,o,e,k⟩=>⟨b,o,e,λi x hx=>(k i x hx).mono le⟩,r.cap⟩
theorem cR.get{h:PH}{s:Sl}{sz:Nat}{xs:List (List Value)}(r:cR h s sz xs){i:Nat}{e:List Value}(hi:xs[i]? =some e):
 ∃b o,s.a=some ⟨b,o,none⟩/\aX h b (o+i*sz) e:=by
 rcases r.row with rfl|⟨b,o,ha,k⟩
 .simp at hi
 .exact⟨b,o,ha,k i e hi⟩
theorem dH.blk{m:MH}{s:Sl}{E sz:Nat}{xs:List (List Value)}(h:dH m s E sz xs){b i:Nat}(e:s.a=some ⟨b,i,none⟩):∃cur,m b=some (.cells cur E (0,0)):=by
 rcases h.ex with⟨rfl,_⟩|⟨b',cap,cur,rfl,hm,_⟩
 .cases e
 .simp only[Option.some.injEq,Addr.mk.injEq]at e;rw[<-e.1];exact⟨cur,hm⟩
theorem dH.slen{m:MH}{s:Sl}{E sz:Nat}{xs:List (List Value)}(h:dH m s E sz xs):s.len=xs.length:=by
 rcases h.ex with⟨rfl,rfl⟩|⟨b',cap,cur,rfl,hm,_⟩<;>rfl
theorem dH.keep{m m':MH}{s:Sl}{E sz:Nat}{xs:List (List Value)}(h:dH m s E sz xs)(hk:∀b i,s.a=some ⟨b,i,none⟩->m' b=m b):dH m' s E sz xs:=by
 refine⟨h.rows,?_⟩;rcases h.ex with h1|⟨b,cap,cur,rfl,hm,h2⟩
 .exact .inl h1
 .exact .inr ⟨b,cap,cur,rfl,by rw[hk b 0 rfl];exact hm,h2⟩
theorem cR.nil(h:PH)(sz:Nat):cR h ⟨none,0,0⟩ sz []:=⟨rfl,.inl rfl,Nat.le_refl _⟩
end Go.Vc
namespace Go.Ps
open Go Go.Vc Go.Proofs
variable{K:CV->MH->PH->Prop}{m:MH}{h:PH}{ps:List Int}{cb:Nat}{sc:bR}{v:QV}{l:List Int}{i:Nat}{N:Nat}{m':MH}{h':PH}{co:List Int}{gr:List Int}{od:List (Int×Bool)}{ta:Int}{li:Int}{xs:List (List Value)}{sz:Nat}{k:Nat}{ks:List (List Int)}{rs:List Int}{r:Sl}{a:List Int}{b:Nat}
structure Ints(h:PH)(s:Sl)(l:List Int):Prop where
 row:cR h s 1 (l.map eI)
 len:l.length<=17592186044416
theorem Ints.mono{s:Sl}(r:Ints h s l)(le:PH.le h h'):Ints h' s l:=⟨r.row.mono le,r.len⟩
theorem Ints.slen{s:Sl}(r:Ints h s l):s.len=l.length:=by have:=r.row.len;simpa using this
structure lK(h:PH)(s:Sl)(l:List (Int×Int)):Prop where
 row:cR h s 2 (l.map sY)
 len:l.length<=8796093022208
theorem lK.mono{s:Sl}{l:List (Int×Int)}(r:lK h s l)(le:PH.le h h'):lK h' s l:=⟨r.row.mono le,r.len⟩
theorem lK.slen{s:Sl}{l:List (Int×Int)}(r:lK h s l):s.len=l.length:=by have:=r.row.len;simpa using this
structure iW(h:PH)(s:Sl)(l:List (Int×Bool)):Prop where
 row:cR h s 2 (l.map Cs)
 len:l.length<=8796093022208
theorem iW.mono{s:Sl}{l:List (Int×Bool)}(r:iW h s l)(le:PH.le h h'):iW h' s l:=⟨r.row.mono le,r.len⟩
theorem iW.slen{s:Sl}{l:List (Int×Bool)}(r:iW h s l):s.len=l.length:=by have:=r.row.len;simpa using this
inductive Pred where
 |mk (op cmp:Int) (left right:OV) (args:List Pred)
variable{p:Pred}{w:Pred}
mutual
def fA(h:PH):Pred->PV->Prop
 |.mk op cmp l r args,v=>v.op=op/\v.cmp=cmp/\v.left=l/\v.right=r/\args.length<=502633886983/\∃vs:List PV,cR h v.args 13 (vs.map PV.enc)/\sC h args vs
def sC(h:PH):List Pred->List PV->Prop
 |[],vs=>vs=[]
 |p::ps,vs=>∃v vs',vs=v::vs'/\fA h p v/\sC h ps vs'
end
mutual
theorem fA.mono{h h':PH}(le:PH.le h h'):∀{p:Pred}{v:PV},fA h p v->fA h' p v
 |.mk ..,_,⟨h1,h2,h3,h4,h5,vs,h6,h7⟩=>⟨h1,h2,h3,h4,h5,vs,h6.mono le,sC.mono le h7⟩
theorem sC.mono{h h':PH}(le:PH.le h h'):∀{ps:List Pred}{vs:List PV},sC h ps vs->sC h' ps vs
 |[],_,h=>h
 |_::_,_,⟨v,vs',h1,h2,h3⟩=>⟨v,vs',h1,fA.mono le h2,sC.mono le h3⟩
end
theorem sC.length{h:PH}:∀{ps:List Pred}{vs:List PV},sC h ps vs->vs.length=ps.length
 |[],_,h=>by rw[show _=[]from h];rfl
 |_::_,_,⟨_,_,h1,_,h3⟩=>by rw[h1];simp[sC.length h3]
theorem sC.get{h:PH}:∀{ps:List Pred}{vs:List PV},sC h ps vs->∀{i:Nat}{p:Pred},ps[i]? =some p->∃v,vs[i]? =some v/\fA h p v
 |[],_,_,i,p,e=>by simp at e
 |p0::ps,_,⟨v,vs',rfl,h2,h3⟩,0,p,e=>by simp at e;subst e;exact⟨v,rfl,h2⟩
 |p0::ps,_,⟨v,vs',rfl,h2,h3⟩,i+1,p,e=>by simp at e;simpa using sC.get h3 e
inductive Query where
 |mk (op table:Int) (wher:Pred) (columns:List Int) (on:List (Int×Int)) (group:List Int) (order:List (Int×Bool)) (limit:Int) (args:List Query)
variable{q:Query}
mutual
def dD(h:PH):Query->QV->Prop
 |.mk op table w columns on group order limit args,v=>v.op=op/\v.table=table/\fA h w v.where_/\Ints h v.columns columns/\lK h v.on on/\Ints h v.group group/\iW h v.order order/\v.limit=limit/\
  args.length<=502633886983/\∃vs:List QV,cR h v.args 21 (vs.map QV.enc)/\uN h args vs
def uN(h:PH):List Query->List QV->Prop
 |[],vs=>vs=[]
 |p::ps,vs=>∃v vs',vs=v::vs'/\dD h p v/\uN h ps vs'
end
mutual
theorem dD.mono{h h':PH}(le:PH.le h h'):∀{p:Query}{v:QV},dD h p v->dD h' p v
 |.mk ..,_,⟨h1,h2,h3,h4,h5,h6,h7,h8,h9,vs,h10,h11⟩=>⟨h1,h2,h3.mono le,h4.mono le,h5.mono le,h6.mono le,h7.mono le,h8,h9,vs,h10.mono le,uN.mono le h11⟩
theorem uN.mono{h h':PH}(le:PH.le h h'):∀{ps:List Query}{vs:List QV},uN h ps vs->uN h' ps vs
 |[],_,h=>h
 |_::_,_,⟨v,vs',h1,h2,h3⟩=>⟨v,vs',h1,dD.mono le h2,uN.mono le h3⟩
end
theorem uN.length{h:PH}:∀{ps:List Query}{vs:List QV},uN h ps vs->vs.length=ps.length
 |[],_,h=>by rw[show _=[]from h];rfl
 |_::_,_,⟨_,_,h1,_,h3⟩=>by rw[h1];simp[uN.length h3]
theorem uN.get{h:PH}:∀{ps:List Query}{vs:List QV},uN h ps vs->∀{i:Nat}{p:Query},ps[i]? =some p->∃v,vs[i]? =some v/\dD h p v
 |[],_,_,i,p,e=>by simp at e
 |p0::ps,_,⟨v,vs',rfl,h2,h3⟩,0,p,e=>by simp at e;subst e;exact⟨v,rfl,h2⟩
 |p0::ps,_,⟨v,vs',rfl,h2,h3⟩,i+1,p,e=>by simp at e;simpa using uN.get h3 e
def iv(n:Int):SV:=.at (.val (.int .i64 n))
def sv(s:Sl):SV:=.at (.val (.slice s.a s.len s.cap))
def bv(b:Bool):SV:=.at (.val (.bool b))
def vv(v:Value):SV:=.at (.val v)
def cS(s:Sl):CV:=.val (.slice s.a s.len s.cap)
def cI(n:Int):CV:=.val (.int .i64 n)
def cB(b:Bool):CV:=.val (.bool b)
def cP(b:Nat):CV:=.val (.pointer (some ⟨b,0,none⟩))
def BV(id:Nat)(st:Nat->St)(inv:Nat->Prop)(mu:Nat->Nat):Nat×Iq:=(id,{A:=Nat,st:=st,inv:=inv,mu:=mu})
theorem iM(h:i<=140737488355328):IntKind.i64.wrap ((i:Int)+1)=((i+1:Nat):Int):=by
 rw[eB aC aC];rfl
theorem Ints.at{s:Sl}(r:Ints h s l){x:Int}(hi:l[i]? =some x):∃b o,s.a=some ⟨b,o,none⟩/\aX h b (o+i) [.int .i64 x]:=by
 obtain⟨b,o,h1,h2⟩:=r.row.get (i:=i) (e:=eI x) (by simp[hi]);exact⟨b,o,h1,by simpa[eI]using h2⟩
theorem MT{p:Prop}(h:p:=by repeat' (first|with_reducible rfl|exact trivial|refine⟨?_,?_⟩|rfl|(rw[iM aC];done)|(rw[iM aC]))):p:=h
def eA(k:Int):Bool:=k==3||k==4||k==5
def BO(t:ByteArray):Bool:=t.toList==[]
def gT(v:VV):Bool:=
 if v.kind==1||v.kind==2 then v.int==0&&BO v.text
 else if v.kind==3 then(v.int==0||v.int==1)&&BO v.text
 else if v.kind==4 then BO v.text
 else if v.kind==5 then v.int==0&&(v.text.size:Int)<=64
 else false
def lH(v:VV):Bool:=gT v&&v.kind>=3
def aV(v:VV):CV:=.val (.agg #[.int .i64 v.kind,.int .i64 v.int,.string v.text])
def WD:Vc.Spec:=λcvs m h K=>∃k,cvs=[cI k]/\K (cB (eA k)) m h
def GO:Vc.Spec:=λcvs m h K=>∃v,cvs=[aV v]/\K (cB (gT v)) m h
def LY:Vc.Spec:=λcvs m h K=>∃v,cvs=[aV v]/\K (cB (lH v)) m h
def J7:Vc.Spec:=λcvs m h K=>∃s l,cvs=[cS s]/\Ints h s l/\K (cB (l.all eA)) m h
noncomputable def Xw(s:Sl)(l:List Int)(m:MH)(h:PH):Ctx:=
 ctx [(93,WD)] [BV 2 (λi=>cD 15 16 [(5,sv s),(6,iv s.len),(7,iv i)] [] m h) (λi=>i<=l.length/\(l.take i).all eA=true) (λi=>l.length-i)] [] [] false
noncomputable def VU(s:Sl)(l:List Int)(m:MH)(h:PH):Ctx:=
 ctx [] [BV 2 (λi=>cD 22 23 [(5,sv s),(6,iv s.len),(7,iv i)] [] m h) (λi=>i<=l.length/\(l.take i).all eA=true) (λi=>l.length-i)] [] [] false
abbrev dA(a:Bool)(b:Prop)(c:Bool)(d e:Prop):Prop:=branch a b (branch c d e)
noncomputable abbrev fK:CV:=zR true
attribute [push_cast] dA fK
def Oz(k:Int)(m:MH)(h:PH)(K:CV->MH->PH->Prop):Prop:=
  dA (k==3) (K fK m h) (k==4) (K fK m h) (K (zR (k==5)) m h)
abbrev dR(a b:Int)(c d:Prop):Prop:=branch (a==b) c d
noncomputable abbrev yL(a:VV):List UInt8:=a.text.toList
abbrev CJ(a:CV->MH->PH->Prop)(b:VV)(c:MH)(d:PH):Prop:=a (zR (yL b==[])) c d
noncomputable abbrev aU:CV:=zR false
attribute [push_cast] dR yL CJ aU
def Dh(v:VV)(m:MH)(h:PH)(K:CV->MH->PH->Prop):Prop:=
  dA (v.kind==1) (dR v.int 0 (CJ K v m h) (K aU m h)) (v.kind==2) (dR v.int 0 (CJ K v m h) (K aU m h)) (dA (v.kind==3) (dA (v.int==0) (CJ K v m h) (v.int==1) (CJ K v m h) (K aU m h)) (v.kind==4) (CJ K v m h) (dR v.kind 5 (dR v.int 0 (K (zR (decide ((↑v.text.size:Int)<=64))) m h) (K aU m h)) (K aU m h)))
abbrev hZ(a:Prop)(b:Bool)(c d:Prop):Prop:=a/\branch b c d
noncomputable abbrev vL(a:CV):List CV:=[a]
abbrev fT(a b:CV):Prop:=vL a=vL b
noncomputable abbrev fC(a:VV):CV:=jK a.enc
attribute [push_cast] hZ vL fT fC
def Ls(v:VV)(m:MH)(h:PH)(K:CV->MH->PH->Prop):Prop:=
  ∃(v1:VV),hZ (fT (fC v) (fC v1)) (gT v1) (K (zR (decide (v.kind>=3))) m h) (K aU m h)
abbrev eR(a b:Int)(c d:Prop):Prop:=branch (a !=b) c d
attribute [push_cast] eR
def Lh(v:VV)(m:MH)(h:PH)(K:CV->MH->PH->Prop):Prop:=
  ∃(v1:VV),hZ (fT (fC v) (fC v1)) (gT v1) (eR v.kind 1 (K (zR (v.kind !=2)) m h) (K aU m h)) (K aU m h)
abbrev j2(a:Prop)(b:Nat->Prop):Prop:=a/\∀(x:Nat),b x
abbrev aA(a b c:Prop):Prop:=a/\b/\c
abbrev mD(a:Bool):Prop:=a=true
noncomputable abbrev DO(a:List Int):Bool:=List.all a eA
abbrev vO(a:Nat)(b:List Int):Prop:=a<=b.length/\mD (DO (List.take a b))
abbrev aJ(a:Sl):Prop:=eQ (WT a)
noncomputable abbrev bM(a:Nat):SV:=fV (↑a:Int)
abbrev bJ(a:Sl):Prop:=eQ (bM a.len)
abbrev aZ(a:Nat):Prop:=fV 0=bM a
abbrev bT(a:Prop)(b c:Nat->Nat->Option Value):Prop:=aA a (b=c) True
abbrev aW(a b:Int)(c d:Prop):Prop:=branch (decide (a<b)) c d
noncomputable abbrev aG(a:Sl):Int:=(↑a.len:Int)
abbrev bD(a:Nat->Nat->Prop):Prop:=∃(x x1:Nat),a x x1
abbrev aH(a b c d:Prop):Prop:=aA a b (c/\d)
abbrev bE(a:Option Addr)(b c:Nat):Prop:=a=Option.some (Addr.mk b c Option.none)
noncomputable abbrev fJ(a:Nat)(b:Int)(c:Nat):Nat:=a+b.toNat*c
noncomputable abbrev bF(a b c:Nat):Nat:=fJ a (↑b:Int) c
noncomputable abbrev iR(a:Value):List Value:=[a]
noncomputable abbrev bW(a:Int):List Value:=iR (eN a)
abbrev nR(a b:Int):Prop:=fT (fH a) (fH b)
abbrev tE(a:Int)(b:Int->Prop):Prop:=∃(x:Int),nR a x/\b x
abbrev gV(a:Bool)(b:Prop)(c:Nat->Prop):Prop:=branch a b (∃(x:Nat),c x)
noncomputable abbrev iN(a:Int):Int:=IntKind.wrap IntKind.i64 a
noncomputable abbrev bB(a:Nat)(b:Int):Int:=iN ((↑a:Int)+b)
attribute [push_cast] j2 aA mD DO vO aJ bM bJ aZ bT aW aG bD aH bE fJ bF iR bW nR tE gV iN bB
def OU(s:Sl)(l:List Int)(m:MH)(h:PH)(K:CV->MH->PH->Prop):Prop:=
  j2 (∃(x:Nat),aA (vO x l) (aJ s) (aA (bJ s) (aZ x) (bT (m=m) h h))) (λx=>vO x l->aW (↑x:Int) (aG s) (bD (λb o=>aH (bE s.a b o) (0<=(↑x:Int)) ((↑x:Int)<aG s) (∃(y:Int),aL m h b (bF o x 1) (bW y)/\tE y (λk=>gV (!(eA k)) (K aU m h) (λy1=>aA (vO y1 l) (l.length-y1<l.length-x) (aA (aJ s) (bJ s) (aH (fV (bB x 1)=bM y1) (m=m) (h=h) True))))))) (K fK m h))
def Lw(s:Sl)(l:List Int)(m:MH)(h:PH)(K:CV->MH->PH->Prop):Prop:=
  j2 (∃(x:Nat),aA (vO x l) (aJ s) (aA (bJ s) (aZ x) (bT (m=m) h h))) (λx=>vO x l->aW (↑x:Int) (aG s) (bD (λb o=>aH (bE s.a b o) (0<=(↑x:Int)) ((↑x:Int)<aG s) (∃(y:Int),aL m h b (bF o x 1) (bW y)/\gV (y !=3) (gV (y !=4) (gV (y !=5) (K aU m h) (λy1=>aA (vO y1 l) (l.length-y1<l.length-x) (aA (aJ s) (bJ s) (aH (fV (bB x 1)=bM y1) (m=m) (h=h) True)))) (λy1=>aA (vO y1 l) (l.length-y1<l.length-x) (aA (aJ s) (bJ s) (aH (fV (bB x 1)=bM y1) (m=m) (h=h) True)))) (λy1=>aA (vO y1 l) (l.length-y1<l.length-x) (aA (aJ s) (bJ s) (aH (fV (bB x 1)=bM y1) (m=m) (h=h) True)))))) (K fK m h))
theorem X9(v:VV)(m:MH)(h:PH)(K:CV->MH->PH->Prop):Dh v m h K=Ab (ctx [] [] [] [] false) Tryz.f105 (dO Tryz.f105) (entry Tryz.f105.ntmps [aV v] m h) K:=by kernel_rfl
theorem hP{x y:Bool}(hK:K (cB x) m h)(e:x=y):K (.val (.bool y)) m h:=e▸hK
theorem SM{v:VV}(hK:K (cB (gT v)) m h):Dh v m h K:=by
 dsimp only[Dh,push_cast]
 repeat' (first|(refine aB (λ_=>?_) (λ_=>?_))|(refine hP hK ?_;simp_all [gT,BO]))
theorem iB{f:FuncId}{fn:Func}(hf:Tryz.prog.funcs[f]? =some fn){S:Vc.Spec}(hvc:∀cvs m h K,S cvs m h K->∃C:Ctx,C.P=Tryz.prog/\(∀g S,assoc C.specs g=some S->Sound Tryz.prog g S)/\∃N:Prop,N=Ab C fn (dO fn) (entry fn.ntmps cvs m h) K/\N)(hb:fn.body=some (dO fn):=by rfl)(hname:(fn.name== "runtime.NumGoroutine")=false:=by decide):Sound Tryz.prog f S:=eJ hf hb hname λcvs m h K hS=>let⟨C,hC,hs,N,e,hn⟩:=hvc cvs m h K hS;⟨C,hC,hs,e▸hn⟩
theorem KV:Sound Tryz.prog 93 WD:=by
 refine iB Tryz.func93 ?_;rintro cvs m h K ⟨k,rfl,hK⟩;refine⟨ctx [] [] [] [] false,rfl,aF,Oz k m h K,by kernel_rfl,?_⟩;dsimp only[Oz,push_cast]
 repeat' (first|(refine aB (λ_=>?_) (λ_=>?_))|(refine hP hK ?_;simp_all [eA]))
theorem Rv:Sound Tryz.prog 119 GO:=by
 refine iB Tryz.func119 ?_;rintro cvs m h K ⟨v,rfl,hK⟩;refine⟨ctx [] [] [] [] false,rfl,aF,Dh v m h K,by kernel_rfl,?_⟩;exact SM hK
theorem DX:Sound Tryz.prog 105 GO:=by
 refine eJ (fn:=Tryz.f105) (c:=dO Tryz.f105) Tryz.func105 rfl (by decide) ?_;rintro cvs m h K ⟨v,rfl,hK⟩;refine⟨ctx [] [] [] [] false,rfl,aF,?_⟩;rw[<-X9 v m h K];exact SM hK
theorem QZ:Sound Tryz.prog 164 LY:=by
 refine iB Tryz.func164 ?_;rintro cvs m h K ⟨v,rfl,hK⟩;refine⟨ctx [(119,GO)] [] [] [] false,rfl,aD Rv aF,Ls v m h K,by kernel_rfl,?_⟩;dsimp only[Ls,push_cast];refine⟨v,rfl,?_⟩
 repeat' (first|(refine aB (λ_=>?_) (λ_=>?_))|(refine hP hK ?_;simp_all [lH]))
theorem DU:Sound Tryz.prog 203 LY:=by
 refine iB Tryz.func203 ?_;rintro cvs m h K ⟨v,rfl,hK⟩;refine⟨ctx [(105,GO)] [] [] [] false,rfl,aD DX aF,Lh v m h K,by kernel_rfl,?_⟩;dsimp only[Lh,push_cast];refine⟨v,rfl,?_⟩;refine aB (λh1=>aB (λh2=>hP hK ?_) (λh2=>hP hK ?_)) (λh1=>hP hK ?_)
 .have h2:v.kind≠1:=by simpa using h2
  by_cases h3:v.kind=2
  .simp[lH,h1,h3]
  .have:3<=v.kind:=by
    simp only[gT]at h1
    repeat' split at h1
    all_goals first|(simp_all;done)|skip
    all_goals simp_all
   simp[lH,h1,h3,this]
 .have h2:v.kind=1:=by simpa using h2
  simp[lH,h2]
 .simp[lH,h1]
theorem xD{α:Type}{p:α->Bool}{l:List α}{x:α}(hx:l[i]? =some x):(l.take (i+1)).all p=((l.take i).all p&&p x):=by
 rw[List.take_add_one,List.all_append,hx];simp
theorem yW{α:Type}{p:α->Bool}{l:List α}{x:α}(hx:l[i]? =some x)(hp:p x=false):l.all p=false:=by
 rw[List.all_eq_false];exact⟨x,List.mem_of_getElem? hx,by simp[hp]⟩
theorem KY:Sound Tryz.prog 64 J7:=by
 refine iB Tryz.func64 ?_;rintro cvs m h K ⟨s,l,rfl,hl,hK⟩;refine⟨Xw s l m h,rfl,aD KV aF,OU s l m h K,by kernel_rfl,?_⟩;dsimp only[OU,push_cast];have hs:=hl.slen;have hb:=hl.len;refine⟨⟨0,⟨aC,by simp⟩,rfl,rfl,rfl,rfl,rfl,trivial⟩,λi hi=>aE (λhlt=>?_) (λhge=>?_)⟩
 .obtain⟨x,hx⟩:∃x,l[i]? =some x:=⟨l[i]'(by omega),List.getElem?_eq_getElem _⟩
  obtain⟨b1,o1,e1,r1⟩:=hl.at hx;refine⟨b1,o1,e1,aC,hlt,x,.imm (by simpa using r1),x,rfl,aB (λhc=>hP hK ?_) (λhc=>?_)⟩
  .exact yW hx (by simpa using hc)
  .refine⟨i+1,⟨aC,?_⟩,aC,rfl,rfl,by rw[iM aC],rfl,rfl,trivial⟩;rw[xD hx,hi.2];simpa using hc
 .refine hP hK ?_;have:=hi.2
  rwa [List.take_of_length_le aC]at this
theorem Rk:Sound Tryz.prog 136 J7:=by
 refine iB Tryz.func136 ?_;rintro cvs m h K ⟨s,l,rfl,hl,hK⟩;refine⟨VU s l m h,rfl,aF,Lw s l m h K,by kernel_rfl,?_⟩;dsimp only[Lw,push_cast];have hs:=hl.slen;have hb:=hl.len;refine⟨⟨0,⟨aC,by simp⟩,rfl,rfl,rfl,rfl,rfl,trivial⟩,λi hi=>aE (λhlt=>?_) (λhge=>?_)⟩
 .obtain⟨x,hx⟩:∃x,l[i]? =some x:=⟨l[i]'(by omega),List.getElem?_eq_getElem _⟩
  obtain⟨b1,o1,e1,r1⟩:=hl.at hx;have good:eA x=true->(l.take (i+1)).all eA=true:=λhc=>by rw[xD hx,hi.2,hc];rfl
  refine⟨b1,o1,e1,aC,hlt,x,.imm (by simpa using r1),?_⟩;have next:eA x=true->∃(y:Nat),(y<=l.length/\(l.take y).all eA=true)/\l.length-y<l.length-i/\y=i+1:=λhc=>⟨i+1,⟨aC,good hc⟩,aC,rfl⟩
  repeat' (first|(refine aB (λ_=>?_) (λ_=>?_))|(refine hP hK (yW hx ?_);simp_all [eA];done)|(refine⟨i+1,⟨aC,good (by simp_all [eA])⟩,aC,rfl,rfl,by rw[iM aC],rfl,rfl,trivial⟩))
 .refine hP hK ?_;have:=hi.2
  rwa [List.take_of_length_le aC]at this
def UF(a b:VV):Bool:=a.kind==b.kind&&(a.int==b.int&&(a.text.toList==b.text.toList&&true))
def UG(a b:OV):Bool:=a.kind==b.kind&&(a.index==b.index&&(UF a.value b.value&&true))
theorem j5{f:Field}{fs:List Field}{d:Nat}{xs ys:Array Value}{w:World}{x y:Value}{r r':Bool}(hn:(f.name== "_")=false)(hx:uP Tryz.prog (part f.type xs f.offset)=some x)(hy:uP Tryz.prog (part f.type ys f.offset)=some y)
 (he:(Op.equalIn d f.type x y).run Tryz.prog w= .ok r w)(hr:(Op.eqFields d xs ys fs).run Tryz.prog w= .ok r' w):(Op.eqFields d xs ys (f::fs)).run Tryz.prog w= .ok (r&&r') w:=by
 have hn:f.name≠ "_" :=by simpa using hn
 simp only[Op.eqFields,if_pos hn,Sem.run_bind,wO _ _ _ hx,wO _ _ _ hy,Result.andThen_ok,he];cases r
 .simp
 .simpa using hr
noncomputable def Ke(t k:Nat):Field:=(Tryz.prog.fieldsOf t).toList.getD k default
theorem SO(a b:VV)(d:Nat)(w:World):(Op.equalIn (d+2) 27 (.agg #[.int .i64 a.kind,.int .i64 a.int,.string a.text]) (.agg #[.int .i64 b.kind,.int .i64 b.int,.string b.text])).run Tryz.prog w= .ok (UF a b) w:=by
 rw[run_equalIn_struct w (d+1) 27 _ _ (by kernel_rfl) (by kernel_rfl),show(Tryz.prog.fieldsOf 27).toList=[Ke 27 0,Ke 27 1,Ke 27 2]by kernel_rfl];refine j5 (x:=.int .i64 a.kind) (y:=.int .i64 b.kind) (by kernel_rfl) (by kernel_rfl) (by kernel_rfl) (run_equalIn_int w d _ .i64 .i64 _ _ (by kernel_rfl)) ?_;refine j5 (x:=.int .i64 a.int) (y:=.int .i64 b.int) (by kernel_rfl) (by kernel_rfl) (by kernel_rfl) (run_equalIn_int w d _ .i64 .i64 _ _ (by kernel_rfl)) ?_;refine j5 (x:=.string a.text) (y:=.string b.text) (by kernel_rfl) (by kernel_rfl) (by kernel_rfl) (run_equalIn_string w d _ _ _ (by kernel_rfl)) ?_;simp[Op.eqFields]
theorem Ya(a b:OV)(d:Nat)(w:World):(Op.equalIn (d+3) 29 (.agg #[.int .i64 a.kind,.int .i64 a.index,.int .i64 a.value.kind,.int .i64 a.value.int,.string a.value.text]) (.agg #[.int .i64 b.kind,.int .i64 b.index,.int .i64 b.value.kind,.int .i64 b.value.int,.string b.value.text])).run Tryz.prog w= .ok (UG a b) w:=by
 rw[run_equalIn_struct w (d+2) 29 _ _ (by kernel_rfl) (by kernel_rfl),show(Tryz.prog.fieldsOf 29).toList=[Ke 29 0,Ke 29 1,Ke 29 2]by kernel_rfl];refine j5 (x:=.int .i64 a.kind) (y:=.int .i64 b.kind) (by kernel_rfl) (by kernel_rfl) (by kernel_rfl) (run_equalIn_int w (d+1) _ .i64 .i64 _ _ (by kernel_rfl)) ?_;refine j5 (x:=.int .i64 a.index) (y:=.int .i64 b.index) (by kernel_rfl) (by kernel_rfl) (by kernel_rfl) (run_equalIn_int w (d+1) _ .i64 .i64 _ _ (by kernel_rfl)) ?_;refine j5 (x:=.agg #[.int .i64 a.value.kind,.int .i64 a.value.int,.string a.value.text]) (y:=.agg #[.int .i64 b.value.kind,.int .i64 b.value.int,.string b.value.text]) (by kernel_rfl) (by kernel_rfl) (by kernel_rfl) ?_ ?_
 .rw[show(Ke 29 2).type=27 by kernel_rfl];exact SO a.value b.value d w
 .simp[Op.eqFields]
theorem Fg(a b:VV):StructEq Tryz.prog 27 (.agg #[.int .i64 a.kind,.int .i64 a.int,.string a.text]) (.agg #[.int .i64 b.kind,.int .i64 b.int,.string b.text]) (UF a b):=
 ⟨by kernel_rfl,λw=>SO a b 9998 w⟩
theorem yS(a b:OV):StructEq Tryz.prog 29 (.agg #[.int .i64 a.kind,.int .i64 a.index,.int .i64 a.value.kind,.int .i64 a.value.int,.string a.value.text]) (.agg #[.int .i64 b.kind,.int .i64 b.index,.int .i64 b.value.kind,.int .i64 b.value.int,.string b.value.text]) (UG a b):=
 ⟨by kernel_rfl,λw=>Ya a b 9997 w⟩
theorem wK{a b:ByteArray}(h:a.toList=b.toList):a=b:=by
 rw[ByteArray.toList_eq,ByteArray.toList_eq]at h;cases a;cases b;simp only[ByteArray.mk.injEq];exact Array.toList_inj.1 h
theorem SP{a b:VV}:UF a b=true↔a=b:=by
 obtain⟨k,i,t⟩:=a;obtain⟨k',i',t'⟩:=b;simp only[UF,Bool.and_true,Bool.and_eq_true,beq_iff_eq,VV.mk.injEq];exact⟨λ⟨h1,h2,h3⟩=>⟨h1,h2,wK h3⟩,λ⟨h1,h2,h3⟩=>⟨h1,h2,by rw[h3]⟩⟩
theorem Bi{a b:OV}:UG a b=true↔a=b:=by
 obtain⟨k,i,t⟩:=a;obtain⟨k',i',t'⟩:=b;simp only[UG,Bool.and_true,Bool.and_eq_true,beq_iff_eq,OV.mk.injEq,SP]
def zeroV:VV:=⟨0,0,⟨#[]⟩⟩
def dW:OV:=⟨0,0,zeroV⟩
def oV(l:List Int)(o:OV):Int:=if o.index<0||o.index>=l.length|| !UF o.value zeroV then 0 else l.getD o.index.toNat 0
def kindOf(cols params:List Int)(o:OV):Int:=
 if o.kind==3 then(if o.index !=0|| !lH o.value then 0 else o.value.kind)
 else if o.kind==2 then oV params o
 else if o.kind==1 then oV cols o
 else 0
def qP(v:PV):Bool:=v.cmp==0&&UG v.left dW&&UG v.right dW
def aO(o:OV):CV:=.val (.agg #[.int .i64 o.kind,.int .i64 o.index,.int .i64 o.value.kind,.int .i64 o.value.int,.string o.value.text])
def aP(p:PV):CV:=.val (.agg #[.int .i64 p.op,.int .i64 p.cmp,
 .int .i64 p.left.kind,.int .i64 p.left.index,.int .i64 p.left.value.kind,.int .i64 p.left.value.int,.string p.left.value.text,
 .int .i64 p.right.kind,.int .i64 p.right.index,.int .i64 p.right.value.kind,.int .i64 p.right.value.int,.string p.right.value.text,
 .slice p.args.a p.args.len p.args.cap])
def ZM(s t:Sl):CV:=.val (.agg #[.slice s.a s.len s.cap,.slice t.a t.len t.cap])
def Wz:Vc.Spec:=λcvs m h K=>∃v,cvs=[aP v]/\K (cB (qP v)) m h
def Tf:Vc.Spec:=λcvs m h K=>∃s t cols params o,cvs=[cS s,cS t,aO o]/\Ints h s cols/\Ints h t params/\K (cI (kindOf cols params o)) m h
def PT:Vc.Spec:=λcvs m h K=>∃s t cols params o,cvs=[ZM s t,aO o]/\Ints h s cols/\Ints h t params/\K (cI (kindOf cols params o)) m h
abbrev oP(a:Nat)(b c:List Value)(d:Bool):Prop:=StructEq Proofs.Tryz.prog a (Value.agg (Array.mk b)) (Value.agg (Array.mk c)) d
noncomputable abbrev aT(a b:Value)(c:List Value):List Value:=a::b::c
noncomputable abbrev cO:Value:=eN 0
noncomputable abbrev wW:List Value:=iR R9
noncomputable abbrev EI:List Value:=aT cO cO (aT cO cO wW)
attribute [push_cast] oP aT cO wW EI
def Lx(v:PV)(m:MH)(h:PH)(K:CV->MH->PH->Prop):Prop:=
  dR v.cmp 0 (∃(r:Bool),hZ (oP 29 v.left.enc EI r) r (∃(r1:Bool),oP 29 v.right.enc EI r1/\K (zR r1) m h) (K aU m h)) (K aU m h)
noncomputable abbrev o9(a:OV):Int:=a.value.kind
abbrev gK(a b:Int)(c d:Prop):Prop:=branch (decide (a>=b)) c d
noncomputable abbrev tN:List Value:=aT cO cO wW
attribute [push_cast] o9 gK tN
def Df(s t:Sl)(o:OV)(m:MH)(h:PH)(K:CV->MH->PH->Prop):Prop:=
  dA (o.kind==3) (eR o.index 0 (K (fH 0) m h) (∃(v:VV),hZ (fT (fC o.value) (fC v)) (!(lH v)) (K (fH 0) m h) (K (fH (o9 o)) m h))) (o.kind==2) (aW o.index 0 (K (fH 0) m h) (gK o.index (aG t) (K (fH 0) m h) (∃(r:Bool),hZ (oP 27 o.value.enc tN r) (!r) (K (fH 0) m h) (bD (λb o1=>aH (bE t.a b o1) (0<=o.index) (o.index<aG t) (∃(y:Int),aL m h b (fJ o1 o.index 1) (bW y)/\K (fH y) m h)))))) (dR o.kind 1 (aW o.index 0 (K (fH 0) m h) (gK o.index (aG s) (K (fH 0) m h) (∃(r:Bool),hZ (oP 27 o.value.enc tN r) (!r) (K (fH 0) m h) (bD (λb o1=>aH (bE s.a b o1) (0<=o.index) (o.index<aG s) (∃(y:Int),aL m h b (fJ o1 o.index 1) (bW y)/\K (fH y) m h)))))) (K (fH 0) m h))
theorem vG{x y:Int}(hK:K (cI x) m h)(e:x=y):K (.val (.int .i64 y)) m h:=e▸hK
theorem Ints.inb{s:Sl}(r:Ints h s l){n:Int}(h0:0<=n)(h1:n<(l.length:Int)):∃b o,s.a=some ⟨b,o,none⟩/\aX h b (o+n.toNat*1) [.int .i64 (l.getD n.toNat 0)]:=by
 have hx:l[n.toNat]? =some (l.getD n.toNat 0):=by
  rw[List.getD_eq_getElem?_getD,List.getElem?_eq_getElem aC];simp
 obtain⟨b,o,e,r⟩:=r.at hx;exact⟨b,o,e,by simpa using r⟩
theorem SK{s t:Sl}{cols params:List Int}{o:OV}(hs:Ints h s cols)(ht:Ints h t params)(hK:K (cI (kindOf cols params o)) m h):Df s t o m h K:=by
 have es:=hs.slen;have et:=ht.slen;dsimp only[Df,push_cast];refine aB (λh1=>aB (λh2=>vG hK ?_) (λh2=>⟨o.value,rfl,aB (λh3=>vG hK ?_) (λh3=>vG hK ?_)⟩)) (λh1=>aB (λh2=>?_) (λh2=>aB (λh3=>?_) (λh3=>vG hK ?_)))
 .simp_all [kindOf]
 .simp_all [kindOf]
 .simp_all [kindOf]
 .have hk:kindOf cols params o=oV params o:=by simp_all [kindOf]
  rw[hk]at hK;refine aE (λh3=>vG hK ?_) (λh3=>aE (λh4=>vG hK ?_) (λh4=>⟨UF o.value zeroV,Fg o.value zeroV,aB (λh5=>vG hK ?_) (λh5=>?_)⟩))
  .simp[oV,h3]
  .rw[et]at h4;simp[oV,h4]
  .simp only[Bool.not_eq_true']at h5;simp[oV,h5]
  .obtain⟨b,off,e,r⟩:=ht.inb (n:=o.index) aC aC;refine⟨b,off,e,aC,aC,_,.imm r,vG hK ?_⟩;have h4':¬o.index>=params.length:=by omega
   simp only[Bool.not_eq_false']at h5;simp[oV,h3,h4',h5]
 .have hk:kindOf cols params o=oV cols o:=by simp_all [kindOf]
  rw[hk]at hK;refine aE (λh3=>vG hK ?_) (λh3=>aE (λh4=>vG hK ?_) (λh4=>⟨UF o.value zeroV,Fg o.value zeroV,aB (λh5=>vG hK ?_) (λh5=>?_)⟩))
  .simp[oV,h3]
  .rw[es]at h4;simp[oV,h4]
  .simp only[Bool.not_eq_true']at h5;simp[oV,h5]
  .obtain⟨b,off,e,r⟩:=hs.inb (n:=o.index) aC aC;refine⟨b,off,e,aC,aC,_,.imm r,vG hK ?_⟩;have h4':¬o.index>=cols.length:=by omega
   simp only[Bool.not_eq_false']at h5;simp[oV,h3,h4',h5]
 .simp_all [kindOf]
theorem Rp:Sound Tryz.prog 128 Wz:=by
 refine iB Tryz.func128 ?_;rintro cvs m h K ⟨v,rfl,hK⟩;refine⟨ctx [] [] [] [] false,rfl,aF,Lx v m h K,by kernel_rfl,?_⟩;dsimp only[Lx,push_cast];refine aB (λh1=>⟨UG v.left dW,yS v.left dW,aB (λh2=>⟨UG v.right dW,yS v.right dW,hP hK ?_⟩) (λh2=>hP hK ?_)⟩) (λh1=>hP hK ?_)
 all_goals simp_all [qP]
theorem Ro:Sound Tryz.prog 129 Tf:=by
 refine iB Tryz.func129 ?_;rintro cvs m h K ⟨s,t,cols,params,o,rfl,hs,ht,hK⟩;refine⟨ctx [(164,LY)] [] [] [] false,rfl,aD QZ aF,Df s t o m h K,by kernel_rfl,?_⟩;exact SK hs ht hK
theorem QY:Sound Tryz.prog 176 PT:=by
 refine iB Tryz.func176 ?_;rintro cvs m h K ⟨s,t,cols,params,o,rfl,hs,ht,hK⟩;refine⟨ctx [(203,LY)] [] [] [] false,rfl,aD DU aF,Df s t o m h K,by kernel_rfl,?_⟩;exact SK hs ht hK
def Pred.args:Pred->List Pred
 |.mk _ _ _ _ l=>l
mutual
def lR:Pred->Int->Int
 |.mk _ _ _ _ args,n=>jL args (n+1)
def jL:List Pred->Int->Int
 |[],n=>n
 |p::ps,n=>if n<=24 then jL ps (lR p n)else n
end
mutual
def kF:Pred->Nat->Bool
 |.mk _ _ _ _ _,0=>true
 |.mk _ _ _ _ args,n+1=>pF args n
def pF:List Pred->Nat->Bool
 |[],_=>false
 |p::ps,n=>kF p n||pF ps n
end
mutual
theorem Ay:∀(p:Pred)(n:Int),n<=24->n<lR p n/\lR p n<=25
 |.mk _ _ _ _ args,n,h=>by
  have:=Dv args (n+1) aC;simp only[lR];omega
theorem Dv:∀(ps:List Pred)(n:Int),n<=25->n<=jL ps n/\jL ps n<=25
 |[],n,h=>by simp only[jL];omega
 |p::ps,n,h=>by
  simp only[jL];split
  .rename_i h1;have h2:=Ay p n h1;have h3:=Dv ps (lR p n) h2.2;omega
  .omega
end
theorem Mt(ps:List Pred){n:Int}(h:¬n<=24):jL ps n=n:=by
 cases ps
 .simp[jL]
 .simp only[jL,if_neg h]
theorem Fo(n:Nat):∀ps:List Pred,pF ps n=ps.any (kF · n)
 |[]=>by simp[pF]
 |p::ps=>by simp[pF,Fo n ps]
theorem yU{p:Pred}{q:Pred}(h:q∈p.args):SizeOf.sizeOf q<SizeOf.sizeOf p:=by
 cases p with
 |mk op cmp l r args=>
  have:=List.sizeOf_lt_of_mem h;simp only[Pred.args]at this;simp only[Pred.mk.sizeOf_spec];omega
theorem fA.open{v:PV}(r:fA h p v):p.args.length<=502633886983/\v.args.len=p.args.length/\∀(i:Nat)(q:Pred),p.args[i]? =some q->∃b o u,v.args.a=some ⟨b,o,none⟩/\aX h b (o+i*13) (PV.enc u)/\fA h q u:=by
 cases p with
 |mk op cmp l r' args=>
  obtain⟨h1,h2,h3,h4,h5,vs,h6,h7⟩:=r;have hl:=h7.length;refine⟨h5,?_,λi q hq=>?_⟩
  .have:=h6.len;simp at this;simp only[Pred.args];omega
  .obtain⟨u,hu,hr⟩:=h7.get hq;obtain⟨b,o,e,r⟩:=h6.get (i:=i) (e:=PV.enc u) (by simp[hu]);exact⟨b,o,u,e,r,hr⟩
def R1(N:Nat):Vc.Spec:=λcvs m h K=>∃v p k,cvs=[aP v,cI k]/\fA h p v/\SizeOf.sizeOf p<N/\0<=k/\k<=24/\K (cI (lR p k)) m h
def Nq(N:Nat):Vc.Spec:=λcvs m h K=>∃v p,∃k:Nat,cvs=[aP v,cI k]/\fA h p v/\SizeOf.sizeOf p<N/\k<=100/\K (cB (kF p k)) m h
noncomputable def Xc(N:Nat)(v:PV)(p:Pred)(k:Int)(m:MH)(h:PH):Ctx:=
 ctx [(97,R1 N)] [(3,{A:=Nat×Int,st:=λx=>cD 27 29 [(1,iv x.2),(2,.at (.ptr 2 0)),(5,iv x.1)] [(2,.cells 32 (v.enc.map .val))] m h,inv:=λx=>x.1<=p.args.length/\0<=x.2/\x.2<=25/\jL (p.args.drop x.1) x.2=lR p k,mu:=λx=>p.args.length-x.1})] [] [] false
noncomputable def Xb(N:Nat)(v:PV)(p:Pred)(k:Nat)(m:MH)(h:PH):Ctx:=
 ctx [(98,Nq N)] [BV 4 (λi=>cD 23 25 [(1,iv k),(2,.at (.ptr 2 0)),(10,iv v.args.len),(11,iv i)] [(2,.cells 32 (v.enc.map .val))] m h) (λi=>i<=p.args.length/\(p.args.take i).any (kF · (k-1))=false) (λi=>p.args.length-i)] [] [] false
noncomputable abbrev nS(a:Pred):Nat:=a.args.length
abbrev HH(a:Nat×Int)(b:Pred)(c d:Int):Prop:=aH (a.1<=nS b) (0<=a.2) (a.2<=c) (jL (List.drop a.1 b.args) a.2=lR b d)
abbrev cL(a b:Int):Prop:=fV a=fV b
abbrev gC:Prop:=eP 2
noncomputable abbrev xN(a:Nat)(b:List Value):Option Go.Vc.Own:=oQ a (List.map At.val b)
abbrev jU(a:PV):Prop:=eQ (xN 32 a.enc)
abbrev uW(a:PV->Pred->Prop):Prop:=∃(x:PV)(x1:Pred),a x x1
noncomputable abbrev bK(a b:CV):List CV:=a::vL b
noncomputable abbrev cJ(a:CV)(b:Int):List CV:=bK a (fH b)
noncomputable abbrev dX(a:PV):CV:=jK a.enc
abbrev nO(a:Pred)(b:Nat):Prop:=SizeOf.sizeOf a<b
abbrev cG(a:Int):Prop:=0<=a
attribute [push_cast] nS HH cL gC xN jU uW bK cJ dX nO cG
def Ow(N:Nat)(v:PV)(p:Pred)(k:Int)(m:MH)(h:PH)(K:CV->MH->PH->Prop):Prop:=
  (∃(x:Nat×Int),aA (HH x p 25 k) (cL (iN (k+1)) x.2) (aA gC (aZ x.1) (aH (jU v) (m=m) (h=h) True)))/\∀(x:Nat×Int),HH x p 25 k->aW (↑x.1:Int) (aG v.args) (branch (decide (x.2<=24)) (bD (λb o=>aH (bE v.args.a b o) (0<=(↑x.1:Int)) ((↑x.1:Int)<aG v.args) (∃(y:PV),aL m h b (bF o x.1 13) y.enc/\uW (λv1 p1=>∃(k1:Int),aA (cJ (dX y) x.2=cJ (dX v1) k1) (fA h p1 v1) (aA (nO p1 N) (cG k1) (k1<=24/\∃(y1:Nat×Int),aA (HH y1 p 25 k) (nS p-y1.1<nS p-x.1) (aA (cL (lR p1 k1) y1.2) gC (aA (fV (bB x.1 1)=bM y1.1) (jU v) (aA (m=m) (h=h) True))))))))) (K (fH x.2) m h)) (K (fH x.2) m h)
abbrev HI(a:Nat)(b:Pred)(c:Pred->Pred)(d:Nat):Prop:=a<=nS b/\List.any (List.take a b.args) (fun(x:Pred)=>kF (c x) (d-1))=false
abbrev bN(a b:PH):Prop:=a=b/\True
attribute [push_cast] HI bN
def Ov(N:Nat)(v:PV)(p:Pred)(k:Nat)(m:MH)(h:PH)(K:CV->MH->PH->Prop):Prop:=
  dR (↑k:Int) 0 (K fK m h) (j2 (∃(x:Nat),aA (HI x p (λx1=>x1) k) (eQ (bM k)) (aA gC (bJ v.args) (aA (aZ x) (jU v) (aA (m=m) (h=h) True)))) (λx=>HI x p (λx1=>x1) k->aW (↑x:Int) (aG v.args) (bD (λb o=>aH (bE v.args.a b o) (0<=(↑x:Int)) ((↑x:Int)<aG v.args) (∃(y:PV),aL m h b (bF o x 13) y.enc/\uW (λv1 p1=>∃(k1:Nat),aA (cJ (dX y) (iN ((↑k:Int)-1))=cJ (dX v1) (↑k1:Int)) (fA h p1 v1) (aA (nO p1 N) (k1<=100) (gV (kF p1 k1) (K fK m h) (λy1=>aA (HI y1 p (λx1=>x1) k) (nS p-y1<nS p-x) (aA (eQ (bM k)) gC (aA (bJ v.args) (fV (bB x 1)=bM y1) (aA (jU v) (m=m) (bN h h))))))))))) (K aU m h)))
theorem SA:∀N,Sound Tryz.prog 97 (R1 N)
 |0=>by
  refine eJ (fn:=Tryz.f97) (c:=dO Tryz.f97) Tryz.func97 rfl (by decide) ?_;rintro cvs m h K ⟨v,p,k,rfl,hr,hN,_⟩;omega
 |N+1=>by
  refine iB Tryz.func97 ?_;rintro cvs m h K ⟨v,p,k,rfl,hr,hN,h0,h1,hK⟩;refine⟨Xc N v p k m h,rfl,aD (SA N) aF,Ow N v p k m h K,by kernel_rfl,?_⟩;dsimp only[Ow,push_cast];obtain⟨hl,hlen,hget⟩:=hr.open;refine⟨⟨(0,k+1),⟨by simp,by simp;omega,by simp;omega,?_⟩,by rw[eB aC aC],rfl,rfl,rfl,rfl,rfl,trivial⟩,?_⟩
  .cases p;simp[lR,Pred.args]
  rintro⟨i,n⟩ ⟨hi,hn0,hn1,he⟩;simp only at hi hn0 hn1 he;refine aE (λhlt=>aE (λhn=>?_) (λhn=>vG hK ?_)) (λhge=>vG hK ?_)
  .simp only at hlt hn;obtain⟨q,hq⟩:∃q,p.args[i]? =some q:=⟨p.args[i]'(by omega),List.getElem?_eq_getElem _⟩
   obtain⟨b,o,u,ea,hrd,hru⟩:=hget i q hq
   have hd:p.args.drop i=q::p.args.drop (i+1):=by
    rw[List.drop_eq_getElem_cons aC];rw[List.getElem?_eq_getElem aC]at hq;simp at hq;rw[hq]
   have hb:=Ay q n hn;refine⟨b,o,ea,by simp,by simpa using hlt,u,.imm (by simpa using hrd),u,q,n,rfl,hru,?_,hn0,hn,(i+1,lR q n),⟨by simp only;omega,by simp only;omega,by simp only;omega,?_⟩,by simp only;omega,rfl,rfl,by rw[iM aC],rfl,rfl,rfl,trivial⟩
   .have:=yU (List.mem_of_getElem? hq);omega
   .rw[hd,jL,if_pos hn]at he;exact he
  .rw[<-he,Mt _ hn]
  .rw[<-he,List.drop_of_length_le (by simp only at hge;omega)];simp[jL]
theorem Sz:∀N,Sound Tryz.prog 98 (Nq N)
 |0=>by
  refine eJ (fn:=Tryz.f98) (c:=dO Tryz.f98) Tryz.func98 rfl (by decide) ?_;rintro cvs m h K ⟨v,p,k,rfl,hr,hN,_⟩;omega
 |N+1=>by
  refine iB Tryz.func98 ?_;rintro cvs m h K ⟨v,p,k,rfl,hr,hN,h1,hK⟩;refine⟨Xb N v p k m h,rfl,aD (Sz N) aF,Ov N v p k m h K,by kernel_rfl,?_⟩;dsimp only[Ov,push_cast];obtain⟨hl,hlen,hget⟩:=hr.open;refine aB (λhk=>hP hK ?_) (λhk=>?_)
  .have:k=0:=by have:(k:Int)=0:=(by simpa using hk);omega
   subst this;cases p;simp[kF]
  .have hk:k≠0:=by intro e;subst e;simp at hk
   have hdk:kF p k=p.args.any (kF · (k-1)):=by
    obtain⟨k',rfl⟩:∃k',k=k'+1:=⟨k-1,aC⟩
    cases p;simp[kF,Fo,Pred.args]
   rw[hdk]at hK;refine⟨⟨0,⟨aC,by simp⟩,rfl,rfl,rfl,rfl,rfl,rfl,rfl,trivial⟩,λi hi=>aE (λhlt=>?_) (λhge=>hP hK ?_)⟩
   .obtain⟨q,hq⟩:∃q,p.args[i]? =some q:=⟨p.args[i]'(by omega),List.getElem?_eq_getElem _⟩
    obtain⟨b,o,u,ea,hrd,hru⟩:=hget i q hq;refine⟨b,o,ea,aC,hlt,u,.imm (by simpa using hrd),u,q,k-1,?_,hru,?_,aC,aB (λhd=>hP hK ?_) (λhd=>?_)⟩
    .rw[eB aC aC,show((k-1:Nat):Int)=(k:Int)-1 by omega]
    .have:=yU (List.mem_of_getElem? hq);omega
    .rw[List.any_eq_true];exact⟨q,List.mem_of_getElem? hq,hd⟩
    .refine⟨i+1,⟨aC,?_⟩,aC,rfl,rfl,rfl,by rw[iM aC],rfl,rfl,rfl,trivial⟩;rw[List.take_add_one,List.any_append,hi.2,hq];simpa using hd
   .have:=hi.2
    rwa [List.take_of_length_le aC]at this
def Mp(cmp:Int)(l r:OV):Bool:=cmp==0&&UG l dW&&UG r dW
mutual
def jE(cols params:List Int):Pred->Bool
 |.mk op cmp l r args=>
  if op==1||op==2 then Mp cmp l r&&args.length==0
  else if op==3 then args.length==0&&cmp>=1&&cmp<=6&&kindOf cols params l !=0&&kindOf cols params l==kindOf cols params r
  else if op==4||op==5||(op==6&&args.length==1)then Mp cmp l r&&An cols params args
  else false
def An(cols params:List Int):List Pred->Bool
 |[]=>true
 |p::ps=>jE cols params p&&An cols params ps
end
theorem BE(cols params:List Int):∀ps:List Pred,An cols params ps=ps.all (jE cols params)
 |[]=>by simp[An]
 |p::ps=>by simp[An,BE cols params ps]
structure Hy(cols params:List Int)(v:PV)(p:Pred):Prop where
 eq:jE cols params p=(qP v&&p.args.all (jE cols params))
def Nc(N:Nat):Vc.Spec:=λcvs m h K=>∃s t cols params v p,cvs=[cS s,cS t,aP v]/\Ints h s cols/\Ints h t params/\fA h p v/\SizeOf.sizeOf p<N/\K (cB (jE cols params p)) m h
def JX(N:Nat):Vc.Spec:=λcvs m h K=>∃s t cols params v p,cvs=[ZM s t,aP v]/\Ints h s cols/\Ints h t params/\fA h p v/\SizeOf.sizeOf p<N/\K (cB (jE cols params p)) m h
noncomputable def Xa(N:Nat)(s t:Sl)(cols params:List Int)(v:PV)(p:Pred)(m:MH)(h:PH):Ctx:=
 ctx [(99,Nc N),(128,Wz),(129,Tf)] [BV 17 (λi=>cD 84 87 [(0,sv s),(1,sv t),(5,.at (.ptr 5 0)),(70,iv v.args.len),(71,iv i)] [(5,.cells 32 (v.enc.map .val))] m h) (λi=>i<=p.args.length/\(p.args.take i).all (jE cols params)=true) (λi=>p.args.length-i)] [(14,{A:=Unit,st:=λ_=>cD 84 87 [(0,sv s),(1,sv t),(5,.at (.ptr 5 0))] [(5,.cells 32 (v.enc.map .val))] m h,inv:=λ_=>Hy cols params v p})] [] false
noncomputable def VS(N:Nat)(s t:Sl)(cols params:List Int)(v:PV)(p:Pred)(m:MH)(h:PH):Ctx:=
 ctx [(138,JX N),(176,PT)] [BV 18 (λi=>cD 87 89 [(2,.at (.ptr 2 0)),(3,.at (.ptr 3 0)),(76,sv v.args),(77,iv v.args.len),(78,iv i)] [(2,.cells 181 [.val (.slice s.a s.len s.cap),.val (.slice t.a t.len t.cap)]),(3,.cells 32 (v.enc.map .val))] m h) (λi=>i<=p.args.length/\(p.args.take i).all (jE cols params)=true) (λi=>p.args.length-i)] [(15,{A:=Unit,st:=λ_=>cD 87 89 [(2,.at (.ptr 2 0)),(3,.at (.ptr 3 0))] [(2,.cells 181 [.val (.slice s.a s.len s.cap),.val (.slice t.a t.len t.cap)]),(3,.cells 32 (v.enc.map .val))] m h,inv:=λ_=>Hy cols params v p})] [] false
abbrev j3(a:Sl->Sl->Prop):Prop:=∃(x x1:Sl),a x x1
abbrev vB(a:(List Int)->(List Int)->Prop):Prop:=∃(x x1:List Int),a x x1
abbrev Eu(a:List CV)(b:Sl->Sl->OV->List CV)(c:PH)(d:(List Int)->(List Int)->OV->Prop):Prop:=j3 (λx x1=>vB (λx2 x3=>∃(x4:OV),aH (a=b x x1 x4) (Ints c x x2) (Ints c x1 x3) (d x2 x3 x4)))
noncomputable abbrev cW(a:Sl)(b:List CV):List CV:=lY a::b
noncomputable abbrev gL(a:Sl)(b:CV):List CV:=bK (lY a) b
abbrev eE:Prop:=eP 5
abbrev AX(a:Nat)(b:Pred)(c d:List Int):Prop:=a<=nS b/\mD (List.all (List.take a b.args) (jE c d))
attribute [push_cast] j3 vB Eu cW gL eE AX
def Ou(N:Nat)(s t:Sl)(cols params:List Int)(v:PV)(p:Pred)(m:MH)(h:PH)(K:CV->MH->PH->Prop):Prop:=
  dA (v.op==1) (∃(v1:PV),hZ (fT (dX v) (dX v1)) (qP v1) (K (zR (aG v.args==0)) m h) (K aU m h)) (v.op==2) (∃(v1:PV),hZ (fT (dX v) (dX v1)) (qP v1) (K (zR (aG v.args==0)) m h) (K aU m h)) (dA (v.op==3) (Eu (cW s (gL t (jK v.left.enc))) (λs1 t1 o=>cW s1 (gL t1 (jK o.enc))) h (λc p1 o=>dR (aG v.args) 0 (gK v.cmp 1 (branch (decide (v.cmp<=6)) (eR (kindOf c p1 o) 0 (Eu (cW s (gL t (jK v.right.enc))) (λs1 t1 o1=>cW s1 (gL t1 (jK o1.enc))) h (λc1 p2 o1=>K (zR (kindOf c p1 o==kindOf c1 p2 o1)) m h)) (K aU m h)) (K aU m h)) (K aU m h)) (K aU m h))) (v.op==4) (∃(x:Unit),aA (Hy cols params v p) (aJ s) (aA (aJ t) eE (aH (jU v) (m=m) (h=h) True))) (dA (v.op==5) (∃(x:Unit),aA (Hy cols
 params v p) (aJ s) (aA (aJ t) eE (aH (jU v) (m=m) (h=h) True))) (v.op==6) (eR (aG v.args) 1 (K aU m h) (∃(x:Unit),aA (Hy cols params v p) (aJ s) (aA (aJ t) eE (aH (jU v) (m=m) (h=h) True)))) (K aU m h)))/\∀(_:Unit),Hy cols params v p->∃(v1:PV),hZ (fT (dX v) (dX v1)) (!(qP v1)) (K aU m h) (j2 (∃(x:Nat),aA (AX x p cols params) (aJ s) (aA (aJ t) eE (aA (bJ v.args) (aZ x) (aA (jU v) (m=m) (bN h h))))) (λx=>AX x p cols params->aW (↑x:Int) (aG v.args) (bD (λb o=>aH (bE v.args.a b o) (0<=(↑x:Int)) ((↑x:Int)<aG v.args) (∃(y:PV),aL m h b (bF o x 13) y.enc/\j3 (λs1 t1=>vB (λc p1=>uW (λv2 p2=>aA (cW s (gL t (dX y))=cW s1 (gL t1 (dX v2))) (Ints
 h s1 c) (aA (Ints h t1 p1) (fA h p2 v2) (nO p2 N/\gV (!(jE c p1 p2)) (K aU m h) (λy1=>aA (AX y1 p cols params) (nS p-y1<nS p-x) (aA (aJ s) (aJ t) (aA eE (bJ v.args) (aA (fV (bB x 1)=bM y1) (jU v) (bT (m=m) h h))))))))))))) (K fK m h)))
noncomputable abbrev jS(a b:Value):List Value:=aT a b []
noncomputable abbrev eW(a b:At)(c:List At):List At:=a::b::c
noncomputable abbrev pA(a b:At):List At:=eW a b []
abbrev xV(a b:Sl):Prop:=eQ (oQ 181 (pA (uC a) (uC b)))
abbrev gP(a:Prop)(b:Bool)(c d:Prop):Prop:=a->branch b c d
attribute [push_cast] jS eW pA xV gP
def Lu(N:Nat)(s t:Sl)(cols params:List Int)(v:PV)(p:Pred)(m:MH)(h:PH)(K:CV->MH->PH->Prop):Prop:=
  dA (v.op==3) (Eu (bK (jK (jS (eC s) (eC t))) (jK v.left.enc)) (λs1 t1 o=>bK (jK (jS (eC s1) (eC t1))) (jK o.enc)) h (λc p1 o=>Eu (bK (jK (jS (eC s) (eC t))) (jK v.right.enc)) (λs1 t1 o1=>bK (jK (jS (eC s1) (eC t1))) (jK o1.enc)) h (λc1 p2 o1=>dR (aG v.args) 0 (gK v.cmp 1 (branch (decide (v.cmp<=6)) (eR (kindOf c p1 o) 0 (K (zR (kindOf c p1 o==kindOf c1 p2 o1)) m h) (K aU m h)) (K aU m h)) (K aU m h)) (K aU m h)))) (v.op==1) (eR (aG v.args) 0 (K aU m h) (∃(x:Unit),aA (Hy cols params v p) gC (aA (eP 3) (xV s t) (aH (jU v) (m=m) (h=h) True)))) (dA (v.op==2) (eR (aG v.args) 0 (K aU m h) (∃(x:Unit),aA (Hy cols params v p) gC (aA (eP 3) (xV s t) (aH (jU v) (m=m) (h=h) True)))) (v.op==6) (eR
 (aG v.args) 1 (K aU m h) (∃(x:Unit),aA (Hy cols params v p) gC (aA (eP 3) (xV s t) (aH (jU v) (m=m) (h=h) True)))) (dA (v.op==4) (∃(x:Unit),aA (Hy cols params v p) gC (aA (eP 3) (xV s t) (aH (jU v) (m=m) (h=h) True))) (v.op==5) (∃(x:Unit),aA (Hy cols params v p) gC (aA (eP 3) (xV s t) (aH (jU v) (m=m) (h=h) True))) (K aU m h)))/\∀(_:Unit),gP (Hy cols params v p) (v.cmp !=0) (K aU m h) (∃(r:Bool),hZ (oP 29 v.left.enc EI r) (!r) (K aU m h) (∃(r1:Bool),hZ (oP 29 v.right.enc EI r1) (!r1) (K aU m h) (j2 (∃(x:Nat),aA (AX x p cols params) gC (aA (eP 3) (aJ v.args) (aA (bJ v.args) (aZ x) (aA (xV s t) (jU v) (bT (m=m) h h))))) (λx=>AX x p cols params->aW (↑x:Int) (aG
 v.args) (bD (λb o=>aH (bE v.args.a b o) (0<=(↑x:Int)) ((↑x:Int)<aG v.args) (∃(y:PV),aL m h b (bF o x 13) y.enc/\j3 (λs1 t1=>vB (λc p1=>uW (λv1 p2=>aA (bK (jK (jS (eC s) (eC t))) (dX y)=bK (jK (jS (eC s1) (eC t1))) (dX v1)) (Ints h s1 c) (aA (Ints h t1 p1) (fA h p2 v1) (nO p2 N/\gV (!(jE c p1 p2)) (K aU m h) (λy1=>aA (AX y1 p cols params) (nS p-y1<nS p-x) (aA gC (eP 3) (aA (aJ v.args) (bJ v.args) (aA (fV (bB x 1)=bM y1) (xV s t) (aH (jU v) (m=m) (h=h) True))))))))))))) (K fK m h)))))
theorem fA.top{v:PV}(r:fA h p v):p= .mk v.op v.cmp v.left v.right p.args:=by
 cases p with
 |mk op cmp l r' args=>obtain⟨h1,h2,h3,h4,_⟩:=r;simp[Pred.args,h1,h2,h3,h4]
theorem GV{cols params:List Int}{h:PH}{p:Pred}{v:PV}(r:fA h p v):jE cols params p=if v.op==1||v.op==2 then qP v&&p.args.length==0
 else if v.op==3 then p.args.length==0&&v.cmp>=1&&v.cmp<=6&&kindOf cols params v.left !=0&&kindOf cols params v.left==kindOf cols params v.right
 else if v.op==4||v.op==5||(v.op==6&&p.args.length==1)then qP v&&p.args.all (jE cols params)
 else false:=by
 have:=r.top;generalize p.args=xs at this⊢
 subst this;rw[jE,BE];rfl
theorem Ii{n:Nat}{k:Nat}:((n:Int)==(k:Int))=(n==k):=by
 apply Bool.eq_iff_iff.2;rw[beq_iff_eq,beq_iff_eq];omega
theorem Sy:∀N,Sound Tryz.prog 99 (Nc N)
 |0=>by
  refine eJ (fn:=Tryz.f99) (c:=dO Tryz.f99) Tryz.func99 rfl (by decide) ?_;rintro cvs m h K ⟨s,t,cols,params,v,p,rfl,_,_,hr,hN,_⟩;omega
 |N+1=>by
  refine iB Tryz.func99 ?_;rintro cvs m h K ⟨s,t,cols,params,v,p,rfl,hs,ht,hr,hN,hK⟩;refine⟨Xa N s t cols params v p m h,rfl,aD (Sy N) (aD Rp (aD Ro aF)),Ou N s t cols params v p m h K,by kernel_rfl,?_⟩;obtain⟨hl,hlen,hget⟩:=hr.open;have hv:=GV (cols:=cols) (params:=params) hr;have hz:((v.args.len:Int)==0)=(p.args.length==0):=by rw[hlen];exact Ii (k:=0)
  have h1:((v.args.len:Int) !=1)=(p.args.length !=1):=by rw[hlen];simp only[bne];rw[show(1:Int)=((1:Nat):Int)from rfl,Ii]
  dsimp only[Ou,push_cast];refine⟨?_,?_⟩
  .refine aB (λe=>⟨v,rfl,aB (λe2=>hP hK ?_) (λe2=>hP hK ?_)⟩) (λe=>aB (λe1=>⟨v,rfl,aB (λe2=>hP hK ?_) (λe2=>hP hK ?_)⟩) (λe1=>aB (λe2=>⟨s,t,cols,params,v.left,rfl,hs,ht,?_⟩) (λe2=>?_)))
   .rw[hv,hz];simp[e,e2]
   .rw[hv];simp[e,e2]
   .rw[hv,hz];simp[e1,e2]
   .rw[hv];simp[e1,e2]
   .have hv3:jE cols params p=(p.args.length==0&&v.cmp>=1&&v.cmp<=6&&kindOf cols params v.left !=0&&kindOf cols params v.left==kindOf cols params v.right):=by rw[hv];simp[e,e1,e2]
    rw[hv3]at hK;refine aB (λe3=>aB (λe4=>aB (λe5=>aB (λe6=>⟨s,t,cols,params,v.right,rfl,hs,ht,hP hK ?_⟩) (λe6=>hP hK ?_)) (λe5=>hP hK ?_)) (λe4=>hP hK ?_)) (λe3=>hP hK ?_)
    all_goals (rw[hz]at e3;simp only[beq_iff_eq,decide_eq_true_eq,decide_eq_false_iff_not]at*;simp[*])
   .refine aB (λe3=>⟨(),⟨by rw[hv];simp[e,e1,e2,e3]⟩,rfl,rfl,rfl,rfl,rfl,rfl,trivial⟩) (λe3=>aB (λe4=>⟨(),⟨by rw[hv];simp[e,e1,e2,e4]⟩,rfl,rfl,rfl,rfl,rfl,rfl,trivial⟩) (λe4=>aB (λe5=>aB (λe6=>hP hK ?_) (λe6=>⟨(),⟨?_⟩,rfl,rfl,rfl,rfl,rfl,rfl,trivial⟩)) (λe5=>hP hK ?_)))
    .rw[h1]at e6;rw[hv];simp_all
    .rw[h1]at e6;rw[hv];simp_all
    .rw[hv];simp_all
  .intro _ htl;rw[htl.eq]at hK;refine⟨v,rfl,aB (λe=>hP hK ?_) (λe=>?_)⟩
   .simp_all
   .have e:qP v=true:=by simpa using e
    rw[e,Bool.true_and]at hK;refine⟨⟨0,⟨aC,by simp⟩,rfl,rfl,rfl,rfl,rfl,rfl,rfl,rfl,trivial⟩,λi hi=>aE (λhlt=>?_) (λhge=>hP hK ?_)⟩
    .obtain⟨q,hq⟩:∃q,p.args[i]? =some q:=⟨p.args[i]'(by omega),List.getElem?_eq_getElem _⟩
     obtain⟨b,o,u,ea,hrd,hru⟩:=hget i q hq;refine⟨b,o,ea,aC,hlt,u,.imm (by simpa using hrd),s,t,cols,params,u,q,rfl,hs,ht,hru,?_,aB (λhd=>hP hK ?_) (λhd=>?_)⟩
     .have:=yU (List.mem_of_getElem? hq);omega
     .exact yW hq (by simpa using hd)
     .refine⟨i+1,⟨aC,?_⟩,aC,rfl,rfl,rfl,rfl,by rw[iM aC],rfl,rfl,rfl,trivial⟩;rw[xD hq,hi.2];simpa using hd
    .have:=hi.2
     rwa [List.take_of_length_le aC]at this
theorem Pp:∀N,Sound Tryz.prog 138 (JX N)
 |0=>by
  refine eJ (fn:=Tryz.f138) (c:=dO Tryz.f138) Tryz.func138 rfl (by decide) ?_;rintro cvs m h K ⟨s,t,cols,params,v,p,rfl,_,_,hr,hN,_⟩;omega
 |N+1=>by
  refine iB Tryz.func138 ?_;rintro cvs m h K ⟨s,t,cols,params,v,p,rfl,hs,ht,hr,hN,hK⟩;refine⟨VS N s t cols params v p m h,rfl,aD (Pp N) (aD QY aF),Lu N s t cols params v p m h K,by kernel_rfl,?_⟩;obtain⟨hl,hlen,hget⟩:=hr.open;have hv:=GV (cols:=cols) (params:=params) hr;have hz:((v.args.len:Int)==0)=(p.args.length==0):=by rw[hlen];exact Ii (k:=0)
  have hz':((v.args.len:Int) !=0)=(p.args.length !=0):=by simp only[bne];rw[hz]
  have h1:((v.args.len:Int) !=1)=(p.args.length !=1):=by rw[hlen];simp only[bne];rw[show(1:Int)=((1:Nat):Int)from rfl,Ii]
  have hnil:p.args.length=0->p.args.all (jE cols params)=true:=λe=>by rw[List.eq_nil_of_length_eq_zero e];rfl
  dsimp only[Lu,push_cast];refine⟨?_,?_⟩
  .refine aB (λe2=>⟨s,t,cols,params,v.left,rfl,hs,ht,s,t,cols,params,v.right,rfl,hs,ht,?_⟩) (λe2=>aB (λe=>aB (λe3=>hP hK ?_) (λe3=>⟨(),⟨?_⟩,rfl,rfl,rfl,rfl,rfl,rfl,trivial⟩)) (λe=>aB (λe1=>aB (λe3=>hP hK ?_) (λe3=>⟨(),⟨?_⟩,rfl,rfl,rfl,rfl,rfl,rfl,trivial⟩)) (λe1=>aB (λe5=>aB (λe6=>hP hK ?_) (λe6=>⟨(),⟨?_⟩,rfl,rfl,rfl,rfl,rfl,rfl,trivial⟩)) (λe5=>aB (λe3=>⟨(),⟨?_⟩,rfl,rfl,rfl,rfl,rfl,rfl,trivial⟩) (λe3=>aB (λe4=>⟨(),⟨?_⟩,rfl,rfl,rfl,rfl,rfl,rfl,trivial⟩) (λe4=>hP hK ?_))))))
   .have e2':v.op=3:=by simpa using e2
    have hv3:jE cols params p=(p.args.length==0&&v.cmp>=1&&v.cmp<=6&&kindOf cols params v.left !=0&&kindOf cols params v.left==kindOf cols params v.right):=by rw[hv];simp[e2']
    rw[hv3]at hK;refine aB (λe3=>aB (λe4=>aB (λe5=>aB (λe6=>hP hK ?_) (λe6=>hP hK ?_)) (λe5=>hP hK ?_)) (λe4=>hP hK ?_)) (λe3=>hP hK ?_)
    all_goals (rw[hz]at e3;simp only[beq_iff_eq,decide_eq_true_eq,decide_eq_false_iff_not]at*;simp[*])
   .rw[hz']at e3;rw[hv];simp_all
   .rw[hz']at e3;rw[hv];have e3':p.args.length=0:=by simpa using e3
    rw[hnil e3',e3'];simp[e]
   .rw[hz']at e3;rw[hv];simp_all
   .rw[hz']at e3;rw[hv];have e3':p.args.length=0:=by simpa using e3
    rw[hnil e3',e3'];simp[e1]
   .rw[h1]at e6;rw[hv];simp_all
   .rw[h1]at e6;rw[hv];simp_all
   .rw[hv];simp[e,e1,e2,e3]
   .rw[hv];simp[e,e1,e2,e4]
   .rw[hv];simp_all
  .intro _ htl;rw[htl.eq]at hK;refine aB (λe=>hP hK ?_) (λe=>⟨UG v.left dW,yS v.left dW,aB (λe1=>hP hK ?_) (λe1=>⟨UG v.right dW,yS v.right dW,aB (λe2=>hP hK ?_) (λe2=>?_)⟩)⟩)
   .simp_all [qP]
   .simp_all [qP]
   .simp_all [qP]
   .have e:qP v=true:=by simp_all [qP]
    rw[e,Bool.true_and]at hK;refine⟨⟨0,⟨aC,by simp⟩,rfl,rfl,rfl,rfl,rfl,rfl,rfl,rfl,rfl,trivial⟩,λi hi=>aE (λhlt=>?_) (λhge=>hP hK ?_)⟩
    .obtain⟨q,hq⟩:∃q,p.args[i]? =some q:=⟨p.args[i]'(by omega),List.getElem?_eq_getElem _⟩
     obtain⟨b,o,u,ea,hrd,hru⟩:=hget i q hq;refine⟨b,o,ea,aC,hlt,u,.imm (by simpa using hrd),s,t,cols,params,u,q,rfl,hs,ht,hru,?_,aB (λhd=>hP hK ?_) (λhd=>?_)⟩
     .have:=yU (List.mem_of_getElem? hq);omega
     .exact yW hq (by simpa using hd)
     .refine⟨i+1,⟨aC,?_⟩,aC,rfl,rfl,rfl,rfl,by rw[iM aC],rfl,rfl,rfl,rfl,trivial⟩;rw[xD hq,hi.2];simpa using hd
    .have:=hi.2
     rwa [List.take_of_length_le aC]at this
theorem drop_cons{α:Type}{l:List α}{x:α}(h:l[i]? =some x):l.drop i=x::l.drop (i+1):=by
 have hi:i<l.length:=(List.getElem?_eq_some_iff.1 h).1;rw[List.drop_eq_getElem_cons hi];rw[List.getElem?_eq_getElem hi]at h;simp at h;rw[h]
mutual
def kJ:Pred->Nat->Int->Bool×Int
 |.mk _ _ _ _ args,k,b=>if b<1 then(false,b-1)else match k with|0=>(false,b-1)|k+1=>qM args k (b-1)
def qM:List Pred->Nat->Int->Bool×Int
 |[],_,b=>(true,b)
 |p::ps,k,b=>match kJ p k b with|(false,b')=>(false,b')|(true,b')=>qM ps k b'
end
mutual
def UT:Pred->Int
 |.mk _ _ _ _ args=>1+Ea args
def Ea:List Pred->Int
 |[]=>0
 |p::ps=>UT p+Ea ps
end
mutual
theorem Mc:∀p:Pred,1<=UT p
 |.mk _ _ _ _ args=>by have:=BF args;simp only[UT];omega
theorem BF:∀ps:List Pred,0<=Ea ps
 |[]=>by simp[Ea]
 |p::ps=>by have:=Mc p;have:=BF ps;simp only[Ea];omega
end
mutual
theorem KD:∀(p:Pred)(n:Int),n<=24->(n+UT p<=24->lR p n=n+UT p)/\(24<n+UT p->lR p n=25)
 |.mk _ _ _ _ args,n,h=>by
  obtain⟨h1,h2⟩:=IX args (n+1) aC;simp only[lR,UT];exact⟨λe=>by rw[h1 aC];omega,λe=>h2 aC⟩
theorem IX:∀(ps:List Pred)(n:Int),n<=25->(n+Ea ps<=24->jL ps n=n+Ea ps)/\(24<n+Ea ps->jL ps n=25)
 |[],n,h=>by
  simp only[jL,Ea];omega
 |p::ps,n,h=>by
  have h1:=Mc p;have h2:=BF ps;simp only[jL,Ea];by_cases h3:n<=24
  .rw[if_pos h3];have h4:=KD p n h3;have h5:=(Ay p n h3).2;have h6:=IX ps _ h5;by_cases h7:n+UT p<=24
   .have h8:=h4.1 h7;rw[h8]at h6⊢
    exact⟨λe=>by rw[h6.1 aC];omega,λe=>h6.2 aC⟩
   .have h8:=h4.2 aC;rw[h8]at h6⊢
    exact⟨λe=>by omega,λe=>h6.2 aC⟩
  .rw[if_neg h3];omega
end
mutual
theorem FJ:∀(p:Pred)(k:Nat)(b:Int),0<=b->((kJ p k b).1=true↔UT p<=b/\kF p k=false)/\((kJ p k b).1=true->(kJ p k b).2=b-UT p)
 |.mk _ _ _ _ args,k,b,h=>by
  have hp:=BF args;simp only[kJ,UT];by_cases h0:b<1
  .rw[if_pos h0];exact⟨⟨λe=>(by cases e),λe=>aC⟩,λe=>(by cases e)⟩
  .rw[if_neg h0];cases k with
   |zero=>exact⟨⟨λe=>(by cases e),λe=>(by simp[kF]at e)⟩,λe=>(by cases e)⟩
   |succ k=>
    obtain⟨h1,h2⟩:=IB args k (b-1) aC;simp only[kF];refine⟨⟨λe=>?_,λe=>h1.2 ⟨aC,e.2⟩⟩,λe=>by have:=h2 e;omega⟩;have:=h1.1 e;exact⟨aC,this.2⟩
theorem IB:∀(ps:List Pred)(k:Nat)(b:Int),0<=b->((qM ps k b).1=true↔Ea ps<=b/\pF ps k=false)/\((qM ps k b).1=true->(qM ps k b).2=b-Ea ps)
 |[],k,b,h=>by simp[qM,Ea,pF,h]
 |p::ps,k,b,h=>by
  obtain⟨h1,h2⟩:=FJ p k b h;have hp:=BF ps;simp only[qM,Ea,pF];cases e:kJ p k b with
  |mk r b'=>
   rw[e]at h1 h2;cases r with
   |false=>
    refine⟨⟨λe=>(by cases e),λe=>?_⟩,λe=>(by cases e)⟩;have:=h1.2 ⟨aC,(Bool.or_eq_false_iff.1 e.2).1⟩;cases this
   |true=>
    have h3:=h2 rfl;have h1:=h1.1 rfl;simp only at h3;obtain⟨h4,h5⟩:=IB ps k b' aC;refine⟨⟨λe=>?_,λe=>?_⟩,λe=>by have:=h5 e;simp only;omega⟩
    .have:=h4.1 e;exact⟨aC,by rw[h1.2,this.2];rfl⟩
    .exact h4.2 ⟨aC,(Bool.or_eq_false_iff.1 e.2).2⟩
end
def iP(cols params:List Int)(p:Pred):Int:=
 if !cols.all eA|| !params.all eA then 1
 else if lR p 0>24||kF p 8 then 2
 else if !jE cols params p then 50 else 0
theorem Tv(p:Pred):(kJ p 8 24).1= !(decide (lR p 0>24)||kF p 8):=by
 have h1:=(FJ p 8 24 aC).1;have h2:=KD p 0 aC;rw[Bool.eq_iff_iff,h1];simp only[Bool.not_eq_true',Bool.or_eq_false_iff,decide_eq_false_iff_not];refine and_congr_left λ_=>⟨λe=>?_,λe=>?_⟩
 .rw[h2.1 aC];omega
 .by_cases h3:UT p<=24
  .exact h3
  .rw[h2.2 aC]at e;omega
def PE(n:Int):Obj:=.cells #[.int .i64 n] 3 (0,0)
def RW(N:Nat):Vc.Spec:=λcvs m h K=>∃v p,∃k b:Nat,∃n,cvs=[aP v,cI (9-k),cP b]/\fA h p v/\SizeOf.sizeOf p<N/\k<=9/\0<=n/\n<=24/\m b=some (PE n)/\∀m',jQ m m' b (PE (kJ p k n).2)->K (cB (kJ p k n).1) m' h
noncomputable def VT(N:Nat)(v:PV)(p:Pred)(k b:Nat)(n:Int)(m:MH)(h:PH):Ctx:=
 ctx [(137,RW N)] [(5,{A:=Nat×Int×MH,st:=λx=>cD 36 39 [(1,iv (9-k)),(2,vv (.pointer (some ⟨b,0,none⟩))),(23,sv v.args),(24,iv v.args.len),(25,iv x.1)] [] x.2.2 h,inv:=λx=>x.1<=p.args.length/\0<=x.2.1/\x.2.1<=24/\jQ m x.2.2 b (PE x.2.1)/\1<=k/\qM (p.args.drop x.1) (k-1) x.2.1=kJ p k n,mu:=λx=>p.args.length-x.1})] [] [] false
def qD:Vc.Spec:=λcvs m h K=>∃s t v cols params p,cvs=[cS s,cS t,aP v]/\Ints h s cols/\Ints h t params/\fA h p v/\K (cI (iP cols params p)) m h
noncomputable def Xr(N:Nat):Ctx:=ctx [(64,J7),(97,R1 N),(98,Nq N),(99,Nc N)] [] [] [] false
noncomputable def V1(N:Nat):Ctx:=ctx [(136,J7),(137,RW N),(138,JX N)] [] [] [] false
abbrev tD(a:MH)(b:PH)(c d:Nat)(e:Int->Prop):Prop:=∃(x:Int),aL a b c d (bW x)/\e x
abbrev fD(a:(Array Value)->TypeId->Prop):Prop:=∃(x:Array Value)(x1:TypeId),a x x1
noncomputable abbrev dY(a:Array Value)(b:TypeId)(c:Nat):Obj:=Obj.cells a b (c,c)
abbrev dU(a:Nat)(b:Array Value):Prop:=a<b.size
abbrev bC(a b:MH)(c:Nat)(d:List Value)(e:Nat):Prop:=jQ a b c (dY (Array.mk d) e 0)
noncomputable abbrev fF(a:Value)(b:Nat)(c:Array Value):List Value:=a::List.drop b c.toList
abbrev eX(a b:Int)(c d:Prop):Prop:=branch (decide (a>b)) c d
abbrev HJ(a:Nat×Int×MH)(b:Pred)(c:Nat)(d:Int):Prop:=qM (List.drop a.1 b.args) (c-1) a.2.1=kJ b c d
abbrev dG(a:Nat):Prop:=eQ (U6 a 0)
noncomputable abbrev cE(a:List Value)(b:List CV):List CV:=jK a::b
attribute [push_cast] tD fD dY dU bC fF eX HJ dG cE
def Lv(N:Nat)(v:PV)(p:Pred)(k b:Nat)(n:Int)(m:MH)(h:PH)(K:CV->MH->PH->Prop):Prop:=
  tD m h b 0 (λy=>fD (λc E=>aA (pH m b (dY c E 0)) (dU 0 c) (∀(m1:MH),bC m m1 b (fF (eN (iN (y-1))) 1 c) E->tD m1 h b 0 (λy1=>aW y1 0 (K aU m1 h) (eX (9-(↑k:Int)) 8 (K aU m1 h) ((∃(x:Nat×Int×MH),aA (aA (x.1<=nS p) (cG x.2.1) (aA (x.2.1<=24) (bC m x.2.2 b (bW x.2.1) 3) (1<=k/\HJ x p k n))) (eQ (fV (9-(↑k:Int)))) (aA (dG b) (aJ v.args) (aA (bJ v.args) (aZ x.1) (aA (m1=x.2.2) (h=h) True))))/\∀(x:Nat×Int×MH),aA (x.1<=nS p) (cG x.2.1) (aA (x.2.1<=24) (bC m x.2.2 b (bW x.2.1) 3) (1<=k/\HJ x p k n))->aW (↑x.1:Int) (aG v.args) (bD (λb1 o=>aH (bE v.args.a b1 o) (0<=(↑x.1:Int)) ((↑x.1:Int)<aG v.args) (∃(y2:PV),aL x.2.2 h b1 (bF o x.1 13) y2.enc/\uW (λv1 p1=>
 bD (λk1 b2=>∃(n1:Int),aA (cE y2.enc (bK (fH (iN (9-(↑k:Int)+1))) (qJ b 0))=cE v1.enc (bK (fH (9-(↑k1:Int))) (qJ b2 0))) (fA h p1 v1) (aA (nO p1 N) (k1<=9) (aH (cG n1) (n1<=24) (x.2.2 b2=Option.some (dY (Array.mk (bW n1)) 3 0)) (∀(m2:MH),gP (bC x.2.2 m2 b2 (bW (kJ p1 k1 n1).2) 3) (!(kJ p1 k1 n1).1) (K aU m2 h) (∃(y3:Nat×Int×MH),aA (aA (y3.1<=nS p) (cG y3.2.1) (aA (y3.2.1<=24) (bC m y3.2.2 b (bW y3.2.1) 3) (1<=k/\HJ y3 p k n))) (nS p-y3.1<nS p-x.1) (aA (eQ (fV (9-(↑k:Int)))) (dG b) (aA (aJ v.args) (bJ v.args) (aA (fV (bB x.1 1)=bM y3.1) (m2=y3.2.2) (bN h h))))))))))))) (K fK x.2.2 h)))))))
abbrev AP(a:Sl->(List Int)->Prop):Prop:=∃(x:Sl)(x1:List Int),a x x1
abbrev tY(a b:Sl):Prop:=fT (lY a) (lY b)
abbrev Ev(a:Sl)(b:PH)(c:CV->MH->PH->Prop)(d:MH)(e:Prop):Prop:=AP (λx x1=>aA (tY a x) (Ints b x x1) (branch (!(DO x1)) (c (fH 1) d b) e))
attribute [push_cast] AP tY Ev
def OP(N:Nat)(s t:Sl)(v:PV)(m:MH)(h:PH)(K:CV->MH->PH->Prop):Prop:=
  Ev s h K m (Ev t h K m (uW (λv1 p=>∃(k:Int),aA (cJ (dX v) 0=cJ (dX v1) k) (fA h p v1) (aA (nO p N) (cG k) (k<=24/\eX (lR p k) 24 (K (fH 2) m h) (uW (λv2 p1=>∃(k1:Nat),aA (cJ (dX v) 8=cJ (dX v2) (↑k1:Int)) (fA h p1 v2) (aA (nO p1 N) (k1<=100) (branch (kF p1 k1) (K (fH 2) m h) (j3 (λs1 t1=>vB (λc p2=>uW (λv3 p3=>aA (cW s (gL t (dX v))=cW s1 (gL t1 (dX v3))) (Ints h s1 c) (aA (Ints h t1 p2) (fA h p3 v3) (hZ (nO p3 N) (!(jE c p2 p3)) (K (fH 50) m h) (K (fH 0) m h))))))))))))))))
abbrev aR(a b c:Prop):Prop:=a->b->c
attribute [push_cast] aR
def LF(N:Nat)(s t:Sl)(v:PV)(m:MH)(h:PH)(K:CV->MH->PH->Prop):Prop:=
  Ev s h K m (Ev t h K m (∀(b:Nat)(m1:MH),aR (cH m h b) (bC m m1 b (bW 24) 3) (uW (λv1 p=>bD (λk b1=>∃(n:Int),aA (cE v.enc (bK (fH 1) (qJ b 0))=cE v1.enc (bK (fH (9-(↑k:Int))) (qJ b1 0))) (fA h p v1) (aA (nO p N) (k<=9) (aH (cG n) (n<=24) (m1 b1=Option.some (dY (Array.mk (bW n)) 3 0)) (∀(m2:MH),gP (bC m1 m2 b1 (bW (kJ p k n).2) 3) (!(kJ p k n).1) (K (fH 2) m2 h) (j3 (λs1 t1=>vB (λc p1=>uW (λv2 p2=>aA (bK (jK (jS (eC s) (eC t))) (dX v)=bK (jK (jS (eC s1) (eC t1))) (dX v2)) (Ints h s1 c) (aA (Ints h t1 p1) (fA h p2 v2) (hZ (nO p2 N) (!(jE c p1 p2)) (K (fH 50) m2 h) (K (fH 0) m2 h)))))))))))))))
end Go.Ps
namespace Go.Vc
open Go.Ps Go.Proofs
theorem jQ.trans{m m' m'':MH}{b:Nat}{o o':Obj}(h1:jQ m m' b o)(h2:jQ m' m'' b o'):jQ m m'' b o':=⟨h2.at_,λb' hb=>(h2.other b' hb).trans (h1.other b' hb)⟩
end Go.Vc
namespace Go.Ps
open Go Go.Vc Go.Proofs
variable{K:CV->MH->PH->Prop}{m:MH}{h:PH}{ps:List Int}{cb:Nat}{sc:bR}{v:QV}{q:Query}{p:Pred}{l:List Int}{i:Nat}{N:Nat}{m':MH}{h':PH}{co:List Int}{gr:List Int}{od:List (Int×Bool)}{w:Pred}{ta:Int}{li:Int}{xs:List (List Value)}{sz:Nat}{k:Nat}{ks:List (List Int)}{rs:List Int}{r:Sl}{a:List Int}{b:Nat}
theorem Pq:∀N,Sound Tryz.prog 137 (RW N)
 |0=>by
  refine eJ (fn:=Tryz.f137) (c:=dO Tryz.f137) Tryz.func137 rfl (by decide) ?_;rintro cvs m h K ⟨v,p,k,b,n,rfl,hr,hN,_⟩;omega
 |N+1=>by
  refine iB Tryz.func137 ?_;rintro cvs m h K ⟨v,p,k,b,n,rfl,hr,hN,hk,h0,h1,hm,hK⟩;refine⟨VT N v p k b n m h,rfl,aD (Pq N) aF,Lv N v p k b n m h K,by kernel_rfl,?_⟩;dsimp only[Lv,push_cast];obtain⟨hl,hlen,hget⟩:=hr.open;have hw:IntKind.i64.wrap (n-1)=n-1:=eB aC aC;refine⟨n,.of_m hm rfl,_,_,⟨hm⟩,by simp,λm' hu=>?_⟩;rw[hw]at hu;have hu':jQ m m' b (PE (n-1)):=hu;refine⟨n-1,.of_m hu'.at_ rfl,aE (λh2=>?_) (λh2=>aE (λh3=>?_) (λh3=>?_))⟩
  .have e:kJ p k n=(false,n-1):=by cases p;simp only[kJ];rw[if_pos aC]
   rw[e]at hK;exact hK m' hu'
  .have hk0:k=0:=by omega
   subst hk0;have e:kJ p 0 n=(false,n-1):=by cases p;simp only[kJ];rw[if_neg aC]
   rw[e]at hK;exact hK m' hu'
  .refine⟨⟨(0,n-1,m'),⟨by simp,by simp only;omega,by simp only;omega,hu',aC,?_⟩,MT⟩,?_⟩
   .obtain⟨k',rfl⟩:∃k',k=k'+1:=⟨k-1,aC⟩
    cases p;simp only[kJ,List.drop_zero,Pred.args];rw[if_neg aC];rfl
   .rintro⟨i,x,mx⟩ ⟨hi,hx0,hx1,hmx,hk1,he⟩;simp only at hi hx0 hx1 hmx he;refine aE (λhlt=>?_) (λhge=>?_)
    .obtain⟨q,hq⟩:∃q,p.args[i]? =some q:=⟨p.args[i]'(by simp only at hlt;omega),List.getElem?_eq_getElem _⟩
     obtain⟨b1,o,u,ea,hrd,hru⟩:=hget i q hq;have hd:p.args.drop i=q::p.args.drop (i+1):=drop_cons hq;refine⟨b1,o,ea,by simp,by simpa using hlt,u,.imm (by simpa using hrd),u,q,k-1,b,x,?_,hru,?_,aC,hx0,hx1,hmx.at_,λm2 hm2=>?_⟩
     .rw[eB aC aC,show(9-((k-1:Nat):Int))=9-(k:Int)+1 by omega]
     .have:=yU (List.mem_of_getElem? hq);omega
     .have hmt:jQ m m2 b (PE (kJ q (k-1) x).2):=hmx.trans hm2;rw[hd,qM]at he;obtain⟨hs1,hs2⟩:=FJ q (k-1) x hx0;cases e:kJ q (k-1) x with
      |mk r x'=>
       rw[e]at he hmt hs1 hs2;cases r with
       |false=>
        simp only at he;rw[<-he]at hK;exact hK m2 hmt
       |true=>
        have hs3:=hs1.1 rfl;have hs4:=hs2 rfl;have hq1:=Mc q;simp only at hs4 he;exact⟨(i+1,x',m2),⟨by simp only at hlt⊢;omega,by simp only;omega,by simp only;omega,hmt,hk1,he⟩,by simp only at hlt⊢;omega,MT⟩
    .rw[List.drop_of_length_le (by simp only at hge;omega)]at he;simp only[qM]at he;rw[<-he]at hK;exact hK mx hmx
theorem Ge:Sound Tryz.prog 69 qD:=by
 refine iB Tryz.func69 ?_;rintro cvs m h K ⟨s,t,v,cols,params,p,rfl,hs,ht,hr,hK⟩;refine⟨Xr (SizeOf.sizeOf p+1),rfl,aD KY (aD (SA _) (aD (Sz _) (aD (Sy _) aF))),OP (SizeOf.sizeOf p+1) s t v m h K,by kernel_rfl,?_⟩;dsimp only[OP,push_cast];refine⟨s,cols,rfl,hs,aB (λe1=>vG hK ?_) (λe1=>⟨t,params,rfl,ht,aB (λe2=>vG hK ?_) (λe2=>⟨v,p,0,rfl,hr,aC,aC,aC,aB (λe3=>vG hK ?_) (λe3=>⟨v,p,8,rfl,hr,aC,aC,aB (λe4=>vG hK ?_) (λe4=>⟨s,t,cols,params,v,p,rfl,hs,ht,hr,aC,aB (λe5=>vG hK ?_) (λe5=>vG hK ?_)⟩)⟩)⟩)⟩)⟩
 all_goals (simp only[iP];simp only[*,Bool.or_false,Bool.false_or,Bool.or_true,Bool.true_or,Bool.and_true,Bool.true_and,Bool.and_false,Bool.false_and,Bool.not_true,Bool.not_false,Bool.false_eq_true,if_true,if_false, ↓reduceIte])
theorem Fa{f:FuncId}{fn:Func}(hf:Tryz.prog.funcs[f]? =some fn){S:Vc.Spec}(hvc:∀cvs m h K,S cvs m h K->∃C:Ctx,C.P=Tryz.prog/\(∀g S,assoc C.specs g=some S->Sound Tryz.prog g S)/\∃N:Prop,N=Ab C fn (dO fn) (entry fn.ntmps cvs m h) (λr m' h'=>∃m2 h2,(∀b o,m2 b=some o->m' b=some o)/\PH.le h h2/\PH.le h2 h'/\K r m2 h2)/\N)(hb:fn.body=some (dO fn):=by rfl)(hname:(fn.name== "runtime.NumGoroutine")=false:=by decide):Sound Tryz.prog f S:=TM hf hb hname λcvs m h K hS=>let⟨C,hC,hs,N,e,hn⟩:=hvc cvs m h K hS;⟨C,hC,hs,e▸hn⟩
theorem JJ:Sound Tryz.prog 113 qD:=by
 refine Fa Tryz.func113 ?_;rintro cvs m h K ⟨s,t,v,cols,params,p,rfl,hs,ht,hr,hK⟩;refine⟨V1 (SizeOf.sizeOf p+1),rfl,aD Rk (aD (Pq _) (aD (Pp _) aF)),LF (SizeOf.sizeOf p+1) s t v m h (λr m' h'=>∃m2 h2,(∀b o,m2 b=some o->m' b=some o)/\PH.le h h2/\PH.le h2 h'/\K r m2 h2),by kernel_rfl,?_⟩;dsimp only[LF,push_cast];have hK2:∀(m':MH),(∀b o,m b=some o->m' b=some o)->∀x,iP cols params p=x->∃m2 h2,(∀b o,m2 b=some o->m' b=some o)/\PH.le h h2/\PH.le h2 h/\K (.val (.int .i64 x)) m2 h2:=λm' hm x e=>⟨m,h,hm,.refl _,.refl _,e▸hK⟩
 refine⟨s,cols,rfl,hs,aB (λe1=>hK2 m (λ_ _ e=>e) _ ?_) (λe1=>⟨t,params,rfl,ht,aB (λe2=>hK2 m (λ_ _ e=>e) _ ?_) (λe2 b m1 hb hm1=>⟨v,p,8,b,24,rfl,hr,aC,aC,aC,aC,hm1.at_,λm2 hm2=>?_⟩)⟩)⟩
 .simp only[iP];simp only[*,Bool.or_false,Bool.false_or,Bool.or_true,Bool.true_or,Bool.and_true,Bool.true_and,Bool.and_false,Bool.false_and,Bool.not_true,Bool.not_false,Bool.false_eq_true,if_true,if_false, ↓reduceIte]
 .simp only[iP];simp only[*,Bool.or_false,Bool.false_or,Bool.or_true,Bool.true_or,Bool.and_true,Bool.true_and,Bool.and_false,Bool.false_and,Bool.not_true,Bool.not_false,Bool.false_eq_true,if_true,if_false, ↓reduceIte]
 .have hsub:∀b o,m b=some o->m2 b=some o:=λb' o e=>by
   have hne:b'≠b:=λe'=>by rw[e',hb.m_]at e;cases e
   rw[hm2.other b' hne,hm1.other b' hne,e]
  have hsb:=Tv p;refine aB (λe3=>hK2 m2 hsub _ ?_) (λe3=>⟨s,t,cols,params,v,p,rfl,hs,ht,hr,aC,aB (λe5=>hK2 m2 hsub _ ?_) (λe5=>hK2 m2 hsub _ ?_)⟩)
  all_goals (rw[hsb,Bool.not_not]at e3;clear hsb;simp only[iP];simp only[*,Bool.or_false,Bool.false_or,Bool.or_true,Bool.true_or,Bool.and_true,Bool.true_and,Bool.and_false,Bool.false_and,Bool.not_true,Bool.not_false,Bool.false_eq_true,if_true,if_false, ↓reduceIte])
structure bH{α β:Type}(h:PH)(sz:Nat)(enc:β->List Value)(R:α->β->Prop)(s:Sl)(l:List α):Prop where
 ex:∃vs:List β,cR h s sz (vs.map enc)/\l.length=vs.length/\∀(i:Nat)(x:α),l[i]? =some x->∃v,vs[i]? =some v/\R x v
 len:l.length<=502633886983
theorem bH.slen{α β:Type}{enc:β->List Value}{R:α->β->Prop}{s:Sl}{l:List α}(r:bH h sz enc R s l):s.len=l.length:=by
 obtain⟨vs,h1,h2,_⟩:=r.ex;have:=h1.len;simp at this;omega
theorem bH.at{α β:Type}{enc:β->List Value}{R:α->β->Prop}{s:Sl}{l:List α}(r:bH h sz enc R s l){x:α}(hi:l[i]? =some x):
 ∃b o v,s.a=some ⟨b,o,none⟩/\aX h b (o+i*sz) (enc v)/\R x v:=by
 obtain⟨vs,h1,_,h3⟩:=r.ex;obtain⟨v,hv,hr⟩:=h3 i x hi;obtain⟨b,o,e,k⟩:=h1.get (i:=i) (e:=enc v) (by simp[hv]);exact⟨b,o,v,e,k,hr⟩
theorem bH.mono{α β:Type}{enc:β->List Value}{R R':α->β->Prop}{s:Sl}{l:List α}(r:bH h sz enc R s l)(le:PH.le h h')(hR:∀x v,R x v->R' x v):bH h' sz enc R' s l:=by
 obtain⟨vs,h1,h2,h3⟩:=r.ex;exact⟨⟨vs,h1.mono le,h2,λi x hx=>(h3 i x hx).imp λv hv=>⟨hv.1,hR _ _ hv.2⟩⟩,r.len⟩
theorem bH.nil{α β:Type}(h:PH)(sz:Nat)(enc:β->List Value)(R:α->β->Prop):bH h sz enc R ⟨none,0,0⟩ ([]:List α):=
 ⟨⟨[],.nil h sz,rfl,λi x hx=>by simp at hx⟩,by simp⟩
theorem eY{α:Type}{l:List α}{i n:Nat}(hn:n=l.length)(hi:(i:Int)<(n:Int)):∃x,l[i]? =some x:=⟨l[i]'(by omega),List.getElem?_eq_getElem _⟩
def Ch(h:PH)(s:Sl)(ps:List Pred):Prop:=bH h 13 PV.enc (fA h) s ps
theorem Ch.mono{s:Sl}{ps:List Pred}(r:Ch h s ps)(le:PH.le h h'):Ch h' s ps:=bH.mono r le λ_ _=>fA.mono le
theorem sC.toL{s:Sl}{ps:List Pred}{vs:List PV}(h1:cR h s 13 (vs.map PV.enc))(h2:sC h ps vs)(hl:ps.length<=502633886983):Ch h s ps:=
 ⟨⟨vs,h1,h2.length.symm,λ_ _ hx=>h2.get hx⟩,hl⟩
theorem sC.ofL{h:PH}:∀{ps:List Pred}{vs:List PV},ps.length=vs.length->(∀(i:Nat)(x:Pred),ps[i]? =some x->∃v,vs[i]? =some v/\fA h x v)->sC h ps vs
 |[],[],_,_=>rfl
 |p::ps,v::vs,hl,hx=>by
  obtain⟨v',h1,h2⟩:=hx 0 p rfl;simp at h1;subst h1;exact⟨v,vs,rfl,h2,sC.ofL (by simpa using hl) λi x e=>by simpa using hx (i+1) x (by simpa using e)⟩
 |[],_::_,hl,_=>by simp at hl
 |_::_,[],hl,_=>by simp at hl
theorem fA.parts{op cmp:Int}{l r:OV}{args:List Pred}{v:PV}(x:fA h (.mk op cmp l r args) v):v.op=op/\v.cmp=cmp/\v.left=l/\v.right=r/\Ch h v.args args:=by
 obtain⟨h1,h2,h3,h4,h5,vs,h6,h7⟩:=x;exact⟨h1,h2,h3,h4,h7.toL h6 h5⟩
theorem fA.mk{h:PH}{args:List Pred}{v:PV}(hl:Ch h v.args args):fA h (.mk v.op v.cmp v.left v.right args) v:=by
 obtain⟨vs,h1,h2,h3⟩:=hl.ex;exact⟨rfl,rfl,rfl,rfl,hl.len,vs,h1,.ofL h2 h3⟩
def Yk(N:Nat):Vc.Spec:=λcvs m h K=>∃v w p q,cvs=[aP v,aP w]/\fA h p v/\fA h q w/\SizeOf.sizeOf p<N/\∀r:Bool,(r=true↔p=q)->K (cB r) m h
def YH(N:Nat):Vc.Spec:=λcvs m h K=>∃s t ps qs,cvs=[cS s,cS t,.val (.func (.func 213) #[] #[])]/\Ch h s ps/\Ch h t qs/\(∀p∈ps,SizeOf.sizeOf p<N)/\∀r:Bool,(r=true↔ps=qs)->K (cB r) m h
noncomputable def Vx(N:Nat):Ctx:=ctx [(224,YH N)] [] [] [] false
noncomputable def Vv(N:Nat)(s t:Sl)(ps qs:List Pred)(m:MH)(h:PH):Ctx:=
 ctx [(213,Yk N)] [BV 4 (λi=>cD 32 35 [(1,sv t),(2,vv (.func (.func 213) #[] #[])),(15,sv s),(16,iv s.len),(17,iv i)] [] m h) (λi=>i<=ps.length/\∀j:Nat,j<i->ps[j]? =qs[j]?) (λi=>ps.length-i)] [] [] false
noncomputable def VL(N:Nat)(v w:PV)(ps qs:List Pred)(m:MH)(h:PH):Ctx:=
 ctx [(163,Yk N)] [BV 4 (λi=>cD 60 62 [(2,.at (.ptr 2 0)),(3,.at (.ptr 3 0)),(43,iv v.args.len),(44,iv i)] [(2,.cells 32 (v.enc.map .val)),(3,.cells 32 (w.enc.map .val))] m h) (λi=>i<=ps.length/\∀j:Nat,j<i->ps[j]? =qs[j]?) (λi=>ps.length-i)] [] [] false
noncomputable abbrev Jc:Array Value:=Array.mk []
noncomputable abbrev wY(a:Nat)(b:Array Value):Value:=Value.func (Fn.func a) Jc b
noncomputable abbrev jA(a:Nat):Value:=wY a Jc
abbrev fW(a:Bool)(b:Prop):Prop:=mD a↔b
attribute [push_cast] Jc wY jA fW
def Gj(N:Nat)(v w:PV)(m:MH)(h:PH)(K:CV->MH->PH->Prop):Prop:=
  dR v.op w.op (dR v.cmp w.cmp (∃(r:Bool),hZ (oP 29 v.left.enc w.left.enc r) r (∃(r1:Bool),hZ (oP 29 v.right.enc w.right.enc r1) r1 (j3 (λs t=>∃(p q:List Pred),aA (cW v.args (gL w.args (CV.val (jA 213)))=cW s (gL t (CV.val (jA 213)))) (Ch h s p) (aA (Ch h t q) (∀(p1:Pred),List.Mem p1 p->nO p1 N) (∀(r2:Bool),fW r2 (p=q)->K (zR r2) m h)))) (K aU m h)) (K aU m h)) (K aU m h)) (K aU m h)
abbrev AQ(a:Nat)(b c:List Pred):Prop:=j2 (a<=b.length) (λx=>x<a->b[x]? =c[x]?)
abbrev A2(a:Nat):Prop:=eQ (SV.at (At.val (jA a)))
abbrev EJ(a:PV->PV->Pred->Pred->Prop):Prop:=∃(x:PV),uW (λx1 x2=>∃(x3:Pred),a x x1 x2 x3)
attribute [push_cast] AQ A2 EJ
def K6(N:Nat)(s t:Sl)(ps qs:List Pred)(m:MH)(h:PH)(K:CV->MH->PH->Prop):Prop:=
  eR (aG s) (aG t) (K aU m h) (j2 (∃(x:Nat),aA (AQ x ps qs) (aJ t) (aA (A2 213) (aJ s) (aA (bJ s) (aZ x) (aA (m=m) (h=h) True)))) (λx=>AQ x ps qs->aW (↑x:Int) (aG s) (bD (λb o=>aH (bE s.a b o) (0<=(↑x:Int)) ((↑x:Int)<aG s) (∃(y:PV),aL m h b (bF o x 13) y.enc/\bD (λb1 o1=>aH (bE t.a b1 o1) (0<=(↑x:Int)) ((↑x:Int)<aG t) (∃(y1:PV),aL m h b1 (bF o1 x 13) y1.enc/\EJ (λv w p q=>aA (bK (dX y) (dX y1)=bK (dX v) (dX w)) (fA h p v) (aA (fA h q w) (nO p N) (∀(r:Bool),fW r (p=q)->gV (!r) (K aU m h) (λy2=>aA (AQ y2 ps qs) (ps.length-y2<ps.length-x) (aA (aJ t) (A2 213) (aA (aJ s) (bJ s) (aA (fV (bB x 1)=bM y2) (m=m) (bN h h))))))))))))) (K
 fK m h)))
def Gq(N:Nat)(v w:PV)(ps qs:List Pred)(m:MH)(h:PH)(K:CV->MH->PH->Prop):Prop:=
  dA (v.op !=w.op) (K aU m h) (v.cmp !=w.cmp) (K aU m h) (∃(r:Bool),hZ (oP 29 v.left.enc w.left.enc r) (!r) (K aU m h) (∃(r1:Bool),oP 29 v.right.enc w.right.enc r1/\dA (!r1) (K aU m h) (aG v.args !=aG w.args) (K aU m h) (j2 (∃(x:Nat),aA (AQ x ps qs) gC (aA (eP 3) (bJ v.args) (aA (aZ x) (jU v) (aA (jU w) (m=m) (bN h h))))) (λx=>AQ x ps qs->aW (↑x:Int) (aG v.args) (bD (λb o=>aH (bE v.args.a b o) (0<=(↑x:Int)) ((↑x:Int)<aG v.args) (∃(y:PV),aL m h b (bF o x 13) y.enc/\bD (λb1 o1=>aH (bE w.args.a b1 o1) (0<=(↑x:Int)) ((↑x:Int)<aG w.args) (∃(y1:PV),aL m h b1 (bF o1 x 13) y1.enc/\EJ (λv1 w1 p q=>aA (bK (dX y) (dX y1)=bK (dX v1) (dX w1)) (fA h p v1) (aA (fA h q w1)
 (nO p N) (∀(r2:Bool),fW r2 (p=q)->gV (!r2) (K aU m h) (λy2=>aA (AQ y2 ps qs) (ps.length-y2<ps.length-x) (aA gC (eP 3) (aA (bJ v.args) (fV (bB x 1)=bM y2) (aA (jU v) (jU w) (bT (m=m) h h))))))))))))) (K fK m h)))))
theorem wL{α:Type}{a b:List α}(hl:a.length=b.length)(hi:a.length<=i)(h:∀j:Nat,j<i->a[j]? =b[j]?):a=b:=by
 apply List.ext_getElem?;intro j;by_cases hj:j<i
 .exact h j hj
 .rw[List.getElem?_eq_none aC,List.getElem?_eq_none aC]
theorem sS{α:Type}{a b:List α}{x y:α}(hx:a[i]? =some x)(hy:b[i]? =some y)(e:x=y)(h:∀j:Nat,j<i->a[j]? =b[j]?):∀j:Nat,j<i+1->a[j]? =b[j]? :=by
 intro j hj;by_cases e':j=i
 .subst e';rw[hx,hy,e]
 .exact h j aC
theorem KE{α:Type}{a b:List α}{x y:α}(hx:a[i]? =some x)(hy:b[i]? =some y)(e:x≠y):a≠b:=λh=>by
 subst h;rw[hx]at hy;simp at hy;exact e hy
theorem F1{α β:Type}{s t:Sl}{a:List α}{b:List β}(hs:s.len=a.length)(ht:t.len=b.length)(e:((s.len:Int) !=(t.len:Int))=true):a.length≠b.length:=λh=>by
 rw[hs,ht,h]at e;simp at e
theorem F2{α β:Type}{s t:Sl}{a:List α}{b:List β}(hs:s.len=a.length)(ht:t.len=b.length)(e:((s.len:Int) !=(t.len:Int))=false):a.length=b.length:=by
 have:(s.len:Int)=t.len:=by simpa using e
 omega
theorem XP{v w:PV}{q:Pred}(hv:fA h p v)(hw:fA h q w)(hN:SizeOf.sizeOf p<N+1)(hK:∀r:Bool,(r=true↔p=q)->K (cB r) m h):Gj N v w m h K:=by
 dsimp only[Gj,push_cast];have hf:p≠q->K (cB false) m h:=λh=>hK false ⟨λe=>(by cases e),λe=>(h e).elim⟩;have hargs:=@yU p;obtain⟨op,cmp,l,r,ps⟩:=p;obtain⟨op',cmp',l',r',qs⟩:=q;obtain⟨rfl,rfl,rfl,rfl,hps⟩:=hv.parts;obtain⟨rfl,rfl,rfl,rfl,hqs⟩:=hw.parts;refine aB (λh1=>aB (λh2=>⟨_,yS _ _,aB (λh3=>⟨_,yS _ _,aB (λh4=>⟨v.args,w.args,ps,qs,rfl,hps,hqs,λp hp=>?_,λr hr=>hK r (hr.trans ?_)⟩) (λh4=>hf λe=>?_)⟩) (λh3=>hf λe=>?_)⟩) (λh2=>hf λe=>?_)) (λh1=>hf λe=>?_)
 .have:=hargs (q:=p) hp;omega
 .rw[Bi]at h3 h4;simp only[beq_iff_eq]at h1 h2;rw[h1,h2,h3,h4];exact⟨λe=>by rw[e],λe=>by injection e⟩
 .injection e with _ _ _ e _;rw[Bi.2 e]at h4;cases h4
 .injection e with _ _ e _ _;rw[Bi.2 e]at h3;cases h3
 .injection e with _ e _ _ _;rw[e]at h2;simp at h2
 .injection e with e _ _ _ _;rw[e]at h1;simp at h1
theorem Ph:∀N,Sound Tryz.prog 213 (Yk N)
 |0=>by
  refine eJ (fn:=Tryz.f213) (c:=dO Tryz.f213) Tryz.func213 rfl (by decide) ?_;rintro cvs m h K ⟨v,w,p,q,rfl,hr,_,hN,_⟩;omega
 |N+1=>by
  have h144:Sound Tryz.prog 224 (YH N):=by
   refine iB Tryz.func224 ?_;rintro cvs m h K ⟨s,t,ps,qs,rfl,ha,hb,hN,hK⟩;refine⟨Vv N s t ps qs m h,rfl,aD (Ph N) aF,K6 N s t ps qs m h K,by kernel_rfl,?_⟩;dsimp only[K6,push_cast];have hsa:=ha.slen;have htb:=hb.slen;have hla:=ha.len;have hf:ps≠qs->K (cB false) m h:=λh=>hK false ⟨λe=>(by cases e),λe=>(h e).elim⟩;refine aB (λh1=>hf (λe=>F1 hsa htb h1 (by rw[e]))) (λh1=>?_);have hl:=F2 hsa htb h1;refine⟨⟨0,⟨aC,λj hj=>by omega⟩,MT⟩,λi hi=>aE (λhlt=>?_) (λhge=>?_)⟩
   .obtain⟨x,hx⟩:=eY hsa hlt;obtain⟨y,hy⟩:∃y,qs[i]? =some y:=eY (n:=s.len) aC hlt;obtain⟨b1,o1,u,e1,r1,ru⟩:=ha.at hx;obtain⟨b2,o2,w,e2,r2,rw'⟩:=hb.at hy;refine⟨b1,o1,e1,aC,hlt,u,.imm r1,b2,o2,e2,aC,aC,w,.imm r2,u,w,x,y,rfl,ru,rw',hN x (List.mem_of_getElem? hx),λr hr=>aB (λhne=>hf (KE hx hy (λe=>?_))) (λhe=>?_)⟩
    .have:=hr.2 e;subst this;cases hne
    .have hr':r=true:=by simpa using he
     exact⟨i+1,⟨aC,sS hx hy (hr.1 hr') hi.2⟩,aC,MT⟩
   .exact hK true ⟨λ_=>wL hl aC hi.2,λ_=>rfl⟩
  refine iB Tryz.func213 ?_;rintro cvs m h K ⟨v,w,p,q,rfl,hr,hq,hN,hK⟩;refine⟨Vx N,rfl,aD h144 aF,Gj N v w m h K,by kernel_rfl,?_⟩;exact XP hr hq hN hK
theorem XU{v w:PV}{q:Pred}(hv:fA h p v)(hw:fA h q w)(hN:SizeOf.sizeOf p<N+1)(hK:∀r:Bool,(r=true↔p=q)->K (cB r) m h):Gq N v w p.args q.args m h K:=by
 dsimp only[Gq,push_cast];have hf:p≠q->K (cB false) m h:=λh=>hK false ⟨λe=>(by cases e),λe=>(h e).elim⟩;have hargs:=@yU p;obtain⟨op,cmp,l,r,ps⟩:=p;obtain⟨op',cmp',l',r',qs⟩:=q;obtain⟨rfl,rfl,rfl,rfl,ha⟩:=hv.parts;obtain⟨rfl,rfl,rfl,rfl,hb⟩:=hw.parts;simp only[Pred.args]at hargs⊢
 have hsa:=ha.slen;have htb:=hb.slen;have hla:=ha.len;refine aB (λh1=>hf λe=>?_) (λh1=>aB (λh2=>hf λe=>?_) (λh2=>⟨_,yS _ _,aB (λh3=>hf λe=>?_) (λh3=>⟨_,yS _ _,aB (λh4=>hf λe=>?_) (λh4=>aB (λh5=>hf λe=>?_) (λh5=>?_))⟩)⟩))
 .injection e with e _ _ _ _;rw[e]at h1;simp at h1
 .injection e with _ e _ _ _;rw[e]at h2;simp at h2
 .injection e with _ _ e _ _;rw[Bi.2 e]at h3;cases h3
 .injection e with _ _ _ e _;rw[Bi.2 e]at h4;cases h4
 .injection e with _ _ _ _ e;exact F1 hsa htb h5 (by rw[e])
 .have hl:=F2 hsa htb h5;have h3:v.left=w.left:=Bi.1 (by simpa using h3);have h4:v.right=w.right:=Bi.1 (by simpa using h4);have h1:v.op=w.op:=by simpa using h1
  have h2:v.cmp=w.cmp:=by simpa using h2
  rw[h1,h2,h3,h4]at hK hf;have hf:ps≠qs->K (cB false) m h:=λhne=>hf λe=>hne (by injection e);refine⟨⟨0,⟨aC,λj hj=>by omega⟩,MT⟩,λi hi=>aE (λhlt=>?_) (λhge=>?_)⟩
  .obtain⟨x,hx⟩:=eY hsa hlt;obtain⟨y,hy⟩:∃y,qs[i]? =some y:=eY (n:=v.args.len) aC hlt;obtain⟨b1,o1,u,e1,r1,ru⟩:=ha.at hx;obtain⟨b2,o2,z,e2,r2,rz⟩:=hb.at hy;refine⟨b1,o1,e1,aC,hlt,u,.imm r1,b2,o2,e2,aC,aC,z,.imm r2,u,z,x,y,rfl,ru,rz,?_,λr hr=>aB (λhne=>hf (KE hx hy (λe=>?_))) (λhe=>?_)⟩
   .have:=hargs (List.mem_of_getElem? hx);omega
   .have:=hr.2 e;subst this;cases hne
   .have hr':r=true:=by simpa using he
    exact⟨i+1,⟨aC,sS hx hy (hr.1 hr') hi.2⟩,aC,MT⟩
  .exact hK true ⟨λ_=>by rw[wL hl aC hi.2],λ_=>rfl⟩
theorem Pm:∀N,Sound Tryz.prog 163 (Yk N)
 |0=>by
  refine eJ (fn:=Tryz.f163) (c:=dO Tryz.f163) Tryz.func163 rfl (by decide) ?_;rintro cvs m h K ⟨v,w,p,q,rfl,hr,_,hN,_⟩;omega
 |N+1=>by
  refine iB Tryz.func163 ?_;rintro cvs m h K ⟨v,w,p,q,rfl,hr,hq,hN,hK⟩;refine⟨VL N v w p.args q.args m h,rfl,aD (Pm N) aF,Gq N v w p.args q.args m h K,by kernel_rfl,?_⟩;exact XU hr hq hN hK
def Yl:Vc.Spec:=λcvs m h K=>∃v w p q,cvs=[aP v,aP w]/\fA h p v/\fA h q w/\∀r:Bool,(r=true↔p=q)->K (cB r) m h
theorem nZ{f:FuncId}{S:Nat->Vc.Spec}{S':Vc.Spec}(h:∀N,Sound Tryz.prog f (S N))(hs:∀cvs m h K,S' cvs m h K->∃N,S N cvs m h K):Sound Tryz.prog f S':=by
 refine⟨(h 0).1,λcvs vs m hh w K hS hp=>?_⟩;obtain⟨N,hN⟩:=hs cvs m hh K hS;exact(h N).2 cvs vs m hh w K hN hp
theorem QG:Sound Tryz.prog 213 Yl:=nZ Ph λ_ _ _ _⟨v,w,p,q,e,h1,h2,h3⟩=>⟨SizeOf.sizeOf p+1,v,w,p,q,e,h1,h2,aC,h3⟩
theorem Q0:Sound Tryz.prog 163 Yl:=nZ Pm λ_ _ _ _⟨v,w,p,q,e,h1,h2,h3⟩=>⟨SizeOf.sizeOf p+1,v,w,p,q,e,h1,h2,aC,h3⟩
theorem Fh{d e c i:Nat}{is:List Nat}{xs ys:Array Value}{w:World}{x y:Value}{r r':Bool}(hx:uP Tryz.prog (part e xs (i*c))=some x)(hy:uP Tryz.prog (part e ys (i*c))=some y)
 (he:(Op.equalIn d e x y).run Tryz.prog w= .ok r w)(hr:(Op.eqItems d e c xs ys is).run Tryz.prog w= .ok r' w):(Op.eqItems d e c xs ys (i::is)).run Tryz.prog w= .ok (r&&r') w:=by
 simp only[Op.eqItems,Sem.run_bind,wO _ _ _ hx,wO _ _ _ hy,Result.andThen_ok,he];cases r
 .simp
 .simpa using hr
def Y8(a b:Int×Int):Bool:=a.1==b.1&&(a.2==b.2&&true)
def Y7(a b:Int×Bool):Bool:=a.1==b.1&&(a.2==b.2&&true)
theorem V9(a b:Int×Int):StructEq Tryz.prog 69 (.agg #[.int .i64 a.1,.int .i64 a.2]) (.agg #[.int .i64 b.1,.int .i64 b.2]) (Y8 a b):=by
 refine⟨by kernel_rfl,λw=>?_⟩;obtain⟨i,hi⟩:=Option.isSome_iff_exists.1 (show(Tryz.prog.info? 3).isSome=true by kernel_rfl);rw[run_equalIn_array w 9999 (e:=3) (n:=2) _ _ (by kernel_rfl) hi,show Tryz.prog.cellsOf 3=1 by kernel_rfl,show List.range 2=[0,1]from rfl];refine Fh (x:=.int .i64 a.1) (y:=.int .i64 b.1) (by kernel_rfl) (by kernel_rfl) (run_equalIn_int w 9998 _ .i64 .i64 _ _ (by kernel_rfl)) ?_;refine Fh (x:=.int .i64 a.2) (y:=.int .i64 b.2) (by kernel_rfl) (by kernel_rfl) (run_equalIn_int w 9998 _ .i64 .i64 _ _ (by kernel_rfl)) ?_;simp[Op.eqItems]
theorem V8(a b:Int×Bool):StructEq Tryz.prog 72 (.agg #[.int .i64 a.1,.bool a.2]) (.agg #[.int .i64 b.1,.bool b.2]) (Y7 a b):=by
 refine⟨by kernel_rfl,λw=>?_⟩;rw[run_equalIn_struct w 9999 72 _ _ (by kernel_rfl) (by kernel_rfl),show(Tryz.prog.fieldsOf 72).toList=[Ke 72 0,Ke 72 1]by kernel_rfl];refine j5 (x:=.int .i64 a.1) (y:=.int .i64 b.1) (by kernel_rfl) (by kernel_rfl) (by kernel_rfl) (run_equalIn_int w 9998 _ .i64 .i64 _ _ (by kernel_rfl)) ?_;refine j5 (x:=.bool a.2) (y:=.bool b.2) (by kernel_rfl) (by kernel_rfl) (by kernel_rfl) (run_equalIn_bool w 9998 _ _ _ (by kernel_rfl)) ?_;simp[Op.eqFields]
theorem Pz{a b:Int×Int}:Y8 a b=true↔a=b:=by
 obtain⟨a1,a2⟩:=a;obtain⟨b1,b2⟩:=b;simp[Y8]
theorem Py{a b:Int×Bool}:Y7 a b=true↔a=b:=by
 obtain⟨a1,a2⟩:=a;obtain⟨b1,b2⟩:=b;simp[Y7]
theorem lK.at{s:Sl}{l:List (Int×Int)}(r:lK h s l){x:Int×Int}(hi:l[i]? =some x):∃b o,s.a=some ⟨b,o,none⟩/\aX h b (o+i*2) (sY x):=r.row.get (by simp[hi])
theorem iW.at{s:Sl}{l:List (Int×Bool)}(r:iW h s l){x:Int×Bool}(hi:l[i]? =some x):∃b o,s.a=some ⟨b,o,none⟩/\aX h b (o+i*2) (Cs x):=r.row.get (by simp[hi])
def LX:Vc.Spec:=λcvs m h K=>∃(s t:Sl)(a b:List (Int×Int)),cvs=[cS s,cS t]/\lK h s a/\lK h t b/\∀r:Bool,(r=true↔a=b)->K (cB r) m h
def LW:Vc.Spec:=λcvs m h K=>∃(s t:Sl)(a b:List (Int×Bool)),cvs=[cS s,cS t]/\iW h s a/\iW h t b/\∀r:Bool,(r=true↔a=b)->K (cB r) m h
noncomputable def Pg{α:Type}(s t:Sl)(a b:List α)(m:MH)(h:PH):Ctx:=
 ctx [] [BV 4 (λi=>cD 26 28 [(0,sv s),(1,sv t),(12,iv s.len),(13,iv i)] [] m h) (λi=>i<=a.length/\∀j:Nat,j<i->a[j]? =b[j]?) (λi=>a.length-i)] [] [] false
noncomputable abbrev tM(a:Int×Int):List Value:=jS (eN a.1) (eN a.2)
attribute [push_cast] tM
def La(s t:Sl)(a b:List (Int×Int))(m:MH)(h:PH)(K:CV->MH->PH->Prop):Prop:=
  eR (aG s) (aG t) (K aU m h) (j2 (∃(x:Nat),aA (j2 (x<=a.length) (λj=>j<x->a[j]? =b[j]?)) (aJ s) (aA (aJ t) (bJ s) (aH (aZ x) (m=m) (h=h) True))) (λx=>j2 (x<=a.length) (λj=>j<x->a[j]? =b[j]?)->aW (↑x:Int) (aG s) (bD (λb1 o=>aH (bE s.a b1 o) (0<=(↑x:Int)) ((↑x:Int)<aG s) (∃(y:Int×Int),aL m h b1 (bF o x 2) (tM y)/\bD (λb2 o1=>aH (bE t.a b2 o1) (0<=(↑x:Int)) ((↑x:Int)<aG t) (∃(y1:Int×Int),aL m h b2 (bF o1 x 2) (tM y1)/\∃(r:Bool),oP 69 (tM y) (tM y1) r/\gV (!r) (K aU m h) (λy2=>aA (j2 (y2<=a.length) (λj=>j<y2->a[j]? =b[j]?)) (a.length-y2<a.length-x) (aA (aJ s) (aJ t) (aA (bJ s) (fV (bB x 1)=bM y2) (aA (m=m) (h=h) True))))))))) (K fK m
 h)))
noncomputable abbrev xZ(a:Int×Bool):List Value:=jS (eN a.1) (Value.bool a.2)
attribute [push_cast] xZ
def K9(s t:Sl)(a b:List (Int×Bool))(m:MH)(h:PH)(K:CV->MH->PH->Prop):Prop:=
  eR (aG s) (aG t) (K aU m h) (j2 (∃(x:Nat),aA (j2 (x<=a.length) (λj=>j<x->a[j]? =b[j]?)) (aJ s) (aA (aJ t) (bJ s) (aH (aZ x) (m=m) (h=h) True))) (λx=>j2 (x<=a.length) (λj=>j<x->a[j]? =b[j]?)->aW (↑x:Int) (aG s) (bD (λb1 o=>aH (bE s.a b1 o) (0<=(↑x:Int)) ((↑x:Int)<aG s) (∃(y:Int×Bool),aL m h b1 (bF o x 2) (xZ y)/\bD (λb2 o1=>aH (bE t.a b2 o1) (0<=(↑x:Int)) ((↑x:Int)<aG t) (∃(y1:Int×Bool),aL m h b2 (bF o1 x 2) (xZ y1)/\∃(r:Bool),oP 72 (xZ y) (xZ y1) r/\gV (!r) (K aU m h) (λy2=>aA (j2 (y2<=a.length) (λj=>j<y2->a[j]? =b[j]?)) (a.length-y2<a.length-x) (aA (aJ s) (aJ t) (aA (bJ s) (fV (bB x 1)=bM y2) (aA (m=m) (h=h) True))))))))) (K fK m
 h)))
theorem QF:Sound Tryz.prog 214 LX:=by
 refine iB Tryz.func214 ?_;rintro cvs m h K ⟨s,t,a,b,rfl,ha,hb,hK⟩;refine⟨Pg s t a b m h,rfl,aF,La s t a b m h K,by kernel_rfl,?_⟩;dsimp only[La,push_cast];have hsa:=ha.slen;have htb:=hb.slen;have hla:=ha.len;have hf:a≠b->K (cB false) m h:=λh=>hK false ⟨λe=>(by cases e),λe=>(h e).elim⟩;refine aB (λh1=>hf (λe=>F1 hsa htb h1 (by rw[e]))) (λh1=>?_);have hl:=F2 hsa htb h1;refine⟨⟨0,⟨aC,λj hj=>by omega⟩,MT⟩,λi hi=>aE (λhlt=>?_) (λhge=>?_)⟩
 .obtain⟨x,hx⟩:=eY hsa hlt;obtain⟨y,hy⟩:∃y,b[i]? =some y:=eY (n:=s.len) aC hlt;obtain⟨b1,o1,e1,r1⟩:=ha.at hx;obtain⟨b2,o2,e2,r2⟩:=hb.at hy;refine⟨b1,o1,e1,aC,hlt,x,.imm r1,b2,o2,e2,aC,aC,y,.imm r2,_,V9 x y,aB (λhne=>hf (KE hx hy (λe=>?_))) (λhe=>?_)⟩
  .rw[Pz.2 e]at hne;cases hne
  .exact⟨i+1,⟨aC,sS hx hy (Pz.1 (by simpa using he)) hi.2⟩,aC,MT⟩
 .exact hK true ⟨λ_=>wL hl aC hi.2,λ_=>rfl⟩
theorem QE:Sound Tryz.prog 215 LW:=by
 refine iB Tryz.func215 ?_;rintro cvs m h K ⟨s,t,a,b,rfl,ha,hb,hK⟩;refine⟨Pg s t a b m h,rfl,aF,K9 s t a b m h K,by kernel_rfl,?_⟩;dsimp only[K9,push_cast];have hsa:=ha.slen;have htb:=hb.slen;have hla:=ha.len;have hf:a≠b->K (cB false) m h:=λh=>hK false ⟨λe=>(by cases e),λe=>(h e).elim⟩;refine aB (λh1=>hf (λe=>F1 hsa htb h1 (by rw[e]))) (λh1=>?_);have hl:=F2 hsa htb h1;refine⟨⟨0,⟨aC,λj hj=>by omega⟩,MT⟩,λi hi=>aE (λhlt=>?_) (λhge=>?_)⟩
 .obtain⟨x,hx⟩:=eY hsa hlt;obtain⟨y,hy⟩:∃y,b[i]? =some y:=eY (n:=s.len) aC hlt;obtain⟨b1,o1,e1,r1⟩:=ha.at hx;obtain⟨b2,o2,e2,r2⟩:=hb.at hy;refine⟨b1,o1,e1,aC,hlt,x,.imm r1,b2,o2,e2,aC,aC,y,.imm r2,_,V8 x y,aB (λhne=>hf (KE hx hy (λe=>?_))) (λhe=>?_)⟩
  .rw[Py.2 e]at hne;cases hne
  .exact⟨i+1,⟨aC,sS hx hy (Py.1 (by simpa using he)) hi.2⟩,aC,MT⟩
 .exact hK true ⟨λ_=>wL hl aC hi.2,λ_=>rfl⟩
noncomputable def Ff(s t:Sl)(a b:List Int)(m:MH)(h:PH):Ctx:=
 ctx [] [BV 4 (λi=>cD 26 28 [(0,sv s),(1,sv t),(12,iv s.len),(13,iv i)] [] m h) (λi=>i<=a.length/\∀j:Nat,j<i->a[j]? =b[j]?) (λi=>a.length-i)] [] [] false
def Dg(s t:Sl)(a b:List Int)(m:MH)(h:PH)(K:CV->MH->PH->Prop):Prop:=
  eR (aG s) (aG t) (K aU m h) (j2 (∃(x:Nat),aA (j2 (x<=a.length) (λj=>j<x->a[j]? =b[j]?)) (aJ s) (aA (aJ t) (bJ s) (aH (aZ x) (m=m) (h=h) True))) (λx=>j2 (x<=a.length) (λj=>j<x->a[j]? =b[j]?)->aW (↑x:Int) (aG s) (bD (λb1 o=>aH (bE s.a b1 o) (0<=(↑x:Int)) ((↑x:Int)<aG s) (∃(y:Int),aL m h b1 (bF o x 1) (bW y)/\bD (λb2 o1=>aH (bE t.a b2 o1) (0<=(↑x:Int)) ((↑x:Int)<aG t) (∃(y1:Int),aL m h b2 (bF o1 x 1) (bW y1)/\gV (y !=y1) (K aU m h) (λy2=>aA (j2 (y2<=a.length) (λj=>j<y2->a[j]? =b[j]?)) (a.length-y2<a.length-x) (aA (aJ s) (aJ t) (aA (bJ s) (fV (bB x 1)=bM y2) (aA (m=m) (h=h) True))))))))) (K fK m h)))
theorem X6(s t:Sl)(a b:List Int)(m:MH)(h:PH)(K:CV->MH->PH->Prop):Dg s t a b m h K=(Ab (Ff s t a b m h) Tryz.f127 (dO Tryz.f127) (entry 26 [cS s,cS t] m h) K):=by kernel_rfl
theorem XT(s t:Sl)(a b:List Int)(m:MH)(h:PH)(K:CV->MH->PH->Prop):Dg s t a b m h K=(Ab (Ff s t a b m h) Tryz.f180 (dO Tryz.f180) (entry 26 [cS s,cS t] m h) K):=by kernel_rfl
def Ak:Vc.Spec:=λcvs m h K=>∃(s t:Sl)(a b:List Int),cvs=[cS s,cS t]/\Ints h s a/\Ints h t b/\∀r:Bool,(r=true↔a=b)->K (cB r) m h
theorem SL{s t:Sl}{b:List Int}(ha:Ints h s a)(hb:Ints h t b)(hK:∀r:Bool,(r=true↔a=b)->K (cB r) m h):Dg s t a b m h K:=by
 dsimp only[Dg,push_cast];have hsa:=ha.slen;have htb:=hb.slen;have hla:=ha.len;have hf:a≠b->K (cB false) m h:=λh=>hK false ⟨λe=>by(cases e),λe=>(h e).elim⟩;refine aB (λh1=>hf (λe=>?_)) (λh1=>?_)
 .subst e;rw[hsa,htb]at h1;simp at h1
 .have hl:a.length=b.length:=by rw[hsa,htb]at h1;have:(a.length:Int)=b.length:=(by simpa using h1);omega
  refine⟨⟨0,⟨aC,λj hj=>by omega⟩,rfl,rfl,rfl,rfl,rfl,rfl,trivial⟩,λi hi=>aE (λhlt=>?_) (λhge=>?_)⟩
  .obtain⟨x,hx⟩:∃x,a[i]? =some x:=⟨a[i]'(by omega),List.getElem?_eq_getElem _⟩
   obtain⟨y,hy⟩:∃y,b[i]? =some y:=⟨b[i]'(by omega),List.getElem?_eq_getElem _⟩
   obtain⟨b1,o1,e1,r1⟩:=ha.at hx;obtain⟨b2,o2,e2,r2⟩:=hb.at hy;refine⟨b1,o1,e1,aC,hlt,x,.imm (by simpa using r1),b2,o2,e2,aC,aC,y,.imm (by simpa using r2),aB (λhne=>hf (λe=>?_)) (λhe=>?_)⟩
   .subst e;rw[hx]at hy;simp at hy;subst hy;simp at hne
   .have:x=y:=by simpa using he
    refine⟨i+1,⟨aC,λj hj=>?_⟩,aC,rfl,rfl,rfl,by rw[iM aC],rfl,rfl,trivial⟩;by_cases e:j=i
    .subst e;rw[hx,hy,this]
    .exact hi.2 j aC
  .refine hK true ⟨λ_=>?_,λ_=>rfl⟩;apply List.ext_getElem?;intro j;by_cases hj:j<i
   .exact hi.2 j hj
   .rw[List.getElem?_eq_none aC,List.getElem?_eq_none aC]
theorem Rq:Sound Tryz.prog 127 Ak:=by
 refine eJ (fn:=Tryz.f127) (c:=dO Tryz.f127) Tryz.func127 rfl (by decide) ?_;rintro cvs m h K ⟨s,t,a,b,rfl,ha,hb,hK⟩;exact⟨Ff s t a b m h,rfl,aF,(X6 s t a b m h K)▸SL ha hb hK⟩
theorem DV:Sound Tryz.prog 180 Ak:=by
 refine eJ (fn:=Tryz.f180) (c:=dO Tryz.f180) Tryz.func180 rfl (by decide) ?_;rintro cvs m h K ⟨s,t,a,b,rfl,ha,hb,hK⟩;exact⟨Ff s t a b m h,rfl,aF,(XT s t a b m h K)▸SL ha hb hK⟩
def aQ(v:QV):CV:=.val (.agg ⟨v.enc⟩)
def Query.args:Query->List Query
 |.mk _ _ _ _ _ _ _ _ l=>l
theorem BK{p:Query}{q:Query}(h:q∈p.args):SizeOf.sizeOf q<SizeOf.sizeOf p:=by
 cases p with
 |mk op t w c o g s l args=>
  have:=List.sizeOf_lt_of_mem h;simp only[Query.args]at this;simp only[Query.mk.sizeOf_spec];omega
def yY(h:PH)(s:Sl)(ps:List Query):Prop:=bH h 21 QV.enc (dD h) s ps
theorem yY.mono{s:Sl}{ps:List Query}(r:yY h s ps)(le:PH.le h h'):yY h' s ps:=bH.mono r le λ_ _=>dD.mono le
theorem uN.ofL{h:PH}:∀{ps:List Query}{vs:List QV},ps.length=vs.length->(∀(i:Nat)(x:Query),ps[i]? =some x->∃v,vs[i]? =some v/\dD h x v)->uN h ps vs
 |[],[],_,_=>rfl
 |p::ps,v::vs,hl,hx=>by
  obtain⟨v',h1,h2⟩:=hx 0 p rfl;simp at h1;subst h1;exact⟨v,vs,rfl,h2,uN.ofL (by simpa using hl) λi x e=>by simpa using hx (i+1) x (by simpa using e)⟩
 |[],_::_,hl,_=>by simp at hl
 |_::_,[],hl,_=>by simp at hl
structure oW(h:PH)(op table:Int)(w:Pred)(c:List Int)(o:List (Int×Int))(g:List Int)(s:List (Int×Bool))(l:Int)(args:List Query)(v:QV):Prop where
 op_:v.op=op
 table_:v.table=table
 where_:fA h w v.where_
 columns_:Ints h v.columns c
 on_:lK h v.on o
 group_:Ints h v.group g
 order_:iW h v.order s
 limit_:v.limit=l
 args_:yY h v.args args
theorem dD.parts{op table:Int}{c:List Int}{o:List (Int×Int)}{g:List Int}{s:List (Int×Bool)}{l:Int}{args:List Query}(x:dD h (.mk op table w c o g s l args) v):oW h op table w c o g s l args v:=by
 obtain⟨h1,h2,h3,h4,h5,h6,h7,h8,h9,vs,h10,h11⟩:=x;exact⟨h1,h2,h3,h4,h5,h6,h7,h8,⟨⟨vs,h10,h11.length.symm,λ_ _ hx=>h11.get hx⟩,h9⟩⟩
theorem oW.rep{op table:Int}{c:List Int}{o:List (Int×Int)}{g:List Int}{s:List (Int×Bool)}{l:Int}{args:List Query}(x:oW h op table w c o g s l args v):dD h (.mk op table w c o g s l args) v:=by
 obtain⟨vs,h1,h2,h3⟩:=x.args_.ex;exact⟨x.op_,x.table_,x.where_,x.columns_,x.on_,x.group_,x.order_,x.limit_,x.args_.len,vs,h1,.ofL h2 h3⟩
def Zx(N:Nat):Vc.Spec:=λcvs m h K=>∃v w p q,cvs=[aQ v,aQ w]/\dD h p v/\dD h q w/\SizeOf.sizeOf p<N/\∀r:Bool,(r=true↔p=q)->K (cB r) m h
def Zy:Vc.Spec:=λcvs m h K=>∃v w p q,cvs=[aQ v,aQ w]/\dD h p v/\dD h q w/\∀r:Bool,(r=true↔p=q)->K (cB r) m h
def YG(N:Nat):Vc.Spec:=λcvs m h K=>∃s t ps qs,cvs=[cS s,cS t,.val (.func (.func 204) #[] #[])]/\yY h s ps/\yY h t qs/\(∀p∈ps,SizeOf.sizeOf p<N)/\∀r:Bool,(r=true↔ps=qs)->K (cB r) m h
noncomputable def VA(N:Nat):Ctx:=ctx [(213,Yl),(180,Ak),(214,LX),(215,LW),(216,YG N)] [] [] [] false
noncomputable def Vw(N:Nat)(s t:Sl)(ps qs:List Query)(m:MH)(h:PH):Ctx:=
 ctx [(204,Zx N)] [BV 4 (λi=>cD 32 35 [(1,sv t),(2,vv (.func (.func 204) #[] #[])),(15,sv s),(16,iv s.len),(17,iv i)] [] m h) (λi=>i<=ps.length/\∀j:Nat,j<i->ps[j]? =qs[j]?) (λi=>ps.length-i)] [] [] false
noncomputable abbrev gJ(a b:Sl):List CV:=gL a (lY b)
abbrev CB(a b:Sl)(c:PH)(d:(List Int)->(List Int)->Bool->Prop):Prop:=j3 (λx x1=>vB (λx2 x3=>aH (gJ a b=gJ x x1) (Ints c x x2) (Ints c x1 x3) (∀(x4:Bool),d x2 x3 x4)))
abbrev nP(a:Query)(b:Nat):Prop:=SizeOf.sizeOf a<b
attribute [push_cast] gJ CB nP
def Gm(N:Nat)(v w:QV)(m:MH)(h:PH)(K:CV->MH->PH->Prop):Prop:=
  dR v.op w.op (dR v.table w.table (dR v.limit w.limit (EJ (λv1 w1 p q=>aH (bK (dX v.where_) (dX w.where_)=bK (dX v1) (dX w1)) (fA h p v1) (fA h q w1) (∀(r:Bool),gP (fW r (p=q)) r (CB v.columns w.columns h (λa b r1=>gP (fW r1 (a=b)) r1 (j3 (λs t=>∃(a1 b1:List (Int×Int)),aH (gJ v.on w.on=gJ s t) (lK h s a1) (lK h t b1) (∀(r2:Bool),gP (fW r2 (a1=b1)) r2 (CB v.group w.group h (λa2 b2 r3=>gP (fW r3 (a2=b2)) r3 (j3 (λs1 t1=>∃(a3 b3:List (Int×Bool)),aH (gJ v.order w.order=gJ s1 t1) (iW h s1 a3) (iW h t1 b3) (∀(r4:Bool),gP (fW r4 (a3=b3)) r4 (j3 (λs2 t2=>∃(p1 q1:List Query),aA (cW v.args (gL w.args (CV.val (jA 204)))=cW s2 (gL t2 (CV.val (jA 204)))) (yY h s2
 p1) (aA (yY h t2 q1) (∀(p2:Query),List.Mem p2 p1->nP p2 N) (∀(r5:Bool),fW r5 (p1=q1)->K (zR r5) m h)))) (K aU m h)))) (K aU m h))) (K aU m h)))) (K aU m h))) (K aU m h)))) (K aU m h)) (K aU m h)) (K aU m h)
abbrev jV(a:QV->Query->Prop):Prop:=∃(x:QV)(x1:Query),a x x1
noncomputable abbrev cN(a:QV):CV:=jK a.enc
attribute [push_cast] jV cN
def K8(N:Nat)(s t:Sl)(ps qs:List Query)(m:MH)(h:PH)(K:CV->MH->PH->Prop):Prop:=
  eR (aG s) (aG t) (K aU m h) (j2 (∃(x:Nat),aA (j2 (x<=ps.length) (λj=>j<x->ps[j]? =qs[j]?)) (aJ t) (aA (A2 204) (aJ s) (aA (bJ s) (aZ x) (aA (m=m) (h=h) True)))) (λx=>j2 (x<=ps.length) (λj=>j<x->ps[j]? =qs[j]?)->aW (↑x:Int) (aG s) (bD (λb o=>aH (bE s.a b o) (0<=(↑x:Int)) ((↑x:Int)<aG s) (∃(y:QV),aL m h b (bF o x 21) y.enc/\bD (λb1 o1=>aH (bE t.a b1 o1) (0<=(↑x:Int)) ((↑x:Int)<aG t) (∃(y1:QV),aL m h b1 (bF o1 x 21) y1.enc/\∃(v:QV),jV (λw p=>∃(q:Query),aA (bK (cN y) (cN y1)=bK (cN v) (cN w)) (dD h p v) (aA (dD h q w) (nP p N) (∀(r:Bool),fW r (p=q)->gV (!r) (K aU m h) (λy2=>aA (j2 (y2<=ps.length) (λj=>j<y2->ps[j]? =qs[j]?)) (ps.length
 -y2<ps.length-x) (aA (aJ t) (A2 204) (aA (aJ s) (bJ s) (aA (fV (bB x 1)=bM y2) (m=m) (bN h h))))))))))))) (K fK m h)))
theorem XQ{w:QV}{p:Query}(hv:dD h p v)(hw:dD h q w)(hN:SizeOf.sizeOf p<N+1)(hK:∀r:Bool,(r=true↔p=q)->K (cB r) m h):Gm N v w m h K:=by
 dsimp only[Gm,push_cast];have hf:p≠q->K (cB false) m h:=λh=>hK false ⟨λe=>(by cases e),λe=>(h e).elim⟩;have hargs:=@BK p;obtain⟨op,ta,wh,co,on,gr,od,li,ps⟩:=p;obtain⟨op',ta',wh',co',on',gr',od',li',qs⟩:=q;have a:=hv.parts;have b:=hw.parts
 refine aB (λh1=>aB (λh2=>aB (λh3=>⟨_,_,_,_,rfl,a.where_,b.where_,λr4 h4=>aB (λg4=>⟨_,_,_,_,rfl,a.columns_,b.columns_,λr5 h5=>aB (λg5=>⟨_,_,_,_,rfl,a.on_,b.on_,λr6 h6=>aB (λg6=>⟨_,_,_,_,rfl,a.group_,b.group_,λr7 h7=>aB (λg7=>⟨_,_,_,_,rfl,a.order_,b.order_,λr8 h8=>aB (λg8=>⟨_,_,_,_,rfl,a.args_,b.args_,λp hp=>?_,λr hr=>hK r (hr.trans ?_)⟩)
  (λg8=>hf λe=>?_)⟩) (λg7=>hf λe=>?_)⟩) (λg6=>hf λe=>?_)⟩) (λg5=>hf λe=>?_)⟩) (λg4=>hf λe=>?_)⟩) (λh3=>hf λe=>?_)) (λh2=>hf λe=>?_)) (λh1=>hf λe=>?_)
 .have:=hargs (q:=p) hp;omega
 .rw[a.op_,b.op_,beq_iff_eq]at h1;rw[a.table_,b.table_,beq_iff_eq]at h2;rw[a.limit_,b.limit_,beq_iff_eq]at h3;rw[h1,h2,h3,h4.1 g4,h5.1 g5,h6.1 g6,h7.1 g7,h8.1 g8];exact⟨λe=>by rw[e],λe=>by injection e⟩
 .injection e with _ _ _ _ _ _ e _ _;rw[h8.2 e]at g8;cases g8
 .injection e with _ _ _ _ _ e _ _ _;rw[h7.2 e]at g7;cases g7
 .injection e with _ _ _ _ e _ _ _ _;rw[h6.2 e]at g6;cases g6
 .injection e with _ _ _ e _ _ _ _ _;rw[h5.2 e]at g5;cases g5
 .injection e with _ _ e _ _ _ _ _ _;rw[h4.2 e]at g4;cases g4
 .injection e with _ _ _ _ _ _ _ e _;rw[a.limit_,b.limit_,e]at h3;simp at h3
 .injection e with _ e _ _ _ _ _ _ _;rw[a.table_,b.table_,e]at h2;simp at h2
 .injection e with e _ _ _ _ _ _ _ _;rw[a.op_,b.op_,e]at h1;simp at h1
theorem Pj:∀N,Sound Tryz.prog 204 (Zx N)
 |0=>by
  refine eJ (fn:=Tryz.f204) (c:=dO Tryz.f204) Tryz.func204 rfl (by decide) ?_;rintro cvs m h K ⟨v,w,p,q,rfl,hr,_,hN,_⟩;omega
 |N+1=>by
  have h139:Sound Tryz.prog 216 (YG N):=by
   refine iB Tryz.func216 ?_;rintro cvs m h K ⟨s,t,ps,qs,rfl,ha,hb,hN,hK⟩;refine⟨Vw N s t ps qs m h,rfl,aD (Pj N) aF,K8 N s t ps qs m h K,by kernel_rfl,?_⟩;dsimp only[K8,push_cast];have hsa:=ha.slen;have htb:=hb.slen;have hla:=ha.len;have hf:ps≠qs->K (cB false) m h:=λh=>hK false ⟨λe=>(by cases e),λe=>(h e).elim⟩;refine aB (λh1=>hf (λe=>F1 hsa htb h1 (by rw[e]))) (λh1=>?_);have hl:=F2 hsa htb h1;refine⟨⟨0,⟨aC,λj hj=>by omega⟩,MT⟩,λi hi=>aE (λhlt=>?_) (λhge=>?_)⟩
   .obtain⟨x,hx⟩:=eY hsa hlt;obtain⟨y,hy⟩:∃y,qs[i]? =some y:=eY (n:=s.len) aC hlt;obtain⟨b1,o1,u,e1,r1,ru⟩:=ha.at hx;obtain⟨b2,o2,w,e2,r2,rw'⟩:=hb.at hy;refine⟨b1,o1,e1,aC,hlt,u,.imm r1,b2,o2,e2,aC,aC,w,.imm r2,u,w,x,y,rfl,ru,rw',hN x (List.mem_of_getElem? hx),λr hr=>aB (λhne=>hf (KE hx hy (λe=>?_))) (λhe=>?_)⟩
    .have:=hr.2 e;subst this;cases hne
    .have hr':r=true:=by simpa using he
     exact⟨i+1,⟨aC,sS hx hy (hr.1 hr') hi.2⟩,aC,MT⟩
   .exact hK true ⟨λ_=>wL hl aC hi.2,λ_=>rfl⟩
  refine iB Tryz.func204 ?_;rintro cvs m h K ⟨v,w,p,q,rfl,hr,hq,hN,hK⟩;refine⟨VA N,rfl,aD QG (aD DV (aD QF (aD QE (aD h139 aF)))),Gm N v w m h K,by kernel_rfl,?_⟩;exact XQ hr hq hN hK
theorem QO:Sound Tryz.prog 204 Zy:=nZ Pj λ_ _ _ _⟨v,w,p,q,e,h1,h2,h3⟩=>⟨SizeOf.sizeOf p+1,v,w,p,q,e,h1,h2,aC,h3⟩
end Go.Ps
