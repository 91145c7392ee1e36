/-
  Part 2 of a proof that a law of the given program returns true: a condition generator that is proved sound, and contracts of functions. No condition of its own. Own work, joined by a program (pack2.py).
-/
import Derived.MapKept
import Derived.Maps.RangeRun
import Derived.Test.YtileehgdfcknkaaGreatDoorProg
import Derived.IntWalk
import Derived.ChangeKeysEq
import Derived.Test.YtileehgdfcknkaaGreatDoorPa
set_option linter.unusedVariables false
set_option linter.unusedSimpArgs false
namespace Go.Vc
open Go
section
variable{B:oJ}{C:Ctx}{ι:Nat->Value}{σ:St}{a:Act}{w:World}{o:Oper}{K:St->Prop}
theorem U8(hM:aI B ι σ a w)(ob:Obj):
 aI B ι {σ with m:=λb=>if b=w.heap.size then some ob else σ.m b} a (w.alloc ob)/\cE σ.m σ.h w.heap.size/\∀o,Ea σ ι o w (w.alloc ob):=by
 have hw:=hM.wrel
 have hun:cE σ.m σ.h w.heap.size:=by
  constructor
  .cases e:σ.m w.heap.size with
   |none=>rfl
   |some x=>have:=(Array.getElem?_eq_some_iff.1 (hw.msat _ _ e)).1;omega
  .intro i;cases e:σ.h w.heap.size i with
   |none=>rfl
   |some x=>have:=World.block_lt_of_cell? w ⟨w.heap.size,i,none⟩ (hw.hsat _ _ _ e);simp at this
 have hsz:(w.alloc ob).heap.size=w.heap.size+1:=by show(w.heap.push ob).size=_;simp
 refine⟨⟨hM.slots,hM.defers,λk o' hk=>(hM.own k o' hk).world (λb hb=>fB w ob (nC (hM.own k o' hk) hb)),hM.dist,?_,?_,hM.one⟩,hun,λo=>⟨?_,?_,λ_ b hb=>fB w ob hb,λ_ b _ hb _ _=>fB w ob hb⟩⟩
 .intro k o' b hk hb;obtain⟨f1,f2,f3⟩:=hM.fresh k o' b hk hb;have hlt:=nC (hM.own k o' hk) hb;refine⟨f1,?_,f3⟩;show(if b=w.heap.size then some ob else σ.m b)=none;rw[if_neg aC];exact f2
 .refine⟨hw.tape,hw.os,hw.output,hw.drawn,by rw[hsz];exact Nat.le_succ_of_le hw.size,?_,?_,?_,?_,hw.hle,hw.hold,?_⟩
  .intro b hb hE;rw[fB w ob (Nat.lt_of_lt_of_le hb hw.size)];exact hw.frame b hb hE
  .intro b i v hv;have h1:=hw.hsat b i v hv;rw[<-h1];exact World.cell?_of_block (w:=w) (w':=w.alloc ob) (a:=⟨b,i,none⟩) (fB w ob (World.block_lt_of_cell? w ⟨b,i,none⟩ h1))
  .intro b x hb;have hb:(if b=w.heap.size then some ob else σ.m b)=some x:=hb;by_cases e:b=w.heap.size
   .rw[if_pos e]at hb;rw[e,kJ];exact hb
   .rw[if_neg e]at hb;have h1:=hw.msat b x hb;rw[fB w ob (Array.getElem?_eq_some_iff.1 h1).1];exact h1
  .intro b x hb i;have hb:(if b=w.heap.size then some ob else σ.m b)=some x:=hb;by_cases e:b=w.heap.size
   .rw[e];exact hun.h_ i
   .rw[if_neg e]at hb;exact hw.disj b x hb i
  .intro b x hb;have hb:(if b=w.heap.size then some ob else σ.m b)=some x:=hb;by_cases e:b=w.heap.size
   .left;rw[e];exact hw.size
   .rw[if_neg e]at hb;exact hw.mfr b x hb
 .intro k p T cs b hk _ hι;exact fB w ob (nC (hM.own k _ hk) (by rw[hι];rfl))
 .intro b i v hv;have h1:=hw.hsat b i v hv;rw[<-h1];exact World.cell?_of_block (w:=w) (w':=w.alloc ob) (a:=⟨b,i,none⟩) (fB w ob (World.block_lt_of_cell? w ⟨b,i,none⟩ h1))
theorem NQ(hM:aI B ι σ a w){b:Nat}{ob0 ob:Obj}(hm:σ.m b=some ob0):
 aI B ι {σ with m:=λb'=>if b'=b then some ob else σ.m b'} a {w with heap:=w.heap.setIfInBounds b ob}/\∀o,u7 o.op=false->Ea σ ι o w {w with heap:=w.heap.setIfInBounds b ob}:=by
 have hw:=hM.wrel;have hlt:b<w.heap.size:=(Array.getElem?_eq_some_iff.1 (hw.msat _ _ hm)).1
 have hblock:∀b',b'≠b->(w.heap.setIfInBounds b ob)[b']? =w.heap[b']? :=λb' hne=>by
  rw[Array.getElem?_setIfInBounds_ne (Ne.symm hne)]
 have hself:(w.heap.setIfInBounds b ob)[b]? =some ob:=by simp[hlt]
 have hnb:∀k o',nth σ.own k=some (some o')->blk (ι k)≠some b:=by
  intro k o' hk hb;have:=(hM.fresh k o' b hk hb).2.1;rw[hm]at this;cases this
 have hcell:∀b' i v,σ.h b' i=some v->({w with heap:=w.heap.setIfInBounds b ob}:World).cell? ⟨b',i,none⟩=some v:=by
  intro b' i v hv;have hne:b'≠b:=λe=>by subst e;rw[hw.disj b' _ hm i]at hv;cases hv
  have h2:=hw.hsat b' i v hv;rw[<-h2];exact World.cell?_of_block (w:=w) (w':={w with heap:=w.heap.setIfInBounds b ob}) (a:=⟨b',i,none⟩) (hblock b' hne)
 refine⟨⟨hM.slots,hM.defers,λk o' hk=>(hM.own k o' hk).world (λb' hb'=>hblock b' (λe=>hnb k o' hk (e▸hb'))),hM.dist,?_,?_,hM.one⟩,λo hg=>⟨?_,hcell,λh=>(by rw[hg]at h;cases h),λ_ b' _ _ hn _=>hblock b' (λe=>by rw[e,hm]at hn;cases hn)⟩⟩
 .intro k o' b' hk hb';obtain⟨f1,f2,f3⟩:=hM.fresh k o' b' hk hb';refine⟨f1,?_,f3⟩;show(if b'=b then some ob else σ.m b')=none;rw[if_neg (fun(e:b'=b)=>hnb k o' hk (e▸hb'))];exact f2
 .refine⟨hw.tape,hw.os,hw.output,hw.drawn,by simpa using hw.size,?_,hcell,?_,?_,hw.hle,hw.hold,?_⟩
  .intro b' hb' hE
   have hne:b'≠b:=λe=>by
    subst e;rcases hw.mfr b' _ hm with h2|h2
    .omega
    .exact hE h2
   rw[hblock b' hne];exact hw.frame b' hb' hE
  .intro b' x hb';have hb':(if b'=b then some ob else σ.m b')=some x:=hb';by_cases e:b'=b
   .rw[if_pos e]at hb';rw[e, <-hb'];exact hself
   .rw[if_neg e]at hb';rw[hblock b' e];exact hw.msat b' x hb'
  .intro b' x hb' i;have hb':(if b'=b then some ob else σ.m b')=some x:=hb';by_cases e:b'=b
   .rw[e];exact hw.disj b _ hm i
   .rw[if_neg e]at hb';exact hw.disj b' _ hb' i
  .intro b' x hb';have hb':(if b'=b then some ob else σ.m b')=some x:=hb';by_cases e:b'=b
   .rw[e];exact hw.mfr b _ hm
   .rw[if_neg e]at hb';exact hw.mfr b' _ hb'
 .intro k p T cs b' hk _ hι;exact hblock b' (λe=>hnb k _ hk (by rw[hι,e];rfl))
theorem Ki(hM:aI B ι σ a w){t:Nat}{r:Option Operand}(ho:o.op= .makeMap t r)(h:F4 o r σ K):PM B C ι o σ K a w:=by
 intro next Q hnext
 unfold F4 at h;split at h
 .obtain⟨hM1,hun,hk⟩:=U8 hM (.map #[] 0)
  have hrun:(execOp a.eval o).run C.P w= .ok (.value (.map (some w.heap.size))) (w.alloc (.map #[] 0)):=by
   unfold execOp;simp[ho,Instr.makeMap]
  unfold Oper.wp;rw[hrun,Oper.upon_value];exact hnext ι _ _ _ (hM1.put o.dst (x:=.at (.val (.map (some w.heap.size)))) rfl) (h w.heap.size _ hun ⟨by simp,λb' hb'=>by simp[hb']⟩) (hk o)
 .exact h.elim
theorem aI.drew{B:oJ}{ι:Nat->Value}{σ:St}{a:Act}{w:World}(h:aI B ι σ a w)(k:Nat)(hk:w.drawn<=k):aI B ι σ a {w with drawn:=k}:=by
 refine⟨h.slots,h.defers,λj o hj=>(h.own j o hj).world (λ_ _=>rfl),h.dist,h.fresh,?_,h.one⟩;have hw:=h.wrel;exact⟨hw.tape,hw.os,hw.output,Nat.le_trans hw.drawn hk,hw.size,hw.frame,hw.hsat,hw.msat,hw.disj,hw.hle,hw.hold,hw.mfr⟩
theorem sA{α:Type}{l:List α}{j:Nat}{x:α}(h:l[j]? =some x):l=l.take j++x::l.drop (j+1):=by
 have hj:=(List.getElem?_eq_some_iff.1 h).1;have e:=(List.getElem?_eq_some_iff.1 h).2;rw[<-e, <-List.drop_eq_getElem_cons hj,List.take_append_drop]
theorem N4(hM:aI B ι σ a w){t:Nat}{x:Operand}(ho:o.op= .range t x)(h:Mr C o t x σ K):PM B C ι o σ K a w:=by
 intro next Q hnext
 have hev:=hM.ev x;unfold Mr at h;split at h
 .rename_i s hu hx;rw[hx]at hev;have hev:a.eval x= .string s:=hev;obtain⟨hM1,hun,hk⟩:=U8 hM (.stringIter s 0)
  have hrun:(execOp a.eval o).run C.P w= .ok (.value (.pointer (some ⟨w.heap.size,0,none⟩))) (w.alloc (.stringIter s 0)):=by
   unfold execOp;simp[ho,hev,Instr.range,run_underlying hu]
  unfold Oper.wp;rw[hrun,Oper.upon_value];exact hnext ι _ _ _ (hM1.put o.dst (x:=.at (.val (.pointer (some ⟨w.heap.size,0,none⟩)))) rfl) (h w.heap.size _ hun ⟨by simp,λb' hb'=>by simp[hb']⟩) (hk o)
 .rename_i kt et b hu hx;rw[hx]at hev;have hev:a.eval x= .map (some b):=hev;obtain⟨kvs,⟨es,clock,hm,hes,hborn,hnd⟩,h⟩:=h;have hg:=hM.wrel.msat b _ hm;obtain⟨hM1,hun,hk⟩:=U8 hM (.mapIter (some b) clock #[] clock)
  have hrun:(execOp a.eval o).run C.P w= .ok (.value (.pointer (some ⟨w.heap.size,0,none⟩))) (w.alloc (.mapIter (some b) clock #[] clock)):=by
   unfold execOp;simp[ho,hev,Instr.range,run_underlying hu,MapKept.run_getObj_map hg,Result.andThen]
  unfold Oper.wp;rw[hrun,Oper.upon_value];have hne:b≠w.heap.size:=λe=>by have:=(Array.getElem?_eq_some_iff.1 hg).1;omega
  refine hnext ι _ _ _ (hM1.put o.dst (x:=.at (.val (.pointer (some ⟨w.heap.size,0,none⟩)))) rfl) (h w.heap.size _ hun ⟨λb' hb'=>by simp[hb']⟩ ⟨es,clock,clock, #[],clock,?_,hes,hborn,hnd,by simp,hborn,Nat.le_refl _,Nat.le_refl _,?_⟩) (hk o)
  .simp[hne,hm]
  .rw[<-hes];congr 1;exact List.filter_eq_self.2 (λ_ _=>by simp)
 .exact h.elim
theorem Qd(hM:aI B ι σ a w){x:Operand}{st:Bool}(ho:o.op= .next x st)(h:Qe o x st σ K):PM B C ι o σ K a w:=by
 intro next Q hnext
 have hev:=hM.ev x;unfold Qe at h;split at h
 .rename_i b hx;rw[hx]at hev;have hev:a.eval x= .pointer (some ⟨b,0,none⟩):=hev;obtain⟨s,pos,hm,h1,h2⟩:=h;have hg:=hM.wrel.msat b _ hm.at_;by_cases hlt:pos<s.size
  .obtain⟨hM1,hk⟩:=NQ (ob:=.stringIter s (pos+(Utf8.decode s pos).2)) hM hm.at_
   have hrun:(execOp a.eval o).run C.P w= .ok (.value (.tuple #[.bool true,.int .i64 pos,.int .i32 (Utf8.decode s pos).1])) {w with heap:=w.heap.setIfInBounds b (.stringIter s (pos+(Utf8.decode s pos).2))}:=by
    unfold execOp;simp[ho,hev,Instr.next,getObj,setObj,Sem.run,hg,hlt,goInt,Result.andThen]
   unfold Oper.wp;rw[hrun,Oper.upon_value];refine hnext ι _ _ _ (hM1.put o.dst (x:=.tup _) ?_) (h2 hlt _ ⟨by simp,λb' hb'=>by simp[hb']⟩) (hk o (by rw[ho];rfl));exact⟨_,rfl,rfl,rfl,rfl,trivial⟩
  .have hrun:(execOp a.eval o).run C.P w= .ok (.value (.tuple #[.bool false])) w:=by
    unfold execOp;simp[ho,hev,Instr.next,getObj,Sem.run,hg,hlt,Result.andThen]
   unfold Oper.wp;rw[hrun,Oper.upon_value];refine hnext ι _ _ _ (hM.put o.dst (x:=.tup _) ?_) (h1 aC) (jW hM);exact⟨_,rfl,rfl,trivial⟩
 .rename_i r hx;rw[hx]at hev;have hev:a.eval x= .pointer (some ⟨r,0,none⟩):=hev;obtain⟨b,kvs,left,⟨es,clock,since,seen,c0,hmb,hes,hborn,hnd,hmr,hold,hsc,hscl,hleft⟩,h1,h2⟩:=h;have hgb:=hM.wrel.msat b _ hmb;have hgr:=hM.wrel.msat r _ hmr;rcases run_next_at (P:=C.P) w o.type r b since c0 seen es clock hgr hgb hold hsc with⟨h0,hrun⟩|⟨e,he,w1,hw1,hrun⟩
  .have hl:left=[]:=by
    rw[<-hleft];have:(leftOf es seen).toList=[]:=by simpa using h0
    unfold leftOf at this;rw[Array.toList_filter]at this;rw[this];rfl
   have hrun:(execOp a.eval o).run C.P w= .ok (.value (.tuple #[.bool false])) w:=by
    unfold execOp;simp[ho,hev,hrun,Result.andThen]
   unfold Oper.wp;rw[hrun,Oper.upon_value];refine hnext ι _ _ _ (hM.put o.dst (x:=.tup _) ?_) (h1 hl) (jW hM);exact⟨_,rfl,rfl,trivial⟩
  .have hM0:∃n,aI B ι σ a w1/\w1={w with drawn:=n}:=by
    rcases hw1 with rfl|rfl
    .exact⟨w1.drawn,hM,rfl⟩
    .exact⟨w.drawn+1,hM.drew (w.drawn+1) (Nat.le_succ _),rfl⟩
   obtain⟨n,hM0,hw1e⟩:=hM0;obtain⟨hM1,hk⟩:=NQ (ob:=.mapIter (some b) since (seen.push e.born) clock) hM0 hmr
   have hrun:(execOp a.eval o).run C.P w= .ok (.value (.tuple #[.bool true,e.key,e.val])) {w1 with heap:=w1.heap.setIfInBounds r (.mapIter (some b) since (seen.push e.born) clock)}:=by
    unfold execOp;simp[ho,hev,hrun,Result.andThen,ChangeMaps.setBlock]
   have hel:e∈es.toList.filter λe=> !seen.contains e.born:=by
    unfold leftOf at he;rw[Array.toList_filter]at he;exact he
   have hees:e∈es.toList:=(List.mem_filter.1 hel).1;obtain⟨j,hj⟩:=List.getElem?_of_mem hel;have hsp:=sA hj;have hrb:r≠b:=λe=>by rw[e,hmb]at hmr;cases hmr
   have hnd2:(((es.toList.filter λe=> !seen.contains e.born)).map (·.born)).Nodup:=hnd.sublist (List.filter_sublist.map _)
   have hleft2:es.toList.filter (λx=> !(seen.push e.born).contains x.born)=(es.toList.filter λe=> !seen.contains e.born).take j++(es.toList.filter λe=> !seen.contains e.born).drop (j+1):=by
    have h3:es.toList.filter (λx=> !(seen.push e.born).contains x.born)=(es.toList.filter λe=> !seen.contains e.born).filter λx=>x.born !=e.born:=by
     rw[List.filter_filter];congr 1;funext x;simp only[Array.contains_push,Bool.not_or];rw[Bool.and_comm];rfl
    rw[h3];generalize (es.toList.filter λe=> !seen.contains e.born)=L at hsp hnd2 hj;have hlt:=(List.getElem?_eq_some_iff.1 hj).1;generalize L.take j=A at hsp;generalize L.drop (j+1)=D at hsp;subst hsp;simp only[List.map_append,List.map_cons,List.nodup_append,List.nodup_cons,List.mem_map,List.mem_cons]at hnd2;obtain⟨_,⟨hn2,_⟩,hn3⟩:=hnd2;rw[List.filter_append,List.filter_cons];simp only[bne_self_eq_false,Bool.false_eq_true,if_false];congr 1
    .refine List.filter_eq_self.2 λx hx=>?_;simp only[bne_iff_ne,ne_eq]
     exactλh4=>hn3 _ ⟨x,hx,rfl⟩ _ (.inl rfl) h4
    .refine List.filter_eq_self.2 λx hx=>?_;simp only[bne_iff_ne,ne_eq]
     exactλh4=>hn2 ⟨x,hx,h4⟩
   unfold Oper.wp;rw[hrun,Oper.upon_value];have hmb':(if b=r then some (Obj.mapIter (some b) since (seen.push e.born) clock)else σ.m b)=some (.map es clock):=by rw[if_neg (λe=>hrb e.symm)];exact hmb
   refine hnext ι _ _ _ (hM1.put o.dst (x:=.tup _) ?_) (h2 (((es.toList.filter λe=> !seen.contains e.born).take j).map λe=>(e.key,e.val)) (e.key,e.val) (((es.toList.filter λe=> !seen.contains e.born).drop (j+1)).map λe=>(e.key,e.val)) ?_ _ ⟨λb' hb'=>by simp[hb']⟩ ⟨⟨es,clock,since,seen.push e.born,clock,hmb',hes,hborn,hnd,by simp,hold,hscl,hscl,?_⟩,es,clock,since,seen,e,hmb',hnd,by simp,hees,rfl⟩) ?_
   .exact⟨_,rfl,rfl,rfl,rfl,trivial⟩
   .rw[<-hleft]
    conv=>lhs;rw[hsp]
    simp
   .rw[hleft2];simp
   .have:=hk o (by rw[ho];rfl);subst hw1e;exact⟨this.cells,this.imm,this.ext,this.args⟩
 .exact h.elim
theorem Px(hM:aI B ι σ a w){x:Operand}(ho:o.op= .entry x)(h:MY o x σ K):PM B C ι o σ K a w:=by
 intro next Q hnext
 have hev:=hM.ev x;unfold MY at h;split at h
 .rename_i r hx;rw[hx]at hev;have hev:a.eval x= .pointer (some ⟨r,0,none⟩):=hev;obtain⟨b,kvs,left,x,⟨_,es,clock,since,seen,e,hmb,hnd,hmr,he,rfl⟩,h⟩:=h;have hrun:=run_entry_at (P:=C.P) w r b since seen es clock e (hM.wrel.msat r _ hmr) (hM.wrel.msat b _ hmb) he hnd
  have hrun:(execOp a.eval o).run C.P w= .ok (.value (.tuple #[e.key,e.val])) w:=by
   unfold execOp;simp[ho,hev,hrun,Result.andThen]
  unfold Oper.wp;rw[hrun,Oper.upon_value];refine hnext ι _ _ _ (hM.put o.dst (x:=.tup _) ?_) h (jW hM);exact⟨_,rfl,rfl,rfl,trivial⟩
 .exact h.elim
theorem BK{P:Program}{kt:TypeId}{Ok:Value->Prop}(L:KeyLaw P kt Ok){k:Value}(hk:Ok k)(w:World):∀(es:List MapEntry)(i:Nat),(∀e∈es,Ok e.key)->
 ((∀e∈es,e.key≠k)/\(Instr.findAsking kt k es i).run P w= .ok none w)\/∃j e,es[j]? =some e/\e.key=k/\(Instr.findAsking kt k es i).run P w= .ok (some (i+j,e.val)) w
 |[],i,_=>.inl ⟨λe he=>(by cases he),by simp[Instr.findAsking]⟩
 |e::es,i,hes=>by
  obtain⟨r,hr,hrk⟩:=L.eq k e.key w hk (hes e (by simp));cases r with
  |true=>exact .inr ⟨0,e,rfl,(hrk.1 rfl).symm,by simp[Instr.findAsking,hr]⟩
  |false=>
   have hne:e.key≠k:=λh=>by have:=hrk.2 h.symm;cases this
   rcases BK L hk w es (i+1) (λe' he'=>hes e' (by simp[he']))with⟨h1,h2⟩|⟨j,e',h1,h2,h3⟩
   .refine .inl ⟨λe' he'=>?_,by simp[Instr.findAsking,hr,h2]⟩;rcases List.mem_cons.1 he' with rfl|h
    .exact hne
    .exact h1 e' h
   .exact .inr ⟨j+1,e',by simpa using h1,h2,by simp[Instr.findAsking,hr,h3];omega⟩
theorem findNow_spec{P:Program}{kt:TypeId}{Ok:Value->Prop}(L:KeyLaw P kt Ok){d:TypeDesc}(hd:P.underlying kt=some d){k:Value}(hk:Ok k):∀(es:List MapEntry)(i:Nat)(r:Option (Nat×Value)),(∀e∈es,Ok e.key)->
 Instr.findNow d k es i=some r->((∀e∈es,e.key≠k)/\r=none)\/∃j e,es[j]? =some e/\e.key=k/\r=some (i+j,e.val)
 |[],i,r,_,h=>by
  simp[Instr.findNow]at h;exact .inl ⟨λe he=>(by cases he),h.symm⟩
 |e::es,i,r,hes,h=>by
  simp only[Instr.findNow]at h;split at h
  .rename_i hs;simp only[Option.some.injEq]at h;exact .inr ⟨0,e,rfl,((L.now d k e.key true hd hk (hes e (by simp)) hs).1 rfl).symm,by simpa using h.symm⟩
  .rename_i hs;have hne:e.key≠k:=λh'=>by have:=(L.now d k e.key false hd hk (hes e (by simp)) hs).2 h'.symm;cases this
   rcases findNow_spec L hd hk es (i+1) r (λe' he'=>hes e' (by simp[he'])) h with⟨h1,h2⟩|⟨j,e',h1,h2,h3⟩
   .refine .inl ⟨λe' he'=>?_,h2⟩;rcases List.mem_cons.1 he' with rfl|h
    .exact hne
    .exact h1 e' h
   .exact .inr ⟨j+1,e',by simpa using h1,h2,by rw[h3];congr 2;omega⟩
  .cases h
theorem run_findKey{P:Program}{kt:TypeId}{Ok:Value->Prop}(L:KeyLaw P kt Ok){k:Value}(hk:Ok k)(w:World)(es:List MapEntry)(hes:∀e∈es,Ok e.key):
 ((∀e∈es,e.key≠k)/\(Instr.findKey kt k es).run P w= .ok none w)\/∃j e,es[j]? =some e/\e.key=k/\(Instr.findKey kt k es).run P w= .ok (some (j,e.val)) w:=by
 obtain⟨d,hd⟩:=L.under;cases hn:Instr.findNow d k es 0 with
 |some r=>
  have hrun:(Instr.findKey kt k es).run P w= .ok r w:=by simp[Instr.findKey,run_underlying hd,hn]
  rcases findNow_spec L hd hk es 0 r hes hn with⟨h1,rfl⟩|⟨j,e,h1,h2,rfl⟩
  .exact .inl ⟨h1,hrun⟩
  .exact .inr ⟨j,e,h1,h2,by rw[hrun];simp⟩
 |none=>
  have hrun:(Instr.findKey kt k es).run P w=(Instr.findAsking kt k es).run P w:=by simp[Instr.findKey,run_underlying hd,hn]
  rw[hrun];rcases BK L hk w es 0 hes with⟨h1,h2⟩|⟨j,e,h1,h2,h3⟩
  .exact .inl ⟨h1,h2⟩
  .exact .inr ⟨j,e,h1,h2,by rw[h3];simp⟩
theorem Nz{P:Program}{T:TypeId}{z:Value}(h:Ma P T=some z)(w:World):(zeroValue T).run P w= .ok z w:=by
 unfold Ma at h;split at h
 .rename_i i hi;split at h
  .rename_i k n hz;simp only[Option.some.injEq]at h;subst h;simp[zeroValue,typeInfo,hi,hz]
  .rename_i b hz;simp only[Option.some.injEq]at h;subst h;simp[zeroValue,typeInfo,hi,hz]
  .rename_i hz;simp only[Option.some.injEq]at h;subst h;simp[zeroValue,typeInfo,hi,hz]
  .cases h
 .cases h
theorem MK(hM:aI B ι σ a w){t:Nat}{x k:Operand}{ok:Bool}(ho:o.op= .lookup t x k ok)(h:Jd C o t x k ok σ K):PM B C ι o σ K a w:=by
 intro next Q hnext
 have hev:=hM.ev x;unfold Jd at h;split at h
 .rename_i kt et b kv hu hx hkv;rw[hx]at hev;have hev:a.eval x= .map (some b):=hev;have hke:a.eval k=kv:=(hM.ev k).val? hkv;split at h
  .rename_i z hz;obtain⟨kvs,Ok,⟨es,clock,hm,hes⟩,L,hok,hoks,hmiss,hhit⟩:=h;have hg:=hM.wrel.msat b _ hm
   have hmem:∀e∈es.toList,∃p∈kvs,e.key=p.1/\e.val=only ((C.dec et).enc p.2):=by
    intro e he
    have:(e.key,e.val)∈kvs.map λp=>(p.1,only ((C.dec et).enc p.2)):=by
     rw[<-hes];exact List.mem_map.2 ⟨e,he,rfl⟩
    obtain⟨p,hp,e2⟩:=List.mem_map.1 this;simp only[Prod.mk.injEq]at e2;exact⟨p,hp,e2.1.symm,e2.2.symm⟩
   have hall:∀e∈es.toList,Ok e.key:=λe he=>by
    obtain⟨p,hp,e1,_⟩:=hmem e he;rw[e1];exact hoks p hp
   have hchk:=L.check kv w es.isEmpty hok;unfold Oper.wp;rcases run_findKey L hok w es.toList hall with⟨h1,h2⟩|⟨j,e,h1,h2,h3⟩
   .have hrun:(execOp a.eval o).run C.P w= .ok (.value (if ok then .tuple #[z,.bool false]else z)) w:=by
     unfold execOp;simp[ho,hev,hke,Instr.lookup,run_underlying hu,MapKept.run_getObj_map hg,hchk,h2,Nz hz,Result.andThen]
    rw[hrun,Oper.upon_value];refine hnext ι _ _ _ (hM.put o.dst ?_) (hmiss ?_) (jW hM)
    .cases ok
     .rfl
     .exact⟨_,rfl,rfl,rfl,trivial⟩
    .intro p hp e1
     have:(p.1,only ((C.dec et).enc p.2))∈es.toList.map λe=>(e.key,e.val):=by
      rw[hes];exact List.mem_map.2 ⟨p,hp,rfl⟩
     obtain⟨e,he,e2⟩:=List.mem_map.1 this;simp only[Prod.mk.injEq]at e2;exact h1 e he (e2.1.trans e1)
   .have he:e∈es.toList:=List.mem_of_getElem? h1;obtain⟨p,hp,e1,e2⟩:=hmem e he
    have hrun:(execOp a.eval o).run C.P w= .ok (.value (if ok then .tuple #[e.val,.bool true]else e.val)) w:=by
     unfold execOp;simp[ho,hev,hke,Instr.lookup,run_underlying hu,MapKept.run_getObj_map hg,hchk,h3,Result.andThen]
    have hh:=hhit p.2 (by rw[<-h2,e1];exact hp);rw[hrun,Oper.upon_value];split at hh
    .rename_i u hu2;rw[hu2]at e2;refine hnext ι _ _ _ (hM.put o.dst ?_) hh (jW hM);cases ok
     .exact e2
     .exact⟨_,rfl,e2,rfl,trivial⟩
    .exact hh.elim
  .exact h.elim
 .exact h.elim
theorem Hx(hM:aI B ι σ a w){t:Nat}{x k v:Operand}(ho:o.op= .mapUpdate t x k v)(hdst:o.dst=none)(h:yJ C t x k v σ K):PM B C ι o σ K a w:=by
 intro next Q hnext
 have hev:=hM.ev x;unfold yJ at h;split at h
 .rename_i kt et b kv u hu hx hkv hv;rw[hx]at hev;have hev:a.eval x= .map (some b):=hev;have hke:a.eval k=kv:=(hM.ev k).val? hkv;have hve:a.eval v=u:=(hM.ev v).val? hv;obtain⟨kvs,Ok,⟨es,clock,hm,hes⟩,L,hok,hoks,hnew,hK⟩:=h;have hg:=hM.wrel.msat b _ hm;have hmem:∀e∈es.toList,(e.key,e.val)∈kvs:=λe he=>by rw[<-hes];exact List.mem_map.2 ⟨e,he,rfl⟩
  have hall:∀e∈es.toList,Ok e.key:=λe he=>hoks _ (hmem e he);have hchk:=L.check kv w false hok;rcases run_findKey L hok w es.toList hall with⟨h1,h2⟩|⟨j,e,h1,h2,h3⟩
  .obtain⟨hM1,hk⟩:=NQ (ob:=.map (es.push {key:=kv,val:=u,born:=clock}) (clock+1)) hM hm
   have hrun:(execOp a.eval o).run C.P w= .ok .skip {w with heap:=w.heap.setIfInBounds b (.map (es.push {key:=kv,val:=u,born:=clock}) (clock+1))}:=by
    unfold execOp;simp[ho,hev,hke,hve,Instr.mapUpdate,run_underlying hu,MapKept.run_getObj_map hg,MapKept.run_setObj_map _ hg,hchk,h2,Result.andThen]
   unfold Oper.wp;rw[hrun,Oper.upon_skip,show a.put o.dst undef=a by rw[hdst];rfl];refine hnext ι _ _ _ hM1 (hK _ ⟨λb' hb'=>by simp[hb']⟩ ⟨es.push {key:=kv,val:=u,born:=clock},clock+1,by simp,?_⟩) (hk o (by rw[ho];rfl));simp[hes]
  .exact(hnew _ (hmem e (List.mem_of_getElem? h1)) h2).elim
 .exact h.elim
theorem MJ(hM:aI B ι σ a w){t:Nat}{x k v:Operand}(ho:o.op= .mapUpdate t x k v)(hdst:o.dst=none)(h:Fa C t x k v σ K):PM B C ι o σ K a w:=by
 intro next Q hnext
 have hev:=hM.ev x;unfold Fa at h;split at h
 .rename_i kt et b kv u hu hx hkv hv;rw[hx]at hev;have hev:a.eval x= .map (some b):=hev;have hke:a.eval k=kv:=(hM.ev k).val? hkv;have hve:a.eval v=u:=(hM.ev v).val? hv;obtain⟨kvs,Ok,⟨es,clock,hm,hes,hborn,hnd⟩,L,hok,hsame,hoks,hnew,hold⟩:=h;have hg:=hM.wrel.msat b _ hm;have hmem:∀e∈es.toList,(e.key,e.val)∈kvs:=λe he=>by rw[<-hes];exact List.mem_map.2 ⟨e,he,rfl⟩
  have hall:∀e∈es.toList,Ok e.key:=λe he=>hoks _ (hmem e he);have hchk:=L.check kv w false hok;rcases run_findKey L hok w es.toList hall with⟨h1,h2⟩|⟨j,e,h1,h2,h3⟩
  .obtain⟨hM1,hk⟩:=NQ (ob:=.map (es.push {key:=kv,val:=u,born:=clock}) (clock+1)) hM hm
   have hrun:(execOp a.eval o).run C.P w= .ok .skip {w with heap:=w.heap.setIfInBounds b (.map (es.push {key:=kv,val:=u,born:=clock}) (clock+1))}:=by
    unfold execOp;simp[ho,hev,hke,hve,Instr.mapUpdate,run_underlying hu,MapKept.run_getObj_map hg,MapKept.run_setObj_map _ hg,hchk,h2,Result.andThen]
   unfold Oper.wp;rw[hrun,Oper.upon_skip,show a.put o.dst undef=a by rw[hdst];rfl];refine hnext ι _ _ _ hM1 (hnew (λp hp e1=>?_) _ ⟨λb' hb'=>by simp[hb']⟩ ⟨es.push {key:=kv,val:=u,born:=clock},clock+1,by simp,by simp[hes],λe he=>?_,?_⟩) (hk o (by rw[ho];rfl))
   .rw[<-hes]at hp;obtain⟨e,he,rfl⟩:=List.mem_map.1 hp;exact h1 e he e1
   .rw[Array.toList_push,List.mem_append,List.mem_singleton]at he;rcases he with he|rfl
    .have:=hborn e he;omega
    .exact Nat.lt_succ_self _
   .rw[Array.toList_push,List.map_append,List.nodup_append];refine⟨hnd,by simp,λx hx y hy e1=>?_⟩;obtain⟨e,he,rfl⟩:=List.mem_map.1 hx;simp at hy;have:=hborn e he;omega
  .have hjlt:=(List.getElem?_eq_some_iff.1 h1).1;have hje:es[j]? =some e:=by rw[<-Array.getElem?_toList];exact h1
   obtain⟨hM1,hk⟩:=NQ (ob:=.map (es.modify j λe=>{e with key:=kv,val:=u}) clock) hM hm
   have hrun:(execOp a.eval o).run C.P w= .ok .skip {w with heap:=w.heap.setIfInBounds b (.map (es.modify j λe=>{e with key:=kv,val:=u}) clock)}:=by
    unfold execOp;simp[ho,hev,hke,hve,Instr.mapUpdate,run_underlying hu,MapKept.run_getObj_map hg,MapKept.run_setObj_map _ hg,hchk,h3,hje,h2,Instr.keyThatStays,hsame,Result.andThen]
   have hlist:(es.modify j λe=>{e with key:=kv,val:=u}).toList=es.toList.take j++{e with key:=kv,val:=u}::es.toList.drop (j+1):=by
    rw[Array.toList_modify,List.modify_eq_take_cons_drop hjlt];congr 2;have:=(List.getElem?_eq_some_iff.1 h1).2;rw[this]
   have hsp:=sA h1;unfold Oper.wp;rw[hrun,Oper.upon_skip,show a.put o.dst undef=a by rw[hdst];rfl];refine hnext ι _ _ _ hM1 (hold ((es.toList.take j).map λe=>(e.key,e.val)) e.val ((es.toList.drop (j+1)).map λe=>(e.key,e.val)) ?_ _ ⟨λb' hb'=>by simp[hb']⟩ ⟨es.modify j λe=>{e with key:=kv,val:=u},clock,by simp,?_,?_,?_⟩) (hk o (by rw[ho];rfl))
   .rw[<-hes]
    conv=>lhs;rw[hsp]
    simp[h2]
   .rw[hlist];simp
   .intro x hx;rw[hlist]at hx;rw[hsp]at hborn;rcases List.mem_append.1 hx with hx|hx
    .exact hborn x (List.mem_append_left _ hx)
    .rcases List.mem_cons.1 hx with rfl|hx
     .exact hborn e (List.mem_append_right _ (List.mem_cons_self ..))
     .exact hborn x (List.mem_append_right _ (List.mem_cons_of_mem _ hx))
   .rw[hlist];rw[hsp]at hnd;simpa using hnd
 .exact h.elim
end
end Go.Vc
namespace Go.Vc
open Go
section
variable{B:oJ}{C:Ctx}{ι:Nat->Value}{σ:St}{a:Act}{w:World}{o:Oper}{K:St->Prop}
theorem U7(hM:aI B ι σ a w)(hr:Bd o.op=true)(h:Mw C o σ K):Nl C ι o σ K a w:=by
 unfold Mw at h;cases ho:o.op<;>simp only[ho]at h hr
 case move x=>exact Jb hM (.inl ho) h
 case assign x=>exact Jb hM (.inr ho) h
 case pick c x y=>exact P9 hM ho h
 case build T ps=>exact PE hM ho h
 case load T x=>exact Qg hM ho h
 case nilCheck x=>exact IX hM ho h
 case binOp op tx x y ty=>
  cases op
  case eql=>
   simp only at h;split at h
   .exact BJ (neg:=false) hM ho h
   .exact jA hM (λcs b=>by rw[ho];intro e;cases e) h
  case neq=>
   simp only at h;split at h
   .exact BJ (neg:=true) hM ho h
   .exact jA hM (λcs b=>by rw[ho];intro e;cases e) h
  case add=>exact M3 hM ho h
  all_goals first
   |exact jA hM (λcs b=>by rw[ho];intro e;cases e) h
   |exact UA hM ho h
 case unOp op t x=>exact jA hM (λcs b=>by rw[ho];intro e;cases e) h
 case convert s d x=>exact Kl hM ho h
 case fieldAddr T x f=>exact HA hM ho h
 case field T x f=>exact Ox hM ho h
 case indexAddr T x i=>exact Hz hM ho h
 case index T x i=>exact Oo hM ho h
 case extract x i=>exact Kk hM ho h
 case call c=>
  obtain⟨callee,args,argTypes⟩:=c;cases callee with
  |builtin b=>
   cases b<;>simp only[Bd,Bool.false_eq_true]at hr
   case len=>
    simp only at h;split at h
    .rename_i x hx;exact TE hM ho rfl hx h
    .exact h.elim
   case min=>exact jA hM (λcs b=>by rw[ho];intro e;cases e) h
   case max=>exact jA hM (λcs b=>by rw[ho];intro e;cases e) h
  |value f=>simp[Bd]at hr
  |invoke r n=>simp[Bd]at hr
 all_goals (first|exact h.elim|(simp[Bd]at hr))
theorem Nl.stp(hM:aI B ι σ a w)(h:Nl C ι o σ K a w):PM B C ι o σ K a w:=by
 intro next Q hnext
 obtain⟨v,x,hrun,hx,hK⟩:=h;unfold Oper.wp;rw[hrun w (.inr rfl),Oper.upon_value];exact hnext ι _ _ _ (hM.put o.dst hx) hK (jW hM)
theorem Ob(hspecs:∀g S,assoc C.specs g=some S->Sound C.P g S)(hM:aI B ι σ a w)(h:Mw C o σ K):PM B C ι o σ K a w:=by
 cases hr:Bd o.op with
 |true=>exact(U7 hM hr h).stp hM
 |false=>
  unfold Mw at h;cases ho:o.op<;>simp only[ho]at h hr
  case alloc T=>
   intro next Q hn
   refine PI hM ho h next Q (λι' σ' a' w' hM' h' hk=>?_)
   obtain⟨σ2,hM2,hK2,_⟩:=sQ _ _ hM' h';exact hn ι' σ2 a' w' hM2 hK2 hk
  case box T x=>
   split at h
   .intro next Q hn
    obtain⟨τ,hMτ,hK,hfz⟩:=kT _ _ hM h;refine LS hMτ ho hK next Q (λι' σ' a' w' hM' h' hk=>?_)
    obtain⟨σ2,hM2,hK2,_⟩:=sQ _ _ hM' h';exact hn ι' σ2 a' w' hM2 hK2 (hk.of_fz hfz)
   .exact LS hM ho h
  case buildSlice T n ps=>
   intro next Q hn
   refine GP hM ho h next Q (λι' σ' a' w' hM' h' hk=>?_)
   obtain⟨σ2,hM2,hK2,_⟩:=zG _ _ hM' h';obtain⟨σ3,hM3,hK3,_⟩:=kT _ _ hM2 hK2;exact hn ι' σ3 a' w' hM3 hK3 hk
  case makeFunc f x cs=>
   intro next Q hn
   obtain⟨τ,hMτ,hK,hld⟩:=sQ _ _ hM h;obtain⟨v,x,hrun,hx,hK⟩:=jA hMτ (λcs b=>by rw[ho];intro e;cases e) hK;unfold Oper.wp;rw[hrun w (.inr rfl),Oper.upon_value];exact hn ι _ _ _ (hMτ.put o.dst hx) hK (jW hM)
  case store T x v=>
   cases hd:o.dst with
   |none=>
    rw[hd]at h;intro next Q hn
    obtain⟨τ,hMτ,hK,hfz⟩:=kT _ _ hM h;exact NJ hMτ ho hd hK next Q (λι' σ' a' w' hM' h' hk=>hn ι' σ' a' w' hM' h' (hk.of_fz hfz))
   |some d=>rw[hd]at h;exact h.elim
  case makeSlice T l c=>
   intro next Q hn
   refine Hy hM ho h next Q (λι' σ' a' w' hM' h' hk=>?_)
   obtain⟨σ2,hM2,hK2,_⟩:=zG _ _ hM' h';exact hn ι' σ2 a' w' hM2 hK2 hk
  case slice T x lo hi mx=>exact NP hM ho h
  case makeMap T r=>exact Ki hM ho h
  case lookup T x k ok=>exact MK hM ho h
  case mapUpdate T x k v=>
   cases hd:o.dst with
   |none=>
    rw[hd]at h;have h:(match MG C.heapT 400000 with|true=>Fa C T x k v σ K|false=>yJ C T x k v σ K):=h;split at h
    .exact MJ hM ho hd h
    .exact Hx hM ho hd h
   |some d=>rw[hd]at h;exact h.elim
  case range T x=>exact N4 hM ho h
  case next x b=>exact Qd hM ho h
  case entry x=>exact Px hM ho h
  case call c=>
   obtain⟨callee,args,argTypes⟩:=c;cases callee with
   |builtin b=>
    cases b<;>simp only[Bd,Bool.true_eq_false]at hr<;>simp only at h
    case append=>
     split at h
     .rename_i x y T tx hx ht;intro next Q hn
      refine M7 hM ho rfl hx ht h next Q (λι' σ' a' w' hM' h' hk=>?_)
      obtain⟨σ3,hM3,hK3,_⟩:=kT _ _ hM' h';exact hn ι' σ3 a' w' hM3 hK3 hk
     .exact h.elim
    case cap=>exact(jA hM (λcs b=>by rw[ho];intro e;cases e) h).stp hM
    all_goals exact h.elim
   |value g=>
    simp only at h;split at h
    .rename_i f fs cs hg;split at h
     .rename_i hfs hcs;exact RO hspecs hM ho rfl hg hfs hcs h
     .exact h.elim
    .exact h.elim
   |invoke r n=>exact h.elim
  all_goals (first|exact h.elim|(simp[Bd]at hr))
theorem Iw(hM:aI B ι σ a w){d:Nat}{xs:Array Value}(h:σ.ev (.tmp d)= .at (.val (.tuple xs))):a.tmps[d]? =none\/∃xs,a.tmps[d]? =some (.tuple xs):=by
 have hev:=hM.ev (.tmp d);rw[h]at hev;have hev:a.eval (.tmp d)= .tuple xs:=hev;simp only[Act.eval,Array.getD_eq_getD_getElem?]at hev;cases hd:a.tmps[d]? with
 |none=>exact .inl rfl
 |some v=>rw[hd]at hev;simp at hev;exact .inr ⟨xs,by rw[hev]⟩
theorem DH(hM:aI B ι σ a w){d:Nat}{t:Bool}(h:σ.ev (.tmp d)= .at (.val (.bool t))):a.tmps[d]? =some (.bool t):=by
 have hev:=hM.ev (.tmp d);rw[h]at hev;have hev:a.eval (.tmp d)= .bool t:=hev;simp only[Act.eval,Array.getD_eq_getD_getElem?]at hev;cases hd:a.tmps[d]? with
 |none=>rw[hd]at hev;simp[undef]at hev
 |some v=>rw[hd]at hev;simp at hev;rw[hev]
theorem aI.setTmp(hM:aI B ι σ a w){c:Operand}{t:Bool}(h:σ.ev c= .at (.val (.bool t))):aI B ι (setTmp σ c t) a w:=by
 cases c with
 |tmp d=>
  refine⟨?_,hM.defers,hM.own,hM.dist,hM.fresh,hM.wrel,hM.one⟩;have ht:=DH hM h;have:=hM.slots.set d (x:=.at (.val (.bool t))) (v:=.bool t) rfl;show DenS ι (σ.sl.set d _) a.tmps.toList
  have e:a.tmps.toList.set d (.bool t)=a.tmps.toList:=by
   apply List.ext_getElem?;intro j;rw[List.getElem?_set];split
   .rename_i hj;subst hj;rw[Array.getElem?_toList,ht];split
    .rfl
    .rename_i hlt;simp at hlt;rw[Array.getElem?_eq_none hlt]at ht;cases ht
   .rfl
  rw[e]at this;exact this
 |const v=>exact hM
 |global g=>exact hM
 |func f=>exact hM
theorem KO{c:Operand}{t:Bool}(h:σ.ev c= .at (.val (.bool t))):Fz σ (setTmp σ c t):=by
 cases c with
 |tmp d=>
  refine⟨λ_ _ _ cs h=>⟨cs,h⟩,λ_ _ _ h=>h,?_,?_,rfl⟩
  .intro x k off hx;cases x with
   |tmp e=>
    simp only[Vc.setTmp,St.ev,tA]at hx;simp only[St.ev];by_cases he:e=d/\d<σ.sl.length
    .rw[if_pos he]at hx;cases hx
    .rw[if_neg he]at hx;exact hx
   |const v=>exact hx
   |global g=>exact hx
   |func f=>exact hx
  .intro x k hx;cases x with
   |tmp e=>
    simp only[Vc.setTmp,St.ev,tA]at hx;simp only[St.ev];by_cases he:e=d/\d<σ.sl.length
    .rw[if_pos he]at hx;cases hx
    .rw[if_neg he]at hx;exact hx
   |const v=>exact hx
   |global g=>exact hx
   |func f=>exact hx
 |const v=>exact Fz.refl σ
 |global g=>exact Fz.refl σ
 |func f=>exact Fz.refl σ
def Zu(C:Ctx)(ops:Array Oper)(o:Oper)(a:Act)(w:World)(next:Act->World->Prop)(Q:Exit->Act->World->Prop):Prop:=
 if Region.wanted o (yielded ops a.tmps)then o.wp C.P a w next Q else next (a.put o.dst undef) w
theorem Kr{ops:Array Oper}{j d:Nat}{want t:Bool}{g:Oper}(hg:o.guard=some (j,want))(hj:nth ops.toList j=some g)(hd:g.dst=some d)(ht:a.tmps[d]? =some (.bool t)):
 Region.wanted o (yielded ops a.tmps)=(t==want):=by
 unfold Region.wanted;rw[hg];rw[iK,Array.getElem?_toList]at hj;simp[yielded,hj,hd,ht]
theorem Ec{ops:Array Oper}{j d:Nat}{want:Bool}{g:Oper}(hg:o.guard=some (j,want))(hj:nth ops.toList j=some g)(hd:g.dst=some d)(ht:a.tmps[d]? =none\/∃xs,a.tmps[d]? =some (.tuple xs)):
 Region.wanted o (yielded ops a.tmps)=false:=by
 unfold Region.wanted;rw[hg];rw[iK,Array.getElem?_toList]at hj;rcases ht with ht|⟨xs,ht⟩<;>simp[yielded,hj,hd,ht]
theorem Cf{f:Oper->St->(St->Prop)->Prop}{ops:Array Oper}(hM:aI B ι σ a w)(h:Jk f ops o σ K):
 ∃σ1,aI B ι σ1 a w/\Fz σ σ1/\((Region.wanted o (yielded ops a.tmps)=true/\f o σ1 K)\/(Region.wanted o (yielded ops a.tmps)=false/\K (σ1.put o.dst (.at (.val undef))))):=by
 unfold Jk at h;split at h
 .rename_i hg;exact⟨σ,hM,Fz.refl σ,.inl ⟨by simp[Region.wanted,hg],h⟩⟩
 .rename_i j want hg;split at h
  .exact h.elim
  .rename_i g hj;split at h
   .exact h.elim
   .rename_i d hd;split at h
    .rename_i t ht;have htm:=DH hM ht;have hw:=Kr (o:=o) (a:=a) hg hj hd htm;rcases qF h with⟨rfl,h⟩|⟨rfl,h⟩
     .refine⟨setTmp σ (.tmp d) true,hM.setTmp ht,KO ht,?_⟩;cases want with
      |true=>exact .inl ⟨by simpa using hw,h⟩
      |false=>exact .inr ⟨by simpa using hw,h⟩
     .refine⟨setTmp σ (.tmp d) false,hM.setTmp ht,KO ht,?_⟩;cases want with
      |true=>exact .inr ⟨by simpa using hw,h⟩
      |false=>exact .inl ⟨by simpa using hw,h⟩
    .rename_i xs ht;exact⟨σ,hM,Fz.refl σ,.inr ⟨Ec hg hj hd (Iw hM ht),h⟩⟩
    .exact h.elim
theorem Ot(hspecs:∀g S,assoc C.specs g=some S->Sound C.P g S){ops:Array Oper}(hM:aI B ι σ a w)(h:MU C ops o σ K)
 (next:Act->World->Prop)(Q:Exit->Act->World->Prop)(hnext:∀ι' σ' a' w',aI B ι' σ' a' w'->K σ'->Ea σ ι o w w'->next a' w'):Zu C ops o a w next Q:=by
 obtain⟨σ1,hM1,hfz,hc⟩:=Cf hM h;unfold Zu;rcases hc with⟨hw,h⟩|⟨hw,h⟩
 .rw[if_pos hw];exact Ob hspecs hM1 h next Q (λι' σ' a' w' h1 h2 h3=>hnext ι' σ' a' w' h1 h2 (h3.of_fz hfz))
 .rw[if_neg (by simp[hw])];exact hnext ι _ _ _ (hM1.put o.dst (x:=.at (.val undef)) rfl) h (jW hM)
theorem It{P:Program}{next:Act->World->Prop}{Q:Exit->Act->World->Prop}(h:o.wp P a w next Q):o.wpIn Fence.wide 0 P a w next Q:=by
 refine⟨λ_ _=>trivial,?_⟩;show o.uponIn Fence.wide 0 P a next Q ((execOp a.eval o).run P w)
 unfold Oper.wp at h;cases hr:(execOp a.eval o).run P w with
 |ok x w'=>
  rw[hr]at h;cases x with
  |value v=>exact h
  |skip=>exact h
  |defer d=>exact h
  |enter f args=>exact⟨λe=>by simp[Fence.wide]at e,callsIn_wide.2 h⟩
  |row r args=>
   refine⟨λe=>by simp[Fence.wide]at e,λc cs _=>?_⟩;obtain⟨v,w2,hv,hs⟩:=h c cs;exact⟨v,w2,hv,stepsIn_wide.2 hs⟩
  |_=>exact h.elim
 |halt x w'=>
  rw[hr]at h;cases x with
  |panic v=>exact h
  |_=>exact h.elim
def Wj(B:oJ)(C:Ctx)(o:Oper)(K:St->Prop)(a:Act)(w:World):Prop:=
 ∀(next:Act->World->Prop)(Q:Exit->Act->World->Prop),(∀ι' σ' a' w',aI B ι' σ' a' w'->K σ'->next a' w')->o.wpIn Fence.wide 0 C.P a w next Q
theorem Cp(hM:aI B ι σ a w):∀(i:Nat)(l:List Operand)(ts:List TypeId)(cvs:List CV),oI C.P σ [] i l ts=some cvs->cvs=(l.map a.eval).map .val
 |i,[],ts,cvs,h=>by simp[oI]at h;subst h;rfl
 |i,x::r,ts,cvs,h=>by
  simp only[oI]at h;split at h
  .cases h
  .rename_i rest hrest;have ih:=Cp hM (i+1) r ts.tail rest hrest;simp only[List.contains_nil]at h;split at h
   .rename_i u hu;simp only[Option.some.injEq]at h;subst h;simp only[List.map_cons,(hM.ev x).val? hu,ih]
   .cases h
theorem NA(hM:aI B ι σ a w){c:Call}{g:Operand}{l:Nat}{fs cs:Array Value}(ho:o.op= .call c)(hc:c.callee= .value g)
 (hg:σ.ev g= .at (.val (.func (.yield l) fs cs)))(hfs:fs.toList=[])(hcs:cs.toList=[])(h:Mc C o (.func (.yield l) #[] #[]) c.args.toList σ K):Wj B C o K a w:=by
 intro next Q hnext
 unfold Mc at h;split at h
 .exact h.elim
 .rename_i S hS;split at h
  .rename_i cvs hcvs;obtain⟨hY,h⟩:=h;have hv:=Cp hM 0 _ _ _ hcvs;subst hv;have hw:=hM.wrel;obtain⟨fn,tmps,assign,body,hrun,hround⟩:=hY.go l _ σ.m σ.h w _ h ⟨hw.hsat,hw.msat,hw.disj⟩;have hev:a.eval g= .func (.yield l) fs cs:=by have:=hM.ev g;rw[hg]at this;exact this
   have hfs':fs= #[]:=by apply Array.toList_inj.1;simpa using hfs
   have hcs':cs= #[]:=by apply Array.toList_inj.1;simpa using hcs
   subst hfs' hcs';have hargsA:c.args.map a.eval=(c.args.toList.map a.eval).toArray:=by apply Array.toList_inj.1;simp
   have hrun2:(execOp a.eval o).run C.P w= .ok (.round l fn tmps assign body) w:=by
    unfold execOp;simp only[ho,resolve,hc,hev,Deferred.ofValue,Sem.run_bind,Sem.run_pure,Result.andThen_ok,invoke];simp[hargsA,hrun]
   refine⟨λ_ _=>trivial,?_⟩;show o.uponIn Fence.wide 0 C.P a next Q ((execOp a.eval o).run C.P w)
   rw[hrun2,Oper.uponIn_round];refine⟨λe=>by simp[Fence.wide]at e,hround.mono ?_⟩;rintro e w' ⟨u,m',h',rfl,hK,hf⟩;show next (a.put o.dst u) w'
   have hwr:zI ⟨w,λb=>σ.m b≠none,σ.h,[]⟩ m' h' w':=
    ⟨hf.tape,hf.os,hf.output,hf.drawn,hf.size,λb hb hn=>hf.frame b hb (Classical.byContradiction hn),hf.heapy.hsat,hf.heapy.msat,hf.heapy.disj,hf.hle.le,λb hb hn=>hf.hold b hb (Classical.byContradiction hn),λb ob hb=>hf.mfr b ob hb⟩
   have hM2:=hM.called hwr (λb hb=>by
    cases hm:σ.m b with
    |none=>exact(hb hm).elim
    |some ob=>exact hw.mfr b ob hm) (λj o' b hj hb hn=>hn (hM.fresh j o' b hj hb).2.1)
   exact hnext ι _ _ _ (hM2.put o.dst (x:=.at (.val u)) rfl) hK
  .exact h.elim
theorem TB(hspecs:∀g S,assoc C.specs g=some S->Sound C.P g S)(hM:aI B ι σ a w)(h:Sk C o σ K):Wj B C o K a w:=by
 have old:Mw C o σ K->Wj B C o K a w:=λh next Q hn=>It (Ob hspecs hM h next Q (λι' σ' a' w' h1 h2 _=>hn ι' σ' a' w' h1 h2))
 unfold Sk at h;split at h
 .rename_i c ho;split at h
  .rename_i g hc;split at h
   .rename_i l fs cs hg;split at h
    .rename_i hfs hcs;exact NA hM ho hc hg hfs hcs h
    .exact h.elim
   .exact old h
  .exact old h
 .exact old h
theorem Kj(hspecs:∀g S,assoc C.specs g=some S->Sound C.P g S){ops:Array Oper}(hM:aI B ι σ a w)(h:Jk (Sk C) ops o σ K)
 (next:Act->World->Prop)(Q:Exit->Act->World->Prop)(hnext:∀ι' σ' a' w',aI B ι' σ' a' w'->K σ'->next a' w'):
 if Region.wanted o (yielded ops a.tmps)then o.wpIn Fence.wide 0 C.P a w next Q else(∀f,o.about C.P w a.eval=some f->Fence.wide.fn f)/\next (a.put o.dst undef) w:=by
 obtain⟨σ1,hM1,hfz,hc⟩:=Cf hM h;rcases hc with⟨hw,h⟩|⟨hw,h⟩
 .rw[if_pos hw];exact TB hspecs hM1 h next Q hnext
 .rw[if_neg (by simp[hw])];exact⟨λ_ _=>trivial,hnext ι _ _ _ (hM1.put o.dst (x:=.at (.val undef)) rfl) h⟩
theorem DK(hspecs:∀g S,assoc C.specs g=some S->Sound C.P g S){ops:Array Oper}{Q:Exit->Act->World->Prop}{R:St->Prop}{rest:List Nat}(hQ:∀ι σ a w,aI B ι σ a w->R σ->wpOpsIn Fence.wide 0 C.P ops Q rest a w):
 ∀(l:List Oper)(s:Nat)(ι:Nat->Value)(σ:St)(a:Act)(w:World),(∀j,j<l.length->l[j]? =ops.toList[s+j]?)->aI B ι σ a w->Sd C ops l σ R->wpOpsIn Fence.wide 0 C.P ops Q (List.range' s l.length++rest) a w
 |[],s,ι,σ,a,w,_,hM,h=>hQ ι σ a w hM h
 |o::l,s,ι,σ,a,w,hl,hM,h=>by
  have ho:ops[s]? =some o:=by have:=hl 0 (by simp);simp at this;exact this.symm
  simp only[List.length_cons,List.range'_succ,List.cons_append,wpOpsIn,ho]
  exact Kj hspecs hM h (wpOpsIn Fence.wide 0 C.P ops Q (List.range' (s+1) l.length++rest)) Q (λι' σ' a' w' h1 h2=>
   DK hspecs hQ l (s+1) ι' σ' a' w' (λj hj=>by have:=hl (j+1) (by simp;omega);simp only[List.getElem?_cons_succ]at this;rw[this];congr 1;omega) h1 h2)
end
end Go.Vc
namespace Go.Vc
open Go
def Yd(P:Program)(ops:Array Oper)(w:World)(o:Oper)(v:Value)(a:Act):Prop:=
 (Region.wanted o (yielded ops a.tmps)=true/\(execOp a.eval o).run P w= .ok (.value v) w)\/(Region.wanted o (yielded ops a.tmps)=false/\v=undef)
def Zw(ops:Array Oper)(ok:Oper)(i:Nat):Prop:=waits ok i=true\/∃j oj,ops[j]? =some oj/\waits ok j=true/\waits oj i=true
def RU(ops:Array Oper)(oi:Oper):Prop:=∀(k:Nat)(ok:Oper)(d:Nat),ops[k]? =some ok->ok.dst=some d->d∈oi.looksAt ops->waits oi k=true
structure Wx(ops:Array Oper)(i:Nat)(oi:Oper):Prop where
 mv:W2 oi.op=true
 look:∀(k:Nat)(ok:Oper)(d:Nat),ops[k]? =some ok->ok.dst=some d->d∈oi.looksAt ops->Zw ops ok i
structure Yj(ops:Array Oper):Prop where
 look:∀(i:Nat)(oi:Oper),ops[i]? =some oi->RU ops oi\/Wx ops i oi
 dst:∀(i k:Nat)(oi ok:Oper)(d:Nat),ops[i]? =some oi->ops[k]? =some ok->ok.dst=some d->i≠k->oi.dst≠some d
 topo:∀(i:Nat)(oi:Oper)(k:Nat),ops[i]? =some oi->waits oi k=true->k<i
 sel:∀(j:Nat)(o:Oper) cs b,ops[j]? =some o->o.op≠ .select cs b
theorem Zw.in_{ops:Array Oper}{ok:Oper}{i:Nat}{L:Array Bool}(h:Zw ops ok i)(hk:∀j,waits ok j=true->L.getD j false=true)(hL:∀(j:Nat)(oj:Oper),ops[j]? =some oj->L.getD j false=true->∀k,waits oj k=true->L.getD k false=true):L.getD i false=true:=by
 rcases h with h|⟨j,oj,hj,h1,h2⟩
 .exact hk i h
 .exact hL j oj hj (hk j h1) i h2
theorem Yj.self{ops:Array Oper}(hs:Yj ops){k:Nat}{o:Oper}(ho:ops[k]? =some o):∀d,o.dst=some d->d∉o.looksAt ops:=λd hd hm=>by
 rcases hs.look k o ho with h|h
 .have:=hs.topo k o k ho (h k o d ho hd hm);omega
 .rcases h.look k o d ho hd hm with h1|⟨j,oj,hj,h1,h2⟩
  .have:=hs.topo k o k ho h1;omega
  .have:=hs.topo k o j ho h1;have:=hs.topo j oj k hj h2;omega
theorem U9{P:Program}{o:Oper}(h:W2 o.op=true):u6 P o=false:=by
 unfold u6;cases e:o.op<;>simp_all [W2]
theorem FL{o:Oper}{k:Nat}:waits o k=true↔∃e∈o.after,Region.binds .any e=true/\e.on=k:=by
 unfold waits;rw[List.any_eq_true];constructor
 .rintro⟨e,he,h⟩;simp only[Bool.and_eq_true]at h;exact⟨e,by simpa using he,h.1,Nat.eq_of_beq_eq_true h.2⟩
 .rintro⟨e,he,h1,h2⟩;exact⟨e,by simpa using he,by simp[h1,h2]⟩
theorem UW{ops:Array Oper}(h:YF ops=true)(hs:Region.noSelect ops=true):Yj ops:=by
 unfold YF at h;simp only[List.all_eq_true,List.mem_range]at h;have lt:∀{i:Nat}{oi:Oper},ops[i]? =some oi->i<ops.toList.length:=λhi=>by have:=(Array.getElem?_eq_some_iff.1 hi).1;simpa using this
 refine⟨?_,?_,?_,Region.noSelect_spec hs⟩
 .intro i oi hi;have h1:=h i (lt hi);rw[iK,Array.getElem?_toList,hi]at h1;simp only[Bool.and_eq_true,Bool.or_eq_true,List.all_eq_true,List.mem_range]at h1;rcases h1.2 with h2|⟨hm,h2⟩
  .refine .inl λk ok d hk hd hl=>?_;have h3:=h2 k (lt hk);rw[iK,Array.getElem?_toList,hk]at h3;simp only[hd,Bool.or_eq_true,Bool.not_eq_true',List.contains_eq_mem,decide_eq_false_iff_not]at h3;rcases h3 with h3|h3
   .exact(h3 hl).elim
   .exact h3
  .refine .inr ⟨hm,λk ok d hk hd hl=>?_⟩;have h3:=h2 k (lt hk);rw[iK,Array.getElem?_toList,hk]at h3;simp only[hd,Bool.or_eq_true,Bool.not_eq_true',List.contains_eq_mem,decide_eq_false_iff_not]at h3;rcases h3 with h3|h3
   .exact(h3 hl).elim
   .unfold Zd at h3;simp only[Bool.or_eq_true,List.any_eq_true,Bool.and_eq_true]at h3;rcases h3 with h3|⟨⟨oj,j⟩,hj,h4,h5⟩
    .exact .inl h3
    .refine .inr ⟨j,oj,?_,h4,h5⟩;have:=List.mem_zipIdx_iff_getElem?.1 hj;simpa using this
 .intro i k oi ok d hi hk hd hne;have h1:=h i (lt hi);rw[iK,Array.getElem?_toList,hi]at h1;simp only[Bool.and_eq_true,List.all_eq_true,List.mem_range]at h1;have h3:=h1.1.2 k (lt hk);rw[iK,Array.getElem?_toList,hk]at h3;simp only[hd,Bool.or_eq_true]at h3;rcases h3 with h3|h3
  .exact(hne (Nat.eq_of_beq_eq_true h3)).elim
  .simpa using h3
 .intro i oi k hi hw;have hil:i<ops.toList.length:=by have:=(Array.getElem?_eq_some_iff.1 hi).1;simpa using this
  have h1:=h i hil;rw[iK,Array.getElem?_toList,hi]at h1;simp only[Bool.and_eq_true,List.all_eq_true]at h1;obtain⟨e,he,hb,rfl⟩:=FL.1 hw;have:=h1.1.1 e (by simpa using he);simp only[hb,Bool.not_true,Bool.false_or]at this;rw[<-Nat.blt_eq];exact this
theorem qE{ops:Array Oper}{listed:Array Bool}{j:Nat}:j∈Region.ready .any ops listed↔listed.getD j true=false/\∃o,ops[j]? =some o/\∀k,waits o k=true->listed.getD k false=true:=by
 rw[mem_ready];constructor
 .rintro⟨h1,o,ho,h2⟩;refine⟨h1,o,ho,λk hk=>?_⟩;obtain⟨e,he,hb,rfl⟩:=FL.1 hk;exact h2 e he hb
 .rintro⟨h1,o,ho,h2⟩;exact⟨h1,o,ho,λe he hb=>h2 e.on (FL.2 ⟨e,he,hb,rfl⟩)⟩
theorem Ii{l:Array Bool}{i:Nat}(h:l.getD i true=false):l.getD i false=false/\i<l.size:=by
 by_cases hi:i<l.size
 .simp[Array.getD,hi]at h⊢;exact h
 .simp[Array.getD,hi]at h
theorem oZ{l:Array Bool}{i:Nat}(h:i<l.size):(l.setIfInBounds i true).getD i false=true:=by
 simp[Array.getD,h]
theorem D4{ops:Array Oper}{o:Oper}{ar ac:Act}(hs:∀cs b,o.op≠ .select cs b)(h:∀t∈o.looksAt ops,ar.tmps[t]? =ac.tmps[t]?):
 execOp ar.eval o=execOp ac.eval o/\Region.wanted o (yielded ops ar.tmps)=Region.wanted o (yielded ops ac.tmps):=by
 constructor
 .refine execOp_congr o hs λx hx=>?_;cases x with
  |tmp t=>
   have:t∈o.looksAt ops:=List.mem_append_left _ (List.mem_filterMap.2 ⟨.tmp t,by simpa using hx,rfl⟩);simp only[Act.eval,Array.getD_eq_getD_getElem?,h t this]
  |const v=>rfl
  |global g=>rfl
  |func f=>rfl
 .unfold Region.wanted;split
  .rfl
  .rename_i j want hg
   have:yielded ops ar.tmps j=yielded ops ac.tmps j:=by
    unfold yielded;cases hd:(ops[j]?).bind (·.dst)with
    |none=>rfl
    |some d=>
     have hm:d∈o.looksAt ops:=by
      unfold Oper.looksAt;refine List.mem_append_right _ ?_;simp[hg,hd]
     simp only[Option.bind_some,h d hm]
   rw[this]
theorem HH{a:Act}{d:Option Tmp}{v:Value}{t:Nat}(h:d≠some t):(a.put d v).tmps[t]? =a.tmps[t]? :=by
 cases d with
 |none=>rfl
 |some e=>
  have:e≠t:=λx=>h (by rw[x]);simp[Act.put,Array.getElem?_setIfInBounds_ne this]
theorem WS(a:Act)(d:Option Tmp)(u v:Value):(a.put d u).put d v=a.put d v:=by
 cases d with
 |none=>rfl
 |some e=>simp[Act.put]
structure LX(P:Program)(ops:Array Oper)(L Cl:Array Bool)(ar ac:Act)(w:World):Prop where
 szL:L.size=ops.size
 szC:Cl.size=ops.size
 sub:∀i,L.getD i false=true->Cl.getD i false=true
 rd:∀(i:Nat)(o:Oper),ops[i]? =some o->Cl.getD i false=true->L.getD i false=false->Bd o.op=true
 clC:∀(i:Nat)(o:Oper),ops[i]? =some o->Cl.getD i false=true->∀k,waits o k=true->Cl.getD k false=true
 clL:∀(i:Nat)(o:Oper),ops[i]? =some o->L.getD i false=true->∀k,waits o k=true->L.getD k false=true
 tsz:ar.tmps.size=ac.tmps.size
 df:ar.defers=ac.defers
 agree:∀t,(∀(i:Nat)(o:Oper),ops[i]? =some o->Cl.getD i false=true->L.getD i false=false->o.dst≠some t)->ar.tmps[t]? =ac.tmps[t]?
 pend:∀(i:Nat)(o:Oper),ops[i]? =some o->Cl.getD i false=true->L.getD i false=false->∃v,(RU ops o->∀w'',(u6 P o=false\/w''=w)->Yd P ops w'' o v ac)/\(Wx ops i o->∀w'',Yd P ops w'' o v ar)/\ac.put o.dst v=ac
section
variable{P:Program}{ops:Array Oper}{L Cl:Array Bool}{ar ac:Act}{w:World}
theorem Yd.congr{o:Oper}{v:Value}{a a':Act}{w:World}(h:Yd P ops w o v a)(he:execOp a'.eval o=execOp a.eval o)(hw:Region.wanted o (yielded ops a'.tmps)=Region.wanted o (yielded ops a.tmps)):Yd P ops w o v a':=by
 unfold Yd at*
 rw[he,hw];exact h
theorem LX.looks(h:LX P ops L Cl ar ac w){o:Oper}(hst:RU ops o)(hr:∀k,waits o k=true->L.getD k false=true):∀t∈o.looksAt ops,ar.tmps[t]? =ac.tmps[t]? :=by
 intro t ht;refine h.agree t (λk ok hk _ hL hd=>?_);have:=hr k (hst k ok t hk hd ht);rw[this]at hL;cases hL
theorem LX.looks'(h:LX P ops L Cl ar ac w){i:Nat}{o:Oper}(hlo:Wx ops i o)(hC:Cl.getD i false=false):∀t∈o.looksAt ops,ar.tmps[t]? =ac.tmps[t]? :=by
 intro t ht;refine h.agree t (λk ok hk hCk _ hd=>?_);have:=(hlo.look k ok t hk hd ht).in_ (h.clC k ok hk hCk) h.clC;rw[this]at hC;cases hC
theorem LX.stepA(hs:Yj ops)(h:LX P ops L Cl ar ac w){i:Nat}{o:Oper}(ho:ops[i]? =some o)(hC:Cl.getD i false=true)(hr:∀k,waits o k=true->L.getD k false=true){v:Value}(hv:ac.put o.dst v=ac):
 LX P ops (L.setIfInBounds i true) Cl (ar.put o.dst v) ac w:=by
 have hsz:i<L.size:=by rw[h.szL];exact(Array.getElem?_eq_some_iff.1 ho).1
 have hsub:∀k,(L.setIfInBounds i true).getD k false=false->L.getD k false=false/\k≠i:=by
  intro k hk;by_cases e:i=k
  .subst e;rw[oZ hsz]at hk;cases hk
  .rw[getD_set_ne false e]at hk;exact⟨hk,λx=>e x.symm⟩
 refine⟨by simpa using h.szL,h.szC,?_,λk ok hk hCk hLk=>h.rd k ok hk hCk (hsub k hLk).1,h.clC,?_,?_,?_,?_,λk ok hk hCk hLk=>?_⟩
 .intro k hk;by_cases e:i=k
  .subst e;exact hC
  .rw[getD_set_ne false e]at hk;exact h.sub k hk
 .intro k ok hk hLk j hj;by_cases e:i=k
  .subst e;rw[ho]at hk;cases hk;exact getD_set_true (hr j hj)
  .rw[getD_set_ne false e]at hLk;exact getD_set_true (h.clL k ok hk hLk j hj)
 .rw[<-h.tsz];cases o.dst<;>simp[Act.put]
 .rw[<-h.df];cases o.dst<;>rfl
 .intro t ht;by_cases e:o.dst=some t
  .rw[e]at hv⊢
   rw[<-hv];simp only[Act.put,Array.getElem?_setIfInBounds_self,h.tsz]
  .rw[HH e];refine h.agree t (λk ok hk hCk hLk=>?_);by_cases ek:i=k
   .subst ek;rw[ho]at hk;cases hk;exact e
   .exact ht k ok hk hCk (by rw[getD_set_ne false ek];exact hLk)
 .obtain⟨u,h1,h2,h3⟩:=h.pend k ok hk hCk (hsub k hLk).1;refine⟨u,h1,λhlo w''=>?_,h3⟩
  have hnl:∀d,o.dst=some d->d∉ok.looksAt ops:=λd hd hm=>by
   have:=(hlo.look i o d ho hd hm).in_ hr h.clL;rw[(hsub k hLk).1]at this;cases this
  exact(h2 hlo w'').congr (execOp_put ok (hs.sel k ok · · hk) ar o.dst v hnl) (wanted_put ok ar o.dst v hnl)
theorem LX.take(hs:Yj ops)(h:LX P ops L Cl ar ac w){k:Nat}{o:Oper}(ho:ops[k]? =some o)(hC:Cl.getD k false=false)(hr:∀j,waits o j=true->Cl.getD j false=true)(hrd:Bd o.op=true){v:Value}
 (hv:∀w'',(u6 P o=false\/w''=w)->Yd P ops w'' o v ac):LX P ops L (Cl.setIfInBounds k true) ar (ac.put o.dst v) w:=by
 have hsz:k<Cl.size:=by rw[h.szC];exact(Array.getElem?_eq_some_iff.1 ho).1
 have hcase:∀j,(Cl.setIfInBounds k true).getD j false=true->j=k\/Cl.getD j false=true:=by
  intro j hj;by_cases e:k=j
  .exact .inl e.symm
  .rw[getD_set_ne false e]at hj;exact .inr hj
 have hLk:L.getD k false=false:=by
  cases hl:L.getD k false with
  |false=>rfl
  |true=>rw[h.sub k hl]at hC;cases hC
 have hup:∀j,Cl.getD j false=true->(Cl.setIfInBounds k true).getD j false=true:=by
  intro j hj;exact getD_set_true hj
 have hnl:=hs.self ho;refine⟨h.szL,by simpa using h.szC,λi hi=>hup i (h.sub i hi),?_,?_,h.clL,?_,?_,?_,?_⟩
 .intro i oi hi hCi hLi;rcases hcase i hCi with rfl|hCi
  .rw[ho]at hi;cases hi;exact hrd
  .exact h.rd i oi hi hCi hLi
 .intro i oi hi hCi j hj;rcases hcase i hCi with rfl|hCi
  .rw[ho]at hi;cases hi;exact hup j (hr j hj)
  .exact hup j (h.clC i oi hi hCi j hj)
 .rw[h.tsz];cases o.dst<;>simp[Act.put]
 .rw[h.df];cases o.dst<;>rfl
 .intro t ht;have e:o.dst≠some t:=ht k o ho (oZ hsz) hLk;rw[HH e];exact h.agree t (λi oi hi hCi hLi=>ht i oi hi (hup i hCi) hLi)
 .intro i oi hi hCi hLi;by_cases e:i=k
  .subst e;rw[ho]at hi;cases hi;refine⟨v,λ_ w'' hw=>(hv w'' hw).congr (execOp_put o (hs.sel i o · · ho) ac o.dst v hnl) (wanted_put o ac o.dst v hnl),λhlo w''=>?_,WS _ _ _ _⟩;obtain⟨he,hwe⟩:=D4 (hs.sel i o · · ho) (h.looks' hlo hC);exact(hv w'' (.inl (U9 hlo.mv))).congr he hwe
  .have hCi':=(hcase i hCi).resolve_left e;obtain⟨u,hu,hlu,hpu⟩:=h.pend i oi hi hCi' hLi;refine⟨u,λhst w'' hw=>?_,hlu,?_⟩
   .have hnl':∀d,o.dst=some d->d∉oi.looksAt ops:=λd hd hm=>by
     have:=h.clC i oi hi hCi' k (hst k o d ho hd hm);rw[this]at hC;cases hC
    exact(hu hst w'' hw).congr (execOp_put oi (hs.sel i oi · · hi) ac o.dst v hnl') (wanted_put oi ac o.dst v hnl')
   rw[Act.put_comm ac v u (λd hd=>hs.dst i k oi o d hi ho hd e),hpu]
theorem NB{o:Oper}{a1 a2:Act}{w:World}{next1 next2:Act->World->Prop}{Q:Exit->Act->World->Prop}(he:execOp a2.eval o=execOp a1.eval o)(h:o.wp P a1 w next1 Q)
 (hv:∀v w',next1 (a1.put o.dst v) w'->next2 (a2.put o.dst v) w')(hd:∀d w',¬next1 (({a1 with defers:=d::a1.defers}:Act).put o.dst undef) w')(hQ:∀c a w,¬Q (.panic c) a w):o.wp P a2 w next2 Q:=by
 unfold Oper.wp at*
 rw[he];generalize (execOp a1.eval o).run P w=r at*
 cases r with
 |ok n w'=>
  cases n<;>simp only[Oper.upon]at h⊢
  case value u=>exact hv u w' h
  case skip=>exact hv undef w' h
  case defer d=>exact(hd d w' h).elim
  case enter f args=>
   refine Calls.mono h λe w'' he'=>?_;cases e with
   |returned u=>exact hv u w'' he'
   |panicked c=>exact(hQ _ _ _ he').elim
   |outgrown=>exact he'
  case row row args=>exact Rows.mono h λu w'' he'=>hv u w'' he'
 |halt x w'=>
  cases x<;>simp only[Oper.upon]at h⊢
  case panic u=>exact(hQ _ _ _ h).elim
theorem LX.stepB(hs:Yj ops)(h:LX P ops L Cl ar ac w){j:Nat}{o:Oper}(ho:ops[j]? =some o)(hC:Cl.getD j false=false)(hr:∀k,waits o k=true->L.getD k false=true)(u:Value)(w':World)
 (hpend:∀(i:Nat)(oi:Oper)(v:Value),ops[i]? =some oi->Cl.getD i false=true->L.getD i false=false->Yd P ops w oi v ac->Yd P ops w' oi v ac\/u6 P oi=false):
 LX P ops (L.setIfInBounds j true) (Cl.setIfInBounds j true) (ar.put o.dst u) (ac.put o.dst u) w':=by
 have hszC:j<Cl.size:=by rw[h.szC];exact(Array.getElem?_eq_some_iff.1 ho).1
 have hszL:j<L.size:=by rw[h.szL];exact(Array.getElem?_eq_some_iff.1 ho).1
 have hcase:∀i,(Cl.setIfInBounds j true).getD i false=true->i=j\/Cl.getD i false=true:=by
  intro i hi;by_cases e:j=i
  .exact .inl e.symm
  .rw[getD_set_ne false e]at hi;exact .inr hi
 have hLcase:∀i,(L.setIfInBounds j true).getD i false=false->i≠j/\L.getD i false=false:=by
  intro i hi;by_cases e:j=i
  .subst e;rw[oZ hszL]at hi;cases hi
  .rw[getD_set_ne false e]at hi;exact⟨λx=>e x.symm,hi⟩
 have hup:∀i,Cl.getD i false=true->(Cl.setIfInBounds j true).getD i false=true:=λi hi=>getD_set_true hi;refine⟨by simpa using h.szL,by simpa using h.szC,?_,?_,?_,?_,?_,?_,?_,?_⟩
 .intro i hi;by_cases e:j=i
  .subst e;exact oZ hszC
  .rw[getD_set_ne false e]at hi;exact hup i (h.sub i hi)
 .intro i oi hi hCi hLi;obtain⟨hne,hLi'⟩:=hLcase i hLi;exact h.rd i oi hi ((hcase i hCi).resolve_left hne) hLi'
 .intro i oi hi hCi k hk;rcases hcase i hCi with rfl|hCi
  .rw[ho]at hi;cases hi;exact hup k (h.sub k (hr k hk))
  .exact hup k (h.clC i oi hi hCi k hk)
 .intro i oi hi hLi k hk;by_cases e:j=i
  .subst e;rw[ho]at hi;cases hi;exact getD_set_true (hr k hk)
  .rw[getD_set_ne false e]at hLi;exact getD_set_true (h.clL i oi hi hLi k hk)
 .cases o.dst<;>simp[Act.put,h.tsz]
 .have:=h.df;cases o.dst<;>exact this
 .intro t ht;by_cases e:o.dst=some t
  .rw[e];simp only[Act.put,Array.getElem?_setIfInBounds_self,h.tsz]
  .rw[HH e,HH e];refine h.agree t (λi oi hi hCi hLi=>ht i oi hi (hup i hCi) ?_);have hne:j≠i:=λx=>by subst x;rw[hC]at hCi;cases hCi
   rw[getD_set_ne false hne];exact hLi
 .intro i oi hi hCi hLi;obtain⟨hne,hLi'⟩:=hLcase i hLi;have hCi':=(hcase i hCi).resolve_left hne;obtain⟨v,hv,hlv,hpv⟩:=h.pend i oi hi hCi' hLi';refine⟨v,λhst w'' hw=>?_,λhlo w''=>?_,?_⟩
  .have hnl:∀d,o.dst=some d->d∉oi.looksAt ops:=λd hd hm=>by
    have:=h.clC i oi hi hCi' j (hst j o d ho hd hm);rw[this]at hC;cases hC
   have hy:Yd P ops w'' oi v ac:=by
    rcases hw with hw|hw
    .exact hv hst w'' (.inl hw)
    .rw[hw];rcases hpend i oi v hi hCi' hLi' (hv hst w (.inr rfl))with h1|h1
     .exact h1
     .exact hv hst w' (.inl h1)
   exact hy.congr (execOp_put oi (hs.sel i oi · · hi) ac o.dst u hnl) (wanted_put oi ac o.dst u hnl)
  .have hnl:∀d,o.dst=some d->d∉oi.looksAt ops:=λd hd hm=>by
    have:=(hlo.look j o d ho hd hm).in_ hr h.clL;rw[this]at hLi';cases hLi'
   exact(hlv hlo w'').congr (execOp_put oi (hs.sel i oi · · hi) ar o.dst u hnl) (wanted_put oi ar o.dst u hnl)
  .rw[Act.put_comm ac u v (λd hd=>hs.dst i j oi o d hi ho hd hne),hpv]
end
section
variable{B:oJ}{C:Ctx}{ι:Nat->Value}{σ:St}{a:Act}{w:World}
theorem NM{P:Program}{fl:Bool}{σ:St}{oj oi:Oper}{K:Prop}(h:G2 P fl σ oj oi K):G2 P fl σ oj oi True/\K:=by
 unfold G2 at h⊢
 repeat' split at h
 all_goals first|exact h.elim|skip
 all_goals simp_all
theorem Iy{P:Program}{fl:Bool}{ops:Array Oper}{listed:Array Bool}{σ:St}{oj:Oper}:∀(l:List Oper)(s:Nat){K:Prop},FN P fl ops listed σ oj s l K->
 K/\∀(i:Nat)(oi:Oper),l[i]? =some oi->listed.getD (s+i) false=true->Bd oi.op=true->waits oj (s+i)=false->tW ops σ oi=false->G2 P fl σ oj oi True
 |[],s,K,h=>⟨h,λi oi hi=>by simp at hi⟩
 |o::l,s,K,h=>by
  have key:(FN P fl ops listed σ oj (s+1) l K)/\(listed.getD s false=true->Bd o.op=true->waits oj s=false->tW ops σ o=false->G2 P fl σ oj o True):=by
   simp only[FN]at h;split at h
   .obtain⟨h1,h2⟩:=NM h;exact⟨h2,λ_ _ _ _=>h1⟩
   .rename_i hn;refine⟨h,λh1 h2 h3 h4=>?_⟩;exact(hn h1 h2 h3 h4).elim
  obtain⟨hK,ih⟩:=Iy l (s+1) key.1;refine⟨hK,λi oi hi h1 h2 h3 h4=>?_⟩;cases i with
  |zero=>simp at hi;subst hi;exact key.2 (by simpa using h1) h2 (by simpa using h3) h4
  |succ i=>
   simp only[List.getElem?_cons_succ]at hi;exact ih i oi hi (by rw[show s+1+i=s+(i+1)by omega];exact h1) h2 (by rw[show s+1+i=s+(i+1)by omega];exact h3) h4
theorem NL{σ:St}{oj oi:Oper}{τ:St}{K:Prop}(h:Ek σ oj oi τ K):Ek σ oj oi τ True/\K:=by
 unfold Ek at h⊢
 repeat' split at h
 all_goals simp_all
theorem G1{ops:Array Oper}{listed:Array Bool}{σ:St}{oj:Oper}{τ:St}:∀(l:List Oper)(s:Nat){K:Prop},Cy ops listed σ oj τ s l K->
 K/\∀(i:Nat)(oi:Oper),l[i]? =some oi->listed.getD (s+i) false=true->Bd oi.op=true->waits oj (s+i)=false->tW ops σ oi=false->Ek σ oj oi τ True
 |[],s,K,h=>⟨h,λi oi hi=>by simp at hi⟩
 |o::l,s,K,h=>by
  have key:(Cy ops listed σ oj τ (s+1) l K)/\(listed.getD s false=true->Bd o.op=true->waits oj s=false->tW ops σ o=false->Ek σ oj o τ True):=by
   simp only[Cy]at h;split at h
   .obtain⟨h1,h2⟩:=NL h;exact⟨h2,λ_ _ _ _=>h1⟩
   .rename_i hn;refine⟨h,λh1 h2 h3 h4=>?_⟩;exact(hn h1 h2 h3 h4).elim
  obtain⟨hK,ih⟩:=G1 l (s+1) key.1;refine⟨hK,λi oi hi h1 h2 h3 h4=>?_⟩;cases i with
  |zero=>simp at hi;subst hi;exact key.2 (by simpa using h1) h2 (by simpa using h3) h4
  |succ i=>
   simp only[List.getElem?_cons_succ]at hi;exact ih i oi hi (by rw[show s+1+i=s+(i+1)by omega];exact h1) h2 (by rw[show s+1+i=s+(i+1)by omega];exact h3) h4
theorem MO{ops:Array Oper}{oi:Oper}(hM:aI B ι σ a w)(h:tW ops σ oi=true):Region.wanted oi (yielded ops a.tmps)=false:=by
 unfold tW at h;split at h
 .cases h
 .rename_i j want hg;split at h
  .cases h
  .rename_i g hj;split at h
   .cases h
   .rename_i d hd;split at h
    .rename_i t ht;rw[Kr hg hj hd (DH hM ht)];split at h
     .rfl
     .rfl
     .cases h
    .rename_i xs ht;exact Ec hg hj hd (Iw hM ht)
    .cases h
theorem xF(hM:aI B ι σ a w){k:Nat}{ow:Own}(hown:nth σ.own k=some (some ow)){b:Nat}(hb:blk (ι k)=some b):∀{l:List Operand},Dt σ k l=true->∀x∈l,∀j,(σ.ev x= .at (.lst j)\/∃off,σ.ev x= .at (.ptr j off))->blk (ι j)≠some b
 |[],_,x,hx=>by cases hx
 |y::r,h,x,hx=>by
  simp only[Dt,Bool.and_eq_true]at h;rcases List.mem_cons.1 hx with rfl|hx
  .intro j hj hbj;have h1:=h.1;rcases hj with hj|⟨off,hj⟩
   all_goals
    simp only[hj]at h1;split at h1
    .rename_i o' ho';have:=hM.dist j k _ _ b ho' hown hbj hb;subst this;simp at h1
    .cases h1
  .exact xF hM hown hb h.2 x hx
theorem WV{ops:Array Oper}{fl:Bool}{oj oi:Oper}{v:Value}{w':World}(hM:aI B ι σ a w)(hk:Ea σ ι oj w w')(hst:G2 C.P fl σ oj oi True)(hpost:fl=true->∃τ:St,zI B τ.m τ.h w'/\Ek σ oj oi τ True)(hy:Yd C.P ops w oi v a):Yd C.P ops w' oi v a\/u6 C.P oi=false:=by
 unfold G2 at hst;split at hst
 .rename_i hm;exact .inr hm
 .left;rcases hy with⟨hw,hrun⟩|hy
  .left;refine⟨hw,?_⟩;split at hst
   .rename_i T x hop;split at hst
    .exact hst.elim
    .rename_i hT;have hev:=hM.ev x
     have gen:∀(b off:Nat)(cs:List Value),a.eval x= .pointer (some ⟨b,off,none⟩)->cs.length=C.P.cellsOf T->(∀j u,cs[j]? =some u->w.cell? ⟨b,off+j,none⟩=some u)->(∀j u,cs[j]? =some u->w'.cell? ⟨b,off+j,none⟩=some u)->
      (execOp a.eval oi).run C.P w'= .ok (.value v) w':=by
      intro b off cs hx hl hc hc';have h1:=uA hT hl hc;have h2:=uA hT hl hc'
      have e1:(execOp a.eval oi).run C.P w= .ok (.value (WX C.P T cs)) w:=by
       unfold execOp;simp only[hop,hx,Instr.loadAt,Instr.sureAddr,Sem.run_bind,Sem.run_pure,Result.andThen_ok,h1]
      have e2:(execOp a.eval oi).run C.P w'= .ok (.value (WX C.P T cs)) w':=by
       unfold execOp;simp only[hop,hx,Instr.loadAt,Instr.sureAddr,Sem.run_bind,Sem.run_pure,Result.andThen_ok,h2]
      rw[e1]at hrun;simp only[Result.ok.injEq,Next.value.injEq,and_true]at hrun;rw[e2,hrun]
     split at hst
     .rename_i k off hx;rw[hx]at hev;split at hst
      .rename_i p T' cs hown;split at hst
       .rename_i ht hle;have hle:=Nat.le_of_ble_eq_true hle;obtain⟨b,vs,hι,hh,hdc⟩:=sH hM hown;obtain⟨b',hb',hpt⟩:=hev;rw[hι]at hb';simp only[Value.pointer.injEq,Option.some.injEq,Addr.mk.injEq]at hb';obtain⟨rfl, -, -⟩:=hb';have hh':=hk.cells k p T' cs b hown ht hι;rw[hh]at hh';have hvs:cs.length=vs.toList.length:=hdc.length;refine gen b off ((vs.toList.drop off).take (C.P.cellsOf T)) hpt (by simp at hvs⊢;omega) (λj u hu=>?_) (λj u hu=>?_)
        .rw[cell_of_heap hh];exact sD hu
        .rw[cell_of_heap hh'];exact sD hu
       .exact hst.elim
      .exact hst.elim
     .rename_i b off d hx hd;rw[hx]at hev;have hev:a.eval x= .pointer (some ⟨b,off,none⟩):=hev;split at hst
      .rename_i cs hcs;split at hst
       .rename_i l hl;split at hst
        .rename_i hlen;split at hst
         .rename_i hgr;have hc:=Aq hM.wrel hst.1;refine gen b off l hev (Nat.eq_of_beq_eq_true hlen) hc (λj u hu=>?_);have h1:=hc j u hu;cases hgr2:u7 oj.op with
          |false=>
           rw[hgr2,Bool.false_or]at hgr;obtain⟨τ,hwτ,h2⟩:=hpost hgr;unfold Ek at h2;simp only[hop,hx,hd,hcs,hl,hgr2]at h2;exact Aq hwτ h2.1 j u hu
          |true=>
          have hgr:=hgr2;rw[<-h1];exact World.cell?_of_block (w:=w) (w':=w') (a:=⟨b,off+j,none⟩) (hk.ext hgr b (World.block_lt_of_cell? w ⟨b,off+j,none⟩ h1))
         .refine gen b off l hev (Nat.eq_of_beq_eq_true hlen) (λj u hu=>hM.wrel.hsat _ _ _ (hst.1.rd j u hu)) (λj u hu=>hk.imm _ _ _ (hst.1.rd j u hu))
        .exact hst.elim
       .exact hst.elim
      .exact hst.elim
     .rename_i k i sz off d hx hd;rw[hx]at hev;split at hst
      .rename_i E' s xs cs hown hcs;split at hst
       .rename_i l hl hs hap;have hs:=Nat.eq_of_beq_eq_true hs;subst hs;split at hst
        .rename_i hlen;obtain⟨e,he,hel⟩:=hst.1;obtain⟨hrows,hrow⟩:=nE hM hown;obtain⟨b,n,c,hι,hp⟩:=hev
         have blkSame:∀b,blk (ι k)=some b->w'.heap[b]? =w.heap[b]? :=by
          intro b hb;have hlt:=nC (hM.own k _ hown) hb;unfold M8 at hap;rw[Bool.or_eq_true]at hap;rcases hap with hap|hap
          .exact hk.ext hap b hlt
          .split at hap
           .rename_i l hl;refine hk.args l b hl hlt (hM.fresh k _ b hown hb).2.1 ?_;exact xF hM hown hb hap
           .cases hap
         have hrow':w'.ownsRow 0 E' s (ι k) xs.length xs.flatten:=((hM.own k _ hown).world (λb hb=>blkSame b hb)).2
         have rd:∀w1:World,w1.ownsRow 0 E' s (ι k) xs.length xs.flatten->∀j u,l[j]? =some u->w1.cell? ⟨b,i*s+off+j,none⟩=some u:=by
          intro w1 h1 j u hu;rw[<-hel]at hu;have hv':=sD hu;have hf:=kU hrows.len he _ _ hv';have:=h1.cells (g:=b) (by rw[hι];rfl) _ _ hf;rw[Addr.add_none]at this;rw[<-this];congr 1;simp only[Addr.mk.injEq,and_true,true_and];omega
         exact gen b (i*s+off) l hp (Nat.eq_of_beq_eq_true hlen) (rd w hrow) (rd w' hrow')
        .exact hst.elim
       .exact hst.elim
      .exact hst.elim
     .exact hst.elim
   .rename_i src dst x hop;have hev:=hM.ev x;split at hst
    .rename_i k d hx hd;rw[hx]at hev;have hev:a.eval x=ι k:=hev;split at hst
     .rename_i E' sz xs s hown hs;split at hst
      .rename_i E hsrc hdst;split at hst
       .rename_i hE;split at hst
        .rename_i hap;have hxs:=hst.1;obtain⟨hrows,hrow⟩:=nE hM hown;have hbl:xs=bG s.data.toList:=hxs
         have blkSame:∀b,blk (ι k)=some b->w'.heap[b]? =w.heap[b]? :=by
          intro b hb;have hlt:=nC (hM.own k _ hown) hb;unfold M8 at hap;rw[Bool.or_eq_true]at hap;rcases hap with hap|hap
          .exact hk.ext hap b hlt
          .split at hap
           .rename_i l hl;refine hk.args l b hl hlt (hM.fresh k _ b hown hb).2.1 ?_;exact xF hM hown hb hap
           .cases hap
         have hrow':w'.ownsRow 0 E' sz (ι k) xs.length xs.flatten:=((hM.own k _ hown).world (λb hb=>blkSame b hb)).2
         have go:∀w1:World,w1.ownsRow 0 E' sz (ι k) xs.length xs.flatten->(execOp a.eval oi).run C.P w1= .ok (.value (.string ⟨s.data.toList.toArray⟩)) w1:=by
          intro w1 h1;subst hbl;exact Bp hop hsrc hE hdst hev h1
         rw[go w hrow]at hrun;rw[go w' hrow'];simp only[Result.ok.injEq,Next.value.injEq,and_true]at hrun;rw[hrun]
        .exact hst.elim
       .exact hst.elim
      .exact hst.elim
     .exact hst.elim
    .exact hst.elim
   .exact hst.elim
  .exact .inr hy
theorem LV{g:Nat->Prop}:∀{l:List Nat},Wf g l->∀j∈l,g j
 |[],_,j,hj=>by cases hj
 |[i],h,j,hj=>by simp at hj;subst hj;exact h
 |i::k::r,h,j,hj=>by
  rcases List.mem_cons.1 hj with rfl|hj
  .exact h.1
  .exact LV h.2 j hj
theorem Bf{ops:Array Oper}:∀{l:List Nat}{i:Nat}{o:Oper},C8 ops l=some (i,o)->i∈l/\ops[i]? =some o/\Bd o.op=true
 |[],i,o,h=>by simp[C8]at h
 |k::r,i,o,h=>by
  simp only[C8]at h;split at h
  .rename_i ok hok;split at h
   .rename_i hr;simp only[Option.some.injEq,Prod.mk.injEq]at h;obtain⟨rfl,rfl⟩:=h;rw[iK,Array.getElem?_toList]at hok;exact⟨List.mem_cons_self,hok,hr⟩
   .obtain⟨h1,h2⟩:=Bf h;exact⟨List.mem_cons_of_mem _ h1,h2⟩
  .obtain⟨h1,h2⟩:=Bf h;exact⟨List.mem_cons_of_mem _ h1,h2⟩
def oX(ops:Array Oper)(L:Array Bool):Nat:=((List.range ops.size).filter λi=> !L.getD i false).length
theorem Ee{ops:Array Oper}{L:Array Bool}{i:Nat}(hsz:L.size=ops.size)(hi:i<ops.size)(hL:L.getD i false=false):oX ops (L.setIfInBounds i true)+1=oX ops L:=by
 unfold oX
 have key:∀(l:List Nat),l.Nodup->(l.filter λj=> !(L.setIfInBounds i true).getD j false).length+(if i∈l then 1 else 0)=(l.filter λj=> !L.getD j false).length:=by
  intro l
  induction l with
  |nil=>intro _;simp
  |cons j r ih=>
   intro hnd;have hnd':=List.nodup_cons.1 hnd;have:=ih hnd'.2;by_cases e:i=j
   .subst e;have h1:(L.setIfInBounds i true).getD i false=true:=oZ aC;have h2:i∉r:=hnd'.1;simp only[List.filter_cons,h1,hL,Bool.not_true,Bool.not_false,if_true,Bool.false_eq_true,if_false,List.length_cons,List.mem_cons_self];simp only[h2,if_false]at this;omega
   .have h1:(L.setIfInBounds i true).getD j false=L.getD j false:=getD_set_ne false e;have h2:(i∈j::r)↔i∈r:=by simp[e]
    simp only[List.filter_cons,h1];split
    .simp only[List.length_cons,h2];omega
    .simp only[h2];exact this
 have:=key (List.range ops.size) List.nodup_range;rw[if_pos (List.mem_range.2 hi)]at this;exact this
theorem GQ{ops:Array Oper}{L:Array Bool}(hs:Yj ops)(hsz:L.size=ops.size)(h:Region.ready .any ops L=[]):∀i,i<ops.size->L.getD i false=true:=by
 intro i
 induction i using Nat.strongRecOn with
 |_ i ih=>
  intro hi;cases hL:L.getD i false with
  |true=>rfl
  |false=>
   exfalso;have ho:ops[i]? =some ops[i]:=Array.getElem?_eq_getElem hi
   have:i∈Region.ready .any ops L:=by
    rw[qE];refine⟨?_,_,ho,λk hk=>ih k (hs.topo i _ k ho hk) (Nat.lt_trans (hs.topo i _ k ho hk) hi)⟩;have hiL:i<L.size:=by omega
    simp[Array.getD,hiL]at hL⊢
    exact hL
   rw[h]at this;cases this
theorem zR{ops:Array Oper}{L:Array Bool}(h:∀i,i<ops.size->L.getD i false=true):Region.ready .any ops L=[]:=by
 cases hr:Region.ready .any ops L with
 |nil=>rfl
 |cons i r=>
  exfalso;have:i∈Region.ready .any ops L:=by rw[hr];exact List.mem_cons_self
  obtain⟨h1,o,ho,_⟩:=qE.1 this;have hi:=(Array.getElem?_eq_some_iff.1 ho).1;have:=h i hi;rw[(Ii h1).1]at this;cases this
theorem LX.eq_of_all{P:Program}{ops:Array Oper}{L Cl:Array Bool}{ar ac:Act}(h:LX P ops L Cl ar ac w)(hall:∀i,i<ops.size->L.getD i false=true):ar=ac:=by
 have ht:ar.tmps=ac.tmps:=by
  apply Array.ext_getElem?;intro t;refine h.agree t (λi o ho _ hL=>?_);have:=hall i (Array.getElem?_eq_some_iff.1 ho).1;rw[hL]at this;cases this
 have hd:=h.df;cases ar;cases ac;simp at ht hd;rw[ht,hd]
theorem UI{ops:Array Oper}{R:St->Prop}{n:Nat}{Cl:Array Bool}(h:yR C ops n Cl σ R)(hr:Region.ready .any ops Cl=[]):R σ:=by
 cases n<;>simp only[yR,hr]at h<;>exact h
theorem PK{ops:Array Oper}{listed:Array Bool}{σ:St}{oj:Oper}{τ:St}{K:Prop}(h:FE C ops listed σ oj τ K):
 (RS C=true->∀(i:Nat)(oi:Oper),ops.toList[i]? =some oi->listed.getD (0+i) false=true->Bd oi.op=true->waits oj (0+i)=false->tW ops σ oi=false->Ek σ oj oi τ True)/\K:=by
 unfold FE at h;split at h
 .rename_i e;obtain⟨h1,h2⟩:=G1 _ 0 h;exact⟨λ_=>h2,h1⟩
 .rename_i e;refine⟨λe2=>?_,h⟩;rw[e]at e2;cases e2
theorem LU(hspecs:∀g S,assoc C.specs g=some S->Sound C.P g S){ops:Array Oper}(hs:Yj ops){Q:Exit->Act->World->Prop}{R:St->Prop}(hQ:∀ι σ a w,aI B ι σ a w->R σ->Q .normal a w)
 (hQp:∀c a w,¬Q (.panic c) a w):
 ∀(n:Nat)(fuel:Nat)(Cl:Array Bool)(ι:Nat->Value)(σ:St)(ac:Act)(w:World),aI B ι σ ac w->yR C ops n Cl σ R->∀(L:Array Bool)(ar:Act),LX C.P ops L Cl ar ac w->oX ops L=fuel->
  wpAny C.P .any ops Q fuel L ar w:=by
 have fin:∀(n:Nat)(Cl:Array Bool)(ι:Nat->Value)(σ:St)(ac:Act)(w:World),aI B ι σ ac w->yR C ops n Cl σ R->∀(L:Array Bool)(ar:Act),LX C.P ops L Cl ar ac w->Region.ready .any ops L=[]->Q .normal ar w:=by
  intro n Cl ι σ ac w hM h L ar sim hr;have hall:=GQ hs sim.szL hr;rw[sim.eq_of_all hall];exact hQ ι σ ac w hM (UI h (zR (λi hi=>sim.sub i (hall i hi))))
 have zero:∀(n:Nat)(Cl:Array Bool)(ι:Nat->Value)(σ:St)(ac:Act)(w:World),aI B ι σ ac w->yR C ops n Cl σ R->∀(L:Array Bool)(ar:Act),LX C.P ops L Cl ar ac w->oX ops L=0->wpAny C.P .any ops Q 0 L ar w:=by
  intro n Cl ι σ ac w hM h L ar sim hf
  have hall:∀i,i<ops.size->L.getD i false=true:=by
   intro i hi;unfold oX at hf;have hnil:=List.eq_nil_of_length_eq_zero hf;cases hL:L.getD i false with
   |true=>rfl
   |false=>
    have:i∈(List.range ops.size).filter λi=> !L.getD i false:=List.mem_filter.2 ⟨List.mem_range.2 hi,by simp[hL]⟩;rw[hnil]at this;cases this
  have hr:=zR hall;exact⟨hr,fin n Cl ι σ ac w hM h L ar sim hr⟩
 have stepP:∀(n fuel:Nat),(∀(Cl:Array Bool)(ι:Nat->Value)(σ:St)(ac:Act)(w:World),aI B ι σ ac w->yR C ops n Cl σ R->∀(L:Array Bool)(ar:Act),LX C.P ops L Cl ar ac w->oX ops L=fuel->wpAny C.P .any ops Q fuel L ar w)->
  ∀(Cl:Array Bool)(ι:Nat->Value)(σ:St)(ac:Act)(w:World),aI B ι σ ac w->yR C ops n Cl σ R->∀(L:Array Bool)(ar:Act),LX C.P ops L Cl ar ac w->oX ops L=fuel+1->
   ∀i∈Region.ready .any ops L,Cl.getD i false=true->wpOp C.P ops Q i (wpAny C.P .any ops Q fuel (L.setIfInBounds i true)) ar w:=by
  intro n fuel ih Cl ι σ ac w hM h L ar sim hf i hi hC;obtain⟨hun,o,ho,hw⟩:=qE.1 hi;obtain⟨hL,hlt⟩:=Ii hun;obtain⟨v,hv,hlv,hpv⟩:=sim.pend i o ho hC hL
  have hy:Yd C.P ops w o v ar:=by
   rcases hs.look i o ho with hst|hlo
   .obtain⟨he,hwe⟩:=D4 (hs.sel i o · · ho) (sim.looks hst hw);exact(hv hst w (.inr rfl)).congr he hwe
   .exact hlv hlo w
  have hnext:wpAny C.P .any ops Q fuel (L.setIfInBounds i true) (ar.put o.dst v) w:=
   ih Cl ι σ ac w hM h _ _ (sim.stepA hs ho hC hw hpv) (by have:=Ee sim.szL (by have:=sim.szL;omega) hL;omega)
  unfold wpOp;simp only[ho];rcases hy with⟨hwt,hrun⟩|⟨hwt,rfl⟩
  .rw[if_pos hwt];left;unfold Oper.wp;rw[hrun,Oper.upon_value];exact hnext
  .rw[if_neg (by simp[hwt])];exact hnext
 intro n
 induction n with
 |zero=>
  intro fuel
  induction fuel with
  |zero=>exact zero 0
  |succ fuel ihf=>
   intro Cl ι σ ac w hM h L ar sim hf;refine⟨fin 0 Cl ι σ ac w hM h L ar sim,λi hi=>?_⟩;cases hC:Cl.getD i false with
   |true=>exact stepP 0 fuel ihf Cl ι σ ac w hM h L ar sim hf i hi hC
   |false=>
    exfalso;obtain⟨hun,o,ho,hw⟩:=qE.1 hi
    have hiC:i∈Region.ready .any ops Cl:=by
     rw[qE];refine⟨?_,o,ho,λk hk=>sim.sub k (hw k hk)⟩;have:i<Cl.size:=by rw[sim.szC];exact(Array.getElem?_eq_some_iff.1 ho).1
     simp[Array.getD,this]at hC⊢
     exact hC
    simp only[yR]at h;split at h
    .rename_i hr;rw[hr]at hiC;cases hiC
    .exact h
 |succ n ihn=>
  intro fuel
  induction fuel with
  |zero=>exact zero (n+1)
  |succ fuel ihf=>
   intro Cl ι σ ac w hM h L ar sim hf;refine⟨fin (n+1) Cl ι σ ac w hM h L ar sim,λi hi=>?_⟩;cases hC:Cl.getD i false with
   |true=>exact stepP (n+1) fuel ihf Cl ι σ ac w hM h L ar sim hf i hi hC
   |false=>
    obtain⟨hun,o,ho,hw⟩:=qE.1 hi;obtain⟨hLi,hlt⟩:=Ii hun
    have hiC:i∈Region.ready .any ops Cl:=by
     rw[qE];refine⟨?_,o,ho,λk hk=>sim.sub k (hw k hk)⟩;have:i<Cl.size:=by rw[sim.szC];exact(Array.getElem?_eq_some_iff.1 ho).1
     simp[Array.getD,this]at hC⊢
     exact hC
    simp only[yR]at h;split at h
    .rename_i hr;rw[hr]at hiC;cases hiC
    .split at h
     ·
      rename_i k ok hfr;obtain⟨hkr,hok,hkrd⟩:=Bf hfr;obtain⟨hkun,ok',hok',hkw⟩:=qE.1 hkr;rw[hok]at hok';cases hok';obtain⟨hkC,hklt⟩:=Ii hkun;obtain⟨σ1,hM1,hfz,hc⟩:=Cf hM h;rcases hc with⟨hwt,h⟩|⟨hwt,h⟩
      .obtain⟨v,x,hrun,hx,hK⟩:=U7 hM1 hkrd h;have hsim:=sim.take hs hok hkC hkw hkrd (v:=v) (λw'' hw''=>.inl ⟨hwt,hrun w'' hw''⟩);exact(ihn (fuel+1) _ ι _ _ w (hM1.put ok.dst hx) hK L ar hsim hf).2 i hi
      .have hsim:=sim.take hs hok hkC hkw hkrd (v:=undef) (λw'' _=>.inr ⟨hwt,rfl⟩);exact(ihn (fuel+1) _ ι _ _ w (hM1.put ok.dst (x:=.at (.val undef)) rfl) h L ar hsim hf).2 i hi
     ·
      have hg:=LV h i hiC;split at hg
      .rename_i o' ho';rw[iK,Array.getElem?_toList,ho]at ho';cases ho';obtain⟨hg,hstab⟩:=Iy _ 0 hg;obtain⟨he,hwe⟩:=D4 (hs.sel i o · · ho) ((hs.look i o ho).elim (sim.looks · hw) (sim.looks' · hC));have hgw:=Ot hspecs hM hg (λa' w'=>∃ι' σ',aI B ι' σ' a' w'/\FE C ops Cl σ o σ' (yR C ops n (Cl.setIfInBounds i true) σ' R)/\Ea σ ι o w w') Q (λι' σ' a' w' h1 h2 h3=>⟨ι',σ',h1,h2,h3⟩)
       have hB:∀(u:Value)(w':World),(∃ι' σ',aI B ι' σ' (ac.put o.dst u) w'/\FE C ops Cl σ o σ' (yR C ops n (Cl.setIfInBounds i true) σ' R)/\Ea σ ι o w w')->
        wpAny C.P .any ops Q fuel (L.setIfInBounds i true) (ar.put o.dst u) w':=by
        rintro u w' ⟨ι',σ',hM',h',hk'⟩;obtain⟨hpo,h'⟩:=PK h';refine ihn fuel _ ι' σ' _ w' hM' h' _ _ (sim.stepB hs ho hC hw u w' ?_) (by have:=Ee sim.szL (by have:=sim.szL;omega) hLi;omega);intro j oj v hj hCj hLj hy;cases hun':tW ops σ oj with
        |true=>
         have:=MO hM hun';rcases hy with⟨h1,_⟩|h1
         .rw[this]at h1;cases h1
         .exact .inl (.inr h1)
        |false=>
         have hnw:waits o j=false:=by
          cases hwj:waits o j with
          |false=>rfl
          |true=>rw[hw j hwj]at hLj;cases hLj
         have hst:=hstab j oj (by rw[Array.getElem?_toList];exact hj) (by simpa using hCj) (sim.rd j oj hj hCj hLj) (by simpa using hnw) hun';exact WV hM hk' hst (λe=>⟨σ',hM'.wrel,hpo e j oj (by rw[Array.getElem?_toList];exact hj) (by simpa using hCj) (sim.rd j oj hj hCj hLj) (by simpa using hnw) hun'⟩) hy
       unfold Zu at hgw;unfold wpOp;simp only[ho];rw[hwe];split
       .rename_i hwt;rw[if_pos hwt]at hgw;left;refine NB he hgw hB ?_ hQp;rintro d w' ⟨ι',σ',hM',_⟩;have:=hM'.defers;rw[<-hM.defers]at this;cases hd:o.dst<;>simp[Act.put,hd]at this
       .rename_i hwt;rw[if_neg hwt]at hgw;exact hB undef w hgw
      .exact hg.elim
end
end Go.Vc
namespace Go.Vc
open Go
section
variable{B:oJ}{C:Ctx}{ι:Nat->Value}{σ:St}{a:Act}{w:World}
theorem tV:∀{xs ys:List SV}{vs:List Value}{K:Prop},yI xs ys K->DenS ι xs vs->DenS ι ys vs/\K
 |[],[],vs,K,h,hd=>⟨hd,h⟩
 |x::xs,y::ys,[],K,_,hd=>hd.elim
 |x::xs,y::ys,v::vs,K,h,hd=>by
  unfold yI at h;split at h
  .rename_i h1 h2;cases h1
  .rename_i x' xs' ys' h1 h2;simp only[List.cons.injEq]at h1 h2;obtain⟨rfl,rfl⟩:=h1;obtain⟨rfl,rfl⟩:=h2;have:=tV h hd.2;exact⟨⟨trivial,this.1⟩,this.2⟩
  .rename_i x' xs' y' ys' _ h1 h2;simp only[List.cons.injEq]at h1 h2;obtain⟨rfl,rfl⟩:=h1;obtain⟨rfl,rfl⟩:=h2;obtain⟨rfl,h⟩:=h;have:=tV h hd.2;exact⟨⟨hd.1,this.1⟩,this.2⟩
  .exact h.elim
 |[],_::_,_,K,h,_=>by simp[yI]at h
 |_::_,[],_,K,h,_=>by simp[yI]at h
theorem rL:∀{xs ys:List (Option Own)}{K:Prop},rM xs ys K->(∀k o,nth ys k=some (some o)->nth xs k=some (some o))/\K
 |[],[],K,h=>⟨λk o hk=>by simp[nth]at hk,h⟩
 |x::xs,none::ys,K,h=>by
  simp only[rM]at h;obtain⟨h1,h2⟩:=rL h;refine⟨λk o hk=>?_,h2⟩;cases k with
  |zero=>simp[nth]at hk
  |succ k=>exact h1 k o hk
 |x::xs,some y::ys,K,h=>by
  simp only[rM]at h;obtain⟨rfl,h⟩:=h;obtain⟨h1,h2⟩:=rL h;refine⟨λk o hk=>?_,h2⟩;cases k with
  |zero=>exact hk
  |succ k=>exact h1 k o hk
 |[],_::_,K,h=>by simp[rM]at h
 |_::_,[],K,h=>by simp[rM]at h
theorem aI.setSlot(hM:aI B ι σ a w){i:Nat}{x:SV}{v:Value}(hv:a.tmps[i]? =some v)(hx:Den ι x v):aI B ι (σ.put (some i) x) a w:=by
 refine⟨?_,hM.defers,hM.own,hM.dist,hM.fresh,hM.wrel,hM.one⟩;have:=hM.slots.set i hx;show DenS ι (σ.sl.set i x) a.tmps.toList
 have e:a.tmps.toList.set i v=a.tmps.toList:=by
  apply List.ext_getElem?;intro j;rw[List.getElem?_set];split
  .rename_i hj;subst hj;rw[Array.getElem?_toList,hv];split
   .rfl
   .rename_i hlt;simp at hlt;rw[Array.getElem?_eq_none hlt]at hv;cases hv
  .rfl
 rw[e]at this;exact this
theorem aI.nilList(hM:aI B ι σ a w)(k E sz:Nat):aI B (upd ι k (.slice none 0 0)) ((σ.kill k).setOwn k (some (.lst E sz []))) a w:=by
 refine hM.place k _ _ (z8.refl _ _) ⟨DL sz,World.ownsRow_nil w 0 E sz⟩ rfl (λb hb=>by simp[blk]at hb)
theorem oH(τ:St):∀(ys:List SV)(i:Nat)(ι:Nat->Value)(σ:St),aI B ι σ a w->∃ι',aI B ι' (M1 τ ys i σ) a w
 |[],i,ι,σ,hM=>⟨ι,hM⟩
 |y::ys,i,ι,σ,hM=>by
  simp only[M1];split
  .rename_i k;split
   .rename_i hs;split
    .rename_i E sz xs hτ hσ
     have hv:a.tmps[i]? =some (.slice none 0 0):=by
      rw[iK]at hs;obtain⟨v,hv,hd⟩:=hM.slots.get i _ hs;rw[Array.getElem?_toList]at hv;have hd:v= .slice none 0 0:=hd;rw[hv,hd]
     exact oH τ ys (i+1) _ _ ((hM.nilList k E sz).setSlot hv (x:=.at (.lst k)) (by show _=_;simp))
    .exact oH τ ys (i+1) ι σ hM
   .exact oH τ ys (i+1) ι σ hM
  .exact oH τ ys (i+1) ι σ hM
theorem kK(τ:St)(q:Nat):∀(ys:List At)(j:Nat)(ι:Nat->Value)(σ:St),aI B ι σ a w->∃ι',aI B ι' (Dq τ q ys j σ) a w
 |[],j,ι,σ,hM=>⟨ι,hM⟩
 |y::ys,j,ι,σ,hM=>by
  simp only[Dq];split
  .rename_i k;split
   .rename_i p T cs hq;split
    .rename_i hj;split
     .rename_i E sz xs hτ hσ;have hqk:q≠k:=λe=>by subst e;rw[hσ]at hq;cases hq
      have h1:=hM.nilList k E sz
      have hq1:nth ((σ.kill k).setOwn k (some (.lst E sz []))).own q=some (some (.cellsP p T (cs.map (At.sub k (λ_=>.junk))))):=by
       simp only[Ig,St.setOwn,St.sub,tA,vF,hqk,false_and,if_false,hq];rfl
      obtain⟨b,vs,hι,hh,hd⟩:=sH h1 hq1
      have hvj:vs.toList[j]? =some (.slice none 0 0):=by
       obtain⟨b0,vs0,hι0,hh0,hd0⟩:=sH hM hq;rw[iK]at hj;obtain⟨v,hv,hdv⟩:=hd0.get j _ hj;have hdv:v= .slice none 0 0:=hdv;rw[lI _ _ hqk,hι0]at hι;simp only[Value.pointer.injEq,Option.some.injEq,Addr.mk.injEq]at hι;obtain⟨rfl, -, -⟩:=hι;rw[hh0]at hh;simp only[Option.some.injEq,Obj.cells.injEq]at hh;rw[<-hh.1,hv,hdv]
      have hset:vs.toList.set j (.slice none 0 0)=vs.toList:=by
       apply List.ext_getElem?;intro t;rw[List.getElem?_set];split
       .rename_i e;subst e;rw[hvj];split
        .rfl
        .rename_i hlt;rw[List.getElem?_eq_none (Nat.le_of_not_lt hlt)]at hvj;cases hvj
       .rfl
      have h2:aI B (upd ι k (.slice none 0 0)) (DJ ((σ.kill k).setOwn k (some (.lst E sz []))) q j (.lst k)) a w:=by
       unfold DJ;rw[hq1];refine h1.rewrite hq1 (z8.refl _ _) ⟨b,vs,hι,hh,?_,λq' e=>by subst e;have:=Sj h1 hq1;rw[hι]at this;simpa using this⟩;have:=hd.set j (x:=.lst k) (v:=.slice none 0 0) (by show _=_;simp)
       rwa [hset]at this
      exact kK τ q ys (j+1) _ _ h2
     .exact kK τ q ys (j+1) ι σ hM
    .exact kK τ q ys (j+1) ι σ hM
   .exact kK τ q ys (j+1) ι σ hM
  .exact kK τ q ys (j+1) ι σ hM
theorem tX(τ:St):∀(ys:List (Option Own))(q:Nat)(ι:Nat->Value)(σ:St),aI B ι σ a w->∃ι',aI B ι' (Ik τ ys q σ) a w
 |[],q,ι,σ,hM=>⟨ι,hM⟩
 |y::ys,q,ι,σ,hM=>by
  simp only[Ik];split
  .rename_i T cs;obtain⟨ι',hM'⟩:=kK τ q cs 0 ι σ hM;exact tX τ ys (q+1) ι' _ hM'
  .exact tX τ ys (q+1) ι σ hM
theorem kR{τ:St}{K:Prop}(hM:aI B ι σ a w)(h:wC σ τ K):∃ι',aI B ι' τ a w/\K:=by
 obtain⟨ι1,hM1⟩:=oH τ τ.sl 0 ι σ hM;obtain⟨ι2,hM2⟩:=tX τ τ.own 0 ι1 _ hM1;have hM2:aI B ι2 (conv σ τ) a w:=hM2;unfold wC at h;obtain⟨hsl,h⟩:=tV h hM2.slots;obtain⟨hown,hm,hh,hK⟩:=rL h;refine⟨ι2,⟨hsl,hM2.defers,λk o hk=>hM2.own k o (hown k o hk),λk k' o o' b hk hk' hb hb'=>hM2.dist k k' o o' b (hown k o hk) (hown k' o' hk') hb hb',?_,?_,hM2.one⟩,hK⟩
 .intro k o b hk hb;rw[<-hm, <-hh];exact hM2.fresh k o b (hown k o hk) hb
 .rw[<-hm, <-hh];exact hM2.wrel
theorem aI.froze(hM:aI B ι σ a w){m2:MH}{h2:PH}(hF:Cw σ.m σ.h m2 h2):aI B ι {σ with m:=m2,h:=h2} a w:=by
 have hw:=hM.wrel;refine⟨hM.slots,hM.defers,hM.own,hM.dist,λk o b hk hb=>?_,?_,hM.one⟩
 .obtain⟨f1,f2,f3⟩:=hM.fresh k o b hk hb;refine⟨f1,?_,λi=>?_⟩
  .show m2 b=none;cases e2:m2 b with
   |none=>rfl
   |some o=>rw[hF.sub b o e2]at f2;cases f2
  .show h2 b i=none;cases e2:h2 b i with
   |none=>rfl
   |some v=>
    rcases hF.new b i v e2 with h3|⟨cs,E,fz,h3,_,_⟩
    .rw[f3 i]at h3;cases h3
    .rw[f2]at h3;cases h3
 .refine⟨hw.tape,hw.os,hw.output,hw.drawn,hw.size,hw.frame,λb o v e=>?_,λb o e=>hw.msat b o (hF.sub b o e),λb o e i=>?_,λb o v e=>hF.le.le b o v (hw.hle b o v e),λb h1 h2'=>?_,λb o e=>hw.mfr b o (hF.sub b o e)⟩
  .rcases hF.new b o v e with h3|⟨cs,E,fz,h3,h4,_⟩
   .exact hw.hsat b o v h3
   .rw[cell_of_heap (hw.msat b _ h3),Array.getElem?_toList];exact h4
  .show h2 b i=none;have e:m2 b=some o:=e;cases e2:h2 b i with
   |none=>rfl
   |some v=>
    rcases hF.new b i v e2 with h3|⟨cs,E,fz,h3,h4,h5⟩
    .rw[hw.disj b o (hF.sub b o e) i]at h3;cases h3
    .rw[h5]at e;cases e
  .funext i;have e:=congrFun (hw.hold b h1 h2') i;show h2 b i=B.h0 b i;cases e2:B.h0 b i with
   |some v=>exact hF.le.le b i v (hw.hle b i v e2)
   |none=>
    cases e3:h2 b i with
    |none=>rfl
    |some v=>
     rcases hF.new b i v e3 with h3|⟨cs,E,fz,h3,h4,h5⟩
     .rw[e,e2]at h3;cases h3
     .rcases hw.mfr b _ h3 with h6|h6
      .omega
      .exact(h2' h6).elim
theorem E9{τ:St}{K:Prop}(hM:aI B ι σ a w)(h:MI σ τ K):∃ι',aI B ι' τ a w/\K:=by
 obtain⟨ι1,hM1⟩:=oH τ τ.sl 0 ι σ hM;obtain⟨ι2,hM2⟩:=tX τ τ.own 0 ι1 _ hM1;have hM2:aI B ι2 (conv σ τ) a w:=hM2;unfold MI at h;obtain⟨hsl,h⟩:=tV h hM2.slots;obtain⟨hown,hF,hK⟩:=rL h;have hM3:=hM2.froze hF;exact⟨ι2,⟨hsl,hM2.defers,λk o hk=>hM2.own k o (hown k o hk),λk k' o o' b hk hk' hb hb'=>hM2.dist k k' o o' b (hown k o hk) (hown k' o' hk') hb hb',λk o b hk hb=>hM3.fresh k o b (hown k o hk) hb,hM3.wrel,hM2.one⟩,hK⟩
theorem uB{c:oM}{R:c.A->Prop}(hM:aI B ι σ a w)(h:Er c R σ):∃x ι',R x/\aI B ι' (c.st x) a w:=by
 unfold Er at h;split at h
 .obtain⟨x,hx,hm⟩:=h;obtain⟨ι2,hM2,_⟩:=kR hM hm;exact⟨x,ι2,hx,hM2⟩
 .obtain⟨x,hx,hm⟩:=h ⟨hM.wrel.disj⟩;obtain⟨ι2,hM2,_⟩:=E9 hM hm;exact⟨x,ι2,hx,hM2⟩
theorem Hs{c:oM}{I S:c.A->Prop}(hM:aI B ι σ a w)(h:Na c I S σ):∃x ι',I x/\S x/\aI B ι' (c.st x) a w:=by
 unfold Na at h;split at h
 .obtain⟨x,hx,hs,hm⟩:=h;obtain⟨ι2,hM2,_⟩:=kR hM hm;exact⟨x,ι2,hx,hs,hM2⟩
 .obtain⟨x,hx,hs,hm⟩:=h ⟨hM.wrel.disj⟩;obtain⟨ι2,hM2,_⟩:=E9 hM hm;exact⟨x,ι2,hx,hs,hM2⟩
def QD(B:oJ)(Q:Bx->St->Prop):Exit->Act->World->Prop
 |.normal,a,w=>∃ι σ,aI B ι σ a w/\Q .normal σ
 |.exit id,a,w=>∃ι σ,aI B ι σ a w/\Q (.exit id) σ
 |.ret,a,w=>∃ι σ,aI B ι σ a w/\Q .ret σ
 |_,_,_=>False
theorem FP(hspecs:∀g S,assoc C.specs g=some S->Sound C.P g S){ops:Array Oper}{Q:Bx->St->Prop}:
 ∀(segs:List (Nat×oM))(l:List Oper)(s:Nat)(ι:Nat->Value)(σ:St)(a:Act)(w:World),(∀j,l[j]? =ops.toList[s+j]?)->aI B ι σ a w->UX C ops segs l σ (Q .normal)->wpOpsIn Fence.wide 0 C.P ops (QD B Q) (List.range' s l.length) a w
 |[],l,s,ι,σ,a,w,hl,hM,h=>by
  have:=DK hspecs (ops:=ops) (Q:=QD B Q) (R:=Q .normal) (rest:=[]) (λι σ a w hM h=>⟨ι,σ,hM,h⟩) l s ι σ a w (λj _=>hl j) hM h;simpa using this
 |(n,ann)::segs,l,s,ι,σ,a,w,hl,hM,h=>by
  obtain⟨I,h1,h2⟩:=h
  have:=DK hspecs (ops:=ops) (Q:=QD B Q) (R:=λτ=>∃x,I x/\wC τ (ann.st x) True) (rest:=List.range' (s+(l.take n).length) (l.drop n).length) (λι' σ' a' w' hM' hx=>by
   obtain⟨x,hx,hm⟩:=hx;obtain⟨ι2,hM2,_⟩:=kR hM' hm;refine FP hspecs segs (l.drop n) (s+(l.take n).length) ι2 _ a' w' (λj=>?_) hM2 (h2 x hx);rw[List.getElem?_drop,hl];by_cases hn:n<=l.length
   .congr 1;simp;omega
   .have e1:l[n+j]? =none:=List.getElem?_eq_none aC;have e2:l[l.length+j]? =none:=List.getElem?_eq_none aC;rw[hl]at e1 e2;rw[e1,show s+(List.take n l).length+j=s+(l.length+j)by simp;omega,e2]) (l.take n) s ι σ a w (λj hj=>by
    rw[<-hl,List.getElem?_take];rw[if_pos (by simp at hj;omega)]) hM h1
  rwa [List.range'_append_1, <-List.length_append,List.take_append_drop]at this
theorem NC(hspecs:∀g S,assoc C.specs g=some S->Sound C.P g S):∀(c:Code)(σ:St)(Q:Bx->St->Prop)(ι:Nat->Value)(a:Act)(w:World),aI B ι σ a w->VC C c σ Q->c.wp C.P (QD B Q) a w:=by
 intro c
 induction c with
 |skip=>intro σ Q ι a w hM h;exact wp_skip ⟨ι,σ,hM,h⟩
 |label l=>intro σ Q ι a w hM h;exact wp_label ⟨ι,σ,hM,h⟩
 |exit id=>intro σ Q ι a w hM h;exact wp_exit ⟨ι,σ,hM,h⟩
 |ret=>intro σ Q ι a w hM h;exact wp_ret ⟨ι,σ,hM,h⟩
 |goto l=>intro σ Q ι a w hM h;exact h.elim
 |refuse why=>intro σ Q ι a w hM h;exact h.elim
 |scope body ih=>intro σ Q ι a w hM h;exact h.elim
 |rangeFunc f ps x y ihx ihy=>intro σ Q ι a w hM h;exact h.elim
 |region id ops draw=>
  intro σ Q ι a w hM h;cases draw with
  |false=>
   refine(wpIn_wide (n:=0)).1 (wpIn_region ?_);have:=FP hspecs (ops:=ops) (Q:=Q) (P4 C id) ops.toList 0 ι σ a w (λj=>by simp) hM h;rw[List.range_eq_range'];simpa using this
  |true=>
   simp only[VC]at h;split at h
   .rename_i h1 h2 h3;have hs:=UW h1 h2;refine wp_region_any h3 ?_;refine LU hspecs hs (Q:=QD B Q) (R:=Q .normal) (λι σ a w hM h=>⟨ι,σ,hM,h⟩) (λc a w h=>h) ops.size ops.size _ ι σ a _ (hM.drew (w.drawn+1) (Nat.le_succ _)) h _ a ?_ ?_
    .have hno:∀i,(Array.replicate ops.size false).getD i false=true->False:=by
      intro i hi;by_cases hlt:i<ops.size
      .simp[Array.getD,hlt]at hi
      .simp[Array.getD,hlt]at hi
     exact⟨by simp,by simp,λi hi=>hi,λi o _ hi=>(hno i hi).elim,λi o _ hi=>(hno i hi).elim,λi o _ hi=>(hno i hi).elim,rfl,rfl,λt _=>rfl,λi o _ hi=>(hno i hi).elim⟩
    .unfold oX;rw[List.filter_eq_self.2]
     .simp
     .intro i hi;by_cases hlt:i<ops.size<;>simp[Array.getD,hlt]
   .exact h.elim
 |seq x y ihx ihy=>
  intro σ Q ι a w hM h;simp only[VC]at h;split at h
  .obtain⟨h,hall⟩:=h;refine wp_seq (wp_mono (ihx σ _ ι a w hM h) ?_);intro e a' w' hq;cases e with
   |normal=>
    obtain⟨ι',σ',hM',x,hx,hm⟩:=hq;show y.wp C.P (QD B Q) a' w';obtain⟨ι2,hM2,_⟩:=kR hM' hm;exact ihy _ Q ι2 a' w' hM2 (hall x hx)
   |exit id=>exact hq
   |ret=>exact hq
   |goto l=>exact hq
   |panic ch=>exact hq
   |outgrown=>exact hq
  .split at h
   .obtain⟨I,h,hall⟩:=h;refine wp_seq (wp_mono (ihx σ _ ι a w hM h) ?_);intro e a' w' hq;cases e with
    |normal=>
     obtain⟨ι',σ',hM',hm⟩:=hq;show y.wp C.P (QD B Q) a' w';obtain⟨x,ι2,hx,hM2⟩:=uB hM' hm;exact ihy _ Q ι2 a' w' hM2 (hall x hx)
    |exit id=>exact hq
    |ret=>exact hq
    |goto l=>exact hq
    |panic ch=>exact hq
    |outgrown=>exact hq
   .refine wp_seq (wp_mono (ihx σ _ ι a w hM h) ?_);intro e a' w' hq;cases e with
    |normal=>
     obtain⟨ι',σ',hM',h'⟩:=hq;show y.wp C.P (QD B Q) a' w';exact ihy σ' Q ι' a' w' hM' h'
    |exit id=>exact hq
    |ret=>exact hq
    |goto l=>exact hq
    |panic ch=>exact hq
    |outgrown=>exact hq
 |cond c x y ihx ihy=>
  intro σ Q ι a w hM h;simp only[VC]at h;split at h
  .rename_i t hc;have hev:=hM.ev c;rw[hc]at hev;have hev:a.eval c= .bool t:=hev;rcases qF h with⟨rfl,h⟩|⟨rfl,h⟩
   .exact wp_cond_true hev (ihx _ Q ι a w (hM.setTmp hc) h)
   .exact wp_cond_false hev (ihy _ Q ι a w (hM.setTmp hc) h)
  .exact h.elim
 |block id c ih=>
  intro σ Q ι a w hM h;refine wp_block (wp_mono (ih σ _ ι a w hM h) ?_);intro e a' w' hq;cases e with
  |normal=>exact hq
  |exit i=>
   obtain⟨ι',σ',hM',h'⟩:=hq;show if i=id then _ else _
   simp only at h';split at h'
   .rename_i hb;rw[if_pos (Nat.eq_of_beq_eq_true hb)];exact⟨ι',σ',hM',h'⟩
   .rename_i hb;rw[if_neg (λe=>by subst e;simp at hb)];exact⟨ι',σ',hM',h'⟩
  |ret=>exact hq
  |goto l=>exact hq
  |panic ch=>exact hq
  |outgrown=>exact hq
 |loop c ih=>
  intro σ Q ι a w hM h;simp only[VC]at h;split at h
  .rename_i l hl;obtain⟨⟨x,hx,hm⟩,hall⟩:=h;obtain⟨ι2,hM2,_⟩:=kR hM hm;refine wp_loop_ghost (λn a w=>∃x ι,l.inv x/\l.mu x=n/\aI B ι (l.st x) a w) (l.mu x) ⟨x,ι2,hx,rfl,hM2⟩ ?_;rintro n a' w' ⟨x',ι',hx',rfl,hM'⟩;refine wp_mono (ih _ _ ι' a' w' hM' (hall x' hx')) ?_;intro e a'' w'' hq;cases e with
   |normal=>
    obtain⟨ι3,σ3,hM3,y,hy,hlt,hmy⟩:=hq;obtain⟨ι4,hM4,_⟩:=kR hM3 hmy;exact⟨l.mu y,hlt,y,ι4,hy,rfl,hM4⟩
   |exit id=>exact hq
   |ret=>exact hq
   |goto l=>exact hq
   |panic ch=>exact hq
   |outgrown=>exact hq
  .split at h
   .rename_i l hl;obtain⟨I,mu,hm,hall⟩:=h;obtain⟨x,ι2,hx,hM2⟩:=uB hM hm;refine wp_loop_ghost (λn a w=>∃x ι,I x/\mu x=n/\aI B ι (l.st x) a w) (mu x) ⟨x,ι2,hx,rfl,hM2⟩ ?_;rintro n a' w' ⟨x',ι',hx',rfl,hM'⟩;refine wp_mono (ih _ _ ι' a' w' hM' (hall x' hx')) ?_;intro e a'' w'' hq;cases e with
    |normal=>
     obtain⟨ι3,σ3,hM3,hmy⟩:=hq;obtain⟨y,ι4,hy,hlt,hM4⟩:=Hs hM3 hmy;exact⟨mu y,hlt,y,ι4,hy,rfl,hM4⟩
    |exit id=>exact hq
    |ret=>exact hq
    |goto l=>exact hq
    |panic ch=>exact hq
    |outgrown=>exact hq
   .exact h.elim
end
end Go.Vc
namespace Go.Vc
open Go
section
variable{B:oJ}{C:Ctx}{ι:Nat->Value}{σ:St}{a:Act}{w:World}
def Gd(tmps:Array Value):ResultVar->Sem Value
 |.tmp t=>pure (tmps.getD t undef)
 |.cell a t=>do loadVar t (<-asAddr (tmps.getD a undef))
theorem IF(fn:Func)(tmps:Array Value):results fn tmps=(do let vs <-fn.results.mapM (Gd tmps);pure (if h:vs.size=1 then vs[0]else .tuple vs)):=by
 unfold results;congr 1
theorem NZ(hM:aI B ι σ a w){r:ResultVar}{x:SV}(h:Sh C σ r=some x):∃v,(Gd a.tmps r).run C.P w= .ok v w/\Den ι x v:=by
 cases r with
 |tmp t=>
  simp only[Sh,Option.some.injEq]at h;subst h;exact⟨_,rfl,hM.ev (.tmp t)⟩
 |cell ad T=>
  have hev:=hM.ev (.tmp ad);simp only[Sh]at h;split at h
  .rename_i k off hx;rw[hx]at hev;split at h
   .rename_i p T' cs hk;split at h
    .rename_i hle hT;have hle:=Nat.le_of_ble_eq_true hle;simp only[Option.some.injEq]at h;subst h;obtain⟨b,vs,hι,hh,hd⟩:=sH hM hk;obtain⟨b',hb',hp⟩:=hev;rw[hι]at hb';simp only[Value.pointer.injEq,Option.some.injEq,Addr.mk.injEq]at hb';obtain⟨rfl, -, -⟩:=hb';have hd':=(hd.drop off).take (C.P.cellsOf T);have hvs:cs.length=vs.toList.length:=hd.length;have hl:=uA (w:=w) (b:=b) (off:=off) (cs:=(vs.toList.drop off).take (C.P.cellsOf T)) hT (by simp at hvs⊢;omega) (λj v hv=>by rw[cell_of_heap hh];exact sD hv);refine⟨_,?_,D6 hd'⟩;have hp':a.tmps.getD ad undef= .pointer (some ⟨b,off,none⟩):=hp;simp only[Gd,hp',asAddr,Sem.run_bind,Sem.run_pure,Result.andThen_ok,hl]
    .cases h
   .cases h
  .cases h
theorem Ep(hM:aI B ι σ a w):∀(l:List ResultVar)(xs:List SV),DN C σ l=some xs->∃vs,(l.mapM (Gd a.tmps)).run C.P w= .ok vs w/\DenS ι xs vs
 |[],xs,h=>by
  simp[DN]at h;subst h;exact⟨[],by simp,trivial⟩
 |r::l,xs,h=>by
  simp only[DN]at h;split at h
  .rename_i x xs' hx hxs;simp only[Option.some.injEq]at h;subst h;obtain⟨v,hv,hd⟩:=NZ hM hx;obtain⟨vs,hvs,hds⟩:=Ep hM l xs' hxs;exact⟨v::vs,by simp[List.mapM_cons,hv,hvs],hd,hds⟩
  .cases h
theorem rU(hM:aI B ι σ a w){mv:Bool}:∀(xs:List SV)(ts:List TypeId)(rs:List CV)(vs:List Value),z7 C.P σ mv xs ts=some rs->DenS ι xs vs->
 rs.length=vs.length/\(mv=false->rs=vs.map .val)/\∀(i:Nat)(r:CV)(v:Value),rs[i]? =some r->vs[i]? =some v->Dw w r v/\∀b,fS r v=some b->∃k ow,nth σ.own k=some (some ow)/\blk (ι k)=some b
 |[],ts,rs,[],h,_=>by
  simp[z7]at h;subst h;exact⟨rfl,λ_=>rfl,λi r v hr=>by simp at hr⟩
 |[],_,_,_::_,_,hd=>hd.elim
 |x::xs,_,_,[],_,hd=>hd.elim
 |x::xs,ts,rs,v::vs,h,hd=>by
  simp only[z7]at h;split at h
  .cases h
  .rename_i l hl;obtain⟨ih1,ih2,ih3⟩:=rU hM xs ts.tail l vs hl hd.2
   have fin:∀(c0:CV),rs=c0::l->(mv=false->c0= .val v)->Dw w c0 v->(∀b,fS c0 v=some b->∃k ow,nth σ.own k=some (some ow)/\blk (ι k)=some b)->
    rs.length=(v::vs).length/\(mv=false->rs=(v::vs).map .val)/\∀(i:Nat)(r:CV)(u:Value),rs[i]? =some r->(v::vs)[i]? =some u->Dw w r u/\∀b,fS r u=some b->∃k ow,nth σ.own k=some (some ow)/\blk (ι k)=some b:=by
    intro c0 hrs h1 h2 h3;subst hrs;refine⟨by simp[ih1],λhm=>by rw[h1 hm,ih2 hm];rfl,λi r u hr hu=>?_⟩;cases i with
    |zero=>simp at hr hu;subst hr hu;exact⟨h2,h3⟩
    |succ i=>simp only[List.getElem?_cons_succ]at hr hu;exact ih3 i r u hr hu
   split at h
   .split at h
    .rename_i k;have hv:v=ι k:=hd.1;split at h
     .rename_i E sz ys hk;simp only[Option.some.injEq]at h;obtain⟨hr,ho⟩:=nE hM hk;exact fin _ h.symm (λe=>by cases e) ⟨hr,by rw[hv];exact ho⟩ (λb hb=>⟨k,_,hk,by rw[<-hv];exact hb⟩)
     .cases h
    .have hv:v= .slice none 0 0:=hd.1;split at h
     .rename_i E z hE;simp only[Option.some.injEq]at h;refine fin _ h.symm (λe=>by cases e) ⟨DL _,by rw[hv];exact World.ownsRow_nil w 0 E _⟩ (λb hb=>?_);rw[hv]at hb;simp[fS,blk]at hb
     .cases h
    .cases h
   .split at h
    .rename_i u hu;simp only[Option.some.injEq]at h;have hv:=(hd.1).val? hu;exact fin _ h.symm (λ_=>by rw[hv]) hv (λb hb=>by simp[fS]at hb)
    .cases h
theorem Kz(hM:aI B ι σ a w){fn:Func}{K:CV->MH->PH->Prop}(h:KA C fn K σ):
 ∃u,(results fn a.tmps).run C.P w= .ok u w/\∃r m' h',K r m' h'/\Dw w r u/\zI B m' h' w/\∀b,fS r u=some b->(B.w0.heap.size<=b\/B.E b)/\m' b=none/\∀i,h' b i=none:=by
 unfold KA at h;split at h
 .exact h.elim
 .rename_i xs hxs;obtain⟨τ',hMτ',h,_⟩:=kT _ _ hM h;obtain⟨τ,hMτ,h,_⟩:=sQ _ _ hMτ' h;split at h
  .exact h.elim
  .rename_i ys hys;obtain⟨vs,hvs,hds⟩:=Ep hMτ _ _ hys
   have hres:(results fn a.tmps).run C.P w= .ok (if h:vs.toArray.size=1 then vs.toArray[0]else .tuple vs.toArray) w:=by
    rw[IF,Array.mapM_eq_mapM_toList];simp[hvs]
   have blocks:∀(rs:List CV)(r:CV)(v:Value),z7 C.P τ C.retMove ys fn.resultTypes.toList=some rs->(∃i:Nat,rs[i]? =some r/\vs[i]? =some v)->Dw w r v/\∀b,fS r v=some b->(B.w0.heap.size<=b\/B.E b)/\τ.m b=none/\∀i,τ.h b i=none:=by
    rintro rs r v hrs ⟨i,hr,hv⟩;obtain⟨_,_,h3⟩:=rU hMτ _ _ _ _ hrs hds;obtain⟨h4,h5⟩:=h3 i r v hr hv;refine⟨h4,λb hb=>?_⟩;obtain⟨k,ow,hk,hbk⟩:=h5 b hb;exact hMτ.fresh k ow b hk hbk
   split at h
   .rename_i r hr;obtain⟨hlen,_,_⟩:=rU hMτ _ _ _ _ hr hds;simp at hlen
    obtain⟨v,rfl⟩:∃v,vs=[v]:=by
     match vs,hlen with
     |[v],_=>exact⟨v,rfl⟩
    obtain⟨h4,h5⟩:=blocks _ r v hr ⟨0,rfl,rfl⟩;refine⟨v,by simpa using hres,r,τ.m,τ.h,h,h4,hMτ.wrel,h5⟩
   .rename_i rs hne hrs;split at h
    .exact h.elim
    .rename_i hmv;obtain⟨hlen,hval,_⟩:=rU hMτ _ _ _ _ hrs hds
     have hnl:vs.length≠1:=by
      intro e;rw[e]at hlen
      match rs,hlen with
      |[r],_=>exact hne r rfl
     refine⟨.tuple vs.toArray,by rw[hres,dif_neg (by simpa using hnl)],.tup rs,τ.m,τ.h,h,⟨vs.toArray,rfl,by simpa using hval hmv⟩,hMτ.wrel,λb hb=>by simp[fS]at hb⟩
   .exact h.elim
def Hd(n:Nat)(cvs:List CV)(vs:List Value)(k:Nat):Value:=
 match cvs[k-n]?,vs[k-n]? with
 |some (.lst _ _ _),some v=>v
 |_,_=>.slice none 0 0
theorem mK{w:World}:∀{cvs:List CV}{vs:List Value},zJ w cvs vs->cvs.length=vs.length/\∀(i:Nat)(c:CV)(v:Value),cvs[i]? =some c->vs[i]? =some v->Dw w c v
 |[],[],_=>⟨rfl,λi c v h=>by simp at h⟩
 |c::cs,v::vs,h=>by
  obtain⟨h1,h2⟩:=mK h.2;refine⟨by simp[h1],λi c' v' hc hv=>?_⟩;cases i with
  |zero=>simp at hc hv;subst hc hv;exact h.1
  |succ i=>simp at hc hv;exact h2 i c' v' hc hv
 |[],_::_,h=>h.elim
 |_::_,[],h=>h.elim
theorem Hl{n:Nat}{all:List CV}{avs:List Value}{w:World}:∀(i:Nat)(cvs:List CV)(vs:List Value),zJ w cvs vs->(∀j:Nat,cvs[j]? =all[i+j]?)->(∀j:Nat,vs[j]? =avs[i+j]?)->
 DenS (Hd n all avs) (Dp n i cvs) vs
 |i,[],[],_,_,_=>trivial
 |i,c::cvs,v::vs,h,h1,h2=>by
  have ih:=Hl (n:=n) (all:=all) (avs:=avs) (i+1) cvs vs h.2 (λj=>by have:=h1 (j+1);simp only[List.getElem?_cons_succ]at this;rw[this];congr 1;omega) (λj=>by have:=h2 (j+1);simp only[List.getElem?_cons_succ]at this;rw[this];congr 1;omega);cases c with
  |val u=>exact⟨h.1,ih⟩
  |lst E sz xs=>
   refine⟨?_,ih⟩;show v=Hd n all avs (n+i);have e1:=h1 0;have e2:=h2 0;simp at e1 e2;unfold Hd;rw[show n+i-n=i by omega, <-e1, <-e2]
  |tup rs=>exact⟨trivial,ih⟩
 |i,[],_::_,h,_,_=>h.elim
 |i,_::_,[],h,_,_=>h.elim
theorem Fp:∀(cvs:List CV)(k:Nat)(o:Own),nth (uG cvs) k=some (some o)->∃E sz xs,cvs[k]? =some (.lst E sz xs)/\o= .lst E sz xs
 |[],k,o,h=>by simp[uG,nth]at h
 |c::cvs,0,o,h=>by
  cases c<;>simp[uG,nth]at h;rename_i E sz xs;exact⟨E,sz,xs,rfl,h.symm⟩
 |c::cvs,k+1,o,h=>by
  have:nth (uG cvs) k=some (some o):=by cases c<;>simpa[uG,nth]using h
  obtain⟨E,sz,xs,h1,h2⟩:=Fp cvs k o this;exact⟨E,sz,xs,by simpa using h1,h2⟩
theorem LO{ι:Nat->Value}:∀(n:Nat)(vs:List Value),vs.length=n->DenS ι (List.replicate n (.at .junk)) vs
 |0,[],_=>trivial
 |n+1,v::vs,h=>⟨trivial,LO n vs (by simpa using h)⟩
 |0,_::_,h=>by simp at h
 |_+1,[],h=>by simp at h
theorem DenS.append{ι:Nat->Value}:∀{xs xs':List SV}{vs vs':List Value},DenS ι xs vs->DenS ι xs' vs'->DenS ι (xs++xs') (vs++vs')
 |[],_,[],_,_,h'=>by simpa using h'
 |_::_,_,_::_,_,h,h'=>⟨h.1,DenS.append h.2 h'⟩
 |[],_,_::_,_,h,_=>h.elim
 |_::_,_,[],_,h,_=>h.elim
theorem Fo{w:World}{m:MH}{h:PH}{cvs:List CV}{vs:List Value}(n:Nat)(hp:wI w m h cvs vs):
 aI ⟨w,rV m cvs vs,h,[]⟩ (Hd n cvs vs) (entry n cvs m h) {tmps:=vs.toArray++Array.replicate (n-vs.toArray.size) undef,defers:=[]} w:=by
 obtain⟨hlen,hget⟩:=mK hp.args
 have hown:∀k o,nth (entry n cvs m h).own k=some (some o)->n<=k/\∃E sz xs,cvs[k-n]? =some (.lst E sz xs)/\o= .lst E sz xs/\∃v,vs[k-n]? =some v/\Hd n cvs vs k=v/\Dw w (.lst E sz xs) v:=by
  intro k o hk;simp only[entry]at hk;rw[iK]at hk;by_cases hkn:k<n
  .rw[List.getElem?_append_left (by simpa using hkn)]at hk;simp[hkn]at hk
  .rw[List.getElem?_append_right (by simpa using Nat.le_of_not_lt hkn)]at hk;simp only[List.length_replicate]at hk;rw[<-iK]at hk;obtain⟨E,sz,xs,h1,h2⟩:=Fp cvs (k-n) o hk
   have hlt:k-n<vs.length:=by
    rw[<-hlen];exact(List.getElem?_eq_some_iff.1 h1).1
   have hv:vs[k-n]? =some vs[k-n]:=List.getElem?_eq_getElem hlt;refine⟨aC,E,sz,xs,h1,h2,_,hv,?_,hget _ _ _ h1 hv⟩;unfold Hd;rw[h1,hv]
 refine⟨?_,rfl,?_,?_,?_,?_,?_⟩
 .have h1:=Hl (n:=n) (all:=cvs) (avs:=vs) 0 cvs vs hp.args (λj=>by simp) (λj=>by simp);show DenS _ (Dp n 0 cvs++List.replicate (n-cvs.length) (.at .junk)) _;have:(vs.toArray++Array.replicate (n-vs.toArray.size) undef).toList=vs++List.replicate (n-vs.length) undef:=by simp
  rw[this];exact h1.append (LO _ _ (by simp[hlen]))
 .intro k o hk;obtain⟨hkn,E,sz,xs,h1,rfl,v,hv,hι,hok⟩:=hown k o hk;rw[hι];exact hok
 .intro k k' o o' b hk hk' hb hb';obtain⟨hkn,E,sz,xs,h1,rfl,v,hv,hι,hok⟩:=hown k o hk;obtain⟨hkn',E',sz',xs',h1',rfl,v',hv',hι',hok'⟩:=hown k' o' hk';rw[hι]at hb;rw[hι']at hb';have:=hp.sep (k-n) (k'-n) _ _ v v' b h1 hv h1' hv' hb hb';omega
 .intro k o b hk hb;obtain⟨hkn,E,sz,xs,h1,rfl,v,hv,hι,hok⟩:=hown k o hk;rw[hι]at hb;obtain⟨f1,f2⟩:=hp.free (k-n) _ v b h1 hv hb;exact⟨.inr (.inr ⟨k-n,_,v,h1,hv,hb⟩),f1,f2⟩
 .refine⟨rfl,rfl,rfl,Nat.le_refl _,Nat.le_refl _,λ_ _ _=>rfl,hp.hsat,hp.msat,hp.disj,λ_ _ _ h=>h,λ_ _ _=>rfl,λb ob hb=>.inr (.inl (by have hb:m b=some ob:=hb;rw[hb];simp))⟩
 .intro k;unfold Hd;split
  .rename_i E sz xs v h1 h2;exact G6 (hget _ _ _ h1 h2).2
  .rfl
theorem eG{P:Program}{f:FuncId}{fn:Func}{c:Code}(hf:P.funcs[f]? =some fn)(hb:fn.body=some c)(hname:(fn.name== "runtime.NumGoroutine")=false){S:Spec}
 (hvc:∀cvs m h K,S cvs m h K->∃C:Ctx,C.P=P/\(∀g S,assoc C.specs g=some S->Sound P g S)/\zX C fn c (entry fn.ntmps cvs m h) K):Sound P f S:=by
 refine⟨⟨fn,hf,by rw[hb];rfl,hname⟩,?_⟩;intro cvs vs m h w K hS hp;obtain⟨C,rfl,hspecs,hv⟩:=hvc cvs m h K hS;refine calls_of_wp hf hb ?_;refine wp_mono (NC hspecs c _ _ _ _ w (Fo fn.ntmps hp) hv) ?_;intro e a' w' hq
 have key:(∃ι σ,aI ⟨w,rV m cvs vs,h,[]⟩ ι σ a' w'/\KA C fn K σ)->a'.defers=[]/\∃v,(results fn a'.tmps).run C.P w'= .ok v w'/\∃r u m' h',Ending.returned v= .returned u/\K r m' h'/\Dw w' r u/\zI ⟨w,rV m cvs vs,h,[]⟩ m' h' w'/\
  ∀b,fS r u=some b->(w.heap.size<=b\/rV m cvs vs b)/\m' b=none/\∀i,h' b i=none:=by
  rintro⟨ι,σ,hM,hr⟩;obtain⟨u,hu,r,m',h',h1,h2,h3,h4⟩:=Kz hM hr;exact⟨hM.defers,u,hu,r,u,m',h',rfl,h1,h2,h3,h4⟩
 cases e with
 |normal=>exact key hq
 |ret=>exact key hq
 |exit id=>obtain⟨_,_,_,h⟩:=hq;exact h.elim
 |goto l=>exact hq.elim
 |panic ch=>exact hq.elim
 |outgrown=>exact hq.elim
theorem TO{P:Program}{f:FuncId}{fn:Func}{c:Code}(hf:P.funcs[f]? =some fn)(hb:fn.body=some c)(hname:(fn.name== "runtime.NumGoroutine")=false){S:Spec}
 (hvc:∀cvs m h K,S cvs m h K->∃C:Ctx,C.P=P/\(∀g S,assoc C.specs g=some S->Sound P g S)/\zX C fn c (entry fn.ntmps cvs m h) (λr m' h'=>∃m2 h2,(∀b o,m2 b=some o->m' b=some o)/\PH.le h h2/\PH.le h2 h'/\K r m2 h2)):Sound P f S:=by
 have h0:=eG hf hb hname (S:=λcvs m h K=>∃K',S cvs m h K'/\K=λr m' h'=>∃m2 h2,(∀b o,m2 b=some o->m' b=some o)/\PH.le h h2/\PH.le h2 h'/\K' r m2 h2) (by
  rintro cvs m h K ⟨K',hS,rfl⟩;exact hvc cvs m h K' hS)
 refine⟨h0.1,λcvs vs m h w K hS hp=>?_⟩;refine(h0.2 cvs vs m h w _ ⟨K,hS,rfl⟩ hp).mono ?_;rintro e w' ⟨r,u,m',h',he,⟨m2,h2,k1,k2,k3,hK⟩,hok,hw,hfr⟩
 have hnone:∀b i,h' b i=none->h2 b i=none:=by
  intro b i e;cases e2:h2 b i with
  |none=>rfl
  |some v=>rw[k3.le b i v e2]at e;cases e
 refine⟨r,u,m2,h2,he,hK,hok,?_,λb hb=>?_⟩
 .refine⟨hw.tape,hw.os,hw.output,hw.drawn,hw.size,hw.frame,λb o v e=>hw.hsat b o v (k3.le b o v e),λb o e=>hw.msat b o (k1 b o e),λb o e i=>hnone b i (hw.disj b o (k1 b o e) i),k2.le,λb h1 h2'=>?_,λb o e=>hw.mfr b o (k1 b o e)⟩;funext i;have e:=congrFun (hw.hold b h1 h2') i;show h2 b i=h b i;cases e2:h b i with
  |some v=>exact(k2.le b i v e2)
  |none=>exact hnone b i (by rw[e];exact e2)
 .obtain⟨f1,f2,f3⟩:=hfr b hb;refine⟨f1,?_,λi=>hnone b i (f3 i)⟩;cases e2:m2 b with
  |none=>rfl
  |some o=>rw[k1 b o e2]at f2;cases f2
def cZ(h:PH)(K:CV->MH->PH->Prop):CV->MH->PH->Prop:=λr m' h'=>(∀b o,m' b=some o->∀i,h' b i=none)->∃m2 h2,(∀b o,m2 b=some o->m' b=some o)/\PH.le h h2/\
 (∀b i v,h2 b i=some v->h' b i=some v\/∃cs E fz,m' b=some (.cells cs E fz)/\cs[i]? =some v/\m2 b=none)/\K r m2 h2
theorem Sound.strong{P:Program}{f:FuncId}{S:Spec}(h0:Sound P f (λcvs m h K=>∃K',S cvs m h K'/\K=cZ h K')):Sound P f S:=by
 refine⟨h0.1,λcvs vs m h w K hS hp=>?_⟩;refine(h0.2 cvs vs m h w _ ⟨K,hS,rfl⟩ hp).mono ?_;rintro e w' ⟨r,u,m',h',he,hStr,hok,hw,hfr⟩;obtain⟨m2,h2,k1,k2,k3,hK⟩:=hStr hw.disj;refine⟨r,u,m2,h2,he,hK,hok,?_,λb hb=>?_⟩
 .refine⟨hw.tape,hw.os,hw.output,hw.drawn,hw.size,hw.frame,λb o v e=>?_,λb o e=>hw.msat b o (k1 b o e),λb o e i=>?_,k2.le,λb h1 h2'=>?_,λb o e=>hw.mfr b o (k1 b o e)⟩
  .rcases k3 b o v e with h3|⟨cs,E,fz,h3,h4,_⟩
   .exact hw.hsat b o v h3
   .rw[cell_of_heap (hw.msat b _ h3),Array.getElem?_toList];exact h4
  .cases e2:h2 b i with
   |none=>rfl
   |some v=>
    rcases k3 b i v e2 with h3|⟨cs,E,fz,h3,h4,h5⟩
    .rw[hw.disj b o (k1 b o e) i]at h3;cases h3
    .rw[h5]at e;cases e
  .funext i;have e:=congrFun (hw.hold b h1 h2') i;show h2 b i=h b i;cases e2:h b i with
   |some v=>exact(k2.le b i v e2)
   |none=>
    cases e3:h2 b i with
    |none=>rfl
    |some v=>
     rcases k3 b i v e3 with h3|⟨cs,E,fz,h3,h4,h5⟩
     .rw[e]at h3;have:h b i=some v:=h3;rw[e2]at this;cases this
     .rcases hw.mfr b _ h3 with h6|h6
      .have h6:w.heap.size<=b:=h6;have h1:b<w.heap.size:=h1;omega
      .exact(h2' h6).elim
 .obtain⟨f1,f2,f3⟩:=hfr b hb;refine⟨f1,?_,λi=>?_⟩
  .cases e2:m2 b with
   |none=>rfl
   |some o=>rw[k1 b o e2]at f2;cases f2
  .cases e2:h2 b i with
   |none=>rfl
   |some v=>
    rcases k3 b i v e2 with h3|⟨cs,E,fz,h3,_,_⟩
    .rw[f3 i]at h3;cases h3
    .rw[f2]at h3;cases h3
theorem TN{P:Program}{f:FuncId}{fn:Func}{c:Code}(hf:P.funcs[f]? =some fn)(hb:fn.body=some c)(hname:(fn.name== "runtime.NumGoroutine")=false){S:Spec}
 (hvc:∀cvs m h K,S cvs m h K->∃C:Ctx,C.P=P/\(∀g S,assoc C.specs g=some S->Sound P g S)/\zX C fn c (entry fn.ntmps cvs m h) (cZ h K)):Sound P f S:=
 .strong (eG hf hb hname (S:=λcvs m h K=>∃K',S cvs m h K'/\K=cZ h K') (by
  rintro cvs m h K ⟨K',hS,rfl⟩;exact hvc cvs m h K' hS))
end
end Go.Vc
namespace Go.Vc
open Go
theorem aB{c:Bool}{A B:Prop}(h1:c=true->A)(h2:c=false->B):branch c A B:=by
 cases c
 .exact h2 rfl
 .exact h1 rfl
theorem aE{p:Prop}[Decidable p]{A B:Prop}(h1:p->A)(h2:¬p->B):branch (decide p) A B:=
 aB (λh=>h1 (of_decide_eq_true h)) (λh=>h2 (of_decide_eq_false h))
theorem dJ{n:Int}(h1: -9223372036854775808<=n)(h2:n<9223372036854775808):IntKind.i64.wrap n=n:=by
 rw[IntKind.wrap_i64];omega
theorem aM.of_m{m:MH}{h:PH}{b off:Nat}{cs:Array Value}{E:TypeId}{fz:Nat×Nat}{l:List Value}(hm:m b=some (.cells cs E fz))(hl:(cs.toList.drop off).take l.length=l):aM m h b off l:=.lent cs E fz hm hl
end Go.Vc
namespace Go.Ps
open Go Go.Vc Go.Proofs
variable{K:CV->MH->PH->Prop}{m:MH}{h:PH}{ps:List Int}{cb:Nat}{l:List Int}{i:Nat}{N:Nat}{m':MH}{h':PH}{co:List Int}{gr:List Int}{od:List (Int×Bool)}{ta:Int}{li:Int}{xs:List (List Value)}{sz:Nat}{k:Nat}{ks:List (List Int)}{rs:List Int}{r:Sl}{a:List Int}{b:Nat}
structure VV where
 kind:Int
 int:Int
 text:ByteArray
structure OV where
 kind:Int
 index:Int
 value:VV
structure PV where
 op:Int
 cmp:Int
 left:OV
 right:OV
 args:Sl
structure QV where
 op:Int
 table:Int
 where_:PV
 columns:Sl
 on:Sl
 group:Sl
 order:Sl
 limit:Int
 args:Sl
variable{v:QV}
structure lS where
 name:ByteArray
 kind:Int
structure BC where
 columns:Sl
 table:Int
structure bP where
 name:ByteArray
 columns:Sl
 key:Int
 references:Sl
 checks:Sl
structure bX where
 version:Int
 tables:Sl
variable{sc:bX}
abbrev dY(n:Int):Value:=.int .i64 n
abbrev dT(s:Sl):Value:=.slice s.a s.len s.cap
abbrev tZ:Value:=.slice none 0 0
abbrev R8:Value:=.string ⟨⟨[]⟩⟩
abbrev PY(b o:Nat):Value:=.pointer (some ⟨b,o,none⟩)
abbrev mO(n:Int):At:=.val (.int .i64 n)
abbrev Bl(s:Sl):At:=.val (.slice s.a s.len s.cap)
abbrev JU:At:=.val (.slice none 0 0)
abbrev PL:At:=.val (.string ⟨⟨[]⟩⟩)
abbrev fY(n:Int):SV:=.at (.val (.int .i64 n))
abbrev WQ(s:Sl):SV:=.at (.val (.slice s.a s.len s.cap))
abbrev WJ:SV:=.at (.val (.slice none 0 0))
abbrev Zx(b o:Nat):SV:=.at (.ptr b o)
abbrev UZ(b o:Nat):SV:=.at (.val (.pointer (some ⟨b,o,none⟩)))
abbrev Zz(b:Bool):SV:=.at (.val (.bool b))
abbrev Zy(k:Nat):SV:=.at (.lst k)
abbrev eK(n:Int):CV:=.val (.int .i64 n)
abbrev Ag(b:Bool):CV:=.val (.bool b)
abbrev pD(s:Sl):CV:=.val (.slice s.a s.len s.cap)
abbrev lU:CV:=.val (.slice none 0 0)
abbrev qB(b o:Nat):CV:=.val (.pointer (some ⟨b,o,none⟩))
abbrev jI(l:List Value):CV:=.val (.agg ⟨l⟩)
abbrev oQ(T:TypeId)(l:List At):Option Own:=some (.cells T l)
abbrev eQ{α:Type}(x:α):Prop:=x=x
abbrev eP(k:Nat):Prop:=Zx k 0=Zx k 0
abbrev eL(k:Nat):Prop:=Zy k=Zy k
abbrev Nb(s:ByteArray):At:=.val (.string s)
abbrev zQ:List At:=[mO 0,mO 0,mO 0,mO 0,mO 0,mO 0,mO 0,mO 0,PL,mO 0,mO 0,mO 0,mO 0,PL,JU,JU,JU,JU,JU,mO 0,JU]
abbrev zP:List At:=[mO 0,mO 0,mO 0,mO 0,mO 0,mO 0,PL,mO 0,mO 0,mO 0,mO 0,PL,JU]
def eI(n:Int):List Value:=[.int .i64 n]
def eS(s:Sl):List Value:=[.slice s.a s.len s.cap]
def VV.enc(v:VV):List Value:=[.int .i64 v.kind,.int .i64 v.int,.string v.text]
def OV.enc(o:OV):List Value:=[.int .i64 o.kind,.int .i64 o.index,.int .i64 o.value.kind,.int .i64 o.value.int,.string o.value.text]
def PV.enc(p:PV):List Value:=
 [.int .i64 p.op,.int .i64 p.cmp,
  .int .i64 p.left.kind,.int .i64 p.left.index,.int .i64 p.left.value.kind,.int .i64 p.left.value.int,.string p.left.value.text,
  .int .i64 p.right.kind,.int .i64 p.right.index,.int .i64 p.right.value.kind,.int .i64 p.right.value.int,.string p.right.value.text,
  .slice p.args.a p.args.len p.args.cap]
def QV.enc(q:QV):List Value:=
 [.int .i64 q.op,.int .i64 q.table,
  .int .i64 q.where_.op,.int .i64 q.where_.cmp,
  .int .i64 q.where_.left.kind,.int .i64 q.where_.left.index,.int .i64 q.where_.left.value.kind,.int .i64 q.where_.left.value.int,.string q.where_.left.value.text,
  .int .i64 q.where_.right.kind,.int .i64 q.where_.right.index,.int .i64 q.where_.right.value.kind,.int .i64 q.where_.right.value.int,.string q.where_.right.value.text,
  .slice q.where_.args.a q.where_.args.len q.where_.args.cap,
  .slice q.columns.a q.columns.len q.columns.cap,.slice q.on.a q.on.len q.on.cap,.slice q.group.a q.group.len q.group.cap,.slice q.order.a q.order.len q.order.cap,
  .int .i64 q.limit,.slice q.args.a q.args.len q.args.cap]
def lS.enc(c:lS):List Value:=[.string c.name,.int .i64 c.kind]
def BC.enc(r:BC):List Value:=[.slice r.columns.a r.columns.len r.columns.cap,.int .i64 r.table]
def bP.enc(t:bP):List Value:=[.string t.name,.slice t.columns.a t.columns.len t.columns.cap,.int .i64 t.key,.slice t.references.a t.references.len t.references.cap,.slice t.checks.a t.checks.len t.checks.cap]
def bX.enc(s:bX):List Value:=[.int .i64 s.version,.slice s.tables.a s.tables.len s.tables.cap]
abbrev zV:List Value:=[dY 0,dY 0,dY 0,dY 0,dY 0,dY 0,dY 0,dY 0,R8,dY 0,dY 0,dY 0,dY 0,R8,tZ,tZ,tZ,tZ,tZ,dY 0,tZ]
abbrev pQ(p:PV)(r:List At):List At:=mO p.op::mO p.cmp::mO p.left.kind::mO p.left.index::mO p.left.value.kind::mO p.left.value.int::Nb p.left.value.text::mO p.right.kind::mO p.right.index::mO p.right.value.kind::mO p.right.value.int::Nb p.right.value.text::Bl p.args::r
abbrev qQ(q:QV)(x:At):List At:=mO q.op::mO q.table::pQ q.where_ [Bl q.columns,Bl q.on,Bl q.group,Bl q.order,mO q.limit,x]
def sY(p:Int×Int):List Value:=[.int .i64 p.1,.int .i64 p.2]
def Cz(p:Int×Bool):List Value:=[.int .i64 p.1,.bool p.2]
def dI:Yv:=⟨Int,eI⟩
def dS:Yv:=⟨Sl,eS⟩
def dB:Yv:=⟨Bool,λb=>[.bool b]⟩
def ZD:Yv:=⟨UInt8,λb=>[.int .u8 b.toNat]⟩
def Zq:Yv:=⟨ByteArray,λs=>[.string s]⟩
def V7:Option Nat->Value
 |none=>.nilFunc
 |some f=>.func (.func f) #[] #[]
def dF:Yv:=⟨Option Nat,λf=>[V7 f]⟩
structure NV where
 s:bX
 params:Sl
 q:QV
 args:Sl
def NV.enc(n:NV):List Value:=n.s.enc++eS n.params++n.q.enc++eS n.args
def dec:TypeId->Yv:=λT=>match T with
 |2=>dI
 |3=>dI
 |4=>dB
 |5=>ZD
 |9=>Zq
 |54=>dI
 |22=>dS
 |23=>dS
 |25=>dS
 |30=>dS
 |33=>dS
 |34=>dS
 |35=>dS
 |36=>dS
 |41=>dS
 |53=>dS
 |74=>dS
 |83=>dS
 |84=>dS
 |133=>dS
 |43=>⟨bX,bX.enc⟩
 |27=>⟨VV,VV.enc⟩
 |29=>⟨OV,OV.enc⟩
 |32=>⟨PV,PV.enc⟩
 |38=>⟨QV,QV.enc⟩
 |86=>⟨bP,bP.enc⟩
 |69=>⟨Int×Int,sY⟩
 |72=>⟨Int×Bool,Cz⟩
 |105=>⟨lS,lS.enc⟩
 |118=>⟨BC,BC.enc⟩
 |152=>⟨NV,NV.enc⟩
 |153=>dF
 |229=>dF
 |158=>⟨Nat,λb=>[.func (.func 147) #[] #[.pointer (some ⟨b,0,none⟩)]]⟩
 |177=>⟨Nat,λb=>[.map (some b)]⟩
 |207=>⟨Nat,λb=>[.map (some b)]⟩
 |_=>⟨Unit,λ_=>[]⟩
def dG(f:Func):Code:=match f.body with|some c=>c|none=>.skip
noncomputable def ctx(specs:List (Nat×Vc.Spec))(loops:List (Nat×Ip))(cuts:List (Nat×R2))(moves:List (Nat×List Nat))(retMove:Bool):Ctx:=
 {P:=Tryz.prog,loops2:=[],cuts2:=[],rcuts:=[],heapT:=[],specs:=specs,dec:=dec,loops:=loops,cuts:=cuts,moves:=moves,retMove:=retMove,yield:=none}
noncomputable def dN(specs:List (Nat×Vc.Spec))(loops:List (Nat×oM))(cuts:List (Nat×oM))(moves:List (Nat×List Nat))(retMove:Bool):Ctx:=
 {P:=Tryz.prog,loops2:=loops,cuts2:=cuts,rcuts:=[],heapT:=[],specs:=specs,dec:=dec,loops:=[],cuts:=[],moves:=moves,retMove:=retMove,yield:=none}
noncomputable def Zr(specs:List (Nat×Vc.Spec))(loops:List (Nat×oM))(cuts:List (Nat×oM))(rcuts:List (Nat×List (Nat×oM)))(moves:List (Nat×List Nat))(retMove:Bool):Ctx:=
 {P:=Tryz.prog,loops2:=loops,cuts2:=cuts,rcuts:=rcuts,heapT:=[],specs:=specs,dec:=dec,loops:=[],cuts:=[],moves:=moves,retMove:=retMove,yield:=none}
noncomputable def uJ(specs:List (Nat×Vc.Spec))(loops:List (Nat×oM))(cuts:List (Nat×oM))(rcuts:List (Nat×List (Nat×oM)))(heapT:List TypeId)(moves:List (Nat×List Nat))(retMove:Bool):Ctx:=
 {P:=Tryz.prog,loops2:=loops,cuts2:=cuts,rcuts:=rcuts,heapT:=heapT,specs:=specs,dec:=dec,loops:=[],cuts:=[],moves:=moves,retMove:=retMove,yield:=none}
theorem aF:∀g S,assoc ([]:List (Nat×Vc.Spec)) g=some S->Sound Tryz.prog g S:=λg S h=>by simp[assoc]at h
theorem aD{g0:Nat}{S0:Vc.Spec}{r:List (Nat×Vc.Spec)}(h0:Sound Tryz.prog g0 S0)(hr:∀g S,assoc r g=some S->Sound Tryz.prog g S):∀g S,assoc ((g0,S0)::r) g=some S->Sound Tryz.prog g S:=by
 intro g S h;simp only[assoc]at h;split at h
 .rename_i hb;have:=Nat.eq_of_beq_eq_true hb;subst this;simp at h;subst h;exact h0
 .exact hr g S h
def PD(n:Int):List UInt8->Int×List UInt8
 |[]=>(0,[])
 |b::r=>if n<1 then(0,b::r)else((b.toNat:Int)%n,r)
structure R4(m:MH)(h:PH)(cb:Nat)(r:List UInt8):Prop where
 ex:∃(s:Sl)(cs:List UInt8)(k:Nat),m cb=some (.cells #[.slice s.a s.len s.cap,.int .i64 k] 82 (0,0))/\cN h s 1 (bG cs)/\k<=cs.length/\cs.length<=1000/\r=cs.drop k
structure bB(m m':MH)(cb:Nat):Prop where
 other:∀b,b≠cb->m' b=m b
end Go.Ps
namespace Go.Vc
open Go
theorem PH.le.refl(h:PH):PH.le h h:=⟨λ_ _ _ e=>e⟩
theorem PH.le.trans{h h' h'':PH}(a:PH.le h h')(b:PH.le h' h''):PH.le h h'':=⟨λx y v e=>b.le x y v (a.le x y v e)⟩
theorem aZ.mono{h h':PH}{b o:Nat}{l:List Value}(r:aZ h b o l)(le:PH.le h h'):aZ h' b o l:=⟨λi v e=>le.le _ _ _ (r.rd i v e)⟩
theorem cN.mono{h h':PH}{s:Sl}{sz:Nat}{xs:List (List Value)}(r:cN h s sz xs)(le:PH.le h h'):cN h' s sz xs:=
 ⟨r.len,r.row.imp id λ⟨b,o,e,k⟩=>⟨b,o,e,λi x hx=>(k i x hx).mono le⟩,r.cap⟩
theorem cN.get{h:PH}{s:Sl}{sz:Nat}{xs:List (List Value)}(r:cN h s sz xs){i:Nat}{e:List Value}(hi:xs[i]? =some e):
 ∃b o,s.a=some ⟨b,o,none⟩/\aZ h b (o+i*sz) e:=by
 rcases r.row with rfl|⟨b,o,ha,k⟩
 .simp at hi
 .exact⟨b,o,ha,k i e hi⟩
theorem dC.blk{m:MH}{s:Sl}{E sz:Nat}{xs:List (List Value)}(h:dC m s E sz xs){b i:Nat}(e:s.a=some ⟨b,i,none⟩):∃cur,m b=some (.cells cur E (0,0)):=by
 rcases h.ex with⟨rfl,_⟩|⟨b',cap,cur,rfl,hm,_⟩
 .cases e
 .simp only[Option.some.injEq,Addr.mk.injEq]at e;rw[<-e.1];exact⟨cur,hm⟩
theorem dC.slen{m:MH}{s:Sl}{E sz:Nat}{xs:List (List Value)}(h:dC m s E sz xs):s.len=xs.length:=by
 rcases h.ex with⟨rfl,rfl⟩|⟨b',cap,cur,rfl,hm,_⟩<;>rfl
theorem dC.keep{m m':MH}{s:Sl}{E sz:Nat}{xs:List (List Value)}(h:dC m s E sz xs)(hk:∀b i,s.a=some ⟨b,i,none⟩->m' b=m b):dC m' s E sz xs:=by
 refine⟨h.rows,?_⟩;rcases h.ex with h1|⟨b,cap,cur,rfl,hm,h2⟩
 .exact .inl h1
 .exact .inr ⟨b,cap,cur,rfl,by rw[hk b 0 rfl];exact hm,h2⟩
theorem cN.nil(h:PH)(sz:Nat):cN h ⟨none,0,0⟩ sz []:=⟨rfl,.inl rfl,Nat.le_refl _⟩
end Go.Vc
namespace Go.Ps
open Go Go.Vc Go.Proofs
variable{K:CV->MH->PH->Prop}{m:MH}{h:PH}{ps:List Int}{cb:Nat}{sc:bX}{v:QV}{l:List Int}{i:Nat}{N:Nat}{m':MH}{h':PH}{co:List Int}{gr:List Int}{od:List (Int×Bool)}{ta:Int}{li:Int}{xs:List (List Value)}{sz:Nat}{k:Nat}{ks:List (List Int)}{rs:List Int}{r:Sl}{a:List Int}{b:Nat}
structure Ints(h:PH)(s:Sl)(l:List Int):Prop where
 row:cN h s 1 (l.map eI)
 len:l.length<=17592186044416
theorem Ints.mono{s:Sl}(r:Ints h s l)(le:PH.le h h'):Ints h' s l:=⟨r.row.mono le,r.len⟩
theorem Ints.slen{s:Sl}(r:Ints h s l):s.len=l.length:=by have:=r.row.len;simpa using this
structure lD(h:PH)(s:Sl)(l:List (Int×Int)):Prop where
 row:cN h s 2 (l.map sY)
 len:l.length<=8796093022208
theorem lD.mono{s:Sl}{l:List (Int×Int)}(r:lD h s l)(le:PH.le h h'):lD h' s l:=⟨r.row.mono le,r.len⟩
theorem lD.slen{s:Sl}{l:List (Int×Int)}(r:lD h s l):s.len=l.length:=by have:=r.row.len;simpa using this
structure iH(h:PH)(s:Sl)(l:List (Int×Bool)):Prop where
 row:cN h s 2 (l.map Cz)
 len:l.length<=8796093022208
theorem iH.mono{s:Sl}{l:List (Int×Bool)}(r:iH h s l)(le:PH.le h h'):iH h' s l:=⟨r.row.mono le,r.len⟩
theorem iH.slen{s:Sl}{l:List (Int×Bool)}(r:iH h s l):s.len=l.length:=by have:=r.row.len;simpa using this
inductive Pred where
 |mk (op cmp:Int) (left right:OV) (args:List Pred)
variable{p:Pred}{w:Pred}
mutual
def eH(h:PH):Pred->PV->Prop
 |.mk op cmp l r args,v=>v.op=op/\v.cmp=cmp/\v.left=l/\v.right=r/\args.length<=502633886983/\∃vs:List PV,cN h v.args 13 (vs.map PV.enc)/\sB h args vs
def sB(h:PH):List Pred->List PV->Prop
 |[],vs=>vs=[]
 |p::ps,vs=>∃v vs',vs=v::vs'/\eH h p v/\sB h ps vs'
end
mutual
theorem eH.mono{h h':PH}(le:PH.le h h'):∀{p:Pred}{v:PV},eH h p v->eH h' p v
 |.mk ..,_,⟨h1,h2,h3,h4,h5,vs,h6,h7⟩=>⟨h1,h2,h3,h4,h5,vs,h6.mono le,sB.mono le h7⟩
theorem sB.mono{h h':PH}(le:PH.le h h'):∀{ps:List Pred}{vs:List PV},sB h ps vs->sB h' ps vs
 |[],_,h=>h
 |_::_,_,⟨v,vs',h1,h2,h3⟩=>⟨v,vs',h1,eH.mono le h2,sB.mono le h3⟩
end
theorem sB.length{h:PH}:∀{ps:List Pred}{vs:List PV},sB h ps vs->vs.length=ps.length
 |[],_,h=>by rw[show _=[]from h];rfl
 |_::_,_,⟨_,_,h1,_,h3⟩=>by rw[h1];simp[sB.length h3]
theorem sB.get{h:PH}:∀{ps:List Pred}{vs:List PV},sB h ps vs->∀{i:Nat}{p:Pred},ps[i]? =some p->∃v,vs[i]? =some v/\eH h p v
 |[],_,_,i,p,e=>by simp at e
 |p0::ps,_,⟨v,vs',rfl,h2,h3⟩,0,p,e=>by simp at e;subst e;exact⟨v,rfl,h2⟩
 |p0::ps,_,⟨v,vs',rfl,h2,h3⟩,i+1,p,e=>by simp at e;simpa using sB.get h3 e
inductive Query where
 |mk (op table:Int) (wher:Pred) (columns:List Int) (on:List (Int×Int)) (group:List Int) (order:List (Int×Bool)) (limit:Int) (args:List Query)
variable{q:Query}
mutual
def cT(h:PH):Query->QV->Prop
 |.mk op table w columns on group order limit args,v=>v.op=op/\v.table=table/\eH h w v.where_/\Ints h v.columns columns/\lD h v.on on/\Ints h v.group group/\iH h v.order order/\v.limit=limit/\
  args.length<=502633886983/\∃vs:List QV,cN h v.args 21 (vs.map QV.enc)/\uL h args vs
def uL(h:PH):List Query->List QV->Prop
 |[],vs=>vs=[]
 |p::ps,vs=>∃v vs',vs=v::vs'/\cT h p v/\uL h ps vs'
end
mutual
theorem cT.mono{h h':PH}(le:PH.le h h'):∀{p:Query}{v:QV},cT h p v->cT h' p v
 |.mk ..,_,⟨h1,h2,h3,h4,h5,h6,h7,h8,h9,vs,h10,h11⟩=>⟨h1,h2,h3.mono le,h4.mono le,h5.mono le,h6.mono le,h7.mono le,h8,h9,vs,h10.mono le,uL.mono le h11⟩
theorem uL.mono{h h':PH}(le:PH.le h h'):∀{ps:List Query}{vs:List QV},uL h ps vs->uL h' ps vs
 |[],_,h=>h
 |_::_,_,⟨v,vs',h1,h2,h3⟩=>⟨v,vs',h1,cT.mono le h2,uL.mono le h3⟩
end
theorem uL.length{h:PH}:∀{ps:List Query}{vs:List QV},uL h ps vs->vs.length=ps.length
 |[],_,h=>by rw[show _=[]from h];rfl
 |_::_,_,⟨_,_,h1,_,h3⟩=>by rw[h1];simp[uL.length h3]
theorem uL.get{h:PH}:∀{ps:List Query}{vs:List QV},uL h ps vs->∀{i:Nat}{p:Query},ps[i]? =some p->∃v,vs[i]? =some v/\cT h p v
 |[],_,_,i,p,e=>by simp at e
 |p0::ps,_,⟨v,vs',rfl,h2,h3⟩,0,p,e=>by simp at e;subst e;exact⟨v,rfl,h2⟩
 |p0::ps,_,⟨v,vs',rfl,h2,h3⟩,i+1,p,e=>by simp at e;simpa using uL.get h3 e
def iv(n:Int):SV:=.at (.val (.int .i64 n))
def sv(s:Sl):SV:=.at (.val (.slice s.a s.len s.cap))
def bv(b:Bool):SV:=.at (.val (.bool b))
def vv(v:Value):SV:=.at (.val v)
def cS(s:Sl):CV:=.val (.slice s.a s.len s.cap)
def cI(n:Int):CV:=.val (.int .i64 n)
def cB(b:Bool):CV:=.val (.bool b)
def cP(b:Nat):CV:=.val (.pointer (some ⟨b,0,none⟩))
def B6(id:Nat)(st:Nat->St)(inv:Nat->Prop)(mu:Nat->Nat):Nat×Ip:=(id,{A:=Nat,st:=st,inv:=inv,mu:=mu})
theorem kN(h:i<=140737488355328):IntKind.i64.wrap ((i:Int)+1)=((i+1:Nat):Int):=by
 rw[dJ aC aC];rfl
theorem Ints.at{s:Sl}(r:Ints h s l){x:Int}(hi:l[i]? =some x):∃b o,s.a=some ⟨b,o,none⟩/\aZ h b (o+i) [.int .i64 x]:=by
 obtain⟨b,o,h1,h2⟩:=r.row.get (i:=i) (e:=eI x) (by simp[hi]);exact⟨b,o,h1,by simpa[eI]using h2⟩
theorem MT{p:Prop}(h:p:=by repeat' (first|with_reducible rfl|exact trivial|refine⟨?_,?_⟩|rfl|(rw[kN aC];done)|(rw[kN aC]))):p:=h
def dO(k:Int):Bool:=k==3||k==4||k==5
def BR(t:ByteArray):Bool:=t.toList==[]
def jL(v:VV):Bool:=
 if v.kind==1||v.kind==2 then v.int==0&&BR v.text
 else if v.kind==3 then(v.int==0||v.int==1)&&BR v.text
 else if v.kind==4 then BR v.text
 else if v.kind==5 then v.int==0&&(v.text.size:Int)<=64
 else false
def lA(v:VV):Bool:=jL v&&v.kind>=3
def aV(v:VV):CV:=.val (.agg #[.int .i64 v.kind,.int .i64 v.int,.string v.text])
def Wy:Vc.Spec:=λcvs m h K=>∃k,cvs=[cI k]/\K (cB (dO k)) m h
def JV:Vc.Spec:=λcvs m h K=>∃v,cvs=[aV v]/\K (cB (jL v)) m h
def L0:Vc.Spec:=λcvs m h K=>∃v,cvs=[aV v]/\K (cB (lA v)) m h
def J7:Vc.Spec:=λcvs m h K=>∃s l,cvs=[cS s]/\Ints h s l/\K (cB (l.all dO)) m h
noncomputable def Xs(s:Sl)(l:List Int)(m:MH)(h:PH):Ctx:=
 ctx [(93,Wy)] [B6 2 (λi=>cJ 15 16 [(5,sv s),(6,iv s.len),(7,iv i)] [] m h) (λi=>i<=l.length/\(l.take i).all dO=true) (λi=>l.length-i)] [] [] false
noncomputable def VR(s:Sl)(l:List Int)(m:MH)(h:PH):Ctx:=
 ctx [] [B6 2 (λi=>cJ 22 23 [(5,sv s),(6,iv s.len),(7,iv i)] [] m h) (λi=>i<=l.length/\(l.take i).all dO=true) (λi=>l.length-i)] [] [] false
abbrev cW(a:Bool)(b:Prop)(c:Bool)(d e:Prop):Prop:=branch a b (branch c d e)
noncomputable abbrev fO:CV:=Ag true
attribute [push_cast] cW fO
def OD(k:Int)(m:MH)(h:PH)(K:CV->MH->PH->Prop):Prop:=
  cW (k==3) (K fO m h) (k==4) (K fO m h) (K (Ag (k==5)) m h)
abbrev dL(a b:Int)(c d:Prop):Prop:=branch (a==b) c d
noncomputable abbrev BS(a:VV):List UInt8:=a.text.toList
abbrev CQ(a:CV->MH->PH->Prop)(b:VV)(c:MH)(d:PH):Prop:=a (Ag (BS b==[])) c d
noncomputable abbrev aY:CV:=Ag false
attribute [push_cast] dL BS CQ aY
def Dn(v:VV)(m:MH)(h:PH)(K:CV->MH->PH->Prop):Prop:=
  cW (v.kind==1) (dL v.int 0 (CQ K v m h) (K aY m h)) (v.kind==2) (dL v.int 0 (CQ K v m h) (K aY m h)) (cW (v.kind==3) (cW (v.int==0) (CQ K v m h) (v.int==1) (CQ K v m h) (K aY m h)) (v.kind==4) (CQ K v m h) (dL v.kind 5 (dL v.int 0 (K (Ag (decide ((↑v.text.size:Int)<=64))) m h) (K aY m h)) (K aY m h)))
noncomputable abbrev oB(a:CV):List CV:=[a]
noncomputable abbrev kF(a:List Value):List CV:=oB (jI a)
noncomputable abbrev pN(a:VV):List CV:=kF a.enc
attribute [push_cast] oB kF pN
def Lu(v:VV)(m:MH)(h:PH)(K:CV->MH->PH->Prop):Prop:=
  ∃(v1:VV),pN v=pN v1/\branch (jL v1) (K (Ag (decide (v.kind>=3))) m h) (K aY m h)
abbrev eA(a b:Int)(c d:Prop):Prop:=branch (a !=b) c d
attribute [push_cast] eA
def Lj(v:VV)(m:MH)(h:PH)(K:CV->MH->PH->Prop):Prop:=
  ∃(v1:VV),pN v=pN v1/\branch (jL v1) (eA v.kind 1 (K (Ag (v.kind !=2)) m h) (K aY m h)) (K aY m h)
abbrev jT(a:Prop)(b:Nat->Prop):Prop:=a/\∀(x:Nat),b x
abbrev aA(a b c:Prop):Prop:=a/\b/\c
abbrev dX(a:Bool):Prop:=a=true
noncomputable abbrev DX(a:List Int):Bool:=List.all a dO
abbrev vM(a:Nat)(b:List Int):Prop:=a<=b.length/\dX (DX (List.take a b))
abbrev aJ(a:Sl):Prop:=eQ (WQ a)
noncomputable abbrev bZ(a:Nat):SV:=fY (↑a:Int)
abbrev bJ(a:Sl):Prop:=eQ (bZ a.len)
abbrev bE(a:Nat):Prop:=fY 0=bZ a
abbrev cA(a:Prop)(b:PH)(c:Nat->Nat->Option Value):Prop:=aA a (b=c) True
abbrev bA(a b:Int)(c d:Prop):Prop:=branch (decide (a<b)) c d
noncomputable abbrev aG(a:Sl):Int:=(↑a.len:Int)
abbrev aW(a:Nat->Nat->Prop):Prop:=∃(x x1:Nat),a x x1
abbrev aH(a b c d:Prop):Prop:=aA a b (c/\d)
abbrev aX(a:Option Addr)(b c:Nat):Prop:=a=Option.some (Addr.mk b c Option.none)
noncomputable abbrev fR(a:Nat)(b:Int)(c:Nat):Nat:=a+b.toNat*c
noncomputable abbrev bL(a b c:Nat):Nat:=fR a (↑b:Int) c
noncomputable abbrev iC(a:Value):List Value:=[a]
noncomputable abbrev bN(a:Int):List Value:=iC (dY a)
abbrev jM(a:Int)(b:Int->Prop):Prop:=∃(x:Int),oB (eK a)=oB (eK x)/\b x
abbrev iF(a:Bool)(b:Prop)(c:Nat->Prop):Prop:=branch a b (∃(x:Nat),c x)
noncomputable abbrev aT(a:Int):Int:=IntKind.wrap IntKind.i64 a
attribute [push_cast] jT aA dX DX vM aJ bZ bJ bE cA bA aG aW aH aX fR bL iC bN jM iF aT
def OX(s:Sl)(l:List Int)(m:MH)(h:PH)(K:CV->MH->PH->Prop):Prop:=
  jT (∃(x:Nat),aA (vM x l) (aJ s) (aA (bJ s) (bE x) (cA (m=m) h h))) (λx=>vM x l->bA (↑x:Int) (aG s) (aW (λb o=>aH (aX s.a b o) (0<=(↑x:Int)) ((↑x:Int)<aG s) (∃(y:Int),aM m h b (bL o x 1) (bN y)/\jM y (λk=>iF (!(dO k)) (K aY m h) (λy1=>aA (vM y1 l) (l.length-y1<l.length-x) (aA (aJ s) (bJ s) (aH (fY (aT ((↑x:Int)+1))=bZ y1) (m=m) (h=h) True))))))) (K fO m h))
def Ly(s:Sl)(l:List Int)(m:MH)(h:PH)(K:CV->MH->PH->Prop):Prop:=
  jT (∃(x:Nat),aA (vM x l) (aJ s) (aA (bJ s) (bE x) (cA (m=m) h h))) (λx=>vM x l->bA (↑x:Int) (aG s) (aW (λb o=>aH (aX s.a b o) (0<=(↑x:Int)) ((↑x:Int)<aG s) (∃(y:Int),aM m h b (bL o x 1) (bN y)/\iF (y !=3) (iF (y !=4) (iF (y !=5) (K aY m h) (λy1=>aA (vM y1 l) (l.length-y1<l.length-x) (aA (aJ s) (bJ s) (aH (fY (aT ((↑x:Int)+1))=bZ y1) (m=m) (h=h) True)))) (λy1=>aA (vM y1 l) (l.length-y1<l.length-x) (aA (aJ s) (bJ s) (aH (fY (aT ((↑x:Int)+1))=bZ y1) (m=m) (h=h) True)))) (λy1=>aA (vM y1 l) (l.length-y1<l.length-x) (aA (aJ s) (bJ s) (aH (fY (aT ((↑x:Int)+1))=bZ y1) (m=m) (h=h) True)))))) (K fO m h))
theorem XZ(v:VV)(m:MH)(h:PH)(K:CV->MH->PH->Prop):Dn v m h K=zX (ctx [] [] [] [] false) Tryz.f105 (dG Tryz.f105) (entry Tryz.f105.ntmps [aV v] m h) K:=by kernel_rfl
theorem gL{x y:Bool}(hK:K (cB x) m h)(e:x=y):K (.val (.bool y)) m h:=e▸hK
theorem SM{v:VV}(hK:K (cB (jL v)) m h):Dn v m h K:=by
 dsimp only[Dn,push_cast]
 repeat' (first|(refine aB (λ_=>?_) (λ_=>?_))|(refine gL hK ?_;simp_all [jL,BR]))
theorem hX{f:FuncId}{fn:Func}(hf:Tryz.prog.funcs[f]? =some fn){S:Vc.Spec}(hvc:∀cvs m h K,S cvs m h K->∃C:Ctx,C.P=Tryz.prog/\(∀g S,assoc C.specs g=some S->Sound Tryz.prog g S)/\∃N:Prop,N=zX C fn (dG fn) (entry fn.ntmps cvs m h) K/\N)(hb:fn.body=some (dG fn):=by rfl)(hname:(fn.name== "runtime.NumGoroutine")=false:=by decide):Sound Tryz.prog f S:=eG hf hb hname λcvs m h K hS=>let⟨C,hC,hs,N,e,hn⟩:=hvc cvs m h K hS;⟨C,hC,hs,e▸hn⟩
theorem KV:Sound Tryz.prog 93 Wy:=by
 refine hX Tryz.func93 ?_;rintro cvs m h K ⟨k,rfl,hK⟩;refine⟨ctx [] [] [] [] false,rfl,aF,OD k m h K,by kernel_rfl,?_⟩;dsimp only[OD,push_cast]
 repeat' (first|(refine aB (λ_=>?_) (λ_=>?_))|(refine gL hK ?_;simp_all [dO]))
theorem Ru:Sound Tryz.prog 119 JV:=by
 refine hX Tryz.func119 ?_;rintro cvs m h K ⟨v,rfl,hK⟩;refine⟨ctx [] [] [] [] false,rfl,aF,Dn v m h K,by kernel_rfl,?_⟩;exact SM hK
theorem JK:Sound Tryz.prog 105 JV:=by
 refine eG (fn:=Tryz.f105) (c:=dG Tryz.f105) Tryz.func105 rfl (by decide) ?_;rintro cvs m h K ⟨v,rfl,hK⟩;refine⟨ctx [] [] [] [] false,rfl,aF,?_⟩;rw[<-XZ v m h K];exact SM hK
theorem QY:Sound Tryz.prog 164 L0:=by
 refine hX Tryz.func164 ?_;rintro cvs m h K ⟨v,rfl,hK⟩;refine⟨ctx [(119,JV)] [] [] [] false,rfl,aD Ru aF,Lu v m h K,by kernel_rfl,?_⟩;dsimp only[Lu,push_cast];refine⟨v,rfl,?_⟩
 repeat' (first|(refine aB (λ_=>?_) (λ_=>?_))|(refine gL hK ?_;simp_all [lA]))
theorem D1:Sound Tryz.prog 203 L0:=by
 refine hX Tryz.func203 ?_;rintro cvs m h K ⟨v,rfl,hK⟩;refine⟨ctx [(105,JV)] [] [] [] false,rfl,aD JK aF,Lj v m h K,by kernel_rfl,?_⟩;dsimp only[Lj,push_cast];refine⟨v,rfl,?_⟩;refine aB (λh1=>aB (λh2=>gL hK ?_) (λh2=>gL hK ?_)) (λh1=>gL hK ?_)
 .have h2:v.kind≠1:=by simpa using h2
  by_cases h3:v.kind=2
  .simp[lA,h1,h3]
  .have:3<=v.kind:=by
    simp only[jL]at h1
    repeat' split at h1
    all_goals first|(simp_all;done)|skip
    all_goals simp_all
   simp[lA,h1,h3,this]
 .have h2:v.kind=1:=by simpa using h2
  simp[lA,h2]
 .simp[lA,h1]
theorem xG{α:Type}{p:α->Bool}{l:List α}{x:α}(hx:l[i]? =some x):(l.take (i+1)).all p=((l.take i).all p&&p x):=by
 rw[List.take_add_one,List.all_append,hx];simp
theorem yS{α:Type}{p:α->Bool}{l:List α}{x:α}(hx:l[i]? =some x)(hp:p x=false):l.all p=false:=by
 rw[List.all_eq_false];exact⟨x,List.mem_of_getElem? hx,by simp[hp]⟩
theorem KZ:Sound Tryz.prog 64 J7:=by
 refine hX Tryz.func64 ?_;rintro cvs m h K ⟨s,l,rfl,hl,hK⟩;refine⟨Xs s l m h,rfl,aD KV aF,OX s l m h K,by kernel_rfl,?_⟩;dsimp only[OX,push_cast];have hs:=hl.slen;have hb:=hl.len;refine⟨⟨0,⟨aC,by simp⟩,rfl,rfl,rfl,rfl,rfl,trivial⟩,λi hi=>aE (λhlt=>?_) (λhge=>?_)⟩
 .obtain⟨x,hx⟩:∃x,l[i]? =some x:=⟨l[i]'(by omega),List.getElem?_eq_getElem _⟩
  obtain⟨b1,o1,e1,r1⟩:=hl.at hx;refine⟨b1,o1,e1,aC,hlt,x,.imm (by simpa using r1),x,rfl,aB (λhc=>gL hK ?_) (λhc=>?_)⟩
  .exact yS hx (by simpa using hc)
  .refine⟨i+1,⟨aC,?_⟩,aC,rfl,rfl,by rw[kN aC],rfl,rfl,trivial⟩;rw[xG hx,hi.2];simpa using hc
 .refine gL hK ?_;have:=hi.2
  rwa [List.take_of_length_le aC]at this
theorem Rj:Sound Tryz.prog 136 J7:=by
 refine hX Tryz.func136 ?_;rintro cvs m h K ⟨s,l,rfl,hl,hK⟩;refine⟨VR s l m h,rfl,aF,Ly s l m h K,by kernel_rfl,?_⟩;dsimp only[Ly,push_cast];have hs:=hl.slen;have hb:=hl.len;refine⟨⟨0,⟨aC,by simp⟩,rfl,rfl,rfl,rfl,rfl,trivial⟩,λi hi=>aE (λhlt=>?_) (λhge=>?_)⟩
 .obtain⟨x,hx⟩:∃x,l[i]? =some x:=⟨l[i]'(by omega),List.getElem?_eq_getElem _⟩
  obtain⟨b1,o1,e1,r1⟩:=hl.at hx;have good:dO x=true->(l.take (i+1)).all dO=true:=λhc=>by rw[xG hx,hi.2,hc];rfl
  refine⟨b1,o1,e1,aC,hlt,x,.imm (by simpa using r1),?_⟩;have next:dO x=true->∃(y:Nat),(y<=l.length/\(l.take y).all dO=true)/\l.length-y<l.length-i/\y=i+1:=λhc=>⟨i+1,⟨aC,good hc⟩,aC,rfl⟩
  repeat' (first|(refine aB (λ_=>?_) (λ_=>?_))|(refine gL hK (yS hx ?_);simp_all [dO];done)|(refine⟨i+1,⟨aC,good (by simp_all [dO])⟩,aC,rfl,rfl,by rw[kN aC],rfl,rfl,trivial⟩))
 .refine gL hK ?_;have:=hi.2
  rwa [List.take_of_length_le aC]at this
def Uy(a b:VV):Bool:=a.kind==b.kind&&(a.int==b.int&&(a.text.toList==b.text.toList&&true))
def Uz(a b:OV):Bool:=a.kind==b.kind&&(a.index==b.index&&(Uy a.value b.value&&true))
theorem jV{f:Field}{fs:List Field}{d:Nat}{xs ys:Array Value}{w:World}{x y:Value}{r r':Bool}(hn:(f.name== "_")=false)(hx:uN Tryz.prog (part f.type xs f.offset)=some x)(hy:uN Tryz.prog (part f.type ys f.offset)=some y)
 (he:(Op.equalIn d f.type x y).run Tryz.prog w= .ok r w)(hr:(Op.eqFields d xs ys fs).run Tryz.prog w= .ok r' w):(Op.eqFields d xs ys (f::fs)).run Tryz.prog w= .ok (r&&r') w:=by
 have hn:f.name≠ "_" :=by simpa using hn
 simp only[Op.eqFields,if_pos hn,Sem.run_bind,wR _ _ _ hx,wR _ _ _ hy,Result.andThen_ok,he];cases r
 .simp
 .simpa using hr
noncomputable def Kd(t k:Nat):Field:=(Tryz.prog.fieldsOf t).toList.getD k default
theorem SO(a b:VV)(d:Nat)(w:World):(Op.equalIn (d+2) 27 (.agg #[.int .i64 a.kind,.int .i64 a.int,.string a.text]) (.agg #[.int .i64 b.kind,.int .i64 b.int,.string b.text])).run Tryz.prog w= .ok (Uy a b) w:=by
 rw[run_equalIn_struct w (d+1) 27 _ _ (by kernel_rfl) (by kernel_rfl),show(Tryz.prog.fieldsOf 27).toList=[Kd 27 0,Kd 27 1,Kd 27 2]by kernel_rfl];refine jV (x:=.int .i64 a.kind) (y:=.int .i64 b.kind) (by kernel_rfl) (by kernel_rfl) (by kernel_rfl) (run_equalIn_int w d _ .i64 .i64 _ _ (by kernel_rfl)) ?_;refine jV (x:=.int .i64 a.int) (y:=.int .i64 b.int) (by kernel_rfl) (by kernel_rfl) (by kernel_rfl) (run_equalIn_int w d _ .i64 .i64 _ _ (by kernel_rfl)) ?_;refine jV (x:=.string a.text) (y:=.string b.text) (by kernel_rfl) (by kernel_rfl) (by kernel_rfl) (run_equalIn_string w d _ _ _ (by kernel_rfl)) ?_;simp[Op.eqFields]
theorem X0(a b:OV)(d:Nat)(w:World):(Op.equalIn (d+3) 29 (.agg #[.int .i64 a.kind,.int .i64 a.index,.int .i64 a.value.kind,.int .i64 a.value.int,.string a.value.text]) (.agg #[.int .i64 b.kind,.int .i64 b.index,.int .i64 b.value.kind,.int .i64 b.value.int,.string b.value.text])).run Tryz.prog w= .ok (Uz a b) w:=by
 rw[run_equalIn_struct w (d+2) 29 _ _ (by kernel_rfl) (by kernel_rfl),show(Tryz.prog.fieldsOf 29).toList=[Kd 29 0,Kd 29 1,Kd 29 2]by kernel_rfl];refine jV (x:=.int .i64 a.kind) (y:=.int .i64 b.kind) (by kernel_rfl) (by kernel_rfl) (by kernel_rfl) (run_equalIn_int w (d+1) _ .i64 .i64 _ _ (by kernel_rfl)) ?_;refine jV (x:=.int .i64 a.index) (y:=.int .i64 b.index) (by kernel_rfl) (by kernel_rfl) (by kernel_rfl) (run_equalIn_int w (d+1) _ .i64 .i64 _ _ (by kernel_rfl)) ?_;refine jV (x:=.agg #[.int .i64 a.value.kind,.int .i64 a.value.int,.string a.value.text]) (y:=.agg #[.int .i64 b.value.kind,.int .i64 b.value.int,.string b.value.text]) (by kernel_rfl) (by kernel_rfl) (by kernel_rfl) ?_ ?_
 .rw[show(Kd 29 2).type=27 by kernel_rfl];exact SO a.value b.value d w
 .simp[Op.eqFields]
theorem Fl(a b:VV):StructEq Tryz.prog 27 (.agg #[.int .i64 a.kind,.int .i64 a.int,.string a.text]) (.agg #[.int .i64 b.kind,.int .i64 b.int,.string b.text]) (Uy a b):=
 ⟨by kernel_rfl,λw=>SO a b 9998 w⟩
theorem yO(a b:OV):StructEq Tryz.prog 29 (.agg #[.int .i64 a.kind,.int .i64 a.index,.int .i64 a.value.kind,.int .i64 a.value.int,.string a.value.text]) (.agg #[.int .i64 b.kind,.int .i64 b.index,.int .i64 b.value.kind,.int .i64 b.value.int,.string b.value.text]) (Uz a b):=
 ⟨by kernel_rfl,λw=>X0 a b 9997 w⟩
theorem wN{a b:ByteArray}(h:a.toList=b.toList):a=b:=by
 rw[ByteArray.toList_eq,ByteArray.toList_eq]at h;cases a;cases b;simp only[ByteArray.mk.injEq];exact Array.toList_inj.1 h
theorem SP{a b:VV}:Uy a b=true↔a=b:=by
 obtain⟨k,i,t⟩:=a;obtain⟨k',i',t'⟩:=b;simp only[Uy,Bool.and_true,Bool.and_eq_true,beq_iff_eq,VV.mk.injEq];exact⟨λ⟨h1,h2,h3⟩=>⟨h1,h2,wN h3⟩,λ⟨h1,h2,h3⟩=>⟨h1,h2,by rw[h3]⟩⟩
theorem Bi{a b:OV}:Uz a b=true↔a=b:=by
 obtain⟨k,i,t⟩:=a;obtain⟨k',i',t'⟩:=b;simp only[Uz,Bool.and_true,Bool.and_eq_true,beq_iff_eq,OV.mk.injEq,SP]
def zeroV:VV:=⟨0,0,⟨#[]⟩⟩
def dH:OV:=⟨0,0,zeroV⟩
def oV(l:List Int)(o:OV):Int:=if o.index<0||o.index>=l.length|| !Uy o.value zeroV then 0 else l.getD o.index.toNat 0
def kindOf(cols params:List Int)(o:OV):Int:=
 if o.kind==3 then(if o.index !=0|| !lA o.value then 0 else o.value.kind)
 else if o.kind==2 then oV params o
 else if o.kind==1 then oV cols o
 else 0
def qM(v:PV):Bool:=v.cmp==0&&Uz v.left dH&&Uz v.right dH
def aO(o:OV):CV:=.val (.agg #[.int .i64 o.kind,.int .i64 o.index,.int .i64 o.value.kind,.int .i64 o.value.int,.string o.value.text])
def aP(p:PV):CV:=.val (.agg #[.int .i64 p.op,.int .i64 p.cmp,
 .int .i64 p.left.kind,.int .i64 p.left.index,.int .i64 p.left.value.kind,.int .i64 p.left.value.int,.string p.left.value.text,
 .int .i64 p.right.kind,.int .i64 p.right.index,.int .i64 p.right.value.kind,.int .i64 p.right.value.int,.string p.right.value.text,
 .slice p.args.a p.args.len p.args.cap])
def ZA(s t:Sl):CV:=.val (.agg #[.slice s.a s.len s.cap,.slice t.a t.len t.cap])
def Wu:Vc.Spec:=λcvs m h K=>∃v,cvs=[aP v]/\K (cB (qM v)) m h
def Tg:Vc.Spec:=λcvs m h K=>∃s t cols params o,cvs=[cS s,cS t,aO o]/\Ints h s cols/\Ints h t params/\K (cI (kindOf cols params o)) m h
def PQ:Vc.Spec:=λcvs m h K=>∃s t cols params o,cvs=[ZA s t,aO o]/\Ints h s cols/\Ints h t params/\K (cI (kindOf cols params o)) m h
abbrev lG(a:Nat)(b c:List Value)(d:Bool->Prop):Prop:=∃(x:Bool),StructEq Proofs.Tryz.prog a (Value.agg (Array.mk b)) (Value.agg (Array.mk c)) x/\d x
noncomputable abbrev aL(a b:Value)(c:List Value):List Value:=a::b::c
noncomputable abbrev bC:Value:=dY 0
noncomputable abbrev wY:List Value:=iC R8
noncomputable abbrev EO:List Value:=aL bC bC (aL bC bC wY)
attribute [push_cast] lG aL bC wY EO
def Lz(v:PV)(m:MH)(h:PH)(K:CV->MH->PH->Prop):Prop:=
  dL v.cmp 0 (lG 29 v.left.enc EO (λr=>branch r (lG 29 v.right.enc EO (λr1=>K (Ag r1) m h)) (K aY m h))) (K aY m h)
abbrev gM(a:Bool)(b c:Prop):Prop:=branch (!a) b c
noncomputable abbrev oY(a:OV):Int:=a.value.kind
abbrev fW(a b:Int)(c d:Prop):Prop:=branch (decide (a>=b)) c d
noncomputable abbrev tM:List Value:=aL bC bC wY
attribute [push_cast] gM oY fW tM
def Dl(s t:Sl)(o:OV)(m:MH)(h:PH)(K:CV->MH->PH->Prop):Prop:=
  cW (o.kind==3) (eA o.index 0 (K (eK 0) m h) (∃(v:VV),pN o.value=pN v/\gM (lA v) (K (eK 0) m h) (K (eK (oY o)) m h))) (o.kind==2) (bA o.index 0 (K (eK 0) m h) (fW o.index (aG t) (K (eK 0) m h) (lG 27 o.value.enc tM (λr=>gM r (K (eK 0) m h) (aW (λb o1=>aH (aX t.a b o1) (0<=o.index) (o.index<aG t) (∃(y:Int),aM m h b (fR o1 o.index 1) (bN y)/\K (eK y) m h))))))) (dL o.kind 1 (bA o.index 0 (K (eK 0) m h) (fW o.index (aG s) (K (eK 0) m h) (lG 27 o.value.enc tM (λr=>gM r (K (eK 0) m h) (aW (λb o1=>aH (aX s.a b o1) (0<=o.index) (o.index<aG s) (∃(y:Int),aM m h b (fR o1 o.index 1) (bN y)/\K (eK y) m h))))))) (K (eK 0) m h))
theorem vC{x y:Int}(hK:K (cI x) m h)(e:x=y):K (.val (.int .i64 y)) m h:=e▸hK
theorem Ints.inb{s:Sl}(r:Ints h s l){n:Int}(h0:0<=n)(h1:n<(l.length:Int)):∃b o,s.a=some ⟨b,o,none⟩/\aZ h b (o+n.toNat*1) [.int .i64 (l.getD n.toNat 0)]:=by
 have hx:l[n.toNat]? =some (l.getD n.toNat 0):=by
  rw[List.getD_eq_getElem?_getD,List.getElem?_eq_getElem aC];simp
 obtain⟨b,o,e,r⟩:=r.at hx;exact⟨b,o,e,by simpa using r⟩
theorem SK{s t:Sl}{cols params:List Int}{o:OV}(hs:Ints h s cols)(ht:Ints h t params)(hK:K (cI (kindOf cols params o)) m h):Dl s t o m h K:=by
 have es:=hs.slen;have et:=ht.slen;dsimp only[Dl,push_cast];refine aB (λh1=>aB (λh2=>vC hK ?_) (λh2=>⟨o.value,rfl,aB (λh3=>vC hK ?_) (λh3=>vC hK ?_)⟩)) (λh1=>aB (λh2=>?_) (λh2=>aB (λh3=>?_) (λh3=>vC hK ?_)))
 .simp_all [kindOf]
 .simp_all [kindOf]
 .simp_all [kindOf]
 .have hk:kindOf cols params o=oV params o:=by simp_all [kindOf]
  rw[hk]at hK;refine aE (λh3=>vC hK ?_) (λh3=>aE (λh4=>vC hK ?_) (λh4=>⟨Uy o.value zeroV,Fl o.value zeroV,aB (λh5=>vC hK ?_) (λh5=>?_)⟩))
  .simp[oV,h3]
  .rw[et]at h4;simp[oV,h4]
  .simp only[Bool.not_eq_true']at h5;simp[oV,h5]
  .obtain⟨b,off,e,r⟩:=ht.inb (n:=o.index) aC aC;refine⟨b,off,e,aC,aC,_,.imm r,vC hK ?_⟩;have h4':¬o.index>=params.length:=by omega
   simp only[Bool.not_eq_false']at h5;simp[oV,h3,h4',h5]
 .have hk:kindOf cols params o=oV cols o:=by simp_all [kindOf]
  rw[hk]at hK;refine aE (λh3=>vC hK ?_) (λh3=>aE (λh4=>vC hK ?_) (λh4=>⟨Uy o.value zeroV,Fl o.value zeroV,aB (λh5=>vC hK ?_) (λh5=>?_)⟩))
  .simp[oV,h3]
  .rw[es]at h4;simp[oV,h4]
  .simp only[Bool.not_eq_true']at h5;simp[oV,h5]
  .obtain⟨b,off,e,r⟩:=hs.inb (n:=o.index) aC aC;refine⟨b,off,e,aC,aC,_,.imm r,vC hK ?_⟩;have h4':¬o.index>=cols.length:=by omega
   simp only[Bool.not_eq_false']at h5;simp[oV,h3,h4',h5]
 .simp_all [kindOf]
theorem Ro:Sound Tryz.prog 128 Wu:=by
 refine hX Tryz.func128 ?_;rintro cvs m h K ⟨v,rfl,hK⟩;refine⟨ctx [] [] [] [] false,rfl,aF,Lz v m h K,by kernel_rfl,?_⟩;dsimp only[Lz,push_cast];refine aB (λh1=>⟨Uz v.left dH,yO v.left dH,aB (λh2=>⟨Uz v.right dH,yO v.right dH,gL hK ?_⟩) (λh2=>gL hK ?_)⟩) (λh1=>gL hK ?_)
 all_goals simp_all [qM]
theorem Rn:Sound Tryz.prog 129 Tg:=by
 refine hX Tryz.func129 ?_;rintro cvs m h K ⟨s,t,cols,params,o,rfl,hs,ht,hK⟩;refine⟨ctx [(164,L0)] [] [] [] false,rfl,aD QY aF,Dl s t o m h K,by kernel_rfl,?_⟩;exact SK hs ht hK
theorem QX:Sound Tryz.prog 176 PQ:=by
 refine hX Tryz.func176 ?_;rintro cvs m h K ⟨s,t,cols,params,o,rfl,hs,ht,hK⟩;refine⟨ctx [(203,L0)] [] [] [] false,rfl,aD D1 aF,Dl s t o m h K,by kernel_rfl,?_⟩;exact SK hs ht hK
def Pred.args:Pred->List Pred
 |.mk _ _ _ _ l=>l
mutual
def lK:Pred->Int->Int
 |.mk _ _ _ _ args,n=>iY args (n+1)
def iY:List Pred->Int->Int
 |[],n=>n
 |p::ps,n=>if n<=24 then iY ps (lK p n)else n
end
mutual
def j8:Pred->Nat->Bool
 |.mk _ _ _ _ _,0=>true
 |.mk _ _ _ _ args,n+1=>pC args n
def pC:List Pred->Nat->Bool
 |[],_=>false
 |p::ps,n=>j8 p n||pC ps n
end
mutual
theorem Au:∀(p:Pred)(n:Int),n<=24->n<lK p n/\lK p n<=25
 |.mk _ _ _ _ args,n,h=>by
  have:=DA args (n+1) aC;simp only[lK];omega
theorem DA:∀(ps:List Pred)(n:Int),n<=25->n<=iY ps n/\iY ps n<=25
 |[],n,h=>by simp only[iY];omega
 |p::ps,n,h=>by
  simp only[iY];split
  .rename_i h1;have h2:=Au p n h1;have h3:=DA ps (lK p n) h2.2;omega
  .omega
end
theorem My(ps:List Pred){n:Int}(h:¬n<=24):iY ps n=n:=by
 cases ps
 .simp[iY]
 .simp only[iY,if_neg h]
theorem Fv(n:Nat):∀ps:List Pred,pC ps n=ps.any (j8 · n)
 |[]=>by simp[pC]
 |p::ps=>by simp[pC,Fv n ps]
theorem yQ{p:Pred}{q:Pred}(h:q∈p.args):SizeOf.sizeOf q<SizeOf.sizeOf p:=by
 cases p with
 |mk op cmp l r args=>
  have:=List.sizeOf_lt_of_mem h;simp only[Pred.args]at this;simp only[Pred.mk.sizeOf_spec];omega
theorem eH.open{v:PV}(r:eH h p v):p.args.length<=502633886983/\v.args.len=p.args.length/\∀(i:Nat)(q:Pred),p.args[i]? =some q->∃b o u,v.args.a=some ⟨b,o,none⟩/\aZ h b (o+i*13) (PV.enc u)/\eH h q u:=by
 cases p with
 |mk op cmp l r' args=>
  obtain⟨h1,h2,h3,h4,h5,vs,h6,h7⟩:=r;have hl:=h7.length;refine⟨h5,?_,λi q hq=>?_⟩
  .have:=h6.len;simp at this;simp only[Pred.args];omega
  .obtain⟨u,hu,hr⟩:=h7.get hq;obtain⟨b,o,e,r⟩:=h6.get (i:=i) (e:=PV.enc u) (by simp[hu]);exact⟨b,o,u,e,r,hr⟩
def RZ(N:Nat):Vc.Spec:=λcvs m h K=>∃v p k,cvs=[aP v,cI k]/\eH h p v/\SizeOf.sizeOf p<N/\0<=k/\k<=24/\K (cI (lK p k)) m h
def Nt(N:Nat):Vc.Spec:=λcvs m h K=>∃v p,∃k:Nat,cvs=[aP v,cI k]/\eH h p v/\SizeOf.sizeOf p<N/\k<=100/\K (cB (j8 p k)) m h
noncomputable def Xa(N:Nat)(v:PV)(p:Pred)(k:Int)(m:MH)(h:PH):Ctx:=
 ctx [(97,RZ N)] [(3,{A:=Nat×Int,st:=λx=>cJ 27 29 [(1,iv x.2),(2,.at (.ptr 2 0)),(5,iv x.1)] [(2,.cells 32 (v.enc.map .val))] m h,inv:=λx=>x.1<=p.args.length/\0<=x.2/\x.2<=25/\iY (p.args.drop x.1) x.2=lK p k,mu:=λx=>p.args.length-x.1})] [] [] false
noncomputable def W9(N:Nat)(v:PV)(p:Pred)(k:Nat)(m:MH)(h:PH):Ctx:=
 ctx [(98,Nt N)] [B6 4 (λi=>cJ 23 25 [(1,iv k),(2,.at (.ptr 2 0)),(10,iv v.args.len),(11,iv i)] [(2,.cells 32 (v.enc.map .val))] m h) (λi=>i<=p.args.length/\(p.args.take i).any (j8 · (k-1))=false) (λi=>p.args.length-i)] [] [] false
abbrev DW(a:Nat)(b:Pred):Prop:=a<=b.args.length
abbrev HJ(a:Nat×Int)(b:Pred)(c d:Int):Prop:=aH (DW a.1 b) (0<=a.2) (a.2<=c) (iY (List.drop a.1 b.args) a.2=lK b d)
abbrev cM(a b:Int):Prop:=fY a=fY b
abbrev gA:Prop:=eP 2
noncomputable abbrev oL(a:Nat)(b:List Value):Option Own:=oQ a (List.map At.val b)
abbrev jO(a:PV):Prop:=eQ (oL 32 a.enc)
abbrev BV(a b:Int)(c d:Prop):Prop:=branch (decide (a<=b)) c d
abbrev uU(a:PV->Pred->Prop):Prop:=∃(x:PV)(x1:Pred),a x x1
noncomputable abbrev dZ(a b:CV):List CV:=a::oB b
noncomputable abbrev bD(a:CV)(b:Int):List CV:=dZ a (eK b)
abbrev nO(a:Pred)(b:Nat):Prop:=SizeOf.sizeOf a<b
abbrev cD(a:Int):Prop:=0<=a
attribute [push_cast] DW HJ cM gA oL jO BV uU dZ bD nO cD
def OA(N:Nat)(v:PV)(p:Pred)(k:Int)(m:MH)(h:PH)(K:CV->MH->PH->Prop):Prop:=
  (∃(x:Nat×Int),aA (HJ x p 25 k) (cM (aT (k+1)) x.2) (aA gA (bE x.1) (aH (jO v) (m=m) (h=h) True)))/\∀(x:Nat×Int),HJ x p 25 k->bA (↑x.1:Int) (aG v.args) (BV x.2 24 (aW (λb o=>aH (aX v.args.a b o) (0<=(↑x.1:Int)) ((↑x.1:Int)<aG v.args) (∃(y:PV),aM m h b (bL o x.1 13) y.enc/\uU (λv1 p1=>∃(k1:Int),aA (bD (jI y.enc) x.2=bD (jI v1.enc) k1) (eH h p1 v1) (aA (nO p1 N) (cD k1) (k1<=24/\∃(y1:Nat×Int),aA (HJ y1 p 25 k) (p.args.length-y1.1<p.args.length-x.1) (aA (cM (lK p1 k1) y1.2) gA (aA (fY (aT ((↑x.1:Int)+1))=bZ y1.1) (jO v) (aA (m=m) (h=h) True))))))))) (K (eK x.2) m h)) (K (eK x.2) m h)
abbrev HK(a:Nat)(b:Pred)(c:Pred->Pred)(d:Nat):Prop:=DW a b/\List.any (List.take a b.args) (fun(x:Pred)=>j8 (c x) (d-1))=false
abbrev bT(a b:PH):Prop:=a=b/\True
attribute [push_cast] HK bT
def Oz(N:Nat)(v:PV)(p:Pred)(k:Nat)(m:MH)(h:PH)(K:CV->MH->PH->Prop):Prop:=
  dL (↑k:Int) 0 (K fO m h) (jT (∃(x:Nat),aA (HK x p (λx1=>x1) k) (eQ (bZ k)) (aA gA (bJ v.args) (aA (bE x) (jO v) (aA (m=m) (h=h) True)))) (λx=>HK x p (λx1=>x1) k->bA (↑x:Int) (aG v.args) (aW (λb o=>aH (aX v.args.a b o) (0<=(↑x:Int)) ((↑x:Int)<aG v.args) (∃(y:PV),aM m h b (bL o x 13) y.enc/\uU (λv1 p1=>∃(k1:Nat),aA (bD (jI y.enc) (aT ((↑k:Int)-1))=bD (jI v1.enc) (↑k1:Int)) (eH h p1 v1) (aA (nO p1 N) (k1<=100) (iF (j8 p1 k1) (K fO m h) (λy1=>aA (HK y1 p (λx1=>x1) k) (p.args.length-y1<p.args.length-x) (aA (eQ (bZ k)) gA (aA (bJ v.args) (fY (aT ((↑x:Int)+1))=bZ y1) (aA (jO v) (m=m) (bT h h))))))))))) (K aY m h)))
theorem SB:∀N,Sound Tryz.prog 97 (RZ N)
 |0=>by
  refine eG (fn:=Tryz.f97) (c:=dG Tryz.f97) Tryz.func97 rfl (by decide) ?_;rintro cvs m h K ⟨v,p,k,rfl,hr,hN,_⟩;omega
 |N+1=>by
  refine hX Tryz.func97 ?_;rintro cvs m h K ⟨v,p,k,rfl,hr,hN,h0,h1,hK⟩;refine⟨Xa N v p k m h,rfl,aD (SB N) aF,OA N v p k m h K,by kernel_rfl,?_⟩;dsimp only[OA,push_cast];obtain⟨hl,hlen,hget⟩:=hr.open;refine⟨⟨(0,k+1),⟨by simp,by simp;omega,by simp;omega,?_⟩,by rw[dJ aC aC],rfl,rfl,rfl,rfl,rfl,trivial⟩,?_⟩
  .cases p;simp[lK,Pred.args]
  rintro⟨i,n⟩ ⟨hi,hn0,hn1,he⟩;simp only at hi hn0 hn1 he;refine aE (λhlt=>aE (λhn=>?_) (λhn=>vC hK ?_)) (λhge=>vC hK ?_)
  .simp only at hlt hn;obtain⟨q,hq⟩:∃q,p.args[i]? =some q:=⟨p.args[i]'(by omega),List.getElem?_eq_getElem _⟩
   obtain⟨b,o,u,ea,hrd,hru⟩:=hget i q hq
   have hd:p.args.drop i=q::p.args.drop (i+1):=by
    rw[List.drop_eq_getElem_cons aC];rw[List.getElem?_eq_getElem aC]at hq;simp at hq;rw[hq]
   have hb:=Au q n hn;refine⟨b,o,ea,by simp,by simpa using hlt,u,.imm (by simpa using hrd),u,q,n,rfl,hru,?_,hn0,hn,(i+1,lK q n),⟨by simp only;omega,by simp only;omega,by simp only;omega,?_⟩,by simp only;omega,rfl,rfl,by rw[kN aC],rfl,rfl,rfl,trivial⟩
   .have:=yQ (List.mem_of_getElem? hq);omega
   .rw[hd,iY,if_pos hn]at he;exact he
  .rw[<-he,My _ hn]
  .rw[<-he,List.drop_of_length_le (by simp only at hge;omega)];simp[iY]
theorem SA:∀N,Sound Tryz.prog 98 (Nt N)
 |0=>by
  refine eG (fn:=Tryz.f98) (c:=dG Tryz.f98) Tryz.func98 rfl (by decide) ?_;rintro cvs m h K ⟨v,p,k,rfl,hr,hN,_⟩;omega
 |N+1=>by
  refine hX Tryz.func98 ?_;rintro cvs m h K ⟨v,p,k,rfl,hr,hN,h1,hK⟩;refine⟨W9 N v p k m h,rfl,aD (SA N) aF,Oz N v p k m h K,by kernel_rfl,?_⟩;dsimp only[Oz,push_cast];obtain⟨hl,hlen,hget⟩:=hr.open;refine aB (λhk=>gL hK ?_) (λhk=>?_)
  .have:k=0:=by have:(k:Int)=0:=(by simpa using hk);omega
   subst this;cases p;simp[j8]
  .have hk:k≠0:=by intro e;subst e;simp at hk
   have hdk:j8 p k=p.args.any (j8 · (k-1)):=by
    obtain⟨k',rfl⟩:∃k',k=k'+1:=⟨k-1,aC⟩
    cases p;simp[j8,Fv,Pred.args]
   rw[hdk]at hK;refine⟨⟨0,⟨aC,by simp⟩,rfl,rfl,rfl,rfl,rfl,rfl,rfl,trivial⟩,λi hi=>aE (λhlt=>?_) (λhge=>gL hK ?_)⟩
   .obtain⟨q,hq⟩:∃q,p.args[i]? =some q:=⟨p.args[i]'(by omega),List.getElem?_eq_getElem _⟩
    obtain⟨b,o,u,ea,hrd,hru⟩:=hget i q hq;refine⟨b,o,ea,aC,hlt,u,.imm (by simpa using hrd),u,q,k-1,?_,hru,?_,aC,aB (λhd=>gL hK ?_) (λhd=>?_)⟩
    .rw[dJ aC aC,show((k-1:Nat):Int)=(k:Int)-1 by omega]
    .have:=yQ (List.mem_of_getElem? hq);omega
    .rw[List.any_eq_true];exact⟨q,List.mem_of_getElem? hq,hd⟩
    .refine⟨i+1,⟨aC,?_⟩,aC,rfl,rfl,rfl,by rw[kN aC],rfl,rfl,rfl,trivial⟩;rw[List.take_add_one,List.any_append,hi.2,hq];simpa using hd
   .have:=hi.2
    rwa [List.take_of_length_le aC]at this
def Mu(cmp:Int)(l r:OV):Bool:=cmp==0&&Uz l dH&&Uz r dH
mutual
def iS(cols params:List Int):Pred->Bool
 |.mk op cmp l r args=>
  if op==1||op==2 then Mu cmp l r&&args.length==0
  else if op==3 then args.length==0&&cmp>=1&&cmp<=6&&kindOf cols params l !=0&&kindOf cols params l==kindOf cols params r
  else if op==4||op==5||(op==6&&args.length==1)then Mu cmp l r&&Ah cols params args
  else false
def Ah(cols params:List Int):List Pred->Bool
 |[]=>true
 |p::ps=>iS cols params p&&Ah cols params ps
end
theorem BH(cols params:List Int):∀ps:List Pred,Ah cols params ps=ps.all (iS cols params)
 |[]=>by simp[Ah]
 |p::ps=>by simp[Ah,BH cols params ps]
structure HC(cols params:List Int)(v:PV)(p:Pred):Prop where
 eq:iS cols params p=(qM v&&p.args.all (iS cols params))
def Nh(N:Nat):Vc.Spec:=λcvs m h K=>∃s t cols params v p,cvs=[cS s,cS t,aP v]/\Ints h s cols/\Ints h t params/\eH h p v/\SizeOf.sizeOf p<N/\K (cB (iS cols params p)) m h
def JW(N:Nat):Vc.Spec:=λcvs m h K=>∃s t cols params v p,cvs=[ZA s t,aP v]/\Ints h s cols/\Ints h t params/\eH h p v/\SizeOf.sizeOf p<N/\K (cB (iS cols params p)) m h
noncomputable def W8(N:Nat)(s t:Sl)(cols params:List Int)(v:PV)(p:Pred)(m:MH)(h:PH):Ctx:=
 ctx [(99,Nh N),(128,Wu),(129,Tg)] [B6 17 (λi=>cJ 84 87 [(0,sv s),(1,sv t),(5,.at (.ptr 5 0)),(70,iv v.args.len),(71,iv i)] [(5,.cells 32 (v.enc.map .val))] m h) (λi=>i<=p.args.length/\(p.args.take i).all (iS cols params)=true) (λi=>p.args.length-i)] [(14,{A:=Unit,st:=λ_=>cJ 84 87 [(0,sv s),(1,sv t),(5,.at (.ptr 5 0))] [(5,.cells 32 (v.enc.map .val))] m h,inv:=λ_=>HC cols params v p})] [] false
noncomputable def VP(N:Nat)(s t:Sl)(cols params:List Int)(v:PV)(p:Pred)(m:MH)(h:PH):Ctx:=
 ctx [(138,JW N),(176,PQ)] [B6 18 (λi=>cJ 87 89 [(2,.at (.ptr 2 0)),(3,.at (.ptr 3 0)),(76,sv v.args),(77,iv v.args.len),(78,iv i)] [(2,.cells 181 [.val (.slice s.a s.len s.cap),.val (.slice t.a t.len t.cap)]),(3,.cells 32 (v.enc.map .val))] m h) (λi=>i<=p.args.length/\(p.args.take i).all (iS cols params)=true) (λi=>p.args.length-i)] [(15,{A:=Unit,st:=λ_=>cJ 87 89 [(2,.at (.ptr 2 0)),(3,.at (.ptr 3 0))] [(2,.cells 181 [.val (.slice s.a s.len s.cap),.val (.slice t.a t.len t.cap)]),(3,.cells 32 (v.enc.map .val))] m h,inv:=λ_=>HC cols params v p})] [] false
noncomputable abbrev uP(a:PV):Int:=aG a.args
abbrev iZ(a:Sl->Sl->Prop):Prop:=∃(x x1:Sl),a x x1
abbrev uC(a:(List Int)->(List Int)->Prop):Prop:=∃(x x1:List Int),a x x1
abbrev EA(a:List CV)(b:Sl->Sl->OV->List CV)(c:PH)(d:(List Int)->(List Int)->OV->Prop):Prop:=iZ (λx x1=>uC (λx2 x3=>∃(x4:OV),aH (a=b x x1 x4) (Ints c x x2) (Ints c x1 x3) (d x2 x3 x4)))
noncomputable abbrev cH(a:Sl)(b:List CV):List CV:=pD a::b
noncomputable abbrev fK(a:Sl)(b:CV):List CV:=dZ (pD a) b
abbrev eM:Prop:=eP 5
abbrev AS(a:Nat)(b:Pred)(c d:List Int):Prop:=DW a b/\dX (List.all (List.take a b.args) (iS c d))
attribute [push_cast] uP iZ uC EA cH fK eM AS
def Oy(N:Nat)(s t:Sl)(cols params:List Int)(v:PV)(p:Pred)(m:MH)(h:PH)(K:CV->MH->PH->Prop):Prop:=
  cW (v.op==1) (∃(v1:PV),kF v.enc=kF v1.enc/\branch (qM v1) (K (Ag (uP v==0)) m h) (K aY m h)) (v.op==2) (∃(v1:PV),kF v.enc=kF v1.enc/\branch (qM v1) (K (Ag (uP v==0)) m h) (K aY m h)) (cW (v.op==3) (EA (cH s (fK t (jI v.left.enc))) (λs1 t1 o=>cH s1 (fK t1 (jI o.enc))) h (λc p1 o=>dL (uP v) 0 (fW v.cmp 1 (BV v.cmp 6 (eA (kindOf c p1 o) 0 (EA (cH s (fK t (jI v.right.enc))) (λs1 t1 o1=>cH s1 (fK t1 (jI o1.enc))) h (λc1 p2 o1=>K (Ag (kindOf c p1 o==kindOf c1 p2 o1)) m h)) (K aY m h)) (K aY m h)) (K aY m h)) (K aY m h))) (v.op==4) (∃(x:Unit),aA (HC cols params v p) (aJ s) (aA (aJ t) eM (aH (jO v) (m=m) (h=h) True))) (cW (v.op==5) (∃(x:Unit),aA (HC cols params v p) (aJ s) (aA
 (aJ t) eM (aH (jO v) (m=m) (h=h) True))) (v.op==6) (eA (uP v) 1 (K aY m h) (∃(x:Unit),aA (HC cols params v p) (aJ s) (aA (aJ t) eM (aH (jO v) (m=m) (h=h) True)))) (K aY m h)))/\∀(_:Unit),HC cols params v p->∃(v1:PV),kF v.enc=kF v1.enc/\gM (qM v1) (K aY m h) (jT (∃(x:Nat),aA (AS x p cols params) (aJ s) (aA (aJ t) eM (aA (bJ v.args) (bE x) (aA (jO v) (m=m) (bT h h))))) (λx=>AS x p cols params->bA (↑x:Int) (aG v.args) (aW (λb o=>aH (aX v.args.a b o) (0<=(↑x:Int)) ((↑x:Int)<aG v.args) (∃(y:PV),aM m h b (bL o x 13) y.enc/\iZ (λs1 t1=>uC (λc p1=>uU (λv2 p2=>aA (cH s (fK t (jI y.enc))=cH s1 (fK t1 (jI v2.enc))) (Ints h s1 c) (aA (Ints h t1 p1)
 (eH h p2 v2) (nO p2 N/\iF (!(iS c p1 p2)) (K aY m h) (λy1=>aA (AS y1 p cols params) (p.args.length-y1<p.args.length-x) (aA (aJ s) (aJ t) (aA eM (bJ v.args) (aA (fY (aT ((↑x:Int)+1))=bZ y1) (jO v) (cA (m=m) h h))))))))))))) (K fO m h)))
noncomputable abbrev jE(a b:List Value):List CV:=dZ (jI a) (jI b)
noncomputable abbrev jJ(a b:Value):List Value:=aL a b []
noncomputable abbrev lT(a b:At)(c:List At):List At:=a::b::c
noncomputable abbrev uD(a b:At):List At:=lT a b []
abbrev xT(a b:Sl):Prop:=eQ (oQ 181 (uD (Bl a) (Bl b)))
abbrev gQ(a:Prop)(b:Bool)(c d:Prop):Prop:=a->branch b c d
attribute [push_cast] jE jJ lT uD xT gQ
def Lw(N:Nat)(s t:Sl)(cols params:List Int)(v:PV)(p:Pred)(m:MH)(h:PH)(K:CV->MH->PH->Prop):Prop:=
  cW (v.op==3) (EA (jE (jJ (dT s) (dT t)) v.left.enc) (λs1 t1 o=>jE (jJ (dT s1) (dT t1)) o.enc) h (λc p1 o=>EA (jE (jJ (dT s) (dT t)) v.right.enc) (λs1 t1 o1=>jE (jJ (dT s1) (dT t1)) o1.enc) h (λc1 p2 o1=>dL (uP v) 0 (fW v.cmp 1 (BV v.cmp 6 (eA (kindOf c p1 o) 0 (K (Ag (kindOf c p1 o==kindOf c1 p2 o1)) m h) (K aY m h)) (K aY m h)) (K aY m h)) (K aY m h)))) (v.op==1) (eA (uP v) 0 (K aY m h) (∃(x:Unit),aA (HC cols params v p) gA (aA (eP 3) (xT s t) (aH (jO v) (m=m) (h=h) True)))) (cW (v.op==2) (eA (uP v) 0 (K aY m h) (∃(x:Unit),aA (HC cols params v p) gA (aA (eP 3) (xT s t) (aH (jO v) (m=m) (h=h) True)))) (v.op==6) (eA (uP v) 1 (K aY m h) (∃(x:Unit),aA (HC cols params v p)
 gA (aA (eP 3) (xT s t) (aH (jO v) (m=m) (h=h) True)))) (cW (v.op==4) (∃(x:Unit),aA (HC cols params v p) gA (aA (eP 3) (xT s t) (aH (jO v) (m=m) (h=h) True))) (v.op==5) (∃(x:Unit),aA (HC cols params v p) gA (aA (eP 3) (xT s t) (aH (jO v) (m=m) (h=h) True))) (K aY m h)))/\∀(_:Unit),gQ (HC cols params v p) (v.cmp !=0) (K aY m h) (lG 29 v.left.enc EO (λr=>gM r (K aY m h) (lG 29 v.right.enc EO (λr1=>gM r1 (K aY m h) (jT (∃(x:Nat),aA (AS x p cols params) gA (aA (eP 3) (aJ v.args) (aA (bJ v.args) (bE x) (aA (xT s t) (jO v) (cA (m=m) h h))))) (λx=>AS x p cols params->bA (↑x:Int) (aG v.args) (aW (λb o=>aH (aX v.args.a b o) (0<=(↑x:Int)) ((↑x:Int)<aG
 v.args) (∃(y:PV),aM m h b (bL o x 13) y.enc/\iZ (λs1 t1=>uC (λc p1=>uU (λv1 p2=>aA (jE (jJ (dT s) (dT t)) y.enc=jE (jJ (dT s1) (dT t1)) v1.enc) (Ints h s1 c) (aA (Ints h t1 p1) (eH h p2 v1) (nO p2 N/\iF (!(iS c p1 p2)) (K aY m h) (λy1=>aA (AS y1 p cols params) (p.args.length-y1<p.args.length-x) (aA gA (eP 3) (aA (aJ v.args) (bJ v.args) (aA (fY (aT ((↑x:Int)+1))=bZ y1) (xT s t) (aH (jO v) (m=m) (h=h) True))))))))))))) (K fO m h)))))))
theorem eH.top{v:PV}(r:eH h p v):p= .mk v.op v.cmp v.left v.right p.args:=by
 cases p with
 |mk op cmp l r' args=>obtain⟨h1,h2,h3,h4,_⟩:=r;simp[Pred.args,h1,h2,h3,h4]
theorem GX{cols params:List Int}{h:PH}{p:Pred}{v:PV}(r:eH h p v):iS cols params p=if v.op==1||v.op==2 then qM v&&p.args.length==0
 else if v.op==3 then p.args.length==0&&v.cmp>=1&&v.cmp<=6&&kindOf cols params v.left !=0&&kindOf cols params v.left==kindOf cols params v.right
 else if v.op==4||v.op==5||(v.op==6&&p.args.length==1)then qM v&&p.args.all (iS cols params)
 else false:=by
 have:=r.top;generalize p.args=xs at this⊢
 subst this;rw[iS,BH];rfl
theorem Ih{n:Nat}{k:Nat}:((n:Int)==(k:Int))=(n==k):=by
 apply Bool.eq_iff_iff.2;rw[beq_iff_eq,beq_iff_eq];omega
theorem Sz:∀N,Sound Tryz.prog 99 (Nh N)
 |0=>by
  refine eG (fn:=Tryz.f99) (c:=dG Tryz.f99) Tryz.func99 rfl (by decide) ?_;rintro cvs m h K ⟨s,t,cols,params,v,p,rfl,_,_,hr,hN,_⟩;omega
 |N+1=>by
  refine hX Tryz.func99 ?_;rintro cvs m h K ⟨s,t,cols,params,v,p,rfl,hs,ht,hr,hN,hK⟩;refine⟨W8 N s t cols params v p m h,rfl,aD (Sz N) (aD Ro (aD Rn aF)),Oy N s t cols params v p m h K,by kernel_rfl,?_⟩;obtain⟨hl,hlen,hget⟩:=hr.open;have hv:=GX (cols:=cols) (params:=params) hr;have hz:((v.args.len:Int)==0)=(p.args.length==0):=by rw[hlen];exact Ih (k:=0)
  have h1:((v.args.len:Int) !=1)=(p.args.length !=1):=by rw[hlen];simp only[bne];rw[show(1:Int)=((1:Nat):Int)from rfl,Ih]
  dsimp only[Oy,push_cast];refine⟨?_,?_⟩
  .refine aB (λe=>⟨v,rfl,aB (λe2=>gL hK ?_) (λe2=>gL hK ?_)⟩) (λe=>aB (λe1=>⟨v,rfl,aB (λe2=>gL hK ?_) (λe2=>gL hK ?_)⟩) (λe1=>aB (λe2=>⟨s,t,cols,params,v.left,rfl,hs,ht,?_⟩) (λe2=>?_)))
   .rw[hv,hz];simp[e,e2]
   .rw[hv];simp[e,e2]
   .rw[hv,hz];simp[e1,e2]
   .rw[hv];simp[e1,e2]
   .have hv3:iS cols params p=(p.args.length==0&&v.cmp>=1&&v.cmp<=6&&kindOf cols params v.left !=0&&kindOf cols params v.left==kindOf cols params v.right):=by rw[hv];simp[e,e1,e2]
    rw[hv3]at hK;refine aB (λe3=>aB (λe4=>aB (λe5=>aB (λe6=>⟨s,t,cols,params,v.right,rfl,hs,ht,gL hK ?_⟩) (λe6=>gL hK ?_)) (λe5=>gL hK ?_)) (λe4=>gL hK ?_)) (λe3=>gL hK ?_)
    all_goals (rw[hz]at e3;simp only[beq_iff_eq,decide_eq_true_eq,decide_eq_false_iff_not]at*;simp[*])
   .refine aB (λe3=>⟨(),⟨by rw[hv];simp[e,e1,e2,e3]⟩,rfl,rfl,rfl,rfl,rfl,rfl,trivial⟩) (λe3=>aB (λe4=>⟨(),⟨by rw[hv];simp[e,e1,e2,e4]⟩,rfl,rfl,rfl,rfl,rfl,rfl,trivial⟩) (λe4=>aB (λe5=>aB (λe6=>gL hK ?_) (λe6=>⟨(),⟨?_⟩,rfl,rfl,rfl,rfl,rfl,rfl,trivial⟩)) (λe5=>gL hK ?_)))
    .rw[h1]at e6;rw[hv];simp_all
    .rw[h1]at e6;rw[hv];simp_all
    .rw[hv];simp_all
  .intro _ htl;rw[htl.eq]at hK;refine⟨v,rfl,aB (λe=>gL hK ?_) (λe=>?_)⟩
   .simp_all
   .have e:qM v=true:=by simpa using e
    rw[e,Bool.true_and]at hK;refine⟨⟨0,⟨aC,by simp⟩,rfl,rfl,rfl,rfl,rfl,rfl,rfl,rfl,trivial⟩,λi hi=>aE (λhlt=>?_) (λhge=>gL hK ?_)⟩
    .obtain⟨q,hq⟩:∃q,p.args[i]? =some q:=⟨p.args[i]'(by omega),List.getElem?_eq_getElem _⟩
     obtain⟨b,o,u,ea,hrd,hru⟩:=hget i q hq;refine⟨b,o,ea,aC,hlt,u,.imm (by simpa using hrd),s,t,cols,params,u,q,rfl,hs,ht,hru,?_,aB (λhd=>gL hK ?_) (λhd=>?_)⟩
     .have:=yQ (List.mem_of_getElem? hq);omega
     .exact yS hq (by simpa using hd)
     .refine⟨i+1,⟨aC,?_⟩,aC,rfl,rfl,rfl,rfl,by rw[kN aC],rfl,rfl,rfl,trivial⟩;rw[xG hq,hi.2];simpa using hd
    .have:=hi.2
     rwa [List.take_of_length_le aC]at this
theorem Pm:∀N,Sound Tryz.prog 138 (JW N)
 |0=>by
  refine eG (fn:=Tryz.f138) (c:=dG Tryz.f138) Tryz.func138 rfl (by decide) ?_;rintro cvs m h K ⟨s,t,cols,params,v,p,rfl,_,_,hr,hN,_⟩;omega
 |N+1=>by
  refine hX Tryz.func138 ?_;rintro cvs m h K ⟨s,t,cols,params,v,p,rfl,hs,ht,hr,hN,hK⟩;refine⟨VP N s t cols params v p m h,rfl,aD (Pm N) (aD QX aF),Lw N s t cols params v p m h K,by kernel_rfl,?_⟩;obtain⟨hl,hlen,hget⟩:=hr.open;have hv:=GX (cols:=cols) (params:=params) hr;have hz:((v.args.len:Int)==0)=(p.args.length==0):=by rw[hlen];exact Ih (k:=0)
  have hz':((v.args.len:Int) !=0)=(p.args.length !=0):=by simp only[bne];rw[hz]
  have h1:((v.args.len:Int) !=1)=(p.args.length !=1):=by rw[hlen];simp only[bne];rw[show(1:Int)=((1:Nat):Int)from rfl,Ih]
  have hnil:p.args.length=0->p.args.all (iS cols params)=true:=λe=>by rw[List.eq_nil_of_length_eq_zero e];rfl
  dsimp only[Lw,push_cast];refine⟨?_,?_⟩
  .refine aB (λe2=>⟨s,t,cols,params,v.left,rfl,hs,ht,s,t,cols,params,v.right,rfl,hs,ht,?_⟩) (λe2=>aB (λe=>aB (λe3=>gL hK ?_) (λe3=>⟨(),⟨?_⟩,rfl,rfl,rfl,rfl,rfl,rfl,trivial⟩)) (λe=>aB (λe1=>aB (λe3=>gL hK ?_) (λe3=>⟨(),⟨?_⟩,rfl,rfl,rfl,rfl,rfl,rfl,trivial⟩)) (λe1=>aB (λe5=>aB (λe6=>gL hK ?_) (λe6=>⟨(),⟨?_⟩,rfl,rfl,rfl,rfl,rfl,rfl,trivial⟩)) (λe5=>aB (λe3=>⟨(),⟨?_⟩,rfl,rfl,rfl,rfl,rfl,rfl,trivial⟩) (λe3=>aB (λe4=>⟨(),⟨?_⟩,rfl,rfl,rfl,rfl,rfl,rfl,trivial⟩) (λe4=>gL hK ?_))))))
   .have e2':v.op=3:=by simpa using e2
    have hv3:iS cols params p=(p.args.length==0&&v.cmp>=1&&v.cmp<=6&&kindOf cols params v.left !=0&&kindOf cols params v.left==kindOf cols params v.right):=by rw[hv];simp[e2']
    rw[hv3]at hK;refine aB (λe3=>aB (λe4=>aB (λe5=>aB (λe6=>gL hK ?_) (λe6=>gL hK ?_)) (λe5=>gL hK ?_)) (λe4=>gL hK ?_)) (λe3=>gL hK ?_)
    all_goals (rw[hz]at e3;simp only[beq_iff_eq,decide_eq_true_eq,decide_eq_false_iff_not]at*;simp[*])
   .rw[hz']at e3;rw[hv];simp_all
   .rw[hz']at e3;rw[hv];have e3':p.args.length=0:=by simpa using e3
    rw[hnil e3',e3'];simp[e]
   .rw[hz']at e3;rw[hv];simp_all
   .rw[hz']at e3;rw[hv];have e3':p.args.length=0:=by simpa using e3
    rw[hnil e3',e3'];simp[e1]
   .rw[h1]at e6;rw[hv];simp_all
   .rw[h1]at e6;rw[hv];simp_all
   .rw[hv];simp[e,e1,e2,e3]
   .rw[hv];simp[e,e1,e2,e4]
   .rw[hv];simp_all
  .intro _ htl;rw[htl.eq]at hK;refine aB (λe=>gL hK ?_) (λe=>⟨Uz v.left dH,yO v.left dH,aB (λe1=>gL hK ?_) (λe1=>⟨Uz v.right dH,yO v.right dH,aB (λe2=>gL hK ?_) (λe2=>?_)⟩)⟩)
   .simp_all [qM]
   .simp_all [qM]
   .simp_all [qM]
   .have e:qM v=true:=by simp_all [qM]
    rw[e,Bool.true_and]at hK;refine⟨⟨0,⟨aC,by simp⟩,rfl,rfl,rfl,rfl,rfl,rfl,rfl,rfl,rfl,trivial⟩,λi hi=>aE (λhlt=>?_) (λhge=>gL hK ?_)⟩
    .obtain⟨q,hq⟩:∃q,p.args[i]? =some q:=⟨p.args[i]'(by omega),List.getElem?_eq_getElem _⟩
     obtain⟨b,o,u,ea,hrd,hru⟩:=hget i q hq;refine⟨b,o,ea,aC,hlt,u,.imm (by simpa using hrd),s,t,cols,params,u,q,rfl,hs,ht,hru,?_,aB (λhd=>gL hK ?_) (λhd=>?_)⟩
     .have:=yQ (List.mem_of_getElem? hq);omega
     .exact yS hq (by simpa using hd)
     .refine⟨i+1,⟨aC,?_⟩,aC,rfl,rfl,rfl,rfl,by rw[kN aC],rfl,rfl,rfl,rfl,trivial⟩;rw[xG hq,hi.2];simpa using hd
    .have:=hi.2
     rwa [List.take_of_length_le aC]at this
theorem drop_cons{α:Type}{l:List α}{x:α}(h:l[i]? =some x):l.drop i=x::l.drop (i+1):=by
 have hi:i<l.length:=(List.getElem?_eq_some_iff.1 h).1;rw[List.drop_eq_getElem_cons hi];rw[List.getElem?_eq_getElem hi]at h;simp at h;rw[h]
mutual
def kC:Pred->Nat->Int->Bool×Int
 |.mk _ _ _ _ args,k,b=>if b<1 then(false,b-1)else match k with|0=>(false,b-1)|k+1=>qJ args k (b-1)
def qJ:List Pred->Nat->Int->Bool×Int
 |[],_,b=>(true,b)
 |p::ps,k,b=>match kC p k b with|(false,b')=>(false,b')|(true,b')=>qJ ps k b'
end
mutual
def UM:Pred->Int
 |.mk _ _ _ _ args=>1+Eg args
def Eg:List Pred->Int
 |[]=>0
 |p::ps=>UM p+Eg ps
end
mutual
theorem Mi:∀p:Pred,1<=UM p
 |.mk _ _ _ _ args=>by have:=BI args;simp only[UM];omega
theorem BI:∀ps:List Pred,0<=Eg ps
 |[]=>by simp[Eg]
 |p::ps=>by have:=Mi p;have:=BI ps;simp only[Eg];omega
end
mutual
theorem KD:∀(p:Pred)(n:Int),n<=24->(n+UM p<=24->lK p n=n+UM p)/\(24<n+UM p->lK p n=25)
 |.mk _ _ _ _ args,n,h=>by
  obtain⟨h1,h2⟩:=IV args (n+1) aC;simp only[lK,UM];exact⟨λe=>by rw[h1 aC];omega,λe=>h2 aC⟩
theorem IV:∀(ps:List Pred)(n:Int),n<=25->(n+Eg ps<=24->iY ps n=n+Eg ps)/\(24<n+Eg ps->iY ps n=25)
 |[],n,h=>by
  simp only[iY,Eg];omega
 |p::ps,n,h=>by
  have h1:=Mi p;have h2:=BI ps;simp only[iY,Eg];by_cases h3:n<=24
  .rw[if_pos h3];have h4:=KD p n h3;have h5:=(Au p n h3).2;have h6:=IV ps _ h5;by_cases h7:n+UM p<=24
   .have h8:=h4.1 h7;rw[h8]at h6⊢
    exact⟨λe=>by rw[h6.1 aC];omega,λe=>h6.2 aC⟩
   .have h8:=h4.2 aC;rw[h8]at h6⊢
    exact⟨λe=>by omega,λe=>h6.2 aC⟩
  .rw[if_neg h3];omega
end
mutual
theorem FO:∀(p:Pred)(k:Nat)(b:Int),0<=b->((kC p k b).1=true↔UM p<=b/\j8 p k=false)/\((kC p k b).1=true->(kC p k b).2=b-UM p)
 |.mk _ _ _ _ args,k,b,h=>by
  have hp:=BI args;simp only[kC,UM];by_cases h0:b<1
  .rw[if_pos h0];exact⟨⟨λe=>(by cases e),λe=>aC⟩,λe=>(by cases e)⟩
  .rw[if_neg h0];cases k with
   |zero=>exact⟨⟨λe=>(by cases e),λe=>(by simp[j8]at e)⟩,λe=>(by cases e)⟩
   |succ k=>
    obtain⟨h1,h2⟩:=Iz args k (b-1) aC;simp only[j8];refine⟨⟨λe=>?_,λe=>h1.2 ⟨aC,e.2⟩⟩,λe=>by have:=h2 e;omega⟩;have:=h1.1 e;exact⟨aC,this.2⟩
theorem Iz:∀(ps:List Pred)(k:Nat)(b:Int),0<=b->((qJ ps k b).1=true↔Eg ps<=b/\pC ps k=false)/\((qJ ps k b).1=true->(qJ ps k b).2=b-Eg ps)
 |[],k,b,h=>by simp[qJ,Eg,pC,h]
 |p::ps,k,b,h=>by
  obtain⟨h1,h2⟩:=FO p k b h;have hp:=BI ps;simp only[qJ,Eg,pC];cases e:kC p k b with
  |mk r b'=>
   rw[e]at h1 h2;cases r with
   |false=>
    refine⟨⟨λe=>(by cases e),λe=>?_⟩,λe=>(by cases e)⟩;have:=h1.2 ⟨aC,(Bool.or_eq_false_iff.1 e.2).1⟩;cases this
   |true=>
    have h3:=h2 rfl;have h1:=h1.1 rfl;simp only at h3;obtain⟨h4,h5⟩:=Iz ps k b' aC;refine⟨⟨λe=>?_,λe=>?_⟩,λe=>by have:=h5 e;simp only;omega⟩
    .have:=h4.1 e;exact⟨aC,by rw[h1.2,this.2];rfl⟩
    .exact h4.2 ⟨aC,(Bool.or_eq_false_iff.1 e.2).2⟩
end
def hZ(cols params:List Int)(p:Pred):Int:=
 if !cols.all dO|| !params.all dO then 1
 else if lK p 0>24||j8 p 8 then 2
 else if !iS cols params p then 50 else 0
theorem Tv(p:Pred):(kC p 8 24).1= !(decide (lK p 0>24)||j8 p 8):=by
 have h1:=(FO p 8 24 aC).1;have h2:=KD p 0 aC;rw[Bool.eq_iff_iff,h1];simp only[Bool.not_eq_true',Bool.or_eq_false_iff,decide_eq_false_iff_not];refine and_congr_left λ_=>⟨λe=>?_,λe=>?_⟩
 .rw[h2.1 aC];omega
 .by_cases h3:UM p<=24
  .exact h3
  .rw[h2.2 aC]at e;omega
def PB(n:Int):Obj:=.cells #[.int .i64 n] 3 (0,0)
def RV(N:Nat):Vc.Spec:=λcvs m h K=>∃v p,∃k b:Nat,∃n,cvs=[aP v,cI (9-k),cP b]/\eH h p v/\SizeOf.sizeOf p<N/\k<=9/\0<=n/\n<=24/\m b=some (PB n)/\∀m',jH m m' b (PB (kC p k n).2)->K (cB (kC p k n).1) m' h
noncomputable def VQ(N:Nat)(v:PV)(p:Pred)(k b:Nat)(n:Int)(m:MH)(h:PH):Ctx:=
 ctx [(137,RV N)] [(5,{A:=Nat×Int×MH,st:=λx=>cJ 36 39 [(1,iv (9-k)),(2,vv (.pointer (some ⟨b,0,none⟩))),(23,sv v.args),(24,iv v.args.len),(25,iv x.1)] [] x.2.2 h,inv:=λx=>x.1<=p.args.length/\0<=x.2.1/\x.2.1<=24/\jH m x.2.2 b (PB x.2.1)/\1<=k/\qJ (p.args.drop x.1) (k-1) x.2.1=kC p k n,mu:=λx=>p.args.length-x.1})] [] [] false
def qD:Vc.Spec:=λcvs m h K=>∃s t v cols params p,cvs=[cS s,cS t,aP v]/\Ints h s cols/\Ints h t params/\eH h p v/\K (cI (hZ cols params p)) m h
noncomputable def Xn(N:Nat):Ctx:=ctx [(64,J7),(97,RZ N),(98,Nt N),(99,Nh N)] [] [] [] false
noncomputable def VY(N:Nat):Ctx:=ctx [(136,J7),(137,RV N),(138,JW N)] [] [] [] false
abbrev tD(a:MH)(b:PH)(c d:Nat)(e:Int->Prop):Prop:=∃(x:Int),aM a b c d (bN x)/\e x
abbrev gJ(a:(Array Value)->TypeId->Prop):Prop:=∃(x:Array Value)(x1:TypeId),a x x1
noncomputable abbrev eW(a:Array Value)(b:TypeId)(c:Nat):Obj:=Obj.cells a b (c,c)
abbrev fH(a:Nat)(b:Array Value):Prop:=a<b.size
abbrev bH(a b:MH)(c:Nat)(d:List Value)(e:Nat):Prop:=jH a b c (eW (Array.mk d) e 0)
noncomputable abbrev eU(a:Value)(b:Nat)(c:Array Value):List Value:=a::List.drop b c.toList
noncomputable abbrev mG(a:Int):Int:=aT (a-1)
abbrev dV(a b:Int)(c d:Prop):Prop:=branch (decide (a>b)) c d
abbrev HL(a:Nat×Int×MH)(b:Pred)(c:Nat)(d:Int):Prop:=qJ (List.drop a.1 b.args) (c-1) a.2.1=kC b c d
abbrev cX(a:Nat):Prop:=eQ (UZ a 0)
noncomputable abbrev cL(a:List Value)(b:List CV):List CV:=jI a::b
attribute [push_cast] tD gJ eW fH bH eU mG dV HL cX cL
def Lx(N:Nat)(v:PV)(p:Pred)(k b:Nat)(n:Int)(m:MH)(h:PH)(K:CV->MH->PH->Prop):Prop:=
  tD m h b 0 (λy=>gJ (λc E=>aA (tY m b (eW c E 0)) (fH 0 c) (∀(m1:MH),bH m m1 b (eU (dY (mG y)) 1 c) E->tD m1 h b 0 (λy1=>bA y1 0 (K aY m1 h) (dV (9-(↑k:Int)) 8 (K aY m1 h) ((∃(x:Nat×Int×MH),aA (aA (DW x.1 p) (cD x.2.1) (aA (x.2.1<=24) (bH m x.2.2 b (bN x.2.1) 3) (1<=k/\HL x p k n))) (eQ (fY (9-(↑k:Int)))) (aA (cX b) (aJ v.args) (aA (bJ v.args) (bE x.1) (aA (m1=x.2.2) (h=h) True))))/\∀(x:Nat×Int×MH),aA (DW x.1 p) (cD x.2.1) (aA (x.2.1<=24) (bH m x.2.2 b (bN x.2.1) 3) (1<=k/\HL x p k n))->bA (↑x.1:Int) (aG v.args) (aW (λb1 o=>aH (aX v.args.a b1 o) (0<=(↑x.1:Int)) ((↑x.1:Int)<aG v.args) (∃(y2:PV),aM x.2.2 h b1 (bL o x.1 13) y2.enc/\uU (λv1 p1=>aW (fun
 k1 b2=>∃(n1:Int),aA (cL y2.enc (dZ (eK (aT (9-(↑k:Int)+1))) (qB b 0))=cL v1.enc (dZ (eK (9-(↑k1:Int))) (qB b2 0))) (eH h p1 v1) (aA (nO p1 N) (k1<=9) (aH (cD n1) (n1<=24) (x.2.2 b2=Option.some (eW (Array.mk (bN n1)) 3 0)) (∀(m2:MH),gQ (bH x.2.2 m2 b2 (bN (kC p1 k1 n1).2) 3) (!(kC p1 k1 n1).1) (K aY m2 h) (∃(y3:Nat×Int×MH),aA (aA (DW y3.1 p) (cD y3.2.1) (aA (y3.2.1<=24) (bH m y3.2.2 b (bN y3.2.1) 3) (1<=k/\HL y3 p k n))) (p.args.length-y3.1<p.args.length-x.1) (aA (eQ (fY (9-(↑k:Int)))) (cX b) (aA (aJ v.args) (bJ v.args) (aA (fY (aT ((↑x.1:Int)+1))=bZ y3.1) (m2=y3.2.2) (bT h h))))))))))))) (K fO x.2.2 h)))))))
abbrev AK(a:Sl->(List Int)->Prop):Prop:=∃(x:Sl)(x1:List Int),a x x1
noncomputable abbrev gC(a:Sl):List CV:=oB (pD a)
abbrev EB(a:Sl)(b:PH)(c:CV->MH->PH->Prop)(d:MH)(e:Prop):Prop:=AK (λx x1=>aA (gC a=gC x) (Ints b x x1) (gM (DX x1) (c (eK 1) d b) e))
attribute [push_cast] AK gC EB
def OR(N:Nat)(s t:Sl)(v:PV)(m:MH)(h:PH)(K:CV->MH->PH->Prop):Prop:=
  EB s h K m (EB t h K m (uU (λv1 p=>∃(k:Int),aA (bD (jI v.enc) 0=bD (jI v1.enc) k) (eH h p v1) (aA (nO p N) (cD k) (k<=24/\dV (lK p k) 24 (K (eK 2) m h) (uU (λv2 p1=>∃(k1:Nat),aA (bD (jI v.enc) 8=bD (jI v2.enc) (↑k1:Int)) (eH h p1 v2) (aA (nO p1 N) (k1<=100) (branch (j8 p1 k1) (K (eK 2) m h) (iZ (λs1 t1=>uC (λc p2=>uU (λv3 p3=>aA (cH s (fK t (jI v.enc))=cH s1 (fK t1 (jI v3.enc))) (Ints h s1 c) (aA (Ints h t1 p2) (eH h p3 v3) (nO p3 N/\gM (iS c p2 p3) (K (eK 50) m h) (K (eK 0) m h))))))))))))))))
abbrev aU(a b c:Prop):Prop:=a->b->c
attribute [push_cast] aU
def LH(N:Nat)(s t:Sl)(v:PV)(m:MH)(h:PH)(K:CV->MH->PH->Prop):Prop:=
  EB s h K m (EB t h K m (∀(b:Nat)(m1:MH),aU (cE m h b) (bH m m1 b (bN 24) 3) (uU (λv1 p=>aW (λk b1=>∃(n:Int),aA (cL v.enc (dZ (eK 1) (qB b 0))=cL v1.enc (dZ (eK (9-(↑k:Int))) (qB b1 0))) (eH h p v1) (aA (nO p N) (k<=9) (aH (cD n) (n<=24) (m1 b1=Option.some (eW (Array.mk (bN n)) 3 0)) (∀(m2:MH),gQ (bH m1 m2 b1 (bN (kC p k n).2) 3) (!(kC p k n).1) (K (eK 2) m2 h) (iZ (λs1 t1=>uC (λc p1=>uU (λv2 p2=>aA (jE (jJ (dT s) (dT t)) v.enc=jE (jJ (dT s1) (dT t1)) v2.enc) (Ints h s1 c) (aA (Ints h t1 p1) (eH h p2 v2) (nO p2 N/\gM (iS c p1 p2) (K (eK 50) m2 h) (K (eK 0) m2 h)))))))))))))))
end Go.Ps
namespace Go.Vc
open Go.Ps Go.Proofs
theorem jH.trans{m m' m'':MH}{b:Nat}{o o':Obj}(h1:jH m m' b o)(h2:jH m' m'' b o'):jH m m'' b o':=⟨h2.at_,λb' hb=>(h2.other b' hb).trans (h1.other b' hb)⟩
end Go.Vc
namespace Go.Ps
open Go Go.Vc Go.Proofs
variable{K:CV->MH->PH->Prop}{m:MH}{h:PH}{ps:List Int}{cb:Nat}{sc:bX}{v:QV}{q:Query}{p:Pred}{l:List Int}{i:Nat}{N:Nat}{m':MH}{h':PH}{co:List Int}{gr:List Int}{od:List (Int×Bool)}{w:Pred}{ta:Int}{li:Int}{xs:List (List Value)}{sz:Nat}{k:Nat}{ks:List (List Int)}{rs:List Int}{r:Sl}{a:List Int}{b:Nat}
theorem Pn:∀N,Sound Tryz.prog 137 (RV N)
 |0=>by
  refine eG (fn:=Tryz.f137) (c:=dG Tryz.f137) Tryz.func137 rfl (by decide) ?_;rintro cvs m h K ⟨v,p,k,b,n,rfl,hr,hN,_⟩;omega
 |N+1=>by
  refine hX Tryz.func137 ?_;rintro cvs m h K ⟨v,p,k,b,n,rfl,hr,hN,hk,h0,h1,hm,hK⟩;refine⟨VQ N v p k b n m h,rfl,aD (Pn N) aF,Lx N v p k b n m h K,by kernel_rfl,?_⟩;dsimp only[Lx,push_cast];obtain⟨hl,hlen,hget⟩:=hr.open;have hw:IntKind.i64.wrap (n-1)=n-1:=dJ aC aC;refine⟨n,.of_m hm rfl,_,_,⟨hm⟩,by simp,λm' hu=>?_⟩;rw[hw]at hu;have hu':jH m m' b (PB (n-1)):=hu;refine⟨n-1,.of_m hu'.at_ rfl,aE (λh2=>?_) (λh2=>aE (λh3=>?_) (λh3=>?_))⟩
  .have e:kC p k n=(false,n-1):=by cases p;simp only[kC];rw[if_pos aC]
   rw[e]at hK;exact hK m' hu'
  .have hk0:k=0:=by omega
   subst hk0;have e:kC p 0 n=(false,n-1):=by cases p;simp only[kC];rw[if_neg aC]
   rw[e]at hK;exact hK m' hu'
  .refine⟨⟨(0,n-1,m'),⟨by simp,by simp only;omega,by simp only;omega,hu',aC,?_⟩,MT⟩,?_⟩
   .obtain⟨k',rfl⟩:∃k',k=k'+1:=⟨k-1,aC⟩
    cases p;simp only[kC,List.drop_zero,Pred.args];rw[if_neg aC];rfl
   .rintro⟨i,x,mx⟩ ⟨hi,hx0,hx1,hmx,hk1,he⟩;simp only at hi hx0 hx1 hmx he;refine aE (λhlt=>?_) (λhge=>?_)
    .obtain⟨q,hq⟩:∃q,p.args[i]? =some q:=⟨p.args[i]'(by simp only at hlt;omega),List.getElem?_eq_getElem _⟩
     obtain⟨b1,o,u,ea,hrd,hru⟩:=hget i q hq;have hd:p.args.drop i=q::p.args.drop (i+1):=drop_cons hq;refine⟨b1,o,ea,by simp,by simpa using hlt,u,.imm (by simpa using hrd),u,q,k-1,b,x,?_,hru,?_,aC,hx0,hx1,hmx.at_,λm2 hm2=>?_⟩
     .rw[dJ aC aC,show(9-((k-1:Nat):Int))=9-(k:Int)+1 by omega]
     .have:=yQ (List.mem_of_getElem? hq);omega
     .have hmt:jH m m2 b (PB (kC q (k-1) x).2):=hmx.trans hm2;rw[hd,qJ]at he;obtain⟨hs1,hs2⟩:=FO q (k-1) x hx0;cases e:kC q (k-1) x with
      |mk r x'=>
       rw[e]at he hmt hs1 hs2;cases r with
       |false=>
        simp only at he;rw[<-he]at hK;exact hK m2 hmt
       |true=>
        have hs3:=hs1.1 rfl;have hs4:=hs2 rfl;have hq1:=Mi q;simp only at hs4 he;exact⟨(i+1,x',m2),⟨by simp only at hlt⊢;omega,by simp only;omega,by simp only;omega,hmt,hk1,he⟩,by simp only at hlt⊢;omega,MT⟩
    .rw[List.drop_of_length_le (by simp only at hge;omega)]at he;simp only[qJ]at he;rw[<-he]at hK;exact hK mx hmx
theorem Gi:Sound Tryz.prog 69 qD:=by
 refine hX Tryz.func69 ?_;rintro cvs m h K ⟨s,t,v,cols,params,p,rfl,hs,ht,hr,hK⟩;refine⟨Xn (SizeOf.sizeOf p+1),rfl,aD KZ (aD (SB _) (aD (SA _) (aD (Sz _) aF))),OR (SizeOf.sizeOf p+1) s t v m h K,by kernel_rfl,?_⟩;dsimp only[OR,push_cast];refine⟨s,cols,rfl,hs,aB (λe1=>vC hK ?_) (λe1=>⟨t,params,rfl,ht,aB (λe2=>vC hK ?_) (λe2=>⟨v,p,0,rfl,hr,aC,aC,aC,aB (λe3=>vC hK ?_) (λe3=>⟨v,p,8,rfl,hr,aC,aC,aB (λe4=>vC hK ?_) (λe4=>⟨s,t,cols,params,v,p,rfl,hs,ht,hr,aC,aB (λe5=>vC hK ?_) (λe5=>vC hK ?_)⟩)⟩)⟩)⟩)⟩
 all_goals (simp only[hZ];simp only[*,Bool.or_false,Bool.false_or,Bool.or_true,Bool.true_or,Bool.and_true,Bool.true_and,Bool.and_false,Bool.false_and,Bool.not_true,Bool.not_false,Bool.false_eq_true,if_true,if_false, ↓reduceIte])
theorem Fg{f:FuncId}{fn:Func}(hf:Tryz.prog.funcs[f]? =some fn){S:Vc.Spec}(hvc:∀cvs m h K,S cvs m h K->∃C:Ctx,C.P=Tryz.prog/\(∀g S,assoc C.specs g=some S->Sound Tryz.prog g S)/\∃N:Prop,N=zX C fn (dG fn) (entry fn.ntmps cvs m h) (λr m' h'=>∃m2 h2,(∀b o,m2 b=some o->m' b=some o)/\PH.le h h2/\PH.le h2 h'/\K r m2 h2)/\N)(hb:fn.body=some (dG fn):=by rfl)(hname:(fn.name== "runtime.NumGoroutine")=false:=by decide):Sound Tryz.prog f S:=TO hf hb hname λcvs m h K hS=>let⟨C,hC,hs,N,e,hn⟩:=hvc cvs m h K hS;⟨C,hC,hs,e▸hn⟩
theorem JH:Sound Tryz.prog 113 qD:=by
 refine Fg Tryz.func113 ?_;rintro cvs m h K ⟨s,t,v,cols,params,p,rfl,hs,ht,hr,hK⟩;refine⟨VY (SizeOf.sizeOf p+1),rfl,aD Rj (aD (Pn _) (aD (Pm _) aF)),LH (SizeOf.sizeOf p+1) s t v m h (λr m' h'=>∃m2 h2,(∀b o,m2 b=some o->m' b=some o)/\PH.le h h2/\PH.le h2 h'/\K r m2 h2),by kernel_rfl,?_⟩;dsimp only[LH,push_cast];have hK2:∀(m':MH),(∀b o,m b=some o->m' b=some o)->∀x,hZ cols params p=x->∃m2 h2,(∀b o,m2 b=some o->m' b=some o)/\PH.le h h2/\PH.le h2 h/\K (.val (.int .i64 x)) m2 h2:=λm' hm x e=>⟨m,h,hm,.refl _,.refl _,e▸hK⟩
 refine⟨s,cols,rfl,hs,aB (λe1=>hK2 m (λ_ _ e=>e) _ ?_) (λe1=>⟨t,params,rfl,ht,aB (λe2=>hK2 m (λ_ _ e=>e) _ ?_) (λe2 b m1 hb hm1=>⟨v,p,8,b,24,rfl,hr,aC,aC,aC,aC,hm1.at_,λm2 hm2=>?_⟩)⟩)⟩
 .simp only[hZ];simp only[*,Bool.or_false,Bool.false_or,Bool.or_true,Bool.true_or,Bool.and_true,Bool.true_and,Bool.and_false,Bool.false_and,Bool.not_true,Bool.not_false,Bool.false_eq_true,if_true,if_false, ↓reduceIte]
 .simp only[hZ];simp only[*,Bool.or_false,Bool.false_or,Bool.or_true,Bool.true_or,Bool.and_true,Bool.true_and,Bool.and_false,Bool.false_and,Bool.not_true,Bool.not_false,Bool.false_eq_true,if_true,if_false, ↓reduceIte]
 .have hsub:∀b o,m b=some o->m2 b=some o:=λb' o e=>by
   have hne:b'≠b:=λe'=>by rw[e',hb.m_]at e;cases e
   rw[hm2.other b' hne,hm1.other b' hne,e]
  have hsb:=Tv p;refine aB (λe3=>hK2 m2 hsub _ ?_) (λe3=>⟨s,t,cols,params,v,p,rfl,hs,ht,hr,aC,aB (λe5=>hK2 m2 hsub _ ?_) (λe5=>hK2 m2 hsub _ ?_)⟩)
  all_goals (rw[hsb,Bool.not_not]at e3;clear hsb;simp only[hZ];simp only[*,Bool.or_false,Bool.false_or,Bool.or_true,Bool.true_or,Bool.and_true,Bool.true_and,Bool.and_false,Bool.false_and,Bool.not_true,Bool.not_false,Bool.false_eq_true,if_true,if_false, ↓reduceIte])
structure bY{α β:Type}(h:PH)(sz:Nat)(enc:β->List Value)(R:α->β->Prop)(s:Sl)(l:List α):Prop where
 ex:∃vs:List β,cN h s sz (vs.map enc)/\l.length=vs.length/\∀(i:Nat)(x:α),l[i]? =some x->∃v,vs[i]? =some v/\R x v
 len:l.length<=502633886983
theorem bY.slen{α β:Type}{enc:β->List Value}{R:α->β->Prop}{s:Sl}{l:List α}(r:bY h sz enc R s l):s.len=l.length:=by
 obtain⟨vs,h1,h2,_⟩:=r.ex;have:=h1.len;simp at this;omega
theorem bY.at{α β:Type}{enc:β->List Value}{R:α->β->Prop}{s:Sl}{l:List α}(r:bY h sz enc R s l){x:α}(hi:l[i]? =some x):
 ∃b o v,s.a=some ⟨b,o,none⟩/\aZ h b (o+i*sz) (enc v)/\R x v:=by
 obtain⟨vs,h1,_,h3⟩:=r.ex;obtain⟨v,hv,hr⟩:=h3 i x hi;obtain⟨b,o,e,k⟩:=h1.get (i:=i) (e:=enc v) (by simp[hv]);exact⟨b,o,v,e,k,hr⟩
theorem bY.mono{α β:Type}{enc:β->List Value}{R R':α->β->Prop}{s:Sl}{l:List α}(r:bY h sz enc R s l)(le:PH.le h h')(hR:∀x v,R x v->R' x v):bY h' sz enc R' s l:=by
 obtain⟨vs,h1,h2,h3⟩:=r.ex;exact⟨⟨vs,h1.mono le,h2,λi x hx=>(h3 i x hx).imp λv hv=>⟨hv.1,hR _ _ hv.2⟩⟩,r.len⟩
theorem bY.nil{α β:Type}(h:PH)(sz:Nat)(enc:β->List Value)(R:α->β->Prop):bY h sz enc R ⟨none,0,0⟩ ([]:List α):=
 ⟨⟨[],.nil h sz,rfl,λi x hx=>by simp at hx⟩,by simp⟩
theorem fJ{α:Type}{l:List α}{i n:Nat}(hn:n=l.length)(hi:(i:Int)<(n:Int)):∃x,l[i]? =some x:=⟨l[i]'(by omega),List.getElem?_eq_getElem _⟩
def Cr(h:PH)(s:Sl)(ps:List Pred):Prop:=bY h 13 PV.enc (eH h) s ps
theorem Cr.mono{s:Sl}{ps:List Pred}(r:Cr h s ps)(le:PH.le h h'):Cr h' s ps:=bY.mono r le λ_ _=>eH.mono le
theorem sB.toL{s:Sl}{ps:List Pred}{vs:List PV}(h1:cN h s 13 (vs.map PV.enc))(h2:sB h ps vs)(hl:ps.length<=502633886983):Cr h s ps:=
 ⟨⟨vs,h1,h2.length.symm,λ_ _ hx=>h2.get hx⟩,hl⟩
theorem sB.ofL{h:PH}:∀{ps:List Pred}{vs:List PV},ps.length=vs.length->(∀(i:Nat)(x:Pred),ps[i]? =some x->∃v,vs[i]? =some v/\eH h x v)->sB h ps vs
 |[],[],_,_=>rfl
 |p::ps,v::vs,hl,hx=>by
  obtain⟨v',h1,h2⟩:=hx 0 p rfl;simp at h1;subst h1;exact⟨v,vs,rfl,h2,sB.ofL (by simpa using hl) λi x e=>by simpa using hx (i+1) x (by simpa using e)⟩
 |[],_::_,hl,_=>by simp at hl
 |_::_,[],hl,_=>by simp at hl
theorem eH.parts{op cmp:Int}{l r:OV}{args:List Pred}{v:PV}(x:eH h (.mk op cmp l r args) v):v.op=op/\v.cmp=cmp/\v.left=l/\v.right=r/\Cr h v.args args:=by
 obtain⟨h1,h2,h3,h4,h5,vs,h6,h7⟩:=x;exact⟨h1,h2,h3,h4,h7.toL h6 h5⟩
theorem eH.mk{h:PH}{args:List Pred}{v:PV}(hl:Cr h v.args args):eH h (.mk v.op v.cmp v.left v.right args) v:=by
 obtain⟨vs,h1,h2,h3⟩:=hl.ex;exact⟨rfl,rfl,rfl,rfl,hl.len,vs,h1,.ofL h2 h3⟩
def Ya(N:Nat):Vc.Spec:=λcvs m h K=>∃v w p q,cvs=[aP v,aP w]/\eH h p v/\eH h q w/\SizeOf.sizeOf p<N/\∀r:Bool,(r=true↔p=q)->K (cB r) m h
def Yu(N:Nat):Vc.Spec:=λcvs m h K=>∃s t ps qs,cvs=[cS s,cS t,.val (.func (.func 213) #[] #[])]/\Cr h s ps/\Cr h t qs/\(∀p∈ps,SizeOf.sizeOf p<N)/\∀r:Bool,(r=true↔ps=qs)->K (cB r) m h
noncomputable def Vu(N:Nat):Ctx:=ctx [(224,Yu N)] [] [] [] false
noncomputable def Vs(N:Nat)(s t:Sl)(ps qs:List Pred)(m:MH)(h:PH):Ctx:=
 ctx [(213,Ya N)] [B6 4 (λi=>cJ 32 35 [(1,sv t),(2,vv (.func (.func 213) #[] #[])),(15,sv s),(16,iv s.len),(17,iv i)] [] m h) (λi=>i<=ps.length/\∀j:Nat,j<i->ps[j]? =qs[j]?) (λi=>ps.length-i)] [] [] false
noncomputable def VI(N:Nat)(v w:PV)(ps qs:List Pred)(m:MH)(h:PH):Ctx:=
 ctx [(163,Ya N)] [B6 4 (λi=>cJ 60 62 [(2,.at (.ptr 2 0)),(3,.at (.ptr 3 0)),(43,iv v.args.len),(44,iv i)] [(2,.cells 32 (v.enc.map .val)),(3,.cells 32 (w.enc.map .val))] m h) (λi=>i<=ps.length/\∀j:Nat,j<i->ps[j]? =qs[j]?) (λi=>ps.length-i)] [] [] false
noncomputable abbrev Ja:Array Value:=Array.mk []
noncomputable abbrev w9(a:Nat)(b:Array Value):Value:=Value.func (Fn.func a) Ja b
noncomputable abbrev iP(a:Nat):Value:=w9 a Ja
attribute [push_cast] Ja w9 iP
def Gn(N:Nat)(v w:PV)(m:MH)(h:PH)(K:CV->MH->PH->Prop):Prop:=
  dL v.op w.op (dL v.cmp w.cmp (lG 29 v.left.enc w.left.enc (λr=>branch r (lG 29 v.right.enc w.right.enc (λr1=>branch r1 (iZ (λs t=>∃(p q:List Pred),aA (cH v.args (fK w.args (CV.val (iP 213)))=cH s (fK t (CV.val (iP 213)))) (Cr h s p) (aA (Cr h t q) (∀(p1:Pred),List.Mem p1 p->nO p1 N) (∀(r2:Bool),(dX r2↔p=q)->K (Ag r2) m h)))) (K aY m h))) (K aY m h))) (K aY m h)) (K aY m h)
abbrev AL(a:Nat)(b c:List Pred):Prop:=jT (a<=b.length) (λx=>x<a->b[x]? =c[x]?)
abbrev AX(a:Nat):Prop:=eQ (SV.at (At.val (iP a)))
abbrev EP(a:PV->PV->Pred->Pred->Prop):Prop:=∃(x:PV),uU (λx1 x2=>∃(x3:Pred),a x x1 x2 x3)
attribute [push_cast] AL AX EP
def K8(N:Nat)(s t:Sl)(ps qs:List Pred)(m:MH)(h:PH)(K:CV->MH->PH->Prop):Prop:=
  eA (aG s) (aG t) (K aY m h) (jT (∃(x:Nat),aA (AL x ps qs) (aJ t) (aA (AX 213) (aJ s) (aA (bJ s) (bE x) (aA (m=m) (h=h) True)))) (λx=>AL x ps qs->bA (↑x:Int) (aG s) (aW (λb o=>aH (aX s.a b o) (0<=(↑x:Int)) ((↑x:Int)<aG s) (∃(y:PV),aM m h b (bL o x 13) y.enc/\aW (λb1 o1=>aH (aX t.a b1 o1) (0<=(↑x:Int)) ((↑x:Int)<aG t) (∃(y1:PV),aM m h b1 (bL o1 x 13) y1.enc/\EP (λv w p q=>aA (jE y.enc y1.enc=jE v.enc w.enc) (eH h p v) (aA (eH h q w) (nO p N) (∀(r:Bool),(dX r↔p=q)->iF (!r) (K aY m h) (λy2=>aA (AL y2 ps qs) (ps.length-y2<ps.length-x) (aA (aJ t) (AX 213) (aA (aJ s) (bJ s) (aA (fY (aT ((↑x:Int)+1))=bZ y2) (m=m) (bT h h))))))))))))) (K fO
 m h)))
def Gt(N:Nat)(v w:PV)(ps qs:List Pred)(m:MH)(h:PH)(K:CV->MH->PH->Prop):Prop:=
  cW (v.op !=w.op) (K aY m h) (v.cmp !=w.cmp) (K aY m h) (lG 29 v.left.enc w.left.enc (λr=>gM r (K aY m h) (lG 29 v.right.enc w.right.enc (λr1=>cW (!r1) (K aY m h) (uP v !=uP w) (K aY m h) (jT (∃(x:Nat),aA (AL x ps qs) gA (aA (eP 3) (bJ v.args) (aA (bE x) (jO v) (aA (jO w) (m=m) (bT h h))))) (λx=>AL x ps qs->bA (↑x:Int) (aG v.args) (aW (λb o=>aH (aX v.args.a b o) (0<=(↑x:Int)) ((↑x:Int)<aG v.args) (∃(y:PV),aM m h b (bL o x 13) y.enc/\aW (λb1 o1=>aH (aX w.args.a b1 o1) (0<=(↑x:Int)) ((↑x:Int)<aG w.args) (∃(y1:PV),aM m h b1 (bL o1 x 13) y1.enc/\EP (λv1 w1 p q=>aA (jE y.enc y1.enc=jE v1.enc w1.enc) (eH h p v1) (aA (eH h q w1) (nO p N) (∀(r2:Bool),(dX r2↔p=q)
 ->iF (!r2) (K aY m h) (λy2=>aA (AL y2 ps qs) (ps.length-y2<ps.length-x) (aA gA (eP 3) (aA (bJ v.args) (fY (aT ((↑x:Int)+1))=bZ y2) (aA (jO v) (jO w) (cA (m=m) h h))))))))))))) (K fO m h)))))))
theorem wO{α:Type}{a b:List α}(hl:a.length=b.length)(hi:a.length<=i)(h:∀j:Nat,j<i->a[j]? =b[j]?):a=b:=by
 apply List.ext_getElem?;intro j;by_cases hj:j<i
 .exact h j hj
 .rw[List.getElem?_eq_none aC,List.getElem?_eq_none aC]
theorem sS{α:Type}{a b:List α}{x y:α}(hx:a[i]? =some x)(hy:b[i]? =some y)(e:x=y)(h:∀j:Nat,j<i->a[j]? =b[j]?):∀j:Nat,j<i+1->a[j]? =b[j]? :=by
 intro j hj;by_cases e':j=i
 .subst e';rw[hx,hy,e]
 .exact h j aC
theorem KE{α:Type}{a b:List α}{x y:α}(hx:a[i]? =some x)(hy:b[i]? =some y)(e:x≠y):a≠b:=λh=>by
 subst h;rw[hx]at hy;simp at hy;exact e hy
theorem F5{α β:Type}{s t:Sl}{a:List α}{b:List β}(hs:s.len=a.length)(ht:t.len=b.length)(e:((s.len:Int) !=(t.len:Int))=true):a.length≠b.length:=λh=>by
 rw[hs,ht,h]at e;simp at e
theorem F6{α β:Type}{s t:Sl}{a:List α}{b:List β}(hs:s.len=a.length)(ht:t.len=b.length)(e:((s.len:Int) !=(t.len:Int))=false):a.length=b.length:=by
 have:(s.len:Int)=t.len:=by simpa using e
 omega
theorem XG{v w:PV}{q:Pred}(hv:eH h p v)(hw:eH h q w)(hN:SizeOf.sizeOf p<N+1)(hK:∀r:Bool,(r=true↔p=q)->K (cB r) m h):Gn N v w m h K:=by
 dsimp only[Gn,push_cast];have hf:p≠q->K (cB false) m h:=λh=>hK false ⟨λe=>(by cases e),λe=>(h e).elim⟩;have hargs:=@yQ p;obtain⟨op,cmp,l,r,ps⟩:=p;obtain⟨op',cmp',l',r',qs⟩:=q;obtain⟨rfl,rfl,rfl,rfl,hps⟩:=hv.parts;obtain⟨rfl,rfl,rfl,rfl,hqs⟩:=hw.parts;refine aB (λh1=>aB (λh2=>⟨_,yO _ _,aB (λh3=>⟨_,yO _ _,aB (λh4=>⟨v.args,w.args,ps,qs,rfl,hps,hqs,λp hp=>?_,λr hr=>hK r (hr.trans ?_)⟩) (λh4=>hf λe=>?_)⟩) (λh3=>hf λe=>?_)⟩) (λh2=>hf λe=>?_)) (λh1=>hf λe=>?_)
 .have:=hargs (q:=p) hp;omega
 .rw[Bi]at h3 h4;simp only[beq_iff_eq]at h1 h2;rw[h1,h2,h3,h4];exact⟨λe=>by rw[e],λe=>by injection e⟩
 .injection e with _ _ _ e _;rw[Bi.2 e]at h4;cases h4
 .injection e with _ _ e _ _;rw[Bi.2 e]at h3;cases h3
 .injection e with _ e _ _ _;rw[e]at h2;simp at h2
 .injection e with e _ _ _ _;rw[e]at h1;simp at h1
theorem Pe:∀N,Sound Tryz.prog 213 (Ya N)
 |0=>by
  refine eG (fn:=Tryz.f213) (c:=dG Tryz.f213) Tryz.func213 rfl (by decide) ?_;rintro cvs m h K ⟨v,w,p,q,rfl,hr,_,hN,_⟩;omega
 |N+1=>by
  have h144:Sound Tryz.prog 224 (Yu N):=by
   refine hX Tryz.func224 ?_;rintro cvs m h K ⟨s,t,ps,qs,rfl,ha,hb,hN,hK⟩;refine⟨Vs N s t ps qs m h,rfl,aD (Pe N) aF,K8 N s t ps qs m h K,by kernel_rfl,?_⟩;dsimp only[K8,push_cast];have hsa:=ha.slen;have htb:=hb.slen;have hla:=ha.len;have hf:ps≠qs->K (cB false) m h:=λh=>hK false ⟨λe=>(by cases e),λe=>(h e).elim⟩;refine aB (λh1=>hf (λe=>F5 hsa htb h1 (by rw[e]))) (λh1=>?_);have hl:=F6 hsa htb h1;refine⟨⟨0,⟨aC,λj hj=>by omega⟩,MT⟩,λi hi=>aE (λhlt=>?_) (λhge=>?_)⟩
   .obtain⟨x,hx⟩:=fJ hsa hlt;obtain⟨y,hy⟩:∃y,qs[i]? =some y:=fJ (n:=s.len) aC hlt;obtain⟨b1,o1,u,e1,r1,ru⟩:=ha.at hx;obtain⟨b2,o2,w,e2,r2,rw'⟩:=hb.at hy;refine⟨b1,o1,e1,aC,hlt,u,.imm r1,b2,o2,e2,aC,aC,w,.imm r2,u,w,x,y,rfl,ru,rw',hN x (List.mem_of_getElem? hx),λr hr=>aB (λhne=>hf (KE hx hy (λe=>?_))) (λhe=>?_)⟩
    .have:=hr.2 e;subst this;cases hne
    .have hr':r=true:=by simpa using he
     exact⟨i+1,⟨aC,sS hx hy (hr.1 hr') hi.2⟩,aC,MT⟩
   .exact hK true ⟨λ_=>wO hl aC hi.2,λ_=>rfl⟩
  refine hX Tryz.func213 ?_;rintro cvs m h K ⟨v,w,p,q,rfl,hr,hq,hN,hK⟩;refine⟨Vu N,rfl,aD h144 aF,Gn N v w m h K,by kernel_rfl,?_⟩;exact XG hr hq hN hK
theorem XL{v w:PV}{q:Pred}(hv:eH h p v)(hw:eH h q w)(hN:SizeOf.sizeOf p<N+1)(hK:∀r:Bool,(r=true↔p=q)->K (cB r) m h):Gt N v w p.args q.args m h K:=by
 dsimp only[Gt,push_cast];have hf:p≠q->K (cB false) m h:=λh=>hK false ⟨λe=>(by cases e),λe=>(h e).elim⟩;have hargs:=@yQ p;obtain⟨op,cmp,l,r,ps⟩:=p;obtain⟨op',cmp',l',r',qs⟩:=q;obtain⟨rfl,rfl,rfl,rfl,ha⟩:=hv.parts;obtain⟨rfl,rfl,rfl,rfl,hb⟩:=hw.parts;simp only[Pred.args]at hargs⊢
 have hsa:=ha.slen;have htb:=hb.slen;have hla:=ha.len;refine aB (λh1=>hf λe=>?_) (λh1=>aB (λh2=>hf λe=>?_) (λh2=>⟨_,yO _ _,aB (λh3=>hf λe=>?_) (λh3=>⟨_,yO _ _,aB (λh4=>hf λe=>?_) (λh4=>aB (λh5=>hf λe=>?_) (λh5=>?_))⟩)⟩))
 .injection e with e _ _ _ _;rw[e]at h1;simp at h1
 .injection e with _ e _ _ _;rw[e]at h2;simp at h2
 .injection e with _ _ e _ _;rw[Bi.2 e]at h3;cases h3
 .injection e with _ _ _ e _;rw[Bi.2 e]at h4;cases h4
 .injection e with _ _ _ _ e;exact F5 hsa htb h5 (by rw[e])
 .have hl:=F6 hsa htb h5;have h3:v.left=w.left:=Bi.1 (by simpa using h3);have h4:v.right=w.right:=Bi.1 (by simpa using h4);have h1:v.op=w.op:=by simpa using h1
  have h2:v.cmp=w.cmp:=by simpa using h2
  rw[h1,h2,h3,h4]at hK hf;have hf:ps≠qs->K (cB false) m h:=λhne=>hf λe=>hne (by injection e);refine⟨⟨0,⟨aC,λj hj=>by omega⟩,MT⟩,λi hi=>aE (λhlt=>?_) (λhge=>?_)⟩
  .obtain⟨x,hx⟩:=fJ hsa hlt;obtain⟨y,hy⟩:∃y,qs[i]? =some y:=fJ (n:=v.args.len) aC hlt;obtain⟨b1,o1,u,e1,r1,ru⟩:=ha.at hx;obtain⟨b2,o2,z,e2,r2,rz⟩:=hb.at hy;refine⟨b1,o1,e1,aC,hlt,u,.imm r1,b2,o2,e2,aC,aC,z,.imm r2,u,z,x,y,rfl,ru,rz,?_,λr hr=>aB (λhne=>hf (KE hx hy (λe=>?_))) (λhe=>?_)⟩
   .have:=hargs (List.mem_of_getElem? hx);omega
   .have:=hr.2 e;subst this;cases hne
   .have hr':r=true:=by simpa using he
    exact⟨i+1,⟨aC,sS hx hy (hr.1 hr') hi.2⟩,aC,MT⟩
  .exact hK true ⟨λ_=>by rw[wO hl aC hi.2],λ_=>rfl⟩
theorem Pj:∀N,Sound Tryz.prog 163 (Ya N)
 |0=>by
  refine eG (fn:=Tryz.f163) (c:=dG Tryz.f163) Tryz.func163 rfl (by decide) ?_;rintro cvs m h K ⟨v,w,p,q,rfl,hr,_,hN,_⟩;omega
 |N+1=>by
  refine hX Tryz.func163 ?_;rintro cvs m h K ⟨v,w,p,q,rfl,hr,hq,hN,hK⟩;refine⟨VI N v w p.args q.args m h,rfl,aD (Pj N) aF,Gt N v w p.args q.args m h K,by kernel_rfl,?_⟩;exact XL hr hq hN hK
def Yb:Vc.Spec:=λcvs m h K=>∃v w p q,cvs=[aP v,aP w]/\eH h p v/\eH h q w/\∀r:Bool,(r=true↔p=q)->K (cB r) m h
theorem vB{f:FuncId}{S:Nat->Vc.Spec}{S':Vc.Spec}(h:∀N,Sound Tryz.prog f (S N))(hs:∀cvs m h K,S' cvs m h K->∃N,S N cvs m h K):Sound Tryz.prog f S':=by
 refine⟨(h 0).1,λcvs vs m hh w K hS hp=>?_⟩;obtain⟨N,hN⟩:=hs cvs m hh K hS;exact(h N).2 cvs vs m hh w K hN hp
theorem QF:Sound Tryz.prog 213 Yb:=vB Pe λ_ _ _ _⟨v,w,p,q,e,h1,h2,h3⟩=>⟨SizeOf.sizeOf p+1,v,w,p,q,e,h1,h2,aC,h3⟩
theorem QZ:Sound Tryz.prog 163 Yb:=vB Pj λ_ _ _ _⟨v,w,p,q,e,h1,h2,h3⟩=>⟨SizeOf.sizeOf p+1,v,w,p,q,e,h1,h2,aC,h3⟩
theorem Fm{d e c i:Nat}{is:List Nat}{xs ys:Array Value}{w:World}{x y:Value}{r r':Bool}(hx:uN Tryz.prog (part e xs (i*c))=some x)(hy:uN Tryz.prog (part e ys (i*c))=some y)
 (he:(Op.equalIn d e x y).run Tryz.prog w= .ok r w)(hr:(Op.eqItems d e c xs ys is).run Tryz.prog w= .ok r' w):(Op.eqItems d e c xs ys (i::is)).run Tryz.prog w= .ok (r&&r') w:=by
 simp only[Op.eqItems,Sem.run_bind,wR _ _ _ hx,wR _ _ _ hy,Result.andThen_ok,he];cases r
 .simp
 .simpa using hr
def YZ(a b:Int×Int):Bool:=a.1==b.1&&(a.2==b.2&&true)
def YY(a b:Int×Bool):Bool:=a.1==b.1&&(a.2==b.2&&true)
theorem V6(a b:Int×Int):StructEq Tryz.prog 69 (.agg #[.int .i64 a.1,.int .i64 a.2]) (.agg #[.int .i64 b.1,.int .i64 b.2]) (YZ a b):=by
 refine⟨by kernel_rfl,λw=>?_⟩;obtain⟨i,hi⟩:=Option.isSome_iff_exists.1 (show(Tryz.prog.info? 3).isSome=true by kernel_rfl);rw[run_equalIn_array w 9999 (e:=3) (n:=2) _ _ (by kernel_rfl) hi,show Tryz.prog.cellsOf 3=1 by kernel_rfl,show List.range 2=[0,1]from rfl];refine Fm (x:=.int .i64 a.1) (y:=.int .i64 b.1) (by kernel_rfl) (by kernel_rfl) (run_equalIn_int w 9998 _ .i64 .i64 _ _ (by kernel_rfl)) ?_;refine Fm (x:=.int .i64 a.2) (y:=.int .i64 b.2) (by kernel_rfl) (by kernel_rfl) (run_equalIn_int w 9998 _ .i64 .i64 _ _ (by kernel_rfl)) ?_;simp[Op.eqItems]
theorem V5(a b:Int×Bool):StructEq Tryz.prog 72 (.agg #[.int .i64 a.1,.bool a.2]) (.agg #[.int .i64 b.1,.bool b.2]) (YY a b):=by
 refine⟨by kernel_rfl,λw=>?_⟩;rw[run_equalIn_struct w 9999 72 _ _ (by kernel_rfl) (by kernel_rfl),show(Tryz.prog.fieldsOf 72).toList=[Kd 72 0,Kd 72 1]by kernel_rfl];refine jV (x:=.int .i64 a.1) (y:=.int .i64 b.1) (by kernel_rfl) (by kernel_rfl) (by kernel_rfl) (run_equalIn_int w 9998 _ .i64 .i64 _ _ (by kernel_rfl)) ?_;refine jV (x:=.bool a.2) (y:=.bool b.2) (by kernel_rfl) (by kernel_rfl) (by kernel_rfl) (run_equalIn_bool w 9998 _ _ _ (by kernel_rfl)) ?_;simp[Op.eqFields]
theorem Pw{a b:Int×Int}:YZ a b=true↔a=b:=by
 obtain⟨a1,a2⟩:=a;obtain⟨b1,b2⟩:=b;simp[YZ]
theorem Pv{a b:Int×Bool}:YY a b=true↔a=b:=by
 obtain⟨a1,a2⟩:=a;obtain⟨b1,b2⟩:=b;simp[YY]
theorem lD.at{s:Sl}{l:List (Int×Int)}(r:lD h s l){x:Int×Int}(hi:l[i]? =some x):∃b o,s.a=some ⟨b,o,none⟩/\aZ h b (o+i*2) (sY x):=r.row.get (by simp[hi])
theorem iH.at{s:Sl}{l:List (Int×Bool)}(r:iH h s l){x:Int×Bool}(hi:l[i]? =some x):∃b o,s.a=some ⟨b,o,none⟩/\aZ h b (o+i*2) (Cz x):=r.row.get (by simp[hi])
def LZ:Vc.Spec:=λcvs m h K=>∃(s t:Sl)(a b:List (Int×Int)),cvs=[cS s,cS t]/\lD h s a/\lD h t b/\∀r:Bool,(r=true↔a=b)->K (cB r) m h
def LY:Vc.Spec:=λcvs m h K=>∃(s t:Sl)(a b:List (Int×Bool)),cvs=[cS s,cS t]/\iH h s a/\iH h t b/\∀r:Bool,(r=true↔a=b)->K (cB r) m h
noncomputable def Pd{α:Type}(s t:Sl)(a b:List α)(m:MH)(h:PH):Ctx:=
 ctx [] [B6 4 (λi=>cJ 26 28 [(0,sv s),(1,sv t),(12,iv s.len),(13,iv i)] [] m h) (λi=>i<=a.length/\∀j:Nat,j<i->a[j]? =b[j]?) (λi=>a.length-i)] [] [] false
noncomputable abbrev tL(a:Int×Int):List Value:=jJ (dY a.1) (dY a.2)
attribute [push_cast] tL
def Lc(s t:Sl)(a b:List (Int×Int))(m:MH)(h:PH)(K:CV->MH->PH->Prop):Prop:=
  eA (aG s) (aG t) (K aY m h) (jT (∃(x:Nat),aA (jT (x<=a.length) (λj=>j<x->a[j]? =b[j]?)) (aJ s) (aA (aJ t) (bJ s) (aH (bE x) (m=m) (h=h) True))) (λx=>jT (x<=a.length) (λj=>j<x->a[j]? =b[j]?)->bA (↑x:Int) (aG s) (aW (λb1 o=>aH (aX s.a b1 o) (0<=(↑x:Int)) ((↑x:Int)<aG s) (∃(y:Int×Int),aM m h b1 (bL o x 2) (tL y)/\aW (λb2 o1=>aH (aX t.a b2 o1) (0<=(↑x:Int)) ((↑x:Int)<aG t) (∃(y1:Int×Int),aM m h b2 (bL o1 x 2) (tL y1)/\lG 69 (tL y) (tL y1) (λr=>iF (!r) (K aY m h) (λy2=>aA (jT (y2<=a.length) (λj=>j<y2->a[j]? =b[j]?)) (a.length-y2<a.length-x) (aA (aJ s) (aJ t) (aA (bJ s) (fY (aT ((↑x:Int)+1))=bZ y2) (aA (m=m) (h=h) True)))))))))) (K
 fO m h)))
noncomputable abbrev xY(a:Int×Bool):List Value:=jJ (dY a.1) (Value.bool a.2)
attribute [push_cast] xY
def Lb(s t:Sl)(a b:List (Int×Bool))(m:MH)(h:PH)(K:CV->MH->PH->Prop):Prop:=
  eA (aG s) (aG t) (K aY m h) (jT (∃(x:Nat),aA (jT (x<=a.length) (λj=>j<x->a[j]? =b[j]?)) (aJ s) (aA (aJ t) (bJ s) (aH (bE x) (m=m) (h=h) True))) (λx=>jT (x<=a.length) (λj=>j<x->a[j]? =b[j]?)->bA (↑x:Int) (aG s) (aW (λb1 o=>aH (aX s.a b1 o) (0<=(↑x:Int)) ((↑x:Int)<aG s) (∃(y:Int×Bool),aM m h b1 (bL o x 2) (xY y)/\aW (λb2 o1=>aH (aX t.a b2 o1) (0<=(↑x:Int)) ((↑x:Int)<aG t) (∃(y1:Int×Bool),aM m h b2 (bL o1 x 2) (xY y1)/\lG 72 (xY y) (xY y1) (λr=>iF (!r) (K aY m h) (λy2=>aA (jT (y2<=a.length) (λj=>j<y2->a[j]? =b[j]?)) (a.length-y2<a.length-x) (aA (aJ s) (aJ t) (aA (bJ s) (fY (aT ((↑x:Int)+1))=bZ y2) (aA (m=m) (h=h) True)))))))))) (K
 fO m h)))
theorem QE:Sound Tryz.prog 214 LZ:=by
 refine hX Tryz.func214 ?_;rintro cvs m h K ⟨s,t,a,b,rfl,ha,hb,hK⟩;refine⟨Pd s t a b m h,rfl,aF,Lc s t a b m h K,by kernel_rfl,?_⟩;dsimp only[Lc,push_cast];have hsa:=ha.slen;have htb:=hb.slen;have hla:=ha.len;have hf:a≠b->K (cB false) m h:=λh=>hK false ⟨λe=>(by cases e),λe=>(h e).elim⟩;refine aB (λh1=>hf (λe=>F5 hsa htb h1 (by rw[e]))) (λh1=>?_);have hl:=F6 hsa htb h1;refine⟨⟨0,⟨aC,λj hj=>by omega⟩,MT⟩,λi hi=>aE (λhlt=>?_) (λhge=>?_)⟩
 .obtain⟨x,hx⟩:=fJ hsa hlt;obtain⟨y,hy⟩:∃y,b[i]? =some y:=fJ (n:=s.len) aC hlt;obtain⟨b1,o1,e1,r1⟩:=ha.at hx;obtain⟨b2,o2,e2,r2⟩:=hb.at hy;refine⟨b1,o1,e1,aC,hlt,x,.imm r1,b2,o2,e2,aC,aC,y,.imm r2,_,V6 x y,aB (λhne=>hf (KE hx hy (λe=>?_))) (λhe=>?_)⟩
  .rw[Pw.2 e]at hne;cases hne
  .exact⟨i+1,⟨aC,sS hx hy (Pw.1 (by simpa using he)) hi.2⟩,aC,MT⟩
 .exact hK true ⟨λ_=>wO hl aC hi.2,λ_=>rfl⟩
theorem QC:Sound Tryz.prog 215 LY:=by
 refine hX Tryz.func215 ?_;rintro cvs m h K ⟨s,t,a,b,rfl,ha,hb,hK⟩;refine⟨Pd s t a b m h,rfl,aF,Lb s t a b m h K,by kernel_rfl,?_⟩;dsimp only[Lb,push_cast];have hsa:=ha.slen;have htb:=hb.slen;have hla:=ha.len;have hf:a≠b->K (cB false) m h:=λh=>hK false ⟨λe=>(by cases e),λe=>(h e).elim⟩;refine aB (λh1=>hf (λe=>F5 hsa htb h1 (by rw[e]))) (λh1=>?_);have hl:=F6 hsa htb h1;refine⟨⟨0,⟨aC,λj hj=>by omega⟩,MT⟩,λi hi=>aE (λhlt=>?_) (λhge=>?_)⟩
 .obtain⟨x,hx⟩:=fJ hsa hlt;obtain⟨y,hy⟩:∃y,b[i]? =some y:=fJ (n:=s.len) aC hlt;obtain⟨b1,o1,e1,r1⟩:=ha.at hx;obtain⟨b2,o2,e2,r2⟩:=hb.at hy;refine⟨b1,o1,e1,aC,hlt,x,.imm r1,b2,o2,e2,aC,aC,y,.imm r2,_,V5 x y,aB (λhne=>hf (KE hx hy (λe=>?_))) (λhe=>?_)⟩
  .rw[Pv.2 e]at hne;cases hne
  .exact⟨i+1,⟨aC,sS hx hy (Pv.1 (by simpa using he)) hi.2⟩,aC,MT⟩
 .exact hK true ⟨λ_=>wO hl aC hi.2,λ_=>rfl⟩
noncomputable def Fk(s t:Sl)(a b:List Int)(m:MH)(h:PH):Ctx:=
 ctx [] [B6 4 (λi=>cJ 26 28 [(0,sv s),(1,sv t),(12,iv s.len),(13,iv i)] [] m h) (λi=>i<=a.length/\∀j:Nat,j<i->a[j]? =b[j]?) (λi=>a.length-i)] [] [] false
def Dm(s t:Sl)(a b:List Int)(m:MH)(h:PH)(K:CV->MH->PH->Prop):Prop:=
  eA (aG s) (aG t) (K aY m h) (jT (∃(x:Nat),aA (jT (x<=a.length) (λj=>j<x->a[j]? =b[j]?)) (aJ s) (aA (aJ t) (bJ s) (aH (bE x) (m=m) (h=h) True))) (λx=>jT (x<=a.length) (λj=>j<x->a[j]? =b[j]?)->bA (↑x:Int) (aG s) (aW (λb1 o=>aH (aX s.a b1 o) (0<=(↑x:Int)) ((↑x:Int)<aG s) (∃(y:Int),aM m h b1 (bL o x 1) (bN y)/\aW (λb2 o1=>aH (aX t.a b2 o1) (0<=(↑x:Int)) ((↑x:Int)<aG t) (∃(y1:Int),aM m h b2 (bL o1 x 1) (bN y1)/\iF (y !=y1) (K aY m h) (λy2=>aA (jT (y2<=a.length) (λj=>j<y2->a[j]? =b[j]?)) (a.length-y2<a.length-x) (aA (aJ s) (aJ t) (aA (bJ s) (fY (aT ((↑x:Int)+1))=bZ y2) (aA (m=m) (h=h) True))))))))) (K fO m h)))
theorem XX(s t:Sl)(a b:List Int)(m:MH)(h:PH)(K:CV->MH->PH->Prop):Dm s t a b m h K=(zX (Fk s t a b m h) Tryz.f127 (dG Tryz.f127) (entry 26 [cS s,cS t] m h) K):=by kernel_rfl
theorem XK(s t:Sl)(a b:List Int)(m:MH)(h:PH)(K:CV->MH->PH->Prop):Dm s t a b m h K=(zX (Fk s t a b m h) Tryz.f180 (dG Tryz.f180) (entry 26 [cS s,cS t] m h) K):=by kernel_rfl
def Ad:Vc.Spec:=λcvs m h K=>∃(s t:Sl)(a b:List Int),cvs=[cS s,cS t]/\Ints h s a/\Ints h t b/\∀r:Bool,(r=true↔a=b)->K (cB r) m h
theorem SL{s t:Sl}{b:List Int}(ha:Ints h s a)(hb:Ints h t b)(hK:∀r:Bool,(r=true↔a=b)->K (cB r) m h):Dm s t a b m h K:=by
 dsimp only[Dm,push_cast];have hsa:=ha.slen;have htb:=hb.slen;have hla:=ha.len;have hf:a≠b->K (cB false) m h:=λh=>hK false ⟨λe=>by(cases e),λe=>(h e).elim⟩;refine aB (λh1=>hf (λe=>?_)) (λh1=>?_)
 .subst e;rw[hsa,htb]at h1;simp at h1
 .have hl:a.length=b.length:=by rw[hsa,htb]at h1;have:(a.length:Int)=b.length:=(by simpa using h1);omega
  refine⟨⟨0,⟨aC,λj hj=>by omega⟩,rfl,rfl,rfl,rfl,rfl,rfl,trivial⟩,λi hi=>aE (λhlt=>?_) (λhge=>?_)⟩
  .obtain⟨x,hx⟩:∃x,a[i]? =some x:=⟨a[i]'(by omega),List.getElem?_eq_getElem _⟩
   obtain⟨y,hy⟩:∃y,b[i]? =some y:=⟨b[i]'(by omega),List.getElem?_eq_getElem _⟩
   obtain⟨b1,o1,e1,r1⟩:=ha.at hx;obtain⟨b2,o2,e2,r2⟩:=hb.at hy;refine⟨b1,o1,e1,aC,hlt,x,.imm (by simpa using r1),b2,o2,e2,aC,aC,y,.imm (by simpa using r2),aB (λhne=>hf (λe=>?_)) (λhe=>?_)⟩
   .subst e;rw[hx]at hy;simp at hy;subst hy;simp at hne
   .have:x=y:=by simpa using he
    refine⟨i+1,⟨aC,λj hj=>?_⟩,aC,rfl,rfl,rfl,by rw[kN aC],rfl,rfl,trivial⟩;by_cases e:j=i
    .subst e;rw[hx,hy,this]
    .exact hi.2 j aC
  .refine hK true ⟨λ_=>?_,λ_=>rfl⟩;apply List.ext_getElem?;intro j;by_cases hj:j<i
   .exact hi.2 j hj
   .rw[List.getElem?_eq_none aC,List.getElem?_eq_none aC]
theorem Rp:Sound Tryz.prog 127 Ad:=by
 refine eG (fn:=Tryz.f127) (c:=dG Tryz.f127) Tryz.func127 rfl (by decide) ?_;rintro cvs m h K ⟨s,t,a,b,rfl,ha,hb,hK⟩;exact⟨Fk s t a b m h,rfl,aF,(XX s t a b m h K)▸SL ha hb hK⟩
theorem D2:Sound Tryz.prog 180 Ad:=by
 refine eG (fn:=Tryz.f180) (c:=dG Tryz.f180) Tryz.func180 rfl (by decide) ?_;rintro cvs m h K ⟨s,t,a,b,rfl,ha,hb,hK⟩;exact⟨Fk s t a b m h,rfl,aF,(XK s t a b m h K)▸SL ha hb hK⟩
def aQ(v:QV):CV:=.val (.agg ⟨v.enc⟩)
def Query.args:Query->List Query
 |.mk _ _ _ _ _ _ _ _ l=>l
theorem BM{p:Query}{q:Query}(h:q∈p.args):SizeOf.sizeOf q<SizeOf.sizeOf p:=by
 cases p with
 |mk op t w c o g s l args=>
  have:=List.sizeOf_lt_of_mem h;simp only[Query.args]at this;simp only[Query.mk.sizeOf_spec];omega
def yU(h:PH)(s:Sl)(ps:List Query):Prop:=bY h 21 QV.enc (cT h) s ps
theorem yU.mono{s:Sl}{ps:List Query}(r:yU h s ps)(le:PH.le h h'):yU h' s ps:=bY.mono r le λ_ _=>cT.mono le
theorem uL.ofL{h:PH}:∀{ps:List Query}{vs:List QV},ps.length=vs.length->(∀(i:Nat)(x:Query),ps[i]? =some x->∃v,vs[i]? =some v/\cT h x v)->uL h ps vs
 |[],[],_,_=>rfl
 |p::ps,v::vs,hl,hx=>by
  obtain⟨v',h1,h2⟩:=hx 0 p rfl;simp at h1;subst h1;exact⟨v,vs,rfl,h2,uL.ofL (by simpa using hl) λi x e=>by simpa using hx (i+1) x (by simpa using e)⟩
 |[],_::_,hl,_=>by simp at hl
 |_::_,[],hl,_=>by simp at hl
structure nW(h:PH)(op table:Int)(w:Pred)(c:List Int)(o:List (Int×Int))(g:List Int)(s:List (Int×Bool))(l:Int)(args:List Query)(v:QV):Prop where
 op_:v.op=op
 table_:v.table=table
 where_:eH h w v.where_
 columns_:Ints h v.columns c
 on_:lD h v.on o
 group_:Ints h v.group g
 order_:iH h v.order s
 limit_:v.limit=l
 args_:yU h v.args args
theorem cT.parts{op table:Int}{c:List Int}{o:List (Int×Int)}{g:List Int}{s:List (Int×Bool)}{l:Int}{args:List Query}(x:cT h (.mk op table w c o g s l args) v):nW h op table w c o g s l args v:=by
 obtain⟨h1,h2,h3,h4,h5,h6,h7,h8,h9,vs,h10,h11⟩:=x;exact⟨h1,h2,h3,h4,h5,h6,h7,h8,⟨⟨vs,h10,h11.length.symm,λ_ _ hx=>h11.get hx⟩,h9⟩⟩
theorem nW.rep{op table:Int}{c:List Int}{o:List (Int×Int)}{g:List Int}{s:List (Int×Bool)}{l:Int}{args:List Query}(x:nW h op table w c o g s l args v):cT h (.mk op table w c o g s l args) v:=by
 obtain⟨vs,h1,h2,h3⟩:=x.args_.ex;exact⟨x.op_,x.table_,x.where_,x.columns_,x.on_,x.group_,x.order_,x.limit_,x.args_.len,vs,h1,.ofL h2 h3⟩
def Zl(N:Nat):Vc.Spec:=λcvs m h K=>∃v w p q,cvs=[aQ v,aQ w]/\cT h p v/\cT h q w/\SizeOf.sizeOf p<N/\∀r:Bool,(r=true↔p=q)->K (cB r) m h
def Zm:Vc.Spec:=λcvs m h K=>∃v w p q,cvs=[aQ v,aQ w]/\cT h p v/\cT h q w/\∀r:Bool,(r=true↔p=q)->K (cB r) m h
def Yt(N:Nat):Vc.Spec:=λcvs m h K=>∃s t ps qs,cvs=[cS s,cS t,.val (.func (.func 204) #[] #[])]/\yU h s ps/\yU h t qs/\(∀p∈ps,SizeOf.sizeOf p<N)/\∀r:Bool,(r=true↔ps=qs)->K (cB r) m h
noncomputable def Vx(N:Nat):Ctx:=ctx [(213,Yb),(180,Ad),(214,LZ),(215,LY),(216,Yt N)] [] [] [] false
noncomputable def Vt(N:Nat)(s t:Sl)(ps qs:List Query)(m:MH)(h:PH):Ctx:=
 ctx [(204,Zl N)] [B6 4 (λi=>cJ 32 35 [(1,sv t),(2,vv (.func (.func 204) #[] #[])),(15,sv s),(16,iv s.len),(17,iv i)] [] m h) (λi=>i<=ps.length/\∀j:Nat,j<i->ps[j]? =qs[j]?) (λi=>ps.length-i)] [] [] false
noncomputable abbrev eY(a b:Sl):List CV:=fK a (pD b)
abbrev ED(a b:Sl)(c:PH)(d:Bool->Bool)(e g:Prop):Prop:=iZ (λx x1=>uC (λx2 x3=>aH (eY a b=eY x x1) (Ints c x x2) (Ints c x1 x3) (∀(x4:Bool),gQ (dX x4↔x2=x3) (d x4) e g)))
abbrev pV(a:Query)(b:Nat):Prop:=SizeOf.sizeOf a<b
attribute [push_cast] eY ED pV
def Gq(N:Nat)(v w:QV)(m:MH)(h:PH)(K:CV->MH->PH->Prop):Prop:=
  dL v.op w.op (dL v.table w.table (dL v.limit w.limit (EP (λv1 w1 p q=>aH (jE v.where_.enc w.where_.enc=jE v1.enc w1.enc) (eH h p v1) (eH h q w1) (∀(r:Bool),gQ (dX r↔p=q) r (ED v.columns w.columns h (λr1=>r1) (iZ (λs t=>∃(a b:List (Int×Int)),aH (eY v.on w.on=eY s t) (lD h s a) (lD h t b) (∀(r1:Bool),gQ (dX r1↔a=b) r1 (ED v.group w.group h (λr2=>r2) (iZ (λs1 t1=>∃(a1 b1:List (Int×Bool)),aH (eY v.order w.order=eY s1 t1) (iH h s1 a1) (iH h t1 b1) (∀(r2:Bool),gQ (dX r2↔a1=b1) r2 (iZ (λs2 t2=>∃(p1 q1:List Query),aA (cH v.args (fK w.args (CV.val (iP 204)))=cH s2 (fK t2 (CV.val (iP 204)))) (yU h s2 p1) (aA (yU h t2 q1) (∀(p2:Query),List.Mem p2 p1->pV p2 N) (∀(r3:Bool),
 (dX r3↔p1=q1)->K (Ag r3) m h)))) (K aY m h)))) (K aY m h)) (K aY m h)))) (K aY m h)) (K aY m h)))) (K aY m h)) (K aY m h)) (K aY m h)
abbrev lQ(a:QV->Query->Prop):Prop:=∃(x:QV)(x1:Query),a x x1
noncomputable abbrev bV(a:QV):CV:=jI a.enc
attribute [push_cast] lQ bV
def La(N:Nat)(s t:Sl)(ps qs:List Query)(m:MH)(h:PH)(K:CV->MH->PH->Prop):Prop:=
  eA (aG s) (aG t) (K aY m h) (jT (∃(x:Nat),aA (jT (x<=ps.length) (λj=>j<x->ps[j]? =qs[j]?)) (aJ t) (aA (AX 204) (aJ s) (aA (bJ s) (bE x) (aA (m=m) (h=h) True)))) (λx=>jT (x<=ps.length) (λj=>j<x->ps[j]? =qs[j]?)->bA (↑x:Int) (aG s) (aW (λb o=>aH (aX s.a b o) (0<=(↑x:Int)) ((↑x:Int)<aG s) (∃(y:QV),aM m h b (bL o x 21) y.enc/\aW (λb1 o1=>aH (aX t.a b1 o1) (0<=(↑x:Int)) ((↑x:Int)<aG t) (∃(y1:QV),aM m h b1 (bL o1 x 21) y1.enc/\∃(v:QV),lQ (λw p=>∃(q:Query),aA (dZ (bV y) (bV y1)=dZ (bV v) (bV w)) (cT h p v) (aA (cT h q w) (pV p N) (∀(r:Bool),(dX r↔p=q)->iF (!r) (K aY m h) (λy2=>aA (jT (y2<=ps.length) (λj=>j<y2->ps[j]? =qs[j]?)) (ps.length
 -y2<ps.length-x) (aA (aJ t) (AX 204) (aA (aJ s) (bJ s) (aA (fY (aT ((↑x:Int)+1))=bZ y2) (m=m) (bT h h))))))))))))) (K fO m h)))
theorem XH{w:QV}{p:Query}(hv:cT h p v)(hw:cT h q w)(hN:SizeOf.sizeOf p<N+1)(hK:∀r:Bool,(r=true↔p=q)->K (cB r) m h):Gq N v w m h K:=by
 dsimp only[Gq,push_cast];have hf:p≠q->K (cB false) m h:=λh=>hK false ⟨λe=>(by cases e),λe=>(h e).elim⟩;have hargs:=@BM p;obtain⟨op,ta,wh,co,on,gr,od,li,ps⟩:=p;obtain⟨op',ta',wh',co',on',gr',od',li',qs⟩:=q;have a:=hv.parts;have b:=hw.parts
 refine aB (λh1=>aB (λh2=>aB (λh3=>⟨_,_,_,_,rfl,a.where_,b.where_,λr4 h4=>aB (λg4=>⟨_,_,_,_,rfl,a.columns_,b.columns_,λr5 h5=>aB (λg5=>⟨_,_,_,_,rfl,a.on_,b.on_,λr6 h6=>aB (λg6=>⟨_,_,_,_,rfl,a.group_,b.group_,λr7 h7=>aB (λg7=>⟨_,_,_,_,rfl,a.order_,b.order_,λr8 h8=>aB (λg8=>⟨_,_,_,_,rfl,a.args_,b.args_,λp hp=>?_,λr hr=>hK r (hr.trans ?_)⟩)
  (λg8=>hf λe=>?_)⟩) (λg7=>hf λe=>?_)⟩) (λg6=>hf λe=>?_)⟩) (λg5=>hf λe=>?_)⟩) (λg4=>hf λe=>?_)⟩) (λh3=>hf λe=>?_)) (λh2=>hf λe=>?_)) (λh1=>hf λe=>?_)
 .have:=hargs (q:=p) hp;omega
 .rw[a.op_,b.op_,beq_iff_eq]at h1;rw[a.table_,b.table_,beq_iff_eq]at h2;rw[a.limit_,b.limit_,beq_iff_eq]at h3;rw[h1,h2,h3,h4.1 g4,h5.1 g5,h6.1 g6,h7.1 g7,h8.1 g8];exact⟨λe=>by rw[e],λe=>by injection e⟩
 .injection e with _ _ _ _ _ _ e _ _;rw[h8.2 e]at g8;cases g8
 .injection e with _ _ _ _ _ e _ _ _;rw[h7.2 e]at g7;cases g7
 .injection e with _ _ _ _ e _ _ _ _;rw[h6.2 e]at g6;cases g6
 .injection e with _ _ _ e _ _ _ _ _;rw[h5.2 e]at g5;cases g5
 .injection e with _ _ e _ _ _ _ _ _;rw[h4.2 e]at g4;cases g4
 .injection e with _ _ _ _ _ _ _ e _;rw[a.limit_,b.limit_,e]at h3;simp at h3
 .injection e with _ e _ _ _ _ _ _ _;rw[a.table_,b.table_,e]at h2;simp at h2
 .injection e with e _ _ _ _ _ _ _ _;rw[a.op_,b.op_,e]at h1;simp at h1
theorem Pf:∀N,Sound Tryz.prog 204 (Zl N)
 |0=>by
  refine eG (fn:=Tryz.f204) (c:=dG Tryz.f204) Tryz.func204 rfl (by decide) ?_;rintro cvs m h K ⟨v,w,p,q,rfl,hr,_,hN,_⟩;omega
 |N+1=>by
  have h139:Sound Tryz.prog 216 (Yt N):=by
   refine hX Tryz.func216 ?_;rintro cvs m h K ⟨s,t,ps,qs,rfl,ha,hb,hN,hK⟩;refine⟨Vt N s t ps qs m h,rfl,aD (Pf N) aF,La N s t ps qs m h K,by kernel_rfl,?_⟩;dsimp only[La,push_cast];have hsa:=ha.slen;have htb:=hb.slen;have hla:=ha.len;have hf:ps≠qs->K (cB false) m h:=λh=>hK false ⟨λe=>(by cases e),λe=>(h e).elim⟩;refine aB (λh1=>hf (λe=>F5 hsa htb h1 (by rw[e]))) (λh1=>?_);have hl:=F6 hsa htb h1;refine⟨⟨0,⟨aC,λj hj=>by omega⟩,MT⟩,λi hi=>aE (λhlt=>?_) (λhge=>?_)⟩
   .obtain⟨x,hx⟩:=fJ hsa hlt;obtain⟨y,hy⟩:∃y,qs[i]? =some y:=fJ (n:=s.len) aC hlt;obtain⟨b1,o1,u,e1,r1,ru⟩:=ha.at hx;obtain⟨b2,o2,w,e2,r2,rw'⟩:=hb.at hy;refine⟨b1,o1,e1,aC,hlt,u,.imm r1,b2,o2,e2,aC,aC,w,.imm r2,u,w,x,y,rfl,ru,rw',hN x (List.mem_of_getElem? hx),λr hr=>aB (λhne=>hf (KE hx hy (λe=>?_))) (λhe=>?_)⟩
    .have:=hr.2 e;subst this;cases hne
    .have hr':r=true:=by simpa using he
     exact⟨i+1,⟨aC,sS hx hy (hr.1 hr') hi.2⟩,aC,MT⟩
   .exact hK true ⟨λ_=>wO hl aC hi.2,λ_=>rfl⟩
  refine hX Tryz.func204 ?_;rintro cvs m h K ⟨v,w,p,q,rfl,hr,hq,hN,hK⟩;refine⟨Vx N,rfl,aD QF (aD D2 (aD QE (aD QC (aD h139 aF)))),Gq N v w m h K,by kernel_rfl,?_⟩;exact XH hr hq hN hK
theorem QN:Sound Tryz.prog 204 Zm:=vB Pf λ_ _ _ _⟨v,w,p,q,e,h1,h2,h3⟩=>⟨SizeOf.sizeOf p+1,v,w,p,q,e,h1,h2,aC,h3⟩
end Go.Ps
