/-
  Part 2 of a proof that a law of the given program returns true: a condition generator that is proved sound, and contracts of functions. No condition of its own. Own work, joined by a program (pack2.py).
-/
import Derived.MapKept
import Derived.Maps.RangeRun
import Derived.Test.YtileehgdfcknkaaGreatDoorProg
import Derived.IntWalk
import Derived.ChangeKeysEq
import Derived.Test.YtileehgdfcknkaaGreatDoorFa
set_option linter.unusedVariables false
set_option linter.unusedSimpArgs false
namespace Go.Vc
open Go
section
variable{B:oW}{C:Ctx}{ι:Nat->Value}{σ:St}{a:Act}{w:World}{o:Oper}{K:St->Prop}
theorem Vk(hM:aH B ι σ a w)(ob:Obj):
 aH B ι {σ with m:=λb=>if b=w.heap.size then some ob else σ.m b} a (w.alloc ob)/\cC σ.m σ.h w.heap.size/\∀o,Eo σ ι o w (w.alloc ob):=by
 have hw:=hM.wrel
 have hun:cC σ.m σ.h w.heap.size:=by
  constructor
  .cases e:σ.m w.heap.size with
   |none=>rfl
   |some x=>have:=(Array.getElem?_eq_some_iff.1 (hw.msat _ _ e)).1;omega
  .intro i;cases e:σ.h w.heap.size i with
   |none=>rfl
   |some x=>have:=World.block_lt_of_cell? w ⟨w.heap.size,i,none⟩ (hw.hsat _ _ _ e);simp at this
 have hsz:(w.alloc ob).heap.size=w.heap.size+1:=by show(w.heap.push ob).size=_;simp
 refine⟨⟨hM.slots,hM.defers,λk o' hk=>(hM.own k o' hk).world (λb hb=>eW w ob (nG (hM.own k o' hk) hb)),hM.dist,?_,?_,hM.one⟩,hun,λo=>⟨?_,?_,λ_ b hb=>eW w ob hb,λ_ b _ hb _ _=>eW w ob hb⟩⟩
 .intro k o' b hk hb;obtain⟨f1,f2,f3⟩:=hM.fresh k o' b hk hb;have hlt:=nG (hM.own k o' hk) hb;refine⟨f1,?_,f3⟩;show(if b=w.heap.size then some ob else σ.m b)=none;rw[if_neg aC];exact f2
 .refine⟨hw.tape,hw.os,hw.output,hw.drawn,by rw[hsz];exact Nat.le_succ_of_le hw.size,?_,?_,?_,?_,hw.hle,hw.hold,?_⟩
  .intro b hb hE;rw[eW w ob (Nat.lt_of_lt_of_le hb hw.size)];exact hw.frame b hb hE
  .intro b i v hv;have h1:=hw.hsat b i v hv;rw[<-h1];exact World.cell?_of_block (w:=w) (w':=w.alloc ob) (a:=⟨b,i,none⟩) (eW w ob (World.block_lt_of_cell? w ⟨b,i,none⟩ h1))
  .intro b x hb;have hb:(if b=w.heap.size then some ob else σ.m b)=some x:=hb;by_cases e:b=w.heap.size
   .rw[if_pos e]at hb;rw[e,kP];exact hb
   .rw[if_neg e]at hb;have h1:=hw.msat b x hb;rw[eW w ob (Array.getElem?_eq_some_iff.1 h1).1];exact h1
  .intro b x hb i;have hb:(if b=w.heap.size then some ob else σ.m b)=some x:=hb;by_cases e:b=w.heap.size
   .rw[e];exact hun.h_ i
   .rw[if_neg e]at hb;exact hw.disj b x hb i
  .intro b x hb;have hb:(if b=w.heap.size then some ob else σ.m b)=some x:=hb;by_cases e:b=w.heap.size
   .left;rw[e];exact hw.size
   .rw[if_neg e]at hb;exact hw.mfr b x hb
 .intro k p T cs b hk _ hι;exact eW w ob (nG (hM.own k _ hk) (by rw[hι];rfl))
 .intro b i v hv;have h1:=hw.hsat b i v hv;rw[<-h1];exact World.cell?_of_block (w:=w) (w':=w.alloc ob) (a:=⟨b,i,none⟩) (eW w ob (World.block_lt_of_cell? w ⟨b,i,none⟩ h1))
theorem N7(hM:aH B ι σ a w){b:Nat}{ob0 ob:Obj}(hm:σ.m b=some ob0):
 aH B ι {σ with m:=λb'=>if b'=b then some ob else σ.m b'} a {w with heap:=w.heap.setIfInBounds b ob}/\∀o,vQ o.op=false->Eo σ ι o w {w with heap:=w.heap.setIfInBounds b ob}:=by
 have hw:=hM.wrel;have hlt:b<w.heap.size:=(Array.getElem?_eq_some_iff.1 (hw.msat _ _ hm)).1
 have hblock:∀b',b'≠b->(w.heap.setIfInBounds b ob)[b']? =w.heap[b']? :=λb' hne=>by
  rw[Array.getElem?_setIfInBounds_ne (Ne.symm hne)]
 have hself:(w.heap.setIfInBounds b ob)[b]? =some ob:=by simp[hlt]
 have hnb:∀k o',nth σ.own k=some (some o')->blk (ι k)≠some b:=by
  intro k o' hk hb;have:=(hM.fresh k o' b hk hb).2.1;rw[hm]at this;cases this
 have hcell:∀b' i v,σ.h b' i=some v->({w with heap:=w.heap.setIfInBounds b ob}:World).cell? ⟨b',i,none⟩=some v:=by
  intro b' i v hv;have hne:b'≠b:=λe=>by subst e;rw[hw.disj b' _ hm i]at hv;cases hv
  have h2:=hw.hsat b' i v hv;rw[<-h2];exact World.cell?_of_block (w:=w) (w':={w with heap:=w.heap.setIfInBounds b ob}) (a:=⟨b',i,none⟩) (hblock b' hne)
 refine⟨⟨hM.slots,hM.defers,λk o' hk=>(hM.own k o' hk).world (λb' hb'=>hblock b' (λe=>hnb k o' hk (e▸hb'))),hM.dist,?_,?_,hM.one⟩,λo hg=>⟨?_,hcell,λh=>(by rw[hg]at h;cases h),λ_ b' _ _ hn _=>hblock b' (λe=>by rw[e,hm]at hn;cases hn)⟩⟩
 .intro k o' b' hk hb';obtain⟨f1,f2,f3⟩:=hM.fresh k o' b' hk hb';refine⟨f1,?_,f3⟩;show(if b'=b then some ob else σ.m b')=none;rw[if_neg (fun(e:b'=b)=>hnb k o' hk (e▸hb'))];exact f2
 .refine⟨hw.tape,hw.os,hw.output,hw.drawn,by simpa using hw.size,?_,hcell,?_,?_,hw.hle,hw.hold,?_⟩
  .intro b' hb' hE
   have hne:b'≠b:=λe=>by
    subst e;rcases hw.mfr b' _ hm with h2|h2
    .omega
    .exact hE h2
   rw[hblock b' hne];exact hw.frame b' hb' hE
  .intro b' x hb';have hb':(if b'=b then some ob else σ.m b')=some x:=hb';by_cases e:b'=b
   .rw[if_pos e]at hb';rw[e, <-hb'];exact hself
   .rw[if_neg e]at hb';rw[hblock b' e];exact hw.msat b' x hb'
  .intro b' x hb' i;have hb':(if b'=b then some ob else σ.m b')=some x:=hb';by_cases e:b'=b
   .rw[e];exact hw.disj b _ hm i
   .rw[if_neg e]at hb';exact hw.disj b' _ hb' i
  .intro b' x hb';have hb':(if b'=b then some ob else σ.m b')=some x:=hb';by_cases e:b'=b
   .rw[e];exact hw.mfr b _ hm
   .rw[if_neg e]at hb';exact hw.mfr b' _ hb'
 .intro k p T cs b' hk _ hι;exact hblock b' (λe=>hnb k _ hk (by rw[hι,e];rfl))
theorem KA(hM:aH B ι σ a w){t:Nat}{r:Option Operand}(ho:o.op= .makeMap t r)(h:Gj o r σ K):P4 B C ι o σ K a w:=by
 intro next Q hnext
 unfold Gj at h;split at h
 .obtain⟨hM1,hun,hk⟩:=Vk hM (.map #[] 0)
  have hrun:(execOp a.eval o).run C.P w= .ok (.value (.map (some w.heap.size))) (w.alloc (.map #[] 0)):=by
   unfold execOp;simp[ho,Instr.makeMap]
  unfold Oper.wp;rw[hrun,Oper.upon_value];exact hnext ι _ _ _ (hM1.put o.dst (x:=.at (.val (.map (some w.heap.size)))) rfl) (h w.heap.size _ hun ⟨by simp,λb' hb'=>by simp[hb']⟩) (hk o)
 .exact h.elim
theorem aH.drew{B:oW}{ι:Nat->Value}{σ:St}{a:Act}{w:World}(h:aH B ι σ a w)(k:Nat)(hk:w.drawn<=k):aH B ι σ a {w with drawn:=k}:=by
 refine⟨h.slots,h.defers,λj o hj=>(h.own j o hj).world (λ_ _=>rfl),h.dist,h.fresh,?_,h.one⟩;have hw:=h.wrel;exact⟨hw.tape,hw.os,hw.output,Nat.le_trans hw.drawn hk,hw.size,hw.frame,hw.hsat,hw.msat,hw.disj,hw.hle,hw.hold,hw.mfr⟩
theorem sQ{α:Type}{l:List α}{j:Nat}{x:α}(h:l[j]? =some x):l=l.take j++x::l.drop (j+1):=by
 have hj:=(List.getElem?_eq_some_iff.1 h).1;have e:=(List.getElem?_eq_some_iff.1 h).2;rw[<-e, <-List.drop_eq_getElem_cons hj,List.take_append_drop]
theorem Oi(hM:aH B ι σ a w){t:Nat}{x:Operand}(ho:o.op= .range t x)(h:MI C o t x σ K):P4 B C ι o σ K a w:=by
 intro next Q hnext
 have hev:=hM.ev x;unfold MI at h;split at h
 .rename_i s hu hx;rw[hx]at hev;have hev:a.eval x= .string s:=hev;obtain⟨hM1,hun,hk⟩:=Vk hM (.stringIter s 0)
  have hrun:(execOp a.eval o).run C.P w= .ok (.value (.pointer (some ⟨w.heap.size,0,none⟩))) (w.alloc (.stringIter s 0)):=by
   unfold execOp;simp[ho,hev,Instr.range,run_underlying hu]
  unfold Oper.wp;rw[hrun,Oper.upon_value];exact hnext ι _ _ _ (hM1.put o.dst (x:=.at (.val (.pointer (some ⟨w.heap.size,0,none⟩)))) rfl) (h w.heap.size _ hun ⟨by simp,λb' hb'=>by simp[hb']⟩) (hk o)
 .rename_i kt et b hu hx;rw[hx]at hev;have hev:a.eval x= .map (some b):=hev;obtain⟨kvs,⟨es,clock,hm,hes,hborn,hnd⟩,h⟩:=h;have hg:=hM.wrel.msat b _ hm;obtain⟨hM1,hun,hk⟩:=Vk hM (.mapIter (some b) clock #[] clock)
  have hrun:(execOp a.eval o).run C.P w= .ok (.value (.pointer (some ⟨w.heap.size,0,none⟩))) (w.alloc (.mapIter (some b) clock #[] clock)):=by
   unfold execOp;simp[ho,hev,Instr.range,run_underlying hu,MapKept.run_getObj_map hg,Result.andThen]
  unfold Oper.wp;rw[hrun,Oper.upon_value];have hne:b≠w.heap.size:=λe=>by have:=(Array.getElem?_eq_some_iff.1 hg).1;omega
  refine hnext ι _ _ _ (hM1.put o.dst (x:=.at (.val (.pointer (some ⟨w.heap.size,0,none⟩)))) rfl) (h w.heap.size _ hun ⟨λb' hb'=>by simp[hb']⟩ ⟨es,clock,clock, #[],clock,?_,hes,hborn,hnd,by simp,hborn,Nat.le_refl _,Nat.le_refl _,?_⟩) (hk o)
  .simp[hne,hm]
  .rw[<-hes];congr 1;exact List.filter_eq_self.2 (λ_ _=>by simp)
 .exact h.elim
theorem Qo(hM:aH B ι σ a w){x:Operand}{st:Bool}(ho:o.op= .next x st)(h:Qp o x st σ K):P4 B C ι o σ K a w:=by
 intro next Q hnext
 have hev:=hM.ev x;unfold Qp at h;split at h
 .rename_i b hx;rw[hx]at hev;have hev:a.eval x= .pointer (some ⟨b,0,none⟩):=hev;obtain⟨s,pos,hm,h1,h2⟩:=h;have hg:=hM.wrel.msat b _ hm.at_;by_cases hlt:pos<s.size
  .obtain⟨hM1,hk⟩:=N7 (ob:=.stringIter s (pos+(Utf8.decode s pos).2)) hM hm.at_
   have hrun:(execOp a.eval o).run C.P w= .ok (.value (.tuple #[.bool true,.int .i64 pos,.int .i32 (Utf8.decode s pos).1])) {w with heap:=w.heap.setIfInBounds b (.stringIter s (pos+(Utf8.decode s pos).2))}:=by
    unfold execOp;simp[ho,hev,Instr.next,getObj,setObj,Sem.run,hg,hlt,goInt,Result.andThen]
   unfold Oper.wp;rw[hrun,Oper.upon_value];refine hnext ι _ _ _ (hM1.put o.dst (x:=.tup _) ?_) (h2 hlt _ ⟨by simp,λb' hb'=>by simp[hb']⟩) (hk o (by rw[ho];rfl));exact⟨_,rfl,rfl,rfl,rfl,trivial⟩
  .have hrun:(execOp a.eval o).run C.P w= .ok (.value (.tuple #[.bool false])) w:=by
    unfold execOp;simp[ho,hev,Instr.next,getObj,Sem.run,hg,hlt,Result.andThen]
   unfold Oper.wp;rw[hrun,Oper.upon_value];refine hnext ι _ _ _ (hM.put o.dst (x:=.tup _) ?_) (h1 aC) (jX hM);exact⟨_,rfl,rfl,trivial⟩
 .rename_i r hx;rw[hx]at hev;have hev:a.eval x= .pointer (some ⟨r,0,none⟩):=hev;obtain⟨b,kvs,left,⟨es,clock,since,seen,c0,hmb,hes,hborn,hnd,hmr,hold,hsc,hscl,hleft⟩,h1,h2⟩:=h;have hgb:=hM.wrel.msat b _ hmb;have hgr:=hM.wrel.msat r _ hmr;rcases run_next_at (P:=C.P) w o.type r b since c0 seen es clock hgr hgb hold hsc with⟨h0,hrun⟩|⟨e,he,w1,hw1,hrun⟩
  .have hl:left=[]:=by
    rw[<-hleft];have:(leftOf es seen).toList=[]:=by simpa using h0
    unfold leftOf at this;rw[Array.toList_filter]at this;rw[this];rfl
   have hrun:(execOp a.eval o).run C.P w= .ok (.value (.tuple #[.bool false])) w:=by
    unfold execOp;simp[ho,hev,hrun,Result.andThen]
   unfold Oper.wp;rw[hrun,Oper.upon_value];refine hnext ι _ _ _ (hM.put o.dst (x:=.tup _) ?_) (h1 hl) (jX hM);exact⟨_,rfl,rfl,trivial⟩
  .have hM0:∃n,aH B ι σ a w1/\w1={w with drawn:=n}:=by
    rcases hw1 with rfl|rfl
    .exact⟨w1.drawn,hM,rfl⟩
    .exact⟨w.drawn+1,hM.drew (w.drawn+1) (Nat.le_succ _),rfl⟩
   obtain⟨n,hM0,hw1e⟩:=hM0;obtain⟨hM1,hk⟩:=N7 (ob:=.mapIter (some b) since (seen.push e.born) clock) hM0 hmr
   have hrun:(execOp a.eval o).run C.P w= .ok (.value (.tuple #[.bool true,e.key,e.val])) {w1 with heap:=w1.heap.setIfInBounds r (.mapIter (some b) since (seen.push e.born) clock)}:=by
    unfold execOp;simp[ho,hev,hrun,Result.andThen,ChangeMaps.setBlock]
   have hel:e∈es.toList.filter λe=> !seen.contains e.born:=by
    unfold leftOf at he;rw[Array.toList_filter]at he;exact he
   have hees:e∈es.toList:=(List.mem_filter.1 hel).1;obtain⟨j,hj⟩:=List.getElem?_of_mem hel;have hsp:=sQ hj;have hrb:r≠b:=λe=>by rw[e,hmb]at hmr;cases hmr
   have hnd2:(((es.toList.filter λe=> !seen.contains e.born)).map (·.born)).Nodup:=hnd.sublist (List.filter_sublist.map _)
   have hleft2:es.toList.filter (λx=> !(seen.push e.born).contains x.born)=(es.toList.filter λe=> !seen.contains e.born).take j++(es.toList.filter λe=> !seen.contains e.born).drop (j+1):=by
    have h3:es.toList.filter (λx=> !(seen.push e.born).contains x.born)=(es.toList.filter λe=> !seen.contains e.born).filter λx=>x.born !=e.born:=by
     rw[List.filter_filter];congr 1;funext x;simp only[Array.contains_push,Bool.not_or];rw[Bool.and_comm];rfl
    rw[h3];generalize (es.toList.filter λe=> !seen.contains e.born)=L at hsp hnd2 hj;have hlt:=(List.getElem?_eq_some_iff.1 hj).1;generalize L.take j=A at hsp;generalize L.drop (j+1)=D at hsp;subst hsp;simp only[List.map_append,List.map_cons,List.nodup_append,List.nodup_cons,List.mem_map,List.mem_cons]at hnd2;obtain⟨_,⟨hn2,_⟩,hn3⟩:=hnd2;rw[List.filter_append,List.filter_cons];simp only[bne_self_eq_false,Bool.false_eq_true,if_false];congr 1
    .refine List.filter_eq_self.2 λx hx=>?_;simp only[bne_iff_ne,ne_eq]
     exactλh4=>hn3 _ ⟨x,hx,rfl⟩ _ (.inl rfl) h4
    .refine List.filter_eq_self.2 λx hx=>?_;simp only[bne_iff_ne,ne_eq]
     exactλh4=>hn2 ⟨x,hx,h4⟩
   unfold Oper.wp;rw[hrun,Oper.upon_value];have hmb':(if b=r then some (Obj.mapIter (some b) since (seen.push e.born) clock)else σ.m b)=some (.map es clock):=by rw[if_neg (λe=>hrb e.symm)];exact hmb
   refine hnext ι _ _ _ (hM1.put o.dst (x:=.tup _) ?_) (h2 (((es.toList.filter λe=> !seen.contains e.born).take j).map λe=>(e.key,e.val)) (e.key,e.val) (((es.toList.filter λe=> !seen.contains e.born).drop (j+1)).map λe=>(e.key,e.val)) ?_ _ ⟨λb' hb'=>by simp[hb']⟩ ⟨⟨es,clock,since,seen.push e.born,clock,hmb',hes,hborn,hnd,by simp,hold,hscl,hscl,?_⟩,es,clock,since,seen,e,hmb',hnd,by simp,hees,rfl⟩) ?_
   .exact⟨_,rfl,rfl,rfl,rfl,trivial⟩
   .rw[<-hleft]
    conv=>lhs;rw[hsp]
    simp
   .rw[hleft2];simp
   .have:=hk o (by rw[ho];rfl);subst hw1e;exact⟨this.cells,this.imm,this.ext,this.args⟩
 .exact h.elim
theorem PO(hM:aH B ι σ a w){x:Operand}(ho:o.op= .entry x)(h:Nf o x σ K):P4 B C ι o σ K a w:=by
 intro next Q hnext
 have hev:=hM.ev x;unfold Nf at h;split at h
 .rename_i r hx;rw[hx]at hev;have hev:a.eval x= .pointer (some ⟨r,0,none⟩):=hev;obtain⟨b,kvs,left,x,⟨_,es,clock,since,seen,e,hmb,hnd,hmr,he,rfl⟩,h⟩:=h;have hrun:=run_entry_at (P:=C.P) w r b since seen es clock e (hM.wrel.msat r _ hmr) (hM.wrel.msat b _ hmb) he hnd
  have hrun:(execOp a.eval o).run C.P w= .ok (.value (.tuple #[e.key,e.val])) w:=by
   unfold execOp;simp[ho,hev,hrun,Result.andThen]
  unfold Oper.wp;rw[hrun,Oper.upon_value];refine hnext ι _ _ _ (hM.put o.dst (x:=.tup _) ?_) h (jX hM);exact⟨_,rfl,rfl,rfl,trivial⟩
 .exact h.elim
theorem BZ{P:Program}{kt:TypeId}{Ok:Value->Prop}(L:KeyLaw P kt Ok){k:Value}(hk:Ok k)(w:World):∀(es:List MapEntry)(i:Nat),(∀e∈es,Ok e.key)->
 ((∀e∈es,e.key≠k)/\(Instr.findAsking kt k es i).run P w= .ok none w)\/∃j e,es[j]? =some e/\e.key=k/\(Instr.findAsking kt k es i).run P w= .ok (some (i+j,e.val)) w
 |[],i,_=>.inl ⟨λe he=>(by cases he),by simp[Instr.findAsking]⟩
 |e::es,i,hes=>by
  obtain⟨r,hr,hrk⟩:=L.eq k e.key w hk (hes e (by simp));cases r with
  |true=>exact .inr ⟨0,e,rfl,(hrk.1 rfl).symm,by simp[Instr.findAsking,hr]⟩
  |false=>
   have hne:e.key≠k:=λh=>by have:=hrk.2 h.symm;cases this
   rcases BZ L hk w es (i+1) (λe' he'=>hes e' (by simp[he']))with⟨h1,h2⟩|⟨j,e',h1,h2,h3⟩
   .refine .inl ⟨λe' he'=>?_,by simp[Instr.findAsking,hr,h2]⟩;rcases List.mem_cons.1 he' with rfl|h
    .exact hne
    .exact h1 e' h
   .exact .inr ⟨j+1,e',by simpa using h1,h2,by simp[Instr.findAsking,hr,h3];omega⟩
theorem findNow_spec{P:Program}{kt:TypeId}{Ok:Value->Prop}(L:KeyLaw P kt Ok){d:TypeDesc}(hd:P.underlying kt=some d){k:Value}(hk:Ok k):∀(es:List MapEntry)(i:Nat)(r:Option (Nat×Value)),(∀e∈es,Ok e.key)->
 Instr.findNow d k es i=some r->((∀e∈es,e.key≠k)/\r=none)\/∃j e,es[j]? =some e/\e.key=k/\r=some (i+j,e.val)
 |[],i,r,_,h=>by
  simp[Instr.findNow]at h;exact .inl ⟨λe he=>(by cases he),h.symm⟩
 |e::es,i,r,hes,h=>by
  simp only[Instr.findNow]at h;split at h
  .rename_i hs;simp only[Option.some.injEq]at h;exact .inr ⟨0,e,rfl,((L.now d k e.key true hd hk (hes e (by simp)) hs).1 rfl).symm,by simpa using h.symm⟩
  .rename_i hs;have hne:e.key≠k:=λh'=>by have:=(L.now d k e.key false hd hk (hes e (by simp)) hs).2 h'.symm;cases this
   rcases findNow_spec L hd hk es (i+1) r (λe' he'=>hes e' (by simp[he'])) h with⟨h1,h2⟩|⟨j,e',h1,h2,h3⟩
   .refine .inl ⟨λe' he'=>?_,h2⟩;rcases List.mem_cons.1 he' with rfl|h
    .exact hne
    .exact h1 e' h
   .exact .inr ⟨j+1,e',by simpa using h1,h2,by rw[h3];congr 2;omega⟩
  .cases h
theorem run_findKey{P:Program}{kt:TypeId}{Ok:Value->Prop}(L:KeyLaw P kt Ok){k:Value}(hk:Ok k)(w:World)(es:List MapEntry)(hes:∀e∈es,Ok e.key):
 ((∀e∈es,e.key≠k)/\(Instr.findKey kt k es).run P w= .ok none w)\/∃j e,es[j]? =some e/\e.key=k/\(Instr.findKey kt k es).run P w= .ok (some (j,e.val)) w:=by
 obtain⟨d,hd⟩:=L.under;cases hn:Instr.findNow d k es 0 with
 |some r=>
  have hrun:(Instr.findKey kt k es).run P w= .ok r w:=by simp[Instr.findKey,run_underlying hd,hn]
  rcases findNow_spec L hd hk es 0 r hes hn with⟨h1,rfl⟩|⟨j,e,h1,h2,rfl⟩
  .exact .inl ⟨h1,hrun⟩
  .exact .inr ⟨j,e,h1,h2,by rw[hrun];simp⟩
 |none=>
  have hrun:(Instr.findKey kt k es).run P w=(Instr.findAsking kt k es).run P w:=by simp[Instr.findKey,run_underlying hd,hn]
  rw[hrun];rcases BZ L hk w es 0 hes with⟨h1,h2⟩|⟨j,e,h1,h2,h3⟩
  .exact .inl ⟨h1,h2⟩
  .exact .inr ⟨j,e,h1,h2,by rw[h3];simp⟩
theorem NQ{P:Program}{T:TypeId}{z:Value}(h:Mq P T=some z)(w:World):(zeroValue T).run P w= .ok z w:=by
 unfold Mq at h;split at h
 .rename_i i hi;split at h
  .rename_i k n hz;simp only[Option.some.injEq]at h;subst h;simp[zeroValue,typeInfo,hi,hz]
  .rename_i b hz;simp only[Option.some.injEq]at h;subst h;simp[zeroValue,typeInfo,hi,hz]
  .rename_i hz;simp only[Option.some.injEq]at h;subst h;simp[zeroValue,typeInfo,hi,hz]
  .cases h
 .cases h
theorem M1(hM:aH B ι σ a w){t:Nat}{x k:Operand}{ok:Bool}(ho:o.op= .lookup t x k ok)(h:Jy C o t x k ok σ K):P4 B C ι o σ K a w:=by
 intro next Q hnext
 have hev:=hM.ev x;unfold Jy at h;split at h
 .rename_i kt et b kv hu hx hkv;rw[hx]at hev;have hev:a.eval x= .map (some b):=hev;have hke:a.eval k=kv:=(hM.ev k).val? hkv;split at h
  .rename_i z hz;obtain⟨kvs,Ok,⟨es,clock,hm,hes⟩,L,hok,hoks,hmiss,hhit⟩:=h;have hg:=hM.wrel.msat b _ hm
   have hmem:∀e∈es.toList,∃p∈kvs,e.key=p.1/\e.val=only ((C.dec et).enc p.2):=by
    intro e he
    have:(e.key,e.val)∈kvs.map λp=>(p.1,only ((C.dec et).enc p.2)):=by
     rw[<-hes];exact List.mem_map.2 ⟨e,he,rfl⟩
    obtain⟨p,hp,e2⟩:=List.mem_map.1 this;simp only[Prod.mk.injEq]at e2;exact⟨p,hp,e2.1.symm,e2.2.symm⟩
   have hall:∀e∈es.toList,Ok e.key:=λe he=>by
    obtain⟨p,hp,e1,_⟩:=hmem e he;rw[e1];exact hoks p hp
   have hchk:=L.check kv w es.isEmpty hok;unfold Oper.wp;rcases run_findKey L hok w es.toList hall with⟨h1,h2⟩|⟨j,e,h1,h2,h3⟩
   .have hrun:(execOp a.eval o).run C.P w= .ok (.value (if ok then .tuple #[z,.bool false]else z)) w:=by
     unfold execOp;simp[ho,hev,hke,Instr.lookup,run_underlying hu,MapKept.run_getObj_map hg,hchk,h2,NQ hz,Result.andThen]
    rw[hrun,Oper.upon_value];refine hnext ι _ _ _ (hM.put o.dst ?_) (hmiss ?_) (jX hM)
    .cases ok
     .rfl
     .exact⟨_,rfl,rfl,rfl,trivial⟩
    .intro p hp e1
     have:(p.1,only ((C.dec et).enc p.2))∈es.toList.map λe=>(e.key,e.val):=by
      rw[hes];exact List.mem_map.2 ⟨p,hp,rfl⟩
     obtain⟨e,he,e2⟩:=List.mem_map.1 this;simp only[Prod.mk.injEq]at e2;exact h1 e he (e2.1.trans e1)
   .have he:e∈es.toList:=List.mem_of_getElem? h1;obtain⟨p,hp,e1,e2⟩:=hmem e he
    have hrun:(execOp a.eval o).run C.P w= .ok (.value (if ok then .tuple #[e.val,.bool true]else e.val)) w:=by
     unfold execOp;simp[ho,hev,hke,Instr.lookup,run_underlying hu,MapKept.run_getObj_map hg,hchk,h3,Result.andThen]
    have hh:=hhit p.2 (by rw[<-h2,e1];exact hp);rw[hrun,Oper.upon_value];split at hh
    .rename_i u hu2;rw[hu2]at e2;refine hnext ι _ _ _ (hM.put o.dst ?_) hh (jX hM);cases ok
     .exact e2
     .exact⟨_,rfl,e2,rfl,trivial⟩
    .exact hh.elim
  .exact h.elim
 .exact h.elim
theorem HO(hM:aH B ι σ a w){t:Nat}{x k v:Operand}(ho:o.op= .mapUpdate t x k v)(hdst:o.dst=none)(h:yX C t x k v σ K):P4 B C ι o σ K a w:=by
 intro next Q hnext
 have hev:=hM.ev x;unfold yX at h;split at h
 .rename_i kt et b kv u hu hx hkv hv;rw[hx]at hev;have hev:a.eval x= .map (some b):=hev;have hke:a.eval k=kv:=(hM.ev k).val? hkv;have hve:a.eval v=u:=(hM.ev v).val? hv;obtain⟨kvs,Ok,⟨es,clock,hm,hes⟩,L,hok,hoks,hnew,hK⟩:=h;have hg:=hM.wrel.msat b _ hm;have hmem:∀e∈es.toList,(e.key,e.val)∈kvs:=λe he=>by rw[<-hes];exact List.mem_map.2 ⟨e,he,rfl⟩
  have hall:∀e∈es.toList,Ok e.key:=λe he=>hoks _ (hmem e he);have hchk:=L.check kv w false hok;rcases run_findKey L hok w es.toList hall with⟨h1,h2⟩|⟨j,e,h1,h2,h3⟩
  .obtain⟨hM1,hk⟩:=N7 (ob:=.map (es.push {key:=kv,val:=u,born:=clock}) (clock+1)) hM hm
   have hrun:(execOp a.eval o).run C.P w= .ok .skip {w with heap:=w.heap.setIfInBounds b (.map (es.push {key:=kv,val:=u,born:=clock}) (clock+1))}:=by
    unfold execOp;simp[ho,hev,hke,hve,Instr.mapUpdate,run_underlying hu,MapKept.run_getObj_map hg,MapKept.run_setObj_map _ hg,hchk,h2,Result.andThen]
   unfold Oper.wp;rw[hrun,Oper.upon_skip,show a.put o.dst undef=a by rw[hdst];rfl];refine hnext ι _ _ _ hM1 (hK _ ⟨λb' hb'=>by simp[hb']⟩ ⟨es.push {key:=kv,val:=u,born:=clock},clock+1,by simp,?_⟩) (hk o (by rw[ho];rfl));simp[hes]
  .exact(hnew _ (hmem e (List.mem_of_getElem? h1)) h2).elim
 .exact h.elim
theorem M0(hM:aH B ι σ a w){t:Nat}{x k v:Operand}(ho:o.op= .mapUpdate t x k v)(hdst:o.dst=none)(h:Fp C t x k v σ K):P4 B C ι o σ K a w:=by
 intro next Q hnext
 have hev:=hM.ev x;unfold Fp at h;split at h
 .rename_i kt et b kv u hu hx hkv hv;rw[hx]at hev;have hev:a.eval x= .map (some b):=hev;have hke:a.eval k=kv:=(hM.ev k).val? hkv;have hve:a.eval v=u:=(hM.ev v).val? hv;obtain⟨kvs,Ok,⟨es,clock,hm,hes,hborn,hnd⟩,L,hok,hsame,hoks,hnew,hold⟩:=h;have hg:=hM.wrel.msat b _ hm;have hmem:∀e∈es.toList,(e.key,e.val)∈kvs:=λe he=>by rw[<-hes];exact List.mem_map.2 ⟨e,he,rfl⟩
  have hall:∀e∈es.toList,Ok e.key:=λe he=>hoks _ (hmem e he);have hchk:=L.check kv w false hok;rcases run_findKey L hok w es.toList hall with⟨h1,h2⟩|⟨j,e,h1,h2,h3⟩
  .obtain⟨hM1,hk⟩:=N7 (ob:=.map (es.push {key:=kv,val:=u,born:=clock}) (clock+1)) hM hm
   have hrun:(execOp a.eval o).run C.P w= .ok .skip {w with heap:=w.heap.setIfInBounds b (.map (es.push {key:=kv,val:=u,born:=clock}) (clock+1))}:=by
    unfold execOp;simp[ho,hev,hke,hve,Instr.mapUpdate,run_underlying hu,MapKept.run_getObj_map hg,MapKept.run_setObj_map _ hg,hchk,h2,Result.andThen]
   unfold Oper.wp;rw[hrun,Oper.upon_skip,show a.put o.dst undef=a by rw[hdst];rfl];refine hnext ι _ _ _ hM1 (hnew (λp hp e1=>?_) _ ⟨λb' hb'=>by simp[hb']⟩ ⟨es.push {key:=kv,val:=u,born:=clock},clock+1,by simp,by simp[hes],λe he=>?_,?_⟩) (hk o (by rw[ho];rfl))
   .rw[<-hes]at hp;obtain⟨e,he,rfl⟩:=List.mem_map.1 hp;exact h1 e he e1
   .rw[Array.toList_push,List.mem_append,List.mem_singleton]at he;rcases he with he|rfl
    .have:=hborn e he;omega
    .exact Nat.lt_succ_self _
   .rw[Array.toList_push,List.map_append,List.nodup_append];refine⟨hnd,by simp,λx hx y hy e1=>?_⟩;obtain⟨e,he,rfl⟩:=List.mem_map.1 hx;simp at hy;have:=hborn e he;omega
  .have hjlt:=(List.getElem?_eq_some_iff.1 h1).1;have hje:es[j]? =some e:=by rw[<-Array.getElem?_toList];exact h1
   obtain⟨hM1,hk⟩:=N7 (ob:=.map (es.modify j λe=>{e with key:=kv,val:=u}) clock) hM hm
   have hrun:(execOp a.eval o).run C.P w= .ok .skip {w with heap:=w.heap.setIfInBounds b (.map (es.modify j λe=>{e with key:=kv,val:=u}) clock)}:=by
    unfold execOp;simp[ho,hev,hke,hve,Instr.mapUpdate,run_underlying hu,MapKept.run_getObj_map hg,MapKept.run_setObj_map _ hg,hchk,h3,hje,h2,Instr.keyThatStays,hsame,Result.andThen]
   have hlist:(es.modify j λe=>{e with key:=kv,val:=u}).toList=es.toList.take j++{e with key:=kv,val:=u}::es.toList.drop (j+1):=by
    rw[Array.toList_modify,List.modify_eq_take_cons_drop hjlt];congr 2;have:=(List.getElem?_eq_some_iff.1 h1).2;rw[this]
   have hsp:=sQ h1;unfold Oper.wp;rw[hrun,Oper.upon_skip,show a.put o.dst undef=a by rw[hdst];rfl];refine hnext ι _ _ _ hM1 (hold ((es.toList.take j).map λe=>(e.key,e.val)) e.val ((es.toList.drop (j+1)).map λe=>(e.key,e.val)) ?_ _ ⟨λb' hb'=>by simp[hb']⟩ ⟨es.modify j λe=>{e with key:=kv,val:=u},clock,by simp,?_,?_,?_⟩) (hk o (by rw[ho];rfl))
   .rw[<-hes]
    conv=>lhs;rw[hsp]
    simp[h2]
   .rw[hlist];simp
   .intro x hx;rw[hlist]at hx;rw[hsp]at hborn;rcases List.mem_append.1 hx with hx|hx
    .exact hborn x (List.mem_append_left _ hx)
    .rcases List.mem_cons.1 hx with rfl|hx
     .exact hborn e (List.mem_append_right _ (List.mem_cons_self ..))
     .exact hborn x (List.mem_append_right _ (List.mem_cons_of_mem _ hx))
   .rw[hlist];rw[hsp]at hnd;simpa using hnd
 .exact h.elim
end
end Go.Vc
namespace Go.Vc
open Go
section
variable{B:oW}{C:Ctx}{ι:Nat->Value}{σ:St}{a:Act}{w:World}{o:Oper}{K:St->Prop}
theorem Vj(hM:aH B ι σ a w)(hr:Bq o.op=true)(h:MN C o σ K):ND C ι o σ K a w:=by
 unfold MN at h;cases ho:o.op<;>simp only[ho]at h hr
 case move x=>exact Jw hM (.inl ho) h
 case assign x=>exact Jw hM (.inr ho) h
 case pick c x y=>exact Ql hM ho h
 case build T ps=>exact PY hM ho h
 case load T x=>exact Qr hM ho h
 case nilCheck x=>exact Jm hM ho h
 case binOp op tx x y ty=>
  cases op
  case eql=>
   simp only at h;split at h
   .exact BW (neg:=false) hM ho h
   .exact jA hM (λcs b=>by rw[ho];intro e;cases e) h
  case neq=>
   simp only at h;split at h
   .exact BW (neg:=true) hM ho h
   .exact jA hM (λcs b=>by rw[ho];intro e;cases e) h
  case add=>exact Nj hM ho h
  all_goals first
   |exact jA hM (λcs b=>by rw[ho];intro e;cases e) h
   |exact UN hM ho h
 case unOp op t x=>exact jA hM (λcs b=>by rw[ho];intro e;cases e) h
 case convert s d x=>exact KE hM ho h
 case fieldAddr T x f=>exact HR hM ho h
 case field T x f=>exact ON hM ho h
 case indexAddr T x i=>exact HQ hM ho h
 case index T x i=>exact OG hM ho h
 case extract x i=>exact KD hM ho h
 case call c=>
  obtain⟨callee,args,argTypes⟩:=c;cases callee with
  |builtin b=>
   cases b<;>simp only[Bq,Bool.false_eq_true]at hr
   case len=>
    simp only at h;split at h
    .rename_i x hx;exact TR hM ho rfl hx h
    .exact h.elim
   case min=>exact jA hM (λcs b=>by rw[ho];intro e;cases e) h
   case max=>exact jA hM (λcs b=>by rw[ho];intro e;cases e) h
  |value f=>simp[Bq]at hr
  |invoke r n=>simp[Bq]at hr
 all_goals (first|exact h.elim|(simp[Bq]at hr))
theorem ND.stp(hM:aH B ι σ a w)(h:ND C ι o σ K a w):P4 B C ι o σ K a w:=by
 intro next Q hnext
 obtain⟨v,x,hrun,hx,hK⟩:=h;unfold Oper.wp;rw[hrun w (.inr rfl),Oper.upon_value];exact hnext ι _ _ _ (hM.put o.dst hx) hK (jX hM)
theorem Ot(hspecs:∀g S,assoc C.specs g=some S->Sound C.P g S)(hM:aH B ι σ a w)(h:MN C o σ K):P4 B C ι o σ K a w:=by
 cases hr:Bq o.op with
 |true=>exact(Vj hM hr h).stp hM
 |false=>
  unfold MN at h;cases ho:o.op<;>simp only[ho]at h hr
  case alloc T=>
   intro next Q hn
   refine P1 hM ho h next Q (λι' σ' a' w' hM' h' hk=>?_)
   obtain⟨σ2,hM2,hK2,_⟩:=tG _ _ hM' h';exact hn ι' σ2 a' w' hM2 hK2 hk
  case box T x=>
   split at h
   .intro next Q hn
    obtain⟨τ,hMτ,hK,hfz⟩:=kX _ _ hM h;refine Md hMτ ho hK next Q (λι' σ' a' w' hM' h' hk=>?_)
    obtain⟨σ2,hM2,hK2,_⟩:=tG _ _ hM' h';exact hn ι' σ2 a' w' hM2 hK2 (hk.of_fz hfz)
   .exact Md hM ho h
  case buildSlice T n ps=>
   intro next Q hn
   refine G5 hM ho h next Q (λι' σ' a' w' hM' h' hk=>?_)
   obtain⟨σ2,hM2,hK2,_⟩:=z8 _ _ hM' h';obtain⟨σ3,hM3,hK3,_⟩:=kX _ _ hM2 hK2;exact hn ι' σ3 a' w' hM3 hK3 hk
  case makeFunc f x cs=>
   intro next Q hn
   obtain⟨τ,hMτ,hK,hld⟩:=tG _ _ hM h;obtain⟨v,x,hrun,hx,hK⟩:=jA hMτ (λcs b=>by rw[ho];intro e;cases e) hK;unfold Oper.wp;rw[hrun w (.inr rfl),Oper.upon_value];exact hn ι _ _ _ (hMτ.put o.dst hx) hK (jX hM)
  case store T x v=>
   cases hd:o.dst with
   |none=>
    rw[hd]at h;intro next Q hn
    obtain⟨τ,hMτ,hK,hfz⟩:=kX _ _ hM h;exact N0 hMτ ho hd hK next Q (λι' σ' a' w' hM' h' hk=>hn ι' σ' a' w' hM' h' (hk.of_fz hfz))
   |some d=>rw[hd]at h;exact h.elim
  case makeSlice T l c=>
   intro next Q hn
   refine HP hM ho h next Q (λι' σ' a' w' hM' h' hk=>?_)
   obtain⟨σ2,hM2,hK2,_⟩:=z8 _ _ hM' h';exact hn ι' σ2 a' w' hM2 hK2 hk
  case slice T x lo hi mx=>exact N6 hM ho h
  case makeMap T r=>exact KA hM ho h
  case lookup T x k ok=>exact M1 hM ho h
  case mapUpdate T x k v=>
   cases hd:o.dst with
   |none=>
    rw[hd]at h;have h:(match MY C.heapT 400000 with|true=>Fp C T x k v σ K|false=>yX C T x k v σ K):=h;split at h
    .exact M0 hM ho hd h
    .exact HO hM ho hd h
   |some d=>rw[hd]at h;exact h.elim
  case range T x=>exact Oi hM ho h
  case next x b=>exact Qo hM ho h
  case entry x=>exact PO hM ho h
  case call c=>
   obtain⟨callee,args,argTypes⟩:=c;cases callee with
   |builtin b=>
    cases b<;>simp only[Bq,Bool.true_eq_false]at hr<;>simp only at h
    case append=>
     split at h
     .rename_i x y T tx hx ht;intro next Q hn
      refine No hM ho rfl hx ht h next Q (λι' σ' a' w' hM' h' hk=>?_)
      obtain⟨σ3,hM3,hK3,_⟩:=kX _ _ hM' h';exact hn ι' σ3 a' w' hM3 hK3 hk
     .exact h.elim
    case cap=>exact(jA hM (λcs b=>by rw[ho];intro e;cases e) h).stp hM
    all_goals exact h.elim
   |value g=>
    simp only at h;split at h
    .rename_i f fs cs hg;split at h
     .rename_i hfs hcs;exact RZ hspecs hM ho rfl hg hfs hcs h
     .exact h.elim
    .exact h.elim
   |invoke r n=>exact h.elim
  all_goals (first|exact h.elim|(simp[Bq]at hr))
theorem IQ(hM:aH B ι σ a w){d:Nat}{xs:Array Value}(h:σ.ev (.tmp d)= .at (.val (.tuple xs))):a.tmps[d]? =none\/∃xs,a.tmps[d]? =some (.tuple xs):=by
 have hev:=hM.ev (.tmp d);rw[h]at hev;have hev:a.eval (.tmp d)= .tuple xs:=hev;simp only[Act.eval,Array.getD_eq_getD_getElem?]at hev;cases hd:a.tmps[d]? with
 |none=>exact .inl rfl
 |some v=>rw[hd]at hev;simp at hev;exact .inr ⟨xs,by rw[hev]⟩
theorem DV(hM:aH B ι σ a w){d:Nat}{t:Bool}(h:σ.ev (.tmp d)= .at (.val (.bool t))):a.tmps[d]? =some (.bool t):=by
 have hev:=hM.ev (.tmp d);rw[h]at hev;have hev:a.eval (.tmp d)= .bool t:=hev;simp only[Act.eval,Array.getD_eq_getD_getElem?]at hev;cases hd:a.tmps[d]? with
 |none=>rw[hd]at hev;simp[undef]at hev
 |some v=>rw[hd]at hev;simp at hev;rw[hev]
theorem aH.setTmp(hM:aH B ι σ a w){c:Operand}{t:Bool}(h:σ.ev c= .at (.val (.bool t))):aH B ι (setTmp σ c t) a w:=by
 cases c with
 |tmp d=>
  refine⟨?_,hM.defers,hM.own,hM.dist,hM.fresh,hM.wrel,hM.one⟩;have ht:=DV hM h;have:=hM.slots.set d (x:=.at (.val (.bool t))) (v:=.bool t) rfl;show DenS ι (σ.sl.set d _) a.tmps.toList
  have e:a.tmps.toList.set d (.bool t)=a.tmps.toList:=by
   apply List.ext_getElem?;intro j;rw[List.getElem?_set];split
   .rename_i hj;subst hj;rw[Array.getElem?_toList,ht];split
    .rfl
    .rename_i hlt;simp at hlt;rw[Array.getElem?_eq_none hlt]at ht;cases ht
   .rfl
  rw[e]at this;exact this
 |const v=>exact hM
 |global g=>exact hM
 |func f=>exact hM
theorem Lb{c:Operand}{t:Bool}(h:σ.ev c= .at (.val (.bool t))):Fz σ (setTmp σ c t):=by
 cases c with
 |tmp d=>
  refine⟨λ_ _ _ cs h=>⟨cs,h⟩,λ_ _ _ h=>h,?_,?_,rfl⟩
  .intro x k off hx;cases x with
   |tmp e=>
    simp only[Vc.setTmp,St.ev,tR]at hx;simp only[St.ev];by_cases he:e=d/\d<σ.sl.length
    .rw[if_pos he]at hx;cases hx
    .rw[if_neg he]at hx;exact hx
   |const v=>exact hx
   |global g=>exact hx
   |func f=>exact hx
  .intro x k hx;cases x with
   |tmp e=>
    simp only[Vc.setTmp,St.ev,tR]at hx;simp only[St.ev];by_cases he:e=d/\d<σ.sl.length
    .rw[if_pos he]at hx;cases hx
    .rw[if_neg he]at hx;exact hx
   |const v=>exact hx
   |global g=>exact hx
   |func f=>exact hx
 |const v=>exact Fz.refl σ
 |global g=>exact Fz.refl σ
 |func f=>exact Fz.refl σ
def ZJ(C:Ctx)(ops:Array Oper)(o:Oper)(a:Act)(w:World)(next:Act->World->Prop)(Q:Exit->Act->World->Prop):Prop:=
 if Region.wanted o (yielded ops a.tmps)then o.wp C.P a w next Q else next (a.put o.dst undef) w
theorem KK{ops:Array Oper}{j d:Nat}{want t:Bool}{g:Oper}(hg:o.guard=some (j,want))(hj:nth ops.toList j=some g)(hd:g.dst=some d)(ht:a.tmps[d]? =some (.bool t)):
 Region.wanted o (yielded ops a.tmps)=(t==want):=by
 unfold Region.wanted;rw[hg];rw[iK,Array.getElem?_toList]at hj;simp[yielded,hj,hd,ht]
theorem Er{ops:Array Oper}{j d:Nat}{want:Bool}{g:Oper}(hg:o.guard=some (j,want))(hj:nth ops.toList j=some g)(hd:g.dst=some d)(ht:a.tmps[d]? =none\/∃xs,a.tmps[d]? =some (.tuple xs)):
 Region.wanted o (yielded ops a.tmps)=false:=by
 unfold Region.wanted;rw[hg];rw[iK,Array.getElem?_toList]at hj;rcases ht with ht|⟨xs,ht⟩<;>simp[yielded,hj,hd,ht]
theorem Cp{f:Oper->St->(St->Prop)->Prop}{ops:Array Oper}(hM:aH B ι σ a w)(h:JF f ops o σ K):
 ∃σ1,aH B ι σ1 a w/\Fz σ σ1/\((Region.wanted o (yielded ops a.tmps)=true/\f o σ1 K)\/(Region.wanted o (yielded ops a.tmps)=false/\K (σ1.put o.dst (.at (.val undef))))):=by
 unfold JF at h;split at h
 .rename_i hg;exact⟨σ,hM,Fz.refl σ,.inl ⟨by simp[Region.wanted,hg],h⟩⟩
 .rename_i j want hg;split at h
  .exact h.elim
  .rename_i g hj;split at h
   .exact h.elim
   .rename_i d hd;split at h
    .rename_i t ht;have htm:=DV hM ht;have hw:=KK (o:=o) (a:=a) hg hj hd htm;rcases qP h with⟨rfl,h⟩|⟨rfl,h⟩
     .refine⟨setTmp σ (.tmp d) true,hM.setTmp ht,Lb ht,?_⟩;cases want with
      |true=>exact .inl ⟨by simpa using hw,h⟩
      |false=>exact .inr ⟨by simpa using hw,h⟩
     .refine⟨setTmp σ (.tmp d) false,hM.setTmp ht,Lb ht,?_⟩;cases want with
      |true=>exact .inr ⟨by simpa using hw,h⟩
      |false=>exact .inl ⟨by simpa using hw,h⟩
    .rename_i xs ht;exact⟨σ,hM,Fz.refl σ,.inr ⟨Er hg hj hd (IQ hM ht),h⟩⟩
    .exact h.elim
theorem OI(hspecs:∀g S,assoc C.specs g=some S->Sound C.P g S){ops:Array Oper}(hM:aH B ι σ a w)(h:Na C ops o σ K)
 (next:Act->World->Prop)(Q:Exit->Act->World->Prop)(hnext:∀ι' σ' a' w',aH B ι' σ' a' w'->K σ'->Eo σ ι o w w'->next a' w'):ZJ C ops o a w next Q:=by
 obtain⟨σ1,hM1,hfz,hc⟩:=Cp hM h;unfold ZJ;rcases hc with⟨hw,h⟩|⟨hw,h⟩
 .rw[if_pos hw];exact Ot hspecs hM1 h next Q (λι' σ' a' w' h1 h2 h3=>hnext ι' σ' a' w' h1 h2 (h3.of_fz hfz))
 .rw[if_neg (by simp[hw])];exact hnext ι _ _ _ (hM1.put o.dst (x:=.at (.val undef)) rfl) h (jX hM)
theorem IM{P:Program}{next:Act->World->Prop}{Q:Exit->Act->World->Prop}(h:o.wp P a w next Q):o.wpIn Fence.wide 0 P a w next Q:=by
 refine⟨λ_ _=>trivial,?_⟩;show o.uponIn Fence.wide 0 P a next Q ((execOp a.eval o).run P w)
 unfold Oper.wp at h;cases hr:(execOp a.eval o).run P w with
 |ok x w'=>
  rw[hr]at h;cases x with
  |value v=>exact h
  |skip=>exact h
  |defer d=>exact h
  |enter f args=>exact⟨λe=>by simp[Fence.wide]at e,callsIn_wide.2 h⟩
  |row r args=>
   refine⟨λe=>by simp[Fence.wide]at e,λc cs _=>?_⟩;obtain⟨v,w2,hv,hs⟩:=h c cs;exact⟨v,w2,hv,stepsIn_wide.2 hs⟩
  |_=>exact h.elim
 |halt x w'=>
  rw[hr]at h;cases x with
  |panic v=>exact h
  |_=>exact h.elim
def Wu(B:oW)(C:Ctx)(o:Oper)(K:St->Prop)(a:Act)(w:World):Prop:=
 ∀(next:Act->World->Prop)(Q:Exit->Act->World->Prop),(∀ι' σ' a' w',aH B ι' σ' a' w'->K σ'->next a' w')->o.wpIn Fence.wide 0 C.P a w next Q
theorem Cy(hM:aH B ι σ a w):∀(i:Nat)(l:List Operand)(ts:List TypeId)(cvs:List CV),oV C.P σ [] i l ts=some cvs->cvs=(l.map a.eval).map .val
 |i,[],ts,cvs,h=>by simp[oV]at h;subst h;rfl
 |i,x::r,ts,cvs,h=>by
  simp only[oV]at h;split at h
  .cases h
  .rename_i rest hrest;have ih:=Cy hM (i+1) r ts.tail rest hrest;simp only[List.contains_nil]at h;split at h
   .rename_i u hu;simp only[Option.some.injEq]at h;subst h;simp only[List.map_cons,(hM.ev x).val? hu,ih]
   .cases h
theorem NR(hM:aH B ι σ a w){c:Call}{g:Operand}{l:Nat}{fs cs:Array Value}(ho:o.op= .call c)(hc:c.callee= .value g)
 (hg:σ.ev g= .at (.val (.func (.yield l) fs cs)))(hfs:fs.toList=[])(hcs:cs.toList=[])(h:Ms C o (.func (.yield l) #[] #[]) c.args.toList σ K):Wu B C o K a w:=by
 intro next Q hnext
 unfold Ms at h;split at h
 .exact h.elim
 .rename_i S hS;split at h
  .rename_i cvs hcvs;obtain⟨hY,h⟩:=h;have hv:=Cy hM 0 _ _ _ hcvs;subst hv;have hw:=hM.wrel;obtain⟨fn,tmps,assign,body,hrun,hround⟩:=hY.go l _ σ.m σ.h w _ h ⟨hw.hsat,hw.msat,hw.disj⟩;have hev:a.eval g= .func (.yield l) fs cs:=by have:=hM.ev g;rw[hg]at this;exact this
   have hfs':fs= #[]:=by apply Array.toList_inj.1;simpa using hfs
   have hcs':cs= #[]:=by apply Array.toList_inj.1;simpa using hcs
   subst hfs' hcs';have hargsA:c.args.map a.eval=(c.args.toList.map a.eval).toArray:=by apply Array.toList_inj.1;simp
   have hrun2:(execOp a.eval o).run C.P w= .ok (.round l fn tmps assign body) w:=by
    unfold execOp;simp only[ho,resolve,hc,hev,Deferred.ofValue,Sem.run_bind,Sem.run_pure,Result.andThen_ok,invoke];simp[hargsA,hrun]
   refine⟨λ_ _=>trivial,?_⟩;show o.uponIn Fence.wide 0 C.P a next Q ((execOp a.eval o).run C.P w)
   rw[hrun2,Oper.uponIn_round];refine⟨λe=>by simp[Fence.wide]at e,hround.mono ?_⟩;rintro e w' ⟨u,m',h',rfl,hK,hf⟩;show next (a.put o.dst u) w'
   have hwr:Ab ⟨w,λb=>σ.m b≠none,σ.h,[]⟩ m' h' w':=
    ⟨hf.tape,hf.os,hf.output,hf.drawn,hf.size,λb hb hn=>hf.frame b hb (Classical.byContradiction hn),hf.heapy.hsat,hf.heapy.msat,hf.heapy.disj,hf.hle.le,λb hb hn=>hf.hold b hb (Classical.byContradiction hn),λb ob hb=>hf.mfr b ob hb⟩
   have hM2:=hM.called hwr (λb hb=>by
    cases hm:σ.m b with
    |none=>exact(hb hm).elim
    |some ob=>exact hw.mfr b ob hm) (λj o' b hj hb hn=>hn (hM.fresh j o' b hj hb).2.1)
   exact hnext ι _ _ _ (hM2.put o.dst (x:=.at (.val u)) rfl) hK
  .exact h.elim
theorem TN(hspecs:∀g S,assoc C.specs g=some S->Sound C.P g S)(hM:aH B ι σ a w)(h:SB C o σ K):Wu B C o K a w:=by
 have old:MN C o σ K->Wu B C o K a w:=λh next Q hn=>IM (Ot hspecs hM h next Q (λι' σ' a' w' h1 h2 _=>hn ι' σ' a' w' h1 h2))
 unfold SB at h;split at h
 .rename_i c ho;split at h
  .rename_i g hc;split at h
   .rename_i l fs cs hg;split at h
    .rename_i hfs hcs;exact NR hM ho hc hg hfs hcs h
    .exact h.elim
   .exact old h
  .exact old h
 .exact old h
theorem KC(hspecs:∀g S,assoc C.specs g=some S->Sound C.P g S){ops:Array Oper}(hM:aH B ι σ a w)(h:JF (SB C) ops o σ K)
 (next:Act->World->Prop)(Q:Exit->Act->World->Prop)(hnext:∀ι' σ' a' w',aH B ι' σ' a' w'->K σ'->next a' w'):
 if Region.wanted o (yielded ops a.tmps)then o.wpIn Fence.wide 0 C.P a w next Q else(∀f,o.about C.P w a.eval=some f->Fence.wide.fn f)/\next (a.put o.dst undef) w:=by
 obtain⟨σ1,hM1,hfz,hc⟩:=Cp hM h;rcases hc with⟨hw,h⟩|⟨hw,h⟩
 .rw[if_pos hw];exact TN hspecs hM1 h next Q hnext
 .rw[if_neg (by simp[hw])];exact⟨λ_ _=>trivial,hnext ι _ _ _ (hM1.put o.dst (x:=.at (.val undef)) rfl) h⟩
theorem DY(hspecs:∀g S,assoc C.specs g=some S->Sound C.P g S){ops:Array Oper}{Q:Exit->Act->World->Prop}{R:St->Prop}{rest:List Nat}(hQ:∀ι σ a w,aH B ι σ a w->R σ->wpOpsIn Fence.wide 0 C.P ops Q rest a w):
 ∀(l:List Oper)(s:Nat)(ι:Nat->Value)(σ:St)(a:Act)(w:World),(∀j,j<l.length->l[j]? =ops.toList[s+j]?)->aH B ι σ a w->Su C ops l σ R->wpOpsIn Fence.wide 0 C.P ops Q (List.range' s l.length++rest) a w
 |[],s,ι,σ,a,w,_,hM,h=>hQ ι σ a w hM h
 |o::l,s,ι,σ,a,w,hl,hM,h=>by
  have ho:ops[s]? =some o:=by have:=hl 0 (by simp);simp at this;exact this.symm
  simp only[List.length_cons,List.range'_succ,List.cons_append,wpOpsIn,ho]
  exact KC hspecs hM h (wpOpsIn Fence.wide 0 C.P ops Q (List.range' (s+1) l.length++rest)) Q (λι' σ' a' w' h1 h2=>
   DY hspecs hQ l (s+1) ι' σ' a' w' (λj hj=>by have:=hl (j+1) (by simp;omega);simp only[List.getElem?_cons_succ]at this;rw[this];congr 1;omega) h1 h2)
end
end Go.Vc
namespace Go.Vc
open Go
def Yd(P:Program)(ops:Array Oper)(w:World)(o:Oper)(v:Value)(a:Act):Prop:=
 (Region.wanted o (yielded ops a.tmps)=true/\(execOp a.eval o).run P w= .ok (.value v) w)\/(Region.wanted o (yielded ops a.tmps)=false/\v=undef)
def ZL(ops:Array Oper)(ok:Oper)(i:Nat):Prop:=waits ok i=true\/∃j oj,ops[j]? =some oj/\waits ok j=true/\waits oj i=true
def R5(ops:Array Oper)(oi:Oper):Prop:=∀(k:Nat)(ok:Oper)(d:Nat),ops[k]? =some ok->ok.dst=some d->d∈oi.looksAt ops->waits oi k=true
structure WJ(ops:Array Oper)(i:Nat)(oi:Oper):Prop where
 mv:Xd oi.op=true
 look:∀(k:Nat)(ok:Oper)(d:Nat),ops[k]? =some ok->ok.dst=some d->d∈oi.looksAt ops->ZL ops ok i
structure Yy(ops:Array Oper):Prop where
 look:∀(i:Nat)(oi:Oper),ops[i]? =some oi->R5 ops oi\/WJ ops i oi
 dst:∀(i k:Nat)(oi ok:Oper)(d:Nat),ops[i]? =some oi->ops[k]? =some ok->ok.dst=some d->i≠k->oi.dst≠some d
 topo:∀(i:Nat)(oi:Oper)(k:Nat),ops[i]? =some oi->waits oi k=true->k<i
 sel:∀(j:Nat)(o:Oper) cs b,ops[j]? =some o->o.op≠ .select cs b
theorem ZL.in_{ops:Array Oper}{ok:Oper}{i:Nat}{L:Array Bool}(h:ZL ops ok i)(hk:∀j,waits ok j=true->L.getD j false=true)(hL:∀(j:Nat)(oj:Oper),ops[j]? =some oj->L.getD j false=true->∀k,waits oj k=true->L.getD k false=true):L.getD i false=true:=by
 rcases h with h|⟨j,oj,hj,h1,h2⟩
 .exact hk i h
 .exact hL j oj hj (hk j h1) i h2
theorem Yy.self{ops:Array Oper}(hs:Yy ops){k:Nat}{o:Oper}(ho:ops[k]? =some o):∀d,o.dst=some d->d∉o.looksAt ops:=λd hd hm=>by
 rcases hs.look k o ho with h|h
 .have:=hs.topo k o k ho (h k o d ho hd hm);omega
 .rcases h.look k o d ho hd hm with h1|⟨j,oj,hj,h1,h2⟩
  .have:=hs.topo k o k ho h1;omega
  .have:=hs.topo k o j ho h1;have:=hs.topo j oj k hj h2;omega
theorem Vl{P:Program}{o:Oper}(h:Xd o.op=true):vP P o=false:=by
 unfold vP;cases e:o.op<;>simp_all [Xd]
theorem F1{o:Oper}{k:Nat}:waits o k=true↔∃e∈o.after,Region.binds .any e=true/\e.on=k:=by
 unfold waits;rw[List.any_eq_true];constructor
 .rintro⟨e,he,h⟩;simp only[Bool.and_eq_true]at h;exact⟨e,by simpa using he,h.1,Nat.eq_of_beq_eq_true h.2⟩
 .rintro⟨e,he,h1,h2⟩;exact⟨e,by simpa using he,by simp[h1,h2]⟩
theorem U8{ops:Array Oper}(h:YU ops=true)(hs:Region.noSelect ops=true):Yy ops:=by
 unfold YU at h;simp only[List.all_eq_true,List.mem_range]at h;have lt:∀{i:Nat}{oi:Oper},ops[i]? =some oi->i<ops.toList.length:=λhi=>by have:=(Array.getElem?_eq_some_iff.1 hi).1;simpa using this
 refine⟨?_,?_,?_,Region.noSelect_spec hs⟩
 .intro i oi hi;have h1:=h i (lt hi);rw[iK,Array.getElem?_toList,hi]at h1;simp only[Bool.and_eq_true,Bool.or_eq_true,List.all_eq_true,List.mem_range]at h1;rcases h1.2 with h2|⟨hm,h2⟩
  .refine .inl λk ok d hk hd hl=>?_;have h3:=h2 k (lt hk);rw[iK,Array.getElem?_toList,hk]at h3;simp only[hd,Bool.or_eq_true,Bool.not_eq_true',List.contains_eq_mem,decide_eq_false_iff_not]at h3;rcases h3 with h3|h3
   .exact(h3 hl).elim
   .exact h3
  .refine .inr ⟨hm,λk ok d hk hd hl=>?_⟩;have h3:=h2 k (lt hk);rw[iK,Array.getElem?_toList,hk]at h3;simp only[hd,Bool.or_eq_true,Bool.not_eq_true',List.contains_eq_mem,decide_eq_false_iff_not]at h3;rcases h3 with h3|h3
   .exact(h3 hl).elim
   .unfold Zs at h3;simp only[Bool.or_eq_true,List.any_eq_true,Bool.and_eq_true]at h3;rcases h3 with h3|⟨⟨oj,j⟩,hj,h4,h5⟩
    .exact .inl h3
    .refine .inr ⟨j,oj,?_,h4,h5⟩;have:=List.mem_zipIdx_iff_getElem?.1 hj;simpa using this
 .intro i k oi ok d hi hk hd hne;have h1:=h i (lt hi);rw[iK,Array.getElem?_toList,hi]at h1;simp only[Bool.and_eq_true,List.all_eq_true,List.mem_range]at h1;have h3:=h1.1.2 k (lt hk);rw[iK,Array.getElem?_toList,hk]at h3;simp only[hd,Bool.or_eq_true]at h3;rcases h3 with h3|h3
  .exact(hne (Nat.eq_of_beq_eq_true h3)).elim
  .simpa using h3
 .intro i oi k hi hw;have hil:i<ops.toList.length:=by have:=(Array.getElem?_eq_some_iff.1 hi).1;simpa using this
  have h1:=h i hil;rw[iK,Array.getElem?_toList,hi]at h1;simp only[Bool.and_eq_true,List.all_eq_true]at h1;obtain⟨e,he,hb,rfl⟩:=F1.1 hw;have:=h1.1.1 e (by simpa using he);simp only[hb,Bool.not_true,Bool.false_or]at this;rw[<-Nat.blt_eq];exact this
theorem qO{ops:Array Oper}{listed:Array Bool}{j:Nat}:j∈Region.ready .any ops listed↔listed.getD j true=false/\∃o,ops[j]? =some o/\∀k,waits o k=true->listed.getD k false=true:=by
 rw[mem_ready];constructor
 .rintro⟨h1,o,ho,h2⟩;refine⟨h1,o,ho,λk hk=>?_⟩;obtain⟨e,he,hb,rfl⟩:=F1.1 hk;exact h2 e he hb
 .rintro⟨h1,o,ho,h2⟩;exact⟨h1,o,ho,λe he hb=>h2 e.on (F1.2 ⟨e,he,hb,rfl⟩)⟩
theorem IC{l:Array Bool}{i:Nat}(h:l.getD i true=false):l.getD i false=false/\i<l.size:=by
 by_cases hi:i<l.size
 .simp[Array.getD,hi]at h⊢;exact h
 .simp[Array.getD,hi]at h
theorem pK{l:Array Bool}{i:Nat}(h:i<l.size):(l.setIfInBounds i true).getD i false=true:=by
 simp[Array.getD,h]
theorem Ei{ops:Array Oper}{o:Oper}{ar ac:Act}(hs:∀cs b,o.op≠ .select cs b)(h:∀t∈o.looksAt ops,ar.tmps[t]? =ac.tmps[t]?):
 execOp ar.eval o=execOp ac.eval o/\Region.wanted o (yielded ops ar.tmps)=Region.wanted o (yielded ops ac.tmps):=by
 constructor
 .refine execOp_congr o hs λx hx=>?_;cases x with
  |tmp t=>
   have:t∈o.looksAt ops:=List.mem_append_left _ (List.mem_filterMap.2 ⟨.tmp t,by simpa using hx,rfl⟩);simp only[Act.eval,Array.getD_eq_getD_getElem?,h t this]
  |const v=>rfl
  |global g=>rfl
  |func f=>rfl
 .unfold Region.wanted;split
  .rfl
  .rename_i j want hg
   have:yielded ops ar.tmps j=yielded ops ac.tmps j:=by
    unfold yielded;cases hd:(ops[j]?).bind (·.dst)with
    |none=>rfl
    |some d=>
     have hm:d∈o.looksAt ops:=by
      unfold Oper.looksAt;refine List.mem_append_right _ ?_;simp[hg,hd]
     simp only[Option.bind_some,h d hm]
   rw[this]
theorem HZ{a:Act}{d:Option Tmp}{v:Value}{t:Nat}(h:d≠some t):(a.put d v).tmps[t]? =a.tmps[t]? :=by
 cases d with
 |none=>rfl
 |some e=>
  have:e≠t:=λx=>h (by rw[x]);simp[Act.put,Array.getElem?_setIfInBounds_ne this]
theorem W4(a:Act)(d:Option Tmp)(u v:Value):(a.put d u).put d v=a.put d v:=by
 cases d with
 |none=>rfl
 |some e=>simp[Act.put]
structure Mh(P:Program)(ops:Array Oper)(L Cl:Array Bool)(ar ac:Act)(w:World):Prop where
 szL:L.size=ops.size
 szC:Cl.size=ops.size
 sub:∀i,L.getD i false=true->Cl.getD i false=true
 rd:∀(i:Nat)(o:Oper),ops[i]? =some o->Cl.getD i false=true->L.getD i false=false->Bq o.op=true
 clC:∀(i:Nat)(o:Oper),ops[i]? =some o->Cl.getD i false=true->∀k,waits o k=true->Cl.getD k false=true
 clL:∀(i:Nat)(o:Oper),ops[i]? =some o->L.getD i false=true->∀k,waits o k=true->L.getD k false=true
 tsz:ar.tmps.size=ac.tmps.size
 df:ar.defers=ac.defers
 agree:∀t,(∀(i:Nat)(o:Oper),ops[i]? =some o->Cl.getD i false=true->L.getD i false=false->o.dst≠some t)->ar.tmps[t]? =ac.tmps[t]?
 pend:∀(i:Nat)(o:Oper),ops[i]? =some o->Cl.getD i false=true->L.getD i false=false->∃v,(R5 ops o->∀w'',(vP P o=false\/w''=w)->Yd P ops w'' o v ac)/\(WJ ops i o->∀w'',Yd P ops w'' o v ar)/\ac.put o.dst v=ac
section
variable{P:Program}{ops:Array Oper}{L Cl:Array Bool}{ar ac:Act}{w:World}
theorem Yd.congr{o:Oper}{v:Value}{a a':Act}{w:World}(h:Yd P ops w o v a)(he:execOp a'.eval o=execOp a.eval o)(hw:Region.wanted o (yielded ops a'.tmps)=Region.wanted o (yielded ops a.tmps)):Yd P ops w o v a':=by
 unfold Yd at*
 rw[he,hw];exact h
theorem Mh.looks(h:Mh P ops L Cl ar ac w){o:Oper}(hst:R5 ops o)(hr:∀k,waits o k=true->L.getD k false=true):∀t∈o.looksAt ops,ar.tmps[t]? =ac.tmps[t]? :=by
 intro t ht;refine h.agree t (λk ok hk _ hL hd=>?_);have:=hr k (hst k ok t hk hd ht);rw[this]at hL;cases hL
theorem Mh.looks'(h:Mh P ops L Cl ar ac w){i:Nat}{o:Oper}(hlo:WJ ops i o)(hC:Cl.getD i false=false):∀t∈o.looksAt ops,ar.tmps[t]? =ac.tmps[t]? :=by
 intro t ht;refine h.agree t (λk ok hk hCk _ hd=>?_);have:=(hlo.look k ok t hk hd ht).in_ (h.clC k ok hk hCk) h.clC;rw[this]at hC;cases hC
theorem Mh.stepA(hs:Yy ops)(h:Mh P ops L Cl ar ac w){i:Nat}{o:Oper}(ho:ops[i]? =some o)(hC:Cl.getD i false=true)(hr:∀k,waits o k=true->L.getD k false=true){v:Value}(hv:ac.put o.dst v=ac):
 Mh P ops (L.setIfInBounds i true) Cl (ar.put o.dst v) ac w:=by
 have hsz:i<L.size:=by rw[h.szL];exact(Array.getElem?_eq_some_iff.1 ho).1
 have hsub:∀k,(L.setIfInBounds i true).getD k false=false->L.getD k false=false/\k≠i:=by
  intro k hk;by_cases e:i=k
  .subst e;rw[pK hsz]at hk;cases hk
  .rw[getD_set_ne false e]at hk;exact⟨hk,λx=>e x.symm⟩
 refine⟨by simpa using h.szL,h.szC,?_,λk ok hk hCk hLk=>h.rd k ok hk hCk (hsub k hLk).1,h.clC,?_,?_,?_,?_,λk ok hk hCk hLk=>?_⟩
 .intro k hk;by_cases e:i=k
  .subst e;exact hC
  .rw[getD_set_ne false e]at hk;exact h.sub k hk
 .intro k ok hk hLk j hj;by_cases e:i=k
  .subst e;rw[ho]at hk;cases hk;exact getD_set_true (hr j hj)
  .rw[getD_set_ne false e]at hLk;exact getD_set_true (h.clL k ok hk hLk j hj)
 .rw[<-h.tsz];cases o.dst<;>simp[Act.put]
 .rw[<-h.df];cases o.dst<;>rfl
 .intro t ht;by_cases e:o.dst=some t
  .rw[e]at hv⊢
   rw[<-hv];simp only[Act.put,Array.getElem?_setIfInBounds_self,h.tsz]
  .rw[HZ e];refine h.agree t (λk ok hk hCk hLk=>?_);by_cases ek:i=k
   .subst ek;rw[ho]at hk;cases hk;exact e
   .exact ht k ok hk hCk (by rw[getD_set_ne false ek];exact hLk)
 .obtain⟨u,h1,h2,h3⟩:=h.pend k ok hk hCk (hsub k hLk).1;refine⟨u,h1,λhlo w''=>?_,h3⟩
  have hnl:∀d,o.dst=some d->d∉ok.looksAt ops:=λd hd hm=>by
   have:=(hlo.look i o d ho hd hm).in_ hr h.clL;rw[(hsub k hLk).1]at this;cases this
  exact(h2 hlo w'').congr (execOp_put ok (hs.sel k ok · · hk) ar o.dst v hnl) (wanted_put ok ar o.dst v hnl)
theorem Mh.take(hs:Yy ops)(h:Mh P ops L Cl ar ac w){k:Nat}{o:Oper}(ho:ops[k]? =some o)(hC:Cl.getD k false=false)(hr:∀j,waits o j=true->Cl.getD j false=true)(hrd:Bq o.op=true){v:Value}
 (hv:∀w'',(vP P o=false\/w''=w)->Yd P ops w'' o v ac):Mh P ops L (Cl.setIfInBounds k true) ar (ac.put o.dst v) w:=by
 have hsz:k<Cl.size:=by rw[h.szC];exact(Array.getElem?_eq_some_iff.1 ho).1
 have hcase:∀j,(Cl.setIfInBounds k true).getD j false=true->j=k\/Cl.getD j false=true:=by
  intro j hj;by_cases e:k=j
  .exact .inl e.symm
  .rw[getD_set_ne false e]at hj;exact .inr hj
 have hLk:L.getD k false=false:=by
  cases hl:L.getD k false with
  |false=>rfl
  |true=>rw[h.sub k hl]at hC;cases hC
 have hup:∀j,Cl.getD j false=true->(Cl.setIfInBounds k true).getD j false=true:=by
  intro j hj;exact getD_set_true hj
 have hnl:=hs.self ho;refine⟨h.szL,by simpa using h.szC,λi hi=>hup i (h.sub i hi),?_,?_,h.clL,?_,?_,?_,?_⟩
 .intro i oi hi hCi hLi;rcases hcase i hCi with rfl|hCi
  .rw[ho]at hi;cases hi;exact hrd
  .exact h.rd i oi hi hCi hLi
 .intro i oi hi hCi j hj;rcases hcase i hCi with rfl|hCi
  .rw[ho]at hi;cases hi;exact hup j (hr j hj)
  .exact hup j (h.clC i oi hi hCi j hj)
 .rw[h.tsz];cases o.dst<;>simp[Act.put]
 .rw[h.df];cases o.dst<;>rfl
 .intro t ht;have e:o.dst≠some t:=ht k o ho (pK hsz) hLk;rw[HZ e];exact h.agree t (λi oi hi hCi hLi=>ht i oi hi (hup i hCi) hLi)
 .intro i oi hi hCi hLi;by_cases e:i=k
  .subst e;rw[ho]at hi;cases hi;refine⟨v,λ_ w'' hw=>(hv w'' hw).congr (execOp_put o (hs.sel i o · · ho) ac o.dst v hnl) (wanted_put o ac o.dst v hnl),λhlo w''=>?_,W4 _ _ _ _⟩;obtain⟨he,hwe⟩:=Ei (hs.sel i o · · ho) (h.looks' hlo hC);exact(hv w'' (.inl (Vl hlo.mv))).congr he hwe
  .have hCi':=(hcase i hCi).resolve_left e;obtain⟨u,hu,hlu,hpu⟩:=h.pend i oi hi hCi' hLi;refine⟨u,λhst w'' hw=>?_,hlu,?_⟩
   .have hnl':∀d,o.dst=some d->d∉oi.looksAt ops:=λd hd hm=>by
     have:=h.clC i oi hi hCi' k (hst k o d ho hd hm);rw[this]at hC;cases hC
    exact(hu hst w'' hw).congr (execOp_put oi (hs.sel i oi · · hi) ac o.dst v hnl') (wanted_put oi ac o.dst v hnl')
   rw[Act.put_comm ac v u (λd hd=>hs.dst i k oi o d hi ho hd e),hpu]
theorem NS{o:Oper}{a1 a2:Act}{w:World}{next1 next2:Act->World->Prop}{Q:Exit->Act->World->Prop}(he:execOp a2.eval o=execOp a1.eval o)(h:o.wp P a1 w next1 Q)
 (hv:∀v w',next1 (a1.put o.dst v) w'->next2 (a2.put o.dst v) w')(hd:∀d w',¬next1 (({a1 with defers:=d::a1.defers}:Act).put o.dst undef) w')(hQ:∀c a w,¬Q (.panic c) a w):o.wp P a2 w next2 Q:=by
 unfold Oper.wp at*
 rw[he];generalize (execOp a1.eval o).run P w=r at*
 cases r with
 |ok n w'=>
  cases n<;>simp only[Oper.upon]at h⊢
  case value u=>exact hv u w' h
  case skip=>exact hv undef w' h
  case defer d=>exact(hd d w' h).elim
  case enter f args=>
   refine Calls.mono h λe w'' he'=>?_;cases e with
   |returned u=>exact hv u w'' he'
   |panicked c=>exact(hQ _ _ _ he').elim
   |outgrown=>exact he'
  case row row args=>exact Rows.mono h λu w'' he'=>hv u w'' he'
 |halt x w'=>
  cases x<;>simp only[Oper.upon]at h⊢
  case panic u=>exact(hQ _ _ _ h).elim
theorem Mh.stepB(hs:Yy ops)(h:Mh P ops L Cl ar ac w){j:Nat}{o:Oper}(ho:ops[j]? =some o)(hC:Cl.getD j false=false)(hr:∀k,waits o k=true->L.getD k false=true)(u:Value)(w':World)
 (hpend:∀(i:Nat)(oi:Oper)(v:Value),ops[i]? =some oi->Cl.getD i false=true->L.getD i false=false->Yd P ops w oi v ac->Yd P ops w' oi v ac\/vP P oi=false):
 Mh P ops (L.setIfInBounds j true) (Cl.setIfInBounds j true) (ar.put o.dst u) (ac.put o.dst u) w':=by
 have hszC:j<Cl.size:=by rw[h.szC];exact(Array.getElem?_eq_some_iff.1 ho).1
 have hszL:j<L.size:=by rw[h.szL];exact(Array.getElem?_eq_some_iff.1 ho).1
 have hcase:∀i,(Cl.setIfInBounds j true).getD i false=true->i=j\/Cl.getD i false=true:=by
  intro i hi;by_cases e:j=i
  .exact .inl e.symm
  .rw[getD_set_ne false e]at hi;exact .inr hi
 have hLcase:∀i,(L.setIfInBounds j true).getD i false=false->i≠j/\L.getD i false=false:=by
  intro i hi;by_cases e:j=i
  .subst e;rw[pK hszL]at hi;cases hi
  .rw[getD_set_ne false e]at hi;exact⟨λx=>e x.symm,hi⟩
 have hup:∀i,Cl.getD i false=true->(Cl.setIfInBounds j true).getD i false=true:=λi hi=>getD_set_true hi;refine⟨by simpa using h.szL,by simpa using h.szC,?_,?_,?_,?_,?_,?_,?_,?_⟩
 .intro i hi;by_cases e:j=i
  .subst e;exact pK hszC
  .rw[getD_set_ne false e]at hi;exact hup i (h.sub i hi)
 .intro i oi hi hCi hLi;obtain⟨hne,hLi'⟩:=hLcase i hLi;exact h.rd i oi hi ((hcase i hCi).resolve_left hne) hLi'
 .intro i oi hi hCi k hk;rcases hcase i hCi with rfl|hCi
  .rw[ho]at hi;cases hi;exact hup k (h.sub k (hr k hk))
  .exact hup k (h.clC i oi hi hCi k hk)
 .intro i oi hi hLi k hk;by_cases e:j=i
  .subst e;rw[ho]at hi;cases hi;exact getD_set_true (hr k hk)
  .rw[getD_set_ne false e]at hLi;exact getD_set_true (h.clL i oi hi hLi k hk)
 .cases o.dst<;>simp[Act.put,h.tsz]
 .have:=h.df;cases o.dst<;>exact this
 .intro t ht;by_cases e:o.dst=some t
  .rw[e];simp only[Act.put,Array.getElem?_setIfInBounds_self,h.tsz]
  .rw[HZ e,HZ e];refine h.agree t (λi oi hi hCi hLi=>ht i oi hi (hup i hCi) ?_);have hne:j≠i:=λx=>by subst x;rw[hC]at hCi;cases hCi
   rw[getD_set_ne false hne];exact hLi
 .intro i oi hi hCi hLi;obtain⟨hne,hLi'⟩:=hLcase i hLi;have hCi':=(hcase i hCi).resolve_left hne;obtain⟨v,hv,hlv,hpv⟩:=h.pend i oi hi hCi' hLi';refine⟨v,λhst w'' hw=>?_,λhlo w''=>?_,?_⟩
  .have hnl:∀d,o.dst=some d->d∉oi.looksAt ops:=λd hd hm=>by
    have:=h.clC i oi hi hCi' j (hst j o d ho hd hm);rw[this]at hC;cases hC
   have hy:Yd P ops w'' oi v ac:=by
    rcases hw with hw|hw
    .exact hv hst w'' (.inl hw)
    .rw[hw];rcases hpend i oi v hi hCi' hLi' (hv hst w (.inr rfl))with h1|h1
     .exact h1
     .exact hv hst w' (.inl h1)
   exact hy.congr (execOp_put oi (hs.sel i oi · · hi) ac o.dst u hnl) (wanted_put oi ac o.dst u hnl)
  .have hnl:∀d,o.dst=some d->d∉oi.looksAt ops:=λd hd hm=>by
    have:=(hlo.look j o d ho hd hm).in_ hr h.clL;rw[this]at hLi';cases hLi'
   exact(hlv hlo w'').congr (execOp_put oi (hs.sel i oi · · hi) ar o.dst u hnl) (wanted_put oi ar o.dst u hnl)
  .rw[Act.put_comm ac u v (λd hd=>hs.dst i j oi o d hi ho hd hne),hpv]
end
section
variable{B:oW}{C:Ctx}{ι:Nat->Value}{σ:St}{a:Act}{w:World}
theorem N3{P:Program}{fl:Bool}{σ:St}{oj oi:Oper}{K:Prop}(h:Hi P fl σ oj oi K):Hi P fl σ oj oi True/\K:=by
 unfold Hi at h⊢
 repeat' split at h
 all_goals first|exact h.elim|skip
 all_goals simp_all
theorem IT{P:Program}{fl:Bool}{ops:Array Oper}{listed:Array Bool}{σ:St}{oj:Oper}:∀(l:List Oper)(s:Nat){K:Prop},F3 P fl ops listed σ oj s l K->
 K/\∀(i:Nat)(oi:Oper),l[i]? =some oi->listed.getD (s+i) false=true->Bq oi.op=true->waits oj (s+i)=false->uM ops σ oi=false->Hi P fl σ oj oi True
 |[],s,K,h=>⟨h,λi oi hi=>by simp at hi⟩
 |o::l,s,K,h=>by
  have key:(F3 P fl ops listed σ oj (s+1) l K)/\(listed.getD s false=true->Bq o.op=true->waits oj s=false->uM ops σ o=false->Hi P fl σ oj o True):=by
   simp only[F3]at h;split at h
   .obtain⟨h1,h2⟩:=N3 h;exact⟨h2,λ_ _ _ _=>h1⟩
   .rename_i hn;refine⟨h,λh1 h2 h3 h4=>?_⟩;exact(hn h1 h2 h3 h4).elim
  obtain⟨hK,ih⟩:=IT l (s+1) key.1;refine⟨hK,λi oi hi h1 h2 h3 h4=>?_⟩;cases i with
  |zero=>simp at hi;subst hi;exact key.2 (by simpa using h1) h2 (by simpa using h3) h4
  |succ i=>
   simp only[List.getElem?_cons_succ]at hi;exact ih i oi hi (by rw[show s+1+i=s+(i+1)by omega];exact h1) h2 (by rw[show s+1+i=s+(i+1)by omega];exact h3) h4
theorem N2{σ:St}{oj oi:Oper}{τ:St}{K:Prop}(h:Ez σ oj oi τ K):Ez σ oj oi τ True/\K:=by
 unfold Ez at h⊢
 repeat' split at h
 all_goals simp_all
theorem Hh{ops:Array Oper}{listed:Array Bool}{σ:St}{oj:Oper}{τ:St}:∀(l:List Oper)(s:Nat){K:Prop},CJ ops listed σ oj τ s l K->
 K/\∀(i:Nat)(oi:Oper),l[i]? =some oi->listed.getD (s+i) false=true->Bq oi.op=true->waits oj (s+i)=false->uM ops σ oi=false->Ez σ oj oi τ True
 |[],s,K,h=>⟨h,λi oi hi=>by simp at hi⟩
 |o::l,s,K,h=>by
  have key:(CJ ops listed σ oj τ (s+1) l K)/\(listed.getD s false=true->Bq o.op=true->waits oj s=false->uM ops σ o=false->Ez σ oj o τ True):=by
   simp only[CJ]at h;split at h
   .obtain⟨h1,h2⟩:=N2 h;exact⟨h2,λ_ _ _ _=>h1⟩
   .rename_i hn;refine⟨h,λh1 h2 h3 h4=>?_⟩;exact(hn h1 h2 h3 h4).elim
  obtain⟨hK,ih⟩:=Hh l (s+1) key.1;refine⟨hK,λi oi hi h1 h2 h3 h4=>?_⟩;cases i with
  |zero=>simp at hi;subst hi;exact key.2 (by simpa using h1) h2 (by simpa using h3) h4
  |succ i=>
   simp only[List.getElem?_cons_succ]at hi;exact ih i oi hi (by rw[show s+1+i=s+(i+1)by omega];exact h1) h2 (by rw[show s+1+i=s+(i+1)by omega];exact h3) h4
theorem M5{ops:Array Oper}{oi:Oper}(hM:aH B ι σ a w)(h:uM ops σ oi=true):Region.wanted oi (yielded ops a.tmps)=false:=by
 unfold uM at h;split at h
 .cases h
 .rename_i j want hg;split at h
  .cases h
  .rename_i g hj;split at h
   .cases h
   .rename_i d hd;split at h
    .rename_i t ht;rw[KK hg hj hd (DV hM ht)];split at h
     .rfl
     .rfl
     .cases h
    .rename_i xs ht;exact Er hg hj hd (IQ hM ht)
    .cases h
theorem xS(hM:aH B ι σ a w){k:Nat}{ow:Own}(hown:nth σ.own k=some (some ow)){b:Nat}(hb:blk (ι k)=some b):∀{l:List Operand},DH σ k l=true->∀x∈l,∀j,(σ.ev x= .at (.lst j)\/∃off,σ.ev x= .at (.ptr j off))->blk (ι j)≠some b
 |[],_,x,hx=>by cases hx
 |y::r,h,x,hx=>by
  simp only[DH,Bool.and_eq_true]at h;rcases List.mem_cons.1 hx with rfl|hx
  .intro j hj hbj;have h1:=h.1;rcases hj with hj|⟨off,hj⟩
   all_goals
    simp only[hj]at h1;split at h1
    .rename_i o' ho';have:=hM.dist j k _ _ b ho' hown hbj hb;subst this;simp at h1
    .cases h1
  .exact xS hM hown hb h.2 x hx
theorem W5{ops:Array Oper}{fl:Bool}{oj oi:Oper}{v:Value}{w':World}(hM:aH B ι σ a w)(hk:Eo σ ι oj w w')(hst:Hi C.P fl σ oj oi True)(hpost:fl=true->∃τ:St,Ab B τ.m τ.h w'/\Ez σ oj oi τ True)(hy:Yd C.P ops w oi v a):Yd C.P ops w' oi v a\/vP C.P oi=false:=by
 unfold Hi at hst;split at hst
 .rename_i hm;exact .inr hm
 .left;rcases hy with⟨hw,hrun⟩|hy
  .left;refine⟨hw,?_⟩;split at hst
   .rename_i T x hop;split at hst
    .exact hst.elim
    .rename_i hT;have hev:=hM.ev x
     have gen:∀(b off:Nat)(cs:List Value),a.eval x= .pointer (some ⟨b,off,none⟩)->cs.length=C.P.cellsOf T->(∀j u,cs[j]? =some u->w.cell? ⟨b,off+j,none⟩=some u)->(∀j u,cs[j]? =some u->w'.cell? ⟨b,off+j,none⟩=some u)->
      (execOp a.eval oi).run C.P w'= .ok (.value v) w':=by
      intro b off cs hx hl hc hc';have h1:=uP hT hl hc;have h2:=uP hT hl hc'
      have e1:(execOp a.eval oi).run C.P w= .ok (.value (W7 C.P T cs)) w:=by
       unfold execOp;simp only[hop,hx,Instr.loadAt,Instr.sureAddr,Sem.run_bind,Sem.run_pure,Result.andThen_ok,h1]
      have e2:(execOp a.eval oi).run C.P w'= .ok (.value (W7 C.P T cs)) w':=by
       unfold execOp;simp only[hop,hx,Instr.loadAt,Instr.sureAddr,Sem.run_bind,Sem.run_pure,Result.andThen_ok,h2]
      rw[e1]at hrun;simp only[Result.ok.injEq,Next.value.injEq,and_true]at hrun;rw[e2,hrun]
     split at hst
     .rename_i k off hx;rw[hx]at hev;split at hst
      .rename_i p T' cs hown;split at hst
       .rename_i ht hle;have hle:=Nat.le_of_ble_eq_true hle;obtain⟨b,vs,hι,hh,hdc⟩:=sW hM hown;obtain⟨b',hb',hpt⟩:=hev;rw[hι]at hb';simp only[Value.pointer.injEq,Option.some.injEq,Addr.mk.injEq]at hb';obtain⟨rfl, -, -⟩:=hb';have hh':=hk.cells k p T' cs b hown ht hι;rw[hh]at hh';have hvs:cs.length=vs.toList.length:=hdc.length;refine gen b off ((vs.toList.drop off).take (C.P.cellsOf T)) hpt (by simp at hvs⊢;omega) (λj u hu=>?_) (λj u hu=>?_)
        .rw[cell_of_heap hh];exact sT hu
        .rw[cell_of_heap hh'];exact sT hu
       .exact hst.elim
      .exact hst.elim
     .rename_i b off d hx hd;rw[hx]at hev;have hev:a.eval x= .pointer (some ⟨b,off,none⟩):=hev;split at hst
      .rename_i cs hcs;split at hst
       .rename_i l hl;split at hst
        .rename_i hlen;split at hst
         .rename_i hgr;have hc:=AI hM.wrel hst.1;refine gen b off l hev (Nat.eq_of_beq_eq_true hlen) hc (λj u hu=>?_);have h1:=hc j u hu;cases hgr2:vQ oj.op with
          |false=>
           rw[hgr2,Bool.false_or]at hgr;obtain⟨τ,hwτ,h2⟩:=hpost hgr;unfold Ez at h2;simp only[hop,hx,hd,hcs,hl,hgr2]at h2;exact AI hwτ h2.1 j u hu
          |true=>
          have hgr:=hgr2;rw[<-h1];exact World.cell?_of_block (w:=w) (w':=w') (a:=⟨b,off+j,none⟩) (hk.ext hgr b (World.block_lt_of_cell? w ⟨b,off+j,none⟩ h1))
         .refine gen b off l hev (Nat.eq_of_beq_eq_true hlen) (λj u hu=>hM.wrel.hsat _ _ _ (hst.1.rd j u hu)) (λj u hu=>hk.imm _ _ _ (hst.1.rd j u hu))
        .exact hst.elim
       .exact hst.elim
      .exact hst.elim
     .rename_i k i sz off d hx hd;rw[hx]at hev;split at hst
      .rename_i E' s xs cs hown hcs;split at hst
       .rename_i l hl hs hap;have hs:=Nat.eq_of_beq_eq_true hs;subst hs;split at hst
        .rename_i hlen;obtain⟨e,he,hel⟩:=hst.1;obtain⟨hrows,hrow⟩:=nJ hM hown;obtain⟨b,n,c,hι,hp⟩:=hev
         have blkSame:∀b,blk (ι k)=some b->w'.heap[b]? =w.heap[b]? :=by
          intro b hb;have hlt:=nG (hM.own k _ hown) hb;unfold Np at hap;rw[Bool.or_eq_true]at hap;rcases hap with hap|hap
          .exact hk.ext hap b hlt
          .split at hap
           .rename_i l hl;refine hk.args l b hl hlt (hM.fresh k _ b hown hb).2.1 ?_;exact xS hM hown hb hap
           .cases hap
         have hrow':w'.ownsRow 0 E' s (ι k) xs.length xs.flatten:=((hM.own k _ hown).world (λb hb=>blkSame b hb)).2
         have rd:∀w1:World,w1.ownsRow 0 E' s (ι k) xs.length xs.flatten->∀j u,l[j]? =some u->w1.cell? ⟨b,i*s+off+j,none⟩=some u:=by
          intro w1 h1 j u hu;rw[<-hel]at hu;have hv':=sT hu;have hf:=kY hrows.len he _ _ hv';have:=h1.cells (g:=b) (by rw[hι];rfl) _ _ hf;rw[Addr.add_none]at this;rw[<-this];congr 1;simp only[Addr.mk.injEq,and_true,true_and];omega
         exact gen b (i*s+off) l hp (Nat.eq_of_beq_eq_true hlen) (rd w hrow) (rd w' hrow')
        .exact hst.elim
       .exact hst.elim
      .exact hst.elim
     .exact hst.elim
   .rename_i src dst x hop;have hev:=hM.ev x;split at hst
    .rename_i k d hx hd;rw[hx]at hev;have hev:a.eval x=ι k:=hev;split at hst
     .rename_i E' sz xs s hown hs;split at hst
      .rename_i E hsrc hdst;split at hst
       .rename_i hE;split at hst
        .rename_i hap;have hxs:=hst.1;obtain⟨hrows,hrow⟩:=nJ hM hown;have hbl:xs=bH s.data.toList:=hxs
         have blkSame:∀b,blk (ι k)=some b->w'.heap[b]? =w.heap[b]? :=by
          intro b hb;have hlt:=nG (hM.own k _ hown) hb;unfold Np at hap;rw[Bool.or_eq_true]at hap;rcases hap with hap|hap
          .exact hk.ext hap b hlt
          .split at hap
           .rename_i l hl;refine hk.args l b hl hlt (hM.fresh k _ b hown hb).2.1 ?_;exact xS hM hown hb hap
           .cases hap
         have hrow':w'.ownsRow 0 E' sz (ι k) xs.length xs.flatten:=((hM.own k _ hown).world (λb hb=>blkSame b hb)).2
         have go:∀w1:World,w1.ownsRow 0 E' sz (ι k) xs.length xs.flatten->(execOp a.eval oi).run C.P w1= .ok (.value (.string ⟨s.data.toList.toArray⟩)) w1:=by
          intro w1 h1;subst hbl;exact BD hop hsrc hE hdst hev h1
         rw[go w hrow]at hrun;rw[go w' hrow'];simp only[Result.ok.injEq,Next.value.injEq,and_true]at hrun;rw[hrun]
        .exact hst.elim
       .exact hst.elim
      .exact hst.elim
     .exact hst.elim
    .exact hst.elim
   .exact hst.elim
  .exact .inr hy
theorem Mf{g:Nat->Prop}:∀{l:List Nat},Wq g l->∀j∈l,g j
 |[],_,j,hj=>by cases hj
 |[i],h,j,hj=>by simp at hj;subst hj;exact h
 |i::k::r,h,j,hj=>by
  rcases List.mem_cons.1 hj with rfl|hj
  .exact h.1
  .exact Mf h.2 j hj
theorem Bs{ops:Array Oper}:∀{l:List Nat}{i:Nat}{o:Oper},Dm ops l=some (i,o)->i∈l/\ops[i]? =some o/\Bq o.op=true
 |[],i,o,h=>by simp[Dm]at h
 |k::r,i,o,h=>by
  simp only[Dm]at h;split at h
  .rename_i ok hok;split at h
   .rename_i hr;simp only[Option.some.injEq,Prod.mk.injEq]at h;obtain⟨rfl,rfl⟩:=h;rw[iK,Array.getElem?_toList]at hok;exact⟨List.mem_cons_self,hok,hr⟩
   .obtain⟨h1,h2⟩:=Bs h;exact⟨List.mem_cons_of_mem _ h1,h2⟩
  .obtain⟨h1,h2⟩:=Bs h;exact⟨List.mem_cons_of_mem _ h1,h2⟩
def pG(ops:Array Oper)(L:Array Bool):Nat:=((List.range ops.size).filter λi=> !L.getD i false).length
theorem Et{ops:Array Oper}{L:Array Bool}{i:Nat}(hsz:L.size=ops.size)(hi:i<ops.size)(hL:L.getD i false=false):pG ops (L.setIfInBounds i true)+1=pG ops L:=by
 unfold pG
 have key:∀(l:List Nat),l.Nodup->(l.filter λj=> !(L.setIfInBounds i true).getD j false).length+(if i∈l then 1 else 0)=(l.filter λj=> !L.getD j false).length:=by
  intro l
  induction l with
  |nil=>intro _;simp
  |cons j r ih=>
   intro hnd;have hnd':=List.nodup_cons.1 hnd;have:=ih hnd'.2;by_cases e:i=j
   .subst e;have h1:(L.setIfInBounds i true).getD i false=true:=pK aC;have h2:i∉r:=hnd'.1;simp only[List.filter_cons,h1,hL,Bool.not_true,Bool.not_false,if_true,Bool.false_eq_true,if_false,List.length_cons,List.mem_cons_self];simp only[h2,if_false]at this;omega
   .have h1:(L.setIfInBounds i true).getD j false=L.getD j false:=getD_set_ne false e;have h2:(i∈j::r)↔i∈r:=by simp[e]
    simp only[List.filter_cons,h1];split
    .simp only[List.length_cons,h2];omega
    .simp only[h2];exact this
 have:=key (List.range ops.size) List.nodup_range;rw[if_pos (List.mem_range.2 hi)]at this;exact this
theorem G6{ops:Array Oper}{L:Array Bool}(hs:Yy ops)(hsz:L.size=ops.size)(h:Region.ready .any ops L=[]):∀i,i<ops.size->L.getD i false=true:=by
 intro i
 induction i using Nat.strongRecOn with
 |_ i ih=>
  intro hi;cases hL:L.getD i false with
  |true=>rfl
  |false=>
   exfalso;have ho:ops[i]? =some ops[i]:=Array.getElem?_eq_getElem hi
   have:i∈Region.ready .any ops L:=by
    rw[qO];refine⟨?_,_,ho,λk hk=>ih k (hs.topo i _ k ho hk) (Nat.lt_trans (hs.topo i _ k ho hk) hi)⟩;have hiL:i<L.size:=by omega
    simp[Array.getD,hiL]at hL⊢
    exact hL
   rw[h]at this;cases this
theorem Ah{ops:Array Oper}{L:Array Bool}(h:∀i,i<ops.size->L.getD i false=true):Region.ready .any ops L=[]:=by
 cases hr:Region.ready .any ops L with
 |nil=>rfl
 |cons i r=>
  exfalso;have:i∈Region.ready .any ops L:=by rw[hr];exact List.mem_cons_self
  obtain⟨h1,o,ho,_⟩:=qO.1 this;have hi:=(Array.getElem?_eq_some_iff.1 ho).1;have:=h i hi;rw[(IC h1).1]at this;cases this
theorem Mh.eq_of_all{P:Program}{ops:Array Oper}{L Cl:Array Bool}{ar ac:Act}(h:Mh P ops L Cl ar ac w)(hall:∀i,i<ops.size->L.getD i false=true):ar=ac:=by
 have ht:ar.tmps=ac.tmps:=by
  apply Array.ext_getElem?;intro t;refine h.agree t (λi o ho _ hL=>?_);have:=hall i (Array.getElem?_eq_some_iff.1 ho).1;rw[hL]at this;cases this
 have hd:=h.df;cases ar;cases ac;simp at ht hd;rw[ht,hd]
theorem UW{ops:Array Oper}{R:St->Prop}{n:Nat}{Cl:Array Bool}(h:zD C ops n Cl σ R)(hr:Region.ready .any ops Cl=[]):R σ:=by
 cases n<;>simp only[zD,hr]at h<;>exact h
theorem P3{ops:Array Oper}{listed:Array Bool}{σ:St}{oj:Oper}{τ:St}{K:Prop}(h:FU C ops listed σ oj τ K):
 (R3 C=true->∀(i:Nat)(oi:Oper),ops.toList[i]? =some oi->listed.getD (0+i) false=true->Bq oi.op=true->waits oj (0+i)=false->uM ops σ oi=false->Ez σ oj oi τ True)/\K:=by
 unfold FU at h;split at h
 .rename_i e;obtain⟨h1,h2⟩:=Hh _ 0 h;exact⟨λ_=>h2,h1⟩
 .rename_i e;refine⟨λe2=>?_,h⟩;rw[e]at e2;cases e2
theorem Me(hspecs:∀g S,assoc C.specs g=some S->Sound C.P g S){ops:Array Oper}(hs:Yy ops){Q:Exit->Act->World->Prop}{R:St->Prop}(hQ:∀ι σ a w,aH B ι σ a w->R σ->Q .normal a w)
 (hQp:∀c a w,¬Q (.panic c) a w):
 ∀(n:Nat)(fuel:Nat)(Cl:Array Bool)(ι:Nat->Value)(σ:St)(ac:Act)(w:World),aH B ι σ ac w->zD C ops n Cl σ R->∀(L:Array Bool)(ar:Act),Mh C.P ops L Cl ar ac w->pG ops L=fuel->
  wpAny C.P .any ops Q fuel L ar w:=by
 have fin:∀(n:Nat)(Cl:Array Bool)(ι:Nat->Value)(σ:St)(ac:Act)(w:World),aH B ι σ ac w->zD C ops n Cl σ R->∀(L:Array Bool)(ar:Act),Mh C.P ops L Cl ar ac w->Region.ready .any ops L=[]->Q .normal ar w:=by
  intro n Cl ι σ ac w hM h L ar sim hr;have hall:=G6 hs sim.szL hr;rw[sim.eq_of_all hall];exact hQ ι σ ac w hM (UW h (Ah (λi hi=>sim.sub i (hall i hi))))
 have zero:∀(n:Nat)(Cl:Array Bool)(ι:Nat->Value)(σ:St)(ac:Act)(w:World),aH B ι σ ac w->zD C ops n Cl σ R->∀(L:Array Bool)(ar:Act),Mh C.P ops L Cl ar ac w->pG ops L=0->wpAny C.P .any ops Q 0 L ar w:=by
  intro n Cl ι σ ac w hM h L ar sim hf
  have hall:∀i,i<ops.size->L.getD i false=true:=by
   intro i hi;unfold pG at hf;have hnil:=List.eq_nil_of_length_eq_zero hf;cases hL:L.getD i false with
   |true=>rfl
   |false=>
    have:i∈(List.range ops.size).filter λi=> !L.getD i false:=List.mem_filter.2 ⟨List.mem_range.2 hi,by simp[hL]⟩;rw[hnil]at this;cases this
  have hr:=Ah hall;exact⟨hr,fin n Cl ι σ ac w hM h L ar sim hr⟩
 have stepP:∀(n fuel:Nat),(∀(Cl:Array Bool)(ι:Nat->Value)(σ:St)(ac:Act)(w:World),aH B ι σ ac w->zD C ops n Cl σ R->∀(L:Array Bool)(ar:Act),Mh C.P ops L Cl ar ac w->pG ops L=fuel->wpAny C.P .any ops Q fuel L ar w)->
  ∀(Cl:Array Bool)(ι:Nat->Value)(σ:St)(ac:Act)(w:World),aH B ι σ ac w->zD C ops n Cl σ R->∀(L:Array Bool)(ar:Act),Mh C.P ops L Cl ar ac w->pG ops L=fuel+1->
   ∀i∈Region.ready .any ops L,Cl.getD i false=true->wpOp C.P ops Q i (wpAny C.P .any ops Q fuel (L.setIfInBounds i true)) ar w:=by
  intro n fuel ih Cl ι σ ac w hM h L ar sim hf i hi hC;obtain⟨hun,o,ho,hw⟩:=qO.1 hi;obtain⟨hL,hlt⟩:=IC hun;obtain⟨v,hv,hlv,hpv⟩:=sim.pend i o ho hC hL
  have hy:Yd C.P ops w o v ar:=by
   rcases hs.look i o ho with hst|hlo
   .obtain⟨he,hwe⟩:=Ei (hs.sel i o · · ho) (sim.looks hst hw);exact(hv hst w (.inr rfl)).congr he hwe
   .exact hlv hlo w
  have hnext:wpAny C.P .any ops Q fuel (L.setIfInBounds i true) (ar.put o.dst v) w:=
   ih Cl ι σ ac w hM h _ _ (sim.stepA hs ho hC hw hpv) (by have:=Et sim.szL (by have:=sim.szL;omega) hL;omega)
  unfold wpOp;simp only[ho];rcases hy with⟨hwt,hrun⟩|⟨hwt,rfl⟩
  .rw[if_pos hwt];left;unfold Oper.wp;rw[hrun,Oper.upon_value];exact hnext
  .rw[if_neg (by simp[hwt])];exact hnext
 intro n
 induction n with
 |zero=>
  intro fuel
  induction fuel with
  |zero=>exact zero 0
  |succ fuel ihf=>
   intro Cl ι σ ac w hM h L ar sim hf;refine⟨fin 0 Cl ι σ ac w hM h L ar sim,λi hi=>?_⟩;cases hC:Cl.getD i false with
   |true=>exact stepP 0 fuel ihf Cl ι σ ac w hM h L ar sim hf i hi hC
   |false=>
    exfalso;obtain⟨hun,o,ho,hw⟩:=qO.1 hi
    have hiC:i∈Region.ready .any ops Cl:=by
     rw[qO];refine⟨?_,o,ho,λk hk=>sim.sub k (hw k hk)⟩;have:i<Cl.size:=by rw[sim.szC];exact(Array.getElem?_eq_some_iff.1 ho).1
     simp[Array.getD,this]at hC⊢
     exact hC
    simp only[zD]at h;split at h
    .rename_i hr;rw[hr]at hiC;cases hiC
    .exact h
 |succ n ihn=>
  intro fuel
  induction fuel with
  |zero=>exact zero (n+1)
  |succ fuel ihf=>
   intro Cl ι σ ac w hM h L ar sim hf;refine⟨fin (n+1) Cl ι σ ac w hM h L ar sim,λi hi=>?_⟩;cases hC:Cl.getD i false with
   |true=>exact stepP (n+1) fuel ihf Cl ι σ ac w hM h L ar sim hf i hi hC
   |false=>
    obtain⟨hun,o,ho,hw⟩:=qO.1 hi;obtain⟨hLi,hlt⟩:=IC hun
    have hiC:i∈Region.ready .any ops Cl:=by
     rw[qO];refine⟨?_,o,ho,λk hk=>sim.sub k (hw k hk)⟩;have:i<Cl.size:=by rw[sim.szC];exact(Array.getElem?_eq_some_iff.1 ho).1
     simp[Array.getD,this]at hC⊢
     exact hC
    simp only[zD]at h;split at h
    .rename_i hr;rw[hr]at hiC;cases hiC
    .split at h
     ·
      rename_i k ok hfr;obtain⟨hkr,hok,hkrd⟩:=Bs hfr;obtain⟨hkun,ok',hok',hkw⟩:=qO.1 hkr;rw[hok]at hok';cases hok';obtain⟨hkC,hklt⟩:=IC hkun;obtain⟨σ1,hM1,hfz,hc⟩:=Cp hM h;rcases hc with⟨hwt,h⟩|⟨hwt,h⟩
      .obtain⟨v,x,hrun,hx,hK⟩:=Vj hM1 hkrd h;have hsim:=sim.take hs hok hkC hkw hkrd (v:=v) (λw'' hw''=>.inl ⟨hwt,hrun w'' hw''⟩);exact(ihn (fuel+1) _ ι _ _ w (hM1.put ok.dst hx) hK L ar hsim hf).2 i hi
      .have hsim:=sim.take hs hok hkC hkw hkrd (v:=undef) (λw'' _=>.inr ⟨hwt,rfl⟩);exact(ihn (fuel+1) _ ι _ _ w (hM1.put ok.dst (x:=.at (.val undef)) rfl) h L ar hsim hf).2 i hi
     ·
      have hg:=Mf h i hiC;split at hg
      .rename_i o' ho';rw[iK,Array.getElem?_toList,ho]at ho';cases ho';obtain⟨hg,hstab⟩:=IT _ 0 hg;obtain⟨he,hwe⟩:=Ei (hs.sel i o · · ho) ((hs.look i o ho).elim (sim.looks · hw) (sim.looks' · hC));have hgw:=OI hspecs hM hg (λa' w'=>∃ι' σ',aH B ι' σ' a' w'/\FU C ops Cl σ o σ' (zD C ops n (Cl.setIfInBounds i true) σ' R)/\Eo σ ι o w w') Q (λι' σ' a' w' h1 h2 h3=>⟨ι',σ',h1,h2,h3⟩)
       have hB:∀(u:Value)(w':World),(∃ι' σ',aH B ι' σ' (ac.put o.dst u) w'/\FU C ops Cl σ o σ' (zD C ops n (Cl.setIfInBounds i true) σ' R)/\Eo σ ι o w w')->
        wpAny C.P .any ops Q fuel (L.setIfInBounds i true) (ar.put o.dst u) w':=by
        rintro u w' ⟨ι',σ',hM',h',hk'⟩;obtain⟨hpo,h'⟩:=P3 h';refine ihn fuel _ ι' σ' _ w' hM' h' _ _ (sim.stepB hs ho hC hw u w' ?_) (by have:=Et sim.szL (by have:=sim.szL;omega) hLi;omega);intro j oj v hj hCj hLj hy;cases hun':uM ops σ oj with
        |true=>
         have:=M5 hM hun';rcases hy with⟨h1,_⟩|h1
         .rw[this]at h1;cases h1
         .exact .inl (.inr h1)
        |false=>
         have hnw:waits o j=false:=by
          cases hwj:waits o j with
          |false=>rfl
          |true=>rw[hw j hwj]at hLj;cases hLj
         have hst:=hstab j oj (by rw[Array.getElem?_toList];exact hj) (by simpa using hCj) (sim.rd j oj hj hCj hLj) (by simpa using hnw) hun';exact W5 hM hk' hst (λe=>⟨σ',hM'.wrel,hpo e j oj (by rw[Array.getElem?_toList];exact hj) (by simpa using hCj) (sim.rd j oj hj hCj hLj) (by simpa using hnw) hun'⟩) hy
       unfold ZJ at hgw;unfold wpOp;simp only[ho];rw[hwe];split
       .rename_i hwt;rw[if_pos hwt]at hgw;left;refine NS he hgw hB ?_ hQp;rintro d w' ⟨ι',σ',hM',_⟩;have:=hM'.defers;rw[<-hM.defers]at this;cases hd:o.dst<;>simp[Act.put,hd]at this
       .rename_i hwt;rw[if_neg hwt]at hgw;exact hB undef w hgw
      .exact hg.elim
end
end Go.Vc
namespace Go.Vc
open Go
section
variable{B:oW}{C:Ctx}{ι:Nat->Value}{σ:St}{a:Act}{w:World}
theorem uL:∀{xs ys:List SV}{vs:List Value}{K:Prop},yW xs ys K->DenS ι xs vs->DenS ι ys vs/\K
 |[],[],vs,K,h,hd=>⟨hd,h⟩
 |x::xs,y::ys,[],K,_,hd=>hd.elim
 |x::xs,y::ys,v::vs,K,h,hd=>by
  unfold yW at h;split at h
  .rename_i h1 h2;cases h1
  .rename_i x' xs' ys' h1 h2;simp only[List.cons.injEq]at h1 h2;obtain⟨rfl,rfl⟩:=h1;obtain⟨rfl,rfl⟩:=h2;have:=uL h hd.2;exact⟨⟨trivial,this.1⟩,this.2⟩
  .rename_i x' xs' y' ys' _ h1 h2;simp only[List.cons.injEq]at h1 h2;obtain⟨rfl,rfl⟩:=h1;obtain⟨rfl,rfl⟩:=h2;obtain⟨rfl,h⟩:=h;have:=uL h hd.2;exact⟨⟨hd.1,this.1⟩,this.2⟩
  .exact h.elim
 |[],_::_,_,K,h,_=>by simp[yW]at h
 |_::_,[],_,K,h,_=>by simp[yW]at h
theorem sD:∀{xs ys:List (Option Own)}{K:Prop},sE xs ys K->(∀k o,nth ys k=some (some o)->nth xs k=some (some o))/\K
 |[],[],K,h=>⟨λk o hk=>by simp[nth]at hk,h⟩
 |x::xs,none::ys,K,h=>by
  simp only[sE]at h;obtain⟨h1,h2⟩:=sD h;refine⟨λk o hk=>?_,h2⟩;cases k with
  |zero=>simp[nth]at hk
  |succ k=>exact h1 k o hk
 |x::xs,some y::ys,K,h=>by
  simp only[sE]at h;obtain⟨rfl,h⟩:=h;obtain⟨h1,h2⟩:=sD h;refine⟨λk o hk=>?_,h2⟩;cases k with
  |zero=>exact hk
  |succ k=>exact h1 k o hk
 |[],_::_,K,h=>by simp[sE]at h
 |_::_,[],K,h=>by simp[sE]at h
theorem aH.setSlot(hM:aH B ι σ a w){i:Nat}{x:SV}{v:Value}(hv:a.tmps[i]? =some v)(hx:Den ι x v):aH B ι (σ.put (some i) x) a w:=by
 refine⟨?_,hM.defers,hM.own,hM.dist,hM.fresh,hM.wrel,hM.one⟩;have:=hM.slots.set i hx;show DenS ι (σ.sl.set i x) a.tmps.toList
 have e:a.tmps.toList.set i v=a.tmps.toList:=by
  apply List.ext_getElem?;intro j;rw[List.getElem?_set];split
  .rename_i hj;subst hj;rw[Array.getElem?_toList,hv];split
   .rfl
   .rename_i hlt;simp at hlt;rw[Array.getElem?_eq_none hlt]at hv;cases hv
  .rfl
 rw[e]at this;exact this
theorem aH.nilList(hM:aH B ι σ a w)(k E sz:Nat):aH B (upd ι k (.slice none 0 0)) ((σ.kill k).setOwn k (some (.lst E sz []))) a w:=by
 refine hM.place k _ _ (As.refl _ _) ⟨DZ sz,World.ownsRow_nil w 0 E sz⟩ rfl (λb hb=>by simp[blk]at hb)
theorem oU(τ:St):∀(ys:List SV)(i:Nat)(ι:Nat->Value)(σ:St),aH B ι σ a w->∃ι',aH B ι' (Ni τ ys i σ) a w
 |[],i,ι,σ,hM=>⟨ι,hM⟩
 |y::ys,i,ι,σ,hM=>by
  simp only[Ni];split
  .rename_i k;split
   .rename_i hs;split
    .rename_i E sz xs hτ hσ
     have hv:a.tmps[i]? =some (.slice none 0 0):=by
      rw[iK]at hs;obtain⟨v,hv,hd⟩:=hM.slots.get i _ hs;rw[Array.getElem?_toList]at hv;have hd:v= .slice none 0 0:=hd;rw[hv,hd]
     exact oU τ ys (i+1) _ _ ((hM.nilList k E sz).setSlot hv (x:=.at (.lst k)) (by show _=_;simp))
    .exact oU τ ys (i+1) ι σ hM
   .exact oU τ ys (i+1) ι σ hM
  .exact oU τ ys (i+1) ι σ hM
theorem kQ(τ:St)(q:Nat):∀(ys:List At)(j:Nat)(ι:Nat->Value)(σ:St),aH B ι σ a w->∃ι',aH B ι' (DE τ q ys j σ) a w
 |[],j,ι,σ,hM=>⟨ι,hM⟩
 |y::ys,j,ι,σ,hM=>by
  simp only[DE];split
  .rename_i k;split
   .rename_i p T cs hq;split
    .rename_i hj;split
     .rename_i E sz xs hτ hσ;have hqk:q≠k:=λe=>by subst e;rw[hσ]at hq;cases hq
      have h1:=hM.nilList k E sz
      have hq1:nth ((σ.kill k).setOwn k (some (.lst E sz []))).own q=some (some (.cellsP p T (cs.map (At.sub k (λ_=>.junk))))):=by
       simp only[Iz,St.setOwn,St.sub,tR,vW,hqk,false_and,if_false,hq];rfl
      obtain⟨b,vs,hι,hh,hd⟩:=sW h1 hq1
      have hvj:vs.toList[j]? =some (.slice none 0 0):=by
       obtain⟨b0,vs0,hι0,hh0,hd0⟩:=sW hM hq;rw[iK]at hj;obtain⟨v,hv,hdv⟩:=hd0.get j _ hj;have hdv:v= .slice none 0 0:=hdv;rw[lO _ _ hqk,hι0]at hι;simp only[Value.pointer.injEq,Option.some.injEq,Addr.mk.injEq]at hι;obtain⟨rfl, -, -⟩:=hι;rw[hh0]at hh;simp only[Option.some.injEq,Obj.cells.injEq]at hh;rw[<-hh.1,hv,hdv]
      have hset:vs.toList.set j (.slice none 0 0)=vs.toList:=by
       apply List.ext_getElem?;intro t;rw[List.getElem?_set];split
       .rename_i e;subst e;rw[hvj];split
        .rfl
        .rename_i hlt;rw[List.getElem?_eq_none (Nat.le_of_not_lt hlt)]at hvj;cases hvj
       .rfl
      have h2:aH B (upd ι k (.slice none 0 0)) (DX ((σ.kill k).setOwn k (some (.lst E sz []))) q j (.lst k)) a w:=by
       unfold DX;rw[hq1];refine h1.rewrite hq1 (As.refl _ _) ⟨b,vs,hι,hh,?_,λq' e=>by subst e;have:=Sz h1 hq1;rw[hι]at this;simpa using this⟩;have:=hd.set j (x:=.lst k) (v:=.slice none 0 0) (by show _=_;simp)
       rwa [hset]at this
      exact kQ τ q ys (j+1) _ _ h2
     .exact kQ τ q ys (j+1) ι σ hM
    .exact kQ τ q ys (j+1) ι σ hM
   .exact kQ τ q ys (j+1) ι σ hM
  .exact kQ τ q ys (j+1) ι σ hM
theorem uN(τ:St):∀(ys:List (Option Own))(q:Nat)(ι:Nat->Value)(σ:St),aH B ι σ a w->∃ι',aH B ι' (IE τ ys q σ) a w
 |[],q,ι,σ,hM=>⟨ι,hM⟩
 |y::ys,q,ι,σ,hM=>by
  simp only[IE];split
  .rename_i T cs;obtain⟨ι',hM'⟩:=kQ τ q cs 0 ι σ hM;exact uN τ ys (q+1) ι' _ hM'
  .exact uN τ ys (q+1) ι σ hM
theorem kV{τ:St}{K:Prop}(hM:aH B ι σ a w)(h:wP σ τ K):∃ι',aH B ι' τ a w/\K:=by
 obtain⟨ι1,hM1⟩:=oU τ τ.sl 0 ι σ hM;obtain⟨ι2,hM2⟩:=uN τ τ.own 0 ι1 _ hM1;have hM2:aH B ι2 (conv σ τ) a w:=hM2;unfold wP at h;obtain⟨hsl,h⟩:=uL h hM2.slots;obtain⟨hown,hm,hh,hK⟩:=sD h;refine⟨ι2,⟨hsl,hM2.defers,λk o hk=>hM2.own k o (hown k o hk),λk k' o o' b hk hk' hb hb'=>hM2.dist k k' o o' b (hown k o hk) (hown k' o' hk') hb hb',?_,?_,hM2.one⟩,hK⟩
 .intro k o b hk hb;rw[<-hm, <-hh];exact hM2.fresh k o b (hown k o hk) hb
 .rw[<-hm, <-hh];exact hM2.wrel
theorem aH.froze(hM:aH B ι σ a w){m2:MH}{h2:PH}(hF:CH σ.m σ.h m2 h2):aH B ι {σ with m:=m2,h:=h2} a w:=by
 have hw:=hM.wrel;refine⟨hM.slots,hM.defers,hM.own,hM.dist,λk o b hk hb=>?_,?_,hM.one⟩
 .obtain⟨f1,f2,f3⟩:=hM.fresh k o b hk hb;refine⟨f1,?_,λi=>?_⟩
  .show m2 b=none;cases e2:m2 b with
   |none=>rfl
   |some o=>rw[hF.sub b o e2]at f2;cases f2
  .show h2 b i=none;cases e2:h2 b i with
   |none=>rfl
   |some v=>
    rcases hF.new b i v e2 with h3|⟨cs,E,fz,h3,_,_⟩
    .rw[f3 i]at h3;cases h3
    .rw[f2]at h3;cases h3
 .refine⟨hw.tape,hw.os,hw.output,hw.drawn,hw.size,hw.frame,λb o v e=>?_,λb o e=>hw.msat b o (hF.sub b o e),λb o e i=>?_,λb o v e=>hF.le.le b o v (hw.hle b o v e),λb h1 h2'=>?_,λb o e=>hw.mfr b o (hF.sub b o e)⟩
  .rcases hF.new b o v e with h3|⟨cs,E,fz,h3,h4,_⟩
   .exact hw.hsat b o v h3
   .rw[cell_of_heap (hw.msat b _ h3),Array.getElem?_toList];exact h4
  .show h2 b i=none;have e:m2 b=some o:=e;cases e2:h2 b i with
   |none=>rfl
   |some v=>
    rcases hF.new b i v e2 with h3|⟨cs,E,fz,h3,h4,h5⟩
    .rw[hw.disj b o (hF.sub b o e) i]at h3;cases h3
    .rw[h5]at e;cases e
  .funext i;have e:=congrFun (hw.hold b h1 h2') i;show h2 b i=B.h0 b i;cases e2:B.h0 b i with
   |some v=>exact hF.le.le b i v (hw.hle b i v e2)
   |none=>
    cases e3:h2 b i with
    |none=>rfl
    |some v=>
     rcases hF.new b i v e3 with h3|⟨cs,E,fz,h3,h4,h5⟩
     .rw[e,e2]at h3;cases h3
     .rcases hw.mfr b _ h3 with h6|h6
      .omega
      .exact(h2' h6).elim
theorem Fo{τ:St}{K:Prop}(hM:aH B ι σ a w)(h:MZ σ τ K):∃ι',aH B ι' τ a w/\K:=by
 obtain⟨ι1,hM1⟩:=oU τ τ.sl 0 ι σ hM;obtain⟨ι2,hM2⟩:=uN τ τ.own 0 ι1 _ hM1;have hM2:aH B ι2 (conv σ τ) a w:=hM2;unfold MZ at h;obtain⟨hsl,h⟩:=uL h hM2.slots;obtain⟨hown,hF,hK⟩:=sD h;have hM3:=hM2.froze hF;exact⟨ι2,⟨hsl,hM2.defers,λk o hk=>hM2.own k o (hown k o hk),λk k' o o' b hk hk' hb hb'=>hM2.dist k k' o o' b (hown k o hk) (hown k' o' hk') hb hb',λk o b hk hb=>hM3.fresh k o b (hown k o hk) hb,hM3.wrel,hM2.one⟩,hK⟩
theorem uQ{c:oX}{R:c.A->Prop}(hM:aH B ι σ a w)(h:EF c R σ):∃x ι',R x/\aH B ι' (c.st x) a w:=by
 unfold EF at h;split at h
 .obtain⟨x,hx,hm⟩:=h;obtain⟨ι2,hM2,_⟩:=kV hM hm;exact⟨x,ι2,hx,hM2⟩
 .obtain⟨x,hx,hm⟩:=h ⟨hM.wrel.disj⟩;obtain⟨ι2,hM2,_⟩:=Fo hM hm;exact⟨x,ι2,hx,hM2⟩
theorem HJ{c:oX}{I S:c.A->Prop}(hM:aH B ι σ a w)(h:Nr c I S σ):∃x ι',I x/\S x/\aH B ι' (c.st x) a w:=by
 unfold Nr at h;split at h
 .obtain⟨x,hx,hs,hm⟩:=h;obtain⟨ι2,hM2,_⟩:=kV hM hm;exact⟨x,ι2,hx,hs,hM2⟩
 .obtain⟨x,hx,hs,hm⟩:=h ⟨hM.wrel.disj⟩;obtain⟨ι2,hM2,_⟩:=Fo hM hm;exact⟨x,ι2,hx,hs,hM2⟩
def QD(B:oW)(Q:BL->St->Prop):Exit->Act->World->Prop
 |.normal,a,w=>∃ι σ,aH B ι σ a w/\Q .normal σ
 |.exit id,a,w=>∃ι σ,aH B ι σ a w/\Q (.exit id) σ
 |.ret,a,w=>∃ι σ,aH B ι σ a w/\Q .ret σ
 |_,_,_=>False
theorem F5(hspecs:∀g S,assoc C.specs g=some S->Sound C.P g S){ops:Array Oper}{Q:BL->St->Prop}:
 ∀(segs:List (Nat×oX))(l:List Oper)(s:Nat)(ι:Nat->Value)(σ:St)(a:Act)(w:World),(∀j,l[j]? =ops.toList[s+j]?)->aH B ι σ a w->Vb C ops segs l σ (Q .normal)->wpOpsIn Fence.wide 0 C.P ops (QD B Q) (List.range' s l.length) a w
 |[],l,s,ι,σ,a,w,hl,hM,h=>by
  have:=DY hspecs (ops:=ops) (Q:=QD B Q) (R:=Q .normal) (rest:=[]) (λι σ a w hM h=>⟨ι,σ,hM,h⟩) l s ι σ a w (λj _=>hl j) hM h;simpa using this
 |(n,ann)::segs,l,s,ι,σ,a,w,hl,hM,h=>by
  obtain⟨I,h1,h2⟩:=h
  have:=DY hspecs (ops:=ops) (Q:=QD B Q) (R:=λτ=>∃x,I x/\wP τ (ann.st x) True) (rest:=List.range' (s+(l.take n).length) (l.drop n).length) (λι' σ' a' w' hM' hx=>by
   obtain⟨x,hx,hm⟩:=hx;obtain⟨ι2,hM2,_⟩:=kV hM' hm;refine F5 hspecs segs (l.drop n) (s+(l.take n).length) ι2 _ a' w' (λj=>?_) hM2 (h2 x hx);rw[List.getElem?_drop,hl];by_cases hn:n<=l.length
   .congr 1;simp;omega
   .have e1:l[n+j]? =none:=List.getElem?_eq_none aC;have e2:l[l.length+j]? =none:=List.getElem?_eq_none aC;rw[hl]at e1 e2;rw[e1,show s+(List.take n l).length+j=s+(l.length+j)by simp;omega,e2]) (l.take n) s ι σ a w (λj hj=>by
    rw[<-hl,List.getElem?_take];rw[if_pos (by simp at hj;omega)]) hM h1
  rwa [List.range'_append_1, <-List.length_append,List.take_append_drop]at this
theorem NT(hspecs:∀g S,assoc C.specs g=some S->Sound C.P g S):∀(c:Code)(σ:St)(Q:BL->St->Prop)(ι:Nat->Value)(a:Act)(w:World),aH B ι σ a w->VC C c σ Q->c.wp C.P (QD B Q) a w:=by
 intro c
 induction c with
 |skip=>intro σ Q ι a w hM h;exact wp_skip ⟨ι,σ,hM,h⟩
 |label l=>intro σ Q ι a w hM h;exact wp_label ⟨ι,σ,hM,h⟩
 |exit id=>intro σ Q ι a w hM h;exact wp_exit ⟨ι,σ,hM,h⟩
 |ret=>intro σ Q ι a w hM h;exact wp_ret ⟨ι,σ,hM,h⟩
 |goto l=>intro σ Q ι a w hM h;exact h.elim
 |refuse why=>intro σ Q ι a w hM h;exact h.elim
 |scope body ih=>intro σ Q ι a w hM h;exact h.elim
 |rangeFunc f ps x y ihx ihy=>intro σ Q ι a w hM h;exact h.elim
 |region id ops draw=>
  intro σ Q ι a w hM h;cases draw with
  |false=>
   refine(wpIn_wide (n:=0)).1 (wpIn_region ?_);have:=F5 hspecs (ops:=ops) (Q:=Q) (Qh C id) ops.toList 0 ι σ a w (λj=>by simp) hM h;rw[List.range_eq_range'];simpa using this
  |true=>
   simp only[VC]at h;split at h
   .rename_i h1 h2 h3;have hs:=U8 h1 h2;refine wp_region_any h3 ?_;refine Me hspecs hs (Q:=QD B Q) (R:=Q .normal) (λι σ a w hM h=>⟨ι,σ,hM,h⟩) (λc a w h=>h) ops.size ops.size _ ι σ a _ (hM.drew (w.drawn+1) (Nat.le_succ _)) h _ a ?_ ?_
    .have hno:∀i,(Array.replicate ops.size false).getD i false=true->False:=by
      intro i hi;by_cases hlt:i<ops.size
      .simp[Array.getD,hlt]at hi
      .simp[Array.getD,hlt]at hi
     exact⟨by simp,by simp,λi hi=>hi,λi o _ hi=>(hno i hi).elim,λi o _ hi=>(hno i hi).elim,λi o _ hi=>(hno i hi).elim,rfl,rfl,λt _=>rfl,λi o _ hi=>(hno i hi).elim⟩
    .unfold pG;rw[List.filter_eq_self.2]
     .simp
     .intro i hi;by_cases hlt:i<ops.size<;>simp[Array.getD,hlt]
   .exact h.elim
 |seq x y ihx ihy=>
  intro σ Q ι a w hM h;simp only[VC]at h;split at h
  .obtain⟨h,hall⟩:=h;refine wp_seq (wp_mono (ihx σ _ ι a w hM h) ?_);intro e a' w' hq;cases e with
   |normal=>
    obtain⟨ι',σ',hM',x,hx,hm⟩:=hq;show y.wp C.P (QD B Q) a' w';obtain⟨ι2,hM2,_⟩:=kV hM' hm;exact ihy _ Q ι2 a' w' hM2 (hall x hx)
   |exit id=>exact hq
   |ret=>exact hq
   |goto l=>exact hq
   |panic ch=>exact hq
   |outgrown=>exact hq
  .split at h
   .obtain⟨I,h,hall⟩:=h;refine wp_seq (wp_mono (ihx σ _ ι a w hM h) ?_);intro e a' w' hq;cases e with
    |normal=>
     obtain⟨ι',σ',hM',hm⟩:=hq;show y.wp C.P (QD B Q) a' w';obtain⟨x,ι2,hx,hM2⟩:=uQ hM' hm;exact ihy _ Q ι2 a' w' hM2 (hall x hx)
    |exit id=>exact hq
    |ret=>exact hq
    |goto l=>exact hq
    |panic ch=>exact hq
    |outgrown=>exact hq
   .refine wp_seq (wp_mono (ihx σ _ ι a w hM h) ?_);intro e a' w' hq;cases e with
    |normal=>
     obtain⟨ι',σ',hM',h'⟩:=hq;show y.wp C.P (QD B Q) a' w';exact ihy σ' Q ι' a' w' hM' h'
    |exit id=>exact hq
    |ret=>exact hq
    |goto l=>exact hq
    |panic ch=>exact hq
    |outgrown=>exact hq
 |cond c x y ihx ihy=>
  intro σ Q ι a w hM h;simp only[VC]at h;split at h
  .rename_i t hc;have hev:=hM.ev c;rw[hc]at hev;have hev:a.eval c= .bool t:=hev;rcases qP h with⟨rfl,h⟩|⟨rfl,h⟩
   .exact wp_cond_true hev (ihx _ Q ι a w (hM.setTmp hc) h)
   .exact wp_cond_false hev (ihy _ Q ι a w (hM.setTmp hc) h)
  .exact h.elim
 |block id c ih=>
  intro σ Q ι a w hM h;refine wp_block (wp_mono (ih σ _ ι a w hM h) ?_);intro e a' w' hq;cases e with
  |normal=>exact hq
  |exit i=>
   obtain⟨ι',σ',hM',h'⟩:=hq;show if i=id then _ else _
   simp only at h';split at h'
   .rename_i hb;rw[if_pos (Nat.eq_of_beq_eq_true hb)];exact⟨ι',σ',hM',h'⟩
   .rename_i hb;rw[if_neg (λe=>by subst e;simp at hb)];exact⟨ι',σ',hM',h'⟩
  |ret=>exact hq
  |goto l=>exact hq
  |panic ch=>exact hq
  |outgrown=>exact hq
 |loop c ih=>
  intro σ Q ι a w hM h;simp only[VC]at h;split at h
  .rename_i l hl;obtain⟨⟨x,hx,hm⟩,hall⟩:=h;obtain⟨ι2,hM2,_⟩:=kV hM hm;refine wp_loop_ghost (λn a w=>∃x ι,l.inv x/\l.mu x=n/\aH B ι (l.st x) a w) (l.mu x) ⟨x,ι2,hx,rfl,hM2⟩ ?_;rintro n a' w' ⟨x',ι',hx',rfl,hM'⟩;refine wp_mono (ih _ _ ι' a' w' hM' (hall x' hx')) ?_;intro e a'' w'' hq;cases e with
   |normal=>
    obtain⟨ι3,σ3,hM3,y,hy,hlt,hmy⟩:=hq;obtain⟨ι4,hM4,_⟩:=kV hM3 hmy;exact⟨l.mu y,hlt,y,ι4,hy,rfl,hM4⟩
   |exit id=>exact hq
   |ret=>exact hq
   |goto l=>exact hq
   |panic ch=>exact hq
   |outgrown=>exact hq
  .split at h
   .rename_i l hl;obtain⟨I,mu,hm,hall⟩:=h;obtain⟨x,ι2,hx,hM2⟩:=uQ hM hm;refine wp_loop_ghost (λn a w=>∃x ι,I x/\mu x=n/\aH B ι (l.st x) a w) (mu x) ⟨x,ι2,hx,rfl,hM2⟩ ?_;rintro n a' w' ⟨x',ι',hx',rfl,hM'⟩;refine wp_mono (ih _ _ ι' a' w' hM' (hall x' hx')) ?_;intro e a'' w'' hq;cases e with
    |normal=>
     obtain⟨ι3,σ3,hM3,hmy⟩:=hq;obtain⟨y,ι4,hy,hlt,hM4⟩:=HJ hM3 hmy;exact⟨mu y,hlt,y,ι4,hy,rfl,hM4⟩
    |exit id=>exact hq
    |ret=>exact hq
    |goto l=>exact hq
    |panic ch=>exact hq
    |outgrown=>exact hq
   .exact h.elim
end
end Go.Vc
namespace Go.Vc
open Go
section
variable{B:oW}{C:Ctx}{ι:Nat->Value}{σ:St}{a:Act}{w:World}
def Gu(tmps:Array Value):ResultVar->Sem Value
 |.tmp t=>pure (tmps.getD t undef)
 |.cell a t=>do loadVar t (<-asAddr (tmps.getD a undef))
theorem I0(fn:Func)(tmps:Array Value):results fn tmps=(do let vs <-fn.results.mapM (Gu tmps);pure (if h:vs.size=1 then vs[0]else .tuple vs)):=by
 unfold results;congr 1
theorem Of(hM:aH B ι σ a w){r:ResultVar}{x:SV}(h:Sx C σ r=some x):∃v,(Gu a.tmps r).run C.P w= .ok v w/\Den ι x v:=by
 cases r with
 |tmp t=>
  simp only[Sx,Option.some.injEq]at h;subst h;exact⟨_,rfl,hM.ev (.tmp t)⟩
 |cell ad T=>
  have hev:=hM.ev (.tmp ad);simp only[Sx]at h;split at h
  .rename_i k off hx;rw[hx]at hev;split at h
   .rename_i p T' cs hk;split at h
    .rename_i hle hT;have hle:=Nat.le_of_ble_eq_true hle;simp only[Option.some.injEq]at h;subst h;obtain⟨b,vs,hι,hh,hd⟩:=sW hM hk;obtain⟨b',hb',hp⟩:=hev;rw[hι]at hb';simp only[Value.pointer.injEq,Option.some.injEq,Addr.mk.injEq]at hb';obtain⟨rfl, -, -⟩:=hb';have hd':=(hd.drop off).take (C.P.cellsOf T);have hvs:cs.length=vs.toList.length:=hd.length;have hl:=uP (w:=w) (b:=b) (off:=off) (cs:=(vs.toList.drop off).take (C.P.cellsOf T)) hT (by simp at hvs⊢;omega) (λj v hv=>by rw[cell_of_heap hh];exact sT hv);refine⟨_,?_,Ek hd'⟩;have hp':a.tmps.getD ad undef= .pointer (some ⟨b,off,none⟩):=hp;simp only[Gu,hp',asAddr,Sem.run_bind,Sem.run_pure,Result.andThen_ok,hl]
    .cases h
   .cases h
  .cases h
theorem EE(hM:aH B ι σ a w):∀(l:List ResultVar)(xs:List SV),D0 C σ l=some xs->∃vs,(l.mapM (Gu a.tmps)).run C.P w= .ok vs w/\DenS ι xs vs
 |[],xs,h=>by
  simp[D0]at h;subst h;exact⟨[],by simp,trivial⟩
 |r::l,xs,h=>by
  simp only[D0]at h;split at h
  .rename_i x xs' hx hxs;simp only[Option.some.injEq]at h;subst h;obtain⟨v,hv,hd⟩:=Of hM hx;obtain⟨vs,hvs,hds⟩:=EE hM l xs' hxs;exact⟨v::vs,by simp[List.mapM_cons,hv,hvs],hd,hds⟩
  .cases h
theorem sL(hM:aH B ι σ a w){mv:Bool}:∀(xs:List SV)(ts:List TypeId)(rs:List CV)(vs:List Value),Ar C.P σ mv xs ts=some rs->DenS ι xs vs->
 rs.length=vs.length/\(mv=false->rs=vs.map .val)/\∀(i:Nat)(r:CV)(v:Value),rs[i]? =some r->vs[i]? =some v->DL w r v/\∀b,fR r v=some b->∃k ow,nth σ.own k=some (some ow)/\blk (ι k)=some b
 |[],ts,rs,[],h,_=>by
  simp[Ar]at h;subst h;exact⟨rfl,λ_=>rfl,λi r v hr=>by simp at hr⟩
 |[],_,_,_::_,_,hd=>hd.elim
 |x::xs,_,_,[],_,hd=>hd.elim
 |x::xs,ts,rs,v::vs,h,hd=>by
  simp only[Ar]at h;split at h
  .cases h
  .rename_i l hl;obtain⟨ih1,ih2,ih3⟩:=sL hM xs ts.tail l vs hl hd.2
   have fin:∀(c0:CV),rs=c0::l->(mv=false->c0= .val v)->DL w c0 v->(∀b,fR c0 v=some b->∃k ow,nth σ.own k=some (some ow)/\blk (ι k)=some b)->
    rs.length=(v::vs).length/\(mv=false->rs=(v::vs).map .val)/\∀(i:Nat)(r:CV)(u:Value),rs[i]? =some r->(v::vs)[i]? =some u->DL w r u/\∀b,fR r u=some b->∃k ow,nth σ.own k=some (some ow)/\blk (ι k)=some b:=by
    intro c0 hrs h1 h2 h3;subst hrs;refine⟨by simp[ih1],λhm=>by rw[h1 hm,ih2 hm];rfl,λi r u hr hu=>?_⟩;cases i with
    |zero=>simp at hr hu;subst hr hu;exact⟨h2,h3⟩
    |succ i=>simp only[List.getElem?_cons_succ]at hr hu;exact ih3 i r u hr hu
   split at h
   .split at h
    .rename_i k;have hv:v=ι k:=hd.1;split at h
     .rename_i E sz ys hk;simp only[Option.some.injEq]at h;obtain⟨hr,ho⟩:=nJ hM hk;exact fin _ h.symm (λe=>by cases e) ⟨hr,by rw[hv];exact ho⟩ (λb hb=>⟨k,_,hk,by rw[<-hv];exact hb⟩)
     .cases h
    .have hv:v= .slice none 0 0:=hd.1;split at h
     .rename_i E z hE;simp only[Option.some.injEq]at h;refine fin _ h.symm (λe=>by cases e) ⟨DZ _,by rw[hv];exact World.ownsRow_nil w 0 E _⟩ (λb hb=>?_);rw[hv]at hb;simp[fR,blk]at hb
     .cases h
    .cases h
   .split at h
    .rename_i u hu;simp only[Option.some.injEq]at h;have hv:=(hd.1).val? hu;exact fin _ h.symm (λ_=>by rw[hv]) hv (λb hb=>by simp[fR]at hb)
    .cases h
theorem KV(hM:aH B ι σ a w){fn:Func}{K:CV->MH->PH->Prop}(h:KW C fn K σ):
 ∃u,(results fn a.tmps).run C.P w= .ok u w/\∃r m' h',K r m' h'/\DL w r u/\Ab B m' h' w/\∀b,fR r u=some b->(B.w0.heap.size<=b\/B.E b)/\m' b=none/\∀i,h' b i=none:=by
 unfold KW at h;split at h
 .exact h.elim
 .rename_i xs hxs;obtain⟨τ',hMτ',h,_⟩:=kX _ _ hM h;obtain⟨τ,hMτ,h,_⟩:=tG _ _ hMτ' h;split at h
  .exact h.elim
  .rename_i ys hys;obtain⟨vs,hvs,hds⟩:=EE hMτ _ _ hys
   have hres:(results fn a.tmps).run C.P w= .ok (if h:vs.toArray.size=1 then vs.toArray[0]else .tuple vs.toArray) w:=by
    rw[I0,Array.mapM_eq_mapM_toList];simp[hvs]
   have blocks:∀(rs:List CV)(r:CV)(v:Value),Ar C.P τ C.retMove ys fn.resultTypes.toList=some rs->(∃i:Nat,rs[i]? =some r/\vs[i]? =some v)->DL w r v/\∀b,fR r v=some b->(B.w0.heap.size<=b\/B.E b)/\τ.m b=none/\∀i,τ.h b i=none:=by
    rintro rs r v hrs ⟨i,hr,hv⟩;obtain⟨_,_,h3⟩:=sL hMτ _ _ _ _ hrs hds;obtain⟨h4,h5⟩:=h3 i r v hr hv;refine⟨h4,λb hb=>?_⟩;obtain⟨k,ow,hk,hbk⟩:=h5 b hb;exact hMτ.fresh k ow b hk hbk
   split at h
   .rename_i r hr;obtain⟨hlen,_,_⟩:=sL hMτ _ _ _ _ hr hds;simp at hlen
    obtain⟨v,rfl⟩:∃v,vs=[v]:=by
     match vs,hlen with
     |[v],_=>exact⟨v,rfl⟩
    obtain⟨h4,h5⟩:=blocks _ r v hr ⟨0,rfl,rfl⟩;refine⟨v,by simpa using hres,r,τ.m,τ.h,h,h4,hMτ.wrel,h5⟩
   .rename_i rs hne hrs;split at h
    .exact h.elim
    .rename_i hmv;obtain⟨hlen,hval,_⟩:=sL hMτ _ _ _ _ hrs hds
     have hnl:vs.length≠1:=by
      intro e;rw[e]at hlen
      match rs,hlen with
      |[r],_=>exact hne r rfl
     refine⟨.tuple vs.toArray,by rw[hres,dif_neg (by simpa using hnl)],.tup rs,τ.m,τ.h,h,⟨vs.toArray,rfl,by simpa using hval hmv⟩,hMτ.wrel,λb hb=>by simp[fR]at hb⟩
   .exact h.elim
def Hu(n:Nat)(cvs:List CV)(vs:List Value)(k:Nat):Value:=
 match cvs[k-n]?,vs[k-n]? with
 |some (.lst _ _ _),some v=>v
 |_,_=>.slice none 0 0
theorem mP{w:World}:∀{cvs:List CV}{vs:List Value},Ac w cvs vs->cvs.length=vs.length/\∀(i:Nat)(c:CV)(v:Value),cvs[i]? =some c->vs[i]? =some v->DL w c v
 |[],[],_=>⟨rfl,λi c v h=>by simp at h⟩
 |c::cs,v::vs,h=>by
  obtain⟨h1,h2⟩:=mP h.2;refine⟨by simp[h1],λi c' v' hc hv=>?_⟩;cases i with
  |zero=>simp at hc hv;subst hc hv;exact h.1
  |succ i=>simp at hc hv;exact h2 i c' v' hc hv
 |[],_::_,h=>h.elim
 |_::_,[],h=>h.elim
theorem HC{n:Nat}{all:List CV}{avs:List Value}{w:World}:∀(i:Nat)(cvs:List CV)(vs:List Value),Ac w cvs vs->(∀j:Nat,cvs[j]? =all[i+j]?)->(∀j:Nat,vs[j]? =avs[i+j]?)->
 DenS (Hu n all avs) (DD n i cvs) vs
 |i,[],[],_,_,_=>trivial
 |i,c::cvs,v::vs,h,h1,h2=>by
  have ih:=HC (n:=n) (all:=all) (avs:=avs) (i+1) cvs vs h.2 (λj=>by have:=h1 (j+1);simp only[List.getElem?_cons_succ]at this;rw[this];congr 1;omega) (λj=>by have:=h2 (j+1);simp only[List.getElem?_cons_succ]at this;rw[this];congr 1;omega);cases c with
  |val u=>exact⟨h.1,ih⟩
  |lst E sz xs=>
   refine⟨?_,ih⟩;show v=Hu n all avs (n+i);have e1:=h1 0;have e2:=h2 0;simp at e1 e2;unfold Hu;rw[show n+i-n=i by omega, <-e1, <-e2]
  |tup rs=>exact⟨trivial,ih⟩
 |i,[],_::_,h,_,_=>h.elim
 |i,_::_,[],h,_,_=>h.elim
theorem FF:∀(cvs:List CV)(k:Nat)(o:Own),nth (uT cvs) k=some (some o)->∃E sz xs,cvs[k]? =some (.lst E sz xs)/\o= .lst E sz xs
 |[],k,o,h=>by simp[uT,nth]at h
 |c::cvs,0,o,h=>by
  cases c<;>simp[uT,nth]at h;rename_i E sz xs;exact⟨E,sz,xs,rfl,h.symm⟩
 |c::cvs,k+1,o,h=>by
  have:nth (uT cvs) k=some (some o):=by cases c<;>simpa[uT,nth]using h
  obtain⟨E,sz,xs,h1,h2⟩:=FF cvs k o this;exact⟨E,sz,xs,by simpa using h1,h2⟩
theorem L9{ι:Nat->Value}:∀(n:Nat)(vs:List Value),vs.length=n->DenS ι (List.replicate n (.at .junk)) vs
 |0,[],_=>trivial
 |n+1,v::vs,h=>⟨trivial,L9 n vs (by simpa using h)⟩
 |0,_::_,h=>by simp at h
 |_+1,[],h=>by simp at h
theorem DenS.append{ι:Nat->Value}:∀{xs xs':List SV}{vs vs':List Value},DenS ι xs vs->DenS ι xs' vs'->DenS ι (xs++xs') (vs++vs')
 |[],_,[],_,_,h'=>by simpa using h'
 |_::_,_,_::_,_,h,h'=>⟨h.1,DenS.append h.2 h'⟩
 |[],_,_::_,_,h,_=>h.elim
 |_::_,_,[],_,h,_=>h.elim
theorem FE{w:World}{m:MH}{h:PH}{cvs:List CV}{vs:List Value}(n:Nat)(hp:wU w m h cvs vs):
 aH ⟨w,Moved m cvs vs,h,[]⟩ (Hu n cvs vs) (entry n cvs m h) {tmps:=vs.toArray++Array.replicate (n-vs.toArray.size) undef,defers:=[]} w:=by
 obtain⟨hlen,hget⟩:=mP hp.args
 have hown:∀k o,nth (entry n cvs m h).own k=some (some o)->n<=k/\∃E sz xs,cvs[k-n]? =some (.lst E sz xs)/\o= .lst E sz xs/\∃v,vs[k-n]? =some v/\Hu n cvs vs k=v/\DL w (.lst E sz xs) v:=by
  intro k o hk;simp only[entry]at hk;rw[iK]at hk;by_cases hkn:k<n
  .rw[List.getElem?_append_left (by simpa using hkn)]at hk;simp[hkn]at hk
  .rw[List.getElem?_append_right (by simpa using Nat.le_of_not_lt hkn)]at hk;simp only[List.length_replicate]at hk;rw[<-iK]at hk;obtain⟨E,sz,xs,h1,h2⟩:=FF cvs (k-n) o hk
   have hlt:k-n<vs.length:=by
    rw[<-hlen];exact(List.getElem?_eq_some_iff.1 h1).1
   have hv:vs[k-n]? =some vs[k-n]:=List.getElem?_eq_getElem hlt;refine⟨aC,E,sz,xs,h1,h2,_,hv,?_,hget _ _ _ h1 hv⟩;unfold Hu;rw[h1,hv]
 refine⟨?_,rfl,?_,?_,?_,?_,?_⟩
 .have h1:=HC (n:=n) (all:=cvs) (avs:=vs) 0 cvs vs hp.args (λj=>by simp) (λj=>by simp);show DenS _ (DD n 0 cvs++List.replicate (n-cvs.length) (.at .junk)) _;have:(vs.toArray++Array.replicate (n-vs.toArray.size) undef).toList=vs++List.replicate (n-vs.length) undef:=by simp
  rw[this];exact h1.append (L9 _ _ (by simp[hlen]))
 .intro k o hk;obtain⟨hkn,E,sz,xs,h1,rfl,v,hv,hι,hok⟩:=hown k o hk;rw[hι];exact hok
 .intro k k' o o' b hk hk' hb hb';obtain⟨hkn,E,sz,xs,h1,rfl,v,hv,hι,hok⟩:=hown k o hk;obtain⟨hkn',E',sz',xs',h1',rfl,v',hv',hι',hok'⟩:=hown k' o' hk';rw[hι]at hb;rw[hι']at hb';have:=hp.sep (k-n) (k'-n) _ _ v v' b h1 hv h1' hv' hb hb';omega
 .intro k o b hk hb;obtain⟨hkn,E,sz,xs,h1,rfl,v,hv,hι,hok⟩:=hown k o hk;rw[hι]at hb;obtain⟨f1,f2⟩:=hp.free (k-n) _ v b h1 hv hb;exact⟨.inr (.inr ⟨k-n,_,v,h1,hv,hb⟩),f1,f2⟩
 .refine⟨rfl,rfl,rfl,Nat.le_refl _,Nat.le_refl _,λ_ _ _=>rfl,hp.hsat,hp.msat,hp.disj,λ_ _ _ h=>h,λ_ _ _=>rfl,λb ob hb=>.inr (.inl (by have hb:m b=some ob:=hb;rw[hb];simp))⟩
 .intro k;unfold Hu;split
  .rename_i E sz xs v h1 h2;exact Hn (hget _ _ _ h1 h2).2
  .rfl
theorem eG{P:Program}{f:FuncId}{fn:Func}{c:Code}(hf:P.funcs[f]? =some fn)(hb:fn.body=some c)(hname:(fn.name== "runtime.NumGoroutine")=false){S:Spec}
 (hvc:∀cvs m h K,S cvs m h K->∃C:Ctx,C.P=P/\(∀g S,assoc C.specs g=some S->Sound P g S)/\Am C fn c (entry fn.ntmps cvs m h) K):Sound P f S:=by
 refine⟨⟨fn,hf,by rw[hb];rfl,hname⟩,?_⟩;intro cvs vs m h w K hS hp;obtain⟨C,rfl,hspecs,hv⟩:=hvc cvs m h K hS;refine calls_of_wp hf hb ?_;refine wp_mono (NT hspecs c _ _ _ _ w (FE fn.ntmps hp) hv) ?_;intro e a' w' hq
 have key:(∃ι σ,aH ⟨w,Moved m cvs vs,h,[]⟩ ι σ a' w'/\KW C fn K σ)->a'.defers=[]/\∃v,(results fn a'.tmps).run C.P w'= .ok v w'/\∃r u m' h',Ending.returned v= .returned u/\K r m' h'/\DL w' r u/\Ab ⟨w,Moved m cvs vs,h,[]⟩ m' h' w'/\
  ∀b,fR r u=some b->(w.heap.size<=b\/Moved m cvs vs b)/\m' b=none/\∀i,h' b i=none:=by
  rintro⟨ι,σ,hM,hr⟩;obtain⟨u,hu,r,m',h',h1,h2,h3,h4⟩:=KV hM hr;exact⟨hM.defers,u,hu,r,u,m',h',rfl,h1,h2,h3,h4⟩
 cases e with
 |normal=>exact key hq
 |ret=>exact key hq
 |exit id=>obtain⟨_,_,_,h⟩:=hq;exact h.elim
 |goto l=>exact hq.elim
 |panic ch=>exact hq.elim
 |outgrown=>exact hq.elim
theorem T1{P:Program}{f:FuncId}{fn:Func}{c:Code}(hf:P.funcs[f]? =some fn)(hb:fn.body=some c)(hname:(fn.name== "runtime.NumGoroutine")=false){S:Spec}
 (hvc:∀cvs m h K,S cvs m h K->∃C:Ctx,C.P=P/\(∀g S,assoc C.specs g=some S->Sound P g S)/\Am C fn c (entry fn.ntmps cvs m h) (λr m' h'=>∃m2 h2,(∀b o,m2 b=some o->m' b=some o)/\PH.le h h2/\PH.le h2 h'/\K r m2 h2)):Sound P f S:=by
 have h0:=eG hf hb hname (S:=λcvs m h K=>∃K',S cvs m h K'/\K=λr m' h'=>∃m2 h2,(∀b o,m2 b=some o->m' b=some o)/\PH.le h h2/\PH.le h2 h'/\K' r m2 h2) (by
  rintro cvs m h K ⟨K',hS,rfl⟩;exact hvc cvs m h K' hS)
 refine⟨h0.1,λcvs vs m h w K hS hp=>?_⟩;refine(h0.2 cvs vs m h w _ ⟨K,hS,rfl⟩ hp).mono ?_;rintro e w' ⟨r,u,m',h',he,⟨m2,h2,k1,k2,k3,hK⟩,hok,hw,hfr⟩
 have hnone:∀b i,h' b i=none->h2 b i=none:=by
  intro b i e;cases e2:h2 b i with
  |none=>rfl
  |some v=>rw[k3.le b i v e2]at e;cases e
 refine⟨r,u,m2,h2,he,hK,hok,?_,λb hb=>?_⟩
 .refine⟨hw.tape,hw.os,hw.output,hw.drawn,hw.size,hw.frame,λb o v e=>hw.hsat b o v (k3.le b o v e),λb o e=>hw.msat b o (k1 b o e),λb o e i=>hnone b i (hw.disj b o (k1 b o e) i),k2.le,λb h1 h2'=>?_,λb o e=>hw.mfr b o (k1 b o e)⟩;funext i;have e:=congrFun (hw.hold b h1 h2') i;show h2 b i=h b i;cases e2:h b i with
  |some v=>exact(k2.le b i v e2)
  |none=>exact hnone b i (by rw[e];exact e2)
 .obtain⟨f1,f2,f3⟩:=hfr b hb;refine⟨f1,?_,λi=>hnone b i (f3 i)⟩;cases e2:m2 b with
  |none=>rfl
  |some o=>rw[k1 b o e2]at f2;cases f2
def cY(h:PH)(K:CV->MH->PH->Prop):CV->MH->PH->Prop:=λr m' h'=>(∀b o,m' b=some o->∀i,h' b i=none)->∃m2 h2,(∀b o,m2 b=some o->m' b=some o)/\PH.le h h2/\
 (∀b i v,h2 b i=some v->h' b i=some v\/∃cs E fz,m' b=some (.cells cs E fz)/\cs[i]? =some v/\m2 b=none)/\K r m2 h2
theorem Sound.strong{P:Program}{f:FuncId}{S:Spec}(h0:Sound P f (λcvs m h K=>∃K',S cvs m h K'/\K=cY h K')):Sound P f S:=by
 refine⟨h0.1,λcvs vs m h w K hS hp=>?_⟩;refine(h0.2 cvs vs m h w _ ⟨K,hS,rfl⟩ hp).mono ?_;rintro e w' ⟨r,u,m',h',he,hStr,hok,hw,hfr⟩;obtain⟨m2,h2,k1,k2,k3,hK⟩:=hStr hw.disj;refine⟨r,u,m2,h2,he,hK,hok,?_,λb hb=>?_⟩
 .refine⟨hw.tape,hw.os,hw.output,hw.drawn,hw.size,hw.frame,λb o v e=>?_,λb o e=>hw.msat b o (k1 b o e),λb o e i=>?_,k2.le,λb h1 h2'=>?_,λb o e=>hw.mfr b o (k1 b o e)⟩
  .rcases k3 b o v e with h3|⟨cs,E,fz,h3,h4,_⟩
   .exact hw.hsat b o v h3
   .rw[cell_of_heap (hw.msat b _ h3),Array.getElem?_toList];exact h4
  .cases e2:h2 b i with
   |none=>rfl
   |some v=>
    rcases k3 b i v e2 with h3|⟨cs,E,fz,h3,h4,h5⟩
    .rw[hw.disj b o (k1 b o e) i]at h3;cases h3
    .rw[h5]at e;cases e
  .funext i;have e:=congrFun (hw.hold b h1 h2') i;show h2 b i=h b i;cases e2:h b i with
   |some v=>exact(k2.le b i v e2)
   |none=>
    cases e3:h2 b i with
    |none=>rfl
    |some v=>
     rcases k3 b i v e3 with h3|⟨cs,E,fz,h3,h4,h5⟩
     .rw[e]at h3;have:h b i=some v:=h3;rw[e2]at this;cases this
     .rcases hw.mfr b _ h3 with h6|h6
      .have h6:w.heap.size<=b:=h6;have h1:b<w.heap.size:=h1;omega
      .exact(h2' h6).elim
 .obtain⟨f1,f2,f3⟩:=hfr b hb;refine⟨f1,?_,λi=>?_⟩
  .cases e2:m2 b with
   |none=>rfl
   |some o=>rw[k1 b o e2]at f2;cases f2
  .cases e2:h2 b i with
   |none=>rfl
   |some v=>
    rcases k3 b i v e2 with h3|⟨cs,E,fz,h3,_,_⟩
    .rw[f3 i]at h3;cases h3
    .rw[f2]at h3;cases h3
theorem T0{P:Program}{f:FuncId}{fn:Func}{c:Code}(hf:P.funcs[f]? =some fn)(hb:fn.body=some c)(hname:(fn.name== "runtime.NumGoroutine")=false){S:Spec}
 (hvc:∀cvs m h K,S cvs m h K->∃C:Ctx,C.P=P/\(∀g S,assoc C.specs g=some S->Sound P g S)/\Am C fn c (entry fn.ntmps cvs m h) (cY h K)):Sound P f S:=
 .strong (eG hf hb hname (S:=λcvs m h K=>∃K',S cvs m h K'/\K=cY h K') (by
  rintro cvs m h K ⟨K',hS,rfl⟩;exact hvc cvs m h K' hS))
end
end Go.Vc
namespace Go.Vc
open Go
theorem aB{c:Bool}{A B:Prop}(h1:c=true->A)(h2:c=false->B):branch c A B:=by
 cases c
 .exact h2 rfl
 .exact h1 rfl
theorem aE{p:Prop}[Decidable p]{A B:Prop}(h1:p->A)(h2:¬p->B):branch (decide p) A B:=
 aB (λh=>h1 (of_decide_eq_true h)) (λh=>h2 (of_decide_eq_false h))
theorem eC{n:Int}(h1: -9223372036854775808<=n)(h2:n<9223372036854775808):IntKind.i64.wrap n=n:=by
 rw[IntKind.wrap_i64];omega
theorem aL.of_m{m:MH}{h:PH}{b off:Nat}{cs:Array Value}{E:TypeId}{fz:Nat×Nat}{l:List Value}(hm:m b=some (.cells cs E fz))(hl:(cs.toList.drop off).take l.length=l):aL m h b off l:=.lent cs E fz hm hl
end Go.Vc
namespace Go.Ps
open Go Go.Vc Go.Proofs
variable{K:CV->MH->PH->Prop}{m:MH}{h:PH}{ps:List Int}{cb:Nat}{l:List Int}{i:Nat}{N:Nat}{m':MH}{h':PH}{co:List Int}{gr:List Int}{od:List (Int×Bool)}{ta:Int}{li:Int}{xs:List (List Value)}{sz:Nat}{k:Nat}{ks:List (List Int)}{rs:List Int}{r:Sl}{a:List Int}{b:Nat}
structure VV where
 kind:Int
 int:Int
 text:ByteArray
structure OV where
 kind:Int
 index:Int
 value:VV
structure PV where
 op:Int
 cmp:Int
 left:OV
 right:OV
 args:Sl
structure QV where
 op:Int
 table:Int
 where_:PV
 columns:Sl
 on:Sl
 group:Sl
 order:Sl
 limit:Int
 args:Sl
variable{v:QV}
structure mC where
 name:ByteArray
 kind:Int
structure BP where
 columns:Sl
 table:Int
structure bR where
 name:ByteArray
 columns:Sl
 key:Int
 references:Sl
 checks:Sl
structure bJ where
 version:Int
 tables:Sl
variable{sc:bJ}
abbrev dO(n:Int):Value:=.int .i64 n
abbrev dT(s:Sl):Value:=.slice s.a s.len s.cap
abbrev u0:Value:=.slice none 0 0
abbrev Sj:Value:=.string ⟨⟨[]⟩⟩
abbrev TF(b o:Nat):Value:=.pointer (some ⟨b,o,none⟩)
abbrev fP(n:Int):At:=.val (.int .i64 n)
abbrev xW(s:Sl):At:=.val (.slice s.a s.len s.cap)
abbrev CB:At:=.val (.slice none 0 0)
abbrev Ns:At:=.val (.string ⟨⟨[]⟩⟩)
abbrev fN(n:Int):SV:=.at (.val (.int .i64 n))
abbrev W2(s:Sl):SV:=.at (.val (.slice s.a s.len s.cap))
abbrev Zh:SV:=.at (.val (.slice none 0 0))
abbrev ZM(b o:Nat):SV:=.at (.ptr b o)
abbrev Ve(b o:Nat):SV:=.at (.val (.pointer (some ⟨b,o,none⟩)))
abbrev ZO(b:Bool):SV:=.at (.val (.bool b))
abbrev ZN(k:Nat):SV:=.at (.lst k)
abbrev eD(n:Int):CV:=.val (.int .i64 n)
abbrev By(b:Bool):CV:=.val (.bool b)
abbrev dN(s:Sl):CV:=.val (.slice s.a s.len s.cap)
abbrev Cz:CV:=.val (.slice none 0 0)
abbrev Bx(b o:Nat):CV:=.val (.pointer (some ⟨b,o,none⟩))
abbrev lF(l:List Value):CV:=.val (.agg ⟨l⟩)
abbrev oQ(T:TypeId)(l:List At):Option Own:=some (.cells T l)
abbrev eQ{α:Type}(x:α):Prop:=x=x
abbrev eP(k:Nat):Prop:=ZM k 0=ZM k 0
abbrev eL(k:Nat):Prop:=ZN k=ZN k
abbrev Nt(s:ByteArray):At:=.val (.string s)
abbrev zQ:List At:=[fP 0,fP 0,fP 0,fP 0,fP 0,fP 0,fP 0,fP 0,Ns,fP 0,fP 0,fP 0,fP 0,Ns,CB,CB,CB,CB,CB,fP 0,CB]
abbrev zP:List At:=[fP 0,fP 0,fP 0,fP 0,fP 0,fP 0,Ns,fP 0,fP 0,fP 0,fP 0,Ns,CB]
def eI(n:Int):List Value:=[.int .i64 n]
def eS(s:Sl):List Value:=[.slice s.a s.len s.cap]
def VV.enc(v:VV):List Value:=[.int .i64 v.kind,.int .i64 v.int,.string v.text]
def OV.enc(o:OV):List Value:=[.int .i64 o.kind,.int .i64 o.index,.int .i64 o.value.kind,.int .i64 o.value.int,.string o.value.text]
def PV.enc(p:PV):List Value:=
 [.int .i64 p.op,.int .i64 p.cmp,
  .int .i64 p.left.kind,.int .i64 p.left.index,.int .i64 p.left.value.kind,.int .i64 p.left.value.int,.string p.left.value.text,
  .int .i64 p.right.kind,.int .i64 p.right.index,.int .i64 p.right.value.kind,.int .i64 p.right.value.int,.string p.right.value.text,
  .slice p.args.a p.args.len p.args.cap]
def QV.enc(q:QV):List Value:=
 [.int .i64 q.op,.int .i64 q.table,
  .int .i64 q.where_.op,.int .i64 q.where_.cmp,
  .int .i64 q.where_.left.kind,.int .i64 q.where_.left.index,.int .i64 q.where_.left.value.kind,.int .i64 q.where_.left.value.int,.string q.where_.left.value.text,
  .int .i64 q.where_.right.kind,.int .i64 q.where_.right.index,.int .i64 q.where_.right.value.kind,.int .i64 q.where_.right.value.int,.string q.where_.right.value.text,
  .slice q.where_.args.a q.where_.args.len q.where_.args.cap,
  .slice q.columns.a q.columns.len q.columns.cap,.slice q.on.a q.on.len q.on.cap,.slice q.group.a q.group.len q.group.cap,.slice q.order.a q.order.len q.order.cap,
  .int .i64 q.limit,.slice q.args.a q.args.len q.args.cap]
def mC.enc(c:mC):List Value:=[.string c.name,.int .i64 c.kind]
def BP.enc(r:BP):List Value:=[.slice r.columns.a r.columns.len r.columns.cap,.int .i64 r.table]
def bR.enc(t:bR):List Value:=[.string t.name,.slice t.columns.a t.columns.len t.columns.cap,.int .i64 t.key,.slice t.references.a t.references.len t.references.cap,.slice t.checks.a t.checks.len t.checks.cap]
def bJ.enc(s:bJ):List Value:=[.int .i64 s.version,.slice s.tables.a s.tables.len s.tables.cap]
abbrev zV:List Value:=[dO 0,dO 0,dO 0,dO 0,dO 0,dO 0,dO 0,dO 0,Sj,dO 0,dO 0,dO 0,dO 0,Sj,u0,u0,u0,u0,u0,dO 0,u0]
abbrev pQ(p:PV)(r:List At):List At:=fP p.op::fP p.cmp::fP p.left.kind::fP p.left.index::fP p.left.value.kind::fP p.left.value.int::Nt p.left.value.text::fP p.right.kind::fP p.right.index::fP p.right.value.kind::fP p.right.value.int::Nt p.right.value.text::xW p.args::r
abbrev qQ(q:QV)(x:At):List At:=fP q.op::fP q.table::pQ q.where_ [xW q.columns,xW q.on,xW q.group,xW q.order,fP q.limit,x]
def tP(p:Int×Int):List Value:=[.int .i64 p.1,.int .i64 p.2]
def CK(p:Int×Bool):List Value:=[.int .i64 p.1,.bool p.2]
def dI:YK:=⟨Int,eI⟩
def dS:YK:=⟨Sl,eS⟩
def dB:YK:=⟨Bool,λb=>[.bool b]⟩
def ZR:YK:=⟨UInt8,λb=>[.int .u8 b.toNat]⟩
def ZF:YK:=⟨ByteArray,λs=>[.string s]⟩
def Wi:Option Nat->Value
 |none=>.nilFunc
 |some f=>.func (.func f) #[] #[]
def dF:YK:=⟨Option Nat,λf=>[Wi f]⟩
structure NV where
 s:bJ
 params:Sl
 q:QV
 args:Sl
def NV.enc(n:NV):List Value:=n.s.enc++eS n.params++n.q.enc++eS n.args
def dec:TypeId->YK:=λT=>match T with
 |2=>dI
 |3=>dI
 |4=>dB
 |5=>ZR
 |9=>ZF
 |54=>dI
 |22=>dS
 |23=>dS
 |25=>dS
 |30=>dS
 |33=>dS
 |34=>dS
 |35=>dS
 |36=>dS
 |41=>dS
 |53=>dS
 |74=>dS
 |83=>dS
 |84=>dS
 |133=>dS
 |43=>⟨bJ,bJ.enc⟩
 |27=>⟨VV,VV.enc⟩
 |29=>⟨OV,OV.enc⟩
 |32=>⟨PV,PV.enc⟩
 |38=>⟨QV,QV.enc⟩
 |86=>⟨bR,bR.enc⟩
 |69=>⟨Int×Int,tP⟩
 |72=>⟨Int×Bool,CK⟩
 |105=>⟨mC,mC.enc⟩
 |118=>⟨BP,BP.enc⟩
 |152=>⟨NV,NV.enc⟩
 |153=>dF
 |229=>dF
 |158=>⟨Nat,λb=>[.func (.func 147) #[] #[.pointer (some ⟨b,0,none⟩)]]⟩
 |177=>⟨Nat,λb=>[.map (some b)]⟩
 |207=>⟨Nat,λb=>[.map (some b)]⟩
 |_=>⟨Unit,λ_=>[]⟩
def dJ(f:Func):Code:=match f.body with|some c=>c|none=>.skip
noncomputable def ctx(specs:List (Nat×Vc.Spec))(loops:List (Nat×II))(cuts:List (Nat×Sd))(moves:List (Nat×List Nat))(retMove:Bool):Ctx:=
 {P:=Tryz.prog,loops2:=[],cuts2:=[],rcuts:=[],heapT:=[],specs:=specs,dec:=dec,loops:=loops,cuts:=cuts,moves:=moves,retMove:=retMove,yield:=none}
noncomputable def dL(specs:List (Nat×Vc.Spec))(loops:List (Nat×oX))(cuts:List (Nat×oX))(moves:List (Nat×List Nat))(retMove:Bool):Ctx:=
 {P:=Tryz.prog,loops2:=loops,cuts2:=cuts,rcuts:=[],heapT:=[],specs:=specs,dec:=dec,loops:=[],cuts:=[],moves:=moves,retMove:=retMove,yield:=none}
noncomputable def ZG(specs:List (Nat×Vc.Spec))(loops:List (Nat×oX))(cuts:List (Nat×oX))(rcuts:List (Nat×List (Nat×oX)))(moves:List (Nat×List Nat))(retMove:Bool):Ctx:=
 {P:=Tryz.prog,loops2:=loops,cuts2:=cuts,rcuts:=rcuts,heapT:=[],specs:=specs,dec:=dec,loops:=[],cuts:=[],moves:=moves,retMove:=retMove,yield:=none}
noncomputable def uW(specs:List (Nat×Vc.Spec))(loops:List (Nat×oX))(cuts:List (Nat×oX))(rcuts:List (Nat×List (Nat×oX)))(heapT:List TypeId)(moves:List (Nat×List Nat))(retMove:Bool):Ctx:=
 {P:=Tryz.prog,loops2:=loops,cuts2:=cuts,rcuts:=rcuts,heapT:=heapT,specs:=specs,dec:=dec,loops:=[],cuts:=[],moves:=moves,retMove:=retMove,yield:=none}
theorem aF:∀g S,assoc ([]:List (Nat×Vc.Spec)) g=some S->Sound Tryz.prog g S:=λg S h=>by simp[assoc]at h
theorem aD{g0:Nat}{S0:Vc.Spec}{r:List (Nat×Vc.Spec)}(h0:Sound Tryz.prog g0 S0)(hr:∀g S,assoc r g=some S->Sound Tryz.prog g S):∀g S,assoc ((g0,S0)::r) g=some S->Sound Tryz.prog g S:=by
 intro g S h;simp only[assoc]at h;split at h
 .rename_i hb;have:=Nat.eq_of_beq_eq_true hb;subst this;simp at h;subst h;exact h0
 .exact hr g S h
def PX(n:Int):List UInt8->Int×List UInt8
 |[]=>(0,[])
 |b::r=>if n<1 then(0,b::r)else((b.toNat:Int)%n,r)
structure Sf(m:MH)(h:PH)(cb:Nat)(r:List UInt8):Prop where
 ex:∃(s:Sl)(cs:List UInt8)(k:Nat),m cb=some (.cells #[.slice s.a s.len s.cap,.int .i64 k] 82 (0,0))/\aX h s 1 (bH cs)/\k<=cs.length/\cs.length<=1000/\r=cs.drop k
structure bB(m m':MH)(cb:Nat):Prop where
 other:∀b,b≠cb->m' b=m b
end Go.Ps
namespace Go.Vc
open Go
theorem PH.le.refl(h:PH):PH.le h h:=⟨λ_ _ _ e=>e⟩
theorem PH.le.trans{h h' h'':PH}(a:PH.le h h')(b:PH.le h' h''):PH.le h h'':=⟨λx y v e=>b.le x y v (a.le x y v e)⟩
theorem aY.mono{h h':PH}{b o:Nat}{l:List Value}(r:aY h b o l)(le:PH.le h h'):aY h' b o l:=⟨λi v e=>le.le _ _ _ (r.rd i v e)⟩
theorem aX.mono{h h':PH}{s:Sl}{sz:Nat}{xs:List (List Value)}(r:aX h s sz xs)(le:PH.le h h'):aX h' s sz xs:=
 ⟨r.len,r.row.imp id λ⟨b,o,e,k⟩=>⟨b,o,e,λi x hx=>(k i x hx).mono le⟩,r.cap⟩
theorem aX.get{h:PH}{s:Sl}{sz:Nat}{xs:List (List Value)}(r:aX h s sz xs){i:Nat}{e:List Value}(hi:xs[i]? =some e):
 ∃b o,s.a=some ⟨b,o,none⟩/\aY h b (o+i*sz) e:=by
 rcases r.row with rfl|⟨b,o,ha,k⟩
 .simp at hi
 .exact⟨b,o,ha,k i e hi⟩
theorem dC.blk{m:MH}{s:Sl}{E sz:Nat}{xs:List (List Value)}(h:dC m s E sz xs){b i:Nat}(e:s.a=some ⟨b,i,none⟩):∃cur,m b=some (.cells cur E (0,0)):=by
 rcases h.ex with⟨rfl,_⟩|⟨b',cap,cur,rfl,hm,_⟩
 .cases e
 .simp only[Option.some.injEq,Addr.mk.injEq]at e;rw[<-e.1];exact⟨cur,hm⟩
theorem dC.slen{m:MH}{s:Sl}{E sz:Nat}{xs:List (List Value)}(h:dC m s E sz xs):s.len=xs.length:=by
 rcases h.ex with⟨rfl,rfl⟩|⟨b',cap,cur,rfl,hm,_⟩<;>rfl
theorem dC.keep{m m':MH}{s:Sl}{E sz:Nat}{xs:List (List Value)}(h:dC m s E sz xs)(hk:∀b i,s.a=some ⟨b,i,none⟩->m' b=m b):dC m' s E sz xs:=by
 refine⟨h.rows,?_⟩;rcases h.ex with h1|⟨b,cap,cur,rfl,hm,h2⟩
 .exact .inl h1
 .exact .inr ⟨b,cap,cur,rfl,by rw[hk b 0 rfl];exact hm,h2⟩
theorem aX.nil(h:PH)(sz:Nat):aX h ⟨none,0,0⟩ sz []:=⟨rfl,.inl rfl,Nat.le_refl _⟩
end Go.Vc
namespace Go.Ps
open Go Go.Vc Go.Proofs
variable{K:CV->MH->PH->Prop}{m:MH}{h:PH}{ps:List Int}{cb:Nat}{sc:bJ}{v:QV}{l:List Int}{i:Nat}{N:Nat}{m':MH}{h':PH}{co:List Int}{gr:List Int}{od:List (Int×Bool)}{ta:Int}{li:Int}{xs:List (List Value)}{sz:Nat}{k:Nat}{ks:List (List Int)}{rs:List Int}{r:Sl}{a:List Int}{b:Nat}
structure Ints(h:PH)(s:Sl)(l:List Int):Prop where
 row:aX h s 1 (l.map eI)
 len:l.length<=17592186044416
theorem Ints.mono{s:Sl}(r:Ints h s l)(le:PH.le h h'):Ints h' s l:=⟨r.row.mono le,r.len⟩
theorem Ints.slen{s:Sl}(r:Ints h s l):s.len=l.length:=by have:=r.row.len;simpa using this
structure lI(h:PH)(s:Sl)(l:List (Int×Int)):Prop where
 row:aX h s 2 (l.map tP)
 len:l.length<=8796093022208
theorem lI.mono{s:Sl}{l:List (Int×Int)}(r:lI h s l)(le:PH.le h h'):lI h' s l:=⟨r.row.mono le,r.len⟩
theorem lI.slen{s:Sl}{l:List (Int×Int)}(r:lI h s l):s.len=l.length:=by have:=r.row.len;simpa using this
structure iI(h:PH)(s:Sl)(l:List (Int×Bool)):Prop where
 row:aX h s 2 (l.map CK)
 len:l.length<=8796093022208
theorem iI.mono{s:Sl}{l:List (Int×Bool)}(r:iI h s l)(le:PH.le h h'):iI h' s l:=⟨r.row.mono le,r.len⟩
theorem iI.slen{s:Sl}{l:List (Int×Bool)}(r:iI h s l):s.len=l.length:=by have:=r.row.len;simpa using this
inductive Pred where
 |mk (op cmp:Int) (left right:OV) (args:List Pred)
variable{p:Pred}{w:Pred}
mutual
def dZ(h:PH):Pred->PV->Prop
 |.mk op cmp l r args,v=>v.op=op/\v.cmp=cmp/\v.left=l/\v.right=r/\args.length<=502633886983/\∃vs:List PV,aX h v.args 13 (vs.map PV.enc)/\sR h args vs
def sR(h:PH):List Pred->List PV->Prop
 |[],vs=>vs=[]
 |p::ps,vs=>∃v vs',vs=v::vs'/\dZ h p v/\sR h ps vs'
end
mutual
theorem dZ.mono{h h':PH}(le:PH.le h h'):∀{p:Pred}{v:PV},dZ h p v->dZ h' p v
 |.mk ..,_,⟨h1,h2,h3,h4,h5,vs,h6,h7⟩=>⟨h1,h2,h3,h4,h5,vs,h6.mono le,sR.mono le h7⟩
theorem sR.mono{h h':PH}(le:PH.le h h'):∀{ps:List Pred}{vs:List PV},sR h ps vs->sR h' ps vs
 |[],_,h=>h
 |_::_,_,⟨v,vs',h1,h2,h3⟩=>⟨v,vs',h1,dZ.mono le h2,sR.mono le h3⟩
end
theorem sR.length{h:PH}:∀{ps:List Pred}{vs:List PV},sR h ps vs->vs.length=ps.length
 |[],_,h=>by rw[show _=[]from h];rfl
 |_::_,_,⟨_,_,h1,_,h3⟩=>by rw[h1];simp[sR.length h3]
theorem sR.get{h:PH}:∀{ps:List Pred}{vs:List PV},sR h ps vs->∀{i:Nat}{p:Pred},ps[i]? =some p->∃v,vs[i]? =some v/\dZ h p v
 |[],_,_,i,p,e=>by simp at e
 |p0::ps,_,⟨v,vs',rfl,h2,h3⟩,0,p,e=>by simp at e;subst e;exact⟨v,rfl,h2⟩
 |p0::ps,_,⟨v,vs',rfl,h2,h3⟩,i+1,p,e=>by simp at e;simpa using sR.get h3 e
inductive Query where
 |mk (op table:Int) (wher:Pred) (columns:List Int) (on:List (Int×Int)) (group:List Int) (order:List (Int×Bool)) (limit:Int) (args:List Query)
variable{q:Query}
mutual
def cN(h:PH):Query->QV->Prop
 |.mk op table w columns on group order limit args,v=>v.op=op/\v.table=table/\dZ h w v.where_/\Ints h v.columns columns/\lI h v.on on/\Ints h v.group group/\iI h v.order order/\v.limit=limit/\
  args.length<=502633886983/\∃vs:List QV,aX h v.args 21 (vs.map QV.enc)/\uY h args vs
def uY(h:PH):List Query->List QV->Prop
 |[],vs=>vs=[]
 |p::ps,vs=>∃v vs',vs=v::vs'/\cN h p v/\uY h ps vs'
end
mutual
theorem cN.mono{h h':PH}(le:PH.le h h'):∀{p:Query}{v:QV},cN h p v->cN h' p v
 |.mk ..,_,⟨h1,h2,h3,h4,h5,h6,h7,h8,h9,vs,h10,h11⟩=>⟨h1,h2,h3.mono le,h4.mono le,h5.mono le,h6.mono le,h7.mono le,h8,h9,vs,h10.mono le,uY.mono le h11⟩
theorem uY.mono{h h':PH}(le:PH.le h h'):∀{ps:List Query}{vs:List QV},uY h ps vs->uY h' ps vs
 |[],_,h=>h
 |_::_,_,⟨v,vs',h1,h2,h3⟩=>⟨v,vs',h1,cN.mono le h2,uY.mono le h3⟩
end
theorem uY.length{h:PH}:∀{ps:List Query}{vs:List QV},uY h ps vs->vs.length=ps.length
 |[],_,h=>by rw[show _=[]from h];rfl
 |_::_,_,⟨_,_,h1,_,h3⟩=>by rw[h1];simp[uY.length h3]
theorem uY.get{h:PH}:∀{ps:List Query}{vs:List QV},uY h ps vs->∀{i:Nat}{p:Query},ps[i]? =some p->∃v,vs[i]? =some v/\cN h p v
 |[],_,_,i,p,e=>by simp at e
 |p0::ps,_,⟨v,vs',rfl,h2,h3⟩,0,p,e=>by simp at e;subst e;exact⟨v,rfl,h2⟩
 |p0::ps,_,⟨v,vs',rfl,h2,h3⟩,i+1,p,e=>by simp at e;simpa using uY.get h3 e
def iv(n:Int):SV:=.at (.val (.int .i64 n))
def sv(s:Sl):SV:=.at (.val (.slice s.a s.len s.cap))
def bv(b:Bool):SV:=.at (.val (.bool b))
def vv(v:Value):SV:=.at (.val v)
def cS(s:Sl):CV:=.val (.slice s.a s.len s.cap)
def cI(n:Int):CV:=.val (.int .i64 n)
def cB(b:Bool):CV:=.val (.bool b)
def cP(b:Nat):CV:=.val (.pointer (some ⟨b,0,none⟩))
def Cf(id:Nat)(st:Nat->St)(inv:Nat->Prop)(mu:Nat->Nat):Nat×II:=(id,{A:=Nat,st:=st,inv:=inv,mu:=mu})
theorem kE(h:i<=140737488355328):IntKind.i64.wrap ((i:Int)+1)=((i+1:Nat):Int):=by
 rw[eC aC aC];rfl
theorem Ints.at{s:Sl}(r:Ints h s l){x:Int}(hi:l[i]? =some x):∃b o,s.a=some ⟨b,o,none⟩/\aY h b (o+i) [.int .i64 x]:=by
 obtain⟨b,o,h1,h2⟩:=r.row.get (i:=i) (e:=eI x) (by simp[hi]);exact⟨b,o,h1,by simpa[eI]using h2⟩
theorem MT{p:Prop}(h:p:=by repeat' (first|with_reducible rfl|exact trivial|refine⟨?_,?_⟩|rfl|(rw[kE aC];done)|(rw[kE aC]))):p:=h
def dM(k:Int):Bool:=k==3||k==4||k==5
def B8(t:ByteArray):Bool:=t.toList==[]
def jL(v:VV):Bool:=
 if v.kind==1||v.kind==2 then v.int==0&&B8 v.text
 else if v.kind==3 then(v.int==0||v.int==1)&&B8 v.text
 else if v.kind==4 then B8 v.text
 else if v.kind==5 then v.int==0&&(v.text.size:Int)<=64
 else false
def lG(v:VV):Bool:=jL v&&v.kind>=3
def aV(v:VV):CV:=.val (.agg #[.int .i64 v.kind,.int .i64 v.int,.string v.text])
def WK:Vc.Spec:=λcvs m h K=>∃k,cvs=[cI k]/\K (cB (dM k)) m h
def Kf:Vc.Spec:=λcvs m h K=>∃v,cvs=[aV v]/\K (cB (jL v)) m h
def Mk:Vc.Spec:=λcvs m h K=>∃v,cvs=[aV v]/\K (cB (lG v)) m h
def Kq:Vc.Spec:=λcvs m h K=>∃s l,cvs=[cS s]/\Ints h s l/\K (cB (l.all dM)) m h
noncomputable def XH(s:Sl)(l:List Int)(m:MH)(h:PH):Ctx:=
 ctx [(93,WK)] [Cf 2 (λi=>cD 15 16 [(5,sv s),(6,iv s.len),(7,iv i)] [] m h) (λi=>i<=l.length/\(l.take i).all dM=true) (λi=>l.length-i)] [] [] false
noncomputable def V3(s:Sl)(l:List Int)(m:MH)(h:PH):Ctx:=
 ctx [] [Cf 2 (λi=>cD 22 23 [(5,sv s),(6,iv s.len),(7,iv i)] [] m h) (λi=>i<=l.length/\(l.take i).all dM=true) (λi=>l.length-i)] [] [] false
abbrev cT(a:Bool)(b:Prop)(c:Bool)(d e:Prop):Prop:=branch a b (branch c d e)
noncomputable abbrev fJ:CV:=By true
attribute [push_cast] cT fJ
def OT(k:Int)(m:MH)(h:PH)(K:CV->MH->PH->Prop):Prop:=
  cT (k==3) (K fJ m h) (k==4) (K fJ m h) (K (By (k==5)) m h)
abbrev dH(a b:Int)(c d:Prop):Prop:=branch (a==b) c d
noncomputable abbrev yV(a:VV):List UInt8:=a.text.toList
abbrev C4(a:CV->MH->PH->Prop)(b:VV)(c:MH)(d:PH):Prop:=a (By (yV b==[])) c d
noncomputable abbrev aW:CV:=By false
attribute [push_cast] dH yV C4 aW
def DC(v:VV)(m:MH)(h:PH)(K:CV->MH->PH->Prop):Prop:=
  cT (v.kind==1) (dH v.int 0 (C4 K v m h) (K aW m h)) (v.kind==2) (dH v.int 0 (C4 K v m h) (K aW m h)) (cT (v.kind==3) (cT (v.int==0) (C4 K v m h) (v.int==1) (C4 K v m h) (K aW m h)) (v.kind==4) (C4 K v m h) (dH v.kind 5 (dH v.int 0 (K (By (decide ((↑v.text.size:Int)<=64))) m h) (K aW m h)) (K aW m h)))
noncomputable abbrev jW(a:CV):List CV:=[a]
abbrev pX(a b:CV)(c:Prop):Prop:=jW a=jW b/\c
noncomputable abbrev iT(a:VV):CV:=lF a.enc
attribute [push_cast] jW pX iT
def LP(v:VV)(m:MH)(h:PH)(K:CV->MH->PH->Prop):Prop:=
  ∃(v1:VV),pX (iT v) (iT v1) (branch (jL v1) (K (By (decide (v.kind>=3))) m h) (K aW m h))
abbrev eA(a b:Int)(c d:Prop):Prop:=branch (a !=b) c d
attribute [push_cast] eA
def LD(v:VV)(m:MH)(h:PH)(K:CV->MH->PH->Prop):Prop:=
  ∃(v1:VV),pX (iT v) (iT v1) (branch (jL v1) (eA v.kind 1 (K (By (v.kind !=2)) m h) (K aW m h)) (K aW m h))
abbrev gE(a:Prop)(b:Nat->Prop):Prop:=a/\∀(x:Nat),b x
abbrev aA(a b c:Prop):Prop:=a/\b/\c
abbrev dV(a:Bool):Prop:=a=true
noncomputable abbrev Ea(a:List Int):Bool:=List.all a dM
abbrev wA(a:Nat)(b:List Int):Prop:=a<=b.length/\dV (Ea (List.take a b))
abbrev aI(a:Sl):Prop:=eQ (W2 a)
noncomputable abbrev bV(a:Nat):SV:=fN (↑a:Int)
abbrev bL(a:Sl):Prop:=eQ (bV a.len)
abbrev bD(a:Nat):Prop:=fN 0=bV a
abbrev dQ(a b:MH)(c d:Nat->Nat->Option Value):Prop:=aA (a=b) (c=d) True
abbrev aZ(a b:Int)(c d:Prop):Prop:=branch (decide (a<b)) c d
noncomputable abbrev aG(a:Sl):Int:=(↑a.len:Int)
abbrev aR(a:Nat->Nat->Prop):Prop:=∃(x x1:Nat),a x x1
abbrev aT(a:Option Addr)(b c:Nat):Prop:=a=Option.some (Addr.mk b c Option.none)
noncomputable abbrev fQ(a:Nat)(b:Int)(c:Nat):Nat:=a+b.toNat*c
noncomputable abbrev bA(a b c:Nat):Nat:=fQ a (↑b:Int) c
noncomputable abbrev iO(a:Value):List Value:=[a]
noncomputable abbrev cL(a:Int):List Value:=iO (dO a)
abbrev jM(a:Int)(b:Int->Prop):Prop:=∃(x:Int),jW (eD a)=jW (eD x)/\b x
abbrev iE(a:Bool)(b:Prop)(c:Nat->Prop):Prop:=branch a b (∃(x:Nat),c x)
abbrev cO(a:Prop)(b c:Nat->Option Obj)(d e:PH):Prop:=aA a (b=c) (d=e/\True)
noncomputable abbrev dX(a:Int):Int:=IntKind.wrap IntKind.i64 a
noncomputable abbrev bG(a:Nat)(b:Int):Int:=dX ((↑a:Int)+b)
attribute [push_cast] gE aA dV Ea wA aI bV bL bD dQ aZ aG aR aT fQ bA iO cL jM iE cO dX bG
def Pd(s:Sl)(l:List Int)(m:MH)(h:PH)(K:CV->MH->PH->Prop):Prop:=
  gE (∃(x:Nat),aA (wA x l) (aI s) (aA (bL s) (bD x) (dQ m m h h))) (λx=>wA x l->aZ (↑x:Int) (aG s) (aR (λb o=>aA (aT s.a b o) (0<=(↑x:Int)) ((↑x:Int)<aG s/\∃(y:Int),aL m h b (bA o x 1) (cL y)/\jM y (λk=>iE (!(dM k)) (K aW m h) (λy1=>aA (wA y1 l) (l.length-y1<l.length-x) (aA (aI s) (bL s) (cO (fN (bG x 1)=bV y1) m m h h))))))) (K fJ m h))
def LU(s:Sl)(l:List Int)(m:MH)(h:PH)(K:CV->MH->PH->Prop):Prop:=
  gE (∃(x:Nat),aA (wA x l) (aI s) (aA (bL s) (bD x) (dQ m m h h))) (λx=>wA x l->aZ (↑x:Int) (aG s) (aR (λb o=>aA (aT s.a b o) (0<=(↑x:Int)) ((↑x:Int)<aG s/\∃(y:Int),aL m h b (bA o x 1) (cL y)/\iE (y !=3) (iE (y !=4) (iE (y !=5) (K aW m h) (λy1=>aA (wA y1 l) (l.length-y1<l.length-x) (aA (aI s) (bL s) (cO (fN (bG x 1)=bV y1) m m h h)))) (λy1=>aA (wA y1 l) (l.length-y1<l.length-x) (aA (aI s) (bL s) (cO (fN (bG x 1)=bV y1) m m h h)))) (λy1=>aA (wA y1 l) (l.length-y1<l.length-x) (aA (aI s) (bL s) (cO (fN (bG x 1)=bV y1) m m h h)))))) (K fJ m h))
theorem Yf(v:VV)(m:MH)(h:PH)(K:CV->MH->PH->Prop):DC v m h K=Am (ctx [] [] [] [] false) Tryz.f105 (dJ Tryz.f105) (entry Tryz.f105.ntmps [aV v] m h) K:=by kernel_rfl
theorem gO{x y:Bool}(hK:K (cB x) m h)(e:x=y):K (.val (.bool y)) m h:=e▸hK
theorem S5{v:VV}(hK:K (cB (jL v)) m h):DC v m h K:=by
 dsimp only[DC,push_cast]
 repeat' (first|(refine aB (λ_=>?_) (λ_=>?_))|(refine gO hK ?_;simp_all [jL,B8]))
theorem iB{f:FuncId}{fn:Func}(hf:Tryz.prog.funcs[f]? =some fn){S:Vc.Spec}(hvc:∀cvs m h K,S cvs m h K->∃C:Ctx,C.P=Tryz.prog/\(∀g S,assoc C.specs g=some S->Sound Tryz.prog g S)/\∃N:Prop,N=Am C fn (dJ fn) (entry fn.ntmps cvs m h) K/\N)(hb:fn.body=some (dJ fn):=by rfl)(hname:(fn.name== "runtime.NumGoroutine")=false:=by decide):Sound Tryz.prog f S:=eG hf hb hname λcvs m h K hS=>let⟨C,hC,hs,N,e,hn⟩:=hvc cvs m h K hS;⟨C,hC,hs,e▸hn⟩
theorem Lg:Sound Tryz.prog 93 WK:=by
 refine iB Tryz.func93 ?_;rintro cvs m h K ⟨k,rfl,hK⟩;refine⟨ctx [] [] [] [] false,rfl,aF,OT k m h K,by kernel_rfl,?_⟩;dsimp only[OT,push_cast]
 repeat' (first|(refine aB (λ_=>?_) (λ_=>?_))|(refine gO hK ?_;simp_all [dM]))
theorem RF:Sound Tryz.prog 119 Kf:=by
 refine iB Tryz.func119 ?_;rintro cvs m h K ⟨v,rfl,hK⟩;refine⟨ctx [] [] [] [] false,rfl,aF,DC v m h K,by kernel_rfl,?_⟩;exact S5 hK
theorem J4:Sound Tryz.prog 105 Kf:=by
 refine eG (fn:=Tryz.f105) (c:=dJ Tryz.f105) Tryz.func105 rfl (by decide) ?_;rintro cvs m h K ⟨v,rfl,hK⟩;refine⟨ctx [] [] [] [] false,rfl,aF,?_⟩;rw[<-Yf v m h K];exact S5 hK
theorem Q9:Sound Tryz.prog 164 Mk:=by
 refine iB Tryz.func164 ?_;rintro cvs m h K ⟨v,rfl,hK⟩;refine⟨ctx [(119,Kf)] [] [] [] false,rfl,aD RF aF,LP v m h K,by kernel_rfl,?_⟩;dsimp only[LP,push_cast];refine⟨v,rfl,?_⟩
 repeat' (first|(refine aB (λ_=>?_) (λ_=>?_))|(refine gO hK ?_;simp_all [lG]))
theorem Ef:Sound Tryz.prog 203 Mk:=by
 refine iB Tryz.func203 ?_;rintro cvs m h K ⟨v,rfl,hK⟩;refine⟨ctx [(105,Kf)] [] [] [] false,rfl,aD J4 aF,LD v m h K,by kernel_rfl,?_⟩;dsimp only[LD,push_cast];refine⟨v,rfl,?_⟩;refine aB (λh1=>aB (λh2=>gO hK ?_) (λh2=>gO hK ?_)) (λh1=>gO hK ?_)
 .have h2:v.kind≠1:=by simpa using h2
  by_cases h3:v.kind=2
  .simp[lG,h1,h3]
  .have:3<=v.kind:=by
    simp only[jL]at h1
    repeat' split at h1
    all_goals first|(simp_all;done)|skip
    all_goals simp_all
   simp[lG,h1,h3,this]
 .have h2:v.kind=1:=by simpa using h2
  simp[lG,h2]
 .simp[lG,h1]
theorem xT{α:Type}{p:α->Bool}{l:List α}{x:α}(hx:l[i]? =some x):(l.take (i+1)).all p=((l.take i).all p&&p x):=by
 rw[List.take_add_one,List.all_append,hx];simp
theorem zE{α:Type}{p:α->Bool}{l:List α}{x:α}(hx:l[i]? =some x)(hp:p x=false):l.all p=false:=by
 rw[List.all_eq_false];exact⟨x,List.mem_of_getElem? hx,by simp[hp]⟩
theorem Lk:Sound Tryz.prog 64 Kq:=by
 refine iB Tryz.func64 ?_;rintro cvs m h K ⟨s,l,rfl,hl,hK⟩;refine⟨XH s l m h,rfl,aD Lg aF,Pd s l m h K,by kernel_rfl,?_⟩;dsimp only[Pd,push_cast];have hs:=hl.slen;have hb:=hl.len;refine⟨⟨0,⟨aC,by simp⟩,rfl,rfl,rfl,rfl,rfl,trivial⟩,λi hi=>aE (λhlt=>?_) (λhge=>?_)⟩
 .obtain⟨x,hx⟩:∃x,l[i]? =some x:=⟨l[i]'(by omega),List.getElem?_eq_getElem _⟩
  obtain⟨b1,o1,e1,r1⟩:=hl.at hx;refine⟨b1,o1,e1,aC,hlt,x,.imm (by simpa using r1),x,rfl,aB (λhc=>gO hK ?_) (λhc=>?_)⟩
  .exact zE hx (by simpa using hc)
  .refine⟨i+1,⟨aC,?_⟩,aC,rfl,rfl,by rw[kE aC],rfl,rfl,trivial⟩;rw[xT hx,hi.2];simpa using hc
 .refine gO hK ?_;have:=hi.2
  rwa [List.take_of_length_le aC]at this
theorem Ru:Sound Tryz.prog 136 Kq:=by
 refine iB Tryz.func136 ?_;rintro cvs m h K ⟨s,l,rfl,hl,hK⟩;refine⟨V3 s l m h,rfl,aF,LU s l m h K,by kernel_rfl,?_⟩;dsimp only[LU,push_cast];have hs:=hl.slen;have hb:=hl.len;refine⟨⟨0,⟨aC,by simp⟩,rfl,rfl,rfl,rfl,rfl,trivial⟩,λi hi=>aE (λhlt=>?_) (λhge=>?_)⟩
 .obtain⟨x,hx⟩:∃x,l[i]? =some x:=⟨l[i]'(by omega),List.getElem?_eq_getElem _⟩
  obtain⟨b1,o1,e1,r1⟩:=hl.at hx;have good:dM x=true->(l.take (i+1)).all dM=true:=λhc=>by rw[xT hx,hi.2,hc];rfl
  refine⟨b1,o1,e1,aC,hlt,x,.imm (by simpa using r1),?_⟩;have next:dM x=true->∃(y:Nat),(y<=l.length/\(l.take y).all dM=true)/\l.length-y<l.length-i/\y=i+1:=λhc=>⟨i+1,⟨aC,good hc⟩,aC,rfl⟩
  repeat' (first|(refine aB (λ_=>?_) (λ_=>?_))|(refine gO hK (zE hx ?_);simp_all [dM];done)|(refine⟨i+1,⟨aC,good (by simp_all [dM])⟩,aC,rfl,rfl,by rw[kE aC],rfl,rfl,trivial⟩))
 .refine gO hK ?_;have:=hi.2
  rwa [List.take_of_length_le aC]at this
def UL(a b:VV):Bool:=a.kind==b.kind&&(a.int==b.int&&(a.text.toList==b.text.toList&&true))
def UM(a b:OV):Bool:=a.kind==b.kind&&(a.index==b.index&&(UL a.value b.value&&true))
theorem jV{f:Field}{fs:List Field}{d:Nat}{xs ys:Array Value}{w:World}{x y:Value}{r r':Bool}(hn:(f.name== "_")=false)(hx:u6 Tryz.prog (part f.type xs f.offset)=some x)(hy:u6 Tryz.prog (part f.type ys f.offset)=some y)
 (he:(Op.equalIn d f.type x y).run Tryz.prog w= .ok r w)(hr:(Op.eqFields d xs ys fs).run Tryz.prog w= .ok r' w):(Op.eqFields d xs ys (f::fs)).run Tryz.prog w= .ok (r&&r') w:=by
 have hn:f.name≠ "_" :=by simpa using hn
 simp only[Op.eqFields,if_pos hn,Sem.run_bind,xC _ _ _ hx,xC _ _ _ hy,Result.andThen_ok,he];cases r
 .simp
 .simpa using hr
noncomputable def Kv(t k:Nat):Field:=(Tryz.prog.fieldsOf t).toList.getD k default
theorem S7(a b:VV)(d:Nat)(w:World):(Op.equalIn (d+2) 27 (.agg #[.int .i64 a.kind,.int .i64 a.int,.string a.text]) (.agg #[.int .i64 b.kind,.int .i64 b.int,.string b.text])).run Tryz.prog w= .ok (UL a b) w:=by
 rw[run_equalIn_struct w (d+1) 27 _ _ (by kernel_rfl) (by kernel_rfl),show(Tryz.prog.fieldsOf 27).toList=[Kv 27 0,Kv 27 1,Kv 27 2]by kernel_rfl];refine jV (x:=.int .i64 a.kind) (y:=.int .i64 b.kind) (by kernel_rfl) (by kernel_rfl) (by kernel_rfl) (run_equalIn_int w d _ .i64 .i64 _ _ (by kernel_rfl)) ?_;refine jV (x:=.int .i64 a.int) (y:=.int .i64 b.int) (by kernel_rfl) (by kernel_rfl) (by kernel_rfl) (run_equalIn_int w d _ .i64 .i64 _ _ (by kernel_rfl)) ?_;refine jV (x:=.string a.text) (y:=.string b.text) (by kernel_rfl) (by kernel_rfl) (by kernel_rfl) (run_equalIn_string w d _ _ _ (by kernel_rfl)) ?_;simp[Op.eqFields]
theorem Yg(a b:OV)(d:Nat)(w:World):(Op.equalIn (d+3) 29 (.agg #[.int .i64 a.kind,.int .i64 a.index,.int .i64 a.value.kind,.int .i64 a.value.int,.string a.value.text]) (.agg #[.int .i64 b.kind,.int .i64 b.index,.int .i64 b.value.kind,.int .i64 b.value.int,.string b.value.text])).run Tryz.prog w= .ok (UM a b) w:=by
 rw[run_equalIn_struct w (d+2) 29 _ _ (by kernel_rfl) (by kernel_rfl),show(Tryz.prog.fieldsOf 29).toList=[Kv 29 0,Kv 29 1,Kv 29 2]by kernel_rfl];refine jV (x:=.int .i64 a.kind) (y:=.int .i64 b.kind) (by kernel_rfl) (by kernel_rfl) (by kernel_rfl) (run_equalIn_int w (d+1) _ .i64 .i64 _ _ (by kernel_rfl)) ?_;refine jV (x:=.int .i64 a.index) (y:=.int .i64 b.index) (by kernel_rfl) (by kernel_rfl) (by kernel_rfl) (run_equalIn_int w (d+1) _ .i64 .i64 _ _ (by kernel_rfl)) ?_;refine jV (x:=.agg #[.int .i64 a.value.kind,.int .i64 a.value.int,.string a.value.text]) (y:=.agg #[.int .i64 b.value.kind,.int .i64 b.value.int,.string b.value.text]) (by kernel_rfl) (by kernel_rfl) (by kernel_rfl) ?_ ?_
 .rw[show(Kv 29 2).type=27 by kernel_rfl];exact S7 a.value b.value d w
 .simp[Op.eqFields]
theorem FC(a b:VV):StructEq Tryz.prog 27 (.agg #[.int .i64 a.kind,.int .i64 a.int,.string a.text]) (.agg #[.int .i64 b.kind,.int .i64 b.int,.string b.text]) (UL a b):=
 ⟨by kernel_rfl,λw=>S7 a b 9998 w⟩
theorem zA(a b:OV):StructEq Tryz.prog 29 (.agg #[.int .i64 a.kind,.int .i64 a.index,.int .i64 a.value.kind,.int .i64 a.value.int,.string a.value.text]) (.agg #[.int .i64 b.kind,.int .i64 b.index,.int .i64 b.value.kind,.int .i64 b.value.int,.string b.value.text]) (UM a b):=
 ⟨by kernel_rfl,λw=>Yg a b 9997 w⟩
theorem w8{a b:ByteArray}(h:a.toList=b.toList):a=b:=by
 rw[ByteArray.toList_eq,ByteArray.toList_eq]at h;cases a;cases b;simp only[ByteArray.mk.injEq];exact Array.toList_inj.1 h
theorem S8{a b:VV}:UL a b=true↔a=b:=by
 obtain⟨k,i,t⟩:=a;obtain⟨k',i',t'⟩:=b;simp only[UL,Bool.and_true,Bool.and_eq_true,beq_iff_eq,VV.mk.injEq];exact⟨λ⟨h1,h2,h3⟩=>⟨h1,h2,w8 h3⟩,λ⟨h1,h2,h3⟩=>⟨h1,h2,by rw[h3]⟩⟩
theorem Bv{a b:OV}:UM a b=true↔a=b:=by
 obtain⟨k,i,t⟩:=a;obtain⟨k',i',t'⟩:=b;simp only[UM,Bool.and_true,Bool.and_eq_true,beq_iff_eq,OV.mk.injEq,S8]
def zeroV:VV:=⟨0,0,⟨#[]⟩⟩
def dK:OV:=⟨0,0,zeroV⟩
def pE(l:List Int)(o:OV):Int:=if o.index<0||o.index>=l.length|| !UL o.value zeroV then 0 else l.getD o.index.toNat 0
def kindOf(cols params:List Int)(o:OV):Int:=
 if o.kind==3 then(if o.index !=0|| !lG o.value then 0 else o.value.kind)
 else if o.kind==2 then pE params o
 else if o.kind==1 then pE cols o
 else 0
def qX(v:PV):Bool:=v.cmp==0&&UM v.left dK&&UM v.right dK
def aO(o:OV):CV:=.val (.agg #[.int .i64 o.kind,.int .i64 o.index,.int .i64 o.value.kind,.int .i64 o.value.int,.string o.value.text])
def aP(p:PV):CV:=.val (.agg #[.int .i64 p.op,.int .i64 p.cmp,
 .int .i64 p.left.kind,.int .i64 p.left.index,.int .i64 p.left.value.kind,.int .i64 p.left.value.int,.string p.left.value.text,
 .int .i64 p.right.kind,.int .i64 p.right.index,.int .i64 p.right.value.kind,.int .i64 p.right.value.int,.string p.right.value.text,
 .slice p.args.a p.args.len p.args.cap])
def ZP(s t:Sl):CV:=.val (.agg #[.slice s.a s.len s.cap,.slice t.a t.len t.cap])
def WG:Vc.Spec:=λcvs m h K=>∃v,cvs=[aP v]/\K (cB (qX v)) m h
def Tr:Vc.Spec:=λcvs m h K=>∃s t cols params o,cvs=[cS s,cS t,aO o]/\Ints h s cols/\Ints h t params/\K (cI (kindOf cols params o)) m h
def P8:Vc.Spec:=λcvs m h K=>∃s t cols params o,cvs=[ZP s t,aO o]/\Ints h s cols/\Ints h t params/\K (cI (kindOf cols params o)) m h
abbrev lL(a:Nat)(b c:List Value)(d:Bool->Prop):Prop:=∃(x:Bool),StructEq Proofs.Tryz.prog a (Value.agg (Array.mk b)) (Value.agg (Array.mk c)) x/\d x
noncomputable abbrev aJ(a b:Value)(c:List Value):List Value:=a::b::c
noncomputable abbrev bC:Value:=dO 0
noncomputable abbrev xH:List Value:=iO Sj
noncomputable abbrev E8:List Value:=aJ bC bC (aJ bC bC xH)
attribute [push_cast] lL aJ bC xH E8
def LV(v:PV)(m:MH)(h:PH)(K:CV->MH->PH->Prop):Prop:=
  dH v.cmp 0 (lL 29 v.left.enc E8 (λr=>branch r (lL 29 v.right.enc E8 (λr1=>K (By r1) m h)) (K aW m h))) (K aW m h)
abbrev gP(a:Bool)(b c:Prop):Prop:=branch (!a) b c
noncomputable abbrev nL(a:OV):Int:=a.value.kind
abbrev fU(a b:Int)(c d:Prop):Prop:=branch (decide (a>=b)) c d
noncomputable abbrev uC:List Value:=aJ bC bC xH
attribute [push_cast] gP nL fU uC
def DA(s t:Sl)(o:OV)(m:MH)(h:PH)(K:CV->MH->PH->Prop):Prop:=
  cT (o.kind==3) (eA o.index 0 (K (eD 0) m h) (∃(v:VV),pX (iT o.value) (iT v) (gP (lG v) (K (eD 0) m h) (K (eD (nL o)) m h)))) (o.kind==2) (aZ o.index 0 (K (eD 0) m h) (fU o.index (aG t) (K (eD 0) m h) (lL 27 o.value.enc uC (λr=>gP r (K (eD 0) m h) (aR (λb o1=>aA (aT t.a b o1) (0<=o.index) (o.index<aG t/\∃(y:Int),aL m h b (fQ o1 o.index 1) (cL y)/\K (eD y) m h))))))) (dH o.kind 1 (aZ o.index 0 (K (eD 0) m h) (fU o.index (aG s) (K (eD 0) m h) (lL 27 o.value.enc uC (λr=>gP r (K (eD 0) m h) (aR (λb o1=>aA (aT s.a b o1) (0<=o.index) (o.index<aG s/\∃(y:Int),aL m h b (fQ o1 o.index 1) (cL y)/\K (eD y) m h))))))) (K (eD 0) m h))
theorem vU{x y:Int}(hK:K (cI x) m h)(e:x=y):K (.val (.int .i64 y)) m h:=e▸hK
theorem Ints.inb{s:Sl}(r:Ints h s l){n:Int}(h0:0<=n)(h1:n<(l.length:Int)):∃b o,s.a=some ⟨b,o,none⟩/\aY h b (o+n.toNat*1) [.int .i64 (l.getD n.toNat 0)]:=by
 have hx:l[n.toNat]? =some (l.getD n.toNat 0):=by
  rw[List.getD_eq_getElem?_getD,List.getElem?_eq_getElem aC];simp
 obtain⟨b,o,e,r⟩:=r.at hx;exact⟨b,o,e,by simpa using r⟩
theorem SZ{s t:Sl}{cols params:List Int}{o:OV}(hs:Ints h s cols)(ht:Ints h t params)(hK:K (cI (kindOf cols params o)) m h):DA s t o m h K:=by
 have es:=hs.slen;have et:=ht.slen;dsimp only[DA,push_cast];refine aB (λh1=>aB (λh2=>vU hK ?_) (λh2=>⟨o.value,rfl,aB (λh3=>vU hK ?_) (λh3=>vU hK ?_)⟩)) (λh1=>aB (λh2=>?_) (λh2=>aB (λh3=>?_) (λh3=>vU hK ?_)))
 .simp_all [kindOf]
 .simp_all [kindOf]
 .simp_all [kindOf]
 .have hk:kindOf cols params o=pE params o:=by simp_all [kindOf]
  rw[hk]at hK;refine aE (λh3=>vU hK ?_) (λh3=>aE (λh4=>vU hK ?_) (λh4=>⟨UL o.value zeroV,FC o.value zeroV,aB (λh5=>vU hK ?_) (λh5=>?_)⟩))
  .simp[pE,h3]
  .rw[et]at h4;simp[pE,h4]
  .simp only[Bool.not_eq_true']at h5;simp[pE,h5]
  .obtain⟨b,off,e,r⟩:=ht.inb (n:=o.index) aC aC;refine⟨b,off,e,aC,aC,_,.imm r,vU hK ?_⟩;have h4':¬o.index>=params.length:=by omega
   simp only[Bool.not_eq_false']at h5;simp[pE,h3,h4',h5]
 .have hk:kindOf cols params o=pE cols o:=by simp_all [kindOf]
  rw[hk]at hK;refine aE (λh3=>vU hK ?_) (λh3=>aE (λh4=>vU hK ?_) (λh4=>⟨UL o.value zeroV,FC o.value zeroV,aB (λh5=>vU hK ?_) (λh5=>?_)⟩))
  .simp[pE,h3]
  .rw[es]at h4;simp[pE,h4]
  .simp only[Bool.not_eq_true']at h5;simp[pE,h5]
  .obtain⟨b,off,e,r⟩:=hs.inb (n:=o.index) aC aC;refine⟨b,off,e,aC,aC,_,.imm r,vU hK ?_⟩;have h4':¬o.index>=cols.length:=by omega
   simp only[Bool.not_eq_false']at h5;simp[pE,h3,h4',h5]
 .simp_all [kindOf]
theorem Rz:Sound Tryz.prog 128 WG:=by
 refine iB Tryz.func128 ?_;rintro cvs m h K ⟨v,rfl,hK⟩;refine⟨ctx [] [] [] [] false,rfl,aF,LV v m h K,by kernel_rfl,?_⟩;dsimp only[LV,push_cast];refine aB (λh1=>⟨UM v.left dK,zA v.left dK,aB (λh2=>⟨UM v.right dK,zA v.right dK,gO hK ?_⟩) (λh2=>gO hK ?_)⟩) (λh1=>gO hK ?_)
 all_goals simp_all [qX]
theorem Ry:Sound Tryz.prog 129 Tr:=by
 refine iB Tryz.func129 ?_;rintro cvs m h K ⟨s,t,cols,params,o,rfl,hs,ht,hK⟩;refine⟨ctx [(164,Mk)] [] [] [] false,rfl,aD Q9 aF,DA s t o m h K,by kernel_rfl,?_⟩;exact SZ hs ht hK
theorem Q8:Sound Tryz.prog 176 P8:=by
 refine iB Tryz.func176 ?_;rintro cvs m h K ⟨s,t,cols,params,o,rfl,hs,ht,hK⟩;refine⟨ctx [(203,Mk)] [] [] [] false,rfl,aD Ef aF,DA s t o m h K,by kernel_rfl,?_⟩;exact SZ hs ht hK
def Pred.args:Pred->List Pred
 |.mk _ _ _ _ l=>l
mutual
def lQ:Pred->Int->Int
 |.mk _ _ _ _ args,n=>iY args (n+1)
def iY:List Pred->Int->Int
 |[],n=>n
 |p::ps,n=>if n<=24 then iY ps (lQ p n)else n
end
mutual
def kC:Pred->Nat->Bool
 |.mk _ _ _ _ _,0=>true
 |.mk _ _ _ _ args,n+1=>pN args n
def pN:List Pred->Nat->Bool
 |[],_=>false
 |p::ps,n=>kC p n||pN ps n
end
mutual
theorem AL:∀(p:Pred)(n:Int),n<=24->n<lQ p n/\lQ p n<=25
 |.mk _ _ _ _ args,n,h=>by
  have:=DP args (n+1) aC;simp only[lQ];omega
theorem DP:∀(ps:List Pred)(n:Int),n<=25->n<=iY ps n/\iY ps n<=25
 |[],n,h=>by simp only[iY];omega
 |p::ps,n,h=>by
  simp only[iY];split
  .rename_i h1;have h2:=AL p n h1;have h3:=DP ps (lQ p n) h2.2;omega
  .omega
end
theorem MP(ps:List Pred){n:Int}(h:¬n<=24):iY ps n=n:=by
 cases ps
 .simp[iY]
 .simp only[iY,if_neg h]
theorem FK(n:Nat):∀ps:List Pred,pN ps n=ps.any (kC · n)
 |[]=>by simp[pN]
 |p::ps=>by simp[pN,FK n ps]
theorem zC{p:Pred}{q:Pred}(h:q∈p.args):SizeOf.sizeOf q<SizeOf.sizeOf p:=by
 cases p with
 |mk op cmp l r args=>
  have:=List.sizeOf_lt_of_mem h;simp only[Pred.args]at this;simp only[Pred.mk.sizeOf_spec];omega
theorem dZ.open{v:PV}(r:dZ h p v):p.args.length<=502633886983/\v.args.len=p.args.length/\∀(i:Nat)(q:Pred),p.args[i]? =some q->∃b o u,v.args.a=some ⟨b,o,none⟩/\aY h b (o+i*13) (PV.enc u)/\dZ h q u:=by
 cases p with
 |mk op cmp l r' args=>
  obtain⟨h1,h2,h3,h4,h5,vs,h6,h7⟩:=r;have hl:=h7.length;refine⟨h5,?_,λi q hq=>?_⟩
  .have:=h6.len;simp at this;simp only[Pred.args];omega
  .obtain⟨u,hu,hr⟩:=h7.get hq;obtain⟨b,o,e,r⟩:=h6.get (i:=i) (e:=PV.enc u) (by simp[hu]);exact⟨b,o,u,e,r,hr⟩
def Sa(N:Nat):Vc.Spec:=λcvs m h K=>∃v p k,cvs=[aP v,cI k]/\dZ h p v/\SizeOf.sizeOf p<N/\0<=k/\k<=24/\K (cI (lQ p k)) m h
def NK(N:Nat):Vc.Spec:=λcvs m h K=>∃v p,∃k:Nat,cvs=[aP v,cI k]/\dZ h p v/\SizeOf.sizeOf p<N/\k<=100/\K (cB (kC p k)) m h
noncomputable def Xp(N:Nat)(v:PV)(p:Pred)(k:Int)(m:MH)(h:PH):Ctx:=
 ctx [(97,Sa N)] [(3,{A:=Nat×Int,st:=λx=>cD 27 29 [(1,iv x.2),(2,.at (.ptr 2 0)),(5,iv x.1)] [(2,.cells 32 (v.enc.map .val))] m h,inv:=λx=>x.1<=p.args.length/\0<=x.2/\x.2<=25/\iY (p.args.drop x.1) x.2=lQ p k,mu:=λx=>p.args.length-x.1})] [] [] false
noncomputable def Xo(N:Nat)(v:PV)(p:Pred)(k:Nat)(m:MH)(h:PH):Ctx:=
 ctx [(98,NK N)] [Cf 4 (λi=>cD 23 25 [(1,iv k),(2,.at (.ptr 2 0)),(10,iv v.args.len),(11,iv i)] [(2,.cells 32 (v.enc.map .val))] m h) (λi=>i<=p.args.length/\(p.args.take i).any (kC · (k-1))=false) (λi=>p.args.length-i)] [] [] false
abbrev D9(a:Nat)(b:Pred):Prop:=a<=b.args.length
abbrev H2(a:Nat×Int)(b:Pred)(c d:Int):Prop:=aA (D9 a.1 b) (0<=a.2) (a.2<=c/\iY (List.drop a.1 b.args) a.2=lQ b d)
abbrev cG(a b:Int):Prop:=fN a=fN b
noncomputable abbrev xM(a:Nat)(b:List Value):Option Own:=oQ a (List.map At.val b)
noncomputable abbrev tC(a:PV):Option Own:=xM 32 a.enc
abbrev kK(a:PV):Prop:=eQ (tC a)
abbrev B9(a b:Int)(c d:Prop):Prop:=branch (decide (a<=b)) c d
abbrev vG(a:PV->Pred->Prop):Prop:=∃(x:PV)(x1:Pred),a x x1
noncomputable abbrev bK(a b:CV):List CV:=a::jW b
noncomputable abbrev cJ(a:CV)(b:Int):List CV:=bK a (eD b)
noncomputable abbrev cW(a:PV):CV:=lF a.enc
abbrev nY(a:Pred)(b:Nat):Prop:=SizeOf.sizeOf a<b
abbrev cA(a:Int):Prop:=0<=a
noncomputable abbrev sB(a:Pred)(b:Nat):Nat:=a.args.length-b
attribute [push_cast] D9 H2 cG xM tC kK B9 vG bK cJ cW nY cA sB
def OQ(N:Nat)(v:PV)(p:Pred)(k:Int)(m:MH)(h:PH)(K:CV->MH->PH->Prop):Prop:=
  (∃(x:Nat×Int),aA (H2 x p 25 k) (cG (dX (k+1)) x.2) (aA (eP 2) (bD x.1) (cO (kK v) m m h h)))/\∀(x:Nat×Int),H2 x p 25 k->aZ (↑x.1:Int) (aG v.args) (B9 x.2 24 (aR (λb o=>aA (aT v.args.a b o) (0<=(↑x.1:Int)) ((↑x.1:Int)<aG v.args/\∃(y:PV),aL m h b (bA o x.1 13) y.enc/\vG (λv1 p1=>∃(k1:Int),aA (cJ (cW y) x.2=cJ (cW v1) k1) (dZ h p1 v1) (aA (nY p1 N) (cA k1) (k1<=24/\∃(y1:Nat×Int),aA (H2 y1 p 25 k) (sB p y1.1<sB p x.1) (aA (cG (lQ p1 k1) y1.2) (eP 2) (aA (fN (bG x.1 1)=bV y1.1) (kK v) (aA (m=m) (h=h) True))))))))) (K (eD x.2) m h)) (K (eD x.2) m h)
abbrev H3(a:Nat)(b:Pred)(c:Pred->Pred)(d:Nat):Prop:=D9 a b/\List.any (List.take a b.args) (fun(x:Pred)=>kC (c x) (d-1))=false
abbrev ER(a:List CV)(b:CV)(c d:Prop)(e:Nat->Prop):Prop:=∃(x:Nat),aA (a=cJ b (↑x:Int)) c (aA d (x<=100) (e x))
abbrev cQ(a b:PH):Prop:=a=b/\True
attribute [push_cast] H3 ER cQ
def OP(N:Nat)(v:PV)(p:Pred)(k:Nat)(m:MH)(h:PH)(K:CV->MH->PH->Prop):Prop:=
  dH (↑k:Int) 0 (K fJ m h) (gE (∃(x:Nat),aA (H3 x p (λx1=>x1) k) (eQ (bV k)) (aA (eP 2) (bL v.args) (aA (bD x) (kK v) (aA (m=m) (h=h) True)))) (λx=>H3 x p (λx1=>x1) k->aZ (↑x:Int) (aG v.args) (aR (λb o=>aA (aT v.args.a b o) (0<=(↑x:Int)) ((↑x:Int)<aG v.args/\∃(y:PV),aL m h b (bA o x 13) y.enc/\vG (λv1 p1=>ER (cJ (cW y) (dX ((↑k:Int)-1))) (cW v1) (dZ h p1 v1) (nY p1 N) (λk1=>iE (kC p1 k1) (K fJ m h) (λy1=>aA (H3 y1 p (λx1=>x1) k) (sB p y1<sB p x) (aA (eQ (bV k)) (eP 2) (aA (bL v.args) (fN (bG x 1)=bV y1) (aA (kK v) (m=m) (cQ h h)))))))))) (K aW m h)))
theorem SO:∀N,Sound Tryz.prog 97 (Sa N)
 |0=>by
  refine eG (fn:=Tryz.f97) (c:=dJ Tryz.f97) Tryz.func97 rfl (by decide) ?_;rintro cvs m h K ⟨v,p,k,rfl,hr,hN,_⟩;omega
 |N+1=>by
  refine iB Tryz.func97 ?_;rintro cvs m h K ⟨v,p,k,rfl,hr,hN,h0,h1,hK⟩;refine⟨Xp N v p k m h,rfl,aD (SO N) aF,OQ N v p k m h K,by kernel_rfl,?_⟩;dsimp only[OQ,push_cast];obtain⟨hl,hlen,hget⟩:=hr.open;refine⟨⟨(0,k+1),⟨by simp,by simp;omega,by simp;omega,?_⟩,by rw[eC aC aC],rfl,rfl,rfl,rfl,rfl,trivial⟩,?_⟩
  .cases p;simp[lQ,Pred.args]
  rintro⟨i,n⟩ ⟨hi,hn0,hn1,he⟩;simp only at hi hn0 hn1 he;refine aE (λhlt=>aE (λhn=>?_) (λhn=>vU hK ?_)) (λhge=>vU hK ?_)
  .simp only at hlt hn;obtain⟨q,hq⟩:∃q,p.args[i]? =some q:=⟨p.args[i]'(by omega),List.getElem?_eq_getElem _⟩
   obtain⟨b,o,u,ea,hrd,hru⟩:=hget i q hq
   have hd:p.args.drop i=q::p.args.drop (i+1):=by
    rw[List.drop_eq_getElem_cons aC];rw[List.getElem?_eq_getElem aC]at hq;simp at hq;rw[hq]
   have hb:=AL q n hn;refine⟨b,o,ea,by simp,by simpa using hlt,u,.imm (by simpa using hrd),u,q,n,rfl,hru,?_,hn0,hn,(i+1,lQ q n),⟨by simp only;omega,by simp only;omega,by simp only;omega,?_⟩,by simp only;omega,rfl,rfl,by rw[kE aC],rfl,rfl,rfl,trivial⟩
   .have:=zC (List.mem_of_getElem? hq);omega
   .rw[hd,iY,if_pos hn]at he;exact he
  .rw[<-he,MP _ hn]
  .rw[<-he,List.drop_of_length_le (by simp only at hge;omega)];simp[iY]
theorem SN:∀N,Sound Tryz.prog 98 (NK N)
 |0=>by
  refine eG (fn:=Tryz.f98) (c:=dJ Tryz.f98) Tryz.func98 rfl (by decide) ?_;rintro cvs m h K ⟨v,p,k,rfl,hr,hN,_⟩;omega
 |N+1=>by
  refine iB Tryz.func98 ?_;rintro cvs m h K ⟨v,p,k,rfl,hr,hN,h1,hK⟩;refine⟨Xo N v p k m h,rfl,aD (SN N) aF,OP N v p k m h K,by kernel_rfl,?_⟩;dsimp only[OP,push_cast];obtain⟨hl,hlen,hget⟩:=hr.open;refine aB (λhk=>gO hK ?_) (λhk=>?_)
  .have:k=0:=by have:(k:Int)=0:=(by simpa using hk);omega
   subst this;cases p;simp[kC]
  .have hk:k≠0:=by intro e;subst e;simp at hk
   have hdk:kC p k=p.args.any (kC · (k-1)):=by
    obtain⟨k',rfl⟩:∃k',k=k'+1:=⟨k-1,aC⟩
    cases p;simp[kC,FK,Pred.args]
   rw[hdk]at hK;refine⟨⟨0,⟨aC,by simp⟩,rfl,rfl,rfl,rfl,rfl,rfl,rfl,trivial⟩,λi hi=>aE (λhlt=>?_) (λhge=>gO hK ?_)⟩
   .obtain⟨q,hq⟩:∃q,p.args[i]? =some q:=⟨p.args[i]'(by omega),List.getElem?_eq_getElem _⟩
    obtain⟨b,o,u,ea,hrd,hru⟩:=hget i q hq;refine⟨b,o,ea,aC,hlt,u,.imm (by simpa using hrd),u,q,k-1,?_,hru,?_,aC,aB (λhd=>gO hK ?_) (λhd=>?_)⟩
    .rw[eC aC aC,show((k-1:Nat):Int)=(k:Int)-1 by omega]
    .have:=zC (List.mem_of_getElem? hq);omega
    .rw[List.any_eq_true];exact⟨q,List.mem_of_getElem? hq,hd⟩
    .refine⟨i+1,⟨aC,?_⟩,aC,rfl,rfl,rfl,by rw[kE aC],rfl,rfl,rfl,trivial⟩;rw[List.take_add_one,List.any_append,hi.2,hq];simpa using hd
   .have:=hi.2
    rwa [List.take_of_length_le aC]at this
def MK(cmp:Int)(l r:OV):Bool:=cmp==0&&UM l dK&&UM r dK
mutual
def iS(cols params:List Int):Pred->Bool
 |.mk op cmp l r args=>
  if op==1||op==2 then MK cmp l r&&args.length==0
  else if op==3 then args.length==0&&cmp>=1&&cmp<=6&&kindOf cols params l !=0&&kindOf cols params l==kindOf cols params r
  else if op==4||op==5||(op==6&&args.length==1)then MK cmp l r&&Az cols params args
  else false
def Az(cols params:List Int):List Pred->Bool
 |[]=>true
 |p::ps=>iS cols params p&&Az cols params ps
end
theorem BU(cols params:List Int):∀ps:List Pred,Az cols params ps=ps.all (iS cols params)
 |[]=>by simp[Az]
 |p::ps=>by simp[Az,BU cols params ps]
structure HT(cols params:List Int)(v:PV)(p:Pred):Prop where
 eq:iS cols params p=(qX v&&p.args.all (iS cols params))
def Ny(N:Nat):Vc.Spec:=λcvs m h K=>∃s t cols params v p,cvs=[cS s,cS t,aP v]/\Ints h s cols/\Ints h t params/\dZ h p v/\SizeOf.sizeOf p<N/\K (cB (iS cols params p)) m h
def Kg(N:Nat):Vc.Spec:=λcvs m h K=>∃s t cols params v p,cvs=[ZP s t,aP v]/\Ints h s cols/\Ints h t params/\dZ h p v/\SizeOf.sizeOf p<N/\K (cB (iS cols params p)) m h
noncomputable def Xn(N:Nat)(s t:Sl)(cols params:List Int)(v:PV)(p:Pred)(m:MH)(h:PH):Ctx:=
 ctx [(99,Ny N),(128,WG),(129,Tr)] [Cf 17 (λi=>cD 84 87 [(0,sv s),(1,sv t),(5,.at (.ptr 5 0)),(70,iv v.args.len),(71,iv i)] [(5,.cells 32 (v.enc.map .val))] m h) (λi=>i<=p.args.length/\(p.args.take i).all (iS cols params)=true) (λi=>p.args.length-i)] [(14,{A:=Unit,st:=λ_=>cD 84 87 [(0,sv s),(1,sv t),(5,.at (.ptr 5 0))] [(5,.cells 32 (v.enc.map .val))] m h,inv:=λ_=>HT cols params v p})] [] false
noncomputable def V1(N:Nat)(s t:Sl)(cols params:List Int)(v:PV)(p:Pred)(m:MH)(h:PH):Ctx:=
 ctx [(138,Kg N),(176,P8)] [Cf 18 (λi=>cD 87 89 [(2,.at (.ptr 2 0)),(3,.at (.ptr 3 0)),(76,sv v.args),(77,iv v.args.len),(78,iv i)] [(2,.cells 181 [.val (.slice s.a s.len s.cap),.val (.slice t.a t.len t.cap)]),(3,.cells 32 (v.enc.map .val))] m h) (λi=>i<=p.args.length/\(p.args.take i).all (iS cols params)=true) (λi=>p.args.length-i)] [(15,{A:=Unit,st:=λ_=>cD 87 89 [(2,.at (.ptr 2 0)),(3,.at (.ptr 3 0))] [(2,.cells 181 [.val (.slice s.a s.len s.cap),.val (.slice t.a t.len t.cap)]),(3,.cells 32 (v.enc.map .val))] m h,inv:=λ_=>HT cols params v p})] [] false
noncomputable abbrev pU(a:PV):Int:=aG a.args
abbrev iN(a:Sl->Sl->Prop):Prop:=∃(x x1:Sl),a x x1
abbrev nK(a:(List Int)->(List Int)->Prop):Prop:=∃(x x1:List Int),a x x1
abbrev EO(a:List CV)(b:Sl->Sl->OV->List CV)(c:PH)(d:(List Int)->(List Int)->OV->Prop):Prop:=iN (λx x1=>nK (λx2 x3=>∃(x4:OV),aA (a=b x x1 x4) (Ints c x x2) (Ints c x1 x3/\d x2 x3 x4)))
abbrev fH:Prop:=eP 5
abbrev Bb(a:Nat)(b:Pred)(c d:List Int):Prop:=D9 a b/\dV (List.all (List.take a b.args) (iS c d))
attribute [push_cast] pU iN nK EO fH Bb
def OO(N:Nat)(s t:Sl)(cols params:List Int)(v:PV)(p:Pred)(m:MH)(h:PH)(K:CV->MH->PH->Prop):Prop:=
  cT (v.op==1) (∃(v1:PV),pX (cW v) (cW v1) (branch (qX v1) (K (By (pU v==0)) m h) (K aW m h))) (v.op==2) (∃(v1:PV),pX (cW v) (cW v1) (branch (qX v1) (K (By (pU v==0)) m h) (K aW m h))) (cT (v.op==3) (EO (dN s::bK (dN t) (lF v.left.enc)) (λs1 t1 o=>dN s1::bK (dN t1) (lF o.enc)) h (λc p1 o=>dH (pU v) 0 (fU v.cmp 1 (B9 v.cmp 6 (eA (kindOf c p1 o) 0 (EO (dN s::bK (dN t) (lF v.right.enc)) (λs1 t1 o1=>dN s1::bK (dN t1) (lF o1.enc)) h (λc1 p2 o1=>K (By (kindOf c p1 o==kindOf c1 p2 o1)) m h)) (K aW m h)) (K aW m h)) (K aW m h)) (K aW m h))) (v.op==4) (∃(x:Unit),aA (HT cols params v p) (aI s) (aA (aI t) fH (cO (kK v) m m h h))) (cT (v.op==5) (∃(x:Unit),aA (HT cols params v p) (aI s)
 (aA (aI t) fH (cO (kK v) m m h h))) (v.op==6) (eA (pU v) 1 (K aW m h) (∃(x:Unit),aA (HT cols params v p) (aI s) (aA (aI t) fH (cO (kK v) m m h h)))) (K aW m h)))/\∀(_:Unit),HT cols params v p->∃(v1:PV),pX (cW v) (cW v1) (gP (qX v1) (K aW m h) (gE (∃(x:Nat),aA (Bb x p cols params) (aI s) (aA (aI t) fH (aA (bL v.args) (bD x) (aA (kK v) (m=m) (cQ h h))))) (λx=>Bb x p cols params->aZ (↑x:Int) (aG v.args) (aR (λb o=>aA (aT v.args.a b o) (0<=(↑x:Int)) ((↑x:Int)<aG v.args/\∃(y:PV),aL m h b (bA o x 13) y.enc/\iN (λs1 t1=>nK (λc p1=>vG (λv2 p2=>aA (dN s::bK (dN t) (cW y)=dN s1::bK (dN t1) (cW v2)) (Ints h s1 c) (aA (Ints h t1 p1) (dZ h p2 v2)
 (nY p2 N/\iE (!(iS c p1 p2)) (K aW m h) (λy1=>aA (Bb y1 p cols params) (sB p y1<sB p x) (aA (aI s) (aI t) (aA fH (bL v.args) (aA (fN (bG x 1)=bV y1) (kK v) (dQ m m h h))))))))))))) (K fJ m h))))
noncomputable abbrev gL(a b:Value):List Value:=aJ a b []
noncomputable abbrev dU(a b:At)(c:List At):List At:=a::b::c
abbrev yH(a b:Sl):Prop:=eQ (oQ 181 (dU (xW a) (xW b) []))
abbrev fT(a:Prop)(b:Bool)(c d:Prop):Prop:=a->branch b c d
attribute [push_cast] gL dU yH fT
def LR(N:Nat)(s t:Sl)(cols params:List Int)(v:PV)(p:Pred)(m:MH)(h:PH)(K:CV->MH->PH->Prop):Prop:=
  cT (v.op==3) (EO (bK (lF (gL (dT s) (dT t))) (lF v.left.enc)) (λs1 t1 o=>bK (lF (gL (dT s1) (dT t1))) (lF o.enc)) h (λc p1 o=>EO (bK (lF (gL (dT s) (dT t))) (lF v.right.enc)) (λs1 t1 o1=>bK (lF (gL (dT s1) (dT t1))) (lF o1.enc)) h (λc1 p2 o1=>dH (pU v) 0 (fU v.cmp 1 (B9 v.cmp 6 (eA (kindOf c p1 o) 0 (K (By (kindOf c p1 o==kindOf c1 p2 o1)) m h) (K aW m h)) (K aW m h)) (K aW m h)) (K aW m h)))) (v.op==1) (eA (pU v) 0 (K aW m h) (∃(x:Unit),aA (HT cols params v p) (eP 2) (aA (eP 3) (yH s t) (cO (kK v) m m h h)))) (cT (v.op==2) (eA (pU v) 0 (K aW m h) (∃(x:Unit),aA (HT cols params v p) (eP 2) (aA (eP 3) (yH s t) (cO (kK v) m m h h)))) (v.op==6) (eA (pU v) 1 (K aW m h) (∃(x:Unit),aA (HT
 cols params v p) (eP 2) (aA (eP 3) (yH s t) (cO (kK v) m m h h)))) (cT (v.op==4) (∃(x:Unit),aA (HT cols params v p) (eP 2) (aA (eP 3) (yH s t) (cO (kK v) m m h h))) (v.op==5) (∃(x:Unit),aA (HT cols params v p) (eP 2) (aA (eP 3) (yH s t) (cO (kK v) m m h h))) (K aW m h)))/\∀(_:Unit),fT (HT cols params v p) (v.cmp !=0) (K aW m h) (lL 29 v.left.enc E8 (λr=>gP r (K aW m h) (lL 29 v.right.enc E8 (λr1=>gP r1 (K aW m h) (gE (∃(x:Nat),aA (Bb x p cols params) (eP 2) (aA (eP 3) (aI v.args) (aA (bL v.args) (bD x) (aA (yH s t) (kK v) (dQ m m h h))))) (λx=>Bb x p cols params->aZ (↑x:Int) (aG v.args) (aR (λb o=>aA (aT v.args.a b o) (0<=(↑x:Int)) ((↑x:Int)<aG v.args/\∃(y:PV),aL m
 h b (bA o x 13) y.enc/\iN (λs1 t1=>nK (λc p1=>vG (λv1 p2=>aA (bK (lF (gL (dT s) (dT t))) (cW y)=bK (lF (gL (dT s1) (dT t1))) (cW v1)) (Ints h s1 c) (aA (Ints h t1 p1) (dZ h p2 v1) (nY p2 N/\iE (!(iS c p1 p2)) (K aW m h) (λy1=>aA (Bb y1 p cols params) (sB p y1<sB p x) (aA (eP 2) (eP 3) (aA (aI v.args) (bL v.args) (aA (fN (bG x 1)=bV y1) (yH s t) (cO (kK v) m m h h))))))))))))) (K fJ m h)))))))
theorem dZ.top{v:PV}(r:dZ h p v):p= .mk v.op v.cmp v.left v.right p.args:=by
 cases p with
 |mk op cmp l r' args=>obtain⟨h1,h2,h3,h4,_⟩:=r;simp[Pred.args,h1,h2,h3,h4]
theorem Hd{cols params:List Int}{h:PH}{p:Pred}{v:PV}(r:dZ h p v):iS cols params p=if v.op==1||v.op==2 then qX v&&p.args.length==0
 else if v.op==3 then p.args.length==0&&v.cmp>=1&&v.cmp<=6&&kindOf cols params v.left !=0&&kindOf cols params v.left==kindOf cols params v.right
 else if v.op==4||v.op==5||(v.op==6&&p.args.length==1)then qX v&&p.args.all (iS cols params)
 else false:=by
 have:=r.top;generalize p.args=xs at this⊢
 subst this;rw[iS,BU];rfl
theorem IA{n:Nat}{k:Nat}:((n:Int)==(k:Int))=(n==k):=by
 apply Bool.eq_iff_iff.2;rw[beq_iff_eq,beq_iff_eq];omega
theorem SM:∀N,Sound Tryz.prog 99 (Ny N)
 |0=>by
  refine eG (fn:=Tryz.f99) (c:=dJ Tryz.f99) Tryz.func99 rfl (by decide) ?_;rintro cvs m h K ⟨s,t,cols,params,v,p,rfl,_,_,hr,hN,_⟩;omega
 |N+1=>by
  refine iB Tryz.func99 ?_;rintro cvs m h K ⟨s,t,cols,params,v,p,rfl,hs,ht,hr,hN,hK⟩;refine⟨Xn N s t cols params v p m h,rfl,aD (SM N) (aD Rz (aD Ry aF)),OO N s t cols params v p m h K,by kernel_rfl,?_⟩;obtain⟨hl,hlen,hget⟩:=hr.open;have hv:=Hd (cols:=cols) (params:=params) hr;have hz:((v.args.len:Int)==0)=(p.args.length==0):=by rw[hlen];exact IA (k:=0)
  have h1:((v.args.len:Int) !=1)=(p.args.length !=1):=by rw[hlen];simp only[bne];rw[show(1:Int)=((1:Nat):Int)from rfl,IA]
  dsimp only[OO,push_cast];refine⟨?_,?_⟩
  .refine aB (λe=>⟨v,rfl,aB (λe2=>gO hK ?_) (λe2=>gO hK ?_)⟩) (λe=>aB (λe1=>⟨v,rfl,aB (λe2=>gO hK ?_) (λe2=>gO hK ?_)⟩) (λe1=>aB (λe2=>⟨s,t,cols,params,v.left,rfl,hs,ht,?_⟩) (λe2=>?_)))
   .rw[hv,hz];simp[e,e2]
   .rw[hv];simp[e,e2]
   .rw[hv,hz];simp[e1,e2]
   .rw[hv];simp[e1,e2]
   .have hv3:iS cols params p=(p.args.length==0&&v.cmp>=1&&v.cmp<=6&&kindOf cols params v.left !=0&&kindOf cols params v.left==kindOf cols params v.right):=by rw[hv];simp[e,e1,e2]
    rw[hv3]at hK;refine aB (λe3=>aB (λe4=>aB (λe5=>aB (λe6=>⟨s,t,cols,params,v.right,rfl,hs,ht,gO hK ?_⟩) (λe6=>gO hK ?_)) (λe5=>gO hK ?_)) (λe4=>gO hK ?_)) (λe3=>gO hK ?_)
    all_goals (rw[hz]at e3;simp only[beq_iff_eq,decide_eq_true_eq,decide_eq_false_iff_not]at*;simp[*])
   .refine aB (λe3=>⟨(),⟨by rw[hv];simp[e,e1,e2,e3]⟩,rfl,rfl,rfl,rfl,rfl,rfl,trivial⟩) (λe3=>aB (λe4=>⟨(),⟨by rw[hv];simp[e,e1,e2,e4]⟩,rfl,rfl,rfl,rfl,rfl,rfl,trivial⟩) (λe4=>aB (λe5=>aB (λe6=>gO hK ?_) (λe6=>⟨(),⟨?_⟩,rfl,rfl,rfl,rfl,rfl,rfl,trivial⟩)) (λe5=>gO hK ?_)))
    .rw[h1]at e6;rw[hv];simp_all
    .rw[h1]at e6;rw[hv];simp_all
    .rw[hv];simp_all
  .intro _ htl;rw[htl.eq]at hK;refine⟨v,rfl,aB (λe=>gO hK ?_) (λe=>?_)⟩
   .simp_all
   .have e:qX v=true:=by simpa using e
    rw[e,Bool.true_and]at hK;refine⟨⟨0,⟨aC,by simp⟩,rfl,rfl,rfl,rfl,rfl,rfl,rfl,rfl,trivial⟩,λi hi=>aE (λhlt=>?_) (λhge=>gO hK ?_)⟩
    .obtain⟨q,hq⟩:∃q,p.args[i]? =some q:=⟨p.args[i]'(by omega),List.getElem?_eq_getElem _⟩
     obtain⟨b,o,u,ea,hrd,hru⟩:=hget i q hq;refine⟨b,o,ea,aC,hlt,u,.imm (by simpa using hrd),s,t,cols,params,u,q,rfl,hs,ht,hru,?_,aB (λhd=>gO hK ?_) (λhd=>?_)⟩
     .have:=zC (List.mem_of_getElem? hq);omega
     .exact zE hq (by simpa using hd)
     .refine⟨i+1,⟨aC,?_⟩,aC,rfl,rfl,rfl,rfl,by rw[kE aC],rfl,rfl,rfl,trivial⟩;rw[xT hq,hi.2];simpa using hd
    .have:=hi.2
     rwa [List.take_of_length_le aC]at this
theorem PD:∀N,Sound Tryz.prog 138 (Kg N)
 |0=>by
  refine eG (fn:=Tryz.f138) (c:=dJ Tryz.f138) Tryz.func138 rfl (by decide) ?_;rintro cvs m h K ⟨s,t,cols,params,v,p,rfl,_,_,hr,hN,_⟩;omega
 |N+1=>by
  refine iB Tryz.func138 ?_;rintro cvs m h K ⟨s,t,cols,params,v,p,rfl,hs,ht,hr,hN,hK⟩;refine⟨V1 N s t cols params v p m h,rfl,aD (PD N) (aD Q8 aF),LR N s t cols params v p m h K,by kernel_rfl,?_⟩;obtain⟨hl,hlen,hget⟩:=hr.open;have hv:=Hd (cols:=cols) (params:=params) hr;have hz:((v.args.len:Int)==0)=(p.args.length==0):=by rw[hlen];exact IA (k:=0)
  have hz':((v.args.len:Int) !=0)=(p.args.length !=0):=by simp only[bne];rw[hz]
  have h1:((v.args.len:Int) !=1)=(p.args.length !=1):=by rw[hlen];simp only[bne];rw[show(1:Int)=((1:Nat):Int)from rfl,IA]
  have hnil:p.args.length=0->p.args.all (iS cols params)=true:=λe=>by rw[List.eq_nil_of_length_eq_zero e];rfl
  dsimp only[LR,push_cast];refine⟨?_,?_⟩
  .refine aB (λe2=>⟨s,t,cols,params,v.left,rfl,hs,ht,s,t,cols,params,v.right,rfl,hs,ht,?_⟩) (λe2=>aB (λe=>aB (λe3=>gO hK ?_) (λe3=>⟨(),⟨?_⟩,rfl,rfl,rfl,rfl,rfl,rfl,trivial⟩)) (λe=>aB (λe1=>aB (λe3=>gO hK ?_) (λe3=>⟨(),⟨?_⟩,rfl,rfl,rfl,rfl,rfl,rfl,trivial⟩)) (λe1=>aB (λe5=>aB (λe6=>gO hK ?_) (λe6=>⟨(),⟨?_⟩,rfl,rfl,rfl,rfl,rfl,rfl,trivial⟩)) (λe5=>aB (λe3=>⟨(),⟨?_⟩,rfl,rfl,rfl,rfl,rfl,rfl,trivial⟩) (λe3=>aB (λe4=>⟨(),⟨?_⟩,rfl,rfl,rfl,rfl,rfl,rfl,trivial⟩) (λe4=>gO hK ?_))))))
   .have e2':v.op=3:=by simpa using e2
    have hv3:iS cols params p=(p.args.length==0&&v.cmp>=1&&v.cmp<=6&&kindOf cols params v.left !=0&&kindOf cols params v.left==kindOf cols params v.right):=by rw[hv];simp[e2']
    rw[hv3]at hK;refine aB (λe3=>aB (λe4=>aB (λe5=>aB (λe6=>gO hK ?_) (λe6=>gO hK ?_)) (λe5=>gO hK ?_)) (λe4=>gO hK ?_)) (λe3=>gO hK ?_)
    all_goals (rw[hz]at e3;simp only[beq_iff_eq,decide_eq_true_eq,decide_eq_false_iff_not]at*;simp[*])
   .rw[hz']at e3;rw[hv];simp_all
   .rw[hz']at e3;rw[hv];have e3':p.args.length=0:=by simpa using e3
    rw[hnil e3',e3'];simp[e]
   .rw[hz']at e3;rw[hv];simp_all
   .rw[hz']at e3;rw[hv];have e3':p.args.length=0:=by simpa using e3
    rw[hnil e3',e3'];simp[e1]
   .rw[h1]at e6;rw[hv];simp_all
   .rw[h1]at e6;rw[hv];simp_all
   .rw[hv];simp[e,e1,e2,e3]
   .rw[hv];simp[e,e1,e2,e4]
   .rw[hv];simp_all
  .intro _ htl;rw[htl.eq]at hK;refine aB (λe=>gO hK ?_) (λe=>⟨UM v.left dK,zA v.left dK,aB (λe1=>gO hK ?_) (λe1=>⟨UM v.right dK,zA v.right dK,aB (λe2=>gO hK ?_) (λe2=>?_)⟩)⟩)
   .simp_all [qX]
   .simp_all [qX]
   .simp_all [qX]
   .have e:qX v=true:=by simp_all [qX]
    rw[e,Bool.true_and]at hK;refine⟨⟨0,⟨aC,by simp⟩,rfl,rfl,rfl,rfl,rfl,rfl,rfl,rfl,rfl,trivial⟩,λi hi=>aE (λhlt=>?_) (λhge=>gO hK ?_)⟩
    .obtain⟨q,hq⟩:∃q,p.args[i]? =some q:=⟨p.args[i]'(by omega),List.getElem?_eq_getElem _⟩
     obtain⟨b,o,u,ea,hrd,hru⟩:=hget i q hq;refine⟨b,o,ea,aC,hlt,u,.imm (by simpa using hrd),s,t,cols,params,u,q,rfl,hs,ht,hru,?_,aB (λhd=>gO hK ?_) (λhd=>?_)⟩
     .have:=zC (List.mem_of_getElem? hq);omega
     .exact zE hq (by simpa using hd)
     .refine⟨i+1,⟨aC,?_⟩,aC,rfl,rfl,rfl,rfl,by rw[kE aC],rfl,rfl,rfl,rfl,trivial⟩;rw[xT hq,hi.2];simpa using hd
    .have:=hi.2
     rwa [List.take_of_length_le aC]at this
theorem drop_cons{α:Type}{l:List α}{x:α}(h:l[i]? =some x):l.drop i=x::l.drop (i+1):=by
 have hi:i<l.length:=(List.getElem?_eq_some_iff.1 h).1;rw[List.drop_eq_getElem_cons hi];rw[List.getElem?_eq_getElem hi]at h;simp at h;rw[h]
mutual
def kH:Pred->Nat->Int->Bool×Int
 |.mk _ _ _ _ args,k,b=>if b<1 then(false,b-1)else match k with|0=>(false,b-1)|k+1=>qU args k (b-1)
def qU:List Pred->Nat->Int->Bool×Int
 |[],_,b=>(true,b)
 |p::ps,k,b=>match kH p k b with|(false,b')=>(false,b')|(true,b')=>qU ps k b'
end
mutual
def U0:Pred->Int
 |.mk _ _ _ _ args=>1+Ev args
def Ev:List Pred->Int
 |[]=>0
 |p::ps=>U0 p+Ev ps
end
mutual
theorem My:∀p:Pred,1<=U0 p
 |.mk _ _ _ _ args=>by have:=BV args;simp only[U0];omega
theorem BV:∀ps:List Pred,0<=Ev ps
 |[]=>by simp[Ev]
 |p::ps=>by have:=My p;have:=BV ps;simp only[Ev];omega
end
mutual
theorem KY:∀(p:Pred)(n:Int),n<=24->(n+U0 p<=24->lQ p n=n+U0 p)/\(24<n+U0 p->lQ p n=25)
 |.mk _ _ _ _ args,n,h=>by
  obtain⟨h1,h2⟩:=Jk args (n+1) aC;simp only[lQ,U0];exact⟨λe=>by rw[h1 aC];omega,λe=>h2 aC⟩
theorem Jk:∀(ps:List Pred)(n:Int),n<=25->(n+Ev ps<=24->iY ps n=n+Ev ps)/\(24<n+Ev ps->iY ps n=25)
 |[],n,h=>by
  simp only[iY,Ev];omega
 |p::ps,n,h=>by
  have h1:=My p;have h2:=BV ps;simp only[iY,Ev];by_cases h3:n<=24
  .rw[if_pos h3];have h4:=KY p n h3;have h5:=(AL p n h3).2;have h6:=Jk ps _ h5;by_cases h7:n+U0 p<=24
   .have h8:=h4.1 h7;rw[h8]at h6⊢
    exact⟨λe=>by rw[h6.1 aC];omega,λe=>h6.2 aC⟩
   .have h8:=h4.2 aC;rw[h8]at h6⊢
    exact⟨λe=>by omega,λe=>h6.2 aC⟩
  .rw[if_neg h3];omega
end
mutual
theorem F4:∀(p:Pred)(k:Nat)(b:Int),0<=b->((kH p k b).1=true↔U0 p<=b/\kC p k=false)/\((kH p k b).1=true->(kH p k b).2=b-U0 p)
 |.mk _ _ _ _ args,k,b,h=>by
  have hp:=BV args;simp only[kH,U0];by_cases h0:b<1
  .rw[if_pos h0];exact⟨⟨λe=>(by cases e),λe=>aC⟩,λe=>(by cases e)⟩
  .rw[if_neg h0];cases k with
   |zero=>exact⟨⟨λe=>(by cases e),λe=>(by simp[kC]at e)⟩,λe=>(by cases e)⟩
   |succ k=>
    obtain⟨h1,h2⟩:=IU args k (b-1) aC;simp only[kC];refine⟨⟨λe=>?_,λe=>h1.2 ⟨aC,e.2⟩⟩,λe=>by have:=h2 e;omega⟩;have:=h1.1 e;exact⟨aC,this.2⟩
theorem IU:∀(ps:List Pred)(k:Nat)(b:Int),0<=b->((qU ps k b).1=true↔Ev ps<=b/\pN ps k=false)/\((qU ps k b).1=true->(qU ps k b).2=b-Ev ps)
 |[],k,b,h=>by simp[qU,Ev,pN,h]
 |p::ps,k,b,h=>by
  obtain⟨h1,h2⟩:=F4 p k b h;have hp:=BV ps;simp only[qU,Ev,pN];cases e:kH p k b with
  |mk r b'=>
   rw[e]at h1 h2;cases r with
   |false=>
    refine⟨⟨λe=>(by cases e),λe=>?_⟩,λe=>(by cases e)⟩;have:=h1.2 ⟨aC,(Bool.or_eq_false_iff.1 e.2).1⟩;cases this
   |true=>
    have h3:=h2 rfl;have h1:=h1.1 rfl;simp only at h3;obtain⟨h4,h5⟩:=IU ps k b' aC;refine⟨⟨λe=>?_,λe=>?_⟩,λe=>by have:=h5 e;simp only;omega⟩
    .have:=h4.1 e;exact⟨aC,by rw[h1.2,this.2];rfl⟩
    .exact h4.2 ⟨aC,(Bool.or_eq_false_iff.1 e.2).2⟩
end
def gI(cols params:List Int)(p:Pred):Int:=
 if !cols.all dM|| !params.all dM then 1
 else if lQ p 0>24||kC p 8 then 2
 else if !iS cols params p then 50 else 0
theorem TI(p:Pred):(kH p 8 24).1= !(decide (lQ p 0>24)||kC p 8):=by
 have h1:=(F4 p 8 24 aC).1;have h2:=KY p 0 aC;rw[Bool.eq_iff_iff,h1];simp only[Bool.not_eq_true',Bool.or_eq_false_iff,decide_eq_false_iff_not];refine and_congr_left λ_=>⟨λe=>?_,λe=>?_⟩
 .rw[h2.1 aC];omega
 .by_cases h3:U0 p<=24
  .exact h3
  .rw[h2.2 aC]at e;omega
def PT(n:Int):Obj:=.cells #[.int .i64 n] 3 (0,0)
def R6(N:Nat):Vc.Spec:=λcvs m h K=>∃v p,∃k b:Nat,∃n,cvs=[aP v,cI (9-k),cP b]/\dZ h p v/\SizeOf.sizeOf p<N/\k<=9/\0<=n/\n<=24/\m b=some (PT n)/\∀m',jJ m m' b (PT (kH p k n).2)->K (cB (kH p k n).1) m' h
noncomputable def V2(N:Nat)(v:PV)(p:Pred)(k b:Nat)(n:Int)(m:MH)(h:PH):Ctx:=
 ctx [(137,R6 N)] [(5,{A:=Nat×Int×MH,st:=λx=>cD 36 39 [(1,iv (9-k)),(2,vv (.pointer (some ⟨b,0,none⟩))),(23,sv v.args),(24,iv v.args.len),(25,iv x.1)] [] x.2.2 h,inv:=λx=>x.1<=p.args.length/\0<=x.2.1/\x.2.1<=24/\jJ m x.2.2 b (PT x.2.1)/\1<=k/\qU (p.args.drop x.1) (k-1) x.2.1=kH p k n,mu:=λx=>p.args.length-x.1})] [] [] false
def qM:Vc.Spec:=λcvs m h K=>∃s t v cols params p,cvs=[cS s,cS t,aP v]/\Ints h s cols/\Ints h t params/\dZ h p v/\K (cI (gI cols params p)) m h
noncomputable def XC(N:Nat):Ctx:=ctx [(64,Kq),(97,Sa N),(98,NK N),(99,Ny N)] [] [] [] false
noncomputable def V9(N:Nat):Ctx:=ctx [(136,Kq),(137,R6 N),(138,Kg N)] [] [] [] false
abbrev tT(a:MH)(b:PH)(c d:Nat)(e:Int->Prop):Prop:=∃(x:Int),aL a b c d (cL x)/\e x
abbrev gK(a:(Array Value)->TypeId->Prop):Prop:=∃(x:Array Value)(x1:TypeId),a x x1
noncomputable abbrev eR(a:Array Value)(b:TypeId)(c:Nat):Obj:=Obj.cells a b (c,c)
abbrev fC(a:Nat)(b:Array Value):Prop:=a<b.size
abbrev bI(a b:MH)(c:Nat)(d:List Value)(e:Nat):Prop:=jJ a b c (eR (Array.mk d) e 0)
noncomputable abbrev eO(a:Value)(b:Nat)(c:Array Value):List Value:=a::List.drop b c.toList
abbrev eF(a b:Int)(c d:Prop):Prop:=branch (decide (a>b)) c d
abbrev H4(a:Nat×Int×MH)(b:Pred)(c:Nat)(d:Int):Prop:=qU (List.drop a.1 b.args) (c-1) a.2.1=kH b c d
abbrev cV(a:Nat):Prop:=eQ (Ve a 0)
noncomputable abbrev iL(a:Nat):CV:=Bx a 0
attribute [push_cast] tT gK eR fC bI eO eF H4 cV iL
def LS(N:Nat)(v:PV)(p:Pred)(k b:Nat)(n:Int)(m:MH)(h:PH)(K:CV->MH->PH->Prop):Prop:=
  tT m h b 0 (λy=>gK (λc E=>aA (uO m b (eR c E 0)) (fC 0 c) (∀(m1:MH),bI m m1 b (eO (dO (dX (y-1))) 1 c) E->tT m1 h b 0 (λy1=>aZ y1 0 (K aW m1 h) (eF (9-(↑k:Int)) 8 (K aW m1 h) ((∃(x:Nat×Int×MH),aA (aA (D9 x.1 p) (cA x.2.1) (aA (x.2.1<=24) (bI m x.2.2 b (cL x.2.1) 3) (1<=k/\H4 x p k n))) (eQ (fN (9-(↑k:Int)))) (aA (cV b) (aI v.args) (aA (bL v.args) (bD x.1) (aA (m1=x.2.2) (h=h) True))))/\∀(x:Nat×Int×MH),aA (D9 x.1 p) (cA x.2.1) (aA (x.2.1<=24) (bI m x.2.2 b (cL x.2.1) 3) (1<=k/\H4 x p k n))->aZ (↑x.1:Int) (aG v.args) (aR (λb1 o=>aA (aT v.args.a b1 o) (0<=(↑x.1:Int)) ((↑x.1:Int)<aG v.args/\∃(y2:PV),aL x.2.2 h b1 (bA o x.1 13) y2.enc/\vG (λv1 p1=>aR
 (λk1 b2=>∃(n1:Int),aA (cW y2::bK (eD (dX (9-(↑k:Int)+1))) (iL b)=cW v1::bK (eD (9-(↑k1:Int))) (iL b2)) (dZ h p1 v1) (aA (nY p1 N) (k1<=9) (aA (cA n1) (n1<=24) (x.2.2 b2=Option.some (eR (Array.mk (cL n1)) 3 0)/\∀(m2:MH),fT (bI x.2.2 m2 b2 (cL (kH p1 k1 n1).2) 3) (!(kH p1 k1 n1).1) (K aW m2 h) (∃(y3:Nat×Int×MH),aA (aA (D9 y3.1 p) (cA y3.2.1) (aA (y3.2.1<=24) (bI m y3.2.2 b (cL y3.2.1) 3) (1<=k/\H4 y3 p k n))) (sB p y3.1<sB p x.1) (aA (eQ (fN (9-(↑k:Int)))) (cV b) (aA (aI v.args) (bL v.args) (aA (fN (bG x.1 1)=bV y3.1) (m2=y3.2.2) (cQ h h))))))))))))) (K fJ x.2.2 h)))))))
abbrev A2(a:Sl->(List Int)->Prop):Prop:=∃(x:Sl)(x1:List Int),a x x1
noncomputable abbrev fX(a:Sl):List CV:=jW (dN a)
abbrev EP(a:Sl)(b:PH)(c:CV->MH->PH->Prop)(d:MH)(e:Prop):Prop:=A2 (λx x1=>aA (fX a=fX x) (Ints b x x1) (gP (Ea x1) (c (eD 1) d b) e))
attribute [push_cast] A2 fX EP
def O8(N:Nat)(s t:Sl)(v:PV)(m:MH)(h:PH)(K:CV->MH->PH->Prop):Prop:=
  EP s h K m (EP t h K m (vG (λv1 p=>∃(k:Int),aA (cJ (cW v) 0=cJ (cW v1) k) (dZ h p v1) (aA (nY p N) (cA k) (k<=24/\eF (lQ p k) 24 (K (eD 2) m h) (vG (λv2 p1=>ER (cJ (cW v) 8) (cW v2) (dZ h p1 v2) (nY p1 N) (λk1=>branch (kC p1 k1) (K (eD 2) m h) (iN (λs1 t1=>nK (λc p2=>vG (λv3 p3=>aA (dN s::bK (dN t) (cW v)=dN s1::bK (dN t1) (cW v3)) (Ints h s1 c) (aA (Ints h t1 p2) (dZ h p3 v3) (nY p3 N/\gP (iS c p2 p3) (K (eD 50) m h) (K (eD 0) m h)))))))))))))))
abbrev aM(a b c:Prop):Prop:=a->b->c
attribute [push_cast] aM
def L2(N:Nat)(s t:Sl)(v:PV)(m:MH)(h:PH)(K:CV->MH->PH->Prop):Prop:=
  EP s h K m (EP t h K m (∀(b:Nat)(m1:MH),aM (cC m h b) (bI m m1 b (cL 24) 3) (vG (λv1 p=>aR (λk b1=>∃(n:Int),aA (cW v::bK (eD 1) (iL b)=cW v1::bK (eD (9-(↑k:Int))) (iL b1)) (dZ h p v1) (aA (nY p N) (k<=9) (aA (cA n) (n<=24) (m1 b1=Option.some (eR (Array.mk (cL n)) 3 0)/\∀(m2:MH),fT (bI m1 m2 b1 (cL (kH p k n).2) 3) (!(kH p k n).1) (K (eD 2) m2 h) (iN (λs1 t1=>nK (λc p1=>vG (λv2 p2=>aA (bK (lF (gL (dT s) (dT t))) (cW v)=bK (lF (gL (dT s1) (dT t1))) (cW v2)) (Ints h s1 c) (aA (Ints h t1 p1) (dZ h p2 v2) (nY p2 N/\gP (iS c p1 p2) (K (eD 50) m2 h) (K (eD 0) m2 h)))))))))))))))
end Go.Ps
namespace Go.Vc
open Go.Ps Go.Proofs
theorem jJ.trans{m m' m'':MH}{b:Nat}{o o':Obj}(h1:jJ m m' b o)(h2:jJ m' m'' b o'):jJ m m'' b o':=⟨h2.at_,λb' hb=>(h2.other b' hb).trans (h1.other b' hb)⟩
end Go.Vc
namespace Go.Ps
open Go Go.Vc Go.Proofs
variable{K:CV->MH->PH->Prop}{m:MH}{h:PH}{ps:List Int}{cb:Nat}{sc:bJ}{v:QV}{q:Query}{p:Pred}{l:List Int}{i:Nat}{N:Nat}{m':MH}{h':PH}{co:List Int}{gr:List Int}{od:List (Int×Bool)}{w:Pred}{ta:Int}{li:Int}{xs:List (List Value)}{sz:Nat}{k:Nat}{ks:List (List Int)}{rs:List Int}{r:Sl}{a:List Int}{b:Nat}
theorem PE:∀N,Sound Tryz.prog 137 (R6 N)
 |0=>by
  refine eG (fn:=Tryz.f137) (c:=dJ Tryz.f137) Tryz.func137 rfl (by decide) ?_;rintro cvs m h K ⟨v,p,k,b,n,rfl,hr,hN,_⟩;omega
 |N+1=>by
  refine iB Tryz.func137 ?_;rintro cvs m h K ⟨v,p,k,b,n,rfl,hr,hN,hk,h0,h1,hm,hK⟩;refine⟨V2 N v p k b n m h,rfl,aD (PE N) aF,LS N v p k b n m h K,by kernel_rfl,?_⟩;dsimp only[LS,push_cast];obtain⟨hl,hlen,hget⟩:=hr.open;have hw:IntKind.i64.wrap (n-1)=n-1:=eC aC aC;refine⟨n,.of_m hm rfl,_,_,⟨hm⟩,by simp,λm' hu=>?_⟩;rw[hw]at hu;have hu':jJ m m' b (PT (n-1)):=hu;refine⟨n-1,.of_m hu'.at_ rfl,aE (λh2=>?_) (λh2=>aE (λh3=>?_) (λh3=>?_))⟩
  .have e:kH p k n=(false,n-1):=by cases p;simp only[kH];rw[if_pos aC]
   rw[e]at hK;exact hK m' hu'
  .have hk0:k=0:=by omega
   subst hk0;have e:kH p 0 n=(false,n-1):=by cases p;simp only[kH];rw[if_neg aC]
   rw[e]at hK;exact hK m' hu'
  .refine⟨⟨(0,n-1,m'),⟨by simp,by simp only;omega,by simp only;omega,hu',aC,?_⟩,MT⟩,?_⟩
   .obtain⟨k',rfl⟩:∃k',k=k'+1:=⟨k-1,aC⟩
    cases p;simp only[kH,List.drop_zero,Pred.args];rw[if_neg aC];rfl
   .rintro⟨i,x,mx⟩ ⟨hi,hx0,hx1,hmx,hk1,he⟩;simp only at hi hx0 hx1 hmx he;refine aE (λhlt=>?_) (λhge=>?_)
    .obtain⟨q,hq⟩:∃q,p.args[i]? =some q:=⟨p.args[i]'(by simp only at hlt;omega),List.getElem?_eq_getElem _⟩
     obtain⟨b1,o,u,ea,hrd,hru⟩:=hget i q hq;have hd:p.args.drop i=q::p.args.drop (i+1):=drop_cons hq;refine⟨b1,o,ea,by simp,by simpa using hlt,u,.imm (by simpa using hrd),u,q,k-1,b,x,?_,hru,?_,aC,hx0,hx1,hmx.at_,λm2 hm2=>?_⟩
     .rw[eC aC aC,show(9-((k-1:Nat):Int))=9-(k:Int)+1 by omega]
     .have:=zC (List.mem_of_getElem? hq);omega
     .have hmt:jJ m m2 b (PT (kH q (k-1) x).2):=hmx.trans hm2;rw[hd,qU]at he;obtain⟨hs1,hs2⟩:=F4 q (k-1) x hx0;cases e:kH q (k-1) x with
      |mk r x'=>
       rw[e]at he hmt hs1 hs2;cases r with
       |false=>
        simp only at he;rw[<-he]at hK;exact hK m2 hmt
       |true=>
        have hs3:=hs1.1 rfl;have hs4:=hs2 rfl;have hq1:=My q;simp only at hs4 he;exact⟨(i+1,x',m2),⟨by simp only at hlt⊢;omega,by simp only;omega,by simp only;omega,hmt,hk1,he⟩,by simp only at hlt⊢;omega,MT⟩
    .rw[List.drop_of_length_le (by simp only at hge;omega)]at he;simp only[qU]at he;rw[<-he]at hK;exact hK mx hmx
theorem Gz:Sound Tryz.prog 69 qM:=by
 refine iB Tryz.func69 ?_;rintro cvs m h K ⟨s,t,v,cols,params,p,rfl,hs,ht,hr,hK⟩;refine⟨XC (SizeOf.sizeOf p+1),rfl,aD Lk (aD (SO _) (aD (SN _) (aD (SM _) aF))),O8 (SizeOf.sizeOf p+1) s t v m h K,by kernel_rfl,?_⟩;dsimp only[O8,push_cast];refine⟨s,cols,rfl,hs,aB (λe1=>vU hK ?_) (λe1=>⟨t,params,rfl,ht,aB (λe2=>vU hK ?_) (λe2=>⟨v,p,0,rfl,hr,aC,aC,aC,aB (λe3=>vU hK ?_) (λe3=>⟨v,p,8,rfl,hr,aC,aC,aB (λe4=>vU hK ?_) (λe4=>⟨s,t,cols,params,v,p,rfl,hs,ht,hr,aC,aB (λe5=>vU hK ?_) (λe5=>vU hK ?_)⟩)⟩)⟩)⟩)⟩
 all_goals (simp only[gI];simp only[*,Bool.or_false,Bool.false_or,Bool.or_true,Bool.true_or,Bool.and_true,Bool.true_and,Bool.and_false,Bool.false_and,Bool.not_true,Bool.not_false,Bool.false_eq_true,if_true,if_false, ↓reduceIte])
theorem Fu{f:FuncId}{fn:Func}(hf:Tryz.prog.funcs[f]? =some fn){S:Vc.Spec}(hvc:∀cvs m h K,S cvs m h K->∃C:Ctx,C.P=Tryz.prog/\(∀g S,assoc C.specs g=some S->Sound Tryz.prog g S)/\∃N:Prop,N=Am C fn (dJ fn) (entry fn.ntmps cvs m h) (λr m' h'=>∃m2 h2,(∀b o,m2 b=some o->m' b=some o)/\PH.le h h2/\PH.le h2 h'/\K r m2 h2)/\N)(hb:fn.body=some (dJ fn):=by rfl)(hname:(fn.name== "runtime.NumGoroutine")=false:=by decide):Sound Tryz.prog f S:=T1 hf hb hname λcvs m h K hS=>let⟨C,hC,hs,N,e,hn⟩:=hvc cvs m h K hS;⟨C,hC,hs,e▸hn⟩
theorem J1:Sound Tryz.prog 113 qM:=by
 refine Fu Tryz.func113 ?_;rintro cvs m h K ⟨s,t,v,cols,params,p,rfl,hs,ht,hr,hK⟩;refine⟨V9 (SizeOf.sizeOf p+1),rfl,aD Ru (aD (PE _) (aD (PD _) aF)),L2 (SizeOf.sizeOf p+1) s t v m h (λr m' h'=>∃m2 h2,(∀b o,m2 b=some o->m' b=some o)/\PH.le h h2/\PH.le h2 h'/\K r m2 h2),by kernel_rfl,?_⟩;dsimp only[L2,push_cast];have hK2:∀(m':MH),(∀b o,m b=some o->m' b=some o)->∀x,gI cols params p=x->∃m2 h2,(∀b o,m2 b=some o->m' b=some o)/\PH.le h h2/\PH.le h2 h/\K (.val (.int .i64 x)) m2 h2:=λm' hm x e=>⟨m,h,hm,.refl _,.refl _,e▸hK⟩
 refine⟨s,cols,rfl,hs,aB (λe1=>hK2 m (λ_ _ e=>e) _ ?_) (λe1=>⟨t,params,rfl,ht,aB (λe2=>hK2 m (λ_ _ e=>e) _ ?_) (λe2 b m1 hb hm1=>⟨v,p,8,b,24,rfl,hr,aC,aC,aC,aC,hm1.at_,λm2 hm2=>?_⟩)⟩)⟩
 .simp only[gI];simp only[*,Bool.or_false,Bool.false_or,Bool.or_true,Bool.true_or,Bool.and_true,Bool.true_and,Bool.and_false,Bool.false_and,Bool.not_true,Bool.not_false,Bool.false_eq_true,if_true,if_false, ↓reduceIte]
 .simp only[gI];simp only[*,Bool.or_false,Bool.false_or,Bool.or_true,Bool.true_or,Bool.and_true,Bool.true_and,Bool.and_false,Bool.false_and,Bool.not_true,Bool.not_false,Bool.false_eq_true,if_true,if_false, ↓reduceIte]
 .have hsub:∀b o,m b=some o->m2 b=some o:=λb' o e=>by
   have hne:b'≠b:=λe'=>by rw[e',hb.m_]at e;cases e
   rw[hm2.other b' hne,hm1.other b' hne,e]
  have hsb:=TI p;refine aB (λe3=>hK2 m2 hsub _ ?_) (λe3=>⟨s,t,cols,params,v,p,rfl,hs,ht,hr,aC,aB (λe5=>hK2 m2 hsub _ ?_) (λe5=>hK2 m2 hsub _ ?_)⟩)
  all_goals (rw[hsb,Bool.not_not]at e3;clear hsb;simp only[gI];simp only[*,Bool.or_false,Bool.false_or,Bool.or_true,Bool.true_or,Bool.and_true,Bool.true_and,Bool.and_false,Bool.false_and,Bool.not_true,Bool.not_false,Bool.false_eq_true,if_true,if_false, ↓reduceIte])
structure bU{α β:Type}(h:PH)(sz:Nat)(enc:β->List Value)(R:α->β->Prop)(s:Sl)(l:List α):Prop where
 ex:∃vs:List β,aX h s sz (vs.map enc)/\l.length=vs.length/\∀(i:Nat)(x:α),l[i]? =some x->∃v,vs[i]? =some v/\R x v
 len:l.length<=502633886983
theorem bU.slen{α β:Type}{enc:β->List Value}{R:α->β->Prop}{s:Sl}{l:List α}(r:bU h sz enc R s l):s.len=l.length:=by
 obtain⟨vs,h1,h2,_⟩:=r.ex;have:=h1.len;simp at this;omega
theorem bU.at{α β:Type}{enc:β->List Value}{R:α->β->Prop}{s:Sl}{l:List α}(r:bU h sz enc R s l){x:α}(hi:l[i]? =some x):
 ∃b o v,s.a=some ⟨b,o,none⟩/\aY h b (o+i*sz) (enc v)/\R x v:=by
 obtain⟨vs,h1,_,h3⟩:=r.ex;obtain⟨v,hv,hr⟩:=h3 i x hi;obtain⟨b,o,e,k⟩:=h1.get (i:=i) (e:=enc v) (by simp[hv]);exact⟨b,o,v,e,k,hr⟩
theorem bU.mono{α β:Type}{enc:β->List Value}{R R':α->β->Prop}{s:Sl}{l:List α}(r:bU h sz enc R s l)(le:PH.le h h')(hR:∀x v,R x v->R' x v):bU h' sz enc R' s l:=by
 obtain⟨vs,h1,h2,h3⟩:=r.ex;exact⟨⟨vs,h1.mono le,h2,λi x hx=>(h3 i x hx).imp λv hv=>⟨hv.1,hR _ _ hv.2⟩⟩,r.len⟩
theorem bU.nil{α β:Type}(h:PH)(sz:Nat)(enc:β->List Value)(R:α->β->Prop):bU h sz enc R ⟨none,0,0⟩ ([]:List α):=
 ⟨⟨[],.nil h sz,rfl,λi x hx=>by simp at hx⟩,by simp⟩
theorem fD{α:Type}{l:List α}{i n:Nat}(hn:n=l.length)(hi:(i:Int)<(n:Int)):∃x,l[i]? =some x:=⟨l[i]'(by omega),List.getElem?_eq_getElem _⟩
def CC(h:PH)(s:Sl)(ps:List Pred):Prop:=bU h 13 PV.enc (dZ h) s ps
theorem CC.mono{s:Sl}{ps:List Pred}(r:CC h s ps)(le:PH.le h h'):CC h' s ps:=bU.mono r le λ_ _=>dZ.mono le
theorem sR.toL{s:Sl}{ps:List Pred}{vs:List PV}(h1:aX h s 13 (vs.map PV.enc))(h2:sR h ps vs)(hl:ps.length<=502633886983):CC h s ps:=
 ⟨⟨vs,h1,h2.length.symm,λ_ _ hx=>h2.get hx⟩,hl⟩
theorem sR.ofL{h:PH}:∀{ps:List Pred}{vs:List PV},ps.length=vs.length->(∀(i:Nat)(x:Pred),ps[i]? =some x->∃v,vs[i]? =some v/\dZ h x v)->sR h ps vs
 |[],[],_,_=>rfl
 |p::ps,v::vs,hl,hx=>by
  obtain⟨v',h1,h2⟩:=hx 0 p rfl;simp at h1;subst h1;exact⟨v,vs,rfl,h2,sR.ofL (by simpa using hl) λi x e=>by simpa using hx (i+1) x (by simpa using e)⟩
 |[],_::_,hl,_=>by simp at hl
 |_::_,[],hl,_=>by simp at hl
theorem dZ.parts{op cmp:Int}{l r:OV}{args:List Pred}{v:PV}(x:dZ h (.mk op cmp l r args) v):v.op=op/\v.cmp=cmp/\v.left=l/\v.right=r/\CC h v.args args:=by
 obtain⟨h1,h2,h3,h4,h5,vs,h6,h7⟩:=x;exact⟨h1,h2,h3,h4,h7.toL h6 h5⟩
theorem dZ.mk{h:PH}{args:List Pred}{v:PV}(hl:CC h v.args args):dZ h (.mk v.op v.cmp v.left v.right args) v:=by
 obtain⟨vs,h1,h2,h3⟩:=hl.ex;exact⟨rfl,rfl,rfl,rfl,hl.len,vs,h1,.ofL h2 h3⟩
def Yq(N:Nat):Vc.Spec:=λcvs m h K=>∃v w p q,cvs=[aP v,aP w]/\dZ h p v/\dZ h q w/\SizeOf.sizeOf p<N/\∀r:Bool,(r=true↔p=q)->K (cB r) m h
def YJ(N:Nat):Vc.Spec:=λcvs m h K=>∃s t ps qs,cvs=[cS s,cS t,.val (.func (.func 213) #[] #[])]/\CC h s ps/\CC h t qs/\(∀p∈ps,SizeOf.sizeOf p<N)/\∀r:Bool,(r=true↔ps=qs)->K (cB r) m h
noncomputable def VG(N:Nat):Ctx:=ctx [(224,YJ N)] [] [] [] false
noncomputable def VE(N:Nat)(s t:Sl)(ps qs:List Pred)(m:MH)(h:PH):Ctx:=
 ctx [(213,Yq N)] [Cf 4 (λi=>cD 32 35 [(1,sv t),(2,vv (.func (.func 213) #[] #[])),(15,sv s),(16,iv s.len),(17,iv i)] [] m h) (λi=>i<=ps.length/\∀j:Nat,j<i->ps[j]? =qs[j]?) (λi=>ps.length-i)] [] [] false
noncomputable def VT(N:Nat)(v w:PV)(ps qs:List Pred)(m:MH)(h:PH):Ctx:=
 ctx [(163,Yq N)] [Cf 4 (λi=>cD 60 62 [(2,.at (.ptr 2 0)),(3,.at (.ptr 3 0)),(43,iv v.args.len),(44,iv i)] [(2,.cells 32 (v.enc.map .val)),(3,.cells 32 (w.enc.map .val))] m h) (λi=>i<=ps.length/\∀j:Nat,j<i->ps[j]? =qs[j]?) (λi=>ps.length-i)] [] [] false
noncomputable abbrev Jv:Array Value:=Array.mk []
noncomputable abbrev Cd(a:Nat)(b:Array Value):Value:=Value.func (Fn.func a) Jv b
noncomputable abbrev kM(a:Nat):Value:=Cd a Jv
noncomputable abbrev Bh(a b:Sl)(c:Nat):List CV:=dN a::bK (dN b) (CV.val (kM c))
attribute [push_cast] Jv Cd kM Bh
def GD(N:Nat)(v w:PV)(m:MH)(h:PH)(K:CV->MH->PH->Prop):Prop:=
  dH v.op w.op (dH v.cmp w.cmp (lL 29 v.left.enc w.left.enc (λr=>branch r (lL 29 v.right.enc w.right.enc (λr1=>branch r1 (iN (λs t=>∃(p q:List Pred),aA (Bh v.args w.args 213=Bh s t 213) (CC h s p) (aA (CC h t q) (∀(p1:Pred),List.Mem p1 p->nY p1 N) (∀(r2:Bool),(dV r2↔p=q)->K (By r2) m h)))) (K aW m h))) (K aW m h))) (K aW m h)) (K aW m h)
abbrev A3(a:Nat)(b c:List Pred):Prop:=gE (a<=b.length) (λx=>x<a->b[x]? =c[x]?)
abbrev Bg(a:Nat):Prop:=eQ (SV.at (At.val (kM a)))
abbrev E9(a:PV->PV->Pred->Pred->Prop):Prop:=∃(x:PV),vG (λx1 x2=>∃(x3:Pred),a x x1 x2 x3)
attribute [push_cast] A3 Bg E9
def Ls(N:Nat)(s t:Sl)(ps qs:List Pred)(m:MH)(h:PH)(K:CV->MH->PH->Prop):Prop:=
  eA (aG s) (aG t) (K aW m h) (gE (∃(x:Nat),aA (A3 x ps qs) (aI t) (aA (Bg 213) (aI s) (aA (bL s) (bD x) (aA (m=m) (h=h) True)))) (λx=>A3 x ps qs->aZ (↑x:Int) (aG s) (aR (λb o=>aA (aT s.a b o) (0<=(↑x:Int)) ((↑x:Int)<aG s/\∃(y:PV),aL m h b (bA o x 13) y.enc/\aR (λb1 o1=>aA (aT t.a b1 o1) (0<=(↑x:Int)) ((↑x:Int)<aG t/\∃(y1:PV),aL m h b1 (bA o1 x 13) y1.enc/\E9 (λv w p q=>aA (bK (cW y) (cW y1)=bK (cW v) (cW w)) (dZ h p v) (aA (dZ h q w) (nY p N) (∀(r:Bool),(dV r↔p=q)->iE (!r) (K aW m h) (λy2=>aA (A3 y2 ps qs) (ps.length-y2<ps.length-x) (aA (aI t) (Bg 213) (aA (aI s) (bL s) (aA (fN (bG x 1)=bV y2) (m=m) (cQ h h))))))))))))) (K
 fJ m h)))
def GJ(N:Nat)(v w:PV)(ps qs:List Pred)(m:MH)(h:PH)(K:CV->MH->PH->Prop):Prop:=
  cT (v.op !=w.op) (K aW m h) (v.cmp !=w.cmp) (K aW m h) (lL 29 v.left.enc w.left.enc (λr=>gP r (K aW m h) (lL 29 v.right.enc w.right.enc (λr1=>cT (!r1) (K aW m h) (pU v !=pU w) (K aW m h) (gE (∃(x:Nat),aA (A3 x ps qs) (eP 2) (aA (eP 3) (bL v.args) (aA (bD x) (kK v) (aA (kK w) (m=m) (cQ h h))))) (λx=>A3 x ps qs->aZ (↑x:Int) (aG v.args) (aR (λb o=>aA (aT v.args.a b o) (0<=(↑x:Int)) ((↑x:Int)<aG v.args/\∃(y:PV),aL m h b (bA o x 13) y.enc/\aR (λb1 o1=>aA (aT w.args.a b1 o1) (0<=(↑x:Int)) ((↑x:Int)<aG w.args/\∃(y1:PV),aL m h b1 (bA o1 x 13) y1.enc/\E9 (λv1 w1 p q=>aA (bK (cW y) (cW y1)=bK (cW v1) (cW w1)) (dZ h p v1) (aA (dZ h q w1) (nY p N) (∀(r2:Bool),
 (dV r2↔p=q)->iE (!r2) (K aW m h) (λy2=>aA (A3 y2 ps qs) (ps.length-y2<ps.length-x) (aA (eP 2) (eP 3) (aA (bL v.args) (fN (bG x 1)=bV y2) (aA (kK v) (kK w) (dQ m m h h))))))))))))) (K fJ m h)))))))
theorem w9{α:Type}{a b:List α}(hl:a.length=b.length)(hi:a.length<=i)(h:∀j:Nat,j<i->a[j]? =b[j]?):a=b:=by
 apply List.ext_getElem?;intro j;by_cases hj:j<i
 .exact h j hj
 .rw[List.getElem?_eq_none aC,List.getElem?_eq_none aC]
theorem tJ{α:Type}{a b:List α}{x y:α}(hx:a[i]? =some x)(hy:b[i]? =some y)(e:x=y)(h:∀j:Nat,j<i->a[j]? =b[j]?):∀j:Nat,j<i+1->a[j]? =b[j]? :=by
 intro j hj;by_cases e':j=i
 .subst e';rw[hx,hy,e]
 .exact h j aC
theorem KZ{α:Type}{a b:List α}{x y:α}(hx:a[i]? =some x)(hy:b[i]? =some y)(e:x≠y):a≠b:=λh=>by
 subst h;rw[hx]at hy;simp at hy;exact e hy
theorem Gl{α β:Type}{s t:Sl}{a:List α}{b:List β}(hs:s.len=a.length)(ht:t.len=b.length)(e:((s.len:Int) !=(t.len:Int))=true):a.length≠b.length:=λh=>by
 rw[hs,ht,h]at e;simp at e
theorem Gm{α β:Type}{s t:Sl}{a:List α}{b:List β}(hs:s.len=a.length)(ht:t.len=b.length)(e:((s.len:Int) !=(t.len:Int))=false):a.length=b.length:=by
 have:(s.len:Int)=t.len:=by simpa using e
 omega
theorem XV{v w:PV}{q:Pred}(hv:dZ h p v)(hw:dZ h q w)(hN:SizeOf.sizeOf p<N+1)(hK:∀r:Bool,(r=true↔p=q)->K (cB r) m h):GD N v w m h K:=by
 dsimp only[GD,push_cast];have hf:p≠q->K (cB false) m h:=λh=>hK false ⟨λe=>(by cases e),λe=>(h e).elim⟩;have hargs:=@zC p;obtain⟨op,cmp,l,r,ps⟩:=p;obtain⟨op',cmp',l',r',qs⟩:=q;obtain⟨rfl,rfl,rfl,rfl,hps⟩:=hv.parts;obtain⟨rfl,rfl,rfl,rfl,hqs⟩:=hw.parts;refine aB (λh1=>aB (λh2=>⟨_,zA _ _,aB (λh3=>⟨_,zA _ _,aB (λh4=>⟨v.args,w.args,ps,qs,rfl,hps,hqs,λp hp=>?_,λr hr=>hK r (hr.trans ?_)⟩) (λh4=>hf λe=>?_)⟩) (λh3=>hf λe=>?_)⟩) (λh2=>hf λe=>?_)) (λh1=>hf λe=>?_)
 .have:=hargs (q:=p) hp;omega
 .rw[Bv]at h3 h4;simp only[beq_iff_eq]at h1 h2;rw[h1,h2,h3,h4];exact⟨λe=>by rw[e],λe=>by injection e⟩
 .injection e with _ _ _ e _;rw[Bv.2 e]at h4;cases h4
 .injection e with _ _ e _ _;rw[Bv.2 e]at h3;cases h3
 .injection e with _ e _ _ _;rw[e]at h2;simp at h2
 .injection e with e _ _ _ _;rw[e]at h1;simp at h1
theorem Pw:∀N,Sound Tryz.prog 213 (Yq N)
 |0=>by
  refine eG (fn:=Tryz.f213) (c:=dJ Tryz.f213) Tryz.func213 rfl (by decide) ?_;rintro cvs m h K ⟨v,w,p,q,rfl,hr,_,hN,_⟩;omega
 |N+1=>by
  have h144:Sound Tryz.prog 224 (YJ N):=by
   refine iB Tryz.func224 ?_;rintro cvs m h K ⟨s,t,ps,qs,rfl,ha,hb,hN,hK⟩;refine⟨VE N s t ps qs m h,rfl,aD (Pw N) aF,Ls N s t ps qs m h K,by kernel_rfl,?_⟩;dsimp only[Ls,push_cast];have hsa:=ha.slen;have htb:=hb.slen;have hla:=ha.len;have hf:ps≠qs->K (cB false) m h:=λh=>hK false ⟨λe=>(by cases e),λe=>(h e).elim⟩;refine aB (λh1=>hf (λe=>Gl hsa htb h1 (by rw[e]))) (λh1=>?_);have hl:=Gm hsa htb h1;refine⟨⟨0,⟨aC,λj hj=>by omega⟩,MT⟩,λi hi=>aE (λhlt=>?_) (λhge=>?_)⟩
   .obtain⟨x,hx⟩:=fD hsa hlt;obtain⟨y,hy⟩:∃y,qs[i]? =some y:=fD (n:=s.len) aC hlt;obtain⟨b1,o1,u,e1,r1,ru⟩:=ha.at hx;obtain⟨b2,o2,w,e2,r2,rw'⟩:=hb.at hy;refine⟨b1,o1,e1,aC,hlt,u,.imm r1,b2,o2,e2,aC,aC,w,.imm r2,u,w,x,y,rfl,ru,rw',hN x (List.mem_of_getElem? hx),λr hr=>aB (λhne=>hf (KZ hx hy (λe=>?_))) (λhe=>?_)⟩
    .have:=hr.2 e;subst this;cases hne
    .have hr':r=true:=by simpa using he
     exact⟨i+1,⟨aC,tJ hx hy (hr.1 hr') hi.2⟩,aC,MT⟩
   .exact hK true ⟨λ_=>w9 hl aC hi.2,λ_=>rfl⟩
  refine iB Tryz.func213 ?_;rintro cvs m h K ⟨v,w,p,q,rfl,hr,hq,hN,hK⟩;refine⟨VG N,rfl,aD h144 aF,GD N v w m h K,by kernel_rfl,?_⟩;exact XV hr hq hN hK
theorem X0{v w:PV}{q:Pred}(hv:dZ h p v)(hw:dZ h q w)(hN:SizeOf.sizeOf p<N+1)(hK:∀r:Bool,(r=true↔p=q)->K (cB r) m h):GJ N v w p.args q.args m h K:=by
 dsimp only[GJ,push_cast];have hf:p≠q->K (cB false) m h:=λh=>hK false ⟨λe=>(by cases e),λe=>(h e).elim⟩;have hargs:=@zC p;obtain⟨op,cmp,l,r,ps⟩:=p;obtain⟨op',cmp',l',r',qs⟩:=q;obtain⟨rfl,rfl,rfl,rfl,ha⟩:=hv.parts;obtain⟨rfl,rfl,rfl,rfl,hb⟩:=hw.parts;simp only[Pred.args]at hargs⊢
 have hsa:=ha.slen;have htb:=hb.slen;have hla:=ha.len;refine aB (λh1=>hf λe=>?_) (λh1=>aB (λh2=>hf λe=>?_) (λh2=>⟨_,zA _ _,aB (λh3=>hf λe=>?_) (λh3=>⟨_,zA _ _,aB (λh4=>hf λe=>?_) (λh4=>aB (λh5=>hf λe=>?_) (λh5=>?_))⟩)⟩))
 .injection e with e _ _ _ _;rw[e]at h1;simp at h1
 .injection e with _ e _ _ _;rw[e]at h2;simp at h2
 .injection e with _ _ e _ _;rw[Bv.2 e]at h3;cases h3
 .injection e with _ _ _ e _;rw[Bv.2 e]at h4;cases h4
 .injection e with _ _ _ _ e;exact Gl hsa htb h5 (by rw[e])
 .have hl:=Gm hsa htb h5;have h3:v.left=w.left:=Bv.1 (by simpa using h3);have h4:v.right=w.right:=Bv.1 (by simpa using h4);have h1:v.op=w.op:=by simpa using h1
  have h2:v.cmp=w.cmp:=by simpa using h2
  rw[h1,h2,h3,h4]at hK hf;have hf:ps≠qs->K (cB false) m h:=λhne=>hf λe=>hne (by injection e);refine⟨⟨0,⟨aC,λj hj=>by omega⟩,MT⟩,λi hi=>aE (λhlt=>?_) (λhge=>?_)⟩
  .obtain⟨x,hx⟩:=fD hsa hlt;obtain⟨y,hy⟩:∃y,qs[i]? =some y:=fD (n:=v.args.len) aC hlt;obtain⟨b1,o1,u,e1,r1,ru⟩:=ha.at hx;obtain⟨b2,o2,z,e2,r2,rz⟩:=hb.at hy;refine⟨b1,o1,e1,aC,hlt,u,.imm r1,b2,o2,e2,aC,aC,z,.imm r2,u,z,x,y,rfl,ru,rz,?_,λr hr=>aB (λhne=>hf (KZ hx hy (λe=>?_))) (λhe=>?_)⟩
   .have:=hargs (List.mem_of_getElem? hx);omega
   .have:=hr.2 e;subst this;cases hne
   .have hr':r=true:=by simpa using he
    exact⟨i+1,⟨aC,tJ hx hy (hr.1 hr') hi.2⟩,aC,MT⟩
  .exact hK true ⟨λ_=>by rw[w9 hl aC hi.2],λ_=>rfl⟩
theorem PA:∀N,Sound Tryz.prog 163 (Yq N)
 |0=>by
  refine eG (fn:=Tryz.f163) (c:=dJ Tryz.f163) Tryz.func163 rfl (by decide) ?_;rintro cvs m h K ⟨v,w,p,q,rfl,hr,_,hN,_⟩;omega
 |N+1=>by
  refine iB Tryz.func163 ?_;rintro cvs m h K ⟨v,w,p,q,rfl,hr,hq,hN,hK⟩;refine⟨VT N v w p.args q.args m h,rfl,aD (PA N) aF,GJ N v w p.args q.args m h K,by kernel_rfl,?_⟩;exact X0 hr hq hN hK
def Yr:Vc.Spec:=λcvs m h K=>∃v w p q,cvs=[aP v,aP w]/\dZ h p v/\dZ h q w/\∀r:Bool,(r=true↔p=q)->K (cB r) m h
theorem vT{f:FuncId}{S:Nat->Vc.Spec}{S':Vc.Spec}(h:∀N,Sound Tryz.prog f (S N))(hs:∀cvs m h K,S' cvs m h K->∃N,S N cvs m h K):Sound Tryz.prog f S':=by
 refine⟨(h 0).1,λcvs vs m hh w K hS hp=>?_⟩;obtain⟨N,hN⟩:=hs cvs m hh K hS;exact(h N).2 cvs vs m hh w K hN hp
theorem QR:Sound Tryz.prog 213 Yr:=vT Pw λ_ _ _ _⟨v,w,p,q,e,h1,h2,h3⟩=>⟨SizeOf.sizeOf p+1,v,w,p,q,e,h1,h2,aC,h3⟩
theorem Ra:Sound Tryz.prog 163 Yr:=vT PA λ_ _ _ _⟨v,w,p,q,e,h1,h2,h3⟩=>⟨SizeOf.sizeOf p+1,v,w,p,q,e,h1,h2,aC,h3⟩
theorem FD{d e c i:Nat}{is:List Nat}{xs ys:Array Value}{w:World}{x y:Value}{r r':Bool}(hx:u6 Tryz.prog (part e xs (i*c))=some x)(hy:u6 Tryz.prog (part e ys (i*c))=some y)
 (he:(Op.equalIn d e x y).run Tryz.prog w= .ok r w)(hr:(Op.eqItems d e c xs ys is).run Tryz.prog w= .ok r' w):(Op.eqItems d e c xs ys (i::is)).run Tryz.prog w= .ok (r&&r') w:=by
 simp only[Op.eqItems,Sem.run_bind,xC _ _ _ hx,xC _ _ _ hy,Result.andThen_ok,he];cases r
 .simp
 .simpa using hr
def Zc(a b:Int×Int):Bool:=a.1==b.1&&(a.2==b.2&&true)
def Zb(a b:Int×Bool):Bool:=a.1==b.1&&(a.2==b.2&&true)
theorem Wh(a b:Int×Int):StructEq Tryz.prog 69 (.agg #[.int .i64 a.1,.int .i64 a.2]) (.agg #[.int .i64 b.1,.int .i64 b.2]) (Zc a b):=by
 refine⟨by kernel_rfl,λw=>?_⟩;obtain⟨i,hi⟩:=Option.isSome_iff_exists.1 (show(Tryz.prog.info? 3).isSome=true by kernel_rfl);rw[run_equalIn_array w 9999 (e:=3) (n:=2) _ _ (by kernel_rfl) hi,show Tryz.prog.cellsOf 3=1 by kernel_rfl,show List.range 2=[0,1]from rfl];refine FD (x:=.int .i64 a.1) (y:=.int .i64 b.1) (by kernel_rfl) (by kernel_rfl) (run_equalIn_int w 9998 _ .i64 .i64 _ _ (by kernel_rfl)) ?_;refine FD (x:=.int .i64 a.2) (y:=.int .i64 b.2) (by kernel_rfl) (by kernel_rfl) (run_equalIn_int w 9998 _ .i64 .i64 _ _ (by kernel_rfl)) ?_;simp[Op.eqItems]
theorem Wg(a b:Int×Bool):StructEq Tryz.prog 72 (.agg #[.int .i64 a.1,.bool a.2]) (.agg #[.int .i64 b.1,.bool b.2]) (Zb a b):=by
 refine⟨by kernel_rfl,λw=>?_⟩;rw[run_equalIn_struct w 9999 72 _ _ (by kernel_rfl) (by kernel_rfl),show(Tryz.prog.fieldsOf 72).toList=[Kv 72 0,Kv 72 1]by kernel_rfl];refine jV (x:=.int .i64 a.1) (y:=.int .i64 b.1) (by kernel_rfl) (by kernel_rfl) (by kernel_rfl) (run_equalIn_int w 9998 _ .i64 .i64 _ _ (by kernel_rfl)) ?_;refine jV (x:=.bool a.2) (y:=.bool b.2) (by kernel_rfl) (by kernel_rfl) (by kernel_rfl) (run_equalIn_bool w 9998 _ _ _ (by kernel_rfl)) ?_;simp[Op.eqFields]
theorem PN{a b:Int×Int}:Zc a b=true↔a=b:=by
 obtain⟨a1,a2⟩:=a;obtain⟨b1,b2⟩:=b;simp[Zc]
theorem PM{a b:Int×Bool}:Zb a b=true↔a=b:=by
 obtain⟨a1,a2⟩:=a;obtain⟨b1,b2⟩:=b;simp[Zb]
theorem lI.at{s:Sl}{l:List (Int×Int)}(r:lI h s l){x:Int×Int}(hi:l[i]? =some x):∃b o,s.a=some ⟨b,o,none⟩/\aY h b (o+i*2) (tP x):=r.row.get (by simp[hi])
theorem iI.at{s:Sl}{l:List (Int×Bool)}(r:iI h s l){x:Int×Bool}(hi:l[i]? =some x):∃b o,s.a=some ⟨b,o,none⟩/\aY h b (o+i*2) (CK x):=r.row.get (by simp[hi])
def Mj:Vc.Spec:=λcvs m h K=>∃(s t:Sl)(a b:List (Int×Int)),cvs=[cS s,cS t]/\lI h s a/\lI h t b/\∀r:Bool,(r=true↔a=b)->K (cB r) m h
def Mi:Vc.Spec:=λcvs m h K=>∃(s t:Sl)(a b:List (Int×Bool)),cvs=[cS s,cS t]/\iI h s a/\iI h t b/\∀r:Bool,(r=true↔a=b)->K (cB r) m h
noncomputable def Pv{α:Type}(s t:Sl)(a b:List α)(m:MH)(h:PH):Ctx:=
 ctx [] [Cf 4 (λi=>cD 26 28 [(0,sv s),(1,sv t),(12,iv s.len),(13,iv i)] [] m h) (λi=>i<=a.length/\∀j:Nat,j<i->a[j]? =b[j]?) (λi=>a.length-i)] [] [] false
noncomputable abbrev uB(a:Int×Int):List Value:=gL (dO a.1) (dO a.2)
attribute [push_cast] uB
def Lw(s t:Sl)(a b:List (Int×Int))(m:MH)(h:PH)(K:CV->MH->PH->Prop):Prop:=
  eA (aG s) (aG t) (K aW m h) (gE (∃(x:Nat),aA (gE (x<=a.length) (λj=>j<x->a[j]? =b[j]?)) (aI s) (aA (aI t) (bL s) (cO (bD x) m m h h))) (λx=>gE (x<=a.length) (λj=>j<x->a[j]? =b[j]?)->aZ (↑x:Int) (aG s) (aR (λb1 o=>aA (aT s.a b1 o) (0<=(↑x:Int)) ((↑x:Int)<aG s/\∃(y:Int×Int),aL m h b1 (bA o x 2) (uB y)/\aR (λb2 o1=>aA (aT t.a b2 o1) (0<=(↑x:Int)) ((↑x:Int)<aG t/\∃(y1:Int×Int),aL m h b2 (bA o1 x 2) (uB y1)/\lL 69 (uB y) (uB y1) (λr=>iE (!r) (K aW m h) (λy2=>aA (gE (y2<=a.length) (λj=>j<y2->a[j]? =b[j]?)) (a.length-y2<a.length-x) (aA (aI s) (aI t) (aA (bL s) (fN (bG x 1)=bV y2) (aA (m=m) (h=h) True)))))))))) (K fJ m h)))
noncomputable abbrev yL(a:Int×Bool):List Value:=gL (dO a.1) (Value.bool a.2)
attribute [push_cast] yL
def Lv(s t:Sl)(a b:List (Int×Bool))(m:MH)(h:PH)(K:CV->MH->PH->Prop):Prop:=
  eA (aG s) (aG t) (K aW m h) (gE (∃(x:Nat),aA (gE (x<=a.length) (λj=>j<x->a[j]? =b[j]?)) (aI s) (aA (aI t) (bL s) (cO (bD x) m m h h))) (λx=>gE (x<=a.length) (λj=>j<x->a[j]? =b[j]?)->aZ (↑x:Int) (aG s) (aR (λb1 o=>aA (aT s.a b1 o) (0<=(↑x:Int)) ((↑x:Int)<aG s/\∃(y:Int×Bool),aL m h b1 (bA o x 2) (yL y)/\aR (λb2 o1=>aA (aT t.a b2 o1) (0<=(↑x:Int)) ((↑x:Int)<aG t/\∃(y1:Int×Bool),aL m h b2 (bA o1 x 2) (yL y1)/\lL 72 (yL y) (yL y1) (λr=>iE (!r) (K aW m h) (λy2=>aA (gE (y2<=a.length) (λj=>j<y2->a[j]? =b[j]?)) (a.length-y2<a.length-x) (aA (aI s) (aI t) (aA (bL s) (fN (bG x 1)=bV y2) (aA (m=m) (h=h) True)))))))))) (K fJ m h)))
theorem QQ:Sound Tryz.prog 214 Mj:=by
 refine iB Tryz.func214 ?_;rintro cvs m h K ⟨s,t,a,b,rfl,ha,hb,hK⟩;refine⟨Pv s t a b m h,rfl,aF,Lw s t a b m h K,by kernel_rfl,?_⟩;dsimp only[Lw,push_cast];have hsa:=ha.slen;have htb:=hb.slen;have hla:=ha.len;have hf:a≠b->K (cB false) m h:=λh=>hK false ⟨λe=>(by cases e),λe=>(h e).elim⟩;refine aB (λh1=>hf (λe=>Gl hsa htb h1 (by rw[e]))) (λh1=>?_);have hl:=Gm hsa htb h1;refine⟨⟨0,⟨aC,λj hj=>by omega⟩,MT⟩,λi hi=>aE (λhlt=>?_) (λhge=>?_)⟩
 .obtain⟨x,hx⟩:=fD hsa hlt;obtain⟨y,hy⟩:∃y,b[i]? =some y:=fD (n:=s.len) aC hlt;obtain⟨b1,o1,e1,r1⟩:=ha.at hx;obtain⟨b2,o2,e2,r2⟩:=hb.at hy;refine⟨b1,o1,e1,aC,hlt,x,.imm r1,b2,o2,e2,aC,aC,y,.imm r2,_,Wh x y,aB (λhne=>hf (KZ hx hy (λe=>?_))) (λhe=>?_)⟩
  .rw[PN.2 e]at hne;cases hne
  .exact⟨i+1,⟨aC,tJ hx hy (PN.1 (by simpa using he)) hi.2⟩,aC,MT⟩
 .exact hK true ⟨λ_=>w9 hl aC hi.2,λ_=>rfl⟩
theorem QP:Sound Tryz.prog 215 Mi:=by
 refine iB Tryz.func215 ?_;rintro cvs m h K ⟨s,t,a,b,rfl,ha,hb,hK⟩;refine⟨Pv s t a b m h,rfl,aF,Lv s t a b m h K,by kernel_rfl,?_⟩;dsimp only[Lv,push_cast];have hsa:=ha.slen;have htb:=hb.slen;have hla:=ha.len;have hf:a≠b->K (cB false) m h:=λh=>hK false ⟨λe=>(by cases e),λe=>(h e).elim⟩;refine aB (λh1=>hf (λe=>Gl hsa htb h1 (by rw[e]))) (λh1=>?_);have hl:=Gm hsa htb h1;refine⟨⟨0,⟨aC,λj hj=>by omega⟩,MT⟩,λi hi=>aE (λhlt=>?_) (λhge=>?_)⟩
 .obtain⟨x,hx⟩:=fD hsa hlt;obtain⟨y,hy⟩:∃y,b[i]? =some y:=fD (n:=s.len) aC hlt;obtain⟨b1,o1,e1,r1⟩:=ha.at hx;obtain⟨b2,o2,e2,r2⟩:=hb.at hy;refine⟨b1,o1,e1,aC,hlt,x,.imm r1,b2,o2,e2,aC,aC,y,.imm r2,_,Wg x y,aB (λhne=>hf (KZ hx hy (λe=>?_))) (λhe=>?_)⟩
  .rw[PM.2 e]at hne;cases hne
  .exact⟨i+1,⟨aC,tJ hx hy (PM.1 (by simpa using he)) hi.2⟩,aC,MT⟩
 .exact hK true ⟨λ_=>w9 hl aC hi.2,λ_=>rfl⟩
noncomputable def Fy(s t:Sl)(a b:List Int)(m:MH)(h:PH):Ctx:=
 ctx [] [Cf 4 (λi=>cD 26 28 [(0,sv s),(1,sv t),(12,iv s.len),(13,iv i)] [] m h) (λi=>i<=a.length/\∀j:Nat,j<i->a[j]? =b[j]?) (λi=>a.length-i)] [] [] false
def DB(s t:Sl)(a b:List Int)(m:MH)(h:PH)(K:CV->MH->PH->Prop):Prop:=
  eA (aG s) (aG t) (K aW m h) (gE (∃(x:Nat),aA (gE (x<=a.length) (λj=>j<x->a[j]? =b[j]?)) (aI s) (aA (aI t) (bL s) (cO (bD x) m m h h))) (λx=>gE (x<=a.length) (λj=>j<x->a[j]? =b[j]?)->aZ (↑x:Int) (aG s) (aR (λb1 o=>aA (aT s.a b1 o) (0<=(↑x:Int)) ((↑x:Int)<aG s/\∃(y:Int),aL m h b1 (bA o x 1) (cL y)/\aR (λb2 o1=>aA (aT t.a b2 o1) (0<=(↑x:Int)) ((↑x:Int)<aG t/\∃(y1:Int),aL m h b2 (bA o1 x 1) (cL y1)/\iE (y !=y1) (K aW m h) (λy2=>aA (gE (y2<=a.length) (λj=>j<y2->a[j]? =b[j]?)) (a.length-y2<a.length-x) (aA (aI s) (aI t) (aA (bL s) (fN (bG x 1)=bV y2) (aA (m=m) (h=h) True))))))))) (K fJ m h)))
theorem Yc(s t:Sl)(a b:List Int)(m:MH)(h:PH)(K:CV->MH->PH->Prop):DB s t a b m h K=(Am (Fy s t a b m h) Tryz.f127 (dJ Tryz.f127) (entry 26 [cS s,cS t] m h) K):=by kernel_rfl
theorem XZ(s t:Sl)(a b:List Int)(m:MH)(h:PH)(K:CV->MH->PH->Prop):DB s t a b m h K=(Am (Fy s t a b m h) Tryz.f180 (dJ Tryz.f180) (entry 26 [cS s,cS t] m h) K):=by kernel_rfl
def Ax:Vc.Spec:=λcvs m h K=>∃(s t:Sl)(a b:List Int),cvs=[cS s,cS t]/\Ints h s a/\Ints h t b/\∀r:Bool,(r=true↔a=b)->K (cB r) m h
theorem S4{s t:Sl}{b:List Int}(ha:Ints h s a)(hb:Ints h t b)(hK:∀r:Bool,(r=true↔a=b)->K (cB r) m h):DB s t a b m h K:=by
 dsimp only[DB,push_cast];have hsa:=ha.slen;have htb:=hb.slen;have hla:=ha.len;have hf:a≠b->K (cB false) m h:=λh=>hK false ⟨λe=>by(cases e),λe=>(h e).elim⟩;refine aB (λh1=>hf (λe=>?_)) (λh1=>?_)
 .subst e;rw[hsa,htb]at h1;simp at h1
 .have hl:a.length=b.length:=by rw[hsa,htb]at h1;have:(a.length:Int)=b.length:=(by simpa using h1);omega
  refine⟨⟨0,⟨aC,λj hj=>by omega⟩,rfl,rfl,rfl,rfl,rfl,rfl,trivial⟩,λi hi=>aE (λhlt=>?_) (λhge=>?_)⟩
  .obtain⟨x,hx⟩:∃x,a[i]? =some x:=⟨a[i]'(by omega),List.getElem?_eq_getElem _⟩
   obtain⟨y,hy⟩:∃y,b[i]? =some y:=⟨b[i]'(by omega),List.getElem?_eq_getElem _⟩
   obtain⟨b1,o1,e1,r1⟩:=ha.at hx;obtain⟨b2,o2,e2,r2⟩:=hb.at hy;refine⟨b1,o1,e1,aC,hlt,x,.imm (by simpa using r1),b2,o2,e2,aC,aC,y,.imm (by simpa using r2),aB (λhne=>hf (λe=>?_)) (λhe=>?_)⟩
   .subst e;rw[hx]at hy;simp at hy;subst hy;simp at hne
   .have:x=y:=by simpa using he
    refine⟨i+1,⟨aC,λj hj=>?_⟩,aC,rfl,rfl,rfl,by rw[kE aC],rfl,rfl,trivial⟩;by_cases e:j=i
    .subst e;rw[hx,hy,this]
    .exact hi.2 j aC
  .refine hK true ⟨λ_=>?_,λ_=>rfl⟩;apply List.ext_getElem?;intro j;by_cases hj:j<i
   .exact hi.2 j hj
   .rw[List.getElem?_eq_none aC,List.getElem?_eq_none aC]
theorem RA:Sound Tryz.prog 127 Ax:=by
 refine eG (fn:=Tryz.f127) (c:=dJ Tryz.f127) Tryz.func127 rfl (by decide) ?_;rintro cvs m h K ⟨s,t,a,b,rfl,ha,hb,hK⟩;exact⟨Fy s t a b m h,rfl,aF,(Yc s t a b m h K)▸S4 ha hb hK⟩
theorem Eg:Sound Tryz.prog 180 Ax:=by
 refine eG (fn:=Tryz.f180) (c:=dJ Tryz.f180) Tryz.func180 rfl (by decide) ?_;rintro cvs m h K ⟨s,t,a,b,rfl,ha,hb,hK⟩;exact⟨Fy s t a b m h,rfl,aF,(XZ s t a b m h K)▸S4 ha hb hK⟩
def aQ(v:QV):CV:=.val (.agg ⟨v.enc⟩)
def Query.args:Query->List Query
 |.mk _ _ _ _ _ _ _ _ l=>l
theorem B3{p:Query}{q:Query}(h:q∈p.args):SizeOf.sizeOf q<SizeOf.sizeOf p:=by
 cases p with
 |mk op t w c o g s l args=>
  have:=List.sizeOf_lt_of_mem h;simp only[Query.args]at this;simp only[Query.mk.sizeOf_spec];omega
def zG(h:PH)(s:Sl)(ps:List Query):Prop:=bU h 21 QV.enc (cN h) s ps
theorem zG.mono{s:Sl}{ps:List Query}(r:zG h s ps)(le:PH.le h h'):zG h' s ps:=bU.mono r le λ_ _=>cN.mono le
theorem uY.ofL{h:PH}:∀{ps:List Query}{vs:List QV},ps.length=vs.length->(∀(i:Nat)(x:Query),ps[i]? =some x->∃v,vs[i]? =some v/\cN h x v)->uY h ps vs
 |[],[],_,_=>rfl
 |p::ps,v::vs,hl,hx=>by
  obtain⟨v',h1,h2⟩:=hx 0 p rfl;simp at h1;subst h1;exact⟨v,vs,rfl,h2,uY.ofL (by simpa using hl) λi x e=>by simpa using hx (i+1) x (by simpa using e)⟩
 |[],_::_,hl,_=>by simp at hl
 |_::_,[],hl,_=>by simp at hl
structure nI(h:PH)(op table:Int)(w:Pred)(c:List Int)(o:List (Int×Int))(g:List Int)(s:List (Int×Bool))(l:Int)(args:List Query)(v:QV):Prop where
 op_:v.op=op
 table_:v.table=table
 where_:dZ h w v.where_
 columns_:Ints h v.columns c
 on_:lI h v.on o
 group_:Ints h v.group g
 order_:iI h v.order s
 limit_:v.limit=l
 args_:zG h v.args args
theorem cN.parts{op table:Int}{c:List Int}{o:List (Int×Int)}{g:List Int}{s:List (Int×Bool)}{l:Int}{args:List Query}(x:cN h (.mk op table w c o g s l args) v):nI h op table w c o g s l args v:=by
 obtain⟨h1,h2,h3,h4,h5,h6,h7,h8,h9,vs,h10,h11⟩:=x;exact⟨h1,h2,h3,h4,h5,h6,h7,h8,⟨⟨vs,h10,h11.length.symm,λ_ _ hx=>h11.get hx⟩,h9⟩⟩
theorem nI.rep{op table:Int}{c:List Int}{o:List (Int×Int)}{g:List Int}{s:List (Int×Bool)}{l:Int}{args:List Query}(x:nI h op table w c o g s l args v):cN h (.mk op table w c o g s l args) v:=by
 obtain⟨vs,h1,h2,h3⟩:=x.args_.ex;exact⟨x.op_,x.table_,x.where_,x.columns_,x.on_,x.group_,x.order_,x.limit_,x.args_.len,vs,h1,.ofL h2 h3⟩
def ZA(N:Nat):Vc.Spec:=λcvs m h K=>∃v w p q,cvs=[aQ v,aQ w]/\cN h p v/\cN h q w/\SizeOf.sizeOf p<N/\∀r:Bool,(r=true↔p=q)->K (cB r) m h
def ZB:Vc.Spec:=λcvs m h K=>∃v w p q,cvs=[aQ v,aQ w]/\cN h p v/\cN h q w/\∀r:Bool,(r=true↔p=q)->K (cB r) m h
def YI(N:Nat):Vc.Spec:=λcvs m h K=>∃s t ps qs,cvs=[cS s,cS t,.val (.func (.func 204) #[] #[])]/\zG h s ps/\zG h t qs/\(∀p∈ps,SizeOf.sizeOf p<N)/\∀r:Bool,(r=true↔ps=qs)->K (cB r) m h
noncomputable def VJ(N:Nat):Ctx:=ctx [(213,Yr),(180,Ax),(214,Mj),(215,Mi),(216,YI N)] [] [] [] false
noncomputable def VF(N:Nat)(s t:Sl)(ps qs:List Query)(m:MH)(h:PH):Ctx:=
 ctx [(204,ZA N)] [Cf 4 (λi=>cD 32 35 [(1,sv t),(2,vv (.func (.func 204) #[] #[])),(15,sv s),(16,iv s.len),(17,iv i)] [] m h) (λi=>i<=ps.length/\∀j:Nat,j<i->ps[j]? =qs[j]?) (λi=>ps.length-i)] [] [] false
abbrev j2(a b:List CV)(c d:Prop)(e:Bool->Prop):Prop:=aA (a=b) c (d/\∀(x:Bool),e x)
noncomputable abbrev jP(a b:Sl):List CV:=bK (dN a) (dN b)
abbrev p9(a:Query)(b:Nat):Prop:=SizeOf.sizeOf a<b
attribute [push_cast] j2 jP p9
def GG(N:Nat)(v w:QV)(m:MH)(h:PH)(K:CV->MH->PH->Prop):Prop:=
  dH v.op w.op (dH v.table w.table (dH v.limit w.limit (E9 (λv1 w1 p q=>j2 (bK (cW v.where_) (cW w.where_)) (bK (cW v1) (cW w1)) (dZ h p v1) (dZ h q w1) (λr=>fT (dV r↔p=q) r (iN (λs t=>nK (λa b=>j2 (jP v.columns w.columns) (jP s t) (Ints h s a) (Ints h t b) (λr1=>fT (dV r1↔a=b) r1 (iN (λs1 t1=>∃(a1 b1:List (Int×Int)),j2 (jP v.on w.on) (jP s1 t1) (lI h s1 a1) (lI h t1 b1) (λr2=>fT (dV r2↔a1=b1) r2 (iN (λs2 t2=>nK (λa2 b2=>j2 (jP v.group w.group) (jP s2 t2) (Ints h s2 a2) (Ints h t2 b2) (λr3=>fT (dV r3↔a2=b2) r3 (iN (λs3 t3=>∃(a3 b3:List (Int×Bool)),j2 (jP v.order w.order) (jP s3 t3) (iI h s3 a3) (iI h t3 b3) (λr4=>fT (dV r4↔a3=b3) r4 (iN
 (λs4 t4=>∃(p1 q1:List Query),aA (Bh v.args w.args 204=Bh s4 t4 204) (zG h s4 p1) (aA (zG h t4 q1) (∀(p2:Query),List.Mem p2 p1->p9 p2 N) (∀(r5:Bool),(dV r5↔p1=q1)->K (By r5) m h)))) (K aW m h)))) (K aW m h))))) (K aW m h)))) (K aW m h))))) (K aW m h)))) (K aW m h)) (K aW m h)) (K aW m h)
abbrev qF(a:QV->Query->Prop):Prop:=∃(x:QV)(x1:Query),a x x1
noncomputable abbrev bW(a:QV):CV:=lF a.enc
attribute [push_cast] qF bW
def Lu(N:Nat)(s t:Sl)(ps qs:List Query)(m:MH)(h:PH)(K:CV->MH->PH->Prop):Prop:=
  eA (aG s) (aG t) (K aW m h) (gE (∃(x:Nat),aA (gE (x<=ps.length) (λj=>j<x->ps[j]? =qs[j]?)) (aI t) (aA (Bg 204) (aI s) (aA (bL s) (bD x) (aA (m=m) (h=h) True)))) (λx=>gE (x<=ps.length) (λj=>j<x->ps[j]? =qs[j]?)->aZ (↑x:Int) (aG s) (aR (λb o=>aA (aT s.a b o) (0<=(↑x:Int)) ((↑x:Int)<aG s/\∃(y:QV),aL m h b (bA o x 21) y.enc/\aR (λb1 o1=>aA (aT t.a b1 o1) (0<=(↑x:Int)) ((↑x:Int)<aG t/\∃(y1:QV),aL m h b1 (bA o1 x 21) y1.enc/\∃(v:QV),qF (λw p=>∃(q:Query),aA (bK (bW y) (bW y1)=bK (bW v) (bW w)) (cN h p v) (aA (cN h q w) (p9 p N) (∀(r:Bool),(dV r↔p=q)->iE (!r) (K aW m h) (λy2=>aA (gE (y2<=ps.length) (λj=>j<y2->ps[j]? =qs[j]?))
 (ps.length-y2<ps.length-x) (aA (aI t) (Bg 204) (aA (aI s) (bL s) (aA (fN (bG x 1)=bV y2) (m=m) (cQ h h))))))))))))) (K fJ m h)))
theorem XW{w:QV}{p:Query}(hv:cN h p v)(hw:cN h q w)(hN:SizeOf.sizeOf p<N+1)(hK:∀r:Bool,(r=true↔p=q)->K (cB r) m h):GG N v w m h K:=by
 dsimp only[GG,push_cast];have hf:p≠q->K (cB false) m h:=λh=>hK false ⟨λe=>(by cases e),λe=>(h e).elim⟩;have hargs:=@B3 p;obtain⟨op,ta,wh,co,on,gr,od,li,ps⟩:=p;obtain⟨op',ta',wh',co',on',gr',od',li',qs⟩:=q;have a:=hv.parts;have b:=hw.parts
 refine aB (λh1=>aB (λh2=>aB (λh3=>⟨_,_,_,_,rfl,a.where_,b.where_,λr4 h4=>aB (λg4=>⟨_,_,_,_,rfl,a.columns_,b.columns_,λr5 h5=>aB (λg5=>⟨_,_,_,_,rfl,a.on_,b.on_,λr6 h6=>aB (λg6=>⟨_,_,_,_,rfl,a.group_,b.group_,λr7 h7=>aB (λg7=>⟨_,_,_,_,rfl,a.order_,b.order_,λr8 h8=>aB (λg8=>⟨_,_,_,_,rfl,a.args_,b.args_,λp hp=>?_,λr hr=>hK r (hr.trans ?_)⟩)
  (λg8=>hf λe=>?_)⟩) (λg7=>hf λe=>?_)⟩) (λg6=>hf λe=>?_)⟩) (λg5=>hf λe=>?_)⟩) (λg4=>hf λe=>?_)⟩) (λh3=>hf λe=>?_)) (λh2=>hf λe=>?_)) (λh1=>hf λe=>?_)
 .have:=hargs (q:=p) hp;omega
 .rw[a.op_,b.op_,beq_iff_eq]at h1;rw[a.table_,b.table_,beq_iff_eq]at h2;rw[a.limit_,b.limit_,beq_iff_eq]at h3;rw[h1,h2,h3,h4.1 g4,h5.1 g5,h6.1 g6,h7.1 g7,h8.1 g8];exact⟨λe=>by rw[e],λe=>by injection e⟩
 .injection e with _ _ _ _ _ _ e _ _;rw[h8.2 e]at g8;cases g8
 .injection e with _ _ _ _ _ e _ _ _;rw[h7.2 e]at g7;cases g7
 .injection e with _ _ _ _ e _ _ _ _;rw[h6.2 e]at g6;cases g6
 .injection e with _ _ _ e _ _ _ _ _;rw[h5.2 e]at g5;cases g5
 .injection e with _ _ e _ _ _ _ _ _;rw[h4.2 e]at g4;cases g4
 .injection e with _ _ _ _ _ _ _ e _;rw[a.limit_,b.limit_,e]at h3;simp at h3
 .injection e with _ e _ _ _ _ _ _ _;rw[a.table_,b.table_,e]at h2;simp at h2
 .injection e with e _ _ _ _ _ _ _ _;rw[a.op_,b.op_,e]at h1;simp at h1
theorem Px:∀N,Sound Tryz.prog 204 (ZA N)
 |0=>by
  refine eG (fn:=Tryz.f204) (c:=dJ Tryz.f204) Tryz.func204 rfl (by decide) ?_;rintro cvs m h K ⟨v,w,p,q,rfl,hr,_,hN,_⟩;omega
 |N+1=>by
  have h139:Sound Tryz.prog 216 (YI N):=by
   refine iB Tryz.func216 ?_;rintro cvs m h K ⟨s,t,ps,qs,rfl,ha,hb,hN,hK⟩;refine⟨VF N s t ps qs m h,rfl,aD (Px N) aF,Lu N s t ps qs m h K,by kernel_rfl,?_⟩;dsimp only[Lu,push_cast];have hsa:=ha.slen;have htb:=hb.slen;have hla:=ha.len;have hf:ps≠qs->K (cB false) m h:=λh=>hK false ⟨λe=>(by cases e),λe=>(h e).elim⟩;refine aB (λh1=>hf (λe=>Gl hsa htb h1 (by rw[e]))) (λh1=>?_);have hl:=Gm hsa htb h1;refine⟨⟨0,⟨aC,λj hj=>by omega⟩,MT⟩,λi hi=>aE (λhlt=>?_) (λhge=>?_)⟩
   .obtain⟨x,hx⟩:=fD hsa hlt;obtain⟨y,hy⟩:∃y,qs[i]? =some y:=fD (n:=s.len) aC hlt;obtain⟨b1,o1,u,e1,r1,ru⟩:=ha.at hx;obtain⟨b2,o2,w,e2,r2,rw'⟩:=hb.at hy;refine⟨b1,o1,e1,aC,hlt,u,.imm r1,b2,o2,e2,aC,aC,w,.imm r2,u,w,x,y,rfl,ru,rw',hN x (List.mem_of_getElem? hx),λr hr=>aB (λhne=>hf (KZ hx hy (λe=>?_))) (λhe=>?_)⟩
    .have:=hr.2 e;subst this;cases hne
    .have hr':r=true:=by simpa using he
     exact⟨i+1,⟨aC,tJ hx hy (hr.1 hr') hi.2⟩,aC,MT⟩
   .exact hK true ⟨λ_=>w9 hl aC hi.2,λ_=>rfl⟩
  refine iB Tryz.func204 ?_;rintro cvs m h K ⟨v,w,p,q,rfl,hr,hq,hN,hK⟩;refine⟨VJ N,rfl,aD QR (aD Eg (aD QQ (aD QP (aD h139 aF)))),GG N v w m h K,by kernel_rfl,?_⟩;exact XW hr hq hN hK
theorem Q0:Sound Tryz.prog 204 ZB:=vT Px λ_ _ _ _⟨v,w,p,q,e,h1,h2,h3⟩=>⟨SizeOf.sizeOf p+1,v,w,p,q,e,h1,h2,aC,h3⟩
end Go.Ps
