/-
  Part 2 of a proof that a law of the given program returns true: a condition generator that is proved sound, and contracts of functions. No condition of its own. Own work, joined by a program (pack2.py).
-/
import Derived.MapKept
import Derived.Maps.RangeRun
import Derived.Test.YtileehgdfcknkaaGreatDoorProg
import Derived.IntWalk
import Derived.ChangeKeysEq
import Derived.Test.YtileehgdfcknkaaGreatDoorKa
set_option linter.unusedVariables false
set_option linter.unusedSimpArgs false
namespace Go.Vc
open Go
section
variable{B:nS}{C:Ctx}{ι:Nat->Value}{σ:St}{a:Act}{w:World}{o:Oper}{K:St->Prop}
theorem WG(hM:aI B ι σ a w)(ob:Obj):
 aI B ι {σ with m:=λb=>if b=w.heap.size then some ob else σ.m b} a (w.alloc ob)/\cM σ.m σ.h w.heap.size/\∀o,E8 σ ι o w (w.alloc ob):=by
 have hw:=hM.wrel
 have hun:cM σ.m σ.h w.heap.size:=by
  constructor
  .cases e:σ.m w.heap.size with
   |none=>rfl
   |some x=>have:=(Array.getElem?_eq_some_iff.1 (hw.msat _ _ e)).1;omega
  .intro i;cases e:σ.h w.heap.size i with
   |none=>rfl
   |some x=>have:=World.block_lt_of_cell? w ⟨w.heap.size,i,none⟩ (hw.hsat _ _ _ e);simp at this
 have hsz:(w.alloc ob).heap.size=w.heap.size+1:=by show(w.heap.push ob).size=_;simp
 refine⟨⟨hM.slots,hM.defers,λk o' hk=>(hM.own k o' hk).world (λb hb=>eO w ob (nQ (hM.own k o' hk) hb)),hM.dist,?_,?_,hM.one⟩,hun,λo=>⟨?_,?_,λ_ b hb=>eO w ob hb,λ_ b _ hb _ _=>eO w ob hb⟩⟩
 .intro k o' b hk hb;obtain⟨f1,f2,f3⟩:=hM.fresh k o' b hk hb;have hlt:=nQ (hM.own k o' hk) hb;refine⟨f1,?_,f3⟩;show(if b=w.heap.size then some ob else σ.m b)=none;rw[if_neg aC];exact f2
 .refine⟨hw.tape,hw.os,hw.output,hw.drawn,by rw[hsz];exact Nat.le_succ_of_le hw.size,?_,?_,?_,?_,hw.hle,hw.hold,?_⟩
  .intro b hb hE;rw[eO w ob (Nat.lt_of_lt_of_le hb hw.size)];exact hw.frame b hb hE
  .intro b i v hv;have h1:=hw.hsat b i v hv;rw[<-h1];exact World.cell?_of_block (w:=w) (w':=w.alloc ob) (a:=⟨b,i,none⟩) (eO w ob (World.block_lt_of_cell? w ⟨b,i,none⟩ h1))
  .intro b x hb;have hb:(if b=w.heap.size then some ob else σ.m b)=some x:=hb;by_cases e:b=w.heap.size
   .rw[if_pos e]at hb;rw[e,jB];exact hb
   .rw[if_neg e]at hb;have h1:=hw.msat b x hb;rw[eO w ob (Array.getElem?_eq_some_iff.1 h1).1];exact h1
  .intro b x hb i;have hb:(if b=w.heap.size then some ob else σ.m b)=some x:=hb;by_cases e:b=w.heap.size
   .rw[e];exact hun.h_ i
   .rw[if_neg e]at hb;exact hw.disj b x hb i
  .intro b x hb;have hb:(if b=w.heap.size then some ob else σ.m b)=some x:=hb;by_cases e:b=w.heap.size
   .left;rw[e];exact hw.size
   .rw[if_neg e]at hb;exact hw.mfr b x hb
 .intro k p T cs b hk _ hι;exact eO w ob (nQ (hM.own k _ hk) (by rw[hι];rfl))
 .intro b i v hv;have h1:=hw.hsat b i v hv;rw[<-h1];exact World.cell?_of_block (w:=w) (w':=w.alloc ob) (a:=⟨b,i,none⟩) (eO w ob (World.block_lt_of_cell? w ⟨b,i,none⟩ h1))
theorem Pb(hM:aI B ι σ a w){b:Nat}{ob0 ob:Obj}(hm:σ.m b=some ob0):
 aI B ι {σ with m:=λb'=>if b'=b then some ob else σ.m b'} a {w with heap:=w.heap.setIfInBounds b ob}/\∀o,xA o.op=false->E8 σ ι o w {w with heap:=w.heap.setIfInBounds b ob}:=by
 have hw:=hM.wrel;have hlt:b<w.heap.size:=(Array.getElem?_eq_some_iff.1 (hw.msat _ _ hm)).1
 have hblock:∀b',b'≠b->(w.heap.setIfInBounds b ob)[b']? =w.heap[b']? :=λb' hne=>by
  rw[Array.getElem?_setIfInBounds_ne (Ne.symm hne)]
 have hself:(w.heap.setIfInBounds b ob)[b]? =some ob:=by simp[hlt]
 have hnb:∀k o',nth σ.own k=some (some o')->blk (ι k)≠some b:=by
  intro k o' hk hb;have:=(hM.fresh k o' b hk hb).2.1;rw[hm]at this;cases this
 have hcell:∀b' i v,σ.h b' i=some v->({w with heap:=w.heap.setIfInBounds b ob}:World).cell? ⟨b',i,none⟩=some v:=by
  intro b' i v hv;have hne:b'≠b:=λe=>by subst e;rw[hw.disj b' _ hm i]at hv;cases hv
  have h2:=hw.hsat b' i v hv;rw[<-h2];exact World.cell?_of_block (w:=w) (w':={w with heap:=w.heap.setIfInBounds b ob}) (a:=⟨b',i,none⟩) (hblock b' hne)
 refine⟨⟨hM.slots,hM.defers,λk o' hk=>(hM.own k o' hk).world (λb' hb'=>hblock b' (λe=>hnb k o' hk (e▸hb'))),hM.dist,?_,?_,hM.one⟩,λo hg=>⟨?_,hcell,λh=>(by rw[hg]at h;cases h),λ_ b' _ _ hn _=>hblock b' (λe=>by rw[e,hm]at hn;cases hn)⟩⟩
 .intro k o' b' hk hb';obtain⟨f1,f2,f3⟩:=hM.fresh k o' b' hk hb';refine⟨f1,?_,f3⟩;show(if b'=b then some ob else σ.m b')=none;rw[if_neg (fun(e:b'=b)=>hnb k o' hk (e▸hb'))];exact f2
 .refine⟨hw.tape,hw.os,hw.output,hw.drawn,by simpa using hw.size,?_,hcell,?_,?_,hw.hle,hw.hold,?_⟩
  .intro b' hb' hE
   have hne:b'≠b:=λe=>by
    subst e;rcases hw.mfr b' _ hm with h2|h2
    .omega
    .exact hE h2
   rw[hblock b' hne];exact hw.frame b' hb' hE
  .intro b' x hb';have hb':(if b'=b then some ob else σ.m b')=some x:=hb';by_cases e:b'=b
   .rw[if_pos e]at hb';rw[e, <-hb'];exact hself
   .rw[if_neg e]at hb';rw[hblock b' e];exact hw.msat b' x hb'
  .intro b' x hb' i;have hb':(if b'=b then some ob else σ.m b')=some x:=hb';by_cases e:b'=b
   .rw[e];exact hw.disj b _ hm i
   .rw[if_neg e]at hb';exact hw.disj b' _ hb' i
  .intro b' x hb';have hb':(if b'=b then some ob else σ.m b')=some x:=hb';by_cases e:b'=b
   .rw[e];exact hw.mfr b _ hm
   .rw[if_neg e]at hb';exact hw.mfr b' _ hb'
 .intro k p T cs b' hk _ hι;exact hblock b' (λe=>hnb k _ hk (by rw[hι,e];rfl))
theorem LB(hM:aI B ι σ a w){t:Nat}{r:Option Operand}(ho:o.op= .makeMap t r)(h:G8 o r σ K):Re B C ι o σ K a w:=by
 intro next Q hnext
 unfold G8 at h;split at h
 .obtain⟨hM1,hun,hk⟩:=WG hM (.map #[] 0)
  have hrun:(execOp a.eval o).run C.P w= .ok (.value (.map (some w.heap.size))) (w.alloc (.map #[] 0)):=by
   unfold execOp;simp[ho,Instr.makeMap]
  unfold Oper.wp;rw[hrun,Oper.upon_value];exact hnext ι _ _ _ (hM1.put o.dst (x:=.at (.val (.map (some w.heap.size)))) rfl) (h w.heap.size _ hun ⟨by simp,λb' hb'=>by simp[hb']⟩) (hk o)
 .exact h.elim
theorem aI.drew{B:nS}{ι:Nat->Value}{σ:St}{a:Act}{w:World}(h:aI B ι σ a w)(k:Nat)(hk:w.drawn<=k):aI B ι σ a {w with drawn:=k}:=by
 refine⟨h.slots,h.defers,λj o hj=>(h.own j o hj).world (λ_ _=>rfl),h.dist,h.fresh,?_,h.one⟩;have hw:=h.wrel;exact⟨hw.tape,hw.os,hw.output,Nat.le_trans hw.drawn hk,hw.size,hw.frame,hw.hsat,hw.msat,hw.disj,hw.hle,hw.hold,hw.mfr⟩
theorem tY{α:Type}{l:List α}{j:Nat}{x:α}(h:l[j]? =some x):l=l.take j++x::l.drop (j+1):=by
 have hj:=(List.getElem?_eq_some_iff.1 h).1;have e:=(List.getElem?_eq_some_iff.1 h).2;rw[<-e, <-List.drop_eq_getElem_cons hj,List.take_append_drop]
theorem Pn(hM:aI B ι σ a w){t:Nat}{x:Operand}(ho:o.op= .range t x)(h:NS C o t x σ K):Re B C ι o σ K a w:=by
 intro next Q hnext
 have hev:=hM.ev x;unfold NS at h;split at h
 .rename_i s hu hx;rw[hx]at hev;have hev:a.eval x= .string s:=hev;obtain⟨hM1,hun,hk⟩:=WG hM (.stringIter s 0)
  have hrun:(execOp a.eval o).run C.P w= .ok (.value (.pointer (some ⟨w.heap.size,0,none⟩))) (w.alloc (.stringIter s 0)):=by
   unfold execOp;simp[ho,hev,Instr.range,run_underlying hu]
  unfold Oper.wp;rw[hrun,Oper.upon_value];exact hnext ι _ _ _ (hM1.put o.dst (x:=.at (.val (.pointer (some ⟨w.heap.size,0,none⟩)))) rfl) (h w.heap.size _ hun ⟨by simp,λb' hb'=>by simp[hb']⟩) (hk o)
 .rename_i kt et b hu hx;rw[hx]at hev;have hev:a.eval x= .map (some b):=hev;obtain⟨kvs,⟨es,clock,hm,hes,hborn,hnd⟩,h⟩:=h;have hg:=hM.wrel.msat b _ hm;obtain⟨hM1,hun,hk⟩:=WG hM (.mapIter (some b) clock #[] clock)
  have hrun:(execOp a.eval o).run C.P w= .ok (.value (.pointer (some ⟨w.heap.size,0,none⟩))) (w.alloc (.mapIter (some b) clock #[] clock)):=by
   unfold execOp;simp[ho,hev,Instr.range,run_underlying hu,MapKept.run_getObj_map hg,Result.andThen]
  unfold Oper.wp;rw[hrun,Oper.upon_value];have hne:b≠w.heap.size:=λe=>by have:=(Array.getElem?_eq_some_iff.1 hg).1;omega
  refine hnext ι _ _ _ (hM1.put o.dst (x:=.at (.val (.pointer (some ⟨w.heap.size,0,none⟩)))) rfl) (h w.heap.size _ hun ⟨λb' hb'=>by simp[hb']⟩ ⟨es,clock,clock, #[],clock,?_,hes,hborn,hnd,by simp,hborn,Nat.le_refl _,Nat.le_refl _,?_⟩) (hk o)
  .simp[hne,hm]
  .rw[<-hes];congr 1;exact List.filter_eq_self.2 (λ_ _=>by simp)
 .exact h.elim
theorem RE(hM:aI B ι σ a w){x:Operand}{st:Bool}(ho:o.op= .next x st)(h:RF o x st σ K):Re B C ι o σ K a w:=by
 intro next Q hnext
 have hev:=hM.ev x;unfold RF at h;split at h
 .rename_i b hx;rw[hx]at hev;have hev:a.eval x= .pointer (some ⟨b,0,none⟩):=hev;obtain⟨s,pos,hm,h1,h2⟩:=h;have hg:=hM.wrel.msat b _ hm.at_;by_cases hlt:pos<s.size
  .obtain⟨hM1,hk⟩:=Pb (ob:=.stringIter s (pos+(Utf8.decode s pos).2)) hM hm.at_
   have hrun:(execOp a.eval o).run C.P w= .ok (.value (.tuple #[.bool true,.int .i64 pos,.int .i32 (Utf8.decode s pos).1])) {w with heap:=w.heap.setIfInBounds b (.stringIter s (pos+(Utf8.decode s pos).2))}:=by
    unfold execOp;simp[ho,hev,Instr.next,getObj,setObj,Sem.run,hg,hlt,goInt,Result.andThen]
   unfold Oper.wp;rw[hrun,Oper.upon_value];refine hnext ι _ _ _ (hM1.put o.dst (x:=.tup _) ?_) (h2 hlt _ ⟨by simp,λb' hb'=>by simp[hb']⟩) (hk o (by rw[ho];rfl));exact⟨_,rfl,rfl,rfl,rfl,trivial⟩
  .have hrun:(execOp a.eval o).run C.P w= .ok (.value (.tuple #[.bool false])) w:=by
    unfold execOp;simp[ho,hev,Instr.next,getObj,Sem.run,hg,hlt,Result.andThen]
   unfold Oper.wp;rw[hrun,Oper.upon_value];refine hnext ι _ _ _ (hM.put o.dst (x:=.tup _) ?_) (h1 aC) (kS hM);exact⟨_,rfl,rfl,trivial⟩
 .rename_i r hx;rw[hx]at hev;have hev:a.eval x= .pointer (some ⟨r,0,none⟩):=hev;obtain⟨b,kvs,left,⟨es,clock,since,seen,c0,hmb,hes,hborn,hnd,hmr,hold,hsc,hscl,hleft⟩,h1,h2⟩:=h;have hgb:=hM.wrel.msat b _ hmb;have hgr:=hM.wrel.msat r _ hmr;rcases run_next_at (P:=C.P) w o.type r b since c0 seen es clock hgr hgb hold hsc with⟨h0,hrun⟩|⟨e,he,w1,hw1,hrun⟩
  .have hl:left=[]:=by
    rw[<-hleft];have:(leftOf es seen).toList=[]:=by simpa using h0
    unfold leftOf at this;rw[Array.toList_filter]at this;rw[this];rfl
   have hrun:(execOp a.eval o).run C.P w= .ok (.value (.tuple #[.bool false])) w:=by
    unfold execOp;simp[ho,hev,hrun,Result.andThen]
   unfold Oper.wp;rw[hrun,Oper.upon_value];refine hnext ι _ _ _ (hM.put o.dst (x:=.tup _) ?_) (h1 hl) (kS hM);exact⟨_,rfl,rfl,trivial⟩
  .have hM0:∃n,aI B ι σ a w1/\w1={w with drawn:=n}:=by
    rcases hw1 with rfl|rfl
    .exact⟨w1.drawn,hM,rfl⟩
    .exact⟨w.drawn+1,hM.drew (w.drawn+1) (Nat.le_succ _),rfl⟩
   obtain⟨n,hM0,hw1e⟩:=hM0;obtain⟨hM1,hk⟩:=Pb (ob:=.mapIter (some b) since (seen.push e.born) clock) hM0 hmr
   have hrun:(execOp a.eval o).run C.P w= .ok (.value (.tuple #[.bool true,e.key,e.val])) {w1 with heap:=w1.heap.setIfInBounds r (.mapIter (some b) since (seen.push e.born) clock)}:=by
    unfold execOp;simp[ho,hev,hrun,Result.andThen,ChangeMaps.setBlock]
   have hel:e∈es.toList.filter λe=> !seen.contains e.born:=by
    unfold leftOf at he;rw[Array.toList_filter]at he;exact he
   have hees:e∈es.toList:=(List.mem_filter.1 hel).1;obtain⟨j,hj⟩:=List.getElem?_of_mem hel;have hsp:=tY hj;have hrb:r≠b:=λe=>by rw[e,hmb]at hmr;cases hmr
   have hnd2:(((es.toList.filter λe=> !seen.contains e.born)).map (·.born)).Nodup:=hnd.sublist (List.filter_sublist.map _)
   have hleft2:es.toList.filter (λx=> !(seen.push e.born).contains x.born)=(es.toList.filter λe=> !seen.contains e.born).take j++(es.toList.filter λe=> !seen.contains e.born).drop (j+1):=by
    have h3:es.toList.filter (λx=> !(seen.push e.born).contains x.born)=(es.toList.filter λe=> !seen.contains e.born).filter λx=>x.born !=e.born:=by
     rw[List.filter_filter];congr 1;funext x;simp only[Array.contains_push,Bool.not_or];rw[Bool.and_comm];rfl
    rw[h3];generalize (es.toList.filter λe=> !seen.contains e.born)=L at hsp hnd2 hj;have hlt:=(List.getElem?_eq_some_iff.1 hj).1;generalize L.take j=A at hsp;generalize L.drop (j+1)=D at hsp;subst hsp;simp only[List.map_append,List.map_cons,List.nodup_append,List.nodup_cons,List.mem_map,List.mem_cons]at hnd2;obtain⟨_,⟨hn2,_⟩,hn3⟩:=hnd2;rw[List.filter_append,List.filter_cons];simp only[bne_self_eq_false,Bool.false_eq_true,if_false];congr 1
    .refine List.filter_eq_self.2 λx hx=>?_;simp only[bne_iff_ne,ne_eq]
     exactλh4=>hn3 _ ⟨x,hx,rfl⟩ _ (.inl rfl) h4
    .refine List.filter_eq_self.2 λx hx=>?_;simp only[bne_iff_ne,ne_eq]
     exactλh4=>hn2 ⟨x,hx,h4⟩
   unfold Oper.wp;rw[hrun,Oper.upon_value];have hmb':(if b=r then some (Obj.mapIter (some b) since (seen.push e.born) clock)else σ.m b)=some (.map es clock):=by rw[if_neg (λe=>hrb e.symm)];exact hmb
   refine hnext ι _ _ _ (hM1.put o.dst (x:=.tup _) ?_) (h2 (((es.toList.filter λe=> !seen.contains e.born).take j).map λe=>(e.key,e.val)) (e.key,e.val) (((es.toList.filter λe=> !seen.contains e.born).drop (j+1)).map λe=>(e.key,e.val)) ?_ _ ⟨λb' hb'=>by simp[hb']⟩ ⟨⟨es,clock,since,seen.push e.born,clock,hmb',hes,hborn,hnd,by simp,hold,hscl,hscl,?_⟩,es,clock,since,seen,e,hmb',hnd,by simp,hees,rfl⟩) ?_
   .exact⟨_,rfl,rfl,rfl,rfl,trivial⟩
   .rw[<-hleft]
    conv=>lhs;rw[hsp]
    simp
   .rw[hleft2];simp
   .have:=hk o (by rw[ho];rfl);subst hw1e;exact⟨this.cells,this.imm,this.ext,this.args⟩
 .exact h.elim
theorem Q0(hM:aI B ι σ a w){x:Operand}(ho:o.op= .entry x)(h:Ol o x σ K):Re B C ι o σ K a w:=by
 intro next Q hnext
 have hev:=hM.ev x;unfold Ol at h;split at h
 .rename_i r hx;rw[hx]at hev;have hev:a.eval x= .pointer (some ⟨r,0,none⟩):=hev;obtain⟨b,kvs,left,x,⟨_,es,clock,since,seen,e,hmb,hnd,hmr,he,rfl⟩,h⟩:=h;have hrun:=run_entry_at (P:=C.P) w r b since seen es clock e (hM.wrel.msat r _ hmr) (hM.wrel.msat b _ hmb) he hnd
  have hrun:(execOp a.eval o).run C.P w= .ok (.value (.tuple #[e.key,e.val])) w:=by
   unfold execOp;simp[ho,hev,hrun,Result.andThen]
  unfold Oper.wp;rw[hrun,Oper.upon_value];refine hnext ι _ _ _ (hM.put o.dst (x:=.tup _) ?_) h (kS hM);exact⟨_,rfl,rfl,rfl,trivial⟩
 .exact h.elim
theorem CG{P:Program}{kt:TypeId}{Ok:Value->Prop}(L:KeyLaw P kt Ok){k:Value}(hk:Ok k)(w:World):∀(es:List MapEntry)(i:Nat),(∀e∈es,Ok e.key)->
 ((∀e∈es,e.key≠k)/\(Instr.findAsking kt k es i).run P w= .ok none w)\/∃j e,es[j]? =some e/\e.key=k/\(Instr.findAsking kt k es i).run P w= .ok (some (i+j,e.val)) w
 |[],i,_=>.inl ⟨λe he=>(by cases he),by simp[Instr.findAsking]⟩
 |e::es,i,hes=>by
  obtain⟨r,hr,hrk⟩:=L.eq k e.key w hk (hes e (by simp));cases r with
  |true=>exact .inr ⟨0,e,rfl,(hrk.1 rfl).symm,by simp[Instr.findAsking,hr]⟩
  |false=>
   have hne:e.key≠k:=λh=>by have:=hrk.2 h.symm;cases this
   rcases CG L hk w es (i+1) (λe' he'=>hes e' (by simp[he']))with⟨h1,h2⟩|⟨j,e',h1,h2,h3⟩
   .refine .inl ⟨λe' he'=>?_,by simp[Instr.findAsking,hr,h2]⟩;rcases List.mem_cons.1 he' with rfl|h
    .exact hne
    .exact h1 e' h
   .exact .inr ⟨j+1,e',by simpa using h1,h2,by simp[Instr.findAsking,hr,h3];omega⟩
theorem findNow_spec{P:Program}{kt:TypeId}{Ok:Value->Prop}(L:KeyLaw P kt Ok){d:TypeDesc}(hd:P.underlying kt=some d){k:Value}(hk:Ok k):∀(es:List MapEntry)(i:Nat)(r:Option (Nat×Value)),(∀e∈es,Ok e.key)->
 Instr.findNow d k es i=some r->((∀e∈es,e.key≠k)/\r=none)\/∃j e,es[j]? =some e/\e.key=k/\r=some (i+j,e.val)
 |[],i,r,_,h=>by
  simp[Instr.findNow]at h;exact .inl ⟨λe he=>(by cases he),h.symm⟩
 |e::es,i,r,hes,h=>by
  simp only[Instr.findNow]at h;split at h
  .rename_i hs;simp only[Option.some.injEq]at h;exact .inr ⟨0,e,rfl,((L.now d k e.key true hd hk (hes e (by simp)) hs).1 rfl).symm,by simpa using h.symm⟩
  .rename_i hs;have hne:e.key≠k:=λh'=>by have:=(L.now d k e.key false hd hk (hes e (by simp)) hs).2 h'.symm;cases this
   rcases findNow_spec L hd hk es (i+1) r (λe' he'=>hes e' (by simp[he'])) h with⟨h1,h2⟩|⟨j,e',h1,h2,h3⟩
   .refine .inl ⟨λe' he'=>?_,h2⟩;rcases List.mem_cons.1 he' with rfl|h
    .exact hne
    .exact h1 e' h
   .exact .inr ⟨j+1,e',by simpa using h1,h2,by rw[h3];congr 2;omega⟩
  .cases h
theorem run_findKey{P:Program}{kt:TypeId}{Ok:Value->Prop}(L:KeyLaw P kt Ok){k:Value}(hk:Ok k)(w:World)(es:List MapEntry)(hes:∀e∈es,Ok e.key):
 ((∀e∈es,e.key≠k)/\(Instr.findKey kt k es).run P w= .ok none w)\/∃j e,es[j]? =some e/\e.key=k/\(Instr.findKey kt k es).run P w= .ok (some (j,e.val)) w:=by
 obtain⟨d,hd⟩:=L.under;cases hn:Instr.findNow d k es 0 with
 |some r=>
  have hrun:(Instr.findKey kt k es).run P w= .ok r w:=by simp[Instr.findKey,run_underlying hd,hn]
  rcases findNow_spec L hd hk es 0 r hes hn with⟨h1,rfl⟩|⟨j,e,h1,h2,rfl⟩
  .exact .inl ⟨h1,hrun⟩
  .exact .inr ⟨j,e,h1,h2,by rw[hrun];simp⟩
 |none=>
  have hrun:(Instr.findKey kt k es).run P w=(Instr.findAsking kt k es).run P w:=by simp[Instr.findKey,run_underlying hd,hn]
  rw[hrun];rcases CG L hk w es 0 hes with⟨h1,h2⟩|⟨j,e,h1,h2,h3⟩
  .exact .inl ⟨h1,h2⟩
  .exact .inr ⟨j,e,h1,h2,by rw[h3];simp⟩
theorem OU{P:Program}{T:TypeId}{z:Value}(h:Nx P T=some z)(w:World):(zeroValue T).run P w= .ok z w:=by
 unfold Nx at h;split at h
 .rename_i i hi;split at h
  .rename_i k n hz;simp only[Option.some.injEq]at h;subst h;simp[zeroValue,typeInfo,hi,hz]
  .rename_i b hz;simp only[Option.some.injEq]at h;subst h;simp[zeroValue,typeInfo,hi,hz]
  .rename_i hz;simp only[Option.some.injEq]at h;subst h;simp[zeroValue,typeInfo,hi,hz]
  .cases h
 .cases h
theorem N7(hM:aI B ι σ a w){t:Nat}{x k:Operand}{ok:Bool}(ho:o.op= .lookup t x k ok)(h:Kq C o t x k ok σ K):Re B C ι o σ K a w:=by
 intro next Q hnext
 have hev:=hM.ev x;unfold Kq at h;split at h
 .rename_i kt et b kv hu hx hkv;rw[hx]at hev;have hev:a.eval x= .map (some b):=hev;have hke:a.eval k=kv:=(hM.ev k).val? hkv;split at h
  .rename_i z hz;obtain⟨kvs,Ok,⟨es,clock,hm,hes⟩,L,hok,hoks,hmiss,hhit⟩:=h;have hg:=hM.wrel.msat b _ hm
   have hmem:∀e∈es.toList,∃p∈kvs,e.key=p.1/\e.val=only ((C.dec et).enc p.2):=by
    intro e he
    have:(e.key,e.val)∈kvs.map λp=>(p.1,only ((C.dec et).enc p.2)):=by
     rw[<-hes];exact List.mem_map.2 ⟨e,he,rfl⟩
    obtain⟨p,hp,e2⟩:=List.mem_map.1 this;simp only[Prod.mk.injEq]at e2;exact⟨p,hp,e2.1.symm,e2.2.symm⟩
   have hall:∀e∈es.toList,Ok e.key:=λe he=>by
    obtain⟨p,hp,e1,_⟩:=hmem e he;rw[e1];exact hoks p hp
   have hchk:=L.check kv w es.isEmpty hok;unfold Oper.wp;rcases run_findKey L hok w es.toList hall with⟨h1,h2⟩|⟨j,e,h1,h2,h3⟩
   .have hrun:(execOp a.eval o).run C.P w= .ok (.value (if ok then .tuple #[z,.bool false]else z)) w:=by
     unfold execOp;simp[ho,hev,hke,Instr.lookup,run_underlying hu,MapKept.run_getObj_map hg,hchk,h2,OU hz,Result.andThen]
    rw[hrun,Oper.upon_value];refine hnext ι _ _ _ (hM.put o.dst ?_) (hmiss ?_) (kS hM)
    .cases ok
     .rfl
     .exact⟨_,rfl,rfl,rfl,trivial⟩
    .intro p hp e1
     have:(p.1,only ((C.dec et).enc p.2))∈es.toList.map λe=>(e.key,e.val):=by
      rw[hes];exact List.mem_map.2 ⟨p,hp,rfl⟩
     obtain⟨e,he,e2⟩:=List.mem_map.1 this;simp only[Prod.mk.injEq]at e2;exact h1 e he (e2.1.trans e1)
   .have he:e∈es.toList:=List.mem_of_getElem? h1;obtain⟨p,hp,e1,e2⟩:=hmem e he
    have hrun:(execOp a.eval o).run C.P w= .ok (.value (if ok then .tuple #[e.val,.bool true]else e.val)) w:=by
     unfold execOp;simp[ho,hev,hke,Instr.lookup,run_underlying hu,MapKept.run_getObj_map hg,hchk,h3,Result.andThen]
    have hh:=hhit p.2 (by rw[<-h2,e1];exact hp);rw[hrun,Oper.upon_value];split at hh
    .rename_i u hu2;rw[hu2]at e2;refine hnext ι _ _ _ (hM.put o.dst ?_) hh (kS hM);cases ok
     .exact e2
     .exact⟨_,rfl,e2,rfl,trivial⟩
    .exact hh.elim
  .exact h.elim
 .exact h.elim
theorem IH(hM:aI B ι σ a w){t:Nat}{x k v:Operand}(ho:o.op= .mapUpdate t x k v)(hdst:o.dst=none)(h:Ap C t x k v σ K):Re B C ι o σ K a w:=by
 intro next Q hnext
 have hev:=hM.ev x;unfold Ap at h;split at h
 .rename_i kt et b kv u hu hx hkv hv;rw[hx]at hev;have hev:a.eval x= .map (some b):=hev;have hke:a.eval k=kv:=(hM.ev k).val? hkv;have hve:a.eval v=u:=(hM.ev v).val? hv;obtain⟨kvs,Ok,⟨es,clock,hm,hes⟩,L,hok,hoks,hnew,hK⟩:=h;have hg:=hM.wrel.msat b _ hm;have hmem:∀e∈es.toList,(e.key,e.val)∈kvs:=λe he=>by rw[<-hes];exact List.mem_map.2 ⟨e,he,rfl⟩
  have hall:∀e∈es.toList,Ok e.key:=λe he=>hoks _ (hmem e he);have hchk:=L.check kv w false hok;rcases run_findKey L hok w es.toList hall with⟨h1,h2⟩|⟨j,e,h1,h2,h3⟩
  .obtain⟨hM1,hk⟩:=Pb (ob:=.map (es.push {key:=kv,val:=u,born:=clock}) (clock+1)) hM hm
   have hrun:(execOp a.eval o).run C.P w= .ok .skip {w with heap:=w.heap.setIfInBounds b (.map (es.push {key:=kv,val:=u,born:=clock}) (clock+1))}:=by
    unfold execOp;simp[ho,hev,hke,hve,Instr.mapUpdate,run_underlying hu,MapKept.run_getObj_map hg,MapKept.run_setObj_map _ hg,hchk,h2,Result.andThen]
   unfold Oper.wp;rw[hrun,Oper.upon_skip,show a.put o.dst undef=a by rw[hdst];rfl];refine hnext ι _ _ _ hM1 (hK _ ⟨λb' hb'=>by simp[hb']⟩ ⟨es.push {key:=kv,val:=u,born:=clock},clock+1,by simp,?_⟩) (hk o (by rw[ho];rfl));simp[hes]
  .exact(hnew _ (hmem e (List.mem_of_getElem? h1)) h2).elim
 .exact h.elim
theorem N6(hM:aI B ι σ a w){t:Nat}{x k v:Operand}(ho:o.op= .mapUpdate t x k v)(hdst:o.dst=none)(h:Ge C t x k v σ K):Re B C ι o σ K a w:=by
 intro next Q hnext
 have hev:=hM.ev x;unfold Ge at h;split at h
 .rename_i kt et b kv u hu hx hkv hv;rw[hx]at hev;have hev:a.eval x= .map (some b):=hev;have hke:a.eval k=kv:=(hM.ev k).val? hkv;have hve:a.eval v=u:=(hM.ev v).val? hv;obtain⟨kvs,Ok,⟨es,clock,hm,hes,hborn,hnd⟩,L,hok,hsame,hoks,hnew,hold⟩:=h;have hg:=hM.wrel.msat b _ hm;have hmem:∀e∈es.toList,(e.key,e.val)∈kvs:=λe he=>by rw[<-hes];exact List.mem_map.2 ⟨e,he,rfl⟩
  have hall:∀e∈es.toList,Ok e.key:=λe he=>hoks _ (hmem e he);have hchk:=L.check kv w false hok;rcases run_findKey L hok w es.toList hall with⟨h1,h2⟩|⟨j,e,h1,h2,h3⟩
  .obtain⟨hM1,hk⟩:=Pb (ob:=.map (es.push {key:=kv,val:=u,born:=clock}) (clock+1)) hM hm
   have hrun:(execOp a.eval o).run C.P w= .ok .skip {w with heap:=w.heap.setIfInBounds b (.map (es.push {key:=kv,val:=u,born:=clock}) (clock+1))}:=by
    unfold execOp;simp[ho,hev,hke,hve,Instr.mapUpdate,run_underlying hu,MapKept.run_getObj_map hg,MapKept.run_setObj_map _ hg,hchk,h2,Result.andThen]
   unfold Oper.wp;rw[hrun,Oper.upon_skip,show a.put o.dst undef=a by rw[hdst];rfl];refine hnext ι _ _ _ hM1 (hnew (λp hp e1=>?_) _ ⟨λb' hb'=>by simp[hb']⟩ ⟨es.push {key:=kv,val:=u,born:=clock},clock+1,by simp,by simp[hes],λe he=>?_,?_⟩) (hk o (by rw[ho];rfl))
   .rw[<-hes]at hp;obtain⟨e,he,rfl⟩:=List.mem_map.1 hp;exact h1 e he e1
   .rw[Array.toList_push,List.mem_append,List.mem_singleton]at he;rcases he with he|rfl
    .have:=hborn e he;omega
    .exact Nat.lt_succ_self _
   .rw[Array.toList_push,List.map_append,List.nodup_append];refine⟨hnd,by simp,λx hx y hy e1=>?_⟩;obtain⟨e,he,rfl⟩:=List.mem_map.1 hx;simp at hy;have:=hborn e he;omega
  .have hjlt:=(List.getElem?_eq_some_iff.1 h1).1;have hje:es[j]? =some e:=by rw[<-Array.getElem?_toList];exact h1
   obtain⟨hM1,hk⟩:=Pb (ob:=.map (es.modify j λe=>{e with key:=kv,val:=u}) clock) hM hm
   have hrun:(execOp a.eval o).run C.P w= .ok .skip {w with heap:=w.heap.setIfInBounds b (.map (es.modify j λe=>{e with key:=kv,val:=u}) clock)}:=by
    unfold execOp;simp[ho,hev,hke,hve,Instr.mapUpdate,run_underlying hu,MapKept.run_getObj_map hg,MapKept.run_setObj_map _ hg,hchk,h3,hje,h2,Instr.keyThatStays,hsame,Result.andThen]
   have hlist:(es.modify j λe=>{e with key:=kv,val:=u}).toList=es.toList.take j++{e with key:=kv,val:=u}::es.toList.drop (j+1):=by
    rw[Array.toList_modify,List.modify_eq_take_cons_drop hjlt];congr 2;have:=(List.getElem?_eq_some_iff.1 h1).2;rw[this]
   have hsp:=tY h1;unfold Oper.wp;rw[hrun,Oper.upon_skip,show a.put o.dst undef=a by rw[hdst];rfl];refine hnext ι _ _ _ hM1 (hold ((es.toList.take j).map λe=>(e.key,e.val)) e.val ((es.toList.drop (j+1)).map λe=>(e.key,e.val)) ?_ _ ⟨λb' hb'=>by simp[hb']⟩ ⟨es.modify j λe=>{e with key:=kv,val:=u},clock,by simp,?_,?_,?_⟩) (hk o (by rw[ho];rfl))
   .rw[<-hes]
    conv=>lhs;rw[hsp]
    simp[h2]
   .rw[hlist];simp
   .intro x hx;rw[hlist]at hx;rw[hsp]at hborn;rcases List.mem_append.1 hx with hx|hx
    .exact hborn x (List.mem_append_left _ hx)
    .rcases List.mem_cons.1 hx with rfl|hx
     .exact hborn e (List.mem_append_right _ (List.mem_cons_self ..))
     .exact hborn x (List.mem_append_right _ (List.mem_cons_of_mem _ hx))
   .rw[hlist];rw[hsp]at hnd;simpa using hnd
 .exact h.elim
end
end Go.Vc
namespace Go.Vc
open Go
section
variable{B:nS}{C:Ctx}{ι:Nat->Value}{σ:St}{a:Act}{w:World}{o:Oper}{K:St->Prop}
theorem WE(hM:aI B ι σ a w)(hr:Cb o.op=true)(h:LA C o σ K):OH C ι o σ K a w:=by
 unfold LA at h;cases ho:o.op<;>simp only[ho]at h hr
 case move x=>exact Ko hM (.inl ho) h
 case assign x=>exact Ko hM (.inr ho) h
 case pick c x y=>exact RB hM ho h
 case build T ps=>exact Q7 hM ho h
 case load T x=>exact RH hM ho h
 case nilCheck x=>exact Kj hM ho h
 case binOp op tx x y ty=>
  cases op
  case eql=>
   simp only at h;split at h
   .exact CE (neg:=false) hM ho h
   .exact kA hM (λcs b=>by rw[ho];intro e;cases e) h
  case neq=>
   simp only at h;split at h
   .exact CE (neg:=true) hM ho h
   .exact kA hM (λcs b=>by rw[ho];intro e;cases e) h
  case add=>exact Oq hM ho h
  all_goals first
   |exact kA hM (λcs b=>by rw[ho];intro e;cases e) h
   |exact Wa hM ho h
 case unOp op t x=>exact kA hM (λcs b=>by rw[ho];intro e;cases e) h
 case convert s d x=>exact LG hM ho h
 case fieldAddr T x f=>exact IK hM ho h
 case field T x f=>exact PS hM ho h
 case indexAddr T x i=>exact IJ hM ho h
 case index T x i=>exact PJ hM ho h
 case extract x i=>exact LF hM ho h
 case call c=>
  obtain⟨callee,args,argTypes⟩:=c;cases callee with
  |builtin b=>
   cases b<;>simp only[Cb,Bool.false_eq_true]at hr
   case len=>
    simp only at h;split at h
    .rename_i x hx;exact U7 hM ho rfl hx h
    .exact h.elim
   case min=>exact kA hM (λcs b=>by rw[ho];intro e;cases e) h
   case max=>exact kA hM (λcs b=>by rw[ho];intro e;cases e) h
  |value f=>simp[Cb]at hr
  |invoke r n=>simp[Cb]at hr
 all_goals (first|exact h.elim|(simp[Cb]at hr))
theorem OH.stp(hM:aI B ι σ a w)(h:OH C ι o σ K a w):Re B C ι o σ K a w:=by
 intro next Q hnext
 obtain⟨v,x,hrun,hx,hK⟩:=h;unfold Oper.wp;rw[hrun w (.inr rfl),Oper.upon_value];exact hnext ι _ _ _ (hM.put o.dst hx) hK (kS hM)
theorem Pv(hspecs:∀g S,assoc C.specs g=some S->Sound C.P g S)(hM:aI B ι σ a w)(h:LA C o σ K):Re B C ι o σ K a w:=by
 cases hr:Cb o.op with
 |true=>exact(WE hM hr h).stp hM
 |false=>
  unfold LA at h;cases ho:o.op<;>simp only[ho]at h hr
  case alloc T=>
   intro next Q hn
   refine Ra hM ho h next Q (λι' σ' a' w' hM' h' hk=>?_)
   obtain⟨σ2,hM2,hK2,_⟩:=uQ _ _ hM' h';exact hn ι' σ2 a' w' hM2 hK2 hk
  case box T x=>
   split at h
   .intro next Q hn
    obtain⟨τ,hMτ,hK,hfz⟩:=lV _ _ hM h;refine Nh hMτ ho hK next Q (λι' σ' a' w' hM' h' hk=>?_)
    obtain⟨σ2,hM2,hK2,_⟩:=uQ _ _ hM' h';exact hn ι' σ2 a' w' hM2 hK2 (hk.of_fz hfz)
   .exact Nh hM ho h
  case buildSlice T n ps=>
   intro next Q hn
   refine HS hM ho h next Q (λι' σ' a' w' hM' h' hk=>?_)
   obtain⟨σ2,hM2,hK2,_⟩:=AP _ _ hM' h';obtain⟨σ3,hM3,hK3,_⟩:=lV _ _ hM2 hK2;exact hn ι' σ3 a' w' hM3 hK3 hk
  case makeFunc f x cs=>
   intro next Q hn
   obtain⟨τ,hMτ,hK,hld⟩:=uQ _ _ hM h;obtain⟨v,x,hrun,hx,hK⟩:=kA hMτ (λcs b=>by rw[ho];intro e;cases e) hK;unfold Oper.wp;rw[hrun w (.inr rfl),Oper.upon_value];exact hn ι _ _ _ (hMτ.put o.dst hx) hK (kS hM)
  case store T x v=>
   cases hd:o.dst with
   |none=>
    rw[hd]at h;intro next Q hn
    obtain⟨τ,hMτ,hK,hfz⟩:=lV _ _ hM h;exact O5 hMτ ho hd hK next Q (λι' σ' a' w' hM' h' hk=>hn ι' σ' a' w' hM' h' (hk.of_fz hfz))
   |some d=>rw[hd]at h;exact h.elim
  case makeSlice T l c=>
   intro next Q hn
   refine II hM ho h next Q (λι' σ' a' w' hM' h' hk=>?_)
   obtain⟨σ2,hM2,hK2,_⟩:=AP _ _ hM' h';exact hn ι' σ2 a' w' hM2 hK2 hk
  case slice T x lo hi mx=>exact Pa hM ho h
  case makeMap T r=>exact LB hM ho h
  case lookup T x k ok=>exact N7 hM ho h
  case mapUpdate T x k v=>
   cases hd:o.dst with
   |none=>
    rw[hd]at h;have h:(match N4 C.heapT 400000 with|true=>Ge C T x k v σ K|false=>Ap C T x k v σ K):=h;split at h
    .exact N6 hM ho hd h
    .exact IH hM ho hd h
   |some d=>rw[hd]at h;exact h.elim
  case range T x=>exact Pn hM ho h
  case next x b=>exact RE hM ho h
  case entry x=>exact Q0 hM ho h
  case call c=>
   obtain⟨callee,args,argTypes⟩:=c;cases callee with
   |builtin b=>
    cases b<;>simp only[Cb,Bool.true_eq_false]at hr<;>simp only at h
    case append=>
     split at h
     .rename_i x y T tx hx ht;intro next Q hn
      refine Ov hM ho rfl hx ht h next Q (λι' σ' a' w' hM' h' hk=>?_)
      obtain⟨σ3,hM3,hK3,_⟩:=lV _ _ hM' h';exact hn ι' σ3 a' w' hM3 hK3 hk
     .exact h.elim
    case cap=>exact(kA hM (λcs b=>by rw[ho];intro e;cases e) h).stp hM
    all_goals exact h.elim
   |value g=>
    simp only at h;split at h
    .rename_i f fs cs hg;split at h
     .rename_i hfs hcs;exact Tp hspecs hM ho rfl hg hfs hcs h
     .exact h.elim
    .exact h.elim
   |invoke r n=>exact h.elim
  all_goals (first|exact h.elim|(simp[Cb]at hr))
theorem JO(hM:aI B ι σ a w){d:Nat}{xs:Array Value}(h:σ.ev (.tmp d)= .at (.val (.tuple xs))):a.tmps[d]? =none\/∃xs,a.tmps[d]? =some (.tuple xs):=by
 have hev:=hM.ev (.tmp d);rw[h]at hev;have hev:a.eval (.tmp d)= .tuple xs:=hev;simp only[Act.eval,Array.getD_eq_getD_getElem?]at hev;cases hd:a.tmps[d]? with
 |none=>exact .inl rfl
 |some v=>rw[hd]at hev;simp at hev;exact .inr ⟨xs,by rw[hev]⟩
theorem EA(hM:aI B ι σ a w){d:Nat}{t:Bool}(h:σ.ev (.tmp d)= .at (.val (.bool t))):a.tmps[d]? =some (.bool t):=by
 have hev:=hM.ev (.tmp d);rw[h]at hev;have hev:a.eval (.tmp d)= .bool t:=hev;simp only[Act.eval,Array.getD_eq_getD_getElem?]at hev;cases hd:a.tmps[d]? with
 |none=>rw[hd]at hev;simp[undef]at hev
 |some v=>rw[hd]at hev;simp at hev;rw[hev]
theorem aI.setTmp(hM:aI B ι σ a w){c:Operand}{t:Bool}(h:σ.ev c= .at (.val (.bool t))):aI B ι (setTmp σ c t) a w:=by
 cases c with
 |tmp d=>
  refine⟨?_,hM.defers,hM.own,hM.dist,hM.fresh,hM.wrel,hM.one⟩;have ht:=EA hM h;have:=hM.slots.set d (x:=.at (.val (.bool t))) (v:=.bool t) rfl;show DenS ι (σ.sl.set d _) a.tmps.toList
  have e:a.tmps.toList.set d (.bool t)=a.tmps.toList:=by
   apply List.ext_getElem?;intro j;rw[List.getElem?_set];split
   .rename_i hj;subst hj;rw[Array.getElem?_toList,ht];split
    .rfl
    .rename_i hlt;simp at hlt;rw[Array.getElem?_eq_none hlt]at ht;cases ht
   .rfl
  rw[e]at this;exact this
 |const v=>exact hM
 |global g=>exact hM
 |func f=>exact hM
theorem Mf{c:Operand}{t:Bool}(h:σ.ev c= .at (.val (.bool t))):Fz σ (setTmp σ c t):=by
 cases c with
 |tmp d=>
  refine⟨λ_ _ _ cs h=>⟨cs,h⟩,λ_ _ _ h=>h,?_,?_,rfl⟩
  .intro x k off hx;cases x with
   |tmp e=>
    simp only[Vc.setTmp,St.ev,u7]at hx;simp only[St.ev];by_cases he:e=d/\d<σ.sl.length
    .rw[if_pos he]at hx;cases hx
    .rw[if_neg he]at hx;exact hx
   |const v=>exact hx
   |global g=>exact hx
   |func f=>exact hx
  .intro x k hx;cases x with
   |tmp e=>
    simp only[Vc.setTmp,St.ev,u7]at hx;simp only[St.ev];by_cases he:e=d/\d<σ.sl.length
    .rw[if_pos he]at hx;cases hx
    .rw[if_neg he]at hx;exact hx
   |const v=>exact hx
   |global g=>exact hx
   |func f=>exact hx
 |const v=>exact Fz.refl σ
 |global g=>exact Fz.refl σ
 |func f=>exact Fz.refl σ
def GWp(C:Ctx)(ops:Array Oper)(o:Oper)(a:Act)(w:World)(next:Act->World->Prop)(Q:Exit->Act->World->Prop):Prop:=
 if Region.wanted o (yielded ops a.tmps)then o.wp C.P a w next Q else next (a.put o.dst undef) w
theorem LM{ops:Array Oper}{j d:Nat}{want t:Bool}{g:Oper}(hg:o.guard=some (j,want))(hj:nth ops.toList j=some g)(hd:g.dst=some d)(ht:a.tmps[d]? =some (.bool t)):
 Region.wanted o (yielded ops a.tmps)=(t==want):=by
 unfold Region.wanted;rw[hg];rw[iD,Array.getElem?_toList]at hj;simp[yielded,hj,hd,ht]
theorem Fb{ops:Array Oper}{j d:Nat}{want:Bool}{g:Oper}(hg:o.guard=some (j,want))(hj:nth ops.toList j=some g)(hd:g.dst=some d)(ht:a.tmps[d]? =none\/∃xs,a.tmps[d]? =some (.tuple xs)):
 Region.wanted o (yielded ops a.tmps)=false:=by
 unfold Region.wanted;rw[hg];rw[iD,Array.getElem?_toList]at hj;rcases ht with ht|⟨xs,ht⟩<;>simp[yielded,hj,hd,ht]
theorem Au{f:Oper->St->(St->Prop)->Prop}{ops:Array Oper}(hM:aI B ι σ a w)(h:Ky f ops o σ K):
 ∃σ1,aI B ι σ1 a w/\Fz σ σ1/\((Region.wanted o (yielded ops a.tmps)=true/\f o σ1 K)\/(Region.wanted o (yielded ops a.tmps)=false/\K (σ1.put o.dst (.at (.val undef))))):=by
 unfold Ky at h;split at h
 .rename_i hg;exact⟨σ,hM,Fz.refl σ,.inl ⟨by simp[Region.wanted,hg],h⟩⟩
 .rename_i j want hg;split at h
  .exact h.elim
  .rename_i g hj;split at h
   .exact h.elim
   .rename_i d hd;split at h
    .rename_i t ht;have htm:=EA hM ht;have hw:=LM (o:=o) (a:=a) hg hj hd htm;rcases pN h with⟨rfl,h⟩|⟨rfl,h⟩
     .refine⟨setTmp σ (.tmp d) true,hM.setTmp ht,Mf ht,?_⟩;cases want with
      |true=>exact .inl ⟨by simpa using hw,h⟩
      |false=>exact .inr ⟨by simpa using hw,h⟩
     .refine⟨setTmp σ (.tmp d) false,hM.setTmp ht,Mf ht,?_⟩;cases want with
      |true=>exact .inr ⟨by simpa using hw,h⟩
      |false=>exact .inl ⟨by simpa using hw,h⟩
    .rename_i xs ht;exact⟨σ,hM,Fz.refl σ,.inr ⟨Fb hg hj hd (JO hM ht),h⟩⟩
    .exact h.elim
theorem PL(hspecs:∀g S,assoc C.specs g=some S->Sound C.P g S){ops:Array Oper}(hM:aI B ι σ a w)(h:Of C ops o σ K)
 (next:Act->World->Prop)(Q:Exit->Act->World->Prop)(hnext:∀ι' σ' a' w',aI B ι' σ' a' w'->K σ'->E8 σ ι o w w'->next a' w'):GWp C ops o a w next Q:=by
 obtain⟨σ1,hM1,hfz,hc⟩:=Au hM h;unfold GWp;rcases hc with⟨hw,h⟩|⟨hw,h⟩
 .rw[if_pos hw];exact Pv hspecs hM1 h next Q (λι' σ' a' w' h1 h2 h3=>hnext ι' σ' a' w' h1 h2 (h3.of_fz hfz))
 .rw[if_neg (by simp[hw])];exact hnext ι _ _ _ (hM1.put o.dst (x:=.at (.val undef)) rfl) h (kS hM)
theorem JL{P:Program}{next:Act->World->Prop}{Q:Exit->Act->World->Prop}(h:o.wp P a w next Q):o.wpIn Fence.wide 0 P a w next Q:=by
 refine⟨λ_ _=>trivial,?_⟩;show o.uponIn Fence.wide 0 P a next Q ((execOp a.eval o).run P w)
 unfold Oper.wp at h;cases hr:(execOp a.eval o).run P w with
 |ok x w'=>
  rw[hr]at h;cases x with
  |value v=>exact h
  |skip=>exact h
  |defer d=>exact h
  |enter f args=>exact⟨λe=>by simp[Fence.wide]at e,callsIn_wide.2 h⟩
  |row r args=>
   refine⟨λe=>by simp[Fence.wide]at e,λc cs _=>?_⟩;obtain⟨v,w2,hv,hs⟩:=h c cs;exact⟨v,w2,hv,stepsIn_wide.2 hs⟩
  |_=>exact h.elim
 |halt x w'=>
  rw[hr]at h;cases x with
  |panic v=>exact h
  |_=>exact h.elim
def XQ(B:nS)(C:Ctx)(o:Oper)(K:St->Prop)(a:Act)(w:World):Prop:=
 ∀(next:Act->World->Prop)(Q:Exit->Act->World->Prop),(∀ι' σ' a' w',aI B ι' σ' a' w'->K σ'->next a' w')->o.wpIn Fence.wide 0 C.P a w next Q
theorem Da(hM:aI B ι σ a w):∀(i:Nat)(l:List Operand)(ts:List TypeId)(cvs:List CV),qC C.P σ [] i l ts=some cvs->cvs=(l.map a.eval).map .val
 |i,[],ts,cvs,h=>by simp[qC]at h;subst h;rfl
 |i,x::r,ts,cvs,h=>by
  simp only[qC]at h;split at h
  .cases h
  .rename_i rest hrest;have ih:=Da hM (i+1) r ts.tail rest hrest;simp only[List.contains_nil]at h;split at h
   .rename_i u hu;simp only[Option.some.injEq]at h;subst h;simp only[List.map_cons,(hM.ev x).val? hu,ih]
   .cases h
theorem OW(hM:aI B ι σ a w){c:Call}{g:Operand}{l:Nat}{fs cs:Array Value}(ho:o.op= .call c)(hc:c.callee= .value g)
 (hg:σ.ev g= .at (.val (.func (.yield l) fs cs)))(hfs:fs.toList=[])(hcs:cs.toList=[])(h:Nz C o (.func (.yield l) #[] #[]) c.args.toList σ K):XQ B C o K a w:=by
 intro next Q hnext
 unfold Nz at h;split at h
 .exact h.elim
 .rename_i S hS;split at h
  .rename_i cvs hcvs;obtain⟨hY,h⟩:=h;have hv:=Da hM 0 _ _ _ hcvs;subst hv;have hw:=hM.wrel;obtain⟨fn,tmps,assign,body,hrun,hround⟩:=hY.go l _ σ.m σ.h w _ h ⟨hw.hsat,hw.msat,hw.disj⟩;have hev:a.eval g= .func (.yield l) fs cs:=by have:=hM.ev g;rw[hg]at this;exact this
   have hfs':fs= #[]:=by apply Array.toList_inj.1;simpa using hfs
   have hcs':cs= #[]:=by apply Array.toList_inj.1;simpa using hcs
   subst hfs' hcs';have hargsA:c.args.map a.eval=(c.args.toList.map a.eval).toArray:=by apply Array.toList_inj.1;simp
   have hrun2:(execOp a.eval o).run C.P w= .ok (.round l fn tmps assign body) w:=by
    unfold execOp;simp only[ho,resolve,hc,hev,Deferred.ofValue,Sem.run_bind,Sem.run_pure,Result.andThen_ok,invoke];simp[hargsA,hrun]
   refine⟨λ_ _=>trivial,?_⟩;show o.uponIn Fence.wide 0 C.P a next Q ((execOp a.eval o).run C.P w)
   rw[hrun2,Oper.uponIn_round];refine⟨λe=>by simp[Fence.wide]at e,hround.mono ?_⟩;rintro e w' ⟨u,m',h',rfl,hK,hf⟩;show next (a.put o.dst u) w'
   have hwr:tR ⟨w,λb=>σ.m b≠none,σ.h,[]⟩ m' h' w':=
    ⟨hf.tape,hf.os,hf.output,hf.drawn,hf.size,λb hb hn=>hf.frame b hb (Classical.byContradiction hn),hf.heapy.hsat,hf.heapy.msat,hf.heapy.disj,hf.hle.le,λb hb hn=>hf.hold b hb (Classical.byContradiction hn),λb ob hb=>hf.mfr b ob hb⟩
   have hM2:=hM.called hwr (λb hb=>by
    cases hm:σ.m b with
    |none=>exact(hb hm).elim
    |some ob=>exact hw.mfr b ob hm) (λj o' b hj hb hn=>hn (hM.fresh j o' b hj hb).2.1)
   exact hnext ι _ _ _ (hM2.put o.dst (x:=.at (.val u)) rfl) hK
  .exact h.elim
theorem LZ(hspecs:∀g S,assoc C.specs g=some S->Sound C.P g S)(hM:aI B ι σ a w)(h:L0 C o σ K):XQ B C o K a w:=by
 have old:LA C o σ K->XQ B C o K a w:=λh next Q hn=>JL (Pv hspecs hM h next Q (λι' σ' a' w' h1 h2 _=>hn ι' σ' a' w' h1 h2))
 unfold L0 at h;split at h
 .rename_i c ho;split at h
  .rename_i g hc;split at h
   .rename_i l fs cs hg;split at h
    .rename_i hfs hcs;exact OW hM ho hc hg hfs hcs h
    .exact h.elim
   .exact old h
  .exact old h
 .exact old h
theorem LD(hspecs:∀g S,assoc C.specs g=some S->Sound C.P g S){ops:Array Oper}(hM:aI B ι σ a w)(h:Ky (L0 C) ops o σ K)
 (next:Act->World->Prop)(Q:Exit->Act->World->Prop)(hnext:∀ι' σ' a' w',aI B ι' σ' a' w'->K σ'->next a' w'):
 if Region.wanted o (yielded ops a.tmps)then o.wpIn Fence.wide 0 C.P a w next Q else(∀f,o.about C.P w a.eval=some f->Fence.wide.fn f)/\next (a.put o.dst undef) w:=by
 obtain⟨σ1,hM1,hfz,hc⟩:=Au hM h;rcases hc with⟨hw,h⟩|⟨hw,h⟩
 .rw[if_pos hw];exact LZ hspecs hM1 h next Q hnext
 .rw[if_neg (by simp[hw])];exact⟨λ_ _=>trivial,hnext ι _ _ _ (hM1.put o.dst (x:=.at (.val undef)) rfl) h⟩
theorem ED(hspecs:∀g S,assoc C.specs g=some S->Sound C.P g S){ops:Array Oper}{Q:Exit->Act->World->Prop}{R:St->Prop}{rest:List Nat}(hQ:∀ι σ a w,aI B ι σ a w->R σ->wpOpsIn Fence.wide 0 C.P ops Q rest a w):
 ∀(l:List Oper)(s:Nat)(ι:Nat->Value)(σ:St)(a:Act)(w:World),(∀j,j<l.length->l[j]? =ops.toList[s+j]?)->aI B ι σ a w->LU C ops l σ R->wpOpsIn Fence.wide 0 C.P ops Q (List.range' s l.length++rest) a w
 |[],s,ι,σ,a,w,_,hM,h=>hQ ι σ a w hM h
 |o::l,s,ι,σ,a,w,hl,hM,h=>by
  have ho:ops[s]? =some o:=by have:=hl 0 (by simp);simp at this;exact this.symm
  simp only[List.length_cons,List.range'_succ,List.cons_append,wpOpsIn,ho]
  exact LD hspecs hM h (wpOpsIn Fence.wide 0 C.P ops Q (List.range' (s+1) l.length++rest)) Q (λι' σ' a' w' h1 h2=>
   ED hspecs hQ l (s+1) ι' σ' a' w' (λj hj=>by have:=hl (j+1) (by simp;omega);simp only[List.getElem?_cons_succ]at this;rw[this];congr 1;omega) h1 h2)
end
end Go.Vc
namespace Go.Vc
open Go
def Yd(P:Program)(ops:Array Oper)(w:World)(o:Oper)(v:Value)(a:Act):Prop:=
 (Region.wanted o (yielded ops a.tmps)=true/\(execOp a.eval o).run P w= .ok (.value v) w)\/(Region.wanted o (yielded ops a.tmps)=false/\v=undef)
def Aft(ops:Array Oper)(ok:Oper)(i:Nat):Prop:=waits ok i=true\/∃j oj,ops[j]? =some oj/\waits ok j=true/\waits oj i=true
def Tx(ops:Array Oper)(oi:Oper):Prop:=∀(k:Nat)(ok:Oper)(d:Nat),ops[k]? =some ok->ok.dst=some d->d∈oi.looksAt ops->waits oi k=true
structure X4(ops:Array Oper)(i:Nat)(oi:Oper):Prop where
 mv:Yv oi.op=true
 look:∀(k:Nat)(ok:Oper)(d:Nat),ops[k]? =some ok->ok.dst=some d->d∈oi.looksAt ops->Aft ops ok i
structure ZT(ops:Array Oper):Prop where
 look:∀(i:Nat)(oi:Oper),ops[i]? =some oi->Tx ops oi\/X4 ops i oi
 dst:∀(i k:Nat)(oi ok:Oper)(d:Nat),ops[i]? =some oi->ops[k]? =some ok->ok.dst=some d->i≠k->oi.dst≠some d
 topo:∀(i:Nat)(oi:Oper)(k:Nat),ops[i]? =some oi->waits oi k=true->k<i
 sel:∀(j:Nat)(o:Oper) cs b,ops[j]? =some o->o.op≠ .select cs b
theorem Aft.in_{ops:Array Oper}{ok:Oper}{i:Nat}{L:Array Bool}(h:Aft ops ok i)(hk:∀j,waits ok j=true->L.getD j false=true)(hL:∀(j:Nat)(oj:Oper),ops[j]? =some oj->L.getD j false=true->∀k,waits oj k=true->L.getD k false=true):L.getD i false=true:=by
 rcases h with h|⟨j,oj,hj,h1,h2⟩
 .exact hk i h
 .exact hL j oj hj (hk j h1) i h2
theorem ZT.self{ops:Array Oper}(hs:ZT ops){k:Nat}{o:Oper}(ho:ops[k]? =some o):∀d,o.dst=some d->d∉o.looksAt ops:=λd hd hm=>by
 rcases hs.look k o ho with h|h
 .have:=hs.topo k o k ho (h k o d ho hd hm);omega
 .rcases h.look k o d ho hd hm with h1|⟨j,oj,hj,h1,h2⟩
  .have:=hs.topo k o k ho h1;omega
  .have:=hs.topo k o j ho h1;have:=hs.topo j oj k hj h2;omega
theorem WH{P:Program}{o:Oper}(h:Yv o.op=true):w9 P o=false:=by
 unfold w9;cases e:o.op<;>simp_all [Yv]
theorem GM{o:Oper}{k:Nat}:waits o k=true↔∃e∈o.after,Region.binds .any e=true/\e.on=k:=by
 unfold waits;rw[List.any_eq_true];constructor
 .rintro⟨e,he,h⟩;simp only[Bool.and_eq_true]at h;exact⟨e,by simpa using he,h.1,Nat.eq_of_beq_eq_true h.2⟩
 .rintro⟨e,he,h1,h2⟩;exact⟨e,by simpa using he,by simp[h1,h2]⟩
theorem Ww{ops:Array Oper}(h:abJ ops=true)(hs:Region.noSelect ops=true):ZT ops:=by
 unfold abJ at h;simp only[List.all_eq_true,List.mem_range]at h;have lt:∀{i:Nat}{oi:Oper},ops[i]? =some oi->i<ops.toList.length:=λhi=>by have:=(Array.getElem?_eq_some_iff.1 hi).1;simpa using this
 refine⟨?_,?_,?_,Region.noSelect_spec hs⟩
 .intro i oi hi;have h1:=h i (lt hi);rw[iD,Array.getElem?_toList,hi]at h1;simp only[Bool.and_eq_true,Bool.or_eq_true,List.all_eq_true,List.mem_range]at h1;rcases h1.2 with h2|⟨hm,h2⟩
  .refine .inl λk ok d hk hd hl=>?_;have h3:=h2 k (lt hk);rw[iD,Array.getElem?_toList,hk]at h3;simp only[hd,Bool.or_eq_true,Bool.not_eq_true',List.contains_eq_mem,decide_eq_false_iff_not]at h3;rcases h3 with h3|h3
   .exact(h3 hl).elim
   .exact h3
  .refine .inr ⟨hm,λk ok d hk hd hl=>?_⟩;have h3:=h2 k (lt hk);rw[iD,Array.getElem?_toList,hk]at h3;simp only[hd,Bool.or_eq_true,Bool.not_eq_true',List.contains_eq_mem,decide_eq_false_iff_not]at h3;rcases h3 with h3|h3
   .exact(h3 hl).elim
   .unfold akQ at h3;simp only[Bool.or_eq_true,List.any_eq_true,Bool.and_eq_true]at h3;rcases h3 with h3|⟨⟨oj,j⟩,hj,h4,h5⟩
    .exact .inl h3
    .refine .inr ⟨j,oj,?_,h4,h5⟩;have:=List.mem_zipIdx_iff_getElem?.1 hj;simpa using this
 .intro i k oi ok d hi hk hd hne;have h1:=h i (lt hi);rw[iD,Array.getElem?_toList,hi]at h1;simp only[Bool.and_eq_true,List.all_eq_true,List.mem_range]at h1;have h3:=h1.1.2 k (lt hk);rw[iD,Array.getElem?_toList,hk]at h3;simp only[hd,Bool.or_eq_true]at h3;rcases h3 with h3|h3
  .exact(hne (Nat.eq_of_beq_eq_true h3)).elim
  .simpa using h3
 .intro i oi k hi hw;have hil:i<ops.toList.length:=by have:=(Array.getElem?_eq_some_iff.1 hi).1;simpa using this
  have h1:=h i hil;rw[iD,Array.getElem?_toList,hi]at h1;simp only[Bool.and_eq_true,List.all_eq_true]at h1;obtain⟨e,he,hb,rfl⟩:=GM.1 hw;have:=h1.1.1 e (by simpa using he);simp only[hb,Bool.not_true,Bool.false_or]at this;rw[<-Nat.blt_eq];exact this
theorem rU{ops:Array Oper}{listed:Array Bool}{j:Nat}:j∈Region.ready .any ops listed↔listed.getD j true=false/\∃o,ops[j]? =some o/\∀k,waits o k=true->listed.getD k false=true:=by
 rw[mem_ready];constructor
 .rintro⟨h1,o,ho,h2⟩;refine⟨h1,o,ho,λk hk=>?_⟩;obtain⟨e,he,hb,rfl⟩:=GM.1 hk;exact h2 e he hb
 .rintro⟨h1,o,ho,h2⟩;exact⟨h1,o,ho,λe he hb=>h2 e.on (GM.2 ⟨e,he,hb,rfl⟩)⟩
theorem JB{l:Array Bool}{i:Nat}(h:l.getD i true=false):l.getD i false=false/\i<l.size:=by
 by_cases hi:i<l.size
 .simp[Array.getD,hi]at h⊢;exact h
 .simp[Array.getD,hi]at h
theorem qP{l:Array Bool}{i:Nat}(h:i<l.size):(l.setIfInBounds i true).getD i false=true:=by
 simp[Array.getD,h]
theorem EY{ops:Array Oper}{o:Oper}{ar ac:Act}(hs:∀cs b,o.op≠ .select cs b)(h:∀t∈o.looksAt ops,ar.tmps[t]? =ac.tmps[t]?):
 execOp ar.eval o=execOp ac.eval o/\Region.wanted o (yielded ops ar.tmps)=Region.wanted o (yielded ops ac.tmps):=by
 constructor
 .refine execOp_congr o hs λx hx=>?_;cases x with
  |tmp t=>
   have:t∈o.looksAt ops:=List.mem_append_left _ (List.mem_filterMap.2 ⟨.tmp t,by simpa using hx,rfl⟩);simp only[Act.eval,Array.getD_eq_getD_getElem?,h t this]
  |const v=>rfl
  |global g=>rfl
  |func f=>rfl
 .unfold Region.wanted;split
  .rfl
  .rename_i j want hg
   have:yielded ops ar.tmps j=yielded ops ac.tmps j:=by
    unfold yielded;cases hd:(ops[j]?).bind (·.dst)with
    |none=>rfl
    |some d=>
     have hm:d∈o.looksAt ops:=by
      unfold Oper.looksAt;refine List.mem_append_right _ ?_;simp[hg,hd]
     simp only[Option.bind_some,h d hm]
   rw[this]
theorem IT{a:Act}{d:Option Tmp}{v:Value}{t:Nat}(h:d≠some t):(a.put d v).tmps[t]? =a.tmps[t]? :=by
 cases d with
 |none=>rfl
 |some e=>
  have:e≠t:=λx=>h (by rw[x]);simp[Act.put,Array.getElem?_setIfInBounds_ne this]
theorem Yn(a:Act)(d:Option Tmp)(u v:Value):(a.put d u).put d v=a.put d v:=by
 cases d with
 |none=>rfl
 |some e=>simp[Act.put]
structure Nl(P:Program)(ops:Array Oper)(L Cl:Array Bool)(ar ac:Act)(w:World):Prop where
 szL:L.size=ops.size
 szC:Cl.size=ops.size
 sub:∀i,L.getD i false=true->Cl.getD i false=true
 rd:∀(i:Nat)(o:Oper),ops[i]? =some o->Cl.getD i false=true->L.getD i false=false->Cb o.op=true
 clC:∀(i:Nat)(o:Oper),ops[i]? =some o->Cl.getD i false=true->∀k,waits o k=true->Cl.getD k false=true
 clL:∀(i:Nat)(o:Oper),ops[i]? =some o->L.getD i false=true->∀k,waits o k=true->L.getD k false=true
 tsz:ar.tmps.size=ac.tmps.size
 df:ar.defers=ac.defers
 agree:∀t,(∀(i:Nat)(o:Oper),ops[i]? =some o->Cl.getD i false=true->L.getD i false=false->o.dst≠some t)->ar.tmps[t]? =ac.tmps[t]?
 pend:∀(i:Nat)(o:Oper),ops[i]? =some o->Cl.getD i false=true->L.getD i false=false->∃v,(Tx ops o->∀w'',(w9 P o=false\/w''=w)->Yd P ops w'' o v ac)/\(X4 ops i o->∀w'',Yd P ops w'' o v ar)/\ac.put o.dst v=ac
section
variable{P:Program}{ops:Array Oper}{L Cl:Array Bool}{ar ac:Act}{w:World}
theorem Yd.congr{o:Oper}{v:Value}{a a':Act}{w:World}(h:Yd P ops w o v a)(he:execOp a'.eval o=execOp a.eval o)(hw:Region.wanted o (yielded ops a'.tmps)=Region.wanted o (yielded ops a.tmps)):Yd P ops w o v a':=by
 unfold Yd at*
 rw[he,hw];exact h
theorem Nl.looks(h:Nl P ops L Cl ar ac w){o:Oper}(hst:Tx ops o)(hr:∀k,waits o k=true->L.getD k false=true):∀t∈o.looksAt ops,ar.tmps[t]? =ac.tmps[t]? :=by
 intro t ht;refine h.agree t (λk ok hk _ hL hd=>?_);have:=hr k (hst k ok t hk hd ht);rw[this]at hL;cases hL
theorem Nl.looks'(h:Nl P ops L Cl ar ac w){i:Nat}{o:Oper}(hlo:X4 ops i o)(hC:Cl.getD i false=false):∀t∈o.looksAt ops,ar.tmps[t]? =ac.tmps[t]? :=by
 intro t ht;refine h.agree t (λk ok hk hCk _ hd=>?_);have:=(hlo.look k ok t hk hd ht).in_ (h.clC k ok hk hCk) h.clC;rw[this]at hC;cases hC
theorem Nl.stepA(hs:ZT ops)(h:Nl P ops L Cl ar ac w){i:Nat}{o:Oper}(ho:ops[i]? =some o)(hC:Cl.getD i false=true)(hr:∀k,waits o k=true->L.getD k false=true){v:Value}(hv:ac.put o.dst v=ac):
 Nl P ops (L.setIfInBounds i true) Cl (ar.put o.dst v) ac w:=by
 have hsz:i<L.size:=by rw[h.szL];exact(Array.getElem?_eq_some_iff.1 ho).1
 have hsub:∀k,(L.setIfInBounds i true).getD k false=false->L.getD k false=false/\k≠i:=by
  intro k hk;by_cases e:i=k
  .subst e;rw[qP hsz]at hk;cases hk
  .rw[getD_set_ne false e]at hk;exact⟨hk,λx=>e x.symm⟩
 refine⟨by simpa using h.szL,h.szC,?_,λk ok hk hCk hLk=>h.rd k ok hk hCk (hsub k hLk).1,h.clC,?_,?_,?_,?_,λk ok hk hCk hLk=>?_⟩
 .intro k hk;by_cases e:i=k
  .subst e;exact hC
  .rw[getD_set_ne false e]at hk;exact h.sub k hk
 .intro k ok hk hLk j hj;by_cases e:i=k
  .subst e;rw[ho]at hk;cases hk;exact getD_set_true (hr j hj)
  .rw[getD_set_ne false e]at hLk;exact getD_set_true (h.clL k ok hk hLk j hj)
 .rw[<-h.tsz];cases o.dst<;>simp[Act.put]
 .rw[<-h.df];cases o.dst<;>rfl
 .intro t ht;by_cases e:o.dst=some t
  .rw[e]at hv⊢
   rw[<-hv];simp only[Act.put,Array.getElem?_setIfInBounds_self,h.tsz]
  .rw[IT e];refine h.agree t (λk ok hk hCk hLk=>?_);by_cases ek:i=k
   .subst ek;rw[ho]at hk;cases hk;exact e
   .exact ht k ok hk hCk (by rw[getD_set_ne false ek];exact hLk)
 .obtain⟨u,h1,h2,h3⟩:=h.pend k ok hk hCk (hsub k hLk).1;refine⟨u,h1,λhlo w''=>?_,h3⟩
  have hnl:∀d,o.dst=some d->d∉ok.looksAt ops:=λd hd hm=>by
   have:=(hlo.look i o d ho hd hm).in_ hr h.clL;rw[(hsub k hLk).1]at this;cases this
  exact(h2 hlo w'').congr (execOp_put ok (hs.sel k ok · · hk) ar o.dst v hnl) (wanted_put ok ar o.dst v hnl)
theorem Nl.take(hs:ZT ops)(h:Nl P ops L Cl ar ac w){k:Nat}{o:Oper}(ho:ops[k]? =some o)(hC:Cl.getD k false=false)(hr:∀j,waits o j=true->Cl.getD j false=true)(hrd:Cb o.op=true){v:Value}
 (hv:∀w'',(w9 P o=false\/w''=w)->Yd P ops w'' o v ac):Nl P ops L (Cl.setIfInBounds k true) ar (ac.put o.dst v) w:=by
 have hsz:k<Cl.size:=by rw[h.szC];exact(Array.getElem?_eq_some_iff.1 ho).1
 have hcase:∀j,(Cl.setIfInBounds k true).getD j false=true->j=k\/Cl.getD j false=true:=by
  intro j hj;by_cases e:k=j
  .exact .inl e.symm
  .rw[getD_set_ne false e]at hj;exact .inr hj
 have hLk:L.getD k false=false:=by
  cases hl:L.getD k false with
  |false=>rfl
  |true=>rw[h.sub k hl]at hC;cases hC
 have hup:∀j,Cl.getD j false=true->(Cl.setIfInBounds k true).getD j false=true:=by
  intro j hj;exact getD_set_true hj
 have hnl:=hs.self ho;refine⟨h.szL,by simpa using h.szC,λi hi=>hup i (h.sub i hi),?_,?_,h.clL,?_,?_,?_,?_⟩
 .intro i oi hi hCi hLi;rcases hcase i hCi with rfl|hCi
  .rw[ho]at hi;cases hi;exact hrd
  .exact h.rd i oi hi hCi hLi
 .intro i oi hi hCi j hj;rcases hcase i hCi with rfl|hCi
  .rw[ho]at hi;cases hi;exact hup j (hr j hj)
  .exact hup j (h.clC i oi hi hCi j hj)
 .rw[h.tsz];cases o.dst<;>simp[Act.put]
 .rw[h.df];cases o.dst<;>rfl
 .intro t ht;have e:o.dst≠some t:=ht k o ho (qP hsz) hLk;rw[IT e];exact h.agree t (λi oi hi hCi hLi=>ht i oi hi (hup i hCi) hLi)
 .intro i oi hi hCi hLi;by_cases e:i=k
  .subst e;rw[ho]at hi;cases hi;refine⟨v,λ_ w'' hw=>(hv w'' hw).congr (execOp_put o (hs.sel i o · · ho) ac o.dst v hnl) (wanted_put o ac o.dst v hnl),λhlo w''=>?_,Yn _ _ _ _⟩;obtain⟨he,hwe⟩:=EY (hs.sel i o · · ho) (h.looks' hlo hC);exact(hv w'' (.inl (WH hlo.mv))).congr he hwe
  .have hCi':=(hcase i hCi).resolve_left e;obtain⟨u,hu,hlu,hpu⟩:=h.pend i oi hi hCi' hLi;refine⟨u,λhst w'' hw=>?_,hlu,?_⟩
   .have hnl':∀d,o.dst=some d->d∉oi.looksAt ops:=λd hd hm=>by
     have:=h.clC i oi hi hCi' k (hst k o d ho hd hm);rw[this]at hC;cases hC
    exact(hu hst w'' hw).congr (execOp_put oi (hs.sel i oi · · hi) ac o.dst v hnl') (wanted_put oi ac o.dst v hnl')
   rw[Act.put_comm ac v u (λd hd=>hs.dst i k oi o d hi ho hd e),hpu]
theorem OX{o:Oper}{a1 a2:Act}{w:World}{next1 next2:Act->World->Prop}{Q:Exit->Act->World->Prop}(he:execOp a2.eval o=execOp a1.eval o)(h:o.wp P a1 w next1 Q)
 (hv:∀v w',next1 (a1.put o.dst v) w'->next2 (a2.put o.dst v) w')(hd:∀d w',¬next1 (({a1 with defers:=d::a1.defers}:Act).put o.dst undef) w')(hQ:∀c a w,¬Q (.panic c) a w):o.wp P a2 w next2 Q:=by
 unfold Oper.wp at*
 rw[he];generalize (execOp a1.eval o).run P w=r at*
 cases r with
 |ok n w'=>
  cases n<;>simp only[Oper.upon]at h⊢
  case value u=>exact hv u w' h
  case skip=>exact hv undef w' h
  case defer d=>exact(hd d w' h).elim
  case enter f args=>
   refine Calls.mono h λe w'' he'=>?_;cases e with
   |returned u=>exact hv u w'' he'
   |panicked c=>exact(hQ _ _ _ he').elim
   |outgrown=>exact he'
  case row row args=>exact Rows.mono h λu w'' he'=>hv u w'' he'
 |halt x w'=>
  cases x<;>simp only[Oper.upon]at h⊢
  case panic u=>exact(hQ _ _ _ h).elim
theorem Nl.stepB(hs:ZT ops)(h:Nl P ops L Cl ar ac w){j:Nat}{o:Oper}(ho:ops[j]? =some o)(hC:Cl.getD j false=false)(hr:∀k,waits o k=true->L.getD k false=true)(u:Value)(w':World)
 (hpend:∀(i:Nat)(oi:Oper)(v:Value),ops[i]? =some oi->Cl.getD i false=true->L.getD i false=false->Yd P ops w oi v ac->Yd P ops w' oi v ac\/w9 P oi=false):
 Nl P ops (L.setIfInBounds j true) (Cl.setIfInBounds j true) (ar.put o.dst u) (ac.put o.dst u) w':=by
 have hszC:j<Cl.size:=by rw[h.szC];exact(Array.getElem?_eq_some_iff.1 ho).1
 have hszL:j<L.size:=by rw[h.szL];exact(Array.getElem?_eq_some_iff.1 ho).1
 have hcase:∀i,(Cl.setIfInBounds j true).getD i false=true->i=j\/Cl.getD i false=true:=by
  intro i hi;by_cases e:j=i
  .exact .inl e.symm
  .rw[getD_set_ne false e]at hi;exact .inr hi
 have hLcase:∀i,(L.setIfInBounds j true).getD i false=false->i≠j/\L.getD i false=false:=by
  intro i hi;by_cases e:j=i
  .subst e;rw[qP hszL]at hi;cases hi
  .rw[getD_set_ne false e]at hi;exact⟨λx=>e x.symm,hi⟩
 have hup:∀i,Cl.getD i false=true->(Cl.setIfInBounds j true).getD i false=true:=λi hi=>getD_set_true hi;refine⟨by simpa using h.szL,by simpa using h.szC,?_,?_,?_,?_,?_,?_,?_,?_⟩
 .intro i hi;by_cases e:j=i
  .subst e;exact qP hszC
  .rw[getD_set_ne false e]at hi;exact hup i (h.sub i hi)
 .intro i oi hi hCi hLi;obtain⟨hne,hLi'⟩:=hLcase i hLi;exact h.rd i oi hi ((hcase i hCi).resolve_left hne) hLi'
 .intro i oi hi hCi k hk;rcases hcase i hCi with rfl|hCi
  .rw[ho]at hi;cases hi;exact hup k (h.sub k (hr k hk))
  .exact hup k (h.clC i oi hi hCi k hk)
 .intro i oi hi hLi k hk;by_cases e:j=i
  .subst e;rw[ho]at hi;cases hi;exact getD_set_true (hr k hk)
  .rw[getD_set_ne false e]at hLi;exact getD_set_true (h.clL i oi hi hLi k hk)
 .cases o.dst<;>simp[Act.put,h.tsz]
 .have:=h.df;cases o.dst<;>exact this
 .intro t ht;by_cases e:o.dst=some t
  .rw[e];simp only[Act.put,Array.getElem?_setIfInBounds_self,h.tsz]
  .rw[IT e,IT e];refine h.agree t (λi oi hi hCi hLi=>ht i oi hi (hup i hCi) ?_);have hne:j≠i:=λx=>by subst x;rw[hC]at hCi;cases hCi
   rw[getD_set_ne false hne];exact hLi
 .intro i oi hi hCi hLi;obtain⟨hne,hLi'⟩:=hLcase i hLi;have hCi':=(hcase i hCi).resolve_left hne;obtain⟨v,hv,hlv,hpv⟩:=h.pend i oi hi hCi' hLi';refine⟨v,λhst w'' hw=>?_,λhlo w''=>?_,?_⟩
  .have hnl:∀d,o.dst=some d->d∉oi.looksAt ops:=λd hd hm=>by
    have:=h.clC i oi hi hCi' j (hst j o d ho hd hm);rw[this]at hC;cases hC
   have hy:Yd P ops w'' oi v ac:=by
    rcases hw with hw|hw
    .exact hv hst w'' (.inl hw)
    .rw[hw];rcases hpend i oi v hi hCi' hLi' (hv hst w (.inr rfl))with h1|h1
     .exact h1
     .exact hv hst w' (.inl h1)
   exact hy.congr (execOp_put oi (hs.sel i oi · · hi) ac o.dst u hnl) (wanted_put oi ac o.dst u hnl)
  .have hnl:∀d,o.dst=some d->d∉oi.looksAt ops:=λd hd hm=>by
    have:=(hlo.look j o d ho hd hm).in_ hr h.clL;rw[this]at hLi';cases hLi'
   exact(hlv hlo w'').congr (execOp_put oi (hs.sel i oi · · hi) ar o.dst u hnl) (wanted_put oi ar o.dst u hnl)
  .rw[Act.put_comm ac u v (λd hd=>hs.dst i j oi o d hi ho hd hne),hpv]
end
section
variable{B:nS}{C:Ctx}{ι:Nat->Value}{σ:St}{a:Act}{w:World}
theorem O8{P:Program}{fl:Bool}{σ:St}{oj oi:Oper}{K:Prop}(h:H8 P fl σ oj oi K):H8 P fl σ oj oi True/\K:=by
 unfold H8 at h⊢
 repeat' split at h
 all_goals first|exact h.elim|skip
 all_goals simp_all
theorem JQ{P:Program}{fl:Bool}{ops:Array Oper}{listed:Array Bool}{σ:St}{oj:Oper}:∀(l:List Oper)(s:Nat){K:Prop},GO P fl ops listed σ oj s l K->
 K/\∀(i:Nat)(oi:Oper),l[i]? =some oi->listed.getD (s+i) false=true->Cb oi.op=true->waits oj (s+i)=false->vW ops σ oi=false->H8 P fl σ oj oi True
 |[],s,K,h=>⟨h,λi oi hi=>by simp at hi⟩
 |o::l,s,K,h=>by
  have key:(GO P fl ops listed σ oj (s+1) l K)/\(listed.getD s false=true->Cb o.op=true->waits oj s=false->vW ops σ o=false->H8 P fl σ oj o True):=by
   simp only[GO]at h;split at h
   .obtain⟨h1,h2⟩:=O8 h;exact⟨h2,λ_ _ _ _=>h1⟩
   .rename_i hn;refine⟨h,λh1 h2 h3 h4=>?_⟩;exact(hn h1 h2 h3 h4).elim
  obtain⟨hK,ih⟩:=JQ l (s+1) key.1;refine⟨hK,λi oi hi h1 h2 h3 h4=>?_⟩;cases i with
  |zero=>simp at hi;subst hi;exact key.2 (by simpa using h1) h2 (by simpa using h3) h4
  |succ i=>
   simp only[List.getElem?_cons_succ]at hi;exact ih i oi hi (by rw[show s+1+i=s+(i+1)by omega];exact h1) h2 (by rw[show s+1+i=s+(i+1)by omega];exact h3) h4
theorem O7{σ:St}{oj oi:Oper}{τ:St}{K:Prop}(h:Fm σ oj oi τ K):Fm σ oj oi τ True/\K:=by
 unfold Fm at h⊢
 repeat' split at h
 all_goals simp_all
theorem H7{ops:Array Oper}{listed:Array Bool}{σ:St}{oj:Oper}{τ:St}:∀(l:List Oper)(s:Nat){K:Prop},Dl ops listed σ oj τ s l K->
 K/\∀(i:Nat)(oi:Oper),l[i]? =some oi->listed.getD (s+i) false=true->Cb oi.op=true->waits oj (s+i)=false->vW ops σ oi=false->Fm σ oj oi τ True
 |[],s,K,h=>⟨h,λi oi hi=>by simp at hi⟩
 |o::l,s,K,h=>by
  have key:(Dl ops listed σ oj τ (s+1) l K)/\(listed.getD s false=true->Cb o.op=true->waits oj s=false->vW ops σ o=false->Fm σ oj o τ True):=by
   simp only[Dl]at h;split at h
   .obtain⟨h1,h2⟩:=O7 h;exact⟨h2,λ_ _ _ _=>h1⟩
   .rename_i hn;refine⟨h,λh1 h2 h3 h4=>?_⟩;exact(hn h1 h2 h3 h4).elim
  obtain⟨hK,ih⟩:=H7 l (s+1) key.1;refine⟨hK,λi oi hi h1 h2 h3 h4=>?_⟩;cases i with
  |zero=>simp at hi;subst hi;exact key.2 (by simpa using h1) h2 (by simpa using h3) h4
  |succ i=>
   simp only[List.getElem?_cons_succ]at hi;exact ih i oi hi (by rw[show s+1+i=s+(i+1)by omega];exact h1) h2 (by rw[show s+1+i=s+(i+1)by omega];exact h3) h4
theorem Oa{ops:Array Oper}{oi:Oper}(hM:aI B ι σ a w)(h:vW ops σ oi=true):Region.wanted oi (yielded ops a.tmps)=false:=by
 unfold vW at h;split at h
 .cases h
 .rename_i j want hg;split at h
  .cases h
  .rename_i g hj;split at h
   .cases h
   .rename_i d hd;split at h
    .rename_i t ht;rw[LM hg hj hd (EA hM ht)];split at h
     .rfl
     .rfl
     .cases h
    .rename_i xs ht;exact Fb hg hj hd (JO hM ht)
    .cases h
theorem zM(hM:aI B ι σ a w){k:Nat}{ow:Own}(hown:nth σ.own k=some (some ow)){b:Nat}(hb:blk (ι k)=some b):∀{l:List Operand},Ej σ k l=true->∀x∈l,∀j,(σ.ev x= .at (.lst j)\/∃off,σ.ev x= .at (.ptr j off))->blk (ι j)≠some b
 |[],_,x,hx=>by cases hx
 |y::r,h,x,hx=>by
  simp only[Ej,Bool.and_eq_true]at h;rcases List.mem_cons.1 hx with rfl|hx
  .intro j hj hbj;have h1:=h.1;rcases hj with hj|⟨off,hj⟩
   all_goals
    simp only[hj]at h1;split at h1
    .rename_i o' ho';have:=hM.dist j k _ _ b ho' hown hbj hb;subst this;simp at h1
    .cases h1
  .exact zM hM hown hb h.2 x hx
theorem Yo{ops:Array Oper}{fl:Bool}{oj oi:Oper}{v:Value}{w':World}(hM:aI B ι σ a w)(hk:E8 σ ι oj w w')(hst:H8 C.P fl σ oj oi True)(hpost:fl=true->∃τ:St,tR B τ.m τ.h w'/\Fm σ oj oi τ True)(hy:Yd C.P ops w oi v a):Yd C.P ops w' oi v a\/w9 C.P oi=false:=by
 unfold H8 at hst;split at hst
 .rename_i hm;exact .inr hm
 .left;rcases hy with⟨hw,hrun⟩|hy
  .left;refine⟨hw,?_⟩;split at hst
   .rename_i T x hop;split at hst
    .exact hst.elim
    .rename_i hT;have hev:=hM.ev x
     have gen:∀(b off:Nat)(cs:List Value),a.eval x= .pointer (some ⟨b,off,none⟩)->cs.length=C.P.cellsOf T->(∀j u,cs[j]? =some u->w.cell? ⟨b,off+j,none⟩=some u)->(∀j u,cs[j]? =some u->w'.cell? ⟨b,off+j,none⟩=some u)->
      (execOp a.eval oi).run C.P w'= .ok (.value v) w':=by
      intro b off cs hx hl hc hc';have h1:=wA hT hl hc;have h2:=wA hT hl hc'
      have e1:(execOp a.eval oi).run C.P w= .ok (.value (Yq C.P T cs)) w:=by
       unfold execOp;simp only[hop,hx,Instr.loadAt,Instr.sureAddr,Sem.run_bind,Sem.run_pure,Result.andThen_ok,h1]
      have e2:(execOp a.eval oi).run C.P w'= .ok (.value (Yq C.P T cs)) w':=by
       unfold execOp;simp only[hop,hx,Instr.loadAt,Instr.sureAddr,Sem.run_bind,Sem.run_pure,Result.andThen_ok,h2]
      rw[e1]at hrun;simp only[Result.ok.injEq,Next.value.injEq,and_true]at hrun;rw[e2,hrun]
     split at hst
     .rename_i k off hx;rw[hx]at hev;split at hst
      .rename_i p T' cs hown;split at hst
       .rename_i ht hle;have hle:=Nat.le_of_ble_eq_true hle;obtain⟨b,vs,hι,hh,hdc⟩:=rV hM hown;obtain⟨b',hb',hpt⟩:=hev;rw[hι]at hb';simp only[Value.pointer.injEq,Option.some.injEq,Addr.mk.injEq]at hb';obtain⟨rfl, -, -⟩:=hb';have hh':=hk.cells k p T' cs b hown ht hι;rw[hh]at hh';have hvs:cs.length=vs.toList.length:=hdc.length;refine gen b off ((vs.toList.drop off).take (C.P.cellsOf T)) hpt (by simp at hvs⊢;omega) (λj u hu=>?_) (λj u hu=>?_)
        .rw[cell_of_heap hh];exact uC hu
        .rw[cell_of_heap hh'];exact uC hu
       .exact hst.elim
      .exact hst.elim
     .rename_i b off d hx hd;rw[hx]at hev;have hev:a.eval x= .pointer (some ⟨b,off,none⟩):=hev;split at hst
      .rename_i cs hcs;split at hst
       .rename_i l hl;split at hst
        .rename_i hlen;split at hst
         .rename_i hgr;have hc:=Bo hM.wrel hst.1;refine gen b off l hev (Nat.eq_of_beq_eq_true hlen) hc (λj u hu=>?_);have h1:=hc j u hu;cases hgr2:xA oj.op with
          |false=>
           rw[hgr2,Bool.false_or]at hgr;obtain⟨τ,hwτ,h2⟩:=hpost hgr;unfold Fm at h2;simp only[hop,hx,hd,hcs,hl,hgr2]at h2;exact Bo hwτ h2.1 j u hu
          |true=>
          have hgr:=hgr2;rw[<-h1];exact World.cell?_of_block (w:=w) (w':=w') (a:=⟨b,off+j,none⟩) (hk.ext hgr b (World.block_lt_of_cell? w ⟨b,off+j,none⟩ h1))
         .refine gen b off l hev (Nat.eq_of_beq_eq_true hlen) (λj u hu=>hM.wrel.hsat _ _ _ (hst.1.rd j u hu)) (λj u hu=>hk.imm _ _ _ (hst.1.rd j u hu))
        .exact hst.elim
       .exact hst.elim
      .exact hst.elim
     .rename_i k i sz off d hx hd;rw[hx]at hev;split at hst
      .rename_i E' s xs cs hown hcs;split at hst
       .rename_i l hl hs hap;have hs:=Nat.eq_of_beq_eq_true hs;subst hs;split at hst
        .rename_i hlen;obtain⟨e,he,hel⟩:=hst.1;obtain⟨hrows,hrow⟩:=oR hM hown;obtain⟨b,n,c,hι,hp⟩:=hev
         have blkSame:∀b,blk (ι k)=some b->w'.heap[b]? =w.heap[b]? :=by
          intro b hb;have hlt:=nQ (hM.own k _ hown) hb;unfold Ow at hap;rw[Bool.or_eq_true]at hap;rcases hap with hap|hap
          .exact hk.ext hap b hlt
          .split at hap
           .rename_i l hl;refine hk.args l b hl hlt (hM.fresh k _ b hown hb).2.1 ?_;exact zM hM hown hb hap
           .cases hap
         have hrow':w'.ownsRow 0 E' s (ι k) xs.length xs.flatten:=((hM.own k _ hown).world (λb hb=>blkSame b hb)).2
         have rd:∀w1:World,w1.ownsRow 0 E' s (ι k) xs.length xs.flatten->∀j u,l[j]? =some u->w1.cell? ⟨b,i*s+off+j,none⟩=some u:=by
          intro w1 h1 j u hu;rw[<-hel]at hu;have hv':=uC hu;have hf:=lW hrows.len he _ _ hv';have:=h1.cells (g:=b) (by rw[hι];rfl) _ _ hf;rw[Addr.add_none]at this;rw[<-this];congr 1;simp only[Addr.mk.injEq,and_true,true_and];omega
         exact gen b (i*s+off) l hp (Nat.eq_of_beq_eq_true hlen) (rd w hrow) (rd w' hrow')
        .exact hst.elim
       .exact hst.elim
      .exact hst.elim
     .exact hst.elim
   .rename_i src dst x hop;have hev:=hM.ev x;split at hst
    .rename_i k d hx hd;rw[hx]at hev;have hev:a.eval x=ι k:=hev;split at hst
     .rename_i E' sz xs s hown hs;split at hst
      .rename_i E hsrc hdst;split at hst
       .rename_i hE;split at hst
        .rename_i hap;have hxs:=hst.1;obtain⟨hrows,hrow⟩:=oR hM hown;have hbl:xs=bM s.data.toList:=hxs
         have blkSame:∀b,blk (ι k)=some b->w'.heap[b]? =w.heap[b]? :=by
          intro b hb;have hlt:=nQ (hM.own k _ hown) hb;unfold Ow at hap;rw[Bool.or_eq_true]at hap;rcases hap with hap|hap
          .exact hk.ext hap b hlt
          .split at hap
           .rename_i l hl;refine hk.args l b hl hlt (hM.fresh k _ b hown hb).2.1 ?_;exact zM hM hown hb hap
           .cases hap
         have hrow':w'.ownsRow 0 E' sz (ι k) xs.length xs.flatten:=((hM.own k _ hown).world (λb hb=>blkSame b hb)).2
         have go:∀w1:World,w1.ownsRow 0 E' sz (ι k) xs.length xs.flatten->(execOp a.eval oi).run C.P w1= .ok (.value (.string ⟨s.data.toList.toArray⟩)) w1:=by
          intro w1 h1;subst hbl;exact Cn hop hsrc hE hdst hev h1
         rw[go w hrow]at hrun;rw[go w' hrow'];simp only[Result.ok.injEq,Next.value.injEq,and_true]at hrun;rw[hrun]
        .exact hst.elim
       .exact hst.elim
      .exact hst.elim
     .exact hst.elim
    .exact hst.elim
   .exact hst.elim
  .exact .inr hy
theorem Nj{g:Nat->Prop}:∀{l:List Nat},XM g l->∀j∈l,g j
 |[],_,j,hj=>by cases hj
 |[i],h,j,hj=>by simp at hj;subst hj;exact h
 |i::k::r,h,j,hj=>by
  rcases List.mem_cons.1 hj with rfl|hj
  .exact h.1
  .exact Nj h.2 j hj
theorem Cd{ops:Array Oper}:∀{l:List Nat}{i:Nat}{o:Oper},DY ops l=some (i,o)->i∈l/\ops[i]? =some o/\Cb o.op=true
 |[],i,o,h=>by simp[DY]at h
 |k::r,i,o,h=>by
  simp only[DY]at h;split at h
  .rename_i ok hok;split at h
   .rename_i hr;simp only[Option.some.injEq,Prod.mk.injEq]at h;obtain⟨rfl,rfl⟩:=h;rw[iD,Array.getElem?_toList]at hok;exact⟨List.mem_cons_self,hok,hr⟩
   .obtain⟨h1,h2⟩:=Cd h;exact⟨List.mem_cons_of_mem _ h1,h2⟩
  .obtain⟨h1,h2⟩:=Cd h;exact⟨List.mem_cons_of_mem _ h1,h2⟩
def qN(ops:Array Oper)(L:Array Bool):Nat:=((List.range ops.size).filter λi=> !L.getD i false).length
theorem Ff{ops:Array Oper}{L:Array Bool}{i:Nat}(hsz:L.size=ops.size)(hi:i<ops.size)(hL:L.getD i false=false):qN ops (L.setIfInBounds i true)+1=qN ops L:=by
 unfold qN
 have key:∀(l:List Nat),l.Nodup->(l.filter λj=> !(L.setIfInBounds i true).getD j false).length+(if i∈l then 1 else 0)=(l.filter λj=> !L.getD j false).length:=by
  intro l
  induction l with
  |nil=>intro _;simp
  |cons j r ih=>
   intro hnd;have hnd':=List.nodup_cons.1 hnd;have:=ih hnd'.2;by_cases e:i=j
   .subst e;have h1:(L.setIfInBounds i true).getD i false=true:=qP aC;have h2:i∉r:=hnd'.1;simp only[List.filter_cons,h1,hL,Bool.not_true,Bool.not_false,if_true,Bool.false_eq_true,if_false,List.length_cons,List.mem_cons_self];simp only[h2,if_false]at this;omega
   .have h1:(L.setIfInBounds i true).getD j false=L.getD j false:=getD_set_ne false e;have h2:(i∈j::r)↔i∈r:=by simp[e]
    simp only[List.filter_cons,h1];split
    .simp only[List.length_cons,h2];omega
    .simp only[h2];exact this
 have:=key (List.range ops.size) List.nodup_range;rw[if_pos (List.mem_range.2 hi)]at this;exact this
theorem HT{ops:Array Oper}{L:Array Bool}(hs:ZT ops)(hsz:L.size=ops.size)(h:Region.ready .any ops L=[]):∀i,i<ops.size->L.getD i false=true:=by
 intro i
 induction i using Nat.strongRecOn with
 |_ i ih=>
  intro hi;cases hL:L.getD i false with
  |true=>rfl
  |false=>
   exfalso;have ho:ops[i]? =some ops[i]:=Array.getElem?_eq_getElem hi
   have:i∈Region.ready .any ops L:=by
    rw[rU];refine⟨?_,_,ho,λk hk=>ih k (hs.topo i _ k ho hk) (Nat.lt_trans (hs.topo i _ k ho hk) hi)⟩;have hiL:i<L.size:=by omega
    simp[Array.getD,hiL]at hL⊢
    exact hL
   rw[h]at this;cases this
theorem AX{ops:Array Oper}{L:Array Bool}(h:∀i,i<ops.size->L.getD i false=true):Region.ready .any ops L=[]:=by
 cases hr:Region.ready .any ops L with
 |nil=>rfl
 |cons i r=>
  exfalso;have:i∈Region.ready .any ops L:=by rw[hr];exact List.mem_cons_self
  obtain⟨h1,o,ho,_⟩:=rU.1 this;have hi:=(Array.getElem?_eq_some_iff.1 ho).1;have:=h i hi;rw[(JB h1).1]at this;cases this
theorem Nl.eq_of_all{P:Program}{ops:Array Oper}{L Cl:Array Bool}{ar ac:Act}(h:Nl P ops L Cl ar ac w)(hall:∀i,i<ops.size->L.getD i false=true):ar=ac:=by
 have ht:ar.tmps=ac.tmps:=by
  apply Array.ext_getElem?;intro t;refine h.agree t (λi o ho _ hL=>?_);have:=hall i (Array.getElem?_eq_some_iff.1 ho).1;rw[hL]at this;cases this
 have hd:=h.df;cases ar;cases ac;simp at ht hd;rw[ht,hd]
theorem Wh{ops:Array Oper}{R:St->Prop}{n:Nat}{Cl:Array Bool}(h:Ay C ops n Cl σ R)(hr:Region.ready .any ops Cl=[]):R σ:=by
 cases n<;>simp only[Ay,hr]at h<;>exact h
theorem Rc{ops:Array Oper}{listed:Array Bool}{σ:St}{oj:Oper}{τ:St}{K:Prop}(h:GI C ops listed σ oj τ K):
 (Tu C=true->∀(i:Nat)(oi:Oper),ops.toList[i]? =some oi->listed.getD (0+i) false=true->Cb oi.op=true->waits oj (0+i)=false->vW ops σ oi=false->Fm σ oj oi τ True)/\K:=by
 unfold GI at h;split at h
 .rename_i e;obtain⟨h1,h2⟩:=H7 _ 0 h;exact⟨λ_=>h2,h1⟩
 .rename_i e;refine⟨λe2=>?_,h⟩;rw[e]at e2;cases e2
theorem Ni(hspecs:∀g S,assoc C.specs g=some S->Sound C.P g S){ops:Array Oper}(hs:ZT ops){Q:Exit->Act->World->Prop}{R:St->Prop}(hQ:∀ι σ a w,aI B ι σ a w->R σ->Q .normal a w)
 (hQp:∀c a w,¬Q (.panic c) a w):
 ∀(n:Nat)(fuel:Nat)(Cl:Array Bool)(ι:Nat->Value)(σ:St)(ac:Act)(w:World),aI B ι σ ac w->Ay C ops n Cl σ R->∀(L:Array Bool)(ar:Act),Nl C.P ops L Cl ar ac w->qN ops L=fuel->
  wpAny C.P .any ops Q fuel L ar w:=by
 have fin:∀(n:Nat)(Cl:Array Bool)(ι:Nat->Value)(σ:St)(ac:Act)(w:World),aI B ι σ ac w->Ay C ops n Cl σ R->∀(L:Array Bool)(ar:Act),Nl C.P ops L Cl ar ac w->Region.ready .any ops L=[]->Q .normal ar w:=by
  intro n Cl ι σ ac w hM h L ar sim hr;have hall:=HT hs sim.szL hr;rw[sim.eq_of_all hall];exact hQ ι σ ac w hM (Wh h (AX (λi hi=>sim.sub i (hall i hi))))
 have zero:∀(n:Nat)(Cl:Array Bool)(ι:Nat->Value)(σ:St)(ac:Act)(w:World),aI B ι σ ac w->Ay C ops n Cl σ R->∀(L:Array Bool)(ar:Act),Nl C.P ops L Cl ar ac w->qN ops L=0->wpAny C.P .any ops Q 0 L ar w:=by
  intro n Cl ι σ ac w hM h L ar sim hf
  have hall:∀i,i<ops.size->L.getD i false=true:=by
   intro i hi;unfold qN at hf;have hnil:=List.eq_nil_of_length_eq_zero hf;cases hL:L.getD i false with
   |true=>rfl
   |false=>
    have:i∈(List.range ops.size).filter λi=> !L.getD i false:=List.mem_filter.2 ⟨List.mem_range.2 hi,by simp[hL]⟩;rw[hnil]at this;cases this
  have hr:=AX hall;exact⟨hr,fin n Cl ι σ ac w hM h L ar sim hr⟩
 have stepP:∀(n fuel:Nat),(∀(Cl:Array Bool)(ι:Nat->Value)(σ:St)(ac:Act)(w:World),aI B ι σ ac w->Ay C ops n Cl σ R->∀(L:Array Bool)(ar:Act),Nl C.P ops L Cl ar ac w->qN ops L=fuel->wpAny C.P .any ops Q fuel L ar w)->
  ∀(Cl:Array Bool)(ι:Nat->Value)(σ:St)(ac:Act)(w:World),aI B ι σ ac w->Ay C ops n Cl σ R->∀(L:Array Bool)(ar:Act),Nl C.P ops L Cl ar ac w->qN ops L=fuel+1->
   ∀i∈Region.ready .any ops L,Cl.getD i false=true->wpOp C.P ops Q i (wpAny C.P .any ops Q fuel (L.setIfInBounds i true)) ar w:=by
  intro n fuel ih Cl ι σ ac w hM h L ar sim hf i hi hC;obtain⟨hun,o,ho,hw⟩:=rU.1 hi;obtain⟨hL,hlt⟩:=JB hun;obtain⟨v,hv,hlv,hpv⟩:=sim.pend i o ho hC hL
  have hy:Yd C.P ops w o v ar:=by
   rcases hs.look i o ho with hst|hlo
   .obtain⟨he,hwe⟩:=EY (hs.sel i o · · ho) (sim.looks hst hw);exact(hv hst w (.inr rfl)).congr he hwe
   .exact hlv hlo w
  have hnext:wpAny C.P .any ops Q fuel (L.setIfInBounds i true) (ar.put o.dst v) w:=
   ih Cl ι σ ac w hM h _ _ (sim.stepA hs ho hC hw hpv) (by have:=Ff sim.szL (by have:=sim.szL;omega) hL;omega)
  unfold wpOp;simp only[ho];rcases hy with⟨hwt,hrun⟩|⟨hwt,rfl⟩
  .rw[if_pos hwt];left;unfold Oper.wp;rw[hrun,Oper.upon_value];exact hnext
  .rw[if_neg (by simp[hwt])];exact hnext
 intro n
 induction n with
 |zero=>
  intro fuel
  induction fuel with
  |zero=>exact zero 0
  |succ fuel ihf=>
   intro Cl ι σ ac w hM h L ar sim hf;refine⟨fin 0 Cl ι σ ac w hM h L ar sim,λi hi=>?_⟩;cases hC:Cl.getD i false with
   |true=>exact stepP 0 fuel ihf Cl ι σ ac w hM h L ar sim hf i hi hC
   |false=>
    exfalso;obtain⟨hun,o,ho,hw⟩:=rU.1 hi
    have hiC:i∈Region.ready .any ops Cl:=by
     rw[rU];refine⟨?_,o,ho,λk hk=>sim.sub k (hw k hk)⟩;have:i<Cl.size:=by rw[sim.szC];exact(Array.getElem?_eq_some_iff.1 ho).1
     simp[Array.getD,this]at hC⊢
     exact hC
    simp only[Ay]at h;split at h
    .rename_i hr;rw[hr]at hiC;cases hiC
    .exact h
 |succ n ihn=>
  intro fuel
  induction fuel with
  |zero=>exact zero (n+1)
  |succ fuel ihf=>
   intro Cl ι σ ac w hM h L ar sim hf;refine⟨fin (n+1) Cl ι σ ac w hM h L ar sim,λi hi=>?_⟩;cases hC:Cl.getD i false with
   |true=>exact stepP (n+1) fuel ihf Cl ι σ ac w hM h L ar sim hf i hi hC
   |false=>
    obtain⟨hun,o,ho,hw⟩:=rU.1 hi;obtain⟨hLi,hlt⟩:=JB hun
    have hiC:i∈Region.ready .any ops Cl:=by
     rw[rU];refine⟨?_,o,ho,λk hk=>sim.sub k (hw k hk)⟩;have:i<Cl.size:=by rw[sim.szC];exact(Array.getElem?_eq_some_iff.1 ho).1
     simp[Array.getD,this]at hC⊢
     exact hC
    simp only[Ay]at h;split at h
    .rename_i hr;rw[hr]at hiC;cases hiC
    .split at h
     ·
      rename_i k ok hfr;obtain⟨hkr,hok,hkrd⟩:=Cd hfr;obtain⟨hkun,ok',hok',hkw⟩:=rU.1 hkr;rw[hok]at hok';cases hok';obtain⟨hkC,hklt⟩:=JB hkun;obtain⟨σ1,hM1,hfz,hc⟩:=Au hM h;rcases hc with⟨hwt,h⟩|⟨hwt,h⟩
      .obtain⟨v,x,hrun,hx,hK⟩:=WE hM1 hkrd h;have hsim:=sim.take hs hok hkC hkw hkrd (v:=v) (λw'' hw''=>.inl ⟨hwt,hrun w'' hw''⟩);exact(ihn (fuel+1) _ ι _ _ w (hM1.put ok.dst hx) hK L ar hsim hf).2 i hi
      .have hsim:=sim.take hs hok hkC hkw hkrd (v:=undef) (λw'' _=>.inr ⟨hwt,rfl⟩);exact(ihn (fuel+1) _ ι _ _ w (hM1.put ok.dst (x:=.at (.val undef)) rfl) h L ar hsim hf).2 i hi
     ·
      have hg:=Nj h i hiC;split at hg
      .rename_i o' ho';rw[iD,Array.getElem?_toList,ho]at ho';cases ho';obtain⟨hg,hstab⟩:=JQ _ 0 hg;obtain⟨he,hwe⟩:=EY (hs.sel i o · · ho) ((hs.look i o ho).elim (sim.looks · hw) (sim.looks' · hC));have hgw:=PL hspecs hM hg (λa' w'=>∃ι' σ',aI B ι' σ' a' w'/\GI C ops Cl σ o σ' (Ay C ops n (Cl.setIfInBounds i true) σ' R)/\E8 σ ι o w w') Q (λι' σ' a' w' h1 h2 h3=>⟨ι',σ',h1,h2,h3⟩)
       have hB:∀(u:Value)(w':World),(∃ι' σ',aI B ι' σ' (ac.put o.dst u) w'/\GI C ops Cl σ o σ' (Ay C ops n (Cl.setIfInBounds i true) σ' R)/\E8 σ ι o w w')->
        wpAny C.P .any ops Q fuel (L.setIfInBounds i true) (ar.put o.dst u) w':=by
        rintro u w' ⟨ι',σ',hM',h',hk'⟩;obtain⟨hpo,h'⟩:=Rc h';refine ihn fuel _ ι' σ' _ w' hM' h' _ _ (sim.stepB hs ho hC hw u w' ?_) (by have:=Ff sim.szL (by have:=sim.szL;omega) hLi;omega);intro j oj v hj hCj hLj hy;cases hun':vW ops σ oj with
        |true=>
         have:=Oa hM hun';rcases hy with⟨h1,_⟩|h1
         .rw[this]at h1;cases h1
         .exact .inl (.inr h1)
        |false=>
         have hnw:waits o j=false:=by
          cases hwj:waits o j with
          |false=>rfl
          |true=>rw[hw j hwj]at hLj;cases hLj
         have hst:=hstab j oj (by rw[Array.getElem?_toList];exact hj) (by simpa using hCj) (sim.rd j oj hj hCj hLj) (by simpa using hnw) hun';exact Yo hM hk' hst (λe=>⟨σ',hM'.wrel,hpo e j oj (by rw[Array.getElem?_toList];exact hj) (by simpa using hCj) (sim.rd j oj hj hCj hLj) (by simpa using hnw) hun'⟩) hy
       unfold GWp at hgw;unfold wpOp;simp only[ho];rw[hwe];split
       .rename_i hwt;rw[if_pos hwt]at hgw;left;refine OX he hgw hB ?_ hQp;rintro d w' ⟨ι',σ',hM',_⟩;have:=hM'.defers;rw[<-hM.defers]at this;cases hd:o.dst<;>simp[Act.put,hd]at this
       .rename_i hwt;rw[if_neg hwt]at hgw;exact hB undef w hgw
      .exact hg.elim
end
end Go.Vc
namespace Go.Vc
open Go
section
variable{B:nS}{C:Ctx}{ι:Nat->Value}{σ:St}{a:Act}{w:World}
theorem vV:∀{xs ys:List SV}{vs:List Value}{K:Prop},Ao xs ys K->DenS ι xs vs->DenS ι ys vs/\K
 |[],[],vs,K,h,hd=>⟨hd,h⟩
 |x::xs,y::ys,[],K,_,hd=>hd.elim
 |x::xs,y::ys,v::vs,K,h,hd=>by
  unfold Ao at h;split at h
  .rename_i h1 h2;cases h1
  .rename_i x' xs' ys' h1 h2;simp only[List.cons.injEq]at h1 h2;obtain⟨rfl,rfl⟩:=h1;obtain⟨rfl,rfl⟩:=h2;have:=vV h hd.2;exact⟨⟨trivial,this.1⟩,this.2⟩
  .rename_i x' xs' y' ys' _ h1 h2;simp only[List.cons.injEq]at h1 h2;obtain⟨rfl,rfl⟩:=h1;obtain⟨rfl,rfl⟩:=h2;obtain⟨rfl,h⟩:=h;have:=vV h hd.2;exact⟨⟨hd.1,this.1⟩,this.2⟩
  .exact h.elim
 |[],_::_,_,K,h,_=>by simp[Ao]at h
 |_::_,[],_,K,h,_=>by simp[Ao]at h
theorem tJ:∀{xs ys:List (Option Own)}{K:Prop},tK xs ys K->(∀k o,nth ys k=some (some o)->nth xs k=some (some o))/\K
 |[],[],K,h=>⟨λk o hk=>by simp[nth]at hk,h⟩
 |x::xs,none::ys,K,h=>by
  simp only[tK]at h;obtain⟨h1,h2⟩:=tJ h;refine⟨λk o hk=>?_,h2⟩;cases k with
  |zero=>simp[nth]at hk
  |succ k=>exact h1 k o hk
 |x::xs,some y::ys,K,h=>by
  simp only[tK]at h;obtain⟨rfl,h⟩:=h;obtain⟨h1,h2⟩:=tJ h;refine⟨λk o hk=>?_,h2⟩;cases k with
  |zero=>exact hk
  |succ k=>exact h1 k o hk
 |[],_::_,K,h=>by simp[tK]at h
 |_::_,[],K,h=>by simp[tK]at h
theorem aI.setSlot(hM:aI B ι σ a w){i:Nat}{x:SV}{v:Value}(hv:a.tmps[i]? =some v)(hx:Den ι x v):aI B ι (σ.put (some i) x) a w:=by
 refine⟨?_,hM.defers,hM.own,hM.dist,hM.fresh,hM.wrel,hM.one⟩;have:=hM.slots.set i hx;show DenS ι (σ.sl.set i x) a.tmps.toList
 have e:a.tmps.toList.set i v=a.tmps.toList:=by
  apply List.ext_getElem?;intro j;rw[List.getElem?_set];split
  .rename_i hj;subst hj;rw[Array.getElem?_toList,hv];split
   .rfl
   .rename_i hlt;simp at hlt;rw[Array.getElem?_eq_none hlt]at hv;cases hv
  .rfl
 rw[e]at this;exact this
theorem aI.nilList(hM:aI B ι σ a w)(k E sz:Nat):aI B (upd ι k (.slice none 0 0)) ((σ.kill k).setOwn k (some (.lst E sz []))) a w:=by
 refine hM.place k _ _ (A8.refl _ _) ⟨EE sz,World.ownsRow_nil w 0 E sz⟩ rfl (λb hb=>by simp[blk]at hb)
theorem qB(τ:St):∀(ys:List SV)(i:Nat)(ι:Nat->Value)(σ:St),aI B ι σ a w->∃ι',aI B ι' (Oo τ ys i σ) a w
 |[],i,ι,σ,hM=>⟨ι,hM⟩
 |y::ys,i,ι,σ,hM=>by
  simp only[Oo];split
  .rename_i k;split
   .rename_i hs;split
    .rename_i E sz xs hτ hσ
     have hv:a.tmps[i]? =some (.slice none 0 0):=by
      rw[iD]at hs;obtain⟨v,hv,hd⟩:=hM.slots.get i _ hs;rw[Array.getElem?_toList]at hv;have hd:v= .slice none 0 0:=hd;rw[hv,hd]
     exact qB τ ys (i+1) _ _ ((hM.nilList k E sz).setSlot hv (x:=.at (.lst k)) (by show _=_;simp))
    .exact qB τ ys (i+1) ι σ hM
   .exact qB τ ys (i+1) ι σ hM
  .exact qB τ ys (i+1) ι σ hM
theorem lO(τ:St)(q:Nat):∀(ys:List At)(j:Nat)(ι:Nat->Value)(σ:St),aI B ι σ a w->∃ι',aI B ι' (Eg τ q ys j σ) a w
 |[],j,ι,σ,hM=>⟨ι,hM⟩
 |y::ys,j,ι,σ,hM=>by
  simp only[Eg];split
  .rename_i k;split
   .rename_i p T cs hq;split
    .rename_i hj;split
     .rename_i E sz xs hτ hσ;have hqk:q≠k:=λe=>by subst e;rw[hσ]at hq;cases hq
      have h1:=hM.nilList k E sz
      have hq1:nth ((σ.kill k).setOwn k (some (.lst E sz []))).own q=some (some (.cellsP p T (cs.map (At.sub k (λ_=>.junk))))):=by
       simp only[Jz,St.setOwn,St.sub,u7,xG,hqk,false_and,if_false,hq];rfl
      obtain⟨b,vs,hι,hh,hd⟩:=rV h1 hq1
      have hvj:vs.toList[j]? =some (.slice none 0 0):=by
       obtain⟨b0,vs0,hι0,hh0,hd0⟩:=rV hM hq;rw[iD]at hj;obtain⟨v,hv,hdv⟩:=hd0.get j _ hj;have hdv:v= .slice none 0 0:=hdv;rw[mN _ _ hqk,hι0]at hι;simp only[Value.pointer.injEq,Option.some.injEq,Addr.mk.injEq]at hι;obtain⟨rfl, -, -⟩:=hι;rw[hh0]at hh;simp only[Option.some.injEq,Obj.cells.injEq]at hh;rw[<-hh.1,hv,hdv]
      have hset:vs.toList.set j (.slice none 0 0)=vs.toList:=by
       apply List.ext_getElem?;intro t;rw[List.getElem?_set];split
       .rename_i e;subst e;rw[hvj];split
        .rfl
        .rename_i hlt;rw[List.getElem?_eq_none (Nat.le_of_not_lt hlt)]at hvj;cases hvj
       .rfl
      have h2:aI B (upd ι k (.slice none 0 0)) (EC ((σ.kill k).setOwn k (some (.lst E sz []))) q j (.lst k)) a w:=by
       unfold EC;rw[hq1];refine h1.rewrite hq1 (A8.refl _ _) ⟨b,vs,hι,hh,?_,λq' e=>by subst e;have:=TV h1 hq1;rw[hι]at this;simpa using this⟩;have:=hd.set j (x:=.lst k) (v:=.slice none 0 0) (by show _=_;simp)
       rwa [hset]at this
      exact lO τ q ys (j+1) _ _ h2
     .exact lO τ q ys (j+1) ι σ hM
    .exact lO τ q ys (j+1) ι σ hM
   .exact lO τ q ys (j+1) ι σ hM
  .exact lO τ q ys (j+1) ι σ hM
theorem vY(τ:St):∀(ys:List (Option Own))(q:Nat)(ι:Nat->Value)(σ:St),aI B ι σ a w->∃ι',aI B ι' (JE τ ys q σ) a w
 |[],q,ι,σ,hM=>⟨ι,hM⟩
 |y::ys,q,ι,σ,hM=>by
  simp only[JE];split
  .rename_i T cs;obtain⟨ι',hM'⟩:=lO τ q cs 0 ι σ hM;exact vY τ ys (q+1) ι' _ hM'
  .exact vY τ ys (q+1) ι σ hM
theorem jY{τ:St}{K:Prop}(hM:aI B ι σ a w)(h:tI σ τ K):∃ι',aI B ι' τ a w/\K:=by
 obtain⟨ι1,hM1⟩:=qB τ τ.sl 0 ι σ hM;obtain⟨ι2,hM2⟩:=vY τ τ.own 0 ι1 _ hM1;have hM2:aI B ι2 (conv σ τ) a w:=hM2;unfold tI at h;obtain⟨hsl,h⟩:=vV h hM2.slots;obtain⟨hown,hm,hh,hK⟩:=tJ h;refine⟨ι2,⟨hsl,hM2.defers,λk o hk=>hM2.own k o (hown k o hk),λk k' o o' b hk hk' hb hb'=>hM2.dist k k' o o' b (hown k o hk) (hown k' o' hk') hb hb',?_,?_,hM2.one⟩,hK⟩
 .intro k o b hk hb;rw[<-hm, <-hh];exact hM2.fresh k o b (hown k o hk) hb
 .rw[<-hm, <-hh];exact hM2.wrel
theorem aI.froze(hM:aI B ι σ a w){m2:MH}{h2:PH}(hF:UN σ.m σ.h m2 h2):aI B ι {σ with m:=m2,h:=h2} a w:=by
 have hw:=hM.wrel;refine⟨hM.slots,hM.defers,hM.own,hM.dist,λk o b hk hb=>?_,?_,hM.one⟩
 .obtain⟨f1,f2,f3⟩:=hM.fresh k o b hk hb;refine⟨f1,?_,λi=>?_⟩
  .show m2 b=none;cases e2:m2 b with
   |none=>rfl
   |some o=>rw[hF.sub b o e2]at f2;cases f2
  .show h2 b i=none;cases e2:h2 b i with
   |none=>rfl
   |some v=>
    rcases hF.new b i v e2 with h3|⟨cs,E,fz,h3,_,_⟩
    .rw[f3 i]at h3;cases h3
    .rw[f2]at h3;cases h3
 .refine⟨hw.tape,hw.os,hw.output,hw.drawn,hw.size,hw.frame,λb o v e=>?_,λb o e=>hw.msat b o (hF.sub b o e),λb o e i=>?_,λb o v e=>hF.le.le b o v (hw.hle b o v e),λb h1 h2'=>?_,λb o e=>hw.mfr b o (hF.sub b o e)⟩
  .rcases hF.new b o v e with h3|⟨cs,E,fz,h3,h4,_⟩
   .exact hw.hsat b o v h3
   .rw[cell_of_heap (hw.msat b _ h3),Array.getElem?_toList];exact h4
  .show h2 b i=none;have e:m2 b=some o:=e;cases e2:h2 b i with
   |none=>rfl
   |some v=>
    rcases hF.new b i v e2 with h3|⟨cs,E,fz,h3,h4,h5⟩
    .rw[hw.disj b o (hF.sub b o e) i]at h3;cases h3
    .rw[h5]at e;cases e
  .funext i;have e:=congrFun (hw.hold b h1 h2') i;show h2 b i=B.h0 b i;cases e2:B.h0 b i with
   |some v=>exact hF.le.le b i v (hw.hle b i v e2)
   |none=>
    cases e3:h2 b i with
    |none=>rfl
    |some v=>
     rcases hF.new b i v e3 with h3|⟨cs,E,fz,h3,h4,h5⟩
     .rw[e,e2]at h3;cases h3
     .rcases hw.mfr b _ h3 with h6|h6
      .omega
      .exact(h2' h6).elim
theorem Gd{τ:St}{K:Prop}(hM:aI B ι σ a w)(h:N5 σ τ K):∃ι',aI B ι' τ a w/\K:=by
 obtain⟨ι1,hM1⟩:=qB τ τ.sl 0 ι σ hM;obtain⟨ι2,hM2⟩:=vY τ τ.own 0 ι1 _ hM1;have hM2:aI B ι2 (conv σ τ) a w:=hM2;unfold N5 at h;obtain⟨hsl,h⟩:=vV h hM2.slots;obtain⟨hown,hF,hK⟩:=tJ h;have hM3:=hM2.froze hF;exact⟨ι2,⟨hsl,hM2.defers,λk o hk=>hM2.own k o (hown k o hk),λk k' o o' b hk hk' hb hb'=>hM2.dist k k' o o' b (hown k o hk) (hown k' o' hk') hb hb',λk o b hk hb=>hM3.fresh k o b (hown k o hk) hb,hM3.wrel,hM2.one⟩,hK⟩
theorem wB{c:qF}{R:c.A->Prop}(hM:aI B ι σ a w)(h:Fv c R σ):∃x ι',R x/\aI B ι' (c.st x) a w:=by
 unfold Fv at h;split at h
 .obtain⟨x,hx,hm⟩:=h;obtain⟨ι2,hM2,_⟩:=jY hM hm;exact⟨x,ι2,hx,hM2⟩
 .obtain⟨x,hx,hm⟩:=h ⟨hM.wrel.disj⟩;obtain⟨ι2,hM2,_⟩:=Gd hM hm;exact⟨x,ι2,hx,hM2⟩
theorem IE{c:qF}{I S:c.A->Prop}(hM:aI B ι σ a w)(h:Oy c I S σ):∃x ι',I x/\S x/\aI B ι' (c.st x) a w:=by
 unfold Oy at h;split at h
 .obtain⟨x,hx,hs,hm⟩:=h;obtain⟨ι2,hM2,_⟩:=jY hM hm;exact⟨x,ι2,hx,hs,hM2⟩
 .obtain⟨x,hx,hs,hm⟩:=h ⟨hM.wrel.disj⟩;obtain⟨ι2,hM2,_⟩:=Gd hM hm;exact⟨x,ι2,hx,hs,hM2⟩
def QD(B:nS)(Q:wK->St->Prop):Exit->Act->World->Prop
 |.normal,a,w=>∃ι σ,aI B ι σ a w/\Q .normal σ
 |.exit id,a,w=>∃ι σ,aI B ι σ a w/\Q (.exit id) σ
 |.ret,a,w=>∃ι σ,aI B ι σ a w/\Q .ret σ
 |_,_,_=>False
theorem GS(hspecs:∀g S,assoc C.specs g=some S->Sound C.P g S){ops:Array Oper}{Q:wK->St->Prop}:
 ∀(segs:List (Nat×qF))(l:List Oper)(s:Nat)(ι:Nat->Value)(σ:St)(a:Act)(w:World),(∀j,l[j]? =ops.toList[s+j]?)->aI B ι σ a w->TQ C ops segs l σ (Q .normal)->wpOpsIn Fence.wide 0 C.P ops (QD B Q) (List.range' s l.length) a w
 |[],l,s,ι,σ,a,w,hl,hM,h=>by
  have:=ED hspecs (ops:=ops) (Q:=QD B Q) (R:=Q .normal) (rest:=[]) (λι σ a w hM h=>⟨ι,σ,hM,h⟩) l s ι σ a w (λj _=>hl j) hM h;simpa using this
 |(n,ann)::segs,l,s,ι,σ,a,w,hl,hM,h=>by
  obtain⟨I,h1,h2⟩:=h
  have:=ED hspecs (ops:=ops) (Q:=QD B Q) (R:=λτ=>∃x,I x/\tI τ (ann.st x) True) (rest:=List.range' (s+(l.take n).length) (l.drop n).length) (λι' σ' a' w' hM' hx=>by
   obtain⟨x,hx,hm⟩:=hx;obtain⟨ι2,hM2,_⟩:=jY hM' hm;refine GS hspecs segs (l.drop n) (s+(l.take n).length) ι2 _ a' w' (λj=>?_) hM2 (h2 x hx);rw[List.getElem?_drop,hl];by_cases hn:n<=l.length
   .congr 1;simp;omega
   .have e1:l[n+j]? =none:=List.getElem?_eq_none aC;have e2:l[l.length+j]? =none:=List.getElem?_eq_none aC;rw[hl]at e1 e2;rw[e1,show s+(List.take n l).length+j=s+(l.length+j)by simp;omega,e2]) (l.take n) s ι σ a w (λj hj=>by
    rw[<-hl,List.getElem?_take];rw[if_pos (by simp at hj;omega)]) hM h1
  rwa [List.range'_append_1, <-List.length_append,List.take_append_drop]at this
theorem Fc(hspecs:∀g S,assoc C.specs g=some S->Sound C.P g S):∀(c:Code)(σ:St)(Q:wK->St->Prop)(ι:Nat->Value)(a:Act)(w:World),aI B ι σ a w->VC C c σ Q->c.wp C.P (QD B Q) a w:=by
 intro c
 induction c with
 |skip=>intro σ Q ι a w hM h;exact wp_skip ⟨ι,σ,hM,h⟩
 |label l=>intro σ Q ι a w hM h;exact wp_label ⟨ι,σ,hM,h⟩
 |exit id=>intro σ Q ι a w hM h;exact wp_exit ⟨ι,σ,hM,h⟩
 |ret=>intro σ Q ι a w hM h;exact wp_ret ⟨ι,σ,hM,h⟩
 |goto l=>intro σ Q ι a w hM h;exact h.elim
 |refuse why=>intro σ Q ι a w hM h;exact h.elim
 |scope body ih=>intro σ Q ι a w hM h;exact h.elim
 |rangeFunc f ps x y ihx ihy=>intro σ Q ι a w hM h;exact h.elim
 |region id ops draw=>
  intro σ Q ι a w hM h;cases draw with
  |false=>
   refine(wpIn_wide (n:=0)).1 (wpIn_region ?_);have:=GS hspecs (ops:=ops) (Q:=Q) (GR C id) ops.toList 0 ι σ a w (λj=>by simp) hM h;rw[List.range_eq_range'];simpa using this
  |true=>
   simp only[VC]at h;split at h
   .rename_i h1 h2 h3;have hs:=Ww h1 h2;refine wp_region_any h3 ?_;refine Ni hspecs hs (Q:=QD B Q) (R:=Q .normal) (λι σ a w hM h=>⟨ι,σ,hM,h⟩) (λc a w h=>h) ops.size ops.size _ ι σ a _ (hM.drew (w.drawn+1) (Nat.le_succ _)) h _ a ?_ ?_
    .have hno:∀i,(Array.replicate ops.size false).getD i false=true->False:=by
      intro i hi;by_cases hlt:i<ops.size
      .simp[Array.getD,hlt]at hi
      .simp[Array.getD,hlt]at hi
     exact⟨by simp,by simp,λi hi=>hi,λi o _ hi=>(hno i hi).elim,λi o _ hi=>(hno i hi).elim,λi o _ hi=>(hno i hi).elim,rfl,rfl,λt _=>rfl,λi o _ hi=>(hno i hi).elim⟩
    .unfold qN;rw[List.filter_eq_self.2]
     .simp
     .intro i hi;by_cases hlt:i<ops.size<;>simp[Array.getD,hlt]
   .exact h.elim
 |seq x y ihx ihy=>
  intro σ Q ι a w hM h;simp only[VC]at h;split at h
  .obtain⟨h,hall⟩:=h;refine wp_seq (wp_mono (ihx σ _ ι a w hM h) ?_);intro e a' w' hq;cases e with
   |normal=>
    obtain⟨ι',σ',hM',x,hx,hm⟩:=hq;show y.wp C.P (QD B Q) a' w';obtain⟨ι2,hM2,_⟩:=jY hM' hm;exact ihy _ Q ι2 a' w' hM2 (hall x hx)
   |exit id=>exact hq
   |ret=>exact hq
   |goto l=>exact hq
   |panic ch=>exact hq
   |outgrown=>exact hq
  .split at h
   .obtain⟨I,h,hall⟩:=h;refine wp_seq (wp_mono (ihx σ _ ι a w hM h) ?_);intro e a' w' hq;cases e with
    |normal=>
     obtain⟨ι',σ',hM',hm⟩:=hq;show y.wp C.P (QD B Q) a' w';obtain⟨x,ι2,hx,hM2⟩:=wB hM' hm;exact ihy _ Q ι2 a' w' hM2 (hall x hx)
    |exit id=>exact hq
    |ret=>exact hq
    |goto l=>exact hq
    |panic ch=>exact hq
    |outgrown=>exact hq
   .refine wp_seq (wp_mono (ihx σ _ ι a w hM h) ?_);intro e a' w' hq;cases e with
    |normal=>
     obtain⟨ι',σ',hM',h'⟩:=hq;show y.wp C.P (QD B Q) a' w';exact ihy σ' Q ι' a' w' hM' h'
    |exit id=>exact hq
    |ret=>exact hq
    |goto l=>exact hq
    |panic ch=>exact hq
    |outgrown=>exact hq
 |cond c x y ihx ihy=>
  intro σ Q ι a w hM h;simp only[VC]at h;split at h
  .rename_i t hc;have hev:=hM.ev c;rw[hc]at hev;have hev:a.eval c= .bool t:=hev;rcases pN h with⟨rfl,h⟩|⟨rfl,h⟩
   .exact wp_cond_true hev (ihx _ Q ι a w (hM.setTmp hc) h)
   .exact wp_cond_false hev (ihy _ Q ι a w (hM.setTmp hc) h)
  .exact h.elim
 |block id c ih=>
  intro σ Q ι a w hM h;refine wp_block (wp_mono (ih σ _ ι a w hM h) ?_);intro e a' w' hq;cases e with
  |normal=>exact hq
  |exit i=>
   obtain⟨ι',σ',hM',h'⟩:=hq;show if i=id then _ else _
   simp only at h';split at h'
   .rename_i hb;rw[if_pos (Nat.eq_of_beq_eq_true hb)];exact⟨ι',σ',hM',h'⟩
   .rename_i hb;rw[if_neg (λe=>by subst e;simp at hb)];exact⟨ι',σ',hM',h'⟩
  |ret=>exact hq
  |goto l=>exact hq
  |panic ch=>exact hq
  |outgrown=>exact hq
 |loop c ih=>
  intro σ Q ι a w hM h;simp only[VC]at h;split at h
  .rename_i l hl;obtain⟨⟨x,hx,hm⟩,hall⟩:=h;obtain⟨ι2,hM2,_⟩:=jY hM hm;refine wp_loop_ghost (λn a w=>∃x ι,l.inv x/\l.mu x=n/\aI B ι (l.st x) a w) (l.mu x) ⟨x,ι2,hx,rfl,hM2⟩ ?_;rintro n a' w' ⟨x',ι',hx',rfl,hM'⟩;refine wp_mono (ih _ _ ι' a' w' hM' (hall x' hx')) ?_;intro e a'' w'' hq;cases e with
   |normal=>
    obtain⟨ι3,σ3,hM3,y,hy,hlt,hmy⟩:=hq;obtain⟨ι4,hM4,_⟩:=jY hM3 hmy;exact⟨l.mu y,hlt,y,ι4,hy,rfl,hM4⟩
   |exit id=>exact hq
   |ret=>exact hq
   |goto l=>exact hq
   |panic ch=>exact hq
   |outgrown=>exact hq
  .split at h
   .rename_i l hl;obtain⟨I,mu,hm,hall⟩:=h;obtain⟨x,ι2,hx,hM2⟩:=wB hM hm;refine wp_loop_ghost (λn a w=>∃x ι,I x/\mu x=n/\aI B ι (l.st x) a w) (mu x) ⟨x,ι2,hx,rfl,hM2⟩ ?_;rintro n a' w' ⟨x',ι',hx',rfl,hM'⟩;refine wp_mono (ih _ _ ι' a' w' hM' (hall x' hx')) ?_;intro e a'' w'' hq;cases e with
    |normal=>
     obtain⟨ι3,σ3,hM3,hmy⟩:=hq;obtain⟨y,ι4,hy,hlt,hM4⟩:=IE hM3 hmy;exact⟨mu y,hlt,y,ι4,hy,rfl,hM4⟩
    |exit id=>exact hq
    |ret=>exact hq
    |goto l=>exact hq
    |panic ch=>exact hq
    |outgrown=>exact hq
   .exact h.elim
end
end Go.Vc
namespace Go.Vc
open Go
section
variable{B:nS}{C:Ctx}{ι:Nat->Value}{σ:St}{a:Act}{w:World}
def Hg(tmps:Array Value):ResultVar->Sem Value
 |.tmp t=>pure (tmps.getD t undef)
 |.cell a t=>do loadVar t (<-asAddr (tmps.getD a undef))
theorem J2(fn:Func)(tmps:Array Value):results fn tmps=(do let vs <-fn.results.mapM (Hg tmps);pure (if h:vs.size=1 then vs[0]else .tuple vs)):=by
 unfold results;congr 1
theorem Pk(hM:aI B ι σ a w){r:ResultVar}{x:SV}(h:TT C σ r=some x):∃v,(Hg a.tmps r).run C.P w= .ok v w/\Den ι x v:=by
 cases r with
 |tmp t=>
  simp only[TT,Option.some.injEq]at h;subst h;exact⟨_,rfl,hM.ev (.tmp t)⟩
 |cell ad T=>
  have hev:=hM.ev (.tmp ad);simp only[TT]at h;split at h
  .rename_i k off hx;rw[hx]at hev;split at h
   .rename_i p T' cs hk;split at h
    .rename_i hle hT;have hle:=Nat.le_of_ble_eq_true hle;simp only[Option.some.injEq]at h;subst h;obtain⟨b,vs,hι,hh,hd⟩:=rV hM hk;obtain⟨b',hb',hp⟩:=hev;rw[hι]at hb';simp only[Value.pointer.injEq,Option.some.injEq,Addr.mk.injEq]at hb';obtain⟨rfl, -, -⟩:=hb';have hd':=(hd.drop off).take (C.P.cellsOf T);have hvs:cs.length=vs.toList.length:=hd.length;have hl:=wA (w:=w) (b:=b) (off:=off) (cs:=(vs.toList.drop off).take (C.P.cellsOf T)) hT (by simp at hvs⊢;omega) (λj v hv=>by rw[cell_of_heap hh];exact uC hv);refine⟨_,?_,E0 hd'⟩;have hp':a.tmps.getD ad undef= .pointer (some ⟨b,off,none⟩):=hp;simp only[Hg,hp',asAddr,Sem.run_bind,Sem.run_pure,Result.andThen_ok,hl]
    .cases h
   .cases h
  .cases h
theorem Fu(hM:aI B ι σ a w):∀(l:List ResultVar)(xs:List SV),EF C σ l=some xs->∃vs,(l.mapM (Hg a.tmps)).run C.P w= .ok vs w/\DenS ι xs vs
 |[],xs,h=>by
  simp[EF]at h;subst h;exact⟨[],by simp,trivial⟩
 |r::l,xs,h=>by
  simp only[EF]at h;split at h
  .rename_i x xs' hx hxs;simp only[Option.some.injEq]at h;subst h;obtain⟨v,hv,hd⟩:=Pk hM hx;obtain⟨vs,hvs,hds⟩:=Fu hM l xs' hxs;exact⟨v::vs,by simp[List.mapM_cons,hv,hvs],hd,hds⟩
  .cases h
theorem tQ(hM:aI B ι σ a w){mv:Bool}:∀(xs:List SV)(ts:List TypeId)(rs:List CV)(vs:List Value),A6 C.P σ mv xs ts=some rs->DenS ι xs vs->
 rs.length=vs.length/\(mv=false->rs=vs.map .val)/\∀(i:Nat)(r:CV)(v:Value),rs[i]? =some r->vs[i]? =some v->Be w r v/\∀b,fM r v=some b->∃k ow,nth σ.own k=some (some ow)/\blk (ι k)=some b
 |[],ts,rs,[],h,_=>by
  simp[A6]at h;subst h;exact⟨rfl,λ_=>rfl,λi r v hr=>by simp at hr⟩
 |[],_,_,_::_,_,hd=>hd.elim
 |x::xs,_,_,[],_,hd=>hd.elim
 |x::xs,ts,rs,v::vs,h,hd=>by
  simp only[A6]at h;split at h
  .cases h
  .rename_i l hl;obtain⟨ih1,ih2,ih3⟩:=tQ hM xs ts.tail l vs hl hd.2
   have fin:∀(c0:CV),rs=c0::l->(mv=false->c0= .val v)->Be w c0 v->(∀b,fM c0 v=some b->∃k ow,nth σ.own k=some (some ow)/\blk (ι k)=some b)->
    rs.length=(v::vs).length/\(mv=false->rs=(v::vs).map .val)/\∀(i:Nat)(r:CV)(u:Value),rs[i]? =some r->(v::vs)[i]? =some u->Be w r u/\∀b,fM r u=some b->∃k ow,nth σ.own k=some (some ow)/\blk (ι k)=some b:=by
    intro c0 hrs h1 h2 h3;subst hrs;refine⟨by simp[ih1],λhm=>by rw[h1 hm,ih2 hm];rfl,λi r u hr hu=>?_⟩;cases i with
    |zero=>simp at hr hu;subst hr hu;exact⟨h2,h3⟩
    |succ i=>simp only[List.getElem?_cons_succ]at hr hu;exact ih3 i r u hr hu
   split at h
   .split at h
    .rename_i k;have hv:v=ι k:=hd.1;split at h
     .rename_i E sz ys hk;simp only[Option.some.injEq]at h;obtain⟨hr,ho⟩:=oR hM hk;exact fin _ h.symm (λe=>by cases e) ⟨hr,by rw[hv];exact ho⟩ (λb hb=>⟨k,_,hk,by rw[<-hv];exact hb⟩)
     .cases h
    .have hv:v= .slice none 0 0:=hd.1;split at h
     .rename_i E z hE;simp only[Option.some.injEq]at h;refine fin _ h.symm (λe=>by cases e) ⟨EE _,by rw[hv];exact World.ownsRow_nil w 0 E _⟩ (λb hb=>?_);rw[hv]at hb;simp[fM,blk]at hb
     .cases h
    .cases h
   .split at h
    .rename_i u hu;simp only[Option.some.injEq]at h;have hv:=(hd.1).val? hu;exact fin _ h.symm (λ_=>by rw[hv]) hv (λb hb=>by simp[fM]at hb)
    .cases h
theorem Dn(hM:aI B ι σ a w){fn:Func}{K:CV->MH->PH->Prop}(h:AV C fn K σ):
 ∃u,(results fn a.tmps).run C.P w= .ok u w/\∃r m' h',K r m' h'/\Be w r u/\tR B m' h' w/\∀b,fM r u=some b->(B.w0.heap.size<=b\/B.E b)/\m' b=none/\∀i,h' b i=none:=by
 unfold AV at h;split at h
 .exact h.elim
 .rename_i xs hxs;obtain⟨τ',hMτ',h,_⟩:=lV _ _ hM h;obtain⟨τ,hMτ,h,_⟩:=uQ _ _ hMτ' h;split at h
  .exact h.elim
  .rename_i ys hys;obtain⟨vs,hvs,hds⟩:=Fu hMτ _ _ hys
   have hres:(results fn a.tmps).run C.P w= .ok (if h:vs.toArray.size=1 then vs.toArray[0]else .tuple vs.toArray) w:=by
    rw[J2,Array.mapM_eq_mapM_toList];simp[hvs]
   have blocks:∀(rs:List CV)(r:CV)(v:Value),A6 C.P τ C.retMove ys fn.resultTypes.toList=some rs->(∃i:Nat,rs[i]? =some r/\vs[i]? =some v)->Be w r v/\∀b,fM r v=some b->(B.w0.heap.size<=b\/B.E b)/\τ.m b=none/\∀i,τ.h b i=none:=by
    rintro rs r v hrs ⟨i,hr,hv⟩;obtain⟨_,_,h3⟩:=tQ hMτ _ _ _ _ hrs hds;obtain⟨h4,h5⟩:=h3 i r v hr hv;refine⟨h4,λb hb=>?_⟩;obtain⟨k,ow,hk,hbk⟩:=h5 b hb;exact hMτ.fresh k ow b hk hbk
   split at h
   .rename_i r hr;obtain⟨hlen,_,_⟩:=tQ hMτ _ _ _ _ hr hds;simp at hlen
    obtain⟨v,rfl⟩:∃v,vs=[v]:=by
     match vs,hlen with
     |[v],_=>exact⟨v,rfl⟩
    obtain⟨h4,h5⟩:=blocks _ r v hr ⟨0,rfl,rfl⟩;refine⟨v,by simpa using hres,r,τ.m,τ.h,h,h4,hMτ.wrel,h5⟩
   .rename_i rs hne hrs;split at h
    .exact h.elim
    .rename_i hmv;obtain⟨hlen,hval,_⟩:=tQ hMτ _ _ _ _ hrs hds
     have hnl:vs.length≠1:=by
      intro e;rw[e]at hlen
      match rs,hlen with
      |[r],_=>exact hne r rfl
     refine⟨.tuple vs.toArray,by rw[hres,dif_neg (by simpa using hnl)],.tup rs,τ.m,τ.h,h,⟨vs.toArray,rfl,by simpa using hval hmv⟩,hMτ.wrel,λb hb=>by simp[fM]at hb⟩
   .exact h.elim
def Io(n:Nat)(cvs:List CV)(vs:List Value)(k:Nat):Value:=
 match cvs[k-n]?,vs[k-n]? with
 |some (.lst _ _ _),some v=>v
 |_,_=>.slice none 0 0
theorem nR{w:World}:∀{cvs:List CV}{vs:List Value},AR w cvs vs->cvs.length=vs.length/\∀(i:Nat)(c:CV)(v:Value),cvs[i]? =some c->vs[i]? =some v->Be w c v
 |[],[],_=>⟨rfl,λi c v h=>by simp at h⟩
 |c::cs,v::vs,h=>by
  obtain⟨h1,h2⟩:=nR h.2;refine⟨by simp[h1],λi c' v' hc hv=>?_⟩;cases i with
  |zero=>simp at hc hv;subst hc hv;exact h.1
  |succ i=>simp at hc hv;exact h2 i c' v' hc hv
 |[],_::_,h=>h.elim
 |_::_,[],h=>h.elim
theorem Ix{n:Nat}{all:List CV}{avs:List Value}{w:World}:∀(i:Nat)(cvs:List CV)(vs:List Value),AR w cvs vs->(∀j:Nat,cvs[j]? =all[i+j]?)->(∀j:Nat,vs[j]? =avs[i+j]?)->
 DenS (Io n all avs) (Ef n i cvs) vs
 |i,[],[],_,_,_=>trivial
 |i,c::cvs,v::vs,h,h1,h2=>by
  have ih:=Ix (n:=n) (all:=all) (avs:=avs) (i+1) cvs vs h.2 (λj=>by have:=h1 (j+1);simp only[List.getElem?_cons_succ]at this;rw[this];congr 1;omega) (λj=>by have:=h2 (j+1);simp only[List.getElem?_cons_succ]at this;rw[this];congr 1;omega);cases c with
  |val u=>exact⟨h.1,ih⟩
  |lst E sz xs=>
   refine⟨?_,ih⟩;show v=Io n all avs (n+i);have e1:=h1 0;have e2:=h2 0;simp at e1 e2;unfold Io;rw[show n+i-n=i by omega, <-e1, <-e2]
  |tup rs=>exact⟨trivial,ih⟩
 |i,[],_::_,h,_,_=>h.elim
 |i,_::_,[],h,_,_=>h.elim
theorem Gu:∀(cvs:List CV)(k:Nat)(o:Own),nth (wF cvs) k=some (some o)->∃E sz xs,cvs[k]? =some (.lst E sz xs)/\o= .lst E sz xs
 |[],k,o,h=>by simp[wF,nth]at h
 |c::cvs,0,o,h=>by
  cases c<;>simp[wF,nth]at h;rename_i E sz xs;exact⟨E,sz,xs,rfl,h.symm⟩
 |c::cvs,k+1,o,h=>by
  have:nth (wF cvs) k=some (some o):=by cases c<;>simpa[wF,nth]using h
  obtain⟨E,sz,xs,h1,h2⟩:=Gu cvs k o this;exact⟨E,sz,xs,by simpa using h1,h2⟩
theorem Nb{ι:Nat->Value}:∀(n:Nat)(vs:List Value),vs.length=n->DenS ι (List.replicate n (.at .junk)) vs
 |0,[],_=>trivial
 |n+1,v::vs,h=>⟨trivial,Nb n vs (by simpa using h)⟩
 |0,_::_,h=>by simp at h
 |_+1,[],h=>by simp at h
theorem DenS.append{ι:Nat->Value}:∀{xs xs':List SV}{vs vs':List Value},DenS ι xs vs->DenS ι xs' vs'->DenS ι (xs++xs') (vs++vs')
 |[],_,[],_,_,h'=>by simpa using h'
 |_::_,_,_::_,_,h,h'=>⟨h.1,DenS.append h.2 h'⟩
 |[],_,_::_,_,h,_=>h.elim
 |_::_,_,[],_,h,_=>h.elim
theorem Cg{w:World}{m:MH}{h:PH}{cvs:List CV}{vs:List Value}(n:Nat)(hp:v8 w m h cvs vs):
 aI ⟨w,pT m cvs vs,h,[]⟩ (Io n cvs vs) (entry n cvs m h) {tmps:=vs.toArray++Array.replicate (n-vs.toArray.size) undef,defers:=[]} w:=by
 obtain⟨hlen,hget⟩:=nR hp.args
 have hown:∀k o,nth (entry n cvs m h).own k=some (some o)->n<=k/\∃E sz xs,cvs[k-n]? =some (.lst E sz xs)/\o= .lst E sz xs/\∃v,vs[k-n]? =some v/\Io n cvs vs k=v/\Be w (.lst E sz xs) v:=by
  intro k o hk;simp only[entry]at hk;rw[iD]at hk;by_cases hkn:k<n
  .rw[List.getElem?_append_left (by simpa using hkn)]at hk;simp[hkn]at hk
  .rw[List.getElem?_append_right (by simpa using Nat.le_of_not_lt hkn)]at hk;simp only[List.length_replicate]at hk;rw[<-iD]at hk;obtain⟨E,sz,xs,h1,h2⟩:=Gu cvs (k-n) o hk
   have hlt:k-n<vs.length:=by
    rw[<-hlen];exact(List.getElem?_eq_some_iff.1 h1).1
   have hv:vs[k-n]? =some vs[k-n]:=List.getElem?_eq_getElem hlt;refine⟨aC,E,sz,xs,h1,h2,_,hv,?_,hget _ _ _ h1 hv⟩;unfold Io;rw[h1,hv]
 refine⟨?_,rfl,?_,?_,?_,?_,?_⟩
 .have h1:=Ix (n:=n) (all:=cvs) (avs:=vs) 0 cvs vs hp.args (λj=>by simp) (λj=>by simp);show DenS _ (Ef n 0 cvs++List.replicate (n-cvs.length) (.at .junk)) _;have:(vs.toArray++Array.replicate (n-vs.toArray.size) undef).toList=vs++List.replicate (n-vs.length) undef:=by simp
  rw[this];exact h1.append (Nb _ _ (by simp[hlen]))
 .intro k o hk;obtain⟨hkn,E,sz,xs,h1,rfl,v,hv,hι,hok⟩:=hown k o hk;rw[hι];exact hok
 .intro k k' o o' b hk hk' hb hb';obtain⟨hkn,E,sz,xs,h1,rfl,v,hv,hι,hok⟩:=hown k o hk;obtain⟨hkn',E',sz',xs',h1',rfl,v',hv',hι',hok'⟩:=hown k' o' hk';rw[hι]at hb;rw[hι']at hb';have:=hp.sep (k-n) (k'-n) _ _ v v' b h1 hv h1' hv' hb hb';omega
 .intro k o b hk hb;obtain⟨hkn,E,sz,xs,h1,rfl,v,hv,hι,hok⟩:=hown k o hk;rw[hι]at hb;obtain⟨f1,f2⟩:=hp.free (k-n) _ v b h1 hv hb;exact⟨.inr (.inr ⟨k-n,_,v,h1,hv,hb⟩),f1,f2⟩
 .refine⟨rfl,rfl,rfl,Nat.le_refl _,Nat.le_refl _,λ_ _ _=>rfl,hp.hsat,hp.msat,hp.disj,λ_ _ _ h=>h,λ_ _ _=>rfl,λb ob hb=>.inr (.inl (by have hb:m b=some ob:=hb;rw[hb];simp))⟩
 .intro k;unfold Io;split
  .rename_i E sz xs v h1 h2;exact Ic (hget _ _ _ h1 h2).2
  .rfl
theorem fA{P:Program}{f:FuncId}{fn:Func}{c:Code}(hf:P.funcs[f]? =some fn)(hb:fn.body=some c)(hname:(fn.name== "runtime.NumGoroutine")=false){S:Spec}
 (hvc:∀cvs m h K,S cvs m h K->∃C:Ctx,C.P=P/\(∀g S,assoc C.specs g=some S->Sound P g S)/\zJ C fn c (entry fn.ntmps cvs m h) K):Sound P f S:=by
 refine⟨⟨fn,hf,by rw[hb];rfl,hname⟩,?_⟩;intro cvs vs m h w K hS hp;obtain⟨C,rfl,hspecs,hv⟩:=hvc cvs m h K hS;refine calls_of_wp hf hb ?_;refine wp_mono (Fc hspecs c _ _ _ _ w (Cg fn.ntmps hp) hv) ?_;intro e a' w' hq
 have key:(∃ι σ,aI ⟨w,pT m cvs vs,h,[]⟩ ι σ a' w'/\AV C fn K σ)->a'.defers=[]/\∃v,(results fn a'.tmps).run C.P w'= .ok v w'/\∃r u m' h',Ending.returned v= .returned u/\K r m' h'/\Be w' r u/\tR ⟨w,pT m cvs vs,h,[]⟩ m' h' w'/\
  ∀b,fM r u=some b->(w.heap.size<=b\/pT m cvs vs b)/\m' b=none/\∀i,h' b i=none:=by
  rintro⟨ι,σ,hM,hr⟩;obtain⟨u,hu,r,m',h',h1,h2,h3,h4⟩:=Dn hM hr;exact⟨hM.defers,u,hu,r,u,m',h',rfl,h1,h2,h3,h4⟩
 cases e with
 |normal=>exact key hq
 |ret=>exact key hq
 |exit id=>obtain⟨_,_,_,h⟩:=hq;exact h.elim
 |goto l=>exact hq.elim
 |panic ch=>exact hq.elim
 |outgrown=>exact hq.elim
theorem Vh{P:Program}{f:FuncId}{fn:Func}{c:Code}(hf:P.funcs[f]? =some fn)(hb:fn.body=some c)(hname:(fn.name== "runtime.NumGoroutine")=false){S:Spec}
 (hvc:∀cvs m h K,S cvs m h K->∃C:Ctx,C.P=P/\(∀g S,assoc C.specs g=some S->Sound P g S)/\zJ C fn c (entry fn.ntmps cvs m h) (λr m' h'=>∃m2 h2,(∀b o,m2 b=some o->m' b=some o)/\PH.le h h2/\PH.le h2 h'/\K r m2 h2)):Sound P f S:=by
 have h0:=fA hf hb hname (S:=λcvs m h K=>∃K',S cvs m h K'/\K=λr m' h'=>∃m2 h2,(∀b o,m2 b=some o->m' b=some o)/\PH.le h h2/\PH.le h2 h'/\K' r m2 h2) (by
  rintro cvs m h K ⟨K',hS,rfl⟩;exact hvc cvs m h K' hS)
 refine⟨h0.1,λcvs vs m h w K hS hp=>?_⟩;refine(h0.2 cvs vs m h w _ ⟨K,hS,rfl⟩ hp).mono ?_;rintro e w' ⟨r,u,m',h',he,⟨m2,h2,k1,k2,k3,hK⟩,hok,hw,hfr⟩
 have hnone:∀b i,h' b i=none->h2 b i=none:=by
  intro b i e;cases e2:h2 b i with
  |none=>rfl
  |some v=>rw[k3.le b i v e2]at e;cases e
 refine⟨r,u,m2,h2,he,hK,hok,?_,λb hb=>?_⟩
 .refine⟨hw.tape,hw.os,hw.output,hw.drawn,hw.size,hw.frame,λb o v e=>hw.hsat b o v (k3.le b o v e),λb o e=>hw.msat b o (k1 b o e),λb o e i=>hnone b i (hw.disj b o (k1 b o e) i),k2.le,λb h1 h2'=>?_,λb o e=>hw.mfr b o (k1 b o e)⟩;funext i;have e:=congrFun (hw.hold b h1 h2') i;show h2 b i=h b i;cases e2:h b i with
  |some v=>exact(k2.le b i v e2)
  |none=>exact hnone b i (by rw[e];exact e2)
 .obtain⟨f1,f2,f3⟩:=hfr b hb;refine⟨f1,?_,λi=>hnone b i (f3 i)⟩;cases e2:m2 b with
  |none=>rfl
  |some o=>rw[k1 b o e2]at f2;cases f2
def dQ(h:PH)(K:CV->MH->PH->Prop):CV->MH->PH->Prop:=λr m' h'=>(∀b o,m' b=some o->∀i,h' b i=none)->∃m2 h2,(∀b o,m2 b=some o->m' b=some o)/\PH.le h h2/\
 (∀b i v,h2 b i=some v->h' b i=some v\/∃cs E fz,m' b=some (.cells cs E fz)/\cs[i]? =some v/\m2 b=none)/\K r m2 h2
theorem Sound.strong{P:Program}{f:FuncId}{S:Spec}(h0:Sound P f (λcvs m h K=>∃K',S cvs m h K'/\K=dQ h K')):Sound P f S:=by
 refine⟨h0.1,λcvs vs m h w K hS hp=>?_⟩;refine(h0.2 cvs vs m h w _ ⟨K,hS,rfl⟩ hp).mono ?_;rintro e w' ⟨r,u,m',h',he,hStr,hok,hw,hfr⟩;obtain⟨m2,h2,k1,k2,k3,hK⟩:=hStr hw.disj;refine⟨r,u,m2,h2,he,hK,hok,?_,λb hb=>?_⟩
 .refine⟨hw.tape,hw.os,hw.output,hw.drawn,hw.size,hw.frame,λb o v e=>?_,λb o e=>hw.msat b o (k1 b o e),λb o e i=>?_,k2.le,λb h1 h2'=>?_,λb o e=>hw.mfr b o (k1 b o e)⟩
  .rcases k3 b o v e with h3|⟨cs,E,fz,h3,h4,_⟩
   .exact hw.hsat b o v h3
   .rw[cell_of_heap (hw.msat b _ h3),Array.getElem?_toList];exact h4
  .cases e2:h2 b i with
   |none=>rfl
   |some v=>
    rcases k3 b i v e2 with h3|⟨cs,E,fz,h3,h4,h5⟩
    .rw[hw.disj b o (k1 b o e) i]at h3;cases h3
    .rw[h5]at e;cases e
  .funext i;have e:=congrFun (hw.hold b h1 h2') i;show h2 b i=h b i;cases e2:h b i with
   |some v=>exact(k2.le b i v e2)
   |none=>
    cases e3:h2 b i with
    |none=>rfl
    |some v=>
     rcases k3 b i v e3 with h3|⟨cs,E,fz,h3,h4,h5⟩
     .rw[e]at h3;have:h b i=some v:=h3;rw[e2]at this;cases this
     .rcases hw.mfr b _ h3 with h6|h6
      .have h6:w.heap.size<=b:=h6;have h1:b<w.heap.size:=h1;omega
      .exact(h2' h6).elim
 .obtain⟨f1,f2,f3⟩:=hfr b hb;refine⟨f1,?_,λi=>?_⟩
  .cases e2:m2 b with
   |none=>rfl
   |some o=>rw[k1 b o e2]at f2;cases f2
  .cases e2:h2 b i with
   |none=>rfl
   |some v=>
    rcases k3 b i v e2 with h3|⟨cs,E,fz,h3,_,_⟩
    .rw[f3 i]at h3;cases h3
    .rw[f2]at h3;cases h3
theorem Vg{P:Program}{f:FuncId}{fn:Func}{c:Code}(hf:P.funcs[f]? =some fn)(hb:fn.body=some c)(hname:(fn.name== "runtime.NumGoroutine")=false){S:Spec}
 (hvc:∀cvs m h K,S cvs m h K->∃C:Ctx,C.P=P/\(∀g S,assoc C.specs g=some S->Sound P g S)/\zJ C fn c (entry fn.ntmps cvs m h) (dQ h K)):Sound P f S:=
 .strong (fA hf hb hname (S:=λcvs m h K=>∃K',S cvs m h K'/\K=dQ h K') (by
  rintro cvs m h K ⟨K',hS,rfl⟩;exact hvc cvs m h K' hS))
end
end Go.Vc
namespace Go.Vc
open Go
theorem aB{c:Bool}{A B:Prop}(h1:c=true->A)(h2:c=false->B):branch c A B:=by
 cases c
 .exact h2 rfl
 .exact h1 rfl
theorem aE{p:Prop}[Decidable p]{A B:Prop}(h1:p->A)(h2:¬p->B):branch (decide p) A B:=
 aB (λh=>h1 (of_decide_eq_true h)) (λh=>h2 (of_decide_eq_false h))
theorem dX{n:Int}(h1: -9223372036854775808<=n)(h2:n<9223372036854775808):IntKind.i64.wrap n=n:=by
 rw[IntKind.wrap_i64];omega
theorem aM.of_m{m:MH}{h:PH}{b off:Nat}{cs:Array Value}{E:TypeId}{fz:Nat×Nat}{l:List Value}(hm:m b=some (.cells cs E fz))(hl:(cs.toList.drop off).take l.length=l):aM m h b off l:=.lent cs E fz hm hl
end Go.Vc
namespace Go.Ps
open Go Go.Vc Go.Proofs
variable{K:CV->MH->PH->Prop}{m:MH}{h:PH}{ps:List Int}{cb:Nat}{l:List Int}{i:Nat}{N:Nat}{m':MH}{h':PH}{co:List Int}{gr:List Int}{od:List (Int×Bool)}{ta:Int}{li:Int}{xs:List (List Value)}{sz:Nat}{k:Nat}{ks:List (List Int)}{rs:List Int}{r:Sl}{a:List Int}{b:Nat}
structure VV where
 kind:Int
 int:Int
 text:ByteArray
structure OV where
 kind:Int
 index:Int
 value:VV
structure PV where
 op:Int
 cmp:Int
 left:OV
 right:OV
 args:Sl
structure QV where
 op:Int
 table:Int
 where_:PV
 columns:Sl
 on:Sl
 group:Sl
 order:Sl
 limit:Int
 args:Sl
variable{v:QV}
structure mZ where
 name:ByteArray
 kind:Int
structure Cw where
 columns:Sl
 table:Int
structure cC where
 name:ByteArray
 columns:Sl
 key:Int
 references:Sl
 checks:Sl
structure bH where
 version:Int
 tables:Sl
variable{sc:bH}
abbrev eW(n:Int):Value:=.int .i64 n
abbrev eR(s:Sl):Value:=.slice s.a s.len s.cap
abbrev tT:Value:=.slice none 0 0
abbrev TL:Value:=.string ⟨⟨[]⟩⟩
abbrev Yg(b o:Nat):Value:=.pointer (some ⟨b,o,none⟩)
abbrev hX(n:Int):At:=.val (.int .i64 n)
abbrev tZ(s:Sl):At:=.val (.slice s.a s.len s.cap)
abbrev OA:At:=.val (.slice none 0 0)
abbrev ZC:At:=.val (.string ⟨⟨[]⟩⟩)
abbrev gS(n:Int):SV:=.at (.val (.int .i64 n))
abbrev Yl(s:Sl):SV:=.at (.val (.slice s.a s.len s.cap))
abbrev sQn:SV:=.at (.val (.slice none 0 0))
abbrev sQp(b o:Nat):SV:=.at (.ptr b o)
abbrev Wy(b o:Nat):SV:=.at (.val (.pointer (some ⟨b,o,none⟩)))
abbrev sQb(b:Bool):SV:=.at (.val (.bool b))
abbrev sQl(k:Nat):SV:=.at (.lst k)
abbrev fK(n:Int):CV:=.val (.int .i64 n)
abbrev A7(b:Bool):CV:=.val (.bool b)
abbrev kU(s:Sl):CV:=.val (.slice s.a s.len s.cap)
abbrev Dc:CV:=.val (.slice none 0 0)
abbrev rX(b o:Nat):CV:=.val (.pointer (some ⟨b,o,none⟩))
abbrev jM(l:List Value):CV:=.val (.agg ⟨l⟩)
abbrev oQ(T:TypeId)(l:List At):Option Go.Vc.Own:=some (.cells T l)
abbrev eQ{α:Type}(x:α):Prop:=x=x
abbrev eP(k:Nat):Prop:=sQp k 0=sQp k 0
abbrev eL(k:Nat):Prop:=sQl k=sQl k
abbrev Oz(s:ByteArray):At:=.val (.string s)
abbrev zQ:List At:=[hX 0,hX 0,hX 0,hX 0,hX 0,hX 0,hX 0,hX 0,ZC,hX 0,hX 0,hX 0,hX 0,ZC,OA,OA,OA,OA,OA,hX 0,OA]
abbrev zP:List At:=[hX 0,hX 0,hX 0,hX 0,hX 0,hX 0,ZC,hX 0,hX 0,hX 0,hX 0,ZC,OA]
def eI(n:Int):List Value:=[.int .i64 n]
def eS(s:Sl):List Value:=[.slice s.a s.len s.cap]
def VV.enc(v:VV):List Value:=[.int .i64 v.kind,.int .i64 v.int,.string v.text]
def OV.enc(o:OV):List Value:=[.int .i64 o.kind,.int .i64 o.index,.int .i64 o.value.kind,.int .i64 o.value.int,.string o.value.text]
def PV.enc(p:PV):List Value:=
 [.int .i64 p.op,.int .i64 p.cmp,
  .int .i64 p.left.kind,.int .i64 p.left.index,.int .i64 p.left.value.kind,.int .i64 p.left.value.int,.string p.left.value.text,
  .int .i64 p.right.kind,.int .i64 p.right.index,.int .i64 p.right.value.kind,.int .i64 p.right.value.int,.string p.right.value.text,
  .slice p.args.a p.args.len p.args.cap]
def QV.enc(q:QV):List Value:=
 [.int .i64 q.op,.int .i64 q.table,
  .int .i64 q.where_.op,.int .i64 q.where_.cmp,
  .int .i64 q.where_.left.kind,.int .i64 q.where_.left.index,.int .i64 q.where_.left.value.kind,.int .i64 q.where_.left.value.int,.string q.where_.left.value.text,
  .int .i64 q.where_.right.kind,.int .i64 q.where_.right.index,.int .i64 q.where_.right.value.kind,.int .i64 q.where_.right.value.int,.string q.where_.right.value.text,
  .slice q.where_.args.a q.where_.args.len q.where_.args.cap,
  .slice q.columns.a q.columns.len q.columns.cap,.slice q.on.a q.on.len q.on.cap,.slice q.group.a q.group.len q.group.cap,.slice q.order.a q.order.len q.order.cap,
  .int .i64 q.limit,.slice q.args.a q.args.len q.args.cap]
def mZ.enc(c:mZ):List Value:=[.string c.name,.int .i64 c.kind]
def Cw.enc(r:Cw):List Value:=[.slice r.columns.a r.columns.len r.columns.cap,.int .i64 r.table]
def cC.enc(t:cC):List Value:=[.string t.name,.slice t.columns.a t.columns.len t.columns.cap,.int .i64 t.key,.slice t.references.a t.references.len t.references.cap,.slice t.checks.a t.checks.len t.checks.cap]
def bH.enc(s:bH):List Value:=[.int .i64 s.version,.slice s.tables.a s.tables.len s.tables.cap]
abbrev zV:List Value:=[eW 0,eW 0,eW 0,eW 0,eW 0,eW 0,eW 0,eW 0,TL,eW 0,eW 0,eW 0,eW 0,TL,tT,tT,tT,tT,tT,eW 0,tT]
abbrev pQ(p:PV)(r:List At):List At:=hX p.op::hX p.cmp::hX p.left.kind::hX p.left.index::hX p.left.value.kind::hX p.left.value.int::Oz p.left.value.text::hX p.right.kind::hX p.right.index::hX p.right.value.kind::hX p.right.value.int::Oz p.right.value.text::tZ p.args::r
abbrev qQ(q:QV)(x:At):List At:=hX q.op::hX q.table::pQ q.where_ [tZ q.columns,tZ q.on,tZ q.group,tZ q.order,hX q.limit,x]
def u0(p:Int×Int):List Value:=[.int .i64 p.1,.int .i64 p.2]
def Dm(p:Int×Bool):List Value:=[.int .i64 p.1,.bool p.2]
def dI:Z7:=⟨Int,eI⟩
def dS:Z7:=⟨Sl,eS⟩
def dB:Z7:=⟨Bool,λb=>[.bool b]⟩
def dU8:Z7:=⟨UInt8,λb=>[.int .u8 b.toNat]⟩
def anQ:Z7:=⟨ByteArray,λs=>[.string s]⟩
def XF:Option Nat->Value
 |none=>.nilFunc
 |some f=>.func (.func f) #[] #[]
def dF:Z7:=⟨Option Nat,λf=>[XF f]⟩
structure NV where
 s:bH
 params:Sl
 q:QV
 args:Sl
def NV.enc(n:NV):List Value:=n.s.enc++eS n.params++n.q.enc++eS n.args
def dec:TypeId->Z7:=λT=>match T with
 |2=>dI
 |3=>dI
 |4=>dB
 |5=>dU8
 |9=>anQ
 |54=>dI
 |22=>dS
 |23=>dS
 |25=>dS
 |30=>dS
 |33=>dS
 |34=>dS
 |35=>dS
 |36=>dS
 |41=>dS
 |53=>dS
 |74=>dS
 |83=>dS
 |84=>dS
 |133=>dS
 |43=>⟨bH,bH.enc⟩
 |27=>⟨VV,VV.enc⟩
 |29=>⟨OV,OV.enc⟩
 |32=>⟨PV,PV.enc⟩
 |38=>⟨QV,QV.enc⟩
 |86=>⟨cC,cC.enc⟩
 |69=>⟨Int×Int,u0⟩
 |72=>⟨Int×Bool,Dm⟩
 |105=>⟨mZ,mZ.enc⟩
 |118=>⟨Cw,Cw.enc⟩
 |152=>⟨NV,NV.enc⟩
 |153=>dF
 |229=>dF
 |158=>⟨Nat,λb=>[.func (.func 147) #[] #[.pointer (some ⟨b,0,none⟩)]]⟩
 |177=>⟨Nat,λb=>[.map (some b)]⟩
 |207=>⟨Nat,λb=>[.map (some b)]⟩
 |_=>⟨Unit,λ_=>[]⟩
def cQ(f:Func):Code:=match f.body with|some c=>c|none=>.skip
noncomputable def ctx(specs:List (Nat×Vc.Spec))(loops:List (Nat×JI))(cuts:List (Nat×TF))(moves:List (Nat×List Nat))(retMove:Bool):Ctx:=
 {P:=Tryz.prog,loops2:=[],cuts2:=[],rcuts:=[],heapT:=[],specs:=specs,dec:=dec,loops:=loops,cuts:=cuts,moves:=moves,retMove:=retMove,yield:=none}
noncomputable def dN(specs:List (Nat×Vc.Spec))(loops:List (Nat×qF))(cuts:List (Nat×qF))(moves:List (Nat×List Nat))(retMove:Bool):Ctx:=
 {P:=Tryz.prog,loops2:=loops,cuts2:=cuts,rcuts:=[],heapT:=[],specs:=specs,dec:=dec,loops:=[],cuts:=[],moves:=moves,retMove:=retMove,yield:=none}
noncomputable def anX(specs:List (Nat×Vc.Spec))(loops:List (Nat×qF))(cuts:List (Nat×qF))(rcuts:List (Nat×List (Nat×qF)))(moves:List (Nat×List Nat))(retMove:Bool):Ctx:=
 {P:=Tryz.prog,loops2:=loops,cuts2:=cuts,rcuts:=rcuts,heapT:=[],specs:=specs,dec:=dec,loops:=[],cuts:=[],moves:=moves,retMove:=retMove,yield:=none}
noncomputable def wH(specs:List (Nat×Vc.Spec))(loops:List (Nat×qF))(cuts:List (Nat×qF))(rcuts:List (Nat×List (Nat×qF)))(heapT:List TypeId)(moves:List (Nat×List Nat))(retMove:Bool):Ctx:=
 {P:=Tryz.prog,loops2:=loops,cuts2:=cuts,rcuts:=rcuts,heapT:=heapT,specs:=specs,dec:=dec,loops:=[],cuts:=[],moves:=moves,retMove:=retMove,yield:=none}
theorem aF:∀g S,assoc ([]:List (Nat×Vc.Spec)) g=some S->Sound Tryz.prog g S:=λg S h=>by simp[assoc]at h
theorem aD{g0:Nat}{S0:Vc.Spec}{r:List (Nat×Vc.Spec)}(h0:Sound Tryz.prog g0 S0)(hr:∀g S,assoc r g=some S->Sound Tryz.prog g S):∀g S,assoc ((g0,S0)::r) g=some S->Sound Tryz.prog g S:=by
 intro g S h;simp only[assoc]at h;split at h
 .rename_i hb;have:=Nat.eq_of_beq_eq_true hb;subst this;simp at h;subst h;exact h0
 .exact hr g S h
def Q6(n:Int):List UInt8->Int×List UInt8
 |[]=>(0,[])
 |b::r=>if n<1 then(0,b::r)else((b.toNat:Int)%n,r)
structure TH(m:MH)(h:PH)(cb:Nat)(r:List UInt8):Prop where
 ex:∃(s:Sl)(cs:List UInt8)(k:Nat),m cb=some (.cells #[.slice s.a s.len s.cap,.int .i64 k] 82 (0,0))/\cW h s 1 (bM cs)/\k<=cs.length/\cs.length<=1000/\r=cs.drop k
structure aL(m m':MH)(cb:Nat):Prop where
 other:∀b,b≠cb->m' b=m b
end Go.Ps
namespace Go.Vc
open Go
theorem PH.le.refl(h:PH):PH.le h h:=⟨λ_ _ _ e=>e⟩
theorem PH.le.trans{h h' h'':PH}(a:PH.le h h')(b:PH.le h' h''):PH.le h h'':=⟨λx y v e=>b.le x y v (a.le x y v e)⟩
theorem bF.mono{h h':PH}{b o:Nat}{l:List Value}(r:bF h b o l)(le:PH.le h h'):bF h' b o l:=⟨λi v e=>le.le _ _ _ (r.rd i v e)⟩
theorem cW.mono{h h':PH}{s:Sl}{sz:Nat}{xs:List (List Value)}(r:cW h s sz xs)(le:PH.le h h'):cW h' s sz xs:=
 ⟨r.len,r.row.imp id λ⟨b,o,e,k⟩=>⟨b,o,e,λi x hx=>(k i x hx).mono le⟩,r.cap⟩
theorem cW.get{h:PH}{s:Sl}{sz:Nat}{xs:List (List Value)}(r:cW h s sz xs){i:Nat}{e:List Value}(hi:xs[i]? =some e):
 ∃b o,s.a=some ⟨b,o,none⟩/\bF h b (o+i*sz) e:=by
 rcases r.row with rfl|⟨b,o,ha,k⟩
 .simp at hi
 .exact⟨b,o,ha,k i e hi⟩
theorem dW.blk{m:MH}{s:Sl}{E sz:Nat}{xs:List (List Value)}(h:dW m s E sz xs){b i:Nat}(e:s.a=some ⟨b,i,none⟩):∃cur,m b=some (.cells cur E (0,0)):=by
 rcases h.ex with⟨rfl,_⟩|⟨b',cap,cur,rfl,hm,_⟩
 .cases e
 .simp only[Option.some.injEq,Addr.mk.injEq]at e;rw[<-e.1];exact⟨cur,hm⟩
theorem dW.slen{m:MH}{s:Sl}{E sz:Nat}{xs:List (List Value)}(h:dW m s E sz xs):s.len=xs.length:=by
 rcases h.ex with⟨rfl,rfl⟩|⟨b',cap,cur,rfl,hm,_⟩<;>rfl
theorem dW.keep{m m':MH}{s:Sl}{E sz:Nat}{xs:List (List Value)}(h:dW m s E sz xs)(hk:∀b i,s.a=some ⟨b,i,none⟩->m' b=m b):dW m' s E sz xs:=by
 refine⟨h.rows,?_⟩;rcases h.ex with h1|⟨b,cap,cur,rfl,hm,h2⟩
 .exact .inl h1
 .exact .inr ⟨b,cap,cur,rfl,by rw[hk b 0 rfl];exact hm,h2⟩
theorem cW.nil(h:PH)(sz:Nat):cW h ⟨none,0,0⟩ sz []:=⟨rfl,.inl rfl,Nat.le_refl _⟩
end Go.Vc
namespace Go.Ps
open Go Go.Vc Go.Proofs
variable{K:CV->MH->PH->Prop}{m:MH}{h:PH}{ps:List Int}{cb:Nat}{sc:bH}{v:QV}{l:List Int}{i:Nat}{N:Nat}{m':MH}{h':PH}{co:List Int}{gr:List Int}{od:List (Int×Bool)}{ta:Int}{li:Int}{xs:List (List Value)}{sz:Nat}{k:Nat}{ks:List (List Int)}{rs:List Int}{r:Sl}{a:List Int}{b:Nat}
structure Ints(h:PH)(s:Sl)(l:List Int):Prop where
 row:cW h s 1 (l.map eI)
 len:l.length<=17592186044416
theorem Ints.mono{s:Sl}(r:Ints h s l)(le:PH.le h h'):Ints h' s l:=⟨r.row.mono le,r.len⟩
theorem Ints.slen{s:Sl}(r:Ints h s l):s.len=l.length:=by have:=r.row.len;simpa using this
structure mG(h:PH)(s:Sl)(l:List (Int×Int)):Prop where
 row:cW h s 2 (l.map u0)
 len:l.length<=8796093022208
theorem mG.mono{s:Sl}{l:List (Int×Int)}(r:mG h s l)(le:PH.le h h'):mG h' s l:=⟨r.row.mono le,r.len⟩
theorem mG.slen{s:Sl}{l:List (Int×Int)}(r:mG h s l):s.len=l.length:=by have:=r.row.len;simpa using this
structure jC(h:PH)(s:Sl)(l:List (Int×Bool)):Prop where
 row:cW h s 2 (l.map Dm)
 len:l.length<=8796093022208
theorem jC.mono{s:Sl}{l:List (Int×Bool)}(r:jC h s l)(le:PH.le h h'):jC h' s l:=⟨r.row.mono le,r.len⟩
theorem jC.slen{s:Sl}{l:List (Int×Bool)}(r:jC h s l):s.len=l.length:=by have:=r.row.len;simpa using this
inductive Pred where
 |mk (op cmp:Int) (left right:OV) (args:List Pred)
variable{p:Pred}{w:Pred}
mutual
def fF(h:PH):Pred->PV->Prop
 |.mk op cmp l r args,v=>v.op=op/\v.cmp=cmp/\v.left=l/\v.right=r/\args.length<=502633886983/\∃vs:List PV,cW h v.args 13 (vs.map PV.enc)/\uA h args vs
def uA(h:PH):List Pred->List PV->Prop
 |[],vs=>vs=[]
 |p::ps,vs=>∃v vs',vs=v::vs'/\fF h p v/\uA h ps vs'
end
mutual
theorem fF.mono{h h':PH}(le:PH.le h h'):∀{p:Pred}{v:PV},fF h p v->fF h' p v
 |.mk ..,_,⟨h1,h2,h3,h4,h5,vs,h6,h7⟩=>⟨h1,h2,h3,h4,h5,vs,h6.mono le,uA.mono le h7⟩
theorem uA.mono{h h':PH}(le:PH.le h h'):∀{ps:List Pred}{vs:List PV},uA h ps vs->uA h' ps vs
 |[],_,h=>h
 |_::_,_,⟨v,vs',h1,h2,h3⟩=>⟨v,vs',h1,fF.mono le h2,uA.mono le h3⟩
end
theorem uA.length{h:PH}:∀{ps:List Pred}{vs:List PV},uA h ps vs->vs.length=ps.length
 |[],_,h=>by rw[show _=[]from h];rfl
 |_::_,_,⟨_,_,h1,_,h3⟩=>by rw[h1];simp[uA.length h3]
theorem uA.get{h:PH}:∀{ps:List Pred}{vs:List PV},uA h ps vs->∀{i:Nat}{p:Pred},ps[i]? =some p->∃v,vs[i]? =some v/\fF h p v
 |[],_,_,i,p,e=>by simp at e
 |p0::ps,_,⟨v,vs',rfl,h2,h3⟩,0,p,e=>by simp at e;subst e;exact⟨v,rfl,h2⟩
 |p0::ps,_,⟨v,vs',rfl,h2,h3⟩,i+1,p,e=>by simp at e;simpa using uA.get h3 e
inductive Query where
 |mk (op table:Int) (wher:Pred) (columns:List Int) (on:List (Int×Int)) (group:List Int) (order:List (Int×Bool)) (limit:Int) (args:List Query)
variable{q:Query}
mutual
def dK(h:PH):Query->QV->Prop
 |.mk op table w columns on group order limit args,v=>v.op=op/\v.table=table/\fF h w v.where_/\Ints h v.columns columns/\mG h v.on on/\Ints h v.group group/\jC h v.order order/\v.limit=limit/\
  args.length<=502633886983/\∃vs:List QV,cW h v.args 21 (vs.map QV.enc)/\wL h args vs
def wL(h:PH):List Query->List QV->Prop
 |[],vs=>vs=[]
 |p::ps,vs=>∃v vs',vs=v::vs'/\dK h p v/\wL h ps vs'
end
mutual
theorem dK.mono{h h':PH}(le:PH.le h h'):∀{p:Query}{v:QV},dK h p v->dK h' p v
 |.mk ..,_,⟨h1,h2,h3,h4,h5,h6,h7,h8,h9,vs,h10,h11⟩=>⟨h1,h2,h3.mono le,h4.mono le,h5.mono le,h6.mono le,h7.mono le,h8,h9,vs,h10.mono le,wL.mono le h11⟩
theorem wL.mono{h h':PH}(le:PH.le h h'):∀{ps:List Query}{vs:List QV},wL h ps vs->wL h' ps vs
 |[],_,h=>h
 |_::_,_,⟨v,vs',h1,h2,h3⟩=>⟨v,vs',h1,dK.mono le h2,wL.mono le h3⟩
end
theorem wL.length{h:PH}:∀{ps:List Query}{vs:List QV},wL h ps vs->vs.length=ps.length
 |[],_,h=>by rw[show _=[]from h];rfl
 |_::_,_,⟨_,_,h1,_,h3⟩=>by rw[h1];simp[wL.length h3]
theorem wL.get{h:PH}:∀{ps:List Query}{vs:List QV},wL h ps vs->∀{i:Nat}{p:Query},ps[i]? =some p->∃v,vs[i]? =some v/\dK h p v
 |[],_,_,i,p,e=>by simp at e
 |p0::ps,_,⟨v,vs',rfl,h2,h3⟩,0,p,e=>by simp at e;subst e;exact⟨v,rfl,h2⟩
 |p0::ps,_,⟨v,vs',rfl,h2,h3⟩,i+1,p,e=>by simp at e;simpa using wL.get h3 e
def iv(n:Int):SV:=.at (.val (.int .i64 n))
def sv(s:Sl):SV:=.at (.val (.slice s.a s.len s.cap))
def bv(b:Bool):SV:=.at (.val (.bool b))
def vv(v:Value):SV:=.at (.val v)
def cS(s:Sl):CV:=.val (.slice s.a s.len s.cap)
def cI(n:Int):CV:=.val (.int .i64 n)
def cB(b:Bool):CV:=.val (.bool b)
def cP(b:Nat):CV:=.val (.pointer (some ⟨b,0,none⟩))
def CR(id:Nat)(st:Nat->St)(inv:Nat->Prop)(mu:Nat->Nat):Nat×JI:=(id,{A:=Nat,st:=st,inv:=inv,mu:=mu})
theorem jA(h:i<=140737488355328):IntKind.i64.wrap ((i:Int)+1)=((i+1:Nat):Int):=by
 rw[dX aC aC];rfl
theorem Ints.at{s:Sl}(r:Ints h s l){x:Int}(hi:l[i]? =some x):∃b o,s.a=some ⟨b,o,none⟩/\bF h b (o+i) [.int .i64 x]:=by
 obtain⟨b,o,h1,h2⟩:=r.row.get (i:=i) (e:=eI x) (by simp[hi]);exact⟨b,o,h1,by simpa[eI]using h2⟩
theorem MT{p:Prop}(h:p:=by repeat' (first|with_reducible rfl|exact trivial|refine⟨?_,?_⟩|rfl|(rw[jA aC];done)|(rw[jA aC]))):p:=h
def cT(k:Int):Bool:=k==3||k==4||k==5
def CM(t:ByteArray):Bool:=t.toList==[]
def kG(v:VV):Bool:=
 if v.kind==1||v.kind==2 then v.int==0&&CM v.text
 else if v.kind==3 then(v.int==0||v.int==1)&&CM v.text
 else if v.kind==4 then CM v.text
 else if v.kind==5 then v.int==0&&(v.text.size:Int)<=64
 else false
def mE(v:VV):Bool:=kG v&&v.kind>=3
def aV(v:VV):CV:=.val (.agg #[.int .i64 v.kind,.int .i64 v.int,.string v.text])
def X5:Vc.Spec:=λcvs m h K=>∃k,cvs=[cI k]/\K (cB (cT k)) m h
def Lc:Vc.Spec:=λcvs m h K=>∃v,cvs=[aV v]/\K (cB (kG v)) m h
def Np:Vc.Spec:=λcvs m h K=>∃v,cvs=[aV v]/\K (cB (mE v)) m h
def Lo:Vc.Spec:=λcvs m h K=>∃s l,cvs=[cS s]/\Ints h s l/\K (cB (l.all cT)) m h
noncomputable def YX(s:Sl)(l:List Int)(m:MH)(h:PH):Ctx:=
 ctx [(93,X5)] [CR 2 (λi=>cE 15 16 [(5,sv s),(6,iv s.len),(7,iv i)] [] m h) (λi=>i<=l.length/\(l.take i).all cT=true) (λi=>l.length-i)] [] [] false
noncomputable def Xp(s:Sl)(l:List Int)(m:MH)(h:PH):Ctx:=
 ctx [] [CR 2 (λi=>cE 22 23 [(5,sv s),(6,iv s.len),(7,iv i)] [] m h) (λi=>i<=l.length/\(l.take i).all cT=true) (λi=>l.length-i)] [] [] false
abbrev dH(a:Bool)(b:Prop)(c:Bool)(d e:Prop):Prop:=branch a b (branch c d e)
noncomputable abbrev gE:CV:=A7 true
attribute [push_cast] dH gE
def P0(k:Int)(m:MH)(h:PH)(K:CV->MH->PH->Prop):Prop:=
  dH (k==3) (K gE m h) (k==4) (K gE m h) (K (A7 (k==5)) m h)
abbrev eJ(a b:Int)(c d:Prop):Prop:=branch (a==b) c d
noncomputable abbrev Am(a:VV):List UInt8:=a.text.toList
abbrev DK(a:CV->MH->PH->Prop)(b:VV)(c:MH)(d:PH):Prop:=a (A7 (Am b==[])) c d
noncomputable abbrev bA:CV:=A7 false
attribute [push_cast] eJ Am DK bA
def Ed(v:VV)(m:MH)(h:PH)(K:CV->MH->PH->Prop):Prop:=
  dH (v.kind==1) (eJ v.int 0 (DK K v m h) (K bA m h)) (v.kind==2) (eJ v.int 0 (DK K v m h) (K bA m h)) (dH (v.kind==3) (dH (v.int==0) (DK K v m h) (v.int==1) (DK K v m h) (K bA m h)) (v.kind==4) (DK K v m h) (eJ v.kind 5 (eJ v.int 0 (K (A7 (decide ((↑v.text.size:Int)<=64))) m h) (K bA m h)) (K bA m h)))
abbrev hP(a:Prop)(b:Bool)(c d:Prop):Prop:=a/\branch b c d
noncomputable abbrev Kn(a:CV):List CV:=[a]
abbrev fH(a b:CV):Prop:=Kn a=Kn b
noncomputable abbrev fR(a:VV):CV:=jM a.enc
attribute [push_cast] hP Kn fH fR
def MP(v:VV)(m:MH)(h:PH)(K:CV->MH->PH->Prop):Prop:=
  ∃(v1:VV),hP (fH (fR v) (fR v1)) (kG v1) (K (A7 (decide (v.kind>=3))) m h) (K bA m h)
abbrev fQ(a b:Int)(c d:Prop):Prop:=branch (a !=b) c d
attribute [push_cast] fQ
def MC(v:VV)(m:MH)(h:PH)(K:CV->MH->PH->Prop):Prop:=
  ∃(v1:VV),hP (fH (fR v) (fR v1)) (kG v1) (fQ v.kind 1 (K (A7 (v.kind !=2)) m h) (K bA m h)) (K bA m h)
abbrev gY(a:Prop)(b:Nat->Prop):Prop:=a/\∀(x:Nat),b x
abbrev aA(a b c:Prop):Prop:=a/\b/\c
abbrev nD(a:Bool):Prop:=a=true
noncomputable abbrev EN(a:List Int):Bool:=List.all a cT
abbrev xM(a:Nat)(b:List Int):Prop:=a<=b.length/\nD (EN (List.take a b))
abbrev aK(a:Sl):Prop:=eQ (Yl a)
noncomputable abbrev bX(a:Nat):SV:=gS (↑a:Int)
abbrev bK(a:Sl):Prop:=eQ (bX a.len)
abbrev bG(a:Nat):Prop:=gS 0=bX a
abbrev eH(a b:Nat->Option Obj)(c d:PH):Prop:=aA (a=b) (c=d) True
abbrev bD(a b:Int)(c d:Prop):Prop:=branch (decide (a<b)) c d
noncomputable abbrev aG(a:Sl):Int:=(↑a.len:Int)
abbrev aT(a:Nat->Nat->Prop):Prop:=∃(x x1:Nat),a x x1
abbrev aH(a b c d:Prop):Prop:=aA a b (c/\d)
abbrev aU(a:Option Addr)(b c:Nat):Prop:=a=Option.some (Addr.mk b c Option.none)
noncomputable abbrev fL(a:Nat)(b:Int)(c:Nat):Nat:=a+b.toNat*c
noncomputable abbrev bB(a b c:Nat):Nat:=fL a (↑b:Int) c
noncomputable abbrev j6(a:Value):List Value:=[a]
noncomputable abbrev cK(a:Int):List Value:=j6 (eW a)
abbrev pH(a b:Int):Prop:=fH (fK a) (fK b)
abbrev vB(a:Int)(b:Int->Prop):Prop:=∃(x:Int),pH a x/\b x
abbrev gX(a:Bool)(b:Prop)(c:Nat->Prop):Prop:=branch a b (∃(x:Nat),c x)
abbrev dE(a:Prop)(b c:Nat->Option Obj)(d e:PH):Prop:=aH a (b=c) (d=e) True
noncomputable abbrev eB(a:Int):Int:=IntKind.wrap IntKind.i64 a
noncomputable abbrev aW(a:Nat)(b:Int):Int:=eB ((↑a:Int)+b)
attribute [push_cast] gY aA nD EN xM aK bX bK bG eH bD aG aT aH aU fL bB j6 cK pH vB gX dE eB aW
def Qi(s:Sl)(l:List Int)(m:MH)(h:PH)(K:CV->MH->PH->Prop):Prop:=
  gY (∃(x:Nat),aA (xM x l) (aK s) (aA (bK s) (bG x) (eH m m h h))) (λx=>xM x l->bD (↑x:Int) (aG s) (aT (λb o=>aH (aU s.a b o) (0<=(↑x:Int)) ((↑x:Int)<aG s) (∃(y:Int),aM m h b (bB o x 1) (cK y)/\vB y (λk=>gX (!(cT k)) (K bA m h) (λy1=>aA (xM y1 l) (l.length-y1<l.length-x) (aA (aK s) (bK s) (dE (gS (aW x 1)=bX y1) m m h h))))))) (K gE m h))
def MU(s:Sl)(l:List Int)(m:MH)(h:PH)(K:CV->MH->PH->Prop):Prop:=
  gY (∃(x:Nat),aA (xM x l) (aK s) (aA (bK s) (bG x) (eH m m h h))) (λx=>xM x l->bD (↑x:Int) (aG s) (aT (λb o=>aH (aU s.a b o) (0<=(↑x:Int)) ((↑x:Int)<aG s) (∃(y:Int),aM m h b (bB o x 1) (cK y)/\gX (y !=3) (gX (y !=4) (gX (y !=5) (K bA m h) (λy1=>aA (xM y1 l) (l.length-y1<l.length-x) (aA (aK s) (bK s) (dE (gS (aW x 1)=bX y1) m m h h)))) (λy1=>aA (xM y1 l) (l.length-y1<l.length-x) (aA (aK s) (bK s) (dE (gS (aW x 1)=bX y1) m m h h)))) (λy1=>aA (xM y1 l) (l.length-y1<l.length-x) (aA (aK s) (bK s) (dE (gS (aW x 1)=bX y1) m m h h)))))) (K gE m h))
theorem Zx(v:VV)(m:MH)(h:PH)(K:CV->MH->PH->Prop):Ed v m h K=zJ (ctx [] [] [] [] false) Tryz.f105 (cQ Tryz.f105) (entry Tryz.f105.ntmps [aV v] m h) K:=by kernel_rfl
theorem iC{x y:Bool}(hK:K (cB x) m h)(e:x=y):K (.val (.bool y)) m h:=e▸hK
theorem Um{v:VV}(hK:K (cB (kG v)) m h):Ed v m h K:=by
 dsimp only[Ed,push_cast]
 repeat' (first|(refine aB (λ_=>?_) (λ_=>?_))|(refine iC hK ?_;simp_all [kG,CM]))
theorem iJ{f:FuncId}{fn:Func}(hf:Tryz.prog.funcs[f]? =some fn){S:Vc.Spec}(hvc:∀cvs m h K,S cvs m h K->∃C:Ctx,C.P=Tryz.prog/\(∀g S,assoc C.specs g=some S->Sound Tryz.prog g S)/\∃N:Prop,N=zJ C fn (cQ fn) (entry fn.ntmps cvs m h) K/\N)(hb:fn.body=some (cQ fn):=by rfl)(hname:(fn.name== "runtime.NumGoroutine")=false:=by decide):Sound Tryz.prog f S:=fA hf hb hname λcvs m h K hS=>let⟨C,hC,hs,N,e,hn⟩:=hvc cvs m h K hS;⟨C,hC,hs,e▸hn⟩
theorem Mj:Sound Tryz.prog 93 X5:=by
 refine iJ Tryz.func93 ?_;rintro cvs m h K ⟨k,rfl,hK⟩;refine⟨ctx [] [] [] [] false,rfl,aF,P0 k m h K,by kernel_rfl,?_⟩;dsimp only[P0,push_cast]
 repeat' (first|(refine aB (λ_=>?_) (λ_=>?_))|(refine iC hK ?_;simp_all [cT]))
theorem S4:Sound Tryz.prog 119 Lc:=by
 refine iJ Tryz.func119 ?_;rintro cvs m h K ⟨v,rfl,hK⟩;refine⟨ctx [] [] [] [] false,rfl,aF,Ed v m h K,by kernel_rfl,?_⟩;exact Um hK
theorem K1:Sound Tryz.prog 105 Lc:=by
 refine fA (fn:=Tryz.f105) (c:=cQ Tryz.f105) Tryz.func105 rfl (by decide) ?_;rintro cvs m h K ⟨v,rfl,hK⟩;refine⟨ctx [] [] [] [] false,rfl,aF,?_⟩;rw[<-Zx v m h K];exact Um hK
theorem Sr:Sound Tryz.prog 164 Np:=by
 refine iJ Tryz.func164 ?_;rintro cvs m h K ⟨v,rfl,hK⟩;refine⟨ctx [(119,Lc)] [] [] [] false,rfl,aD S4 aF,MP v m h K,by kernel_rfl,?_⟩;dsimp only[MP,push_cast];refine⟨v,rfl,?_⟩
 repeat' (first|(refine aB (λ_=>?_) (λ_=>?_))|(refine iC hK ?_;simp_all [mE]))
theorem EV:Sound Tryz.prog 203 Np:=by
 refine iJ Tryz.func203 ?_;rintro cvs m h K ⟨v,rfl,hK⟩;refine⟨ctx [(105,Lc)] [] [] [] false,rfl,aD K1 aF,MC v m h K,by kernel_rfl,?_⟩;dsimp only[MC,push_cast];refine⟨v,rfl,?_⟩;refine aB (λh1=>aB (λh2=>iC hK ?_) (λh2=>iC hK ?_)) (λh1=>iC hK ?_)
 .have h2:v.kind≠1:=by simpa using h2
  by_cases h3:v.kind=2
  .simp[mE,h1,h3]
  .have:3<=v.kind:=by
    simp only[kG]at h1
    repeat' split at h1
    all_goals first|(simp_all;done)|skip
    all_goals simp_all
   simp[mE,h1,h3,this]
 .have h2:v.kind=1:=by simpa using h2
  simp[mE,h2]
 .simp[mE,h1]
theorem wI{α:Type}{p:α->Bool}{l:List α}{x:α}(hx:l[i]? =some x):(l.take (i+1)).all p=((l.take i).all p&&p x):=by
 rw[List.take_add_one,List.all_append,hx];simp
theorem yL{α:Type}{p:α->Bool}{l:List α}{x:α}(hx:l[i]? =some x)(hp:p x=false):l.all p=false:=by
 rw[List.all_eq_false];exact⟨x,List.mem_of_getElem? hx,by simp[hp]⟩
theorem Mn:Sound Tryz.prog 64 Lo:=by
 refine iJ Tryz.func64 ?_;rintro cvs m h K ⟨s,l,rfl,hl,hK⟩;refine⟨YX s l m h,rfl,aD Mj aF,Qi s l m h K,by kernel_rfl,?_⟩;dsimp only[Qi,push_cast];have hs:=hl.slen;have hb:=hl.len;refine⟨⟨0,⟨aC,by simp⟩,rfl,rfl,rfl,rfl,rfl,trivial⟩,λi hi=>aE (λhlt=>?_) (λhge=>?_)⟩
 .obtain⟨x,hx⟩:∃x,l[i]? =some x:=⟨l[i]'(by omega),List.getElem?_eq_getElem _⟩
  obtain⟨b1,o1,e1,r1⟩:=hl.at hx;refine⟨b1,o1,e1,aC,hlt,x,.imm (by simpa using r1),x,rfl,aB (λhc=>iC hK ?_) (λhc=>?_)⟩
  .exact yL hx (by simpa using hc)
  .refine⟨i+1,⟨aC,?_⟩,aC,rfl,rfl,by rw[jA aC],rfl,rfl,trivial⟩;rw[wI hx,hi.2];simpa using hc
 .refine iC hK ?_;have:=hi.2
  rwa [List.take_of_length_le aC]at this
theorem SM:Sound Tryz.prog 136 Lo:=by
 refine iJ Tryz.func136 ?_;rintro cvs m h K ⟨s,l,rfl,hl,hK⟩;refine⟨Xp s l m h,rfl,aF,MU s l m h K,by kernel_rfl,?_⟩;dsimp only[MU,push_cast];have hs:=hl.slen;have hb:=hl.len;refine⟨⟨0,⟨aC,by simp⟩,rfl,rfl,rfl,rfl,rfl,trivial⟩,λi hi=>aE (λhlt=>?_) (λhge=>?_)⟩
 .obtain⟨x,hx⟩:∃x,l[i]? =some x:=⟨l[i]'(by omega),List.getElem?_eq_getElem _⟩
  obtain⟨b1,o1,e1,r1⟩:=hl.at hx;have good:cT x=true->(l.take (i+1)).all cT=true:=λhc=>by rw[wI hx,hi.2,hc];rfl
  refine⟨b1,o1,e1,aC,hlt,x,.imm (by simpa using r1),?_⟩;have next:cT x=true->∃(y:Nat),(y<=l.length/\(l.take y).all cT=true)/\l.length-y<l.length-i/\y=i+1:=λhc=>⟨i+1,⟨aC,good hc⟩,aC,rfl⟩
  repeat' (first|(refine aB (λ_=>?_) (λ_=>?_))|(refine iC hK (yL hx ?_);simp_all [cT];done)|(refine⟨i+1,⟨aC,good (by simp_all [cT])⟩,aC,rfl,rfl,by rw[jA aC],rfl,rfl,trivial⟩))
 .refine iC hK ?_;have:=hi.2
  rwa [List.take_of_length_le aC]at this
def Up(a b:VV):Bool:=a.kind==b.kind&&(a.int==b.int&&(a.text.toList==b.text.toList&&true))
def V9(a b:OV):Bool:=a.kind==b.kind&&(a.index==b.index&&(Up a.value b.value&&true))
theorem kR{f:Field}{fs:List Field}{d:Nat}{xs ys:Array Value}{w:World}{x y:Value}{r r':Bool}(hn:(f.name== "_")=false)(hx:wO Tryz.prog (part f.type xs f.offset)=some x)(hy:wO Tryz.prog (part f.type ys f.offset)=some y)
 (he:(Op.equalIn d f.type x y).run Tryz.prog w= .ok r w)(hr:(Op.eqFields d xs ys fs).run Tryz.prog w= .ok r' w):(Op.eqFields d xs ys (f::fs)).run Tryz.prog w= .ok (r&&r') w:=by
 have hn:f.name≠ "_" :=by simpa using hn
 simp only[Op.eqFields,if_pos hn,Sem.run_bind,yW _ _ _ hx,yW _ _ _ hy,Result.andThen_ok,he];cases r
 .simp
 .simpa using hr
noncomputable def Lv(t k:Nat):Field:=(Tryz.prog.fieldsOf t).toList.getD k default
theorem Uo(a b:VV)(d:Nat)(w:World):(Op.equalIn (d+2) 27 (.agg #[.int .i64 a.kind,.int .i64 a.int,.string a.text]) (.agg #[.int .i64 b.kind,.int .i64 b.int,.string b.text])).run Tryz.prog w= .ok (Up a b) w:=by
 rw[run_equalIn_struct w (d+1) 27 _ _ (by kernel_rfl) (by kernel_rfl),show(Tryz.prog.fieldsOf 27).toList=[Lv 27 0,Lv 27 1,Lv 27 2]by kernel_rfl];refine kR (x:=.int .i64 a.kind) (y:=.int .i64 b.kind) (by kernel_rfl) (by kernel_rfl) (by kernel_rfl) (run_equalIn_int w d _ .i64 .i64 _ _ (by kernel_rfl)) ?_;refine kR (x:=.int .i64 a.int) (y:=.int .i64 b.int) (by kernel_rfl) (by kernel_rfl) (by kernel_rfl) (run_equalIn_int w d _ .i64 .i64 _ _ (by kernel_rfl)) ?_;refine kR (x:=.string a.text) (y:=.string b.text) (by kernel_rfl) (by kernel_rfl) (by kernel_rfl) (run_equalIn_string w d _ _ _ (by kernel_rfl)) ?_;simp[Op.eqFields]
theorem Zy(a b:OV)(d:Nat)(w:World):(Op.equalIn (d+3) 29 (.agg #[.int .i64 a.kind,.int .i64 a.index,.int .i64 a.value.kind,.int .i64 a.value.int,.string a.value.text]) (.agg #[.int .i64 b.kind,.int .i64 b.index,.int .i64 b.value.kind,.int .i64 b.value.int,.string b.value.text])).run Tryz.prog w= .ok (V9 a b) w:=by
 rw[run_equalIn_struct w (d+2) 29 _ _ (by kernel_rfl) (by kernel_rfl),show(Tryz.prog.fieldsOf 29).toList=[Lv 29 0,Lv 29 1,Lv 29 2]by kernel_rfl];refine kR (x:=.int .i64 a.kind) (y:=.int .i64 b.kind) (by kernel_rfl) (by kernel_rfl) (by kernel_rfl) (run_equalIn_int w (d+1) _ .i64 .i64 _ _ (by kernel_rfl)) ?_;refine kR (x:=.int .i64 a.index) (y:=.int .i64 b.index) (by kernel_rfl) (by kernel_rfl) (by kernel_rfl) (run_equalIn_int w (d+1) _ .i64 .i64 _ _ (by kernel_rfl)) ?_;refine kR (x:=.agg #[.int .i64 a.value.kind,.int .i64 a.value.int,.string a.value.text]) (y:=.agg #[.int .i64 b.value.kind,.int .i64 b.value.int,.string b.value.text]) (by kernel_rfl) (by kernel_rfl) (by kernel_rfl) ?_ ?_
 .rw[show(Lv 29 2).type=27 by kernel_rfl];exact Uo a.value b.value d w
 .simp[Op.eqFields]
theorem Ee(a b:VV):StructEq Tryz.prog 27 (.agg #[.int .i64 a.kind,.int .i64 a.int,.string a.text]) (.agg #[.int .i64 b.kind,.int .i64 b.int,.string b.text]) (Up a b):=
 ⟨by kernel_rfl,λw=>Uo a b 9998 w⟩
theorem Aw(a b:OV):StructEq Tryz.prog 29 (.agg #[.int .i64 a.kind,.int .i64 a.index,.int .i64 a.value.kind,.int .i64 a.value.int,.string a.value.text]) (.agg #[.int .i64 b.kind,.int .i64 b.index,.int .i64 b.value.kind,.int .i64 b.value.int,.string b.value.text]) (V9 a b):=
 ⟨by kernel_rfl,λw=>Zy a b 9997 w⟩
theorem yR{a b:ByteArray}(h:a.toList=b.toList):a=b:=by
 rw[ByteArray.toList_eq,ByteArray.toList_eq]at h;cases a;cases b;simp only[ByteArray.mk.injEq];exact Array.toList_inj.1 h
theorem JD{a b:VV}:Up a b=true↔a=b:=by
 obtain⟨k,i,t⟩:=a;obtain⟨k',i',t'⟩:=b;simp only[Up,Bool.and_true,Bool.and_eq_true,beq_iff_eq,VV.mk.injEq];exact⟨λ⟨h1,h2,h3⟩=>⟨h1,h2,yR h3⟩,λ⟨h1,h2,h3⟩=>⟨h1,h2,by rw[h3]⟩⟩
theorem Cf{a b:OV}:V9 a b=true↔a=b:=by
 obtain⟨k,i,t⟩:=a;obtain⟨k',i',t'⟩:=b;simp only[V9,Bool.and_true,Bool.and_eq_true,beq_iff_eq,OV.mk.injEq,JD]
def zeroV:VV:=⟨0,0,⟨#[]⟩⟩
def eM:OV:=⟨0,0,zeroV⟩
def qL(l:List Int)(o:OV):Int:=if o.index<0||o.index>=l.length|| !Up o.value zeroV then 0 else l.getD o.index.toNat 0
def kindOf(cols params:List Int)(o:OV):Int:=
 if o.kind==3 then(if o.index !=0|| !mE o.value then 0 else o.value.kind)
 else if o.kind==2 then qL params o
 else if o.kind==1 then qL cols o
 else 0
def sE(v:PV):Bool:=v.cmp==0&&V9 v.left eM&&V9 v.right eM
def aO(o:OV):CV:=.val (.agg #[.int .i64 o.kind,.int .i64 o.index,.int .i64 o.value.kind,.int .i64 o.value.int,.string o.value.text])
def aP(p:PV):CV:=.val (.agg #[.int .i64 p.op,.int .i64 p.cmp,
 .int .i64 p.left.kind,.int .i64 p.left.index,.int .i64 p.left.value.kind,.int .i64 p.left.value.int,.string p.left.value.text,
 .int .i64 p.right.kind,.int .i64 p.right.index,.int .i64 p.right.value.kind,.int .i64 p.right.value.int,.string p.right.value.text,
 .slice p.args.a p.args.len p.args.cap])
def a2S(s t:Sl):CV:=.val (.agg #[.slice s.a s.len s.cap,.slice t.a t.len t.cap])
def X0:Vc.Spec:=λcvs m h K=>∃v,cvs=[aP v]/\K (cB (sE v)) m h
def UK:Vc.Spec:=λcvs m h K=>∃s t cols params o,cvs=[cS s,cS t,aO o]/\Ints h s cols/\Ints h t params/\K (cI (kindOf cols params o)) m h
def Rh:Vc.Spec:=λcvs m h K=>∃s t cols params o,cvs=[a2S s t,aO o]/\Ints h s cols/\Ints h t params/\K (cI (kindOf cols params o)) m h
abbrev lT(a:Nat)(b c:List Value)(d:Bool):Prop:=StructEq Proofs.Tryz.prog a (Value.agg (Array.mk b)) (Value.agg (Array.mk c)) d
noncomputable abbrev aY(a b:Value)(c:List Value):List Value:=a::b::c
noncomputable abbrev dA:Value:=eW 0
noncomputable abbrev zC:List Value:=j6 TL
noncomputable abbrev FV:List Value:=aY dA dA (aY dA dA zC)
attribute [push_cast] lT aY dA zC FV
def MV(v:PV)(m:MH)(h:PH)(K:CV->MH->PH->Prop):Prop:=
  eJ v.cmp 0 (∃(r:Bool),hP (lT 29 v.left.enc FV r) r (∃(r1:Bool),lT 29 v.right.enc FV r1/\K (A7 r1) m h) (K bA m h)) (K bA m h)
noncomputable abbrev qO(a:OV):Int:=a.value.kind
abbrev gQ(a b:Int)(c d:Prop):Prop:=branch (decide (a>=b)) c d
noncomputable abbrev vK:List Value:=aY dA dA zC
attribute [push_cast] qO gQ vK
def Eb(s t:Sl)(o:OV)(m:MH)(h:PH)(K:CV->MH->PH->Prop):Prop:=
  dH (o.kind==3) (fQ o.index 0 (K (fK 0) m h) (∃(v:VV),hP (fH (fR o.value) (fR v)) (!(mE v)) (K (fK 0) m h) (K (fK (qO o)) m h))) (o.kind==2) (bD o.index 0 (K (fK 0) m h) (gQ o.index (aG t) (K (fK 0) m h) (∃(r:Bool),hP (lT 27 o.value.enc vK r) (!r) (K (fK 0) m h) (aT (λb o1=>aH (aU t.a b o1) (0<=o.index) (o.index<aG t) (∃(y:Int),aM m h b (fL o1 o.index 1) (cK y)/\K (fK y) m h)))))) (eJ o.kind 1 (bD o.index 0 (K (fK 0) m h) (gQ o.index (aG s) (K (fK 0) m h) (∃(r:Bool),hP (lT 27 o.value.enc vK r) (!r) (K (fK 0) m h) (aT (λb o1=>aH (aU s.a b o1) (0<=o.index) (o.index<aG s) (∃(y:Int),aM m h b (fL o1 o.index 1) (cK y)/\K (fK y) m h)))))) (K (fK 0) m h))
theorem xE{x y:Int}(hK:K (cI x) m h)(e:x=y):K (.val (.int .i64 y)) m h:=e▸hK
theorem Ints.inb{s:Sl}(r:Ints h s l){n:Int}(h0:0<=n)(h1:n<(l.length:Int)):∃b o,s.a=some ⟨b,o,none⟩/\bF h b (o+n.toNat*1) [.int .i64 (l.getD n.toNat 0)]:=by
 have hx:l[n.toNat]? =some (l.getD n.toNat 0):=by
  rw[List.getD_eq_getElem?_getD,List.getElem?_eq_getElem aC];simp
 obtain⟨b,o,e,r⟩:=r.at hx;exact⟨b,o,e,by simpa using r⟩
theorem Uk{s t:Sl}{cols params:List Int}{o:OV}(hs:Ints h s cols)(ht:Ints h t params)(hK:K (cI (kindOf cols params o)) m h):Eb s t o m h K:=by
 have es:=hs.slen;have et:=ht.slen;dsimp only[Eb,push_cast];refine aB (λh1=>aB (λh2=>xE hK ?_) (λh2=>⟨o.value,rfl,aB (λh3=>xE hK ?_) (λh3=>xE hK ?_)⟩)) (λh1=>aB (λh2=>?_) (λh2=>aB (λh3=>?_) (λh3=>xE hK ?_)))
 .simp_all [kindOf]
 .simp_all [kindOf]
 .simp_all [kindOf]
 .have hk:kindOf cols params o=qL params o:=by simp_all [kindOf]
  rw[hk]at hK;refine aE (λh3=>xE hK ?_) (λh3=>aE (λh4=>xE hK ?_) (λh4=>⟨Up o.value zeroV,Ee o.value zeroV,aB (λh5=>xE hK ?_) (λh5=>?_)⟩))
  .simp[qL,h3]
  .rw[et]at h4;simp[qL,h4]
  .simp only[Bool.not_eq_true']at h5;simp[qL,h5]
  .obtain⟨b,off,e,r⟩:=ht.inb (n:=o.index) aC aC;refine⟨b,off,e,aC,aC,_,.imm r,xE hK ?_⟩;have h4':¬o.index>=params.length:=by omega
   simp only[Bool.not_eq_false']at h5;simp[qL,h3,h4',h5]
 .have hk:kindOf cols params o=qL cols o:=by simp_all [kindOf]
  rw[hk]at hK;refine aE (λh3=>xE hK ?_) (λh3=>aE (λh4=>xE hK ?_) (λh4=>⟨Up o.value zeroV,Ee o.value zeroV,aB (λh5=>xE hK ?_) (λh5=>?_)⟩))
  .simp[qL,h3]
  .rw[es]at h4;simp[qL,h4]
  .simp only[Bool.not_eq_true']at h5;simp[qL,h5]
  .obtain⟨b,off,e,r⟩:=hs.inb (n:=o.index) aC aC;refine⟨b,off,e,aC,aC,_,.imm r,xE hK ?_⟩;have h4':¬o.index>=cols.length:=by omega
   simp only[Bool.not_eq_false']at h5;simp[qL,h3,h4',h5]
 .simp_all [kindOf]
theorem SR:Sound Tryz.prog 128 X0:=by
 refine iJ Tryz.func128 ?_;rintro cvs m h K ⟨v,rfl,hK⟩;refine⟨ctx [] [] [] [] false,rfl,aF,MV v m h K,by kernel_rfl,?_⟩;dsimp only[MV,push_cast];refine aB (λh1=>⟨V9 v.left eM,Aw v.left eM,aB (λh2=>⟨V9 v.right eM,Aw v.right eM,iC hK ?_⟩) (λh2=>iC hK ?_)⟩) (λh1=>iC hK ?_)
 all_goals simp_all [sE]
theorem SQ:Sound Tryz.prog 129 UK:=by
 refine iJ Tryz.func129 ?_;rintro cvs m h K ⟨s,t,cols,params,o,rfl,hs,ht,hK⟩;refine⟨ctx [(164,Np)] [] [] [] false,rfl,aD Sr aF,Eb s t o m h K,by kernel_rfl,?_⟩;exact Uk hs ht hK
theorem Sq:Sound Tryz.prog 176 Rh:=by
 refine iJ Tryz.func176 ?_;rintro cvs m h K ⟨s,t,cols,params,o,rfl,hs,ht,hK⟩;refine⟨ctx [(203,Np)] [] [] [] false,rfl,aD EV aF,Eb s t o m h K,by kernel_rfl,?_⟩;exact Uk hs ht hK
def Pred.args:Pred->List Pred
 |.mk _ _ _ _ l=>l
mutual
def mQ:Pred->Int->Int
 |.mk _ _ _ _ args,n=>j7 args (n+1)
def j7:List Pred->Int->Int
 |[],n=>n
 |p::ps,n=>if n<=24 then j7 ps (mQ p n)else n
end
mutual
def lD:Pred->Nat->Bool
 |.mk _ _ _ _ _,0=>true
 |.mk _ _ _ _ args,n+1=>qU args n
def qU:List Pred->Nat->Bool
 |[],_=>false
 |p::ps,n=>lD p n||qU ps n
end
mutual
theorem Bt:∀(p:Pred)(n:Int),n<=24->n<mQ p n/\mQ p n<=25
 |.mk _ _ _ _ args,n,h=>by
  have:=Es args (n+1) aC;simp only[mQ];omega
theorem Es:∀(ps:List Pred)(n:Int),n<=25->n<=j7 ps n/\j7 ps n<=25
 |[],n,h=>by simp only[j7];omega
 |p::ps,n,h=>by
  simp only[j7];split
  .rename_i h1;have h2:=Bt p n h1;have h3:=Es ps (mQ p n) h2.2;omega
  .omega
end
theorem NY(ps:List Pred){n:Int}(h:¬n<=24):j7 ps n=n:=by
 cases ps
 .simp[j7]
 .simp only[j7,if_neg h]
theorem Gz(n:Nat):∀ps:List Pred,qU ps n=ps.any (lD · n)
 |[]=>by simp[qU]
 |p::ps=>by simp[qU,Gz n ps]
theorem Ax{p:Pred}{q:Pred}(h:q∈p.args):SizeOf.sizeOf q<SizeOf.sizeOf p:=by
 cases p with
 |mk op cmp l r args=>
  have:=List.sizeOf_lt_of_mem h;simp only[Pred.args]at this;simp only[Pred.mk.sizeOf_spec];omega
theorem fF.open{v:PV}(r:fF h p v):p.args.length<=502633886983/\v.args.len=p.args.length/\∀(i:Nat)(q:Pred),p.args[i]? =some q->∃b o u,v.args.a=some ⟨b,o,none⟩/\bF h b (o+i*13) (PV.enc u)/\fF h q u:=by
 cases p with
 |mk op cmp l r' args=>
  obtain⟨h1,h2,h3,h4,h5,vs,h6,h7⟩:=r;have hl:=h7.length;refine⟨h5,?_,λi q hq=>?_⟩
  .have:=h6.len;simp at this;simp only[Pred.args];omega
  .obtain⟨u,hu,hr⟩:=h7.get hq;obtain⟨b,o,e,r⟩:=h6.get (i:=i) (e:=PV.enc u) (by simp[hu]);exact⟨b,o,u,e,r,hr⟩
def TD(N:Nat):Vc.Spec:=λcvs m h K=>∃v p k,cvs=[aP v,cI k]/\fF h p v/\SizeOf.sizeOf p<N/\0<=k/\k<=24/\K (cI (mQ p k)) m h
def OO(N:Nat):Vc.Spec:=λcvs m h K=>∃v p,∃k:Nat,cvs=[aP v,cI k]/\fF h p v/\SizeOf.sizeOf p<N/\k<=100/\K (cB (lD p k)) m h
noncomputable def YE(N:Nat)(v:PV)(p:Pred)(k:Int)(m:MH)(h:PH):Ctx:=
 ctx [(97,TD N)] [(3,{A:=Nat×Int,st:=λx=>cE 27 29 [(1,iv x.2),(2,.at (.ptr 2 0)),(5,iv x.1)] [(2,.cells 32 (v.enc.map .val))] m h,inv:=λx=>x.1<=p.args.length/\0<=x.2/\x.2<=25/\j7 (p.args.drop x.1) x.2=mQ p k,mu:=λx=>p.args.length-x.1})] [] [] false
noncomputable def YD(N:Nat)(v:PV)(p:Pred)(k:Nat)(m:MH)(h:PH):Ctx:=
 ctx [(98,OO N)] [CR 4 (λi=>cE 23 25 [(1,iv k),(2,.at (.ptr 2 0)),(10,iv v.args.len),(11,iv i)] [(2,.cells 32 (v.enc.map .val))] m h) (λi=>i<=p.args.length/\(p.args.take i).any (lD · (k-1))=false) (λi=>p.args.length-i)] [] [] false
noncomputable abbrev pI(a:Pred):Nat:=a.args.length
abbrev IV(a:Nat×Int)(b:Pred)(c d:Int):Prop:=aH (a.1<=pI b) (0<=a.2) (a.2<=c) (j7 (List.drop a.1 b.args) a.2=mQ b d)
abbrev cZ(a b:Int):Prop:=gS a=gS b
abbrev fN:Prop:=eP 2
noncomputable abbrev tB(a:Nat)(b:List Value):Option Go.Vc.Own:=oQ a (List.map At.val b)
abbrev lI(a:PV):Prop:=eQ (tB 32 a.enc)
abbrev wS(a:PV->Pred->Prop):Prop:=∃(x:PV)(x1:Pred),a x x1
noncomputable abbrev bI(a b:CV):List CV:=a::Kn b
noncomputable abbrev bU(a:CV)(b:Int):List CV:=bI a (fK b)
noncomputable abbrev eN(a:PV):CV:=jM a.enc
abbrev pF(a:Pred)(b:Nat):Prop:=SizeOf.sizeOf a<b
abbrev cN(a:Int):Prop:=0<=a
attribute [push_cast] pI IV cZ fN tB lI wS bI bU eN pF cN
def PX(N:Nat)(v:PV)(p:Pred)(k:Int)(m:MH)(h:PH)(K:CV->MH->PH->Prop):Prop:=
  (∃(x:Nat×Int),aA (IV x p 25 k) (cZ (eB (k+1)) x.2) (aA fN (bG x.1) (dE (lI v) m m h h)))/\∀(x:Nat×Int),IV x p 25 k->bD (↑x.1:Int) (aG v.args) (branch (decide (x.2<=24)) (aT (λb o=>aH (aU v.args.a b o) (0<=(↑x.1:Int)) ((↑x.1:Int)<aG v.args) (∃(y:PV),aM m h b (bB o x.1 13) y.enc/\wS (λv1 p1=>∃(k1:Int),aA (bU (eN y) x.2=bU (eN v1) k1) (fF h p1 v1) (aA (pF p1 N) (cN k1) (k1<=24/\∃(y1:Nat×Int),aA (IV y1 p 25 k) (pI p-y1.1<pI p-x.1) (aA (cZ (mQ p1 k1) y1.2) fN (aA (gS (aW x.1 1)=bX y1.1) (lI v) (aA (m=m) (h=h) True))))))))) (K (fK x.2) m h)) (K (fK x.2) m h)
abbrev IW(a:Nat)(b:Pred)(c:Pred->Pred)(d:Nat):Prop:=a<=pI b/\List.any (List.take a b.args) (fun(x:Pred)=>lD (c x) (d-1))=false
abbrev FH(a:List CV)(b:CV)(c d:Prop)(e:Nat->Prop):Prop:=∃(x:Nat),aA (a=bU b (↑x:Int)) c (aA d (x<=100) (e x))
abbrev dC(a b:PH):Prop:=a=b/\True
attribute [push_cast] IW FH dC
def PU(N:Nat)(v:PV)(p:Pred)(k:Nat)(m:MH)(h:PH)(K:CV->MH->PH->Prop):Prop:=
  eJ (↑k:Int) 0 (K gE m h) (gY (∃(x:Nat),aA (IW x p (λx1=>x1) k) (eQ (bX k)) (aA fN (bK v.args) (aA (bG x) (lI v) (aA (m=m) (h=h) True)))) (λx=>IW x p (λx1=>x1) k->bD (↑x:Int) (aG v.args) (aT (λb o=>aH (aU v.args.a b o) (0<=(↑x:Int)) ((↑x:Int)<aG v.args) (∃(y:PV),aM m h b (bB o x 13) y.enc/\wS (λv1 p1=>FH (bU (eN y) (eB ((↑k:Int)-1))) (eN v1) (fF h p1 v1) (pF p1 N) (λk1=>gX (lD p1 k1) (K gE m h) (λy1=>aA (IW y1 p (λx1=>x1) k) (pI p-y1<pI p-x) (aA (eQ (bX k)) fN (aA (bK v.args) (gS (aW x 1)=bX y1) (aA (lI v) (m=m) (dC h h)))))))))) (K bA m h)))
theorem Ua:∀N,Sound Tryz.prog 97 (TD N)
 |0=>by
  refine fA (fn:=Tryz.f97) (c:=cQ Tryz.f97) Tryz.func97 rfl (by decide) ?_;rintro cvs m h K ⟨v,p,k,rfl,hr,hN,_⟩;omega
 |N+1=>by
  refine iJ Tryz.func97 ?_;rintro cvs m h K ⟨v,p,k,rfl,hr,hN,h0,h1,hK⟩;refine⟨YE N v p k m h,rfl,aD (Ua N) aF,PX N v p k m h K,by kernel_rfl,?_⟩;dsimp only[PX,push_cast];obtain⟨hl,hlen,hget⟩:=hr.open;refine⟨⟨(0,k+1),⟨by simp,by simp;omega,by simp;omega,?_⟩,by rw[dX aC aC],rfl,rfl,rfl,rfl,rfl,trivial⟩,?_⟩
  .cases p;simp[mQ,Pred.args]
  rintro⟨i,n⟩ ⟨hi,hn0,hn1,he⟩;simp only at hi hn0 hn1 he;refine aE (λhlt=>aE (λhn=>?_) (λhn=>xE hK ?_)) (λhge=>xE hK ?_)
  .simp only at hlt hn;obtain⟨q,hq⟩:∃q,p.args[i]? =some q:=⟨p.args[i]'(by omega),List.getElem?_eq_getElem _⟩
   obtain⟨b,o,u,ea,hrd,hru⟩:=hget i q hq
   have hd:p.args.drop i=q::p.args.drop (i+1):=by
    rw[List.drop_eq_getElem_cons aC];rw[List.getElem?_eq_getElem aC]at hq;simp at hq;rw[hq]
   have hb:=Bt q n hn;refine⟨b,o,ea,by simp,by simpa using hlt,u,.imm (by simpa using hrd),u,q,n,rfl,hru,?_,hn0,hn,(i+1,mQ q n),⟨by simp only;omega,by simp only;omega,by simp only;omega,?_⟩,by simp only;omega,rfl,rfl,by rw[jA aC],rfl,rfl,rfl,trivial⟩
   .have:=Ax (List.mem_of_getElem? hq);omega
   .rw[hd,j7,if_pos hn]at he;exact he
  .rw[<-he,NY _ hn]
  .rw[<-he,List.drop_of_length_le (by simp only at hge;omega)];simp[j7]
theorem T9:∀N,Sound Tryz.prog 98 (OO N)
 |0=>by
  refine fA (fn:=Tryz.f98) (c:=cQ Tryz.f98) Tryz.func98 rfl (by decide) ?_;rintro cvs m h K ⟨v,p,k,rfl,hr,hN,_⟩;omega
 |N+1=>by
  refine iJ Tryz.func98 ?_;rintro cvs m h K ⟨v,p,k,rfl,hr,hN,h1,hK⟩;refine⟨YD N v p k m h,rfl,aD (T9 N) aF,PU N v p k m h K,by kernel_rfl,?_⟩;dsimp only[PU,push_cast];obtain⟨hl,hlen,hget⟩:=hr.open;refine aB (λhk=>iC hK ?_) (λhk=>?_)
  .have:k=0:=by have:(k:Int)=0:=(by simpa using hk);omega
   subst this;cases p;simp[lD]
  .have hk:k≠0:=by intro e;subst e;simp at hk
   have hdk:lD p k=p.args.any (lD · (k-1)):=by
    obtain⟨k',rfl⟩:∃k',k=k'+1:=⟨k-1,aC⟩
    cases p;simp[lD,Gz,Pred.args]
   rw[hdk]at hK;refine⟨⟨0,⟨aC,by simp⟩,rfl,rfl,rfl,rfl,rfl,rfl,rfl,trivial⟩,λi hi=>aE (λhlt=>?_) (λhge=>iC hK ?_)⟩
   .obtain⟨q,hq⟩:∃q,p.args[i]? =some q:=⟨p.args[i]'(by omega),List.getElem?_eq_getElem _⟩
    obtain⟨b,o,u,ea,hrd,hru⟩:=hget i q hq;refine⟨b,o,ea,aC,hlt,u,.imm (by simpa using hrd),u,q,k-1,?_,hru,?_,aC,aB (λhd=>iC hK ?_) (λhd=>?_)⟩
    .rw[dX aC aC,show((k-1:Nat):Int)=(k:Int)-1 by omega]
    .have:=Ax (List.mem_of_getElem? hq);omega
    .rw[List.any_eq_true];exact⟨q,List.mem_of_getElem? hq,hd⟩
    .refine⟨i+1,⟨aC,?_⟩,aC,rfl,rfl,rfl,by rw[jA aC],rfl,rfl,rfl,trivial⟩;rw[List.take_add_one,List.any_append,hi.2,hq];simpa using hd
   .have:=hi.2
    rwa [List.take_of_length_le aC]at this
def NU(cmp:Int)(l r:OV):Bool:=cmp==0&&V9 l eM&&V9 r eM
mutual
def jT(cols params:List Int):Pred->Bool
 |.mk op cmp l r args=>
  if op==1||op==2 then NU cmp l r&&args.length==0
  else if op==3 then args.length==0&&cmp>=1&&cmp<=6&&kindOf cols params l !=0&&kindOf cols params l==kindOf cols params r
  else if op==4||op==5||(op==6&&args.length==1)then NU cmp l r&&Bf cols params args
  else false
def Bf(cols params:List Int):List Pred->Bool
 |[]=>true
 |p::ps=>jT cols params p&&Bf cols params ps
end
theorem CB(cols params:List Int):∀ps:List Pred,Bf cols params ps=ps.all (jT cols params)
 |[]=>by simp[Bf]
 |p::ps=>by simp[Bf,CB cols params ps]
structure IM(cols params:List Int)(v:PV)(p:Pred):Prop where
 eq:jT cols params p=(sE v&&p.args.all (jT cols params))
def OE(N:Nat):Vc.Spec:=λcvs m h K=>∃s t cols params v p,cvs=[cS s,cS t,aP v]/\Ints h s cols/\Ints h t params/\fF h p v/\SizeOf.sizeOf p<N/\K (cB (jT cols params p)) m h
def Le(N:Nat):Vc.Spec:=λcvs m h K=>∃s t cols params v p,cvs=[a2S s t,aP v]/\Ints h s cols/\Ints h t params/\fF h p v/\SizeOf.sizeOf p<N/\K (cB (jT cols params p)) m h
noncomputable def YC(N:Nat)(s t:Sl)(cols params:List Int)(v:PV)(p:Pred)(m:MH)(h:PH):Ctx:=
 ctx [(99,OE N),(128,X0),(129,UK)] [CR 17 (λi=>cE 84 87 [(0,sv s),(1,sv t),(5,.at (.ptr 5 0)),(70,iv v.args.len),(71,iv i)] [(5,.cells 32 (v.enc.map .val))] m h) (λi=>i<=p.args.length/\(p.args.take i).all (jT cols params)=true) (λi=>p.args.length-i)] [(14,{A:=Unit,st:=λ_=>cE 84 87 [(0,sv s),(1,sv t),(5,.at (.ptr 5 0))] [(5,.cells 32 (v.enc.map .val))] m h,inv:=λ_=>IM cols params v p})] [] false
noncomputable def Xn(N:Nat)(s t:Sl)(cols params:List Int)(v:PV)(p:Pred)(m:MH)(h:PH):Ctx:=
 ctx [(138,Le N),(176,Rh)] [CR 18 (λi=>cE 87 89 [(2,.at (.ptr 2 0)),(3,.at (.ptr 3 0)),(76,sv v.args),(77,iv v.args.len),(78,iv i)] [(2,.cells 181 [.val (.slice s.a s.len s.cap),.val (.slice t.a t.len t.cap)]),(3,.cells 32 (v.enc.map .val))] m h) (λi=>i<=p.args.length/\(p.args.take i).all (jT cols params)=true) (λi=>p.args.length-i)] [(15,{A:=Unit,st:=λ_=>cE 87 89 [(2,.at (.ptr 2 0)),(3,.at (.ptr 3 0))] [(2,.cells 181 [.val (.slice s.a s.len s.cap),.val (.slice t.a t.len t.cap)]),(3,.cells 32 (v.enc.map .val))] m h,inv:=λ_=>IM cols params v p})] [] false
noncomputable abbrev rD(a:PV):Int:=aG a.args
abbrev kV(a:Sl->Sl->Prop):Prop:=∃(x x1:Sl),a x x1
abbrev qK(a:(List Int)->(List Int)->Prop):Prop:=∃(x x1:List Int),a x x1
abbrev FF(a:List CV)(b:Sl->Sl->OV->List CV)(c:PH)(d:(List Int)->(List Int)->OV->Prop):Prop:=kV (λx x1=>qK (λx2 x3=>∃(x4:OV),aH (a=b x x1 x4) (Ints c x x2) (Ints c x1 x3) (d x2 x3 x4)))
noncomputable abbrev dP(a:Sl)(b:List CV):List CV:=kU a::b
noncomputable abbrev fW(a:Sl)(b:CV):List CV:=bI (kU a) b
abbrev dU:Prop:=eP 5
abbrev BS(a:Nat)(b:Pred)(c d:List Int):Prop:=a<=pI b/\nD (List.all (List.take a b.args) (jT c d))
attribute [push_cast] rD kV qK FF dP fW dU BS
def PT(N:Nat)(s t:Sl)(cols params:List Int)(v:PV)(p:Pred)(m:MH)(h:PH)(K:CV->MH->PH->Prop):Prop:=
  dH (v.op==1) (∃(v1:PV),hP (fH (eN v) (eN v1)) (sE v1) (K (A7 (rD v==0)) m h) (K bA m h)) (v.op==2) (∃(v1:PV),hP (fH (eN v) (eN v1)) (sE v1) (K (A7 (rD v==0)) m h) (K bA m h)) (dH (v.op==3) (FF (dP s (fW t (jM v.left.enc))) (λs1 t1 o=>dP s1 (fW t1 (jM o.enc))) h (λc p1 o=>eJ (rD v) 0 (gQ v.cmp 1 (branch (decide (v.cmp<=6)) (fQ (kindOf c p1 o) 0 (FF (dP s (fW t (jM v.right.enc))) (λs1 t1 o1=>dP s1 (fW t1 (jM o1.enc))) h (λc1 p2 o1=>K (A7 (kindOf c p1 o==kindOf c1 p2 o1)) m h)) (K bA m h)) (K bA m h)) (K bA m h)) (K bA m h))) (v.op==4) (∃(x:Unit),aA (IM cols params v p) (aK s) (aA (aK t) dU (dE (lI v) m m h h))) (dH (v.op==5) (∃(x:Unit),aA (IM cols params v p) (aK s)
 (aA (aK t) dU (dE (lI v) m m h h))) (v.op==6) (fQ (rD v) 1 (K bA m h) (∃(x:Unit),aA (IM cols params v p) (aK s) (aA (aK t) dU (dE (lI v) m m h h)))) (K bA m h)))/\∀(_:Unit),IM cols params v p->∃(v1:PV),hP (fH (eN v) (eN v1)) (!(sE v1)) (K bA m h) (gY (∃(x:Nat),aA (BS x p cols params) (aK s) (aA (aK t) dU (aA (bK v.args) (bG x) (aA (lI v) (m=m) (dC h h))))) (λx=>BS x p cols params->bD (↑x:Int) (aG v.args) (aT (λb o=>aH (aU v.args.a b o) (0<=(↑x:Int)) ((↑x:Int)<aG v.args) (∃(y:PV),aM m h b (bB o x 13) y.enc/\kV (λs1 t1=>qK (λc p1=>wS (λv2 p2=>aA (dP s (fW t (eN y))=dP s1 (fW t1 (eN v2))) (Ints h s1 c) (aA (Ints h t1 p1) (fF h p2 v2)
 (pF p2 N/\gX (!(jT c p1 p2)) (K bA m h) (λy1=>aA (BS y1 p cols params) (pI p-y1<pI p-x) (aA (aK s) (aK t) (aA dU (bK v.args) (aA (gS (aW x 1)=bX y1) (lI v) (eH m m h h))))))))))))) (K gE m h)))
noncomputable abbrev kX(a b:Value):List Value:=aY a b []
abbrev iE:Prop:=eP 3
noncomputable abbrev gR(a b:At)(c:List At):List At:=a::b::c
abbrev Aa(a b:Sl):Prop:=eQ (oQ 181 (gR (tZ a) (tZ b) []))
abbrev gU(a:Prop)(b:Bool)(c d:Prop):Prop:=a->branch b c d
attribute [push_cast] kX iE gR Aa gU
def MR(N:Nat)(s t:Sl)(cols params:List Int)(v:PV)(p:Pred)(m:MH)(h:PH)(K:CV->MH->PH->Prop):Prop:=
  dH (v.op==3) (FF (bI (jM (kX (eR s) (eR t))) (jM v.left.enc)) (λs1 t1 o=>bI (jM (kX (eR s1) (eR t1))) (jM o.enc)) h (λc p1 o=>FF (bI (jM (kX (eR s) (eR t))) (jM v.right.enc)) (λs1 t1 o1=>bI (jM (kX (eR s1) (eR t1))) (jM o1.enc)) h (λc1 p2 o1=>eJ (rD v) 0 (gQ v.cmp 1 (branch (decide (v.cmp<=6)) (fQ (kindOf c p1 o) 0 (K (A7 (kindOf c p1 o==kindOf c1 p2 o1)) m h) (K bA m h)) (K bA m h)) (K bA m h)) (K bA m h)))) (v.op==1) (fQ (rD v) 0 (K bA m h) (∃(x:Unit),aA (IM cols params v p) fN (aA iE (Aa s t) (dE (lI v) m m h h)))) (dH (v.op==2) (fQ (rD v) 0 (K bA m h) (∃(x:Unit),aA (IM cols params v p) fN (aA iE (Aa s t) (dE (lI v) m m h h)))) (v.op==6) (fQ (rD v) 1 (K bA m h) (∃(x:
 Unit),aA (IM cols params v p) fN (aA iE (Aa s t) (dE (lI v) m m h h)))) (dH (v.op==4) (∃(x:Unit),aA (IM cols params v p) fN (aA iE (Aa s t) (dE (lI v) m m h h))) (v.op==5) (∃(x:Unit),aA (IM cols params v p) fN (aA iE (Aa s t) (dE (lI v) m m h h))) (K bA m h)))/\∀(_:Unit),gU (IM cols params v p) (v.cmp !=0) (K bA m h) (∃(r:Bool),hP (lT 29 v.left.enc FV r) (!r) (K bA m h) (∃(r1:Bool),hP (lT 29 v.right.enc FV r1) (!r1) (K bA m h) (gY (∃(x:Nat),aA (BS x p cols params) fN (aA iE (aK v.args) (aA (bK v.args) (bG x) (aA (Aa s t) (lI v) (eH m m h h))))) (λx=>BS x p cols params->bD (↑x:Int) (aG v.args) (aT (λb o=>aH (aU v.args.a b o) (0<=(↑x:Int)) ((↑x:
 Int)<aG v.args) (∃(y:PV),aM m h b (bB o x 13) y.enc/\kV (λs1 t1=>qK (λc p1=>wS (λv1 p2=>aA (bI (jM (kX (eR s) (eR t))) (eN y)=bI (jM (kX (eR s1) (eR t1))) (eN v1)) (Ints h s1 c) (aA (Ints h t1 p1) (fF h p2 v1) (pF p2 N/\gX (!(jT c p1 p2)) (K bA m h) (λy1=>aA (BS y1 p cols params) (pI p-y1<pI p-x) (aA fN iE (aA (aK v.args) (bK v.args) (aA (gS (aW x 1)=bX y1) (Aa s t) (dE (lI v) m m h h))))))))))))) (K gE m h)))))
theorem fF.top{v:PV}(r:fF h p v):p= .mk v.op v.cmp v.left v.right p.args:=by
 cases p with
 |mk op cmp l r' args=>obtain⟨h1,h2,h3,h4,_⟩:=r;simp[Pred.args,h1,h2,h3,h4]
theorem H3{cols params:List Int}{h:PH}{p:Pred}{v:PV}(r:fF h p v):jT cols params p=if v.op==1||v.op==2 then sE v&&p.args.length==0
 else if v.op==3 then p.args.length==0&&v.cmp>=1&&v.cmp<=6&&kindOf cols params v.left !=0&&kindOf cols params v.left==kindOf cols params v.right
 else if v.op==4||v.op==5||(v.op==6&&p.args.length==1)then sE v&&p.args.all (jT cols params)
 else false:=by
 have:=r.top;generalize p.args=xs at this⊢
 subst this;rw[jT,CB];rfl
theorem JA{n:Nat}{k:Nat}:((n:Int)==(k:Int))=(n==k):=by
 apply Bool.eq_iff_iff.2;rw[beq_iff_eq,beq_iff_eq];omega
theorem T8:∀N,Sound Tryz.prog 99 (OE N)
 |0=>by
  refine fA (fn:=Tryz.f99) (c:=cQ Tryz.f99) Tryz.func99 rfl (by decide) ?_;rintro cvs m h K ⟨s,t,cols,params,v,p,rfl,_,_,hr,hN,_⟩;omega
 |N+1=>by
  refine iJ Tryz.func99 ?_;rintro cvs m h K ⟨s,t,cols,params,v,p,rfl,hs,ht,hr,hN,hK⟩;refine⟨YC N s t cols params v p m h,rfl,aD (T8 N) (aD SR (aD SQ aF)),PT N s t cols params v p m h K,by kernel_rfl,?_⟩;obtain⟨hl,hlen,hget⟩:=hr.open;have hv:=H3 (cols:=cols) (params:=params) hr;have hz:((v.args.len:Int)==0)=(p.args.length==0):=by rw[hlen];exact JA (k:=0)
  have h1:((v.args.len:Int) !=1)=(p.args.length !=1):=by rw[hlen];simp only[bne];rw[show(1:Int)=((1:Nat):Int)from rfl,JA]
  dsimp only[PT,push_cast];refine⟨?_,?_⟩
  .refine aB (λe=>⟨v,rfl,aB (λe2=>iC hK ?_) (λe2=>iC hK ?_)⟩) (λe=>aB (λe1=>⟨v,rfl,aB (λe2=>iC hK ?_) (λe2=>iC hK ?_)⟩) (λe1=>aB (λe2=>⟨s,t,cols,params,v.left,rfl,hs,ht,?_⟩) (λe2=>?_)))
   .rw[hv,hz];simp[e,e2]
   .rw[hv];simp[e,e2]
   .rw[hv,hz];simp[e1,e2]
   .rw[hv];simp[e1,e2]
   .have hv3:jT cols params p=(p.args.length==0&&v.cmp>=1&&v.cmp<=6&&kindOf cols params v.left !=0&&kindOf cols params v.left==kindOf cols params v.right):=by rw[hv];simp[e,e1,e2]
    rw[hv3]at hK;refine aB (λe3=>aB (λe4=>aB (λe5=>aB (λe6=>⟨s,t,cols,params,v.right,rfl,hs,ht,iC hK ?_⟩) (λe6=>iC hK ?_)) (λe5=>iC hK ?_)) (λe4=>iC hK ?_)) (λe3=>iC hK ?_)
    all_goals (rw[hz]at e3;simp only[beq_iff_eq,decide_eq_true_eq,decide_eq_false_iff_not]at*;simp[*])
   .refine aB (λe3=>⟨(),⟨by rw[hv];simp[e,e1,e2,e3]⟩,rfl,rfl,rfl,rfl,rfl,rfl,trivial⟩) (λe3=>aB (λe4=>⟨(),⟨by rw[hv];simp[e,e1,e2,e4]⟩,rfl,rfl,rfl,rfl,rfl,rfl,trivial⟩) (λe4=>aB (λe5=>aB (λe6=>iC hK ?_) (λe6=>⟨(),⟨?_⟩,rfl,rfl,rfl,rfl,rfl,rfl,trivial⟩)) (λe5=>iC hK ?_)))
    .rw[h1]at e6;rw[hv];simp_all
    .rw[h1]at e6;rw[hv];simp_all
    .rw[hv];simp_all
  .intro _ htl;rw[htl.eq]at hK;refine⟨v,rfl,aB (λe=>iC hK ?_) (λe=>?_)⟩
   .simp_all
   .have e:sE v=true:=by simpa using e
    rw[e,Bool.true_and]at hK;refine⟨⟨0,⟨aC,by simp⟩,rfl,rfl,rfl,rfl,rfl,rfl,rfl,rfl,trivial⟩,λi hi=>aE (λhlt=>?_) (λhge=>iC hK ?_)⟩
    .obtain⟨q,hq⟩:∃q,p.args[i]? =some q:=⟨p.args[i]'(by omega),List.getElem?_eq_getElem _⟩
     obtain⟨b,o,u,ea,hrd,hru⟩:=hget i q hq;refine⟨b,o,ea,aC,hlt,u,.imm (by simpa using hrd),s,t,cols,params,u,q,rfl,hs,ht,hru,?_,aB (λhd=>iC hK ?_) (λhd=>?_)⟩
     .have:=Ax (List.mem_of_getElem? hq);omega
     .exact yL hq (by simpa using hd)
     .refine⟨i+1,⟨aC,?_⟩,aC,rfl,rfl,rfl,rfl,by rw[jA aC],rfl,rfl,rfl,trivial⟩;rw[wI hq,hi.2];simpa using hd
    .have:=hi.2
     rwa [List.take_of_length_le aC]at this
theorem QN:∀N,Sound Tryz.prog 138 (Le N)
 |0=>by
  refine fA (fn:=Tryz.f138) (c:=cQ Tryz.f138) Tryz.func138 rfl (by decide) ?_;rintro cvs m h K ⟨s,t,cols,params,v,p,rfl,_,_,hr,hN,_⟩;omega
 |N+1=>by
  refine iJ Tryz.func138 ?_;rintro cvs m h K ⟨s,t,cols,params,v,p,rfl,hs,ht,hr,hN,hK⟩;refine⟨Xn N s t cols params v p m h,rfl,aD (QN N) (aD Sq aF),MR N s t cols params v p m h K,by kernel_rfl,?_⟩;obtain⟨hl,hlen,hget⟩:=hr.open;have hv:=H3 (cols:=cols) (params:=params) hr;have hz:((v.args.len:Int)==0)=(p.args.length==0):=by rw[hlen];exact JA (k:=0)
  have hz':((v.args.len:Int) !=0)=(p.args.length !=0):=by simp only[bne];rw[hz]
  have h1:((v.args.len:Int) !=1)=(p.args.length !=1):=by rw[hlen];simp only[bne];rw[show(1:Int)=((1:Nat):Int)from rfl,JA]
  have hnil:p.args.length=0->p.args.all (jT cols params)=true:=λe=>by rw[List.eq_nil_of_length_eq_zero e];rfl
  dsimp only[MR,push_cast];refine⟨?_,?_⟩
  .refine aB (λe2=>⟨s,t,cols,params,v.left,rfl,hs,ht,s,t,cols,params,v.right,rfl,hs,ht,?_⟩) (λe2=>aB (λe=>aB (λe3=>iC hK ?_) (λe3=>⟨(),⟨?_⟩,rfl,rfl,rfl,rfl,rfl,rfl,trivial⟩)) (λe=>aB (λe1=>aB (λe3=>iC hK ?_) (λe3=>⟨(),⟨?_⟩,rfl,rfl,rfl,rfl,rfl,rfl,trivial⟩)) (λe1=>aB (λe5=>aB (λe6=>iC hK ?_) (λe6=>⟨(),⟨?_⟩,rfl,rfl,rfl,rfl,rfl,rfl,trivial⟩)) (λe5=>aB (λe3=>⟨(),⟨?_⟩,rfl,rfl,rfl,rfl,rfl,rfl,trivial⟩) (λe3=>aB (λe4=>⟨(),⟨?_⟩,rfl,rfl,rfl,rfl,rfl,rfl,trivial⟩) (λe4=>iC hK ?_))))))
   .have e2':v.op=3:=by simpa using e2
    have hv3:jT cols params p=(p.args.length==0&&v.cmp>=1&&v.cmp<=6&&kindOf cols params v.left !=0&&kindOf cols params v.left==kindOf cols params v.right):=by rw[hv];simp[e2']
    rw[hv3]at hK;refine aB (λe3=>aB (λe4=>aB (λe5=>aB (λe6=>iC hK ?_) (λe6=>iC hK ?_)) (λe5=>iC hK ?_)) (λe4=>iC hK ?_)) (λe3=>iC hK ?_)
    all_goals (rw[hz]at e3;simp only[beq_iff_eq,decide_eq_true_eq,decide_eq_false_iff_not]at*;simp[*])
   .rw[hz']at e3;rw[hv];simp_all
   .rw[hz']at e3;rw[hv];have e3':p.args.length=0:=by simpa using e3
    rw[hnil e3',e3'];simp[e]
   .rw[hz']at e3;rw[hv];simp_all
   .rw[hz']at e3;rw[hv];have e3':p.args.length=0:=by simpa using e3
    rw[hnil e3',e3'];simp[e1]
   .rw[h1]at e6;rw[hv];simp_all
   .rw[h1]at e6;rw[hv];simp_all
   .rw[hv];simp[e,e1,e2,e3]
   .rw[hv];simp[e,e1,e2,e4]
   .rw[hv];simp_all
  .intro _ htl;rw[htl.eq]at hK;refine aB (λe=>iC hK ?_) (λe=>⟨V9 v.left eM,Aw v.left eM,aB (λe1=>iC hK ?_) (λe1=>⟨V9 v.right eM,Aw v.right eM,aB (λe2=>iC hK ?_) (λe2=>?_)⟩)⟩)
   .simp_all [sE]
   .simp_all [sE]
   .simp_all [sE]
   .have e:sE v=true:=by simp_all [sE]
    rw[e,Bool.true_and]at hK;refine⟨⟨0,⟨aC,by simp⟩,rfl,rfl,rfl,rfl,rfl,rfl,rfl,rfl,rfl,trivial⟩,λi hi=>aE (λhlt=>?_) (λhge=>iC hK ?_)⟩
    .obtain⟨q,hq⟩:∃q,p.args[i]? =some q:=⟨p.args[i]'(by omega),List.getElem?_eq_getElem _⟩
     obtain⟨b,o,u,ea,hrd,hru⟩:=hget i q hq;refine⟨b,o,ea,aC,hlt,u,.imm (by simpa using hrd),s,t,cols,params,u,q,rfl,hs,ht,hru,?_,aB (λhd=>iC hK ?_) (λhd=>?_)⟩
     .have:=Ax (List.mem_of_getElem? hq);omega
     .exact yL hq (by simpa using hd)
     .refine⟨i+1,⟨aC,?_⟩,aC,rfl,rfl,rfl,rfl,by rw[jA aC],rfl,rfl,rfl,rfl,trivial⟩;rw[wI hq,hi.2];simpa using hd
    .have:=hi.2
     rwa [List.take_of_length_le aC]at this
theorem drop_cons{α:Type}{l:List α}{x:α}(h:l[i]? =some x):l.drop i=x::l.drop (i+1):=by
 have hi:i<l.length:=(List.getElem?_eq_some_iff.1 h).1;rw[List.drop_eq_getElem_cons hi];rw[List.getElem?_eq_getElem hi]at h;simp at h;rw[h]
mutual
def kH:Pred->Nat->Int->Bool×Int
 |.mk _ _ _ _ args,k,b=>if b<1 then(false,b-1)else match k with|0=>(false,b-1)|k+1=>sB args k (b-1)
def sB:List Pred->Nat->Int->Bool×Int
 |[],_,b=>(true,b)
 |p::ps,k,b=>match kH p k b with|(false,b')=>(false,b')|(true,b')=>sB ps k b'
end
mutual
def Wm:Pred->Int
 |.mk _ _ _ _ args=>1+Fi args
def Fi:List Pred->Int
 |[]=>0
 |p::ps=>Wm p+Fi ps
end
mutual
theorem NI:∀p:Pred,1<=Wm p
 |.mk _ _ _ _ args=>by have:=CD args;simp only[Wm];omega
theorem CD:∀ps:List Pred,0<=Fi ps
 |[]=>by simp[Fi]
 |p::ps=>by have:=NI p;have:=CD ps;simp only[Fi];omega
end
mutual
theorem L2:∀(p:Pred)(n:Int),n<=24->(n+Wm p<=24->mQ p n=n+Wm p)/\(24<n+Wm p->mQ p n=25)
 |.mk _ _ _ _ args,n,h=>by
  obtain⟨h1,h2⟩:=Kh args (n+1) aC;simp only[mQ,Wm];exact⟨λe=>by rw[h1 aC];omega,λe=>h2 aC⟩
theorem Kh:∀(ps:List Pred)(n:Int),n<=25->(n+Fi ps<=24->j7 ps n=n+Fi ps)/\(24<n+Fi ps->j7 ps n=25)
 |[],n,h=>by
  simp only[j7,Fi];omega
 |p::ps,n,h=>by
  have h1:=NI p;have h2:=CD ps;simp only[j7,Fi];by_cases h3:n<=24
  .rw[if_pos h3];have h4:=L2 p n h3;have h5:=(Bt p n h3).2;have h6:=Kh ps _ h5;by_cases h7:n+Wm p<=24
   .have h8:=h4.1 h7;rw[h8]at h6⊢
    exact⟨λe=>by rw[h6.1 aC];omega,λe=>h6.2 aC⟩
   .have h8:=h4.2 aC;rw[h8]at h6⊢
    exact⟨λe=>by omega,λe=>h6.2 aC⟩
  .rw[if_neg h3];omega
end
mutual
theorem GQ:∀(p:Pred)(k:Nat)(b:Int),0<=b->((kH p k b).1=true↔Wm p<=b/\lD p k=false)/\((kH p k b).1=true->(kH p k b).2=b-Wm p)
 |.mk _ _ _ _ args,k,b,h=>by
  have hp:=CD args;simp only[kH,Wm];by_cases h0:b<1
  .rw[if_pos h0];exact⟨⟨λe=>(by cases e),λe=>aC⟩,λe=>(by cases e)⟩
  .rw[if_neg h0];cases k with
   |zero=>exact⟨⟨λe=>(by cases e),λe=>(by simp[lD]at e)⟩,λe=>(by cases e)⟩
   |succ k=>
    obtain⟨h1,h2⟩:=JU args k (b-1) aC;simp only[lD];refine⟨⟨λe=>?_,λe=>h1.2 ⟨aC,e.2⟩⟩,λe=>by have:=h2 e;omega⟩;have:=h1.1 e;exact⟨aC,this.2⟩
theorem JU:∀(ps:List Pred)(k:Nat)(b:Int),0<=b->((sB ps k b).1=true↔Fi ps<=b/\qU ps k=false)/\((sB ps k b).1=true->(sB ps k b).2=b-Fi ps)
 |[],k,b,h=>by simp[sB,Fi,qU,h]
 |p::ps,k,b,h=>by
  obtain⟨h1,h2⟩:=GQ p k b h;have hp:=CD ps;simp only[sB,Fi,qU];cases e:kH p k b with
  |mk r b'=>
   rw[e]at h1 h2;cases r with
   |false=>
    refine⟨⟨λe=>(by cases e),λe=>?_⟩,λe=>(by cases e)⟩;have:=h1.2 ⟨aC,(Bool.or_eq_false_iff.1 e.2).1⟩;cases this
   |true=>
    have h3:=h2 rfl;have h1:=h1.1 rfl;simp only at h3;obtain⟨h4,h5⟩:=JU ps k b' aC;refine⟨⟨λe=>?_,λe=>?_⟩,λe=>by have:=h5 e;simp only;omega⟩
    .have:=h4.1 e;exact⟨aC,by rw[h1.2,this.2];rfl⟩
    .exact h4.2 ⟨aC,(Bool.or_eq_false_iff.1 e.2).2⟩
end
def iS(cols params:List Int)(p:Pred):Int:=
 if !cols.all cT|| !params.all cT then 1
 else if mQ p 0>24||lD p 8 then 2
 else if !jT cols params p then 50 else 0
theorem U2(p:Pred):(kH p 8 24).1= !(decide (mQ p 0>24)||lD p 8):=by
 have h1:=(GQ p 8 24 aC).1;have h2:=L2 p 0 aC;rw[Bool.eq_iff_iff,h1];simp only[Bool.not_eq_true',Bool.or_eq_false_iff,decide_eq_false_iff_not];refine and_congr_left λ_=>⟨λe=>?_,λe=>?_⟩
 .rw[h2.1 aC];omega
 .by_cases h3:Wm p<=24
  .exact h3
  .rw[h2.2 aC]at e;omega
def pL(n:Int):Obj:=.cells #[.int .i64 n] 3 (0,0)
def Ty(N:Nat):Vc.Spec:=λcvs m h K=>∃v p,∃k b:Nat,∃n,cvs=[aP v,cI (9-k),cP b]/\fF h p v/\SizeOf.sizeOf p<N/\k<=9/\0<=n/\n<=24/\m b=some (pL n)/\∀m',fV m m' b (pL (kH p k n).2)->K (cB (kH p k n).1) m' h
noncomputable def Xo(N:Nat)(v:PV)(p:Pred)(k b:Nat)(n:Int)(m:MH)(h:PH):Ctx:=
 ctx [(137,Ty N)] [(5,{A:=Nat×Int×MH,st:=λx=>cE 36 39 [(1,iv (9-k)),(2,vv (.pointer (some ⟨b,0,none⟩))),(23,sv v.args),(24,iv v.args.len),(25,iv x.1)] [] x.2.2 h,inv:=λx=>x.1<=p.args.length/\0<=x.2.1/\x.2.1<=24/\fV m x.2.2 b (pL x.2.1)/\1<=k/\sB (p.args.drop x.1) (k-1) x.2.1=kH p k n,mu:=λx=>p.args.length-x.1})] [] [] false
def rT:Vc.Spec:=λcvs m h K=>∃s t v cols params p,cvs=[cS s,cS t,aP v]/\Ints h s cols/\Ints h t params/\fF h p v/\K (cI (iS cols params p)) m h
noncomputable def YR(N:Nat):Ctx:=ctx [(64,Lo),(97,TD N),(98,OO N),(99,OE N)] [] [] [] false
noncomputable def Xw(N:Nat):Ctx:=ctx [(136,Lo),(137,Ty N),(138,Le N)] [] [] [] false
abbrev lA(a:MH)(b:PH)(c d:Nat)(e:Int->Prop):Prop:=∃(x:Int),aM a b c d (cK x)/\e x
abbrev eX(a:(Array Value)->TypeId->Prop):Prop:=∃(x:Array Value)(x1:TypeId),a x x1
noncomputable abbrev dV(a:Array Value)(b:TypeId)(c:Nat):Obj:=Obj.cells a b (c,c)
abbrev bE(a b:MH)(c:Nat)(d:List Value)(e:Nat):Prop:=fV a b c (dV (Array.mk d) e 0)
noncomputable abbrev eU(a:Value)(b:Nat)(c:Array Value):List Value:=a::List.drop b c.toList
abbrev fC(a b:Int)(c d:Prop):Prop:=branch (decide (a>b)) c d
noncomputable abbrev pX(a:Nat):Int:=9-(↑a:Int)
noncomputable abbrev IX(a:Nat×Int×MH)(b:Pred)(c:Nat):Bool×Int:=sB (List.drop a.1 b.args) (c-1) a.2.1
abbrev kW(a:Int):Prop:=eQ (gS a)
abbrev cV(a:Nat):Prop:=eQ (Wy a 0)
noncomputable abbrev bT(a:List Value)(b:List CV):List CV:=jM a::b
attribute [push_cast] lA eX dV bE eU fC pX IX kW cV bT
def MS(N:Nat)(v:PV)(p:Pred)(k b:Nat)(n:Int)(m:MH)(h:PH)(K:CV->MH->PH->Prop):Prop:=
  lA m h b 0 (λy=>eX (λc E=>aA (oX m b (dV c E 0)) (0<c.size) (∀(m1:MH),bE m m1 b (eU (eW (eB (y-1))) 1 c) E->lA m1 h b 0 (λy1=>bD y1 0 (K bA m1 h) (fC (pX k) 8 (K bA m1 h) ((∃(x:Nat×Int×MH),aA (aA (x.1<=pI p) (cN x.2.1) (aA (x.2.1<=24) (bE m x.2.2 b (cK x.2.1) 3) (1<=k/\IX x p k=kH p k n))) (kW (pX k)) (aA (cV b) (aK v.args) (aA (bK v.args) (bG x.1) (aA (m1=x.2.2) (h=h) True))))/\∀(x:Nat×Int×MH),aA (x.1<=pI p) (cN x.2.1) (aA (x.2.1<=24) (bE m x.2.2 b (cK x.2.1) 3) (1<=k/\IX x p k=kH p k n))->bD (↑x.1:Int) (aG v.args) (aT (λb1 o=>aH (aU v.args.a b1 o) (0<=(↑x.1:Int)) ((↑x.1:Int)<aG v.args) (∃(y2:PV),aM x.2.2 h b1 (bB o x.1 13) y2.enc/\wS
 (λv1 p1=>aT (λk1 b2=>∃(n1:Int),aA (bT y2.enc (bI (fK (eB (pX k+1))) (rX b 0))=bT v1.enc (bI (fK (pX k1)) (rX b2 0))) (fF h p1 v1) (aA (pF p1 N) (k1<=9) (aH (cN n1) (n1<=24) (x.2.2 b2=Option.some (dV (Array.mk (cK n1)) 3 0)) (∀(m2:MH),gU (bE x.2.2 m2 b2 (cK (kH p1 k1 n1).2) 3) (!(kH p1 k1 n1).1) (K bA m2 h) (∃(y3:Nat×Int×MH),aA (aA (y3.1<=pI p) (cN y3.2.1) (aA (y3.2.1<=24) (bE m y3.2.2 b (cK y3.2.1) 3) (1<=k/\IX y3 p k=kH p k n))) (pI p-y3.1<pI p-x.1) (aA (kW (pX k)) (cV b) (aA (aK v.args) (bK v.args) (aA (gS (aW x.1 1)=bX y3.1) (m2=y3.2.2) (dC h h))))))))))))) (K gE x.2.2 h)))))))
abbrev AL(a:Sl->(List Int)->Prop):Prop:=∃(x:Sl)(x1:List Int),a x x1
abbrev vT(a b:Sl):Prop:=fH (kU a) (kU b)
abbrev FG(a:Sl)(b:PH)(c:CV->MH->PH->Prop)(d:MH)(e:Prop):Prop:=AL (λx x1=>aA (vT a x) (Ints b x x1) (branch (!(EN x1)) (c (fK 1) d b) e))
attribute [push_cast] AL vT FG
def Qd(N:Nat)(s t:Sl)(v:PV)(m:MH)(h:PH)(K:CV->MH->PH->Prop):Prop:=
  FG s h K m (FG t h K m (wS (λv1 p=>∃(k:Int),aA (bU (eN v) 0=bU (eN v1) k) (fF h p v1) (aA (pF p N) (cN k) (k<=24/\fC (mQ p k) 24 (K (fK 2) m h) (wS (λv2 p1=>FH (bU (eN v) 8) (eN v2) (fF h p1 v2) (pF p1 N) (λk1=>branch (lD p1 k1) (K (fK 2) m h) (kV (λs1 t1=>qK (λc p2=>wS (λv3 p3=>aA (dP s (fW t (eN v))=dP s1 (fW t1 (eN v3))) (Ints h s1 c) (aA (Ints h t1 p2) (fF h p3 v3) (hP (pF p3 N) (!(jT c p2 p3)) (K (fK 50) m h) (K (fK 0) m h)))))))))))))))
abbrev bC(a b c:Prop):Prop:=a->b->c
attribute [push_cast] bC
def M4(N:Nat)(s t:Sl)(v:PV)(m:MH)(h:PH)(K:CV->MH->PH->Prop):Prop:=
  FG s h K m (FG t h K m (∀(b:Nat)(m1:MH),bC (cM m h b) (bE m m1 b (cK 24) 3) (wS (λv1 p=>aT (λk b1=>∃(n:Int),aA (bT v.enc (bI (fK 1) (rX b 0))=bT v1.enc (bI (fK (pX k)) (rX b1 0))) (fF h p v1) (aA (pF p N) (k<=9) (aH (cN n) (n<=24) (m1 b1=Option.some (dV (Array.mk (cK n)) 3 0)) (∀(m2:MH),gU (bE m1 m2 b1 (cK (kH p k n).2) 3) (!(kH p k n).1) (K (fK 2) m2 h) (kV (λs1 t1=>qK (λc p1=>wS (λv2 p2=>aA (bI (jM (kX (eR s) (eR t))) (eN v)=bI (jM (kX (eR s1) (eR t1))) (eN v2)) (Ints h s1 c) (aA (Ints h t1 p1) (fF h p2 v2) (hP (pF p2 N) (!(jT c p1 p2)) (K (fK 50) m2 h) (K (fK 0) m2 h)))))))))))))))
end Go.Ps
namespace Go.Vc
open Go.Ps Go.Proofs
theorem fV.trans{m m' m'':MH}{b:Nat}{o o':Obj}(h1:fV m m' b o)(h2:fV m' m'' b o'):fV m m'' b o':=⟨h2.at_,λb' hb=>(h2.other b' hb).trans (h1.other b' hb)⟩
end Go.Vc
namespace Go.Ps
open Go Go.Vc Go.Proofs
variable{K:CV->MH->PH->Prop}{m:MH}{h:PH}{ps:List Int}{cb:Nat}{sc:bH}{v:QV}{q:Query}{p:Pred}{l:List Int}{i:Nat}{N:Nat}{m':MH}{h':PH}{co:List Int}{gr:List Int}{od:List (Int×Bool)}{w:Pred}{ta:Int}{li:Int}{xs:List (List Value)}{sz:Nat}{k:Nat}{ks:List (List Int)}{rs:List Int}{r:Sl}{a:List Int}{b:Nat}
theorem QO:∀N,Sound Tryz.prog 137 (Ty N)
 |0=>by
  refine fA (fn:=Tryz.f137) (c:=cQ Tryz.f137) Tryz.func137 rfl (by decide) ?_;rintro cvs m h K ⟨v,p,k,b,n,rfl,hr,hN,_⟩;omega
 |N+1=>by
  refine iJ Tryz.func137 ?_;rintro cvs m h K ⟨v,p,k,b,n,rfl,hr,hN,hk,h0,h1,hm,hK⟩;refine⟨Xo N v p k b n m h,rfl,aD (QO N) aF,MS N v p k b n m h K,by kernel_rfl,?_⟩;dsimp only[MS,push_cast];obtain⟨hl,hlen,hget⟩:=hr.open;have hw:IntKind.i64.wrap (n-1)=n-1:=dX aC aC;refine⟨n,.of_m hm rfl,_,_,⟨hm⟩,by simp,λm' hu=>?_⟩;rw[hw]at hu;have hu':fV m m' b (pL (n-1)):=hu;refine⟨n-1,.of_m hu'.at_ rfl,aE (λh2=>?_) (λh2=>aE (λh3=>?_) (λh3=>?_))⟩
  .have e:kH p k n=(false,n-1):=by cases p;simp only[kH];rw[if_pos aC]
   rw[e]at hK;exact hK m' hu'
  .have hk0:k=0:=by omega
   subst hk0;have e:kH p 0 n=(false,n-1):=by cases p;simp only[kH];rw[if_neg aC]
   rw[e]at hK;exact hK m' hu'
  .refine⟨⟨(0,n-1,m'),⟨by simp,by simp only;omega,by simp only;omega,hu',aC,?_⟩,MT⟩,?_⟩
   .obtain⟨k',rfl⟩:∃k',k=k'+1:=⟨k-1,aC⟩
    cases p;simp only[kH,List.drop_zero,Pred.args];rw[if_neg aC];rfl
   .rintro⟨i,x,mx⟩ ⟨hi,hx0,hx1,hmx,hk1,he⟩;simp only at hi hx0 hx1 hmx he;refine aE (λhlt=>?_) (λhge=>?_)
    .obtain⟨q,hq⟩:∃q,p.args[i]? =some q:=⟨p.args[i]'(by simp only at hlt;omega),List.getElem?_eq_getElem _⟩
     obtain⟨b1,o,u,ea,hrd,hru⟩:=hget i q hq;have hd:p.args.drop i=q::p.args.drop (i+1):=drop_cons hq;refine⟨b1,o,ea,by simp,by simpa using hlt,u,.imm (by simpa using hrd),u,q,k-1,b,x,?_,hru,?_,aC,hx0,hx1,hmx.at_,λm2 hm2=>?_⟩
     .rw[dX aC aC,show(9-((k-1:Nat):Int))=9-(k:Int)+1 by omega]
     .have:=Ax (List.mem_of_getElem? hq);omega
     .have hmt:fV m m2 b (pL (kH q (k-1) x).2):=hmx.trans hm2;rw[hd,sB]at he;obtain⟨hs1,hs2⟩:=GQ q (k-1) x hx0;cases e:kH q (k-1) x with
      |mk r x'=>
       rw[e]at he hmt hs1 hs2;cases r with
       |false=>
        simp only at he;rw[<-he]at hK;exact hK m2 hmt
       |true=>
        have hs3:=hs1.1 rfl;have hs4:=hs2 rfl;have hq1:=NI q;simp only at hs4 he;exact⟨(i+1,x',m2),⟨by simp only at hlt⊢;omega,by simp only;omega,by simp only;omega,hmt,hk1,he⟩,by simp only at hlt⊢;omega,MT⟩
    .rw[List.drop_of_length_le (by simp only at hge;omega)]at he;simp only[sB]at he;rw[<-he]at hK;exact hK mx hmx
theorem Hm:Sound Tryz.prog 69 rT:=by
 refine iJ Tryz.func69 ?_;rintro cvs m h K ⟨s,t,v,cols,params,p,rfl,hs,ht,hr,hK⟩;refine⟨YR (SizeOf.sizeOf p+1),rfl,aD Mn (aD (Ua _) (aD (T9 _) (aD (T8 _) aF))),Qd (SizeOf.sizeOf p+1) s t v m h K,by kernel_rfl,?_⟩;dsimp only[Qd,push_cast];refine⟨s,cols,rfl,hs,aB (λe1=>xE hK ?_) (λe1=>⟨t,params,rfl,ht,aB (λe2=>xE hK ?_) (λe2=>⟨v,p,0,rfl,hr,aC,aC,aC,aB (λe3=>xE hK ?_) (λe3=>⟨v,p,8,rfl,hr,aC,aC,aB (λe4=>xE hK ?_) (λe4=>⟨s,t,cols,params,v,p,rfl,hs,ht,hr,aC,aB (λe5=>xE hK ?_) (λe5=>xE hK ?_)⟩)⟩)⟩)⟩)⟩
 all_goals (simp only[iS];simp only[*,Bool.or_false,Bool.false_or,Bool.or_true,Bool.true_or,Bool.and_true,Bool.true_and,Bool.and_false,Bool.false_and,Bool.not_true,Bool.not_false,Bool.false_eq_true,if_true,if_false, ↓reduceIte])
theorem Gm{f:FuncId}{fn:Func}(hf:Tryz.prog.funcs[f]? =some fn){S:Vc.Spec}(hvc:∀cvs m h K,S cvs m h K->∃C:Ctx,C.P=Tryz.prog/\(∀g S,assoc C.specs g=some S->Sound Tryz.prog g S)/\∃N:Prop,N=zJ C fn (cQ fn) (entry fn.ntmps cvs m h) (λr m' h'=>∃m2 h2,(∀b o,m2 b=some o->m' b=some o)/\PH.le h h2/\PH.le h2 h'/\K r m2 h2)/\N)(hb:fn.body=some (cQ fn):=by rfl)(hname:(fn.name== "runtime.NumGoroutine")=false:=by decide):Sound Tryz.prog f S:=Vh hf hb hname λcvs m h K hS=>let⟨C,hC,hs,N,e,hn⟩:=hvc cvs m h K hS;⟨C,hC,hs,e▸hn⟩
theorem KX:Sound Tryz.prog 113 rT:=by
 refine Gm Tryz.func113 ?_;rintro cvs m h K ⟨s,t,v,cols,params,p,rfl,hs,ht,hr,hK⟩;refine⟨Xw (SizeOf.sizeOf p+1),rfl,aD SM (aD (QO _) (aD (QN _) aF)),M4 (SizeOf.sizeOf p+1) s t v m h (λr m' h'=>∃m2 h2,(∀b o,m2 b=some o->m' b=some o)/\PH.le h h2/\PH.le h2 h'/\K r m2 h2),by kernel_rfl,?_⟩;dsimp only[M4,push_cast];have hK2:∀(m':MH),(∀b o,m b=some o->m' b=some o)->∀x,iS cols params p=x->∃m2 h2,(∀b o,m2 b=some o->m' b=some o)/\PH.le h h2/\PH.le h2 h/\K (.val (.int .i64 x)) m2 h2:=λm' hm x e=>⟨m,h,hm,.refl _,.refl _,e▸hK⟩
 refine⟨s,cols,rfl,hs,aB (λe1=>hK2 m (λ_ _ e=>e) _ ?_) (λe1=>⟨t,params,rfl,ht,aB (λe2=>hK2 m (λ_ _ e=>e) _ ?_) (λe2 b m1 hb hm1=>⟨v,p,8,b,24,rfl,hr,aC,aC,aC,aC,hm1.at_,λm2 hm2=>?_⟩)⟩)⟩
 .simp only[iS];simp only[*,Bool.or_false,Bool.false_or,Bool.or_true,Bool.true_or,Bool.and_true,Bool.true_and,Bool.and_false,Bool.false_and,Bool.not_true,Bool.not_false,Bool.false_eq_true,if_true,if_false, ↓reduceIte]
 .simp only[iS];simp only[*,Bool.or_false,Bool.false_or,Bool.or_true,Bool.true_or,Bool.and_true,Bool.true_and,Bool.and_false,Bool.false_and,Bool.not_true,Bool.not_false,Bool.false_eq_true,if_true,if_false, ↓reduceIte]
 .have hsub:∀b o,m b=some o->m2 b=some o:=λb' o e=>by
   have hne:b'≠b:=λe'=>by rw[e',hb.m_]at e;cases e
   rw[hm2.other b' hne,hm1.other b' hne,e]
  have hsb:=U2 p;refine aB (λe3=>hK2 m2 hsub _ ?_) (λe3=>⟨s,t,cols,params,v,p,rfl,hs,ht,hr,aC,aB (λe5=>hK2 m2 hsub _ ?_) (λe5=>hK2 m2 hsub _ ?_)⟩)
  all_goals (rw[hsb,Bool.not_not]at e3;clear hsb;simp only[iS];simp only[*,Bool.or_false,Bool.false_or,Bool.or_true,Bool.true_or,Bool.and_true,Bool.true_and,Bool.and_false,Bool.false_and,Bool.not_true,Bool.not_false,Bool.false_eq_true,if_true,if_false, ↓reduceIte])
structure bV{α β:Type}(h:PH)(sz:Nat)(enc:β->List Value)(R:α->β->Prop)(s:Sl)(l:List α):Prop where
 ex:∃vs:List β,cW h s sz (vs.map enc)/\l.length=vs.length/\∀(i:Nat)(x:α),l[i]? =some x->∃v,vs[i]? =some v/\R x v
 len:l.length<=502633886983
theorem bV.slen{α β:Type}{enc:β->List Value}{R:α->β->Prop}{s:Sl}{l:List α}(r:bV h sz enc R s l):s.len=l.length:=by
 obtain⟨vs,h1,h2,_⟩:=r.ex;have:=h1.len;simp at this;omega
theorem bV.at{α β:Type}{enc:β->List Value}{R:α->β->Prop}{s:Sl}{l:List α}(r:bV h sz enc R s l){x:α}(hi:l[i]? =some x):
 ∃b o v,s.a=some ⟨b,o,none⟩/\bF h b (o+i*sz) (enc v)/\R x v:=by
 obtain⟨vs,h1,_,h3⟩:=r.ex;obtain⟨v,hv,hr⟩:=h3 i x hi;obtain⟨b,o,e,k⟩:=h1.get (i:=i) (e:=enc v) (by simp[hv]);exact⟨b,o,v,e,k,hr⟩
theorem bV.mono{α β:Type}{enc:β->List Value}{R R':α->β->Prop}{s:Sl}{l:List α}(r:bV h sz enc R s l)(le:PH.le h h')(hR:∀x v,R x v->R' x v):bV h' sz enc R' s l:=by
 obtain⟨vs,h1,h2,h3⟩:=r.ex;exact⟨⟨vs,h1.mono le,h2,λi x hx=>(h3 i x hx).imp λv hv=>⟨hv.1,hR _ _ hv.2⟩⟩,r.len⟩
theorem bV.nil{α β:Type}(h:PH)(sz:Nat)(enc:β->List Value)(R:α->β->Prop):bV h sz enc R ⟨none,0,0⟩ ([]:List α):=
 ⟨⟨[],.nil h sz,rfl,λi x hx=>by simp at hx⟩,by simp⟩
theorem fI{α:Type}{l:List α}{i n:Nat}(hn:n=l.length)(hi:(i:Int)<(n:Int)):∃x,l[i]? =some x:=⟨l[i]'(by omega),List.getElem?_eq_getElem _⟩
def Df(h:PH)(s:Sl)(ps:List Pred):Prop:=bV h 13 PV.enc (fF h) s ps
theorem Df.mono{s:Sl}{ps:List Pred}(r:Df h s ps)(le:PH.le h h'):Df h' s ps:=bV.mono r le λ_ _=>fF.mono le
theorem uA.toL{s:Sl}{ps:List Pred}{vs:List PV}(h1:cW h s 13 (vs.map PV.enc))(h2:uA h ps vs)(hl:ps.length<=502633886983):Df h s ps:=
 ⟨⟨vs,h1,h2.length.symm,λ_ _ hx=>h2.get hx⟩,hl⟩
theorem uA.ofL{h:PH}:∀{ps:List Pred}{vs:List PV},ps.length=vs.length->(∀(i:Nat)(x:Pred),ps[i]? =some x->∃v,vs[i]? =some v/\fF h x v)->uA h ps vs
 |[],[],_,_=>rfl
 |p::ps,v::vs,hl,hx=>by
  obtain⟨v',h1,h2⟩:=hx 0 p rfl;simp at h1;subst h1;exact⟨v,vs,rfl,h2,uA.ofL (by simpa using hl) λi x e=>by simpa using hx (i+1) x (by simpa using e)⟩
 |[],_::_,hl,_=>by simp at hl
 |_::_,[],hl,_=>by simp at hl
theorem fF.parts{op cmp:Int}{l r:OV}{args:List Pred}{v:PV}(x:fF h (.mk op cmp l r args) v):v.op=op/\v.cmp=cmp/\v.left=l/\v.right=r/\Df h v.args args:=by
 obtain⟨h1,h2,h3,h4,h5,vs,h6,h7⟩:=x;exact⟨h1,h2,h3,h4,h7.toL h6 h5⟩
theorem fF.mk{h:PH}{args:List Pred}{v:PV}(hl:Df h v.args args):fF h (.mk v.op v.cmp v.left v.right args) v:=by
 obtain⟨vs,h1,h2,h3⟩:=hl.ex;exact⟨rfl,rfl,rfl,rfl,hl.len,vs,h1,.ofL h2 h3⟩
def ZJ(N:Nat):Vc.Spec:=λcvs m h K=>∃v w p q,cvs=[aP v,aP w]/\fF h p v/\fF h q w/\SizeOf.sizeOf p<N/\∀r:Bool,(r=true↔p=q)->K (cB r) m h
def Z6(N:Nat):Vc.Spec:=λcvs m h K=>∃s t ps qs,cvs=[cS s,cS t,.val (.func (.func 213) #[] #[])]/\Df h s ps/\Df h t qs/\(∀p∈ps,SizeOf.sizeOf p<N)/\∀r:Bool,(r=true↔ps=qs)->K (cB r) m h
noncomputable def W3(N:Nat):Ctx:=ctx [(224,Z6 N)] [] [] [] false
noncomputable def WZ(N:Nat)(s t:Sl)(ps qs:List Pred)(m:MH)(h:PH):Ctx:=
 ctx [(213,ZJ N)] [CR 4 (λi=>cE 32 35 [(1,sv t),(2,vv (.func (.func 213) #[] #[])),(15,sv s),(16,iv s.len),(17,iv i)] [] m h) (λi=>i<=ps.length/\∀j:Nat,j<i->ps[j]? =qs[j]?) (λi=>ps.length-i)] [] [] false
noncomputable def Xg(N:Nat)(v w:PV)(ps qs:List Pred)(m:MH)(h:PH):Ctx:=
 ctx [(163,ZJ N)] [CR 4 (λi=>cE 60 62 [(2,.at (.ptr 2 0)),(3,.at (.ptr 3 0)),(43,iv v.args.len),(44,iv i)] [(2,.cells 32 (v.enc.map .val)),(3,.cells 32 (w.enc.map .val))] m h) (λi=>i<=ps.length/\∀j:Nat,j<i->ps[j]? =qs[j]?) (λi=>ps.length-i)] [] [] false
noncomputable abbrev rW:Array Value:=Array.mk []
noncomputable abbrev xQ(a:Nat):CV:=CV.val (Value.func (Fn.func a) rW rW)
abbrev gC(a:Bool)(b:Prop):Prop:=nD a↔b
attribute [push_cast] rW xQ gC
def Hr(N:Nat)(v w:PV)(m:MH)(h:PH)(K:CV->MH->PH->Prop):Prop:=
  eJ v.op w.op (eJ v.cmp w.cmp (∃(r:Bool),hP (lT 29 v.left.enc w.left.enc r) r (∃(r1:Bool),hP (lT 29 v.right.enc w.right.enc r1) r1 (kV (λs t=>∃(p q:List Pred),aA (dP v.args (fW w.args (xQ 213))=dP s (fW t (xQ 213))) (Df h s p) (aA (Df h t q) (∀(p1:Pred),List.Mem p1 p->pF p1 N) (∀(r2:Bool),gC r2 (p=q)->K (A7 r2) m h)))) (K bA m h)) (K bA m h)) (K bA m h)) (K bA m h)
abbrev BL(a:Nat)(b c:List Pred):Prop:=gY (a<=b.length) (λx=>x<a->b[x]? =c[x]?)
noncomputable abbrev F9(a:Fn)(b:Array Value):SV:=SV.at (At.val (Value.func a rW b))
abbrev B5(a:Nat):Prop:=eQ (F9 (Fn.func a) rW)
abbrev FW(a:PV->PV->Pred->Pred->Prop):Prop:=∃(x:PV),wS (λx1 x2=>∃(x3:Pred),a x x1 x2 x3)
attribute [push_cast] BL F9 B5 FW
def Ms(N:Nat)(s t:Sl)(ps qs:List Pred)(m:MH)(h:PH)(K:CV->MH->PH->Prop):Prop:=
  fQ (aG s) (aG t) (K bA m h) (gY (∃(x:Nat),aA (BL x ps qs) (aK t) (aA (B5 213) (aK s) (aA (bK s) (bG x) (aA (m=m) (h=h) True)))) (λx=>BL x ps qs->bD (↑x:Int) (aG s) (aT (λb o=>aH (aU s.a b o) (0<=(↑x:Int)) ((↑x:Int)<aG s) (∃(y:PV),aM m h b (bB o x 13) y.enc/\aT (λb1 o1=>aH (aU t.a b1 o1) (0<=(↑x:Int)) ((↑x:Int)<aG t) (∃(y1:PV),aM m h b1 (bB o1 x 13) y1.enc/\FW (λv w p q=>aA (bI (eN y) (eN y1)=bI (eN v) (eN w)) (fF h p v) (aA (fF h q w) (pF p N) (∀(r:Bool),gC r (p=q)->gX (!r) (K bA m h) (λy2=>aA (BL y2 ps qs) (ps.length-y2<ps.length-x) (aA (aK t) (B5 213) (aA (aK s) (bK s) (aA (gS (aW x 1)=bX y2) (m=m) (dC h h))))))))))))) (K
 gE m h)))
def Hw(N:Nat)(v w:PV)(ps qs:List Pred)(m:MH)(h:PH)(K:CV->MH->PH->Prop):Prop:=
  dH (v.op !=w.op) (K bA m h) (v.cmp !=w.cmp) (K bA m h) (∃(r:Bool),hP (lT 29 v.left.enc w.left.enc r) (!r) (K bA m h) (∃(r1:Bool),lT 29 v.right.enc w.right.enc r1/\dH (!r1) (K bA m h) (rD v !=rD w) (K bA m h) (gY (∃(x:Nat),aA (BL x ps qs) fN (aA iE (bK v.args) (aA (bG x) (lI v) (aA (lI w) (m=m) (dC h h))))) (λx=>BL x ps qs->bD (↑x:Int) (aG v.args) (aT (λb o=>aH (aU v.args.a b o) (0<=(↑x:Int)) ((↑x:Int)<aG v.args) (∃(y:PV),aM m h b (bB o x 13) y.enc/\aT (λb1 o1=>aH (aU w.args.a b1 o1) (0<=(↑x:Int)) ((↑x:Int)<aG w.args) (∃(y1:PV),aM m h b1 (bB o1 x 13) y1.enc/\FW (λv1 w1 p q=>aA (bI (eN y) (eN y1)=bI (eN v1) (eN w1)) (fF h p v1) (aA (fF h q w1)
 (pF p N) (∀(r2:Bool),gC r2 (p=q)->gX (!r2) (K bA m h) (λy2=>aA (BL y2 ps qs) (ps.length-y2<ps.length-x) (aA fN iE (aA (bK v.args) (gS (aW x 1)=bX y2) (aA (lI v) (lI w) (eH m m h h))))))))))))) (K gE m h)))))
theorem yS{α:Type}{a b:List α}(hl:a.length=b.length)(hi:a.length<=i)(h:∀j:Nat,j<i->a[j]? =b[j]?):a=b:=by
 apply List.ext_getElem?;intro j;by_cases hj:j<i
 .exact h j hj
 .rw[List.getElem?_eq_none aC,List.getElem?_eq_none aC]
theorem uT{α:Type}{a b:List α}{x y:α}(hx:a[i]? =some x)(hy:b[i]? =some y)(e:x=y)(h:∀j:Nat,j<i->a[j]? =b[j]?):∀j:Nat,j<i+1->a[j]? =b[j]? :=by
 intro j hj;by_cases e':j=i
 .subst e';rw[hx,hy,e]
 .exact h j aC
theorem L3{α:Type}{a b:List α}{x y:α}(hx:a[i]? =some x)(hy:b[i]? =some y)(e:x≠y):a≠b:=λh=>by
 subst h;rw[hx]at hy;simp at hy;exact e hy
theorem G9{α β:Type}{s t:Sl}{a:List α}{b:List β}(hs:s.len=a.length)(ht:t.len=b.length)(e:((s.len:Int) !=(t.len:Int))=true):a.length≠b.length:=λh=>by
 rw[hs,ht,h]at e;simp at e
theorem Ha{α β:Type}{s t:Sl}{a:List α}{b:List β}(hs:s.len=a.length)(ht:t.len=b.length)(e:((s.len:Int) !=(t.len:Int))=false):a.length=b.length:=by
 have:(s.len:Int)=t.len:=by simpa using e
 omega
theorem Ze{v w:PV}{q:Pred}(hv:fF h p v)(hw:fF h q w)(hN:SizeOf.sizeOf p<N+1)(hK:∀r:Bool,(r=true↔p=q)->K (cB r) m h):Hr N v w m h K:=by
 dsimp only[Hr,push_cast];have hf:p≠q->K (cB false) m h:=λh=>hK false ⟨λe=>(by cases e),λe=>(h e).elim⟩;have hargs:=@Ax p;obtain⟨op,cmp,l,r,ps⟩:=p;obtain⟨op',cmp',l',r',qs⟩:=q;obtain⟨rfl,rfl,rfl,rfl,hps⟩:=hv.parts;obtain⟨rfl,rfl,rfl,rfl,hqs⟩:=hw.parts;refine aB (λh1=>aB (λh2=>⟨_,Aw _ _,aB (λh3=>⟨_,Aw _ _,aB (λh4=>⟨v.args,w.args,ps,qs,rfl,hps,hqs,λp hp=>?_,λr hr=>hK r (hr.trans ?_)⟩) (λh4=>hf λe=>?_)⟩) (λh3=>hf λe=>?_)⟩) (λh2=>hf λe=>?_)) (λh1=>hf λe=>?_)
 .have:=hargs (q:=p) hp;omega
 .rw[Cf]at h3 h4;simp only[beq_iff_eq]at h1 h2;rw[h1,h2,h3,h4];exact⟨λe=>by rw[e],λe=>by injection e⟩
 .injection e with _ _ _ e _;rw[Cf.2 e]at h4;cases h4
 .injection e with _ _ e _ _;rw[Cf.2 e]at h3;cases h3
 .injection e with _ e _ _ _;rw[e]at h2;simp at h2
 .injection e with e _ _ _ _;rw[e]at h1;simp at h1
theorem QF:∀N,Sound Tryz.prog 213 (ZJ N)
 |0=>by
  refine fA (fn:=Tryz.f213) (c:=cQ Tryz.f213) Tryz.func213 rfl (by decide) ?_;rintro cvs m h K ⟨v,w,p,q,rfl,hr,_,hN,_⟩;omega
 |N+1=>by
  have h144:Sound Tryz.prog 224 (Z6 N):=by
   refine iJ Tryz.func224 ?_;rintro cvs m h K ⟨s,t,ps,qs,rfl,ha,hb,hN,hK⟩;refine⟨WZ N s t ps qs m h,rfl,aD (QF N) aF,Ms N s t ps qs m h K,by kernel_rfl,?_⟩;dsimp only[Ms,push_cast];have hsa:=ha.slen;have htb:=hb.slen;have hla:=ha.len;have hf:ps≠qs->K (cB false) m h:=λh=>hK false ⟨λe=>(by cases e),λe=>(h e).elim⟩;refine aB (λh1=>hf (λe=>G9 hsa htb h1 (by rw[e]))) (λh1=>?_);have hl:=Ha hsa htb h1;refine⟨⟨0,⟨aC,λj hj=>by omega⟩,MT⟩,λi hi=>aE (λhlt=>?_) (λhge=>?_)⟩
   .obtain⟨x,hx⟩:=fI hsa hlt;obtain⟨y,hy⟩:∃y,qs[i]? =some y:=fI (n:=s.len) aC hlt;obtain⟨b1,o1,u,e1,r1,ru⟩:=ha.at hx;obtain⟨b2,o2,w,e2,r2,rw'⟩:=hb.at hy;refine⟨b1,o1,e1,aC,hlt,u,.imm r1,b2,o2,e2,aC,aC,w,.imm r2,u,w,x,y,rfl,ru,rw',hN x (List.mem_of_getElem? hx),λr hr=>aB (λhne=>hf (L3 hx hy (λe=>?_))) (λhe=>?_)⟩
    .have:=hr.2 e;subst this;cases hne
    .have hr':r=true:=by simpa using he
     exact⟨i+1,⟨aC,uT hx hy (hr.1 hr') hi.2⟩,aC,MT⟩
   .exact hK true ⟨λ_=>yS hl aC hi.2,λ_=>rfl⟩
  refine iJ Tryz.func213 ?_;rintro cvs m h K ⟨v,w,p,q,rfl,hr,hq,hN,hK⟩;refine⟨W3 N,rfl,aD h144 aF,Hr N v w m h K,by kernel_rfl,?_⟩;exact Ze hr hq hN hK
theorem Zj{v w:PV}{q:Pred}(hv:fF h p v)(hw:fF h q w)(hN:SizeOf.sizeOf p<N+1)(hK:∀r:Bool,(r=true↔p=q)->K (cB r) m h):Hw N v w p.args q.args m h K:=by
 dsimp only[Hw,push_cast];have hf:p≠q->K (cB false) m h:=λh=>hK false ⟨λe=>(by cases e),λe=>(h e).elim⟩;have hargs:=@Ax p;obtain⟨op,cmp,l,r,ps⟩:=p;obtain⟨op',cmp',l',r',qs⟩:=q;obtain⟨rfl,rfl,rfl,rfl,ha⟩:=hv.parts;obtain⟨rfl,rfl,rfl,rfl,hb⟩:=hw.parts;simp only[Pred.args]at hargs⊢
 have hsa:=ha.slen;have htb:=hb.slen;have hla:=ha.len;refine aB (λh1=>hf λe=>?_) (λh1=>aB (λh2=>hf λe=>?_) (λh2=>⟨_,Aw _ _,aB (λh3=>hf λe=>?_) (λh3=>⟨_,Aw _ _,aB (λh4=>hf λe=>?_) (λh4=>aB (λh5=>hf λe=>?_) (λh5=>?_))⟩)⟩))
 .injection e with e _ _ _ _;rw[e]at h1;simp at h1
 .injection e with _ e _ _ _;rw[e]at h2;simp at h2
 .injection e with _ _ e _ _;rw[Cf.2 e]at h3;cases h3
 .injection e with _ _ _ e _;rw[Cf.2 e]at h4;cases h4
 .injection e with _ _ _ _ e;exact G9 hsa htb h5 (by rw[e])
 .have hl:=Ha hsa htb h5;have h3:v.left=w.left:=Cf.1 (by simpa using h3);have h4:v.right=w.right:=Cf.1 (by simpa using h4);have h1:v.op=w.op:=by simpa using h1
  have h2:v.cmp=w.cmp:=by simpa using h2
  rw[h1,h2,h3,h4]at hK hf;have hf:ps≠qs->K (cB false) m h:=λhne=>hf λe=>hne (by injection e);refine⟨⟨0,⟨aC,λj hj=>by omega⟩,MT⟩,λi hi=>aE (λhlt=>?_) (λhge=>?_)⟩
  .obtain⟨x,hx⟩:=fI hsa hlt;obtain⟨y,hy⟩:∃y,qs[i]? =some y:=fI (n:=v.args.len) aC hlt;obtain⟨b1,o1,u,e1,r1,ru⟩:=ha.at hx;obtain⟨b2,o2,z,e2,r2,rz⟩:=hb.at hy;refine⟨b1,o1,e1,aC,hlt,u,.imm r1,b2,o2,e2,aC,aC,z,.imm r2,u,z,x,y,rfl,ru,rz,?_,λr hr=>aB (λhne=>hf (L3 hx hy (λe=>?_))) (λhe=>?_)⟩
   .have:=hargs (List.mem_of_getElem? hx);omega
   .have:=hr.2 e;subst this;cases hne
   .have hr':r=true:=by simpa using he
    exact⟨i+1,⟨aC,uT hx hy (hr.1 hr') hi.2⟩,aC,MT⟩
  .exact hK true ⟨λ_=>by rw[yS hl aC hi.2],λ_=>rfl⟩
theorem QJ:∀N,Sound Tryz.prog 163 (ZJ N)
 |0=>by
  refine fA (fn:=Tryz.f163) (c:=cQ Tryz.f163) Tryz.func163 rfl (by decide) ?_;rintro cvs m h K ⟨v,w,p,q,rfl,hr,_,hN,_⟩;omega
 |N+1=>by
  refine iJ Tryz.func163 ?_;rintro cvs m h K ⟨v,w,p,q,rfl,hr,hq,hN,hK⟩;refine⟨Xg N v w p.args q.args m h,rfl,aD (QJ N) aF,Hw N v w p.args q.args m h K,by kernel_rfl,?_⟩;exact Zj hr hq hN hK
def ZK:Vc.Spec:=λcvs m h K=>∃v w p q,cvs=[aP v,aP w]/\fF h p v/\fF h q w/\∀r:Bool,(r=true↔p=q)->K (cB r) m h
theorem xD{f:FuncId}{S:Nat->Vc.Spec}{S':Vc.Spec}(h:∀N,Sound Tryz.prog f (S N))(hs:∀cvs m h K,S' cvs m h K->∃N,S N cvs m h K):Sound Tryz.prog f S':=by
 refine⟨(h 0).1,λcvs vs m hh w K hS hp=>?_⟩;obtain⟨N,hN⟩:=hs cvs m hh K hS;exact(h N).2 cvs vs m hh w K hN hp
theorem R9:Sound Tryz.prog 213 ZK:=xD QF λ_ _ _ _⟨v,w,p,q,e,h1,h2,h3⟩=>⟨SizeOf.sizeOf p+1,v,w,p,q,e,h1,h2,aC,h3⟩
theorem Ss:Sound Tryz.prog 163 ZK:=xD QJ λ_ _ _ _⟨v,w,p,q,e,h1,h2,h3⟩=>⟨SizeOf.sizeOf p+1,v,w,p,q,e,h1,h2,aC,h3⟩
theorem Gt{d e c i:Nat}{is:List Nat}{xs ys:Array Value}{w:World}{x y:Value}{r r':Bool}(hx:wO Tryz.prog (part e xs (i*c))=some x)(hy:wO Tryz.prog (part e ys (i*c))=some y)
 (he:(Op.equalIn d e x y).run Tryz.prog w= .ok r w)(hr:(Op.eqItems d e c xs ys is).run Tryz.prog w= .ok r' w):(Op.eqItems d e c xs ys (i::is)).run Tryz.prog w= .ok (r&&r') w:=by
 simp only[Op.eqItems,Sem.run_bind,yW _ _ _ hx,yW _ _ _ hy,Result.andThen_ok,he];cases r
 .simp
 .simpa using hr
def agQ(a b:Int×Int):Bool:=a.1==b.1&&(a.2==b.2&&true)
def afJ(a b:Int×Bool):Bool:=a.1==b.1&&(a.2==b.2&&true)
theorem XE(a b:Int×Int):StructEq Tryz.prog 69 (.agg #[.int .i64 a.1,.int .i64 a.2]) (.agg #[.int .i64 b.1,.int .i64 b.2]) (agQ a b):=by
 refine⟨by kernel_rfl,λw=>?_⟩;obtain⟨i,hi⟩:=Option.isSome_iff_exists.1 (show(Tryz.prog.info? 3).isSome=true by kernel_rfl);rw[run_equalIn_array w 9999 (e:=3) (n:=2) _ _ (by kernel_rfl) hi,show Tryz.prog.cellsOf 3=1 by kernel_rfl,show List.range 2=[0,1]from rfl];refine Gt (x:=.int .i64 a.1) (y:=.int .i64 b.1) (by kernel_rfl) (by kernel_rfl) (run_equalIn_int w 9998 _ .i64 .i64 _ _ (by kernel_rfl)) ?_;refine Gt (x:=.int .i64 a.2) (y:=.int .i64 b.2) (by kernel_rfl) (by kernel_rfl) (run_equalIn_int w 9998 _ .i64 .i64 _ _ (by kernel_rfl)) ?_;simp[Op.eqItems]
theorem XD(a b:Int×Bool):StructEq Tryz.prog 72 (.agg #[.int .i64 a.1,.bool a.2]) (.agg #[.int .i64 b.1,.bool b.2]) (afJ a b):=by
 refine⟨by kernel_rfl,λw=>?_⟩;rw[run_equalIn_struct w 9999 72 _ _ (by kernel_rfl) (by kernel_rfl),show(Tryz.prog.fieldsOf 72).toList=[Lv 72 0,Lv 72 1]by kernel_rfl];refine kR (x:=.int .i64 a.1) (y:=.int .i64 b.1) (by kernel_rfl) (by kernel_rfl) (by kernel_rfl) (run_equalIn_int w 9998 _ .i64 .i64 _ _ (by kernel_rfl)) ?_;refine kR (x:=.bool a.2) (y:=.bool b.2) (by kernel_rfl) (by kernel_rfl) (by kernel_rfl) (run_equalIn_bool w 9998 _ _ _ (by kernel_rfl)) ?_;simp[Op.eqFields]
theorem QZ{a b:Int×Int}:agQ a b=true↔a=b:=by
 obtain⟨a1,a2⟩:=a;obtain⟨b1,b2⟩:=b;simp[agQ]
theorem QY{a b:Int×Bool}:afJ a b=true↔a=b:=by
 obtain⟨a1,a2⟩:=a;obtain⟨b1,b2⟩:=b;simp[afJ]
theorem mG.at{s:Sl}{l:List (Int×Int)}(r:mG h s l){x:Int×Int}(hi:l[i]? =some x):∃b o,s.a=some ⟨b,o,none⟩/\bF h b (o+i*2) (u0 x):=r.row.get (by simp[hi])
theorem jC.at{s:Sl}{l:List (Int×Bool)}(r:jC h s l){x:Int×Bool}(hi:l[i]? =some x):∃b o,s.a=some ⟨b,o,none⟩/\bF h b (o+i*2) (Dm x):=r.row.get (by simp[hi])
def No:Vc.Spec:=λcvs m h K=>∃(s t:Sl)(a b:List (Int×Int)),cvs=[cS s,cS t]/\mG h s a/\mG h t b/\∀r:Bool,(r=true↔a=b)->K (cB r) m h
def Nn:Vc.Spec:=λcvs m h K=>∃(s t:Sl)(a b:List (Int×Bool)),cvs=[cS s,cS t]/\jC h s a/\jC h t b/\∀r:Bool,(r=true↔a=b)->K (cB r) m h
noncomputable def QE{α:Type}(s t:Sl)(a b:List α)(m:MH)(h:PH):Ctx:=
 ctx [] [CR 4 (λi=>cE 26 28 [(0,sv s),(1,sv t),(12,iv s.len),(13,iv i)] [] m h) (λi=>i<=a.length/\∀j:Nat,j<i->a[j]? =b[j]?) (λi=>a.length-i)] [] [] false
noncomputable abbrev vJ(a:Int×Int):List Value:=kX (eW a.1) (eW a.2)
attribute [push_cast] vJ
def Mw(s t:Sl)(a b:List (Int×Int))(m:MH)(h:PH)(K:CV->MH->PH->Prop):Prop:=
  fQ (aG s) (aG t) (K bA m h) (gY (∃(x:Nat),aA (gY (x<=a.length) (λj=>j<x->a[j]? =b[j]?)) (aK s) (aA (aK t) (bK s) (dE (bG x) m m h h))) (λx=>gY (x<=a.length) (λj=>j<x->a[j]? =b[j]?)->bD (↑x:Int) (aG s) (aT (λb1 o=>aH (aU s.a b1 o) (0<=(↑x:Int)) ((↑x:Int)<aG s) (∃(y:Int×Int),aM m h b1 (bB o x 2) (vJ y)/\aT (λb2 o1=>aH (aU t.a b2 o1) (0<=(↑x:Int)) ((↑x:Int)<aG t) (∃(y1:Int×Int),aM m h b2 (bB o1 x 2) (vJ y1)/\∃(r:Bool),lT 69 (vJ y) (vJ y1) r/\gX (!r) (K bA m h) (λy2=>aA (gY (y2<=a.length) (λj=>j<y2->a[j]? =b[j]?)) (a.length-y2<a.length-x) (aA (aK s) (aK t) (aA (bK s) (gS (aW x 1)=bX y2) (aA (m=m) (h=h) True))))))))) (K gE m h)))
noncomputable abbrev bW(a:Int)(b:Bool):List Value:=kX (eW a) (Value.bool b)
attribute [push_cast] bW
def Mv(s t:Sl)(a b:List (Int×Bool))(m:MH)(h:PH)(K:CV->MH->PH->Prop):Prop:=
  fQ (aG s) (aG t) (K bA m h) (gY (∃(x:Nat),aA (gY (x<=a.length) (λj=>j<x->a[j]? =b[j]?)) (aK s) (aA (aK t) (bK s) (dE (bG x) m m h h))) (λx=>gY (x<=a.length) (λj=>j<x->a[j]? =b[j]?)->bD (↑x:Int) (aG s) (aT (λb1 o=>aH (aU s.a b1 o) (0<=(↑x:Int)) ((↑x:Int)<aG s) (∃(y:Int×Bool),aM m h b1 (bB o x 2) (bW y.1 y.2)/\aT (λb2 o1=>aH (aU t.a b2 o1) (0<=(↑x:Int)) ((↑x:Int)<aG t) (∃(y1:Int×Bool),aM m h b2 (bB o1 x 2) (bW y1.1 y1.2)/\∃(r:Bool),lT 72 (bW y.1 y.2) (bW y1.1 y1.2) r/\gX (!r) (K bA m h) (λy2=>aA (gY (y2<=a.length) (λj=>j<y2->a[j]? =b[j]?)) (a.length-y2<a.length-x) (aA (aK s) (aK t) (aA (bK s) (gS (aW x 1)=bX y2) (aA (m=m) (h=h)
 True))))))))) (K gE m h)))
theorem R8:Sound Tryz.prog 214 No:=by
 refine iJ Tryz.func214 ?_;rintro cvs m h K ⟨s,t,a,b,rfl,ha,hb,hK⟩;refine⟨QE s t a b m h,rfl,aF,Mw s t a b m h K,by kernel_rfl,?_⟩;dsimp only[Mw,push_cast];have hsa:=ha.slen;have htb:=hb.slen;have hla:=ha.len;have hf:a≠b->K (cB false) m h:=λh=>hK false ⟨λe=>(by cases e),λe=>(h e).elim⟩;refine aB (λh1=>hf (λe=>G9 hsa htb h1 (by rw[e]))) (λh1=>?_);have hl:=Ha hsa htb h1;refine⟨⟨0,⟨aC,λj hj=>by omega⟩,MT⟩,λi hi=>aE (λhlt=>?_) (λhge=>?_)⟩
 .obtain⟨x,hx⟩:=fI hsa hlt;obtain⟨y,hy⟩:∃y,b[i]? =some y:=fI (n:=s.len) aC hlt;obtain⟨b1,o1,e1,r1⟩:=ha.at hx;obtain⟨b2,o2,e2,r2⟩:=hb.at hy;refine⟨b1,o1,e1,aC,hlt,x,.imm r1,b2,o2,e2,aC,aC,y,.imm r2,_,XE x y,aB (λhne=>hf (L3 hx hy (λe=>?_))) (λhe=>?_)⟩
  .rw[QZ.2 e]at hne;cases hne
  .exact⟨i+1,⟨aC,uT hx hy (QZ.1 (by simpa using he)) hi.2⟩,aC,MT⟩
 .exact hK true ⟨λ_=>yS hl aC hi.2,λ_=>rfl⟩
theorem R7:Sound Tryz.prog 215 Nn:=by
 refine iJ Tryz.func215 ?_;rintro cvs m h K ⟨s,t,a,b,rfl,ha,hb,hK⟩;refine⟨QE s t a b m h,rfl,aF,Mv s t a b m h K,by kernel_rfl,?_⟩;dsimp only[Mv,push_cast];have hsa:=ha.slen;have htb:=hb.slen;have hla:=ha.len;have hf:a≠b->K (cB false) m h:=λh=>hK false ⟨λe=>(by cases e),λe=>(h e).elim⟩;refine aB (λh1=>hf (λe=>G9 hsa htb h1 (by rw[e]))) (λh1=>?_);have hl:=Ha hsa htb h1;refine⟨⟨0,⟨aC,λj hj=>by omega⟩,MT⟩,λi hi=>aE (λhlt=>?_) (λhge=>?_)⟩
 .obtain⟨x,hx⟩:=fI hsa hlt;obtain⟨y,hy⟩:∃y,b[i]? =some y:=fI (n:=s.len) aC hlt;obtain⟨b1,o1,e1,r1⟩:=ha.at hx;obtain⟨b2,o2,e2,r2⟩:=hb.at hy;refine⟨b1,o1,e1,aC,hlt,x,.imm r1,b2,o2,e2,aC,aC,y,.imm r2,_,XD x y,aB (λhne=>hf (L3 hx hy (λe=>?_))) (λhe=>?_)⟩
  .rw[QY.2 e]at hne;cases hne
  .exact⟨i+1,⟨aC,uT hx hy (QY.1 (by simpa using he)) hi.2⟩,aC,MT⟩
 .exact hK true ⟨λ_=>yS hl aC hi.2,λ_=>rfl⟩
noncomputable def Gs(s t:Sl)(a b:List Int)(m:MH)(h:PH):Ctx:=
 ctx [] [CR 4 (λi=>cE 26 28 [(0,sv s),(1,sv t),(12,iv s.len),(13,iv i)] [] m h) (λi=>i<=a.length/\∀j:Nat,j<i->a[j]? =b[j]?) (λi=>a.length-i)] [] [] false
def Ec(s t:Sl)(a b:List Int)(m:MH)(h:PH)(K:CV->MH->PH->Prop):Prop:=
  fQ (aG s) (aG t) (K bA m h) (gY (∃(x:Nat),aA (gY (x<=a.length) (λj=>j<x->a[j]? =b[j]?)) (aK s) (aA (aK t) (bK s) (dE (bG x) m m h h))) (λx=>gY (x<=a.length) (λj=>j<x->a[j]? =b[j]?)->bD (↑x:Int) (aG s) (aT (λb1 o=>aH (aU s.a b1 o) (0<=(↑x:Int)) ((↑x:Int)<aG s) (∃(y:Int),aM m h b1 (bB o x 1) (cK y)/\aT (λb2 o1=>aH (aU t.a b2 o1) (0<=(↑x:Int)) ((↑x:Int)<aG t) (∃(y1:Int),aM m h b2 (bB o1 x 1) (cK y1)/\gX (y !=y1) (K bA m h) (λy2=>aA (gY (y2<=a.length) (λj=>j<y2->a[j]? =b[j]?)) (a.length-y2<a.length-x) (aA (aK s) (aK t) (aA (bK s) (gS (aW x 1)=bX y2) (aA (m=m) (h=h) True))))))))) (K gE m h)))
theorem Zv(s t:Sl)(a b:List Int)(m:MH)(h:PH)(K:CV->MH->PH->Prop):Ec s t a b m h K=(zJ (Gs s t a b m h) Tryz.f127 (cQ Tryz.f127) (entry 26 [cS s,cS t] m h) K):=by kernel_rfl
theorem Zi(s t:Sl)(a b:List Int)(m:MH)(h:PH)(K:CV->MH->PH->Prop):Ec s t a b m h K=(zJ (Gs s t a b m h) Tryz.f180 (cQ Tryz.f180) (entry 26 [cS s,cS t] m h) K):=by kernel_rfl
def Bb:Vc.Spec:=λcvs m h K=>∃(s t:Sl)(a b:List Int),cvs=[cS s,cS t]/\Ints h s a/\Ints h t b/\∀r:Bool,(r=true↔a=b)->K (cB r) m h
theorem Ul{s t:Sl}{b:List Int}(ha:Ints h s a)(hb:Ints h t b)(hK:∀r:Bool,(r=true↔a=b)->K (cB r) m h):Ec s t a b m h K:=by
 dsimp only[Ec,push_cast];have hsa:=ha.slen;have htb:=hb.slen;have hla:=ha.len;have hf:a≠b->K (cB false) m h:=λh=>hK false ⟨λe=>by(cases e),λe=>(h e).elim⟩;refine aB (λh1=>hf (λe=>?_)) (λh1=>?_)
 .subst e;rw[hsa,htb]at h1;simp at h1
 .have hl:a.length=b.length:=by rw[hsa,htb]at h1;have:(a.length:Int)=b.length:=(by simpa using h1);omega
  refine⟨⟨0,⟨aC,λj hj=>by omega⟩,rfl,rfl,rfl,rfl,rfl,rfl,trivial⟩,λi hi=>aE (λhlt=>?_) (λhge=>?_)⟩
  .obtain⟨x,hx⟩:∃x,a[i]? =some x:=⟨a[i]'(by omega),List.getElem?_eq_getElem _⟩
   obtain⟨y,hy⟩:∃y,b[i]? =some y:=⟨b[i]'(by omega),List.getElem?_eq_getElem _⟩
   obtain⟨b1,o1,e1,r1⟩:=ha.at hx;obtain⟨b2,o2,e2,r2⟩:=hb.at hy;refine⟨b1,o1,e1,aC,hlt,x,.imm (by simpa using r1),b2,o2,e2,aC,aC,y,.imm (by simpa using r2),aB (λhne=>hf (λe=>?_)) (λhe=>?_)⟩
   .subst e;rw[hx]at hy;simp at hy;subst hy;simp at hne
   .have:x=y:=by simpa using he
    refine⟨i+1,⟨aC,λj hj=>?_⟩,aC,rfl,rfl,rfl,by rw[jA aC],rfl,rfl,trivial⟩;by_cases e:j=i
    .subst e;rw[hx,hy,this]
    .exact hi.2 j aC
  .refine hK true ⟨λ_=>?_,λ_=>rfl⟩;apply List.ext_getElem?;intro j;by_cases hj:j<i
   .exact hi.2 j hj
   .rw[List.getElem?_eq_none aC,List.getElem?_eq_none aC]
theorem SS:Sound Tryz.prog 127 Bb:=by
 refine fA (fn:=Tryz.f127) (c:=cQ Tryz.f127) Tryz.func127 rfl (by decide) ?_;rintro cvs m h K ⟨s,t,a,b,rfl,ha,hb,hK⟩;exact⟨Gs s t a b m h,rfl,aF,(Zv s t a b m h K)▸Ul ha hb hK⟩
theorem EW:Sound Tryz.prog 180 Bb:=by
 refine fA (fn:=Tryz.f180) (c:=cQ Tryz.f180) Tryz.func180 rfl (by decide) ?_;rintro cvs m h K ⟨s,t,a,b,rfl,ha,hb,hK⟩;exact⟨Gs s t a b m h,rfl,aF,(Zi s t a b m h K)▸Ul ha hb hK⟩
def aQ(v:QV):CV:=.val (.agg ⟨v.enc⟩)
def Query.args:Query->List Query
 |.mk _ _ _ _ _ _ _ _ l=>l
theorem AY{p:Query}{q:Query}(h:q∈p.args):SizeOf.sizeOf q<SizeOf.sizeOf p:=by
 cases p with
 |mk op t w c o g s l args=>
  have:=List.sizeOf_lt_of_mem h;simp only[Query.args]at this;simp only[Query.mk.sizeOf_spec];omega
def AA(h:PH)(s:Sl)(ps:List Query):Prop:=bV h 21 QV.enc (dK h) s ps
theorem AA.mono{s:Sl}{ps:List Query}(r:AA h s ps)(le:PH.le h h'):AA h' s ps:=bV.mono r le λ_ _=>dK.mono le
theorem wL.ofL{h:PH}:∀{ps:List Query}{vs:List QV},ps.length=vs.length->(∀(i:Nat)(x:Query),ps[i]? =some x->∃v,vs[i]? =some v/\dK h x v)->wL h ps vs
 |[],[],_,_=>rfl
 |p::ps,v::vs,hl,hx=>by
  obtain⟨v',h1,h2⟩:=hx 0 p rfl;simp at h1;subst h1;exact⟨v,vs,rfl,h2,wL.ofL (by simpa using hl) λi x e=>by simpa using hx (i+1) x (by simpa using e)⟩
 |[],_::_,hl,_=>by simp at hl
 |_::_,[],hl,_=>by simp at hl
structure oP(h:PH)(op table:Int)(w:Pred)(c:List Int)(o:List (Int×Int))(g:List Int)(s:List (Int×Bool))(l:Int)(args:List Query)(v:QV):Prop where
 op_:v.op=op
 table_:v.table=table
 where_:fF h w v.where_
 columns_:Ints h v.columns c
 on_:mG h v.on o
 group_:Ints h v.group g
 order_:jC h v.order s
 limit_:v.limit=l
 args_:AA h v.args args
theorem dK.parts{op table:Int}{c:List Int}{o:List (Int×Int)}{g:List Int}{s:List (Int×Bool)}{l:Int}{args:List Query}(x:dK h (.mk op table w c o g s l args) v):oP h op table w c o g s l args v:=by
 obtain⟨h1,h2,h3,h4,h5,h6,h7,h8,h9,vs,h10,h11⟩:=x;exact⟨h1,h2,h3,h4,h5,h6,h7,h8,⟨⟨vs,h10,h11.length.symm,λ_ _ hx=>h11.get hx⟩,h9⟩⟩
theorem oP.rep{op table:Int}{c:List Int}{o:List (Int×Int)}{g:List Int}{s:List (Int×Bool)}{l:Int}{args:List Query}(x:oP h op table w c o g s l args v):dK h (.mk op table w c o g s l args) v:=by
 obtain⟨vs,h1,h2,h3⟩:=x.args_.ex;exact⟨x.op_,x.table_,x.where_,x.columns_,x.on_,x.group_,x.order_,x.limit_,x.args_.len,vs,h1,.ofL h2 h3⟩
def amQ(N:Nat):Vc.Spec:=λcvs m h K=>∃v w p q,cvs=[aQ v,aQ w]/\dK h p v/\dK h q w/\SizeOf.sizeOf p<N/\∀r:Bool,(r=true↔p=q)->K (cB r) m h
def amX:Vc.Spec:=λcvs m h K=>∃v w p q,cvs=[aQ v,aQ w]/\dK h p v/\dK h q w/\∀r:Bool,(r=true↔p=q)->K (cB r) m h
def Z5(N:Nat):Vc.Spec:=λcvs m h K=>∃s t ps qs,cvs=[cS s,cS t,.val (.func (.func 204) #[] #[])]/\AA h s ps/\AA h t qs/\(∀p∈ps,SizeOf.sizeOf p<N)/\∀r:Bool,(r=true↔ps=qs)->K (cB r) m h
noncomputable def W6(N:Nat):Ctx:=ctx [(213,ZK),(180,Bb),(214,No),(215,Nn),(216,Z5 N)] [] [] [] false
noncomputable def W2(N:Nat)(s t:Sl)(ps qs:List Query)(m:MH)(h:PH):Ctx:=
 ctx [(204,amQ N)] [CR 4 (λi=>cE 32 35 [(1,sv t),(2,vv (.func (.func 204) #[] #[])),(15,sv s),(16,iv s.len),(17,iv i)] [] m h) (λi=>i<=ps.length/\∀j:Nat,j<i->ps[j]? =qs[j]?) (λi=>ps.length-i)] [] [] false
noncomputable abbrev gP(a b:Sl):List CV:=fW a (kU b)
abbrev DA(a b:Sl)(c:PH)(d:(List Int)->(List Int)->Bool->Prop):Prop:=kV (λx x1=>qK (λx2 x3=>aH (gP a b=gP x x1) (Ints c x x2) (Ints c x1 x3) (∀(x4:Bool),d x2 x3 x4)))
abbrev sN(a:Query)(b:Nat):Prop:=SizeOf.sizeOf a<b
attribute [push_cast] gP DA sN
def Ht(N:Nat)(v w:QV)(m:MH)(h:PH)(K:CV->MH->PH->Prop):Prop:=
  eJ v.op w.op (eJ v.table w.table (eJ v.limit w.limit (FW (λv1 w1 p q=>aH (bI (eN v.where_) (eN w.where_)=bI (eN v1) (eN w1)) (fF h p v1) (fF h q w1) (∀(r:Bool),gU (gC r (p=q)) r (DA v.columns w.columns h (λa b r1=>gU (gC r1 (a=b)) r1 (kV (λs t=>∃(a1 b1:List (Int×Int)),aH (gP v.on w.on=gP s t) (mG h s a1) (mG h t b1) (∀(r2:Bool),gU (gC r2 (a1=b1)) r2 (DA v.group w.group h (λa2 b2 r3=>gU (gC r3 (a2=b2)) r3 (kV (λs1 t1=>∃(a3 b3:List (Int×Bool)),aH (gP v.order w.order=gP s1 t1) (jC h s1 a3) (jC h t1 b3) (∀(r4:Bool),gU (gC r4 (a3=b3)) r4 (kV (λs2 t2=>∃(p1 q1:List Query),aA (dP v.args (fW w.args (xQ 204))=dP s2 (fW t2 (xQ 204))) (AA h s2 p1) (aA
 (AA h t2 q1) (∀(p2:Query),List.Mem p2 p1->sN p2 N) (∀(r5:Bool),gC r5 (p1=q1)->K (A7 r5) m h)))) (K bA m h)))) (K bA m h))) (K bA m h)))) (K bA m h))) (K bA m h)))) (K bA m h)) (K bA m h)) (K bA m h)
abbrev kK(a:QV->Query->Prop):Prop:=∃(x:QV)(x1:Query),a x x1
noncomputable abbrev bJ(a:QV):CV:=jM a.enc
attribute [push_cast] kK bJ
def Mu(N:Nat)(s t:Sl)(ps qs:List Query)(m:MH)(h:PH)(K:CV->MH->PH->Prop):Prop:=
  fQ (aG s) (aG t) (K bA m h) (gY (∃(x:Nat),aA (gY (x<=ps.length) (λj=>j<x->ps[j]? =qs[j]?)) (aK t) (aA (B5 204) (aK s) (aA (bK s) (bG x) (aA (m=m) (h=h) True)))) (λx=>gY (x<=ps.length) (λj=>j<x->ps[j]? =qs[j]?)->bD (↑x:Int) (aG s) (aT (λb o=>aH (aU s.a b o) (0<=(↑x:Int)) ((↑x:Int)<aG s) (∃(y:QV),aM m h b (bB o x 21) y.enc/\aT (λb1 o1=>aH (aU t.a b1 o1) (0<=(↑x:Int)) ((↑x:Int)<aG t) (∃(y1:QV),aM m h b1 (bB o1 x 21) y1.enc/\∃(v:QV),kK (λw p=>∃(q:Query),aA (bI (bJ y) (bJ y1)=bI (bJ v) (bJ w)) (dK h p v) (aA (dK h q w) (sN p N) (∀(r:Bool),gC r (p=q)->gX (!r) (K bA m h) (λy2=>aA (gY (y2<=ps.length) (λj=>j<y2->ps[j]? =qs[j]?))
 (ps.length-y2<ps.length-x) (aA (aK t) (B5 204) (aA (aK s) (bK s) (aA (gS (aW x 1)=bX y2) (m=m) (dC h h))))))))))))) (K gE m h)))
theorem Zf{w:QV}{p:Query}(hv:dK h p v)(hw:dK h q w)(hN:SizeOf.sizeOf p<N+1)(hK:∀r:Bool,(r=true↔p=q)->K (cB r) m h):Ht N v w m h K:=by
 dsimp only[Ht,push_cast];have hf:p≠q->K (cB false) m h:=λh=>hK false ⟨λe=>(by cases e),λe=>(h e).elim⟩;have hargs:=@AY p;obtain⟨op,ta,wh,co,on,gr,od,li,ps⟩:=p;obtain⟨op',ta',wh',co',on',gr',od',li',qs⟩:=q;have a:=hv.parts;have b:=hw.parts
 refine aB (λh1=>aB (λh2=>aB (λh3=>⟨_,_,_,_,rfl,a.where_,b.where_,λr4 h4=>aB (λg4=>⟨_,_,_,_,rfl,a.columns_,b.columns_,λr5 h5=>aB (λg5=>⟨_,_,_,_,rfl,a.on_,b.on_,λr6 h6=>aB (λg6=>⟨_,_,_,_,rfl,a.group_,b.group_,λr7 h7=>aB (λg7=>⟨_,_,_,_,rfl,a.order_,b.order_,λr8 h8=>aB (λg8=>⟨_,_,_,_,rfl,a.args_,b.args_,λp hp=>?_,λr hr=>hK r (hr.trans ?_)⟩)
  (λg8=>hf λe=>?_)⟩) (λg7=>hf λe=>?_)⟩) (λg6=>hf λe=>?_)⟩) (λg5=>hf λe=>?_)⟩) (λg4=>hf λe=>?_)⟩) (λh3=>hf λe=>?_)) (λh2=>hf λe=>?_)) (λh1=>hf λe=>?_)
 .have:=hargs (q:=p) hp;omega
 .rw[a.op_,b.op_,beq_iff_eq]at h1;rw[a.table_,b.table_,beq_iff_eq]at h2;rw[a.limit_,b.limit_,beq_iff_eq]at h3;rw[h1,h2,h3,h4.1 g4,h5.1 g5,h6.1 g6,h7.1 g7,h8.1 g8];exact⟨λe=>by rw[e],λe=>by injection e⟩
 .injection e with _ _ _ _ _ _ e _ _;rw[h8.2 e]at g8;cases g8
 .injection e with _ _ _ _ _ e _ _ _;rw[h7.2 e]at g7;cases g7
 .injection e with _ _ _ _ e _ _ _ _;rw[h6.2 e]at g6;cases g6
 .injection e with _ _ _ e _ _ _ _ _;rw[h5.2 e]at g5;cases g5
 .injection e with _ _ e _ _ _ _ _ _;rw[h4.2 e]at g4;cases g4
 .injection e with _ _ _ _ _ _ _ e _;rw[a.limit_,b.limit_,e]at h3;simp at h3
 .injection e with _ e _ _ _ _ _ _ _;rw[a.table_,b.table_,e]at h2;simp at h2
 .injection e with e _ _ _ _ _ _ _ _;rw[a.op_,b.op_,e]at h1;simp at h1
theorem QG:∀N,Sound Tryz.prog 204 (amQ N)
 |0=>by
  refine fA (fn:=Tryz.f204) (c:=cQ Tryz.f204) Tryz.func204 rfl (by decide) ?_;rintro cvs m h K ⟨v,w,p,q,rfl,hr,_,hN,_⟩;omega
 |N+1=>by
  have h139:Sound Tryz.prog 216 (Z5 N):=by
   refine iJ Tryz.func216 ?_;rintro cvs m h K ⟨s,t,ps,qs,rfl,ha,hb,hN,hK⟩;refine⟨W2 N s t ps qs m h,rfl,aD (QG N) aF,Mu N s t ps qs m h K,by kernel_rfl,?_⟩;dsimp only[Mu,push_cast];have hsa:=ha.slen;have htb:=hb.slen;have hla:=ha.len;have hf:ps≠qs->K (cB false) m h:=λh=>hK false ⟨λe=>(by cases e),λe=>(h e).elim⟩;refine aB (λh1=>hf (λe=>G9 hsa htb h1 (by rw[e]))) (λh1=>?_);have hl:=Ha hsa htb h1;refine⟨⟨0,⟨aC,λj hj=>by omega⟩,MT⟩,λi hi=>aE (λhlt=>?_) (λhge=>?_)⟩
   .obtain⟨x,hx⟩:=fI hsa hlt;obtain⟨y,hy⟩:∃y,qs[i]? =some y:=fI (n:=s.len) aC hlt;obtain⟨b1,o1,u,e1,r1,ru⟩:=ha.at hx;obtain⟨b2,o2,w,e2,r2,rw'⟩:=hb.at hy;refine⟨b1,o1,e1,aC,hlt,u,.imm r1,b2,o2,e2,aC,aC,w,.imm r2,u,w,x,y,rfl,ru,rw',hN x (List.mem_of_getElem? hx),λr hr=>aB (λhne=>hf (L3 hx hy (λe=>?_))) (λhe=>?_)⟩
    .have:=hr.2 e;subst this;cases hne
    .have hr':r=true:=by simpa using he
     exact⟨i+1,⟨aC,uT hx hy (hr.1 hr') hi.2⟩,aC,MT⟩
   .exact hK true ⟨λ_=>yS hl aC hi.2,λ_=>rfl⟩
  refine iJ Tryz.func204 ?_;rintro cvs m h K ⟨v,w,p,q,rfl,hr,hq,hN,hK⟩;refine⟨W6 N,rfl,aD R9 (aD EW (aD R8 (aD R7 (aD h139 aF)))),Ht N v w m h K,by kernel_rfl,?_⟩;exact Zf hr hq hN hK
theorem Sg:Sound Tryz.prog 204 amX:=xD QG λ_ _ _ _⟨v,w,p,q,e,h1,h2,h3⟩=>⟨SizeOf.sizeOf p+1,v,w,p,q,e,h1,h2,aC,h3⟩
end Go.Ps
