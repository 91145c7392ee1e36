/- Own work. -/
import Derived.MapKept
import Derived.Maps.RangeRun
import Derived.Test.YtbpoogcannjnbaaGreatDoorProg
import Derived.IntWalk
import Derived.ChangeKeysEq
import Derived.Test.YtbpoogcannjnbaaGreatDoorTa
set_option linter.unusedVariables false
set_option linter.unusedSimpArgs false
namespace Go.Vc
open Go
section
variable{B:mH}{C:Ctx}{ι:Nat->Value}{σ:St}{a:Act}{w:World}{o:Oper}{K:St->Prop}
theorem Vw(hM:aG B ι σ a w)(ob:Obj):
 aG B ι {σ with m:=λb=>if b=w.heap.size then some ob else σ.m b} a (w.alloc ob)/\bY σ.m σ.h w.heap.size/\∀o,D2 σ ι o w (w.alloc ob):=by
 have hw:=hM.wrel
 have hun:bY σ.m σ.h w.heap.size:=by
  constructor
  .cases e:σ.m w.heap.size with
   |none=>rfl
   |some x=>have:=(Array.getElem?_eq_some_iff.1 (hw.msat _ _ e)).1;omega
  .intro i;cases e:σ.h w.heap.size i with
   |none=>rfl
   |some x=>have:=World.block_lt_of_cell? w ⟨w.heap.size,i,none⟩ (hw.hsat _ _ _ e);simp at this
 have hsz:(w.alloc ob).heap.size=w.heap.size+1:=by show(w.heap.push ob).size=_;simp
 refine⟨⟨hM.slots,hM.defers,λk o' hk=>(hM.own k o' hk).world (λb hb=>dQ w ob (lI (hM.own k o' hk) hb)),hM.dist,?_,?_,hM.one⟩,hun,λo=>⟨?_,?_,λ_ b hb=>dQ w ob hb,λ_ b _ hb _ _=>dQ w ob hb⟩⟩
 .intro k o' b hk hb;obtain⟨f1,f2,f3⟩:=hM.fresh k o' b hk hb;have hlt:=lI (hM.own k o' hk) hb;refine⟨f1,?_,f3⟩;show(if b=w.heap.size then some ob else σ.m b)=none;rw[if_neg aC];exact f2
 .refine⟨hw.tape,hw.os,hw.output,hw.drawn,by rw[hsz];exact Nat.le_succ_of_le hw.size,?_,?_,?_,?_,hw.hle,hw.hold,?_⟩
  .intro b hb hE;rw[dQ w ob (Nat.lt_of_lt_of_le hb hw.size)];exact hw.frame b hb hE
  .intro b i v hv;have h1:=hw.hsat b i v hv;rw[<-h1];exact World.cell?_of_block (w:=w) (w':=w.alloc ob) (a:=⟨b,i,none⟩) (dQ w ob (World.block_lt_of_cell? w ⟨b,i,none⟩ h1))
  .intro b x hb;have hb:(if b=w.heap.size then some ob else σ.m b)=some x:=hb;by_cases e:b=w.heap.size
   .rw[if_pos e]at hb;rw[e,gU];exact hb
   .rw[if_neg e]at hb;have h1:=hw.msat b x hb;rw[dQ w ob (Array.getElem?_eq_some_iff.1 h1).1];exact h1
  .intro b x hb i;have hb:(if b=w.heap.size then some ob else σ.m b)=some x:=hb;by_cases e:b=w.heap.size
   .rw[e];exact hun.h_ i
   .rw[if_neg e]at hb;exact hw.disj b x hb i
  .intro b x hb;have hb:(if b=w.heap.size then some ob else σ.m b)=some x:=hb;by_cases e:b=w.heap.size
   .left;rw[e];exact hw.size
   .rw[if_neg e]at hb;exact hw.mfr b x hb
 .intro k p T cs b hk _ hι;exact dQ w ob (lI (hM.own k _ hk) (by rw[hι];rfl))
 .intro b i v hv;have h1:=hw.hsat b i v hv;rw[<-h1];exact World.cell?_of_block (w:=w) (w':=w.alloc ob) (a:=⟨b,i,none⟩) (dQ w ob (World.block_lt_of_cell? w ⟨b,i,none⟩ h1))
theorem Of(hM:aG B ι σ a w){b:Nat}{ob0 ob:Obj}(hm:σ.m b=some ob0):
 aG B ι {σ with m:=λb'=>if b'=b then some ob else σ.m b'} a {w with heap:=w.heap.setIfInBounds b ob}/\∀o,uH o.op=false->D2 σ ι o w {w with heap:=w.heap.setIfInBounds b ob}:=by
 have hw:=hM.wrel;have hlt:b<w.heap.size:=(Array.getElem?_eq_some_iff.1 (hw.msat _ _ hm)).1
 have hblock:∀b',b'≠b->(w.heap.setIfInBounds b ob)[b']? =w.heap[b']? :=λb' hne=>by
  rw[Array.getElem?_setIfInBounds_ne (Ne.symm hne)]
 have hself:(w.heap.setIfInBounds b ob)[b]? =some ob:=by simp[hlt]
 have hnb:∀k o',nth σ.own k=some (some o')->blk (ι k)≠some b:=by
  intro k o' hk hb;have:=(hM.fresh k o' b hk hb).2.1;rw[hm]at this;cases this
 have hcell:∀b' i v,σ.h b' i=some v->({w with heap:=w.heap.setIfInBounds b ob}:World).cell? ⟨b',i,none⟩=some v:=by
  intro b' i v hv;have hne:b'≠b:=λe=>by subst e;rw[hw.disj b' _ hm i]at hv;cases hv
  have h2:=hw.hsat b' i v hv;rw[<-h2];exact World.cell?_of_block (w:=w) (w':={w with heap:=w.heap.setIfInBounds b ob}) (a:=⟨b',i,none⟩) (hblock b' hne)
 refine⟨⟨hM.slots,hM.defers,λk o' hk=>(hM.own k o' hk).world (λb' hb'=>hblock b' (λe=>hnb k o' hk (e▸hb'))),hM.dist,?_,?_,hM.one⟩,λo hg=>⟨?_,hcell,λh=>(by rw[hg]at h;cases h),λ_ b' _ _ hn _=>hblock b' (λe=>by rw[e,hm]at hn;cases hn)⟩⟩
 .intro k o' b' hk hb';obtain⟨f1,f2,f3⟩:=hM.fresh k o' b' hk hb';refine⟨f1,?_,f3⟩;show(if b'=b then some ob else σ.m b')=none;rw[if_neg (fun(e:b'=b)=>hnb k o' hk (e▸hb'))];exact f2
 .refine⟨hw.tape,hw.os,hw.output,hw.drawn,by simpa using hw.size,?_,hcell,?_,?_,hw.hle,hw.hold,?_⟩
  .intro b' hb' hE
   have hne:b'≠b:=λe=>by
    subst e;rcases hw.mfr b' _ hm with h2|h2
    .omega
    .exact hE h2
   rw[hblock b' hne];exact hw.frame b' hb' hE
  .intro b' x hb';have hb':(if b'=b then some ob else σ.m b')=some x:=hb';by_cases e:b'=b
   .rw[if_pos e]at hb';rw[e, <-hb'];exact hself
   .rw[if_neg e]at hb';rw[hblock b' e];exact hw.msat b' x hb'
  .intro b' x hb' i;have hb':(if b'=b then some ob else σ.m b')=some x:=hb';by_cases e:b'=b
   .rw[e];exact hw.disj b _ hm i
   .rw[if_neg e]at hb';exact hw.disj b' _ hb' i
  .intro b' x hb';have hb':(if b'=b then some ob else σ.m b')=some x:=hb';by_cases e:b'=b
   .rw[e];exact hw.mfr b _ hm
   .rw[if_neg e]at hb';exact hw.mfr b' _ hb'
 .intro k p T cs b' hk _ hι;exact hblock b' (λe=>hnb k _ hk (by rw[hι,e];rfl))
theorem Kj(hM:aG B ι σ a w){t:Nat}{r:Option Operand}(ho:o.op= .makeMap t r)(h:F4 o r σ K):NC B C ι o σ K a w:=by
 intro next Q hnext
 unfold F4 at h;split at h
 .obtain⟨hM1,hun,hk⟩:=Vw hM (.map #[] 0)
  have hrun:(execOp a.eval o).run C.P w= .ok (.value (.map (some w.heap.size))) (w.alloc (.map #[] 0)):=by
   unfold execOp;simp[ho,Instr.makeMap]
  unfold Oper.wp;rw[hrun,Oper.upon_value];exact hnext ι _ _ _ (hM1.put o.dst (x:=.at (.val (.map (some w.heap.size)))) rfl) (h w.heap.size _ hun ⟨by simp,λb' hb'=>by simp[hb']⟩) (hk o)
 .exact h.elim
theorem aG.drew{B:mH}{ι:Nat->Value}{σ:St}{a:Act}{w:World}(h:aG B ι σ a w)(k:Nat)(hk:w.drawn<=k):aG B ι σ a {w with drawn:=k}:=by
 refine⟨h.slots,h.defers,λj o hj=>(h.own j o hj).world (λ_ _=>rfl),h.dist,h.fresh,?_,h.one⟩;have hw:=h.wrel;exact⟨hw.tape,hw.os,hw.output,Nat.le_trans hw.drawn hk,hw.size,hw.frame,hw.hsat,hw.msat,hw.disj,hw.hle,hw.hold,hw.mfr⟩
theorem sG{α:Type}{l:List α}{j:Nat}{x:α}(h:l[j]? =some x):l=l.take j++x::l.drop (j+1):=by
 have hj:=(List.getElem?_eq_some_iff.1 h).1;have e:=(List.getElem?_eq_some_iff.1 h).2;rw[<-e, <-List.drop_eq_getElem_cons hj,List.take_append_drop]
theorem Oq(hM:aG B ι σ a w){t:Nat}{x:Operand}(ho:o.op= .range t x)(h:MP C o t x σ K):NC B C ι o σ K a w:=by
 intro next Q hnext
 have hev:=hM.ev x;unfold MP at h;split at h
 .rename_i s hu hx;rw[hx]at hev;have hev:a.eval x= .string s:=hev;obtain⟨hM1,hun,hk⟩:=Vw hM (.stringIter s 0)
  have hrun:(execOp a.eval o).run C.P w= .ok (.value (.pointer (some ⟨w.heap.size,0,none⟩))) (w.alloc (.stringIter s 0)):=by
   unfold execOp;simp[ho,hev,Instr.range,run_underlying hu]
  unfold Oper.wp;rw[hrun,Oper.upon_value];exact hnext ι _ _ _ (hM1.put o.dst (x:=.at (.val (.pointer (some ⟨w.heap.size,0,none⟩)))) rfl) (h w.heap.size _ hun ⟨by simp,λb' hb'=>by simp[hb']⟩) (hk o)
 .rename_i kt et b hu hx;rw[hx]at hev;have hev:a.eval x= .map (some b):=hev;obtain⟨kvs,⟨es,clock,hm,hes,hborn,hnd⟩,h⟩:=h;have hg:=hM.wrel.msat b _ hm;obtain⟨hM1,hun,hk⟩:=Vw hM (.mapIter (some b) clock #[] clock)
  have hrun:(execOp a.eval o).run C.P w= .ok (.value (.pointer (some ⟨w.heap.size,0,none⟩))) (w.alloc (.mapIter (some b) clock #[] clock)):=by
   unfold execOp;simp[ho,hev,Instr.range,run_underlying hu,MapKept.run_getObj_map hg,Result.andThen]
  unfold Oper.wp;rw[hrun,Oper.upon_value];have hne:b≠w.heap.size:=λe=>by have:=(Array.getElem?_eq_some_iff.1 hg).1;omega
  refine hnext ι _ _ _ (hM1.put o.dst (x:=.at (.val (.pointer (some ⟨w.heap.size,0,none⟩)))) rfl) (h w.heap.size _ hun ⟨λb' hb'=>by simp[hb']⟩ ⟨es,clock,clock, #[],clock,?_,hes,hborn,hnd,by simp,hborn,Nat.le_refl _,Nat.le_refl _,?_⟩) (hk o)
  .simp[hne,hm]
  .rw[<-hes];congr 1;exact List.filter_eq_self.2 (λ_ _=>by simp)
 .exact h.elim
theorem Qk(hM:aG B ι σ a w){x:Operand}{st:Bool}(ho:o.op= .next x st)(h:Ql o x st σ K):NC B C ι o σ K a w:=by
 intro next Q hnext
 have hev:=hM.ev x;unfold Ql at h;split at h
 .rename_i b hx;rw[hx]at hev;have hev:a.eval x= .pointer (some ⟨b,0,none⟩):=hev;obtain⟨s,pos,hm,h1,h2⟩:=h;have hg:=hM.wrel.msat b _ hm.at_;by_cases hlt:pos<s.size
  .obtain⟨hM1,hk⟩:=Of (ob:=.stringIter s (pos+(Utf8.decode s pos).2)) hM hm.at_
   have hrun:(execOp a.eval o).run C.P w= .ok (.value (.tuple #[.bool true,.int .i64 pos,.int .i32 (Utf8.decode s pos).1])) {w with heap:=w.heap.setIfInBounds b (.stringIter s (pos+(Utf8.decode s pos).2))}:=by
    unfold execOp;simp[ho,hev,Instr.next,getObj,setObj,Sem.run,hg,hlt,goInt,Result.andThen]
   unfold Oper.wp;rw[hrun,Oper.upon_value];refine hnext ι _ _ _ (hM1.put o.dst (x:=.tup _) ?_) (h2 hlt _ ⟨by simp,λb' hb'=>by simp[hb']⟩) (hk o (by rw[ho];rfl));exact⟨_,rfl,rfl,rfl,rfl,trivial⟩
  .have hrun:(execOp a.eval o).run C.P w= .ok (.value (.tuple #[.bool false])) w:=by
    unfold execOp;simp[ho,hev,Instr.next,getObj,Sem.run,hg,hlt,Result.andThen]
   unfold Oper.wp;rw[hrun,Oper.upon_value];refine hnext ι _ _ _ (hM.put o.dst (x:=.tup _) ?_) (h1 aC) (iS hM);exact⟨_,rfl,rfl,trivial⟩
 .rename_i r hx;rw[hx]at hev;have hev:a.eval x= .pointer (some ⟨r,0,none⟩):=hev;obtain⟨b,kvs,left,⟨es,clock,since,seen,c0,hmb,hes,hborn,hnd,hmr,hold,hsc,hscl,hleft⟩,h1,h2⟩:=h;have hgb:=hM.wrel.msat b _ hmb;have hgr:=hM.wrel.msat r _ hmr;rcases run_next_at (P:=C.P) w o.type r b since c0 seen es clock hgr hgb hold hsc with⟨h0,hrun⟩|⟨e,he,w1,hw1,hrun⟩
  .have hl:left=[]:=by
    rw[<-hleft];have:(leftOf es seen).toList=[]:=by simpa using h0
    unfold leftOf at this;rw[Array.toList_filter]at this;rw[this];rfl
   have hrun:(execOp a.eval o).run C.P w= .ok (.value (.tuple #[.bool false])) w:=by
    unfold execOp;simp[ho,hev,hrun,Result.andThen]
   unfold Oper.wp;rw[hrun,Oper.upon_value];refine hnext ι _ _ _ (hM.put o.dst (x:=.tup _) ?_) (h1 hl) (iS hM);exact⟨_,rfl,rfl,trivial⟩
  .have hM0:∃n,aG B ι σ a w1/\w1={w with drawn:=n}:=by
    rcases hw1 with rfl|rfl
    .exact⟨w1.drawn,hM,rfl⟩
    .exact⟨w.drawn+1,hM.drew (w.drawn+1) (Nat.le_succ _),rfl⟩
   obtain⟨n,hM0,hw1e⟩:=hM0;obtain⟨hM1,hk⟩:=Of (ob:=.mapIter (some b) since (seen.push e.born) clock) hM0 hmr
   have hrun:(execOp a.eval o).run C.P w= .ok (.value (.tuple #[.bool true,e.key,e.val])) {w1 with heap:=w1.heap.setIfInBounds r (.mapIter (some b) since (seen.push e.born) clock)}:=by
    unfold execOp;simp[ho,hev,hrun,Result.andThen,ChangeMaps.setBlock]
   have hel:e∈es.toList.filter λe=> !seen.contains e.born:=by
    unfold leftOf at he;rw[Array.toList_filter]at he;exact he
   have hees:e∈es.toList:=(List.mem_filter.1 hel).1;obtain⟨j,hj⟩:=List.getElem?_of_mem hel;have hsp:=sG hj;have hrb:r≠b:=λe=>by rw[e,hmb]at hmr;cases hmr
   have hnd2:(((es.toList.filter λe=> !seen.contains e.born)).map (·.born)).Nodup:=hnd.sublist (List.filter_sublist.map _)
   have hleft2:es.toList.filter (λx=> !(seen.push e.born).contains x.born)=(es.toList.filter λe=> !seen.contains e.born).take j++(es.toList.filter λe=> !seen.contains e.born).drop (j+1):=by
    have h3:es.toList.filter (λx=> !(seen.push e.born).contains x.born)=(es.toList.filter λe=> !seen.contains e.born).filter λx=>x.born !=e.born:=by
     rw[List.filter_filter];congr 1;funext x;simp only[Array.contains_push,Bool.not_or];rw[Bool.and_comm];rfl
    rw[h3];generalize (es.toList.filter λe=> !seen.contains e.born)=L at hsp hnd2 hj;have hlt:=(List.getElem?_eq_some_iff.1 hj).1;generalize L.take j=A at hsp;generalize L.drop (j+1)=D at hsp;subst hsp;simp only[List.map_append,List.map_cons,List.nodup_append,List.nodup_cons,List.mem_map,List.mem_cons]at hnd2;obtain⟨_,⟨hn2,_⟩,hn3⟩:=hnd2;rw[List.filter_append,List.filter_cons];simp only[bne_self_eq_false,Bool.false_eq_true,if_false];congr 1
    .refine List.filter_eq_self.2 λx hx=>?_;simp only[bne_iff_ne,ne_eq]
     exactλh4=>hn3 _ ⟨x,hx,rfl⟩ _ (.inl rfl) h4
    .refine List.filter_eq_self.2 λx hx=>?_;simp only[bne_iff_ne,ne_eq]
     exactλh4=>hn2 ⟨x,hx,h4⟩
   unfold Oper.wp;rw[hrun,Oper.upon_value];have hmb':(if b=r then some (Obj.mapIter (some b) since (seen.push e.born) clock)else σ.m b)=some (.map es clock):=by rw[if_neg (λe=>hrb e.symm)];exact hmb
   refine hnext ι _ _ _ (hM1.put o.dst (x:=.tup _) ?_) (h2 (((es.toList.filter λe=> !seen.contains e.born).take j).map λe=>(e.key,e.val)) (e.key,e.val) (((es.toList.filter λe=> !seen.contains e.born).drop (j+1)).map λe=>(e.key,e.val)) ?_ _ ⟨λb' hb'=>by simp[hb']⟩ ⟨⟨es,clock,since,seen.push e.born,clock,hmb',hes,hborn,hnd,by simp,hold,hscl,hscl,?_⟩,es,clock,since,seen,e,hmb',hnd,by simp,hees,rfl⟩) ?_
   .exact⟨_,rfl,rfl,rfl,rfl,trivial⟩
   .rw[<-hleft]
    conv=>lhs;rw[hsp]
    simp
   .rw[hleft2];simp
   .have:=hk o (by rw[ho];rfl);subst hw1e;exact⟨this.cells,this.imm,this.ext,this.args⟩
 .exact h.elim
theorem PI(hM:aG B ι σ a w){x:Operand}(ho:o.op= .entry x)(h:Nk C o x σ K):NC B C ι o σ K a w:=by
 intro next Q hnext
 have hev:=hM.ev x;unfold Nk at h;split at h
 .rename_i r hx;rw[hx]at hev;have hev:a.eval x= .pointer (some ⟨r,0,none⟩):=hev;obtain⟨b,kvs,left,x,⟨_,es,clock,since,seen,e,hmb,hnd,hmr,he,rfl⟩,h⟩:=h;have hrun:=run_entry_at (P:=C.P) w r b since seen es clock e (hM.wrel.msat r _ hmr) (hM.wrel.msat b _ hmb) he hnd
  have hrun:(execOp a.eval o).run C.P w= .ok (.value (.tuple #[e.key,e.val])) w:=by
   unfold execOp;simp[ho,hev,hrun,Result.andThen]
  have h:K (σ.put o.dst (.tup [.inl (.val e.key),.inl (.val e.val)])):=by
   split at h
   .obtain⟨s,e1,h⟩:=h;have e1:e.val=Sl.val s:=e1;rw[e1];exact h
   .exact h
  unfold Oper.wp;rw[hrun,Oper.upon_value];refine hnext ι _ _ _ (hM.put o.dst (x:=.tup _) ?_) h (iS hM);exact⟨_,rfl,rfl,rfl,trivial⟩
 .exact h.elim
theorem Bn{P:Program}{kt:TypeId}{Ok:Value->Prop}(L:KeyLaw P kt Ok){k:Value}(hk:Ok k)(w:World):∀(es:List MapEntry)(i:Nat),(∀e∈es,Ok e.key)->
 ((∀e∈es,e.key≠k)/\(Instr.findAsking kt k es i).run P w= .ok none w)\/∃j e,es[j]? =some e/\e.key=k/\(Instr.findAsking kt k es i).run P w= .ok (some (i+j,e.val)) w
 |[],i,_=>.inl ⟨λe he=>(by cases he),by simp[Instr.findAsking]⟩
 |e::es,i,hes=>by
  obtain⟨r,hr,hrk⟩:=L.eq k e.key w hk (hes e (by simp));cases r with
  |true=>exact .inr ⟨0,e,rfl,(hrk.1 rfl).symm,by simp[Instr.findAsking,hr]⟩
  |false=>
   have hne:e.key≠k:=λh=>by have:=hrk.2 h.symm;cases this
   rcases Bn L hk w es (i+1) (λe' he'=>hes e' (by simp[he']))with⟨h1,h2⟩|⟨j,e',h1,h2,h3⟩
   .refine .inl ⟨λe' he'=>?_,by simp[Instr.findAsking,hr,h2]⟩;rcases List.mem_cons.1 he' with rfl|h
    .exact hne
    .exact h1 e' h
   .exact .inr ⟨j+1,e',by simpa using h1,h2,by simp[Instr.findAsking,hr,h3];omega⟩
theorem findNow_spec{P:Program}{kt:TypeId}{Ok:Value->Prop}(L:KeyLaw P kt Ok){d:TypeDesc}(hd:P.underlying kt=some d){k:Value}(hk:Ok k):∀(es:List MapEntry)(i:Nat)(r:Option (Nat×Value)),(∀e∈es,Ok e.key)->
 Instr.findNow d k es i=some r->((∀e∈es,e.key≠k)/\r=none)\/∃j e,es[j]? =some e/\e.key=k/\r=some (i+j,e.val)
 |[],i,r,_,h=>by
  simp[Instr.findNow]at h;exact .inl ⟨λe he=>(by cases he),h.symm⟩
 |e::es,i,r,hes,h=>by
  simp only[Instr.findNow]at h;split at h
  .rename_i hs;simp only[Option.some.injEq]at h;exact .inr ⟨0,e,rfl,((L.now d k e.key true hd hk (hes e (by simp)) hs).1 rfl).symm,by simpa using h.symm⟩
  .rename_i hs;have hne:e.key≠k:=λh'=>by have:=(L.now d k e.key false hd hk (hes e (by simp)) hs).2 h'.symm;cases this
   rcases findNow_spec L hd hk es (i+1) r (λe' he'=>hes e' (by simp[he'])) h with⟨h1,h2⟩|⟨j,e',h1,h2,h3⟩
   .refine .inl ⟨λe' he'=>?_,h2⟩;rcases List.mem_cons.1 he' with rfl|h
    .exact hne
    .exact h1 e' h
   .exact .inr ⟨j+1,e',by simpa using h1,h2,by rw[h3];congr 2;omega⟩
  .cases h
theorem run_findKey{P:Program}{kt:TypeId}{Ok:Value->Prop}(L:KeyLaw P kt Ok){k:Value}(hk:Ok k)(w:World)(es:List MapEntry)(hes:∀e∈es,Ok e.key):
 ((∀e∈es,e.key≠k)/\(Instr.findKey kt k es).run P w= .ok none w)\/∃j e,es[j]? =some e/\e.key=k/\(Instr.findKey kt k es).run P w= .ok (some (j,e.val)) w:=by
 obtain⟨d,hd⟩:=L.under;cases hn:Instr.findNow d k es 0 with
 |some r=>
  have hrun:(Instr.findKey kt k es).run P w= .ok r w:=by simp[Instr.findKey,run_underlying hd,hn]
  rcases findNow_spec L hd hk es 0 r hes hn with⟨h1,rfl⟩|⟨j,e,h1,h2,rfl⟩
  .exact .inl ⟨h1,hrun⟩
  .exact .inr ⟨j,e,h1,h2,by rw[hrun];simp⟩
 |none=>
  have hrun:(Instr.findKey kt k es).run P w=(Instr.findAsking kt k es).run P w:=by simp[Instr.findKey,run_underlying hd,hn]
  rw[hrun];rcases Bn L hk w es 0 hes with⟨h1,h2⟩|⟨j,e,h1,h2,h3⟩
  .exact .inl ⟨h1,h2⟩
  .exact .inr ⟨j,e,h1,h2,by rw[h3];simp⟩
theorem NS{P:Program}{T:TypeId}{z:Value}(h:Mp P T=some z)(w:World):(zeroValue T).run P w= .ok z w:=by
 unfold Mp at h;split at h
 .rename_i i hi;split at h
  .rename_i k n hz;simp only[Option.some.injEq]at h;subst h;simp[zeroValue,typeInfo,hi,hz]
  .rename_i b hz;simp only[Option.some.injEq]at h;subst h;simp[zeroValue,typeInfo,hi,hz]
  .rename_i hz;simp only[Option.some.injEq]at h;subst h;simp[zeroValue,typeInfo,hi,hz]
  .cases h
 .cases h
theorem M1(hM:aG B ι σ a w){t:Nat}{x k:Operand}{ok:Bool}(ho:o.op= .lookup t x k ok)(h:I5 C o t x k ok σ K):NC B C ι o σ K a w:=by
 intro next Q hnext
 have hev:=hM.ev x;unfold I5 at h;split at h
 .rename_i kt et b kv hu hx hkv;rw[hx]at hev;have hev:a.eval x= .map (some b):=hev;have hke:a.eval k=kv:=(hM.ev k).val? hkv;split at h
  .rename_i z hz;obtain⟨kvs,Ok,⟨es,clock,hm,hes⟩,L,hok,hoks,hmiss,hhit⟩:=h;have hg:=hM.wrel.msat b _ hm
   have hmem:∀e∈es.toList,∃p∈kvs,e.key=p.1/\e.val=only ((C.dec et).enc p.2):=by
    intro e he
    have:(e.key,e.val)∈kvs.map λp=>(p.1,only ((C.dec et).enc p.2)):=by
     rw[<-hes];exact List.mem_map.2 ⟨e,he,rfl⟩
    obtain⟨p,hp,e2⟩:=List.mem_map.1 this;simp only[Prod.mk.injEq]at e2;exact⟨p,hp,e2.1.symm,e2.2.symm⟩
   have hall:∀e∈es.toList,Ok e.key:=λe he=>by
    obtain⟨p,hp,e1,_⟩:=hmem e he;rw[e1];exact hoks p hp
   have hchk:=L.check kv w es.isEmpty hok;unfold Oper.wp;rcases run_findKey L hok w es.toList hall with⟨h1,h2⟩|⟨j,e,h1,h2,h3⟩
   .have hrun:(execOp a.eval o).run C.P w= .ok (.value (if ok then .tuple #[z,.bool false]else z)) w:=by
     unfold execOp;simp[ho,hev,hke,Instr.lookup,run_underlying hu,MapKept.run_getObj_map hg,hchk,h2,NS hz,Result.andThen]
    rw[hrun,Oper.upon_value];refine hnext ι _ _ _ (hM.put o.dst ?_) (hmiss ?_) (iS hM)
    .cases ok
     .rfl
     .exact⟨_,rfl,rfl,rfl,trivial⟩
    .intro p hp e1
     have:(p.1,only ((C.dec et).enc p.2))∈es.toList.map λe=>(e.key,e.val):=by
      rw[hes];exact List.mem_map.2 ⟨p,hp,rfl⟩
     obtain⟨e,he,e2⟩:=List.mem_map.1 this;simp only[Prod.mk.injEq]at e2;exact h1 e he (e2.1.trans e1)
   .have he:e∈es.toList:=List.mem_of_getElem? h1;obtain⟨p,hp,e1,e2⟩:=hmem e he
    have hrun:(execOp a.eval o).run C.P w= .ok (.value (if ok then .tuple #[e.val,.bool true]else e.val)) w:=by
     unfold execOp;simp[ho,hev,hke,Instr.lookup,run_underlying hu,MapKept.run_getObj_map hg,hchk,h3,Result.andThen]
    have hh:=hhit p.2 (by rw[<-h2,e1];exact hp);rw[hrun,Oper.upon_value];split at hh
    .rename_i u hu2;rw[hu2]at e2;refine hnext ι _ _ _ (hM.put o.dst ?_) hh (iS hM);cases ok
     .exact e2
     .exact⟨_,rfl,e2,rfl,trivial⟩
    .exact hh.elim
  .exact h.elim
 .exact h.elim
theorem Hu(hM:aG B ι σ a w){t:Nat}{x k v:Operand}(ho:o.op= .mapUpdate t x k v)(hdst:o.dst=none)(h:xV C t x k v σ K):NC B C ι o σ K a w:=by
 intro next Q hnext
 have hev:=hM.ev x;unfold xV at h;split at h
 .rename_i kt et b kv u hu hx hkv hv;rw[hx]at hev;have hev:a.eval x= .map (some b):=hev;have hke:a.eval k=kv:=(hM.ev k).val? hkv;have hve:a.eval v=u:=(hM.ev v).val? hv;obtain⟨kvs,Ok,⟨es,clock,hm,hes⟩,L,hok,hoks,hnew,hK⟩:=h;have hg:=hM.wrel.msat b _ hm;have hmem:∀e∈es.toList,(e.key,e.val)∈kvs:=λe he=>by rw[<-hes];exact List.mem_map.2 ⟨e,he,rfl⟩
  have hall:∀e∈es.toList,Ok e.key:=λe he=>hoks _ (hmem e he);have hchk:=L.check kv w false hok;rcases run_findKey L hok w es.toList hall with⟨h1,h2⟩|⟨j,e,h1,h2,h3⟩
  .obtain⟨hM1,hk⟩:=Of (ob:=.map (es.push {key:=kv,val:=u,born:=clock}) (clock+1)) hM hm
   have hrun:(execOp a.eval o).run C.P w= .ok .skip {w with heap:=w.heap.setIfInBounds b (.map (es.push {key:=kv,val:=u,born:=clock}) (clock+1))}:=by
    unfold execOp;simp[ho,hev,hke,hve,Instr.mapUpdate,run_underlying hu,MapKept.run_getObj_map hg,MapKept.run_setObj_map _ hg,hchk,h2,Result.andThen]
   unfold Oper.wp;rw[hrun,Oper.upon_skip,show a.put o.dst undef=a by rw[hdst];rfl];refine hnext ι _ _ _ hM1 (hK _ ⟨λb' hb'=>by simp[hb']⟩ ⟨es.push {key:=kv,val:=u,born:=clock},clock+1,by simp,?_⟩) (hk o (by rw[ho];rfl));simp[hes]
  .exact(hnew _ (hmem e (List.mem_of_getElem? h1)) h2).elim
 .exact h.elim
theorem M0(hM:aG B ι σ a w){t:Nat}{x k v:Operand}(ho:o.op= .mapUpdate t x k v)(hdst:o.dst=none)(h:Fb C t x k v σ K):NC B C ι o σ K a w:=by
 intro next Q hnext
 have hev:=hM.ev x;unfold Fb at h;split at h
 .rename_i kt et b kv u hu hx hkv hv;rw[hx]at hev;have hev:a.eval x= .map (some b):=hev;have hke:a.eval k=kv:=(hM.ev k).val? hkv;have hve:a.eval v=u:=(hM.ev v).val? hv;obtain⟨kvs,Ok,⟨es,clock,hm,hes,hborn,hnd⟩,L,hok,hsame,hoks,hnew,hold⟩:=h;have hg:=hM.wrel.msat b _ hm;have hmem:∀e∈es.toList,(e.key,e.val)∈kvs:=λe he=>by rw[<-hes];exact List.mem_map.2 ⟨e,he,rfl⟩
  have hall:∀e∈es.toList,Ok e.key:=λe he=>hoks _ (hmem e he);have hchk:=L.check kv w false hok;rcases run_findKey L hok w es.toList hall with⟨h1,h2⟩|⟨j,e,h1,h2,h3⟩
  .obtain⟨hM1,hk⟩:=Of (ob:=.map (es.push {key:=kv,val:=u,born:=clock}) (clock+1)) hM hm
   have hrun:(execOp a.eval o).run C.P w= .ok .skip {w with heap:=w.heap.setIfInBounds b (.map (es.push {key:=kv,val:=u,born:=clock}) (clock+1))}:=by
    unfold execOp;simp[ho,hev,hke,hve,Instr.mapUpdate,run_underlying hu,MapKept.run_getObj_map hg,MapKept.run_setObj_map _ hg,hchk,h2,Result.andThen]
   unfold Oper.wp;rw[hrun,Oper.upon_skip,show a.put o.dst undef=a by rw[hdst];rfl];refine hnext ι _ _ _ hM1 (hnew (λp hp e1=>?_) _ ⟨λb' hb'=>by simp[hb']⟩ ⟨es.push {key:=kv,val:=u,born:=clock},clock+1,by simp,by simp[hes],λe he=>?_,?_⟩) (hk o (by rw[ho];rfl))
   .rw[<-hes]at hp;obtain⟨e,he,rfl⟩:=List.mem_map.1 hp;exact h1 e he e1
   .rw[Array.toList_push,List.mem_append,List.mem_singleton]at he;rcases he with he|rfl
    .have:=hborn e he;omega
    .exact Nat.lt_succ_self _
   .rw[Array.toList_push,List.map_append,List.nodup_append];refine⟨hnd,by simp,λx hx y hy e1=>?_⟩;obtain⟨e,he,rfl⟩:=List.mem_map.1 hx;simp at hy;have:=hborn e he;omega
  .have hjlt:=(List.getElem?_eq_some_iff.1 h1).1;have hje:es[j]? =some e:=by rw[<-Array.getElem?_toList];exact h1
   obtain⟨hM1,hk⟩:=Of (ob:=.map (es.modify j λe=>{e with key:=kv,val:=u}) clock) hM hm
   have hrun:(execOp a.eval o).run C.P w= .ok .skip {w with heap:=w.heap.setIfInBounds b (.map (es.modify j λe=>{e with key:=kv,val:=u}) clock)}:=by
    unfold execOp;simp[ho,hev,hke,hve,Instr.mapUpdate,run_underlying hu,MapKept.run_getObj_map hg,MapKept.run_setObj_map _ hg,hchk,h3,hje,h2,Instr.keyThatStays,hsame,Result.andThen]
   have hlist:(es.modify j λe=>{e with key:=kv,val:=u}).toList=es.toList.take j++{e with key:=kv,val:=u}::es.toList.drop (j+1):=by
    rw[Array.toList_modify,List.modify_eq_take_cons_drop hjlt];congr 2;have:=(List.getElem?_eq_some_iff.1 h1).2;rw[this]
   have hsp:=sG h1;unfold Oper.wp;rw[hrun,Oper.upon_skip,show a.put o.dst undef=a by rw[hdst];rfl];refine hnext ι _ _ _ hM1 (hold ((es.toList.take j).map λe=>(e.key,e.val)) e.val ((es.toList.drop (j+1)).map λe=>(e.key,e.val)) ?_ _ ⟨λb' hb'=>by simp[hb']⟩ ⟨es.modify j λe=>{e with key:=kv,val:=u},clock,by simp,?_,?_,?_⟩) (hk o (by rw[ho];rfl))
   .rw[<-hes]
    conv=>lhs;rw[hsp]
    simp[h2]
   .rw[hlist];simp
   .intro x hx;rw[hlist]at hx;rw[hsp]at hborn;rcases List.mem_append.1 hx with hx|hx
    .exact hborn x (List.mem_append_left _ hx)
    .rcases List.mem_cons.1 hx with rfl|hx
     .exact hborn e (List.mem_append_right _ (List.mem_cons_self ..))
     .exact hborn x (List.mem_append_right _ (List.mem_cons_of_mem _ hx))
   .rw[hlist];rw[hsp]at hnd;simpa using hnd
 .exact h.elim
end
end Go.Vc
namespace Go.Vc
open Go
section
variable{B:mH}{C:Ctx}{ι:Nat->Value}{σ:St}{a:Act}{w:World}{o:Oper}{K:St->Prop}
theorem Vu(hM:aG B ι σ a w)(hr:AU o.op=true)(h:Ki C o σ K):NF C ι o σ K a w:=by
 unfold Ki at h;cases ho:o.op<;>simp only[ho]at h hr
 case move x=>exact I0 hM (.inl ho) h
 case assign x=>exact I0 hM (.inr ho) h
 case pick c x y=>exact Qg hM ho h
 case build T ps=>exact PN hM ho h
 case load T x=>exact Qn hM ho h
 case nilCheck x=>exact IM hM ho h
 case binOp op tx x y ty=>
  cases op
  case eql=>
   simp only at h;split at h
   .exact Bl (neg:=false) hM ho h
   .exact iW hM (λcs b=>by rw[ho];intro e;cases e) h
  case neq=>
   simp only at h;split at h
   .exact Bl (neg:=true) hM ho h
   .exact iW hM (λcs b=>by rw[ho];intro e;cases e) h
  case add=>exact Np hM ho h
  all_goals first
   |exact iW hM (λcs b=>by rw[ho];intro e;cases e) h
   |exact UK hM ho h
 case unOp op t x=>exact iW hM (λcs b=>by rw[ho];intro e;cases e) h
 case convert s d x=>exact Kn hM ho h
 case fieldAddr T x f=>exact Hx hM ho h
 case field T x f=>exact O3 hM ho h
 case indexAddr T x i=>exact Hw hM ho h
 case index T x i=>exact OR hM ho h
 case extract x i=>exact Kl hM ho h
 case call c=>
  obtain⟨callee,args,argTypes⟩:=c;cases callee with
  |builtin b=>
   cases b<;>simp only[AU,Bool.false_eq_true]at hr
   case len=>
    simp only at h;split at h
    .rename_i x hx;exact TH hM ho rfl hx h
    .exact h.elim
   case min=>exact iW hM (λcs b=>by rw[ho];intro e;cases e) h
   case max=>exact iW hM (λcs b=>by rw[ho];intro e;cases e) h
  |value f=>simp[AU]at hr
  |invoke r n=>simp[AU]at hr
 all_goals (first|exact h.elim|(simp[AU]at hr))
theorem NF.stp(hM:aG B ι σ a w)(h:NF C ι o σ K a w):NC B C ι o σ K a w:=by
 intro next Q hnext
 obtain⟨v,x,hrun,hx,hK⟩:=h;unfold Oper.wp;rw[hrun w (.inr rfl),Oper.upon_value];exact hnext ι _ _ _ (hM.put o.dst hx) hK (iS hM)
theorem wP(hM:aG B ι σ a w):∀(i:Nat)(l:List Operand)(ts:List TypeId)(cvs:List CV),mP C.P σ [] i l ts=some cvs->cvs=(l.map a.eval).map .val
 |i,[],ts,cvs,h=>by simp[mP]at h;subst h;rfl
 |i,x::r,ts,cvs,h=>by
  simp only[mP]at h;split at h
  .cases h
  .rename_i rest hrest;have ih:=wP hM (i+1) r ts.tail rest hrest;simp only[List.contains_nil]at h;split at h
   .rename_i u hu;simp only[Option.some.injEq]at h;subst h;simp only[List.map_cons,(hM.ev x).val? hu,ih]
   .cases h
theorem FF:∀(l caps:List Value),H8 (l.map .val) caps=(l++caps).map .val
 |[],_=>rfl
 |v::l,caps=>by simp only[List.map_cons,H8,FF l caps,List.cons_append]
theorem MX{P:Program}{T:TypeId}{cs:List Value}{ι:Nat->Value}:Den ι (mk P T (cs.map .val)) (valOf P T cs):=by
 unfold mk valOf;cases wK P T with
 |true=>exact⟨_,rfl,by simpa using(fH.vals (ι:=ι)).2 rfl⟩
 |false=>match cs with
  |[]=>exact trivial
  |[x]=>exact rfl
  |_::_::_=>exact trivial
theorem Sound.fat{P:Program}{f:FuncId}{S:Spec}{T:TypeId}{vs:List Value}{m:MH}{h:PH}{R:List Value->MH->PH->Prop}(hs:Sound P f S)(hS:S (vs.map .val) m h (λr m' h'=>∃l,r= .val (valOf P T l)/\R l m' h')):ZO P f T (vs.map .val) m h R:=by
 have inj:∀{l l':List Value},l.map CV.val=l'.map CV.val->l=l':=fun{l l'} e=>(List.map_inj_right (λx y h=>by cases h;rfl)).1 e;refine⟨hs.1,λvs' w he hH=>?_⟩;rw[<-inj he]
 have hvals:∀(l:List Value)(w:World),wT w (l.map .val) l:=λl w=>by
  induction l with
  |nil=>trivial
  |cons a l ih=>exact⟨rfl,ih⟩
 have nov:∀(l:List Value)(i:Nat)(c:CV)(u:Value)(b:Nat),(l.map CV.val)[i]? =some c->eJ c u=some b->False:=λl i c u b hi hb=>by
  rw[List.getElem?_map]at hi;cases e:l[i]? with
  |none=>rw[e]at hi;cases hi
  |some v=>rw[e]at hi;simp at hi;subst hi;simp[eJ]at hb
 refine(hs.2 _ vs m h w _ hS ⟨hvals _ _,hH.hsat,hH.msat,hH.disj,λi j c d u v b hi _ _ _ hb _=>(nov _ i c u b hi hb).elim,λi c u b hi _ hb=>(nov _ i c u b hi hb).elim⟩).mono ?_;rintro e w' ⟨r,u,m',h',rfl,⟨l,rfl,hR⟩,hok,hw,_⟩;have hok:u=valOf P T l:=hok;subst hok
 have nm:∀b,m b=none->¬mX m (vs.map .val) vs b:=by
  rintro b hb (h1|⟨i,c,u,hi,_,hc⟩)
  .exact h1 hb
  .exact nov _ i c u b hi hc
 refine⟨l,m',h',rfl,hR,⟨hw.tape,hw.os,hw.output,hw.drawn,hw.size,λb hb hn=>hw.frame b hb (nm b hn),⟨hw.hsat,hw.msat,hw.disj⟩,⟨hw.hle⟩,λb hb hn=>hw.hold b hb (nm b hn),λb o hb=>?_⟩⟩;rcases hw.mfr b o hb with h1|h1
 .exact .inl h1
 .refine .inr λh2=>nm b h2 h1
theorem UJ(hM:aG B ι σ a w){c:Call}{g:Operand}{T:TypeId}{f:FuncId}{fs cs:Array Value}(ho:o.op= .call c)(hc:c.callee= .value g)
 (hg:σ.ev g= .at (.val (.func (.func f) fs cs)))(hfs:fs.toList=[])(h:WH C o T f cs.toList c.args.toList σ K):NC B C ι o σ K a w:=by
 intro next Q hnext
 unfold WH at h;split at h
 .rename_i cvs hcvs;obtain⟨R,hF,h⟩:=h;have hv:=wP hM 0 _ _ _ hcvs;subst hv;rw[FF]at hF;have hw:=hM.wrel;obtain⟨fn,hfn,hbody,hname⟩:=hF.fn;have hcall:=hF.go _ w rfl ⟨hw.hsat,hw.msat,hw.disj⟩;have hev:a.eval g= .func (.func f) fs cs:=by have:=hM.ev g;rw[hg]at this;exact this
  have hfs':fs= #[]:=by apply Array.toList_inj.1;simpa using hfs
  subst hfs';have hargsA: #[]++c.args.map a.eval++cs=(c.args.toList.map a.eval++cs.toList).toArray:=by apply Array.toList_inj.1;simp
  have hbn:¬fn.body=none:=by intro e;rw[e]at hbody;cases hbody
  have hnm:¬fn.name= "runtime.NumGoroutine" :=by simpa using hname
  have hrun:(execOp a.eval o).run C.P w= .ok (.enter f (c.args.toList.map a.eval++cs.toList).toArray) w:=by
   unfold execOp;simp only[ho,resolve,hc,hev,Deferred.ofValue,Sem.run_bind,Sem.run_pure,Result.andThen_ok,invoke,callFunc];rw[hargsA];simp[program,Sem.run,hfn,hnm,hbn]
  unfold Oper.wp;rw[hrun,Oper.upon_enter];refine Calls.mono hcall ?_;rintro e w' ⟨l,m',h',rfl,⟨x,rfl,hx⟩,hf⟩;show next (a.put o.dst (valOf C.P T ((C.dec T).enc x))) w'
  have hwr:qS ⟨w,λb=>σ.m b≠none,σ.h,[]⟩ m' h' w':=
   ⟨hf.tape,hf.os,hf.output,hf.drawn,hf.size,λb hb hn=>hf.frame b hb (Classical.byContradiction hn),hf.heapy.hsat,hf.heapy.msat,hf.heapy.disj,hf.hle.le,λb hb hn=>hf.hold b hb (Classical.byContradiction hn),λb ob hb=>hf.mfr b ob hb⟩
  have hM2:=hM.called hwr (λb hb=>by
   cases hm:σ.m b with
   |none=>exact(hb hm).elim
   |some ob=>exact hw.mfr b ob hm) (λj o' b hj hb hn=>hn (hM.fresh j o' b hj hb).2.1)
  refine hnext ι _ _ _ (hM2.put o.dst MX) (h x m' h' hx) ⟨λk p T cs' b hk _ hι=>?_,λb off v hv=>hf.heapy.hsat b off v (hf.hle.le b off v hv),λhgr=>?_,λl b _ hb hmb _=>hf.frame b hb hmb⟩
  .have hbk:blk (ι k)=some b:=by rw[hι];rfl
   exact hf.frame b (lI (hM.own k _ hk) hbk) (hM.fresh k _ b hk hbk).2.1
  .rw[ho]at hgr;simp[uH]at hgr
 .exact h.elim
theorem Oz(hspecs:∀g S,assoc C.specs g=some S->Sound C.P g S)(hM:aG B ι σ a w)(h:Ki C o σ K):NC B C ι o σ K a w:=by
 cases hr:AU o.op with
 |true=>exact(Vu hM hr h).stp hM
 |false=>
  unfold Ki at h;cases ho:o.op<;>simp only[ho]at h hr
  case alloc T=>
   intro next Q hn
   refine PR hM ho h next Q (λι' σ' a' w' hM' h' hk=>?_)
   obtain⟨σ2,hM2,hK2,_⟩:=sW _ _ hM' h';exact hn ι' σ2 a' w' hM2 hK2 hk
  case box T x=>
   split at h
   .intro next Q hn
    obtain⟨τ,hMτ,hK,hfz⟩:=kH _ _ hM h;refine L8 hMτ ho hK next Q (λι' σ' a' w' hM' h' hk=>?_)
    obtain⟨σ2,hM2,hK2,_⟩:=sW _ _ hM' h';exact hn ι' σ2 a' w' hM2 hK2 (hk.of_fz hfz)
   .exact L8 hM ho h
  case buildSlice T n ps=>
   intro next Q hn
   refine GK hM ho h next Q (λι' σ' a' w' hM' h' hk=>?_)
   obtain⟨σ2,hM2,hK2,_⟩:=yS _ _ hM' h';obtain⟨σ3,hM3,hK3,_⟩:=kH _ _ hM2 hK2;exact hn ι' σ3 a' w' hM3 hK3 hk
  case makeFunc f x cs=>
   intro next Q hn
   obtain⟨τ,hMτ,hK,hld⟩:=sW _ _ hM h;obtain⟨v,x,hrun,hx,hK⟩:=iW hMτ (λcs b=>by rw[ho];intro e;cases e) hK;unfold Oper.wp;rw[hrun w (.inr rfl),Oper.upon_value];exact hn ι _ _ _ (hMτ.put o.dst hx) hK (iS hM)
  case store T x v=>
   cases hd:o.dst with
   |none=>
    rw[hd]at h;intro next Q hn
    obtain⟨τ,hMτ,hK,hfz⟩:=kH _ _ hM h;exact N7 hMτ ho hd hK next Q (λι' σ' a' w' hM' h' hk=>hn ι' σ' a' w' hM' h' (hk.of_fz hfz))
   |some d=>rw[hd]at h;exact h.elim
  case makeSlice T l c=>
   intro next Q hn
   refine Hv hM ho h next Q (λι' σ' a' w' hM' h' hk=>?_)
   obtain⟨σ2,hM2,hK2,_⟩:=yS _ _ hM' h';exact hn ι' σ2 a' w' hM2 hK2 hk
  case slice T x lo hi mx=>exact Oe hM ho h
  case makeMap T r=>exact Kj hM ho h
  case lookup T x k ok=>exact M1 hM ho h
  case mapUpdate T x k v=>
   cases hd:o.dst with
   |none=>
    rw[hd]at h;have h:(match I4 C.heapT 400000 with|true=>Fb C T x k v σ K|false=>xV C T x k v σ K):=h;split at h
    .exact M0 hM ho hd h
    .exact Hu hM ho hd h
   |some d=>rw[hd]at h;exact h.elim
  case range T x=>exact Oq hM ho h
  case next x b=>exact Qk hM ho h
  case entry x=>exact PI hM ho h
  case call c=>
   obtain⟨callee,args,argTypes⟩:=c;cases callee with
   |builtin b=>
    cases b<;>simp only[AU,Bool.true_eq_false]at hr<;>simp only at h
    case append=>
     split at h
     .rename_i x y T tx hx ht;intro next Q hn
      refine Nu hM ho rfl hx ht h next Q (λι' σ' a' w' hM' h' hk=>?_)
      obtain⟨σ3,hM3,hK3,_⟩:=kH _ _ hM' h';exact hn ι' σ3 a' w' hM3 hK3 hk
     .exact h.elim
    case copy=>
     split at h
     .rename_i x y T tx hx ht;exact RT hM ho rfl hx ht h
     .exact h.elim
    case cap=>exact(iW hM (λcs b=>by rw[ho];intro e;cases e) h).stp hM
    all_goals exact h.elim
   |value g=>
    simp only at h;split at h
    .rename_i f fs cs hg;split at h
     .split at h
      .rename_i hfs;exact UJ hM ho rfl hg hfs h
      .exact h.elim
     .split at h
      .rename_i hfs hcs;exact RX hspecs hM ho rfl hg hfs hcs h
      .exact h.elim
    .exact h.elim
   |invoke r n=>exact h.elim
  all_goals (first|exact h.elim|(simp[AU]at hr))
theorem Ii(hM:aG B ι σ a w){d:Nat}{xs:Array Value}(h:σ.ev (.tmp d)= .at (.val (.tuple xs))):a.tmps[d]? =none\/∃xs,a.tmps[d]? =some (.tuple xs):=by
 have hev:=hM.ev (.tmp d);rw[h]at hev;have hev:a.eval (.tmp d)= .tuple xs:=hev;simp only[Act.eval,Array.getD_eq_getD_getElem?]at hev;cases hd:a.tmps[d]? with
 |none=>exact .inl rfl
 |some v=>rw[hd]at hev;simp at hev;exact .inr ⟨xs,by rw[hev]⟩
theorem DA(hM:aG B ι σ a w){d:Nat}{t:Bool}(h:σ.ev (.tmp d)= .at (.val (.bool t))):a.tmps[d]? =some (.bool t):=by
 have hev:=hM.ev (.tmp d);rw[h]at hev;have hev:a.eval (.tmp d)= .bool t:=hev;simp only[Act.eval,Array.getD_eq_getD_getElem?]at hev;cases hd:a.tmps[d]? with
 |none=>rw[hd]at hev;simp[undef]at hev
 |some v=>rw[hd]at hev;simp at hev;rw[hev]
theorem aG.setTmp(hM:aG B ι σ a w){c:Operand}{t:Bool}(h:σ.ev c= .at (.val (.bool t))):aG B ι (setTmp σ c t) a w:=by
 cases c with
 |tmp d=>
  refine⟨?_,hM.defers,hM.own,hM.dist,hM.fresh,hM.wrel,hM.one⟩;have ht:=DA hM h;have:=hM.slots.set d (x:=.at (.val (.bool t))) (v:=.bool t) rfl;show DenS ι (σ.sl.set d _) a.tmps.toList
  have e:a.tmps.toList.set d (.bool t)=a.tmps.toList:=by
   apply List.ext_getElem?;intro j;rw[List.getElem?_set];split
   .rename_i hj;subst hj;rw[Array.getElem?_toList,ht];split
    .rfl
    .rename_i hlt;simp at hlt;rw[Array.getElem?_eq_none hlt]at ht;cases ht
   .rfl
  rw[e]at this;exact this
 |const v=>exact hM
 |global g=>exact hM
 |func f=>exact hM
theorem K1{c:Operand}{t:Bool}(h:σ.ev c= .at (.val (.bool t))):Fz σ (setTmp σ c t):=by
 cases c with
 |tmp d=>
  refine⟨λ_ _ _ cs h=>⟨cs,h⟩,λ_ _ _ h=>h,?_,?_,rfl⟩
  .intro x k off hx;cases x with
   |tmp e=>
    simp only[Vc.setTmp,St.ev,tG]at hx;simp only[St.ev];by_cases he:e=d/\d<σ.sl.length
    .rw[if_pos he]at hx;cases hx
    .rw[if_neg he]at hx;exact hx
   |const v=>exact hx
   |global g=>exact hx
   |func f=>exact hx
  .intro x k hx;cases x with
   |tmp e=>
    simp only[Vc.setTmp,St.ev,tG]at hx;simp only[St.ev];by_cases he:e=d/\d<σ.sl.length
    .rw[if_pos he]at hx;cases hx
    .rw[if_neg he]at hx;exact hx
   |const v=>exact hx
   |global g=>exact hx
   |func f=>exact hx
 |const v=>exact Fz.refl σ
 |global g=>exact Fz.refl σ
 |func f=>exact Fz.refl σ
def GWp(C:Ctx)(ops:Array Oper)(o:Oper)(a:Act)(w:World)(next:Act->World->Prop)(Q:Exit->Act->World->Prop):Prop:=
 if Region.wanted o (yielded ops a.tmps)then o.wp C.P a w next Q else next (a.put o.dst undef) w
theorem Kt{ops:Array Oper}{j d:Nat}{want t:Bool}{g:Oper}(hg:o.guard=some (j,want))(hj:nth ops.toList j=some g)(hd:g.dst=some d)(ht:a.tmps[d]? =some (.bool t)):
 Region.wanted o (yielded ops a.tmps)=(t==want):=by
 unfold Region.wanted;rw[hg];rw[fV,Array.getElem?_toList]at hj;simp[yielded,hj,hd,ht]
theorem D4{ops:Array Oper}{j d:Nat}{want:Bool}{g:Oper}(hg:o.guard=some (j,want))(hj:nth ops.toList j=some g)(hd:g.dst=some d)(ht:a.tmps[d]? =none\/∃xs,a.tmps[d]? =some (.tuple xs)):
 Region.wanted o (yielded ops a.tmps)=false:=by
 unfold Region.wanted;rw[hg];rw[fV,Array.getElem?_toList]at hj;rcases ht with ht|⟨xs,ht⟩<;>simp[yielded,hj,hd,ht]
theorem yA{f:Oper->St->(St->Prop)->Prop}{ops:Array Oper}(hM:aG B ι σ a w)(h:Je f ops o σ K):
 ∃σ1,aG B ι σ1 a w/\Fz σ σ1/\((Region.wanted o (yielded ops a.tmps)=true/\f o σ1 K)\/(Region.wanted o (yielded ops a.tmps)=false/\K (σ1.put o.dst (.at (.val undef))))):=by
 unfold Je at h;split at h
 .rename_i hg;exact⟨σ,hM,Fz.refl σ,.inl ⟨by simp[Region.wanted,hg],h⟩⟩
 .rename_i j want hg;split at h
  .exact h.elim
  .rename_i g hj;split at h
   .exact h.elim
   .rename_i d hd;split at h
    .rename_i t ht;have htm:=DA hM ht;have hw:=Kt (o:=o) (a:=a) hg hj hd htm;rcases nN h with⟨rfl,h⟩|⟨rfl,h⟩
     .refine⟨setTmp σ (.tmp d) true,hM.setTmp ht,K1 ht,?_⟩;cases want with
      |true=>exact .inl ⟨by simpa using hw,h⟩
      |false=>exact .inr ⟨by simpa using hw,h⟩
     .refine⟨setTmp σ (.tmp d) false,hM.setTmp ht,K1 ht,?_⟩;cases want with
      |true=>exact .inr ⟨by simpa using hw,h⟩
      |false=>exact .inl ⟨by simpa using hw,h⟩
    .rename_i xs ht;exact⟨σ,hM,Fz.refl σ,.inr ⟨D4 hg hj hd (Ii hM ht),h⟩⟩
    .exact h.elim
theorem OT(hspecs:∀g S,assoc C.specs g=some S->Sound C.P g S){ops:Array Oper}(hM:aG B ι σ a w)(h:Nc C ops o σ K)
 (next:Act->World->Prop)(Q:Exit->Act->World->Prop)(hnext:∀ι' σ' a' w',aG B ι' σ' a' w'->K σ'->D2 σ ι o w w'->next a' w'):GWp C ops o a w next Q:=by
 obtain⟨σ1,hM1,hfz,hc⟩:=yA hM h;unfold GWp;rcases hc with⟨hw,h⟩|⟨hw,h⟩
 .rw[if_pos hw];exact Oz hspecs hM1 h next Q (λι' σ' a' w' h1 h2 h3=>hnext ι' σ' a' w' h1 h2 (h3.of_fz hfz))
 .rw[if_neg (by simp[hw])];exact hnext ι _ _ _ (hM1.put o.dst (x:=.at (.val undef)) rfl) h (iS hM)
theorem Ic{P:Program}{next:Act->World->Prop}{Q:Exit->Act->World->Prop}(h:o.wp P a w next Q):o.wpIn Fence.wide 0 P a w next Q:=by
 refine⟨λ_ _=>trivial,?_⟩;show o.uponIn Fence.wide 0 P a next Q ((execOp a.eval o).run P w)
 unfold Oper.wp at h;cases hr:(execOp a.eval o).run P w with
 |ok x w'=>
  rw[hr]at h;cases x with
  |value v=>exact h
  |skip=>exact h
  |defer d=>exact h
  |enter f args=>exact⟨λe=>by simp[Fence.wide]at e,callsIn_wide.2 h⟩
  |row r args=>
   refine⟨λe=>by simp[Fence.wide]at e,λc cs _=>?_⟩;obtain⟨v,w2,hv,hs⟩:=h c cs;exact⟨v,w2,hv,stepsIn_wide.2 hs⟩
  |_=>exact h.elim
 |halt x w'=>
  rw[hr]at h;cases x with
  |panic v=>exact h
  |_=>exact h.elim
def WV(B:mH)(C:Ctx)(o:Oper)(K:St->Prop)(a:Act)(w:World):Prop:=
 ∀(next:Act->World->Prop)(Q:Exit->Act->World->Prop),(∀ι' σ' a' w',aG B ι' σ' a' w'->K σ'->next a' w')->o.wpIn Fence.wide 0 C.P a w next Q
theorem NT(hM:aG B ι σ a w){c:Call}{g:Operand}{l:Nat}{fs cs:Array Value}(ho:o.op= .call c)(hc:c.callee= .value g)
 (hg:σ.ev g= .at (.val (.func (.yield l) fs cs)))(hfs:fs.toList=[])(hcs:cs.toList=[])(h:Mr C o (.func (.yield l) #[] #[]) c.args.toList σ K):WV B C o K a w:=by
 intro next Q hnext
 unfold Mr at h;split at h
 .exact h.elim
 .rename_i S hS;split at h
  .rename_i cvs hcvs;obtain⟨hY,h⟩:=h;have hv:=wP hM 0 _ _ _ hcvs;subst hv;have hw:=hM.wrel;obtain⟨fn,tmps,assign,body,hrun,hround⟩:=hY.go l _ σ.m σ.h w _ h ⟨hw.hsat,hw.msat,hw.disj⟩;have hev:a.eval g= .func (.yield l) fs cs:=by have:=hM.ev g;rw[hg]at this;exact this
   have hfs':fs= #[]:=by apply Array.toList_inj.1;simpa using hfs
   have hcs':cs= #[]:=by apply Array.toList_inj.1;simpa using hcs
   subst hfs' hcs';have hargsA:c.args.map a.eval=(c.args.toList.map a.eval).toArray:=by apply Array.toList_inj.1;simp
   have hrun2:(execOp a.eval o).run C.P w= .ok (.round l fn tmps assign body) w:=by
    unfold execOp;simp only[ho,resolve,hc,hev,Deferred.ofValue,Sem.run_bind,Sem.run_pure,Result.andThen_ok,invoke];simp[hargsA,hrun]
   refine⟨λ_ _=>trivial,?_⟩;show o.uponIn Fence.wide 0 C.P a next Q ((execOp a.eval o).run C.P w)
   rw[hrun2,Oper.uponIn_round];refine⟨λe=>by simp[Fence.wide]at e,hround.mono ?_⟩;rintro e w' ⟨u,m',h',rfl,hK,hf⟩;show next (a.put o.dst u) w'
   have hwr:qS ⟨w,λb=>σ.m b≠none,σ.h,[]⟩ m' h' w':=
    ⟨hf.tape,hf.os,hf.output,hf.drawn,hf.size,λb hb hn=>hf.frame b hb (Classical.byContradiction hn),hf.heapy.hsat,hf.heapy.msat,hf.heapy.disj,hf.hle.le,λb hb hn=>hf.hold b hb (Classical.byContradiction hn),λb ob hb=>hf.mfr b ob hb⟩
   have hM2:=hM.called hwr (λb hb=>by
    cases hm:σ.m b with
    |none=>exact(hb hm).elim
    |some ob=>exact hw.mfr b ob hm) (λj o' b hj hb hn=>hn (hM.fresh j o' b hj hb).2.1)
   exact hnext ι _ _ _ (hM2.put o.dst (x:=.at (.val u)) rfl) hK
  .exact h.elim
theorem KM(hspecs:∀g S,assoc C.specs g=some S->Sound C.P g S)(hM:aG B ι σ a w)(h:KN C o σ K):WV B C o K a w:=by
 have old:Ki C o σ K->WV B C o K a w:=λh next Q hn=>Ic (Oz hspecs hM h next Q (λι' σ' a' w' h1 h2 _=>hn ι' σ' a' w' h1 h2))
 unfold KN at h;split at h
 .rename_i c ho;split at h
  .rename_i g hc;split at h
   .rename_i l fs cs hg;split at h
    .rename_i hfs hcs;exact NT hM ho hc hg hfs hcs h
    .exact h.elim
   .exact old h
  .exact old h
 .exact old h
theorem Kk(hspecs:∀g S,assoc C.specs g=some S->Sound C.P g S){ops:Array Oper}(hM:aG B ι σ a w)(h:Je (KN C) ops o σ K)
 (next:Act->World->Prop)(Q:Exit->Act->World->Prop)(hnext:∀ι' σ' a' w',aG B ι' σ' a' w'->K σ'->next a' w'):
 if Region.wanted o (yielded ops a.tmps)then o.wpIn Fence.wide 0 C.P a w next Q else(∀f,o.about C.P w a.eval=some f->Fence.wide.fn f)/\next (a.put o.dst undef) w:=by
 obtain⟨σ1,hM1,hfz,hc⟩:=yA hM h;rcases hc with⟨hw,h⟩|⟨hw,h⟩
 .rw[if_pos hw];exact KM hspecs hM1 h next Q hnext
 .rw[if_neg (by simp[hw])];exact⟨λ_ _=>trivial,hnext ι _ _ _ (hM1.put o.dst (x:=.at (.val undef)) rfl) h⟩
theorem DD(hspecs:∀g S,assoc C.specs g=some S->Sound C.P g S){ops:Array Oper}{Q:Exit->Act->World->Prop}{R:St->Prop}{rest:List Nat}(hQ:∀ι σ a w,aG B ι σ a w->R σ->wpOpsIn Fence.wide 0 C.P ops Q rest a w):
 ∀(l:List Oper)(s:Nat)(ι:Nat->Value)(σ:St)(a:Act)(w:World),(∀j,j<l.length->l[j]? =ops.toList[s+j]?)->aG B ι σ a w->Kz C ops l σ R->wpOpsIn Fence.wide 0 C.P ops Q (List.range' s l.length++rest) a w
 |[],s,ι,σ,a,w,_,hM,h=>hQ ι σ a w hM h
 |o::l,s,ι,σ,a,w,hl,hM,h=>by
  have ho:ops[s]? =some o:=by have:=hl 0 (by simp);simp at this;exact this.symm
  simp only[List.length_cons,List.range'_succ,List.cons_append,wpOpsIn,ho]
  exact Kk hspecs hM h (wpOpsIn Fence.wide 0 C.P ops Q (List.range' (s+1) l.length++rest)) Q (λι' σ' a' w' h1 h2=>
   DD hspecs hQ l (s+1) ι' σ' a' w' (λj hj=>by have:=hl (j+1) (by simp;omega);simp only[List.getElem?_cons_succ]at this;rw[this];congr 1;omega) h1 h2)
end
end Go.Vc
namespace Go.Vc
open Go
def Yd(P:Program)(ops:Array Oper)(w:World)(o:Oper)(v:Value)(a:Act):Prop:=
 (Region.wanted o (yielded ops a.tmps)=true/\(execOp a.eval o).run P w= .ok (.value v) w)\/(Region.wanted o (yielded ops a.tmps)=false/\v=undef)
def Aft(ops:Array Oper)(ok:Oper)(i:Nat):Prop:=waits ok i=true\/∃j oj,ops[j]? =some oj/\waits ok j=true/\waits oj i=true
def Sa(ops:Array Oper)(oi:Oper):Prop:=∀(k:Nat)(ok:Oper)(d:Nat),ops[k]? =some ok->ok.dst=some d->d∈oi.looksAt ops->waits oi k=true
structure W3(ops:Array Oper)(i:Nat)(oi:Oper):Prop where
 mv:XF oi.op=true
 look:∀(k:Nat)(ok:Oper)(d:Nat),ops[k]? =some ok->ok.dst=some d->d∈oi.looksAt ops->Aft ops ok i
structure YV(ops:Array Oper):Prop where
 look:∀(i:Nat)(oi:Oper),ops[i]? =some oi->Sa ops oi\/W3 ops i oi
 dst:∀(i k:Nat)(oi ok:Oper)(d:Nat),ops[i]? =some oi->ops[k]? =some ok->ok.dst=some d->i≠k->oi.dst≠some d
 topo:∀(i:Nat)(oi:Oper)(k:Nat),ops[i]? =some oi->waits oi k=true->k<i
 sel:∀(j:Nat)(o:Oper) cs b,ops[j]? =some o->o.op≠ .select cs b
theorem Aft.in_{ops:Array Oper}{ok:Oper}{i:Nat}{L:Array Bool}(h:Aft ops ok i)(hk:∀j,waits ok j=true->L.getD j false=true)(hL:∀(j:Nat)(oj:Oper),ops[j]? =some oj->L.getD j false=true->∀k,waits oj k=true->L.getD k false=true):L.getD i false=true:=by
 rcases h with h|⟨j,oj,hj,h1,h2⟩
 .exact hk i h
 .exact hL j oj hj (hk j h1) i h2
theorem YV.self{ops:Array Oper}(hs:YV ops){k:Nat}{o:Oper}(ho:ops[k]? =some o):∀d,o.dst=some d->d∉o.looksAt ops:=λd hd hm=>by
 rcases hs.look k o ho with h|h
 .have:=hs.topo k o k ho (h k o d ho hd hm);omega
 .rcases h.look k o d ho hd hm with h1|⟨j,oj,hj,h1,h2⟩
  .have:=hs.topo k o k ho h1;omega
  .have:=hs.topo k o j ho h1;have:=hs.topo j oj k hj h2;omega
theorem Vz{P:Program}{o:Oper}(h:XF o.op=true):u6 P o=false:=by
 unfold u6;cases e:o.op<;>simp_all [XF]
theorem FM{o:Oper}{k:Nat}:waits o k=true↔∃e∈o.after,Region.binds .any e=true/\e.on=k:=by
 unfold waits;rw[List.any_eq_true];constructor
 .rintro⟨e,he,h⟩;simp only[Bool.and_eq_true]at h;exact⟨e,by simpa using he,h.1,Nat.eq_of_beq_eq_true h.2⟩
 .rintro⟨e,he,h1,h2⟩;exact⟨e,by simpa using he,by simp[h1,h2]⟩
theorem Vf{ops:Array Oper}(h:Zo ops=true)(hs:Region.noSelect ops=true):YV ops:=by
 unfold Zo at h;simp only[List.all_eq_true,List.mem_range]at h;have lt:∀{i:Nat}{oi:Oper},ops[i]? =some oi->i<ops.toList.length:=λhi=>by have:=(Array.getElem?_eq_some_iff.1 hi).1;simpa using this
 refine⟨?_,?_,?_,Region.noSelect_spec hs⟩
 .intro i oi hi;have h1:=h i (lt hi);rw[fV,Array.getElem?_toList,hi]at h1;simp only[Bool.and_eq_true,Bool.or_eq_true,List.all_eq_true,List.mem_range]at h1;rcases h1.2 with h2|⟨hm,h2⟩
  .refine .inl λk ok d hk hd hl=>?_;have h3:=h2 k (lt hk);rw[fV,Array.getElem?_toList,hk]at h3;simp only[hd,Bool.or_eq_true,Bool.not_eq_true',List.contains_eq_mem,decide_eq_false_iff_not]at h3;rcases h3 with h3|h3
   .exact(h3 hl).elim
   .exact h3
  .refine .inr ⟨hm,λk ok d hk hd hl=>?_⟩;have h3:=h2 k (lt hk);rw[fV,Array.getElem?_toList,hk]at h3;simp only[hd,Bool.or_eq_true,Bool.not_eq_true',List.contains_eq_mem,decide_eq_false_iff_not]at h3;rcases h3 with h3|h3
   .exact(h3 hl).elim
   .unfold aaQ at h3;simp only[Bool.or_eq_true,List.any_eq_true,Bool.and_eq_true]at h3;rcases h3 with h3|⟨⟨oj,j⟩,hj,h4,h5⟩
    .exact .inl h3
    .refine .inr ⟨j,oj,?_,h4,h5⟩;have:=List.mem_zipIdx_iff_getElem?.1 hj;simpa using this
 .intro i k oi ok d hi hk hd hne;have h1:=h i (lt hi);rw[fV,Array.getElem?_toList,hi]at h1;simp only[Bool.and_eq_true,List.all_eq_true,List.mem_range]at h1;have h3:=h1.1.2 k (lt hk);rw[fV,Array.getElem?_toList,hk]at h3;simp only[hd,Bool.or_eq_true]at h3;rcases h3 with h3|h3
  .exact(hne (Nat.eq_of_beq_eq_true h3)).elim
  .simpa using h3
 .intro i oi k hi hw;have hil:i<ops.toList.length:=by have:=(Array.getElem?_eq_some_iff.1 hi).1;simpa using this
  have h1:=h i hil;rw[fV,Array.getElem?_toList,hi]at h1;simp only[Bool.and_eq_true,List.all_eq_true]at h1;obtain⟨e,he,hb,rfl⟩:=FM.1 hw;have:=h1.1.1 e (by simpa using he);simp only[hb,Bool.not_true,Bool.false_or]at this;rw[<-Nat.blt_eq];exact this
theorem qM{ops:Array Oper}{listed:Array Bool}{j:Nat}:j∈Region.ready .any ops listed↔listed.getD j true=false/\∃o,ops[j]? =some o/\∀k,waits o k=true->listed.getD k false=true:=by
 rw[mem_ready];constructor
 .rintro⟨h1,o,ho,h2⟩;refine⟨h1,o,ho,λk hk=>?_⟩;obtain⟨e,he,hb,rfl⟩:=FM.1 hk;exact h2 e he hb
 .rintro⟨h1,o,ho,h2⟩;exact⟨h1,o,ho,λe he hb=>h2 e.on (FM.2 ⟨e,he,hb,rfl⟩)⟩
theorem H2{l:Array Bool}{i:Nat}(h:l.getD i true=false):l.getD i false=false/\i<l.size:=by
 by_cases hi:i<l.size
 .simp[Array.getD,hi]at h⊢;exact h
 .simp[Array.getD,hi]at h
theorem pD{l:Array Bool}{i:Nat}(h:i<l.size):(l.setIfInBounds i true).getD i false=true:=by
 simp[Array.getD,h]
theorem DV{ops:Array Oper}{o:Oper}{ar ac:Act}(hs:∀cs b,o.op≠ .select cs b)(h:∀t∈o.looksAt ops,ar.tmps[t]? =ac.tmps[t]?):
 execOp ar.eval o=execOp ac.eval o/\Region.wanted o (yielded ops ar.tmps)=Region.wanted o (yielded ops ac.tmps):=by
 constructor
 .refine execOp_congr o hs λx hx=>?_;cases x with
  |tmp t=>
   have:t∈o.looksAt ops:=List.mem_append_left _ (List.mem_filterMap.2 ⟨.tmp t,by simpa using hx,rfl⟩);simp only[Act.eval,Array.getD_eq_getD_getElem?,h t this]
  |const v=>rfl
  |global g=>rfl
  |func f=>rfl
 .unfold Region.wanted;split
  .rfl
  .rename_i j want hg
   have:yielded ops ar.tmps j=yielded ops ac.tmps j:=by
    unfold yielded;cases hd:(ops[j]?).bind (·.dst)with
    |none=>rfl
    |some d=>
     have hm:d∈o.looksAt ops:=by
      unfold Oper.looksAt;refine List.mem_append_right _ ?_;simp[hg,hd]
     simp only[Option.bind_some,h d hm]
   rw[this]
theorem HF{a:Act}{d:Option Tmp}{v:Value}{t:Nat}(h:d≠some t):(a.put d v).tmps[t]? =a.tmps[t]? :=by
 cases d with
 |none=>rfl
 |some e=>
  have:e≠t:=λx=>h (by rw[x]);simp[Act.put,Array.getElem?_setIfInBounds_ne this]
theorem Xx(a:Act)(d:Option Tmp)(u v:Value):(a.put d u).put d v=a.put d v:=by
 cases d with
 |none=>rfl
 |some e=>simp[Act.put]
structure Mf(P:Program)(ops:Array Oper)(L Cl:Array Bool)(ar ac:Act)(w:World):Prop where
 szL:L.size=ops.size
 szC:Cl.size=ops.size
 sub:∀i,L.getD i false=true->Cl.getD i false=true
 rd:∀(i:Nat)(o:Oper),ops[i]? =some o->Cl.getD i false=true->L.getD i false=false->AU o.op=true
 clC:∀(i:Nat)(o:Oper),ops[i]? =some o->Cl.getD i false=true->∀k,waits o k=true->Cl.getD k false=true
 clL:∀(i:Nat)(o:Oper),ops[i]? =some o->L.getD i false=true->∀k,waits o k=true->L.getD k false=true
 tsz:ar.tmps.size=ac.tmps.size
 df:ar.defers=ac.defers
 agree:∀t,(∀(i:Nat)(o:Oper),ops[i]? =some o->Cl.getD i false=true->L.getD i false=false->o.dst≠some t)->ar.tmps[t]? =ac.tmps[t]?
 pend:∀(i:Nat)(o:Oper),ops[i]? =some o->Cl.getD i false=true->L.getD i false=false->∃v,(Sa ops o->∀w'',(u6 P o=false\/w''=w)->Yd P ops w'' o v ac)/\(W3 ops i o->∀w'',Yd P ops w'' o v ar)/\ac.put o.dst v=ac
section
variable{P:Program}{ops:Array Oper}{L Cl:Array Bool}{ar ac:Act}{w:World}
theorem Yd.congr{o:Oper}{v:Value}{a a':Act}{w:World}(h:Yd P ops w o v a)(he:execOp a'.eval o=execOp a.eval o)(hw:Region.wanted o (yielded ops a'.tmps)=Region.wanted o (yielded ops a.tmps)):Yd P ops w o v a':=by
 unfold Yd at*
 rw[he,hw];exact h
theorem Mf.looks(h:Mf P ops L Cl ar ac w){o:Oper}(hst:Sa ops o)(hr:∀k,waits o k=true->L.getD k false=true):∀t∈o.looksAt ops,ar.tmps[t]? =ac.tmps[t]? :=by
 intro t ht;refine h.agree t (λk ok hk _ hL hd=>?_);have:=hr k (hst k ok t hk hd ht);rw[this]at hL;cases hL
theorem Mf.looks'(h:Mf P ops L Cl ar ac w){i:Nat}{o:Oper}(hlo:W3 ops i o)(hC:Cl.getD i false=false):∀t∈o.looksAt ops,ar.tmps[t]? =ac.tmps[t]? :=by
 intro t ht;refine h.agree t (λk ok hk hCk _ hd=>?_);have:=(hlo.look k ok t hk hd ht).in_ (h.clC k ok hk hCk) h.clC;rw[this]at hC;cases hC
theorem Mf.stepA(hs:YV ops)(h:Mf P ops L Cl ar ac w){i:Nat}{o:Oper}(ho:ops[i]? =some o)(hC:Cl.getD i false=true)(hr:∀k,waits o k=true->L.getD k false=true){v:Value}(hv:ac.put o.dst v=ac):
 Mf P ops (L.setIfInBounds i true) Cl (ar.put o.dst v) ac w:=by
 have hsz:i<L.size:=by rw[h.szL];exact(Array.getElem?_eq_some_iff.1 ho).1
 have hsub:∀k,(L.setIfInBounds i true).getD k false=false->L.getD k false=false/\k≠i:=by
  intro k hk;by_cases e:i=k
  .subst e;rw[pD hsz]at hk;cases hk
  .rw[getD_set_ne false e]at hk;exact⟨hk,λx=>e x.symm⟩
 refine⟨by simpa using h.szL,h.szC,?_,λk ok hk hCk hLk=>h.rd k ok hk hCk (hsub k hLk).1,h.clC,?_,?_,?_,?_,λk ok hk hCk hLk=>?_⟩
 .intro k hk;by_cases e:i=k
  .subst e;exact hC
  .rw[getD_set_ne false e]at hk;exact h.sub k hk
 .intro k ok hk hLk j hj;by_cases e:i=k
  .subst e;rw[ho]at hk;cases hk;exact getD_set_true (hr j hj)
  .rw[getD_set_ne false e]at hLk;exact getD_set_true (h.clL k ok hk hLk j hj)
 .rw[<-h.tsz];cases o.dst<;>simp[Act.put]
 .rw[<-h.df];cases o.dst<;>rfl
 .intro t ht;by_cases e:o.dst=some t
  .rw[e]at hv⊢
   rw[<-hv];simp only[Act.put,Array.getElem?_setIfInBounds_self,h.tsz]
  .rw[HF e];refine h.agree t (λk ok hk hCk hLk=>?_);by_cases ek:i=k
   .subst ek;rw[ho]at hk;cases hk;exact e
   .exact ht k ok hk hCk (by rw[getD_set_ne false ek];exact hLk)
 .obtain⟨u,h1,h2,h3⟩:=h.pend k ok hk hCk (hsub k hLk).1;refine⟨u,h1,λhlo w''=>?_,h3⟩
  have hnl:∀d,o.dst=some d->d∉ok.looksAt ops:=λd hd hm=>by
   have:=(hlo.look i o d ho hd hm).in_ hr h.clL;rw[(hsub k hLk).1]at this;cases this
  exact(h2 hlo w'').congr (execOp_put ok (hs.sel k ok · · hk) ar o.dst v hnl) (wanted_put ok ar o.dst v hnl)
theorem Mf.take(hs:YV ops)(h:Mf P ops L Cl ar ac w){k:Nat}{o:Oper}(ho:ops[k]? =some o)(hC:Cl.getD k false=false)(hr:∀j,waits o j=true->Cl.getD j false=true)(hrd:AU o.op=true){v:Value}
 (hv:∀w'',(u6 P o=false\/w''=w)->Yd P ops w'' o v ac):Mf P ops L (Cl.setIfInBounds k true) ar (ac.put o.dst v) w:=by
 have hsz:k<Cl.size:=by rw[h.szC];exact(Array.getElem?_eq_some_iff.1 ho).1
 have hcase:∀j,(Cl.setIfInBounds k true).getD j false=true->j=k\/Cl.getD j false=true:=by
  intro j hj;by_cases e:k=j
  .exact .inl e.symm
  .rw[getD_set_ne false e]at hj;exact .inr hj
 have hLk:L.getD k false=false:=by
  cases hl:L.getD k false with
  |false=>rfl
  |true=>rw[h.sub k hl]at hC;cases hC
 have hup:∀j,Cl.getD j false=true->(Cl.setIfInBounds k true).getD j false=true:=by
  intro j hj;exact getD_set_true hj
 have hnl:=hs.self ho;refine⟨h.szL,by simpa using h.szC,λi hi=>hup i (h.sub i hi),?_,?_,h.clL,?_,?_,?_,?_⟩
 .intro i oi hi hCi hLi;rcases hcase i hCi with rfl|hCi
  .rw[ho]at hi;cases hi;exact hrd
  .exact h.rd i oi hi hCi hLi
 .intro i oi hi hCi j hj;rcases hcase i hCi with rfl|hCi
  .rw[ho]at hi;cases hi;exact hup j (hr j hj)
  .exact hup j (h.clC i oi hi hCi j hj)
 .rw[h.tsz];cases o.dst<;>simp[Act.put]
 .rw[h.df];cases o.dst<;>rfl
 .intro t ht;have e:o.dst≠some t:=ht k o ho (pD hsz) hLk;rw[HF e];exact h.agree t (λi oi hi hCi hLi=>ht i oi hi (hup i hCi) hLi)
 .intro i oi hi hCi hLi;by_cases e:i=k
  .subst e;rw[ho]at hi;cases hi;refine⟨v,λ_ w'' hw=>(hv w'' hw).congr (execOp_put o (hs.sel i o · · ho) ac o.dst v hnl) (wanted_put o ac o.dst v hnl),λhlo w''=>?_,Xx _ _ _ _⟩;obtain⟨he,hwe⟩:=DV (hs.sel i o · · ho) (h.looks' hlo hC);exact(hv w'' (.inl (Vz hlo.mv))).congr he hwe
  .have hCi':=(hcase i hCi).resolve_left e;obtain⟨u,hu,hlu,hpu⟩:=h.pend i oi hi hCi' hLi;refine⟨u,λhst w'' hw=>?_,hlu,?_⟩
   .have hnl':∀d,o.dst=some d->d∉oi.looksAt ops:=λd hd hm=>by
     have:=h.clC i oi hi hCi' k (hst k o d ho hd hm);rw[this]at hC;cases hC
    exact(hu hst w'' hw).congr (execOp_put oi (hs.sel i oi · · hi) ac o.dst v hnl') (wanted_put oi ac o.dst v hnl')
   rw[Act.put_comm ac v u (λd hd=>hs.dst i k oi o d hi ho hd e),hpu]
theorem NW{o:Oper}{a1 a2:Act}{w:World}{next1 next2:Act->World->Prop}{Q:Exit->Act->World->Prop}(he:execOp a2.eval o=execOp a1.eval o)(h:o.wp P a1 w next1 Q)
 (hv:∀v w',next1 (a1.put o.dst v) w'->next2 (a2.put o.dst v) w')(hd:∀d w',¬next1 (({a1 with defers:=d::a1.defers}:Act).put o.dst undef) w')(hQ:∀c a w,¬Q (.panic c) a w):o.wp P a2 w next2 Q:=by
 unfold Oper.wp at*
 rw[he];generalize (execOp a1.eval o).run P w=r at*
 cases r with
 |ok n w'=>
  cases n<;>simp only[Oper.upon]at h⊢
  case value u=>exact hv u w' h
  case skip=>exact hv undef w' h
  case defer d=>exact(hd d w' h).elim
  case enter f args=>
   refine Calls.mono h λe w'' he'=>?_;cases e with
   |returned u=>exact hv u w'' he'
   |panicked c=>exact(hQ _ _ _ he').elim
   |outgrown=>exact he'
  case row row args=>exact Rows.mono h λu w'' he'=>hv u w'' he'
 |halt x w'=>
  cases x<;>simp only[Oper.upon]at h⊢
  case panic u=>exact(hQ _ _ _ h).elim
theorem Mf.stepB(hs:YV ops)(h:Mf P ops L Cl ar ac w){j:Nat}{o:Oper}(ho:ops[j]? =some o)(hC:Cl.getD j false=false)(hr:∀k,waits o k=true->L.getD k false=true)(u:Value)(w':World)
 (hpend:∀(i:Nat)(oi:Oper)(v:Value),ops[i]? =some oi->Cl.getD i false=true->L.getD i false=false->Yd P ops w oi v ac->Yd P ops w' oi v ac\/u6 P oi=false):
 Mf P ops (L.setIfInBounds j true) (Cl.setIfInBounds j true) (ar.put o.dst u) (ac.put o.dst u) w':=by
 have hszC:j<Cl.size:=by rw[h.szC];exact(Array.getElem?_eq_some_iff.1 ho).1
 have hszL:j<L.size:=by rw[h.szL];exact(Array.getElem?_eq_some_iff.1 ho).1
 have hcase:∀i,(Cl.setIfInBounds j true).getD i false=true->i=j\/Cl.getD i false=true:=by
  intro i hi;by_cases e:j=i
  .exact .inl e.symm
  .rw[getD_set_ne false e]at hi;exact .inr hi
 have hLcase:∀i,(L.setIfInBounds j true).getD i false=false->i≠j/\L.getD i false=false:=by
  intro i hi;by_cases e:j=i
  .subst e;rw[pD hszL]at hi;cases hi
  .rw[getD_set_ne false e]at hi;exact⟨λx=>e x.symm,hi⟩
 have hup:∀i,Cl.getD i false=true->(Cl.setIfInBounds j true).getD i false=true:=λi hi=>getD_set_true hi;refine⟨by simpa using h.szL,by simpa using h.szC,?_,?_,?_,?_,?_,?_,?_,?_⟩
 .intro i hi;by_cases e:j=i
  .subst e;exact pD hszC
  .rw[getD_set_ne false e]at hi;exact hup i (h.sub i hi)
 .intro i oi hi hCi hLi;obtain⟨hne,hLi'⟩:=hLcase i hLi;exact h.rd i oi hi ((hcase i hCi).resolve_left hne) hLi'
 .intro i oi hi hCi k hk;rcases hcase i hCi with rfl|hCi
  .rw[ho]at hi;cases hi;exact hup k (h.sub k (hr k hk))
  .exact hup k (h.clC i oi hi hCi k hk)
 .intro i oi hi hLi k hk;by_cases e:j=i
  .subst e;rw[ho]at hi;cases hi;exact getD_set_true (hr k hk)
  .rw[getD_set_ne false e]at hLi;exact getD_set_true (h.clL i oi hi hLi k hk)
 .cases o.dst<;>simp[Act.put,h.tsz]
 .have:=h.df;cases o.dst<;>exact this
 .intro t ht;by_cases e:o.dst=some t
  .rw[e];simp only[Act.put,Array.getElem?_setIfInBounds_self,h.tsz]
  .rw[HF e,HF e];refine h.agree t (λi oi hi hCi hLi=>ht i oi hi (hup i hCi) ?_);have hne:j≠i:=λx=>by subst x;rw[hC]at hCi;cases hCi
   rw[getD_set_ne false hne];exact hLi
 .intro i oi hi hCi hLi;obtain⟨hne,hLi'⟩:=hLcase i hLi;have hCi':=(hcase i hCi).resolve_left hne;obtain⟨v,hv,hlv,hpv⟩:=h.pend i oi hi hCi' hLi';refine⟨v,λhst w'' hw=>?_,λhlo w''=>?_,?_⟩
  .have hnl:∀d,o.dst=some d->d∉oi.looksAt ops:=λd hd hm=>by
    have:=h.clC i oi hi hCi' j (hst j o d ho hd hm);rw[this]at hC;cases hC
   have hy:Yd P ops w'' oi v ac:=by
    rcases hw with hw|hw
    .exact hv hst w'' (.inl hw)
    .rw[hw];rcases hpend i oi v hi hCi' hLi' (hv hst w (.inr rfl))with h1|h1
     .exact h1
     .exact hv hst w' (.inl h1)
   exact hy.congr (execOp_put oi (hs.sel i oi · · hi) ac o.dst u hnl) (wanted_put oi ac o.dst u hnl)
  .have hnl:∀d,o.dst=some d->d∉oi.looksAt ops:=λd hd hm=>by
    have:=(hlo.look j o d ho hd hm).in_ hr h.clL;rw[this]at hLi';cases hLi'
   exact(hlv hlo w'').congr (execOp_put oi (hs.sel i oi · · hi) ar o.dst u hnl) (wanted_put oi ar o.dst u hnl)
  .rw[Act.put_comm ac u v (λd hd=>hs.dst i j oi o d hi ho hd hne),hpv]
end
section
variable{B:mH}{C:Ctx}{ι:Nat->Value}{σ:St}{a:Act}{w:World}
theorem Oa{P:Program}{fl:Bool}{σ:St}{oj oi:Oper}{K:Prop}(h:GW P fl σ oj oi K):GW P fl σ oj oi True/\K:=by
 unfold GW at h⊢
 repeat' split at h
 all_goals first|exact h.elim|skip
 all_goals simp_all
theorem Ik{P:Program}{fl:Bool}{ops:Array Oper}{listed:Array Bool}{σ:St}{oj:Oper}:∀(l:List Oper)(s:Nat){K:Prop},FO P fl ops listed σ oj s l K->
 K/\∀(i:Nat)(oi:Oper),l[i]? =some oi->listed.getD (s+i) false=true->AU oi.op=true->waits oj (s+i)=false->tY ops σ oi=false->GW P fl σ oj oi True
 |[],s,K,h=>⟨h,λi oi hi=>by simp at hi⟩
 |o::l,s,K,h=>by
  have key:(FO P fl ops listed σ oj (s+1) l K)/\(listed.getD s false=true->AU o.op=true->waits oj s=false->tY ops σ o=false->GW P fl σ oj o True):=by
   simp only[FO]at h;split at h
   .obtain⟨h1,h2⟩:=Oa h;exact⟨h2,λ_ _ _ _=>h1⟩
   .rename_i hn;refine⟨h,λh1 h2 h3 h4=>?_⟩;exact(hn h1 h2 h3 h4).elim
  obtain⟨hK,ih⟩:=Ik l (s+1) key.1;refine⟨hK,λi oi hi h1 h2 h3 h4=>?_⟩;cases i with
  |zero=>simp at hi;subst hi;exact key.2 (by simpa using h1) h2 (by simpa using h3) h4
  |succ i=>
   simp only[List.getElem?_cons_succ]at hi;exact ih i oi hi (by rw[show s+1+i=s+(i+1)by omega];exact h1) h2 (by rw[show s+1+i=s+(i+1)by omega];exact h3) h4
theorem N9{σ:St}{oj oi:Oper}{τ:St}{K:Prop}(h:Ef σ oj oi τ K):Ef σ oj oi τ True/\K:=by
 unfold Ef at h⊢
 repeat' split at h
 all_goals simp_all
theorem GV{ops:Array Oper}{listed:Array Bool}{σ:St}{oj:Oper}{τ:St}:∀(l:List Oper)(s:Nat){K:Prop},Cb ops listed σ oj τ s l K->
 K/\∀(i:Nat)(oi:Oper),l[i]? =some oi->listed.getD (s+i) false=true->AU oi.op=true->waits oj (s+i)=false->tY ops σ oi=false->Ef σ oj oi τ True
 |[],s,K,h=>⟨h,λi oi hi=>by simp at hi⟩
 |o::l,s,K,h=>by
  have key:(Cb ops listed σ oj τ (s+1) l K)/\(listed.getD s false=true->AU o.op=true->waits oj s=false->tY ops σ o=false->Ef σ oj o τ True):=by
   simp only[Cb]at h;split at h
   .obtain⟨h1,h2⟩:=N9 h;exact⟨h2,λ_ _ _ _=>h1⟩
   .rename_i hn;refine⟨h,λh1 h2 h3 h4=>?_⟩;exact(hn h1 h2 h3 h4).elim
  obtain⟨hK,ih⟩:=GV l (s+1) key.1;refine⟨hK,λi oi hi h1 h2 h3 h4=>?_⟩;cases i with
  |zero=>simp at hi;subst hi;exact key.2 (by simpa using h1) h2 (by simpa using h3) h4
  |succ i=>
   simp only[List.getElem?_cons_succ]at hi;exact ih i oi hi (by rw[show s+1+i=s+(i+1)by omega];exact h1) h2 (by rw[show s+1+i=s+(i+1)by omega];exact h3) h4
theorem M7{ops:Array Oper}{oi:Oper}(hM:aG B ι σ a w)(h:tY ops σ oi=true):Region.wanted oi (yielded ops a.tmps)=false:=by
 unfold tY at h;split at h
 .cases h
 .rename_i j want hg;split at h
  .cases h
  .rename_i g hj;split at h
   .cases h
   .rename_i d hd;split at h
    .rename_i t ht;rw[Kt hg hj hd (DA hM ht)];split at h
     .rfl
     .rfl
     .cases h
    .rename_i xs ht;exact D4 hg hj hd (Ii hM ht)
    .cases h
theorem wQ(hM:aG B ι σ a w){k:Nat}{ow:Own}(hown:nth σ.own k=some (some ow)){b:Nat}(hb:blk (ι k)=some b):∀{l:List Operand},Df σ k l=true->∀x∈l,∀j,(σ.ev x= .at (.lst j)\/∃off,σ.ev x= .at (.ptr j off))->blk (ι j)≠some b
 |[],_,x,hx=>by cases hx
 |y::r,h,x,hx=>by
  simp only[Df,Bool.and_eq_true]at h;rcases List.mem_cons.1 hx with rfl|hx
  .intro j hj hbj;have h1:=h.1;rcases hj with hj|⟨off,hj⟩
   all_goals
    simp only[hj]at h1;split at h1
    .rename_i o' ho';have:=hM.dist j k _ _ b ho' hown hbj hb;subst this;simp at h1
    .cases h1
  .exact wQ hM hown hb h.2 x hx
theorem XA{ops:Array Oper}{fl:Bool}{oj oi:Oper}{v:Value}{w':World}(hM:aG B ι σ a w)(hk:D2 σ ι oj w w')(hst:GW C.P fl σ oj oi True)(hpost:fl=true->∃τ:St,qS B τ.m τ.h w'/\Ef σ oj oi τ True)(hy:Yd C.P ops w oi v a):Yd C.P ops w' oi v a\/u6 C.P oi=false:=by
 unfold GW at hst;split at hst
 .rename_i hm;exact .inr hm
 .left;rcases hy with⟨hw,hrun⟩|hy
  .left;refine⟨hw,?_⟩;split at hst
   .rename_i T x hop;split at hst
    .exact hst.elim
    .rename_i hT;have hev:=hM.ev x
     have gen:∀(b off:Nat)(cs:List Value),a.eval x= .pointer (some ⟨b,off,none⟩)->cs.length=C.P.cellsOf T->(∀j u,cs[j]? =some u->w.cell? ⟨b,off+j,none⟩=some u)->(∀j u,cs[j]? =some u->w'.cell? ⟨b,off+j,none⟩=some u)->
      (execOp a.eval oi).run C.P w'= .ok (.value v) w':=by
      intro b off cs hx hl hc hc';have h1:=uF hT hl hc;have h2:=uF hT hl hc'
      have e1:(execOp a.eval oi).run C.P w= .ok (.value (XC C.P T cs)) w:=by
       unfold execOp;simp only[hop,hx,Instr.loadAt,Instr.sureAddr,Sem.run_bind,Sem.run_pure,Result.andThen_ok,h1]
      have e2:(execOp a.eval oi).run C.P w'= .ok (.value (XC C.P T cs)) w':=by
       unfold execOp;simp only[hop,hx,Instr.loadAt,Instr.sureAddr,Sem.run_bind,Sem.run_pure,Result.andThen_ok,h2]
      rw[e1]at hrun;simp only[Result.ok.injEq,Next.value.injEq,and_true]at hrun;rw[e2,hrun]
     split at hst
     .rename_i k off hx;rw[hx]at hev;split at hst
      .rename_i p T' cs hown;split at hst
       .rename_i ht hle;have hle:=Nat.le_of_ble_eq_true hle;obtain⟨b,vs,hι,hh,hdc⟩:=qN hM hown;obtain⟨b',hb',hpt⟩:=hev;rw[hι]at hb';simp only[Value.pointer.injEq,Option.some.injEq,Addr.mk.injEq]at hb';obtain⟨rfl, -, -⟩:=hb';have hh':=hk.cells k p T' cs b hown ht hι;rw[hh]at hh';have hvs:cs.length=vs.toList.length:=hdc.length;refine gen b off ((vs.toList.drop off).take (C.P.cellsOf T)) hpt (by simp at hvs⊢;omega) (λj u hu=>?_) (λj u hu=>?_)
        .rw[cell_of_heap hh];exact sK hu
        .rw[cell_of_heap hh'];exact sK hu
       .exact hst.elim
      .exact hst.elim
     .rename_i b off d hx hd;rw[hx]at hev;have hev:a.eval x= .pointer (some ⟨b,off,none⟩):=hev;split at hst
      .rename_i cs hcs;split at hst
       .rename_i l hl;split at hst
        .rename_i hlen;split at hst
         .rename_i hgr;have hc:=z7 hM.wrel hst.1;refine gen b off l hev (Nat.eq_of_beq_eq_true hlen) hc (λj u hu=>?_);have h1:=hc j u hu;cases hgr2:uH oj.op with
          |false=>
           rw[hgr2,Bool.false_or]at hgr;obtain⟨τ,hwτ,h2⟩:=hpost hgr;unfold Ef at h2;simp only[hop,hx,hd,hcs,hl,hgr2]at h2;exact z7 hwτ h2.1 j u hu
          |true=>
          have hgr:=hgr2;rw[<-h1];exact World.cell?_of_block (w:=w) (w':=w') (a:=⟨b,off+j,none⟩) (hk.ext hgr b (World.block_lt_of_cell? w ⟨b,off+j,none⟩ h1))
         .refine gen b off l hev (Nat.eq_of_beq_eq_true hlen) (λj u hu=>hM.wrel.hsat _ _ _ (hst.1.rd j u hu)) (λj u hu=>hk.imm _ _ _ (hst.1.rd j u hu))
        .exact hst.elim
       .exact hst.elim
      .exact hst.elim
     .rename_i k i sz off d hx hd;rw[hx]at hev;split at hst
      .rename_i E' s xs cs hown hcs;split at hst
       .rename_i l hl hs hap;have hs:=Nat.eq_of_beq_eq_true hs;subst hs;split at hst
        .rename_i hlen;obtain⟨e,he,hel⟩:=hst.1;obtain⟨hrows,hrow⟩:=mV hM hown;obtain⟨b,n,c,hι,hp⟩:=hev
         have blkSame:∀b,blk (ι k)=some b->w'.heap[b]? =w.heap[b]? :=by
          intro b hb;have hlt:=lI (hM.own k _ hown) hb;unfold Nv at hap;rw[Bool.or_eq_true]at hap;rcases hap with hap|hap
          .exact hk.ext hap b hlt
          .split at hap
           .rename_i l hl;refine hk.args l b hl hlt (hM.fresh k _ b hown hb).2.1 ?_;exact wQ hM hown hb hap
           .cases hap
         have hrow':w'.ownsRow 0 E' s (ι k) xs.length xs.flatten:=((hM.own k _ hown).world (λb hb=>blkSame b hb)).2
         have rd:∀w1:World,w1.ownsRow 0 E' s (ι k) xs.length xs.flatten->∀j u,l[j]? =some u->w1.cell? ⟨b,i*s+off+j,none⟩=some u:=by
          intro w1 h1 j u hu;rw[<-hel]at hu;have hv':=sK hu;have hf:=nK hrows.len he _ _ hv';have:=h1.cells (g:=b) (by rw[hι];rfl) _ _ hf;rw[Addr.add_none]at this;rw[<-this];congr 1;simp only[Addr.mk.injEq,and_true,true_and];omega
         exact gen b (i*s+off) l hp (Nat.eq_of_beq_eq_true hlen) (rd w hrow) (rd w' hrow')
        .exact hst.elim
       .exact hst.elim
      .exact hst.elim
     .exact hst.elim
   .rename_i src dst x hop;have hev:=hM.ev x;split at hst
    .rename_i k d hx hd;rw[hx]at hev;have hev:a.eval x=ι k:=hev;split at hst
     .rename_i E' sz xs s hown hs;split at hst
      .rename_i E hsrc hdst;split at hst
       .rename_i hE;split at hst
        .rename_i hap;have hxs:=hst.1;obtain⟨hrows,hrow⟩:=mV hM hown;have hbl:xs=bX s.data.toList:=hxs
         have blkSame:∀b,blk (ι k)=some b->w'.heap[b]? =w.heap[b]? :=by
          intro b hb;have hlt:=lI (hM.own k _ hown) hb;unfold Nv at hap;rw[Bool.or_eq_true]at hap;rcases hap with hap|hap
          .exact hk.ext hap b hlt
          .split at hap
           .rename_i l hl;refine hk.args l b hl hlt (hM.fresh k _ b hown hb).2.1 ?_;exact wQ hM hown hb hap
           .cases hap
         have hrow':w'.ownsRow 0 E' sz (ι k) xs.length xs.flatten:=((hM.own k _ hown).world (λb hb=>blkSame b hb)).2
         have go:∀w1:World,w1.ownsRow 0 E' sz (ι k) xs.length xs.flatten->(execOp a.eval oi).run C.P w1= .ok (.value (.string ⟨s.data.toList.toArray⟩)) w1:=by
          intro w1 h1;subst hbl;exact A7 hop hsrc hE hdst hev h1
         rw[go w hrow]at hrun;rw[go w' hrow'];simp only[Result.ok.injEq,Next.value.injEq,and_true]at hrun;rw[hrun]
        .exact hst.elim
       .exact hst.elim
      .exact hst.elim
     .exact hst.elim
    .exact hst.elim
   .exact hst.elim
  .exact .inr hy
theorem Mb{g:Nat->Prop}:∀{l:List Nat},WQ g l->∀j∈l,g j
 |[],_,j,hj=>by cases hj
 |[i],h,j,hj=>by simp at hj;subst hj;exact h
 |i::k::r,h,j,hj=>by
  rcases List.mem_cons.1 hj with rfl|hj
  .exact h.1
  .exact Mb h.2 j hj
theorem AV{ops:Array Oper}:∀{l:List Nat}{i:Nat}{o:Oper},CW ops l=some (i,o)->i∈l/\ops[i]? =some o/\AU o.op=true
 |[],i,o,h=>by simp[CW]at h
 |k::r,i,o,h=>by
  simp only[CW]at h;split at h
  .rename_i ok hok;split at h
   .rename_i hr;simp only[Option.some.injEq,Prod.mk.injEq]at h;obtain⟨rfl,rfl⟩:=h;rw[fV,Array.getElem?_toList]at hok;exact⟨List.mem_cons_self,hok,hr⟩
   .obtain⟨h1,h2⟩:=AV h;exact⟨List.mem_cons_of_mem _ h1,h2⟩
  .obtain⟨h1,h2⟩:=AV h;exact⟨List.mem_cons_of_mem _ h1,h2⟩
def o8(ops:Array Oper)(L:Array Bool):Nat:=((List.range ops.size).filter λi=> !L.getD i false).length
theorem D8{ops:Array Oper}{L:Array Bool}{i:Nat}(hsz:L.size=ops.size)(hi:i<ops.size)(hL:L.getD i false=false):o8 ops (L.setIfInBounds i true)+1=o8 ops L:=by
 unfold o8
 have key:∀(l:List Nat),l.Nodup->(l.filter λj=> !(L.setIfInBounds i true).getD j false).length+(if i∈l then 1 else 0)=(l.filter λj=> !L.getD j false).length:=by
  intro l
  induction l with
  |nil=>intro _;simp
  |cons j r ih=>
   intro hnd;have hnd':=List.nodup_cons.1 hnd;have:=ih hnd'.2;by_cases e:i=j
   .subst e;have h1:(L.setIfInBounds i true).getD i false=true:=pD aC;have h2:i∉r:=hnd'.1;simp only[List.filter_cons,h1,hL,Bool.not_true,Bool.not_false,if_true,Bool.false_eq_true,if_false,List.length_cons,List.mem_cons_self];simp only[h2,if_false]at this;omega
   .have h1:(L.setIfInBounds i true).getD j false=L.getD j false:=getD_set_ne false e;have h2:(i∈j::r)↔i∈r:=by simp[e]
    simp only[List.filter_cons,h1];split
    .simp only[List.length_cons,h2];omega
    .simp only[h2];exact this
 have:=key (List.range ops.size) List.nodup_range;rw[if_pos (List.mem_range.2 hi)]at this;exact this
theorem GL{ops:Array Oper}{L:Array Bool}(hs:YV ops)(hsz:L.size=ops.size)(h:Region.ready .any ops L=[]):∀i,i<ops.size->L.getD i false=true:=by
 intro i
 induction i using Nat.strongRecOn with
 |_ i ih=>
  intro hi;cases hL:L.getD i false with
  |true=>rfl
  |false=>
   exfalso;have ho:ops[i]? =some ops[i]:=Array.getElem?_eq_getElem hi
   have:i∈Region.ready .any ops L:=by
    rw[qM];refine⟨?_,_,ho,λk hk=>ih k (hs.topo i _ k ho hk) (Nat.lt_trans (hs.topo i _ k ho hk) hi)⟩;have hiL:i<L.size:=by omega
    simp[Array.getD,hiL]at hL⊢
    exact hL
   rw[h]at this;cases this
theorem zB{ops:Array Oper}{L:Array Bool}(h:∀i,i<ops.size->L.getD i false=true):Region.ready .any ops L=[]:=by
 cases hr:Region.ready .any ops L with
 |nil=>rfl
 |cons i r=>
  exfalso;have:i∈Region.ready .any ops L:=by rw[hr];exact List.mem_cons_self
  obtain⟨h1,o,ho,_⟩:=qM.1 this;have hi:=(Array.getElem?_eq_some_iff.1 ho).1;have:=h i hi;rw[(H2 h1).1]at this;cases this
theorem Mf.eq_of_all{P:Program}{ops:Array Oper}{L Cl:Array Bool}{ar ac:Act}(h:Mf P ops L Cl ar ac w)(hall:∀i,i<ops.size->L.getD i false=true):ar=ac:=by
 have ht:ar.tmps=ac.tmps:=by
  apply Array.ext_getElem?;intro t;refine h.agree t (λi o ho _ hL=>?_);have:=hall i (Array.getElem?_eq_some_iff.1 ho).1;rw[hL]at this;cases this
 have hd:=h.df;cases ar;cases ac;simp at ht hd;rw[ht,hd]
theorem UT{ops:Array Oper}{R:St->Prop}{n:Nat}{Cl:Array Bool}(h:yF C ops n Cl σ R)(hr:Region.ready .any ops Cl=[]):R σ:=by
 cases n<;>simp only[yF,hr]at h<;>exact h
theorem PT{ops:Array Oper}{listed:Array Bool}{σ:St}{oj:Oper}{τ:St}{K:Prop}(h:FE C ops listed σ oj τ K):
 (R5 C=true->∀(i:Nat)(oi:Oper),ops.toList[i]? =some oi->listed.getD (0+i) false=true->AU oi.op=true->waits oj (0+i)=false->tY ops σ oi=false->Ef σ oj oi τ True)/\K:=by
 unfold FE at h;split at h
 .rename_i e;obtain⟨h1,h2⟩:=GV _ 0 h;exact⟨λ_=>h2,h1⟩
 .rename_i e;refine⟨λe2=>?_,h⟩;rw[e]at e2;cases e2
theorem Ma(hspecs:∀g S,assoc C.specs g=some S->Sound C.P g S){ops:Array Oper}(hs:YV ops){Q:Exit->Act->World->Prop}{R:St->Prop}(hQ:∀ι σ a w,aG B ι σ a w->R σ->Q .normal a w)
 (hQp:∀c a w,¬Q (.panic c) a w):
 ∀(n:Nat)(fuel:Nat)(Cl:Array Bool)(ι:Nat->Value)(σ:St)(ac:Act)(w:World),aG B ι σ ac w->yF C ops n Cl σ R->∀(L:Array Bool)(ar:Act),Mf C.P ops L Cl ar ac w->o8 ops L=fuel->
  wpAny C.P .any ops Q fuel L ar w:=by
 have fin:∀(n:Nat)(Cl:Array Bool)(ι:Nat->Value)(σ:St)(ac:Act)(w:World),aG B ι σ ac w->yF C ops n Cl σ R->∀(L:Array Bool)(ar:Act),Mf C.P ops L Cl ar ac w->Region.ready .any ops L=[]->Q .normal ar w:=by
  intro n Cl ι σ ac w hM h L ar sim hr;have hall:=GL hs sim.szL hr;rw[sim.eq_of_all hall];exact hQ ι σ ac w hM (UT h (zB (λi hi=>sim.sub i (hall i hi))))
 have zero:∀(n:Nat)(Cl:Array Bool)(ι:Nat->Value)(σ:St)(ac:Act)(w:World),aG B ι σ ac w->yF C ops n Cl σ R->∀(L:Array Bool)(ar:Act),Mf C.P ops L Cl ar ac w->o8 ops L=0->wpAny C.P .any ops Q 0 L ar w:=by
  intro n Cl ι σ ac w hM h L ar sim hf
  have hall:∀i,i<ops.size->L.getD i false=true:=by
   intro i hi;unfold o8 at hf;have hnil:=List.eq_nil_of_length_eq_zero hf;cases hL:L.getD i false with
   |true=>rfl
   |false=>
    have:i∈(List.range ops.size).filter λi=> !L.getD i false:=List.mem_filter.2 ⟨List.mem_range.2 hi,by simp[hL]⟩;rw[hnil]at this;cases this
  have hr:=zB hall;exact⟨hr,fin n Cl ι σ ac w hM h L ar sim hr⟩
 have stepP:∀(n fuel:Nat),(∀(Cl:Array Bool)(ι:Nat->Value)(σ:St)(ac:Act)(w:World),aG B ι σ ac w->yF C ops n Cl σ R->∀(L:Array Bool)(ar:Act),Mf C.P ops L Cl ar ac w->o8 ops L=fuel->wpAny C.P .any ops Q fuel L ar w)->
  ∀(Cl:Array Bool)(ι:Nat->Value)(σ:St)(ac:Act)(w:World),aG B ι σ ac w->yF C ops n Cl σ R->∀(L:Array Bool)(ar:Act),Mf C.P ops L Cl ar ac w->o8 ops L=fuel+1->
   ∀i∈Region.ready .any ops L,Cl.getD i false=true->wpOp C.P ops Q i (wpAny C.P .any ops Q fuel (L.setIfInBounds i true)) ar w:=by
  intro n fuel ih Cl ι σ ac w hM h L ar sim hf i hi hC;obtain⟨hun,o,ho,hw⟩:=qM.1 hi;obtain⟨hL,hlt⟩:=H2 hun;obtain⟨v,hv,hlv,hpv⟩:=sim.pend i o ho hC hL
  have hy:Yd C.P ops w o v ar:=by
   rcases hs.look i o ho with hst|hlo
   .obtain⟨he,hwe⟩:=DV (hs.sel i o · · ho) (sim.looks hst hw);exact(hv hst w (.inr rfl)).congr he hwe
   .exact hlv hlo w
  have hnext:wpAny C.P .any ops Q fuel (L.setIfInBounds i true) (ar.put o.dst v) w:=
   ih Cl ι σ ac w hM h _ _ (sim.stepA hs ho hC hw hpv) (by have:=D8 sim.szL (by have:=sim.szL;omega) hL;omega)
  unfold wpOp;simp only[ho];rcases hy with⟨hwt,hrun⟩|⟨hwt,rfl⟩
  .rw[if_pos hwt];left;unfold Oper.wp;rw[hrun,Oper.upon_value];exact hnext
  .rw[if_neg (by simp[hwt])];exact hnext
 intro n
 induction n with
 |zero=>
  intro fuel
  induction fuel with
  |zero=>exact zero 0
  |succ fuel ihf=>
   intro Cl ι σ ac w hM h L ar sim hf;refine⟨fin 0 Cl ι σ ac w hM h L ar sim,λi hi=>?_⟩;cases hC:Cl.getD i false with
   |true=>exact stepP 0 fuel ihf Cl ι σ ac w hM h L ar sim hf i hi hC
   |false=>
    exfalso;obtain⟨hun,o,ho,hw⟩:=qM.1 hi
    have hiC:i∈Region.ready .any ops Cl:=by
     rw[qM];refine⟨?_,o,ho,λk hk=>sim.sub k (hw k hk)⟩;have:i<Cl.size:=by rw[sim.szC];exact(Array.getElem?_eq_some_iff.1 ho).1
     simp[Array.getD,this]at hC⊢
     exact hC
    simp only[yF]at h;split at h
    .rename_i hr;rw[hr]at hiC;cases hiC
    .exact h
 |succ n ihn=>
  intro fuel
  induction fuel with
  |zero=>exact zero (n+1)
  |succ fuel ihf=>
   intro Cl ι σ ac w hM h L ar sim hf;refine⟨fin (n+1) Cl ι σ ac w hM h L ar sim,λi hi=>?_⟩;cases hC:Cl.getD i false with
   |true=>exact stepP (n+1) fuel ihf Cl ι σ ac w hM h L ar sim hf i hi hC
   |false=>
    obtain⟨hun,o,ho,hw⟩:=qM.1 hi;obtain⟨hLi,hlt⟩:=H2 hun
    have hiC:i∈Region.ready .any ops Cl:=by
     rw[qM];refine⟨?_,o,ho,λk hk=>sim.sub k (hw k hk)⟩;have:i<Cl.size:=by rw[sim.szC];exact(Array.getElem?_eq_some_iff.1 ho).1
     simp[Array.getD,this]at hC⊢
     exact hC
    simp only[yF]at h;split at h
    .rename_i hr;rw[hr]at hiC;cases hiC
    .split at h
     ·
      rename_i k ok hfr;obtain⟨hkr,hok,hkrd⟩:=AV hfr;obtain⟨hkun,ok',hok',hkw⟩:=qM.1 hkr;rw[hok]at hok';cases hok';obtain⟨hkC,hklt⟩:=H2 hkun;obtain⟨σ1,hM1,hfz,hc⟩:=yA hM h;rcases hc with⟨hwt,h⟩|⟨hwt,h⟩
      .obtain⟨v,x,hrun,hx,hK⟩:=Vu hM1 hkrd h;have hsim:=sim.take hs hok hkC hkw hkrd (v:=v) (λw'' hw''=>.inl ⟨hwt,hrun w'' hw''⟩);exact(ihn (fuel+1) _ ι _ _ w (hM1.put ok.dst hx) hK L ar hsim hf).2 i hi
      .have hsim:=sim.take hs hok hkC hkw hkrd (v:=undef) (λw'' _=>.inr ⟨hwt,rfl⟩);exact(ihn (fuel+1) _ ι _ _ w (hM1.put ok.dst (x:=.at (.val undef)) rfl) h L ar hsim hf).2 i hi
     ·
      have hg:=Mb h i hiC;split at hg
      .rename_i o' ho';rw[fV,Array.getElem?_toList,ho]at ho';cases ho';obtain⟨hg,hstab⟩:=Ik _ 0 hg;obtain⟨he,hwe⟩:=DV (hs.sel i o · · ho) ((hs.look i o ho).elim (sim.looks · hw) (sim.looks' · hC));have hgw:=OT hspecs hM hg (λa' w'=>∃ι' σ',aG B ι' σ' a' w'/\FE C ops Cl σ o σ' (yF C ops n (Cl.setIfInBounds i true) σ' R)/\D2 σ ι o w w') Q (λι' σ' a' w' h1 h2 h3=>⟨ι',σ',h1,h2,h3⟩)
       have hB:∀(u:Value)(w':World),(∃ι' σ',aG B ι' σ' (ac.put o.dst u) w'/\FE C ops Cl σ o σ' (yF C ops n (Cl.setIfInBounds i true) σ' R)/\D2 σ ι o w w')->
        wpAny C.P .any ops Q fuel (L.setIfInBounds i true) (ar.put o.dst u) w':=by
        rintro u w' ⟨ι',σ',hM',h',hk'⟩;obtain⟨hpo,h'⟩:=PT h';refine ihn fuel _ ι' σ' _ w' hM' h' _ _ (sim.stepB hs ho hC hw u w' ?_) (by have:=D8 sim.szL (by have:=sim.szL;omega) hLi;omega);intro j oj v hj hCj hLj hy;cases hun':tY ops σ oj with
        |true=>
         have:=M7 hM hun';rcases hy with⟨h1,_⟩|h1
         .rw[this]at h1;cases h1
         .exact .inl (.inr h1)
        |false=>
         have hnw:waits o j=false:=by
          cases hwj:waits o j with
          |false=>rfl
          |true=>rw[hw j hwj]at hLj;cases hLj
         have hst:=hstab j oj (by rw[Array.getElem?_toList];exact hj) (by simpa using hCj) (sim.rd j oj hj hCj hLj) (by simpa using hnw) hun';exact XA hM hk' hst (λe=>⟨σ',hM'.wrel,hpo e j oj (by rw[Array.getElem?_toList];exact hj) (by simpa using hCj) (sim.rd j oj hj hCj hLj) (by simpa using hnw) hun'⟩) hy
       unfold GWp at hgw;unfold wpOp;simp only[ho];rw[hwe];split
       .rename_i hwt;rw[if_pos hwt]at hgw;left;refine NW he hgw hB ?_ hQp;rintro d w' ⟨ι',σ',hM',_⟩;have:=hM'.defers;rw[<-hM.defers]at this;cases hd:o.dst<;>simp[Act.put,hd]at this
       .rename_i hwt;rw[if_neg hwt]at hgw;exact hB undef w hgw
      .exact hg.elim
end
end Go.Vc
namespace Go.Vc
open Go
section
variable{B:mH}{C:Ctx}{ι:Nat->Value}{σ:St}{a:Act}{w:World}
theorem tX:∀{xs ys:List SV}{vs:List Value}{K:Prop},xU xs ys K->DenS ι xs vs->DenS ι ys vs/\K
 |[],[],vs,K,h,hd=>⟨hd,h⟩
 |x::xs,y::ys,[],K,_,hd=>hd.elim
 |x::xs,y::ys,v::vs,K,h,hd=>by
  unfold xU at h;split at h
  .rename_i h1 h2;cases h1
  .rename_i x' xs' ys' h1 h2;simp only[List.cons.injEq]at h1 h2;obtain⟨rfl,rfl⟩:=h1;obtain⟨rfl,rfl⟩:=h2;have:=tX h hd.2;exact⟨⟨trivial,this.1⟩,this.2⟩
  .rename_i x' xs' y' ys' _ h1 h2;simp only[List.cons.injEq]at h1 h2;obtain⟨rfl,rfl⟩:=h1;obtain⟨rfl,rfl⟩:=h2;obtain⟨rfl,h⟩:=h;have:=tX h hd.2;exact⟨⟨hd.1,this.1⟩,this.2⟩
  .exact h.elim
 |[],_::_,_,K,h,_=>by simp[xU]at h
 |_::_,[],_,K,h,_=>by simp[xU]at h
theorem rU:∀{xs ys:List (Option Own)}{K:Prop},rV xs ys K->(∀k o,nth ys k=some (some o)->nth xs k=some (some o))/\K
 |[],[],K,h=>⟨λk o hk=>by simp[nth]at hk,h⟩
 |x::xs,none::ys,K,h=>by
  simp only[rV]at h;obtain⟨h1,h2⟩:=rU h;refine⟨λk o hk=>?_,h2⟩;cases k with
  |zero=>simp[nth]at hk
  |succ k=>exact h1 k o hk
 |x::xs,some y::ys,K,h=>by
  simp only[rV]at h;obtain⟨rfl,h⟩:=h;obtain⟨h1,h2⟩:=rU h;refine⟨λk o hk=>?_,h2⟩;cases k with
  |zero=>exact hk
  |succ k=>exact h1 k o hk
 |[],_::_,K,h=>by simp[rV]at h
 |_::_,[],K,h=>by simp[rV]at h
theorem aG.setSlot(hM:aG B ι σ a w){i:Nat}{x:SV}{v:Value}(hv:a.tmps[i]? =some v)(hx:Den ι x v):aG B ι (σ.put (some i) x) a w:=by
 refine⟨?_,hM.defers,hM.own,hM.dist,hM.fresh,hM.wrel,hM.one⟩;have:=hM.slots.set i hx;show DenS ι (σ.sl.set i x) a.tmps.toList
 have e:a.tmps.toList.set i v=a.tmps.toList:=by
  apply List.ext_getElem?;intro j;rw[List.getElem?_set];split
  .rename_i hj;subst hj;rw[Array.getElem?_toList,hv];split
   .rfl
   .rename_i hlt;simp at hlt;rw[Array.getElem?_eq_none hlt]at hv;cases hv
  .rfl
 rw[e]at this;exact this
theorem aG.nilList(hM:aG B ι σ a w)(k E sz:Nat):aG B (upd ι k (.slice none 0 0)) ((σ.kill k).setOwn k (some (.lst E sz []))) a w:=by
 refine hM.place k _ _ (zM.refl _ _) ⟨DE sz,World.ownsRow_nil w 0 E sz⟩ rfl (λb hb=>by simp[blk]at hb)
theorem oG(τ:St):∀(ys:List SV)(i:Nat)(ι:Nat->Value)(σ:St),aG B ι σ a w->∃ι',aG B ι' (No τ ys i σ) a w
 |[],i,ι,σ,hM=>⟨ι,hM⟩
 |y::ys,i,ι,σ,hM=>by
  simp only[No];split
  .rename_i k;split
   .rename_i hs;split
    .rename_i E sz xs hτ hσ
     have hv:a.tmps[i]? =some (.slice none 0 0):=by
      rw[fV]at hs;obtain⟨v,hv,hd⟩:=hM.slots.get i _ hs;rw[Array.getElem?_toList]at hv;have hd:v= .slice none 0 0:=hd;rw[hv,hd]
     exact oG τ ys (i+1) _ _ ((hM.nilList k E sz).setSlot hv (x:=.at (.lst k)) (by show _=_;simp))
    .exact oG τ ys (i+1) ι σ hM
   .exact oG τ ys (i+1) ι σ hM
  .exact oG τ ys (i+1) ι σ hM
theorem kD(τ:St)(q:Nat):∀(ys:List At)(j:Nat)(ι:Nat->Value)(σ:St),aG B ι σ a w->∃ι',aG B ι' (Db τ q ys j σ) a w
 |[],j,ι,σ,hM=>⟨ι,hM⟩
 |y::ys,j,ι,σ,hM=>by
  simp only[Db];split
  .rename_i k;split
   .rename_i p T cs hq;split
    .rename_i hj;split
     .rename_i E sz xs hτ hσ;have hqk:q≠k:=λe=>by subst e;rw[hσ]at hq;cases hq
      have h1:=hM.nilList k E sz
      have hq1:nth ((σ.kill k).setOwn k (some (.lst E sz []))).own q=some (some (.cellsP p T (cs.map (At.sub k (λ_=>.junk))))):=by
       simp only[HZ,St.setOwn,St.sub,tG,vC,hqk,false_and,if_false,hq];rfl
      obtain⟨b,vs,hι,hh,hd⟩:=qN h1 hq1
      have hvj:vs.toList[j]? =some (.slice none 0 0):=by
       obtain⟨b0,vs0,hι0,hh0,hd0⟩:=qN hM hq;rw[fV]at hj;obtain⟨v,hv,hdv⟩:=hd0.get j _ hj;have hdv:v= .slice none 0 0:=hdv;rw[lA _ _ hqk,hι0]at hι;simp only[Value.pointer.injEq,Option.some.injEq,Addr.mk.injEq]at hι;obtain⟨rfl, -, -⟩:=hι;rw[hh0]at hh;simp only[Option.some.injEq,Obj.cells.injEq]at hh;rw[<-hh.1,hv,hdv]
      have hset:vs.toList.set j (.slice none 0 0)=vs.toList:=by
       apply List.ext_getElem?;intro t;rw[List.getElem?_set];split
       .rename_i e;subst e;rw[hvj];split
        .rfl
        .rename_i hlt;rw[List.getElem?_eq_none (Nat.le_of_not_lt hlt)]at hvj;cases hvj
       .rfl
      have h2:aG B (upd ι k (.slice none 0 0)) (DC ((σ.kill k).setOwn k (some (.lst E sz []))) q j (.lst k)) a w:=by
       unfold DC;rw[hq1];refine h1.rewrite hq1 (zM.refl _ _) ⟨b,vs,hι,hh,?_,λq' e=>by subst e;have:=Sw h1 hq1;rw[hι]at this;simpa using this⟩;have:=hd.set j (x:=.lst k) (v:=.slice none 0 0) (by show _=_;simp)
       rwa [hset]at this
      exact kD τ q ys (j+1) _ _ h2
     .exact kD τ q ys (j+1) ι σ hM
    .exact kD τ q ys (j+1) ι σ hM
   .exact kD τ q ys (j+1) ι σ hM
  .exact kD τ q ys (j+1) ι σ hM
theorem uB(τ:St):∀(ys:List (Option Own))(q:Nat)(ι:Nat->Value)(σ:St),aG B ι σ a w->∃ι',aG B ι' (H6 τ ys q σ) a w
 |[],q,ι,σ,hM=>⟨ι,hM⟩
 |y::ys,q,ι,σ,hM=>by
  simp only[H6];split
  .rename_i T cs;obtain⟨ι',hM'⟩:=kD τ q cs 0 ι σ hM;exact uB τ ys (q+1) ι' _ hM'
  .exact uB τ ys (q+1) ι σ hM
theorem iJ{τ:St}{K:Prop}(hM:aG B ι σ a w)(h:rT σ τ K):∃ι',aG B ι' τ a w/\K:=by
 obtain⟨ι1,hM1⟩:=oG τ τ.sl 0 ι σ hM;obtain⟨ι2,hM2⟩:=uB τ τ.own 0 ι1 _ hM1;have hM2:aG B ι2 (conv σ τ) a w:=hM2;unfold rT at h;obtain⟨hsl,h⟩:=tX h hM2.slots;obtain⟨hown,hm,hh,hK⟩:=rU h;refine⟨ι2,⟨hsl,hM2.defers,λk o hk=>hM2.own k o (hown k o hk),λk k' o o' b hk hk' hb hb'=>hM2.dist k k' o o' b (hown k o hk) (hown k' o' hk') hb hb',?_,?_,hM2.one⟩,hK⟩
 .intro k o b hk hb;rw[<-hm, <-hh];exact hM2.fresh k o b (hown k o hk) hb
 .rw[<-hm, <-hh];exact hM2.wrel
theorem aG.froze(hM:aG B ι σ a w){m2:MH}{h2:PH}(hF:Hq σ.m σ.h m2 h2):aG B ι {σ with m:=m2,h:=h2} a w:=by
 have hw:=hM.wrel;refine⟨hM.slots,hM.defers,hM.own,hM.dist,λk o b hk hb=>?_,?_,hM.one⟩
 .obtain⟨f1,f2,f3⟩:=hM.fresh k o b hk hb;refine⟨f1,?_,λi=>?_⟩
  .show m2 b=none;cases e2:m2 b with
   |none=>rfl
   |some o=>rw[hF.sub b o e2]at f2;cases f2
  .show h2 b i=none;cases e2:h2 b i with
   |none=>rfl
   |some v=>
    rcases hF.new b i v e2 with h3|⟨cs,E,fz,h3,_,_⟩
    .rw[f3 i]at h3;cases h3
    .rw[f2]at h3;cases h3
 .refine⟨hw.tape,hw.os,hw.output,hw.drawn,hw.size,hw.frame,λb o v e=>?_,λb o e=>hw.msat b o (hF.sub b o e),λb o e i=>?_,λb o v e=>hF.le.le b o v (hw.hle b o v e),λb h1 h2'=>?_,λb o e=>hw.mfr b o (hF.sub b o e)⟩
  .rcases hF.new b o v e with h3|⟨cs,E,fz,h3,h4,_⟩
   .exact hw.hsat b o v h3
   .rw[cell_of_heap (hw.msat b _ h3),Array.getElem?_toList];exact h4
  .show h2 b i=none;have e:m2 b=some o:=e;cases e2:h2 b i with
   |none=>rfl
   |some v=>
    rcases hF.new b i v e2 with h3|⟨cs,E,fz,h3,h4,h5⟩
    .rw[hw.disj b o (hF.sub b o e) i]at h3;cases h3
    .rw[h5]at e;cases e
  .funext i;have e:=congrFun (hw.hold b h1 h2') i;show h2 b i=B.h0 b i;cases e2:B.h0 b i with
   |some v=>exact hF.le.le b i v (hw.hle b i v e2)
   |none=>
    cases e3:h2 b i with
    |none=>rfl
    |some v=>
     rcases hF.new b i v e3 with h3|⟨cs,E,fz,h3,h4,h5⟩
     .rw[e,e2]at h3;cases h3
     .rcases hw.mfr b _ h3 with h6|h6
      .omega
      .exact(h2' h6).elim
theorem Fa{τ:St}{K:Prop}(hM:aG B ι σ a w)(h:MZ σ τ K):∃ι',aG B ι' τ a w/\K:=by
 obtain⟨ι1,hM1⟩:=oG τ τ.sl 0 ι σ hM;obtain⟨ι2,hM2⟩:=uB τ τ.own 0 ι1 _ hM1;have hM2:aG B ι2 (conv σ τ) a w:=hM2;unfold MZ at h;obtain⟨hsl,h⟩:=tX h hM2.slots;obtain⟨hown,hF,hK⟩:=rU h;have hM3:=hM2.froze hF;exact⟨ι2,⟨hsl,hM2.defers,λk o hk=>hM2.own k o (hown k o hk),λk k' o o' b hk hk' hb hb'=>hM2.dist k k' o o' b (hown k o hk) (hown k' o' hk') hb hb',λk o b hk hb=>hM3.fresh k o b (hown k o hk) hb,hM3.wrel,hM2.one⟩,hK⟩
theorem uG{c:sB}{R:c.A->Prop}(hM:aG B ι σ a w)(h:En c R σ):∃x ι',R x/\aG B ι' (c.st x) a w:=by
 unfold En at h;split at h
 .obtain⟨x,hx,hm⟩:=h;obtain⟨ι2,hM2,_⟩:=iJ hM hm;exact⟨x,ι2,hx,hM2⟩
 .obtain⟨x,hx,hm⟩:=h ⟨hM.wrel.disj⟩;obtain⟨ι2,hM2,_⟩:=Fa hM hm;exact⟨x,ι2,hx,hM2⟩
theorem Hl{c:sB}{I S:c.A->Prop}(hM:aG B ι σ a w)(h:Nx c I S σ):∃x ι',I x/\S x/\aG B ι' (c.st x) a w:=by
 unfold Nx at h;split at h
 .obtain⟨x,hx,hs,hm⟩:=h;obtain⟨ι2,hM2,_⟩:=iJ hM hm;exact⟨x,ι2,hx,hs,hM2⟩
 .obtain⟨x,hx,hs,hm⟩:=h ⟨hM.wrel.disj⟩;obtain⟨ι2,hM2,_⟩:=Fa hM hm;exact⟨x,ι2,hx,hs,hM2⟩
def QD(B:mH)(Q:uM->St->Prop):Exit->Act->World->Prop
 |.normal,a,w=>∃ι σ,aG B ι σ a w/\Q .normal σ
 |.exit id,a,w=>∃ι σ,aG B ι σ a w/\Q (.exit id) σ
 |.ret,a,w=>∃ι σ,aG B ι σ a w/\Q .ret σ
 |_,_,_=>False
theorem FT(hspecs:∀g S,assoc C.specs g=some S->Sound C.P g S){ops:Array Oper}{Q:uM->St->Prop}:
 ∀(segs:List (Nat×sB))(l:List Oper)(s:Nat)(ι:Nat->Value)(σ:St)(a:Act)(w:World),(∀j,l[j]? =ops.toList[s+j]?)->aG B ι σ a w->Sr C ops segs l σ (Q .normal)->wpOpsIn Fence.wide 0 C.P ops (QD B Q) (List.range' s l.length) a w
 |[],l,s,ι,σ,a,w,hl,hM,h=>by
  have:=DD hspecs (ops:=ops) (Q:=QD B Q) (R:=Q .normal) (rest:=[]) (λι σ a w hM h=>⟨ι,σ,hM,h⟩) l s ι σ a w (λj _=>hl j) hM h;simpa using this
 |(n,ann)::segs,l,s,ι,σ,a,w,hl,hM,h=>by
  obtain⟨I,h1,h2⟩:=h
  have:=DD hspecs (ops:=ops) (Q:=QD B Q) (R:=λτ=>∃x,I x/\rT τ (ann.st x) True) (rest:=List.range' (s+(l.take n).length) (l.drop n).length) (λι' σ' a' w' hM' hx=>by
   obtain⟨x,hx,hm⟩:=hx;obtain⟨ι2,hM2,_⟩:=iJ hM' hm;refine FT hspecs segs (l.drop n) (s+(l.take n).length) ι2 _ a' w' (λj=>?_) hM2 (h2 x hx);rw[List.getElem?_drop,hl];by_cases hn:n<=l.length
   .congr 1;simp;omega
   .have e1:l[n+j]? =none:=List.getElem?_eq_none aC;have e2:l[l.length+j]? =none:=List.getElem?_eq_none aC;rw[hl]at e1 e2;rw[e1,show s+(List.take n l).length+j=s+(l.length+j)by simp;omega,e2]) (l.take n) s ι σ a w (λj hj=>by
    rw[<-hl,List.getElem?_take];rw[if_pos (by simp at hj;omega)]) hM h1
  rwa [List.range'_append_1, <-List.length_append,List.take_append_drop]at this
theorem D5(hspecs:∀g S,assoc C.specs g=some S->Sound C.P g S):∀(c:Code)(σ:St)(Q:uM->St->Prop)(ι:Nat->Value)(a:Act)(w:World),aG B ι σ a w->VC C c σ Q->c.wp C.P (QD B Q) a w:=by
 intro c
 induction c with
 |skip=>intro σ Q ι a w hM h;exact wp_skip ⟨ι,σ,hM,h⟩
 |label l=>intro σ Q ι a w hM h;exact wp_label ⟨ι,σ,hM,h⟩
 |exit id=>intro σ Q ι a w hM h;exact wp_exit ⟨ι,σ,hM,h⟩
 |ret=>intro σ Q ι a w hM h;exact wp_ret ⟨ι,σ,hM,h⟩
 |goto l=>intro σ Q ι a w hM h;exact h.elim
 |refuse why=>intro σ Q ι a w hM h;exact h.elim
 |scope body ih=>intro σ Q ι a w hM h;exact h.elim
 |rangeFunc f ps x y ihx ihy=>intro σ Q ι a w hM h;exact h.elim
 |region id ops draw=>
  intro σ Q ι a w hM h;cases draw with
  |false=>
   refine(wpIn_wide (n:=0)).1 (wpIn_region ?_);have:=FT hspecs (ops:=ops) (Q:=Q) (FR C id) ops.toList 0 ι σ a w (λj=>by simp) hM h;rw[List.range_eq_range'];simpa using this
  |true=>
   simp only[VC]at h;split at h
   .rename_i h1 h2 h3;have hs:=Vf h1 h2;refine wp_region_any h3 ?_;refine Ma hspecs hs (Q:=QD B Q) (R:=Q .normal) (λι σ a w hM h=>⟨ι,σ,hM,h⟩) (λc a w h=>h) ops.size ops.size _ ι σ a _ (hM.drew (w.drawn+1) (Nat.le_succ _)) h _ a ?_ ?_
    .have hno:∀i,(Array.replicate ops.size false).getD i false=true->False:=by
      intro i hi;by_cases hlt:i<ops.size
      .simp[Array.getD,hlt]at hi
      .simp[Array.getD,hlt]at hi
     exact⟨by simp,by simp,λi hi=>hi,λi o _ hi=>(hno i hi).elim,λi o _ hi=>(hno i hi).elim,λi o _ hi=>(hno i hi).elim,rfl,rfl,λt _=>rfl,λi o _ hi=>(hno i hi).elim⟩
    .unfold o8;rw[List.filter_eq_self.2]
     .simp
     .intro i hi;by_cases hlt:i<ops.size<;>simp[Array.getD,hlt]
   .exact h.elim
 |seq x y ihx ihy=>
  intro σ Q ι a w hM h;simp only[VC]at h;split at h
  .obtain⟨h,hall⟩:=h;refine wp_seq (wp_mono (ihx σ _ ι a w hM h) ?_);intro e a' w' hq;cases e with
   |normal=>
    obtain⟨ι',σ',hM',x,hx,hm⟩:=hq;show y.wp C.P (QD B Q) a' w';obtain⟨ι2,hM2,_⟩:=iJ hM' hm;exact ihy _ Q ι2 a' w' hM2 (hall x hx)
   |exit id=>exact hq
   |ret=>exact hq
   |goto l=>exact hq
   |panic ch=>exact hq
   |outgrown=>exact hq
  .split at h
   .obtain⟨I,h,hall⟩:=h;refine wp_seq (wp_mono (ihx σ _ ι a w hM h) ?_);intro e a' w' hq;cases e with
    |normal=>
     obtain⟨ι',σ',hM',hm⟩:=hq;show y.wp C.P (QD B Q) a' w';obtain⟨x,ι2,hx,hM2⟩:=uG hM' hm;exact ihy _ Q ι2 a' w' hM2 (hall x hx)
    |exit id=>exact hq
    |ret=>exact hq
    |goto l=>exact hq
    |panic ch=>exact hq
    |outgrown=>exact hq
   .refine wp_seq (wp_mono (ihx σ _ ι a w hM h) ?_);intro e a' w' hq;cases e with
    |normal=>
     obtain⟨ι',σ',hM',h'⟩:=hq;show y.wp C.P (QD B Q) a' w';exact ihy σ' Q ι' a' w' hM' h'
    |exit id=>exact hq
    |ret=>exact hq
    |goto l=>exact hq
    |panic ch=>exact hq
    |outgrown=>exact hq
 |cond c x y ihx ihy=>
  intro σ Q ι a w hM h;simp only[VC]at h;split at h
  .rename_i t hc;have hev:=hM.ev c;rw[hc]at hev;have hev:a.eval c= .bool t:=hev;rcases nN h with⟨rfl,h⟩|⟨rfl,h⟩
   .exact wp_cond_true hev (ihx _ Q ι a w (hM.setTmp hc) h)
   .exact wp_cond_false hev (ihy _ Q ι a w (hM.setTmp hc) h)
  .exact h.elim
 |block id c ih=>
  intro σ Q ι a w hM h;refine wp_block (wp_mono (ih σ _ ι a w hM h) ?_);intro e a' w' hq;cases e with
  |normal=>exact hq
  |exit i=>
   obtain⟨ι',σ',hM',h'⟩:=hq;show if i=id then _ else _
   simp only at h';split at h'
   .rename_i hb;rw[if_pos (Nat.eq_of_beq_eq_true hb)];exact⟨ι',σ',hM',h'⟩
   .rename_i hb;rw[if_neg (λe=>by subst e;simp at hb)];exact⟨ι',σ',hM',h'⟩
  |ret=>exact hq
  |goto l=>exact hq
  |panic ch=>exact hq
  |outgrown=>exact hq
 |loop c ih=>
  intro σ Q ι a w hM h;simp only[VC]at h;split at h
  .rename_i l hl;obtain⟨⟨x,hx,hm⟩,hall⟩:=h;obtain⟨ι2,hM2,_⟩:=iJ hM hm;refine wp_loop_ghost (λn a w=>∃x ι,l.inv x/\l.mu x=n/\aG B ι (l.st x) a w) (l.mu x) ⟨x,ι2,hx,rfl,hM2⟩ ?_;rintro n a' w' ⟨x',ι',hx',rfl,hM'⟩;refine wp_mono (ih _ _ ι' a' w' hM' (hall x' hx')) ?_;intro e a'' w'' hq;cases e with
   |normal=>
    obtain⟨ι3,σ3,hM3,y,hy,hlt,hmy⟩:=hq;obtain⟨ι4,hM4,_⟩:=iJ hM3 hmy;exact⟨l.mu y,hlt,y,ι4,hy,rfl,hM4⟩
   |exit id=>exact hq
   |ret=>exact hq
   |goto l=>exact hq
   |panic ch=>exact hq
   |outgrown=>exact hq
  .split at h
   .rename_i l hl;obtain⟨I,mu,hm,hall⟩:=h;obtain⟨x,ι2,hx,hM2⟩:=uG hM hm;refine wp_loop_ghost (λn a w=>∃x ι,I x/\mu x=n/\aG B ι (l.st x) a w) (mu x) ⟨x,ι2,hx,rfl,hM2⟩ ?_;rintro n a' w' ⟨x',ι',hx',rfl,hM'⟩;refine wp_mono (ih _ _ ι' a' w' hM' (hall x' hx')) ?_;intro e a'' w'' hq;cases e with
    |normal=>
     obtain⟨ι3,σ3,hM3,hmy⟩:=hq;obtain⟨y,ι4,hy,hlt,hM4⟩:=Hl hM3 hmy;exact⟨mu y,hlt,y,ι4,hy,rfl,hM4⟩
    |exit id=>exact hq
    |ret=>exact hq
    |goto l=>exact hq
    |panic ch=>exact hq
    |outgrown=>exact hq
   .exact h.elim
end
end Go.Vc
namespace Go.Vc
open Go
section
variable{B:mH}{C:Ctx}{ι:Nat->Value}{σ:St}{a:Act}{w:World}
def F8(tmps:Array Value):ResultVar->Sem Value
 |.tmp t=>pure (tmps.getD t undef)
 |.cell a t=>do loadVar t (<-asAddr (tmps.getD a undef))
theorem Ix(fn:Func)(tmps:Array Value):results fn tmps=(do let vs <-fn.results.mapM (F8 tmps);pure (if h:vs.size=1 then vs[0]else .tuple vs)):=by
 unfold results;congr 1
theorem On(hM:aG B ι σ a w){r:ResultVar}{x:SV}(h:Sv C σ r=some x):∃v,(F8 a.tmps r).run C.P w= .ok v w/\Den ι x v:=by
 cases r with
 |tmp t=>
  simp only[Sv,Option.some.injEq]at h;subst h;exact⟨_,rfl,hM.ev (.tmp t)⟩
 |cell ad T=>
  have hev:=hM.ev (.tmp ad);simp only[Sv]at h;split at h
  .rename_i k off hx;rw[hx]at hev;split at h
   .rename_i p T' cs hk;split at h
    .rename_i hle hT;have hle:=Nat.le_of_ble_eq_true hle;simp only[Option.some.injEq]at h;subst h;obtain⟨b,vs,hι,hh,hd⟩:=qN hM hk;obtain⟨b',hb',hp⟩:=hev;rw[hι]at hb';simp only[Value.pointer.injEq,Option.some.injEq,Addr.mk.injEq]at hb';obtain⟨rfl, -, -⟩:=hb';have hd':=(hd.drop off).take (C.P.cellsOf T);have hvs:cs.length=vs.toList.length:=hd.length;have hl:=uF (w:=w) (b:=b) (off:=off) (cs:=(vs.toList.drop off).take (C.P.cellsOf T)) hT (by simp at hvs⊢;omega) (λj v hv=>by rw[cell_of_heap hh];exact sK hv);refine⟨_,?_,DX hd'⟩;have hp':a.tmps.getD ad undef= .pointer (some ⟨b,off,none⟩):=hp;simp only[F8,hp',asAddr,Sem.run_bind,Sem.run_pure,Result.andThen_ok,hl]
    .cases h
   .cases h
  .cases h
theorem El(hM:aG B ι σ a w):∀(l:List ResultVar)(xs:List SV),DF C σ l=some xs->∃vs,(l.mapM (F8 a.tmps)).run C.P w= .ok vs w/\DenS ι xs vs
 |[],xs,h=>by
  simp[DF]at h;subst h;exact⟨[],by simp,trivial⟩
 |r::l,xs,h=>by
  simp only[DF]at h;split at h
  .rename_i x xs' hx hxs;simp only[Option.some.injEq]at h;subst h;obtain⟨v,hv,hd⟩:=On hM hx;obtain⟨vs,hvs,hds⟩:=El hM l xs' hxs;exact⟨v::vs,by simp[List.mapM_cons,hv,hvs],hd,hds⟩
  .cases h
theorem sA(hM:aG B ι σ a w){mv:Bool}:∀(xs:List SV)(ts:List TypeId)(rs:List CV)(vs:List Value),zL C.P σ mv xs ts=some rs->DenS ι xs vs->
 rs.length=vs.length/\(mv=false->rs=vs.map .val)/\∀(i:Nat)(r:CV)(v:Value),rs[i]? =some r->vs[i]? =some v->zU w r v/\∀b,eJ r v=some b->∃k ow,nth σ.own k=some (some ow)/\blk (ι k)=some b
 |[],ts,rs,[],h,_=>by
  simp[zL]at h;subst h;exact⟨rfl,λ_=>rfl,λi r v hr=>by simp at hr⟩
 |[],_,_,_::_,_,hd=>hd.elim
 |x::xs,_,_,[],_,hd=>hd.elim
 |x::xs,ts,rs,v::vs,h,hd=>by
  simp only[zL]at h;split at h
  .cases h
  .rename_i l hl;obtain⟨ih1,ih2,ih3⟩:=sA hM xs ts.tail l vs hl hd.2
   have fin:∀(c0:CV),rs=c0::l->(mv=false->c0= .val v)->zU w c0 v->(∀b,eJ c0 v=some b->∃k ow,nth σ.own k=some (some ow)/\blk (ι k)=some b)->
    rs.length=(v::vs).length/\(mv=false->rs=(v::vs).map .val)/\∀(i:Nat)(r:CV)(u:Value),rs[i]? =some r->(v::vs)[i]? =some u->zU w r u/\∀b,eJ r u=some b->∃k ow,nth σ.own k=some (some ow)/\blk (ι k)=some b:=by
    intro c0 hrs h1 h2 h3;subst hrs;refine⟨by simp[ih1],λhm=>by rw[h1 hm,ih2 hm];rfl,λi r u hr hu=>?_⟩;cases i with
    |zero=>simp at hr hu;subst hr hu;exact⟨h2,h3⟩
    |succ i=>simp only[List.getElem?_cons_succ]at hr hu;exact ih3 i r u hr hu
   split at h
   .split at h
    .rename_i k;have hv:v=ι k:=hd.1;split at h
     .rename_i E sz ys hk;simp only[Option.some.injEq]at h;obtain⟨hr,ho⟩:=mV hM hk;exact fin _ h.symm (λe=>by cases e) ⟨hr,by rw[hv];exact ho⟩ (λb hb=>⟨k,_,hk,by rw[<-hv];exact hb⟩)
     .cases h
    .have hv:v= .slice none 0 0:=hd.1;split at h
     .rename_i E z hE;simp only[Option.some.injEq]at h;refine fin _ h.symm (λe=>by cases e) ⟨DE _,by rw[hv];exact World.ownsRow_nil w 0 E _⟩ (λb hb=>?_);rw[hv]at hb;simp[eJ,blk]at hb
     .cases h
    .cases h
   .split at h
    .rename_i u hu;simp only[Option.some.injEq]at h;have hv:=(hd.1).val? hu;exact fin _ h.symm (λ_=>by rw[hv]) hv (λb hb=>by simp[eJ]at hb)
    .cases h
theorem Cd(hM:aG B ι σ a w){fn:Func}{K:CV->MH->PH->Prop}(h:zA C fn K σ):
 ∃u,(results fn a.tmps).run C.P w= .ok u w/\∃r m' h',K r m' h'/\zU w r u/\qS B m' h' w/\∀b,eJ r u=some b->(B.w0.heap.size<=b\/B.E b)/\m' b=none/\∀i,h' b i=none:=by
 unfold zA at h;split at h
 .exact h.elim
 .rename_i xs hxs;obtain⟨τ',hMτ',h,_⟩:=kH _ _ hM h;obtain⟨τ,hMτ,h,_⟩:=sW _ _ hMτ' h;split at h
  .exact h.elim
  .rename_i ys hys;obtain⟨vs,hvs,hds⟩:=El hMτ _ _ hys
   have hres:(results fn a.tmps).run C.P w= .ok (if h:vs.toArray.size=1 then vs.toArray[0]else .tuple vs.toArray) w:=by
    rw[Ix,Array.mapM_eq_mapM_toList];simp[hvs]
   have blocks:∀(rs:List CV)(r:CV)(v:Value),zL C.P τ C.retMove ys fn.resultTypes.toList=some rs->(∃i:Nat,rs[i]? =some r/\vs[i]? =some v)->zU w r v/\∀b,eJ r v=some b->(B.w0.heap.size<=b\/B.E b)/\τ.m b=none/\∀i,τ.h b i=none:=by
    rintro rs r v hrs ⟨i,hr,hv⟩;obtain⟨_,_,h3⟩:=sA hMτ _ _ _ _ hrs hds;obtain⟨h4,h5⟩:=h3 i r v hr hv;refine⟨h4,λb hb=>?_⟩;obtain⟨k,ow,hk,hbk⟩:=h5 b hb;exact hMτ.fresh k ow b hk hbk
   split at h
   .rename_i r hr;obtain⟨hlen,_,_⟩:=sA hMτ _ _ _ _ hr hds;simp at hlen
    obtain⟨v,rfl⟩:∃v,vs=[v]:=by
     match vs,hlen with
     |[v],_=>exact⟨v,rfl⟩
    obtain⟨h4,h5⟩:=blocks _ r v hr ⟨0,rfl,rfl⟩;refine⟨v,by simpa using hres,r,τ.m,τ.h,h,h4,hMτ.wrel,h5⟩
   .rename_i rs hne hrs;split at h
    .exact h.elim
    .rename_i hmv;obtain⟨hlen,hval,_⟩:=sA hMτ _ _ _ _ hrs hds
     have hnl:vs.length≠1:=by
      intro e;rw[e]at hlen
      match rs,hlen with
      |[r],_=>exact hne r rfl
     refine⟨.tuple vs.toArray,by rw[hres,dif_neg (by simpa using hnl)],.tup rs,τ.m,τ.h,h,⟨vs.toArray,rfl,by simpa using hval hmv⟩,hMτ.wrel,λb hb=>by simp[eJ]at hb⟩
   .exact h.elim
def G7(n:Nat)(cvs:List CV)(vs:List Value)(k:Nat):Value:=
 match cvs[k-n]?,vs[k-n]? with
 |some (.lst _ _ _),some v=>v
 |_,_=>.slice none 0 0
theorem mG{w:World}:∀{cvs:List CV}{vs:List Value},wT w cvs vs->cvs.length=vs.length/\∀(i:Nat)(c:CV)(v:Value),cvs[i]? =some c->vs[i]? =some v->zU w c v
 |[],[],_=>⟨rfl,λi c v h=>by simp at h⟩
 |c::cs,v::vs,h=>by
  obtain⟨h1,h2⟩:=mG h.2;refine⟨by simp[h1],λi c' v' hc hv=>?_⟩;cases i with
  |zero=>simp at hc hv;subst hc hv;exact h.1
  |succ i=>simp at hc hv;exact h2 i c' v' hc hv
 |[],_::_,h=>h.elim
 |_::_,[],h=>h.elim
theorem Hi{n:Nat}{all:List CV}{avs:List Value}{w:World}:∀(i:Nat)(cvs:List CV)(vs:List Value),wT w cvs vs->(∀j:Nat,cvs[j]? =all[i+j]?)->(∀j:Nat,vs[j]? =avs[i+j]?)->
 DenS (G7 n all avs) (Da n i cvs) vs
 |i,[],[],_,_,_=>trivial
 |i,c::cvs,v::vs,h,h1,h2=>by
  have ih:=Hi (n:=n) (all:=all) (avs:=avs) (i+1) cvs vs h.2 (λj=>by have:=h1 (j+1);simp only[List.getElem?_cons_succ]at this;rw[this];congr 1;omega) (λj=>by have:=h2 (j+1);simp only[List.getElem?_cons_succ]at this;rw[this];congr 1;omega);cases c with
  |val u=>exact⟨h.1,ih⟩
  |lst E sz xs=>
   refine⟨?_,ih⟩;show v=G7 n all avs (n+i);have e1:=h1 0;have e2:=h2 0;simp at e1 e2;unfold G7;rw[show n+i-n=i by omega, <-e1, <-e2]
  |tup rs=>exact⟨trivial,ih⟩
 |i,[],_::_,h,_,_=>h.elim
 |i,_::_,[],h,_,_=>h.elim
theorem Fp:∀(cvs:List CV)(k:Nat)(o:Own),nth (uJ cvs) k=some (some o)->∃E sz xs,cvs[k]? =some (.lst E sz xs)/\o= .lst E sz xs
 |[],k,o,h=>by simp[uJ,nth]at h
 |c::cvs,0,o,h=>by
  cases c<;>simp[uJ,nth]at h;rename_i E sz xs;exact⟨E,sz,xs,rfl,h.symm⟩
 |c::cvs,k+1,o,h=>by
  have:nth (uJ cvs) k=some (some o):=by cases c<;>simpa[uJ,nth]using h
  obtain⟨E,sz,xs,h1,h2⟩:=Fp cvs k o this;exact⟨E,sz,xs,by simpa using h1,h2⟩
theorem L4{ι:Nat->Value}:∀(n:Nat)(vs:List Value),vs.length=n->DenS ι (List.replicate n (.at .junk)) vs
 |0,[],_=>trivial
 |n+1,v::vs,h=>⟨trivial,L4 n vs (by simpa using h)⟩
 |0,_::_,h=>by simp at h
 |_+1,[],h=>by simp at h
theorem DenS.append{ι:Nat->Value}:∀{xs xs':List SV}{vs vs':List Value},DenS ι xs vs->DenS ι xs' vs'->DenS ι (xs++xs') (vs++vs')
 |[],_,[],_,_,h'=>by simpa using h'
 |_::_,_,_::_,_,h,h'=>⟨h.1,DenS.append h.2 h'⟩
 |[],_,_::_,_,h,_=>h.elim
 |_::_,_,[],_,h,_=>h.elim
theorem AY{w:World}{m:MH}{h:PH}{cvs:List CV}{vs:List Value}(n:Nat)(hp:uD w m h cvs vs):
 aG ⟨w,mX m cvs vs,h,[]⟩ (G7 n cvs vs) (entry n cvs m h) {tmps:=vs.toArray++Array.replicate (n-vs.toArray.size) undef,defers:=[]} w:=by
 obtain⟨hlen,hget⟩:=mG hp.args
 have hown:∀k o,nth (entry n cvs m h).own k=some (some o)->n<=k/\∃E sz xs,cvs[k-n]? =some (.lst E sz xs)/\o= .lst E sz xs/\∃v,vs[k-n]? =some v/\G7 n cvs vs k=v/\zU w (.lst E sz xs) v:=by
  intro k o hk;simp only[entry]at hk;rw[fV]at hk;by_cases hkn:k<n
  .rw[List.getElem?_append_left (by simpa using hkn)]at hk;simp[hkn]at hk
  .rw[List.getElem?_append_right (by simpa using Nat.le_of_not_lt hkn)]at hk;simp only[List.length_replicate]at hk;rw[<-fV]at hk;obtain⟨E,sz,xs,h1,h2⟩:=Fp cvs (k-n) o hk
   have hlt:k-n<vs.length:=by
    rw[<-hlen];exact(List.getElem?_eq_some_iff.1 h1).1
   have hv:vs[k-n]? =some vs[k-n]:=List.getElem?_eq_getElem hlt;refine⟨aC,E,sz,xs,h1,h2,_,hv,?_,hget _ _ _ h1 hv⟩;unfold G7;rw[h1,hv]
 refine⟨?_,rfl,?_,?_,?_,?_,?_⟩
 .have h1:=Hi (n:=n) (all:=cvs) (avs:=vs) 0 cvs vs hp.args (λj=>by simp) (λj=>by simp);show DenS _ (Da n 0 cvs++List.replicate (n-cvs.length) (.at .junk)) _;have:(vs.toArray++Array.replicate (n-vs.toArray.size) undef).toList=vs++List.replicate (n-vs.length) undef:=by simp
  rw[this];exact h1.append (L4 _ _ (by simp[hlen]))
 .intro k o hk;obtain⟨hkn,E,sz,xs,h1,rfl,v,hv,hι,hok⟩:=hown k o hk;rw[hι];exact hok
 .intro k k' o o' b hk hk' hb hb';obtain⟨hkn,E,sz,xs,h1,rfl,v,hv,hι,hok⟩:=hown k o hk;obtain⟨hkn',E',sz',xs',h1',rfl,v',hv',hι',hok'⟩:=hown k' o' hk';rw[hι]at hb;rw[hι']at hb';have:=hp.sep (k-n) (k'-n) _ _ v v' b h1 hv h1' hv' hb hb';omega
 .intro k o b hk hb;obtain⟨hkn,E,sz,xs,h1,rfl,v,hv,hι,hok⟩:=hown k o hk;rw[hι]at hb;obtain⟨f1,f2⟩:=hp.free (k-n) _ v b h1 hv hb;exact⟨.inr (.inr ⟨k-n,_,v,h1,hv,hb⟩),f1,f2⟩
 .refine⟨rfl,rfl,rfl,Nat.le_refl _,Nat.le_refl _,λ_ _ _=>rfl,hp.hsat,hp.msat,hp.disj,λ_ _ _ h=>h,λ_ _ _=>rfl,λb ob hb=>.inr (.inl (by have hb:m b=some ob:=hb;rw[hb];simp))⟩
 .intro k;unfold G7;split
  .rename_i E sz xs v h1 h2;exact G0 (hget _ _ _ h1 h2).2
  .rfl
theorem fU{P:Program}{f:FuncId}{fn:Func}{c:Code}(hf:P.funcs[f]? =some fn)(hb:fn.body=some c)(hname:(fn.name== "runtime.NumGoroutine")=false){S:Spec}
 (hvc:∀cvs m h K,S cvs m h K->∃C:Ctx,C.P=P/\(∀g S,assoc C.specs g=some S->Sound P g S)/\qI C fn c (entry fn.ntmps cvs m h) K):Sound P f S:=by
 refine⟨⟨fn,hf,by rw[hb];rfl,hname⟩,?_⟩;intro cvs vs m h w K hS hp;obtain⟨C,rfl,hspecs,hv⟩:=hvc cvs m h K hS;refine calls_of_wp hf hb ?_;refine wp_mono (D5 hspecs c _ _ _ _ w (AY fn.ntmps hp) hv) ?_;intro e a' w' hq
 have key:(∃ι σ,aG ⟨w,mX m cvs vs,h,[]⟩ ι σ a' w'/\zA C fn K σ)->a'.defers=[]/\∃v,(results fn a'.tmps).run C.P w'= .ok v w'/\∃r u m' h',Ending.returned v= .returned u/\K r m' h'/\zU w' r u/\qS ⟨w,mX m cvs vs,h,[]⟩ m' h' w'/\
  ∀b,eJ r u=some b->(w.heap.size<=b\/mX m cvs vs b)/\m' b=none/\∀i,h' b i=none:=by
  rintro⟨ι,σ,hM,hr⟩;obtain⟨u,hu,r,m',h',h1,h2,h3,h4⟩:=Cd hM hr;exact⟨hM.defers,u,hu,r,u,m',h',rfl,h1,h2,h3,h4⟩
 cases e with
 |normal=>exact key hq
 |ret=>exact key hq
 |exit id=>obtain⟨_,_,_,h⟩:=hq;exact h.elim
 |goto l=>exact hq.elim
 |panic ch=>exact hq.elim
 |outgrown=>exact hq.elim
theorem TS{P:Program}{f:FuncId}{fn:Func}{c:Code}(hf:P.funcs[f]? =some fn)(hb:fn.body=some c)(hname:(fn.name== "runtime.NumGoroutine")=false){S:Spec}
 (hvc:∀cvs m h K,S cvs m h K->∃C:Ctx,C.P=P/\(∀g S,assoc C.specs g=some S->Sound P g S)/\qI C fn c (entry fn.ntmps cvs m h) (λr m' h'=>∃m2 h2,(∀b o,m2 b=some o->m' b=some o)/\PH.le h h2/\PH.le h2 h'/\K r m2 h2)):Sound P f S:=by
 have h0:=fU hf hb hname (S:=λcvs m h K=>∃K',S cvs m h K'/\K=λr m' h'=>∃m2 h2,(∀b o,m2 b=some o->m' b=some o)/\PH.le h h2/\PH.le h2 h'/\K' r m2 h2) (by
  rintro cvs m h K ⟨K',hS,rfl⟩;exact hvc cvs m h K' hS)
 refine⟨h0.1,λcvs vs m h w K hS hp=>?_⟩;refine(h0.2 cvs vs m h w _ ⟨K,hS,rfl⟩ hp).mono ?_;rintro e w' ⟨r,u,m',h',he,⟨m2,h2,k1,k2,k3,hK⟩,hok,hw,hfr⟩
 have hnone:∀b i,h' b i=none->h2 b i=none:=by
  intro b i e;cases e2:h2 b i with
  |none=>rfl
  |some v=>rw[k3.le b i v e2]at e;cases e
 refine⟨r,u,m2,h2,he,hK,hok,?_,λb hb=>?_⟩
 .refine⟨hw.tape,hw.os,hw.output,hw.drawn,hw.size,hw.frame,λb o v e=>hw.hsat b o v (k3.le b o v e),λb o e=>hw.msat b o (k1 b o e),λb o e i=>hnone b i (hw.disj b o (k1 b o e) i),k2.le,λb h1 h2'=>?_,λb o e=>hw.mfr b o (k1 b o e)⟩;funext i;have e:=congrFun (hw.hold b h1 h2') i;show h2 b i=h b i;cases e2:h b i with
  |some v=>exact(k2.le b i v e2)
  |none=>exact hnone b i (by rw[e];exact e2)
 .obtain⟨f1,f2,f3⟩:=hfr b hb;refine⟨f1,?_,λi=>hnone b i (f3 i)⟩;cases e2:m2 b with
  |none=>rfl
  |some o=>rw[k1 b o e2]at f2;cases f2
def cH(h:PH)(K:CV->MH->PH->Prop):CV->MH->PH->Prop:=λr m' h'=>(∀b o,m' b=some o->∀i,h' b i=none)->∃m2 h2,(∀b o,m2 b=some o->m' b=some o)/\PH.le h h2/\
 (∀b i v,h2 b i=some v->h' b i=some v\/∃cs E fz,m' b=some (.cells cs E fz)/\cs[i]? =some v/\m2 b=none)/\K r m2 h2
theorem Sound.strong{P:Program}{f:FuncId}{S:Spec}(h0:Sound P f (λcvs m h K=>∃K',S cvs m h K'/\K=cH h K')):Sound P f S:=by
 refine⟨h0.1,λcvs vs m h w K hS hp=>?_⟩;refine(h0.2 cvs vs m h w _ ⟨K,hS,rfl⟩ hp).mono ?_;rintro e w' ⟨r,u,m',h',he,hStr,hok,hw,hfr⟩;obtain⟨m2,h2,k1,k2,k3,hK⟩:=hStr hw.disj;refine⟨r,u,m2,h2,he,hK,hok,?_,λb hb=>?_⟩
 .refine⟨hw.tape,hw.os,hw.output,hw.drawn,hw.size,hw.frame,λb o v e=>?_,λb o e=>hw.msat b o (k1 b o e),λb o e i=>?_,k2.le,λb h1 h2'=>?_,λb o e=>hw.mfr b o (k1 b o e)⟩
  .rcases k3 b o v e with h3|⟨cs,E,fz,h3,h4,_⟩
   .exact hw.hsat b o v h3
   .rw[cell_of_heap (hw.msat b _ h3),Array.getElem?_toList];exact h4
  .cases e2:h2 b i with
   |none=>rfl
   |some v=>
    rcases k3 b i v e2 with h3|⟨cs,E,fz,h3,h4,h5⟩
    .rw[hw.disj b o (k1 b o e) i]at h3;cases h3
    .rw[h5]at e;cases e
  .funext i;have e:=congrFun (hw.hold b h1 h2') i;show h2 b i=h b i;cases e2:h b i with
   |some v=>exact(k2.le b i v e2)
   |none=>
    cases e3:h2 b i with
    |none=>rfl
    |some v=>
     rcases k3 b i v e3 with h3|⟨cs,E,fz,h3,h4,h5⟩
     .rw[e]at h3;have:h b i=some v:=h3;rw[e2]at this;cases this
     .rcases hw.mfr b _ h3 with h6|h6
      .have h6:w.heap.size<=b:=h6;have h1:b<w.heap.size:=h1;omega
      .exact(h2' h6).elim
 .obtain⟨f1,f2,f3⟩:=hfr b hb;refine⟨f1,?_,λi=>?_⟩
  .cases e2:m2 b with
   |none=>rfl
   |some o=>rw[k1 b o e2]at f2;cases f2
  .cases e2:h2 b i with
   |none=>rfl
   |some v=>
    rcases k3 b i v e2 with h3|⟨cs,E,fz,h3,_,_⟩
    .rw[f3 i]at h3;cases h3
    .rw[f2]at h3;cases h3
theorem TR{P:Program}{f:FuncId}{fn:Func}{c:Code}(hf:P.funcs[f]? =some fn)(hb:fn.body=some c)(hname:(fn.name== "runtime.NumGoroutine")=false){S:Spec}
 (hvc:∀cvs m h K,S cvs m h K->∃C:Ctx,C.P=P/\(∀g S,assoc C.specs g=some S->Sound P g S)/\qI C fn c (entry fn.ntmps cvs m h) (cH h K)):Sound P f S:=
 .strong (fU hf hb hname (S:=λcvs m h K=>∃K',S cvs m h K'/\K=cH h K') (by
  rintro cvs m h K ⟨K',hS,rfl⟩;exact hvc cvs m h K' hS))
end
end Go.Vc
namespace Go.Vc
open Go
theorem aB{c:Bool}{A B:Prop}(h1:c=true->A)(h2:c=false->B):branch c A B:=by
 cases c
 .exact h2 rfl
 .exact h1 rfl
theorem aE{p:Prop}[Decidable p]{A B:Prop}(h1:p->A)(h2:¬p->B):branch (decide p) A B:=
 aB (λh=>h1 (of_decide_eq_true h)) (λh=>h2 (of_decide_eq_false h))
theorem gD{n:Int}(h1: -9223372036854775808<=n)(h2:n<9223372036854775808):IntKind.i64.wrap n=n:=by
 rw[IntKind.wrap_i64];omega
theorem aI.of_m{m:MH}{h:PH}{b off:Nat}{cs:Array Value}{E:TypeId}{fz:Nat×Nat}{l:List Value}(hm:m b=some (.cells cs E fz))(hl:(cs.toList.drop off).take l.length=l):aI m h b off l:=.lent cs E fz hm hl
end Go.Vc
namespace Go.Ps
open Go Go.Vc Go.Proofs
variable{K:CV->MH->PH->Prop}{m:MH}{h:PH}{ps:List Int}{cb:Nat}{l:List Int}{i:Nat}{N:Nat}{m':MH}{h':PH}{co:List Int}{gr:List Int}{on:List (Int×Int)}{od:List (Int×Bool)}{ta:Int}{li:Int}{xs:List (List Value)}{sz:Nat}{k:Nat}{ks:List (List Int)}{rs:List Int}{r:Sl}{a:List Int}{b:Nat}
structure VV where
 kind:Int
 int:Int
 text:ByteArray
structure OV where
 kind:Int
 index:Int
 value:VV
structure PV where
 op:Int
 cmp:Int
 left:OV
 right:OV
 args:Sl
structure QV where
 op:Int
 table:Int
 where_:PV
 columns:Sl
 on:Sl
 group:Sl
 order:Sl
 limit:Int
 args:Sl
variable{v:QV}
structure sE where
 name:ByteArray
 kind:Int
structure PU where
 columns:Sl
 table:Int
structure bS where
 name:ByteArray
 columns:Sl
 key:Int
 references:Sl
 checks:Sl
structure bN where
 version:Int
 tables:Sl
variable{sc:bN}
abbrev cJ(n:Int):Value:=.int .i64 n
abbrev bV(s:Sl):Value:=.slice s.a s.len s.cap
abbrev nV:Value:=.slice none 0 0
abbrev Xo:Value:=.string ⟨⟨[]⟩⟩
abbrev U8(b o:Nat):Value:=.pointer (some ⟨b,o,none⟩)
abbrev iQ(n:Int):At:=.val (.int .i64 n)
abbrev yY(s:Sl):At:=.val (.slice s.a s.len s.cap)
abbrev WR:At:=.val (.slice none 0 0)
abbrev aQz:At:=.val (.string ⟨⟨[]⟩⟩)
abbrev gI(n:Int):SV:=.at (.val (.int .i64 n))
abbrev Ss(s:Sl):SV:=.at (.val (.slice s.a s.len s.cap))
abbrev Zp:SV:=.at (.val (.slice none 0 0))
abbrev sQp(b o:Nat):SV:=.at (.ptr b o)
abbrev Vj(b o:Nat):SV:=.at (.val (.pointer (some ⟨b,o,none⟩)))
abbrev MJ(b:Bool):SV:=.at (.val (.bool b))
abbrev sQl(k:Nat):SV:=.at (.lst k)
abbrev dY(n:Int):CV:=.val (.int .i64 n)
abbrev yX(b:Bool):CV:=.val (.bool b)
abbrev dG(s:Sl):CV:=.val (.slice s.a s.len s.cap)
abbrev uO:CV:=.val (.slice none 0 0)
abbrev NP(b o:Nat):CV:=.val (.pointer (some ⟨b,o,none⟩))
abbrev fB(l:List Value):CV:=.val (.agg ⟨l⟩)
abbrev oQ(T:TypeId)(l:List At):Option Go.Vc.Own:=some (.cells T l)
abbrev eQ{α:Type}(x:α):Prop:=x=x
abbrev eP(k:Nat):Prop:=sQp k 0=sQp k 0
abbrev eL(k:Nat):Prop:=sQl k=sQl k
abbrev aQt(s:ByteArray):At:=.val (.string s)
abbrev zQ:List At:=[iQ 0,iQ 0,iQ 0,iQ 0,iQ 0,iQ 0,iQ 0,iQ 0,aQz,iQ 0,iQ 0,iQ 0,iQ 0,aQz,WR,WR,WR,WR,WR,iQ 0,WR]
abbrev zP:List At:=[iQ 0,iQ 0,iQ 0,iQ 0,iQ 0,iQ 0,aQz,iQ 0,iQ 0,iQ 0,iQ 0,aQz,WR]
def eI(n:Int):List Value:=[.int .i64 n]
def eS(s:Sl):List Value:=[.slice s.a s.len s.cap]
def VV.enc(v:VV):List Value:=[.int .i64 v.kind,.int .i64 v.int,.string v.text]
def OV.enc(o:OV):List Value:=[.int .i64 o.kind,.int .i64 o.index,.int .i64 o.value.kind,.int .i64 o.value.int,.string o.value.text]
def PV.enc(p:PV):List Value:=
 [.int .i64 p.op,.int .i64 p.cmp,
  .int .i64 p.left.kind,.int .i64 p.left.index,.int .i64 p.left.value.kind,.int .i64 p.left.value.int,.string p.left.value.text,
  .int .i64 p.right.kind,.int .i64 p.right.index,.int .i64 p.right.value.kind,.int .i64 p.right.value.int,.string p.right.value.text,
  .slice p.args.a p.args.len p.args.cap]
def QV.enc(q:QV):List Value:=
 [.int .i64 q.op,.int .i64 q.table,
  .int .i64 q.where_.op,.int .i64 q.where_.cmp,
  .int .i64 q.where_.left.kind,.int .i64 q.where_.left.index,.int .i64 q.where_.left.value.kind,.int .i64 q.where_.left.value.int,.string q.where_.left.value.text,
  .int .i64 q.where_.right.kind,.int .i64 q.where_.right.index,.int .i64 q.where_.right.value.kind,.int .i64 q.where_.right.value.int,.string q.where_.right.value.text,
  .slice q.where_.args.a q.where_.args.len q.where_.args.cap,
  .slice q.columns.a q.columns.len q.columns.cap,.slice q.on.a q.on.len q.on.cap,.slice q.group.a q.group.len q.group.cap,.slice q.order.a q.order.len q.order.cap,
  .int .i64 q.limit,.slice q.args.a q.args.len q.args.cap]
def sE.enc(c:sE):List Value:=[.string c.name,.int .i64 c.kind]
def PU.enc(r:PU):List Value:=[.slice r.columns.a r.columns.len r.columns.cap,.int .i64 r.table]
def bS.enc(t:bS):List Value:=[.string t.name,.slice t.columns.a t.columns.len t.columns.cap,.int .i64 t.key,.slice t.references.a t.references.len t.references.cap,.slice t.checks.a t.checks.len t.checks.cap]
def bN.enc(s:bN):List Value:=[.int .i64 s.version,.slice s.tables.a s.tables.len s.tables.cap]
abbrev zV:List Value:=[cJ 0,cJ 0,cJ 0,cJ 0,cJ 0,cJ 0,cJ 0,cJ 0,Xo,cJ 0,cJ 0,cJ 0,cJ 0,Xo,nV,nV,nV,nV,nV,cJ 0,nV]
abbrev pQ(p:PV)(r:List At):List At:=iQ p.op::iQ p.cmp::iQ p.left.kind::iQ p.left.index::iQ p.left.value.kind::iQ p.left.value.int::aQt p.left.value.text::iQ p.right.kind::iQ p.right.index::iQ p.right.value.kind::iQ p.right.value.int::aQt p.right.value.text::yY p.args::r
def Et(p:Int×Int):List Value:=[.int .i64 p.1,.int .i64 p.2]
def Cc(p:Int×Bool):List Value:=[.int .i64 p.1,.bool p.2]
def dI:Za:=⟨Int,eI⟩
def dS:Za:=⟨Sl,eS⟩
def dB:Za:=⟨Bool,λb=>[.bool b]⟩
def dU8:Za:=⟨UInt8,λb=>[.int .u8 b.toNat]⟩
def adZ:Za:=⟨ByteArray,λs=>[.string s]⟩
def WG:Option Nat->Value
 |none=>.nilFunc
 |some f=>.func (.func f) #[] #[]
def dF:Za:=⟨Option Nat,λf=>[WG f]⟩
structure NV where
 s:bN
 params:Sl
 q:QV
 args:Sl
def NV.enc(n:NV):List Value:=n.s.enc++eS n.params++n.q.enc++eS n.args
structure iO where
 kind:Int
 table:Int
 columns:Sl
 query:QV
def iO.enc(r:iO):List Value:=.int .i64 r.kind:: .int .i64 r.table:: .slice r.columns.a r.columns.len r.columns.cap::r.query.enc
structure dH where
 table:Int
 old:Sl
 new:Sl
def dH.enc(c:dH):List Value:=[.int .i64 c.table,.slice c.old.a c.old.len c.old.cap,.slice c.new.a c.new.len c.new.cap]
structure FI where
 change:Int
 after:Bool
 table:Int
 key:Sl
 column:Int
def FI.enc(d:FI):List Value:=[.int .i64 d.change,.bool d.after,.int .i64 d.table,.slice d.key.a d.key.len d.key.cap,.int .i64 d.column]
structure GN where
 columns:Sl
 before:Sl
 after:Sl
def GN.enc(w:GN):List Value:=[.slice w.columns.a w.columns.len w.columns.cap,.slice w.before.a w.before.len w.before.cap,.slice w.after.a w.after.len w.after.cap]
def dec:TypeId->Za:=λT=>match T with
 |2=>dI
 |3=>dI
 |4=>dB
 |5=>dU8
 |9=>adZ
 |47=>dI
 |22=>dS
 |36=>dS
 |38=>dS
 |61=>dS
 |31=>dS
 |64=>dS
 |65=>dS
 |66=>dS
 |27=>dS
 |95=>dS
 |75=>dS
 |71=>dS
 |72=>dS
 |165=>dS
 |29=>⟨bN,bN.enc⟩
 |58=>⟨VV,VV.enc⟩
 |60=>⟨OV,OV.enc⟩
 |63=>⟨PV,PV.enc⟩
 |68=>⟨QV,QV.enc⟩
 |74=>⟨bS,bS.enc⟩
 |81=>⟨Int×Int,Et⟩
 |138=>⟨Int×Bool,Cc⟩
 |80=>⟨sE,sE.enc⟩
 |126=>⟨PU,PU.enc⟩
 |206=>⟨NV,NV.enc⟩
 |207=>dF
 |262=>dF
 |214=>⟨Nat,λb=>[.func (.func 174) #[] #[.pointer (some ⟨b,0,none⟩)]]⟩
 |197=>⟨Nat,λb=>[.map (some b)]⟩
 |243=>⟨Nat,λb=>[.map (some b)]⟩
 |23=>dS
 |24=>dS
 |32=>dS
 |46=>dS
 |117=>dS
 |155=>dS
 |34=>⟨Sl×Sl,λp=>[.slice p.1.a p.1.len p.1.cap,.slice p.2.a p.2.len p.2.cap]⟩
 |70=>⟨iO,iO.enc⟩
 |84=>⟨dH,dH.enc⟩
 |77=>⟨FI,FI.enc⟩
 |114=>⟨GN,GN.enc⟩
 |108=>⟨Nat,λb=>[.map (some b)]⟩
 |109=>⟨Nat,λb=>[.map (some b)]⟩
 |_=>⟨Unit,λ_=>[]⟩
def bU(f:Func):Code:=match f.body with|some c=>c|none=>.skip
noncomputable def ctx(specs:List (Nat×Vc.Spec))(loops:List (Nat×H9))(cuts:List (Nat×Sg))(moves:List (Nat×List Nat))(retMove:Bool):Ctx:=
 {P:=Tryz.prog,loops2:=[],cuts2:=[],rcuts:=[],heapT:=[],specs:=specs,dec:=dec,loops:=loops,cuts:=cuts,moves:=moves,retMove:=retMove,yield:=none}
noncomputable def dL(specs:List (Nat×Vc.Spec))(loops:List (Nat×sB))(cuts:List (Nat×sB))(moves:List (Nat×List Nat))(retMove:Bool):Ctx:=
 {P:=Tryz.prog,loops2:=loops,cuts2:=cuts,rcuts:=[],heapT:=[],specs:=specs,dec:=dec,loops:=[],cuts:=[],moves:=moves,retMove:=retMove,yield:=none}
noncomputable def sY(specs:List (Nat×Vc.Spec))(loops:List (Nat×sB))(cuts:List (Nat×sB))(rcuts:List (Nat×List (Nat×sB)))(heapT:List TypeId)(moves:List (Nat×List Nat))(retMove:Bool):Ctx:=
 {P:=Tryz.prog,loops2:=loops,cuts2:=cuts,rcuts:=rcuts,heapT:=heapT,specs:=specs,dec:=dec,loops:=[],cuts:=[],moves:=moves,retMove:=retMove,yield:=none}
theorem aF:∀g S,assoc ([]:List (Nat×Vc.Spec)) g=some S->Sound Tryz.prog g S:=λg S h=>by simp[assoc]at h
theorem aD{g0:Nat}{S0:Vc.Spec}{r:List (Nat×Vc.Spec)}(h0:Sound Tryz.prog g0 S0)(hr:∀g S,assoc r g=some S->Sound Tryz.prog g S):∀g S,assoc ((g0,S0)::r) g=some S->Sound Tryz.prog g S:=by
 intro g S h;simp only[assoc]at h;split at h
 .rename_i hb;have:=Nat.eq_of_beq_eq_true hb;subst this;simp at h;subst h;exact h0
 .exact hr g S h
end Go.Ps
namespace Go.Vc
open Go
theorem PH.le.refl(h:PH):PH.le h h:=⟨λ_ _ _ e=>e⟩
theorem PH.le.trans{h h' h'':PH}(a:PH.le h h')(b:PH.le h' h''):PH.le h h'':=⟨λx y v e=>b.le x y v (a.le x y v e)⟩
theorem bF.mono{h h':PH}{b o:Nat}{l:List Value}(r:bF h b o l)(le:PH.le h h'):bF h' b o l:=⟨λi v e=>le.le _ _ _ (r.rd i v e)⟩
theorem bH.mono{h h':PH}{s:Sl}{sz:Nat}{xs:List (List Value)}(r:bH h s sz xs)(le:PH.le h h'):bH h' s sz xs:=
 ⟨r.len,r.row.imp id λ⟨b,o,e,k⟩=>⟨b,o,e,λi x hx=>(k i x hx).mono le⟩,r.cap⟩
theorem bH.get{h:PH}{s:Sl}{sz:Nat}{xs:List (List Value)}(r:bH h s sz xs){i:Nat}{e:List Value}(hi:xs[i]? =some e):
 ∃b o,s.a=some ⟨b,o,none⟩/\bF h b (o+i*sz) e:=by
 rcases r.row with rfl|⟨b,o,ha,k⟩
 .simp at hi
 .exact⟨b,o,ha,k i e hi⟩
theorem cD.blk{m:MH}{s:Sl}{E sz:Nat}{xs:List (List Value)}(h:cD m s E sz xs){b i:Nat}(e:s.a=some ⟨b,i,none⟩):∃cur,m b=some (.cells cur E (0,0)):=by
 rcases h.ex with⟨rfl,_⟩|⟨b',cap,cur,rfl,hm,_⟩
 .cases e
 .simp only[Option.some.injEq,Addr.mk.injEq]at e;rw[<-e.1];exact⟨cur,hm⟩
theorem cD.slen{m:MH}{s:Sl}{E sz:Nat}{xs:List (List Value)}(h:cD m s E sz xs):s.len=xs.length:=by
 rcases h.ex with⟨rfl,rfl⟩|⟨b',cap,cur,rfl,hm,_⟩<;>rfl
theorem cD.keep{m m':MH}{s:Sl}{E sz:Nat}{xs:List (List Value)}(h:cD m s E sz xs)(hk:∀b i,s.a=some ⟨b,i,none⟩->m' b=m b):cD m' s E sz xs:=by
 refine⟨h.rows,?_⟩;rcases h.ex with h1|⟨b,cap,cur,rfl,hm,h2⟩
 .exact .inl h1
 .exact .inr ⟨b,cap,cur,rfl,by rw[hk b 0 rfl];exact hm,h2⟩
theorem nU.keep{m m':MH}{b:Nat}{kvs:List (Value×Value)}(h:nU m b kvs)(hk:m' b=m b):nU m' b kvs:=by
 obtain⟨es,c,h1,h2⟩:=h.ex;exact⟨es,c,by rw[hk];exact h1,h2⟩
theorem bH.nil(h:PH)(sz:Nat):bH h ⟨none,0,0⟩ sz []:=⟨rfl,.inl rfl,Nat.le_refl _⟩
end Go.Vc
namespace Go.Ps
open Go Go.Vc Go.Proofs
variable{K:CV->MH->PH->Prop}{m:MH}{h:PH}{ps:List Int}{cb:Nat}{sc:bN}{v:QV}{l:List Int}{i:Nat}{N:Nat}{m':MH}{h':PH}{co:List Int}{gr:List Int}{on:List (Int×Int)}{od:List (Int×Bool)}{ta:Int}{li:Int}{xs:List (List Value)}{sz:Nat}{k:Nat}{ks:List (List Int)}{rs:List Int}{r:Sl}{a:List Int}{b:Nat}
structure Ints(h:PH)(s:Sl)(l:List Int):Prop where
 row:bH h s 1 (l.map eI)
 len:l.length<=17592186044416
theorem Ints.mono{s:Sl}(r:Ints h s l)(le:PH.le h h'):Ints h' s l:=⟨r.row.mono le,r.len⟩
theorem Ints.slen{s:Sl}(r:Ints h s l):s.len=l.length:=by have:=r.row.len;simpa using this
structure nS(h:PH)(s:Sl)(l:List (Int×Int)):Prop where
 row:bH h s 2 (l.map Et)
 len:l.length<=8796093022208
theorem nS.mono{s:Sl}{l:List (Int×Int)}(r:nS h s l)(le:PH.le h h'):nS h' s l:=⟨r.row.mono le,r.len⟩
theorem nS.slen{s:Sl}{l:List (Int×Int)}(r:nS h s l):s.len=l.length:=by have:=r.row.len;simpa using this
structure jY(h:PH)(s:Sl)(l:List (Int×Bool)):Prop where
 row:bH h s 2 (l.map Cc)
 len:l.length<=8796093022208
theorem jY.mono{s:Sl}{l:List (Int×Bool)}(r:jY h s l)(le:PH.le h h'):jY h' s l:=⟨r.row.mono le,r.len⟩
theorem jY.slen{s:Sl}{l:List (Int×Bool)}(r:jY h s l):s.len=l.length:=by have:=r.row.len;simpa using this
inductive Pred where
 |mk (op cmp:Int) (left right:OV) (args:List Pred)
variable{p:Pred}{w:Pred}
mutual
def fZ(h:PH):Pred->PV->Prop
 |.mk op cmp l r args,v=>v.op=op/\v.cmp=cmp/\v.left=l/\v.right=r/\args.length<=502633886983/\∃vs:List PV,bH h v.args 13 (vs.map PV.enc)/\sI h args vs
def sI(h:PH):List Pred->List PV->Prop
 |[],vs=>vs=[]
 |p::ps,vs=>∃v vs',vs=v::vs'/\fZ h p v/\sI h ps vs'
end
mutual
theorem fZ.mono{h h':PH}(le:PH.le h h'):∀{p:Pred}{v:PV},fZ h p v->fZ h' p v
 |.mk ..,_,⟨h1,h2,h3,h4,h5,vs,h6,h7⟩=>⟨h1,h2,h3,h4,h5,vs,h6.mono le,sI.mono le h7⟩
theorem sI.mono{h h':PH}(le:PH.le h h'):∀{ps:List Pred}{vs:List PV},sI h ps vs->sI h' ps vs
 |[],_,h=>h
 |_::_,_,⟨v,vs',h1,h2,h3⟩=>⟨v,vs',h1,fZ.mono le h2,sI.mono le h3⟩
end
theorem sI.length{h:PH}:∀{ps:List Pred}{vs:List PV},sI h ps vs->vs.length=ps.length
 |[],_,h=>by rw[show _=[]from h];rfl
 |_::_,_,⟨_,_,h1,_,h3⟩=>by rw[h1];simp[sI.length h3]
theorem sI.get{h:PH}:∀{ps:List Pred}{vs:List PV},sI h ps vs->∀{i:Nat}{p:Pred},ps[i]? =some p->∃v,vs[i]? =some v/\fZ h p v
 |[],_,_,i,p,e=>by simp at e
 |p0::ps,_,⟨v,vs',rfl,h2,h3⟩,0,p,e=>by simp at e;subst e;exact⟨v,rfl,h2⟩
 |p0::ps,_,⟨v,vs',rfl,h2,h3⟩,i+1,p,e=>by simp at e;simpa using sI.get h3 e
inductive Query where
 |mk (op table:Int) (wher:Pred) (columns:List Int) (on:List (Int×Int)) (group:List Int) (order:List (Int×Bool)) (limit:Int) (args:List Query)
variable{q:Query}
mutual
def fF(h:PH):Query->QV->Prop
 |.mk op table w columns on group order limit args,v=>v.op=op/\v.table=table/\fZ h w v.where_/\Ints h v.columns columns/\nS h v.on on/\Ints h v.group group/\jY h v.order order/\v.limit=limit/\
  args.length<=502633886983/\∃vs:List QV,bH h v.args 21 (vs.map QV.enc)/\uN h args vs
def uN(h:PH):List Query->List QV->Prop
 |[],vs=>vs=[]
 |p::ps,vs=>∃v vs',vs=v::vs'/\fF h p v/\uN h ps vs'
end
mutual
theorem fF.mono{h h':PH}(le:PH.le h h'):∀{p:Query}{v:QV},fF h p v->fF h' p v
 |.mk ..,_,⟨h1,h2,h3,h4,h5,h6,h7,h8,h9,vs,h10,h11⟩=>⟨h1,h2,h3.mono le,h4.mono le,h5.mono le,h6.mono le,h7.mono le,h8,h9,vs,h10.mono le,uN.mono le h11⟩
theorem uN.mono{h h':PH}(le:PH.le h h'):∀{ps:List Query}{vs:List QV},uN h ps vs->uN h' ps vs
 |[],_,h=>h
 |_::_,_,⟨v,vs',h1,h2,h3⟩=>⟨v,vs',h1,fF.mono le h2,uN.mono le h3⟩
end
theorem uN.length{h:PH}:∀{ps:List Query}{vs:List QV},uN h ps vs->vs.length=ps.length
 |[],_,h=>by rw[show _=[]from h];rfl
 |_::_,_,⟨_,_,h1,_,h3⟩=>by rw[h1];simp[uN.length h3]
theorem uN.get{h:PH}:∀{ps:List Query}{vs:List QV},uN h ps vs->∀{i:Nat}{p:Query},ps[i]? =some p->∃v,vs[i]? =some v/\fF h p v
 |[],_,_,i,p,e=>by simp at e
 |p0::ps,_,⟨v,vs',rfl,h2,h3⟩,0,p,e=>by simp at e;subst e;exact⟨v,rfl,h2⟩
 |p0::ps,_,⟨v,vs',rfl,h2,h3⟩,i+1,p,e=>by simp at e;simpa using uN.get h3 e
def iv(n:Int):SV:=.at (.val (.int .i64 n))
def sv(s:Sl):SV:=.at (.val (.slice s.a s.len s.cap))
def bv(b:Bool):SV:=.at (.val (.bool b))
def vv(v:Value):SV:=.at (.val v)
def cS(s:Sl):CV:=.val (.slice s.a s.len s.cap)
def cI(n:Int):CV:=.val (.int .i64 n)
def cB(b:Bool):CV:=.val (.bool b)
def cP(b:Nat):CV:=.val (.pointer (some ⟨b,0,none⟩))
def KQ(id:Nat)(st:Nat->St)(inv:Nat->Prop)(mu:Nat->Nat):Nat×H9:=(id,{A:=Nat,st:=st,inv:=inv,mu:=mu})
theorem j5(h:i<=140737488355328):IntKind.i64.wrap ((i:Int)+1)=((i+1:Nat):Int):=by
 rw[gD aC aC];rfl
theorem Ints.at{s:Sl}(r:Ints h s l){x:Int}(hi:l[i]? =some x):∃b o,s.a=some ⟨b,o,none⟩/\bF h b (o+i) [.int .i64 x]:=by
 obtain⟨b,o,h1,h2⟩:=r.row.get (i:=i) (e:=eI x) (by simp[hi]);exact⟨b,o,h1,by simpa[eI]using h2⟩
theorem MT{p:Prop}(h:p:=by repeat' (first|with_reducible rfl|exact trivial|refine⟨?_,?_⟩|rfl|(rw[j5 aC];done)|(rw[j5 aC]))):p:=h
def cA(k:Int):Bool:=k==3||k==4||k==5
def Bu(t:ByteArray):Bool:=t.toList==[]
def kK(v:VV):Bool:=
 if v.kind==1||v.kind==2 then v.int==0&&Bu v.text
 else if v.kind==3 then(v.int==0||v.int==1)&&Bu v.text
 else if v.kind==4 then Bu v.text
 else if v.kind==5 then v.int==0&&(v.text.size:Int)<=64
 else false
def jD(v:VV):Bool:=kK v&&v.kind>=3
def aV(v:VV):CV:=.val (.agg #[.int .i64 v.kind,.int .i64 v.int,.string v.text])
def NA:Vc.Spec:=λcvs m h K=>∃v,cvs=[aV v]/\K (cB (kK v)) m h
def PW:Vc.Spec:=λcvs m h K=>∃v,cvs=[aV v]/\K (cB (jD v)) m h
def W4:Vc.Spec:=λcvs m h K=>∃s l,cvs=[cS s]/\Ints h s l/\K (cB (l.all cA)) m h
noncomputable def Wp(s:Sl)(l:List Int)(m:MH)(h:PH):Ctx:=
 ctx [] [KQ 2 (λi=>cM 22 23 [(5,sv s),(6,iv s.len),(7,iv i)] [] m h) (λi=>i<=l.length/\(l.take i).all cA=true) (λi=>l.length-i)] [] [] false
abbrev bQ(a b:Int)(c d:Prop):Prop:=branch (a==b) c d
noncomputable abbrev CN(a:VV):Bool:=a.text.toList==[]
noncomputable abbrev aT:CV:=yX false
attribute [push_cast] bQ CN aT
def Ji(v:VV)(m:MH)(h:PH)(K:CV->MH->PH->Prop):Prop:=
  bQ v.kind 1 (branch (v.int==0) (K (yX (CN v)) m h) (K aT m h)) (bQ v.kind 2 (branch (v.int==0) (K (yX (CN v)) m h) (K aT m h)) (bQ v.kind 3 (branch (v.int==0) (K (yX (CN v)) m h) (branch (v.int==1) (K (yX (CN v)) m h) (K aT m h))) (branch (v.kind==4) (K (yX (CN v)) m h) (bQ v.kind 5 (branch (v.int==0) (K (yX (decide ((↑v.text.size:Int)<=64))) m h) (K aT m h)) (K aT m h)))))
abbrev eV(a b:CV):Prop:=[a]=[b]
noncomputable abbrev kA(a:VV):CV:=fB a.enc
abbrev vF(a:VV)(b:VV->Prop):Prop:=∃(x:VV),eV (kA a) (kA x)/\b x
attribute [push_cast] eV kA vF
def Pc(v:VV)(m:MH)(h:PH)(K:CV->MH->PH->Prop):Prop:=
  vF v (λv1=>branch (kK v1) (branch (v.kind !=1) (K (yX (v.kind !=2)) m h) (K aT m h)) (K aT m h))
abbrev aA(a b c:Prop):Prop:=a/\b/\c
abbrev lN(a:Bool):Prop:=a=true
abbrev CD(a:Nat)(b:List Int):Prop:=a<=b.length/\lN (List.all (List.take a b) cA)
abbrev aL(a:Sl):Prop:=eQ (Ss a)
abbrev aX(a:Sl):Prop:=eQ (gI (↑a.len:Int))
abbrev bD(a:SV)(b:Nat):Prop:=a=gI (↑b:Int)
abbrev bI(a:Nat):Prop:=bD (gI 0) a
abbrev bZ(a b:Nat->Option Obj)(c:PH)(d:Nat->Nat->Option Value):Prop:=aA (a=b) (c=d) True
abbrev bE(a b:Int)(c d:Prop):Prop:=branch (decide (a<b)) c d
noncomputable abbrev aH(a:Sl):Int:=(↑a.len:Int)
abbrev bK(a:Nat->Nat->Prop):Prop:=∃(x x1:Nat),a x x1
noncomputable abbrev Vx(a b:Nat):Addr:=Addr.mk a b Option.none
abbrev bL(a:Option Addr)(b c:Nat):Prop:=a=Option.some (Vx b c)
noncomputable abbrev eM(a:Int)(b:Nat):Nat:=a.toNat*b
noncomputable abbrev aZ(a b:Nat):Nat:=eM (↑a:Int) b
noncomputable abbrev l9(a:Value):List Value:=[a]
noncomputable abbrev bR(a:Int):List Value:=l9 (cJ a)
abbrev nG(a b:Int)(c d:Prop):Prop:=branch (a !=b) c d
abbrev bT(a:Prop)(b:MH)(c:Nat->Option Obj)(d:PH)(e:Nat->Nat->Option Value):Prop:=aA a (b=c) (d=e/\True)
noncomputable abbrev qO(a:Int):Int:=IntKind.wrap IntKind.i64 a
noncomputable abbrev bC(a:Nat)(b:Int):Int:=qO ((↑a:Int)+b)
noncomputable abbrev gF:CV:=yX true
attribute [push_cast] aA lN CD aL aX bD bI bZ bE aH bK Vx bL eM aZ l9 bR nG bT qO bC gF
def LI(s:Sl)(l:List Int)(m:MH)(h:PH)(K:CV->MH->PH->Prop):Prop:=
  (∃(x:Nat),aA (CD x l) (aL s) (aA (aX s) (bI x) (bZ m m h h)))/\∀(x:Nat),CD x l->bE (↑x:Int) (aH s) (bK (λb o=>aA (bL s.a b o) (0<=(↑x:Int)) ((↑x:Int)<aH s/\∃(y:Int),aI m h b (o+aZ x 1) (bR y)/\nG y 3 (nG y 4 (branch (y !=5) (K aT m h) (∃(y1:Nat),aA (CD y1 l) (l.length-y1<l.length-x) (aA (aL s) (aX s) (bT (bD (gI (bC x 1)) y1) m m h h)))) (∃(y1:Nat),aA (CD y1 l) (l.length-y1<l.length-x) (aA (aL s) (aX s) (bT (bD (gI (bC x 1)) y1) m m h h)))) (∃(y1:Nat),aA (CD y1 l) (l.length-y1<l.length-x) (aA (aL s) (aX s) (bT (bD (gI (bC x 1)) y1) m m h h)))))) (K gF m h)
theorem Yy(v:VV)(m:MH)(h:PH)(K:CV->MH->PH->Prop):Ji v m h K=qI (ctx [] [] [] [] false) Tryz.f114 (bU Tryz.f114) (entry Tryz.f114.ntmps [aV v] m h) K:=by kernel_rfl
theorem sL{x y:Bool}(hK:K (cB x) m h)(e:x=y):K (.val (.bool y)) m h:=e▸hK
theorem ZC{v:VV}(hK:K (cB (kK v)) m h):Ji v m h K:=by
 dsimp only[Ji,push_cast]
 repeat' (first|(refine aB (λ_=>?_) (λ_=>?_))|(refine sL hK ?_;simp_all [kK,Bu]))
theorem DT:Sound Tryz.prog 114 NA:=by
 refine fU (fn:=Tryz.f114) (c:=bU Tryz.f114) Tryz.func114 rfl (by decide) ?_;rintro cvs m h K ⟨v,rfl,hK⟩;refine⟨ctx [] [] [] [] false,rfl,aF,?_⟩;rw[<-Yy v m h K];exact ZC hK
theorem jK{f:FuncId}{fn:Func}(hf:Tryz.prog.funcs[f]? =some fn){S:Vc.Spec}(hvc:∀cvs m h K,S cvs m h K->∃C:Ctx,C.P=Tryz.prog/\(∀g S,assoc C.specs g=some S->Sound Tryz.prog g S)/\∃N:Prop,N=qI C fn (bU fn) (entry fn.ntmps cvs m h) K/\N)(hb:fn.body=some (bU fn):=by rfl)(hname:(fn.name== "runtime.NumGoroutine")=false:=by decide):Sound Tryz.prog f S:=fU hf hb hname λcvs m h K hS=>let⟨C,hC,hs,N,e,hn⟩:=hvc cvs m h K hS;⟨C,hC,hs,e▸hn⟩
theorem CY:Sound Tryz.prog 71 PW:=by
 refine jK Tryz.func71 ?_;rintro cvs m h K ⟨v,rfl,hK⟩;refine⟨ctx [(114,NA)] [] [] [] false,rfl,aD DT aF,Pc v m h K,by kernel_rfl,?_⟩;dsimp only[Pc,push_cast];refine⟨v,rfl,?_⟩;refine aB (λh1=>aB (λh2=>sL hK ?_) (λh2=>sL hK ?_)) (λh1=>sL hK ?_)
 .have h2:v.kind≠1:=by simpa using h2
  by_cases h3:v.kind=2
  .simp[jD,h1,h3]
  .have:3<=v.kind:=by
    simp only[kK]at h1
    repeat' split at h1
    all_goals first|(simp_all;done)|skip
    all_goals simp_all
   simp[jD,h1,h3,this]
 .have h2:v.kind=1:=by simpa using h2
  simp[jD,h2]
 .simp[jD,h1]
theorem FC{α:Type}{p:α->Bool}{l:List α}{x:α}(hx:l[i]? =some x):(l.take (i+1)).all p=((l.take i).all p&&p x):=by
 rw[List.take_add_one,List.all_append,hx];simp
theorem FD{α:Type}{p:α->Bool}{l:List α}{x:α}(hx:l[i]? =some x)(hp:p x=false):l.all p=false:=by
 rw[List.all_eq_false];exact⟨x,List.mem_of_getElem? hx,by simp[hp]⟩
theorem RF:Sound Tryz.prog 144 W4:=by
 refine jK Tryz.func144 ?_;rintro cvs m h K ⟨s,l,rfl,hl,hK⟩;refine⟨Wp s l m h,rfl,aF,LI s l m h K,by kernel_rfl,?_⟩;dsimp only[LI,push_cast];have hs:=hl.slen;have hb:=hl.len;refine⟨⟨0,⟨aC,by simp⟩,rfl,rfl,rfl,rfl,rfl,trivial⟩,λi hi=>aE (λhlt=>?_) (λhge=>?_)⟩
 .obtain⟨x,hx⟩:∃x,l[i]? =some x:=⟨l[i]'(by omega),List.getElem?_eq_getElem _⟩
  obtain⟨b1,o1,e1,r1⟩:=hl.at hx;have good:cA x=true->(l.take (i+1)).all cA=true:=λhc=>by rw[FC hx,hi.2,hc];rfl
  refine⟨b1,o1,e1,aC,hlt,x,.imm (by simpa using r1),?_⟩;have next:cA x=true->∃(y:Nat),(y<=l.length/\(l.take y).all cA=true)/\l.length-y<l.length-i/\y=i+1:=λhc=>⟨i+1,⟨aC,good hc⟩,aC,rfl⟩
  repeat' (first|(refine aB (λ_=>?_) (λ_=>?_))|(refine sL hK (FD hx ?_);simp_all [cA];done)|(refine⟨i+1,⟨aC,good (by simp_all [cA])⟩,aC,rfl,rfl,by rw[j5 aC],rfl,rfl,trivial⟩))
 .refine sL hK ?_;have:=hi.2
  rwa [List.take_of_length_le aC]at this
def P6(a b:VV):Bool:=a.kind==b.kind&&(a.int==b.int&&(a.text.toList==b.text.toList&&true))
def Xp(a b:OV):Bool:=a.kind==b.kind&&(a.index==b.index&&(P6 a.value b.value&&true))
theorem jN{f:Field}{fs:List Field}{d:Nat}{xs ys:Array Value}{w:World}{x y:Value}{r r':Bool}(hn:(f.name== "_")=false)(hx:uQ Tryz.prog (part f.type xs f.offset)=some x)(hy:uQ Tryz.prog (part f.type ys f.offset)=some y)
 (he:(Op.equalIn d f.type x y).run Tryz.prog w= .ok r w)(hr:(Op.eqFields d xs ys fs).run Tryz.prog w= .ok r' w):(Op.eqFields d xs ys (f::fs)).run Tryz.prog w= .ok (r&&r') w:=by
 have hn:f.name≠ "_" :=by simpa using hn
 simp only[Op.eqFields,if_pos hn,Sem.run_bind,v8 _ _ _ hx,v8 _ _ _ hy,Result.andThen_ok,he];cases r
 .simp
 .simpa using hr
noncomputable def Kd(t k:Nat):Field:=(Tryz.prog.fieldsOf t).toList.getD k default
theorem SY(a b:VV)(d:Nat)(w:World):(Op.equalIn (d+2) 58 (.agg #[.int .i64 a.kind,.int .i64 a.int,.string a.text]) (.agg #[.int .i64 b.kind,.int .i64 b.int,.string b.text])).run Tryz.prog w= .ok (P6 a b) w:=by
 rw[run_equalIn_struct w (d+1) 58 _ _ (by kernel_rfl) (by kernel_rfl),show(Tryz.prog.fieldsOf 58).toList=[Kd 58 0,Kd 58 1,Kd 58 2]by kernel_rfl];refine jN (x:=.int .i64 a.kind) (y:=.int .i64 b.kind) (by kernel_rfl) (by kernel_rfl) (by kernel_rfl) (run_equalIn_int w d _ .i64 .i64 _ _ (by kernel_rfl)) ?_;refine jN (x:=.int .i64 a.int) (y:=.int .i64 b.int) (by kernel_rfl) (by kernel_rfl) (by kernel_rfl) (run_equalIn_int w d _ .i64 .i64 _ _ (by kernel_rfl)) ?_;refine jN (x:=.string a.text) (y:=.string b.text) (by kernel_rfl) (by kernel_rfl) (by kernel_rfl) (run_equalIn_string w d _ _ _ (by kernel_rfl)) ?_;simp[Op.eqFields]
theorem YA(a b:OV)(d:Nat)(w:World):(Op.equalIn (d+3) 60 (.agg #[.int .i64 a.kind,.int .i64 a.index,.int .i64 a.value.kind,.int .i64 a.value.int,.string a.value.text]) (.agg #[.int .i64 b.kind,.int .i64 b.index,.int .i64 b.value.kind,.int .i64 b.value.int,.string b.value.text])).run Tryz.prog w= .ok (Xp a b) w:=by
 rw[run_equalIn_struct w (d+2) 60 _ _ (by kernel_rfl) (by kernel_rfl),show(Tryz.prog.fieldsOf 60).toList=[Kd 60 0,Kd 60 1,Kd 60 2]by kernel_rfl];refine jN (x:=.int .i64 a.kind) (y:=.int .i64 b.kind) (by kernel_rfl) (by kernel_rfl) (by kernel_rfl) (run_equalIn_int w (d+1) _ .i64 .i64 _ _ (by kernel_rfl)) ?_;refine jN (x:=.int .i64 a.index) (y:=.int .i64 b.index) (by kernel_rfl) (by kernel_rfl) (by kernel_rfl) (run_equalIn_int w (d+1) _ .i64 .i64 _ _ (by kernel_rfl)) ?_;refine jN (x:=.agg #[.int .i64 a.value.kind,.int .i64 a.value.int,.string a.value.text]) (y:=.agg #[.int .i64 b.value.kind,.int .i64 b.value.int,.string b.value.text]) (by kernel_rfl) (by kernel_rfl) (by kernel_rfl) ?_ ?_
 .rw[show(Kd 60 2).type=58 by kernel_rfl];exact SY a.value b.value d w
 .simp[Op.eqFields]
theorem H4(a b:VV):StructEq Tryz.prog 58 (.agg #[.int .i64 a.kind,.int .i64 a.int,.string a.text]) (.agg #[.int .i64 b.kind,.int .i64 b.int,.string b.text]) (P6 a b):=
 ⟨by kernel_rfl,λw=>SY a b 9998 w⟩
theorem H5(a b:OV):StructEq Tryz.prog 60 (.agg #[.int .i64 a.kind,.int .i64 a.index,.int .i64 a.value.kind,.int .i64 a.value.int,.string a.value.text]) (.agg #[.int .i64 b.kind,.int .i64 b.index,.int .i64 b.value.kind,.int .i64 b.value.int,.string b.value.text]) (Xp a b):=
 ⟨by kernel_rfl,λw=>YA a b 9997 w⟩
theorem De{a b:ByteArray}(h:a.toList=b.toList):a=b:=by
 rw[ByteArray.toList_eq,ByteArray.toList_eq]at h;cases a;cases b;simp only[ByteArray.mk.injEq];exact Array.toList_inj.1 h
theorem SZ{a b:VV}:P6 a b=true↔a=b:=by
 obtain⟨k,i,t⟩:=a;obtain⟨k',i',t'⟩:=b;simp only[P6,Bool.and_true,Bool.and_eq_true,beq_iff_eq,VV.mk.injEq];exact⟨λ⟨h1,h2,h3⟩=>⟨h1,h2,De h3⟩,λ⟨h1,h2,h3⟩=>⟨h1,h2,by rw[h3]⟩⟩
theorem Nj{a b:OV}:Xp a b=true↔a=b:=by
 obtain⟨k,i,t⟩:=a;obtain⟨k',i',t'⟩:=b;simp only[Xp,Bool.and_true,Bool.and_eq_true,beq_iff_eq,OV.mk.injEq,SZ]
def zeroV:VV:=⟨0,0,⟨#[]⟩⟩
def iR:OV:=⟨0,0,zeroV⟩
def oX(l:List Int)(o:OV):Int:=if o.index<0||o.index>=l.length|| !P6 o.value zeroV then 0 else l.getD o.index.toNat 0
def kindOf(cols params:List Int)(o:OV):Int:=
 if o.kind==3 then(if o.index !=0|| !jD o.value then 0 else o.value.kind)
 else if o.kind==2 then oX params o
 else if o.kind==1 then oX cols o
 else 0
def Bp(v:PV):Bool:=v.cmp==0&&Xp v.left iR&&Xp v.right iR
def aO(o:OV):CV:=.val (.agg #[.int .i64 o.kind,.int .i64 o.index,.int .i64 o.value.kind,.int .i64 o.value.int,.string o.value.text])
def aP(p:PV):CV:=.val (.agg #[.int .i64 p.op,.int .i64 p.cmp,
 .int .i64 p.left.kind,.int .i64 p.left.index,.int .i64 p.left.value.kind,.int .i64 p.left.value.int,.string p.left.value.text,
 .int .i64 p.right.kind,.int .i64 p.right.index,.int .i64 p.right.value.kind,.int .i64 p.right.value.int,.string p.right.value.text,
 .slice p.args.a p.args.len p.args.cap])
def a2S(s t:Sl):CV:=.val (.agg #[.slice s.a s.len s.cap,.slice t.a t.len t.cap])
def PX:Vc.Spec:=λcvs m h K=>∃s t cols params o,cvs=[a2S s t,aO o]/\Ints h s cols/\Ints h t params/\K (cI (kindOf cols params o)) m h
noncomputable abbrev lO(a:OV):Int:=a.value.kind
abbrev iH(a b:Int)(c:CV->MH->PH->Prop)(d:CV)(e:MH)(g:PH)(i:Prop):Prop:=branch (decide (a>=b)) (c d e g) i
abbrev rN(a:Nat)(b c:List Value)(d:Bool->Prop):Prop:=∃(x:Bool),StructEq Proofs.Tryz.prog a (Value.agg (Array.mk b)) (Value.agg (Array.mk c)) x/\d x
noncomputable abbrev aJ(a b:Value)(c:List Value):List Value:=a::b::c
noncomputable abbrev cK:Value:=cJ 0
noncomputable abbrev tN:List Value:=aJ cK cK (l9 Xo)
attribute [push_cast] lO iH rN aJ cK tN
def Gu(s t:Sl)(o:OV)(m:MH)(h:PH)(K:CV->MH->PH->Prop):Prop:=
  bQ o.kind 3 (branch (o.index !=0) (K (dY 0) m h) (vF o.value (λv=>branch (!(jD v)) (K (dY 0) m h) (K (dY (lO o)) m h)))) (bQ o.kind 2 (bE o.index 0 (K (dY 0) m h) (iH o.index (aH t) K (dY 0) m h (rN 58 o.value.enc tN (λr=>branch (!r) (K (dY 0) m h) (bK (λb o1=>aA (bL t.a b o1) (0<=o.index) (o.index<aH t/\∃(y:Int),aI m h b (o1+eM o.index 1) (bR y)/\K (dY y) m h))))))) (bQ o.kind 1 (bE o.index 0 (K (dY 0) m h) (iH o.index (aH s) K (dY 0) m h (rN 58 o.value.enc tN (λr=>branch (!r) (K (dY 0) m h) (bK (λb o1=>aA (bL s.a b o1) (0<=o.index) (o.index<aH s/\∃(y:Int),aI m h b (o1+eM o.index 1) (bR y)/\K (dY y) m h))))))) (K (dY 0) m h)))
theorem Ht{x y:Int}(hK:K (cI x) m h)(e:x=y):K (.val (.int .i64 y)) m h:=e▸hK
theorem Ints.inb{s:Sl}(r:Ints h s l){n:Int}(h0:0<=n)(h1:n<(l.length:Int)):∃b o,s.a=some ⟨b,o,none⟩/\bF h b (o+n.toNat*1) [.int .i64 (l.getD n.toNat 0)]:=by
 have hx:l[n.toNat]? =some (l.getD n.toNat 0):=by
  rw[List.getD_eq_getElem?_getD,List.getElem?_eq_getElem aC];simp
 obtain⟨b,o,e,r⟩:=r.at hx;exact⟨b,o,e,by simpa using r⟩
theorem Ys{s t:Sl}{cols params:List Int}{o:OV}(hs:Ints h s cols)(ht:Ints h t params)(hK:K (cI (kindOf cols params o)) m h):Gu s t o m h K:=by
 have es:=hs.slen;have et:=ht.slen;dsimp only[Gu,push_cast];refine aB (λh1=>aB (λh2=>Ht hK ?_) (λh2=>⟨o.value,rfl,aB (λh3=>Ht hK ?_) (λh3=>Ht hK ?_)⟩)) (λh1=>aB (λh2=>?_) (λh2=>aB (λh3=>?_) (λh3=>Ht hK ?_)))
 .simp_all [kindOf]
 .simp_all [kindOf]
 .simp_all [kindOf]
 .have hk:kindOf cols params o=oX params o:=by simp_all [kindOf]
  rw[hk]at hK;refine aE (λh3=>Ht hK ?_) (λh3=>aE (λh4=>Ht hK ?_) (λh4=>⟨P6 o.value zeroV,H4 o.value zeroV,aB (λh5=>Ht hK ?_) (λh5=>?_)⟩))
  .simp[oX,h3]
  .rw[et]at h4;simp[oX,h4]
  .simp only[Bool.not_eq_true']at h5;simp[oX,h5]
  .obtain⟨b,off,e,r⟩:=ht.inb (n:=o.index) aC aC;refine⟨b,off,e,aC,aC,_,.imm r,Ht hK ?_⟩;have h4':¬o.index>=params.length:=by omega
   simp only[Bool.not_eq_false']at h5;simp[oX,h3,h4',h5]
 .have hk:kindOf cols params o=oX cols o:=by simp_all [kindOf]
  rw[hk]at hK;refine aE (λh3=>Ht hK ?_) (λh3=>aE (λh4=>Ht hK ?_) (λh4=>⟨P6 o.value zeroV,H4 o.value zeroV,aB (λh5=>Ht hK ?_) (λh5=>?_)⟩))
  .simp[oX,h3]
  .rw[es]at h4;simp[oX,h4]
  .simp only[Bool.not_eq_true']at h5;simp[oX,h5]
  .obtain⟨b,off,e,r⟩:=hs.inb (n:=o.index) aC aC;refine⟨b,off,e,aC,aC,_,.imm r,Ht hK ?_⟩;have h4':¬o.index>=cols.length:=by omega
   simp only[Bool.not_eq_false']at h5;simp[oX,h3,h4',h5]
 .simp_all [kindOf]
theorem Rw:Sound Tryz.prog 162 PX:=by
 refine jK Tryz.func162 ?_;rintro cvs m h K ⟨s,t,cols,params,o,rfl,hs,ht,hK⟩;refine⟨ctx [(71,PW)] [] [] [] false,rfl,aD CY aF,Gu s t o m h K,by kernel_rfl,?_⟩;exact Ys hs ht hK
def Pred.args:Pred->List Pred
 |.mk _ _ _ _ l=>l
mutual
def qY:Pred->Int->Int
 |.mk _ _ _ _ args,n=>tH args (n+1)
def tH:List Pred->Int->Int
 |[],n=>n
 |p::ps,n=>if n<=24 then tH ps (qY p n)else n
end
mutual
def uA:Pred->Nat->Bool
 |.mk _ _ _ _ _,0=>true
 |.mk _ _ _ _ args,n+1=>BV args n
def BV:List Pred->Nat->Bool
 |[],_=>false
 |p::ps,n=>uA p n||BV ps n
end
mutual
theorem Ex:∀(p:Pred)(n:Int),n<=24->n<qY p n/\qY p n<=25
 |.mk _ _ _ _ args,n,h=>by
  have:=Dr args (n+1) aC;simp only[qY];omega
theorem Dr:∀(ps:List Pred)(n:Int),n<=25->n<=tH ps n/\tH ps n<=25
 |[],n,h=>by simp only[tH];omega
 |p::ps,n,h=>by
  simp only[tH];split
  .rename_i h1;have h2:=Ex p n h1;have h3:=Dr ps (qY p n) h2.2;omega
  .omega
end
theorem FB{p:Pred}{q:Pred}(h:q∈p.args):SizeOf.sizeOf q<SizeOf.sizeOf p:=by
 cases p with
 |mk op cmp l r args=>
  have:=List.sizeOf_lt_of_mem h;simp only[Pred.args]at this;simp only[Pred.mk.sizeOf_spec];omega
theorem fZ.open{v:PV}(r:fZ h p v):p.args.length<=502633886983/\v.args.len=p.args.length/\∀(i:Nat)(q:Pred),p.args[i]? =some q->∃b o u,v.args.a=some ⟨b,o,none⟩/\bF h b (o+i*13) (PV.enc u)/\fZ h q u:=by
 cases p with
 |mk op cmp l r' args=>
  obtain⟨h1,h2,h3,h4,h5,vs,h6,h7⟩:=r;have hl:=h7.length;refine⟨h5,?_,λi q hq=>?_⟩
  .have:=h6.len;simp at this;simp only[Pred.args];omega
  .obtain⟨u,hu,hr⟩:=h7.get hq;obtain⟨b,o,e,r⟩:=h6.get (i:=i) (e:=PV.enc u) (by simp[hu]);exact⟨b,o,u,e,r,hr⟩
def Vn(cmp:Int)(l r:OV):Bool:=cmp==0&&Xp l iR&&Xp r iR
mutual
def lQ(cols params:List Int):Pred->Bool
 |.mk op cmp l r args=>
  if op==1||op==2 then Vn cmp l r&&args.length==0
  else if op==3 then args.length==0&&cmp>=1&&cmp<=6&&kindOf cols params l !=0&&kindOf cols params l==kindOf cols params r
  else if op==4||op==5||(op==6&&args.length==1)then Vn cmp l r&&D6 cols params args
  else false
def D6(cols params:List Int):List Pred->Bool
 |[]=>true
 |p::ps=>lQ cols params p&&D6 cols params ps
end
theorem GR(cols params:List Int):∀ps:List Pred,D6 cols params ps=ps.all (lQ cols params)
 |[]=>by simp[D6]
 |p::ps=>by simp[D6,GR cols params ps]
structure R8(cols params:List Int)(v:PV)(p:Pred):Prop where
 eq:lQ cols params p=(Bp v&&p.args.all (lQ cols params))
def JY(N:Nat):Vc.Spec:=λcvs m h K=>∃s t cols params v p,cvs=[a2S s t,aP v]/\Ints h s cols/\Ints h t params/\fZ h p v/\SizeOf.sizeOf p<N/\K (cB (lQ cols params p)) m h
noncomputable def Wn(N:Nat)(s t:Sl)(cols params:List Int)(v:PV)(p:Pred)(m:MH)(h:PH):Ctx:=
 ctx [(146,JY N),(162,PX)] [KQ 18 (λi=>cM 87 89 [(2,.at (.ptr 2 0)),(3,.at (.ptr 3 0)),(76,sv v.args),(77,iv v.args.len),(78,iv i)] [(2,.cells 201 [.val (.slice s.a s.len s.cap),.val (.slice t.a t.len t.cap)]),(3,.cells 63 (v.enc.map .val))] m h) (λi=>i<=p.args.length/\(p.args.take i).all (lQ cols params)=true) (λi=>p.args.length-i)] [(15,{A:=Unit,st:=λ_=>cM 87 89 [(2,.at (.ptr 2 0)),(3,.at (.ptr 3 0))] [(2,.cells 201 [.val (.slice s.a s.len s.cap),.val (.slice t.a t.len t.cap)]),(3,.cells 63 (v.enc.map .val))] m h,inv:=λ_=>R8 cols params v p})] [] false
abbrev fR(a:Sl->Sl->Prop):Prop:=∃(x x1:Sl),a x x1
abbrev BH(a:(List Int)->(List Int)->Prop):Prop:=∃(x x1:List Int),a x x1
noncomputable abbrev aK(a b:CV):List CV:=[a,b]
noncomputable abbrev lP(a b:Value):List Value:=aJ a b []
noncomputable abbrev fJ(a:Value)(b:Sl):CV:=fB (lP a (bV b))
abbrev dT:Prop:=eP 3
noncomputable abbrev Be(a:At):List At:=[a]
noncomputable abbrev jX(a:Sl):List At:=Be (yY a)
abbrev xG(a b:Sl):Prop:=eQ (oQ 201 (yY a::jX b))
noncomputable abbrev G2(a:List Value):List At:=List.map At.val a
abbrev yM(a:PV):Prop:=eQ (oQ 63 (G2 a.enc))
noncomputable abbrev vS(a:Pred):Nat:=a.args.length
abbrev HH(a:Nat)(b:Pred)(c d:List Int):Prop:=a<=vS b/\lN (List.all (List.take a b.args) (lQ c d))
abbrev DI(a:PV->Pred->Prop):Prop:=∃(x:PV)(x1:Pred),a x x1
attribute [push_cast] fR BH aK lP fJ dT Be jX xG G2 yM vS HH DI
def LG(N:Nat)(s t:Sl)(cols params:List Int)(v:PV)(p:Pred)(m:MH)(h:PH)(K:CV->MH->PH->Prop):Prop:=
  bQ v.op 3 (fR (λs1 t1=>BH (λc p1=>∃(o:OV),aA (aK (fJ (bV s) t) (fB v.left.enc)=aK (fJ (bV s1) t1) (fB o.enc)) (Ints h s1 c) (Ints h t1 p1/\fR (λs2 t2=>BH (λc1 p2=>∃(o1:OV),aA (aK (fJ (bV s) t) (fB v.right.enc)=aK (fJ (bV s2) t2) (fB o1.enc)) (Ints h s2 c1) (Ints h t2 p2/\bQ (aH v.args) 0 (branch (decide (v.cmp>=1)) (branch (decide (v.cmp<=6)) (branch (kindOf c p1 o !=0) (K (yX (kindOf c p1 o==kindOf c1 p2 o1)) m h) (K aT m h)) (K aT m h)) (K aT m h)) (K aT m h)))))))) (bQ v.op 1 (branch (aH v.args !=0) (K aT m h) (∃(x:Unit),aA (R8 cols params v p) (eP 2) (aA dT (xG s t) (bT (yM v) m m h h)))) (bQ v.op 2 (branch (aH v.args !=0) (K aT m h) (∃(x:Unit),aA (R8 cols params v p) (eP 2) (aA dT (xG s t) (bT
 (yM v) m m h h)))) (bQ v.op 6 (branch (aH v.args !=1) (K aT m h) (∃(x:Unit),aA (R8 cols params v p) (eP 2) (aA dT (xG s t) (bT (yM v) m m h h)))) (bQ v.op 4 (∃(x:Unit),aA (R8 cols params v p) (eP 2) (aA dT (xG s t) (bT (yM v) m m h h))) (bQ v.op 5 (∃(x:Unit),aA (R8 cols params v p) (eP 2) (aA dT (xG s t) (bT (yM v) m m h h))) (K aT m h))))))/\∀(_:Unit),R8 cols params v p->branch (v.cmp !=0) (K aT m h) (rN 60 v.left.enc (aJ cK cK (aJ cK cK (l9 Xo))) (λr=>branch (!r) (K aT m h) (rN 60 v.right.enc (aJ cK cK (aJ cK cK (l9 Xo))) (λr1=>branch (!r1) (K aT m h) ((∃(x:Nat),aA (HH x p cols params) (eP 2) (aA dT (aL v.args) (aA (aX v.args) (bI x) (aA (xG s t) (yM v) (bZ m m
 h h)))))/\∀(x:Nat),HH x p cols params->bE (↑x:Int) (aH v.args) (bK (λb o=>aA (bL v.args.a b o) (0<=(↑x:Int)) ((↑x:Int)<aH v.args/\∃(y:PV),aI m h b (o+aZ x 13) y.enc/\fR (λs1 t1=>BH (λc p1=>DI (λv1 p2=>aA (aK (fJ (bV s) t) (fB y.enc)=aK (fJ (bV s1) t1) (fB v1.enc)) (Ints h s1 c) (aA (Ints h t1 p1) (fZ h p2 v1) (SizeOf.sizeOf p2<N/\branch (!(lQ c p1 p2)) (K aT m h) (∃(y1:Nat),aA (HH y1 p cols params) (vS p-y1<vS p-x) (aA (eP 2) dT (aA (aL v.args) (aX v.args) (aA (bD (gI (bC x 1)) y1) (xG s t) (bT (yM v) m m h h))))))))))))) (K gF m h))))))
theorem fZ.top{v:PV}(r:fZ h p v):p= .mk v.op v.cmp v.left v.right p.args:=by
 cases p with
 |mk op cmp l r' args=>obtain⟨h1,h2,h3,h4,_⟩:=r;simp[Pred.args,h1,h2,h3,h4]
theorem N1{cols params:List Int}{h:PH}{p:Pred}{v:PV}(r:fZ h p v):lQ cols params p=if v.op==1||v.op==2 then Bp v&&p.args.length==0
 else if v.op==3 then p.args.length==0&&v.cmp>=1&&v.cmp<=6&&kindOf cols params v.left !=0&&kindOf cols params v.left==kindOf cols params v.right
 else if v.op==4||v.op==5||(v.op==6&&p.args.length==1)then Bp v&&p.args.all (lQ cols params)
 else false:=by
 have:=r.top;generalize p.args=xs at this⊢
 subst this;rw[lQ,GR];rfl
theorem SE{n:Nat}{k:Nat}:((n:Int)==(k:Int))=(n==k):=by
 apply Bool.eq_iff_iff.2;rw[beq_iff_eq,beq_iff_eq];omega
theorem Px:∀N,Sound Tryz.prog 146 (JY N)
 |0=>by
  refine fU (fn:=Tryz.f146) (c:=bU Tryz.f146) Tryz.func146 rfl (by decide) ?_;rintro cvs m h K ⟨s,t,cols,params,v,p,rfl,_,_,hr,hN,_⟩;omega
 |N+1=>by
  refine jK Tryz.func146 ?_;rintro cvs m h K ⟨s,t,cols,params,v,p,rfl,hs,ht,hr,hN,hK⟩;refine⟨Wn N s t cols params v p m h,rfl,aD (Px N) (aD Rw aF),LG N s t cols params v p m h K,by kernel_rfl,?_⟩;obtain⟨hl,hlen,hget⟩:=hr.open;have hv:=N1 (cols:=cols) (params:=params) hr;have hz:((v.args.len:Int)==0)=(p.args.length==0):=by rw[hlen];exact SE (k:=0)
  have hz':((v.args.len:Int) !=0)=(p.args.length !=0):=by simp only[bne];rw[hz]
  have h1:((v.args.len:Int) !=1)=(p.args.length !=1):=by rw[hlen];simp only[bne];rw[show(1:Int)=((1:Nat):Int)from rfl,SE]
  have hnil:p.args.length=0->p.args.all (lQ cols params)=true:=λe=>by rw[List.eq_nil_of_length_eq_zero e];rfl
  dsimp only[LG,push_cast];refine⟨?_,?_⟩
  .refine aB (λe2=>⟨s,t,cols,params,v.left,rfl,hs,ht,s,t,cols,params,v.right,rfl,hs,ht,?_⟩) (λe2=>aB (λe=>aB (λe3=>sL hK ?_) (λe3=>⟨(),⟨?_⟩,rfl,rfl,rfl,rfl,rfl,rfl,trivial⟩)) (λe=>aB (λe1=>aB (λe3=>sL hK ?_) (λe3=>⟨(),⟨?_⟩,rfl,rfl,rfl,rfl,rfl,rfl,trivial⟩)) (λe1=>aB (λe5=>aB (λe6=>sL hK ?_) (λe6=>⟨(),⟨?_⟩,rfl,rfl,rfl,rfl,rfl,rfl,trivial⟩)) (λe5=>aB (λe3=>⟨(),⟨?_⟩,rfl,rfl,rfl,rfl,rfl,rfl,trivial⟩) (λe3=>aB (λe4=>⟨(),⟨?_⟩,rfl,rfl,rfl,rfl,rfl,rfl,trivial⟩) (λe4=>sL hK ?_))))))
   .have e2':v.op=3:=by simpa using e2
    have hv3:lQ cols params p=(p.args.length==0&&v.cmp>=1&&v.cmp<=6&&kindOf cols params v.left !=0&&kindOf cols params v.left==kindOf cols params v.right):=by rw[hv];simp[e2']
    rw[hv3]at hK;refine aB (λe3=>aB (λe4=>aB (λe5=>aB (λe6=>sL hK ?_) (λe6=>sL hK ?_)) (λe5=>sL hK ?_)) (λe4=>sL hK ?_)) (λe3=>sL hK ?_)
    all_goals (rw[hz]at e3;simp only[beq_iff_eq,decide_eq_true_eq,decide_eq_false_iff_not]at*;simp[*])
   .rw[hz']at e3;rw[hv];simp_all
   .rw[hz']at e3;rw[hv];have e3':p.args.length=0:=by simpa using e3
    rw[hnil e3',e3'];simp[e]
   .rw[hz']at e3;rw[hv];simp_all
   .rw[hz']at e3;rw[hv];have e3':p.args.length=0:=by simpa using e3
    rw[hnil e3',e3'];simp[e1]
   .rw[h1]at e6;rw[hv];simp_all
   .rw[h1]at e6;rw[hv];simp_all
   .rw[hv];simp[e,e1,e2,e3]
   .rw[hv];simp[e,e1,e2,e4]
   .rw[hv];simp_all
  .intro _ htl;rw[htl.eq]at hK;refine aB (λe=>sL hK ?_) (λe=>⟨Xp v.left iR,H5 v.left iR,aB (λe1=>sL hK ?_) (λe1=>⟨Xp v.right iR,H5 v.right iR,aB (λe2=>sL hK ?_) (λe2=>?_)⟩)⟩)
   .simp_all [Bp]
   .simp_all [Bp]
   .simp_all [Bp]
   .have e:Bp v=true:=by simp_all [Bp]
    rw[e,Bool.true_and]at hK;refine⟨⟨0,⟨aC,by simp⟩,rfl,rfl,rfl,rfl,rfl,rfl,rfl,rfl,rfl,trivial⟩,λi hi=>aE (λhlt=>?_) (λhge=>sL hK ?_)⟩
    .obtain⟨q,hq⟩:∃q,p.args[i]? =some q:=⟨p.args[i]'(by omega),List.getElem?_eq_getElem _⟩
     obtain⟨b,o,u,ea,hrd,hru⟩:=hget i q hq;refine⟨b,o,ea,aC,hlt,u,.imm (by simpa using hrd),s,t,cols,params,u,q,rfl,hs,ht,hru,?_,aB (λhd=>sL hK ?_) (λhd=>?_)⟩
     .have:=FB (List.mem_of_getElem? hq);omega
     .exact FD hq (by simpa using hd)
     .refine⟨i+1,⟨aC,?_⟩,aC,rfl,rfl,rfl,rfl,by rw[j5 aC],rfl,rfl,rfl,rfl,trivial⟩;rw[FC hq,hi.2];simpa using hd
    .have:=hi.2
     rwa [List.take_of_length_le aC]at this
theorem drop_cons{α:Type}{l:List α}{x:α}(h:l[i]? =some x):l.drop i=x::l.drop (i+1):=by
 have hi:i<l.length:=(List.getElem?_eq_some_iff.1 h).1;rw[List.drop_eq_getElem_cons hi];rw[List.getElem?_eq_getElem hi]at h;simp at h;rw[h]
mutual
def jH:Pred->Nat->Int->Bool×Int
 |.mk _ _ _ _ args,k,b=>if b<1 then(false,b-1)else match k with|0=>(false,b-1)|k+1=>nW args k (b-1)
def nW:List Pred->Nat->Int->Bool×Int
 |[],_,b=>(true,b)
 |p::ps,k,b=>match jH p k b with|(false,b')=>(false,b')|(true,b')=>nW ps k b'
end
mutual
def U2:Pred->Int
 |.mk _ _ _ _ args=>1+Eb args
def Eb:List Pred->Int
 |[]=>0
 |p::ps=>U2 p+Eb ps
end
mutual
theorem MC:∀p:Pred,1<=U2 p
 |.mk _ _ _ _ args=>by have:=Bk args;simp only[U2];omega
theorem Bk:∀ps:List Pred,0<=Eb ps
 |[]=>by simp[Eb]
 |p::ps=>by have:=MC p;have:=Bk ps;simp only[Eb];omega
end
mutual
theorem KP:∀(p:Pred)(n:Int),n<=24->(n+U2 p<=24->qY p n=n+U2 p)/\(24<n+U2 p->qY p n=25)
 |.mk _ _ _ _ args,n,h=>by
  obtain⟨h1,h2⟩:=IL args (n+1) aC;simp only[qY,U2];exact⟨λe=>by rw[h1 aC];omega,λe=>h2 aC⟩
theorem IL:∀(ps:List Pred)(n:Int),n<=25->(n+Eb ps<=24->tH ps n=n+Eb ps)/\(24<n+Eb ps->tH ps n=25)
 |[],n,h=>by
  simp only[tH,Eb];omega
 |p::ps,n,h=>by
  have h1:=MC p;have h2:=Bk ps;simp only[tH,Eb];by_cases h3:n<=24
  .rw[if_pos h3];have h4:=KP p n h3;have h5:=(Ex p n h3).2;have h6:=IL ps _ h5;by_cases h7:n+U2 p<=24
   .have h8:=h4.1 h7;rw[h8]at h6⊢
    exact⟨λe=>by rw[h6.1 aC];omega,λe=>h6.2 aC⟩
   .have h8:=h4.2 aC;rw[h8]at h6⊢
    exact⟨λe=>by omega,λe=>h6.2 aC⟩
  .rw[if_neg h3];omega
end
mutual
theorem FP:∀(p:Pred)(k:Nat)(b:Int),0<=b->((jH p k b).1=true↔U2 p<=b/\uA p k=false)/\((jH p k b).1=true->(jH p k b).2=b-U2 p)
 |.mk _ _ _ _ args,k,b,h=>by
  have hp:=Bk args;simp only[jH,U2];by_cases h0:b<1
  .rw[if_pos h0];exact⟨⟨λe=>(by cases e),λe=>aC⟩,λe=>(by cases e)⟩
  .rw[if_neg h0];cases k with
   |zero=>exact⟨⟨λe=>(by cases e),λe=>(by simp[uA]at e)⟩,λe=>(by cases e)⟩
   |succ k=>
    obtain⟨h1,h2⟩:=Io args k (b-1) aC;simp only[uA];refine⟨⟨λe=>?_,λe=>h1.2 ⟨aC,e.2⟩⟩,λe=>by have:=h2 e;omega⟩;have:=h1.1 e;exact⟨aC,this.2⟩
theorem Io:∀(ps:List Pred)(k:Nat)(b:Int),0<=b->((nW ps k b).1=true↔Eb ps<=b/\BV ps k=false)/\((nW ps k b).1=true->(nW ps k b).2=b-Eb ps)
 |[],k,b,h=>by simp[nW,Eb,BV,h]
 |p::ps,k,b,h=>by
  obtain⟨h1,h2⟩:=FP p k b h;have hp:=Bk ps;simp only[nW,Eb,BV];cases e:jH p k b with
  |mk r b'=>
   rw[e]at h1 h2;cases r with
   |false=>
    refine⟨⟨λe=>(by cases e),λe=>?_⟩,λe=>(by cases e)⟩;have:=h1.2 ⟨aC,(Bool.or_eq_false_iff.1 e.2).1⟩;cases this
   |true=>
    have h3:=h2 rfl;have h1:=h1.1 rfl;simp only at h3;obtain⟨h4,h5⟩:=Io ps k b' aC;refine⟨⟨λe=>?_,λe=>?_⟩,λe=>by have:=h5 e;simp only;omega⟩
    .have:=h4.1 e;exact⟨aC,by rw[h1.2,this.2];rfl⟩
    .exact h4.2 ⟨aC,(Bool.or_eq_false_iff.1 e.2).2⟩
end
def gZ(cols params:List Int)(p:Pred):Int:=
 if !cols.all cA|| !params.all cA then 1
 else if qY p 0>24||uA p 8 then 2
 else if !lQ cols params p then 50 else 0
theorem Tz(p:Pred):(jH p 8 24).1= !(decide (qY p 0>24)||uA p 8):=by
 have h1:=(FP p 8 24 aC).1;have h2:=KP p 0 aC;rw[Bool.eq_iff_iff,h1];simp only[Bool.not_eq_true',Bool.or_eq_false_iff,decide_eq_false_iff_not];refine and_congr_left λ_=>⟨λe=>?_,λe=>?_⟩
 .rw[h2.1 aC];omega
 .by_cases h3:U2 p<=24
  .exact h3
  .rw[h2.2 aC]at e;omega
def nM(n:Int):Obj:=.cells #[.int .i64 n] 3 (0,0)
def Sb(N:Nat):Vc.Spec:=λcvs m h K=>∃v p,∃k b:Nat,∃n,cvs=[aP v,cI (9-k),cP b]/\fZ h p v/\SizeOf.sizeOf p<N/\k<=9/\0<=n/\n<=24/\m b=some (nM n)/\∀m',eW m m' b (nM (jH p k n).2)->K (cB (jH p k n).1) m' h
noncomputable def Wo(N:Nat)(v:PV)(p:Pred)(k b:Nat)(n:Int)(m:MH)(h:PH):Ctx:=
 ctx [(145,Sb N)] [(5,{A:=Nat×Int×MH,st:=λx=>cM 36 39 [(1,iv (9-k)),(2,vv (.pointer (some ⟨b,0,none⟩))),(23,sv v.args),(24,iv v.args.len),(25,iv x.1)] [] x.2.2 h,inv:=λx=>x.1<=p.args.length/\0<=x.2.1/\x.2.1<=24/\eW m x.2.2 b (nM x.2.1)/\1<=k/\nW (p.args.drop x.1) (k-1) x.2.1=jH p k n,mu:=λx=>p.args.length-x.1})] [] [] false
def D1:Vc.Spec:=λcvs m h K=>∃s t v cols params p,cvs=[cS s,cS t,aP v]/\Ints h s cols/\Ints h t params/\fZ h p v/\K (cI (gZ cols params p)) m h
noncomputable def Wz(N:Nat):Ctx:=ctx [(144,W4),(145,Sb N),(146,JY N)] [] [] [] false
abbrev tL(a:MH)(b:PH)(c d:Nat)(e:Int->Prop):Prop:=∃(x:Int),aI a b c d (bR x)/\e x
abbrev iE(a:(Array Value)->TypeId->Prop):Prop:=∃(x:Array Value)(x1:TypeId),a x x1
noncomputable abbrev fN(a:Array Value)(b:TypeId)(c:Nat):Obj:=Obj.cells a b (c,c)
abbrev bG(a b:MH)(c:Nat)(d:List Value)(e:TypeId):Prop:=eW a b c (fN (Array.mk d) e 0)
noncomputable abbrev yQ(a:Value)(b:Nat)(c:List Value):List Value:=a::List.drop b c
noncomputable abbrev gN(a:Value)(b:Nat)(c:Array Value):List Value:=yQ a b c.toList
noncomputable abbrev nZ(a:Nat):Int:=9-(↑a:Int)
abbrev cQ(a:Int):Prop:=0<=a
abbrev aW(a:Int):Prop:=eQ (gI a)
abbrev lC(a:Nat):Prop:=eQ (Vj a 0)
noncomputable abbrev EM(a:PV)(b:Int)(c:Nat):List CV:=fB a.enc::aK (dY b) (NP c 0)
abbrev bP(a b:PH):Prop:=a=b/\True
attribute [push_cast] tL iE fN bG yQ gN nZ cQ aW lC EM bP
def LH(N:Nat)(v:PV)(p:Pred)(k b:Nat)(n:Int)(m:MH)(h:PH)(K:CV->MH->PH->Prop):Prop:=
  tL m h b 0 (λy=>iE (λc E=>aA (wS m b (fN c E 0)) (0<c.size) (∀(m1:MH),bG m m1 b (gN (cJ (qO (y-1))) 1 c) E->tL m1 h b 0 (λy1=>bE y1 0 (K aT m1 h) (branch (decide (nZ k>8)) (K aT m1 h) ((∃(x:Nat×Int×MH),aA (aA (x.1<=vS p) (cQ x.2.1) (aA (x.2.1<=24) (bG m x.2.2 b (bR x.2.1) 3) (1<=k/\nW (List.drop x.1 p.args) (k-1) x.2.1=jH p k n))) (aW (nZ k)) (aA (lC b) (aL v.args) (aA (aX v.args) (bI x.1) (aA (m1=x.2.2) (h=h) True))))/\∀(x:Nat×Int×MH),aA (x.1<=vS p) (cQ x.2.1) (aA (x.2.1<=24) (bG m x.2.2 b (bR x.2.1) 3) (1<=k/\nW (List.drop x.1 p.args) (k-1) x.2.1=jH p k n))->bE (↑x.1:Int) (aH v.args) (bK (λb1 o=>aA (bL v.args.a b1 o) (0<=(↑x.1:Int)) ((↑x.1:Int)<
 aH v.args/\∃(y2:PV),aI x.2.2 h b1 (o+aZ x.1 13) y2.enc/\DI (λv1 p1=>bK (λk1 b2=>∃(n1:Int),aA (EM y2 (qO (nZ k+1)) b=EM v1 (nZ k1) b2) (fZ h p1 v1) (aA (SizeOf.sizeOf p1<N) (k1<=9) (aA (cQ n1) (n1<=24) (x.2.2 b2=Option.some (fN (Array.mk (bR n1)) 3 0)/\∀(m2:MH),bG x.2.2 m2 b2 (bR (jH p1 k1 n1).2) 3->branch (!(jH p1 k1 n1).1) (K aT m2 h) (∃(y3:Nat×Int×MH),aA (aA (y3.1<=vS p) (cQ y3.2.1) (aA (y3.2.1<=24) (bG m y3.2.2 b (bR y3.2.1) 3) (1<=k/\nW (List.drop y3.1 p.args) (k-1) y3.2.1=jH p k n))) (vS p-y3.1<vS p-x.1) (aA (aW (nZ k)) (lC b) (aA (aL v.args) (aX v.args) (aA (bD (gI (bC x.1 1)) y3.1) (m2=y3.2.2) (bP h h))))))))))))) (K gF x.2.2 h)))))))
abbrev nH(a b:Sl):Prop:=eV (dG a) (dG b)
abbrev EB(a:Sl)(b:PH)(c:(List Int)->Prop):Prop:=∃(x:Sl)(x1:List Int),aA (nH a x) (Ints b x x1) (c x1)
abbrev gA(a:Nat->MH->Prop):Prop:=∀(x:Nat)(x1:MH),a x x1
attribute [push_cast] nH EB gA
def LY(N:Nat)(s t:Sl)(v:PV)(m:MH)(h:PH)(K:CV->MH->PH->Prop):Prop:=
  EB s h (λl=>branch (!(List.all l cA)) (K (dY 1) m h) (EB t h (λl1=>branch (!(List.all l1 cA)) (K (dY 1) m h) (gA (λb m1=>bY m h b->bG m m1 b (bR 24) 3->DI (λv1 p=>bK (λk b1=>∃(n:Int),aA (EM v 1 b=EM v1 (nZ k) b1) (fZ h p v1) (aA (SizeOf.sizeOf p<N) (k<=9) (aA (cQ n) (n<=24) (m1 b1=Option.some (fN (Array.mk (bR n)) 3 0)/\∀(m2:MH),bG m1 m2 b1 (bR (jH p k n).2) 3->branch (!(jH p k n).1) (K (dY 2) m2 h) (fR (λs1 t1=>BH (λc p1=>DI (λv2 p2=>aA (aK (fJ (bV s) t) (fB v.enc)=aK (fJ (bV s1) t1) (fB v2.enc)) (Ints h s1 c) (aA (Ints h t1 p1) (fZ h p2 v2) (SizeOf.sizeOf p2<N/\branch (!(lQ c p1 p2)) (K (dY 50) m2 h) (K (dY 0) m2 h)))))))))))))))))
end Go.Ps
namespace Go.Vc
open Go.Ps Go.Proofs
theorem eW.trans{m m' m'':MH}{b:Nat}{o o':Obj}(h1:eW m m' b o)(h2:eW m' m'' b o'):eW m m'' b o':=⟨h2.at_,λb' hb=>(h2.other b' hb).trans (h1.other b' hb)⟩
end Go.Vc
namespace Go.Ps
open Go Go.Vc Go.Proofs
variable{K:CV->MH->PH->Prop}{m:MH}{h:PH}{ps:List Int}{cb:Nat}{sc:bN}{v:QV}{q:Query}{p:Pred}{l:List Int}{i:Nat}{N:Nat}{m':MH}{h':PH}{co:List Int}{gr:List Int}{on:List (Int×Int)}{od:List (Int×Bool)}{w:Pred}{ta:Int}{li:Int}{xs:List (List Value)}{sz:Nat}{k:Nat}{ks:List (List Int)}{rs:List Int}{r:Sl}{a:List Int}{b:Nat}
theorem Py:∀N,Sound Tryz.prog 145 (Sb N)
 |0=>by
  refine fU (fn:=Tryz.f145) (c:=bU Tryz.f145) Tryz.func145 rfl (by decide) ?_;rintro cvs m h K ⟨v,p,k,b,n,rfl,hr,hN,_⟩;omega
 |N+1=>by
  refine jK Tryz.func145 ?_;rintro cvs m h K ⟨v,p,k,b,n,rfl,hr,hN,hk,h0,h1,hm,hK⟩;refine⟨Wo N v p k b n m h,rfl,aD (Py N) aF,LH N v p k b n m h K,by kernel_rfl,?_⟩;dsimp only[LH,push_cast];obtain⟨hl,hlen,hget⟩:=hr.open;have hw:IntKind.i64.wrap (n-1)=n-1:=gD aC aC;refine⟨n,.of_m hm rfl,_,_,⟨hm⟩,by simp,λm' hu=>?_⟩;rw[hw]at hu;have hu':eW m m' b (nM (n-1)):=hu;refine⟨n-1,.of_m hu'.at_ rfl,aE (λh2=>?_) (λh2=>aE (λh3=>?_) (λh3=>?_))⟩
  .have e:jH p k n=(false,n-1):=by cases p;simp only[jH];rw[if_pos aC]
   rw[e]at hK;exact hK m' hu'
  .have hk0:k=0:=by omega
   subst hk0;have e:jH p 0 n=(false,n-1):=by cases p;simp only[jH];rw[if_neg aC]
   rw[e]at hK;exact hK m' hu'
  .refine⟨⟨(0,n-1,m'),⟨by simp,by simp only;omega,by simp only;omega,hu',aC,?_⟩,MT⟩,?_⟩
   .obtain⟨k',rfl⟩:∃k',k=k'+1:=⟨k-1,aC⟩
    cases p;simp only[jH,List.drop_zero,Pred.args];rw[if_neg aC];rfl
   .rintro⟨i,x,mx⟩ ⟨hi,hx0,hx1,hmx,hk1,he⟩;simp only at hi hx0 hx1 hmx he;refine aE (λhlt=>?_) (λhge=>?_)
    .obtain⟨q,hq⟩:∃q,p.args[i]? =some q:=⟨p.args[i]'(by simp only at hlt;omega),List.getElem?_eq_getElem _⟩
     obtain⟨b1,o,u,ea,hrd,hru⟩:=hget i q hq;have hd:p.args.drop i=q::p.args.drop (i+1):=drop_cons hq;refine⟨b1,o,ea,by simp,by simpa using hlt,u,.imm (by simpa using hrd),u,q,k-1,b,x,?_,hru,?_,aC,hx0,hx1,hmx.at_,λm2 hm2=>?_⟩
     .rw[gD aC aC,show(9-((k-1:Nat):Int))=9-(k:Int)+1 by omega]
     .have:=FB (List.mem_of_getElem? hq);omega
     .have hmt:eW m m2 b (nM (jH q (k-1) x).2):=hmx.trans hm2;rw[hd,nW]at he;obtain⟨hs1,hs2⟩:=FP q (k-1) x hx0;cases e:jH q (k-1) x with
      |mk r x'=>
       rw[e]at he hmt hs1 hs2;cases r with
       |false=>
        simp only at he;rw[<-he]at hK;exact hK m2 hmt
       |true=>
        have hs3:=hs1.1 rfl;have hs4:=hs2 rfl;have hq1:=MC q;simp only at hs4 he;exact⟨(i+1,x',m2),⟨by simp only at hlt⊢;omega,by simp only;omega,by simp only;omega,hmt,hk1,he⟩,by simp only at hlt⊢;omega,MT⟩
    .rw[List.drop_of_length_le (by simp only at hge;omega)]at he;simp only[nW]at he;rw[<-he]at hK;exact hK mx hmx
theorem Fh{f:FuncId}{fn:Func}(hf:Tryz.prog.funcs[f]? =some fn){S:Vc.Spec}(hvc:∀cvs m h K,S cvs m h K->∃C:Ctx,C.P=Tryz.prog/\(∀g S,assoc C.specs g=some S->Sound Tryz.prog g S)/\∃N:Prop,N=qI C fn (bU fn) (entry fn.ntmps cvs m h) (λr m' h'=>∃m2 h2,(∀b o,m2 b=some o->m' b=some o)/\PH.le h h2/\PH.le h2 h'/\K r m2 h2)/\N)(hb:fn.body=some (bU fn):=by rfl)(hname:(fn.name== "runtime.NumGoroutine")=false:=by decide):Sound Tryz.prog f S:=TS hf hb hname λcvs m h K hS=>let⟨C,hC,hs,N,e,hn⟩:=hvc cvs m h K hS;⟨C,hC,hs,e▸hn⟩
theorem JJ:Sound Tryz.prog 110 D1:=by
 refine Fh Tryz.func110 ?_;rintro cvs m h K ⟨s,t,v,cols,params,p,rfl,hs,ht,hr,hK⟩;refine⟨Wz (SizeOf.sizeOf p+1),rfl,aD RF (aD (Py _) (aD (Px _) aF)),LY (SizeOf.sizeOf p+1) s t v m h (λr m' h'=>∃m2 h2,(∀b o,m2 b=some o->m' b=some o)/\PH.le h h2/\PH.le h2 h'/\K r m2 h2),by kernel_rfl,?_⟩;dsimp only[LY,push_cast];have hK2:∀(m':MH),(∀b o,m b=some o->m' b=some o)->∀x,gZ cols params p=x->∃m2 h2,(∀b o,m2 b=some o->m' b=some o)/\PH.le h h2/\PH.le h2 h/\K (.val (.int .i64 x)) m2 h2:=λm' hm x e=>⟨m,h,hm,.refl _,.refl _,e▸hK⟩
 refine⟨s,cols,rfl,hs,aB (λe1=>hK2 m (λ_ _ e=>e) _ ?_) (λe1=>⟨t,params,rfl,ht,aB (λe2=>hK2 m (λ_ _ e=>e) _ ?_) (λe2 b m1 hb hm1=>⟨v,p,8,b,24,rfl,hr,aC,aC,aC,aC,hm1.at_,λm2 hm2=>?_⟩)⟩)⟩
 .simp only[gZ];simp only[*,Bool.or_false,Bool.false_or,Bool.or_true,Bool.true_or,Bool.and_true,Bool.true_and,Bool.and_false,Bool.false_and,Bool.not_true,Bool.not_false,Bool.false_eq_true,if_true,if_false, ↓reduceIte]
 .simp only[gZ];simp only[*,Bool.or_false,Bool.false_or,Bool.or_true,Bool.true_or,Bool.and_true,Bool.true_and,Bool.and_false,Bool.false_and,Bool.not_true,Bool.not_false,Bool.false_eq_true,if_true,if_false, ↓reduceIte]
 .have hsub:∀b o,m b=some o->m2 b=some o:=λb' o e=>by
   have hne:b'≠b:=λe'=>by rw[e',hb.m_]at e;cases e
   rw[hm2.other b' hne,hm1.other b' hne,e]
  have hsb:=Tz p;refine aB (λe3=>hK2 m2 hsub _ ?_) (λe3=>⟨s,t,cols,params,v,p,rfl,hs,ht,hr,aC,aB (λe5=>hK2 m2 hsub _ ?_) (λe5=>hK2 m2 hsub _ ?_)⟩)
  all_goals (rw[hsb,Bool.not_not]at e3;clear hsb;simp only[gZ];simp only[*,Bool.or_false,Bool.false_or,Bool.or_true,Bool.true_or,Bool.and_true,Bool.true_and,Bool.and_false,Bool.false_and,Bool.not_true,Bool.not_false,Bool.false_eq_true,if_true,if_false, ↓reduceIte])
structure aR{α β:Type}(h:PH)(sz:Nat)(enc:β->List Value)(R:α->β->Prop)(s:Sl)(l:List α):Prop where
 ex:∃vs:List β,bH h s sz (vs.map enc)/\l.length=vs.length/\∀(i:Nat)(x:α),l[i]? =some x->∃v,vs[i]? =some v/\R x v
 len:l.length<=502633886983
theorem aR.slen{α β:Type}{enc:β->List Value}{R:α->β->Prop}{s:Sl}{l:List α}(r:aR h sz enc R s l):s.len=l.length:=by
 obtain⟨vs,h1,h2,_⟩:=r.ex;have:=h1.len;simp at this;omega
theorem aR.at{α β:Type}{enc:β->List Value}{R:α->β->Prop}{s:Sl}{l:List α}(r:aR h sz enc R s l){x:α}(hi:l[i]? =some x):
 ∃b o v,s.a=some ⟨b,o,none⟩/\bF h b (o+i*sz) (enc v)/\R x v:=by
 obtain⟨vs,h1,_,h3⟩:=r.ex;obtain⟨v,hv,hr⟩:=h3 i x hi;obtain⟨b,o,e,k⟩:=h1.get (i:=i) (e:=enc v) (by simp[hv]);exact⟨b,o,v,e,k,hr⟩
theorem aR.mono{α β:Type}{enc:β->List Value}{R R':α->β->Prop}{s:Sl}{l:List α}(r:aR h sz enc R s l)(le:PH.le h h')(hR:∀x v,R x v->R' x v):aR h' sz enc R' s l:=by
 obtain⟨vs,h1,h2,h3⟩:=r.ex;exact⟨⟨vs,h1.mono le,h2,λi x hx=>(h3 i x hx).imp λv hv=>⟨hv.1,hR _ _ hv.2⟩⟩,r.len⟩
theorem aR.nil{α β:Type}(h:PH)(sz:Nat)(enc:β->List Value)(R:α->β->Prop):aR h sz enc R ⟨none,0,0⟩ ([]:List α):=
 ⟨⟨[],.nil h sz,rfl,λi x hx=>by simp at hx⟩,by simp⟩
theorem fS{α:Type}{l:List α}{i n:Nat}(hn:n=l.length)(hi:(i:Int)<(n:Int)):∃x,l[i]? =some x:=⟨l[i]'(by omega),List.getElem?_eq_getElem _⟩
def B3(h:PH)(s:Sl)(ps:List Pred):Prop:=aR h 13 PV.enc (fZ h) s ps
theorem B3.mono{s:Sl}{ps:List Pred}(r:B3 h s ps)(le:PH.le h h'):B3 h' s ps:=aR.mono r le λ_ _=>fZ.mono le
theorem sI.toL{s:Sl}{ps:List Pred}{vs:List PV}(h1:bH h s 13 (vs.map PV.enc))(h2:sI h ps vs)(hl:ps.length<=502633886983):B3 h s ps:=
 ⟨⟨vs,h1,h2.length.symm,λ_ _ hx=>h2.get hx⟩,hl⟩
theorem sI.ofL{h:PH}:∀{ps:List Pred}{vs:List PV},ps.length=vs.length->(∀(i:Nat)(x:Pred),ps[i]? =some x->∃v,vs[i]? =some v/\fZ h x v)->sI h ps vs
 |[],[],_,_=>rfl
 |p::ps,v::vs,hl,hx=>by
  obtain⟨v',h1,h2⟩:=hx 0 p rfl;simp at h1;subst h1;exact⟨v,vs,rfl,h2,sI.ofL (by simpa using hl) λi x e=>by simpa using hx (i+1) x (by simpa using e)⟩
 |[],_::_,hl,_=>by simp at hl
 |_::_,[],hl,_=>by simp at hl
theorem fZ.parts{op cmp:Int}{l r:OV}{args:List Pred}{v:PV}(x:fZ h (.mk op cmp l r args) v):v.op=op/\v.cmp=cmp/\v.left=l/\v.right=r/\B3 h v.args args:=by
 obtain⟨h1,h2,h3,h4,h5,vs,h6,h7⟩:=x;exact⟨h1,h2,h3,h4,h7.toL h6 h5⟩
theorem fZ.mk{h:PH}{args:List Pred}{v:PV}(hl:B3 h v.args args):fZ h (.mk v.op v.cmp v.left v.right args) v:=by
 obtain⟨vs,h1,h2,h3⟩:=hl.ex;exact⟨rfl,rfl,rfl,rfl,hl.len,vs,h1,.ofL h2 h3⟩
def abJ(N:Nat):Vc.Spec:=λcvs m h K=>∃v w p q,cvs=[aP v,aP w]/\fZ h p v/\fZ h q w/\SizeOf.sizeOf p<N/\∀r:Bool,(r=true↔p=q)->K (cB r) m h
def Y8(N:Nat):Vc.Spec:=λcvs m h K=>∃s t ps qs,cvs=[cS s,cS t,.val (.func (.func 228) #[] #[])]/\B3 h s ps/\B3 h t qs/\(∀p∈ps,SizeOf.sizeOf p<N)/\∀r:Bool,(r=true↔ps=qs)->K (cB r) m h
noncomputable def VW(N:Nat):Ctx:=ctx [(241,Y8 N)] [] [] [] false
noncomputable def VS(N:Nat)(s t:Sl)(ps qs:List Pred)(m:MH)(h:PH):Ctx:=
 ctx [(228,abJ N)] [KQ 4 (λi=>cM 32 35 [(1,sv t),(2,vv (.func (.func 228) #[] #[])),(15,sv s),(16,iv s.len),(17,iv i)] [] m h) (λi=>i<=ps.length/\∀j:Nat,j<i->ps[j]? =qs[j]?) (λi=>ps.length-i)] [] [] false
noncomputable abbrev oI:Array Value:=Array.mk []
noncomputable abbrev gL(a:Nat)(b:Array Value):CV:=CV.val (Value.func (Fn.func a) oI b)
attribute [push_cast] oI gL
def Gc(N:Nat)(v w:PV)(m:MH)(h:PH)(K:CV->MH->PH->Prop):Prop:=
  bQ v.op w.op (bQ v.cmp w.cmp (rN 60 v.left.enc w.left.enc (λr=>branch r (rN 60 v.right.enc w.right.enc (λr1=>branch r1 (fR (λs t=>∃(p q:List Pred),aA (dG v.args::aK (dG w.args) (gL 228 oI)=dG s::aK (dG t) (gL 228 oI)) (B3 h s p) (aA (B3 h t q) (∀(p1:Pred),List.Mem p1 p->SizeOf.sizeOf p1<N) (∀(r2:Bool),(lN r2↔p=q)->K (yX r2) m h)))) (K aT m h))) (K aT m h))) (K aT m h)) (K aT m h)
abbrev HI(a:Nat)(b:List Pred)(c:Nat->Nat)(d:List Pred):Prop:=a<=b.length/\∀(x:Nat),x<a->b[c x]? =d[c x]?
noncomputable abbrev BA(a:Fn)(b:Array Value):SV:=SV.at (At.val (Value.func a oI b))
abbrev AJ(a:Nat):Prop:=eQ (BA (Fn.func a) oI)
attribute [push_cast] HI BA AJ
def Lc(N:Nat)(s t:Sl)(ps qs:List Pred)(m:MH)(h:PH)(K:CV->MH->PH->Prop):Prop:=
  branch (aH s !=aH t) (K aT m h) ((∃(x:Nat),aA (HI x ps (λj=>j) qs) (aL t) (aA (AJ 228) (aL s) (aA (aX s) (bI x) (aA (m=m) (h=h) True))))/\∀(x:Nat),HI x ps (λj=>j) qs->bE (↑x:Int) (aH s) (bK (λb o=>aA (bL s.a b o) (0<=(↑x:Int)) ((↑x:Int)<aH s/\∃(y:PV),aI m h b (o+aZ x 13) y.enc/\bK (λb1 o1=>aA (bL t.a b1 o1) (0<=(↑x:Int)) ((↑x:Int)<aH t/\∃(y1:PV),aI m h b1 (o1+aZ x 13) y1.enc/\∃(v:PV),DI (λw p=>∃(q:Pred),aA (aK (fB y.enc) (fB y1.enc)=aK (fB v.enc) (fB w.enc)) (fZ h p v) (aA (fZ h q w) (SizeOf.sizeOf p<N) (∀(r:Bool),(lN r↔p=q)->branch (!r) (K aT m h) (∃(y2:Nat),aA (HI y2 ps (λj=>j) qs) (ps.length-y2<ps.length-x) (aA (aL t) (AJ 228) (aA (aL
 s) (aX s) (aA (bD (gI (bC x 1)) y2) (m=m) (bP h h))))))))))))) (K gF m h))
theorem Dg{α:Type}{a b:List α}(hl:a.length=b.length)(hi:a.length<=i)(h:∀j:Nat,j<i->a[j]? =b[j]?):a=b:=by
 apply List.ext_getElem?;intro j;by_cases hj:j<i
 .exact h j hj
 .rw[List.getElem?_eq_none aC,List.getElem?_eq_none aC]
theorem A1{α:Type}{a b:List α}{x y:α}(hx:a[i]? =some x)(hy:b[i]? =some y)(e:x=y)(h:∀j:Nat,j<i->a[j]? =b[j]?):∀j:Nat,j<i+1->a[j]? =b[j]? :=by
 intro j hj;by_cases e':j=i
 .subst e';rw[hx,hy,e]
 .exact h j aC
theorem Sy{α:Type}{a b:List α}{x y:α}(hx:a[i]? =some x)(hy:b[i]? =some y)(e:x≠y):a≠b:=λh=>by
 subst h;rw[hx]at hy;simp at hy;exact e hy
theorem M5{α β:Type}{s t:Sl}{a:List α}{b:List β}(hs:s.len=a.length)(ht:t.len=b.length)(e:((s.len:Int) !=(t.len:Int))=true):a.length≠b.length:=λh=>by
 rw[hs,ht,h]at e;simp at e
theorem M6{α β:Type}{s t:Sl}{a:List α}{b:List β}(hs:s.len=a.length)(ht:t.len=b.length)(e:((s.len:Int) !=(t.len:Int))=false):a.length=b.length:=by
 have:(s.len:Int)=t.len:=by simpa using e
 omega
theorem Yc{v w:PV}{q:Pred}(hv:fZ h p v)(hw:fZ h q w)(hN:SizeOf.sizeOf p<N+1)(hK:∀r:Bool,(r=true↔p=q)->K (cB r) m h):Gc N v w m h K:=by
 dsimp only[Gc,push_cast];have hf:p≠q->K (cB false) m h:=λh=>hK false ⟨λe=>(by cases e),λe=>(h e).elim⟩;have hargs:=@FB p;obtain⟨op,cmp,l,r,ps⟩:=p;obtain⟨op',cmp',l',r',qs⟩:=q;obtain⟨rfl,rfl,rfl,rfl,hps⟩:=hv.parts;obtain⟨rfl,rfl,rfl,rfl,hqs⟩:=hw.parts;refine aB (λh1=>aB (λh2=>⟨_,H5 _ _,aB (λh3=>⟨_,H5 _ _,aB (λh4=>⟨v.args,w.args,ps,qs,rfl,hps,hqs,λp hp=>?_,λr hr=>hK r (hr.trans ?_)⟩) (λh4=>hf λe=>?_)⟩) (λh3=>hf λe=>?_)⟩) (λh2=>hf λe=>?_)) (λh1=>hf λe=>?_)
 .have:=hargs (q:=p) hp;omega
 .rw[Nj]at h3 h4;simp only[beq_iff_eq]at h1 h2;rw[h1,h2,h3,h4];exact⟨λe=>by rw[e],λe=>by injection e⟩
 .injection e with _ _ _ e _;rw[Nj.2 e]at h4;cases h4
 .injection e with _ _ e _ _;rw[Nj.2 e]at h3;cases h3
 .injection e with _ e _ _ _;rw[e]at h2;simp at h2
 .injection e with e _ _ _ _;rw[e]at h1;simp at h1
theorem Pp:∀N,Sound Tryz.prog 228 (abJ N)
 |0=>by
  refine fU (fn:=Tryz.f228) (c:=bU Tryz.f228) Tryz.func228 rfl (by decide) ?_;rintro cvs m h K ⟨v,w,p,q,rfl,hr,_,hN,_⟩;omega
 |N+1=>by
  have h144:Sound Tryz.prog 241 (Y8 N):=by
   refine jK Tryz.func241 ?_;rintro cvs m h K ⟨s,t,ps,qs,rfl,ha,hb,hN,hK⟩;refine⟨VS N s t ps qs m h,rfl,aD (Pp N) aF,Lc N s t ps qs m h K,by kernel_rfl,?_⟩;dsimp only[Lc,push_cast];have hsa:=ha.slen;have htb:=hb.slen;have hla:=ha.len;have hf:ps≠qs->K (cB false) m h:=λh=>hK false ⟨λe=>(by cases e),λe=>(h e).elim⟩;refine aB (λh1=>hf (λe=>M5 hsa htb h1 (by rw[e]))) (λh1=>?_);have hl:=M6 hsa htb h1;refine⟨⟨0,⟨aC,λj hj=>by omega⟩,MT⟩,λi hi=>aE (λhlt=>?_) (λhge=>?_)⟩
   .obtain⟨x,hx⟩:=fS hsa hlt;obtain⟨y,hy⟩:∃y,qs[i]? =some y:=fS (n:=s.len) aC hlt;obtain⟨b1,o1,u,e1,r1,ru⟩:=ha.at hx;obtain⟨b2,o2,w,e2,r2,rw'⟩:=hb.at hy;refine⟨b1,o1,e1,aC,hlt,u,.imm r1,b2,o2,e2,aC,aC,w,.imm r2,u,w,x,y,rfl,ru,rw',hN x (List.mem_of_getElem? hx),λr hr=>aB (λhne=>hf (Sy hx hy (λe=>?_))) (λhe=>?_)⟩
    .have:=hr.2 e;subst this;cases hne
    .have hr':r=true:=by simpa using he
     exact⟨i+1,⟨aC,A1 hx hy (hr.1 hr') hi.2⟩,aC,MT⟩
   .exact hK true ⟨λ_=>Dg hl aC hi.2,λ_=>rfl⟩
  refine jK Tryz.func228 ?_;rintro cvs m h K ⟨v,w,p,q,rfl,hr,hq,hN,hK⟩;refine⟨VW N,rfl,aD h144 aF,Gc N v w m h K,by kernel_rfl,?_⟩;exact Yc hr hq hN hK
def acQ:Vc.Spec:=λcvs m h K=>∃v w p q,cvs=[aP v,aP w]/\fZ h p v/\fZ h q w/\∀r:Bool,(r=true↔p=q)->K (cB r) m h
theorem qU{f:FuncId}{S:Nat->Vc.Spec}{S':Vc.Spec}(h:∀N,Sound Tryz.prog f (S N))(hs:∀cvs m h K,S' cvs m h K->∃N,S N cvs m h K):Sound Tryz.prog f S':=by
 refine⟨(h 0).1,λcvs vs m hh w K hS hp=>?_⟩;obtain⟨N,hN⟩:=hs cvs m hh K hS;exact(h N).2 cvs vs m hh w K hN hp
theorem QQ:Sound Tryz.prog 228 acQ:=qU Pp λ_ _ _ _⟨v,w,p,q,e,h1,h2,h3⟩=>⟨SizeOf.sizeOf p+1,v,w,p,q,e,h1,h2,aC,h3⟩
theorem Fo{d e c i:Nat}{is:List Nat}{xs ys:Array Value}{w:World}{x y:Value}{r r':Bool}(hx:uQ Tryz.prog (part e xs (i*c))=some x)(hy:uQ Tryz.prog (part e ys (i*c))=some y)
 (he:(Op.equalIn d e x y).run Tryz.prog w= .ok r w)(hr:(Op.eqItems d e c xs ys is).run Tryz.prog w= .ok r' w):(Op.eqItems d e c xs ys (i::is)).run Tryz.prog w= .ok (r&&r') w:=by
 simp only[Op.eqItems,Sem.run_bind,v8 _ _ _ hx,v8 _ _ _ hy,Result.andThen_ok,he];cases r
 .simp
 .simpa using hr
def ZI(a b:Int×Int):Bool:=a.1==b.1&&(a.2==b.2&&true)
def ZH(a b:Int×Bool):Bool:=a.1==b.1&&(a.2==b.2&&true)
theorem WE(a b:Int×Int):StructEq Tryz.prog 81 (.agg #[.int .i64 a.1,.int .i64 a.2]) (.agg #[.int .i64 b.1,.int .i64 b.2]) (ZI a b):=by
 refine⟨by kernel_rfl,λw=>?_⟩;obtain⟨i,hi⟩:=Option.isSome_iff_exists.1 (show(Tryz.prog.info? 3).isSome=true by kernel_rfl);rw[run_equalIn_array w 9999 (e:=3) (n:=2) _ _ (by kernel_rfl) hi,show Tryz.prog.cellsOf 3=1 by kernel_rfl,show List.range 2=[0,1]from rfl];refine Fo (x:=.int .i64 a.1) (y:=.int .i64 b.1) (by kernel_rfl) (by kernel_rfl) (run_equalIn_int w 9998 _ .i64 .i64 _ _ (by kernel_rfl)) ?_;refine Fo (x:=.int .i64 a.2) (y:=.int .i64 b.2) (by kernel_rfl) (by kernel_rfl) (run_equalIn_int w 9998 _ .i64 .i64 _ _ (by kernel_rfl)) ?_;simp[Op.eqItems]
theorem WD(a b:Int×Bool):StructEq Tryz.prog 138 (.agg #[.int .i64 a.1,.bool a.2]) (.agg #[.int .i64 b.1,.bool b.2]) (ZH a b):=by
 refine⟨by kernel_rfl,λw=>?_⟩;rw[run_equalIn_struct w 9999 138 _ _ (by kernel_rfl) (by kernel_rfl),show(Tryz.prog.fieldsOf 138).toList=[Kd 138 0,Kd 138 1]by kernel_rfl];refine jN (x:=.int .i64 a.1) (y:=.int .i64 b.1) (by kernel_rfl) (by kernel_rfl) (by kernel_rfl) (run_equalIn_int w 9998 _ .i64 .i64 _ _ (by kernel_rfl)) ?_;refine jN (x:=.bool a.2) (y:=.bool b.2) (by kernel_rfl) (by kernel_rfl) (by kernel_rfl) (run_equalIn_bool w 9998 _ _ _ (by kernel_rfl)) ?_;simp[Op.eqFields]
theorem PG{a b:Int×Int}:ZI a b=true↔a=b:=by
 obtain⟨a1,a2⟩:=a;obtain⟨b1,b2⟩:=b;simp[ZI]
theorem PF{a b:Int×Bool}:ZH a b=true↔a=b:=by
 obtain⟨a1,a2⟩:=a;obtain⟨b1,b2⟩:=b;simp[ZH]
theorem nS.at{s:Sl}{l:List (Int×Int)}(r:nS h s l){x:Int×Int}(hi:l[i]? =some x):∃b o,s.a=some ⟨b,o,none⟩/\bF h b (o+i*2) (Et x):=r.row.get (by simp[hi])
theorem jY.at{s:Sl}{l:List (Int×Bool)}(r:jY h s l){x:Int×Bool}(hi:l[i]? =some x):∃b o,s.a=some ⟨b,o,none⟩/\bF h b (o+i*2) (Cc x):=r.row.get (by simp[hi])
def Mh:Vc.Spec:=λcvs m h K=>∃(s t:Sl)(a b:List (Int×Int)),cvs=[cS s,cS t]/\nS h s a/\nS h t b/\∀r:Bool,(r=true↔a=b)->K (cB r) m h
def Mg:Vc.Spec:=λcvs m h K=>∃(s t:Sl)(a b:List (Int×Bool)),cvs=[cS s,cS t]/\jY h s a/\jY h t b/\∀r:Bool,(r=true↔a=b)->K (cB r) m h
noncomputable def Po{α:Type}(s t:Sl)(a b:List α)(m:MH)(h:PH):Ctx:=
 ctx [] [KQ 4 (λi=>cM 26 28 [(0,sv s),(1,sv t),(12,iv s.len),(13,iv i)] [] m h) (λi=>i<=a.length/\∀j:Nat,j<i->a[j]? =b[j]?) (λi=>a.length-i)] [] [] false
abbrev HJ(a:Nat)(b:List (Int×Int))(c:Nat->Nat)(d:List (Int×Int)):Prop:=a<=b.length/\∀(x:Nat),x<a->b[c x]? =d[c x]?
noncomputable abbrev Ax(a:Int×Int):List Value:=lP (cJ a.1) (cJ a.2)
attribute [push_cast] HJ Ax
def Lh(s t:Sl)(a b:List (Int×Int))(m:MH)(h:PH)(K:CV->MH->PH->Prop):Prop:=
  branch (aH s !=aH t) (K aT m h) ((∃(x:Nat),aA (HJ x a (λj=>j) b) (aL s) (aA (aL t) (aX s) (bT (bI x) m m h h)))/\∀(x:Nat),HJ x a (λj=>j) b->bE (↑x:Int) (aH s) (bK (λb1 o=>aA (bL s.a b1 o) (0<=(↑x:Int)) ((↑x:Int)<aH s/\∃(y:Int×Int),aI m h b1 (o+aZ x 2) (Ax y)/\bK (λb2 o1=>aA (bL t.a b2 o1) (0<=(↑x:Int)) ((↑x:Int)<aH t/\∃(y1:Int×Int),aI m h b2 (o1+aZ x 2) (Ax y1)/\rN 81 (Ax y) (Ax y1) (λr=>branch (!r) (K aT m h) (∃(y2:Nat),aA (HJ y2 a (λj=>j) b) (a.length-y2<a.length-x) (aA (aL s) (aL t) (aA (aX s) (bD (gI (bC x 1)) y2) (aA (m=m) (h=h) True)))))))))) (K gF m h))
abbrev HK(a:Nat)(b:List (Int×Bool))(c:Nat->Nat)(d:List (Int×Bool)):Prop:=a<=b.length/\∀(x:Nat),x<a->b[c x]? =d[c x]?
noncomputable abbrev AD(a:Int×Bool):List Value:=lP (cJ a.1) (Value.bool a.2)
attribute [push_cast] HK AD
def Lg(s t:Sl)(a b:List (Int×Bool))(m:MH)(h:PH)(K:CV->MH->PH->Prop):Prop:=
  branch (aH s !=aH t) (K aT m h) ((∃(x:Nat),aA (HK x a (λj=>j) b) (aL s) (aA (aL t) (aX s) (bT (bI x) m m h h)))/\∀(x:Nat),HK x a (λj=>j) b->bE (↑x:Int) (aH s) (bK (λb1 o=>aA (bL s.a b1 o) (0<=(↑x:Int)) ((↑x:Int)<aH s/\∃(y:Int×Bool),aI m h b1 (o+aZ x 2) (AD y)/\bK (λb2 o1=>aA (bL t.a b2 o1) (0<=(↑x:Int)) ((↑x:Int)<aH t/\∃(y1:Int×Bool),aI m h b2 (o1+aZ x 2) (AD y1)/\rN 138 (AD y) (AD y1) (λr=>branch (!r) (K aT m h) (∃(y2:Nat),aA (HK y2 a (λj=>j) b) (a.length-y2<a.length-x) (aA (aL s) (aL t) (aA (aX s) (bD (gI (bC x 1)) y2) (aA (m=m) (h=h) True)))))))))) (K gF m h))
theorem QP:Sound Tryz.prog 229 Mh:=by
 refine jK Tryz.func229 ?_;rintro cvs m h K ⟨s,t,a,b,rfl,ha,hb,hK⟩;refine⟨Po s t a b m h,rfl,aF,Lh s t a b m h K,by kernel_rfl,?_⟩;dsimp only[Lh,push_cast];have hsa:=ha.slen;have htb:=hb.slen;have hla:=ha.len;have hf:a≠b->K (cB false) m h:=λh=>hK false ⟨λe=>(by cases e),λe=>(h e).elim⟩;refine aB (λh1=>hf (λe=>M5 hsa htb h1 (by rw[e]))) (λh1=>?_);have hl:=M6 hsa htb h1;refine⟨⟨0,⟨aC,λj hj=>by omega⟩,MT⟩,λi hi=>aE (λhlt=>?_) (λhge=>?_)⟩
 .obtain⟨x,hx⟩:=fS hsa hlt;obtain⟨y,hy⟩:∃y,b[i]? =some y:=fS (n:=s.len) aC hlt;obtain⟨b1,o1,e1,r1⟩:=ha.at hx;obtain⟨b2,o2,e2,r2⟩:=hb.at hy;refine⟨b1,o1,e1,aC,hlt,x,.imm r1,b2,o2,e2,aC,aC,y,.imm r2,_,WE x y,aB (λhne=>hf (Sy hx hy (λe=>?_))) (λhe=>?_)⟩
  .rw[PG.2 e]at hne;cases hne
  .exact⟨i+1,⟨aC,A1 hx hy (PG.1 (by simpa using he)) hi.2⟩,aC,MT⟩
 .exact hK true ⟨λ_=>Dg hl aC hi.2,λ_=>rfl⟩
theorem QO:Sound Tryz.prog 230 Mg:=by
 refine jK Tryz.func230 ?_;rintro cvs m h K ⟨s,t,a,b,rfl,ha,hb,hK⟩;refine⟨Po s t a b m h,rfl,aF,Lg s t a b m h K,by kernel_rfl,?_⟩;dsimp only[Lg,push_cast];have hsa:=ha.slen;have htb:=hb.slen;have hla:=ha.len;have hf:a≠b->K (cB false) m h:=λh=>hK false ⟨λe=>(by cases e),λe=>(h e).elim⟩;refine aB (λh1=>hf (λe=>M5 hsa htb h1 (by rw[e]))) (λh1=>?_);have hl:=M6 hsa htb h1;refine⟨⟨0,⟨aC,λj hj=>by omega⟩,MT⟩,λi hi=>aE (λhlt=>?_) (λhge=>?_)⟩
 .obtain⟨x,hx⟩:=fS hsa hlt;obtain⟨y,hy⟩:∃y,b[i]? =some y:=fS (n:=s.len) aC hlt;obtain⟨b1,o1,e1,r1⟩:=ha.at hx;obtain⟨b2,o2,e2,r2⟩:=hb.at hy;refine⟨b1,o1,e1,aC,hlt,x,.imm r1,b2,o2,e2,aC,aC,y,.imm r2,_,WD x y,aB (λhne=>hf (Sy hx hy (λe=>?_))) (λhe=>?_)⟩
  .rw[PF.2 e]at hne;cases hne
  .exact⟨i+1,⟨aC,A1 hx hy (PF.1 (by simpa using he)) hi.2⟩,aC,MT⟩
 .exact hK true ⟨λ_=>Dg hl aC hi.2,λ_=>rfl⟩
noncomputable def Pz(s t:Sl)(a b:List Int)(m:MH)(h:PH):Ctx:=
 ctx [] [KQ 4 (λi=>cM 26 28 [(0,sv s),(1,sv t),(12,iv s.len),(13,iv i)] [] m h) (λi=>i<=a.length/\∀j:Nat,j<i->a[j]? =b[j]?) (λi=>a.length-i)] [] [] false
abbrev HL(a:Nat)(b:List Int)(c:Nat->Nat)(d:List Int):Prop:=a<=b.length/\∀(x:Nat),x<a->b[c x]? =d[c x]?
attribute [push_cast] HL
def Gy(s t:Sl)(a b:List Int)(m:MH)(h:PH)(K:CV->MH->PH->Prop):Prop:=
  branch (aH s !=aH t) (K aT m h) ((∃(x:Nat),aA (HL x a (λj=>j) b) (aL s) (aA (aL t) (aX s) (bT (bI x) m m h h)))/\∀(x:Nat),HL x a (λj=>j) b->bE (↑x:Int) (aH s) (bK (λb1 o=>aA (bL s.a b1 o) (0<=(↑x:Int)) ((↑x:Int)<aH s/\∃(y:Int),aI m h b1 (o+aZ x 1) (bR y)/\bK (λb2 o1=>aA (bL t.a b2 o1) (0<=(↑x:Int)) ((↑x:Int)<aH t/\∃(y1:Int),aI m h b2 (o1+aZ x 1) (bR y1)/\branch (y !=y1) (K aT m h) (∃(y2:Nat),aA (HL y2 a (λj=>j) b) (a.length-y2<a.length-x) (aA (aL s) (aL t) (aA (aX s) (bD (gI (bC x 1)) y2) (aA (m=m) (h=h) True))))))))) (K gF m h))
theorem ZE(s t:Sl)(a b:List Int)(m:MH)(h:PH)(K:CV->MH->PH->Prop):Gy s t a b m h K=(qI (Pz s t a b m h) Tryz.f69 (bU Tryz.f69) (entry 26 [cS s,cS t] m h) K):=by kernel_rfl
def B0:Vc.Spec:=λcvs m h K=>∃(s t:Sl)(a b:List Int),cvs=[cS s,cS t]/\Ints h s a/\Ints h t b/\∀r:Bool,(r=true↔a=b)->K (cB r) m h
theorem Yt{s t:Sl}{b:List Int}(ha:Ints h s a)(hb:Ints h t b)(hK:∀r:Bool,(r=true↔a=b)->K (cB r) m h):Gy s t a b m h K:=by
 dsimp only[Gy,push_cast];have hsa:=ha.slen;have htb:=hb.slen;have hla:=ha.len;have hf:a≠b->K (cB false) m h:=λh=>hK false ⟨λe=>by(cases e),λe=>(h e).elim⟩;refine aB (λh1=>hf (λe=>?_)) (λh1=>?_)
 .subst e;rw[hsa,htb]at h1;simp at h1
 .have hl:a.length=b.length:=by rw[hsa,htb]at h1;have:(a.length:Int)=b.length:=(by simpa using h1);omega
  refine⟨⟨0,⟨aC,λj hj=>by omega⟩,rfl,rfl,rfl,rfl,rfl,rfl,trivial⟩,λi hi=>aE (λhlt=>?_) (λhge=>?_)⟩
  .obtain⟨x,hx⟩:∃x,a[i]? =some x:=⟨a[i]'(by omega),List.getElem?_eq_getElem _⟩
   obtain⟨y,hy⟩:∃y,b[i]? =some y:=⟨b[i]'(by omega),List.getElem?_eq_getElem _⟩
   obtain⟨b1,o1,e1,r1⟩:=ha.at hx;obtain⟨b2,o2,e2,r2⟩:=hb.at hy;refine⟨b1,o1,e1,aC,hlt,x,.imm (by simpa using r1),b2,o2,e2,aC,aC,y,.imm (by simpa using r2),aB (λhne=>hf (λe=>?_)) (λhe=>?_)⟩
   .subst e;rw[hx]at hy;simp at hy;subst hy;simp at hne
   .have:x=y:=by simpa using he
    refine⟨i+1,⟨aC,λj hj=>?_⟩,aC,rfl,rfl,rfl,by rw[j5 aC],rfl,rfl,trivial⟩;by_cases e:j=i
    .subst e;rw[hx,hy,this]
    .exact hi.2 j aC
  .refine hK true ⟨λ_=>?_,λ_=>rfl⟩;apply List.ext_getElem?;intro j;by_cases hj:j<i
   .exact hi.2 j hj
   .rw[List.getElem?_eq_none aC,List.getElem?_eq_none aC]
theorem CZ:Sound Tryz.prog 69 B0:=by
 refine fU (fn:=Tryz.f69) (c:=bU Tryz.f69) Tryz.func69 rfl (by decide) ?_;rintro cvs m h K ⟨s,t,a,b,rfl,ha,hb,hK⟩;exact⟨Pz s t a b m h,rfl,aF,(ZE s t a b m h K)▸Yt ha hb hK⟩
def aQ(v:QV):CV:=.val (.agg ⟨v.enc⟩)
def Query.args:Query->List Query
 |.mk _ _ _ _ _ _ _ _ l=>l
theorem Ep{p:Query}{q:Query}(h:q∈p.args):SizeOf.sizeOf q<SizeOf.sizeOf p:=by
 cases p with
 |mk op t w c o g s l args=>
  have:=List.sizeOf_lt_of_mem h;simp only[Query.args]at this;simp only[Query.mk.sizeOf_spec];omega
def zR(h:PH)(s:Sl)(ps:List Query):Prop:=aR h 21 QV.enc (fF h) s ps
theorem zR.mono{s:Sl}{ps:List Query}(r:zR h s ps)(le:PH.le h h'):zR h' s ps:=aR.mono r le λ_ _=>fF.mono le
theorem uN.ofL{h:PH}:∀{ps:List Query}{vs:List QV},ps.length=vs.length->(∀(i:Nat)(x:Query),ps[i]? =some x->∃v,vs[i]? =some v/\fF h x v)->uN h ps vs
 |[],[],_,_=>rfl
 |p::ps,v::vs,hl,hx=>by
  obtain⟨v',h1,h2⟩:=hx 0 p rfl;simp at h1;subst h1;exact⟨v,vs,rfl,h2,uN.ofL (by simpa using hl) λi x e=>by simpa using hx (i+1) x (by simpa using e)⟩
 |[],_::_,hl,_=>by simp at hl
 |_::_,[],hl,_=>by simp at hl
structure nR(h:PH)(op table:Int)(w:Pred)(c:List Int)(o:List (Int×Int))(g:List Int)(s:List (Int×Bool))(l:Int)(args:List Query)(v:QV):Prop where
 op_:v.op=op
 table_:v.table=table
 where_:fZ h w v.where_
 columns_:Ints h v.columns c
 on_:nS h v.on o
 group_:Ints h v.group g
 order_:jY h v.order s
 limit_:v.limit=l
 args_:zR h v.args args
theorem fF.parts{op table:Int}{c:List Int}{o:List (Int×Int)}{g:List Int}{s:List (Int×Bool)}{l:Int}{args:List Query}(x:fF h (.mk op table w c o g s l args) v):nR h op table w c o g s l args v:=by
 obtain⟨h1,h2,h3,h4,h5,h6,h7,h8,h9,vs,h10,h11⟩:=x;exact⟨h1,h2,h3,h4,h5,h6,h7,h8,⟨⟨vs,h10,h11.length.symm,λ_ _ hx=>h11.get hx⟩,h9⟩⟩
theorem nR.rep{op table:Int}{c:List Int}{o:List (Int×Int)}{g:List Int}{s:List (Int×Bool)}{l:Int}{args:List Query}(x:nR h op table w c o g s l args v):fF h (.mk op table w c o g s l args) v:=by
 obtain⟨vs,h1,h2,h3⟩:=x.args_.ex;exact⟨x.op_,x.table_,x.where_,x.columns_,x.on_,x.group_,x.order_,x.limit_,x.args_.len,vs,h1,.ofL h2 h3⟩
def abX(N:Nat):Vc.Spec:=λcvs m h K=>∃v w p q,cvs=[aQ v,aQ w]/\fF h p v/\fF h q w/\SizeOf.sizeOf p<N/\∀r:Bool,(r=true↔p=q)->K (cB r) m h
def abZ:Vc.Spec:=λcvs m h K=>∃v w p q,cvs=[aQ v,aQ w]/\fF h p v/\fF h q w/\∀r:Bool,(r=true↔p=q)->K (cB r) m h
def Y7(N:Nat):Vc.Spec:=λcvs m h K=>∃s t ps qs,cvs=[cS s,cS t,.val (.func (.func 217) #[] #[])]/\zR h s ps/\zR h t qs/\(∀p∈ps,SizeOf.sizeOf p<N)/\∀r:Bool,(r=true↔ps=qs)->K (cB r) m h
noncomputable def V1(N:Nat):Ctx:=ctx [(228,acQ),(69,B0),(229,Mh),(230,Mg),(231,Y7 N)] [] [] [] false
noncomputable def VU(N:Nat)(s t:Sl)(ps qs:List Query)(m:MH)(h:PH):Ctx:=
 ctx [(217,abX N)] [KQ 4 (λi=>cM 32 35 [(1,sv t),(2,vv (.func (.func 217) #[] #[])),(15,sv s),(16,iv s.len),(17,iv i)] [] m h) (λi=>i<=ps.length/\∀j:Nat,j<i->ps[j]? =qs[j]?) (λi=>ps.length-i)] [] [] false
noncomputable abbrev iG(a b:Sl):List CV:=aK (dG a) (dG b)
abbrev Cz(a b:Sl)(c:PH)(d:Bool->Prop):Prop:=fR (λx x1=>BH (λx2 x3=>aA (iG a b=iG x x1) (Ints c x x2) (Ints c x1 x3/\∀(x4:Bool),(lN x4↔x2=x3)->d x4)))
abbrev uU(a:Query)(b:Nat):Prop:=SizeOf.sizeOf a<b
attribute [push_cast] iG Cz uU
def Ge(N:Nat)(v w:QV)(m:MH)(h:PH)(K:CV->MH->PH->Prop):Prop:=
  bQ v.op w.op (bQ v.table w.table (bQ v.limit w.limit (∃(v1:PV),DI (λw1 p=>∃(q:Pred),aA (aK (fB v.where_.enc) (fB w.where_.enc)=aK (fB v1.enc) (fB w1.enc)) (fZ h p v1) (fZ h q w1/\∀(r:Bool),(lN r↔p=q)->branch r (Cz v.columns w.columns h (λr1=>branch r1 (fR (λs t=>∃(a b:List (Int×Int)),aA (iG v.on w.on=iG s t) (nS h s a) (nS h t b/\∀(r2:Bool),(lN r2↔a=b)->branch r2 (Cz v.group w.group h (λr3=>branch r3 (fR (λs1 t1=>∃(a1 b1:List (Int×Bool)),aA (iG v.order w.order=iG s1 t1) (jY h s1 a1) (jY h t1 b1/\∀(r4:Bool),(lN r4↔a1=b1)->branch r4 (fR (λs2 t2=>∃(p1 q1:List Query),aA (dG v.args::aK (dG w.args) (gL 217 oI)=dG s2::aK (dG t2) (gL 217 oI)) (zR h s2 p1) (aA (zR h t2
 q1) (∀(p2:Query),List.Mem p2 p1->uU p2 N) (∀(r5:Bool),(lN r5↔p1=q1)->K (yX r5) m h)))) (K aT m h)))) (K aT m h))) (K aT m h)))) (K aT m h))) (K aT m h)))) (K aT m h)) (K aT m h)) (K aT m h)
abbrev HM(a:Nat)(b:List Query)(c:Nat->Nat)(d:List Query):Prop:=a<=b.length/\∀(x:Nat),x<a->b[c x]? =d[c x]?
abbrev uY(a:QV->Query->Prop):Prop:=∃(x:QV)(x1:Query),a x x1
noncomputable abbrev cW(a:QV):CV:=fB a.enc
attribute [push_cast] HM uY cW
def Lf(N:Nat)(s t:Sl)(ps qs:List Query)(m:MH)(h:PH)(K:CV->MH->PH->Prop):Prop:=
  branch (aH s !=aH t) (K aT m h) ((∃(x:Nat),aA (HM x ps (λj=>j) qs) (aL t) (aA (AJ 217) (aL s) (aA (aX s) (bI x) (aA (m=m) (h=h) True))))/\∀(x:Nat),HM x ps (λj=>j) qs->bE (↑x:Int) (aH s) (bK (λb o=>aA (bL s.a b o) (0<=(↑x:Int)) ((↑x:Int)<aH s/\∃(y:QV),aI m h b (o+aZ x 21) y.enc/\bK (λb1 o1=>aA (bL t.a b1 o1) (0<=(↑x:Int)) ((↑x:Int)<aH t/\∃(y1:QV),aI m h b1 (o1+aZ x 21) y1.enc/\∃(v:QV),uY (λw p=>∃(q:Query),aA (aK (cW y) (cW y1)=aK (cW v) (cW w)) (fF h p v) (aA (fF h q w) (uU p N) (∀(r:Bool),(lN r↔p=q)->branch (!r) (K aT m h) (∃(y2:Nat),aA (HM y2 ps (λj=>j) qs) (ps.length-y2<ps.length-x) (aA (aL t) (AJ 217) (aA (aL s) (aX s)
 (aA (bD (gI (bC x 1)) y2) (m=m) (bP h h))))))))))))) (K gF m h))
theorem Ye{w:QV}{p:Query}(hv:fF h p v)(hw:fF h q w)(hN:SizeOf.sizeOf p<N+1)(hK:∀r:Bool,(r=true↔p=q)->K (cB r) m h):Ge N v w m h K:=by
 dsimp only[Ge,push_cast];have hf:p≠q->K (cB false) m h:=λh=>hK false ⟨λe=>(by cases e),λe=>(h e).elim⟩;have hargs:=@Ep p;obtain⟨op,ta,wh,co,on,gr,od,li,ps⟩:=p;obtain⟨op',ta',wh',co',on',gr',od',li',qs⟩:=q;have a:=hv.parts;have b:=hw.parts
 refine aB (λh1=>aB (λh2=>aB (λh3=>⟨_,_,_,_,rfl,a.where_,b.where_,λr4 h4=>aB (λg4=>⟨_,_,_,_,rfl,a.columns_,b.columns_,λr5 h5=>aB (λg5=>⟨_,_,_,_,rfl,a.on_,b.on_,λr6 h6=>aB (λg6=>⟨_,_,_,_,rfl,a.group_,b.group_,λr7 h7=>aB (λg7=>⟨_,_,_,_,rfl,a.order_,b.order_,λr8 h8=>aB (λg8=>⟨_,_,_,_,rfl,a.args_,b.args_,λp hp=>?_,λr hr=>hK r (hr.trans ?_)⟩)
  (λg8=>hf λe=>?_)⟩) (λg7=>hf λe=>?_)⟩) (λg6=>hf λe=>?_)⟩) (λg5=>hf λe=>?_)⟩) (λg4=>hf λe=>?_)⟩) (λh3=>hf λe=>?_)) (λh2=>hf λe=>?_)) (λh1=>hf λe=>?_)
 .have:=hargs (q:=p) hp;omega
 .rw[a.op_,b.op_,beq_iff_eq]at h1;rw[a.table_,b.table_,beq_iff_eq]at h2;rw[a.limit_,b.limit_,beq_iff_eq]at h3;rw[h1,h2,h3,h4.1 g4,h5.1 g5,h6.1 g6,h7.1 g7,h8.1 g8];exact⟨λe=>by rw[e],λe=>by injection e⟩
 .injection e with _ _ _ _ _ _ e _ _;rw[h8.2 e]at g8;cases g8
 .injection e with _ _ _ _ _ e _ _ _;rw[h7.2 e]at g7;cases g7
 .injection e with _ _ _ _ e _ _ _ _;rw[h6.2 e]at g6;cases g6
 .injection e with _ _ _ e _ _ _ _ _;rw[h5.2 e]at g5;cases g5
 .injection e with _ _ e _ _ _ _ _ _;rw[h4.2 e]at g4;cases g4
 .injection e with _ _ _ _ _ _ _ e _;rw[a.limit_,b.limit_,e]at h3;simp at h3
 .injection e with _ e _ _ _ _ _ _ _;rw[a.table_,b.table_,e]at h2;simp at h2
 .injection e with e _ _ _ _ _ _ _ _;rw[a.op_,b.op_,e]at h1;simp at h1
theorem Pt:∀N,Sound Tryz.prog 217 (abX N)
 |0=>by
  refine fU (fn:=Tryz.f217) (c:=bU Tryz.f217) Tryz.func217 rfl (by decide) ?_;rintro cvs m h K ⟨v,w,p,q,rfl,hr,_,hN,_⟩;omega
 |N+1=>by
  have h139:Sound Tryz.prog 231 (Y7 N):=by
   refine jK Tryz.func231 ?_;rintro cvs m h K ⟨s,t,ps,qs,rfl,ha,hb,hN,hK⟩;refine⟨VU N s t ps qs m h,rfl,aD (Pt N) aF,Lf N s t ps qs m h K,by kernel_rfl,?_⟩;dsimp only[Lf,push_cast];have hsa:=ha.slen;have htb:=hb.slen;have hla:=ha.len;have hf:ps≠qs->K (cB false) m h:=λh=>hK false ⟨λe=>(by cases e),λe=>(h e).elim⟩;refine aB (λh1=>hf (λe=>M5 hsa htb h1 (by rw[e]))) (λh1=>?_);have hl:=M6 hsa htb h1;refine⟨⟨0,⟨aC,λj hj=>by omega⟩,MT⟩,λi hi=>aE (λhlt=>?_) (λhge=>?_)⟩
   .obtain⟨x,hx⟩:=fS hsa hlt;obtain⟨y,hy⟩:∃y,qs[i]? =some y:=fS (n:=s.len) aC hlt;obtain⟨b1,o1,u,e1,r1,ru⟩:=ha.at hx;obtain⟨b2,o2,w,e2,r2,rw'⟩:=hb.at hy;refine⟨b1,o1,e1,aC,hlt,u,.imm r1,b2,o2,e2,aC,aC,w,.imm r2,u,w,x,y,rfl,ru,rw',hN x (List.mem_of_getElem? hx),λr hr=>aB (λhne=>hf (Sy hx hy (λe=>?_))) (λhe=>?_)⟩
    .have:=hr.2 e;subst this;cases hne
    .have hr':r=true:=by simpa using he
     exact⟨i+1,⟨aC,A1 hx hy (hr.1 hr') hi.2⟩,aC,MT⟩
   .exact hK true ⟨λ_=>Dg hl aC hi.2,λ_=>rfl⟩
  refine jK Tryz.func217 ?_;rintro cvs m h K ⟨v,w,p,q,rfl,hr,hq,hN,hK⟩;refine⟨V1 N,rfl,aD QQ (aD CZ (aD QP (aD QO (aD h139 aF)))),Ge N v w m h K,by kernel_rfl,?_⟩;exact Ye hr hq hN hK
theorem QZ:Sound Tryz.prog 217 abZ:=qU Pt λ_ _ _ _⟨v,w,p,q,e,h1,h2,h3⟩=>⟨SizeOf.sizeOf p+1,v,w,p,q,e,h1,h2,aC,h3⟩
structure Ref where
 columns:List Int
 table:Int
structure zN where
 name:ByteArray
 columns:List sE
 key:Int
 refs:List Ref
 checks:List Pred
structure jR where
 version:Int
 tables:List zN
variable{s:jR}
structure ND(h:PH)(r:Ref)(v:PU):Prop where
 columns:Ints h v.columns r.columns
 table:v.table=r.table
def Kq(h:PH)(s:Sl)(l:List sE):Prop:=aR h 2 sE.enc Eq s l
structure J0(h:PH)(t:zN)(v:bS):Prop where
 name:v.name=t.name
 columns:Kq h v.columns t.columns
 key:v.key=t.key
 refs:aR h 2 PU.enc (ND h) v.references t.refs
 checks:B3 h v.checks t.checks
structure dV(h:PH)(s:jR)(v:bN):Prop where
 version:v.version=s.version
 tables:aR h 5 bS.enc (J0 h) v.tables s.tables
theorem ND.mono{r:Ref}{v:PU}(x:ND h r v)(le:PH.le h h'):ND h' r v:=⟨x.columns.mono le,x.table⟩
theorem J0.mono{t:zN}{v:bS}(x:J0 h t v)(le:PH.le h h'):J0 h' t v:=
 ⟨x.name,aR.mono x.columns le λ_ _ e=>e,x.key,x.refs.mono le λ_ _ e=>e.mono le,x.checks.mono le⟩
theorem dV.mono{v:bN}(x:dV h s v)(le:PH.le h h'):dV h' s v:=⟨x.version,x.tables.mono le λ_ _ e=>e.mono le⟩
def lower(c:Nat):Bool:=97<=c&&c<=122
def Ds(c:Nat):Bool:=lower c||(48<=c&&c<=57)||c==95
def rZ(s:ByteArray):List Nat:=s.data.toList.map UInt8.toNat
def sO(s:ByteArray):Bool:=1<=s.size&&s.size<=32&&lower ((rZ s).headD 0)&&(rZ s).all Ds
theorem UM(s:ByteArray):(rZ s).length=s.size:=by simp[rZ]
theorem UN{s:ByteArray}{c:Nat}(h:(rZ s)[i]? =some c):(s.get! i).toNat=c/\c<256:=by
 simp only[rZ,List.getElem?_map,Option.map_eq_some_iff]at h;obtain⟨b,hb,rfl⟩:=h;refine⟨?_,b.toNat_lt⟩
 have hi:i<s.data.size:=by
  have:=(List.getElem?_eq_some_iff.1 hb).1;simpa using this
 have:s.data[i]? =some b:=by simpa using hb
 cases s with
 |mk bs=>
  show(bs[i]!).toNat=b.toNat;rw[getElem!_def,this]
theorem GG{s:ByteArray}(h:(s.get! i).toNat<128):Utf8.decode s i=((s.get! i).toNat,1):=by
 simp only[Utf8.decode,Nat.add_zero];rw[if_pos h]
theorem UL{s:ByteArray}(h:¬(s.get! i).toNat<128):128<=(Utf8.decode s i).1:=by
 simp only[Utf8.decode,Nat.add_zero];rw[if_neg h]
 repeat' split
 all_goals simp_all [Utf8.runeError]
 all_goals omega
def RZ(s:ByteArray):CV:=.val (.string s)
def Y1:Vc.Spec:=λcvs m h K=>∃s,cvs=[RZ s]/\K (cB (sO s)) m h
noncomputable def Wq(s:ByteArray)(m:MH)(h:PH):Ctx:=
 ctx [] [(4,{A:=Nat×Nat×MH,st:=λx=>cM 44 45 [(15,vv (.pointer (some ⟨x.2.1,0,none⟩)))] [] x.2.2 h,inv:=λx=>x.1<=s.size/\bY m h x.2.1/\eW m x.2.2 x.2.1 (.stringIter s x.1)/\(x.1=0\/lower ((rZ s).headD 0)=true)/\((rZ s).take x.1).all Ds=true,mu:=λx=>s.size-x.1})] [] [] false
abbrev MS(a b:(Nat×Nat×MH)->Prop):Prop:=(∃(x:Nat×Nat×MH),a x)/\∀(x:Nat×Nat×MH),b x
abbrev uW(a b:Prop)(c:MH)(d:Nat->Option Obj)(e g:PH):Prop:=aA a b (aA (c=d) (e=g) True)
noncomputable abbrev fT(a:Nat×Nat×MH):Nat:=a.2.1
noncomputable abbrev eG(a:Nat×Nat×MH):Nat->Option Obj:=a.2.2
abbrev w8(a:Nat×Nat×MH)(b:ByteArray)(c:MH)(d:PH):Prop:=aA (a.1<=b.size) (bY c d (fT a)) (aA (eW c (eG a) (fT a) (Obj.stringIter b a.1)) (a.1=0\/lN (lower (List.headD (rZ b) 0))) (lN (List.all (List.take a.1 (rZ b)) Ds)))
abbrev cN(a b:Nat):Prop:=Vj a 0=Vj b 0
noncomputable abbrev Ag(a:ByteArray)(b:Nat):Nat:=(Utf8.decode a b).1
abbrev Cs(a:(Nat×Nat×MH)->Prop)(b:ByteArray)(c:Nat×Nat×MH)(d:MH)(e:PH):Prop:=∃(x:Nat×Nat×MH),aA (a x) (b.size-x.1<b.size-c.1) (aA (cN (fT c) (fT x)) (d=eG x) (bP e e))
attribute [push_cast] MS uW fT eG w8 cN Ag Cs
def Gx(s:ByteArray)(m:MH)(h:PH)(K:CV->MH->PH->Prop):Prop:=
  bE (↑s.size:Int) 1 (K aT m h) (branch (decide ((↑s.size:Int)>32)) (K aT m h) (gA (λb m1=>bY m h b->eW m m1 b (Obj.stringIter s 0)->MS (λx=>uW (w8 x s m h) (cN b (fT x)) m1 (eG x) h h) (λx=>w8 x s m h->∃(s1:ByteArray)(p:Nat),aA (wS (eG x) (fT x) (Obj.stringIter s1 p)) (s1.size<=p->K gF (eG x) h) (p<s1.size->∀(m2:MH),eW (eG x) m2 (fT x) (Obj.stringIter s1 (p+(Utf8.decode s1 p).2))->branch (decide ((↑(Ag s1 p):Int)>=97)) (branch (!(decide ((↑(Ag s1 p):Int)<=122))) (branch ((↑p:Int)==0) (K aT m2 h) (nG (↑(Ag s1 p):Int) 95 (bE (↑(Ag s1 p):Int) 48 (K aT m2 h) (branch (decide ((↑(Ag s1 p):Int)>57)) (K aT m2 h) (Cs (λy=>w8 y s m h) s x m2 h))) (Cs (λy=>w8 y s m h) s x m2 h))) (Cs
 (λy=>w8 y s m h) s x m2 h)) (branch ((↑p:Int)==0) (K aT m2 h) (nG (↑(Ag s1 p):Int) 95 (bE (↑(Ag s1 p):Int) 48 (K aT m2 h) (branch (decide ((↑(Ag s1 p):Int)>57)) (K aT m2 h) (Cs (λy=>w8 y s m h) s x m2 h))) (Cs (λy=>w8 y s m h) s x m2 h))))))))
def kY(h:PH)(K:CV->MH->PH->Prop):CV->MH->PH->Prop:=λr m' h'=>∃m2 h2,(∀b o,m2 b=some o->m' b=some o)/\PH.le h h2/\PH.le h2 h'/\K r m2 h2
theorem kY.here{r:CV}(hK:K r m h):kY h K r m h:=⟨m,h,λ_ _ e=>e,.refl _,.refl _,hK⟩
theorem kY.sub{r:CV}(hm:∀b o,m b=some o->m' b=some o)(hK:K r m h):kY h K r m' h:=⟨m,h,hm,.refl _,.refl _,hK⟩
theorem eW.keeps{o:Obj}(hb:bY m h b)(hu:eW m m' b o):∀b o,m b=some o->m' b=some o:=λb' o' e=>by
 have hne:b'≠b:=λe'=>by rw[e',hb.m_]at e;cases e
 rw[hu.other b' hne,e]
theorem RG:Sound Tryz.prog 143 Y1:=by
 refine Fh Tryz.func143 ?_;rintro cvs m h K ⟨s,rfl,hK⟩;refine⟨Wq s m h,rfl,aF,Gx s m h (λr m' h'=>∃m2 h2,(∀b o,m2 b=some o->m' b=some o)/\PH.le h h2/\PH.le h2 h'/\K r m2 h2),by kernel_rfl,?_⟩;show Gx s m h (kY h K);dsimp only[Gx,push_cast];have hl:=UM s;refine aE (λh1=>?_) (λh1=>aE (λh2=>?_) (λh2 b m1 hb hm1=>?_))
 .refine .here (sL hK ?_);have:¬1<=s.size:=by omega
  simp[sO,this]
 .refine .here (sL hK ?_);have:¬s.size<=32:=by omega
  simp[sO,this]
 refine⟨⟨(0,b,m1),⟨by simp,hb,hm1,.inl rfl,by simp⟩,MT⟩,?_⟩;rintro⟨pos,b,mx⟩ ⟨hp,hb,hmx,hhead,hall⟩;simp only at hp hb hmx hhead hall;refine⟨s,pos,⟨hmx.at_⟩,λhge=>?_,λhlt m2 hm2=>?_⟩
 .refine .sub (eW.keeps hb hmx) (sL hK ?_);rw[List.take_of_length_le aC]at hall
  have h3:lower ((rZ s).headD 0)=true:=by
   rcases hhead with e|e
   .omega
   .exact e
  have h1':1<=s.size:=by omega
  have h2':s.size<=32:=by omega
  simp only[sO,hall,h3,decide_eq_true h1',decide_eq_true h2'];rfl
 .have hm3:=hmx.trans hm2;obtain⟨c,hc⟩:∃c,(rZ s)[pos]? =some c:=⟨(rZ s)[pos]'(by omega),List.getElem?_eq_getElem _⟩
  obtain⟨hg,hc256⟩:=UN hc
  have hhd:pos=0->(rZ s).headD 0=c:=λe=>by
   subst e;cases hcs:rZ s with
   |nil=>rw[hcs]at hc;simp at hc
   |cons x l=>rw[hcs]at hc;simp at hc;simpa using hc
  have stop:¬((97<=(Utf8.decode s pos).1/\(Utf8.decode s pos).1<=122)\/(pos≠0/\((Utf8.decode s pos).1=95\/(48<=(Utf8.decode s pos).1/\(Utf8.decode s pos).1<=57))))->kY h K (.val (.bool false)) m2 h:=by
   intro hn;refine .sub (eW.keeps hb hm3) (sL hK ?_);by_cases hlo:(s.get! pos).toNat<128
   .rw[GG hlo,hg]at hn;by_cases hp0:pos=0
    .have:lower c=false:=by
      simp only[lower,Bool.and_eq_false_iff,decide_eq_false_iff_not];simp only at hn;omega
     simp only[sO,hhd hp0,this,Bool.and_false,Bool.false_and]
    .have:Ds c=false:=by
      simp only[Ds,lower,Bool.or_eq_false_iff,Bool.and_eq_false_iff,decide_eq_false_iff_not,beq_eq_false_iff_ne];simp only at hn;omega
     simp[sO,FD hc this]
   .have:Ds c=false:=by
     simp only[Ds,lower,Bool.or_eq_false_iff,Bool.and_eq_false_iff,decide_eq_false_iff_not,beq_eq_false_iff_ne];omega
    simp[sO,FD hc this]
  have go:((97<=(Utf8.decode s pos).1/\(Utf8.decode s pos).1<=122)\/(pos≠0/\((Utf8.decode s pos).1=95\/(48<=(Utf8.decode s pos).1/\(Utf8.decode s pos).1<=57))))->pos+1<=s.size/\eW m m2 b (.stringIter s (pos+1))/\lower ((rZ s).headD 0)=true/\((rZ s).take (pos+1)).all Ds=true:=by
   intro hy
   have hlo:(s.get! pos).toNat<128:=by
    refine Decidable.byContradiction λhlo=>?_;have:=UL hlo;omega
   rw[GG hlo]at hm3;rw[GG hlo,hg]at hy;simp only at hy;refine⟨aC,hm3,?_,?_⟩
   .rcases hhead with e|e
    .rw[hhd e];simp only[lower,Bool.and_eq_true,decide_eq_true_eq];omega
    .exact e
   .rw[FC hc,hall];simp only[Ds,lower,Bool.true_and,Bool.or_eq_true,Bool.and_eq_true,decide_eq_true_eq,beq_iff_eq];omega
  have next:((97<=(Utf8.decode s pos).1/\(Utf8.decode s pos).1<=122)\/(pos≠0/\((Utf8.decode s pos).1=95\/(48<=(Utf8.decode s pos).1/\(Utf8.decode s pos).1<=57))))->_:=λhy=>(⟨(pos+1,b,m2),⟨(go hy).1,hb,(go hy).2.1,.inr (go hy).2.2.1,(go hy).2.2.2⟩,by show s.size-(pos+1)<s.size-pos;omega,MT⟩:∃(y:Nat×Nat×MH),(y.fst<=s.size/\bY m h y.snd.fst/\eW m y.snd.2 y.snd.fst (Obj.stringIter s y.fst)/\(y.fst=0\/lower ((rZ s).headD 0)=true)/\(List.take y.fst (rZ s)).all Ds=true)/\s.size-y.fst<s.size-pos/\SV.at (At.val (Value.pointer (some (Addr.mk b 0 none))))=SV.at (At.val (Value.pointer (some (Addr.mk y.snd.fst 0 none))))/\m2=y.snd.2/\h=h/\True)
  clear go hm3 hm2 hall hhead hhd hmx hm1 hK
  repeat' (first|(refine aB (λ_=>?_) (λ_=>?_))|exact stop (by simp only[decide_eq_true_eq,decide_eq_false_iff_not,bne_iff_ne,ne_eq,beq_iff_eq,beq_eq_false_iff_ne,bne_eq_false_iff_eq,Bool.not_eq_true',Bool.not_eq_false']at*;omega)|exact next (by simp only[decide_eq_true_eq,decide_eq_false_iff_not,bne_iff_ne,ne_eq,beq_iff_eq,beq_eq_false_iff_ne,bne_eq_false_iff_eq,Bool.not_eq_true',Bool.not_eq_false']at*;omega))
theorem Mx:Tryz.prog.underlying 9=some .string:=by kernel_rfl
theorem zY:KeyLaw Tryz.prog 9 (λv=>∃s,v= .string s):=by
 refine⟨⟨_,Mx⟩,?_,?_,?_⟩
 .rintro _ w b ⟨s,rfl⟩
  have e:∀n:Nat,(Instr.checkKey b (n+1) 9 (.string s)).run Tryz.prog w= .ok () w:=λn=>by
   unfold Instr.checkKey;simp only[Sem.run_bind,run_underlying Mx,Result.andThen];simp
  exact e 9999
 .rintro _ _ w ⟨s,rfl⟩ ⟨t,rfl⟩;refine⟨_,run_equalIn_string w 9999 9 s t Mx,?_⟩;rw[beq_iff_eq];exact⟨λe=>by rw[De e],λe=>by injection e with e;rw[e]⟩
 .rintro d _ _ r hd ⟨s,rfl⟩ ⟨t,rfl⟩ h;rw[Mx]at hd;cases hd;simp only[Instr.sameNow,Option.some.injEq]at h;subst h;rw[beq_toListBytes,beq_iff_eq];exact⟨λe=>by rw[De e],λe=>by injection e with e;rw[e]⟩
def iP{α:Type}(T:List α->α->Prop)(l:List α)(i:Nat):Prop:=∀j x,j<i->l[j]? =some x->T (l.take j) x
def Good{α:Type}(T:List α->α->Prop)(l:List α):Prop:=∀(j:Nat) x,l[j]? =some x->T (l.take j) x
theorem iP.zero{α:Type}{T:List α->α->Prop}{l:List α}:iP T l 0:=λ_ _ h=>by omega
theorem iP.succ{α:Type}{T:List α->α->Prop}{l:List α}{x:α}(h:iP T l i)(hx:l[i]? =some x)(t:T (l.take i) x):iP T l (i+1):=by
 intro j y hj hy;by_cases e:j=i
 .subst e;rw[hx]at hy;cases hy;exact t
 .exact h j y aC hy
theorem iP.all{α:Type}{T:List α->α->Prop}{l:List α}(h:iP T l i)(hi:l.length<=i):Good T l:=λj x hx=>h j x (by have:=(List.getElem?_eq_some_iff.1 hx).1;omega) hx
theorem Good.not{α:Type}{T:List α->α->Prop}{l:List α}{x:α}(hx:l[i]? =some x)(t:¬T (l.take i) x):¬Good T l:=λh=>t (h i x hx)
def UZ(pre:List sE)(c:sE):Prop:=sO c.name=true/\cA c.kind=true/\c.name∉pre.map sE.name
def Hy(pre:List zN)(t:zN):Prop:=sO t.name=true/\1<=t.key/\t.key<=t.columns.length/\t.name∉pre.map zN.name/\Good UZ t.columns
def iB(s:jR)(t:Int):List Int:=if t<0 then[]else match s.tables[t.toNat]? with|none=>[]|some t=>t.columns.map sE.kind
def gY(s:jR)(t:Int):Bool:=decide (0<=t)&&decide (t<s.tables.length)
def aS(v:bN):CV:=.val (.agg ⟨v.enc⟩)
def uP(s:jR):Prop:=∀t∈s.tables,t.columns.length<=8
def UY:Vc.Spec:=λcvs m h K=>∃v s t,cvs=[aS v,cI t]/\dV h s v/\K (cB (gY s t)) m h
def FG:Vc.Spec:=λcvs m h K=>∃v s t,cvs=[aS v,cI t]/\dV h s v/\uP s/\∀sl h',PH.le h h'->Ints h' sl (iB s t)->K (cS sl) m h'
noncomputable def WA(m:MH)(h:PH):Ctx:=
 dL [(113,UY)] [(5,{A:=Nat×Sl×List Int,st:=λx=>cM 38 40 [(5,.at (.lst 19)),(25,sv x.2.1),(26,iv x.2.1.len),(27,iv x.1)] [(19,.lst 3 1 (x.2.2.map eI))] m h})] [] [] false
noncomputable abbrev yL(a:bN):Int:=aH a.tables
attribute [push_cast] yL
def LW(v:bN)(t:Int)(m:MH)(h:PH)(K:CV->MH->PH->Prop):Prop:=
  iH t 0 K (yX (decide (t<yL v))) m h (K aT m h)
abbrev kB(a:bN->jR->Prop):Prop:=∃(x:bN)(x1:jR),a x x1
noncomputable abbrev eE(a:bN):Value:=cJ a.version
noncomputable abbrev eD(a:bN):Value:=bV a.tables
noncomputable abbrev bJ(a:bN):CV:=fB (lP (eE a) (eD a))
abbrev xF(a:bN)(b:Int)(c:PH)(d:jR->Int->Prop):Prop:=kB (λx x1=>∃(x2:Int),aA (aK (bJ a) (dY b)=aK (bJ x) (dY x2)) (dV c x1 x) (d x1 x2))
abbrev dA(a:Sl)(b:Int)(c:Nat->Nat->Sl->Prop):Prop:=bK (λx x1=>aA (bL a.a x x1) (0<=b) (b<aH a/\∃(x2:Sl),c x x1 x2))
noncomputable abbrev aM(a:Sl):List Value:=l9 (bV a)
abbrev kS(a:Int):Prop:=a<=281474976710656
abbrev bA(a b:Sl):Prop:=Ss a=Ss b
abbrev cO(a b:Sl):Prop:=bD (gI (↑a.len:Int)) b.len
abbrev Cn(a:List (List Value)):Prop:=Option.some (Own.lst 3 1 [])=Option.some (Own.lst 3 1 a)
noncomputable abbrev Ar(a:Nat×Sl×List Int):List (List Value):=List.map eI a.2.2
noncomputable abbrev mS(a:sE):Value:=Value.string a.name
abbrev w7(a:Nat):Prop:=a<=140737488355328
abbrev dD(a b:Nat):Prop:=w7 (a*b)
abbrev eF(a:List (List Value)):Prop:=a.length<140737488355328
noncomputable abbrev hX(a:List Value):List (List Value):=[a]
noncomputable abbrev eR(a:List (List Value))(b:List Value):List (List Value):=a++hX b
abbrev gT(a:Sl->PH->Prop):Prop:=∀(x:Sl)(x1:PH),a x x1
abbrev dZ(a b:PH)(c d:Prop):Prop:=PH.le a b->c->d
abbrev aY(a:PH)(b:Nat)(c:List (List Value))(d:Sl->PH->Prop):Prop:=gT (λx x1=>dZ a x1 (bH x1 x b c) (d x x1))
attribute [push_cast] kB eE eD bJ xF dA aM kS bA cO Cn Ar mS w7 dD eF hX eR gT dZ aY
def LZ(v:bN)(t:Int)(m:MH)(h:PH)(K:CV->MH->PH->Prop):Prop:=
  xF v t h (λs t1=>branch (!(gY s t1)) (K uO m h) (dA v.tables t (λb o y=>aA (aI m h b (o+eM t 5+1) (aM y)) (cQ 0) (aA (cQ (aH y)) (kS (aH y*8)) (kS (aH y)/\dA v.tables t (λb1 o1 y1=>aI m h b1 (o1+eM t 5+1) (aM y1)/\∃(I:Nat×Sl×List Int->Prop)(m1:Nat×Sl×List Int->Nat),(∃(x:Nat×Sl×List Int),aA (I x) (eL 19) (aA (bA y1 x.2.1) (cO y1 x.2.1) (aA (bI x.1) (Cn (Ar x)) (aA (m=m) (h=h) True))))/\∀(x:Nat×Sl×List Int),I x->bE (↑x.1:Int) (aH x.2.1) (bK (λb2 o2=>aA (bL x.2.1.a b2 o2) (0<=(↑x.1:Int)) ((↑x.1:Int)<aH x.2.1/\∃(y2:sE),aA (aI m h b2 (o2+aZ x.1 2) (lP (mS y2) (cJ y2.kind))) (dD ((Ar x).length+1) 8) (eF (Ar x)/\∃(x1:Nat×Sl×List Int),aA (I x1) (m1
 x1<m1 x) (aA (eL 19) (bA x.2.1 x1.2.1) (aA (cO x.2.1 x1.2.1) (bD (gI (bC x.1 1)) x1.1) (aA (Option.some (Own.lst 3 1 (eR (Ar x) (bR y2.kind)))=Option.some (Own.lst 3 1 (Ar x1))) (m=m) (bP h h)))))))) (aY h 1 (Ar x) (λs1 h1=>K (dG s1) m h1))))))))
theorem bF.part{o:Nat}{l:List Value}(r:bF h b o l)(k n:Nat):bF h b (o+k) ((l.drop k).take n):=
 ⟨λi v e=>by
  have:l[k+i]? =some v:=by
   rw[List.getElem?_take]at e;split at e
   .rwa [List.getElem?_drop]at e
   .cases e
  have:=r.rd (k+i) v this
  rwa [<-Nat.add_assoc]at this⟩
theorem Kq.at{s:Sl}{l:List sE}(r:Kq h s l){x:sE}(hi:l[i]? =some x):∃b o,s.a=some ⟨b,o,none⟩/\bF h b (o+i*2) (sE.enc x):=by
 obtain⟨b,o,v,e,k,rfl⟩:=aR.at r hi;exact⟨b,o,e,k⟩
theorem OL{t:Int}(h:¬(0<=t/\t<s.tables.length)):iB s t=[]:=by
 unfold iB;split
 .rfl
 .rw[List.getElem?_eq_none aC]
theorem OK{t:Int}{x:zN}(h:0<=t)(hx:s.tables[t.toNat]? =some x):iB s t=x.columns.map sE.kind:=by
 unfold iB;rw[if_neg aC,hx]
theorem dV.table{v:bN}(hs:dV h s v){t:Int}(h0:0<=t)(h1:t<(v.tables.len:Int)):∃x b o w,s.tables[t.toNat]? =some x/\v.tables.a=some ⟨b,o,none⟩/\bF h b (o+t.toNat*5) (bS.enc w)/\J0 h x w:=by
 have hl:=hs.tables.slen;have hx:s.tables[t.toNat]? =some (s.tables[t.toNat]'(by omega)):=List.getElem?_eq_getElem _;obtain⟨b,o,w,e,r,k⟩:=hs.tables.at hx;exact⟨_,b,o,w,hx,e,r,k⟩
theorem jL{α β:Type}{f:α->β}{l:List α}{x:α}(hx:l[i]? =some x):(l.take (i+1)).map f=(l.take i).map f++[f x]:=by
 rw[List.take_add_one,hx];simp
theorem wN:Sound Tryz.prog 113 UY:=by
 refine jK Tryz.func113 ?_;rintro cvs m h K ⟨v,s,t,rfl,hs,hK⟩;refine⟨dL [] [] [] [] false,rfl,aF,LW v t m h K,by kernel_rfl,?_⟩;dsimp only[LW,push_cast];have hl:=hs.tables.slen;refine aE (λh1=>sL hK ?_) (λh1=>sL hK ?_)
 .have h1:0<=t:=h1;simp only[gY,hl,decide_eq_true h1,Bool.true_and]
 .have h1:¬0<=t:=by omega
  simp only[gY,decide_eq_false h1,Bool.false_and]
theorem DU:Sound Tryz.prog 109 FG:=by
 refine jK Tryz.func109 ?_;rintro cvs m h K ⟨v,s,t,rfl,hs,h8,hK⟩;refine⟨WA m h,rfl,aD wN aF,LZ v t m h K,by kernel_rfl,?_⟩;dsimp only[LZ,push_cast];have hl:=hs.tables.slen;have hnil:iB s t=[]->K (.val (.slice none 0 0)) m h:=λe=>hK ⟨none,0,0⟩ h (.refl _) (by rw[e];exact⟨.nil _ _,by simp⟩);refine⟨v,s,t,rfl,hs,aB (λh1=>hnil (OL ?_)) (λh1=>?_)⟩
 .simp only[gY,Bool.not_eq_true',Bool.and_eq_false_iff,decide_eq_false_iff_not]at h1;omega
 simp only[gY,Bool.not_eq_false',Bool.and_eq_true,decide_eq_true_eq]at h1;obtain⟨x,b,o,w,hx,ea,hr,hrep⟩:=hs.table (t:=t) aC aC;have hx8:=h8 x (List.mem_of_getElem? hx);have hcl:=aR.slen hrep.columns;rw[OK aC hx]at hK;refine⟨b,o,ea,aC,aC,w.columns,.imm (bF.part hr 1 1),aC,aC,aC,aC,b,o,ea,aC,aC,w.columns,.imm (bF.part hr 1 1),λ⟨i,sl,l⟩=>sl=w.columns/\i<=x.columns.length/\l=(x.columns.take i).map sE.kind,λ⟨i,_,_⟩=>x.columns.length-i,⟨(0,w.columns,[]),⟨rfl,by simp,by simp⟩,MT⟩,?_⟩;rintro⟨i,_,_⟩ ⟨rfl,hi,rfl⟩;dsimp only;refine aE (λhlt=>?_) (λhge sl h' hle hrow=>?_)
 .obtain⟨c,hc⟩:=fS hcl hlt;obtain⟨b,o,e,r⟩:=Kq.at hrep.columns hc;refine⟨b,o,e,aC,hlt,c,.imm r,?_,?_,(i+1,w.columns,(x.columns.take (i+1)).map sE.kind),⟨rfl,aC,rfl⟩,by show x.columns.length-(i+1)<x.columns.length-i;omega,?_⟩
  .simp;omega
  .simp;omega
  .rw[jL hc,List.map_append];exact MT
 .rw[List.take_of_length_le aC]at hrow;exact hK sl h' hle ⟨hrow,by simp;omega⟩
end Go.Ps
