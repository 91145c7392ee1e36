/-
  Part 8 of a proof that a law of the given program returns true: a condition generator that is proved sound, and contracts of functions. No condition of its own. Own work, joined by a program (pack2.py).
-/
import Derived.Test.YtileehgdfcknkaaGreatDoorKg
set_option linter.unusedVariables false
set_option linter.unusedSimpArgs false
namespace Go.Ps
open Go Go.Vc Go.Proofs
variable{K:CV->MH->PH->Prop}{m:MH}{h:PH}{s:pV}{ps:List Int}{cb:Nat}{sc:bH}{v:QV}{q:Query}{p:Pred}{l:List Int}{i:Nat}{N:Nat}{m':MH}{h':PH}{co:List Int}{gr:List Int}{od:List (Int×Bool)}{w:Pred}{ta:Int}{li:Int}{xs:List (List Value)}{sz:Nat}{k:Nat}{ks:List (List Int)}{rs:List Int}{r:Sl}{a:List Int}{b:Nat}
structure Dg(s:pV)(c:Nat)(ls:List (List (List VV)))(k:Nat)(ts:List Int):Prop where
 at_:∀(j:Nat)(t:Int),ts[j]? =some t->∃l,ls[k+j]? =some l/\i7 (iI s t).length l/\l.length<=c
theorem Dg.left{c:Nat}{ls:List (List (List VV))}{b:List Int}(x:Dg s c ls k (a++b)):Dg s c ls k a:=
 ⟨λj t h=>x.at_ j t (by rw[List.getElem?_append_left (List.getElem?_eq_some_iff.1 h).1];exact h)⟩
theorem Dg.right{c:Nat}{ls:List (List (List VV))}{b:List Int}(x:Dg s c ls k (a++b)):Dg s c ls (k+a.length) b:=
 ⟨λj t h=>by
  have:=x.at_ (a.length+j) t (by rw[List.getElem?_append_right aC,Nat.add_sub_cancel_left];exact h)
  rwa [show k+a.length+j=k+(a.length+j)by omega]⟩
theorem zH{op:Int}{on:List (Int×Int)}{args:List Query}{ks:List Int}(h:cA s ps (.mk op ta w co on gr od li args)=(ks,0)):
 ∃kss,fT s ps args=(kss,0)/\(kss.length:Int)=arity op/\iT s ps (.mk op ta w co on gr od li args) (kss.getD 0 []) (kss.getD 1 [])=(ks,0):=by
 rw[cA]at h;generalize fT s ps args=r at h;obtain⟨kss,e⟩:=r;dsimp only at h;split at h
 .rename_i e0;subst e0;split at h
  .rename_i h1;exact⟨kss,rfl,h1,h⟩
  .simp[jS]at h
 .rename_i e0;simp only[jS,Prod.mk.injEq]at h;exact absurd h.2 e0
theorem kM{qs:List Query}{kss:List (List Int)}(h:fT s ps (q::qs)=(kss,0)):∃k kss',cA s ps q=(k,0)/\fT s ps qs=(kss',0)/\kss=k::kss':=by
 rw[fT]at h;generalize cA s ps q=r at h;obtain⟨k,e⟩:=r;generalize fT s ps qs=r at h;obtain⟨ks,e'⟩:=r;dsimp only at h;split at h
 .rename_i e0;split at h
  .rename_i e1;simp only[Prod.mk.injEq,and_true]at h;exact⟨k,ks,by rw[e0],by rw[e1],h.symm⟩
  .rename_i e1;simp only[Prod.mk.injEq]at h;exact absurd h.2 e1
 .rename_i e0;simp only[Prod.mk.injEq]at h;exact absurd h.2 e0
theorem kY{ks:List Int}(h:AO l=(ks,0)):ks=l/\l.length<=12:=by
 unfold AO at h;split at h
 .rename_i h1;simp only[Prod.mk.injEq,and_true]at h;exact⟨h.symm,h1⟩
 .simp at h
theorem Ts{op:Int}(h:arity op=0):op=1:=by
 unfold arity at h;split at h
 .rename_i e;simpa using e
 .split at h
  .omega
  .split at h<;>omega
mutual
theorem Q9{s:pV}{ps:List Int}{c:Nat}(hc:1<=c):∀{q:Query}{ks:List Int},cA s ps q=(ks,0)->1<=nA c q
 |.mk op ta w co on gr od li args,ks,h=>by
  obtain⟨kss,h1,h2,h3⟩:=zH h;have h4:=Tt hc h1;rw[nA];split
  .exact hc
  .rename_i n1;split
   .exact h4.1
   .match args,h1,h4 with
    |[],h1,_=>rw[fT]at h1;simp only[Prod.mk.injEq,and_true]at h1;rw[<-h1]at h2;exact absurd (Ts h2.symm) n1
    |q::qs,h1,h4=>exact h4.2 (by simp)
theorem Tt{s:pV}{ps:List Int}{c:Nat}(hc:1<=c):∀{qs:List Query}{kss:List (List Int)},fT s ps qs=(kss,0)->1<=wP c qs/\(qs≠[]->1<=yV c qs)
 |[],kss,h=>by simp[wP]
 |q::qs,kss,h=>by
  obtain⟨k,kss',h1,h2,h3⟩:=kM h;have h4:=Q9 hc h1;have h5:=Tt hc h2;rw[wP,yV];exact⟨Nat.mul_pos h4 h5.1,λ_=>by omega⟩
end
def Nw(c:Nat):List Query->List (List Int)->List (List (List VV))->Prop
 |[],[],[]=>True
 |q::qs,k::ks,l::ls=>i7 k.length l/\l.length<=nA c q/\Nw c qs ks ls
 |_,_,_=>False
theorem N9{α:Type}:∀{l:List α},l.length=2->∃a b,l=[a,b]
 |[a,b],_=>⟨a,b,rfl⟩
theorem Nw.len{c:Nat}{qs:List Query}{ls:List (List (List VV))}(h:Nw c qs ks ls):qs.length=ks.length/\ls.length=ks.length:=by
 induction qs generalizing ks ls with
 |nil=>
  match ks,ls,h with
  |[],[],_=>exact⟨rfl,rfl⟩
  |_::_,[],h=>exact h.elim
  |[],_::_,h=>exact h.elim
  |_::_,_::_,h=>exact h.elim
 |cons q qs ih=>
  match ks,ls,h with
  |[],[],h=>exact h.elim
  |_::_,[],h=>exact h.elim
  |[],_::_,h=>exact h.elim
  |k::ks,l::ls,h=>
   obtain⟨h1,h2⟩:=ih h.2.2;exact⟨by simp[h1],by simp[h2]⟩
theorem i7.filter{w:Nat}{l:List (List VV)}(x:i7 w l)(p:List VV->Bool):i7 w (l.filter p):=
 ⟨λr h=>x.row r (List.mem_filter.1 h).1,λr h=>x.wid r (List.mem_filter.1 h).1,x.srt.filter p,Nat.le_trans (List.length_filter_le _ _) x.len⟩
theorem PI(x:List VV):∀l:List (List VV),(Hf x l).length<=l.length+1
 |[]=>by simp[Hf]
 |y::l=>by
  have:=PI x l;simp only[Hf];split
  .simp
  .split<;>simp<;>omega
theorem Fp:∀l:List (List VV),(Bk l).length<=l.length
 |[]=>by simp[Bk]
 |x::l=>by
  have h1:=Fp l;have h2:=PI x (Bk l);show(Hf x (Bk l)).length<=(x::l).length;simp only[List.length_cons];omega
theorem i7.set{w:Nat}{l:List (List VV)}(h1:∀r∈l,OR r)(h2:∀r∈l,r.length=w)(h3:l.length<=1000000):i7 w (Bk l):=
 ⟨λr h=>h1 r (Fo.1 h),λr h=>h2 r (Fo.1 h),CF l,Nat.le_trans (Fp l) h3⟩
theorem GG:∀{x y u v:List VV},x.length=y.length->eE (x++u) (y++v)=if eE x y≠0 then eE x y else eE u v
 |[],[],u,v,_=>by simp[eE]
 |a::x,b::y,u,v,h=>by
  simp only[List.length_cons,Nat.add_right_cancel_iff]at h;simp only[List.cons_append,eE];by_cases e:kT a b=0
  .simp only[e,ne_eq,not_true_eq_false,if_false];exact GG h
  .simp[e]
 |[],_::_,_,_,h=>by simp at h
 |_::_,[],_,_,h=>by simp at h
theorem Aq{on:List (Int×Int)}{b:List (List VV)}{x z:List VV}(h:z∈nP on b x):∃y∈b,z=x++y:=by
 unfold nP at h;split at h
 .obtain⟨y,hy,rfl⟩:=List.mem_map.1 h;exact⟨y,(List.mem_filter.1 hy).1,rfl⟩
 .simp at h
theorem i7.join{w w':Nat}{a b:List (List VV)}{on:List (Int×Int)}(ha:i7 w a)(hb:i7 w' b)(hw:w+w'<=12)(hl:a.length*b.length<=1000000):i7 (w+w') (a.flatMap (nP on b)):=by
 refine⟨λr h=>?_,λr h=>?_,?_,Nat.le_trans (wE λx _=>Ar) hl⟩
 .obtain⟨x,hx,h⟩:=List.mem_flatMap.1 h;obtain⟨y,hy,rfl⟩:=Aq h;have h1:=ha.wid x hx;have h2:=hb.wid y hy;refine⟨by rw[List.length_append];omega,λv hv=>?_⟩;rcases List.mem_append.1 hv with hv|hv
  .exact(ha.row x hx).val v hv
  .exact(hb.row y hy).val v hv
 .obtain⟨x,hx,h⟩:=List.mem_flatMap.1 h;obtain⟨y,hy,rfl⟩:=Aq h;rw[List.length_append,ha.wid x hx,hb.wid y hy]
 .refine List.pairwise_flatMap.2 ⟨λx hx=>?_,?_⟩
  .unfold nP;split
   .refine List.pairwise_map.2 ((hb.srt.filter _).imp fun{y z} h=>?_);rw[GG rfl,if_neg (by rw[jQ.2 rfl];simp)];exact h
   .exact List.Pairwise.nil
  .refine ha.srt.imp_of_mem fun{x y} hx hy h z hz u hu=>?_;obtain⟨z',_,rfl⟩:=Aq hz;obtain⟨u',_,rfl⟩:=Aq hu;rw[GG (by rw[ha.wid x hx,ha.wid y hy]),if_pos aC];exact h
theorem Kx{c:Int}(h:ES a c=true):0<=c/\c<a.length:=by
 simp only[ES,Bool.and_eq_true,decide_eq_true_eq]at h;exact h
theorem C1{α:Type}{T:List α->α->Prop}{l:List α}(h:Good T l){x:α}(hx:x∈l):∃pre,T pre x:=by
 obtain⟨i,hi,e⟩:=List.mem_iff_getElem.1 hx;exact⟨_,h i x (by rw[<-e];exact List.getElem?_eq_getElem hi)⟩
theorem FD:∀(n:Nat)(l:List Int),l.Nodup->(∀x∈l,0<=x/\x<n)->l.length<=n
 |0,[],_,_=>by simp
 |0,x::l,_,h=>by have:=h x (List.mem_cons_self ..);omega
 |n+1,l,hd,h=>by
  by_cases hn:(n:Int)∈l
  .have h1:=FD n (l.erase n) (hd.erase _) (λx hx=>by
    have h2:=(hd.mem_erase_iff).1 hx;have:=h x h2.2;omega)
   rw[List.length_erase_of_mem hn]at h1;omega
  .have:=FD n l hd (λx hx=>by
    have:=h x hx;have h3:x≠(n:Int):=λe=>hn (e▸hx);omega)
   omega
theorem Kz{α:Type}{T:List α->α->Prop}{l:List α}(f:α->Int)(hT:∀pre x,T pre x->f x∉pre.map f)(h:Good T l):(l.map f).Nodup:=by
 rw[List.nodup_iff_pairwise_ne,List.pairwise_map,List.pairwise_iff_getElem];intro i j hi hj hij e;refine hT _ _ (h j l[j] (List.getElem?_eq_getElem hj)) (List.mem_map.2 ⟨l[i],?_,e⟩);rw[List.mem_take_iff_getElem];exact⟨i,aC,rfl⟩
theorem EU(h:Good (HY a) gr)(hl:a.length<=12):iR a.length gr:=by
 have h1:∀c∈gr,0<=c/\c<a.length:=λc hc=>by obtain⟨_,h2⟩:=C1 h hc;exact Kx h2.1
 have h2:=Kz id (λpre x(h:HY a pre x)=>by simpa using h.2) h;rw[List.map_id]at h2;exact⟨h1,by have:=FD _ _ h2 h1;omega⟩
theorem LY{b:List Int}{on:List (Int×Int)}(h:Good (Bc a b) on)(ha:a.length<=12)(hb:b.length<=12):iR a.length (kQ on)/\iR b.length (gK on):=by
 have h1:∀c∈kQ on,0<=c/\c<a.length:=λc hc=>by
  obtain⟨p,hp,rfl⟩:=List.mem_map.1 hc;obtain⟨_,h2⟩:=C1 h hp;exact Kx h2.1
 have h2:∀c∈gK on,0<=c/\c<b.length:=λc hc=>by
  obtain⟨p,hp,rfl⟩:=List.mem_map.1 hc;obtain⟨_,h2⟩:=C1 h hp;exact Kx h2.2.1
 have h3:(kQ on).Nodup:=Kz Prod.fst (λpre x(h:Bc a b pre x) hm=>by
  obtain⟨y,hy,e⟩:=List.mem_map.1 hm;exact(h.2.2.2 y hy).1 e) h
 have h4:=FD _ _ h3 h1;exact⟨⟨h1,aC⟩,⟨h2,by simp only[kQ,gK,List.length_map]at h4⊢;omega⟩⟩
theorem Pr{w:Nat}{r:List VV}(hr:OR r)(hw:r.length=w)(hc:iR w co)(hl:co.length<=12):OR (pick r co)/\(pick r co).length=co.length:=
 ⟨⟨by simpa[pick]using hl,FB hr (by rw[hw];exact hc)⟩,by simp[pick]⟩
theorem Fj{c:Nat}{p:Query}:yV c [q,p]=nA c q+nA c p:=by simp[yV]
theorem NJ{c:Nat}:yV c [q]=nA c q:=by simp[yV]
theorem WC{c:Nat}{p:Query}:wP c [q,p]=nA c q*nA c p:=by simp[wP]
theorem Yp{c:Nat}{op:Int}{on:List (Int×Int)}{args:List Query}{ks:List Int}{kss:List (List Int)}{L:List (List (List VV))}(n1:op≠1)
 (h2:(kss.length:Int)=arity op)(h12:∀k∈kss,k.length<=12)(h3:iT s ps (.mk op ta w co on gr od li args) (kss.getD 0 []) (kss.getD 1 [])=(ks,0))(hA:Nw c args kss L)(hb:nA c (.mk op ta w co on gr od li args)<=1000000):
 adQ op (.mk op ta w co on gr od li args) L/\i7 ks.length (opF op (.mk op ta w co on gr od li args) L)/\(opF op (.mk op ta w co on gr od li args) L).length<=nA c (.mk op ta w co on gr od li args):=by
 rw[nA,if_neg n1]at hb⊢
 unfold iT at h3;dsimp only at h3;split at h3
 .simp[jS]at h3
 have one:arity op=1->∃q k l,args=[q]/\kss=[k]/\L=[l]/\i7 k.length l/\l.length<=nA c q/\k.length<=12:=λe=>by
  obtain⟨l1,l2⟩:=hA.len;obtain⟨k,rfl⟩:=List.length_eq_one_iff.1 (show kss.length=1 by omega);obtain⟨q,rfl⟩:=List.length_eq_one_iff.1 (show args.length=1 by simpa using l1);obtain⟨l,rfl⟩:=List.length_eq_one_iff.1 (show L.length=1 by simpa using l2);exact⟨q,k,l,rfl,rfl,rfl,hA.1,hA.2.1,h12 k (by simp)⟩
 have two:arity op=2->∃q p k k' l l',args=[q,p]/\kss=[k,k']/\L=[l,l']/\i7 k.length l/\l.length<=nA c q/\i7 k'.length l'/\l'.length<=nA c p/\k.length<=12/\k'.length<=12:=λe=>by
  obtain⟨l1,l2⟩:=hA.len;obtain⟨k,k',rfl⟩:=N9 (show kss.length=2 by omega);obtain⟨q,p,rfl⟩:=N9 (show args.length=2 by simpa using l1);obtain⟨l,l',rfl⟩:=N9 (show L.length=2 by simpa using l2);exact⟨q,p,k,k',l,l',rfl,rfl,rfl,hA.1,hA.2.1,hA.2.2.1,hA.2.2.2.1,h12 k (by simp),h12 k' (by simp)⟩
 have ar:op=2\/op=3\/op=9\/op=4\/op=5\/op=6\/op=7\/op=8\/op=10:=by
  have:0<=arity op:=by omega
  unfold arity at this;split at this
  .rename_i e;simp at e;exact absurd e n1
  .split at this
   .rename_i e;simp at e;omega
   .split at this
    .rename_i e;simp at e;omega
    .omega
 rcases ar with rfl|rfl|rfl|rfl|rfl|rfl|rfl|rfl|rfl
 .obtain⟨q,k,l,rfl,rfl,rfl,hr,hl,hk⟩:=one rfl;simp only[show((2:Int)=4)=False by decide,if_false,if_true]at h3 hb⊢
  split at h3
  .obtain⟨rfl,_⟩:=kY h3;refine⟨⟨by simp,λx hx=>by simp at hx;subst hx;exact⟨_,hr⟩⟩,hr.filter _,Nat.le_trans (List.length_filter_le _ _) ?_⟩;rw[NJ];exact hl
  .rename_i e;simp only[jS,Prod.mk.injEq]at h3;exact absurd h3.2 e
 .obtain⟨q,k,l,rfl,rfl,rfl,hr,hl,hk⟩:=one rfl;simp only[show((3:Int)=4)=False by decide,show((3:Int)=2)=False by decide,if_false,if_true]at h3 hb⊢
  split at h3
  .rename_i hg;obtain⟨rfl,h12'⟩:=kY h3;rw[List.length_map]at h12'⊢
   have hc:iR k.length co:=⟨λc hc=>by obtain⟨_,h2⟩:=C1 hg.2 hc;exact Kx h2,aC⟩
   rw[NJ]at hb⊢
   refine⟨⟨by simp,h12',_,hr,hc⟩,i7.set (λr h=>?_) (λr h=>?_) (by show(l.map _).length<=_;rw[List.length_map];exact hr.len),Nat.le_trans (Fp _) (by show(l.map _).length<=_;rw[List.length_map];exact hl)⟩
   .obtain⟨x,hx,rfl⟩:=List.mem_map.1 h;exact(Pr (hr.row x hx) (hr.wid x hx) hc h12').1
   .obtain⟨x,hx,rfl⟩:=List.mem_map.1 h;exact(Pr (hr.row x hx) (hr.wid x hx) hc h12').2
  .simp[jS]at h3
 .obtain⟨q,k,l,rfl,rfl,rfl,hr,hl,hk⟩:=one rfl;simp only[show((9:Int)=4)=False by decide,show((9:Int)=2)=False by decide,show((9:Int)=3)=False by decide,show((9:Int)=5)=False by decide,if_false,if_true]at h3 hb⊢
  split at h3
  .rename_i hg;obtain⟨rfl,h12'⟩:=kY h3;rw[NJ]at hb⊢
   exact⟨⟨by simp,⟨_,hr,EU hg.group_ hk⟩,hg.low⟩,hr.filter _,Nat.le_trans (List.length_filter_le _ _) hl⟩
  .simp[jS]at h3
 .obtain⟨q,p,k,k',l,l',rfl,rfl,rfl,hr,hl,hr',hl',hk,hk'⟩:=two rfl;simp only[show((4:Int)=2)=False by decide,show((4:Int)=3)=False by decide,if_false,if_true]at h3 hb⊢
  split at h3
  .rename_i hg;obtain⟨rfl,h12'⟩:=kY h3;rw[WC]at hb⊢
   have hc:=LY hg hk hk';have hm:l.length*l'.length<=nA c q*nA c p:=Nat.mul_le_mul hl hl';rw[List.length_append]at h12'⊢
   exact⟨⟨⟨by simp,_,_,hr,hr',hc.1,hc.2⟩,Nat.le_trans hm hb⟩,hr.join hr' h12' (Nat.le_trans hm hb),Nat.le_trans (wE λx _=>Ar) hm⟩
  .simp[jS]at h3
 .obtain⟨q,p,k,k',l,l',rfl,rfl,rfl,hr,hl,hr',hl',hk,hk'⟩:=two rfl;simp only[show((5:Int)=2)=False by decide,show((5:Int)=3)=False by decide,show((5:Int)=4)=False by decide,if_false,if_true]at h3 hb⊢
  split at h3
  .rename_i hg;obtain⟨rfl,h12'⟩:=kY h3;rw[Fj]at hb⊢
   have hc:=LY hg hk hk';exact⟨⟨by simp,_,_,hr,hr',hc.1,hc.2⟩,hr.filter _,Nat.le_trans (List.length_filter_le _ _) (by show l.length<=_;omega)⟩
  .simp[jS]at h3
 all_goals
  obtain⟨q,p,k,k',l,l',rfl,rfl,rfl,hr,hl,hr',hl',hk,hk'⟩:=two rfl
 .simp only[show((6:Int)=2)=False by decide,show((6:Int)=3)=False by decide,show((6:Int)=4)=False by decide,show((6:Int)=5)=False by decide,show((6:Int)=9)=False by decide,show((6:Int)=10)=False by decide,if_false,if_true]at h3 hb⊢
  split at h3
  .rename_i hg;have hg:k=k':=hg;subst hg;obtain⟨rfl,h12'⟩:=kY h3;rw[Fj]at hb⊢
   have hll:(l++l').length<=nA c q+nA c p:=by rw[List.length_append];omega
   refine⟨⟨by simp,λx hx=>by simp at hx;rcases hx with rfl|rfl;exact⟨_,hr⟩;exact⟨_,hr'⟩⟩,i7.set (λr h=>?_) (λr h=>?_) (Nat.le_trans hll hb),Nat.le_trans (Fp _) hll⟩
   .rcases List.mem_append.1 h with h|h
    .exact hr.row r h
    .exact hr'.row r h
   .rcases List.mem_append.1 h with h|h
    .exact hr.wid r h
    .exact hr'.wid r h
  .simp[jS]at h3
 .simp only[show((7:Int)=2)=False by decide,show((7:Int)=3)=False by decide,show((7:Int)=4)=False by decide,show((7:Int)=5)=False by decide,show((7:Int)=9)=False by decide,show((7:Int)=10)=False by decide,if_false,if_true]at h3 hb⊢
  split at h3
  .rename_i hg;have hg:k=k':=hg;subst hg;obtain⟨rfl,h12'⟩:=kY h3;rw[Fj]at hb⊢
   exact⟨⟨by simp,_,λx hx=>by simp at hx;rcases hx with rfl|rfl;exact hr;exact hr'⟩,hr.filter _,Nat.le_trans (List.length_filter_le _ _) (by show l.length<=_;omega)⟩
  .simp[jS]at h3
 .simp only[show((8:Int)=2)=False by decide,show((8:Int)=3)=False by decide,show((8:Int)=4)=False by decide,show((8:Int)=5)=False by decide,show((8:Int)=9)=False by decide,show((8:Int)=10)=False by decide,if_false,if_true]at h3 hb⊢
  split at h3
  .rename_i hg;have hg:k=k':=hg;subst hg;obtain⟨rfl,h12'⟩:=kY h3;rw[Fj]at hb⊢
   exact⟨⟨by simp,_,λx hx=>by simp at hx;rcases hx with rfl|rfl;exact hr;exact hr'⟩,hr.filter _,Nat.le_trans (List.length_filter_le _ _) (by show l.length<=_;omega)⟩
  .simp[jS]at h3
 .simp only[show((10:Int)=2)=False by decide,show((10:Int)=3)=False by decide,show((10:Int)=4)=False by decide,show((10:Int)=5)=False by decide,show((10:Int)=9)=False by decide,if_false,if_true]at h3 hb⊢
  split at h3
  .rename_i hg;obtain⟨hg,hg2⟩:=hg;have hg:k=k':=hg;subst hg;obtain⟨rfl,h12'⟩:=kY h3;rw[Fj]at hb⊢
   exact⟨⟨by simp,_,hr,hr',EU hg2.group_ hk⟩,hr.filter _,Nat.le_trans (List.length_filter_le _ _) (by show l.length<=_;omega)⟩
  .simp[jS]at h3
theorem Q8{s:pV}{ps:List Int}{c:Nat}(hc:1<=c):∀{qs:List Query}{kss:List (List Int)},fT s ps qs=(kss,0)->∀q∈qs,nA c q<=yV c qs/\nA c q<=wP c qs
 |[],_,_,q,hq=>by simp at hq
 |p::qs,kss,h,q,hq=>by
  obtain⟨k,kss',h1,h2,h3⟩:=kM h;have h4:=Q9 hc h1;have h5:=(Tt hc h2).1;rw[yV,wP];rcases List.mem_cons.1 hq with rfl|hq
  .exact⟨aC,Nat.le_mul_of_pos_right _ h5⟩
  .have:=Q8 hc h2 q hq;exact⟨aC,Nat.le_trans this.2 (Nat.le_mul_of_pos_left _ h4)⟩
theorem Kv{s:pV}{ps:List Int}:∀{qs:List Query}{kss:List (List Int)},fT s ps qs=(kss,0)->∀k∈kss,k.length<=12
 |[],kss,h,k,hk=>by rw[fT]at h;simp only[Prod.mk.injEq,and_true]at h;subst h;simp at hk
 |q::qs,kss,h,k,hk=>by
  obtain⟨k',kss',h1,h2,rfl⟩:=kM h;rcases List.mem_cons.1 hk with rfl|hk
  .have:=B8 s ps q;rw[h1]at this;exact this
  .exact Kv h2 k hk
structure aoQ(c:Nat)(ls:List (List (List VV)))(q:Query)(k:Nat)(ks:List Int):Prop where
 ok:TX ls q k
 rel:i7 ks.length (jL ls q k).1
 bnd:(jL ls q k).1.length<=nA c q
 nxt:(jL ls q k).2=k+(jO q).length
mutual
theorem QU{s:pV}{ps:List Int}{c:Nat}{ls:List (List (List VV))}(hc:1<=c):∀{q:Query}{ks:List Int}{k:Nat},cA s ps q=(ks,0)->Dg s c ls k (jO q)->nA c q<=1000000->aoQ c ls q k ks
 |.mk op ta w co on gr od li args,ks,k,h,hl,hb=>by
  obtain⟨kss,h1,h2,h3⟩:=zH h;by_cases e:op=1
  .subst e
   have h0:args=[]:=by
    cases args with
    |nil=>rfl
    |cons q qs=>obtain⟨_,_,_,_,rfl⟩:=kM h1;simp[arity]at h2;omega
   subst h0;have hs:jO (.mk 1 ta w co on gr od li [])=[ta]:=by simp[jO,iO]
   unfold iT at h3;dsimp only at h3;split at h3
   .simp[jS]at h3
   try rw[if_pos rfl]at h3
   split at h3
   .obtain⟨rfl,_⟩:=kY h3;rw[hs]at hl;obtain⟨l,e1,e2,e3⟩:=hl.at_ 0 ta rfl;rw[Nat.add_zero]at e1;have e4:(jL ls (.mk 1 ta w co on gr od li []) k)=(l,k+1):=by rw[jL,if_pos rfl,List.getD_eq_getElem?_getD,e1];rfl
    refine⟨by rw[TX,if_pos rfl];exact(List.getElem?_eq_some_iff.1 e1).1,by rw[e4];exact e2,by rw[e4,nA,if_pos rfl];exact e3,by rw[e4,hs];rfl⟩
   .simp[jS]at h3
  .have hs:jO (.mk op ta w co on gr od li args)=iO args:=by simp[jO,e]
   rw[hs]at hl
   have hb2:∀q∈args,nA c q<=1000000:=λq hq=>by
    have h5:=Q8 hc h1 q hq;rw[nA,if_neg e]at hb;split at hb<;>omega
   obtain⟨o1,o2,o3⟩:=M9 hc h1 hl hb2;obtain⟨n1,n2,n3⟩:=Yp e h2 (Kv h1) h3 o2 hb;have e4:jL ls (.mk op ta w co on gr od li args) k=(opF op (.mk op ta w co on gr od li args) (fJ ls args k).1,(fJ ls args k).2):=by rw[jL,if_neg e]
   exact⟨by rw[TX,if_neg e];exact⟨n1,o1⟩,by rw[e4];exact n2,by rw[e4];exact n3,by rw[e4,hs];exact o3⟩
theorem M9{s:pV}{ps:List Int}{c:Nat}{ls:List (List (List VV))}(hc:1<=c):∀{qs:List Query}{kss:List (List Int)}{k:Nat},fT s ps qs=(kss,0)->Dg s c ls k (iO qs)->(∀q∈qs,nA c q<=1000000)->Px ls qs k/\Nw c qs kss (fJ ls qs k).1/\(fJ ls qs k).2=k+(iO qs).length
 |[],kss,k,h,_,_=>by
  rw[fT]at h;simp only[Prod.mk.injEq,and_true]at h;subst h;simp[Px,fJ,Nw,iO]
 |q::qs,kss,k,h,hl,hb=>by
  obtain⟨k1,kss',h1,h2,rfl⟩:=kM h;rw[iO]at hl;have e1:=QU hc h1 hl.left (hb q (List.mem_cons_self ..));have e2:=M9 hc h2 hl.right (λp hp=>hb p (List.mem_cons_of_mem _ hp));rw[<-e1.nxt]at e2;rw[Px,fJ,iO];refine⟨⟨e1.ok,e2.1⟩,⟨e1.rel,e1.bnd,e2.2.1⟩,?_⟩;rw[e2.2.2,e1.nxt,List.length_append];omega
end
structure wX(m:MH)(tb:Nat)(ws:List cC):Prop where
 ex:∃cur:Array Value,m tb=some (.cells cur 86 (0,0))/\cur.toList.take (ws.length*5)=(ws.map cC.enc).flatten
def UI:Vc.Spec:=λcvs m h K=>∃ver tb n cap ws w cols,∃t:Nat,cvs=[aS ⟨ver,⟨some ⟨tb,0,none⟩,n,cap⟩⟩,cI t]/\t<n/\wX m tb ws/\ws[t]? =some w/\Cy h w.columns cols/\cols.length<=8/\
 ∀sl h',PH.le h h'->Ints h' sl (cols.map mZ.kind)->K (cS sl) m h'
noncomputable def Y6(cb:Nat):Ctx:=
 wH [(15,E9),(16,Ls),(76,UP),(44,UI),(30,Cj)] [] [(5,{A:=Int×Int×MH×PH,st:=λ⟨n,id,m,h⟩=>cE 86 87 [(0,pv cb),(2,.at (.ptr 2 0)),(3,iv n),(4,iv id)] [(2,.cells 43 [.val (.int .i64 0),.val (.slice none 0 0)])] m h}),
  (9,{A:=Int×bH×MH×PH,st:=λ⟨n,s,m,h⟩=>cE 86 87 [(0,pv cb),(2,.at (.ptr 2 0)),(3,iv n),(5,.at (.ptr 5 0))] [(2,.cells 43 [.val (.int .i64 0),.val (.slice none 0 0)]),(5,.cells 43 (s.enc.map .val))] m h}),
  (11,{A:=Int×bH×MH×PH,st:=λ⟨n,s,m,h⟩=>cE 86 87 [(0,pv cb),(2,.at (.ptr 2 0)),(3,iv n),(5,.at (.ptr 5 0))] [(2,.cells 43 [.val (.int .i64 0),.val (.slice none 0 0)]),(5,.cells 43 (s.enc.map .val))] m h}),
  (13,{A:=bH×MH×PH,st:=λ⟨s,m,h⟩=>cE 86 87 [(0,pv cb),(2,.at (.ptr 2 0)),(5,.at (.ptr 5 0))] [(2,.cells 43 [.val (.int .i64 0),.val (.slice none 0 0)]),(5,.cells 43 (s.enc.map .val))] m h}),
  (15,{A:=bH×MH×PH,st:=λ⟨s,m,h⟩=>cE 86 87 [(2,.at (.ptr 2 0)),(5,.at (.ptr 5 0))] [(2,.cells 43 [.val (.int .i64 0),.val (.slice none 0 0)]),(5,.cells 43 (s.enc.map .val))] m h})] [] [41] [] false
def lN(id:Int):List wJ:=
 [⟨⟨⟨[112,114,111,106,101,99,116,115]⟩⟩,[⟨⟨⟨[105,100]⟩⟩,4⟩,⟨⟨⟨[111,119,110,101,114]⟩⟩,4⟩],1,[],[]⟩,
  ⟨⟨⟨[116,97,115,107,115]⟩⟩,[⟨⟨⟨[105,100]⟩⟩,id⟩,⟨⟨⟨[112,114,111,106,101,99,116]⟩⟩,4⟩,⟨⟨⟨[116,105,116,108,101]⟩⟩,5⟩,⟨⟨⟨[100,111,110,101]⟩⟩,3⟩],1,[],[]⟩,
  ⟨⟨⟨[109,101,109,98,101,114,115]⟩⟩,[⟨⟨⟨[112,114,111,106,101,99,116]⟩⟩,4⟩,⟨⟨⟨[112,101,114,115,111,110]⟩⟩,4⟩],2,[],[]⟩,
  ⟨⟨⟨[97,114,99,104,105,118,101,100]⟩⟩,[⟨⟨⟨[116,97,115,107]⟩⟩,id⟩],1,[],[]⟩]
structure JH(h:PH)(t:wJ)(w:cC):Prop where
 name_:w.name=t.name
 key_:w.key=t.key
 cols_:Cy h w.columns t.columns
def Tv(h:PH)(id:Int)(ws:List cC):Prop:=ws.length=4/\∀(i:Nat) t,(lN id)[i]? =some t->∃w,ws[i]? =some w/\JH h t w
structure Az(m0:MH)(h0:PH)(cb:Nat)(tb n:Nat)(id:Int)(ws:List cC)(s:bH)(m:MH)(h:PH):Prop where
 le_:PH.le h0 h
 ver0:0<=s.version
 ver1:s.version<=2
 case_:aJ m h cb
 n2:2<=n
 n4:n<=4
 sl_:∃cap,s.tables=⟨some ⟨tb,0,none⟩,n,cap⟩/\n<=cap
 id_:id=4\/id=5
 new_:m0 tb=none
 ne_:tb≠cb
 row_:wX m tb ws
 ws_:Tv h id ws
 other_:∀b,b≠cb->b≠tb->m b=m0 b
def Uz:Vc.Spec:=λcvs m h K=>∃cb,cvs=[cP cb]/\aJ m h cb/\∀tb n id ws s m' h',Az m h cb tb n id ws s m' h'->K (aS s) m' h'
noncomputable def Zu:Ctx:=
 wH [(39,Uz)] [(3,{A:=Nat×bH×MH×PH,st:=λ⟨i,s,m,h⟩=>cE 25 26 [(2,.at (.ptr 2 0)),(3,.at (.ptr 3 0)),(9,iv s.tables.len),(10,iv i)] [(2,.cells 43 [.val (.int .i64 0),.val (.slice none 0 0)]),(3,.cells 43 (s.enc.map .val))] m h})] [] [] [41] [] false
def Ho(v:bH)(t:Int)(m:MH)(h:PH)(K:CV->MH->PH->Prop):Prop:=
  bD t 0 (K Dc m h) (gQ t (iG v) (K Dc m h) (Jb v t m h (λb=>b) (λo=>o) 5 (λy=>y) (λy I x=>aA (I x) (eL 32) (aA (aZ y (lJ x)) (cH y (lJ x)) (aA (bG x.1) (qY (rI x)) (aA (m=m) (h=h) True)))) (λI m1 x=>Ja (I x) x 0 (λb o y=>aM m h b (bB o x.1 2) (pG y.name y.kind)) (λy x1=>aA (I x1) (m1 x1<m1 x) (aA (eL 32) (aZ (lJ x) (lJ x1)) (aA (cH (lJ x) (lJ x1)) (gS (aW x.1 1)=bX x1.1) (aA (qZ (rI x) y.kind (rI x1)) (m=m) (dC h h))))) (aX h 1 (gZ (rI x)) (λs h1=>K (kU s) m h1)))))
theorem Y1(v:bH)(t:Int)(m:MH)(h:PH)(K:CV->MH->PH->Prop):Ho v t m h K=(zJ (Oj m h) Tryz.f44 (cQ Tryz.f44) (entry Tryz.f44.ntmps [aS v,cI t] m h) K):=by kernel_rfl
abbrev rA:Prop:=eQ (oQ 43 (tX 0 OA))
abbrev xU(a:ByteArray)(b:Int)(c:ByteArray)(d:Int)(e:ByteArray->Int->Prop):Prop:=bU (jW a) b=bU (jW c) d/\∃(x:ByteArray)(x1:Int),e x x1
noncomputable abbrev Jh:ByteArray:=ByteArray.mk (Array.mk (eK 105 (eK 100 [])))
noncomputable abbrev Ji(a:Nat):ByteArray:=ByteArray.mk (Array.mk (eK 112 (eK 114 (eK 111 (eK 106 (eK 101 (eK a (rK 116))))))))
noncomputable abbrev DQ(a b c d:Nat)(e:List UInt8)(g:Sl)(i:Int):List Value:=aY (Value.string (ByteArray.mk (Array.mk (eK a (eK b (eK c (eK d e))))))) (eR g) (aY (eW i) tT iQ)
noncomputable abbrev pE(a:Int×bH×MH×PH):MH×PH:=a.2.2
abbrev FP(a:Int×bH×MH×PH->Prop)(b:Nat)(c:Int)(d:(Int×bH×MH×PH)->Prop)(e:MH)(g:Nat->Nat->Option Value):Prop:=∃(x:Int×bH×MH×PH),aA (a x) (cV b) (aA fN (cZ c x.1) (aA dU rA (aA (d x) (cO e (pE x)) (kI g (pE x)))))
noncomputable abbrev sL(a:Int×bH×MH×PH):bH:=a.2.1
abbrev lB(a b:bH):Prop:=oQ 43 (Ii a)=oQ 43 (Ii b)
attribute [push_cast] rA xU Jh Ji DQ pE FP sL lB
def Qq(cb:Nat)(m:MH)(h:PH)(K:CV->MH->PH->Prop):Prop:=
  bZ cb 3 m h 0 (λc k m1=>bC (aL m m1 c) (aJ m1 h c) (∃(I:Int×Int×MH×PH->Prop),fZ cb 5 m1 h (λr m2=>branch r (∃(x:Int×Int×MH×PH),aA (I x) (cV cb) (aA fN (cZ (eB (2+k)) x.1) (aA (cZ 5 x.2.1) rA (aA (cO m2 x.2.2) (dO h x.2.2) True)))) (∃(x:Int×Int×MH×PH),aA (I x) (cV cb) (aA fN (cZ (eB (2+k)) x.1) (aA (cZ 4 x.2.1) rA (aA (cO m2 x.2.2) (dO h x.2.2) True)))))/\∀(x:Int×Int×MH×PH),I x->bZ cb 3 x.2.2.1 x.2.2.2 0 (λc1 k1 m2=>bC (aL x.2.2.1 m2 c1) (aJ m2 x.2.2.2 c1) (∃(n:ByteArray)(k2:Int),xU Jh 4 n k2 (λn1 k3=>xU (ByteArray.mk (Array.mk (eK 111 (eK 119 (eK 110 (eK 101 (rK 114))))))) 4 n1 k3 (λn2 k4=>xU Jh x.2.1 n2 k4 (λn3 k5=>xU (Ji 99) 4 n3 k5 (λn4
 k6=>xU (ByteArray.mk (Array.mk (eK 116 (eK 105 (eK 116 (eK 108 (rK 101))))))) 5 n4 k6 (λn5 k7=>xU (ByteArray.mk (Array.mk (eK 100 (eK 111 (eK 110 (eK 101 [])))))) 3 n5 k7 (λn6 k8=>xU (Ji 99) 4 n6 k8 (λn7 k9=>xU (ByteArray.mk (Array.mk (eK 112 (eK 101 (eK 114 (eK 115 (eK 111 (eK 110 [])))))))) 4 n7 k9 (λn8 a=>bU (jW (ByteArray.mk (Array.mk (eK 116 (eK 97 (eK 115 (eK 107 []))))))) x.2.1=bU (jW n8) a/\aX x.2.2.2 2 (pG n k2::bL (pG n1 k3)) (λs h1=>aX h1 2 (pG n2 k4::pG n3 k5::pG n4 k6::bL (pG n5 k7)) (λs1 h2=>aX h2 2 (pG n6 k8::bL (pG n7 k9)) (λs2 h3=>aX h3 2 (bL (pG n8 a)) (λs3 h4=>iH (λs4 m3=>nY m2 m3 h4 s4 86 5 (DQ 112 114 111 106 (eK 101
 (eK 99 (eK 116 (eK 115 [])))) s 1::DQ 116 97 115 107 (rK 115) s1 1::DQ 109 101 109 98 (eK 101 (eK 114 (rK 115))) s2 2::bL (DQ 97 114 99 104 (eK 105 (eK 118 (eK 101 (eK 100 [])))) s3 1))->aA (cN x.1) (x.1<=(↑s4.cap:Int)) (∃(I1:Int×bH×MH×PH->Prop),fZ cb 2 m3 h4 (λr m4=>branch r (aX h4 1 (bL (cK 1)) (λs5 h5=>aT (λb o=>aH (aU s4.a b o) ((0:Int)<=1) (1<(↑x.1.toNat:Int)) (aX h5 2 (bL (kX (eR s5) dA)) (λs6 h6=>eX (λc2 E=>aA (oX m4 b (dV c2 E 0)) (o+5+3<c2.size) (∀(m5:MH),bE m4 m5 b (splice c2.toList (o+5+3) (aR s6)) E->FP I1 cb x.1 (λx1=>oQ 43 (tX k1 (At.val (Value.slice s4.a x.1.toNat s4.cap)))=oQ 43 (Ii (sL x1))) m5 h6))))))) (FP I1 cb x.1 (λx1=>oQ 43 (tX k1 (At.val
 (Value.slice s4.a x.1.toNat s4.cap)))=oQ 43 (Ii (sL x1))) m4 h4))/\∀(x1:Int×bH×MH×PH),I1 x1->∃(I2:Int×bH×MH×PH->Prop),fC x1.1 2 (fZ cb 3 (pE x1).1 (pE x1).2 (λr m4=>branch r (aX (pE x1).2 1 (bL (j6 dA)) (λs5 h5=>Du (sL x1) 2 (λb o=>aX h5 2 (bL (kX (eR s5) dA)) (λs6 h6=>eX (λc2 E=>aA (oX m4 b (dV c2 E 0)) (o+10+3<c2.size) (∀(m5:MH),bE m4 m5 b (splice c2.toList (o+10+3) (aR s6)) E->FP I2 cb x1.1 (λx2=>lB (sL x1) (sL x2)) m5 h6)))))) (FP I2 cb x1.1 (λx2=>lB (sL x1) (sL x2)) m4 (pE x1).2))) (∃(x2:Int×bH×MH×PH),aA (I2 x2) (cV cb) (aA fN (cZ x1.1 x2.1) (aA dU rA (aA (lB (sL x1) (sL x2)) (cO (pE x1).1 (pE x2)) (kI (pE x1).2
 (pE x2))))))/\∀(x2:Int×bH×MH×PH),I2 x2->∃(I3:bH×MH×PH->Prop),fC x2.1 3 (fZ cb 3 (pE x2).1 (pE x2).2 (λr m4=>branch r (aX (pE x2).2 1 (bL (j6 dA)) (λs5 h5=>Du (sL x2) 3 (λb o=>aX h5 2 (bL (kX (eR s5) (eW 1))) (λs6 h6=>eX (λc2 E=>aA (oX m4 b (dV c2 E 0)) (o+15+3<c2.size) (∀(m5:MH),bE m4 m5 b (splice c2.toList (o+15+3) (aR s6)) E->∃(x3:bH×MH×PH),aA (I3 x3) (cV cb) (aA fN dU (aA rA (lB (sL x2) x3.1) (aA (cO m5 x3.2) (dO h6 x3.2) True))))))))) (∃(x3:bH×MH×PH),aA (I3 x3) (cV cb) (aA fN dU (aA rA (lB (sL x2) x3.1) (aA (cO m4 x3.2) (dO (pE x2).2 x3.2) True)))))) (∃(x3:bH×MH×PH),aA (I3 x3) (cV cb) (aA fN dU (aA rA (lB
 (sL x2) x3.1) (aA (cO (pE x2).1 x3.2) (dO (pE x2).2 x3.2) True))))/\∀(x3:bH×MH×PH),I3 x3->∃(I4:bH×MH×PH->Prop),fZ cb 3 x3.2.1 x3.2.2 (λr m4=>branch r (∃(v:Int),aT (λt n9=>∃(c2:Nat)(w:List cC)(w1:cC)(c3:List mZ)(t1:Nat),aA (bU (jM (bR x3.1)) 1=bU (jM (kX (eW v) (Value.slice (kZ t) n9 c2))) (↑t1:Int)) (t1<n9) (aA (wX m4 t w) (w[t1]? =Option.some w1) (aA (Cy x3.2.2 w1.columns c3) (c3.length<=8) (kP (λs5 h5=>dZ x3.2.2 h5 (Ints h5 s5 (List.map mZ.kind c3)) (∃(c4:Nat),yF (λs6 t2 c5 p d=>aA (rX cb 0::dP s5 (bU Dc 1)=vA c4 s6 t2 d) (aJ m4 h5 c4) (aA (Ints h5 s6 c5) (Ints h5 t2 p) (aH (gL c5) (gL p) (mX d) (BD (λv1 p1=>eA (λm5 h6=>dZ h5 h6 (fF h6 p1 v1) (bC (wZ c5 p d p1)
 (aL m4 m5 c4) (jG m5 h6 c4 (Du x3.1 1 (λb o=>aX h6 13 (bL v1.enc) (λs7 h7=>eX (λc6 E=>aA (oX m5 b (dV c6 E 0)) (o+5+4<c6.size) (∀(m6:MH),bE m5 m6 b (splice c6.toList (o+5+4) (aR s7)) E->∃(x4:bH×MH×PH),aA (I4 x4) fN (aA dU rA (aH (lB x3.1 x4.1) (cO m6 x4.2) (dO h7 x4.2) True)))))))))))))))))))))) (∃(x4:bH×MH×PH),aA (I4 x4) fN (aA dU rA (aH (lB x3.1 x4.1) (cO m4 x4.2) (dO x3.2.2 x4.2) True))))/\∀(x4:bH×MH×PH),I4 x4->K (jM (bR x4.1)) x4.2.1 x4.2.2))))))))))))))))))
noncomputable abbrev BY(a:Nat×bH×MH×PH):Sl:=a.2.1.tables
attribute [push_cast] BY
def KV(cb:Nat)(m:MH)(h:PH)(K:CV->MH->PH->Prop):Prop:=
  ∃(c:Nat),aA (fH (rX cb 0) (rX c 0)) (aJ m h c) (∀(t n:Nat)(i:Int)(w:List cC)(s:bH),eA (λm1 h1=>Az m h c t n i w s m1 h1->∃(I:Nat×bH×MH×PH->Prop)(m2:Nat×bH×MH×PH->Nat),(∃(x:Nat×bH×MH×PH),aA (I x) fN (aA iE (cH s.tables (BY x)) (aA (bG x.1) rA (aA (lB s x.2.1) (cO m1 x.2.2) (kI h1 x.2.2)))))/\∀(x:Nat×bH×MH×PH),I x->bD (↑x.1:Int) (aG (BY x)) (aT (λb o=>aH (aU (qJ x.2.1) b o) (0<=(↑x.1:Int)) ((↑x.1:Int)<aG (BY x)) (eX (λc1 E=>aA (oX x.2.2.1 b (dV c1 E 0)) (bB o x.1 5+3<c1.size) (∀(m3:MH),bE x.2.2.1 m3 b (splice c1.toList (bB o x.1 5+3) iQ) E->aT (λb1 o1=>aH (aU (qJ x.2.1) b1 o1) (0<=(↑x.1:Int)) ((↑x.1:Int)<aG (BY x)) (eX
 (λc2 E1=>aA (oX m3 b1 (dV c2 E1 0)) (bB o1 x.1 5+4<c2.size) (∀(m4:MH),bE m3 m4 b1 (splice c2.toList (bB o1 x.1 5+4) iQ) E1->∃(x1:Nat×bH×MH×PH),aA (I x1) (m2 x1<m2 x) (aA fN iE (aA (cH (BY x) (BY x1)) (gS (aW x.1 1)=bX x1.1) (aA rA (lB x.2.1 x1.2.1) (aA (cO m4 x1.2.2) (dO x.2.2.2 x1.2.2) True))))))))))))) (K (jM (bR x.2.1)) x.2.2.1 x.2.2.2)))
theorem Rs{α:Type}(l:List α)(o:Nat)(x:α)(h:o<l.length):splice l o [x]=l.set o x:=by
 rw[List.set_eq_take_append_cons_drop,if_pos h];simp[splice]
theorem flatten_set:∀(ws:List cC){i k:Nat}{w w':cC}{x:Value},ws[i]? =some w->k<5->w'.enc=w.enc.set k x->((ws.map cC.enc).flatten).set (i*5+k) x=((ws.set i w').map cC.enc).flatten
 |[],i,k,w,w',x,h,_,_=>by simp at h
 |u::ws,0,k,w,w',x,h,hk,e=>by
  simp at h;subst h;simp only[List.map_cons,List.flatten_cons,List.set_cons_zero,Nat.zero_mul,Nat.zero_add,e];rw[List.set_append_left _ _ (by simpa[cC.enc]using hk)]
 |u::ws,i+1,k,w,w',x,h,hk,e=>by
  simp only[List.map_cons,List.flatten_cons,List.set_cons_succ];have hl:u.enc.length=5:=rfl;rw[List.set_append_right _ _ (by rw[hl];omega),hl,show(i+1)*5+k-5=i*5+k by omega,flatten_set ws (by simpa using h) hk e]
theorem WQ(ws:List cC):((ws.map cC.enc).flatten).length=ws.length*5:=by
 induction ws with
 |nil=>rfl
 |cons w ws ih=>simp only[List.map_cons,List.flatten_cons,List.length_append,ih,List.length_cons];show 5+_=_;omega
theorem wX.big{tb:Nat}{ws:List cC}{cs:Array Value}{E:TypeId}{fz:Nat×Nat}(h:wX m tb ws)(hm:m tb=some (.cells cs E fz)):ws.length*5<=cs.size:=by
 obtain⟨cur,h1,h2⟩:=h.ex;rw[h1]at hm;simp only[Option.some.injEq,Obj.cells.injEq]at hm;obtain⟨rfl,_,_⟩:=hm;have:=congrArg List.length h2;rw[WQ]at this;simp at this;omega
theorem wX.store{tb:Nat}{ws:List cC}{w w':cC}{x:Value}(h:wX m tb ws)(hi:ws[i]? =some w)(hk:k<5)(e:w'.enc=w.enc.set k x){cs:Array Value}{E:TypeId}{fz:Nat×Nat}(hm:m tb=some (.cells cs E fz))
 (hu:m' tb=some (.cells (splice cs.toList (i*5+k) [x]).toArray E (0,0))):wX m' tb (ws.set i w'):=by
 have hb:=h.big hm;have hil:=(List.getElem?_eq_some_iff.1 hi).1;obtain⟨cur,h1,h2⟩:=h.ex;rw[h1]at hm;simp only[Option.some.injEq,Obj.cells.injEq]at hm;obtain⟨rfl,rfl,_⟩:=hm;refine⟨_,hu,?_⟩;rw[Rs _ _ _ (by simp;omega),List.length_set,List.toList_toArray,List.take_set,h2];exact flatten_set ws hi hk e
theorem wX.rd{tb:Nat}{ws:List cC}(r:wX m tb ws){j:Nat}{w:cC}{x:Value}(hi:ws[i]? =some w)(hj:w.enc[j]? =some x):aM m h tb (i*5+j) [x]:=by
 obtain⟨cur,h1,h2⟩:=r.ex;refine .of_m h1 ?_;have h3:=lW (xs:=ws.map cC.enc) (sz:=5) (λe he=>by obtain⟨x,_,rfl⟩:=List.mem_map.1 he;rfl) (by rw[List.getElem?_map,hi];rfl) j x hj;rw[<-h2,List.getElem?_take]at h3;split at h3
 .rw[drop_cons h3];rfl
 .cases h3
theorem Y2{ver:Int}{tb n cap:Nat}{ws:List cC}{w:cC}{cols:List mZ}{t:Nat}(ht:t<n)(hr:wX m tb ws)(hw:ws[t]? =some w)(hc:Cy h w.columns cols)(h8:cols.length<=8)
 (hK:∀sl h',PH.le h h'->Ints h' sl (cols.map mZ.kind)->K (cS sl) m h'):Ho ⟨ver,⟨some ⟨tb,0,none⟩,n,cap⟩⟩ t m h K:=by
 dsimp only[Ho,push_cast];have hcl:=bV.slen hc;refine aE (λh1=>by omega) (λh1=>aE (λh2=>by have h2:(t:Int)>=(n:Int):=h2;omega) (λh2=>?_));refine⟨tb,0,rfl,aC,by show(t:Int)<(n:Int);omega,w.columns,?_,λ⟨i,sl,l⟩=>sl=w.columns/\i<=cols.length/\l=(cols.take i).map mZ.kind,λ⟨i,_,_⟩=>cols.length-i,⟨(0,w.columns,[]),⟨rfl,by simp,by simp⟩,MT⟩,?_⟩
 .rw[Nat.zero_add,Int.toNat_natCast];exact hr.rd hw rfl
 rintro⟨i,_,_⟩ ⟨rfl,hi,rfl⟩;dsimp only;refine aE (λhlt=>?_) (λhge sl h' hle hrow=>?_)
 .obtain⟨c,hx⟩:=fI hcl hlt;obtain⟨b,o,e,r⟩:=Cy.at hc hx;refine⟨b,o,e,aC,hlt,c,.imm r,?_,?_,(i+1,w.columns,(cols.take (i+1)).map mZ.kind),⟨rfl,aC,rfl⟩,by show cols.length-(i+1)<cols.length-i;omega,?_⟩
  .simp;omega
  .simp;omega
  .rw[gO hx,List.map_append];exact MT
 .rw[List.take_of_length_le aC]at hrow;exact hK sl h' hle ⟨hrow,by simp;omega⟩
theorem RR:Sound Tryz.prog 44 UI:=by
 refine fA (fn:=Tryz.f44) (c:=cQ Tryz.f44) Tryz.func44 rfl (by decide) ?_;rintro cvs m h K ⟨ver,tb,n,cap,ws,w,cols,t,rfl,h1,h2,h3,h4,h5,h6⟩;refine⟨Oj m h,rfl,aF,?_⟩;rw[<-Y1];exact Y2 h1 h2 h3 h4 h5 h6
theorem JH.mono{t:wJ}{w:cC}(x:JH h t w)(le:PH.le h h'):JH h' t w:=⟨x.name_,x.key_,bV.mono x.cols_ le λ_ _ e=>e⟩
theorem Tv.mono{id:Int}{ws:List cC}(x:Tv h id ws)(le:PH.le h h'):Tv h' id ws:=⟨x.1,λi t e=>let⟨w,e1,e2⟩:=x.2 i t e;⟨w,e1,e2.mono le⟩⟩
theorem Tv.set{id:Int}{ws:List cC}{w w':cC}(x:Tv h id ws)(hi:ws[i]? =some w)(e1:w'.name=w.name)(e2:w'.key=w.key)(e3:w'.columns=w.columns):Tv h id (ws.set i w'):=by
 refine⟨by rw[List.length_set];exact x.1,λj t e=>?_⟩;obtain⟨u,h1,h2⟩:=x.2 j t e;by_cases hj:i=j
 .subst hj;rw[hi]at h1;cases h1;exact⟨w',by rw[List.getElem?_set_self (List.getElem?_eq_some_iff.1 hi).1],⟨by rw[e1];exact h2.name_,by rw[e2];exact h2.key_,by rw[e3];exact h2.cols_⟩⟩
 .exact⟨u,by rw[List.getElem?_set_ne hj];exact h1,h2⟩
theorem Az.on{m0 m1:MH}{h0 h1:PH}{tb n:Nat}{id:Int}{ws:List cC}{s:bH}(x:Az m0 h0 cb tb n id ws s m h)(le:PH.le h h1)(ho:aL m m1 cb)(hc:aJ m1 h1 cb):Az m0 h0 cb tb n id ws s m1 h1:=by
 refine⟨x.le_.trans le,x.ver0,x.ver1,hc,x.n2,x.n4,x.sl_,x.id_,x.new_,x.ne_,?_,x.ws_.mono le,λb n1 n2=>by rw[ho.other b n1];exact x.other_ b n1 n2⟩;obtain⟨cur,e1,e2⟩:=x.row_.ex;exact⟨cur,by rw[ho.other tb x.ne_];exact e1,e2⟩
theorem Az.store{m0:MH}{h0:PH}{tb n:Nat}{id:Int}{ws:List cC}{s:bH}(x:Az m0 h0 cb tb n id ws s m h){o:Nat}{w w':cC}{y:Value}(hi:ws[i]? =some w)(hk:k<5)(ho:o=i*5+k)(e:w'.enc=w.enc.set k y)(e1:w'.name=w.name)(e2:w'.key=w.key)(e3:w'.columns=w.columns){Q:MH->Prop}
 (hQ:∀m2,Az m0 h0 cb tb n id (ws.set i w') s m2 h->Q m2):∃(cs:Array Value)(E:TypeId),oX m tb (.cells cs E (0,0))/\o<cs.size/\∀m2:MH,fV m m2 tb (.cells (splice cs.toList o [y]).toArray E (0,0))->Q m2:=by
 obtain⟨cur,h1,h2⟩:=x.row_.ex;have hil:=(List.getElem?_eq_some_iff.1 hi).1;refine⟨cur,86,⟨h1⟩,by have:=x.row_.big h1;omega,λm2 hu=>hQ m2 ?_⟩;subst ho;refine⟨x.le_,x.ver0,x.ver1,?_,x.n2,x.n4,x.sl_,x.id_,x.new_,x.ne_,x.row_.store hi hk e h1 hu.at_,x.ws_.set hi e1 e2 e3,λb n1 n2=>by rw[hu.other b n2];exact x.other_ b n1 n2⟩;obtain⟨r,q,cs,k,q1,q2⟩:=x.case_;exact⟨r,q,cs,k,by rw[hu.other cb x.ne_.symm];exact q1,q2⟩
theorem GA{h:PH}{s:Sl}{l:List mZ}(r:cW h s 2 (l.map mZ.enc))(hl:l.length<=8):Cy h s l:=⟨⟨l,r,rfl,λi x e=>⟨x,e,rfl⟩⟩,aC⟩
theorem nY.tabs{m m':MH}{h:PH}{s:Sl}{w:cC}{ws:List cC}(x:nY m m' h s 86 5 ((w::ws).map cC.enc)):∃tb cap,s=⟨some ⟨tb,0,none⟩,ws.length+1,cap⟩/\ws.length+1<=cap/\wX m' tb (w::ws)/\cM m h tb/\∀b,b≠tb->m' b=m b:=by
 rcases x.row.ex with⟨_,e⟩|⟨b,cap,cur,e,hm,h1,_,h3,h4⟩
 .cases e
 .subst e;refine⟨b,cap,by simp,by simpa using h1,⟨cur,hm,by simpa using h4⟩,x.fresh b 0 rfl,λc hc=>x.other c (λi e=>by simp only[Option.some.injEq,Addr.mk.injEq]at e;exact hc e.1.symm)⟩
theorem VD:Sound Tryz.prog 39 Uz:=by
 refine iJ Tryz.func39 ?_;rintro cvs m h K ⟨cb,rfl,hc,hK⟩;refine⟨Y6 cb,rfl,aD Gi (aD yP (aD Vv (aD RR (aD Hp aF)))),Qq cb m h K,by kernel_rfl,?_⟩;dsimp only[Qq,push_cast];refine⟨cb,3,rfl,hc,λk m1 k0 k1 o1 c1=>?_⟩;have hk2:IntKind.i64.wrap (2+k)=2+k:=dX aC aC;rw[hk2];refine⟨λ⟨n,id,mx,hx⟩=>2<=n/\n<=4/\(id=4\/id=5)/\hx=h/\aL m mx cb/\aJ mx h cb,⟨cb,5,rfl,aC,aC,c1,λr m2 o2 c2=>aB (λ_=>⟨(2+k,5,m2,h),⟨by show 2<=2+k;omega,by show 2+k<=4;omega,.inr rfl,rfl,o1.trans o2,c2⟩,MT⟩) (λ_=>⟨(2+k,4,m2,h),⟨by show 2<=2+k;omega,by show 2+k<=4;omega,.inl rfl,rfl,o1.trans o2,c2⟩,MT⟩)⟩,?_⟩;clear o1 c1 m1 hk2 k0 k1 k;rintro⟨n,id,m1,hx⟩ ⟨n2,n4,hid,rfl,o1,c1⟩;dsimp only;refine⟨cb,3,rfl,c1,λk m2 k0 k1 o2 c2=>?_⟩;refine⟨_,_,rfl,_,_,rfl,_,_,rfl,_,_,rfl,_,_,rfl,_,_,rfl,_,_,rfl,_,_,rfl,_,_,rfl,λs1 h1 le1 r1 s2 h2 le2 r2 s3 h3 le3 r3 s4 h4 le4 r4 tl m3 hnew=>?_⟩;obtain⟨tb,cap,rfl,hcap,hrow,hun,hoth⟩:=nY.tabs (w:=⟨_,s1,1,cJ,cJ⟩) (ws:=[⟨_,s2,1,cJ,cJ⟩,⟨_,s3,2,cJ,cJ⟩,⟨_,s4,1,cJ,cJ⟩]) hnew;simp only[List.length_cons,List.length_nil]at hcap;have hle:PH.le hx h4:=((le1.trans le2).trans le3).trans le4
 have tbcb:tb≠cb:=λe=>by
  obtain⟨r,q,cs,j,q1,_⟩:=c2;have:=hun.m_;rw[e,q1]at this;cases this
 have hm0:m tb=none:=by rw[<-o1.other tb tbcb, <-o2.other tb tbcb];exact hun.m_
 have c3:aJ m3 h4 cb:=by
  obtain⟨r,q,cs,j,q1,q2,q3⟩:=c2;exact⟨r,q,cs,j,by rw[hoth cb tbcb.symm];exact q1,q2.mono hle,q3⟩
 have S0:Az m hx cb tb n.toNat id _ ⟨k,⟨some ⟨tb,0,none⟩,n.toNat,cap⟩⟩ m3 h4:=⟨hle,k0,by show k<=2;omega,c3,aC,aC,⟨cap,rfl,aC⟩,hid,hm0,tbcb,hrow,⟨rfl,λi t e=>?_⟩,λb n1 n2=>by rw[hoth b n2,o2.other b n1,o1.other b n1]⟩
 rotate_left
 .match i,e with
  |0,e=>cases e;exact⟨_,rfl,⟨rfl,rfl,GA (l:=[⟨_,_⟩,⟨_,_⟩]) (r1.mono ((le2.trans le3).trans le4)) (by decide)⟩⟩
  |1,e=>cases e;exact⟨_,rfl,⟨rfl,rfl,GA (l:=[⟨_,_⟩,⟨_,_⟩,⟨_,_⟩,⟨_,_⟩]) (r2.mono (le3.trans le4)) (by simp)⟩⟩
  |2,e=>cases e;exact⟨_,rfl,⟨rfl,rfl,GA (l:=[⟨_,_⟩,⟨_,_⟩]) (r3.mono le4) (by decide)⟩⟩
  |3,e=>cases e;exact⟨_,rfl,⟨rfl,rfl,GA (l:=[⟨_,_⟩]) r4 (by simp)⟩⟩
  |i+4,e=>simp[lN]at e
 generalize hws:(cC.mk _ s1 1 cJ cJ::_)=ws0 at S0;clear hws hrow hnew r1 r2 r3 r4;have getw:∀{ws:List cC}{i:Nat},ws.length=4->i<4->∃w,ws[i]? =some w:=λhl hi=>⟨_,List.getElem?_eq_getElem aC⟩
 refine⟨aC,by show n<=(cap:Int);omega,λ⟨n',s,mx,hy⟩=>n'=n/\∃ws,Az m hx cb tb n.toNat id ws s mx hy,⟨cb,2,rfl,aC,aC,c3,λr m4 o4 c4=>aB (λ_ s5 h5 le5 r5=>⟨tb,0,rfl,aC,aC,λs6 h6 le6 r6=>?_⟩) (λ_=>⟨(n,⟨k,⟨some ⟨tb,0,none⟩,n.toNat,cap⟩⟩,m4,h4),⟨rfl,_,S0.on (.refl _) o4 c4⟩,MT⟩)⟩,?_⟩
 .obtain⟨w,hw⟩:=getw (i:=1) S0.ws_.1 aC;exact(S0.on (le5.trans le6) o4 (c4.mono (le5.trans le6))).store (k:=3) (w':={w with references:=s6}) hw aC rfl rfl rfl rfl rfl λm5 x5=>⟨(n,⟨k,⟨some ⟨tb,0,none⟩,n.toNat,cap⟩⟩,m5,h6),⟨rfl,_,x5⟩,MT⟩
 clear S0 c3 hoth hun hm0 hcap hle le1 le2 le3 le4 o1 o2 c1 c2;rintro⟨n',s,m4,h5⟩ ⟨rfl,ws,S0⟩;dsimp only;obtain⟨cap,hsl,_⟩:=S0.sl_;have hsa:s.tables.a=some ⟨tb,0,none⟩:=by rw[hsl]
 have hsn:s.tables.len=n'.toNat:=by rw[hsl]
 refine⟨λ⟨n,s,mx,hy⟩=>n=n'/\∃ws,Az m hx cb tb n.toNat id ws s mx hy,aE (λhn=>⟨cb,3,rfl,aC,aC,S0.case_,λr m5 o5 c5=>aB (λ_ s7 h7 le7 r7=>⟨tb,0,hsa,aC,aC,λs8 h8 le8 r8=>?_⟩) (λ_=>⟨(n',s,m5,h5),⟨rfl,_,S0.on (.refl _) o5 c5⟩,MT⟩)⟩) (λ_=>⟨(n',s,m4,h5),⟨rfl,_,S0⟩,MT⟩),?_⟩
 .obtain⟨w,hw⟩:=getw (i:=2) S0.ws_.1 aC;exact(S0.on (le7.trans le8) o5 (c5.mono (le7.trans le8))).store (k:=3) (w':={w with references:=s8}) hw aC rfl rfl rfl rfl rfl λm5 x5=>⟨(n',s,m5,h8),⟨rfl,_,x5⟩,MT⟩
 clear S0 hsa hsn hsl;rintro⟨n'',s,m4,h5⟩ ⟨rfl,ws,S0⟩;dsimp only;obtain⟨cap,hsl,_⟩:=S0.sl_;have hsa:s.tables.a=some ⟨tb,0,none⟩:=by rw[hsl]
 have hsn:s.tables.len=n''.toNat:=by rw[hsl]
 refine⟨λ⟨s,mx,hy⟩=>∃ws,Az m hx cb tb n''.toNat id ws s mx hy,aE (λhn=>⟨cb,3,rfl,aC,aC,S0.case_,λr m5 o5 c5=>aB (λ_ s7 h7 le7 r7=>⟨tb,0,hsa,aC,aC,λs8 h8 le8 r8=>?_⟩) (λ_=>⟨(s,m5,h5),⟨_,S0.on (.refl _) o5 c5⟩,MT⟩)⟩) (λ_=>⟨(s,m4,h5),⟨_,S0⟩,MT⟩),?_⟩
 .obtain⟨w,hw⟩:=getw (i:=3) S0.ws_.1 aC;exact(S0.on (le7.trans le8) o5 (c5.mono (le7.trans le8))).store (k:=3) (w':={w with references:=s8}) hw aC rfl rfl rfl rfl rfl λm5 x5=>⟨(s,m5,h8),⟨_,x5⟩,MT⟩
 clear S0 hsa hsn hsl;rintro⟨s,m4,h5⟩ ⟨ws,S0⟩;dsimp only;obtain⟨cap,hsl,_⟩:=S0.sl_;have hsa:s.tables.a=some ⟨tb,0,none⟩:=by rw[hsl]
 have hsn:s.tables.len=n''.toNat:=by rw[hsl]
 refine⟨λ⟨s,mx,hy⟩=>∃ws,Az m hx cb tb n''.toNat id ws s mx hy,⟨cb,3,rfl,aC,aC,S0.case_,λr m5 o5 c5=>aB (λ_=>?_) (λ_=>⟨(s,m5,h5),⟨_,S0.on (.refl _) o5 c5⟩,MT⟩)⟩,λ⟨s,m4,h5⟩⟨ws,S0⟩=>hK _ _ _ _ _ _ _ S0⟩;have S1:=S0.on (.refl _) o5 c5;obtain⟨w,hw,hhalf⟩:=S1.ws_.2 1 _ rfl;refine⟨s.version,tb,n''.toNat,cap,ws,w,_,1,by rw[hsl];rfl,aC,S1.row_,hw,hhalf.cols_,by simp,λsl h6 le6 hi6=>?_⟩;refine⟨cb,sl,cJ,_,[],1,rfl,c5.mono le6,hi6,⟨cW.nil _ _,by simp⟩,by simp,by simp,aC,λpvv p m6 h7 le7 hp hpw o6 c6=>⟨tb,0,hsa,aC,aC,λs8 h8 le8 r8=>?_⟩⟩;exact(S1.on ((le6.trans le7).trans le8) o6 (c6.mono le8)).store (k:=4) (w':={w with checks:=s8}) hw aC rfl rfl rfl rfl rfl λm5 x5=>⟨(s,m5,h8),⟨_,x5⟩,MT⟩
structure pS(s:pV):Prop where
 ex:∃ver n id,0<=ver/\ver<=2/\2<=n/\n<=4/\(id=4\/id=5)/\s=⟨ver,(lN id).take n⟩
def XZ:Vc.Spec:=λcvs m h K=>∃cb,cvs=[cP cb]/\aJ m h cb/\∀s v m' h',pS s->gM h' s v->PH.le h h'->aL m m' cb->aJ m' h' cb->K (aS v) m' h'
theorem V3:Sound Tryz.prog 12 XZ:=by
 refine Yx Tryz.func12 ?_;rintro cvs m h K ⟨cb,rfl,hc,hK⟩;refine⟨Zu,rfl,aD VD aF,KV cb m h (dQ h K),by kernel_rfl,?_⟩;show KV cb m h (dQ h K);dsimp only[KV,push_cast];refine⟨cb,rfl,hc,λtb n id ws s m1 h1 S1=>?_⟩;refine⟨λ⟨i,s',mx,hx⟩=>s'=s/\hx=h1/\i<=n/\∃ws,Az m h cb tb n id ws s mx h1/\∀j w,j<i->ws[j]? =some w->w.references=cJ/\w.checks=cJ,λ⟨i,_,_,_⟩=>n-i,⟨(0,s,m1,h1),⟨rfl,rfl,aC,ws,S1,λj w hj=>by omega⟩,MT⟩,?_⟩;clear S1 ws m1;rintro⟨i,s',m1,hx⟩ ⟨rfl,rfl,hi,ws,S1,hnil⟩;dsimp only;obtain⟨cap,hsl,hscap⟩:=S1.sl_;have hsa:s'.tables.a=some ⟨tb,0,none⟩:=by rw[hsl]
 have hsn:s'.tables.len=n:=by rw[hsl]
 have hn4:=S1.n4;refine aE (λhlt=>⟨tb,0,hsa,aC,hlt,?_⟩) (λhge hdis=>?_)
 .obtain⟨w,hw⟩:∃w,ws[i]? =some w:=⟨_,List.getElem?_eq_getElem (by have:=S1.ws_.1;have:=S1.n4;omega)⟩
  refine S1.store (i:=i) (k:=3) (w':={w with references:=cJ}) hw aC aC rfl rfl rfl rfl λm2 S2=>⟨tb,0,hsa,aC,hlt,?_⟩
  have hil:=(List.getElem?_eq_some_iff.1 hw).1;have hw2:(ws.set i {w with references:=cJ})[i]? =some {w with references:=cJ}:=List.getElem?_set_self hil;refine S2.store (i:=i) (k:=4) (w':={w with references:=cJ,checks:=cJ}) hw2 aC aC rfl rfl rfl rfl λm3 S3=>⟨(i+1,s',m3,hx),⟨rfl,rfl,by show i+1<=n;omega,_,S3,λj u hj hu=>?_⟩,by show n-(i+1)<n-i;omega,MT⟩
  by_cases e:i=j
  .subst e;rw[List.getElem?_set_self (by rw[List.length_set];exact hil)]at hu;cases hu;exact⟨rfl,rfl⟩
  .rw[List.getElem?_set_ne e,List.getElem?_set_ne e]at hu;exact hnil j u aC hu
 .have hdis:=hdis;obtain⟨cur,hcur,htake⟩:=S1.row_.ex;have hg0:∀i,hx tb i=none:=hdis tb _ hcur
  have hle3:PH.le hx (λx i=>if x=tb then cur[i]? else hx x i):=⟨λx i v e=>by
   have:x≠tb:=λe'=>by rw[e',hg0 i]at e;cases e
   simp[this,e]⟩
  refine⟨λb=>if b=tb then none else m1 b,λx i=>if x=tb then cur[i]? else hx x i,λb o e=>?_,S1.le_.trans hle3,λx i v e=>?_,hK ⟨s'.version,(lN id).take n⟩ s' _ _ ⟨⟨_,_,_,S1.ver0,S1.ver1,S1.n2,S1.n4,S1.id_,rfl⟩⟩ ⟨rfl,?_⟩ (S1.le_.trans hle3) ⟨λb hb=>?_⟩ ?_⟩
  .by_cases e':b=tb
   .simp[e']at e
   .simpa[e']using e
  .by_cases e':x=tb
   .subst e';simp at e;exact .inr ⟨cur,86,(0,0),hcur,e,by simp⟩
   .simp[e']at e;exact .inl e
  .have hws4:=S1.ws_.1;have hn4:=S1.n4;refine⟨⟨ws.take n,⟨by rw[hsn];simp;omega,.inr ⟨tb,0,hsa,λi e hi=>⟨λj v hj=>?_⟩⟩,by rw[hsl];exact hscap⟩,by simp[lN];omega,λi t e=>?_⟩,by simp[lN];omega⟩
   .rw[List.map_take,List.getElem?_take]at hi;split at hi
    .have h1:=lW (xs:=ws.map cC.enc) (sz:=5) (λe he=>by obtain⟨x,_,rfl⟩:=List.mem_map.1 he;rfl) hi j v hj;rw[<-htake,List.getElem?_take]at h1;split at h1
     .simp only[if_true,Nat.zero_add];rw[<-Array.getElem?_toList];exact h1
     .cases h1
    .cases hi
   .rw[List.getElem?_take]at e;split at e
    .rename_i hin;obtain⟨w,e1,e2⟩:=S1.ws_.2 i t e;obtain⟨z1,z2⟩:=hnil i w aC e1;have hh:=e2.mono hle3
     have hnorc:t.refs=[]/\t.checks=[]:=by
      match i,e with
      |0,e=>cases e;exact⟨rfl,rfl⟩
      |1,e=>cases e;exact⟨rfl,rfl⟩
      |2,e=>cases e;exact⟨rfl,rfl⟩
      |3,e=>cases e;exact⟨rfl,rfl⟩
      |i+4,e=>simp[lN]at e
     refine⟨w,by rw[List.getElem?_take,if_pos hin];exact e1,⟨hh.name_,hh.cols_,hh.key_,by rw[z1,hnorc.1];exact bV.nil _ _ _ _,by rw[z2,hnorc.2];exact bV.nil _ _ _ _⟩⟩
    .cases e
  .by_cases e':b=tb
   .subst e';simp[S1.new_]
   .simp[e'];exact S1.other_ b hb e'
  .obtain⟨r,q,cs,k,q1,q2,q3⟩:=S1.case_;exact⟨r,q,cs,k,by simp[S1.ne_.symm];exact q1,q2.mono hle3,q3⟩
def QW(q:Query):Prop:=
 match q with
 |.mk _ _ w _ _ _ _ _ args=>GJ w/\∀a∈args,QW a
 termination_by SizeOf.sizeOf q
theorem Ry{op:Int}{on:List (Int×Int)}{args:List Query}:
 QW (.mk op ta w co on gr od li args)↔GJ w/\∀a∈args,QW a:=by rw[QW.eq_def]
def XV(s:pV):Prop:=∀t,HZ (iI s t)
structure XU(s:pV)(ps ks:List Int)(q0 q:Query):Prop where
 qw:QW q
 siz:∀d,zN d q0->LK d q
 kin:XV s->HZ ps->HZ ks->ks≠[]->ks.length<=12->cA s ps q0=(ks,0)->cA s ps q=(ks,0)
def KQ(K:CV->MH->PH->Prop)(m:MH)(h:PH)(cb:Nat)(R:Query->Prop):Prop:=∀w q m' h',PH.le h h'->dK h' q w->R q->aL m m' cb->aJ m' h' cb->K (aQ w) m' h'
def Ux:Vc.Spec:=λcvs m h K=>∃cb sc p k v s ps ks q,cvs=[cP cb,aS sc,cS p,cS k,aQ v]/\aJ m h cb/\gM h s sc/\oY s/\s.tables.length<=1000/\Ints h p ps/\ps.length<=1000/\Ints h k ks/\ks.length<=1000/\dK h q v/\QW q/\KQ K m h cb (XU s ps ks q)
noncomputable def Zb(cb:Nat)(sc:bH)(p k:Sl)(v:QV):Ctx:=
 dN [(15,E9),(44,wN),(40,XW),(16,Ls),(30,Cj)] [(3,{A:=Int×Nat×MH×PH,st:=λ⟨f,n,m,h⟩=>cE 112 117 [(0,pv cb),(2,sv p),(3,sv k),(6,.at (.ptr 6 0)),(9,.at (.ptr 9 0)),(10,.at (.ptr 10 0)),(11,iv f),(12,iv n)] [(6,.cells 43 (sc.enc.map .val)),(9,.cells 38 (v.enc.map .val)),(10,.cells 38 (AE.enc.map .val))] m h}),
  (9,{A:=Int×Nat×Int×Sl×List Int×Nat×MH×PH,st:=λ⟨f,n,t,have_,cols,i,m,h⟩=>cE 112 117 [(0,pv cb),(2,sv p),(3,sv k),(6,.at (.ptr 6 0)),(9,.at (.ptr 9 0)),(10,.at (.ptr 10 0)),(11,iv f),(12,iv n),(13,iv t),(14,sv have_),(15,.at (.lst 75)),(45,sv k),(46,iv k.len),(47,iv i)] [(6,.cells 43 (sc.enc.map .val)),(9,.cells 38 (v.enc.map .val)),(10,.cells 38 (AE.enc.map .val)),(75,.lst 3 1 (cols.map eI))] m h}),
  (13,{A:=Int×Nat×Int×Sl×List Int×Nat×Int×Int×Nat×MH×PH,st:=λ⟨f,n,t,have_,cols,i,kind,fr,j,m,h⟩=>cE 112 117 [(0,pv cb),(2,sv p),(3,sv k),(6,.at (.ptr 6 0)),(9,.at (.ptr 9 0)),(10,.at (.ptr 10 0)),(11,iv f),(12,iv n),(13,iv t),(14,sv have_),(15,.at (.lst 75)),(17,iv kind),(18,iv fr),(45,sv k),(46,iv k.len),(47,iv i),(56,iv have_.len),(57,iv j)] [(6,.cells 43 (sc.enc.map .val)),(9,.cells 38 (v.enc.map .val)),(10,.cells 38 (AE.enc.map .val)),(75,.lst 3 1 (cols.map eI))] m h})] [] [] false
abbrev kC:Prop:=eP 10
noncomputable abbrev xV(a:Int×Nat×Int×Sl×List Int×Nat×MH×PH):Sl:=a.2.2.2.1
noncomputable abbrev lK(a:Int×Nat×Int×Sl×List Int×Nat×MH×PH):Nat×MH×PH:=a.2.2.2.2.2
noncomputable abbrev xW(a:Int×Nat×Int×Sl×List Int×Nat×MH×PH):List Int:=a.2.2.2.2.1
noncomputable abbrev pA(a:Int×Nat×Int×Sl×List Int×Nat×MH×PH):Nat->Nat->Option Value:=eD (lK a)
noncomputable abbrev oV(a:Int×Nat×Int×Sl×List Int×Nat×Int×Int×Nat×MH×PH):Sl:=a.2.2.2.1
noncomputable abbrev F2(a:Int×Nat×Int×Sl×List Int×Nat×Int×Int×Nat×MH×PH):Int:=a.2.2.2.2.2.2.1
noncomputable abbrev DM(a:Int×Nat×Int×Sl×List Int×Nat×Int×Int×Nat×MH×PH):Nat:=a.2.2.2.2.2.1
noncomputable abbrev oF(a:Int×Nat×Int×Sl×List Int×Nat×Int×Int×Nat×MH×PH):Nat×MH×PH:=a.2.2.2.2.2.2.2.2
noncomputable abbrev B3(a:Int×Nat×Int×Sl×List Int×Nat×Int×Int×Nat×MH×PH):List Int:=a.2.2.2.2.1
noncomputable abbrev F1(a:Int×Nat×Int×Sl×List Int×Nat×Int×Int×Nat×MH×PH):Int:=Int.tmod (eB (a.2.2.2.2.2.2.2.1+(↑(oF a).1:Int))) (aG (oV a))
noncomputable abbrev FQ(a:Int)(b:PV)(c:List Value):List Value:=aY (eW a) dA (aY (eW b.op) (eW b.cmp) (aY (iY b.left) (rQ b.left) (aY (eW (qO b.left)) (rO b.left) c)))
noncomputable abbrev F3(a:PV)(b:Sl):List Value:=aY (jI a.left) (iY a.right) (aY (rQ a.right) (eW (qO a.right)) (aY (rO a.right) (jI a.right) (aY (eR a.args) tT (y9 (aR b)))))
attribute [push_cast] kC xV lK xW pA oV F2 DM oF B3 F1 FQ F3
def Qy(cb:Nat)(sc:bH)(p k:Sl)(v:QV)(m:MH)(h:PH)(K:CV->MH->PH->Prop):Prop:=
  bZ cb (eB (iG sc+1)) m h 0 (λc k1 m1=>bC (aL m m1 c) (aJ m1 h c) (∃(I:Int×Nat×MH×PH->Prop)(m2:Int×Nat×MH×PH->Nat),(∃(x:Int×Nat×MH×PH),aA (I x) (cV cb) (aA (aK p) (aK k) (aA (eP 6) (eP 9) (aA kC (cZ k1 x.1) (aA (bG x.2.1) (cG sc) (aA (eT v) lZ (aA (cO m1 x.2.2) (dO h x.2.2) True)))))))/\∀(x:Int×Nat×MH×PH),I x->bD (↑x.2.1:Int) (aG sc.tables) (jU (iG sc=0)/\BP (bU (jM (bR sc)) (Int.tmod (eB (x.1+(↑x.2.1:Int))) (iG sc))) (eD x.2) (λs h1=>∃(I1:Int×Nat×Int×Sl×List Int×Nat×MH×PH->Prop)(m3:Int×Nat×Int×Sl×List Int×Nat×MH×PH->Nat),(∃(x1:Int×Nat×Int×Sl×List Int×Nat×MH×PH),aA (I1 x1) (cV cb) (aA (aK p) (aK k) (aA (eP 6) (eP 9) (aA kC (cZ x.1
 x1.1) (aA (bY x.2.1 x1.2.1) (cZ (Int.tmod (eB (x.1+(↑x.2.1:Int))) (iG sc)) x1.2.2.1) (aA (aZ s (xV x1)) (eL 75) (aA (aK k) (bK k) (aA (bG (lK x1).1) (cG sc) (aA (eT v) lZ (aA (qY (xW x1)) (cO (eY x.2) (lK x1).2) (kI h1 (lK x1).2)))))))))))/\∀(x1:Int×Nat×Int×Sl×List Int×Nat×MH×PH),I1 x1->bD (↑(lK x1).1:Int) (aG k) (aT (λb o=>aH (aU k.a b o) (0<=(↑(lK x1).1:Int)) ((↑(lK x1).1:Int)<aG k) (∃(y:Int),aM (eY (lK x1)) (pA x1) b (bB o (lK x1).1 1) (cK y)/\bZ cb (aG (xV x1)) (eY (lK x1)) (pA x1) 0 (λc1 k2 m4=>bC (aL (eY (lK x1)) m4 c1) (aJ m4 (pA x1) c1) (∃(I2:Int×Nat×Int×Sl×List Int×Nat×Int×Int×Nat×MH×PH->Prop)(m5:Int×Nat×Int
 ×Sl×List Int×Nat×Int×Int×Nat×MH×PH->Nat),(∃(x2:Int×Nat×Int×Sl×List Int×Nat×Int×Int×Nat×MH×PH),aA (I2 x2) (cV cb) (aA (aK p) (aK k) (aA (eP 6) (eP 9) (aA kC (cZ x1.1 x2.1) (aA (bY x1.2.1 x2.2.1) (cZ x1.2.2.1 x2.2.2.1) (aA (aZ (xV x1) (oV x2)) (eL 75) (aA (cZ y (F2 x2)) (cZ k2 x2.2.2.2.2.2.2.2.1) (aA (aK k) (bK k) (aA (bY (lK x1).1 (DM x2)) (cH (xV x1) (oV x2)) (aA (bG (oF x2).1) (cG sc) (aA (eT v) lZ (aA (vQ (xW x1) (B3 x2)) (cO m4 (oF x2).2) (kI (pA x1) (oF x2).2)))))))))))))/\∀(x2:Int×Nat×Int×Sl×List Int×Nat×Int×Int×Nat×MH×PH),I2 x2->bD (↑(oF x2).1:Int) (aG (oV x2)) (jU (aG (oV x2)=0)/\aT (λb1 o1=>aH (aU
 (oV x2).a b1 o1) (0<=F1 x2) (F1 x2<aG (oV x2)) (∃(y1:Int),aM (eY (oF x2)) (eD (oF x2)) b1 (fL o1 (F1 x2) 1) (cK y1)/\eJ y1 (F2 x2) (nM (gZ (B3 x2)) 8 (∃(x3:Int×Nat×Int×Sl×List Int×Nat×MH×PH),aA (I1 x3) (m3 x3<m3 x1) (aA (cV cb) (aK p) (aA (aK k) (eP 6) (aA (eP 9) kC (aA (cZ x2.1 x3.1) (bY x2.2.1 x3.2.1) (aA (cZ x2.2.2.1 x3.2.2.1) (aZ (oV x2) (xV x3)) (aA (eL 75) (aK k) (aA (bK k) (gS (aW (DM x2) 1)=bX (lK x3).1) (aA (cG sc) (eT v) (aA lZ (qZ (B3 x2) (F1 x2) (xW x3)) (aA (cO (eY (oF x2)) (lK x3).2) (dO (eD (oF x2)) (lK x3).2) True)))))))))))) (∃(x3:Int×Nat×Int×Sl×List Int×Nat×Int×Int×Nat×MH×PH),aA (I2 x3) (m5 x3<
 m5 x2) (aA (cV cb) (aK p) (aA (aK k) (eP 6) (aA (eP 9) kC (aA (cZ x2.1 x3.1) (bY x2.2.1 x3.2.1) (aA (cZ x2.2.2.1 x3.2.2.1) (aZ (oV x2) (oV x3)) (aA (eL 75) (cZ (F2 x2) (F2 x3)) (aA (cZ x2.2.2.2.2.2.2.2.1 x3.2.2.2.2.2.2.2.1) (aK k) (aA (bK k) (bY (DM x2) (DM x3)) (aA (cH (oV x2) (oV x3)) (gS (aW (oF x2).1 1)=bX (oF x3).1) (aA (cG sc) (eT v) (aA lZ (vQ (B3 x2) (B3 x3)) (aA (cO (eY (oF x2)) (oF x3).2) (dO (eD (oF x2)) (oF x3).2) True)))))))))))))))) (∃(x3:Int×Nat×Int×Sl×List Int×Nat×MH×PH),aA (I1 x3) (m3 x3<m3 x1) (aA (cV cb) (aK p) (aA (aK k) (eP 6) (aA (eP 9) kC (aA (cZ x2.1 x3.1) (bY x2.2.1 x3.2.1) (aA (cZ x2.2.2.1 x3.2.2.1) (aZ (oV
 x2) (xV x3)) (aA (eL 75) (aK k) (aA (bK k) (gS (aW (DM x2) 1)=bX (lK x3).1) (aA (cG sc) (eT v) (aA lZ (vQ (B3 x2) (xW x3)) (aA (cO (eY (oF x2)) (lK x3).2) (dO (eD (oF x2)) (lK x3).2) True)))))))))))))))) (eJ x1.1 (iG sc) (∃(x2:Int×Nat×MH×PH),aA (I x2) (m2 x2<m2 x) (aA (cV cb) (aK p) (aA (aK k) (eP 6) (aA (eP 9) kC (aA (cZ x1.1 x2.1) (gS (aW x1.2.1 1)=bX x2.2.1) (aA (cG sc) (eT v) (aH lZ (cO (eY (lK x1)) x2.2.2) (dO (pA x1) x2.2.2) True))))))) (bD (↑(gZ (xW x1)).length:Int) (aG k) (∃(x2:Int×Nat×MH×PH),aA (I x2) (m2 x2<m2 x) (aA (cV cb) (aK p) (aA (aK k) (eP 6) (aA (eP 9) kC (aA (cZ x1.1 x2.1) (gS (aW x1.2.1 1)=bX x2.2.1) (aA (cG sc)
 (eT v) (aH lZ (cO (eY (lK x1)) x2.2.2) (dO (pA x1) x2.2.2) True))))))) (vB x1.2.2.1 (λt=>fZ cb 2 (eY (lK x1)) (pA x1) (λr m4=>branch r ((∃(c1:Nat),yF (λs1 t1 c2 p1 d=>aA (rX cb 0::dP (xV x1) (bU (kU p) 1)=vA c1 s1 t1 d) (aJ m4 (pA x1) c1) (aA (Ints (pA x1) s1 c2) (Ints (pA x1) t1 p1) (aH (gL c2) (gL p1) (mX d) (BD (λv1 p2=>eA (λm5 h2=>dZ (pA x1) h2 (fF h2 p2 v1) (bC (wZ c2 p1 d p2) (aL m4 m5 c1) (jG m5 h2 c1 (aX h2 21 (bL (xX (eW 1) (eW t))) (λs2 h3=>aX h3 1 (gZ (xW x1)) (λs3 h4=>aX h4 21 (bL (FQ 2 v1 (F3 v1 s2))) (λs4 h5=>K (jM (oZ (eW 3) dA (sG (eR s3) (y9 (aR s4))))) m5 h5)))))))))))))/\∃(c1:Nat),yF (λs1 t1 c2 p1 d=>aA
 (rX cb 0::dP (xV x1) (bU (kU p) 1)=vA c1 s1 t1 d) (aJ m4 (pA x1) c1) (aA (Ints (pA x1) s1 c2) (Ints (pA x1) t1 p1) (aH (gL c2) (gL p1) (mX d) (BD (λv1 p2=>eA (λm5 h2=>dZ (pA x1) h2 (fF h2 p2 v1) (bC (wZ c2 p1 d p2) (aL m4 m5 c1) (jG m5 h2 c1 (aX h2 21 (bL (xX (eW 1) (eW t))) (λs2 h3=>aX h3 1 (gZ (xW x1)) (λs3 h4=>aX h4 21 (bL (FQ 2 v1 (F3 v1 s2))) (λs4 h5=>K (jM (oZ (eW 3) dA (sG (eR s3) (y9 (aR s4))))) m5 h5))))))))))))) (aX (pA x1) 1 (gZ (xW x1)) (λs1 h2=>aX h2 21 (bL (xX (eW 1) (eW t))) (λs2 h3=>K (jM (oZ (eW 3) dA (sG (eR s1) (y9 (aR s2))))) m4 h3)))))))))) ((∃(c1:Nat),yF (λs t c2 p1 d=>aA (rX cb 0::dP k (bU (kU p) 1)=
 vA c1 s t d) (aJ (eY x.2) (eD x.2) c1) (aA (Ints (eD x.2) s c2) (Ints (eD x.2) t p1) (aH (gL c2) (gL p1) (mX d) (BD (λv1 p2=>eA (λm3 h1=>dZ (eD x.2) h1 (fF h1 p2 v1) (bC (wZ c2 p1 d p2) (aL (eY x.2) m3 c1) (jG m3 h1 c1 (aX h1 21 (bL v.enc) (λs1 h2=>K (jM (FQ 2 v1 (F3 v1 s1))) m3 h2)))))))))))/\∃(c1:Nat),yF (λs t c2 p1 d=>aA (rX cb 0::dP k (bU (kU p) 1)=vA c1 s t d) (aJ (eY x.2) (eD x.2) c1) (aA (Ints (eD x.2) s c2) (Ints (eD x.2) t p1) (aH (gL c2) (gL p1) (mX d) (BD (λv1 p2=>eA (λm3 h1=>dZ (eD x.2) h1 (fF h1 p2 v1) (bC (wZ c2 p1 d p2) (aL (eY x.2) m3 c1) (jG m3 h1 c1 (aX h1 21 (bL v.enc) (λs1 h2=>K (jM (FQ 2 v1 (F3 v1 s1))) m3
 h2)))))))))))))
theorem jK(h:PH):Ints h cJ []:=⟨cW.nil _ _,by simp⟩
theorem oA(h:PH):mG h cJ []:=⟨cW.nil _ _,by simp⟩
theorem uD(h:PH):jC h cJ []:=⟨cW.nil _ _,by simp⟩
theorem yM(h:PH):fF h iL gT:=Ks (v:=gT) rfl
theorem yN{h:PH}{s:Sl}{v:QV}{q:Query}(r:cW h s 21 [QV.enc v])(hq:dK h q v):AA h s [q]:=⟨⟨[v],r,rfl,λi x e=>by
 match i,e with
 |0,e=>simp at e;subst e;exact⟨v,rfl,hq⟩
 |i+1,e=>simp at e⟩,by simp⟩
theorem AT(h:PH)(t:Int):dK h (.mk 1 t iL [] [] [] [] 0 []) ⟨1,t,gT,cJ,cJ,cJ,cJ,0,cJ⟩:=
 oP.rep ⟨rfl,rfl,yM h,jK h,oA h,jK h,uD h,rfl,bV.nil _ _ _ _⟩
theorem KA{v:PV}{s:Sl}(hp:fF h p v)(hq:AA h s [q]):dK h (.mk 2 0 p [] [] [] [] 0 [q]) ⟨2,0,v,cJ,cJ,cJ,cJ,0,s⟩:=
 oP.rep ⟨rfl,rfl,hp,jK h,oA h,jK h,uD h,rfl,hq⟩
theorem Ib{h:PH}{c s:Sl}{cols:List Int}{q:Query}(hc:Ints h c cols)(hq:AA h s [q]):dK h (.mk 3 0 iL cols [] [] [] 0 [q]) ⟨3,0,gT,c,cJ,cJ,cJ,0,s⟩:=
 oP.rep ⟨rfl,rfl,yM h,hc,oA h,jK h,uD h,rfl,hq⟩
theorem Bq:GJ iL:=⟨nZ,nZ,trivial⟩
theorem NT{op:Int}{on:List (Int×Int)}(hw:GJ w)(hq:QW q):QW (.mk op ta w co on gr od li [q]):=Ry.2 ⟨hw,λa ha=>by simp at ha;subst ha;exact hq⟩
theorem Fx(t:Int):QW (.mk 1 t iL [] [] [] [] 0 []):=Ry.2 ⟨Bq,λa ha=>by simp at ha⟩
theorem TM{a:Int}{n:Nat}(h0:0<=a)(hn:0<n):0<=a.tmod (n:Int)/\a.tmod (n:Int)<(n:Int):=by
 rw[Int.tmod_eq_emod_of_nonneg h0];exact⟨Int.emod_nonneg _ aC,Int.emod_lt_of_pos _ aC⟩
theorem Hb{k:List Int}{op:Int}{on:List (Int×Int)}(ha:arity op=1)(h:cA s ps q=(k,0)):cA s ps (.mk op ta w co on gr od li [q])=iT s ps (.mk op ta w co on gr od li [q]) k []:=by
 have e:fT s ps [q]=([k],0):=zG (by simp[h]);simp[cA,e,ha]
theorem U8{k k':List Int}{op:Int}{on:List (Int×Int)}{p:Query}(ha:arity op=2)(h:cA s ps q=(k,0))(h':cA s ps p=(k',0)):cA s ps (.mk op ta w co on gr od li [q,p])=iT s ps (.mk op ta w co on gr od li [q,p]) k k':=by
 have e:fT s ps [q,p]=([k,k'],0):=zG (by simp[h,h']);simp[cA,e,ha]
theorem Gg(h:l.length<=12):AO l=(l,0):=if_pos h
theorem Kt{s:pV}{ps:List Int}{t:Int}(h0:0<=t)(h1:t<s.tables.length)(hk:(iI s t).length<=12):cA s ps (.mk 1 t iL [] [] [] [] 0 [])=(iI s t,0):=by
 have e1:cA s ps (.mk 1 t iL [] [] [] [] 0 [])=iT s ps (.mk 1 t iL [] [] [] [] 0 []) [] []:=by simp[cA,fT,arity]
 rw[e1];unfold iT;rw[if_neg (by simp[arity,eF])];dsimp only;rw[if_pos rfl,if_pos ⟨h0,h1⟩,Gg hk]
theorem kinds_filter{k:List Int}(h:cA s ps q=(k,0))(hw:iS k ps w=0)(hk:k.length<=12):cA s ps (.mk 2 0 w [] [] [] [] 0 [q])=(k,0):=by
 rw[Hb (by decide) h];unfold iT;rw[if_neg (by simp[arity,eF])];dsimp only;rw[if_neg (by decide),if_pos rfl,if_pos hw,Gg hk]
theorem LC{k:List Int}(h:cA s ps q=(k,0))(h0:co≠[])(hi:∀c∈co,ES k c=true)(hl:co.length<=12):cA s ps (.mk 3 0 iL co [] [] [] 0 [q])=(co.map λc=>k.getD c.toNat 0,0):=by
 rw[Hb (by decide) h];unfold iT;rw[if_neg (by simp[arity,eF])];dsimp only;rw[if_neg (by decide),if_neg (by decide),if_pos rfl,if_pos ⟨h0,λj x hx=>hi x (List.mem_of_getElem? hx)⟩,Gg (by simpa using hl)]
structure E6(kt ks co:List Int):Prop where
 in_:∀c∈co,ES kt c=true
 eq_:(co.map λc=>kt.getD c.toNat 0)=ks
theorem E6.kin{kt ks:List Int}(x:E6 kt ks co)(h:cA s ps q=(kt,0))(hn:ks≠[])(hl:ks.length<=12):cA s ps (.mk 3 0 iL co [] [] [] 0 [q])=(ks,0):=by
 have h1:co.length=ks.length:=by rw[<-x.eq_,List.length_map]
 rw[LC h (λe=>hn (List.eq_nil_of_length_eq_zero (by rw[<-h1,e];rfl))) x.in_ aC,x.eq_]
theorem E6.snoc{kt ks:List Int}{c x:Int}(p:E6 kt (ks.take i) co)(hx:ks[i]? =some x)(hc:ES kt c=true)(e:kt.getD c.toNat 0=x):E6 kt (ks.take (i+1)) (co++[c]):=
 ⟨λy hy=>by
  rcases List.mem_append.1 hy with hy|hy
  .exact p.in_ y hy
  .simp at hy;subst hy;exact hc,by rw[List.map_append,p.eq_,List.take_add_one,hx,List.map_cons,List.map_nil,e];rfl⟩
theorem VK:Sound Tryz.prog 26 Ux:=by
 refine iJ Tryz.func26 ?_;rintro cvs m h K ⟨cb,sc,p,k,v,s,ps,ks,q,rfl,hc,hs,h8,hts,hp,hpl,hk,hkl,hq,hqw,hK⟩;refine⟨Zb cb sc p k v,rfl,aD Gi (aD D0 (aD Mp (aD yP (aD Hp aF)))),Qy cb sc p k v m h K,by kernel_rfl,?_⟩;have htl:=hs.tables.slen;have hkn:=hk.slen;have hw:IntKind.i64.wrap ((sc.tables.len:Int)+1)=(sc.tables.len:Int)+1:=dX aC aC;dsimp only[Qy,push_cast];rw[hw];refine⟨cb,_,rfl,hc,λf m1 f0 f1 o1 c1=>?_⟩;refine⟨λ⟨f,n,mx,hx⟩=>0<=f/\f<=sc.tables.len/\n<=sc.tables.len/\PH.le h hx/\aL m mx cb/\aJ mx hx cb,λ⟨_,n,_,_⟩=>sc.tables.len-n,⟨(f,0,m1,h),⟨f0,by show f<=(sc.tables.len:Int);omega,aC,.refl _,o1,c1⟩,MT⟩,?_⟩;clear f0 f1 o1 c1 m1 hw;rintro⟨f,n,m1,hx⟩ ⟨f0,f1,hn,hle,o1,c1⟩;dsimp only
 have pred:∀(kk:Sl)(kl:List Int)(mx:MH)(hx:PH)(Q:PV->Pred->MH->PH->Prop),Ints hx kk kl->kl.length<=1000->PH.le h hx->aJ mx hx cb->(∀v p m' h',PH.le hx h'->fF h' p v->wZ kl ps 1 p->aL mx m' cb->aJ m' h' cb->Q v p m' h')->
  ∃(cb_2:Nat)(s t:Sl)(cols params:List Int)(deep:Nat),[CV.val (.pointer (some ⟨cb,0,none⟩)),CV.val (.slice kk.a kk.len kk.cap),CV.val (.slice p.a p.len p.cap),CV.val (.int .i64 1)]=[CV.val (.pointer (some ⟨cb_2,0,none⟩)),CV.val (.slice s.a s.len s.cap),CV.val (.slice t.a t.len t.cap),CV.val (.int .i64 deep)]/\aJ mx hx cb_2/\Ints hx s cols/\Ints hx t params/\cols.length<=1000/\params.length<=1000/\deep<=1000/\
   ∀(v:PV)(p:Pred)(m':MH)(h':PH),PH.le hx h'->fF h' p v->wZ cols params deep p->aL mx m' cb_2->aJ m' h' cb_2->Q v p m' h':=λkk kl mx hx Q h1 h2 h3 h4 h5=>
  ⟨cb,kk,p,kl,ps,1,rfl,h4,h1,hp.mono h3,h2,hpl,aC,λv p m' h' q1 q2 qp q3 q4=>h5 v p m' h' q1 q2 qp q3 q4⟩
 refine aE (λhlt=>?_) (λhge=>?_)
 rotate_left
 .have fin:∀(w:PV)(p:Pred)(m':MH)(h':PH),PH.le hx h'->fF h' p w->wZ ks ps 1 p->aL m1 m' cb->aJ m' h' cb->∀(s:Sl)(h'_1:PH),PH.le h' h'_1->cW h'_1 s 21 [QV.enc v]->K (aQ ⟨2,0,w,cJ,cJ,cJ,cJ,0,s⟩) m' h'_1:=λw p m' h' q1 q2 qp q3 q4 s h2 q5 q6=>
   hK _ _ m' h2 ((hle.trans q1).trans q5) (KA (q2.mono q5) (yN q6 (hq.mono ((hle.trans q1).trans q5)))) ⟨NT qp.vals hqw,λd hf=>hf.filter,λ_ hps hks _ h12 hk0=>kinds_filter hk0 (qp.valid (by decide) hks hps) h12⟩ (o1.trans q3) (q4.mono q5)
  exact⟨pred k ks m1 hx _ (hk.mono hle) hkl hle c1 fin,pred k ks m1 hx _ (hk.mono hle) hkl hle c1 fin⟩
 have hw2:IntKind.i64.wrap (f+(n:Int))=f+(n:Int):=dX aC aC;rw[hw2];refine⟨aC,sc,s,_,rfl,hs.mono hle,h8,λhv h2 le2 hhv=>?_⟩;have hvn:=hhv.slen;obtain⟨T,hT⟩:∃T,(f+(n:Int)).tmod (sc.tables.len:Int)=T:=⟨_,rfl⟩
 have hTr:=TM (a:=f+(n:Int)) (n:=sc.tables.len) aC aC;rw[hT]at hhv hvn hTr⊢
 have hv8:(iI s T).length<=8:=by
  unfold iI;split
  .simp
  .split
   .simp
   .rename_i t ht;simpa using h8 t (List.mem_of_getElem? ht)
 obtain⟨kt,hkt⟩:∃kt,iI s T=kt:=⟨_,rfl⟩
 have hscan:cA s ps (.mk 1 T iL [] [] [] [] 0 [])=(kt,0):=by rw[Kt hTr.1 aC aC,hkt]
 have hcolt:XV s->HZ kt:=λx=>by rw[<-hkt];exact x T
 rw[hkt]at hhv hvn hv8;refine⟨λ⟨f',n',t,have_,cols,i,mx,hx⟩=>f'=f/\n'=n/\have_=hv/\t=T/\i<=ks.length/\cols.length<=i/\(cols.length=i->E6 kt (ks.take i) cols)/\PH.le h2 hx/\aL m mx cb/\aJ mx hx cb,λ⟨_,_,_,_,_,i,_,_⟩=>ks.length-i,⟨(f,n,T,hv,[],0,m1,h2),⟨rfl,rfl,rfl,rfl,aC,by simp,λ_=>⟨by simp,by simp⟩,.refl _,o1,c1.mono le2⟩,MT⟩,?_⟩;rintro⟨f',n',t,hv,cols,i,m2,h3⟩ ⟨rfl,rfl,rfl,rfl,hi,hcl,hpk,le3,o2,c2⟩;dsimp only;have hle3:PH.le h h3:=(hle.trans le2).trans le3;refine aE (λhlt2=>?_) (λhge2=>?_)
 .obtain⟨x,hx⟩:=fI hkn hlt2;obtain⟨b1,of1,e1,r1⟩:=(hk.mono hle3).at hx;refine⟨b1,of1,e1,aC,hlt2,x,.imm (by simpa using r1),cb,_,rfl,c2,λfr m3 fr0 fr1 o3 c3=>?_⟩;refine⟨λ⟨f2,n2,t2,have_,cols2,i2,kind,fr',j,mx,hy⟩=>f2=f'/\n2=n'/\have_=hv/\t2=t/\cols2=cols/\i2=i/\kind=x/\mx=m3/\hy=h3/\j<=hv.len/\fr'=fr,λ⟨_,_,_,_,_,_,_,_,j,_,_⟩=>hv.len-j,⟨(f',n',t,hv,cols,i,x,fr,0,m3,h3),⟨rfl,rfl,rfl,rfl,rfl,rfl,rfl,rfl,rfl,aC,rfl⟩,MT⟩,?_⟩;rintro⟨f2,n2,t2,hv,cols,i,kind,fr',j,m3,h3⟩ ⟨rfl,rfl,rfl,rfl,rfl,rfl,rfl,rfl,rfl,hj,rfl⟩;dsimp only;refine aE (λhlt3=>?_) (λhge3=>⟨(f2,n2,t2,_,_,_,_,_),⟨rfl,rfl,rfl,rfl,by show i+1<=ks.length;omega,by show cols.length<=i+1;omega,λe=>by have e:cols.length=i+1:=e;omega,le3,o2.trans o3,c3⟩,by show ks.length-(i+1)<ks.length-i;omega,MT⟩);have hw3:IntKind.i64.wrap (fr'+(j:Int))=fr'+(j:Int):=dX aC aC;rw[hw3];have hm:=TM (a:=fr'+(j:Int)) (n:=Sl.len _) aC (show 0<hv.len by omega);obtain⟨b2,of2,e2,r2⟩:=(hhv.mono le3).inb (n:=(fr'+(j:Int)).tmod (hv.len:Int)) hm.1 (by rw[<-hvn];exact hm.2);refine⟨aC,b2,of2,e2,hm.1,hm.2,_,.imm (by simpa using r2),aB (λek=>⟨by simp;omega,by simp;omega,(f2,n2,t2,_,cols++[(fr'+(j:Int)).tmod (hv.len:Int)],i+1,_,_),⟨rfl,rfl,rfl,rfl,by show i+1<=ks.length;omega,by simp;omega,λe=>?_,le3,o2.trans o3,c3⟩,by show ks.length-(i+1)<ks.length-i;omega,?_⟩) (λ_=>⟨(f2,n2,t2,hv,cols,i,kind,fr',j+1,m3,h3),⟨rfl,rfl,rfl,rfl,rfl,rfl,rfl,rfl,rfl,by show j+1<=hv.len;omega,rfl⟩,by show hv.len-(j+1)<hv.len-j;omega,MT⟩)⟩
  .have e:(cols++[(fr'+(j:Int)).tmod (hv.len:Int)]).length=i+1:=e;rw[List.length_append]at e;exact(hpk (by simpa using e)).snoc hx (by simp only[ES,Bool.and_eq_true,decide_eq_true_eq];omega) (by simpa using ek)
  .rw[List.map_append];exact MT
 .have hn1:n'+1<=sc.tables.len:=by omega
  have hi2:i=ks.length:=by omega
  refine aB (λ_=>⟨(f',n'+1,m2,h3),⟨f0,f1,hn1,hle3,o2,c2⟩,by show sc.tables.len-(n'+1)<sc.tables.len-n';omega,MT⟩) (λ_=>aE (λ_=>⟨(f',n'+1,m2,h3),⟨f0,f1,hn1,hle3,o2,c2⟩,by show sc.tables.len-(n'+1)<sc.tables.len-n';omega,MT⟩) (λhnl=>⟨t,rfl,cb,2,rfl,aC,aC,c2,λr m4 o4 c4=>?_⟩))
  have hpick:E6 kt ks cols:=by
   rw[List.length_map]at hnl;have:=hpk aC
   rwa [hi2,List.take_length]at this
  refine aB (λ_=>?_) (λ_ s1 h5 le5 r5 s2 h6 le6 r6=>?_)
  .have fin:∀(w:PV)(p:Pred)(m':MH)(h':PH),PH.le h3 h'->fF h' p w->wZ kt ps 1 p->aL m4 m' cb->aJ m' h' cb->∀(s:Sl)(h'_1:PH),PH.le h' h'_1->cW h'_1 s 21 [QV.enc ⟨1,t,gT,cJ,cJ,cJ,cJ,0,cJ⟩]->∀(s_1:Sl)(h'_2:PH),PH.le h'_1 h'_2->cW h'_2 s_1 1 (cols.map eI)->∀(s_2:Sl)(h'_3:PH),PH.le h'_2 h'_3->cW h'_3 s_2 21 [QV.enc ⟨2,0,w,cJ,cJ,cJ,cJ,0,s⟩]->K (aQ ⟨3,0,gT,s_1,cJ,cJ,cJ,0,s_2⟩) m' h'_3:=λw p m' h' q1 q2 qp q3 q4 s h5 q5 q6 s1 h6 q7 q8 s2 h7 q9 q10=>
    hK _ _ m' h7 ((((hle3.trans q1).trans q5).trans q7).trans q9) (Ib (cols:=cols) ⟨q8.mono q9,aC⟩ (yN q10 (KA (q2.mono ((q5.trans q7).trans q9)) (yN (q6.mono (q7.trans q9)) (AT _ t))))) ⟨NT Bq (NT qp.vals (Fx t)),λd _=>LK.three d (oO.one (oO.one oO.scan (by decide)) (by decide)),λhsk hps _ hn h12 _=>hpick.kin (kinds_filter hscan (qp.valid (by decide) (hcolt hsk) hps) aC) hn h12⟩ ((o2.trans o4).trans q3) (q4.mono ((q5.trans q7).trans q9))
   exact⟨pred hv kt m4 h3 _ (hhv.mono le3) aC hle3 c4 fin,pred hv kt m4 h3 _ (hhv.mono le3) aC hle3 c4 fin⟩
  .exact hK _ _ m4 h6 ((hle3.trans le5).trans le6) (Ib (cols:=cols) ⟨r5.mono le6,aC⟩ (yN (v:=⟨1,t,gT,cJ,cJ,cJ,cJ,0,cJ⟩) r6 (AT _ t))) ⟨NT Bq (Fx t),λd _=>LK.three d (oO.mono (oO.one oO.scan (by decide)) (by decide) (by decide) (by decide)),λ_ _ _ hn h12 _=>hpick.kin hscan hn h12⟩ (o2.trans o4) (c4.mono (le5.trans le6))
def KQ2(K:CV->MH->PH->Prop)(m:MH)(h:PH)(cb:Nat)(s:pV)(ps:List Int)(d:Nat):Prop:=∀w q m' h',PH.le h h'->dK h' q w->QW q->zN d q->(fB s ps q).2=0->aL m m' cb->aJ m' h' cb->K (aQ w) m' h'
def TC(N:Nat):Vc.Spec:=λcvs m h K=>∃cb sc p s ps deep,cvs=[cP cb,aS sc,cS p,cI deep]/\aJ m h cb/\gM h s sc/\eG s=0/\s.tables≠[]/\Ints h p ps/\ps.length<=1000/\ps.all cT=true/\ -1<=deep/\deep<=1000/\(deep+1).toNat<N/\KQ2 K m h cb s ps deep.toNat
noncomputable def Zs(N:Nat)(cb:Nat)(sc:bH)(p:Sl):Ctx:=
 wH [(15,E9),(40,XW),(25,wM),(41,X1),(26,Ux),(42,ZX),(30,Cj),(13,TC N)] [(11,{A:=QV×QV×Sl×Int×MH×PH,st:=λ⟨a,q,k,n,m,h⟩=>cE 171 175 [(0,pv cb),(2,sv p),(5,.at (.ptr 5 0)),(8,.at (.ptr 8 0)),(10,.at (.ptr 10 0)),(11,sv k),(13,.at (.ptr 13 0)),(14,iv n)] [(5,.cells 43 (sc.enc.map .val)),(8,.cells 38 (AE.enc.map .val)),(10,.cells 38 (a.enc.map .val)),(13,.cells 38 (q.enc.map .val))] m h})] [(7,{A:=Int×Int×QV×QV×Sl×MH×PH,st:=λ⟨d,op,a,q,k,m,h⟩=>cE 171 175 [(0,pv cb),(2,sv p),(3,iv d),(5,.at (.ptr 5 0)),(8,.at (.ptr 8 0)),(9,iv op),(10,.at (.ptr 10 0)),(11,sv k),(13,.at (.ptr 13 0))] [(5,.cells 43 (sc.enc.map .val)),(8,.cells 38 (AE.enc.map .val)),(10,.cells 38 (a.enc.map .val)),(13,.cells 38 (q.enc.map .val))] m h}),
  (16,{A:=Int×Int×QV×QV×Sl×Bool×MH×PH,st:=λ⟨d,op,a,q,k,t,m,h⟩=>cE 171 175 [(0,pv cb),(2,sv p),(3,iv d),(5,.at (.ptr 5 0)),(8,.at (.ptr 8 0)),(9,iv op),(10,.at (.ptr 10 0)),(11,sv k),(13,.at (.ptr 13 0)),(59,iv op),(84,bv t)] [(5,.cells 43 (sc.enc.map .val)),(8,.cells 38 (AE.enc.map .val)),(10,.cells 38 (a.enc.map .val)),(13,.cells 38 (q.enc.map .val))] m h}),
  (24,{A:=Int×QV×QV×Sl×Bool×MH×PH,st:=λ⟨op,a,q,k,t,m,h⟩=>cE 171 175 [(0,pv cb),(2,sv p),(5,.at (.ptr 5 0)),(8,.at (.ptr 8 0)),(10,.at (.ptr 10 0)),(11,sv k),(13,.at (.ptr 13 0)),(59,iv op),(122,bv t)] [(5,.cells 43 (sc.enc.map .val)),(8,.cells 38 (AE.enc.map .val)),(10,.cells 38 (a.enc.map .val)),(13,.cells 38 (q.enc.map .val))] m h}),
  (20,{A:=QV×QV×QV×Sl×Sl×MH×PH,st:=λ⟨a,b,q,k,l,m,h⟩=>cE 171 175 [(0,pv cb),(2,sv p),(5,.at (.ptr 5 0)),(8,.at (.ptr 8 0)),(10,.at (.ptr 10 0)),(11,sv k),(13,.at (.ptr 13 0)),(15,.at (.ptr 15 0)),(16,sv l)] [(5,.cells 43 (sc.enc.map .val)),(8,.cells 38 (AE.enc.map .val)),(10,.cells 38 (a.enc.map .val)),(13,.cells 38 (q.enc.map .val)),(15,.cells 38 (b.enc.map .val))] m h}),
  (30,{A:=QV×QV×MH×PH,frz:=true,st:=λ⟨a,q,m,h⟩=>cE 171 175 [(2,sv p),(5,.at (.ptr 5 0)),(8,.at (.ptr 8 0)),(10,.at (.ptr 10 0)),(13,.at (.ptr 13 0))] [(5,.cells 43 (sc.enc.map .val)),(8,.cells 38 (AE.enc.map .val)),(10,.cells 38 (a.enc.map .val)),(13,.cells 38 (q.enc.map .val))] m h})] [] [36,1036,1033] [] false
abbrev DV(a:QV->Query->Prop):Prop:=∀(x:QV)(x1:Query),a x x1
abbrev DJ(a:List CV)(b:PH)(c:pV->(List Int)->Query->Sl->PH->Prop):Prop:=CP (λx x1=>∃(x2:QV),zE (λx3 x4=>∃(x5:Query),aA (a=bT (bR x) (fW x1 (bJ x2))) (gM b x3 x) (aA (Ints b x1 x4) (dK b x5 x2) (kP (λx6 x7=>dZ b x7 (Ints x7 x6 (fB x3 x4 x5).1) (c x3 x4 x5 x6 x7))))))
noncomputable abbrev mK(a:Int×Int×QV×QV×Sl×MH×PH):Sl×MH×PH:=a.2.2.2.2
abbrev dG(a b:QV):Prop:=wC a=wC b
noncomputable abbrev Jf(a:List At):List At:=gR OA OA (gR OA OA a)
noncomputable abbrev oT(a:QV×QV×Sl×Int×MH×PH):MH×PH:=a.2.2.2.2
noncomputable abbrev N2(a:QV×QV×Sl×Int×MH×PH):Sl:=a.2.1.columns
abbrev xL(a:QV×QV×MH×PH->Prop)(b:QV×QV×MH×PH)(c:Sl)(d:bH)(e g:Prop)(i:MH)(j:PH):Prop:=aA (a b) (aK c) (aA dU gW (aA kC (eP 13) (aA (cG d) lZ (aH e g (UN i j b.2.2.1 b.2.2.2) True))))
noncomputable abbrev uI(a:Int×QV×QV×Sl×Bool×MH×PH):Sl:=a.2.2.2.1
noncomputable abbrev Ad(a:Int×QV×QV×Sl×Bool×MH×PH):Bool:=a.2.2.2.2.1
noncomputable abbrev pC(a:Int×QV×QV×Sl×Bool×MH×PH):QV:=a.2.1
noncomputable abbrev oG(a:Int×QV×QV×Sl×Bool×MH×PH):QV:=a.2.2.1
noncomputable abbrev mW(a:Int×QV×QV×Sl×Bool×MH×PH):MH×PH:=a.2.2.2.2.2
noncomputable abbrev jP(a:Int×QV×QV×Sl×Bool×MH×PH):Nat->Nat->Option Value:=(mW a).2
noncomputable abbrev i6(a:QV×QV×QV×Sl×Sl×MH×PH):Sl×Sl×MH×PH:=a.2.2.2
abbrev Jc(a:(QV×QV×QV×Sl×Sl×MH×PH)->Prop)(b:Nat)(c:Sl)(d:Int×Int×QV×QV×Sl×Bool×MH×PH)(e:(QV×QV×QV×Sl×Sl×MH×PH)->QV×QV×QV×Sl×Sl×MH×PH)(g:(QV×QV×QV×Sl×Sl×MH×PH)->Prop):Prop:=∃(x:QV×QV×QV×Sl×Sl×MH×PH),aA (a x) (cV b) (aA (aK c) dU (aA gW kC (aA (aZ (uI d.2) (i6 (e x)).1) (eP 13) (g x))))
noncomputable abbrev iU(a:QV×QV×QV×Sl×Sl×MH×PH):QV:=a.2.2.1
noncomputable abbrev mU(a:QV×QV×QV×Sl×Sl×MH×PH):QV:=a.2.1
noncomputable abbrev tC(a:QV×QV×QV×Sl×Sl×MH×PH):Nat->Nat->Option Value:=(fS (i6 a)).2
noncomputable abbrev F8(a:QV×QV×QV×Sl×Sl×MH×PH):Sl:=(iU a).args
abbrev Je(a:(Int×QV×QV×Sl×Bool×MH×PH)->Prop)(b:Nat)(c:Sl)(d:Int×Int×QV×QV×Sl×Bool×MH×PH)(e:(Int×QV×QV×Sl×Bool×MH×PH)->Int×QV×QV×Sl×Bool×MH×PH)(g:(Int×QV×QV×Sl×Bool×MH×PH)->Prop):Prop:=∃(x:Int×QV×QV×Sl×Bool×MH×PH),aA (a x) (cV b) (aA (aK c) dU (aA gW kC (aA (aZ (uI d.2) (uI (e x))) (eP 13) (g x))))
abbrev Jd(a:Int×Int×QV×QV×Sl×Bool×MH×PH)(b:Int×QV×QV×Sl×Bool×MH×PH)(c:Prop)(d:bH):Prop:=aA (cZ a.2.1 b.1) c (aA (cG d) lZ (aA (dG (pC a.2) (pC b)) (dG (oG a.2) (oG b)) (aA (cO (mW a.2).1 (mW b)) (dO (jP a.2) (mW b)) True)))
attribute [push_cast] DV DJ mK dG Jf oT N2 xL uI Ad pC oG mW jP i6 Jc iU mU tC F8 Je Jd
def QL(N:Nat)(cb:Nat)(sc:bH)(p:Sl)(deep:Int)(m:MH)(h:PH)(K:CV->MH->PH->Prop):Prop:=
  bZ cb 12 m h 0 (λc k m1=>bC (aL m m1 c) (aJ m1 h c) (bD deep 1 (bZ cb (ite (iG sc>1) (iG sc) 1) m1 h 0 (λc1 k1 m2=>bC (aL m1 m2 c1) (aJ m2 h c1) (vB k1 (λt=>K (jM (xX (eW 1) (eW t))) m2 h)))) (dH (eB (1+k)==1) (bZ cb (ite (iG sc>1) (iG sc) 1) m1 h 0 (λc1 k1 m2=>bC (aL m1 m2 c1) (aJ m2 h c1) (vB k1 (λt=>K (jM (xX (eW 1) (eW t))) m2 h)))) (iG sc==0) (bZ cb (ite (iG sc>1) (iG sc) 1) m1 h 0 (λc1 k1 m2=>bC (aL m1 m2 c1) (aJ m2 h c1) (vB k1 (λt=>K (jM (xX (eW 1) (eW t))) m2 h)))) (∃(c1:Nat),CP (λs p1=>zE (λs1 p2=>∃(d:Int),aA (rX cb 0::bT (bR sc) (bU (kU p) (eB (deep-1)))=rX c1 0::bT (bR s) (bU (kU p1) d)) (aJ m1 h c1) (aA (gM h s1 s) (eG s1
 =0) (aA (jU (s1.tables=[])) (Ints h p1 p2) (aA (gL p2) (nD (EN p2)) (aH (Int.negSucc 0<=d) (d<=1000) ((d+1).toNat<N) (DV (λw q=>eA (λm2 h1=>dZ h h1 (dK h1 q w) (bC (QW q) (zN d.toNat q) (bC ((fB s1 p2 q).2=0) (aL m1 m2 c1) (jG m2 h1 c1 (DJ (bT (bR sc) (fW p (bJ w))) h1 (λ_ _ _ s2 h2=>∃(I:Int×Int×QV×QV×Sl×MH×PH->Prop),iH (λs3 m3=>nY m2 m3 h2 s3 38 21 (bL w.enc)->∃(x:Int×Int×QV×QV×Sl×MH×PH),aA (I x) (cV cb) (aA (aK p) (cZ deep x.1) (aA dU gW (aA (cZ (eB (1+k)) x.2.1) kC (aA (aZ s2 (mK x).1) (eP 13) (aA (cG sc) lZ (aA (dG w x.2.2.1) (oQ 38 (AM (eB (1+k)) (AM 0 (EP 0 (Jf (gR OA (hX 0) (w8 s3))))))=wC x.2.2.2.1) (aA (cO m3 (mK x).2)
 (dO h2 (mK x).2) True))))))))/\∀(x:Int×Int×QV×QV×Sl×MH×PH),I x->∃(I1:QV×QV×MH×PH->Prop),eJ x.2.1 3 (bZ cb 3 (mK x).2.1 (mK x).2.2 0 (λc2 k1 m3=>bC (aL (mK x).2.1 m3 c2) (aJ m3 (mK x).2.2 c2) (∃(I2:QV×QV×Sl×Int×MH×PH->Prop)(m4:QV×QV×Sl×Int×MH×PH->Nat),(∃(x1:QV×QV×Sl×Int×MH×PH),aA (I2 x1) (cV cb) (aA (aK p) dU (aA gW kC (aA (aZ (mK x).1 x1.2.2.1) (eP 13) (aA (cZ k1 x1.2.2.2.1) (cG sc) (aA lZ (dG x.2.2.1 x1.1) (aH (dG x.2.2.2.1 x1.2.1) (cO m3 (oT x1)) (dO (mK x).2.2 (oT x1)) True)))))))/\∀(x1:QV×QV×Sl×Int×MH×PH),I2 x1->gQ x1.2.2.2.1 0 (bZ cb (aG x1.2.2.1) (oT x1).1 (oT x1).2 0 (λc3 k2 m5=>bC (aL (oT x1).1 m5 c3) (aJ m5 (oT
 x1).2 c3) (∃(x2:List (List Value)),aH (dW m5 (dR (N2 x1)) 3 1 x2) (iB ((x2.length+1)*8)) (iX x2) (iH (λs3 m6=>eZ m5 m6 (dR (N2 x1)) s3 3 1 (x2++bL (cK k2))->∃(x3:QV×QV×Sl×Int×MH×PH),aA (I2 x3) (m4 x3<m4 x1) (aA (cV cb) (aK p) (aA dU gW (aA kC (aZ x1.2.2.1 x3.2.2.1) (aA (eP 13) (cZ (eB (x1.2.2.2.1-1)) x3.2.2.2.1) (aA (cG sc) lZ (aA (dG x1.1 x3.1) (oQ 38 (gR (hX x1.2.1.op) (hX x1.2.1.table) (vU x1.2.1 (tZ s3) (tZ x1.2.1.on) (tX x1.2.1.limit (tZ x1.2.1.args))))=wC x3.2.1) (aA (cO m6 (oT x3)) (dO (oT x1).2 (oT x3)) True)))))))))))) (Fa (oT x1).1 (oT x1).2->∃(x2:QV×QV×MH×PH),xL I1 x2 p sc (dG x1.1 x2.1) (dG x1.2.1 x2.2.1) (oT x1).1 (oT x1).2)))) (∃(I2:Int×Int×QV×
 QV×Sl×Bool×MH×PH->Prop),eJ x.2.1 4 (∃(x1:Int×Int×QV×QV×Sl×Bool×MH×PH),aA (I2 x1) (cV cb) (aA (aK p) (cZ x.1 x1.1) (aA dU gW (aA (cZ x.2.1 x1.2.1) kC (aA (aZ (mK x).1 (uI x1.2)) (eP 13) (aA (cZ x.2.1 x1.2.1) (uK (Ad x1.2)) (aA (cG sc) lZ (aA (dG x.2.2.1 (pC x1.2)) (dG x.2.2.2.1 (oG x1.2)) (aA (cO (mK x).2.1 (mW x1.2)) (dO (mK x).2.2 (mW x1.2)) True))))))))) (∃(x1:Int×Int×QV×QV×Sl×Bool×MH×PH),aA (I2 x1) (cV cb) (aA (aK p) (cZ x.1 x1.1) (aA dU gW (aA (cZ x.2.1 x1.2.1) kC (aA (aZ (mK x).1 (uI x1.2)) (eP 13) (aA (cZ x.2.1 x1.2.1) (gH (x.2.1==5) (Ad x1.2)) (aA (cG sc) lZ (aA (dG x.2.2.1 (pC x1.2)) (dG x.2.2.2.1 (oG x1.2)) (aA (cO
 (mK x).2.1 (mW x1.2)) (dO (mK x).2.2 (mW x1.2)) True)))))))))/\∀(x1:Int×Int×QV×QV×Sl×Bool×MH×PH),gU (I2 x1) (Ad x1.2) (∃(c2:Nat),CP (λs3 p3=>zE (λs4 p4=>∃(d1:Int),aA (rX cb 0::bT (bR sc) (bU (kU p) (eB (x1.1-2)))=rX c2 0::bT (bR s3) (bU (kU p3) d1)) (aJ (mW x1.2).1 (jP x1.2) c2) (aA (gM (jP x1.2) s4 s3) (eG s4=0) (aA (jU (s4.tables=[])) (Ints (jP x1.2) p3 p4) (aA (gL p4) (nD (EN p4)) (aH (Int.negSucc 0<=d1) (d1<=1000) ((d1+1).toNat<N) (DV (λw1 q1=>eA (λm3 h3=>dZ (jP x1.2) h3 (dK h3 q1 w1) (bC (QW q1) (zN d1.toNat q1) (bC ((fB s4 p4 q1).2=0) (aL (mW x1.2).1 m3 c2) (jG m3 h3 c2 (DJ (bT (bR sc) (fW p (bJ w1))) h3 (λ_ _ _ s5 h4=>∃(I3:QV×
 QV×QV×Sl×Sl×MH×PH->Prop),eJ x1.2.1 4 (fC (eB (aG (uI x1.2)+aG s5)) 8 (Jc (λx2=>I3 x2) cb p x1 (λx2=>x2) (λx2=>aA (eP 15) (aZ s5 (mA (i6 x2))) (aA (cG sc) lZ (aA (dG (pC x1.2) x2.1) (oQ 38 (gR (hX 5) (hX (oG x1.2).table) (vU (oG x1.2) (wR (oG x1.2)) (tZ (oG x1.2).on) (tX (oG x1.2).limit (tZ (oG x1.2).args))))=wC (iU x2)) (aA (dG w1 (mU x2)) (cO m3 (fS (i6 x2))) (kI h4 (fS (i6 x2)))))))) (Jc (λx2=>I3 x2) cb p x1 (λx2=>x2) (λx2=>aA (eP 15) (aZ s5 (mA (i6 x2))) (aA (cG sc) lZ (aA (dG (pC x1.2) x2.1) (dG (oG x1.2) (iU x2)) (aA (dG w1 (mU x2)) (cO m3 (fS (i6 x2))) (kI h4 (fS (i6 x2))))))))) (Jc (λx2=>I3 x2) cb p x1
 (λx2=>x2) (λx2=>aA (eP 15) (aZ s5 (mA (i6 x2))) (aA (cG sc) lZ (aA (dG (pC x1.2) x2.1) (dG (oG x1.2) (iU x2)) (aA (dG w1 (mU x2)) (cO m3 (fS (i6 x2))) (kI h4 (fS (i6 x2))))))))/\∀(x2:QV×QV×QV×Sl×Sl×MH×PH),I3 x2->(∃(c3:Nat),kV (λs6 t=>qK (λa b=>aA (rX cb 0::gP (i6 x2).1 (mA (i6 x2))=rX c3 0::gP s6 t) (aJ (jF (i6 x2)) (tC x2) c3) (aA (Ints (tC x2) s6 a) (Ints (tC x2) t b) (aA (gL a) (gL b) (∀(o:Sl)(o1:List (Int×Int)),eA (λm4 h5=>dZ (tC x2) h5 (mG h5 o o1) (bC (o1.length<=10) (aL (jF (i6 x2)) m4 c3) (jG m4 h5 c3 (iH (λs7 m5=>nY m4 m5 h5 s7 38 21 (bL (mU x2).enc)->∃(x3:List (List Value)),BE (dW m5 (dR (F8 x2))
 38 21 x3) (λy=>aA (eV 21 y) (oW m5 h5 (dR s7) 21 y) (aA (sJ x3 y 280) (sK x3 y) (∀(s8:Sl)(m6:MH),bC (eZ m5 m6 (dR (F8 x2)) s8 38 21 (x3++y)) (Fa m6 h5) (∃(x4:QV×QV×MH×PH),xL I1 x4 p sc (dG x2.1 x4.1) (oQ 38 (gR (hX (iU x2).op) (hX (iU x2).table) (vU (iU x2) (wR (iU x2)) (tZ o) (tX (iU x2).limit (tZ s8))))=wC x4.2.1) m6 h5)))))))))))))))/\iH (λs6 m4=>nY (jF (i6 x2)) m4 (tC x2) s6 38 21 (bL (mU x2).enc)->∃(c3:Nat),kV (λs7 t=>qK (λa b=>aA (rX cb 0::gP (i6 x2).1 (mA (i6 x2))=rX c3 0::gP s7 t) (aJ m4 (tC x2) c3) (aA (Ints (tC x2) s7 a) (Ints (tC x2) t b) (aA (gL a) (gL b) (∀(o:Sl)(o1:List (Int×Int)),eA (λm5 h5=>dZ (tC x2) h5 (mG h5 o
 o1) (bC (o1.length<=10) (aL m4 m5 c3) (jG m5 h5 c3 (∃(x3:List (List Value)),BE (dW m5 (dR (F8 x2)) 38 21 x3) (λy=>aA (eV 21 y) (oW m5 h5 (dR s6) 21 y) (aA (sJ x3 y 280) (sK x3 y) (∀(s8:Sl)(m6:MH),bC (eZ m5 m6 (dR (F8 x2)) s8 38 21 (x3++y)) (Fa m6 h5) (∃(x4:QV×QV×MH×PH),xL I1 x4 p sc (dG x2.1 x4.1) (oQ 38 (gR (hX (iU x2).op) (hX (iU x2).table) (vU (iU x2) (wR (iU x2)) (tZ o) (tX (iU x2).limit (tZ s8))))=wC x4.2.1) m6 h5))))))))))))))))))))))))))))) (∃(I3:Int×QV×QV×Sl×Bool×MH×PH->Prop),dH (x1.2.1==6) (Je (λx2=>I3 x2) cb p x1 (λx2=>x2) (λx2=>Jd x1 x2 (uK (Ad x2)) sc)) (x1.2.1==7) (Je (λx2=>I3 x2) cb p x1 (λx2=>x2) (λx2=>Jd x1 x2 (uK (Ad x2)) sc)) (Je
 (λx2=>I3 x2) cb p x1 (λx2=>x2) (λx2=>Jd x1 x2 (gH (x1.2.1==8) (Ad x2)) sc))/\∀(x2:Int×QV×QV×Sl×Bool×MH×PH),I3 x2->dH (Ad x2) (∃(c2:Nat)(s3:bH),kV (λp3 k1=>∃(v:QV),zE (λs4 p4=>∃(k2:List Int)(q1:Query),aA (rX cb 0::bT (bR sc) (dP p (fW (uI x2) (bJ (pC x2))))=rX c2 0::bT (bR s3) (dP p3 (fW k1 (bJ v)))) (aJ (mW x2).1 (jP x2) c2) (aA (gM (jP x2) s4 s3) (oY s4) (aA (mX s4.tables.length) (Ints (jP x2) p3 p4) (aA (gL p4) (Ints (jP x2) k1 k2) (aH (gL k2) (dK (jP x2) q1 v) (QW q1) (DV (λw1 q2=>eA (λm3 h3=>dZ (jP x2) h3 (dK h3 q2 w1) (bC (XU s4 p4 k2 q1 q2) (aL (mW x2).1 m3 c2) (jG m3 h3 c2 (iH (λs5 m4=>nY m3 m4 h3 s5 38 21 (bL w1.enc)
 ->∃(x3:List (List Value)),BE (dW m4 (dR (oG x2).args) 38 21 x3) (λy=>aA (eV 21 y) (oW m4 h3 (dR s5) 21 y) (aA (sJ x3 y 280) (sK x3 y) (∀(s6:Sl)(m5:MH),bC (eZ m4 m5 (dR (oG x2).args) s6 38 21 (x3++y)) (Fa m5 h3) (∃(x4:QV×QV×MH×PH),xL I1 x4 p sc (dG (pC x2) x4.1) (oQ 38 (qQ (oG x2) (tZ s6))=wC x4.2.1) m5 h3)))))))))))))))))) (x2.1==9) (∃(c2:Nat)(v:QV),AL (λs3 k1=>aA (rX cb 0::bI (bJ (oG x2)) (kU (uI x2))=rX c2 0::bI (jM (DH v v (aY (jI (iW v)) (iY (fX v)) (aY (rQ (fX v)) (eW (qO (fX v))) (aY (rO (fX v)) (jI (fX v)) (aY (oI v) (oK v) (aY (eR v.on) tT (aY tT (eW v.limit) (aR v.args))))))))) (kU s3)) (aJ (mW x2).1 (jP x2) c2) (aA (Ints (jP x2) s3 k1)
 (gL k1) (∀(g o:Sl)(k2:Int)(g1:List Int)(o1:List (Int×Bool)),eA (λm3 h3=>dZ (jP x2) h3 (Ints h3 g g1) (bC (jC h3 o o1) (g1.length<=k1.length) (bC (o1.length<=k1.length) (cN k2) (bC (k2<=3) (aL (mW x2).1 m3 c2) (bC (aJ m3 h3 c2) (Fa m3 h3) (∃(x3:QV×QV×MH×PH),xL I1 x3 p sc (dG (pC x2) x3.1) (oQ 38 (gR (hX v.op) (hX v.table) (pQ v.where_ (gR (wR v) (tZ v.on) (gR (tZ g) (tZ o) (tX k2 (tZ v.args))))))=wC x3.2.1) m3 h3)))))))))) (eJ x2.1 10 (∃(c2:Nat)(v:QV),AL (λs3 k1=>aA (rX cb 0::bI (bJ (oG x2)) (kU (uI x2))=rX c2 0::bI (jM (DH v v (aY (jI (iW v)) (iY (fX v)) (aY (rQ (fX v)) (eW (qO (fX v))) (aY (rO (fX v)) (jI (fX v)) (aY (oI v) (oK v) (aY (eR v.on) tT (aY tT
 (eW v.limit) (aR v.args))))))))) (kU s3)) (aJ (mW x2).1 (jP x2) c2) (aA (Ints (jP x2) s3 k1) (gL k1) (∀(g o:Sl)(k2:Int)(g1:List Int)(o1:List (Int×Bool)),eA (λm3 h3=>dZ (jP x2) h3 (Ints h3 g g1) (bC (jC h3 o o1) (g1.length<=k1.length) (bC (o1.length<=k1.length) (cN k2) (bC (k2<=3) (aL (mW x2).1 m3 c2) (jG m3 h3 c2 (∃(c3:Nat)(s4:bH),kV (λp3 k3=>∃(v1:QV),zE (λs5 p4=>∃(k4:List Int)(q1:Query),aA (rX cb 0::bT (bR sc) (dP p (fW (uI x2) (bJ (pC x2))))=rX c3 0::bT (bR s4) (dP p3 (fW k3 (bJ v1)))) (aJ m3 h3 c3) (aA (gM h3 s5 s4) (oY s5) (aA (mX s5.tables.length) (Ints h3 p3 p4) (aA (gL p4) (Ints h3 k3 k4) (aH (gL k4) (dK h3 q1 v1) (QW q1) (DV (λw1 q2=>eA (λm4 h4=>
 dZ h3 h4 (dK h4 q2 w1) (bC (XU s5 p4 k4 q1 q2) (aL m3 m4 c3) (jG m4 h4 c3 (iH (λs6 m5=>nY m4 m5 h4 s6 38 21 (bL w1.enc)->∃(x3:List (List Value)),BE (dW m5 (dR v.args) 38 21 x3) (λy=>aA (eV 21 y) (oW m5 h4 (dR s6) 21 y) (aA (sJ x3 y 280) (sK x3 y) (∀(s7:Sl)(m6:MH),bC (eZ m5 m6 (dR v.args) s7 38 21 (x3++y)) (Fa m6 h4) (∃(x4:QV×QV×MH×PH),xL I1 x4 p sc (dG (pC x2) x4.1) (oQ 38 (gR (hX v.op) (hX v.table) (pQ v.where_ (gR (wR v) (tZ v.on) (gR (tZ g) (tZ o) (tX k2 (tZ s7))))))=wC x4.2.1) m6 h4))))))))))))))))))))))))))) ((∃(c2:Nat),yF (λs3 t c3 p3 d1=>aA (rX cb 0::dP (uI x2) (bU (kU p) 2)=vA c2 s3 t d1) (aJ (mW x2).1 (jP x2) c2) (aA (Ints (jP x2) s3 c3) (Ints (jP x2) t p3) (aH (gL c3)
 (gL p3) (mX d1) (BD (λv p4=>eA (λm3 h3=>dZ (jP x2) h3 (fF h3 p4 v) (bC (wZ c3 p3 d1 p4) (aL (mW x2).1 m3 c2) (jG m3 h3 c2 (∀(s4:Sl)(m4:MH),bC (nY m3 m4 h3 s4 38 21 (bL (pC x2).enc)) (Fa m4 h3) (∃(x3:QV×QV×MH×PH),xL I1 x3 p sc (dG (pC x2) x3.1) (oQ 38 (gR (hX 2) (hX 0) (pQ v (Jf (tX 0 (tZ s4)))))=wC x3.2.1) m4 h3)))))))))))/\iH (λs3 m3=>nY (mW x2).1 m3 (jP x2) s3 38 21 (bL (pC x2).enc)->∃(c2:Nat),yF (λs4 t c3 p3 d1=>aA (rX cb 0::dP (uI x2) (bU (kU p) 2)=vA c2 s4 t d1) (aJ m3 (jP x2) c2) (aA (Ints (jP x2) s4 c3) (Ints (jP x2) t p3) (aH (gL c3) (gL p3) (mX d1) (BD (λv p4=>eA (λm4 h3=>dZ (jP x2) h3 (fF h3 p4 v) (bC (wZ c3 p3 d1 p4) (aL m3 m4
 c2) (bC (aJ m4 h3 c2) (Fa m4 h3) (∃(x3:QV×QV×MH×PH),xL I1 x3 p sc (dG (pC x2) x3.1) (oQ 38 (gR (hX 2) (hX 0) (pQ v (Jf (tX 0 (tZ s3)))))=wC x3.2.1) m4 h3))))))))))))))/\∀(x1:QV×QV×MH×PH),I1 x1->DJ (bT (bR sc) (fW p (bJ x1.2.1))) x1.2.2.2 (λs3 p3 q1 _ h3=>fQ (fB s3 p3 q1).2 0 (K (bJ x1.1) x1.2.2.1 h3) (K (bJ x1.2.1) x1.2.2.1 h3))))))))))))))))))))
structure rZ(m0 m:MH)(s:Sl)(E:TypeId)(sz:Nat)(xs:List (List Value)):Prop where
 row:dW m s E sz xs
 fresh:∀b i,s.a=some ⟨b,i,none⟩->m0 b=none
def Kept(m0 m:MH)(cb:Nat):Prop:=∀b o,m0 b=some o->b≠cb->m b=some o
theorem Kept.of{m0:MH}(h:aL m0 m cb):Kept m0 m cb:=λb o e n=>by rw[h.other b n];exact e
theorem Kept.on{m0:MH}(k:Kept m0 m cb)(h:aL m m' cb):Kept m0 m' cb:=λb o e n=>by rw[h.other b n];exact k b o e n
theorem aJ.blk(c:aJ m h cb):∃cs,m cb=some (.cells cs 82 (0,0)):=by
 obtain⟨r,q,cs,k,q1,_⟩:=c;exact⟨_,q1⟩
theorem aJ.keep(c:aJ m h cb)(e:m' cb=m cb)(le:PH.le h h'):aJ m' h' cb:=by
 obtain⟨r,q,cs,k,q1,q2,q3⟩:=c;exact⟨r,q,cs,k,by rw[e];exact q1,q2.mono le,q3⟩
theorem Kept.free{m0:MH}(k:Kept m0 m cb)(c:aJ m h cb)(hb:m b=none):m0 b=none:=by
 cases e:m0 b with
 |none=>rfl
 |some o=>
  by_cases hc:b=cb
  .obtain⟨cs,e2⟩:=c.blk;rw[hc,e2]at hb;cases hb
  .rw[k b o e hc]at hb;cases hb
theorem dW.nil(m:MH)(E:TypeId)(sz:Nat):dW m cJ E sz []:=⟨⟨λ_ h=>by simp at h,λ_ h=>by simp at h⟩,.inl ⟨rfl,rfl⟩⟩
theorem rZ.nil(m0 m:MH)(E:TypeId)(sz:Nat):rZ m0 m cJ E sz []:=⟨dW.nil m E sz,λb i e=>by cases e⟩
theorem rZ.on{m0:MH}{s:Sl}{E:TypeId}(r:rZ m0 m s E sz xs)(o:aL m m' cb)(c:aJ m h cb)(hE:E≠82):rZ m0 m' s E sz xs:=by
 refine⟨dW.keep r.row (λb i e=>o.other b (λe2=>?_)),r.fresh⟩;obtain⟨cur,h1⟩:=dW.blk r.row e;obtain⟨cs,h2⟩:=c.blk;rw[e2,h2]at h1;simp only[Option.some.injEq,Obj.cells.injEq]at h1;exact hE h1.2.1.symm
theorem rZ.new{m0:MH}{s t:Sl}{E E':TypeId}{sz':Nat}{ys:List (List Value)}(r:rZ m0 m s E sz xs)(x:nY m m' h t E' sz' ys):rZ m0 m' s E sz xs:=by
 refine⟨dW.keep r.row (λb i e=>x.other b (λj e2=>?_)),r.fresh⟩;obtain⟨cur,h1⟩:=dW.blk r.row e;rw[(x.fresh b j e2).m_]at h1;cases h1
theorem nY.frow{m0:MH}{s:Sl}{E:TypeId}(x:nY m m' h s E sz xs)(k:Kept m0 m cb)(c:aJ m h cb):rZ m0 m' s E sz xs:=⟨x.row,λb i e=>k.free c (x.fresh b i e).m_⟩
theorem nY.at_cb{s:Sl}{E:TypeId}(x:nY m m' h s E sz xs)(c:aJ m h cb):m' cb=m cb:=x.other cb (λi e=>by
 obtain⟨cs,e2⟩:=c.blk;rw[(x.fresh cb i e).m_]at e2;cases e2)
theorem Kept.new{m0:MH}{s:Sl}{E:TypeId}(k:Kept m0 m cb)(x:nY m m' h s E sz xs):Kept m0 m' cb:=λb o e n=>by
 rw[x.other b (λi e2=>by have:=(x.fresh b i e2).m_;rw[k b o e n]at this;cases this)];exact k b o e n
theorem rZ.grown{m0:MH}{s s':Sl}{E:TypeId}{zs:List (List Value)}(r:rZ m0 m s E sz xs)(x:eZ m m' s s' E sz zs)(k:Kept m0 m cb)(c:aJ m h cb):rZ m0 m' s' E sz zs:=
 ⟨x.row,λb i e=>by
  rcases x.fresh b i e with h1|⟨j,h1⟩
  .exact k.free c h1
  .exact r.fresh b j h1⟩
theorem rZ.apart{m0:MH}{s t t':Sl}{E E':TypeId}{sz':Nat}{ys zs:List (List Value)}(r:rZ m0 m s E sz xs)(q:rZ m0 m t E' sz' ys)(x:eZ m m' t t' E' sz' zs)(hE:E≠E'):rZ m0 m' s E sz xs:=by
 refine⟨dW.keep r.row (λb i e=>?_),r.fresh⟩;obtain⟨cur,h1⟩:=dW.blk r.row e;rw[h1];refine x.other b _ h1 (λj e2=>?_);obtain⟨cur2,h2⟩:=dW.blk q.row e2;rw[h1]at h2;simp only[Option.some.injEq,Obj.cells.injEq]at h2;exact hE h2.2.1
theorem Kept.grown{m0:MH}{s s':Sl}{E:TypeId}{zs:List (List Value)}(k:Kept m0 m cb)(r:rZ m0 m s E sz xs)(x:eZ m m' s s' E sz zs):Kept m0 m' cb:=λb o e n=>x.other b o (k b o e n) (λi e2=>by rw[r.fresh b i e2]at e;cases e)
theorem eZ.at_cb{m0:MH}{s s':Sl}{E:TypeId}{zs:List (List Value)}(x:eZ m m' s s' E sz zs)(r:rZ m0 m s E sz xs)(c:aJ m h cb)(hE:E≠82):m' cb=m cb:=by
 obtain⟨cs,e⟩:=c.blk;rw[e];refine x.other cb _ e (λi e2=>?_);obtain⟨cur,h1⟩:=dW.blk r.row e2;rw[e]at h1;simp only[Option.some.injEq,Obj.cells.injEq]at h1;exact hE h1.2.1.symm
theorem Ph{sz:Nat}:∀{xs:List (List Value)},(∀e∈xs,e.length=sz)->xs.flatten.length=xs.length*sz
 |[],_=>by simp
 |x::xs,h=>by
  simp only[List.flatten_cons,List.length_append,List.length_cons];rw[Ph (λe he=>h e (by simp[he])),h x (by simp),Nat.add_mul];omega
theorem dW.src{s:Sl}{E:TypeId}{x:List Value}(r:dW m s E sz (x::xs)):oW m h s sz (x::xs):=by
 rcases r.ex with⟨_,e⟩|⟨b,cap,cur,rfl,hm,_,_,_,ht⟩
 .cases e
 .exact .lent b 0 cur E (0,0) rfl rfl hm (by rw[List.drop_zero,Ph r.rows.len];exact ht)
def wD(m0 m:MH):MH:=λb=>match m0 b with|some _=>m b|none=>none
def Cc(m0 m:MH)(h:PH):PH:=λb i=>match m0 b,m b with|none,some (.cells cs _ _)=>cs[i]? |_,_=>h b i
theorem Oe{m0 m:MH}{h:PH}(d:Fa m h):PH.le h (Cc m0 m h):=⟨λb i v e=>by
 unfold Cc;split
 .rename_i cs E fz h1 h2;rw[d.disj b _ h2 i]at e;cases e
 .exact e⟩
theorem Ve{m0:MH}(d:Fa m h):UN m h (wD m0 m) (Cc m0 m h):=by
 refine⟨λb o e=>?_,Oe d,λb i v e=>?_⟩
 .unfold wD at e;split at e
  .exact e
  .cases e
 .unfold Cc at e;split at e
  .rename_i cs E fz h1 h2;exact .inr ⟨cs,E,fz,h2,e,by unfold wD;rw[h1]⟩
  .exact .inl e
theorem FT{p:Prop}(h:p:=by repeat' (first|with_reducible rfl|exact trivial|exact Ve (by assumption)|refine⟨?_,?_⟩|rfl)):p:=h
theorem rZ.ice{m0:MH}{s:Sl}{E:TypeId}(r:rZ m0 m s E sz xs):cW (Cc m0 m h) s sz xs:=by
 rcases r.row.ex with⟨rfl,rfl⟩|⟨b,cap,cur,rfl,hm,hcp,_,_,ht⟩
 .exact cW.nil _ _
 .have h0:=r.fresh b 0 rfl;refine⟨rfl,.inr ⟨b,0,rfl,λi e hi=>⟨λj v hj=>?_⟩⟩,hcp⟩;have h1:=lW r.row.rows.len hi j v hj;rw[<-ht,List.getElem?_take]at h1;split at h1
  .unfold Cc;rw[h0,hm];simp only[Nat.zero_add];rw[<-Array.getElem?_toList];exact h1
  .cases h1
theorem keep_other{m0:MH}(k:Kept m0 m cb):aL m0 (wD m0 m) cb:=⟨λb hb=>by
 unfold wD;cases e:m0 b with
 |none=>rfl
 |some o=>exact k b o e hb⟩
theorem Va{m0:MH}(c:aJ m h cb)(h0:m0 cb≠none)(d:Fa m h):aJ (wD m0 m) (Cc m0 m h) cb:=c.keep (by
 unfold wD;cases e:m0 cb with
 |none=>exact(h0 e).elim
 |some o=>rfl) (Oe d)
def QA(d:Nat)(q:Query):Prop:=QW q/\LK d q
structure QM(d:Nat)(m0 m:MH)(h:PH)(v:QV)(vs:List QV):Prop where
 wher:∃w,fF h w v.where_/\GJ w
 cols:∃co:List Int,rZ m0 m v.columns 3 1 (co.map eI)/\co.length<=1000
 on_:∃l,mG h v.on l
 group_:∃l,Ints h v.group l
 order_:∃l,jC h v.order l
 args_:rZ m0 m v.args 38 21 (vs.map QV.enc)
 len_:vs.length<=2
 reps:∀v∈vs,∃q,dK h q v/\QA d q
theorem Pl{d:Nat}{h:PH}:∀{vs:List QV},(∀v∈vs,∃q,dK h q v/\QA d q)->∃qs:List Query,qs.length=vs.length/\(∀q∈qs,QA d q)/\∀(i:Nat) q,qs[i]? =some q->∃v,vs[i]? =some v/\dK h q v
 |[],_=>⟨[],rfl,λq hq=>by simp at hq,λi q e=>by simp at e⟩
 |v::vs,h1=>by
  obtain⟨q,hq,hqw⟩:=h1 v (by simp);obtain⟨qs,e1,ew,e2⟩:=Pl (vs:=vs) (λu hu=>h1 u (by simp[hu]));refine⟨q::qs,by simp[e1],λx hx=>by rcases List.mem_cons.1 hx with rfl|hx;exact hqw;exact ew x hx,λi x e=>?_⟩;cases i with
  |zero=>simp at e;subst e;exact⟨v,rfl,hq⟩
  |succ i=>simpa using e2 i x (by simpa using e)
theorem QM.ice{n:Nat}{m0:MH}{vs:List QV}(x:QM n m0 m h v vs)(d:Fa m h):∃q,dK (Cc m0 m h) q v/\QW q/\zN (n+1) q:=by
 obtain⟨w,hw,hww⟩:=x.wher;obtain⟨co,hc,hcl⟩:=x.cols;obtain⟨on,ho⟩:=x.on_;obtain⟨gr,hg⟩:=x.group_;obtain⟨od,hod⟩:=x.order_;obtain⟨qs,e1,ew,e2⟩:=Pl x.reps;have le:=Oe (m0:=m0) d;have hl:=x.len_;exact⟨_,oP.rep ⟨rfl,rfl,hw.mono le,⟨hc.ice,aC⟩,ho.mono le,hg.mono le,hod.mono le,rfl,⟨⟨vs,x.args_.ice,e1,λi q e=>let⟨v,k1,k2⟩:=e2 i q e;⟨v,k1,k2.mono le⟩⟩,aC⟩⟩,Ry.2 ⟨hww,λa ha=>(ew a ha).1⟩,zN.node (λa ha=>(ew a ha).2) aC⟩
theorem QM.on{n:Nat}{m0:MH}{vs:List QV}(x:QM n m0 m h v vs)(o:aL m m' cb)(c:aJ m h cb)(le:PH.le h h'):QM n m0 m' h' v vs:=by
 obtain⟨w,hw,hww⟩:=x.wher;obtain⟨co,hc,hcl⟩:=x.cols;obtain⟨on,ho⟩:=x.on_;obtain⟨gr,hg⟩:=x.group_;obtain⟨od,hod⟩:=x.order_;exact⟨⟨w,hw.mono le,hww⟩,⟨co,hc.on o c (by decide),hcl⟩,⟨on,ho.mono le⟩,⟨gr,hg.mono le⟩,⟨od,hod.mono le⟩,x.args_.on o c (by decide),x.len_,λv hv=>let⟨q,e,ew⟩:=x.reps v hv;⟨q,e.mono le,ew⟩⟩
theorem QM.new{d:Nat}{m0:MH}{vs:List QV}{t:Sl}{E:TypeId}{ys:List (List Value)}(x:QM d m0 m h v vs)(n:nY m m' h' t E sz ys)(le:PH.le h h'):QM d m0 m' h' v vs:=by
 obtain⟨w,hw,hww⟩:=x.wher;obtain⟨co,hc,hcl⟩:=x.cols;obtain⟨on,ho⟩:=x.on_;obtain⟨gr,hg⟩:=x.group_;obtain⟨od,hod⟩:=x.order_;exact⟨⟨w,hw.mono le,hww⟩,⟨co,hc.new n,hcl⟩,⟨on,ho.mono le⟩,⟨gr,hg.mono le⟩,⟨od,hod.mono le⟩,x.args_.new n,x.len_,λv hv=>let⟨q,e,ew⟩:=x.reps v hv;⟨q,e.mono le,ew⟩⟩
theorem QM.grow{d:Nat}{m0:MH}{v':QV}{vs:List QV}{s':Sl}{u:QV}(x:QM d m0 m h v vs)(g:eZ m m' v.args s' 38 21 (vs.map QV.enc++[u.enc]))(k:Kept m0 m cb)(c:aJ m h cb)(hu:∃q,dK h q u/\QA d q)(hl:vs.length<=1)
 (ew:v'.where_=v.where_)(ec:v'.columns=v.columns)(eo:∃l,mG h v'.on l)(eg:∃l,Ints h v'.group l)(ed:∃l,jC h v'.order l)(ea:v'.args=s'):QM d m0 m' h v' (vs++[u]):=by
 obtain⟨co,hc,hcl⟩:=x.cols;refine⟨by rw[ew];exact x.wher,⟨co,by rw[ec];exact hc.apart x.args_ g (by decide),hcl⟩,eo,eg,ed,by rw[ea,List.map_append];exact x.args_.grown g k c,by simp;omega,λv hv=>?_⟩;rcases List.mem_append.1 hv with h1|h1
 .exact x.reps v h1
 .simp at h1;subst h1;exact hu
theorem TR(h:eG s=0):Ci s:=Classical.byContradiction λhn=>by rw[uF hn]at h;cases h
theorem uE(h:eG s=0):oY s:=λt ht=>by
 obtain⟨i,hi⟩:=List.mem_iff_getElem?.1 ht;have:=(TR h).2 i t hi;exact this.1
theorem Bl(h:eG s=0):s.tables.length<=8:=(TR h).1
theorem EG(s:pV)(ps:List Int)(q:Query):(fB s ps q).1.length<=12:=by
 unfold fB;split
 .split
  .split
   .exact B8 s ps q
   .simp[jS]
  .simp[jS]
 .simp[jS]
theorem NP{t:Int}(he:eG s=0)(hp:ps.all cT=true)(h0:0<=t)(h1:t<s.tables.length):(fB s ps (.mk 1 t iL [] [] [] [] 0 [])).2=0:=by
 have h8:=uE he
 have hk:(iI s t).length<=12:=by
  unfold iI;split
  .simp
  .split
   .simp
   .rename_i x hx;have:=h8 x (List.mem_of_getElem? hx);simp;omega
 have e1:cA s ps (.mk 1 t iL [] [] [] [] 0 [])=iT s ps (.mk 1 t iL [] [] [] [] 0 []) [] []:=by simp[cA,fT,arity]
 have e2:j9 (.mk 1 t iL [] [] [] [] 0 [])=true:=by rfl
 unfold fB;rw[if_pos he,if_pos hp,if_pos e2,e1];unfold iT;rw[if_neg (by simp[arity,eF])];simp only[if_true];rw[if_pos ⟨h0,h1⟩];unfold AO;rw[if_pos hk]
structure Mid(m0:MH)(h3:PH)(cb:Nat)(a q:QV)(mx:MH):Prop where
 case_:aJ mx h3 cb
 kept:Kept m0 mx cb
 ex:∃o args,q=⟨o,0,gT,cJ,cJ,cJ,cJ,0,args⟩/\rZ m0 mx args 38 21 ([a].map QV.enc)
theorem Mid.qm{d:Nat}{m0 mx:MH}{h3:PH}{a q:QV}(x:Mid m0 h3 cb a q mx)(hr:∃qa,dK h3 qa a/\QA d qa):QM d m0 mx h3 q [a]:=by
 obtain⟨o,args,rfl,hf⟩:=x.ex;exact⟨⟨_,yM h3,Bq⟩,⟨[],rZ.nil _ _ _ _,by simp⟩,⟨_,oA _⟩,⟨_,jK _⟩,⟨_,uD _⟩,hf,by simp,λv hv=>by simp at hv;subst hv;exact hr⟩
theorem Uj:∀N,Sound Tryz.prog 13 (TC N)
 |0=>by
  refine fA (fn:=Tryz.f13) (c:=cQ Tryz.f13) Tryz.func13 rfl (by decide) ?_;rintro cvs m h K ⟨cb,sc,p,s,ps,deep,rfl,_,_,_,_,_,_,_,_,_,hN,_⟩;omega
 |N+1=>by
  refine iJ Tryz.func13 ?_;rintro cvs m h K ⟨cb,sc,p,s,ps,deep,rfl,hc,hs,he,hne,hp,hpl,hpk,d0,d1,hN,hK⟩;refine⟨Zs N cb sc p,rfl,aD Gi (aD Mp (aD Mq (aD VB (aD VK (aD VA (aD Hp (aD (Uj N) aF))))))),QL N cb sc p deep m h K,by kernel_rfl,?_⟩;have htl:=hs.tables.slen;have h8:=uE he;have ht8:=Bl he;have htp:0<s.tables.length:=List.length_pos_iff.2 hne;have hif:(if(sc.tables.len:Int)>1 then(sc.tables.len:Int)else 1)=(sc.tables.len:Int):=by split<;>omega
  have hm0:m cb≠none:=by obtain⟨cs,e⟩:=hc.blk;rw[e];simp
  dsimp only[QL,push_cast];rw[hif];refine⟨cb,12,rfl,hc,λk m1 k0 k1 o1 c1=>?_⟩;refine aE (λhd=>?_) (λhd=>aB (λ_=>?_) (λ_=>aB (λ_=>?_) (λ_=>?_)))
  .exact⟨cb,_,rfl,c1,λk2 m2 k20 k21 o2 c2=>⟨k2,rfl,hK _ _ m2 h (.refl _) (AT h k2) (Fx k2) (zN.mono (d:=0) oO.scan (Nat.zero_le _)) (NP he hpk k20 aC) (o1.trans o2) c2⟩⟩
  .exact⟨cb,_,rfl,c1,λk2 m2 k20 k21 o2 c2=>⟨k2,rfl,hK _ _ m2 h (.refl _) (AT h k2) (Fx k2) (zN.mono (d:=0) oO.scan (Nat.zero_le _)) (NP he hpk k20 aC) (o1.trans o2) c2⟩⟩
  .exact⟨cb,_,rfl,c1,λk2 m2 k20 k21 o2 c2=>⟨k2,rfl,hK _ _ m2 h (.refl _) (AT h k2) (Fx k2) (zN.mono (d:=0) oO.scan (Nat.zero_le _)) (NP he hpk k20 aC) (o1.trans o2) c2⟩⟩
  have hw1:IntKind.i64.wrap (deep-1)=deep-1:=dX aC aC;have hw2:IntKind.i64.wrap (deep-2)=deep-2:=dX aC aC;rw[hw1];refine⟨cb,sc,p,s,ps,deep-1,rfl,c1,hs,he,hne,hp,hpl,hpk,aC,aC,aC,λa qa m2 h2 le2 ra qaw0 qaf qa0 o2 c2=>⟨sc,p,a,s,ps,qa,rfl,hs.mono le2,hp.mono le2,ra,λkk h3 le3 ik=>?_⟩⟩;have hkl:=EG s ps qa;obtain⟨dd,hdd⟩:∃dd,(deep-1).toNat=dd:=⟨_,rfl⟩
  have hde:deep.toNat=dd+1:=by omega
  rw[hdd]at qaf;have qaw:QA dd qa:=⟨qaw0,qaf.arg⟩
  generalize hks:(fB s ps qa).fst=ks at ik hkl;clear hks;have hle3:PH.le h h3:=le2.trans le3;have ra3:dK h3 qa a:=ra.mono le3;refine⟨λ⟨d,op,a',q,k',mx,hx⟩=>d=deep/\a'=a/\k'=kk/\hx=h3/\Mid m h3 cb a q mx,λs1 m3 hnew=>⟨(deep,IntKind.i64.wrap (1+k),a,⟨IntKind.i64.wrap (1+k),0,gT,cJ,cJ,cJ,cJ,0,s1⟩,kk,m3,h3),⟨rfl,rfl,rfl,rfl,?_⟩,MT⟩,?_⟩
  .have k2:=(Kept.of o1).on o2;have c3:=c2.mono le3;exact⟨c3.keep (nY.at_cb hnew c3) (.refl _),k2.new hnew,_,_,rfl,nY.frow hnew k2 c3⟩
  rintro⟨deep,op,a',q,k',mx,hx⟩ ⟨rfl,rfl,rfl,rfl,mid⟩;dsimp only;have reach:∀(q:QV)(vs:List QV)(my:MH)(hy:PH),PH.le hx hy->Kept m my cb->aJ my hy cb->QM dd m my hy q vs->Fa my hy->PH.le hx (Cc m my hy)/\aL m (wD m my) cb/\aJ (wD m my) (Cc m my hy) cb/\∃qq,dK (Cc m my hy) qq q/\QW qq/\zN (dd+1) qq:=λq vs my hy l k c x d=>⟨l.trans (Oe d),keep_other k,Va c hm0 d,x.ice d⟩
  have join:∀(q:QV)(u:QV)(s1:Sl)(my:MH)(hy:PH)(Q:Sl->MH->Prop),PH.le hx hy->Kept m my cb->aJ my hy cb->QM dd m my hy q [a']->rZ m my s1 38 21 [u.enc]->(∃qu,dK hy qu u/\QA dd qu)->
   (∀s' m',(∀q':QV,q'.where_=q.where_->q'.columns=q.columns->(∃l,mG hy q'.on l)->(∃l,Ints hy q'.group l)->(∃l,jC hy q'.order l)->q'.args=s'->QM dd m m' hy q' [a',u])->Kept m m' cb->aJ m' hy cb->Q s' m')->
   ∃xs,dW my ⟨q.args.a,q.args.len,q.args.cap⟩ 38 21 xs/\∃ys,eV 21 ys/\oW my hy ⟨s1.a,s1.len,s1.cap⟩ 21 ys/\(xs.length+ys.length)*280<=140737488355328/\xs.length+ys.length<=140737488355328/\∀(s':Sl)(m':MH),eZ my m' ⟨q.args.a,q.args.len,q.args.cap⟩ s' 38 21 (xs++ys)->Q s' m':=
   λq u s1 my hy Q l k c x f hu hQ=>⟨_,x.args_.row,[u.enc],Wz [u],dW.src f.row,by simp,by simp,λs' m' g=>hQ s' m' (λq' e1 e2 e3 e4 e5 e6=>x.grow g k c hu (by simp) e1 e2 e3 e4 e5 e6) (k.grown x.args_ g) (c.keep (eZ.at_cb g x.args_ c (by decide)) (.refl _))⟩
  refine⟨λ⟨a2,q,my,hy⟩=>a2=a'/\PH.le hx hy/\aL m my cb/\aJ my hy cb/\∃qq,dK hy qq q/\QW qq/\zN (dd+1) qq,aB (λ_=>?_) (λ_=>?_),?_⟩
  ·
   refine⟨cb,3,rfl,mid.case_,λn m3 n0 n1 o3 c3=>?_⟩;refine⟨λ⟨a2,q,k2,n,my,hy⟩=>a2=a'/\k2=k'/\hy=hx/\ -1<=n/\n<=2/\aJ my hx cb/\Kept m my cb/\QM dd m my hx q [a']/\∃co:List Int,rZ m my q.columns 3 1 (co.map eI)/\(co.length:Int)<=2-n,λ⟨_,_,_,n,_,_⟩=>(n+1).toNat,⟨(a',q,k',n,m3,hx),⟨rfl,rfl,rfl,by show-1<=n;omega,by show n<=2;omega,c3,mid.kept.on o3,(mid.qm ⟨qa,ra3,qaw⟩).on o3 mid.case_ (.refl _),[],?_,by simp;omega⟩,MT⟩,?_⟩
   .obtain⟨o,args,rfl,hf⟩:=mid.ex;exact rZ.nil _ _ _ _
   clear mid q c3 o3 m3 n0 n1 n;rintro⟨a2,q,k2,n,my,hy⟩ ⟨rfl,rfl,rfl,n0,n1,cy,ky,qm,co,fco,hcol⟩;dsimp only;refine aE (λhn=>⟨cb,_,rfl,cy,λc m4 _ _ o4 c4=>⟨_,(fco.on o4 cy (by decide)).row,by simp;omega,by simp;omega,λs' m5 g=>?_⟩⟩) (λhn d=>⟨(a2,q,wD m my,Cc m my hy),⟨rfl,reach q _ my hy (.refl _) ky cy qm d⟩,FT⟩);have f4:=fco.on o4 cy (by decide);have q4:=qm.on o4 cy (.refl _);have k4:=ky.on o4;have f5:rZ m m5 s' 3 1 ((co++[c]).map eI):=by rw[List.map_append];exact f4.grown g k4 c4
   have hw3:IntKind.i64.wrap (n-1)=n-1:=dX aC aC;rw[hw3];refine⟨(a2,{q with columns:=s'},k2,n-1,m5,hy),⟨rfl,rfl,rfl,by show-1<=n-1;omega,by show n-1<=2;omega,c4.keep (eZ.at_cb g f4 c4 (by decide)) (.refl _),k4.grown f4 g,⟨q4.wher,⟨_,f5,by simp;omega⟩,q4.on_,q4.group_,q4.order_,q4.args_.apart f4 g (by decide),q4.len_,q4.reps⟩,_,f5,by simp;omega⟩,by show(n-1+1).toNat<(n+1).toNat;omega,MT⟩
  .refine⟨λ⟨d,op,a2,q,k2,t,my,hy⟩=>d=deep/\a2=a'/\k2=k'/\hy=hx/\Mid m hx cb a' q my,aB (λ_=>⟨(deep,op,a',q,k',true,mx,hx),⟨rfl,rfl,rfl,rfl,mid⟩,MT⟩) (λ_=>⟨(deep,op,a',q,k',op==5,mx,hx),⟨rfl,rfl,rfl,rfl,mid⟩,MT⟩),?_⟩;clear mid q mx;rintro⟨deep,op,a',q,k',t,mx,hx⟩ ⟨rfl,rfl,rfl,rfl,mid⟩;dsimp only;refine aB (λ_=>?_) (λ_=>?_)
   ·
    rw[hw2];refine⟨cb,sc,p,s,ps,deep-2,rfl,mid.case_,hs.mono hle3,he,hne,hp.mono hle3,hpl,hpk,by show-1<=deep-2;omega,aC,aC,λb qb m5 h5 le5 rb qbw0 qbf _ o5 c5=>⟨sc,p,b,s,ps,qb,rfl,hs.mono (hle3.trans le5),hp.mono (hle3.trans le5),rb,λl h6 le6 il=>?_⟩⟩;have qbw:QA dd qb:=⟨qbw0,(qbf.mono aC).arg⟩
    have hll:=EG s ps qb;generalize hls:(fB s ps qb).fst=ls at il hll;have q6:QM dd m m5 h6 q [a']:=(mid.qm ⟨qa,ra3,qaw⟩).on o5 mid.case_ (le5.trans le6);have k6:=mid.kept.on o5;have c6:=c5.mono le6;refine⟨λ⟨a2,b2,q,k2,l2,my,hy⟩=>a2=a'/\b2=b/\k2=k'/\l2=l/\hy=h6/\aJ my h6 cb/\Kept m my cb/\QM dd m my h6 q [a'],aB (λ_=>aE (λ_=>⟨(a',b,{q with op:=5},k',l,m5,h6),⟨rfl,rfl,rfl,rfl,rfl,c6,k6,⟨q6.wher,q6.cols,q6.on_,q6.group_,q6.order_,q6.args_,q6.len_,q6.reps⟩⟩,MT⟩) (λ_=>⟨(a',b,q,k',l,m5,h6),⟨rfl,rfl,rfl,rfl,rfl,c6,k6,q6⟩,MT⟩)) (λ_=>⟨(a',b,q,k',l,m5,h6),⟨rfl,rfl,rfl,rfl,rfl,c6,k6,q6⟩,MT⟩),?_⟩;have rb6:=rb.mono le6;have hx6:PH.le hx h6:=le5.trans le6;clear q6 k6 c6 o5 c5 rb le5 mid q;rintro⟨a2,b,q,k2,l,my,h6⟩ ⟨rfl,rfl,rfl,rfl,rfl,c6,k6,q6⟩;dsimp only;refine⟨⟨cb,k2,l,ks,ls,rfl,c6,ik.mono hx6,il,aC,aC,λo on m7 h7 le7 hon _ o7 c7 s1 m8 hnew=>?_⟩,λs1 m7 hnew=>⟨cb,k2,l,ks,ls,rfl,c6.keep (nY.at_cb hnew c6) (.refl _),ik.mono hx6,il,aC,aC,λo on m8 h7 le7 hon _ o8 c8=>?_⟩⟩
    .have k7:=k6.on o7;refine join q b s1 m8 h7 _ (hx6.trans le7) (k7.new hnew) (c7.keep (nY.at_cb hnew c7) (.refl _)) ((q6.on o7 c6 le7).new hnew (.refl _)) (nY.frow hnew k7 c7) ⟨qb,rb6.mono le7,qbw⟩ (λs' m9 hq k9 c9 d=>?_);exact⟨(a2,{q with on:=o,args:=s'},wD m m9,Cc m m9 h7),⟨rfl,reach _ _ m9 h7 (hx6.trans le7) k9 c9 (hq {q with on:=o,args:=s'} rfl rfl ⟨on,hon⟩ (let⟨l,e⟩:=q6.group_;⟨l,e.mono le7⟩) (let⟨l,e⟩:=q6.order_;⟨l,e.mono le7⟩) rfl) d⟩,FT⟩
    .have k7:=k6.new hnew;have c7:aJ m7 h6 cb:=c6.keep (nY.at_cb hnew c6) (.refl _);have k8:=k7.on o8;refine join q b s1 m8 h7 _ (hx6.trans le7) k8 c8 ((q6.new hnew (.refl _)).on o8 c7 le7) ((nY.frow hnew k6 c6).on o8 c7 (by decide)) ⟨qb,rb6.mono le7,qbw⟩ (λs' m9 hq k9 c9 d=>?_);exact⟨(a2,{q with on:=o,args:=s'},wD m m9,Cc m m9 h7),⟨rfl,reach _ _ m9 h7 (hx6.trans le7) k9 c9 (hq {q with on:=o,args:=s'} rfl rfl ⟨on,hon⟩ (let⟨l,e⟩:=q6.group_;⟨l,e.mono le7⟩) (let⟨l,e⟩:=q6.order_;⟨l,e.mono le7⟩) rfl) d⟩,FT⟩
   .refine⟨λ⟨op,a2,q,k2,t,my,hy⟩=>a2=a'/\k2=k'/\hy=hx/\Mid m hx cb a' q my,aB (λ_=>⟨(op,a',q,k',true,mx,hx),⟨rfl,rfl,rfl,mid⟩,MT⟩) (λ_=>aB (λ_=>⟨(op,a',q,k',true,mx,hx),⟨rfl,rfl,rfl,mid⟩,MT⟩) (λ_=>⟨(op,a',q,k',op==8,mx,hx),⟨rfl,rfl,rfl,mid⟩,MT⟩)),?_⟩;clear mid q mx;rintro⟨op,a',q,k',t,mx,hx⟩ ⟨rfl,rfl,rfl,mid⟩;dsimp only;have q3:=mid.qm ⟨qa,ra3,qaw⟩;refine aB (λ_=>?_) (λ_=>aB (λ_=>?_) (λ_=>aB (λ_=>?_) (λ_=>?_)))
    ·
     refine⟨cb,sc,p,k',a',s,ps,ks,qa,rfl,mid.case_,hs.mono hle3,h8,aC,hp.mono hle3,hpl,ik,aC,ra3,qaw.1,λw qw m5 h5 le5 rw5 qww o5 c5 s1 m6 hnew=>?_⟩;have k5:=mid.kept.on o5;refine join q w s1 m6 h5 _ le5 (k5.new hnew) (c5.keep (nY.at_cb hnew c5) (.refl _)) ((q3.on o5 mid.case_ le5).new hnew (.refl _)) (nY.frow hnew k5 c5) ⟨qw,rw5,qww.qw,qww.siz dd qaf⟩ (λs' m9 hq k9 c9 d=>?_);have q5:=q3.on o5 mid.case_ le5;exact⟨(a',{q with args:=s'},wD m m9,Cc m m9 h5),⟨rfl,reach _ _ m9 h5 le5 k9 c9 (hq {q with args:=s'} rfl rfl q5.on_ q5.group_ q5.order_ rfl) d⟩,FT⟩
    ·
     obtain⟨o,args,rfl,hf⟩:=mid.ex;refine⟨cb,⟨o,0,gT,cJ,cJ,cJ,cJ,0,args⟩,k',ks,rfl,mid.case_,ik,aC,λg od kk gr odl m5 h5 le5 hg hod _ _ _ _ o5 c5 d=>?_⟩;have q5:=q3.on o5 mid.case_ le5;exact⟨(a',⟨o,0,gT,cJ,cJ,g,od,kk,args⟩,wD m m5,Cc m m5 h5),⟨rfl,reach _ [a'] m5 h5 le5 (mid.kept.on o5) c5 ⟨q5.wher,q5.cols,q5.on_,⟨gr,hg⟩,⟨odl,hod⟩,q5.args_,q5.len_,q5.reps⟩ d⟩,FT⟩
    ·
     obtain⟨o,args,rfl,hf⟩:=mid.ex;refine⟨cb,⟨o,0,gT,cJ,cJ,cJ,cJ,0,args⟩,k',ks,rfl,mid.case_,ik,aC,λg od kk gr odl m5 h5 le5 hg hod _ _ _ _ o5 c5=>?_⟩;have q5:=q3.on o5 mid.case_ le5;have q5':QM dd m m5 h5 ⟨o,0,gT,cJ,cJ,g,od,kk,args⟩ [a']:=⟨q5.wher,q5.cols,q5.on_,⟨gr,hg⟩,⟨odl,hod⟩,q5.args_,q5.len_,q5.reps⟩
     refine⟨cb,sc,p,k',a',s,ps,ks,qa,rfl,c5,hs.mono (hle3.trans le5),h8,aC,hp.mono (hle3.trans le5),hpl,ik.mono le5,aC,ra3.mono le5,qaw.1,λw qw m6 h6 le6 rw6 qww o6 c6 s1 m7 hnew=>?_⟩;have k6:=(mid.kept.on o5).on o6;refine join ⟨o,0,gT,cJ,cJ,g,od,kk,args⟩ w s1 m7 h6 _ (le5.trans le6) (k6.new hnew) (c6.keep (nY.at_cb hnew c6) (.refl _)) ((q5'.on o6 c5 le6).new hnew (.refl _)) (nY.frow hnew k6 c6) ⟨qw,rw6,qww.qw,qww.siz dd qaf⟩ (λs' m9 hq k9 c9 d=>?_);exact⟨(a',⟨o,0,gT,cJ,cJ,g,od,kk,s'⟩,wD m m9,Cc m m9 h6),⟨rfl,reach _ _ m9 h6 (le5.trans le6) k9 c9 (hq ⟨o,0,gT,cJ,cJ,g,od,kk,s'⟩ rfl rfl ⟨_,oA _⟩ ⟨gr,hg.mono le6⟩ ⟨odl,hod.mono le6⟩ rfl) d⟩,FT⟩
    ·
     refine⟨⟨cb,k',p,ks,ps,2,rfl,mid.case_,ik,hp.mono hle3,aC,hpl,aC,λpv pp m5 h5 le5 rp rpw o5 c5 s1 m6 hnew d=>?_⟩,λs1 m5 hnew=>⟨cb,k',p,ks,ps,2,rfl,mid.case_.keep (nY.at_cb hnew mid.case_) (.refl _),ik,hp.mono hle3,aC,hpl,aC,λpv pp m6 h5 le5 rp rpw o6 c6 d=>?_⟩⟩
     .have k5:=mid.kept.on o5;exact⟨(a',⟨2,0,pv,cJ,cJ,cJ,cJ,0,s1⟩,wD m m6,Cc m m6 h5),⟨rfl,reach _ [a'] m6 h5 le5 (k5.new hnew) (c5.keep (nY.at_cb hnew c5) (.refl _)) ⟨⟨pp,rp,rpw.vals⟩,⟨[],rZ.nil _ _ _ _,by simp⟩,⟨_,oA _⟩,⟨_,jK _⟩,⟨_,uD _⟩,nY.frow hnew k5 c5,by simp,λv hv=>by simp at hv;subst hv;exact⟨qa,ra3.mono le5,qaw⟩⟩ d⟩,FT⟩
     .have k5:=mid.kept.new hnew;have c5:aJ m5 hx cb:=mid.case_.keep (nY.at_cb hnew mid.case_) (.refl _);exact⟨(a',⟨2,0,pv,cJ,cJ,cJ,cJ,0,s1⟩,wD m m6,Cc m m6 h5),⟨rfl,reach _ [a'] m6 h5 le5 (k5.on o6) c6 ⟨⟨pp,rp,rpw.vals⟩,⟨[],rZ.nil _ _ _ _,by simp⟩,⟨_,oA _⟩,⟨_,jK _⟩,⟨_,uD _⟩,(nY.frow hnew mid.kept mid.case_).on o6 c5 (by decide),by simp,λv hv=>by simp at hv;subst hv;exact⟨qa,ra3.mono le5,qaw⟩⟩ d⟩,FT⟩
  .rintro⟨a2,q,my,hy⟩ ⟨rfl,ley,oy,cy,qq,rq,rqw,rqf⟩;dsimp only;refine⟨sc,p,q,s,ps,qq,rfl,hs.mono (hle3.trans ley),hp.mono (hle3.trans ley),rq,λsl h5 le5 _=>aB (λe=>?_) (λe=>?_)⟩
   .exact hK a2 qa my h5 ((hle3.trans ley).trans le5) ((ra3.mono ley).mono le5) qaw.1 (by rw[hde];exact qaf.mono aC) qa0 oy (cy.mono le5)
   .exact hK q qq my h5 ((hle3.trans ley).trans le5) (rq.mono le5) rqw (by rw[hde];exact rqf) (by simpa using e) oy (cy.mono le5)
mutual
def j5(st:List (List (List VV))):Query->List (List VV)
 |.mk op ta w co on gr od li args=>if op=1 then st.getD ta.toNat []else opF op (.mk op ta w co on gr od li args) (Pd st args)
def Pd(st:List (List (List VV))):List Query->List (List (List VV))
 |[]=>[]
 |q::qs=>j5 st q::Pd st qs
end
structure Dh(st ls:List (List (List VV)))(k:Nat)(ts:List Int):Prop where
 at_:∀(j:Nat)(t:Int),ts[j]? =some t->ls.getD (k+j) []=st.getD t.toNat []
theorem Dh.left{st ls:List (List (List VV))}{b:List Int}(x:Dh st ls k (a++b)):Dh st ls k a:=
 ⟨λj t h=>x.at_ j t (by rw[List.getElem?_append_left (List.getElem?_eq_some_iff.1 h).1];exact h)⟩
theorem Dh.right{st ls:List (List (List VV))}{b:List Int}(x:Dh st ls k (a++b)):Dh st ls (k+a.length) b:=
 ⟨λj t h=>by
  have:=x.at_ (a.length+j) t (by rw[List.getElem?_append_right aC,Nat.add_sub_cancel_left];exact h)
  rwa [show k+a.length+j=k+(a.length+j)by omega]⟩
theorem U3{args:List Query}{kss:List (List Int)}(h1:fT s ps args=(kss,0))(h2:(kss.length:Int)=arity 1):args=[]:=by
 cases args with
 |nil=>rfl
 |cons q qs=>obtain⟨_,_,_,_,rfl⟩:=kM h1;simp[arity]at h2;omega
mutual
theorem Na{s:pV}{ps:List Int}{st ls:List (List (List VV))}:∀{q:Query}{ks:List Int}{k:Nat},cA s ps q=(ks,0)->Dh st ls k (jO q)->jL ls q k=(j5 st q,k+(jO q).length)
 |.mk op ta w co on gr od li args,ks,k,h,hl=>by
  obtain⟨kss,h1,h2,h3⟩:=zH h;by_cases e:op=1
  .subst e;have h0:=U3 h1 h2;subst h0;have hs:jO (.mk 1 ta w co on gr od li [])=[ta]:=by simp[jO,iO]
   rw[hs]at hl⊢
   have:=hl.at_ 0 ta rfl;rw[Nat.add_zero]at this;rw[jL,j5,if_pos rfl,if_pos rfl,this];rfl
  .have hs:jO (.mk op ta w co on gr od li args)=iO args:=by simp[jO,e]
   rw[hs]at hl⊢
   rw[jL,j5,if_neg e,if_neg e,K3 h1 hl]
theorem K3{s:pV}{ps:List Int}{st ls:List (List (List VV))}:∀{qs:List Query}{kss:List (List Int)}{k:Nat},fT s ps qs=(kss,0)->Dh st ls k (iO qs)->fJ ls qs k=(Pd st qs,k+(iO qs).length)
 |[],kss,k,h,_=>by simp[fJ,Pd,iO]
 |q::qs,kss,k,h,hl=>by
  obtain⟨k1,kss',h1,h2,rfl⟩:=kM h;rw[iO]at hl;rw[fJ,Pd,iO,Na h1 hl.left,K3 h2 hl.right,List.length_append,Nat.add_assoc]
end
mutual
theorem Fq{s:pV}{ps:List Int}:∀{q:Query}{ks:List Int},cA s ps q=(ks,0)->∀t∈jO q,0<=t/\t<s.tables.length
 |.mk op ta w co on gr od li args,ks,h,t,ht=>by
  obtain⟨kss,h1,h2,h3⟩:=zH h;rw[jO]at ht;rcases List.mem_append.1 ht with h5|h5
  .split at h5
   .rename_i e;subst e;simp only[List.mem_singleton]at h5;subst h5;unfold iT at h3;dsimp only at h3;split at h3
    .simp[jS]at h3
    try rw[if_pos rfl]at h3
    split at h3
    .rename_i h4;exact h4
    .simp[jS]at h3
   .simp at h5
  .exact LV h1 t h5
theorem LV{s:pV}{ps:List Int}:∀{qs:List Query}{kss:List (List Int)},fT s ps qs=(kss,0)->∀t∈iO qs,0<=t/\t<s.tables.length
 |[],kss,h,t,ht=>by rw[iO]at ht;simp at ht
 |q::qs,kss,h,t,ht=>by
  obtain⟨k1,kss',h1,h2,rfl⟩:=kM h;rw[iO]at ht;rcases List.mem_append.1 ht with ht|ht
  .exact Fq h1 t ht
  .exact LV h2 t ht
end
def yK(key:Int)(k:Int)(i:Nat)(v:VV):Bool:=kG v&&(v.kind==k||((v.kind==2||v.kind==1)&&decide (key<=(i:Int))))
def C4(t:wJ)(r:List VV):Bool:=decide (r.length=t.columns.length)&&(List.range r.length).all λi=>yK t.key (t.columns.getD i ⟨⟨#[]⟩,0⟩).kind i (r.getD i zeroV)
def kF(t:wJ)(r:List VV):List VV:=r.take (max 0 (min t.key r.length)).toNat
def TN(t:wJ)(l:List (List VV)):Prop:=(∀r∈l,C4 t r=true)/\∀(i:Nat) r r',l[i]? =some r->l[i+1]? =some r'->eE (kF t r) (kF t r')<0
def JP(s:pV)(st:List (List (List VV))):Prop:=∀(i:Nat) t l,s.tables[i]? =some t->st[i]? =some l->TN t l
open Classical in
noncomputable def qD(s:pV)(st:List (List (List VV))):Int:=
 if eG s≠0 then eG s else if 512<(st.map λl=>(l.length:Int)).sum then 2 else if st.length≠s.tables.length then 80 else if JP s st then 0 else 80
def StV(st:List (List (List VV))):Prop:=∀l∈st,∀r∈l,∀v∈r,OJ v.kind/\OJ v.int
def yY(t:wJ)(key row:List VV):Bool->List (List VV)->List (List VV)
 |d,[]=>if d then[]else[row]
 |d,r::l=>(if 0<=eE (kF t r) key/\d=false then[row]else[])++((if eE (kF t r) key≠0 then[r]else[])++yY t key row (d||decide (0<=eE (kF t r) key)) l)
def LJ(t:wJ)(l:List (List VV)):Prop:=l.Pairwise λx y=>eE (kF t x) (kF t y)<0
theorem GF{x y z:List VV}(h1:eE x y<0)(h2:eE y z<0):eE x z<0:=by
 have:=zL x y z aC aC;rcases Int.lt_or_eq_of_le this with h|h
 .exact h
 .rw[jQ]at h;subst h;have:=lP x y;omega
theorem J5{t:wJ}{key row:List VV}:∀{l:List (List VV)},(∀r∈l,0<eE (kF t r) key)->yY t key row true l=l
 |[],_=>rfl
 |r::l,h=>by
  have h1:=h r (List.mem_cons_self ..);rw[yY,if_neg (by simp),if_pos aC,Bool.true_or,J5 λx hx=>h x (List.mem_cons_of_mem _ hx)];rfl
theorem IQ{t:wJ}{key row z:List VV}:∀{l:List (List VV)}{d:Bool},z∈yY t key row d l->z=row\/z∈l
 |[],d,h=>by
  rw[yY]at h;split at h
  .simp at h
  .simp at h;exact .inl h
 |r::l,d,h=>by
  rw[yY]at h;rcases List.mem_append.1 h with h|h
  .split at h
   .simp at h;exact .inl h
   .simp at h
  .rcases List.mem_append.1 h with h|h
   .split at h
    .simp at h;exact .inr (by simp[h])
    .simp at h
   .exact(IQ h).imp id λh=>List.mem_cons_of_mem _ h
theorem IS{t:wJ}{key row:List VV}:∀{l:List (List VV)}{d:Bool},(yY t key row d l).length<=l.length+(if d then 0 else 1)
 |[],d=>by rw[yY];cases d<;>simp
 |r::l,d=>by
  have:=IS (t:=t) (key:=key) (row:=row) (l:=l) (d:=d||decide (0<=eE (kF t r) key));rw[yY];simp only[List.length_append,List.length_cons];by_cases h:0<=eE (kF t r) key
  .cases d<;>by_cases h2:eE (kF t r) key=0<;>simp[h,h2]at this⊢ <;>omega
  .cases d<;>by_cases h2:eE (kF t r) key=0<;>simp[h,h2]at this⊢ <;>omega
theorem J6{t:wJ}{row:List VV}:∀{l:List (List VV)},LJ t l->LJ t (yY t (kF t row) row false l)
 |[],_=>by rw[yY];exact List.pairwise_singleton _ _
 |r::l,h=>by
  obtain⟨h1,h2⟩:=List.pairwise_cons.1 h;rw[yY];by_cases h3:0<=eE (kF t r) (kF t row)
  .rw[if_pos ⟨h3,rfl⟩,show(false||decide (0<=eE (kF t r) (kF t row)))=true by simp[h3]];by_cases h4:eE (kF t r) (kF t row)=0
   .rw[if_neg (by simp[h4])];have e:=jQ.1 h4
    rw[J5 λx hx=>by
     have h5:=h1 x hx;rw[e]at h5;have:=lP (kF t x) (kF t row);omega]
    exact List.pairwise_cons.2 ⟨λx hx=>by rw[<-e];exact h1 x hx,h2⟩
   .rw[if_pos h4];have h5:eE (kF t row) (kF t r)<0:=by have:=lP (kF t row) (kF t r);omega
    rw[J5 λx hx=>by
     have h6:=GF h5 (h1 x hx);have:=lP (kF t x) (kF t row);omega]
    refine List.pairwise_cons.2 ⟨λx hx=>?_,h⟩;rcases List.mem_cons.1 hx with rfl|hx
    .exact h5
    .exact GF h5 (h1 x hx)
  .rw[if_neg (by simp[h3]),if_pos aC,show(false||decide (0<=eE (kF t r) (kF t row)))=false by simp[h3]];refine List.pairwise_cons.2 ⟨λx hx=>?_,J6 h2⟩;rcases IQ hx with rfl|hx
   .omega
   .exact h1 x hx
theorem JR{st:List (List (List VV))}(h:qD s st=0):eG s=0/\st.length=s.tables.length/\JP s st/\(st.map λl=>(l.length:Int)).sum<=512:=by
 unfold qD at h;split at h
 .rename_i h1;exact absurd h h1
 .rename_i h1;split at h
  .simp at h
  .rename_i h2;split at h
   .simp at h
   .rename_i h3;split at h
    .rename_i h4;exact⟨Classical.not_not.1 h1,Classical.not_not.1 h3,h4,aC⟩
    .simp at h
theorem WN{t:wJ}{x y:List VV}(h:x.length=y.length):(kF t x).length=(kF t y).length:=by simp[kF,h]
theorem XI{t:wJ}{x y:List VV}(h:x.length=y.length)(hk:eE (kF t x) (kF t y)<0):eE x y<0:=by
 have h1:x=kF t x++x.drop (max 0 (min t.key x.length)).toNat:=(List.take_append_drop _ _).symm;have h2:y=kF t y++y.drop (max 0 (min t.key y.length)).toNat:=(List.take_append_drop _ _).symm;rw[h1,h2,GG (WN h),if_pos aC];exact hk
theorem LJ.of{t:wJ}:∀{l:List (List VV)},(∀(i:Nat) r r',l[i]? =some r->l[i+1]? =some r'->eE (kF t r) (kF t r')<0)->LJ t l
 |[],_=>List.Pairwise.nil
 |[_],_=>List.pairwise_singleton _ _
 |a::b::l,h=>by
  have h1:LJ t (b::l):=LJ.of λi r r' e1 e2=>h (i+1) r r' e1 e2;refine List.pairwise_cons.2 ⟨λx hx=>?_,h1⟩;have h0:=h 0 a b rfl rfl;rcases List.mem_cons.1 hx with rfl|hx
  .exact h0
  .exact GF h0 ((List.pairwise_cons.1 h1).1 x hx)
theorem LJ.adj{t:wJ}{l:List (List VV)}(h:LJ t l)(i:Nat)(r r':List VV)(e1:l[i]? =some r)(e2:l[i+1]? =some r'):eE (kF t r) (kF t r')<0:=by
 obtain⟨h1,rfl⟩:=List.getElem?_eq_some_iff.1 e1;obtain⟨h2,rfl⟩:=List.getElem?_eq_some_iff.1 e2;exact List.pairwise_iff_getElem.1 h i (i+1) h1 h2 aC
theorem Wt{t:ByteArray}(h:t.toList=(⟨#[]⟩:ByteArray).toList):t.size<=64:=by rw[yR h];decide
theorem EJ{t:ByteArray}(h:CM t=true):t.size<=64:=Wt (by simp only[CM,beq_iff_eq]at h;rw[h,ByteArray.toList_eq])
theorem O0{v:VV}(h:kG v=true):v.text.size<=64:=by
 unfold kG at h;split at h
 .simp only[Bool.and_eq_true]at h;exact EJ h.2
 .split at h
  .simp only[Bool.and_eq_true]at h;exact EJ h.2
  .split at h
   .exact EJ h
   .split at h
    .simp at h;omega
    .cases h
theorem zU(h:(fB s ps q).2=0):eG s=0/\ps.all cT=true/\j9 q=true/\(cA s ps q).2=0:=by
 unfold fB at h;split at h
 .rename_i h1;split at h
  .rename_i h2;split at h
   .rename_i h3;exact⟨h1,h2,h3,h⟩
   .simp[jS]at h
  .simp[jS]at h
 .rename_i h1;simp[jS]at h;exact(h1 h).elim
theorem H2{v:VV}(h:kG v=true):1<=v.kind/\v.kind<=5/\v.text.size<=64:=by
 refine⟨?_,?_,O0 h⟩
 all_goals
  unfold kG at h;split at h
  .rename_i e;simp at e;omega
  .split at h
   .rename_i e;simp at e;omega
   .split at h
    .rename_i e;simp at e;omega
    .split at h
     .rename_i e;simp at e;omega
     .cases h
theorem Og{t:wJ}{r:List VV}(h:C4 t r=true):r.length=t.columns.length/\∀v∈r,kG v=true:=by
 simp only[C4,Bool.and_eq_true,decide_eq_true_eq,List.all_eq_true,List.mem_range]at h;refine⟨h.1,λv hv=>?_⟩;obtain⟨i,hi,rfl⟩:=List.mem_iff_getElem.1 hv;have h2:=h.2 i hi;simp only[yK,Bool.and_eq_true,List.getD_eq_getElem?_getD,List.getElem?_eq_getElem hi,Option.getD_some]at h2;exact h2.1
theorem Yh{t:wJ}{l:List (List VV)}(h8:t.columns.length<=12)(hok:TN t l)(hv:∀r∈l,∀v∈r,OJ v.kind/\OJ v.int)(hl:l.length<=1000000):i7 t.columns.length l:=by
 have hw:∀r∈l,r.length=t.columns.length:=λr hr=>(Og (hok.1 r hr)).1;refine⟨λr hr=>⟨by rw[hw r hr];exact h8,λv hx=>?_⟩,hw,?_,hl⟩
 .have h1:=(Og (hok.1 r hr)).2 v hx;have h2:=hv r hr v hx;exact⟨h2.1,h2.2,(H2 h1).2.2⟩
 .exact(LJ.of hok.2).imp_of_mem fun{x y} hx hy h=>XI (by rw[hw x hx,hw y hy]) h
def nO(st:List (List (List VV)))(q:Query):List (List (List VV)):=(jO q).map λt=>st.getD t.toNat []
theorem abZ{st:List (List (List VV))}{t:Int}(hst:qD s st=0)(hv:StV st)(h0:0<=t)(h1:t<s.tables.length):i7 (iI s t).length (st.getD t.toNat [])/\st.getD t.toNat []∈st:=by
 obtain⟨h2,h3,h4,h5⟩:=JR hst;have ht:t.toNat<s.tables.length:=by omega
 have hl:t.toNat<st.length:=by omega
 have e1:s.tables[t.toNat]? =some s.tables[t.toNat]:=List.getElem?_eq_getElem ht;have e2:st[t.toNat]? =some st[t.toNat]:=List.getElem?_eq_getElem hl;have e3:st.getD t.toNat []=st[t.toNat]:=by rw[List.getD_eq_getElem?_getD,e2];rfl
 have hm:st[t.toNat]∈st:=List.getElem_mem hl;have h8:=uE h2 _ (List.getElem_mem ht);have hk:(iI s t).length=s.tables[t.toNat].columns.length:=by rw[iI,if_neg aC,e1];simp
 have hle:∀{l:List (List (List VV))}{x},x∈l->((x.length:Nat):Int)<=(l.map λl=>(l.length:Int)).sum:=fun{l x}=>by
  induction l with
  |nil=>intro h;simp at h
  |cons a l ih=>
   intro h
   have h0:∀l:List (List (List VV)),0<=(l.map λl=>(l.length:Int)).sum:=λl=>by
    induction l with
    |nil=>simp
    |cons a l ih=>simp only[List.map_cons,List.sum_cons];omega
   simp only[List.map_cons,List.sum_cons];rcases List.mem_cons.1 h with rfl|h
   .have:=h0 l;omega
   .have:=ih h;omega
 have:=hle hm;rw[e3,hk];exact⟨Yh aC (h4 _ _ _ e1 e2) (hv _ hm) aC,hm⟩
theorem Rt{st:List (List (List VV))}{ks:List Int}{c:Nat}(hst:qD s st=0)(hv:StV st)(hc:∀l∈st,l.length<=c)(h1:1<=c)(hq:cA s ps q=(ks,0))(hb:nA c q<=1000000):
 TX (nO st q) q 0/\(jL (nO st q) q 0).1=j5 st q/\i7 ks.length (j5 st q)/\(j5 st q).length<=1000000:=by
 have e1:∀(j:Nat)(t:Int),(jO q)[j]? =some t->(nO st q)[0+j]? =some (st.getD t.toNat []):=λj t h=>by rw[Nat.zero_add,nO,List.getElem?_map,h];rfl
 have x:=QU h1 (ls:=nO st q) (k:=0) hq ⟨λj t h=>⟨_,e1 j t h,by
  have ht:=Fq hq t (List.mem_of_getElem? h);have:=abZ hst hv ht.1 ht.2;exact⟨this.1,hc _ this.2⟩⟩⟩ hb
 have y:=Na (st:=st) (ls:=nO st q) (k:=0) hq ⟨λj t h=>by rw[List.getD_eq_getElem?_getD,e1 j t h];rfl⟩;have e2:(jL (nO st q) q 0).1=j5 st q:=by rw[y]
 refine⟨x.ok,e2,by rw[<-e2];exact x.rel,?_⟩;rw[<-e2];exact Nat.le_trans x.bnd hb
def ZR(s:Sl):CV:=.val (.agg ⟨[.slice s.a s.len s.cap]⟩)
def Z2:Vc.Spec:=λcvs m h K=>∃v s,cvs=[aS v,cI 3]/\gM h s v/\K (cI (eG s)) m h
def tN(st:List (List (List VV))):Int:=(st.map λl=>(l.length:Int)).sum
def UO:Vc.Spec:=λcvs m h K=>∃s st,cvs=[ZR s]/\Leaves h s st/\st.length<=1000/\K (cI (tN st)) m h
def Vi(s:pV)(t:Int)(r:List VV):Bool:=uR s t&&(match s.tables[t.toNat]? with|some tb=>C4 tb r|none=>false)
def Gh(s:pV)(t:Int)(r:List VV):List VV:=match(if uR s t then s.tables[t.toNat]? else none)with|some tb=>kF tb r|none=>[]
def Z4:Vc.Spec:=λcvs m h K=>∃v s t sl r,cvs=[aS v,cI t,cS sl,cI 3]/\gM h s v/\cR h sl r/\K (cB (Vi s t r)) m h
def UC:Vc.Spec:=λcvs m h K=>∃v s t sl r,cvs=[aS v,cI t,cS sl]/\gM h s v/\cR h sl r/\∀s',cR h s' (Gh s t r)->K (cS s') m h
def De:Vc.Spec:=λcvs m h K=>∃v s sl st,cvs=[aS v,cI 3,ZR sl]/\gM h s v/\Leaves h sl st/\st.length<=1000/\K (cI (qD s st)) m h
noncomputable def YL:Ctx:=dN [(104,agJ),(105,Lc)] [(7,{A:=Nat×cC×Sl×MH×PH,st:=λ⟨i,t,s,m,h⟩=>cE 95 99 [(3,iv 3),(9,.at (.ptr 9 0)),(41,sv s),(42,iv s.len),(43,iv i)] [(9,.cells 86 (t.enc.map .val))] m h})]
 [(12,{A:=Nat×cC×VV×Sl×Bool×MH×PH,st:=λ⟨i,t,v,s,b,m,h⟩=>cE 95 99 [(3,iv 3),(9,.at (.ptr 9 0)),(10,iv i),(11,.at (.ptr 11 0)),(12,bv b),(41,sv s),(42,iv s.len),(43,iv i)] [(9,.cells 86 (t.enc.map .val)),(11,.cells 27 (v.enc.map .val))] m h}),
  (13,{A:=Nat×cC×VV×Sl×Bool×Bool×MH×PH,st:=λ⟨i,t,v,s,b,c,m,h⟩=>cE 95 99 [(3,iv 3),(9,.at (.ptr 9 0)),(10,iv i),(11,.at (.ptr 11 0)),(12,bv b),(13,bv c),(41,sv s),(42,iv s.len),(43,iv i)] [(9,.cells 86 (t.enc.map .val)),(11,.cells 27 (v.enc.map .val))] m h})] [] false
noncomputable def YM(s:Sl)(m:MH)(h:PH):Ctx:=dN [] [(3,{A:=Nat×Int,st:=λ⟨i,n⟩=>cE 19 20 [(3,iv n),(7,sv s),(8,iv s.len),(9,iv i)] [] m h})] [] [] false
noncomputable def f56_ctx(v:bH)(s:Sl)(m:MH)(h:PH):Ctx:=dN [(82,Z2),(83,UO),(84,Z4),(85,UC),(71,GK)]
 [(9,{A:=Nat,st:=λi=>cE 69 72 [(1,iv 3),(3,.at (.ptr 3 0)),(29,sv s),(30,iv s.len),(31,iv i)] [(3,.cells 43 (v.enc.map .val))] m h}),
  (12,{A:=Nat×Sl×Nat,st:=λ⟨i,u,j⟩=>cE 69 72 [(1,iv 3),(3,.at (.ptr 3 0)),(8,iv i),(9,sv u),(29,sv s),(30,iv s.len),(31,iv i),(36,sv u),(37,iv u.len),(38,iv j)] [(3,.cells 43 (v.enc.map .val))] m h})] [] [] false
def P8(v:bH)(m:MH)(h:PH)(K:CV->MH->PH->Prop):Prop:=
  FR v h (λs=>K (fK (eG s)) m h) (K (fK 0) m h)
def P7(s:Sl)(m:MH)(h:PH)(K:CV->MH->PH->Prop):Prop:=
  ∃(I:Nat×Int->Prop)(m1:Nat×Int->Nat),(∃(x:Nat×Int),aA (I x) (cZ 0 x.2) (aA (aK s) (bK s) (dE (bG x.1) m m h h)))/\∀(x:Nat×Int),I x->bD (↑x.1:Int) (aG s) (aT (λb o=>aH (aU s.a b o) (0<=(↑x.1:Int)) ((↑x.1:Int)<aG s) (∃(y:Sl),aM m h b (bB o x.1 1) (aR y)/\∃(x1:Nat×Int),aA (I x1) (m1 x1<m1 x) (aA (cZ (eB (x.2+aG y)) x1.2) (aK s) (aA (bK s) (gS (aW x.1 1)=bX x1.1) (aA (m=m) (h=h) True)))))) (K (fK x.2) m h)
abbrev j8:Prop:=kW 3
noncomputable abbrev mL(a:Nat×cC×Sl×MH×PH):Sl:=a.2.2.1
noncomputable abbrev CO(a:Nat×cC×Sl×MH×PH):cC:=a.2.1
noncomputable abbrev oU(a:Nat×cC×Sl×MH×PH):MH×PH:=a.2.2.2
noncomputable abbrev DN(a:Nat×cC×Sl×MH×PH):Nat->Nat->Option Value:=a.2.2.2.2
noncomputable abbrev xY(a:Nat×cC×VV×Sl×Bool×MH×PH):Sl:=a.2.2.2.1
noncomputable abbrev G2(a:Nat×cC×VV×Sl×Bool×MH×PH):cC:=a.2.1
noncomputable abbrev xZ(a:Nat×cC×VV×Sl×Bool×MH×PH):MH×PH:=a.2.2.2.2.2
noncomputable abbrev sX(a:Nat×cC×VV×Sl×Bool×Bool×MH×PH):Sl:=a.2.2.2.1
noncomputable abbrev CN(a:Nat×cC×VV×Sl×Bool×Bool×MH×PH):cC:=a.2.1
noncomputable abbrev nL(a:Nat×cC×VV×Sl×Bool×Bool×MH×PH):MH×PH:=a.2.2.2.2.2.2
attribute [push_cast] j8 mL CO oU DN xY G2 xZ sX CN nL
def P6(v:bH)(t:Int)(s:Sl)(m:MH)(h:PH)(K:CV->MH->PH->Prop):Prop:=
  jX (λv1 s1=>∃(t1:Int),aA (bU (jM (bR v)) t=bU (jM (bR v1)) t1) (gM h s1 v1) (branch (!(uR s1 t1)) (K bA m h) (Du v t (λb o=>∃(y:cC),aM m h b (fL o t 5) (vP y)/\fQ (aG s) (Bv y) (K bA m h) (∃(I:Nat×cC×Sl×MH×PH->Prop)(m1:Nat×cC×Sl×MH×PH->Nat),(∃(x:Nat×cC×Sl×MH×PH),aA (I x) j8 (aA (eP 9) (aZ s (mL x)) (aA (cH s (mL x)) (bG x.1) (aA (oQ 86 (fP y)=oQ 86 (fP (CO x))) (cO m (oU x)) (kI h (oU x))))))/\∀(x:Nat×cC×Sl×MH×PH),I x->bD (↑x.1:Int) (aG (mL x)) (aT (λb1 o1=>aH (aU (mL x).a b1 o1) (0<=(↑x.1:Int)) ((↑x.1:Int)<aG (mL x)) (∃(y1:VV),aM (oU x).1 (DN x) b1 (bB o1 x.1 3) y1.enc/\∃(v2:VV),hP (fH (fR y1)
 (fR v2)) (!(kG v2)) (K bA (oU x).1 (DN x)) (∃(I1:Nat×cC×VV×Sl×Bool×MH×PH->Prop),eJ y1.kind 2 (∃(x1:Nat×cC×VV×Sl×Bool×MH×PH),aA (I1 x1) j8 (aA (eP 9) (bY x.1 x1.1) (aA (eP 11) (gH (decide ((↑x.1:Int)>=(CO x).key)) x1.2.2.2.2.1) (aA (aZ (mL x) (xY x1)) (cH (mL x) (xY x1)) (aA (bY x.1 x1.1) (oQ 86 (fP (CO x))=oQ 86 (fP (G2 x1))) (aA (tB 27 y1.enc=tB 27 x1.2.2.1.enc) (cO (oU x).1 (xZ x1)) (kI (DN x) (xZ x1)))))))) (∃(x1:Nat×cC×VV×Sl×Bool×MH×PH),aA (I1 x1) j8 (aA (eP 9) (bY x.1 x1.1) (aA (eP 11) (AH x1.2.2.2.2.1) (aA (aZ (mL x) (xY x1)) (cH (mL x) (xY x1)) (aA (bY x.1 x1.1) (oQ 86 (fP (CO x))=oQ 86 (fP (G2 x1))) (aA (tB 27
 y1.enc=tB 27 x1.2.2.1.enc) (cO (oU x).1 (xZ x1)) (kI (DN x) (xZ x1))))))))/\∀(x1:Nat×cC×VV×Sl×Bool×MH×PH),I1 x1->∃(I2:Nat×cC×VV×Sl×Bool×Bool×MH×PH->Prop),eJ x1.2.2.1.kind 1 (∃(x2:Nat×cC×VV×Sl×Bool×Bool×MH×PH),aA (I2 x2) j8 (aA (eP 9) (bY x1.1 x2.1) (aA (eP 11) (gH x1.2.2.2.2.1 x2.2.2.2.2.1) (aA (gH (decide ((↑x1.1:Int)>=(G2 x1).key)) x2.2.2.2.2.2.1) (aZ (xY x1) (sX x2)) (aA (cH (xY x1) (sX x2)) (bY x1.1 x2.1) (aA (oQ 86 (fP (G2 x1))=oQ 86 (fP (CN x2))) (tB 27 x1.2.2.1.enc=tB 27 x2.2.2.1.enc) (aA (cO (xZ x1).1 (nL x2)) (dO (xZ x1).2 (nL x2)) True))))))) (∃(x2:Nat×cC×VV×Sl×Bool×Bool×MH×PH),aA (I2 x2) j8 (aA (eP 9) (bY x1.1 x2.1) (aA (eP
 11) (gH x1.2.2.2.2.1 x2.2.2.2.2.1) (aA (AH x2.2.2.2.2.2.1) (aZ (xY x1) (sX x2)) (aA (cH (xY x1) (sX x2)) (bY x1.1 x2.1) (aA (oQ 86 (fP (G2 x1))=oQ 86 (fP (CN x2))) (tB 27 x1.2.2.1.enc=tB 27 x2.2.2.1.enc) (aA (cO (xZ x1).1 (nL x2)) (dO (xZ x1).2 (nL x2)) True)))))))/\∀(x2:Nat×cC×VV×Sl×Bool×Bool×MH×PH),I2 x2->aT (λb2 o2=>aH (aU (CN x2).columns.a b2 o2) (0<=(↑x2.1:Int)) ((↑x2.1:Int)<aG (CN x2).columns) (∃(y2:Int),aM (nL x2).1 (nL x2).2 b2 (bB o2 x2.1 2+1) (cK y2)/\fQ x2.2.2.1.kind y2 (branch (!x2.2.2.2.2.1) (branch (!x2.2.2.2.2.2.1) (K bA (nL x2).1 (nL x2).2) (∃(x3:Nat×cC×Sl×MH×PH),aA (I x3) (m1 x3<m1 x) (aA j8 (eP 9) (aA (aZ (sX x2) (mL x3)) (cH
 (sX x2) (mL x3)) (aA (gS (aW x2.1 1)=bX x3.1) (oQ 86 (fP (CN x2))=oQ 86 (fP (CO x3))) (aA (cO (nL x2).1 (oU x3)) (dO (nL x2).2 (oU x3)) True)))))) (∃(x3:Nat×cC×Sl×MH×PH),aA (I x3) (m1 x3<m1 x) (aA j8 (eP 9) (aA (aZ (sX x2) (mL x3)) (cH (sX x2) (mL x3)) (aA (gS (aW x2.1 1)=bX x3.1) (oQ 86 (fP (CN x2))=oQ 86 (fP (CO x3))) (aA (cO (nL x2).1 (oU x3)) (dO (nL x2).2 (oU x3)) True)))))) (∃(x3:Nat×cC×Sl×MH×PH),aA (I x3) (m1 x3<m1 x) (aA j8 (eP 9) (aA (aZ (sX x2) (mL x3)) (cH (sX x2) (mL x3)) (aA (gS (aW x2.1 1)=bX x3.1) (oQ 86 (fP (CN x2))=oQ 86 (fP (CO x3))) (aA (cO (nL x2).1 (oU x3)) (dO (nL x2).2 (oU x3))
 True))))))))))) (K gE (oU x).1 (DN x)))))))
def P5(v:bH)(t:Int)(s:Sl)(m:MH)(h:PH)(K:CV->MH->PH->Prop):Prop:=
  bD t 0 (K Dc m h) (gQ t (iG v) (K Dc m h) (aT (λb o=>aH (aU (qJ v) b o) (0<=t) (t<aG v.tables) (∃(y:Int),aH (aM m h b (fL o t 5+2) (cK y)) (0<=ite (pD s y>0) (pD s y) 0) (ite (pD s y>0) (pD s y) 0<=(↑s.cap:Int)) (K (CV.val (Value.slice s.a (ite (pD s y>0) (pD s y) 0).toNat s.cap)) m h)))))
noncomputable abbrev lY(a:Nat×Sl×Nat):Sl:=a.2.1
noncomputable abbrev DO(a:Nat×Sl×Nat):Int:=eB ((↑a.2.2:Int)-1)
attribute [push_cast] lY DO
def f56_nice(v:bH)(s:Sl)(m:MH)(h:PH)(K:CV->MH->PH->Prop):Prop:=
  jX (λv1 s1=>aA (bU (jM (bR v)) 3=bU (jM (bR v1)) 3) (gM h s1 v1) (fQ (eG s1) 0 (K (fK (eG s1)) m h) (uO (λs2 s3=>aH (fH (jM (aR s)) (jM (aR s2))) (Leaves h s2 s3) (mX s3.length) (dH (decide (tN s3>512)) (K (fK 2) m h) (aG s !=iG v) (K (fK 80) m h) (mT (λI x=>aA (I x) j8 (aA iE (aK s) (aA (bK s) (bG x) (aA (cG v) (m=m) (dC h h))))) (λI m1 x=>I x->bD (↑x:Int) (aG s) (aT (λb o=>aH (aU s.a b o) (0<=(↑x:Int)) ((↑x:Int)<aG s) (∃(y:Sl),aM m h b (bB o x 1) (aR y)/\∃(I1:Nat×Sl×Nat->Prop)(m2:Nat×Sl×Nat->Nat),(∃(x1:Nat×Sl×Nat),aA (I1 x1) j8 (aA iE (bY x x1.1) (aA (aZ y (lY x1)) (aK s) (aA (bK s) (bY x x1.1) (aA (aZ y (lY x1)) (cH y
 (lY x1)) (aA (bG x1.2.2) (cG v) (eH m m h h)))))))/\∀(x1:Nat×Sl×Nat),I1 x1->bD (↑x1.2.2:Int) (aG (lY x1)) (aT (λb1 o1=>aH (aU (lY x1).a b1 o1) (0<=(↑x1.2.2:Int)) ((↑x1.2.2:Int)<aG (lY x1)) (∃(y1:Sl),aM m h b1 (bB o1 x1.2.2 1) (aR y1)/\jX (λv2 s4=>∃(t:Int),mD (λs5 r=>aH (bT (bR v) (fK (↑x1.1:Int)::bU (kU y1) 3)=bT (bR v2) (fK t::bU (kU s5) 3)) (gM h s4 v2) (cR h s5 r) (dH (!(Vi s4 t r)) (K (fK 80) m h) (decide ((↑x1.2.2:Int)>0)) (aT (λb2 o2=>aH (aU (lY x1).a b2 o2) (0<=DO x1) (DO x1<aG (lY x1)) (∃(y2:Sl),aM m h b2 (fL o2 (DO x1) 1) (aR y2)/\jX (λv3 s6=>∃(t1:Int),mD (λs7 r1=>aH (bT (bR v) (bI (fK (↑x1.1:Int)) (kU y2))=bT
 (bR v3) (bI (fK t1) (kU s7))) (gM h s6 v3) (cR h s7 r1) (∀(s8:Sl),cR h s8 (Gh s6 t1 r1)->bF h b2 (fL o2 (DO x1) 1) (aR y2)/\jX (λv4 s9=>∃(t2:Int),mD (λa r2=>aH (bT (bR v) (bI (fK (↑x1.1:Int)) (kU y1))=bT (bR v4) (bI (fK t2) (kU a))) (gM h s9 v4) (cR h a r2) (∀(a1:Sl),cR h a1 (Gh s9 t2 r2)->bF h b2 (fL o2 (DO x1) 1) (aR y2)/\z8 s8 a1 h (λa2 b3=>gQ (eE a2 b3) 0 (K (fK 80) m h) (∃(x2:Nat×Sl×Nat),aA (I1 x2) (m2 x2<m2 x1) (aA j8 iE (aA (bY x1.1 x2.1) (aZ (lY x1) (lY x2)) (aA (aK s) (bK s) (aA (bY x1.1 x2.1) (aZ (lY x1) (lY x2)) (aA (cH (lY x1) (lY x2)) (gS (aW x1.2.2 1)=bX x2.2.2) (dE (cG v) m m h h))))))))))))))))) (∃(x2:Nat×Sl×Nat),aA (I1 x2)
 (m2 x2<m2 x1) (aA j8 iE (aA (bY x1.1 x2.1) (aZ (lY x1) (lY x2)) (aA (aK s) (bK s) (aA (bY x1.1 x2.1) (aZ (lY x1) (lY x2)) (aA (cH (lY x1) (lY x2)) (gS (aW x1.2.2 1)=bX x2.2.2) (dE (cG v) m m h h))))))))))))) (∃(x2:Nat),aA (I x2) (m1 x2<m1 x) (aA j8 iE (aA (aK s) (bK s) (aA (gS (aW x1.1 1)=bX x2) (cG v) (eH m m h h)))))))) (K (fK 0) m h))))))))
theorem cR.cut{a:Option Addr}{len cap:Nat}{r:List VV}(x:cR h ⟨a,len,cap⟩ r){n:Nat}(hn:n<=r.length):cR h ⟨a,n,cap⟩ (r.take n):=by
 obtain⟨⟨vs,h1,h2,h3⟩,h4⟩:=x;refine⟨⟨vs.take n,by rw[List.map_take];exact cW.cut h1 n (by rw[List.length_map];omega),by rw[List.length_take,List.length_take,h2],λi x hx=>?_⟩,by rw[List.length_take];omega⟩;rw[List.getElem?_take]at hx;split at hx
 .rename_i hi;obtain⟨v,e1,e2⟩:=h3 i x hx;exact⟨v,by rw[List.getElem?_take,if_pos hi];exact e1,e2⟩
 .cases hx
theorem aeZ{v:bH}(hs:gM h s v)(hK:K (cI (eG s)) m h):P8 v m h K:=
 ⟨v,s,rfl,hs,aB (λ_=>hK) (λe=>by rw[show eG s=0 by simpa using e]at hK;exact hK)⟩
theorem Vt:Sound Tryz.prog 82 Z2:=by
 refine iJ Tryz.func82 ?_;rintro cvs m h K ⟨v,s,rfl,hs,hK⟩;refine⟨dN [(79,yT)] [] [] [] false,rfl,aD Hi aF,P8 v m h K,by kernel_rfl,?_⟩;exact aeZ hs hK
theorem Leaves.lens{s:Sl}{st:List (List (List VV))}(hl:Leaves h s st){l:List (List VV)}(hm:l∈st):l.length<=502633886983:=by
 obtain⟨i,hi,rfl⟩:=List.mem_iff_getElem.1 hm;obtain⟨_,_,_,_,_,hr⟩:=bV.at hl (List.getElem?_eq_getElem hi);exact hr.len
theorem C7:∀{l:List (List (List VV))},(∀x∈l,x.length<=502633886983)->0<=tN l/\tN l<=(l.length:Int)*502633886983
 |[],_=>by simp[tN]
 |a::l,h=>by
  have h1:=h a (List.mem_cons_self ..);have h2:=C7 (l:=l) λx hx=>h x (List.mem_cons_of_mem _ hx);simp only[tN,List.map_cons,List.sum_cons,List.length_cons]at h2⊢
  omega
theorem Tl{st:List (List (List VV))}{l:List (List VV)}(h:st[i]? =some l):tN (st.take (i+1))=tN (st.take i)+(l.length:Int):=by
 rw[List.take_add_one,h];simp[tN]
theorem Vs:Sound Tryz.prog 83 UO:=by
 refine iJ Tryz.func83 ?_;rintro cvs m h K ⟨s,st,rfl,hl,hn,hK⟩;refine⟨YM s m h,rfl,aF,P7 s m h K,by kernel_rfl,?_⟩;dsimp only[P7,push_cast];have hsl:=bV.slen hl;refine⟨λz=>z.1<=st.length/\z.2=tN (st.take z.1),λz=>st.length-z.1,⟨(0,0),⟨by simp,by simp[tN]⟩,MT⟩,?_⟩;rintro⟨i,n⟩ ⟨hi,hn2⟩;dsimp only at hi hn2⊢
 subst hn2;refine aE (λhlt=>?_) (λhge=>?_)
 .obtain⟨l,hx⟩:=fI hsl hlt;obtain⟨b,o,u,ea,rd,hr⟩:=bV.at hl hx;have hul:=bV.slen hr;have hb:=C7 (l:=st.take (i+1)) λx hx=>hl.lens (List.mem_of_mem_take hx);have hb2:=(C7 (l:=st.take i) λx hx=>hl.lens (List.mem_of_mem_take hx)).1;have hs:=Tl hx;rw[List.length_take]at hb;refine⟨b,o,ea,aC,aC,u,.imm rd,(i+1,tN (st.take (i+1))),⟨by show i+1<=st.length;omega,rfl⟩,by show st.length-(i+1)<st.length-i;omega,?_⟩;rw[dX aC aC,hul, <-hs];exact MT
 .rw[List.take_of_length_le aC];exact hK
theorem C3{t:wJ}{r:List VV}:C4 t r=true↔r.length=t.columns.length/\∀i,i<r.length->yK t.key (t.columns.getD i ⟨⟨#[]⟩,0⟩).kind i (r.getD i zeroV)=true:=by
 simp only[C4,Bool.and_eq_true,decide_eq_true_eq,List.all_eq_true,List.mem_range]
theorem PQ{t:Int}{r:List VV}{tb:wJ}(ht:s.tables[t.toNat]? =some tb)(h:uR s t=true):Vi s t r=C4 tb r:=by
 simp only[Vi,h,ht,Bool.true_and]
theorem Vr:Sound Tryz.prog 84 Z4:=by
 refine iJ Tryz.func84 ?_;rintro cvs m h K ⟨v,s,t,sl,r,rfl,hs,hv,hK⟩;refine⟨YL,rfl,aD K2 (aD K1 aF),P6 v t sl m h K,by kernel_rfl,?_⟩;dsimp only[P6,push_cast];have htl:=hs.tables.slen;have hrl:=bV.slen hv;refine⟨v,s,t,rfl,hs,aB (λe=>?_) (λe=>?_)⟩
 .have e:uR s t=false:=by simpa using e
  simp only[Vi,e,Bool.false_and]at hK;exact hK
 have e:uR s t=true:=by simpa using e
 have he:=e;simp only[uR,Bool.and_eq_true,decide_eq_true_eq]at he;obtain⟨tb,htb⟩:∃tb,s.tables[t.toNat]? =some tb:=⟨_,List.getElem?_eq_getElem aC⟩
 obtain⟨b,o,y,ea,rd,hy⟩:=bV.at hs.tables htb;rw[PQ htb e]at hK;have hcl:=bV.slen hy.columns;have hk:=hy.key;refine⟨b,o,ea,he.1,aC,y,.imm rd,aB (λe1=>?_) (λe1=>?_)⟩
 .have:C4 tb r=false:=by
   cases e2:C4 tb r with
   |false=>rfl
   |true=>
    have:=(C3.1 e2).1;simp at e1;omega
  rw[this]at hK;exact hK
 have hwl:r.length=tb.columns.length:=by simp at e1;omega
 have bad:∀i,i<r.length->yK tb.key (tb.columns.getD i ⟨⟨#[]⟩,0⟩).kind i (r.getD i zeroV)=false->K (cB false) m h:=λi hi hf=>by
  have:C4 tb r=false:=by
   cases e2:C4 tb r with
   |false=>rfl
   |true=>rw[(C3.1 e2).2 i hi]at hf;cases hf
  rw[this]at hK;exact hK
 refine⟨λz=>z.2.1=y/\z.2.2.1=sl/\z.2.2.2.1=m/\z.2.2.2.2=h/\z.1<=r.length/\∀j,j<z.1->yK tb.key (tb.columns.getD j ⟨⟨#[]⟩,0⟩).kind j (r.getD j zeroV)=true,λz=>r.length-z.1,⟨(0,y,sl,m,h),⟨rfl,rfl,rfl,rfl,by simp,λj hj=>by simp at hj⟩,MT⟩,?_⟩;rintro⟨i,y',sl',m',h'⟩ ⟨e1,e2,e3,e4,hi,hall⟩;dsimp only at e1 e2 e3 e4 hi hall⊢
 subst e1 e2 e3 e4;refine aE (λhlt=>?_) (λhge=>?_)
 .have hil:i<r.length:=by omega
  have hx:r[i]? =some (r.getD i zeroV):=by rw[List.getD_eq_getElem?_getD,List.getElem?_eq_getElem hil];rfl
  obtain⟨b2,o2,x,ea2,rd2,hxx⟩:=bV.at hv hx;subst hxx;have hc:tb.columns[i]? =some (tb.columns.getD i ⟨⟨#[]⟩,0⟩):=by rw[List.getD_eq_getElem?_getD,List.getElem?_eq_getElem aC];rfl
  obtain⟨b3,o3,c,ea3,rd3,hcc⟩:=bV.at hy.columns hc;have badi:=bad i hil
  have alli:yK tb.key (tb.columns.getD i ⟨⟨#[]⟩,0⟩).kind i (r.getD i zeroV)=true->∀j,j<i+1->yK tb.key (tb.columns.getD j ⟨⟨#[]⟩,0⟩).kind j (r.getD j zeroV)=true:=λhf j hj=>by
   by_cases e5:j=i
   .rw[e5];exact hf
   .exact hall j aC
  generalize r.getD i zeroV=x at badi alli rd2 hx;rw[hcc]at badi alli;have go:yK tb.key c.kind i x=true->∃z:Nat×cC×Sl×MH×PH,(z.2.1=y'/\z.2.2.1=sl'/\z.2.2.2.1=m'/\z.2.2.2.2=h'/\z.1<=r.length/\∀j,j<z.1->yK tb.key (tb.columns.getD j ⟨⟨#[]⟩,0⟩).kind j (r.getD j zeroV)=true)/\r.length-z.1<r.length-i/\z=(i+1,y',sl',m',h'):=λhf=>⟨_,⟨rfl,rfl,rfl,rfl,by show i+1<=r.length;omega,alli hf⟩,by show r.length-(i+1)<r.length-i;omega,rfl⟩
  refine⟨b2,o2,ea2,aC,aC,x,.imm rd2,x,rfl,aB (λev=>badi ?_) (λev=>?_)⟩
  .have ev:kG x=false:=by simpa using ev
   simp[yK,ev]
  have ev:kG x=true:=by simpa using ev
  refine⟨λz=>z=(i,y',x,sl',(x.kind==2&&decide ((i:Int)>=y'.key)),m',h'),aB (λe2=>⟨_,rfl,by rw[e2];exact MT⟩) (λe2=>⟨_,rfl,by rw[e2];exact MT⟩),?_⟩;rintro _ rfl;dsimp only;refine⟨λz=>z=(i,y',x,sl',(x.kind==2&&decide ((i:Int)>=y'.key)),(x.kind==1&&decide ((i:Int)>=y'.key)),m',h'),aB (λe2=>⟨_,rfl,by rw[e2];exact MT⟩) (λe2=>⟨_,rfl,by rw[e2];exact MT⟩),?_⟩;rintro _ rfl;dsimp only
  have hfv:yK tb.key c.kind i x=(x.kind==c.kind||((x.kind==2&&decide ((i:Int)>=y'.key))||(x.kind==1&&decide ((i:Int)>=y'.key)))):=by
   rw[hk];simp only[yK,ev,Bool.true_and,ge_iff_le,Bool.and_or_distrib_right]
  generalize hb1:(x.kind==2&&decide ((i:Int)>=y'.key))=B1 at hfv⊢
  generalize hb2:(x.kind==1&&decide ((i:Int)>=y'.key))=B2 at hfv⊢
  refine⟨b3,o3,ea3,aC,aC,c.kind,.imm (bF.part rd3 1 1),aB (λe3=>aB (λe4=>aB (λe5=>badi ?_) (λe5=>?_)) (λe4=>?_)) (λe3=>?_)⟩
  .have e3:(x.kind==c.kind)=false:=by simpa using e3
   have e4:B1=false:=by simpa using e4
   have e5:B2=false:=by simpa using e5
   rw[hfv,e3,e4,e5];rfl
  all_goals
   obtain⟨_,g1,g2,rfl⟩:=go (by rw[hfv];simp_all);refine⟨_,g1,g2,?_⟩;dsimp only;rw[jA (by have:=bV.len hv;omega)];exact MT
 .have:C4 tb r=true:=C3.2 ⟨hwl,λj hj=>hall j aC⟩;rw[this]at hK;exact hK
theorem Vq:Sound Tryz.prog 85 UC:=by
 refine iJ Tryz.func85 ?_;rintro cvs m h K ⟨v,s,t,sl,r,rfl,hs,hv,hK⟩;refine⟨dN [] [] [] [] false,rfl,aF,P5 v t sl m h K,by kernel_rfl,?_⟩;dsimp only[P5,push_cast];have htl:=hs.tables.slen;have hrl:=bV.slen hv;have none_:uR s t=false->K Dc m h:=λe=>hK ⟨none,0,0⟩ (by simp only[Gh,e];exact bV.nil _ _ _ _);refine aE (λh1=>none_ (by simp[uR];omega)) (λh1=>aE (λh2=>none_ (by simp[uR];omega)) (λh2=>?_));have e:uR s t=true:=by simp[uR];omega
 obtain⟨tb,htb⟩:∃tb,s.tables[t.toNat]? =some tb:=⟨_,List.getElem?_eq_getElem aC⟩
 obtain⟨b,o,y,ea,rd,hy⟩:=bV.at hs.tables htb;have hk:=hy.key;obtain⟨a,len,cap⟩:=sl;have hcap:len<=cap:=by obtain⟨vs,h5,_⟩:=hv.ex;exact h5.cap
 have hrl:len=r.length:=hrl
 have hmm:(if(if(len:Int)<y.key then(len:Int)else y.key)>0 then(if(len:Int)<y.key then(len:Int)else y.key)else 0)=max 0 (min tb.key r.length):=by
  rw[<-hk];split<;>split<;>omega
 refine⟨b,o,ea,aC,aC,y.key,.imm (bF.part rd 2 1),?_⟩;dsimp only;rw[hmm];refine⟨aC,aC,hK ⟨a,(max 0 (min tb.key r.length)).toNat,cap⟩ ?_⟩;have e2:Gh s t r=r.take (max 0 (min tb.key r.length)).toNat:=by simp only[Gh,e,if_true,htb];rfl
 rw[e2];exact hv.cut aC
theorem DX{t:Nat}{tb:wJ}(h:s.tables[t]? =some tb)(r:List VV):Gh s t r=kF tb r:=by
 have:t<s.tables.length:=(List.getElem?_eq_some_iff.1 h).1;have e:uR s (t:Int)=true:=by simp[uR];omega
 simp only[Gh,e,if_true,Int.toNat_natCast,h]
theorem T6{t:Nat}{tb:wJ}(h:s.tables[t]? =some tb)(r:List VV):Vi s t r=C4 tb r:=by
 have:t<s.tables.length:=(List.getElem?_eq_some_iff.1 h).1;have e:uR s (t:Int)=true:=by simp[uR];omega
 exact PQ (by simpa using h) e
theorem f56_sound:Sound Tryz.prog 56 De:=by
 refine iJ Tryz.func56 ?_;rintro cvs m h K ⟨v,s,sl,st,rfl,hs,hl,hn,hK⟩;refine⟨f56_ctx v sl m h,rfl,aD Vt (aD Vs (aD Vr (aD Vq (aD DZ aF)))),f56_nice v sl m h K,by kernel_rfl,?_⟩;dsimp only[f56_nice,push_cast];have htl:=hs.tables.slen;have hsl:=bV.slen hl;unfold qD at hK;refine⟨v,s,rfl,hs,aB (λe=>?_) (λe=>⟨sl,st,rfl,hl,hn,aE (λe2=>?_) (λe2=>aB (λe3=>?_) (λe3=>?_))⟩)⟩
 .rw[if_pos (by simpa using e)]at hK;exact hK
 all_goals rw[if_neg (by simpa using e)]at hK
 .rw[if_pos (by unfold tN at e2;omega)]at hK;exact hK
 all_goals rw[if_neg (by unfold tN at e2;omega)]at hK
 .rw[if_pos (by simp at e3;omega)]at hK;exact hK
 have hlen:st.length=s.tables.length:=by simp at e3;omega
 rw[if_neg (by simp[hlen])]at hK;have bad:¬JP s st->K (cI 80) m h:=λhb=>by rw[if_neg hb]at hK;exact hK
 refine⟨λi=>i<=st.length/\∀(j:Nat) t l,j<i->s.tables[j]? =some t->st[j]? =some l->TN t l,λi=>st.length-i,⟨0,⟨by simp,λj t l hj=>by omega⟩,MT⟩,?_⟩;rintro i ⟨hi,hall⟩;refine aE (λhlt=>?_) (λhge=>?_)
 .obtain⟨l,hx⟩:=fI hsl hlt;obtain⟨b,o,u,ea,rd,hr⟩:=bV.at hl hx;have hul:=bV.slen hr;have hll:=bV.len hr;obtain⟨tb,htb⟩:∃tb,s.tables[i]? =some tb:=⟨_,List.getElem?_eq_getElem aC⟩
  have badi:¬TN tb l->K (cI 80) m h:=λhb=>bad λhok=>hb (hok i tb l htb hx);refine⟨b,o,ea,aC,aC,u,.imm rd,λz=>z.1=i/\z.2.1=u/\z.2.2<=l.length/\(∀k r,k<z.2.2->l[k]? =some r->C4 tb r=true)/\∀k r r',k+1<z.2.2->l[k]? =some r->l[k+1]? =some r'->eE (kF tb r) (kF tb r')<0,λz=>l.length-z.2.2,⟨(i,u,0),⟨rfl,rfl,by simp,λk r hk=>by simp at hk,λk r r' hk=>by simp at hk⟩,MT⟩,?_⟩;rintro⟨i',u',j⟩ ⟨e1,e2,hj,hfit,hkey⟩;dsimp only at e1 e2 hj hfit hkey⊢
  subst e1 e2;refine aE (λhlt2=>?_) (λhge2=>?_)
  .obtain⟨r,hxr⟩:=fI hul hlt2;obtain⟨b2,o2,w,ea2,rd2,hv⟩:=bV.at hr hxr;refine⟨b2,o2,ea2,aC,aC,w,.imm rd2,v,s,i',w,r,rfl,hs,hv,aB (λef=>badi λhok=>?_) (λef=>?_)⟩
   .rw[T6 htb,hok.1 r (List.mem_of_getElem? hxr)]at ef;cases ef
   have hf:C4 tb r=true:=by rw[T6 htb]at ef;simpa using ef
   have hfit':∀k r,k<j+1->l[k]? =some r->C4 tb r=true:=λk r' hk hr'=>by
    by_cases e5:k=j
    .subst e5;rw[hxr]at hr';cases hr';exact hf
    .exact hfit k r' aC hr'
   refine aE (λhj0=>?_) (λhj0=>?_)
   .have hw:IntKind.i64.wrap ((j:Int)-1)=((j-1:Nat):Int):=by rw[dX aC aC];omega
    obtain⟨r0,hx0⟩:∃r0,l[j-1]? =some r0:=⟨_,List.getElem?_eq_getElem aC⟩
    obtain⟨b3,o3,w3,ea3,rd3,hv3⟩:=bV.at hr hx0;rw[hw];refine⟨b3,o3,ea3,aC,aC,w3,.imm rd3,v,s,i',w3,r0,rfl,hs,hv3,λs1 hs1=>⟨rd3,v,s,i',w,r,rfl,hs,hv,λs2 hs2=>⟨rd3,s1,s2,_,_,rfl,hs1,hs2,aE (λhc=>badi λhok=>?_) (λhc=>?_)⟩⟩⟩
    .rw[DX htb,DX htb]at hc;have:=hok.2 (j-1) r0 r hx0 (by rw[show j-1+1=j by omega];exact hxr);omega
    .rw[DX htb,DX htb]at hc;refine⟨(i',u',j+1),⟨rfl,rfl,by show j+1<=l.length;omega,hfit',λk r1 r2 hk h1 h2=>?_⟩,by show l.length-(j+1)<l.length-j;omega,?_⟩
     .by_cases e5:k+1=j
      .have:k=j-1:=by omega
       subst this;rw[hx0]at h1;rw[e5,hxr]at h2;cases h1;cases h2;omega
      .exact hkey k r1 r2 (by have:k+1<j+1:=hk;omega) h1 h2
     .dsimp only;rw[jA aC];exact MT
   .refine⟨(i',u',j+1),⟨rfl,rfl,by show j+1<=l.length;omega,hfit',λk r1 r2 hk h1 h2=>by have:k+1<j+1:=hk;omega⟩,by show l.length-(j+1)<l.length-j;omega,?_⟩;dsimp only;rw[jA aC];exact MT
  .refine⟨i'+1,⟨aC,λk t l' hk ht hl'=>?_⟩,aC,?_⟩
   .by_cases e5:k=i'
    .subst e5;rw[htb]at ht;cases ht;rw[hx]at hl';cases hl';refine⟨λr hr=>?_,λk r r' h1 h2=>hkey k r r' ?_ h1 h2⟩
     .obtain⟨n,hn,rfl⟩:=List.mem_iff_getElem.1 hr;exact hfit n _ aC (List.getElem?_eq_getElem hn)
     .have:=(List.getElem?_eq_some_iff.1 h2).1;omega
    .exact hall k t l' aC ht hl'
   .rw[jA aC];exact MT
 .rw[if_pos]at hK
  .exact hK
  .exactλj t l h1 h2=>hall j t l (by have:=(List.getElem?_eq_some_iff.1 h2).1;omega) h1 h2
def IG:Vc.Spec:=λcvs m h K=>∃sc p v s ps q,cvs=[aS sc,cS p,aQ v]/\gM h s sc/\Ints h p ps/\dK h q v/\j9 q=true/\KR K m h (fB s ps q)
noncomputable def f55q_ctx(p:Sl)(N:Nat):Ctx:={wH [(79,yT),(80,OB),(81,v7 N)]
 [(5,{A:=Nat×Nat×Nat×Nat×Nat×MH×PH,st:=λ⟨i,a,b,c,d,m,h⟩=>cE 53 56 [(1,sv p),(3,vv (.pointer (some ⟨a,0,none⟩))),(5,vv (.pointer (some ⟨b,0,none⟩))),(6,vv (.pointer (some ⟨c,0,none⟩))),(7,vv (.pointer (some ⟨d,0,none⟩))),(18,sv p),(19,iv p.len),(20,iv i)] [] m h})] [] [] [200003,200005,200006,200007,200011,0] [] false with elemT:=[3,38]}
noncomputable abbrev oC(a:Nat×Nat×Nat×Nat×Nat×MH×PH):Nat:=AI a.2
noncomputable abbrev oD(a:Nat×Nat×Nat×Nat×Nat×MH×PH):Nat:=(dT a.2).1
noncomputable abbrev yA(a:Nat×Nat×Nat×Nat×Nat×MH×PH):Nat->Option Obj:=eY (dT a.2)
noncomputable abbrev sY(a:Nat×Nat×Nat×Nat×Nat×MH×PH):Nat->Nat->Option Value:=eD (dT a.2)
abbrev NZ(a b:Int)(c:Prop)(d:(Nat×Nat×Nat×Nat×Nat×MH×PH)->Prop):Prop:=fQ a b c (∃(x:Nat×Nat×Nat×Nat×Nat×MH×PH),d x)
attribute [push_cast] oC oD yA sY NZ
def f55q_nice(sc:bH)(p:Sl)(v:QV)(N:Nat)(m:MH)(h:PH)(K:CV->MH->PH->Prop):Prop:=
  ∀(b:Nat)(m1:MH),bC (cM m h b) (bE m m1 b (bR sc) 43) (∀(b1:Nat)(m2:MH),bC (cM m1 h b1) (bE m1 m2 b1 v.enc 38) (∀(b2:Nat)(m3:MH),bC (cM m2 h b2) (bE m2 m3 b2 iQ 33) (∀(b3:Nat)(m4:MH),bC (cM m3 h b3) (bE m3 m4 b3 (j6 dA) 54) (∃(y:bH),aM m4 h b 0 (bR y)/\FR y h (λs=>eX (λc E=>aA (oX m4 b2 (dV c E 0)) (0<c.size) (∀(m5:MH),bE m4 m5 b2 (eU tT 1 c) E->eX (λc1 E1=>aA (oX m5 b3 (dV c1 E1 0)) (0<c1.size) (∀(m6:MH),bE m5 m6 b3 (eU (eW (eG s)) 1 c1) E1->∃(y1:Sl),aM m6 h b2 0 (aR y1)/\lA m6 h b3 0 (λy2=>K (CV.tup (bU (kU y1) y2)) m6 h)))))) (∃(I:Nat×Nat×Nat×Nat×Nat×MH×PH->Prop)(m5:Nat×Nat×Nat×Nat×Nat×MH×PH->Nat),(∃(x:Nat×Nat×Nat×Nat×Nat×MH×PH),aA (I x)
 (aK p) (aA (cF b x.2.1) (cF b1 x.2.2.1) (aA (cF b2 (oC x)) (cF b3 (oD x)) (aA (aK p) (bK p) (aH (bG x.1) (cO m4 (dT x.2).2) (dO h (dT x.2).2) True)))))/\∀(x:Nat×Nat×Nat×Nat×Nat×MH×PH),I x->bD (↑x.1:Int) (aG p) (aT (λb4 o=>aH (aU p.a b4 o) (0<=(↑x.1:Int)) ((↑x.1:Int)<aG p) (∃(y1:Int),aM (yA x) (sY x) b4 (bB o x.1 1) (cK y1)/\NZ y1 3 (NZ y1 4 (NZ y1 5 (eX (λc E=>aA (oX (yA x) (oC x) (dV c E 0)) (0<c.size) (∀(m6:MH),bE (yA x) m6 (oC x) (eU tT 1 c) E->eX (λc1 E1=>aA (oX m6 (oD x) (dV c1 E1 0)) (0<c1.size) (∀(m7:MH),bE m6 m7 (oD x) (eU (eW 1) 1 c1) E1->∃(y2:Sl),aM m7 (sY x) (oC x) 0 (aR y2)/\lA m7 (sY x) (oD x) 0 (λy3=>
 K (CV.tup (bU (kU y2) y3)) m7 (sY x))))))) (λx1=>aA (I x1) (m5 x1<m5 x) (aA (aK p) (cF x.2.1 x1.2.1) (aA (cF x.2.2.1 x1.2.2.1) (cF (oC x) (oC x1)) (aA (cF (oD x) (oD x1)) (aK p) (aA (bK p) (gS (aW x.1 1)=bX x1.1) (aA (cO (yA x) (dT x1.2).2) (dO (sY x) (dT x1.2).2) True))))))) (λx1=>aA (I x1) (m5 x1<m5 x) (aA (aK p) (cF x.2.1 x1.2.1) (aA (cF x.2.2.1 x1.2.2.1) (cF (oC x) (oC x1)) (aA (cF (oD x) (oD x1)) (aK p) (aA (bK p) (gS (aW x.1 1)=bX x1.1) (aA (cO (yA x) (dT x1.2).2) (dO (sY x) (dT x1.2).2) True))))))) (λx1=>aA (I x1) (m5 x1<m5 x) (aA (aK p) (cF x.2.1 x1.2.1) (aA (cF x.2.2.1 x1.2.2.1) (cF (oC x) (oC x1)) (aA (cF (oD x) (oD x1)) (aK p) (aA
 (bK p) (gS (aW x.1 1)=bX x1.1) (aA (cO (yA x) (dT x1.2).2) (dO (sY x) (dT x1.2).2) True))))))))) (∀(b4:Nat)(m6:MH),bC (cM (yA x) (sY x) b4) (bE (yA x) m6 b4 (j6 dA) 3) (eX (λc E=>aA (oX m6 b4 (dV c E 0)) (0<c.size) (∀(m7:MH),bE m6 m7 b4 (eU dA 1 c) E->BK m7 (sY x) x.2.2.1 (λy1=>∃(v1:QV),gY (fH (bJ y1) (bJ v1)) (λb5=>∀(h1:PH),dZ (sY x) h1 (bF h1 b5 0 v1.enc) (∃(S:PH->List Value->List (List Value)->Prop)(x1:List (Int×QV))(I1:Nat->MH->PH->Prop),aA (Di Proofs.Tryz.prog 114 S) (S h1 (j6 (Yg b5 0)) (List.map (fun(x2:Int×QV)=>kX (eW x2.1) (Value.agg (Array.mk x2.2.enc))) x1)) (aA (I1 0 m7 h1) (∀(k:Nat)(e:Int)(e1:QV),eA (λm8 h2=>bC (x1[k]? =Option.some (e,e1)) (PH.le h1
 h2) (I1 k m8 h2->lA m8 h2 b4 0 (λy2=>eX (λc1 E1=>aA (oX m8 b4 (dV c1 E1 0)) (0<c1.size) (∀(m9:MH),bE m8 m9 b4 (eU (eW (eB (y2+1))) 1 c1) E1->lA m9 h2 b4 0 (λy3=>dH (decide (y3>24)) (eX (λc2 E2=>aA (oX m9 (oC x) (dV c2 E2 0)) (0<c2.size) (∀(a:MH),bE m9 a (oC x) (eU tT 1 c2) E2->eX (λc3 E3=>aA (oX a (oD x) (dV c3 E3 0)) (0<c3.size) (∀(a1:MH),bE a a1 (oD x) (eU (eW 2) 1 c3) E3->False))))) (decide (e>8)) (eX (λc2 E2=>aA (oX m9 (oC x) (dV c2 E2 0)) (0<c2.size) (∀(a:MH),bE m9 a (oC x) (eU tT 1 c2) E2->eX (λc3 E3=>aA (oX a (oD x) (dV c3 E3 0)) (0<c3.size) (∀(a1:MH),bE a a1 (oD x) (eU (eW 2) 1 c3) E3->False))))) (I1 (k+1) m9 h2)))))))) (eA (λm8 h2=>dZ h1 h2 (I1
 x1.length m8 h2) (∃(y2:bH),aM m8 h2 x.2.1 0 (bR y2)/\BK m8 h2 x.2.2.1 (λy3=>DI y2 p y3 h2 N (λs p1 q s1 h3=>eX (λc1 E1=>aA (oX m8 (oC x) (dV c1 E1 0)) (0<c1.size) (∀(m9:MH),bE m8 m9 (oC x) (eU (eR s1) 1 c1) E1->eX (λc2 E2=>aA (oX m9 (oD x) (dV c2 E2 0)) (0<c2.size) (∀(a:MH),bE m9 a (oD x) (eU (eW (cA s p1 q).2) 1 c2) E2->∃(y4:Sl),aM a h3 (oC x) 0 (aR y4)/\lA a h3 (oD x) 0 (λy5=>K (CV.tup (bU (kU y4) y5)) a h3)))))))))))))))))))))))
mutual
theorem K6:∀(p:Query)(n:Nat),kN p n=false->Cu p<=n
 |.mk _ _ _ _ _ _ _ _ args,0,h=>by simp[kN]at h
 |.mk _ _ _ _ _ _ _ _ args,n+1,h=>by
  simp only[kN]at h;have:=Iz args n h;simp only[Cu];omega
theorem Iz:∀(ps:List Query)(n:Nat),nW ps n=false->zK ps<=n
 |[],_,_=>by simp[zK]
 |p::ps,n,h=>by
  simp only[nW,Bool.or_eq_false_iff]at h;have h1:=K6 p n h.1;have h2:=Iz ps n h.2;simp only[zK];omega
end
mutual
theorem rY.deep{h:PH}:∀{q:Query}{v:QV}{d:Nat}{es:List (Nat×QV)},rY h q v d es->∀e∈es,e.1<d+Cu q
 |.mk op ta _ _ _ _ _ _ args,v,d,es,w,e,he=>by
  rw[rY]at w;obtain⟨vs,ess,h1,h2,rfl⟩:=w;simp only[Cu];rcases List.mem_cons.1 he with rfl|he
  .show d<_;omega
  .have:=iN.deep h2 e he;omega
theorem iN.deep{h:PH}:∀{qs:List Query}{vs:List QV}{d:Nat}{es:List (Nat×QV)},iN h qs vs d es->∀e∈es,e.1<d+zK qs
 |[],vs,d,es,w,e,he=>by rw[iN]at w;rw[w.2]at he;simp at he
 |q::qs,vs,d,es,w,e,he=>by
  rw[iN]at w;obtain⟨v,vs',e1,e2,h1,h2,h3,h4,rfl⟩:=w;simp only[zK];rcases List.mem_append.1 he with he|he
  .have:=rY.deep h3 e he;omega
  .have:=iN.deep h4 e he;omega
end
theorem WA{m mx:MH}{h hx:PH}{b6 b7:Nat}{x6 x7:Value}{sl:Sl}{e:Int}{K:CV->MH->PH->Prop}(h67:b6≠b7)(n6:m b6=none)(n7:m b7=none)(a6:mx b6=some (.cells #[x6] 33 (0,0)))(a7:mx b7=some (.cells #[x7] 54 (0,0)))(s:Sub m mx)(le:PH.le h hx)(hK:K (.tup [cS sl,cI e]) m hx):
 ∃(cs:Array Value)(E:TypeId),oX mx b6 (.cells cs E (0,0))/\0<cs.size/\∀m':MH,fV mx m' b6 (.cells (Array.mk (eR sl::cs.toList.drop 1)) E (0,0))->∃(cs:Array Value)(E:TypeId),oX m' b7 (.cells cs E (0,0))/\0<cs.size/\∀m2:MH,fV m' m2 b7 (.cells (Array.mk (eW e::cs.toList.drop 1)) E (0,0))->∃y:Sl,aM m2 hx b6 0 [eR y]/\∃y1:Int,aM m2 hx b7 0 [eW y1]/\dQ h K (.tup [cS y,cI y1]) m2 hx:=by
 refine⟨_,_,⟨a6⟩,by simp,λm1 u1=>⟨_,_,⟨by rw[u1.other b7 (Ne.symm h67)];exact a7⟩,by simp,λm2 u2=>⟨sl,.of_m (by rw[u2.other b6 h67];exact u1.at_) rfl,e,.of_m u2.at_ rfl,λ_=>⟨m,hx,λb o e2=>?_,le,λb i v e2=>.inl e2,hK⟩⟩⟩⟩;rw[u2.other b (λe3=>by rw[e3,n7]at e2;cases e2),u1.other b (λe3=>by rw[e3,n6]at e2;cases e2)];exact s b o e2
theorem f55q_sound:Sound Tryz.prog 55 IG:=by
 refine Ev Tryz.func55 ?_;rintro cvs m h K ⟨sc,p,v,s,ps,q,rfl,hs,hp,hq,hsm,hK⟩;refine⟨f55q_ctx p (SizeOf.sizeOf q+1),rfl,aD Hi (aD KD (aD (Ml _) aF)),f55q_nice sc p v (SizeOf.sizeOf q+1) m h (dQ h K),by kernel_rfl,?_⟩;show f55q_nice sc p v (SizeOf.sizeOf q+1) m h (dQ h K);dsimp only[f55q_nice,push_cast];have hl:=hp.slen;have hlen:=hp.len;have hcn:=GP hsm;have hdp:Cu q<=8:=K6 q 8 (by simp only[j9,Bool.and_eq_true,Bool.not_eq_true']at hsm;exact hsm.2);unfold fB at hK;rw[if_pos hsm]at hK;intro b3 m1 u1 w1 b5 m2 u2 w2 b6 m3 u3 w3 b7 m4 u4 w4;obtain⟨s1,n3⟩:=hZ (Sub.refl m) u1 w1;obtain⟨s2,n5⟩:=hZ s1 u2 w2;obtain⟨s3,n6⟩:=hZ s2 u3 w3;obtain⟨s4,n7⟩:=hZ s3 u4 w4;have up:∀{ma mb:MH}{b:Nat}{o:Obj}{hh:PH},cM ma hh b->fV ma mb b o->∀{x o'},ma x=some o'->mb x=some o':=fun{ma mb b o hh} u w{x o'} e=>by rw[w.other x (λe2=>by rw[e2,u.m_]at e;cases e)];exact e
 have a3:=up u4 w4 (up u3 w3 (up u2 w2 w1.at_));have a5:=up u4 w4 (up u3 w3 w2.at_);have a6:=up u4 w4 w3.at_;have a7:=w4.at_;have d67:b6≠b7:=λe=>by have e2:=w3.at_;rw[e,u4.m_]at e2;cases e2
 refine⟨sc,.of_m a3 rfl,sc,s,rfl,hs,aB (λh1=>?_) (λh1=>?_)⟩
 .rw[if_neg (by simpa using h1)]at hK;exact WA (sl:=cJ) d67 n6 n7 a6 a7 s4 (.refl _) (hK cJ h (.refl _) (jK h))
 have h1:eG s=0:=by simpa using h1
 rw[if_pos h1]at hK;refine⟨λz=>z.2=(b3,b5,b6,b7,m4,h)/\z.1<=ps.length/\(ps.take z.1).all cT=true,λz=>ps.length-z.1,⟨(0,b3,b5,b6,b7,m4,h),⟨rfl,by simp,by simp⟩,MT⟩,?_⟩;rintro⟨i,z⟩ ⟨ez,hi,hall⟩;dsimp only at ez hi hall;subst ez;dsimp only;refine aE (λhlt=>?_) (λhge=>?_)
 .obtain⟨x,hx⟩:=fI hl hlt;obtain⟨b,o,e,r⟩:=hp.at' hx;have good:cT x=true->(ps.take (i+1)).all cT=true:=λhc=>by rw[wI hx,hall,hc];rfl
  have hw:IntKind.i64.wrap ((i:Int)+1)=((i+1:Nat):Int):=jA aC;have go:cT x=true->((i+1,b3,b5,b6,b7,m4,h):Nat×Nat×Nat×Nat×Nat×MH×PH).2=(b3,b5,b6,b7,m4,h)/\i+1<=ps.length/\(ps.take (i+1)).all cT=true:=λhc=>⟨rfl,aC,good hc⟩
  rw[hw];refine⟨b,o,e,aC,hlt,x,.imm r,aB (λc1=>aB (λc2=>aB (λc3=>?_) (λc3=>⟨(i+1,b3,b5,b6,b7,m4,h),go ?_,by show ps.length-(i+1)<ps.length-i;omega,MT⟩)) (λc2=>⟨(i+1,b3,b5,b6,b7,m4,h),go ?_,by show ps.length-(i+1)<ps.length-i;omega,MT⟩)) (λc1=>⟨(i+1,b3,b5,b6,b7,m4,h),go ?_,by show ps.length-(i+1)<ps.length-i;omega,MT⟩)⟩
  .have:cT x=false:=by simp_all [cT]
   rw[if_neg (λe=>by rw[yL hx this]at e;cases e)]at hK;exact WA (sl:=cJ) d67 n6 n7 a6 a7 s4 (.refl _) (hK cJ h (.refl _) (jK h))
  .simp_all [cT]
  .simp_all [cT]
  .simp_all [cT]
 rw[List.take_of_length_le aC]at hall;rw[if_pos hall]at hK;intro b11 m5 u5 w5;refine⟨_,_,⟨w5.at_⟩,by simp,λm6 w6=>?_⟩
 have k6:∀{x o'},m4 x=some o'->m6 x=some o'/\x≠b11:=fun{x o'} e=>by
  have:x≠b11:=λe2=>by rw[e2,u5.m_]at e;cases e
  exact⟨by rw[w6.other x this];exact up u5 w5 e,this⟩
 refine⟨v,.of_m (k6 a5).1 rfl,v,rfl,λbw h1' le1 hbw=>?_⟩;obtain⟨es,hw⟩:=rY.of (hq.mono le1) 1;have hes:=hw.small;have hdeep:=hw.deep;refine⟨JG,es.map λe=>((e.1:Int),e.2),λk mx hx=>hx=h1'/\Ba m6 mx b11/\mx b11=some (.cells #[eW (k:Nat)] 3 (0,0)),T0,⟨bw,v,q,es,rfl,hbw,hw,aC,by rw[List.map_map];rfl⟩,⟨rfl,λx o e _=>e,w6.at_⟩,?_,?_⟩
 .rintro k d e' mx hx hk-⟨rfl,hsx,hb11⟩
  rw[List.getElem?_map]at hk;cases hek:es[k]? with
  |none=>rw[hek]at hk;cases hk
  |some e=>
   rw[hek]at hk;simp only[Option.map_some,Option.some.injEq,Prod.mk.injEq]at hk;obtain⟨rfl,rfl⟩:=hk;have hkl:=(List.getElem?_eq_some_iff.1 hek).1;have hde:=hdeep e (List.mem_of_getElem? hek);have hw2:IntKind.i64.wrap ((k:Int)+1)=((k+1:Nat):Int):=jA aC;refine⟨k,.of_m hb11 rfl,_,_,⟨hb11⟩,by simp,λm7 w7=>⟨((k+1:Nat):Int),?_,aE (λhgt=>by omega) (λ_=>aE (λhgt=>by omega) (λ_=>⟨rfl,λx o e1 e2=>by rw[w7.other x e2];exact hsx x o e1 e2,?_⟩))⟩⟩
   .rw[<-hw2];exact .of_m w7.at_ rfl
   .rw[<-hw2];exact w7.at_
 .rintro mx hx-⟨rfl,hsx,hb11⟩
  have kx:∀{x o'},m4 x=some o'->mx x=some o':=fun{x o'} e=>hsx x o' (k6 e).1 (k6 e).2;refine⟨sc,.of_m (kx a3) rfl,v,.of_m (kx a5) rfl,sc,p,v,s,ps,q,rfl,hs.mono le1,uE h1,hp.mono le1,hq.mono le1,aC,λsl h7 le7 hi7=>?_⟩;exact WA d67 n6 n7 (kx a6) (kx a7) (λx o e=>kx (s4 x o e)) (le1.trans le7) (hK sl h7 (le1.trans le7) hi7)
noncomputable def AW(s:pV)(st:List (List (List VV)))(q:Query):List (List VV)×Int:=
 if(fB s [] q).2≠0 then([],(fB s [] q).2)else if qD s st≠0 then([],qD s st)else(j5 st q,0)
def Ro(st:List (List (List VV)))(q:Query):Prop:=∃c,1<=c/\(∀l∈st,l.length<=c)/\nA c q<=1000000
structure En(h:PH)(sl:Sl)(st:List (List (List VV))):Prop where
 lea:Leaves h sl st
 len:st.length<=1000
 val:StV st
theorem En.mono{sl:Sl}{st:List (List (List VV))}(x:En h sl st)(le:PH.le h h'):En h' sl st:=⟨bV.mono x.lea le λl s hr=>bV.mono hr le λr t hv=>cR.mono hv le,x.len,x.val⟩
def ZV:Vc.Spec:=λcvs m h K=>∃v s sl st w q,cvs=[aS v,ZR sl,aQ w]/\gM h s v/\En h sl st/\dK h q w/\j9 q=true/\jN m/\((fB s [] q).2=0->qD s st=0->Ro st q)/\∀s' h',PH.le h h'->Rows h' s' (AW s st q).1->K (.tup [cS s',cI (AW s st q).2]) m h'
def Z0:Vc.Spec:=λcvs m h K=>∃o v w,cvs=[cI o,aQ v,aQ w]/\∀s h',PH.le h h'->cW h' s 21 [v.enc,w.enc]->K (aQ ⟨o,0,gT,cJ,cJ,cJ,cJ,0,s⟩) m h'
def UF:Vc.Spec:=λcvs m h K=>∃n,cvs=[cI n]/\K (aV ⟨4,n,⟨#[]⟩⟩) m h
noncomputable def Zd(w:QV)(sl:Sl):Ctx:=dN [(55,IG),(56,De),(57,TB),(58,OF)]
 [(10,{A:=Nat×List Sl×Sl×MH×PH,st:=λ⟨i,us,s,m,h⟩=>cE 54 57 [(4,.at (.ptr 4 0)),(5,.at (.ptr 5 0)),(12,.at (.lst 34)),(35,sv s),(36,iv s.len),(37,iv i)] [(4,.cells 25 [.val (.slice sl.a sl.len sl.cap)]),(5,.cells 38 (w.enc.map .val)),(34,.lst 53 1 (us.map eS))] m h})] [] [] false
abbrev pZ(a:List At):Prop:=eQ (oQ 25 a)
attribute [push_cast] pZ
def QC(v:bH)(sl:Sl)(w:QV)(m:MH)(h:PH)(K:CV->MH->PH->Prop):Prop:=
  CP (λs p=>∃(v1:QV),zE (λs1 p1=>∃(q:Query),aA (bT (bR v) (bI Dc (bJ w))=bT (bR s) (fW p (bJ v1))) (gM h s1 s) (aA (Ints h p p1) (dK h q v1) (nD (j9 q)/\kP (λs2 h1=>dZ h h1 (Ints h1 s2 (fB s1 p1 q).1) (fQ (fB s1 p1 q).2 0 (K (CV.tup (bI Dc (CV.val (eW (fB s1 p1 q).2)))) m h1) (jX (λv2 s3=>uO (λs4 s5=>aA (bT (bR v) (bI (fK 3) (jM (aR sl)))=bT (bR v2) (bI (fK 3) (jM (aR s4)))) (gM h1 s3 v2) (aA (Leaves h1 s4 s5) (mX s5.length) (fQ (qD s3 s5) 0 (dM K (qD s3 s5) m h1) (kK (λv3 q1=>aH (fH (bJ w) (bJ v3)) (dK h1 q1 v3) (tO q1<=900000) (kP (λs6 h2=>dZ h1 h2 (Ints h2 s6 (jO q1)) (aA (cN (aG s6)) (aG s6<=aG s6) (aA (pK (aG s6*24)) (pK (aG
 s6)) (F4 (λI x=>aA (I x) (eP 4) (aA dU (eL 34) (aA (aZ s6 (dL x)) (cH s6 (dL x)) (aA (bG x.1) (pZ (w8 sl)) (aA (eT w) (dJ 53 1 (List.replicate (aG s6).toNat iQ)=dJ 53 1 (iF x)) (aA (cO m (fE x)) (dO h2 (fE x)) True)))))) (λI m1 x=>I x->bD (↑x.1:Int) (aG (dL x)) (aT (λb o=>aH (aU (dL x).a b o) (0<=(↑x.1:Int)) ((↑x.1:Int)<aG (dL x)) (∃(y:Int),aM (fE x).1 (lH x) b (bB o x.1 1) (cK y)/\aT (λb1 o1=>aH (aU sl.a b1 o1) (0<=y) (y<aG sl) (∃(y1:Sl),aH (aM (fE x).1 (lH x) b1 (fL o1 y 1) (aR y1)) (0<=(↑x.1:Int)) ((↑x.1:Int)<kJ (iF x)) (∃(e:List Value),G7 (tG (iF x) (qG x.1) e) (0<e.length) (λx1=>aA (I x1) (m1 x1<m1 x) (aA (eP 4) dU (aA
 (eL 34) (aZ (dL x) (dL x1)) (aA (cH (dL x) (dL x1)) (gS (aW x.1 1)=bX x1.1) (aA (pZ (w8 sl)) (eT w) (aA (dJ 53 1 (List.set (iF x) (qG x.1) (eR y1::List.drop 1 e))=dJ 53 1 (iF x1)) (cO (fE x).1 (fE x1)) (kI (lH x) (fE x1)))))))))))))) (aX (lH x) 1 (iF x) (λs7 h3=>∃(l:Sl)(v4:QV)(l1:List (List (List VV)))(q2:Query),aA (fW s7 (bJ w)=fW l (bJ v4)) (Leaves h3 l l1) (aA (dK h3 q2 v4) (TX l1 q2 0) (aH (jN (fE x).1) ((jL l1 q2 0).1.length<=1000000) (BQ (jL l1 q2 0).1 (λr=>yZ r)) (kP (λs8 h4=>dZ h3 h4 (Rows h4 s8 (jL l1 q2 0).1) (K (CV.tup (bU (kU s8) 0)) (fE x).1 h4))))))))))))))))))))))))))
def WY(o:Int)(v w:QV)(m:MH)(h:PH)(K:CV->MH->PH->Prop):Prop:=
  aX h 21 (v.enc::bL w.enc) (λs h1=>K (jM (oZ (eW o) dA (sG tT (y9 (aR s))))) m h1)
noncomputable abbrev u9(a:Int):List Value:=aY (eW 4) (eW a) zC
attribute [push_cast] u9
def WW(n:Int)(m:MH)(h:PH)(K:CV->MH->PH->Prop):Prop:=
  K (jM (u9 n)) m h
mutual
theorem GV:∀q:Query,(jO q).length<=tO q
 |.mk op ta _ _ _ _ _ _ args=>by
  have:=J0 args;rw[jO,tO,List.length_append];split<;>simp<;>omega
theorem J0:∀qs:List Query,(iO qs).length<=qV qs
 |[]=>by simp[iO,qV]
 |q::qs=>by
  have:=GV q;have:=J0 qs;rw[iO,qV,List.length_append];omega
end
theorem VR:Sound Tryz.prog 21 ZV:=by
 refine iJ Tryz.func21 ?_;rintro cvs m h K ⟨v,s,sl,st,w,q,rfl,hs,hst,hq,hsm,hT,hb,hK⟩;refine⟨Zd w sl,rfl,aD f55q_sound (aD f56_sound (aD f57_sound (aD f58_sound aF))),QC v sl w m h K,by kernel_rfl,?_⟩;dsimp only[QC,push_cast];unfold AW at hK;refine⟨v,cJ,w,s,[],q,rfl,hs,jK h,hq,hsm,λsl1 h1 le1 _=>aB (λe=>?_) (λe=>?_)⟩
 .rw[if_pos (by simpa using e)]at hK;exact hK ⟨none,0,0⟩ h1 le1 (bV.nil _ _ _ _)
 have e:(fB s [] q).2=0:=by simpa using e
 rw[if_neg (by simp[e])]at hK;refine⟨v,s,sl,st,rfl,hs.mono le1,(hst.mono le1).lea,hst.len,aB (λe2=>?_) (λe2=>?_)⟩
 .rw[if_pos (by simpa using e2)]at hK;exact hK ⟨none,0,0⟩ h1 le1 (bV.nil _ _ _ _)
 have e2:qD s st=0:=by simpa using e2
 rw[if_neg (by simp[e2])]at hK;dsimp only at hK;obtain⟨c,c1,c2,c3⟩:=hb e e2;obtain⟨_,_,_,hkz⟩:=zU e;have hkq:cA s [] q=((cA s [] q).1,0):=Prod.ext rfl hkz;obtain⟨ok,ev,rel,len⟩:=Rt e2 hst.val c2 c1 hkq c3;have hcnt:=GP hsm;have hsl:=GV q;have hin:=Fq hkq;have htl:=(JR e2).2.1;refine⟨w,q,rfl,hq.mono le1,aC,λs' h2 le2 hi=>?_⟩;have hil:=hi.slen;have hst2:=hst.mono (le1.trans le2);have hstl:=bV.slen hst2.lea;generalize hts:jO q=ts at hi hil hsl hin;refine⟨aC,aC,aC,aC,λz=>z.1<=ts.length/\z.2.2.1=s'/\z.2.2.2.1=m/\z.2.2.2.2=h2/\∃us,z.2.1=us++List.replicate (ts.length-z.1) ⟨none,0,0⟩/\us.length=z.1/\∀(j:Nat) u t,us[j]? =some u->ts[j]? =some t->Rows h2 u (st.getD t.toNat []),λz=>ts.length-z.1,⟨(0,List.replicate ts.length ⟨none,0,0⟩,s',m,h2),⟨by simp,rfl,rfl,rfl,[],by simp,rfl,λj u t h=>by simp at h⟩,?_⟩,?_⟩
 .rw[show((s'.len:Int)).toNat=ts.length by omega];dsimp only;rw[List.map_replicate];exact MT
 rintro⟨i,l,s2,m2,h3⟩ ⟨hi1,e3,e4,e5,us,hl,hul,hrow⟩;dsimp only at hi1 e3 e4 e5 hl hul hrow⊢
 subst e3 e4 e5;refine aE (λhlt=>?_) (λhge=>?_)
 .obtain⟨t,hx⟩:=fI hil hlt;obtain⟨b,o,ea,rd⟩:=hi.at' hx;have ht:=hin t (List.mem_of_getElem? hx);have htn:t.toNat<st.length:=by omega
  have e6:st[t.toNat]? =some (st.getD t.toNat []):=by rw[List.getD_eq_getElem?_getD,List.getElem?_eq_getElem htn];rfl
  obtain⟨b2,o2,u,ea2,rd2,hr⟩:=bV.at hst2.lea e6;have hll:l.length=ts.length:=by rw[hl,List.length_append,List.length_replicate];omega
  have hev:l[i]? =some ⟨none,0,0⟩:=by
   rw[hl,List.getElem?_append_right aC,List.getElem?_replicate,if_pos aC]
  refine⟨b,o,ea,aC,aC,t,.imm rd,b2,o2,ea2,ht.1,aC,u,.imm rd2,aC,by rw[List.length_map];omega,[tT],by rw[List.getElem?_map,show((i:Int)).toNat=i from rfl,hev];rfl,by simp,(i+1,l.set i u,s2,m2,h3),⟨by show i+1<=ts.length;omega,rfl,rfl,rfl,us++[u],?_,by simp[hul],λj u' t' h7 h8=>?_⟩,by show ts.length-(i+1)<ts.length-i;omega,?_⟩
  .dsimp only;rw[hl,List.set_append,if_neg aC,List.append_assoc];congr 1;rw[show ts.length-i=(ts.length-(i+1))+1 by omega,List.replicate_succ,show i-us.length=0 by omega];rfl
  .by_cases hj:j<us.length
   .rw[List.getElem?_append_left hj]at h7;exact hrow j u' t' h7 h8
   .rw[List.getElem?_append_right aC]at h7;have:j-us.length=0:=by have:=(List.getElem?_eq_some_iff.1 h7).1;simp at this;omega
    rw[this]at h7;simp at h7;subst h7;have:j=i:=by omega
    subst this;rw[hx]at h8;cases h8;exact hr
  .dsimp only
   have e9:((l.map eS).set ((i:Int)).toNat (eR u::List.drop 1 [tT]))=(l.set i u).map eS:=by
    rw[List.map_set];rfl
   rw[e9,jA aC];exact MT
 .have:i=ts.length:=by omega
  subst this;rw[Nat.sub_self,List.replicate_zero,List.append_nil]at hl;subst hl;intro s3 h4 le4 hri;refine⟨s3,w,nO st q,q,rfl,⟨⟨l,hri,by rw[nO,List.length_map,hts,hul],λi x hx=>?_⟩,by rw[nO,List.length_map,hts];omega⟩,hq.mono ((le1.trans le2).trans le4),ok,hT,by rw[ev];exact len,λr hr=>?_,λs5 h5 le5 hr=>hK s5 h5 (((le1.trans le2).trans le4).trans le5) (by rw[<-ev];exact hr)⟩
  .rw[nO,hts,List.getElem?_map]at hx;cases e7:ts[i]? with
   |none=>rw[e7]at hx;cases hx
   |some t=>
    rw[e7]at hx;simp only[Option.map_some,Option.some.injEq]at hx;subst hx;have hil2:=(List.getElem?_eq_some_iff.1 e7).1;exact⟨l[i],List.getElem?_eq_getElem aC,bV.mono (hrow i _ t (List.getElem?_eq_getElem aC) e7) le4 λr t hv=>cR.mono hv le4⟩
  .rw[ev]at hr;have:=(rel.row r hr).len;omega
theorem VJ:Sound Tryz.prog 27 Z0:=by
 refine iJ Tryz.func27 ?_;rintro cvs m h K ⟨o,v,w,rfl,hK⟩;refine⟨dN [] [] [] [] false,rfl,aF,WY o v w m h K,by kernel_rfl,?_⟩;exact hK
theorem Vx:Sound Tryz.prog 61 UF:=by
 refine iJ Tryz.func61 ?_;rintro cvs m h K ⟨n,rfl,hK⟩;refine⟨dN [] [] [] [] false,rfl,aF,WW n m h K,by kernel_rfl,?_⟩;exact hK
def TG:Vc.Spec:=λcvs m h K=>∃s r,cvs=[cS s]/\cR h s r/\r.length<=1000/\∀s' h',PH.le h h'->cR h' s' r->K (cS s') m h'
def X7:Vc.Spec:=λcvs m h K=>∃v s t sl r,cvs=[aS v,cI t,cS sl]/\gM h s v/\cR h sl r/\r.length<=1000/\∀s' h',PH.le h h'->cR h' s' (Gh s t r)->K (cS s') m h'
def OM(key:Int)(ks:List Int)(r:List VV):Prop:=r.length=ks.length/\(∀v∈r,IL v)/\∀(i:Nat) v k,r[i]? =some v->ks[i]? =some k->yK key k i v=true
def akZ:Vc.Spec:=λcvs m h K=>∃cb s key ks,cvs=[cP cb,cS s,cI key,cI 3]/\aJ m h cb/\Ints h s ks/\ks.length<=1000/\(∀k∈ks,k=3\/k=4\/k=5)/\∀s' r m' h',PH.le h h'->cR h' s' r->OM key ks r->aL m m' cb->aJ m' h' cb->K (cS s') m' h'
def Wj(m:MH)(tb:Nat)(us:List Sl):Prop:=∃cur:Array Value,m tb=some (.cells cur 53 (0,0))/\us.length<=cur.size/\cur.toList.take us.length=us.map Sl.val
def alQ:Vc.Spec:=λcvs m h K=>∃v s tb n cap us u,∃t:Nat,∃tab rs sk kr sr row,cvs=[aS v,ZR ⟨some ⟨tb,0,none⟩,n,cap⟩,cI t,cS sk,cS sr]/\gM h s v/\s.tables[t]? =some tab/\Wj m tb us/\n=us.length/\us[t]? =some u/\Rows h u rs/\rs.length<=1000/\(∀r∈rs,r.length<=1000)/\cR h sk kr/\cR h sr row/\0<row.length/\row.length<=1000/\
 ∀u' m' h',PH.le h h'->Rows h' u' (yY tab kr row false rs)->Wj m' tb (us.set t u')->aL m m' tb->K (ZR ⟨some ⟨tb,0,none⟩,n,cap⟩) m' h'
noncomputable def Y3(cb:Nat)(key:Int)(s:Sl):Ctx:=dN [(16,Ls),(77,OD)]
 [(3,{A:=Nat×List VV×MH×PH,st:=λ⟨i,l,m,h⟩=>cE 59 63 [(0,pv cb),(2,iv key),(3,iv 3),(9,.at (.lst 24)),(12,sv s),(13,iv s.len),(14,iv i)] [(24,.lst 27 3 (l.map VV.enc))] m h})] [] [] false
noncomputable def Y0(v:bH)(sl:Sl)(t:Nat)(sk sr:Sl)(m:MH):Ctx:=dN [(46,X7),(62,GK),(53,TG)]
 [(4,{A:=Nat×List Sl×Bool×Sl×PH,st:=λ⟨i,us,d,u,h⟩=>cE 66 71 [(2,iv t),(3,sv sk),(4,sv sr),(5,.at (.ptr 5 0)),(6,.at (.ptr 6 0)),(10,.at (.ptr 10 0)),(11,.at (.lst 45)),(12,bv d),(23,sv u),(24,iv u.len),(25,iv i)] [(5,.cells 43 (v.enc.map .val)),(6,.cells 25 [.val sl.val]),(10,.cells 25 [.val cJ.val]),(45,.lst 74 1 (us.map eS))] m h})]
 [(9,{A:=Nat×List Sl×Bool×Sl×Sl×Int×PH,st:=λ⟨i,us,d,u,r,c,h⟩=>cE 66 71 [(2,iv t),(3,sv sk),(4,sv sr),(5,.at (.ptr 5 0)),(6,.at (.ptr 6 0)),(10,.at (.ptr 10 0)),(11,.at (.lst 45)),(12,bv d),(14,sv r),(15,iv c),(23,sv u),(24,iv u.len),(25,iv i)] [(5,.cells 43 (v.enc.map .val)),(6,.cells 25 [.val sl.val]),(10,.cells 25 [.val cJ.val]),(45,.lst 74 1 (us.map eS))] m h}),
  (14,{A:=List Sl×PH,st:=λ⟨us,h⟩=>cE 66 71 [(2,iv t),(6,.at (.ptr 6 0)),(10,.at (.ptr 10 0)),(11,.at (.lst 45))] [(6,.cells 25 [.val sl.val]),(10,.cells 25 [.val cJ.val]),(45,.lst 74 1 (us.map eS))] m h})] [] false
def f53_nice(s:Sl)(m:MH)(h:PH)(K:CV->MH->PH->Prop):Prop:=
  ∃(y:List (List Value)),aA (eV 3 y) (cW h (dR s) 3 y) (aA (iB (y.length*32)) (iB y.length) (aX h 3 y (λs1 h1=>K (kU s1) m h1)))
def Qk(v:bH)(t:Int)(s:Sl)(m:MH)(h:PH)(K:CV->MH->PH->Prop):Prop:=
  bD t 0 (K Dc m h) (gQ t (iG v) (K Dc m h) (aT (λb o=>aH (aU (qJ v) b o) (0<=t) (t<aG v.tables) (∃(y:Int),aH (aM m h b (fL o t 5+2) (cK y)) (0<=ite (pD s y>0) (pD s y) 0) (ite (pD s y>0) (pD s y) 0<=(↑s.cap:Int)) (mD (λs1 r=>aH (fH (CV.val (Value.slice s.a (ite (pD s y>0) (pD s y) 0).toNat s.cap)) (kU s1)) (cR h s1 r) (yZ r) (kP (λs2 h1=>dZ h h1 (cR h1 s2 r) (K (kU s2) m h1)))))))))
noncomputable abbrev DT(a:Nat×List VV×MH×PH):Nat->Option Obj:=a.2.2.1
noncomputable abbrev zB(a:Nat×List VV×MH×PH):Nat->Nat->Option Value:=a.2.2.2
abbrev z7(a:Nat×List VV×MH×PH)(b:(Nat×List VV×MH×PH)->Prop):Prop:=aA (iB (((sO a.2.1).length+1)*32)) (iX (sO a.2.1)) (∃(x:Nat×List VV×MH×PH),b x)
abbrev Ae(a:Prop)(b c d:Nat)(e:Int)(g:Sl)(i j:Nat×List VV×MH×PH)(k:Prop)(l:MH):Prop:=aA a (b<c) (aA (cV d) (kW e) (aA j8 (eL 24) (aA (aK g) (bK g) (aA (gS (aW i.1 1)=bX j.1) k (aA (cO l j.2.2) (dO (zB i) j.2.2) True)))))
abbrev z6(a:Nat)(b:Nat×List VV×MH×PH)(c:List Value)(d:Nat×List VV×MH×PH):Prop:=dJ 27 a (sO b.2.1++bL c)=dJ 27 a (sO d.2.1)
attribute [push_cast] DT zB z7 Ae z6
def Qn(cb:Nat)(s:Sl)(key:Int)(m:MH)(h:PH)(K:CV->MH->PH->Prop):Prop:=
  ∃(I:Nat×List VV×MH×PH->Prop)(m1:Nat×List VV×MH×PH->Nat),(∃(x:Nat×List VV×MH×PH),aA (I x) (cV cb) (aA (kW key) j8 (aA (eL 24) (aK s) (aA (bK s) (bG x.1) (aH (uJ 27 3 (sO x.2.1)) (cO m x.2.2) (dO h x.2.2) True)))))/\∀(x:Nat×List VV×MH×PH),I x->bD (↑x.1:Int) (aG s) (aT (λb o=>aH (aU s.a b o) (0<=(↑x.1:Int)) ((↑x.1:Int)<aG s) (∃(y:Int),aM (DT x) (zB x) b (bB o x.1 1) (cK y)/\dH (decide ((↑x.1:Int)>=key)) (fZ cb 5 (DT x) (zB x) (λr m2=>dH r (z7 x (λx1=>Ae (I x1) (m1 x1) (m1 x) cb key s x x1 (z6 3 x (aY (eW 2) dA zC) x1) m2)) (decide ((↑x.1:Int)>=key)) (fZ cb 5 m2 (zB x) (λr1 m3=>branch r1 (z7 x (λx1=>Ae (I x1) (m1 x1) (m1 x) cb key s x x1 (z6 3 x (aY
 (eW 1) dA zC) x1) m3)) (BO cb y m3 (zB x) (λv m4=>z7 x (λx1=>Ae (I x1) (m1 x1) (m1 x) cb key s x x1 (z6 3 x v.enc x1) m4))))) (BO cb y m2 (zB x) (λv m3=>z7 x (λx1=>Ae (I x1) (m1 x1) (m1 x) cb key s x x1 (z6 3 x v.enc x1) m3))))) (decide ((↑x.1:Int)>=key)) (fZ cb 5 (DT x) (zB x) (λr m2=>branch r (z7 x (λx1=>Ae (I x1) (m1 x1) (m1 x) cb key s x x1 (z6 3 x (aY (eW 1) dA zC) x1) m2)) (BO cb y m2 (zB x) (λv m3=>z7 x (λx1=>Ae (I x1) (m1 x1) (m1 x) cb key s x x1 (z6 3 x v.enc x1) m3))))) (BO cb y (DT x) (zB x) (λv m2=>z7 x (λx1=>Ae (I x1) (m1 x1) (m1 x) cb key s x x1 (z6 3 x v.enc x1) m2)))))) (aX (zB x) 3 (sO x.2.1) (λs1 h1=>K (kU s1) (DT x) h1))
noncomputable abbrev Af(a:Nat×List Sl×Bool×Sl×PH):Bool:=a.2.2.1
noncomputable abbrev mM(a:Nat×List Sl×Bool×Sl×PH):Sl:=a.2.2.2.1
abbrev pY:Prop:=eQ (oQ 25 (mF OA))
noncomputable abbrev tE(a:Nat×List Sl×Bool×Sl×PH):List (List Value):=rL a.2.1
noncomputable abbrev tA(a:Nat×List Sl×Bool×Sl×PH):Nat->Nat->Option Value:=a.2.2.2.2
abbrev Jg(a:(Nat×List Sl×Bool×Sl×Sl×Int×PH)->Prop)(b:Nat)(c d:Sl)(e:(Nat×List Sl×Bool×Sl×Sl×Int×PH)->Prop):Prop:=∃(x:Nat×List Sl×Bool×Sl×Sl×Int×PH),aA (a x) (eQ (bX b)) (aA (aK c) (aK d) (aA dU (eP 6) (aA kC (eL 45) (e x))))
noncomputable abbrev sZ(a:Nat×List Sl×Bool×Sl×Sl×Int×PH):Sl:=a.2.2.2.1
noncomputable abbrev B4(a:Nat×List Sl×Bool×Sl×Sl×Int×PH):List (List Value):=rL a.2.1
noncomputable abbrev DP(a:Nat×List Sl×Bool×Sl×Sl×Int×PH):Nat->Nat->Option Value:=a.2.2.2.2.2.2
attribute [push_cast] Af mM pY tE tA Jg sZ B4 DP
def Ql(v:bH)(tb n cap t:Nat)(sk sr:Sl)(m:MH)(h:PH)(K:CV->MH->PH->Prop):Prop:=
  aT (λb o=>aH (aU (kZ tb) b o) (0<=(↑t:Int)) ((↑t:Int)<(↑n:Int)) (∃(y:Sl),aM m h b (bB o t 1) (aR y)/\∃(I:Nat×List Sl×Bool×Sl×PH->Prop)(m1:Nat×List Sl×Bool×Sl×PH->Nat),(∃(x:Nat×List Sl×Bool×Sl×PH),aA (I x) (eQ (bX t)) (aA (aK sk) (aK sr) (aA dU (eP 6) (aA kC (eL 45) (aA (gH (aG sr==0) (Af x)) (aZ y (mM x)) (aA (cH y (mM x)) (bG x.1) (aA (cG v) (pZ (mF (At.val (Value.slice (kZ tb) n cap)))) (aA pY (uJ 74 1 (tE x)) (eH m m h (tA x))))))))))/\∀(x:Nat×List Sl×Bool×Sl×PH),I x->bD (↑x.1:Int) (aG (mM x)) (aT (λb1 o1=>aH (aU (mM x).a b1 o1) (0<=(↑x.1:Int)) ((↑x.1:Int)<aG (mM x)) (∃(y1:Sl),aM m (tA x) b1 (bB o1 x.1 1) (aR y1)/\
 jX (λv1 s=>∃(t1:Int),mD (λs1 r=>aA (bT (bR v) (bI (fK (↑t:Int)) (kU y1))=bT (bR v1) (bI (fK t1) (kU s1))) (gM (tA x) s v1) (aA (cR (tA x) s1 r) (yZ r) (kP (λs2 h1=>dZ (tA x) h1 (cR h1 s2 (Gh s t1 r)) (z8 s2 sk h1 (λa b2=>∃(I1:Nat×List Sl×Bool×Sl×Sl×Int×PH->Prop),gQ (eE a b2) 0 (branch (!(Af x)) (mD (λs3 r1=>aH (vT sr s3) (cR h1 s3 r1) (yZ r1) (kP (λs4 h2=>dZ h1 h2 (cR h2 s4 r1) (nM (tE x) 24 (Jg (λx1=>I1 x1) t sk sr (λx1=>aA (uK x1.2.2.1) (aZ y1 x1.2.2.2.2.1) (aA (cZ (eE a b2) x1.2.2.2.2.2.1) (aZ (mM x) (sZ x1)) (aA (cH (mM x) (sZ x1)) (bY x.1 x1.1) (aA (cG v) (pZ (mF (At.val (Value.slice (kZ tb) n cap)))) (aA pY (sQ
 (kB (tE x) s4) (B4 x1)) (aA (m=m) (h2=DP x1) True)))))))))))) (Jg (λx1=>I1 x1) t sk sr (λx1=>aA (gH (Af x) x1.2.2.1) (aZ y1 x1.2.2.2.2.1) (aA (cZ (eE a b2) x1.2.2.2.2.2.1) (aZ (mM x) (sZ x1)) (aA (cH (mM x) (sZ x1)) (bY x.1 x1.1) (aA (cG v) (pZ (mF (At.val (Value.slice (kZ tb) n cap)))) (aA pY (sQ (tE x) (B4 x1)) (aA (m=m) (h1=DP x1) True)))))))) (Jg (λx1=>I1 x1) t sk sr (λx1=>aA (gH (Af x) x1.2.2.1) (aZ y1 x1.2.2.2.2.1) (aA (cZ (eE a b2) x1.2.2.2.2.2.1) (aZ (mM x) (sZ x1)) (aA (cH (mM x) (sZ x1)) (bY x.1 x1.1) (aA (cG v) (pZ (mF (At.val (Value.slice (kZ tb) n cap)))) (aA pY (sQ (tE x) (B4 x1)) (aA (m=m) (h1=DP x1)
 True)))))))/\∀(x1:Nat×List Sl×Bool×Sl×Sl×Int×PH),gU (I1 x1) (x1.2.2.2.2.2.1 !=0) (nM (B4 x1) 24 (∃(x2:Nat×List Sl×Bool×Sl×PH),aA (I x2) (m1 x2<m1 x) (aA (eQ (bX t)) (aK sk) (aA (aK sr) dU (aA (eP 6) kC (aA (eL 45) (gH x1.2.2.1 (Af x2)) (aA (aZ (sZ x1) (mM x2)) (cH (sZ x1) (mM x2)) (aA (gS (aW x1.1 1)=bX x2.1) (cG v) (aA (pZ (mF (At.val (Value.slice (kZ tb) n cap)))) pY (dE (sQ (kB (B4 x1) x1.2.2.2.2.1) (tE x2)) m m (DP x1) (tA x2))))))))))) (∃(x2:Nat×List Sl×Bool×Sl×PH),aA (I x2) (m1 x2<m1 x) (aA (eQ (bX t)) (aK sk) (aA (aK sr) dU (aA (eP 6) kC (aA (eL 45) (gH x1.2.2.1 (Af x2)) (aA (aZ (sZ x1) (mM x2)) (cH (sZ x1) (mM x2)) (aA (gS
 (aW x1.1 1)=bX x2.1) (cG v) (aA (pZ (mF (At.val (Value.slice (kZ tb) n cap)))) pY (dE (sQ (B4 x1) (tE x2)) m m (DP x1) (tA x2)))))))))))))))))))) (∃(I1:List Sl×PH->Prop),branch (!(Af x)) (mD (λs r=>aH (vT sr s) (cR (tA x) s r) (yZ r) (kP (λs1 h1=>dZ (tA x) h1 (cR h1 s1 r) (nM (tE x) 24 (∃(x1:List Sl×PH),aA (I1 x1) (eQ (bX t)) (aA (eP 6) kC (aA (eL 45) (pZ (mF (At.val (Value.slice (kZ tb) n cap)))) (aA pY (sQ (kB (tE x) s1) (rL x1.1)) (eH m m h1 x1.2)))))))))) (∃(x1:List Sl×PH),aA (I1 x1) (eQ (bX t)) (aA (eP 6) kC (aA (eL 45) (pZ (mF (At.val (Value.slice (kZ tb) n cap)))) (aA pY (sQ (tE x) (rL x1.1)) (eH m m (tA x) x1.2)))))/\∀(x1:List Sl
 ×PH),I1 x1->aT (λb1 o1=>aH (aU (kZ tb) b1 o1) (0<=(↑t:Int)) ((↑t:Int)<(↑n:Int)) (aX x1.2 1 (rL x1.1) (λs h1=>eX (λc E=>aA (oX m b1 (dV c E 0)) (bB o1 t 1<c.size) (∀(m2:MH),bE m m2 b1 (splice c.toList (bB o1 t 1) (aR s)) E->K (jM (j6 (Value.slice (kZ tb) n cap))) m2 h1))))))))
theorem f53_sound:Sound Tryz.prog 53 TG:=by
 refine iJ Tryz.func53 ?_;rintro cvs m h K ⟨s,r,rfl,hs,hl,hK⟩;refine⟨dN [] [] [] [] false,rfl,aF,f53_nice s m h K,by kernel_rfl,?_⟩;dsimp only[f53_nice,push_cast];obtain⟨⟨vs,h1,h2,h3⟩,h4⟩:=hs;exact⟨vs.map VV.enc,J1 vs,h1,by rw[List.length_map];omega,by rw[List.length_map];omega,λs' h' le hri=>hK s' h' le ⟨⟨vs,hri,h2,h3⟩,h4⟩⟩
theorem Mo:Sound Tryz.prog 46 X7:=by
 refine iJ Tryz.func46 ?_;rintro cvs m h K ⟨v,s,t,sl,r,rfl,hs,hv,hl,hK⟩;refine⟨dN [(53,TG)] [] [] [] false,rfl,aD f53_sound aF,Qk v t sl m h K,by kernel_rfl,?_⟩;dsimp only[Qk,push_cast];have htl:=hs.tables.slen;have hrl:=bV.slen hv;have none_:uR s t=false->K Dc m h:=λe=>hK ⟨none,0,0⟩ h (.refl _) (by simp only[Gh,e];exact bV.nil _ _ _ _);refine aE (λh1=>none_ (by simp[uR];omega)) (λh1=>aE (λh2=>none_ (by simp[uR];omega)) (λh2=>?_));have e:uR s t=true:=by simp[uR];omega
 obtain⟨tb,htb⟩:∃tb,s.tables[t.toNat]? =some tb:=⟨_,List.getElem?_eq_getElem aC⟩
 obtain⟨b,o,y,ea,rd,hy⟩:=bV.at hs.tables htb;have hk:=hy.key;obtain⟨a,len,cap⟩:=sl;have hcap:len<=cap:=by obtain⟨vs,h5,_⟩:=hv.ex;exact h5.cap
 have hrl:len=r.length:=hrl
 have hmm:(if(if(len:Int)<y.key then(len:Int)else y.key)>0 then(if(len:Int)<y.key then(len:Int)else y.key)else 0)=max 0 (min tb.key r.length):=by
  rw[<-hk];split<;>split<;>omega
 refine⟨b,o,ea,aC,aC,y.key,.imm (bF.part rd 2 1),?_⟩;dsimp only;rw[hmm];have e2:Gh s t r=r.take (max 0 (min tb.key r.length)).toNat:=by simp only[Gh,e,if_true,htb];rfl
 rw[e2]at hK;exact⟨aC,aC,⟨a,(max 0 (min tb.key r.length)).toNat,cap⟩,_,rfl,hv.cut aC,by rw[List.length_take];omega,hK⟩
theorem OM.snoc{key:Int}{ks:List Int}{l:List VV}{k:Int}{v:VV}(x:OM key (ks.take i) l)(hk:ks[i]? =some k)(hv:IL v)(hf:yK key k i v=true):OM key (ks.take (i+1)) (l++[v]):=by
 obtain⟨h1,h2,h3⟩:=x;have hi:=(List.getElem?_eq_some_iff.1 hk).1;have hl:l.length=i:=by rw[h1,List.length_take];omega
 refine⟨by rw[List.length_append,List.length_take];simp;omega,λu hu=>?_,λj u k' hu hk'=>?_⟩
 .rcases List.mem_append.1 hu with hu|hu
  .exact h2 u hu
  .simp at hu;subst hu;exact hv
 .rw[List.getElem?_take]at hk';split at hk'
  .by_cases hj:j<l.length
   .rw[List.getElem?_append_left hj]at hu;exact h3 j u k' hu (by rw[List.getElem?_take,if_pos aC];exact hk')
   .have:j=i:=by omega
    subst this;rw[List.getElem?_append_right aC,hl,Nat.sub_self]at hu;simp at hu;subst hu;rw[hk]at hk';cases hk';exact hf
  .cases hk'
theorem PO{key k c:Int}(hc:c=1\/c=2)(hi:(i:Int)>=key):yK key k i ⟨c,0,⟨#[]⟩⟩=true:=by
 rcases hc with rfl|rfl<;>simp[yK,kG,EI]<;>omega
theorem Hh{key k:Int}{v:VV}(hk:ZH k)(hv:UJ k v):yK key k i v=true:=by
 obtain⟨h1,h2⟩:=hv hk;simp[yK,h1,h2]
theorem O1(c:Int):IL ⟨c,0,⟨#[]⟩⟩:=⟨⟨by simp,by simp⟩,by show(ByteArray.mk #[]).size<=64;decide⟩
theorem Vz:Sound Tryz.prog 43 akZ:=by
 refine iJ Tryz.func43 ?_;rintro cvs m h K ⟨cb,s,key,ks,rfl,hc,hs,hl,hk,hK⟩;refine⟨Y3 cb key s,rfl,aD yP (aD Hj aF),Qn cb s key m h K,by kernel_rfl,?_⟩;dsimp only[Qn,push_cast];have hsl:=hs.slen;refine⟨λz=>z.2.2.2=h/\z.1<=ks.length/\OM key (ks.take z.1) z.2.1/\aL m z.2.2.1 cb/\aJ z.2.2.1 h cb,λz=>ks.length-z.1,⟨(0,[],m,h),⟨rfl,by simp,⟨by simp,by simp,λj u k h=>by simp at h⟩,.refl _ _,hc⟩,MT⟩,?_⟩;rintro⟨i,l,m1,h'⟩ ⟨e1,hi,hfit,o1,c1⟩;dsimp only at e1 hi hfit o1 c1⊢
 subst e1;have hll:l.length=i:=by rw[hfit.1,List.length_take];omega
 refine aE (λhlt=>?_) (λhge s' h2 le2 hri=>?_)
 .obtain⟨k,hx⟩:=fI hsl hlt;obtain⟨b,o,ea,rd⟩:=hs.at' hx;have hkk:=hk k (List.mem_of_getElem? hx);have hI:∀(u:VV)(m':MH),IL u->yK key k i u=true->aL m1 m' cb->aJ m' h' cb->h'=h'/\i+1<=ks.length/\OM key (ks.take (i+1)) (l++[u])/\aL m m' cb/\aJ m' h' cb:=λu m' hu hf o c=>⟨rfl,aC,hfit.snoc hx hu hf,o1.trans o,c⟩
  have hmu:ks.length-(i+1)<ks.length-i:=by omega
  have hw:IntKind.i64.wrap ((i:Int)+1)=((i+1:Nat):Int):=jA aC;refine⟨b,o,ea,aC,aC,k,.imm rd,aE (λhik=>⟨cb,5,rfl,aC,aC,c1,λr m2 o2 c2=>aB (λ_=>?_) (λ_=>aE (λ_=>⟨cb,5,rfl,aC,aC,c2,λr m3 o3 c3=>aB (λ_=>?_) (λ_=>⟨cb,k,rfl,c3,λu m4 hu hku o4 c4=>?_⟩)⟩) (λ_=>⟨cb,k,rfl,c2,λu m4 hu hku o4 c4=>?_⟩))⟩) (λhik=>aE (λhik2=>absurd hik2 hik) (λ_=>⟨cb,k,rfl,c1,λu m4 hu hku o4 c4=>?_⟩))⟩
  .refine⟨by rw[List.length_map];omega,by rw[List.length_map];omega,(i+1,l++[⟨2,0,⟨#[]⟩⟩],m2,h'),hI _ m2 (O1 2) (PO (.inr rfl) hik) o2 c2,hmu,?_⟩;rw[hw,List.map_append];exact MT
  .refine⟨by rw[List.length_map];omega,by rw[List.length_map];omega,(i+1,l++[⟨1,0,⟨#[]⟩⟩],m3,h'),hI _ m3 (O1 1) (PO (.inl rfl) hik) (o2.trans o3) c3,hmu,?_⟩;rw[hw,List.map_append];exact MT
  .refine⟨by rw[List.length_map];omega,by rw[List.length_map];omega,(i+1,l++[u],m4,h'),hI _ m4 hu (Hh hkk hku) ((o2.trans o3).trans o4) c4,hmu,?_⟩;rw[hw,List.map_append];exact MT
  .refine⟨by rw[List.length_map];omega,by rw[List.length_map];omega,(i+1,l++[u],m4,h'),hI _ m4 hu (Hh hkk hku) (o2.trans o4) c4,hmu,?_⟩;rw[hw,List.map_append];exact MT
  .refine⟨by rw[List.length_map];omega,by rw[List.length_map];omega,(i+1,l++[u],m4,h'),hI _ m4 hu (Hh hkk hku) o4 c4,hmu,?_⟩;rw[hw,List.map_append];exact MT
 .rw[List.take_of_length_le aC]at hfit;exact hK s' l m1 h2 le2 ⟨⟨l,hri,rfl,λi x hx=>⟨x,hx,rfl⟩⟩,aC⟩ hfit o1 (c1.mono le2)
theorem Vy:Sound Tryz.prog 45 alQ:=by
 refine iJ Tryz.func45 ?_;rintro cvs m h K ⟨v,s,tb,n,cap,us,u,t,tab,rs,sk,kr,sr,row,rfl,hs,htab,hT,hn,hu,hrs,hrl,hrw,hkr,hrow,h0,h1,hK⟩;refine⟨Y0 v ⟨some ⟨tb,0,none⟩,n,cap⟩ t sk sr m,rfl,aD Mo (aD Hn (aD f53_sound aF)),Ql v tb n cap t sk sr m h K,by kernel_rfl,?_⟩;dsimp only[Ql,push_cast];obtain⟨cur,hcur,hcs,hcl⟩:=hT;have htl:t<us.length:=(List.getElem?_eq_some_iff.1 hu).1;have hul:=bV.slen hrs;have hsrl:=bV.slen hrow;have hd0:((sr.len:Int)==0)=false:=by simp;omega
 have hrd:(cur.toList.drop (0+t*1)).take [eR u].length=[eR u]:=by
  have hcurt:cur.toList[t]? =some (Sl.val u):=by
   have e:(cur.toList.take us.length)[t]? =some (Sl.val u):=by rw[hcl,List.getElem?_map,hu];rfl
   rwa [List.getElem?_take,if_pos htl]at e
  have hlt:=(List.getElem?_eq_some_iff.1 hcurt).1;rw[Nat.zero_add,Nat.mul_one,List.drop_eq_getElem_cons hlt,(List.getElem?_eq_some_iff.1 hcurt).2];rfl
 refine⟨tb,0,rfl,aC,aC,u,.lent cur 53 (0,0) hcur hrd,λz=>z.2.2.2.1=u/\z.1<=rs.length/\PH.le h z.2.2.2.2/\∃out,fD z.2.2.2.2 z.2.1 out/\out.length<=2*z.1/\out++yY tab kr row z.2.2.1 (rs.drop z.1)=yY tab kr row false rs,λz=>rs.length-z.1,⟨(0,[],false,u,h),⟨rfl,by simp,.refl _,[],fD.nil _,by simp,by simp⟩,by rw[hd0];exact MT⟩,?_⟩;rintro⟨i,vs,d,u',hx⟩ ⟨e1,hi,le1,out,hru,hol,lU⟩;dsimp only at e1 hi le1 hru hol lU⊢
 subst e1;have hvl:=hru.len;refine aE (λhlt=>?_) (λhge=>?_)
 .obtain⟨r,hxr⟩:=fI hul hlt;have hil:=(List.getElem?_eq_some_iff.1 hxr).1;obtain⟨b,o,w,ea,rd,hv⟩:=bV.at hrs hxr;have hdrop:rs.drop i=r::rs.drop (i+1):=by rw[List.drop_eq_getElem_cons hil,(List.getElem?_eq_some_iff.1 hxr).2]
  rw[hdrop,yY]at lU;refine⟨b,o,ea,aC,aC,w,.imm (rd.mono le1),v,s,t,w,r,rfl,hs.mono le1,cR.mono hv le1,hrw r (List.mem_of_getElem? hxr),λs' h2 le2 hkv=>⟨s',sk,_,kr,rfl,hkv,cR.mono hkr (le1.trans le2),?_⟩⟩;rw[DX htab];generalize hc:eE (kF tab r) kr=c at lU⊢
  refine⟨λz=>z.1=i/\z.2.2.2.1=u'/\z.2.2.2.2.1=w/\z.2.2.2.2.2.1=c/\PH.le hx z.2.2.2.2.2.2/\∃out,fD z.2.2.2.2.2.2 z.2.1 out/\out.length<=2*i+1/\out++((if c≠0 then[r]else[])++yY tab kr row z.2.2.1 (rs.drop (i+1)))=yY tab kr row false rs,aE (λhc0=>aB (λhd=>?_) (λhd=>?_)) (λhc0=>?_),?_⟩
  .have hd:d=false:=by simpa using hd
   subst hd;rw[if_pos ⟨hc0,rfl⟩,show(false||decide (0<=c))=true by simp;omega]at lU;refine⟨sr,row,rfl,cR.mono hrow (le1.trans le2),h1,λs2 h3 le3 hv3=>⟨by rw[List.length_map];omega,by rw[List.length_map];omega,(i,vs++[s2],true,u',w,c,h3),⟨rfl,rfl,rfl,rfl,le2.trans le3,out++[row],(hru.mono (le2.trans le3)).snoc hv3,by rw[List.length_append];simp;omega,?_⟩,?_⟩⟩
   .rw[List.append_assoc];exact lU
   .rw[List.map_append];exact MT
  .have hd:d=true:=by simpa using hd
   subst hd;rw[if_neg (by simp),Bool.true_or,List.nil_append]at lU;exact⟨(i,vs,true,u',w,c,h2),⟨rfl,rfl,rfl,rfl,le2,out,hru.mono le2,aC,lU⟩,MT⟩
  .rw[if_neg (λh=>hc0 h.1),show(d||decide (0<=c))=d by rw[decide_eq_false hc0,Bool.or_false],List.nil_append]at lU;exact⟨(i,vs,d,u',w,c,h2),⟨rfl,rfl,rfl,rfl,le2,out,hru.mono le2,aC,lU⟩,MT⟩
  clear lU hru hol hvl out vs;rintro⟨i',vs,d,u2,w2,c2,h3⟩ ⟨e2,e3,e4,e5,le3,out,hru,hol,lU⟩;dsimp only at e2 e3 e4 e5 le3 hru hol lU⊢
  subst e2 e3 e4 e5;have hvl:=hru.len;have hw:IntKind.i64.wrap ((i':Int)+1)=((i'+1:Nat):Int):=jA aC;refine aB (λhcn=>?_) (λhcn=>?_)
  .rw[if_pos (by simpa using hcn)]at lU;refine⟨by rw[List.length_map];omega,by rw[List.length_map];omega,(i'+1,vs++[w2],d,u2,h3),⟨rfl,by show i'+1<=rs.length;omega,le1.trans le3,out++[r],hru.snoc (cR.mono hv (le1.trans le3)),by rw[List.length_append];simp;omega,by rw[List.append_assoc];exact lU⟩,by show rs.length-(i'+1)<rs.length-i';omega,?_⟩;rw[hw,List.map_append];exact MT
  .rw[if_neg (by simpa using hcn),List.nil_append]at lU;refine⟨(i'+1,vs,d,u2,h3),⟨rfl,by show i'+1<=rs.length;omega,le1.trans le3,out,hru,by show out.length<=2*(i'+1);omega,lU⟩,by show rs.length-(i'+1)<rs.length-i';omega,?_⟩;rw[hw];exact MT
 .have hi2:i=rs.length:=by omega
  rw[hi2,List.drop_length,yY]at lU;refine⟨λz=>PH.le h z.2/\fD z.2 z.1 (yY tab kr row false rs),aB (λhd=>?_) (λhd=>?_),?_⟩
  .have hd:d=false:=by simpa using hd
   rw[hd,if_neg (by simp)]at lU;refine⟨sr,row,rfl,cR.mono hrow le1,h1,λs2 h3 le3 hv3=>⟨by rw[List.length_map];omega,by rw[List.length_map];omega,(vs++[s2],h3),⟨le1.trans le3,by rw[<-lU];exact(hru.mono le3).snoc hv3⟩,?_⟩⟩;rw[List.map_append];exact MT
  .have hd:d=true:=by simpa using hd
   rw[hd,if_pos rfl,List.append_nil]at lU;exact⟨(vs,hx),⟨le1,by rw[<-lU];exact hru⟩,MT⟩
  rintro⟨vs2,h3⟩ ⟨le3,hru3⟩;dsimp only at le3 hru3⊢
  have hpl:=IS (t:=tab) (key:=kr) (row:=row) (l:=rs) (d:=false);refine⟨tb,0,rfl,aC,aC,λs2 h4 le4 hri=>⟨cur,53,⟨hcur⟩,?_,λm' hup=>hK s2 m' h4 (le3.trans le4) ((hru3.mono le4).rows hri (by simp at hpl;omega)) ⟨_,hup.at_,?_,?_⟩ ⟨λb hb=>(hup.other b hb).symm▸rfl⟩⟩⟩
  .omega
  .have hsp:splice cur.toList (0+((t:Int)).toNat*1) [eR s2]=cur.toList.set t (Sl.val s2):=by
    rw[List.set_eq_take_append_cons_drop,if_pos (by rw[Array.length_toList];omega)];simp only[splice,Int.toNat_natCast,Nat.zero_add,Nat.mul_one,List.length_singleton,List.append_assoc];rfl
   rw[hsp];simp only[List.length_set,List.size_toArray,Array.length_toList];exact hcs
  .have hsp:splice cur.toList (0+((t:Int)).toNat*1) [eR s2]=cur.toList.set t (Sl.val s2):=by
    rw[List.set_eq_take_append_cons_drop,if_pos (by rw[Array.length_toList];omega)];simp only[splice,Int.toNat_natCast,Nat.zero_add,Nat.mul_one,List.length_singleton,List.append_assoc];rfl
   rw[hsp,List.length_set,List.map_set, <-hcl,List.take_set]
def Lp{α:Type}(T:List α->α->Prop):List α->List α->Prop
 |_,[]=>True
 |pre,x::r=>T pre x/\Lp T (pre++[x]) r
theorem PN{α:Type}{T:List α->α->Prop}:∀{l pre:List α},Lp T pre l->∀(j:Nat) x,l[j]? =some x->T (pre++l.take j) x
 |[],_,_,j,x,e=>by simp at e
 |y::r,pre,h,0,x,e=>by simp at e;subst e;simpa using h.1
 |y::r,pre,h,j+1,x,e=>by
  have:=PN h.2 j x (by simpa using e);simpa using this
theorem vX{α:Type}{T:List α->α->Prop}{l:List α}(h:Lp T [] l):Good T l:=λj x e=>by simpa using PN h j x e
theorem Vf{α:Type}{T:List α->α->Prop}{l:List α}(h:Good T l)(n:Nat):Good T (l.take n):=λj x e=>by
 rw[List.getElem?_take]at e;split at e
 .rename_i hj;rw[List.take_take,Nat.min_eq_left aC];exact h j x e
 .cases e
theorem Wx(h8:s.tables.length<=8)(hl:∀t∈s.tables,t.columns.length<=8/\t.refs=[]/\t.checks=[])(v0:0<=s.version)(v1:s.version<=1000)(hg:Good A9 s.tables):eG s=0:=by
 have lim:Ci s:=⟨h8,λj t e=>by
  obtain⟨h1,h2,h3⟩:=hl t (List.mem_of_getElem? e);exact⟨h1,by simp[h2],by simp[h3]⟩⟩
 have ok:IF s:=⟨v0,v1,hg,λj t e=>by
  obtain⟨h1,h2,h3⟩:=hl t (List.mem_of_getElem? e);unfold Cs;rw[h2];intro i x e2;simp at e2⟩
 rw[GU lim ok];refine AQ _ λe he=>?_;obtain⟨i,_,he⟩:=List.mem_flatMap.1 he;unfold sA at he;split at he
 .rename_i t ht;obtain⟨h1,h2,h3⟩:=hl t (List.mem_of_getElem? ht);rw[h3]at he;simp at he
 .simp at he
theorem RA{id:Int}(h:id=4\/id=5):Good A9 (lN id):=by
 have hk:cT id=true:=by rcases h with rfl|rfl<;>rfl
 refine vX ⟨⟨?_,?_,?_,?_,vX ⟨⟨?_,?_,?_⟩,⟨?_,?_,?_⟩,trivial⟩⟩,⟨?_,?_,?_,?_,vX ⟨⟨?_,?_,?_⟩,⟨?_,?_,?_⟩,⟨?_,?_,?_⟩,⟨?_,?_,?_⟩,trivial⟩⟩,⟨?_,?_,?_,?_,vX ⟨⟨?_,?_,?_⟩,⟨?_,?_,?_⟩,trivial⟩⟩,⟨?_,?_,?_,?_,vX ⟨⟨?_,?_,?_⟩,trivial⟩⟩,trivial⟩
 all_goals first|exact hk|rfl|(simp;done)|decide
theorem FA(h:pS s):eG s=0/\s.tables≠[]:=by
 obtain⟨ver,n,id,v0,v1,n2,n4,hid,rfl⟩:=h.ex;refine⟨Wx (by simp[lN];omega) (λt ht=>?_) v0 (by show ver<=1000;omega) (Vf (RA hid) n),λe=>?_⟩
 .have ht:=List.mem_of_mem_take ht;simp only[lN,List.mem_cons,List.not_mem_nil,or_false]at ht;rcases ht with rfl|rfl|rfl|rfl<;>exact⟨by simp,rfl,rfl⟩
 .have:=congrArg List.length e;simp[lN]at this;omega
theorem GZ(h:pS s){t:wJ}(ht:t∈s.tables):1<=t.key/\1<=t.columns.length/\t.columns.length<=4/\∀c∈t.columns,ZH c.kind:=by
 obtain⟨ver,n,id,v0,v1,n2,n4,hid,rfl⟩:=h.ex;have hk:ZH id:=by rcases hid with rfl|rfl;exact .inr (.inl rfl);exact .inr (.inr rfl)
 have ht:=List.mem_of_mem_take ht;simp only[lN,List.mem_cons,List.not_mem_nil,or_false]at ht;rcases ht with rfl|rfl|rfl|rfl
 all_goals
  refine⟨by simp,by simp,by simp,λc hc=>?_⟩;simp only[List.mem_cons,List.not_mem_nil,or_false]at hc
 .rcases hc with rfl|rfl<;>exact .inr (.inl rfl)
 .rcases hc with rfl|rfl|rfl|rfl
  .exact hk
  .exact .inr (.inl rfl)
  .exact .inr (.inr rfl)
  .exact .inl rfl
 .rcases hc with rfl|rfl<;>exact .inr (.inl rfl)
 .subst hc;exact hk
theorem Rz(h:pS s):XV s:=λt k hk=>by
 unfold iI at hk;split at hk
 .simp at hk
 .split at hk
  .simp at hk
  .rename_i tb htb;obtain⟨c,hc,rfl⟩:=List.mem_map.1 hk;exact(GZ h (List.mem_of_getElem? htb)).2.2.2 c hc
end Go.Ps
