/-
  Part 8 of a proof that a law of the given program returns true: a condition generator that is proved sound, and contracts of functions. No condition of its own. Own work, joined by a program (pack2.py).
-/
import Derived.Test.YtileehgdfcknkaaGreatDoorSg
set_option linter.unusedVariables false
set_option linter.unusedSimpArgs false
namespace Go.Ps
open Go Go.Vc Go.Proofs
variable{K:CV->MH->PH->Prop}{m:MH}{h:PH}{s:oF}{ps:List Int}{cb:Nat}{sc:cH}{v:QV}{q:Query}{p:Pred}{l:List Int}{i:Nat}{N:Nat}{m':MH}{h':PH}{co:List Int}{gr:List Int}{od:List (Int×Bool)}{w:Pred}{ta:Int}{li:Int}{xs:List (List Value)}{sz:Nat}{k:Nat}{ks:List (List Int)}{rs:List Int}{r:Sl}{a:List Int}{b:Nat}
structure B8(s:oF)(c:Nat)(ls:List (List (List VV)))(k:Nat)(ts:List Int):Prop where
 at_:∀(j:Nat)(t:Int),ts[j]? =some t->∃l,ls[k+j]? =some l/\iI (gI s t).length l/\l.length<=c
theorem B8.left{c:Nat}{ls:List (List (List VV))}{b:List Int}(x:B8 s c ls k (a++b)):B8 s c ls k a:=
 ⟨λj t h=>x.at_ j t (by rw[List.getElem?_append_left (List.getElem?_eq_some_iff.1 h).1];exact h)⟩
theorem B8.right{c:Nat}{ls:List (List (List VV))}{b:List Int}(x:B8 s c ls k (a++b)):B8 s c ls (k+a.length) b:=
 ⟨λj t h=>by
  have:=x.at_ (a.length+j) t (by rw[List.getElem?_append_right aC,Nat.add_sub_cancel_left];exact h)
  rwa [show k+a.length+j=k+(a.length+j)by omega]⟩
theorem AY{op:Int}{on:List (Int×Int)}{args:List Query}{ks:List Int}(h:bY s ps (.mk op ta w co on gr od li args)=(ks,0)):
 ∃kss,gC s ps args=(kss,0)/\(kss.length:Int)=arity op/\iS s ps (.mk op ta w co on gr od li args) (kss.getD 0 []) (kss.getD 1 [])=(ks,0):=by
 rw[bY]at h;generalize gC s ps args=r at h;obtain⟨kss,e⟩:=r;dsimp only at h;split at h
 .rename_i e0;subst e0;split at h
  .rename_i h1;exact⟨kss,rfl,h1,h⟩
  .simp[jT]at h
 .rename_i e0;simp only[jT,Prod.mk.injEq]at h;exact absurd h.2 e0
theorem kP{qs:List Query}{kss:List (List Int)}(h:gC s ps (q::qs)=(kss,0)):∃k kss',bY s ps q=(k,0)/\gC s ps qs=(kss',0)/\kss=k::kss':=by
 rw[gC]at h;generalize bY s ps q=r at h;obtain⟨k,e⟩:=r;generalize gC s ps qs=r at h;obtain⟨ks,e'⟩:=r;dsimp only at h;split at h
 .rename_i e0;split at h
  .rename_i e1;simp only[Prod.mk.injEq,and_true]at h;exact⟨k,ks,by rw[e0],by rw[e1],h.symm⟩
  .rename_i e1;simp only[Prod.mk.injEq]at h;exact absurd h.2 e1
 .rename_i e0;simp only[Prod.mk.injEq]at h;exact absurd h.2 e0
theorem oX{ks:List Int}(h:yY l=(ks,0)):ks=l/\l.length<=12:=by
 unfold yY at h;split at h
 .rename_i h1;simp only[Prod.mk.injEq,and_true]at h;exact⟨h.symm,h1⟩
 .simp at h
theorem Rw{op:Int}(h:arity op=0):op=1:=by
 unfold arity at h;split at h
 .rename_i e;simpa using e
 .split at h
  .omega
  .split at h<;>omega
mutual
theorem Po{s:oF}{ps:List Int}{c:Nat}(hc:1<=c):∀{q:Query}{ks:List Int},bY s ps q=(ks,0)->1<=lO c q
 |.mk op ta w co on gr od li args,ks,h=>by
  obtain⟨kss,h1,h2,h3⟩:=AY h;have h4:=Rx hc h1;rw[lO];split
  .exact hc
  .rename_i n1;split
   .exact h4.1
   .match args,h1,h4 with
    |[],h1,_=>rw[gC]at h1;simp only[Prod.mk.injEq,and_true]at h1;rw[<-h1]at h2;exact absurd (Rw h2.symm) n1
    |q::qs,h1,h4=>exact h4.2 (by simp)
theorem Rx{s:oF}{ps:List Int}{c:Nat}(hc:1<=c):∀{qs:List Query}{kss:List (List Int)},gC s ps qs=(kss,0)->1<=uI c qs/\(qs≠[]->1<=zC c qs)
 |[],kss,h=>by simp[uI]
 |q::qs,kss,h=>by
  obtain⟨k,kss',h1,h2,h3⟩:=kP h;have h4:=Po hc h1;have h5:=Rx hc h2;rw[uI,zC];exact⟨Nat.mul_pos h4 h5.1,λ_=>by omega⟩
end
def LQ(c:Nat):List Query->List (List Int)->List (List (List VV))->Prop
 |[],[],[]=>True
 |q::qs,k::ks,l::ls=>iI k.length l/\l.length<=lO c q/\LQ c qs ks ls
 |_,_,_=>False
theorem Mt{α:Type}:∀{l:List α},l.length=2->∃a b,l=[a,b]
 |[a,b],_=>⟨a,b,rfl⟩
theorem LQ.len{c:Nat}{qs:List Query}{ls:List (List (List VV))}(h:LQ c qs ks ls):qs.length=ks.length/\ls.length=ks.length:=by
 induction qs generalizing ks ls with
 |nil=>
  match ks,ls,h with
  |[],[],_=>exact⟨rfl,rfl⟩
  |_::_,[],h=>exact h.elim
  |[],_::_,h=>exact h.elim
  |_::_,_::_,h=>exact h.elim
 |cons q qs ih=>
  match ks,ls,h with
  |[],[],h=>exact h.elim
  |_::_,[],h=>exact h.elim
  |[],_::_,h=>exact h.elim
  |k::ks,l::ls,h=>
   obtain⟨h1,h2⟩:=ih h.2.2;exact⟨by simp[h1],by simp[h2]⟩
theorem iI.filter{w:Nat}{l:List (List VV)}(x:iI w l)(p:List VV->Bool):iI w (l.filter p):=
 ⟨λr h=>x.row r (List.mem_filter.1 h).1,λr h=>x.wid r (List.mem_filter.1 h).1,x.srt.filter p,Nat.le_trans (List.length_filter_le _ _) x.len⟩
theorem N2(x:List VV):∀l:List (List VV),(FW x l).length<=l.length+1
 |[]=>by simp[FW]
 |y::l=>by
  have:=N2 x l;simp only[FW];split
  .simp
  .split<;>simp<;>omega
theorem D4:∀l:List (List VV),(yO l).length<=l.length
 |[]=>by simp[yO]
 |x::l=>by
  have h1:=D4 l;have h2:=N2 x (yO l);show(FW x (yO l)).length<=(x::l).length;simp only[List.length_cons];omega
theorem iI.set{w:Nat}{l:List (List VV)}(h1:∀r∈l,Nf r)(h2:∀r∈l,r.length=w)(h3:l.length<=1000000):iI w (yO l):=
 ⟨λr h=>h1 r (D3.1 h),λr h=>h2 r (D3.1 h),Bv l,Nat.le_trans (D4 l) h3⟩
theorem Fj:∀{x y u v:List VV},x.length=y.length->dY (x++u) (y++v)=if dY x y≠0 then dY x y else dY u v
 |[],[],u,v,_=>by simp[dY]
 |a::x,b::y,u,v,h=>by
  simp only[List.length_cons,Nat.add_right_cancel_iff]at h;simp only[List.cons_append,dY];by_cases e:jU a b=0
  .simp only[e,ne_eq,not_true_eq_false,if_false];exact Fj h
  .simp[e]
 |[],_::_,_,_,h=>by simp at h
 |_::_,[],_,_,h=>by simp at h
theorem xZ{on:List (Int×Int)}{b:List (List VV)}{x z:List VV}(h:z∈mI on b x):∃y∈b,z=x++y:=by
 unfold mI at h;split at h
 .obtain⟨y,hy,rfl⟩:=List.mem_map.1 h;exact⟨y,(List.mem_filter.1 hy).1,rfl⟩
 .simp at h
theorem iI.join{w w':Nat}{a b:List (List VV)}{on:List (Int×Int)}(ha:iI w a)(hb:iI w' b)(hw:w+w'<=12)(hl:a.length*b.length<=1000000):iI (w+w') (a.flatMap (mI on b)):=by
 refine⟨λr h=>?_,λr h=>?_,?_,Nat.le_trans (uC λx _=>yA) hl⟩
 .obtain⟨x,hx,h⟩:=List.mem_flatMap.1 h;obtain⟨y,hy,rfl⟩:=xZ h;have h1:=ha.wid x hx;have h2:=hb.wid y hy;refine⟨by rw[List.length_append];omega,λv hv=>?_⟩;rcases List.mem_append.1 hv with hv|hv
  .exact(ha.row x hx).val v hv
  .exact(hb.row y hy).val v hv
 .obtain⟨x,hx,h⟩:=List.mem_flatMap.1 h;obtain⟨y,hy,rfl⟩:=xZ h;rw[List.length_append,ha.wid x hx,hb.wid y hy]
 .refine List.pairwise_flatMap.2 ⟨λx hx=>?_,?_⟩
  .unfold mI;split
   .refine List.pairwise_map.2 ((hb.srt.filter _).imp fun{y z} h=>?_);rw[Fj rfl,if_neg (by rw[kJ.2 rfl];simp)];exact h
   .exact List.Pairwise.nil
  .refine ha.srt.imp_of_mem fun{x y} hx hy h z hz u hu=>?_;obtain⟨z',_,rfl⟩:=xZ hz;obtain⟨u',_,rfl⟩:=xZ hu;rw[Fj (by rw[ha.wid x hx,ha.wid y hy]),if_pos aC];exact h
theorem Mx{c:Int}(h:Fq a c=true):0<=c/\c<a.length:=by
 simp only[Fq,Bool.and_eq_true,decide_eq_true_eq]at h;exact h
theorem EW{α:Type}{T:List α->α->Prop}{l:List α}(h:Good T l){x:α}(hx:x∈l):∃pre,T pre x:=by
 obtain⟨i,hi,e⟩:=List.mem_iff_getElem.1 hx;exact⟨_,h i x (by rw[<-e];exact List.getElem?_eq_getElem hi)⟩
theorem Ef:∀(n:Nat)(l:List Int),l.Nodup->(∀x∈l,0<=x/\x<n)->l.length<=n
 |0,[],_,_=>by simp
 |0,x::l,_,h=>by have:=h x (List.mem_cons_self ..);omega
 |n+1,l,hd,h=>by
  by_cases hn:(n:Int)∈l
  .have h1:=Ef n (l.erase n) (hd.erase _) (λx hx=>by
    have h2:=(hd.mem_erase_iff).1 hx;have:=h x h2.2;omega)
   rw[List.length_erase_of_mem hn]at h1;omega
  .have:=Ef n l hd (λx hx=>by
    have:=h x hx;have h3:x≠(n:Int):=λe=>hn (e▸hx);omega)
   omega
theorem Jc{α:Type}{T:List α->α->Prop}{l:List α}(f:α->Int)(hT:∀pre x,T pre x->f x∉pre.map f)(h:Good T l):(l.map f).Nodup:=by
 rw[List.nodup_iff_pairwise_ne,List.pairwise_map,List.pairwise_iff_getElem];intro i j hi hj hij e;refine hT _ _ (h j l[j] (List.getElem?_eq_getElem hj)) (List.mem_map.2 ⟨l[i],?_,e⟩);rw[List.mem_take_iff_getElem];exact⟨i,aC,rfl⟩
theorem Jb(h:Good (GH a) gr)(hl:a.length<=12):gO a.length gr:=by
 have h1:∀c∈gr,0<=c/\c<a.length:=λc hc=>by obtain⟨_,h2⟩:=EW h hc;exact Mx h2.1
 have h2:=Jc id (λpre x(h:GH a pre x)=>by simpa using h.2) h;rw[List.map_id]at h2;exact⟨h1,by have:=Ef _ _ h2 h1;omega⟩
theorem Kr{b:List Int}{on:List (Int×Int)}(h:Good (zZ a b) on)(ha:a.length<=12)(hb:b.length<=12):gO a.length (jQ on)/\gO b.length (fP on):=by
 have h1:∀c∈jQ on,0<=c/\c<a.length:=λc hc=>by
  obtain⟨p,hp,rfl⟩:=List.mem_map.1 hc;obtain⟨_,h2⟩:=EW h hp;exact Mx h2.1
 have h2:∀c∈fP on,0<=c/\c<b.length:=λc hc=>by
  obtain⟨p,hp,rfl⟩:=List.mem_map.1 hc;obtain⟨_,h2⟩:=EW h hp;exact Mx h2.2.1
 have h3:(jQ on).Nodup:=Jc Prod.fst (λpre x(h:zZ a b pre x) hm=>by
  obtain⟨y,hy,e⟩:=List.mem_map.1 hm;exact(h.2.2.2 y hy).1 e) h
 have h4:=Ef _ _ h3 h1;exact⟨⟨h1,aC⟩,⟨h2,by simp only[jQ,fP,List.length_map]at h4⊢;omega⟩⟩
theorem NO{w:Nat}{r:List VV}(hr:Nf r)(hw:r.length=w)(hc:gO w co)(hl:co.length<=12):Nf (pick r co)/\(pick r co).length=co.length:=
 ⟨⟨by simpa[pick]using hl,Ed hr (by rw[hw];exact hc)⟩,by simp[pick]⟩
theorem DZ{c:Nat}{p:Query}:zC c [q,p]=lO c q+lO c p:=by simp[zC]
theorem L1{c:Nat}:zC c [q]=lO c q:=by simp[zC]
theorem UM{c:Nat}{p:Query}:uI c [q,p]=lO c q*lO c p:=by simp[uI]
theorem Wx{c:Nat}{op:Int}{on:List (Int×Int)}{args:List Query}{ks:List Int}{kss:List (List Int)}{L:List (List (List VV))}(n1:op≠1)
 (h2:(kss.length:Int)=arity op)(h12:∀k∈kss,k.length<=12)(h3:iS s ps (.mk op ta w co on gr od li args) (kss.getD 0 []) (kss.getD 1 [])=(ks,0))(hA:LQ c args kss L)(hb:lO c (.mk op ta w co on gr od li args)<=1000000):
 Yr op (.mk op ta w co on gr od li args) L/\iI ks.length (Yq op (.mk op ta w co on gr od li args) L)/\(Yq op (.mk op ta w co on gr od li args) L).length<=lO c (.mk op ta w co on gr od li args):=by
 rw[lO,if_neg n1]at hb⊢
 unfold iS at h3;dsimp only at h3;split at h3
 .simp[jT]at h3
 have one:arity op=1->∃q k l,args=[q]/\kss=[k]/\L=[l]/\iI k.length l/\l.length<=lO c q/\k.length<=12:=λe=>by
  obtain⟨l1,l2⟩:=hA.len;obtain⟨k,rfl⟩:=List.length_eq_one_iff.1 (show kss.length=1 by omega);obtain⟨q,rfl⟩:=List.length_eq_one_iff.1 (show args.length=1 by simpa using l1);obtain⟨l,rfl⟩:=List.length_eq_one_iff.1 (show L.length=1 by simpa using l2);exact⟨q,k,l,rfl,rfl,rfl,hA.1,hA.2.1,h12 k (by simp)⟩
 have two:arity op=2->∃q p k k' l l',args=[q,p]/\kss=[k,k']/\L=[l,l']/\iI k.length l/\l.length<=lO c q/\iI k'.length l'/\l'.length<=lO c p/\k.length<=12/\k'.length<=12:=λe=>by
  obtain⟨l1,l2⟩:=hA.len;obtain⟨k,k',rfl⟩:=Mt (show kss.length=2 by omega);obtain⟨q,p,rfl⟩:=Mt (show args.length=2 by simpa using l1);obtain⟨l,l',rfl⟩:=Mt (show L.length=2 by simpa using l2);exact⟨q,p,k,k',l,l',rfl,rfl,rfl,hA.1,hA.2.1,hA.2.2.1,hA.2.2.2.1,h12 k (by simp),h12 k' (by simp)⟩
 have ar:op=2\/op=3\/op=9\/op=4\/op=5\/op=6\/op=7\/op=8\/op=10:=by
  have:0<=arity op:=by omega
  unfold arity at this;split at this
  .rename_i e;simp at e;exact absurd e n1
  .split at this
   .rename_i e;simp at e;omega
   .split at this
    .rename_i e;simp at e;omega
    .omega
 rcases ar with rfl|rfl|rfl|rfl|rfl|rfl|rfl|rfl|rfl
 .obtain⟨q,k,l,rfl,rfl,rfl,hr,hl,hk⟩:=one rfl;simp only[show((2:Int)=4)=False by decide,if_false,if_true]at h3 hb⊢
  split at h3
  .obtain⟨rfl,_⟩:=oX h3;refine⟨⟨by simp,λx hx=>by simp at hx;subst hx;exact⟨_,hr⟩⟩,hr.filter _,Nat.le_trans (List.length_filter_le _ _) ?_⟩;rw[L1];exact hl
  .rename_i e;simp only[jT,Prod.mk.injEq]at h3;exact absurd h3.2 e
 .obtain⟨q,k,l,rfl,rfl,rfl,hr,hl,hk⟩:=one rfl;simp only[show((3:Int)=4)=False by decide,show((3:Int)=2)=False by decide,if_false,if_true]at h3 hb⊢
  split at h3
  .rename_i hg;obtain⟨rfl,h12'⟩:=oX h3;rw[List.length_map]at h12'⊢
   have hc:gO k.length co:=⟨λc hc=>by obtain⟨_,h2⟩:=EW hg.2 hc;exact Mx h2,aC⟩
   rw[L1]at hb⊢
   refine⟨⟨by simp,h12',_,hr,hc⟩,iI.set (λr h=>?_) (λr h=>?_) (by show(l.map _).length<=_;rw[List.length_map];exact hr.len),Nat.le_trans (D4 _) (by show(l.map _).length<=_;rw[List.length_map];exact hl)⟩
   .obtain⟨x,hx,rfl⟩:=List.mem_map.1 h;exact(NO (hr.row x hx) (hr.wid x hx) hc h12').1
   .obtain⟨x,hx,rfl⟩:=List.mem_map.1 h;exact(NO (hr.row x hx) (hr.wid x hx) hc h12').2
  .simp[jT]at h3
 .obtain⟨q,k,l,rfl,rfl,rfl,hr,hl,hk⟩:=one rfl;simp only[show((9:Int)=4)=False by decide,show((9:Int)=2)=False by decide,show((9:Int)=3)=False by decide,show((9:Int)=5)=False by decide,if_false,if_true]at h3 hb⊢
  split at h3
  .rename_i hg;obtain⟨rfl,h12'⟩:=oX h3;rw[L1]at hb⊢
   exact⟨⟨by simp,⟨_,hr,Jb hg.group_ hk⟩,hg.low⟩,hr.filter _,Nat.le_trans (List.length_filter_le _ _) hl⟩
  .simp[jT]at h3
 .obtain⟨q,p,k,k',l,l',rfl,rfl,rfl,hr,hl,hr',hl',hk,hk'⟩:=two rfl;simp only[show((4:Int)=2)=False by decide,show((4:Int)=3)=False by decide,if_false,if_true]at h3 hb⊢
  split at h3
  .rename_i hg;obtain⟨rfl,h12'⟩:=oX h3;rw[UM]at hb⊢
   have hc:=Kr hg hk hk';have hm:l.length*l'.length<=lO c q*lO c p:=Nat.mul_le_mul hl hl';rw[List.length_append]at h12'⊢
   exact⟨⟨⟨by simp,_,_,hr,hr',hc.1,hc.2⟩,Nat.le_trans hm hb⟩,hr.join hr' h12' (Nat.le_trans hm hb),Nat.le_trans (uC λx _=>yA) hm⟩
  .simp[jT]at h3
 .obtain⟨q,p,k,k',l,l',rfl,rfl,rfl,hr,hl,hr',hl',hk,hk'⟩:=two rfl;simp only[show((5:Int)=2)=False by decide,show((5:Int)=3)=False by decide,show((5:Int)=4)=False by decide,if_false,if_true]at h3 hb⊢
  split at h3
  .rename_i hg;obtain⟨rfl,h12'⟩:=oX h3;rw[DZ]at hb⊢
   have hc:=Kr hg hk hk';exact⟨⟨by simp,_,_,hr,hr',hc.1,hc.2⟩,hr.filter _,Nat.le_trans (List.length_filter_le _ _) (by show l.length<=_;omega)⟩
  .simp[jT]at h3
 all_goals
  obtain⟨q,p,k,k',l,l',rfl,rfl,rfl,hr,hl,hr',hl',hk,hk'⟩:=two rfl
 .simp only[show((6:Int)=2)=False by decide,show((6:Int)=3)=False by decide,show((6:Int)=4)=False by decide,show((6:Int)=5)=False by decide,show((6:Int)=9)=False by decide,show((6:Int)=10)=False by decide,if_false,if_true]at h3 hb⊢
  split at h3
  .rename_i hg;have hg:k=k':=hg;subst hg;obtain⟨rfl,h12'⟩:=oX h3;rw[DZ]at hb⊢
   have hll:(l++l').length<=lO c q+lO c p:=by rw[List.length_append];omega
   refine⟨⟨by simp,λx hx=>by simp at hx;rcases hx with rfl|rfl;exact⟨_,hr⟩;exact⟨_,hr'⟩⟩,iI.set (λr h=>?_) (λr h=>?_) (Nat.le_trans hll hb),Nat.le_trans (D4 _) hll⟩
   .rcases List.mem_append.1 h with h|h
    .exact hr.row r h
    .exact hr'.row r h
   .rcases List.mem_append.1 h with h|h
    .exact hr.wid r h
    .exact hr'.wid r h
  .simp[jT]at h3
 .simp only[show((7:Int)=2)=False by decide,show((7:Int)=3)=False by decide,show((7:Int)=4)=False by decide,show((7:Int)=5)=False by decide,show((7:Int)=9)=False by decide,show((7:Int)=10)=False by decide,if_false,if_true]at h3 hb⊢
  split at h3
  .rename_i hg;have hg:k=k':=hg;subst hg;obtain⟨rfl,h12'⟩:=oX h3;rw[DZ]at hb⊢
   exact⟨⟨by simp,_,λx hx=>by simp at hx;rcases hx with rfl|rfl;exact hr;exact hr'⟩,hr.filter _,Nat.le_trans (List.length_filter_le _ _) (by show l.length<=_;omega)⟩
  .simp[jT]at h3
 .simp only[show((8:Int)=2)=False by decide,show((8:Int)=3)=False by decide,show((8:Int)=4)=False by decide,show((8:Int)=5)=False by decide,show((8:Int)=9)=False by decide,show((8:Int)=10)=False by decide,if_false,if_true]at h3 hb⊢
  split at h3
  .rename_i hg;have hg:k=k':=hg;subst hg;obtain⟨rfl,h12'⟩:=oX h3;rw[DZ]at hb⊢
   exact⟨⟨by simp,_,λx hx=>by simp at hx;rcases hx with rfl|rfl;exact hr;exact hr'⟩,hr.filter _,Nat.le_trans (List.length_filter_le _ _) (by show l.length<=_;omega)⟩
  .simp[jT]at h3
 .simp only[show((10:Int)=2)=False by decide,show((10:Int)=3)=False by decide,show((10:Int)=4)=False by decide,show((10:Int)=5)=False by decide,show((10:Int)=9)=False by decide,if_false,if_true]at h3 hb⊢
  split at h3
  .rename_i hg;obtain⟨hg,hg2⟩:=hg;have hg:k=k':=hg;subst hg;obtain⟨rfl,h12'⟩:=oX h3;rw[DZ]at hb⊢
   exact⟨⟨by simp,_,hr,hr',Jb hg2.group_ hk⟩,hr.filter _,Nat.le_trans (List.length_filter_le _ _) (by show l.length<=_;omega)⟩
  .simp[jT]at h3
theorem Pn{s:oF}{ps:List Int}{c:Nat}(hc:1<=c):∀{qs:List Query}{kss:List (List Int)},gC s ps qs=(kss,0)->∀q∈qs,lO c q<=zC c qs/\lO c q<=uI c qs
 |[],_,_,q,hq=>by simp at hq
 |p::qs,kss,h,q,hq=>by
  obtain⟨k,kss',h1,h2,h3⟩:=kP h;have h4:=Po hc h1;have h5:=(Rx hc h2).1;rw[zC,uI];rcases List.mem_cons.1 hq with rfl|hq
  .exact⟨aC,Nat.le_mul_of_pos_right _ h5⟩
  .have:=Pn hc h2 q hq;exact⟨aC,Nat.le_trans this.2 (Nat.le_mul_of_pos_left _ h4)⟩
theorem I8{s:oF}{ps:List Int}:∀{qs:List Query}{kss:List (List Int)},gC s ps qs=(kss,0)->∀k∈kss,k.length<=12
 |[],kss,h,k,hk=>by rw[gC]at h;simp only[Prod.mk.injEq,and_true]at h;subst h;simp at hk
 |q::qs,kss,h,k,hk=>by
  obtain⟨k',kss',h1,h2,rfl⟩:=kP h;rcases List.mem_cons.1 hk with rfl|hk
  .have:=DF s ps q;rw[h1]at this;exact this
  .exact I8 h2 k hk
structure Zb(c:Nat)(ls:List (List (List VV)))(q:Query)(k:Nat)(ks:List Int):Prop where
 ok:R2 ls q k
 rel:iI ks.length (iH ls q k).1
 bnd:(iH ls q k).1.length<=lO c q
 nxt:(iH ls q k).2=k+(eK q).length
mutual
theorem JD{s:oF}{ps:List Int}{c:Nat}{ls:List (List (List VV))}(hc:1<=c):∀{q:Query}{ks:List Int}{k:Nat},bY s ps q=(ks,0)->B8 s c ls k (eK q)->lO c q<=1000000->Zb c ls q k ks
 |.mk op ta w co on gr od li args,ks,k,h,hl,hb=>by
  obtain⟨kss,h1,h2,h3⟩:=AY h;by_cases e:op=1
  .subst e
   have h0:args=[]:=by
    cases args with
    |nil=>rfl
    |cons q qs=>obtain⟨_,_,_,_,rfl⟩:=kP h1;simp[arity]at h2;omega
   subst h0;have hs:eK (.mk 1 ta w co on gr od li [])=[ta]:=by simp[eK,cT]
   unfold iS at h3;dsimp only at h3;split at h3
   .simp[jT]at h3
   try rw[if_pos rfl]at h3
   split at h3
   .obtain⟨rfl,_⟩:=oX h3;rw[hs]at hl;obtain⟨l,e1,e2,e3⟩:=hl.at_ 0 ta rfl;rw[Nat.add_zero]at e1;have e4:(iH ls (.mk 1 ta w co on gr od li []) k)=(l,k+1):=by rw[iH,if_pos rfl,List.getD_eq_getElem?_getD,e1];rfl
    refine⟨by rw[R2,if_pos rfl];exact(List.getElem?_eq_some_iff.1 e1).1,by rw[e4];exact e2,by rw[e4,lO,if_pos rfl];exact e3,by rw[e4,hs];rfl⟩
   .simp[jT]at h3
  .have hs:eK (.mk op ta w co on gr od li args)=cT args:=by simp[eK,e]
   rw[hs]at hl
   have hb2:∀q∈args,lO c q<=1000000:=λq hq=>by
    have h5:=Pn hc h1 q hq;rw[lO,if_neg e]at hb;split at hb<;>omega
   obtain⟨o1,o2,o3⟩:=Lw hc h1 hl hb2;obtain⟨n1,n2,n3⟩:=Wx e h2 (I8 h1) h3 o2 hb;have e4:iH ls (.mk op ta w co on gr od li args) k=(Yq op (.mk op ta w co on gr od li args) (eV ls args k).1,(eV ls args k).2):=by rw[iH,if_neg e]
   exact⟨by rw[R2,if_neg e];exact⟨n1,o1⟩,by rw[e4];exact n2,by rw[e4];exact n3,by rw[e4,hs];exact o3⟩
theorem Lw{s:oF}{ps:List Int}{c:Nat}{ls:List (List (List VV))}(hc:1<=c):∀{qs:List Query}{kss:List (List Int)}{k:Nat},gC s ps qs=(kss,0)->B8 s c ls k (cT qs)->(∀q∈qs,lO c q<=1000000)->NS ls qs k/\LQ c qs kss (eV ls qs k).1/\(eV ls qs k).2=k+(cT qs).length
 |[],kss,k,h,_,_=>by
  rw[gC]at h;simp only[Prod.mk.injEq,and_true]at h;subst h;simp[NS,eV,LQ,cT]
 |q::qs,kss,k,h,hl,hb=>by
  obtain⟨k1,kss',h1,h2,rfl⟩:=kP h;rw[cT]at hl;have e1:=JD hc h1 hl.left (hb q (List.mem_cons_self ..));have e2:=Lw hc h2 hl.right (λp hp=>hb p (List.mem_cons_of_mem _ hp));rw[<-e1.nxt]at e2;rw[NS,eV,cT];refine⟨⟨e1.ok,e2.1⟩,⟨e1.rel,e1.bnd,e2.2.1⟩,?_⟩;rw[e2.2.2,e1.nxt,List.length_append];omega
end
structure uS(m:MH)(tb:Nat)(ws:List bO):Prop where
 ex:∃cur:Array Value,m tb=some (.cells cur 86 (0,0))/\cur.toList.take (ws.length*5)=(ws.map bO.enc).flatten
def SO:Vc.Spec:=λcvs m h K=>∃ver tb n cap ws w cols,∃t:Nat,cvs=[aS ⟨ver,⟨some ⟨tb,0,none⟩,n,cap⟩⟩,cI t]/\t<n/\uS m tb ws/\ws[t]? =some w/\Bp h w.columns cols/\cols.length<=8/\
 ∀sl h',PH.le h h'->Ints h' sl (cols.map lQ.kind)->K (cS sl) m h'
noncomputable def Xf(cb:Nat):Ctx:=
 uF [(15,Fo),(16,J1),(76,SY),(44,SO),(30,wU)] [] [(5,{A:=Int×Int×MH×PH,st:=λ⟨n,id,m,h⟩=>cD 86 87 [(0,pv cb),(2,.at (.ptr 2 0)),(3,iv n),(4,iv id)] [(2,.cells 43 [.val (.int .i64 0),.val (.slice none 0 0)])] m h}),
  (9,{A:=Int×cH×MH×PH,st:=λ⟨n,s,m,h⟩=>cD 86 87 [(0,pv cb),(2,.at (.ptr 2 0)),(3,iv n),(5,.at (.ptr 5 0))] [(2,.cells 43 [.val (.int .i64 0),.val (.slice none 0 0)]),(5,.cells 43 (s.enc.map .val))] m h}),
  (11,{A:=Int×cH×MH×PH,st:=λ⟨n,s,m,h⟩=>cD 86 87 [(0,pv cb),(2,.at (.ptr 2 0)),(3,iv n),(5,.at (.ptr 5 0))] [(2,.cells 43 [.val (.int .i64 0),.val (.slice none 0 0)]),(5,.cells 43 (s.enc.map .val))] m h}),
  (13,{A:=cH×MH×PH,st:=λ⟨s,m,h⟩=>cD 86 87 [(0,pv cb),(2,.at (.ptr 2 0)),(5,.at (.ptr 5 0))] [(2,.cells 43 [.val (.int .i64 0),.val (.slice none 0 0)]),(5,.cells 43 (s.enc.map .val))] m h}),
  (15,{A:=cH×MH×PH,st:=λ⟨s,m,h⟩=>cD 86 87 [(2,.at (.ptr 2 0)),(5,.at (.ptr 5 0))] [(2,.cells 43 [.val (.int .i64 0),.val (.slice none 0 0)]),(5,.cells 43 (s.enc.map .val))] m h})] [] [41] [] false
def kG(id:Int):List tV:=
 [⟨⟨⟨[112,114,111,106,101,99,116,115]⟩⟩,[⟨⟨⟨[105,100]⟩⟩,4⟩,⟨⟨⟨[111,119,110,101,114]⟩⟩,4⟩],1,[],[]⟩,
  ⟨⟨⟨[116,97,115,107,115]⟩⟩,[⟨⟨⟨[105,100]⟩⟩,id⟩,⟨⟨⟨[112,114,111,106,101,99,116]⟩⟩,4⟩,⟨⟨⟨[116,105,116,108,101]⟩⟩,5⟩,⟨⟨⟨[100,111,110,101]⟩⟩,3⟩],1,[],[]⟩,
  ⟨⟨⟨[109,101,109,98,101,114,115]⟩⟩,[⟨⟨⟨[112,114,111,106,101,99,116]⟩⟩,4⟩,⟨⟨⟨[112,101,114,115,111,110]⟩⟩,4⟩],2,[],[]⟩,
  ⟨⟨⟨[97,114,99,104,105,118,101,100]⟩⟩,[⟨⟨⟨[116,97,115,107]⟩⟩,id⟩],1,[],[]⟩]
structure Ia(h:PH)(t:tV)(w:bO):Prop where
 name_:w.name=t.name
 key_:w.key=t.key
 cols_:Bp h w.columns t.columns
def Rz(h:PH)(id:Int)(ws:List bO):Prop:=ws.length=4/\∀(i:Nat) t,(kG id)[i]? =some t->∃w,ws[i]? =some w/\Ia h t w
structure yI(m0:MH)(h0:PH)(cb:Nat)(tb n:Nat)(id:Int)(ws:List bO)(s:cH)(m:MH)(h:PH):Prop where
 le_:PH.le h0 h
 ver0:0<=s.version
 ver1:s.version<=2
 case_:aK m h cb
 n2:2<=n
 n4:n<=4
 sl_:∃cap,s.tables=⟨some ⟨tb,0,none⟩,n,cap⟩/\n<=cap
 id_:id=4\/id=5
 new_:m0 tb=none
 ne_:tb≠cb
 row_:uS m tb ws
 ws_:Rz h id ws
 other_:∀b,b≠cb->b≠tb->m b=m0 b
def SC:Vc.Spec:=λcvs m h K=>∃cb,cvs=[cP cb]/\aK m h cb/\∀tb n id ws s m' h',yI m h cb tb n id ws s m' h'->K (aS s) m' h'
noncomputable def XC:Ctx:=
 uF [(39,SC)] [(3,{A:=Nat×cH×MH×PH,st:=λ⟨i,s,m,h⟩=>cD 25 26 [(2,.at (.ptr 2 0)),(3,.at (.ptr 3 0)),(9,iv s.tables.len),(10,iv i)] [(2,.cells 43 [.val (.int .i64 0),.val (.slice none 0 0)]),(3,.cells 43 (s.enc.map .val))] m h})] [] [] [41] [] false
def F3(v:cH)(t:Int)(m:MH)(h:PH)(K:CV->MH->PH->Prop):Prop:=
  aW t 0 (K lN m h) (gA t (gS v) (K lN m h) (HH v t m h (λb=>b) (λo=>o) 5 (λy=>y) (λy I x=>aA (I x) (eL 32) (aA (bB y (kA x)) (bZ y (kA x)) (aA (bA x.1) (pD (pN x)) (aA (m=m) (h=h) True)))) (λI m1 x=>HG (I x) x (λb o y=>aM m h b (bI o x.1 2) (nI y.name y.kind)) (λy x1=>aA (I x1) (m1 x1<m1 x) (aA (eL 32) (bB (kA x) (kA x1)) (aA (bZ (kA x) (kA x1)) (fU (bF x.1 1)=bT x1.1) (aA (qZ (pN x) y.kind (pN x1)) (m=m) (bN h h))))) (bX h 1 (fK (pN x)) (λs h1=>K (lR s) m h1)))))
theorem Xa(v:cH)(t:Int)(m:MH)(h:PH)(K:CV->MH->PH->Prop):F3 v t m h K=(zM (MD m h) Tryz.f44 (dM Tryz.f44) (entry Tryz.f44.ntmps [aS v,cI t] m h) K):=by kernel_rfl
abbrev qU:Prop:=eQ (oQ 43 (oW (lT 0) JM))
abbrev vM(a:ByteArray)(b:Int)(c:ByteArray)(d:Int)(e:ByteArray->Int->Prop):Prop:=aZ (iY a) b=aZ (iY c) d/\∃(x:ByteArray)(x1:Int),e x x1
noncomputable abbrev HK:ByteArray:=ByteArray.mk (Array.mk (fO 105 (fO 100 [])))
noncomputable abbrev HL(a:Nat):ByteArray:=ByteArray.mk (Array.mk (fO 112 (fO 114 (fO 111 (fO 106 (fO 101 (fO a (pT 116))))))))
noncomputable abbrev CH(a b c d:Nat)(e:List UInt8)(g:Sl)(i:Int):List Value:=aR (Value.string (ByteArray.mk (Array.mk (fO a (fO b (fO c (fO d e))))))) (dV g) (aR (eH i) tY hX)
noncomputable abbrev iP(a:cH×MH×PH):Nat->Nat->Option Value:=a.2.2
abbrev Cu(a:Int×cH×MH×PH->Prop)(b c:Nat)(d:Int)(e:(Int×cH×MH×PH)->Prop)(g:Nat->Option Obj)(i:Nat->Nat->Option Value):Prop:=∃(x:Int×cH×MH×PH),aA (a x) (cW b) (aA (eP c) (cL d x.1) (aA eT qU (aA (e x) (bH g x.2.2) (bN i (iP x.2)))))
noncomputable abbrev qO(a:Int×cH×MH×PH):cH:=a.2.1
abbrev qV(a b:cH):Prop:=oQ 43 (FL a)=oQ 43 (FL b)
attribute [push_cast] qU vM HK HL CH iP Cu qO qV
def OM(cb:Nat)(m:MH)(h:PH)(K:CV->MH->PH->Prop):Prop:=
  iV cb 3 m h (λk m1=>∃(I:Int×Int×MH×PH->Prop),mR cb 5 m1 h (λc r=>∀(m2:MH),aT (bC m1 m2 c) (aK m2 h c) (branch r (∃(x:Int×Int×MH×PH),aA (I x) (cW cb) (aA fQ (cL (eC (2+k)) x.1) (aA (cL 5 x.2.1) qU (aA (bH m2 x.2.2) (h=x.2.2.2) True)))) (∃(x:Int×Int×MH×PH),aA (I x) (cW cb) (aA fQ (cL (eC (2+k)) x.1) (aA (cL 4 x.2.1) qU (aA (bH m2 x.2.2) (h=x.2.2.2) True))))))/\∀(x:Int×Int×MH×PH),I x->iV cb 3 x.2.2.1 x.2.2.2 (λk1 m2=>∃(n:ByteArray)(k2:Int),vM HK 4 n k2 (λn1 k3=>vM (ByteArray.mk (Array.mk (fO 111 (fO 119 (fO 110 (fO 101 (pT 114))))))) 4 n1 k3 (λn2 k4=>vM HK x.2.1 n2 k4 (λn3 k5=>vM (HL 99) 4 n3 k5 (λn4 k6=>vM (ByteArray.mk (Array.mk (fO 116
 (fO 105 (fO 116 (fO 108 (pT 101))))))) 5 n4 k6 (λn5 k7=>vM (ByteArray.mk (Array.mk (fO 100 (fO 111 (fO 110 (fO 101 [])))))) 3 n5 k7 (λn6 k8=>vM (HL 99) 4 n6 k8 (λn7 k9=>vM (ByteArray.mk (Array.mk (fO 112 (fO 101 (fO 114 (fO 115 (fO 111 (fO 110 [])))))))) 4 n7 k9 (λn8 a=>aZ (iY (ByteArray.mk (Array.mk (fO 116 (fO 97 (fO 115 (fO 107 []))))))) x.2.1=aZ (iY n8) a/\bX x.2.2.2 2 (nI n k2::cQ (nI n1 k3)) (λs h1=>bX h1 2 (nI n2 k4::nI n3 k5::nI n4 k6::cQ (nI n5 k7)) (λs1 h2=>bX h2 2 (nI n6 k8::cQ (nI n7 k9)) (λs2 h3=>bX h3 2 (cQ (nI n8 a)) (λs3 h4=>gV (λs4 m3=>mO m2 m3 h4 s4 86 5 (CH 112 114 111 106 (fO 101 (fO 99 (fO 116 (fO 115 [])))) s 1::CH 116 97 115
 107 (pT 115) s1 1::CH 109 101 109 98 (fO 101 (fO 114 (pT 115))) s2 2::cQ (CH 97 114 99 104 (fO 105 (fO 118 (fO 101 (fO 100 [])))) s3 1))->aA (cF x.1) (x.1<=(↑s4.cap:Int)) (∃(I1:Int×cH×MH×PH->Prop),mR cb 2 m3 h4 (λc r=>∀(m4:MH),aT (bC m3 m4 c) (aK m4 h4 c) (branch r (bX h4 1 (cQ (bV 1)) (λs5 h5=>bD (λb o=>aH (bE s4.a b o) ((0:Int)<=1) (1<(↑x.1.toNat:Int)) (bX h5 2 (cQ (jI (dV s5) bU)) (λs6 h6=>nS m4 b (o+5+3) (aL s6) (λm5=>Cu I1 cb 2 x.1 (λx1=>oQ 43 (oW (lT k1) (At.val (Value.slice s4.a x.1.toNat s4.cap)))=oQ 43 (FL (qO x1))) m5 h6)))))) (Cu I1 cb 2 x.1 (λx1=>oQ 43 (oW (lT k1) (At.val (Value.slice s4.a x.1.toNat s4.cap)))=oQ 43 (FL (qO x1))) m4 h4)))/\∀(x1:Int×cH×MH×
 PH),I1 x1->∃(I2:Int×cH×MH×PH->Prop),eM x1.1 2 (mR cb 3 x1.2.2.1 (iP x1.2) (λc r=>∀(m4:MH),aT (bC x1.2.2.1 m4 c) (aK m4 (iP x1.2) c) (branch r (bX (iP x1.2) 1 (cQ (iE bU)) (λs5 h5=>Cm (qO x1) 2 (λb o=>bX h5 2 (cQ (jI (dV s5) bU)) (λs6 h6=>nS m4 b (o+10+3) (aL s6) (λm5=>Cu I2 cb 2 x1.1 (λx2=>qV (qO x1) (qO x2)) m5 h6))))) (Cu I2 cb 2 x1.1 (λx2=>qV (qO x1) (qO x2)) m4 (iP x1.2))))) (Cu I2 cb 2 x1.1 (λx2=>qV (qO x1) (qO x2)) x1.2.2.1 (iP x1.2))/\∀(x2:Int×cH×MH×PH),I2 x2->∃(I3:cH×MH×PH->Prop),eM x2.1 3 (mR cb 3 x2.2.2.1 (iP x2.2) (λc r=>∀(m4:MH),aT (bC x2.2.2.1 m4 c) (aK m4 (iP x2.2) c) (branch r (bX (iP x2.2) 1 (cQ (iE
 bU)) (λs5 h5=>Cm (qO x2) 3 (λb o=>bX h5 2 (cQ (jI (dV s5) (eH 1))) (λs6 h6=>nS m4 b (o+15+3) (aL s6) (λm5=>∃(x3:cH×MH×PH),aA (I3 x3) (cW cb) (aA fQ eT (aA qU (qV (qO x2) x3.1) (aA (bH m5 x3.2) (h6=iP x3) True)))))))) (∃(x3:cH×MH×PH),aA (I3 x3) (cW cb) (aA fQ eT (aA qU (qV (qO x2) x3.1) (aA (bH m4 x3.2) (iP x2.2=iP x3) True))))))) (∃(x3:cH×MH×PH),aA (I3 x3) (cW cb) (aA fQ eT (aA qU (qV (qO x2) x3.1) (aA (bH x2.2.2.1 x3.2) (iP x2.2=iP x3) True))))/\∀(x3:cH×MH×PH),I3 x3->∃(I4:cH×MH×PH->Prop),mR cb 3 x3.2.1 (iP x3) (λc r=>∀(m4:MH),aT (bC x3.2.1 m4 c) (aK m4 (iP x3) c) (branch r (∃(v:Int),bD (λt n9=>∃
 (c1:Nat)(w:List bO)(w1:bO)(c2:List lQ)(t1:Nat),aA (aZ (fX x3.1) 1=aZ (mM (jI (eH v) (Value.slice (jZ t) n9 c1))) (↑t1:Int)) (t1<n9) (aA (uS m4 t w) (w[t1]? =Option.some w1) (aA (Bp (iP x3) w1.columns c2) (c2.length<=8) (∀(s5:Sl)(h5:PH),cY (iP x3) h5 (Ints h5 s5 (List.map lQ.kind c2)) (∃(c3:Nat),vS (λs6 t2 c4 p d=>aA (oC cb 0::cK s5 (aZ lN 1)=oC c3 0::cK s6 (fC t2 (↑d:Int))) (aK m4 h5 c3) (aA (Ints h5 s6 c4) (Ints h5 t2 p) (aH (fS c4) (fS p) (mG d) (Ar (λv1 p1=>fM (λm5 h6=>cY h5 h6 (eN h6 p1 v1) (aT (uV c4 p d p1) (bC m4 m5 c3) (jX m5 h6 c3 (Cm x3.1 1 (λb o=>bX h6 13 (cQ v1.enc) (λs7 h7=>nS m5 b (o+5+4) (aL s7) (λm6=>∃(x4:cH×MH×PH),aA (I4 x4) fQ (aA
 eT qU (aH (qV x3.1 x4.1) (bH m6 x4.2) (h7=iP x4) True)))))))))))))))))))) (∃(x4:cH×MH×PH),aA (I4 x4) fQ (aA eT qU (aH (qV x3.1 x4.1) (bH m4 x4.2) (iP x3=iP x4) True)))))/\∀(x4:cH×MH×PH),I4 x4->K (fX x4.1) x4.2.1 (iP x4)))))))))))))))))
noncomputable abbrev AQ(a:Nat×cH×MH×PH):Sl:=a.2.1.tables
attribute [push_cast] AQ
def Jw(cb:Nat)(m:MH)(h:PH)(K:CV->MH->PH->Prop):Prop:=
  ∃(c:Nat),aA (eA (oC cb 0) (oC c 0)) (aK m h c) (∀(t n:Nat)(i:Int)(w:List bO)(s:cH),fM (λm1 h1=>yI m h c t n i w s m1 h1->∃(I:Nat×cH×MH×PH->Prop)(m2:Nat×cH×MH×PH->Nat),(∃(x:Nat×cH×MH×PH),aA (I x) fQ (aA (eP 3) (bZ s.tables (AQ x)) (aA (bA x.1) qU (aA (qV s x.2.1) (bH m1 x.2.2) (bN h1 (iP x.2))))))/\∀(x:Nat×cH×MH×PH),I x->aW (↑x.1:Int) (aG (AQ x)) (bD (λb o=>aH (bE (oP x.2.1) b o) (0<=(↑x.1:Int)) ((↑x.1:Int)<aG (AQ x)) (nS x.2.2.1 b (bI o x.1 5+3) hX (λm3=>bD (λb1 o1=>aH (bE (oP x.2.1) b1 o1) (0<=(↑x.1:Int)) ((↑x.1:Int)<aG (AQ x)) (nS m3 b1 (bI o1 x.1 5+4) hX (λm4=>∃(x1:Nat×cH×MH×PH),aA (I x1) (m2 x1<m2 x) (aA
 fQ (eP 3) (aA (bZ (AQ x) (AQ x1)) (fU (bF x.1 1)=bT x1.1) (aA qU (qV x.2.1 x1.2.1) (bW (bH m4 x1.2.2) (iP x.2) (iP x1.2)))))))))))) (K (fX x.2.1) x.2.2.1 (iP x.2))))
theorem PG{α:Type}(l:List α)(o:Nat)(x:α)(h:o<l.length):splice l o [x]=l.set o x:=by
 rw[List.set_eq_take_append_cons_drop,if_pos h];simp[splice]
theorem flatten_set:∀(ws:List bO){i k:Nat}{w w':bO}{x:Value},ws[i]? =some w->k<5->w'.enc=w.enc.set k x->((ws.map bO.enc).flatten).set (i*5+k) x=((ws.set i w').map bO.enc).flatten
 |[],i,k,w,w',x,h,_,_=>by simp at h
 |u::ws,0,k,w,w',x,h,hk,e=>by
  simp at h;subst h;simp only[List.map_cons,List.flatten_cons,List.set_cons_zero,Nat.zero_mul,Nat.zero_add,e];rw[List.set_append_left _ _ (by simpa[bO.enc]using hk)]
 |u::ws,i+1,k,w,w',x,h,hk,e=>by
  simp only[List.map_cons,List.flatten_cons,List.set_cons_succ];have hl:u.enc.length=5:=rfl;rw[List.set_append_right _ _ (by rw[hl];omega),hl,show(i+1)*5+k-5=i*5+k by omega,flatten_set ws (by simpa using h) hk e]
theorem UZ(ws:List bO):((ws.map bO.enc).flatten).length=ws.length*5:=by
 induction ws with
 |nil=>rfl
 |cons w ws ih=>simp only[List.map_cons,List.flatten_cons,List.length_append,ih,List.length_cons];show 5+_=_;omega
theorem uS.big{tb:Nat}{ws:List bO}{cs:Array Value}{E:TypeId}{fz:Nat×Nat}(h:uS m tb ws)(hm:m tb=some (.cells cs E fz)):ws.length*5<=cs.size:=by
 obtain⟨cur,h1,h2⟩:=h.ex;rw[h1]at hm;simp only[Option.some.injEq,Obj.cells.injEq]at hm;obtain⟨rfl,_,_⟩:=hm;have:=congrArg List.length h2;rw[UZ]at this;simp at this;omega
theorem uS.store{tb:Nat}{ws:List bO}{w w':bO}{x:Value}(h:uS m tb ws)(hi:ws[i]? =some w)(hk:k<5)(e:w'.enc=w.enc.set k x){cs:Array Value}{E:TypeId}{fz:Nat×Nat}(hm:m tb=some (.cells cs E fz))
 (hu:m' tb=some (.cells (splice cs.toList (i*5+k) [x]).toArray E (0,0))):uS m' tb (ws.set i w'):=by
 have hb:=h.big hm;have hil:=(List.getElem?_eq_some_iff.1 hi).1;obtain⟨cur,h1,h2⟩:=h.ex;rw[h1]at hm;simp only[Option.some.injEq,Obj.cells.injEq]at hm;obtain⟨rfl,rfl,_⟩:=hm;refine⟨_,hu,?_⟩;rw[PG _ _ _ (by simp;omega),List.length_set,List.toList_toArray,List.take_set,h2];exact flatten_set ws hi hk e
theorem uS.rd{tb:Nat}{ws:List bO}(r:uS m tb ws){j:Nat}{w:bO}{x:Value}(hi:ws[i]? =some w)(hj:w.enc[j]? =some x):aM m h tb (i*5+j) [x]:=by
 obtain⟨cur,h1,h2⟩:=r.ex;refine .of_m h1 ?_;have h3:=kT (xs:=ws.map bO.enc) (sz:=5) (λe he=>by obtain⟨x,_,rfl⟩:=List.mem_map.1 he;rfl) (by rw[List.getElem?_map,hi];rfl) j x hj;rw[<-h2,List.getElem?_take]at h3;split at h3
 .rw[drop_cons h3];rfl
 .cases h3
theorem Xb{ver:Int}{tb n cap:Nat}{ws:List bO}{w:bO}{cols:List lQ}{t:Nat}(ht:t<n)(hr:uS m tb ws)(hw:ws[t]? =some w)(hc:Bp h w.columns cols)(h8:cols.length<=8)
 (hK:∀sl h',PH.le h h'->Ints h' sl (cols.map lQ.kind)->K (cS sl) m h'):F3 ⟨ver,⟨some ⟨tb,0,none⟩,n,cap⟩⟩ t m h K:=by
 dsimp only[F3,push_cast];have hcl:=bL.slen hc;refine aE (λh1=>by omega) (λh1=>aE (λh2=>by have h2:(t:Int)>=(n:Int):=h2;omega) (λh2=>?_));refine⟨tb,0,rfl,aC,by show(t:Int)<(n:Int);omega,w.columns,?_,λ⟨i,sl,l⟩=>sl=w.columns/\i<=cols.length/\l=(cols.take i).map lQ.kind,λ⟨i,_,_⟩=>cols.length-i,⟨(0,w.columns,[]),⟨rfl,by simp,by simp⟩,MT⟩,?_⟩
 .rw[Nat.zero_add,Int.toNat_natCast];exact hr.rd hw rfl
 rintro⟨i,_,_⟩ ⟨rfl,hi,rfl⟩;dsimp only;refine aE (λhlt=>?_) (λhge sl h' hle hrow=>?_)
 .obtain⟨c,hx⟩:=eW hcl hlt;obtain⟨b,o,e,r⟩:=Bp.at hc hx;refine⟨b,o,e,aC,hlt,c,.imm r,?_,?_,(i+1,w.columns,(cols.take (i+1)).map lQ.kind),⟨rfl,aC,rfl⟩,by show cols.length-(i+1)<cols.length-i;omega,?_⟩
  .simp;omega
  .simp;omega
  .rw[fT hx,List.map_append];exact MT
 .rw[List.take_of_length_le aC]at hrow;exact hK sl h' hle ⟨hrow,by simp;omega⟩
theorem P5:Sound Tryz.prog 44 SO:=by
 refine eD (fn:=Tryz.f44) (c:=dM Tryz.f44) Tryz.func44 rfl (by decide) ?_;rintro cvs m h K ⟨ver,tb,n,cap,ws,w,cols,t,rfl,h1,h2,h3,h4,h5,h6⟩;refine⟨MD m h,rfl,aF,?_⟩;rw[<-Xa];exact Xb h1 h2 h3 h4 h5 h6
theorem Ia.mono{t:tV}{w:bO}(x:Ia h t w)(le:PH.le h h'):Ia h' t w:=⟨x.name_,x.key_,bL.mono x.cols_ le λ_ _ e=>e⟩
theorem Rz.mono{id:Int}{ws:List bO}(x:Rz h id ws)(le:PH.le h h'):Rz h' id ws:=⟨x.1,λi t e=>let⟨w,e1,e2⟩:=x.2 i t e;⟨w,e1,e2.mono le⟩⟩
theorem Rz.set{id:Int}{ws:List bO}{w w':bO}(x:Rz h id ws)(hi:ws[i]? =some w)(e1:w'.name=w.name)(e2:w'.key=w.key)(e3:w'.columns=w.columns):Rz h id (ws.set i w'):=by
 refine⟨by rw[List.length_set];exact x.1,λj t e=>?_⟩;obtain⟨u,h1,h2⟩:=x.2 j t e;by_cases hj:i=j
 .subst hj;rw[hi]at h1;cases h1;exact⟨w',by rw[List.getElem?_set_self (List.getElem?_eq_some_iff.1 hi).1],⟨by rw[e1];exact h2.name_,by rw[e2];exact h2.key_,by rw[e3];exact h2.cols_⟩⟩
 .exact⟨u,by rw[List.getElem?_set_ne hj];exact h1,h2⟩
theorem yI.on{m0 m1:MH}{h0 h1:PH}{tb n:Nat}{id:Int}{ws:List bO}{s:cH}(x:yI m0 h0 cb tb n id ws s m h)(le:PH.le h h1)(ho:bC m m1 cb)(hc:aK m1 h1 cb):yI m0 h0 cb tb n id ws s m1 h1:=by
 refine⟨x.le_.trans le,x.ver0,x.ver1,hc,x.n2,x.n4,x.sl_,x.id_,x.new_,x.ne_,?_,x.ws_.mono le,λb n1 n2=>by rw[ho.other b n1];exact x.other_ b n1 n2⟩;obtain⟨cur,e1,e2⟩:=x.row_.ex;exact⟨cur,by rw[ho.other tb x.ne_];exact e1,e2⟩
theorem yI.store{m0:MH}{h0:PH}{tb n:Nat}{id:Int}{ws:List bO}{s:cH}(x:yI m0 h0 cb tb n id ws s m h){o:Nat}{w w':bO}{y:Value}(hi:ws[i]? =some w)(hk:k<5)(ho:o=i*5+k)(e:w'.enc=w.enc.set k y)(e1:w'.name=w.name)(e2:w'.key=w.key)(e3:w'.columns=w.columns){Q:MH->Prop}
 (hQ:∀m2,yI m0 h0 cb tb n id (ws.set i w') s m2 h->Q m2):∃(cs:Array Value)(E:TypeId),tX m tb (.cells cs E (0,0))/\o<cs.size/\∀m2:MH,jG m m2 tb (.cells (splice cs.toList o [y]).toArray E (0,0))->Q m2:=by
 obtain⟨cur,h1,h2⟩:=x.row_.ex;have hil:=(List.getElem?_eq_some_iff.1 hi).1;refine⟨cur,86,⟨h1⟩,by have:=x.row_.big h1;omega,λm2 hu=>hQ m2 ?_⟩;subst ho;refine⟨x.le_,x.ver0,x.ver1,?_,x.n2,x.n4,x.sl_,x.id_,x.new_,x.ne_,x.row_.store hi hk e h1 hu.at_,x.ws_.set hi e1 e2 e3,λb n1 n2=>by rw[hu.other b n2];exact x.other_ b n1 n2⟩;obtain⟨r,q,cs,k,q1,q2⟩:=x.case_;exact⟨r,q,cs,k,by rw[hu.other cb x.ne_.symm];exact q1,q2⟩
theorem Fe{h:PH}{s:Sl}{l:List lQ}(r:cN h s 2 (l.map lQ.enc))(hl:l.length<=8):Bp h s l:=⟨⟨l,r,rfl,λi x e=>⟨x,e,rfl⟩⟩,aC⟩
theorem mO.tabs{m m':MH}{h:PH}{s:Sl}{w:bO}{ws:List bO}(x:mO m m' h s 86 5 ((w::ws).map bO.enc)):∃tb cap,s=⟨some ⟨tb,0,none⟩,ws.length+1,cap⟩/\ws.length+1<=cap/\uS m' tb (w::ws)/\cG m h tb/\∀b,b≠tb->m' b=m b:=by
 rcases x.row.ex with⟨_,e⟩|⟨b,cap,cur,e,hm,h1,_,h3,h4⟩
 .cases e
 .subst e;refine⟨b,cap,by simp,by simpa using h1,⟨cur,hm,by simpa using h4⟩,x.fresh b 0 rfl,λc hc=>x.other c (λi e=>by simp only[Option.some.injEq,Addr.mk.injEq]at e;exact hc e.1.symm)⟩
theorem TR:Sound Tryz.prog 39 SC:=by
 refine gZ Tryz.func39 ?_;rintro cvs m h K ⟨cb,rfl,hc,hK⟩;refine⟨Xf cb,rfl,aD FV (aD v8 (aD TI (aD P5 (aD CU aF)))),OM cb m h K,by kernel_rfl,?_⟩;dsimp only[OM,push_cast];refine⟨cb,3,rfl,hc,λk m1 k0 k1 o1 c1=>?_⟩;have hk2:IntKind.i64.wrap (2+k)=2+k:=eG aC aC;rw[hk2];refine⟨λ⟨n,id,mx,hx⟩=>2<=n/\n<=4/\(id=4\/id=5)/\hx=h/\bC m mx cb/\aK mx h cb,⟨cb,5,rfl,aC,aC,c1,λr m2 o2 c2=>aB (λ_=>⟨(2+k,5,m2,h),⟨by show 2<=2+k;omega,by show 2+k<=4;omega,.inr rfl,rfl,o1.trans o2,c2⟩,MT⟩) (λ_=>⟨(2+k,4,m2,h),⟨by show 2<=2+k;omega,by show 2+k<=4;omega,.inl rfl,rfl,o1.trans o2,c2⟩,MT⟩)⟩,?_⟩;clear o1 c1 m1 hk2 k0 k1 k;rintro⟨n,id,m1,hx⟩ ⟨n2,n4,hid,rfl,o1,c1⟩;dsimp only;refine⟨cb,3,rfl,c1,λk m2 k0 k1 o2 c2=>?_⟩;refine⟨_,_,rfl,_,_,rfl,_,_,rfl,_,_,rfl,_,_,rfl,_,_,rfl,_,_,rfl,_,_,rfl,_,_,rfl,λs1 h1 le1 r1 s2 h2 le2 r2 s3 h3 le3 r3 s4 h4 le4 r4 tl m3 hnew=>?_⟩;obtain⟨tb,cap,rfl,hcap,hrow,hun,hoth⟩:=mO.tabs (w:=⟨_,s1,1,cE,cE⟩) (ws:=[⟨_,s2,1,cE,cE⟩,⟨_,s3,2,cE,cE⟩,⟨_,s4,1,cE,cE⟩]) hnew;simp only[List.length_cons,List.length_nil]at hcap;have hle:PH.le hx h4:=((le1.trans le2).trans le3).trans le4
 have tbcb:tb≠cb:=λe=>by
  obtain⟨r,q,cs,j,q1,_⟩:=c2;have:=hun.m_;rw[e,q1]at this;cases this
 have hm0:m tb=none:=by rw[<-o1.other tb tbcb, <-o2.other tb tbcb];exact hun.m_
 have c3:aK m3 h4 cb:=by
  obtain⟨r,q,cs,j,q1,q2,q3⟩:=c2;exact⟨r,q,cs,j,by rw[hoth cb tbcb.symm];exact q1,q2.mono hle,q3⟩
 have S0:yI m hx cb tb n.toNat id _ ⟨k,⟨some ⟨tb,0,none⟩,n.toNat,cap⟩⟩ m3 h4:=⟨hle,k0,by show k<=2;omega,c3,aC,aC,⟨cap,rfl,aC⟩,hid,hm0,tbcb,hrow,⟨rfl,λi t e=>?_⟩,λb n1 n2=>by rw[hoth b n2,o2.other b n1,o1.other b n1]⟩
 rotate_left
 .match i,e with
  |0,e=>cases e;exact⟨_,rfl,⟨rfl,rfl,Fe (l:=[⟨_,_⟩,⟨_,_⟩]) (r1.mono ((le2.trans le3).trans le4)) (by decide)⟩⟩
  |1,e=>cases e;exact⟨_,rfl,⟨rfl,rfl,Fe (l:=[⟨_,_⟩,⟨_,_⟩,⟨_,_⟩,⟨_,_⟩]) (r2.mono (le3.trans le4)) (by simp)⟩⟩
  |2,e=>cases e;exact⟨_,rfl,⟨rfl,rfl,Fe (l:=[⟨_,_⟩,⟨_,_⟩]) (r3.mono le4) (by decide)⟩⟩
  |3,e=>cases e;exact⟨_,rfl,⟨rfl,rfl,Fe (l:=[⟨_,_⟩]) r4 (by simp)⟩⟩
  |i+4,e=>simp[kG]at e
 generalize hws:(bO.mk _ s1 1 cE cE::_)=ws0 at S0;clear hws hrow hnew r1 r2 r3 r4;have getw:∀{ws:List bO}{i:Nat},ws.length=4->i<4->∃w,ws[i]? =some w:=λhl hi=>⟨_,List.getElem?_eq_getElem aC⟩
 refine⟨aC,by show n<=(cap:Int);omega,λ⟨n',s,mx,hy⟩=>n'=n/\∃ws,yI m hx cb tb n.toNat id ws s mx hy,⟨cb,2,rfl,aC,aC,c3,λr m4 o4 c4=>aB (λ_ s5 h5 le5 r5=>⟨tb,0,rfl,aC,aC,λs6 h6 le6 r6=>?_⟩) (λ_=>⟨(n,⟨k,⟨some ⟨tb,0,none⟩,n.toNat,cap⟩⟩,m4,h4),⟨rfl,_,S0.on (.refl _) o4 c4⟩,MT⟩)⟩,?_⟩
 .obtain⟨w,hw⟩:=getw (i:=1) S0.ws_.1 aC;exact(S0.on (le5.trans le6) o4 (c4.mono (le5.trans le6))).store (k:=3) (w':={w with references:=s6}) hw aC rfl rfl rfl rfl rfl λm5 x5=>⟨(n,⟨k,⟨some ⟨tb,0,none⟩,n.toNat,cap⟩⟩,m5,h6),⟨rfl,_,x5⟩,MT⟩
 clear S0 c3 hoth hun hm0 hcap hle le1 le2 le3 le4 o1 o2 c1 c2;rintro⟨n',s,m4,h5⟩ ⟨rfl,ws,S0⟩;dsimp only;obtain⟨cap,hsl,_⟩:=S0.sl_;have hsa:s.tables.a=some ⟨tb,0,none⟩:=by rw[hsl]
 have hsn:s.tables.len=n'.toNat:=by rw[hsl]
 refine⟨λ⟨n,s,mx,hy⟩=>n=n'/\∃ws,yI m hx cb tb n.toNat id ws s mx hy,aE (λhn=>⟨cb,3,rfl,aC,aC,S0.case_,λr m5 o5 c5=>aB (λ_ s7 h7 le7 r7=>⟨tb,0,hsa,aC,aC,λs8 h8 le8 r8=>?_⟩) (λ_=>⟨(n',s,m5,h5),⟨rfl,_,S0.on (.refl _) o5 c5⟩,MT⟩)⟩) (λ_=>⟨(n',s,m4,h5),⟨rfl,_,S0⟩,MT⟩),?_⟩
 .obtain⟨w,hw⟩:=getw (i:=2) S0.ws_.1 aC;exact(S0.on (le7.trans le8) o5 (c5.mono (le7.trans le8))).store (k:=3) (w':={w with references:=s8}) hw aC rfl rfl rfl rfl rfl λm5 x5=>⟨(n',s,m5,h8),⟨rfl,_,x5⟩,MT⟩
 clear S0 hsa hsn hsl;rintro⟨n'',s,m4,h5⟩ ⟨rfl,ws,S0⟩;dsimp only;obtain⟨cap,hsl,_⟩:=S0.sl_;have hsa:s.tables.a=some ⟨tb,0,none⟩:=by rw[hsl]
 have hsn:s.tables.len=n''.toNat:=by rw[hsl]
 refine⟨λ⟨s,mx,hy⟩=>∃ws,yI m hx cb tb n''.toNat id ws s mx hy,aE (λhn=>⟨cb,3,rfl,aC,aC,S0.case_,λr m5 o5 c5=>aB (λ_ s7 h7 le7 r7=>⟨tb,0,hsa,aC,aC,λs8 h8 le8 r8=>?_⟩) (λ_=>⟨(s,m5,h5),⟨_,S0.on (.refl _) o5 c5⟩,MT⟩)⟩) (λ_=>⟨(s,m4,h5),⟨_,S0⟩,MT⟩),?_⟩
 .obtain⟨w,hw⟩:=getw (i:=3) S0.ws_.1 aC;exact(S0.on (le7.trans le8) o5 (c5.mono (le7.trans le8))).store (k:=3) (w':={w with references:=s8}) hw aC rfl rfl rfl rfl rfl λm5 x5=>⟨(s,m5,h8),⟨_,x5⟩,MT⟩
 clear S0 hsa hsn hsl;rintro⟨s,m4,h5⟩ ⟨ws,S0⟩;dsimp only;obtain⟨cap,hsl,_⟩:=S0.sl_;have hsa:s.tables.a=some ⟨tb,0,none⟩:=by rw[hsl]
 have hsn:s.tables.len=n''.toNat:=by rw[hsl]
 refine⟨λ⟨s,mx,hy⟩=>∃ws,yI m hx cb tb n''.toNat id ws s mx hy,⟨cb,3,rfl,aC,aC,S0.case_,λr m5 o5 c5=>aB (λ_=>?_) (λ_=>⟨(s,m5,h5),⟨_,S0.on (.refl _) o5 c5⟩,MT⟩)⟩,λ⟨s,m4,h5⟩⟨ws,S0⟩=>hK _ _ _ _ _ _ _ S0⟩;have S1:=S0.on (.refl _) o5 c5;obtain⟨w,hw,hhalf⟩:=S1.ws_.2 1 _ rfl;refine⟨s.version,tb,n''.toNat,cap,ws,w,_,1,by rw[hsl];rfl,aC,S1.row_,hw,hhalf.cols_,by simp,λsl h6 le6 hi6=>?_⟩;refine⟨cb,sl,cE,_,[],1,rfl,c5.mono le6,hi6,⟨cN.nil _ _,by simp⟩,by simp,by simp,aC,λpvv p m6 h7 le7 hp hpw o6 c6=>⟨tb,0,hsa,aC,aC,λs8 h8 le8 r8=>?_⟩⟩;exact(S1.on ((le6.trans le7).trans le8) o6 (c6.mono le8)).store (k:=4) (w':={w with checks:=s8}) hw aC rfl rfl rfl rfl rfl λm5 x5=>⟨(s,m5,h8),⟨_,x5⟩,MT⟩
structure rP(s:oF):Prop where
 ex:∃ver n id,0<=ver/\ver<=2/\2<=n/\n<=4/\(id=4\/id=5)/\s=⟨ver,(kG id).take n⟩
def Wa:Vc.Spec:=λcvs m h K=>∃cb,cvs=[cP cb]/\aK m h cb/\∀s v m' h',rP s->gJ h' s v->PH.le h h'->bC m m' cb->aK m' h' cb->K (aS v) m' h'
theorem Ud:Sound Tryz.prog 12 Wa:=by
 refine WD Tryz.func12 ?_;rintro cvs m h K ⟨cb,rfl,hc,hK⟩;refine⟨XC,rfl,aD TR aF,Jw cb m h (dA h K),by kernel_rfl,?_⟩;show Jw cb m h (dA h K);dsimp only[Jw,push_cast];refine⟨cb,rfl,hc,λtb n id ws s m1 h1 S1=>?_⟩;refine⟨λ⟨i,s',mx,hx⟩=>s'=s/\hx=h1/\i<=n/\∃ws,yI m h cb tb n id ws s mx h1/\∀j w,j<i->ws[j]? =some w->w.references=cE/\w.checks=cE,λ⟨i,_,_,_⟩=>n-i,⟨(0,s,m1,h1),⟨rfl,rfl,aC,ws,S1,λj w hj=>by omega⟩,MT⟩,?_⟩;clear S1 ws m1;rintro⟨i,s',m1,hx⟩ ⟨rfl,rfl,hi,ws,S1,hnil⟩;dsimp only;obtain⟨cap,hsl,hscap⟩:=S1.sl_;have hsa:s'.tables.a=some ⟨tb,0,none⟩:=by rw[hsl]
 have hsn:s'.tables.len=n:=by rw[hsl]
 have hn4:=S1.n4;refine aE (λhlt=>⟨tb,0,hsa,aC,hlt,?_⟩) (λhge hdis=>?_)
 .obtain⟨w,hw⟩:∃w,ws[i]? =some w:=⟨_,List.getElem?_eq_getElem (by have:=S1.ws_.1;have:=S1.n4;omega)⟩
  refine S1.store (i:=i) (k:=3) (w':={w with references:=cE}) hw aC aC rfl rfl rfl rfl λm2 S2=>⟨tb,0,hsa,aC,hlt,?_⟩
  have hil:=(List.getElem?_eq_some_iff.1 hw).1;have hw2:(ws.set i {w with references:=cE})[i]? =some {w with references:=cE}:=List.getElem?_set_self hil;refine S2.store (i:=i) (k:=4) (w':={w with references:=cE,checks:=cE}) hw2 aC aC rfl rfl rfl rfl λm3 S3=>⟨(i+1,s',m3,hx),⟨rfl,rfl,by show i+1<=n;omega,_,S3,λj u hj hu=>?_⟩,by show n-(i+1)<n-i;omega,MT⟩
  by_cases e:i=j
  .subst e;rw[List.getElem?_set_self (by rw[List.length_set];exact hil)]at hu;cases hu;exact⟨rfl,rfl⟩
  .rw[List.getElem?_set_ne e,List.getElem?_set_ne e]at hu;exact hnil j u aC hu
 .have hdis:=hdis;obtain⟨cur,hcur,htake⟩:=S1.row_.ex;have hg0:∀i,hx tb i=none:=hdis tb _ hcur
  have hle3:PH.le hx (λx i=>if x=tb then cur[i]? else hx x i):=⟨λx i v e=>by
   have:x≠tb:=λe'=>by rw[e',hg0 i]at e;cases e
   simp[this,e]⟩
  refine⟨λb=>if b=tb then none else m1 b,λx i=>if x=tb then cur[i]? else hx x i,λb o e=>?_,S1.le_.trans hle3,λx i v e=>?_,hK ⟨s'.version,(kG id).take n⟩ s' _ _ ⟨⟨_,_,_,S1.ver0,S1.ver1,S1.n2,S1.n4,S1.id_,rfl⟩⟩ ⟨rfl,?_⟩ (S1.le_.trans hle3) ⟨λb hb=>?_⟩ ?_⟩
  .by_cases e':b=tb
   .simp[e']at e
   .simpa[e']using e
  .by_cases e':x=tb
   .subst e';simp at e;exact .inr ⟨cur,86,(0,0),hcur,e,by simp⟩
   .simp[e']at e;exact .inl e
  .have hws4:=S1.ws_.1;have hn4:=S1.n4;refine⟨⟨ws.take n,⟨by rw[hsn];simp;omega,.inr ⟨tb,0,hsa,λi e hi=>⟨λj v hj=>?_⟩⟩,by rw[hsl];exact hscap⟩,by simp[kG];omega,λi t e=>?_⟩,by simp[kG];omega⟩
   .rw[List.map_take,List.getElem?_take]at hi;split at hi
    .have h1:=kT (xs:=ws.map bO.enc) (sz:=5) (λe he=>by obtain⟨x,_,rfl⟩:=List.mem_map.1 he;rfl) hi j v hj;rw[<-htake,List.getElem?_take]at h1;split at h1
     .simp only[if_true,Nat.zero_add];rw[<-Array.getElem?_toList];exact h1
     .cases h1
    .cases hi
   .rw[List.getElem?_take]at e;split at e
    .rename_i hin;obtain⟨w,e1,e2⟩:=S1.ws_.2 i t e;obtain⟨z1,z2⟩:=hnil i w aC e1;have hh:=e2.mono hle3
     have hnorc:t.refs=[]/\t.checks=[]:=by
      match i,e with
      |0,e=>cases e;exact⟨rfl,rfl⟩
      |1,e=>cases e;exact⟨rfl,rfl⟩
      |2,e=>cases e;exact⟨rfl,rfl⟩
      |3,e=>cases e;exact⟨rfl,rfl⟩
      |i+4,e=>simp[kG]at e
     refine⟨w,by rw[List.getElem?_take,if_pos hin];exact e1,⟨hh.name_,hh.cols_,hh.key_,by rw[z1,hnorc.1];exact bL.nil _ _ _ _,by rw[z2,hnorc.2];exact bL.nil _ _ _ _⟩⟩
    .cases e
  .by_cases e':b=tb
   .subst e';simp[S1.new_]
   .simp[e'];exact S1.other_ b hb e'
  .obtain⟨r,q,cs,k,q1,q2,q3⟩:=S1.case_;exact⟨r,q,cs,k,by simp[S1.ne_.symm];exact q1,q2.mono hle3,q3⟩
def QW(q:Query):Prop:=
 match q with
 |.mk _ _ w _ _ _ _ _ args=>Fm w/\∀a∈args,QW a
 termination_by SizeOf.sizeOf q
theorem PL{op:Int}{on:List (Int×Int)}{args:List Query}:
 QW (.mk op ta w co on gr od li args)↔Fm w/\∀a∈args,QW a:=by rw[QW.eq_def]
def YU(s:oF):Prop:=∀t,Hq (gI s t)
structure V4(s:oF)(ps ks:List Int)(q0 q:Query):Prop where
 qw:QW q
 siz:∀d,wV d q0->Kg d q
 kin:YU s->Hq ps->Hq ks->ks≠[]->ks.length<=12->bY s ps q0=(ks,0)->bY s ps q=(ks,0)
def KQ(K:CV->MH->PH->Prop)(m:MH)(h:PH)(cb:Nat)(R:Query->Prop):Prop:=∀w q m' h',PH.le h h'->dC h' q w->R q->bC m m' cb->aK m' h' cb->K (aQ w) m' h'
def M1:Vc.Spec:=λcvs m h K=>∃cb sc p k v s ps ks q,cvs=[cP cb,aS sc,cS p,cS k,aQ v]/\aK m h cb/\gJ h s sc/\nD s/\s.tables.length<=1000/\Ints h p ps/\ps.length<=1000/\Ints h k ks/\ks.length<=1000/\dC h q v/\QW q/\KQ K m h cb (V4 s ps ks q)
noncomputable def Xj(cb:Nat)(sc:cH)(p k:Sl)(v:QV):Ctx:=
 dL [(15,Fo),(44,rR),(40,V7),(16,J1),(30,wU)] [(3,{A:=Int×Nat×MH×PH,st:=λ⟨f,n,m,h⟩=>cD 112 117 [(0,pv cb),(2,sv p),(3,sv k),(6,.at (.ptr 6 0)),(9,.at (.ptr 9 0)),(10,.at (.ptr 10 0)),(11,iv f),(12,iv n)] [(6,.cells 43 (sc.enc.map .val)),(9,.cells 38 (v.enc.map .val)),(10,.cells 38 (yN.enc.map .val))] m h}),
  (9,{A:=Int×Nat×Int×Sl×List Int×Nat×MH×PH,st:=λ⟨f,n,t,have_,cols,i,m,h⟩=>cD 112 117 [(0,pv cb),(2,sv p),(3,sv k),(6,.at (.ptr 6 0)),(9,.at (.ptr 9 0)),(10,.at (.ptr 10 0)),(11,iv f),(12,iv n),(13,iv t),(14,sv have_),(15,.at (.lst 75)),(45,sv k),(46,iv k.len),(47,iv i)] [(6,.cells 43 (sc.enc.map .val)),(9,.cells 38 (v.enc.map .val)),(10,.cells 38 (yN.enc.map .val)),(75,.lst 3 1 (cols.map eI))] m h}),
  (13,{A:=Int×Nat×Int×Sl×List Int×Nat×Int×Int×Nat×MH×PH,st:=λ⟨f,n,t,have_,cols,i,kind,fr,j,m,h⟩=>cD 112 117 [(0,pv cb),(2,sv p),(3,sv k),(6,.at (.ptr 6 0)),(9,.at (.ptr 9 0)),(10,.at (.ptr 10 0)),(11,iv f),(12,iv n),(13,iv t),(14,sv have_),(15,.at (.lst 75)),(17,iv kind),(18,iv fr),(45,sv k),(46,iv k.len),(47,iv i),(56,iv have_.len),(57,iv j)] [(6,.cells 43 (sc.enc.map .val)),(9,.cells 38 (v.enc.map .val)),(10,.cells 38 (yN.enc.map .val)),(75,.lst 3 1 (cols.map eI))] m h})] [] [] false
abbrev iM:Prop:=eP 10
noncomputable abbrev vN(a:Int×Nat×Int×Sl×List Int×Nat×MH×PH):Sl:=a.2.2.2.1
noncomputable abbrev mD(a:Int×Nat×Int×Sl×List Int×Nat×MH×PH):Nat×MH×PH:=a.2.2.2.2.2
noncomputable abbrev vO(a:Int×Nat×Int×Sl×List Int×Nat×MH×PH):List Int:=a.2.2.2.2.1
noncomputable abbrev lL(a:Int×Nat×Int×Sl×List Int×Nat×MH×PH):Nat->Nat->Option Value:=cM (mD a)
noncomputable abbrev qL(a:Int×Nat×Int×Sl×List Int×Nat×Int×Int×Nat×MH×PH):Sl:=a.2.2.2.1
noncomputable abbrev EE(a:Int×Nat×Int×Sl×List Int×Nat×Int×Int×Nat×MH×PH):Int:=a.2.2.2.2.2.2.1
noncomputable abbrev CE(a:Int×Nat×Int×Sl×List Int×Nat×Int×Int×Nat×MH×PH):Nat:=a.2.2.2.2.2.1
noncomputable abbrev mU(a:Int×Nat×Int×Sl×List Int×Nat×Int×Int×Nat×MH×PH):Nat×MH×PH:=a.2.2.2.2.2.2.2.2
noncomputable abbrev xN(a:Int×Nat×Int×Sl×List Int×Nat×Int×Int×Nat×MH×PH):List Int:=a.2.2.2.2.1
noncomputable abbrev ED(a:Int×Nat×Int×Sl×List Int×Nat×Int×Int×Nat×MH×PH):Int:=Int.tmod (eC (a.2.2.2.2.2.2.2.1+(↑(mU a).1:Int))) (aG (qL a))
noncomputable abbrev Es(a:Int)(b:PV)(c:List Value):List Value:=aR (eH a) bU (aR (eH b.op) (eH b.cmp) (aR (kM b.left) (wK b.left) (aR (eH (oV b.left)) (pX b.left) c)))
noncomputable abbrev EF(a:PV)(b:Sl):List Value:=aR (lA a.left) (kM a.right) (aR (wK a.right) (eH (oV a.right)) (aR (pX a.right) (lA a.right) (aR (dV a.args) tY (yR (aL b)))))
noncomputable abbrev AR(a:Int)(b:List Value):List Value:=aR (eH a) bU (aR bU bU (aR bU bU (aR bU bU b)))
attribute [push_cast] iM vN mD vO lL qL EE CE mU xN ED Es EF AR
def OS(cb:Nat)(sc:cH)(p k:Sl)(v:QV)(m:MH)(h:PH)(K:CV->MH->PH->Prop):Prop:=
  iV cb (eC (gS sc+1)) m h (λk1 m1=>∃(I:Int×Nat×MH×PH->Prop)(m2:Int×Nat×MH×PH->Nat),(∃(x:Int×Nat×MH×PH),aA (I x) (cW cb) (aA (aJ p) (aJ k) (aA (eP 6) (eP 9) (aA iM (cL k1 x.1) (aA (bA x.2.1) (bM sc) (aA (dP v) hU (bW (bH m1 x.2.2) h (cM x.2))))))))/\∀(x:Int×Nat×MH×PH),I x->aW (↑x.2.1:Int) (aG sc.tables) (jL (gS sc=0)/\xG (aZ (fX sc) (Int.tmod (eC (x.1+(↑x.2.1:Int))) (gS sc))) (cM x.2) (λs h1=>∃(I1:Int×Nat×Int×Sl×List Int×Nat×MH×PH->Prop)(m3:Int×Nat×Int×Sl×List Int×Nat×MH×PH->Nat),(∃(x1:Int×Nat×Int×Sl×List Int×Nat×MH×PH),aA (I1 x1) (cW cb) (aA (aJ p) (aJ k) (aA (eP 6) (eP 9) (aA iM (cL x.1 x1.1) (aA (cC x.2.1 x1.2.1) (cL (Int.tmod
 (eC (x.1+(↑x.2.1:Int))) (gS sc)) x1.2.2.1) (aA (bB s (vN x1)) (eL 75) (aA (aJ k) (bK k) (aA (bA (mD x1).1) (bM sc) (aA (dP v) hU (aA (pD (vO x1)) (bH (dH x.2) (mD x1).2) (bN h1 (lL x1))))))))))))/\∀(x1:Int×Nat×Int×Sl×List Int×Nat×MH×PH),I1 x1->aW (↑(mD x1).1:Int) (aG k) (bD (λb o=>aH (bE k.a b o) (0<=(↑(mD x1).1:Int)) ((↑(mD x1).1:Int)<aG k) (∃(y:Int),aM (dH (mD x1)) (lL x1) b (bI o (mD x1).1 1) (bV y)/\iV cb (aG (vN x1)) (dH (mD x1)) (lL x1) (λk2 m4=>∃(I2:Int×Nat×Int×Sl×List Int×Nat×Int×Int×Nat×MH×PH->Prop)(m5:Int×Nat×Int×Sl×List Int×Nat×Int×Int×Nat×MH×PH->Nat),(∃(x2:Int×Nat×Int×Sl×List Int×Nat×Int×Int×Nat×MH
 ×PH),aA (I2 x2) (cW cb) (aA (aJ p) (aJ k) (aA (eP 6) (eP 9) (aA iM (cL x1.1 x2.1) (aA (cC x1.2.1 x2.2.1) (cL x1.2.2.1 x2.2.2.1) (aA (bB (vN x1) (qL x2)) (eL 75) (aA (cL y (EE x2)) (cL k2 x2.2.2.2.2.2.2.2.1) (aA (aJ k) (bK k) (aA (cC (mD x1).1 (CE x2)) (bZ (vN x1) (qL x2)) (aA (bA (mU x2).1) (bM sc) (aA (dP v) hU (aA (rF (fK (vO x1)) (xN x2)) (bH m4 (mU x2).2) (bN (lL x1) (cM (mU x2)))))))))))))))/\∀(x2:Int×Nat×Int×Sl×List Int×Nat×Int×Int×Nat×MH×PH),I2 x2->aW (↑(mU x2).1:Int) (aG (qL x2)) (jL (aG (qL x2)=0)/\bD (λb1 o1=>aH (bE (qL x2).a b1 o1) (0<=ED x2) (ED x2<aG (qL x2)) (∃(y1:Int),aM (dH (mU x2)) (cM
 (mU x2)) b1 (fR o1 (ED x2) 1) (bV y1)/\dK y1 (EE x2) (aA (xC (xN x2)) (eF (fK (xN x2))) (∃(x3:Int×Nat×Int×Sl×List Int×Nat×MH×PH),aA (I1 x3) (m3 x3<m3 x1) (aA (cW cb) (aJ p) (aA (aJ k) (eP 6) (aA (eP 9) iM (aA (cL x2.1 x3.1) (cC x2.2.1 x3.2.1) (aA (cL x2.2.2.1 x3.2.2.1) (bB (qL x2) (vN x3)) (aA (eL 75) (aJ k) (aA (bK k) (fU (bF (CE x2) 1)=bT (mD x3).1) (aA (bM sc) (dP v) (aA hU (qZ (xN x2) (ED x2) (vO x3)) (bW (bH (dH (mU x2)) (mD x3).2) (cM (mU x2)) (lL x3))))))))))))) (∃(x3:Int×Nat×Int×Sl×List Int×Nat×Int×Int×Nat×MH×PH),aA (I2 x3) (m5 x3<m5 x2) (aA (cW cb) (aJ p) (aA (aJ k) (eP 6) (aA (eP 9) iM (aA (cL x2.1 x3.1)
 (cC x2.2.1 x3.2.1) (aA (cL x2.2.2.1 x3.2.2.1) (bB (qL x2) (qL x3)) (aA (eL 75) (cL (EE x2) (EE x3)) (aA (cL x2.2.2.2.2.2.2.2.1 x3.2.2.2.2.2.2.2.1) (aJ k) (aA (bK k) (cC (CE x2) (CE x3)) (aA (bZ (qL x2) (qL x3)) (fU (bF (mU x2).1 1)=bT (mU x3).1) (aA (bM sc) (dP v) (aA hU (rF (fK (xN x2)) (xN x3)) (bW (bH (dH (mU x2)) (mU x3).2) (cM (mU x2)) (cM (mU x3)))))))))))))))))) (∃(x3:Int×Nat×Int×Sl×List Int×Nat×MH×PH),aA (I1 x3) (m3 x3<m3 x1) (aA (cW cb) (aJ p) (aA (aJ k) (eP 6) (aA (eP 9) iM (aA (cL x2.1 x3.1) (cC x2.2.1 x3.2.1) (aA (cL x2.2.2.1 x3.2.2.1) (bB (qL x2) (vN x3)) (aA (eL 75) (aJ k) (aA (bK k) (fU (bF (CE x2) 1)=bT (mD
 x3).1) (aA (bM sc) (dP v) (aA hU (rF (fK (xN x2)) (vO x3)) (bW (bH (dH (mU x2)) (mD x3).2) (cM (mU x2)) (lL x3)))))))))))))))) (dK x1.1 (gS sc) (∃(x2:Int×Nat×MH×PH),aA (I x2) (m2 x2<m2 x) (aA (cW cb) (aJ p) (aA (aJ k) (eP 6) (aA (eP 9) iM (aA (cL x1.1 x2.1) (fU (bF x1.2.1 1)=bT x2.2.1) (aA (bM sc) (dP v) (aH hU (bH (dH (mD x1)) x2.2.2) (lL x1=cM x2.2) True))))))) (aW (↑(fK (vO x1)).length:Int) (aG k) (∃(x2:Int×Nat×MH×PH),aA (I x2) (m2 x2<m2 x) (aA (cW cb) (aJ p) (aA (aJ k) (eP 6) (aA (eP 9) iM (aA (cL x1.1 x2.1) (fU (bF x1.2.1 1)=bT x2.2.1) (aA (bM sc) (dP v) (aH hU (bH (dH (mD x1)) x2.2.2) (lL x1=cM x2.2) True))))))) (sX
 x1.2.2.1 (λt=>mR cb 2 (dH (mD x1)) (lL x1) (λc r=>∀(m4:MH),aT (bC (dH (mD x1)) m4 c) (aK m4 (lL x1) c) (branch r ((∃(c1:Nat),vS (λs1 t1 c2 p1 d=>aA (oC cb 0::cK (vN x1) (fC p 1)=oC c1 0::cK s1 (fC t1 (↑d:Int))) (aK m4 (lL x1) c1) (aA (Ints (lL x1) s1 c2) (Ints (lL x1) t1 p1) (aH (fS c2) (fS p1) (mG d) (Ar (λv1 p2=>fM (λm5 h2=>cY (lL x1) h2 (eN h2 p2 v1) (aT (uV c2 p1 d p2) (bC m4 m5 c1) (jX m5 h2 c1 (bX h2 21 (cQ (vP (eH 1) (eH t))) (λs2 h3=>bX h3 1 (fK (vO x1)) (λs3 h4=>bX h4 21 (cQ (Es 2 v1 (EF v1 s2))) (λs4 h5=>K (mM (AR 3 (sE (dV s3) (yR (aL s4))))) m5 h5)))))))))))))/\∃(c1:Nat),vS (λs1 t1 c2 p1 d=>aA (oC cb 0::
 cK (vN x1) (fC p 1)=oC c1 0::cK s1 (fC t1 (↑d:Int))) (aK m4 (lL x1) c1) (aA (Ints (lL x1) s1 c2) (Ints (lL x1) t1 p1) (aH (fS c2) (fS p1) (mG d) (Ar (λv1 p2=>fM (λm5 h2=>cY (lL x1) h2 (eN h2 p2 v1) (aT (uV c2 p1 d p2) (bC m4 m5 c1) (jX m5 h2 c1 (bX h2 21 (cQ (vP (eH 1) (eH t))) (λs2 h3=>bX h3 1 (fK (vO x1)) (λs3 h4=>bX h4 21 (cQ (Es 2 v1 (EF v1 s2))) (λs4 h5=>K (mM (AR 3 (sE (dV s3) (yR (aL s4))))) m5 h5))))))))))))) (bX (lL x1) 1 (fK (vO x1)) (λs1 h2=>bX h2 21 (cQ (vP (eH 1) (eH t))) (λs2 h3=>K (mM (AR 3 (sE (dV s1) (yR (aL s2))))) m4 h3))))))))))) ((∃(c:Nat),vS (λs t c1 p1 d=>aA (oC cb 0::cK k (fC p 1)=oC c 0::cK s
 (fC t (↑d:Int))) (aK (dH x.2) (cM x.2) c) (aA (Ints (cM x.2) s c1) (Ints (cM x.2) t p1) (aH (fS c1) (fS p1) (mG d) (Ar (λv1 p2=>fM (λm3 h1=>cY (cM x.2) h1 (eN h1 p2 v1) (aT (uV c1 p1 d p2) (bC (dH x.2) m3 c) (jX m3 h1 c (bX h1 21 (cQ v.enc) (λs1 h2=>K (mM (Es 2 v1 (EF v1 s1))) m3 h2)))))))))))/\∃(c:Nat),vS (λs t c1 p1 d=>aA (oC cb 0::cK k (fC p 1)=oC c 0::cK s (fC t (↑d:Int))) (aK (dH x.2) (cM x.2) c) (aA (Ints (cM x.2) s c1) (Ints (cM x.2) t p1) (aH (fS c1) (fS p1) (mG d) (Ar (λv1 p2=>fM (λm3 h1=>cY (cM x.2) h1 (eN h1 p2 v1) (aT (uV c1 p1 d p2) (bC (dH x.2) m3 c) (jX m3 h1 c (bX h1 21 (cQ v.enc) (λs1 h2=>K (mM (Es 2 v1 (EF v1 s1)))
 m3 h2))))))))))))
theorem kQ(h:PH):Ints h cE []:=⟨cN.nil _ _,by simp⟩
theorem p9(h:PH):lB h cE []:=⟨cN.nil _ _,by simp⟩
theorem vZ(h:PH):iJ h cE []:=⟨cN.nil _ _,by simp⟩
theorem Cd(h:PH):eN h iB hP:=I6 (v:=hP) rfl
theorem zG{h:PH}{s:Sl}{v:QV}{q:Query}(r:cN h s 21 [QV.enc v])(hq:dC h q v):yJ h s [q]:=⟨⟨[v],r,rfl,λi x e=>by
 match i,e with
 |0,e=>simp at e;subst e;exact⟨v,rfl,hq⟩
 |i+1,e=>simp at e⟩,by simp⟩
theorem zE(h:PH)(t:Int):dC h (.mk 1 t iB [] [] [] [] 0 []) ⟨1,t,hP,cE,cE,cE,cE,0,cE⟩:=
 oS.rep ⟨rfl,rfl,Cd h,kQ h,p9 h,kQ h,vZ h,rfl,bL.nil _ _ _ _⟩
theorem Je{v:PV}{s:Sl}(hp:eN h p v)(hq:yJ h s [q]):dC h (.mk 2 0 p [] [] [] [] 0 [q]) ⟨2,0,v,cE,cE,cE,cE,0,s⟩:=
 oS.rep ⟨rfl,rfl,hp,kQ h,p9 h,kQ h,vZ h,rfl,hq⟩
theorem GS{h:PH}{c s:Sl}{cols:List Int}{q:Query}(hc:Ints h c cols)(hq:yJ h s [q]):dC h (.mk 3 0 iB cols [] [] [] 0 [q]) ⟨3,0,hP,c,cE,cE,cE,0,s⟩:=
 oS.rep ⟨rfl,rfl,Cd h,hc,p9 h,kQ h,vZ h,rfl,hq⟩
theorem Ah:Fm iB:=⟨mP,mP,trivial⟩
theorem Mb{op:Int}{on:List (Int×Int)}(hw:Fm w)(hq:QW q):QW (.mk op ta w co on gr od li [q]):=PL.2 ⟨hw,λa ha=>by simp at ha;subst ha;exact hq⟩
theorem Ea(t:Int):QW (.mk 1 t iB [] [] [] [] 0 []):=PL.2 ⟨Ah,λa ha=>by simp at ha⟩
theorem RR{a:Int}{n:Nat}(h0:0<=a)(hn:0<n):0<=a.tmod (n:Int)/\a.tmod (n:Int)<(n:Int):=by
 rw[Int.tmod_eq_emod_of_nonneg h0];exact⟨Int.emod_nonneg _ aC,Int.emod_lt_of_pos _ aC⟩
theorem FP{k:List Int}{op:Int}{on:List (Int×Int)}(ha:arity op=1)(h:bY s ps q=(k,0)):bY s ps (.mk op ta w co on gr od li [q])=iS s ps (.mk op ta w co on gr od li [q]) k []:=by
 have e:gC s ps [q]=([k],0):=AX (by simp[h]);simp[bY,e,ha]
theorem H2(h:l.length<=12):yY l=(l,0):=if_pos h
theorem I7{s:oF}{ps:List Int}{t:Int}(h0:0<=t)(h1:t<s.tables.length)(hk:(gI s t).length<=12):bY s ps (.mk 1 t iB [] [] [] [] 0 [])=(gI s t,0):=by
 have e1:bY s ps (.mk 1 t iB [] [] [] [] 0 [])=iS s ps (.mk 1 t iB [] [] [] [] 0 []) [] []:=by simp[bY,gC,arity]
 rw[e1];unfold iS;rw[if_neg (by simp[arity,dQ])];dsimp only;rw[if_pos rfl,if_pos ⟨h0,h1⟩,H2 hk]
theorem kinds_filter{k:List Int}(h:bY s ps q=(k,0))(hw:iC k ps w=0)(hk:k.length<=12):bY s ps (.mk 2 0 w [] [] [] [] 0 [q])=(k,0):=by
 rw[FP (by decide) h];unfold iS;rw[if_neg (by simp[arity,dQ])];dsimp only;rw[if_neg (by decide),if_pos rfl,if_pos hw,H2 hk]
theorem J8{k:List Int}(h:bY s ps q=(k,0))(h0:co≠[])(hi:∀c∈co,Fq k c=true)(hl:co.length<=12):bY s ps (.mk 3 0 iB co [] [] [] 0 [q])=(co.map λc=>k.getD c.toNat 0,0):=by
 rw[FP (by decide) h];unfold iS;rw[if_neg (by simp[arity,dQ])];dsimp only;rw[if_neg (by decide),if_neg (by decide),if_pos rfl,if_pos ⟨h0,λj x hx=>hi x (List.mem_of_getElem? hx)⟩,H2 (by simpa using hl)]
structure DQ(kt ks co:List Int):Prop where
 in_:∀c∈co,Fq kt c=true
 eq_:(co.map λc=>kt.getD c.toNat 0)=ks
theorem DQ.kin{kt ks:List Int}(x:DQ kt ks co)(h:bY s ps q=(kt,0))(hn:ks≠[])(hl:ks.length<=12):bY s ps (.mk 3 0 iB co [] [] [] 0 [q])=(ks,0):=by
 have h1:co.length=ks.length:=by rw[<-x.eq_,List.length_map]
 rw[J8 h (λe=>hn (List.eq_nil_of_length_eq_zero (by rw[<-h1,e];rfl))) x.in_ aC,x.eq_]
theorem DQ.snoc{kt ks:List Int}{c x:Int}(p:DQ kt (ks.take i) co)(hx:ks[i]? =some x)(hc:Fq kt c=true)(e:kt.getD c.toNat 0=x):DQ kt (ks.take (i+1)) (co++[c]):=
 ⟨λy hy=>by
  rcases List.mem_append.1 hy with hy|hy
  .exact p.in_ y hy
  .simp at hy;subst hy;exact hc,by rw[List.map_append,p.eq_,List.take_add_one,hx,List.map_cons,List.map_nil,e];rfl⟩
theorem KN:Sound Tryz.prog 26 M1:=by
 refine gZ Tryz.func26 ?_;rintro cvs m h K ⟨cb,sc,p,k,v,s,ps,ks,q,rfl,hc,hs,h8,hts,hp,hpl,hk,hkl,hq,hqw,hK⟩;refine⟨Xj cb sc p k v,rfl,aD FV (aD CT (aD KL (aD v8 (aD CU aF)))),OS cb sc p k v m h K,by kernel_rfl,?_⟩;have htl:=hs.tables.slen;have hkn:=hk.slen;have hw:IntKind.i64.wrap ((sc.tables.len:Int)+1)=(sc.tables.len:Int)+1:=eG aC aC;dsimp only[OS,push_cast];rw[hw];refine⟨cb,_,rfl,hc,λf m1 f0 f1 o1 c1=>?_⟩;refine⟨λ⟨f,n,mx,hx⟩=>0<=f/\f<=sc.tables.len/\n<=sc.tables.len/\PH.le h hx/\bC m mx cb/\aK mx hx cb,λ⟨_,n,_,_⟩=>sc.tables.len-n,⟨(f,0,m1,h),⟨f0,by show f<=(sc.tables.len:Int);omega,aC,.refl _,o1,c1⟩,MT⟩,?_⟩;clear f0 f1 o1 c1 m1 hw;rintro⟨f,n,m1,hx⟩ ⟨f0,f1,hn,hle,o1,c1⟩;dsimp only
 have pred:∀(kk:Sl)(kl:List Int)(mx:MH)(hx:PH)(Q:PV->Pred->MH->PH->Prop),Ints hx kk kl->kl.length<=1000->PH.le h hx->aK mx hx cb->(∀v p m' h',PH.le hx h'->eN h' p v->uV kl ps 1 p->bC mx m' cb->aK m' h' cb->Q v p m' h')->
  ∃(cb_2:Nat)(s t:Sl)(cols params:List Int)(deep:Nat),[CV.val (.pointer (some ⟨cb,0,none⟩)),CV.val (.slice kk.a kk.len kk.cap),CV.val (.slice p.a p.len p.cap),CV.val (.int .i64 1)]=[CV.val (.pointer (some ⟨cb_2,0,none⟩)),CV.val (.slice s.a s.len s.cap),CV.val (.slice t.a t.len t.cap),CV.val (.int .i64 deep)]/\aK mx hx cb_2/\Ints hx s cols/\Ints hx t params/\cols.length<=1000/\params.length<=1000/\deep<=1000/\
   ∀(v:PV)(p:Pred)(m':MH)(h':PH),PH.le hx h'->eN h' p v->uV cols params deep p->bC mx m' cb_2->aK m' h' cb_2->Q v p m' h':=λkk kl mx hx Q h1 h2 h3 h4 h5=>
  ⟨cb,kk,p,kl,ps,1,rfl,h4,h1,hp.mono h3,h2,hpl,aC,λv p m' h' q1 q2 qp q3 q4=>h5 v p m' h' q1 q2 qp q3 q4⟩
 refine aE (λhlt=>?_) (λhge=>?_)
 rotate_left
 .have fin:∀(w:PV)(p:Pred)(m':MH)(h':PH),PH.le hx h'->eN h' p w->uV ks ps 1 p->bC m1 m' cb->aK m' h' cb->∀(s:Sl)(h'_1:PH),PH.le h' h'_1->cN h'_1 s 21 [QV.enc v]->K (aQ ⟨2,0,w,cE,cE,cE,cE,0,s⟩) m' h'_1:=λw p m' h' q1 q2 qp q3 q4 s h2 q5 q6=>
   hK _ _ m' h2 ((hle.trans q1).trans q5) (Je (q2.mono q5) (zG q6 (hq.mono ((hle.trans q1).trans q5)))) ⟨Mb qp.vals hqw,λd hf=>hf.filter,λ_ hps hks _ h12 hk0=>kinds_filter hk0 (qp.valid (by decide) hks hps) h12⟩ (o1.trans q3) (q4.mono q5)
  exact⟨pred k ks m1 hx _ (hk.mono hle) hkl hle c1 fin,pred k ks m1 hx _ (hk.mono hle) hkl hle c1 fin⟩
 have hw2:IntKind.i64.wrap (f+(n:Int))=f+(n:Int):=eG aC aC;rw[hw2];refine⟨aC,sc,s,_,rfl,hs.mono hle,h8,λhv h2 le2 hhv=>?_⟩;have hvn:=hhv.slen;obtain⟨T,hT⟩:∃T,(f+(n:Int)).tmod (sc.tables.len:Int)=T:=⟨_,rfl⟩
 have hTr:=RR (a:=f+(n:Int)) (n:=sc.tables.len) aC aC;rw[hT]at hhv hvn hTr⊢
 have hv8:(gI s T).length<=8:=by
  unfold gI;split
  .simp
  .split
   .simp
   .rename_i t ht;simpa using h8 t (List.mem_of_getElem? ht)
 obtain⟨kt,hkt⟩:∃kt,gI s T=kt:=⟨_,rfl⟩
 have hscan:bY s ps (.mk 1 T iB [] [] [] [] 0 [])=(kt,0):=by rw[I7 hTr.1 aC aC,hkt]
 have hcolt:YU s->Hq kt:=λx=>by rw[<-hkt];exact x T
 rw[hkt]at hhv hvn hv8;refine⟨λ⟨f',n',t,have_,cols,i,mx,hx⟩=>f'=f/\n'=n/\have_=hv/\t=T/\i<=ks.length/\cols.length<=i/\(cols.length=i->DQ kt (ks.take i) cols)/\PH.le h2 hx/\bC m mx cb/\aK mx hx cb,λ⟨_,_,_,_,_,i,_,_⟩=>ks.length-i,⟨(f,n,T,hv,[],0,m1,h2),⟨rfl,rfl,rfl,rfl,aC,by simp,λ_=>⟨by simp,by simp⟩,.refl _,o1,c1.mono le2⟩,MT⟩,?_⟩;rintro⟨f',n',t,hv,cols,i,m2,h3⟩ ⟨rfl,rfl,rfl,rfl,hi,hcl,hpk,le3,o2,c2⟩;dsimp only;have hle3:PH.le h h3:=(hle.trans le2).trans le3;refine aE (λhlt2=>?_) (λhge2=>?_)
 .obtain⟨x,hx⟩:=eW hkn hlt2;obtain⟨b1,of1,e1,r1⟩:=(hk.mono hle3).at hx;refine⟨b1,of1,e1,aC,hlt2,x,.imm (by simpa using r1),cb,_,rfl,c2,λfr m3 fr0 fr1 o3 c3=>?_⟩;refine⟨λ⟨f2,n2,t2,have_,cols2,i2,kind,fr',j,mx,hy⟩=>f2=f'/\n2=n'/\have_=hv/\t2=t/\cols2=cols/\i2=i/\kind=x/\mx=m3/\hy=h3/\j<=hv.len/\fr'=fr,λ⟨_,_,_,_,_,_,_,_,j,_,_⟩=>hv.len-j,⟨(f',n',t,hv,cols,i,x,fr,0,m3,h3),⟨rfl,rfl,rfl,rfl,rfl,rfl,rfl,rfl,rfl,aC,rfl⟩,MT⟩,?_⟩;rintro⟨f2,n2,t2,hv,cols,i,kind,fr',j,m3,h3⟩ ⟨rfl,rfl,rfl,rfl,rfl,rfl,rfl,rfl,rfl,hj,rfl⟩;dsimp only;refine aE (λhlt3=>?_) (λhge3=>⟨(f2,n2,t2,_,_,_,_,_),⟨rfl,rfl,rfl,rfl,by show i+1<=ks.length;omega,by show cols.length<=i+1;omega,λe=>by have e:cols.length=i+1:=e;omega,le3,o2.trans o3,c3⟩,by show ks.length-(i+1)<ks.length-i;omega,MT⟩);have hw3:IntKind.i64.wrap (fr'+(j:Int))=fr'+(j:Int):=eG aC aC;rw[hw3];have hm:=RR (a:=fr'+(j:Int)) (n:=Sl.len _) aC (show 0<hv.len by omega);obtain⟨b2,of2,e2,r2⟩:=(hhv.mono le3).inb (n:=(fr'+(j:Int)).tmod (hv.len:Int)) hm.1 (by rw[<-hvn];exact hm.2);refine⟨aC,b2,of2,e2,hm.1,hm.2,_,.imm (by simpa using r2),aB (λek=>⟨by simp;omega,by simp;omega,(f2,n2,t2,_,cols++[(fr'+(j:Int)).tmod (hv.len:Int)],i+1,_,_),⟨rfl,rfl,rfl,rfl,by show i+1<=ks.length;omega,by simp;omega,λe=>?_,le3,o2.trans o3,c3⟩,by show ks.length-(i+1)<ks.length-i;omega,?_⟩) (λ_=>⟨(f2,n2,t2,hv,cols,i,kind,fr',j+1,m3,h3),⟨rfl,rfl,rfl,rfl,rfl,rfl,rfl,rfl,rfl,by show j+1<=hv.len;omega,rfl⟩,by show hv.len-(j+1)<hv.len-j;omega,MT⟩)⟩
  .have e:(cols++[(fr'+(j:Int)).tmod (hv.len:Int)]).length=i+1:=e;rw[List.length_append]at e;exact(hpk (by simpa using e)).snoc hx (by simp only[Fq,Bool.and_eq_true,decide_eq_true_eq];omega) (by simpa using ek)
  .rw[List.map_append];exact MT
 .have hn1:n'+1<=sc.tables.len:=by omega
  have hi2:i=ks.length:=by omega
  refine aB (λ_=>⟨(f',n'+1,m2,h3),⟨f0,f1,hn1,hle3,o2,c2⟩,by show sc.tables.len-(n'+1)<sc.tables.len-n';omega,MT⟩) (λ_=>aE (λ_=>⟨(f',n'+1,m2,h3),⟨f0,f1,hn1,hle3,o2,c2⟩,by show sc.tables.len-(n'+1)<sc.tables.len-n';omega,MT⟩) (λhnl=>⟨t,rfl,cb,2,rfl,aC,aC,c2,λr m4 o4 c4=>?_⟩))
  have hpick:DQ kt ks cols:=by
   rw[List.length_map]at hnl;have:=hpk aC
   rwa [hi2,List.take_length]at this
  refine aB (λ_=>?_) (λ_ s1 h5 le5 r5 s2 h6 le6 r6=>?_)
  .have fin:∀(w:PV)(p:Pred)(m':MH)(h':PH),PH.le h3 h'->eN h' p w->uV kt ps 1 p->bC m4 m' cb->aK m' h' cb->∀(s:Sl)(h'_1:PH),PH.le h' h'_1->cN h'_1 s 21 [QV.enc ⟨1,t,hP,cE,cE,cE,cE,0,cE⟩]->∀(s_1:Sl)(h'_2:PH),PH.le h'_1 h'_2->cN h'_2 s_1 1 (cols.map eI)->∀(s_2:Sl)(h'_3:PH),PH.le h'_2 h'_3->cN h'_3 s_2 21 [QV.enc ⟨2,0,w,cE,cE,cE,cE,0,s⟩]->K (aQ ⟨3,0,hP,s_1,cE,cE,cE,0,s_2⟩) m' h'_3:=λw p m' h' q1 q2 qp q3 q4 s h5 q5 q6 s1 h6 q7 q8 s2 h7 q9 q10=>
    hK _ _ m' h7 ((((hle3.trans q1).trans q5).trans q7).trans q9) (GS (cols:=cols) ⟨q8.mono q9,aC⟩ (zG q10 (Je (q2.mono ((q5.trans q7).trans q9)) (zG (q6.mono (q7.trans q9)) (zE _ t))))) ⟨Mb Ah (Mb qp.vals (Ea t)),λd _=>Kg.three d (mY.one (mY.one mY.scan (by decide)) (by decide)),λhsk hps _ hn h12 _=>hpick.kin (kinds_filter hscan (qp.valid (by decide) (hcolt hsk) hps) aC) hn h12⟩ ((o2.trans o4).trans q3) (q4.mono ((q5.trans q7).trans q9))
   exact⟨pred hv kt m4 h3 _ (hhv.mono le3) aC hle3 c4 fin,pred hv kt m4 h3 _ (hhv.mono le3) aC hle3 c4 fin⟩
  .exact hK _ _ m4 h6 ((hle3.trans le5).trans le6) (GS (cols:=cols) ⟨r5.mono le6,aC⟩ (zG (v:=⟨1,t,hP,cE,cE,cE,cE,0,cE⟩) r6 (zE _ t))) ⟨Mb Ah (Ea t),λd _=>Kg.three d (mY.mono (mY.one mY.scan (by decide)) (by decide) (by decide) (by decide)),λ_ _ _ hn h12 _=>hpick.kin hscan hn h12⟩ (o2.trans o4) (c4.mono (le5.trans le6))
def Zj(K:CV->MH->PH->Prop)(m:MH)(h:PH)(cb:Nat)(s:oF)(ps:List Int)(d:Nat):Prop:=∀w q m' h',PH.le h h'->dC h' q w->QW q->wV d q->(fB s ps q).2=0->bC m m' cb->aK m' h' cb->K (aQ w) m' h'
def RF(N:Nat):Vc.Spec:=λcvs m h K=>∃cb sc p s ps deep,cvs=[cP cb,aS sc,cS p,cI deep]/\aK m h cb/\gJ h s sc/\eJ s=0/\s.tables≠[]/\Ints h p ps/\ps.length<=1000/\ps.all dR=true/\ -1<=deep/\deep<=1000/\(deep+1).toNat<N/\Zj K m h cb s ps deep.toNat
noncomputable def XA(N:Nat)(cb:Nat)(sc:cH)(p:Sl):Ctx:=
 uF [(15,Fo),(40,V7),(25,B7),(41,Wc),(26,M1),(42,X0),(30,wU),(13,RF N)] [(11,{A:=QV×QV×Sl×Int×MH×PH,st:=λ⟨a,q,k,n,m,h⟩=>cD 171 175 [(0,pv cb),(2,sv p),(5,.at (.ptr 5 0)),(8,.at (.ptr 8 0)),(10,.at (.ptr 10 0)),(11,sv k),(13,.at (.ptr 13 0)),(14,iv n)] [(5,.cells 43 (sc.enc.map .val)),(8,.cells 38 (yN.enc.map .val)),(10,.cells 38 (a.enc.map .val)),(13,.cells 38 (q.enc.map .val))] m h})] [(7,{A:=Int×Int×QV×QV×Sl×MH×PH,st:=λ⟨d,op,a,q,k,m,h⟩=>cD 171 175 [(0,pv cb),(2,sv p),(3,iv d),(5,.at (.ptr 5 0)),(8,.at (.ptr 8 0)),(9,iv op),(10,.at (.ptr 10 0)),(11,sv k),(13,.at (.ptr 13 0))] [(5,.cells 43 (sc.enc.map .val)),(8,.cells 38 (yN.enc.map .val)),(10,.cells 38 (a.enc.map .val)),(13,.cells 38 (q.enc.map .val))] m h}),
  (16,{A:=Int×Int×QV×QV×Sl×Bool×MH×PH,st:=λ⟨d,op,a,q,k,t,m,h⟩=>cD 171 175 [(0,pv cb),(2,sv p),(3,iv d),(5,.at (.ptr 5 0)),(8,.at (.ptr 8 0)),(9,iv op),(10,.at (.ptr 10 0)),(11,sv k),(13,.at (.ptr 13 0)),(59,iv op),(84,bv t)] [(5,.cells 43 (sc.enc.map .val)),(8,.cells 38 (yN.enc.map .val)),(10,.cells 38 (a.enc.map .val)),(13,.cells 38 (q.enc.map .val))] m h}),
  (24,{A:=Int×QV×QV×Sl×Bool×MH×PH,st:=λ⟨op,a,q,k,t,m,h⟩=>cD 171 175 [(0,pv cb),(2,sv p),(5,.at (.ptr 5 0)),(8,.at (.ptr 8 0)),(10,.at (.ptr 10 0)),(11,sv k),(13,.at (.ptr 13 0)),(59,iv op),(122,bv t)] [(5,.cells 43 (sc.enc.map .val)),(8,.cells 38 (yN.enc.map .val)),(10,.cells 38 (a.enc.map .val)),(13,.cells 38 (q.enc.map .val))] m h}),
  (20,{A:=QV×QV×QV×Sl×Sl×MH×PH,st:=λ⟨a,b,q,k,l,m,h⟩=>cD 171 175 [(0,pv cb),(2,sv p),(5,.at (.ptr 5 0)),(8,.at (.ptr 8 0)),(10,.at (.ptr 10 0)),(11,sv k),(13,.at (.ptr 13 0)),(15,.at (.ptr 15 0)),(16,sv l)] [(5,.cells 43 (sc.enc.map .val)),(8,.cells 38 (yN.enc.map .val)),(10,.cells 38 (a.enc.map .val)),(13,.cells 38 (q.enc.map .val)),(15,.cells 38 (b.enc.map .val))] m h}),
  (30,{A:=QV×QV×MH×PH,frz:=true,st:=λ⟨a,q,m,h⟩=>cD 171 175 [(2,sv p),(5,.at (.ptr 5 0)),(8,.at (.ptr 8 0)),(10,.at (.ptr 10 0)),(13,.at (.ptr 13 0))] [(5,.cells 43 (sc.enc.map .val)),(8,.cells 38 (yN.enc.map .val)),(10,.cells 38 (a.enc.map .val)),(13,.cells 38 (q.enc.map .val))] m h})] [] [36,1036,1033] [] false
abbrev FF(a:QV->Query->Prop):Prop:=∀(x:QV)(x1:Query),a x x1
abbrev Cz(a:List CV)(b:PH)(c:oF->(List Int)->Query->Prop):Prop:=DE (λx x1=>∃(x2:QV),Dk (λx3 x4=>∃(x5:Query),aA (a=bP (dU x) (fF x1 (bJ x2))) (gJ b x3 x) (aA (Ints b x1 x4) (dC b x5 x2) (c x3 x4 x5))))
noncomputable abbrev EG(a:Int×Int×QV×QV×Sl×MH×PH):Sl:=a.2.2.2.2.1
abbrev gL(a b:QV):Prop:=oB 38 a.enc=oB 38 b.enc
abbrev qW(a:List At)(b:QV):Prop:=oQ 38 a=oB 38 b.enc
noncomputable abbrev CJ(a:Int×Int×QV×QV×Sl×MH×PH):Nat->Nat->Option Value:=a.2.2.2.2.2.2
noncomputable abbrev HQ(a:Int×Int×QV×QV×Sl×MH×PH):Nat->Option Obj:=iX a.2.2.2.2
abbrev xO(a:Prop)(b:Nat)(c d e:Sl)(g:Prop):Prop:=aA a (cW b) (aA (aJ c) eT (aA fI iM (aA (bB d e) (eP 13) g)))
noncomputable abbrev AU(a:QV×QV×Sl×Int×MH×PH):Nat->Nat->Option Value:=a.2.2.2.2.2
noncomputable abbrev HP(a:QV×QV×Sl×Int×MH×PH):Nat->Option Obj:=a.2.2.2.2.1
noncomputable abbrev Ml(a:QV×QV×Sl×Int×MH×PH):Sl:=a.2.1.columns
noncomputable abbrev rA(a:QV×QV×MH×PH):Nat->Option Obj:=a.2.2.1
noncomputable abbrev rG(a:QV×QV×MH×PH):Nat->Nat->Option Value:=a.2.2.2
noncomputable abbrev lY(a:Int×QV×QV×Sl×Bool×MH×PH):Sl:=a.2.2.2.1
noncomputable abbrev xP(a:Int×QV×QV×Sl×Bool×MH×PH):Bool:=a.2.2.2.2.1
noncomputable abbrev kV(a:Int×QV×QV×Sl×Bool×MH×PH):QV:=a.2.1
noncomputable abbrev yS(a:Int×QV×QV×Sl×Bool×MH×PH):QV:=a.2.2.1
noncomputable abbrev qK(a:Int×Int×QV×QV×Sl×Bool×MH×PH):QV:=yS a.2
noncomputable abbrev BH(a:Int×QV×QV×Sl×Bool×MH×PH):MH×PH:=a.2.2.2.2.2
noncomputable abbrev fW(a:Int×QV×QV×Sl×Bool×MH×PH):Nat->Nat->Option Value:=(BH a).2
noncomputable abbrev pI(a:Int×QV×QV×Sl×Bool×MH×PH):Nat->Option Obj:=(BH a).1
noncomputable abbrev sF(a:QV×QV×QV×Sl×Sl×MH×PH):Sl×MH×PH:=a.2.2.2.2
noncomputable abbrev pR(a:QV×QV×QV×Sl×Sl×MH×PH):QV:=a.2.2.1
noncomputable abbrev nU(a:QV×QV×QV×Sl×Sl×MH×PH):Nat->Nat->Option Value:=(sF a).2.2
noncomputable abbrev EP(a:QV×QV×QV×Sl×Sl×MH×PH):Sl:=(pR a).args
attribute [push_cast] FF Cz EG gL qW CJ HQ xO AU HP Ml rA rG lY xP kV yS qK BH fW pI sF pR nU EP
def O4(N:Nat)(cb:Nat)(sc:cH)(p:Sl)(deep:Int)(m:MH)(h:PH)(K:CV->MH->PH->Prop):Prop:=
  iV cb 12 m h (λk m1=>aW deep 1 (iV cb (ite (gS sc>1) (gS sc) 1) m1 h (λk1 m2=>sX k1 (λt=>K (mM (vP (eH 1) (eH t))) m2 h))) (cV (eC (1+k)==1) (iV cb (ite (gS sc>1) (gS sc) 1) m1 h (λk1 m2=>sX k1 (λt=>K (mM (vP (eH 1) (eH t))) m2 h))) (gS sc==0) (iV cb (ite (gS sc>1) (gS sc) 1) m1 h (λk1 m2=>sX k1 (λt=>K (mM (vP (eH 1) (eH t))) m2 h))) (∃(c:Nat),DE (λs p1=>Dk (λs1 p2=>∃(d:Int),aA (oC cb 0::bP (dU sc) (fC p (eC (deep-1)))=oC c 0::bP (dU s) (fC p1 d)) (aK m1 h c) (aA (gJ h s1 s) (eJ s1=0) (aA (jL (s1.tables=[])) (Ints h p1 p2) (aA (fS p2) (dT (DC p2)) (aH (Int.negSucc 0<=d) (d<=1000) ((d+1).toNat<N) (FF (λw q=>fM (λm2 h1=>cY h
 h1 (dC h1 q w) (aT (QW q) (wV d.toNat q) (aT ((fB s1 p2 q).2=0) (bC m1 m2 c) (jX m2 h1 c (Cz (bP (dU sc) (fF p (bJ w))) h1 (λs2 p3 q1=>∀(s3:Sl)(h2:PH),cY h1 h2 (Ints h2 s3 (fB s2 p3 q1).1) (∃(I:Int×Int×QV×QV×Sl×MH×PH->Prop),gV (λs4 m3=>mO m2 m3 h2 s4 38 21 (cQ w.enc)->∃(x:Int×Int×QV×QV×Sl×MH×PH),aA (I x) (cW cb) (aA (aJ p) (cL deep x.1) (aA eT fI (aA (cL (eC (1+k)) x.2.1) iM (aA (bB s3 (EG x)) (eP 13) (aA (bM sc) hU (aA (gL w x.2.2.1) (qW (dX (eC (1+k)) 0 (dX 0 0 (dX 0 0 (dX 0 0 (lS Pt (lT 0) (dX 0 0 (lS (lT 0) Pt (lS JM JM (lS JM JM (lS JM (lT 0) (jH (tU s4)))))))))))) x.2.2.2.1) (aA (bH m3 x.2.2.2.2.2) (h2=CJ x) True))))))))/\∀(x:Int×Int
 ×QV×QV×Sl×MH×PH),I x->∃(I1:QV×QV×MH×PH->Prop),dK x.2.1 3 (iV cb 3 (HQ x) (CJ x) (λk1 m3=>∃(I2:QV×QV×Sl×Int×MH×PH->Prop)(m4:QV×QV×Sl×Int×MH×PH->Nat),(∃(x1:QV×QV×Sl×Int×MH×PH),xO (I2 x1) cb p (EG x) x1.2.2.1 (aA (cL k1 x1.2.2.2.1) (bM sc) (aA hU (gL x.2.2.1 x1.1) (aH (gL x.2.2.2.1 x1.2.1) (bH m3 x1.2.2.2.2) (CJ x=AU x1) True))))/\∀(x1:QV×QV×Sl×Int×MH×PH),I2 x1->gA x1.2.2.2.1 0 (iV cb (aG x1.2.2.1) (HP x1) (AU x1) (λk2 m5=>∃(x2:List (List Value)),aH (dE m5 (cZ (Ml x1)) 3 1 x2) (iA (kZ x2 1*8)) (eF x2) (gV (λs4 m6=>eB m5 m6 (cZ (Ml x1)) s4 3 1 (x2++cQ (bV k2))->∃(x3:QV×QV×Sl×Int×MH×PH),aA (I2 x3) (m4 x3<m4 x1) (aA (cW cb)
 (aJ p) (aA eT fI (aA iM (bB x1.2.2.1 x3.2.2.1) (aA (eP 13) (cL (eC (x1.2.2.2.1-1)) x3.2.2.2.1) (aA (bM sc) hU (aA (gL x1.1 x3.1) (qW (dX x1.2.1.op x1.2.1.table (CN x1.2.1 (tU s4) x1.2.1.on (oW (lT x1.2.1.limit) (tU x1.2.1.args)))) x3.2.1) (aA (bH m6 x3.2.2.2.2) (AU x1=AU x3) True))))))))))) (DT (HP x1) (AU x1)->∃(x2:QV×QV×MH×PH),aA (I1 x2) (aJ p) (aA (eP 5) fI (aA iM (eP 13) (aA (bM sc) hU (aH (gL x1.1 x2.1) (gL x1.2.1 x2.2.1) (Cb (HP x1) (AU x1) (rA x2) (rG x2)) True))))))) (∃(I2:Int×Int×QV×QV×Sl×Bool×MH×PH->Prop),dK x.2.1 4 (∃(x1:Int×Int×QV×QV×Sl×Bool×MH×PH),aA (I2 x1) (cW cb) (aA (aJ p) (cL x.1 x1.1) (aA eT fI (aA (cL x.2.1 x1.2.1) iM (aA
 (bB (EG x) (lY x1.2)) (eP 13) (aA (cL x.2.1 x1.2.1) (uL (xP x1.2)) (aA (bM sc) hU (aA (gL x.2.2.1 (kV x1.2)) (gL x.2.2.2.1 (qK x1)) (bW (bH (HQ x) (BH x1.2)) (CJ x) (fW x1.2)))))))))) (∃(x1:Int×Int×QV×QV×Sl×Bool×MH×PH),aA (I2 x1) (cW cb) (aA (aJ p) (cL x.1 x1.1) (aA eT fI (aA (cL x.2.1 x1.2.1) iM (aA (bB (EG x) (lY x1.2)) (eP 13) (aA (cL x.2.1 x1.2.1) (gT (x.2.1==5) (xP x1.2)) (aA (bM sc) hU (aA (gL x.2.2.1 (kV x1.2)) (gL x.2.2.2.1 (qK x1)) (bW (bH (HQ x) (BH x1.2)) (CJ x) (fW x1.2))))))))))/\∀(x1:Int×Int×QV×QV×Sl×Bool×MH×PH),gG (I2 x1) (xP x1.2) (∃(c1:Nat),DE (λs4 p4=>Dk (λs5 p5=>∃(d1:Int),aA (oC cb 0::bP
 (dU sc) (fC p (eC (x1.1-2)))=oC c1 0::bP (dU s4) (fC p4 d1)) (aK (pI x1.2) (fW x1.2) c1) (aA (gJ (fW x1.2) s5 s4) (eJ s5=0) (aA (jL (s5.tables=[])) (Ints (fW x1.2) p4 p5) (aA (fS p5) (dT (DC p5)) (aH (Int.negSucc 0<=d1) (d1<=1000) ((d1+1).toNat<N) (FF (λw1 q2=>fM (λm3 h3=>cY (fW x1.2) h3 (dC h3 q2 w1) (aT (QW q2) (wV d1.toNat q2) (aT ((fB s5 p5 q2).2=0) (bC (pI x1.2) m3 c1) (jX m3 h3 c1 (Cz (bP (dU sc) (fF p (bJ w1))) h3 (λs6 p6 q3=>∀(s7:Sl)(h4:PH),cY h3 h4 (Ints h4 s7 (fB s6 p6 q3).1) (∃(I3:QV×QV×QV×Sl×Sl×MH×PH->Prop),dK x1.2.1 4 (eM (eC (aG (lY x1.2)+aG s7)) 8 (∃(x2:QV×QV×QV×Sl×Sl×MH×PH),xO (I3 x2) cb p (lY x1.2) x2.2.2.2.1 (aA (eP 15)
 (bB s7 (sF x2).1) (aA (bM sc) hU (aA (gL (kV x1.2) x2.1) (qW (dX 5 (qK x1).table (CN (qK x1) (BG (qK x1)) (qK x1).on (oW (lT (qK x1).limit) (tU (qK x1).args)))) (pR x2)) (aA (gL w1 x2.2.1) (bH m3 (sF x2).2) (bN h4 (nU x2))))))) (∃(x2:QV×QV×QV×Sl×Sl×MH×PH),xO (I3 x2) cb p (lY x1.2) x2.2.2.2.1 (aA (eP 15) (bB s7 (sF x2).1) (aA (bM sc) hU (aA (gL (kV x1.2) x2.1) (gL (qK x1) (pR x2)) (aA (gL w1 x2.2.1) (bH m3 (sF x2).2) (bN h4 (nU x2)))))))) (∃(x2:QV×QV×QV×Sl×Sl×MH×PH),xO (I3 x2) cb p (lY x1.2) x2.2.2.2.1 (aA (eP 15) (bB s7 (sF x2).1) (aA (bM sc) hU (aA (gL (kV x1.2) x2.1) (gL (qK x1) (pR x2)) (aA (gL w1 x2.2.1) (bH m3 (sF
 x2).2) (bN h4 (nU x2)))))))/\∀(x2:QV×QV×QV×Sl×Sl×MH×PH),I3 x2->(∃(c2:Nat),jV (λs8 t=>uW (λa b=>aA (oC cb 0::fY x2.2.2.2.1 (sF x2).1=oC c2 0::fY s8 t) (aK (iX (sF x2)) (nU x2) c2) (aA (Ints (nU x2) s8 a) (Ints (nU x2) t b) (aA (fS a) (fS b) (∀(o:Sl)(o1:List (Int×Int)),fM (λm4 h5=>cY (nU x2) h5 (lB h5 o o1) (aT (o1.length<=10) (bC (iX (sF x2)) m4 c2) (jX m4 h5 c2 (gV (λs9 m5=>mO m4 m5 h5 s9 38 21 (cQ x2.2.1.enc)->∃(x3:List (List Value)),As (dE m5 (cZ (EP x2)) 38 21 x3) (λy=>lZ 21 y (oE m5 h5 (cZ s9) 21 y) (pO x3 y 280) (pP x3 y) (∀(a1:Sl)(m6:MH),aT (eB m5 m6 (cZ (EP x2)) a1 38 21 (x3++y)) (DT m6 h5) (∃(x4:QV×QV×MH×PH),aA (I1 x4) (aJ
 p) (aA (eP 5) fI (aA iM (eP 13) (aA (bM sc) hU (aH (gL x2.1 x4.1) (qW (dX (pR x2).op (pR x2).table (CN (pR x2) (BG (pR x2)) o (oW (lT (pR x2).limit) (tU a1)))) x4.2.1) (Cb m6 h5 (rA x4) (rG x4)) True))))))))))))))))))/\gV (λs8 m4=>mO (iX (sF x2)) m4 (nU x2) s8 38 21 (cQ x2.2.1.enc)->∃(c2:Nat),jV (λs9 t=>uW (λa b=>aA (oC cb 0::fY x2.2.2.2.1 (sF x2).1=oC c2 0::fY s9 t) (aK m4 (nU x2) c2) (aA (Ints (nU x2) s9 a) (Ints (nU x2) t b) (aA (fS a) (fS b) (∀(o:Sl)(o1:List (Int×Int)),fM (λm5 h5=>cY (nU x2) h5 (lB h5 o o1) (aT (o1.length<=10) (bC m4 m5 c2) (jX m5 h5 c2 (∃(x3:List (List Value)),As (dE m5 (cZ (EP x2)) 38 21 x3) (λy=>lZ 21 y (oE
 m5 h5 (cZ s8) 21 y) (pO x3 y 280) (pP x3 y) (∀(a1:Sl)(m6:MH),aT (eB m5 m6 (cZ (EP x2)) a1 38 21 (x3++y)) (DT m6 h5) (∃(x4:QV×QV×MH×PH),aA (I1 x4) (aJ p) (aA (eP 5) fI (aA iM (eP 13) (aA (bM sc) hU (aH (gL x2.1 x4.1) (qW (dX (pR x2).op (pR x2).table (CN (pR x2) (BG (pR x2)) o (oW (lT (pR x2).limit) (tU a1)))) x4.2.1) (Cb m6 h5 (rA x4) (rG x4)) True))))))))))))))))))))))))))))))))) (∃(I3:Int×QV×QV×Sl×Bool×MH×PH->Prop),cV (x1.2.1==6) (∃(x2:Int×QV×QV×Sl×Bool×MH×PH),xO (I3 x2) cb p (lY x1.2) (lY x2) (aA (cL x1.2.1 x2.1) (uL (xP x2)) (aA (bM sc) hU (aA (gL (kV x1.2) (kV x2)) (gL (qK x1) (yS x2)) (aA (bH (pI x1.2) (BH x2)) (fW x1.2=fW
 x2) True))))) (x1.2.1==7) (∃(x2:Int×QV×QV×Sl×Bool×MH×PH),xO (I3 x2) cb p (lY x1.2) (lY x2) (aA (cL x1.2.1 x2.1) (uL (xP x2)) (aA (bM sc) hU (aA (gL (kV x1.2) (kV x2)) (gL (qK x1) (yS x2)) (aA (bH (pI x1.2) (BH x2)) (fW x1.2=fW x2) True))))) (∃(x2:Int×QV×QV×Sl×Bool×MH×PH),xO (I3 x2) cb p (lY x1.2) (lY x2) (aA (cL x1.2.1 x2.1) (gT (x1.2.1==8) (xP x2)) (aA (bM sc) hU (aA (gL (kV x1.2) (kV x2)) (gL (qK x1) (yS x2)) (aA (bH (pI x1.2) (BH x2)) (fW x1.2=fW x2) True)))))/\∀(x2:Int×QV×QV×Sl×Bool×MH×PH),I3 x2->cV (xP x2) (∃(c1:Nat)(s4:cH),jV (λp4 k1=>∃(v:QV),Dk (λs5 p5=>∃(k2:List Int)(q2:Query),aA (oC cb 0::bP (dU
 sc) (cK p (fF (lY x2) (bJ (kV x2))))=oC c1 0::bP (dU s4) (cK p4 (fF k1 (bJ v)))) (aK (pI x2) (fW x2) c1) (aA (gJ (fW x2) s5 s4) (nD s5) (aA (mG s5.tables.length) (Ints (fW x2) p4 p5) (aA (fS p5) (Ints (fW x2) k1 k2) (aH (fS k2) (dC (fW x2) q2 v) (QW q2) (FF (λw1 q3=>fM (λm3 h3=>cY (fW x2) h3 (dC h3 q3 w1) (aT (V4 s5 p5 k2 q2 q3) (bC (pI x2) m3 c1) (jX m3 h3 c1 (gV (λs6 m4=>mO m3 m4 h3 s6 38 21 (cQ w1.enc)->∃(x3:List (List Value)),As (dE m4 (cZ (yS x2).args) 38 21 x3) (λy=>lZ 21 y (oE m4 h3 (cZ s6) 21 y) (pO x3 y 280) (pP x3 y) (∀(s7:Sl)(m5:MH),aT (eB m4 m5 (cZ (yS x2).args) s7 38 21 (x3++y)) (DT m5 h3) (∃(x4:QV×QV×MH×PH),aA (I1 x4) (aJ p) (aA (eP
 5) fI (aA iM (eP 13) (aA (bM sc) hU (aH (gL (kV x2) x4.1) (qW (qQ (yS x2) (tU s7)) x4.2.1) (Cb m5 h3 (rA x4) (rG x4)) True))))))))))))))))))))) (x2.1==9) (∃(c1:Nat)(v:QV),Az (λs4 k1=>aA (oC cb 0::cR (bJ (yS x2)) (lR (lY x2))=oC c1 0::cR (mM (Cv v v (aR (lA (iF v)) (kM (fG v)) (aR (wK (fG v)) (eH (oV (fG v))) (aR (pX (fG v)) (lA (fG v)) (aR (mV v) (mW v) (aR (dV v.on) tY (aR tY (eH v.limit) (aL v.args))))))))) (lR s4)) (aK (pI x2) (fW x2) c1) (aA (Ints (fW x2) s4 k1) (fS k1) (∀(g o:Sl)(k2:Int)(g1:List Int)(o1:List (Int×Bool)),fM (λm3 h3=>cY (fW x2) h3 (Ints h3 g g1) (aT (iJ h3 o o1) (g1.length<=k1.length) (aT (o1.length<=k1.length) (cF k2) (aT (k2<=
 3) (bC (pI x2) m3 c1) (aT (aK m3 h3 c1) (DT m3 h3) (∃(x3:QV×QV×MH×PH),aA (I1 x3) (aJ p) (aA (eP 5) fI (aA iM (eP 13) (aA (bM sc) hU (aH (gL (kV x2) x3.1) (qW (dX v.op v.table (pQ v.where_ (lS (BG v) (tU v.on) (lS (tU g) (tU o) (oW (lT k2) (tU v.args)))))) x3.2.1) (Cb m3 h3 (rA x3) (rG x3)) True)))))))))))))) (dK x2.1 10 (∃(c1:Nat)(v:QV),Az (λs4 k1=>aA (oC cb 0::cR (bJ (yS x2)) (lR (lY x2))=oC c1 0::cR (mM (Cv v v (aR (lA (iF v)) (kM (fG v)) (aR (wK (fG v)) (eH (oV (fG v))) (aR (pX (fG v)) (lA (fG v)) (aR (mV v) (mW v) (aR (dV v.on) tY (aR tY (eH v.limit) (aL v.args))))))))) (lR s4)) (aK (pI x2) (fW x2) c1) (aA (Ints (fW x2) s4 k1) (fS k1) (∀(g o:
 Sl)(k2:Int)(g1:List Int)(o1:List (Int×Bool)),fM (λm3 h3=>cY (fW x2) h3 (Ints h3 g g1) (aT (iJ h3 o o1) (g1.length<=k1.length) (aT (o1.length<=k1.length) (cF k2) (aT (k2<=3) (bC (pI x2) m3 c1) (jX m3 h3 c1 (∃(c2:Nat)(s5:cH),jV (λp4 k3=>∃(v1:QV),Dk (λs6 p5=>∃(k4:List Int)(q2:Query),aA (oC cb 0::bP (dU sc) (cK p (fF (lY x2) (bJ (kV x2))))=oC c2 0::bP (dU s5) (cK p4 (fF k3 (bJ v1)))) (aK m3 h3 c2) (aA (gJ h3 s6 s5) (nD s6) (aA (mG s6.tables.length) (Ints h3 p4 p5) (aA (fS p5) (Ints h3 k3 k4) (aH (fS k4) (dC h3 q2 v1) (QW q2) (FF (λw1 q3=>fM (λm4 h4=>cY h3 h4 (dC h4 q3 w1) (aT (V4 s6 p5 k4 q2 q3) (bC m3 m4 c2) (jX m4 h4 c2 (gV (λs7 m5=>mO m4 m5 h4 s7 38 21 (cQ
 w1.enc)->∃(x3:List (List Value)),As (dE m5 (cZ v.args) 38 21 x3) (λy=>lZ 21 y (oE m5 h4 (cZ s7) 21 y) (pO x3 y 280) (pP x3 y) (∀(s8:Sl)(m6:MH),aT (eB m5 m6 (cZ v.args) s8 38 21 (x3++y)) (DT m6 h4) (∃(x4:QV×QV×MH×PH),aA (I1 x4) (aJ p) (aA (eP 5) fI (aA iM (eP 13) (aA (bM sc) hU (aH (gL (kV x2) x4.1) (qW (dX v.op v.table (pQ v.where_ (lS (BG v) (tU v.on) (lS (tU g) (tU o) (oW (lT k2) (tU s8)))))) x4.2.1) (Cb m6 h4 (rA x4) (rG x4)) True)))))))))))))))))))))))))))))) ((∃(c1:Nat),vS (λs4 t c2 p4 d1=>aA (oC cb 0::cK (lY x2) (fC p 2)=oC c1 0::cK s4 (fC t (↑d1:Int))) (aK (pI x2) (fW x2) c1) (aA (Ints (fW x2) s4 c2) (Ints (fW x2) t p4) (aH (fS c2) (fS p4) (mG d1)
 (Ar (λv p5=>fM (λm3 h3=>cY (fW x2) h3 (eN h3 p5 v) (aT (uV c2 p4 d1 p5) (bC (pI x2) m3 c1) (jX m3 h3 c1 (∀(s5:Sl)(m4:MH),aT (mO m3 m4 h3 s5 38 21 (cQ (kV x2).enc)) (DT m4 h3) (∃(x3:QV×QV×MH×PH),aA (I1 x3) (aJ p) (aA (eP 5) fI (aA iM (eP 13) (aA (bM sc) hU (aH (gL (kV x2) x3.1) (qW (dX 2 0 (pQ v (lS JM JM (lS JM JM (oW (lT 0) (tU s5)))))) x3.2.1) (Cb m4 h3 (rA x3) (rG x3)) True)))))))))))))))/\gV (λs4 m3=>mO (pI x2) m3 (fW x2) s4 38 21 (cQ (kV x2).enc)->∃(c1:Nat),vS (λs5 t c2 p4 d1=>aA (oC cb 0::cK (lY x2) (fC p 2)=oC c1 0::cK s5 (fC t (↑d1:Int))) (aK m3 (fW x2) c1) (aA (Ints (fW x2) s5 c2) (Ints (fW x2) t p4) (aH (fS c2) (fS p4) (mG
 d1) (Ar (λv p5=>fM (λm4 h3=>cY (fW x2) h3 (eN h3 p5 v) (aT (uV c2 p4 d1 p5) (bC m3 m4 c1) (aT (aK m4 h3 c1) (DT m4 h3) (∃(x3:QV×QV×MH×PH),aA (I1 x3) (aJ p) (aA (eP 5) fI (aA iM (eP 13) (aA (bM sc) hU (aH (gL (kV x2) x3.1) (qW (dX 2 0 (pQ v (lS JM JM (lS JM JM (oW (lT 0) (tU s4)))))) x3.2.1) (Cb m4 h3 (rA x3) (rG x3)) True))))))))))))))))))/\∀(x1:QV×QV×MH×PH),I1 x1->Cz (bP (dU sc) (fF p (bJ x1.2.1))) (rG x1) (λs4 p4 q2=>∀(s5:Sl)(h3:PH),cY (rG x1) h3 (Ints h3 s5 (fB s4 p4 q2).1) (eE (fB s4 p4 q2).2 0 (K (bJ x1.1) (rA x1) h3) (K (bJ x1.2.1) (rA x1) h3)))))))))))))))))))))
structure qC(m0 m:MH)(s:Sl)(E:TypeId)(sz:Nat)(xs:List (List Value)):Prop where
 row:dE m s E sz xs
 fresh:∀b i,s.a=some ⟨b,i,none⟩->m0 b=none
def Kept(m0 m:MH)(cb:Nat):Prop:=∀b o,m0 b=some o->b≠cb->m b=some o
theorem Kept.of{m0:MH}(h:bC m0 m cb):Kept m0 m cb:=λb o e n=>by rw[h.other b n];exact e
theorem Kept.on{m0:MH}(k:Kept m0 m cb)(h:bC m m' cb):Kept m0 m' cb:=λb o e n=>by rw[h.other b n];exact k b o e n
theorem aK.blk(c:aK m h cb):∃cs,m cb=some (.cells cs 82 (0,0)):=by
 obtain⟨r,q,cs,k,q1,_⟩:=c;exact⟨_,q1⟩
theorem aK.keep(c:aK m h cb)(e:m' cb=m cb)(le:PH.le h h'):aK m' h' cb:=by
 obtain⟨r,q,cs,k,q1,q2,q3⟩:=c;exact⟨r,q,cs,k,by rw[e];exact q1,q2.mono le,q3⟩
theorem Kept.free{m0:MH}(k:Kept m0 m cb)(c:aK m h cb)(hb:m b=none):m0 b=none:=by
 cases e:m0 b with
 |none=>rfl
 |some o=>
  by_cases hc:b=cb
  .obtain⟨cs,e2⟩:=c.blk;rw[hc,e2]at hb;cases hb
  .rw[k b o e hc]at hb;cases hb
theorem dE.nil(m:MH)(E:TypeId)(sz:Nat):dE m cE E sz []:=⟨⟨λ_ h=>by simp at h,λ_ h=>by simp at h⟩,.inl ⟨rfl,rfl⟩⟩
theorem qC.nil(m0 m:MH)(E:TypeId)(sz:Nat):qC m0 m cE E sz []:=⟨dE.nil m E sz,λb i e=>by cases e⟩
theorem qC.on{m0:MH}{s:Sl}{E:TypeId}(r:qC m0 m s E sz xs)(o:bC m m' cb)(c:aK m h cb)(hE:E≠82):qC m0 m' s E sz xs:=by
 refine⟨dE.keep r.row (λb i e=>o.other b (λe2=>?_)),r.fresh⟩;obtain⟨cur,h1⟩:=dE.blk r.row e;obtain⟨cs,h2⟩:=c.blk;rw[e2,h2]at h1;simp only[Option.some.injEq,Obj.cells.injEq]at h1;exact hE h1.2.1.symm
theorem qC.new{m0:MH}{s t:Sl}{E E':TypeId}{sz':Nat}{ys:List (List Value)}(r:qC m0 m s E sz xs)(x:mO m m' h t E' sz' ys):qC m0 m' s E sz xs:=by
 refine⟨dE.keep r.row (λb i e=>x.other b (λj e2=>?_)),r.fresh⟩;obtain⟨cur,h1⟩:=dE.blk r.row e;rw[(x.fresh b j e2).m_]at h1;cases h1
theorem mO.frow{m0:MH}{s:Sl}{E:TypeId}(x:mO m m' h s E sz xs)(k:Kept m0 m cb)(c:aK m h cb):qC m0 m' s E sz xs:=⟨x.row,λb i e=>k.free c (x.fresh b i e).m_⟩
theorem mO.at_cb{s:Sl}{E:TypeId}(x:mO m m' h s E sz xs)(c:aK m h cb):m' cb=m cb:=x.other cb (λi e=>by
 obtain⟨cs,e2⟩:=c.blk;rw[(x.fresh cb i e).m_]at e2;cases e2)
theorem Kept.new{m0:MH}{s:Sl}{E:TypeId}(k:Kept m0 m cb)(x:mO m m' h s E sz xs):Kept m0 m' cb:=λb o e n=>by
 rw[x.other b (λi e2=>by have:=(x.fresh b i e2).m_;rw[k b o e n]at this;cases this)];exact k b o e n
theorem qC.grown{m0:MH}{s s':Sl}{E:TypeId}{zs:List (List Value)}(r:qC m0 m s E sz xs)(x:eB m m' s s' E sz zs)(k:Kept m0 m cb)(c:aK m h cb):qC m0 m' s' E sz zs:=
 ⟨x.row,λb i e=>by
  rcases x.fresh b i e with h1|⟨j,h1⟩
  .exact k.free c h1
  .exact r.fresh b j h1⟩
theorem qC.apart{m0:MH}{s t t':Sl}{E E':TypeId}{sz':Nat}{ys zs:List (List Value)}(r:qC m0 m s E sz xs)(q:qC m0 m t E' sz' ys)(x:eB m m' t t' E' sz' zs)(hE:E≠E'):qC m0 m' s E sz xs:=by
 refine⟨dE.keep r.row (λb i e=>?_),r.fresh⟩;obtain⟨cur,h1⟩:=dE.blk r.row e;rw[h1];refine x.other b _ h1 (λj e2=>?_);obtain⟨cur2,h2⟩:=dE.blk q.row e2;rw[h1]at h2;simp only[Option.some.injEq,Obj.cells.injEq]at h2;exact hE h2.2.1
theorem Kept.grown{m0:MH}{s s':Sl}{E:TypeId}{zs:List (List Value)}(k:Kept m0 m cb)(r:qC m0 m s E sz xs)(x:eB m m' s s' E sz zs):Kept m0 m' cb:=λb o e n=>x.other b o (k b o e n) (λi e2=>by rw[r.fresh b i e2]at e;cases e)
theorem eB.at_cb{m0:MH}{s s':Sl}{E:TypeId}{zs:List (List Value)}(x:eB m m' s s' E sz zs)(r:qC m0 m s E sz xs)(c:aK m h cb)(hE:E≠82):m' cb=m cb:=by
 obtain⟨cs,e⟩:=c.blk;rw[e];refine x.other cb _ e (λi e2=>?_);obtain⟨cur,h1⟩:=dE.blk r.row e2;rw[e]at h1;simp only[Option.some.injEq,Obj.cells.injEq]at h1;exact hE h1.2.1.symm
theorem NG{sz:Nat}:∀{xs:List (List Value)},(∀e∈xs,e.length=sz)->xs.flatten.length=xs.length*sz
 |[],_=>by simp
 |x::xs,h=>by
  simp only[List.flatten_cons,List.length_append,List.length_cons];rw[NG (λe he=>h e (by simp[he])),h x (by simp),Nat.add_mul];omega
theorem dE.src{s:Sl}{E:TypeId}{x:List Value}(r:dE m s E sz (x::xs)):oE m h s sz (x::xs):=by
 rcases r.ex with⟨_,e⟩|⟨b,cap,cur,rfl,hm,_,_,_,ht⟩
 .cases e
 .exact .lent b 0 cur E (0,0) rfl rfl hm (by rw[List.drop_zero,NG r.rows.len];exact ht)
def uB(m0 m:MH):MH:=λb=>match m0 b with|some _=>m b|none=>none
def A2(m0 m:MH)(h:PH):PH:=λb i=>match m0 b,m b with|none,some (.cells cs _ _)=>cs[i]? |_,_=>h b i
theorem Mz{m0 m:MH}{h:PH}(d:DT m h):PH.le h (A2 m0 m h):=⟨λb i v e=>by
 unfold A2;split
 .rename_i cs E fz h1 h2;rw[d.disj b _ h2 i]at e;cases e
 .exact e⟩
theorem Tq{m0:MH}(d:DT m h):Cb m h (uB m0 m) (A2 m0 m h):=by
 refine⟨λb o e=>?_,Mz d,λb i v e=>?_⟩
 .unfold uB at e;split at e
  .exact e
  .cases e
 .unfold A2 at e;split at e
  .rename_i cs E fz h1 h2;exact .inr ⟨cs,E,fz,h2,e,by unfold uB;rw[h1]⟩
  .exact .inl e
theorem FT{p:Prop}(h:p:=by repeat' (first|with_reducible rfl|exact trivial|exact Tq (by assumption)|refine⟨?_,?_⟩|rfl)):p:=h
theorem qC.ice{m0:MH}{s:Sl}{E:TypeId}(r:qC m0 m s E sz xs):cN (A2 m0 m h) s sz xs:=by
 rcases r.row.ex with⟨rfl,rfl⟩|⟨b,cap,cur,rfl,hm,hcp,_,_,ht⟩
 .exact cN.nil _ _
 .have h0:=r.fresh b 0 rfl;refine⟨rfl,.inr ⟨b,0,rfl,λi e hi=>⟨λj v hj=>?_⟩⟩,hcp⟩;have h1:=kT r.row.rows.len hi j v hj;rw[<-ht,List.getElem?_take]at h1;split at h1
  .unfold A2;rw[h0,hm];simp only[Nat.zero_add];rw[<-Array.getElem?_toList];exact h1
  .cases h1
theorem keep_other{m0:MH}(k:Kept m0 m cb):bC m0 (uB m0 m) cb:=⟨λb hb=>by
 unfold uB;cases e:m0 b with
 |none=>rfl
 |some o=>exact k b o e hb⟩
theorem Tn{m0:MH}(c:aK m h cb)(h0:m0 cb≠none)(d:DT m h):aK (uB m0 m) (A2 m0 m h) cb:=c.keep (by
 unfold uB;cases e:m0 cb with
 |none=>exact(h0 e).elim
 |some o=>rfl) (Mz d)
def QA(d:Nat)(q:Query):Prop:=QW q/\Kg d q
structure QM(d:Nat)(m0 m:MH)(h:PH)(v:QV)(vs:List QV):Prop where
 wher:∃w,eN h w v.where_/\Fm w
 cols:∃co:List Int,qC m0 m v.columns 3 1 (co.map eI)/\co.length<=1000
 on_:∃l,lB h v.on l
 group_:∃l,Ints h v.group l
 order_:∃l,iJ h v.order l
 args_:qC m0 m v.args 38 21 (vs.map QV.enc)
 len_:vs.length<=2
 reps:∀v∈vs,∃q,dC h q v/\QA d q
theorem NJ{d:Nat}{h:PH}:∀{vs:List QV},(∀v∈vs,∃q,dC h q v/\QA d q)->∃qs:List Query,qs.length=vs.length/\(∀q∈qs,QA d q)/\∀(i:Nat) q,qs[i]? =some q->∃v,vs[i]? =some v/\dC h q v
 |[],_=>⟨[],rfl,λq hq=>by simp at hq,λi q e=>by simp at e⟩
 |v::vs,h1=>by
  obtain⟨q,hq,hqw⟩:=h1 v (by simp);obtain⟨qs,e1,ew,e2⟩:=NJ (vs:=vs) (λu hu=>h1 u (by simp[hu]));refine⟨q::qs,by simp[e1],λx hx=>by rcases List.mem_cons.1 hx with rfl|hx;exact hqw;exact ew x hx,λi x e=>?_⟩;cases i with
  |zero=>simp at e;subst e;exact⟨v,rfl,hq⟩
  |succ i=>simpa using e2 i x (by simpa using e)
theorem QM.ice{n:Nat}{m0:MH}{vs:List QV}(x:QM n m0 m h v vs)(d:DT m h):∃q,dC (A2 m0 m h) q v/\QW q/\wV (n+1) q:=by
 obtain⟨w,hw,hww⟩:=x.wher;obtain⟨co,hc,hcl⟩:=x.cols;obtain⟨on,ho⟩:=x.on_;obtain⟨gr,hg⟩:=x.group_;obtain⟨od,hod⟩:=x.order_;obtain⟨qs,e1,ew,e2⟩:=NJ x.reps;have le:=Mz (m0:=m0) d;have hl:=x.len_;exact⟨_,oS.rep ⟨rfl,rfl,hw.mono le,⟨hc.ice,aC⟩,ho.mono le,hg.mono le,hod.mono le,rfl,⟨⟨vs,x.args_.ice,e1,λi q e=>let⟨v,k1,k2⟩:=e2 i q e;⟨v,k1,k2.mono le⟩⟩,aC⟩⟩,PL.2 ⟨hww,λa ha=>(ew a ha).1⟩,wV.node (λa ha=>(ew a ha).2) aC⟩
theorem QM.on{n:Nat}{m0:MH}{vs:List QV}(x:QM n m0 m h v vs)(o:bC m m' cb)(c:aK m h cb)(le:PH.le h h'):QM n m0 m' h' v vs:=by
 obtain⟨w,hw,hww⟩:=x.wher;obtain⟨co,hc,hcl⟩:=x.cols;obtain⟨on,ho⟩:=x.on_;obtain⟨gr,hg⟩:=x.group_;obtain⟨od,hod⟩:=x.order_;exact⟨⟨w,hw.mono le,hww⟩,⟨co,hc.on o c (by decide),hcl⟩,⟨on,ho.mono le⟩,⟨gr,hg.mono le⟩,⟨od,hod.mono le⟩,x.args_.on o c (by decide),x.len_,λv hv=>let⟨q,e,ew⟩:=x.reps v hv;⟨q,e.mono le,ew⟩⟩
theorem QM.new{d:Nat}{m0:MH}{vs:List QV}{t:Sl}{E:TypeId}{ys:List (List Value)}(x:QM d m0 m h v vs)(n:mO m m' h' t E sz ys)(le:PH.le h h'):QM d m0 m' h' v vs:=by
 obtain⟨w,hw,hww⟩:=x.wher;obtain⟨co,hc,hcl⟩:=x.cols;obtain⟨on,ho⟩:=x.on_;obtain⟨gr,hg⟩:=x.group_;obtain⟨od,hod⟩:=x.order_;exact⟨⟨w,hw.mono le,hww⟩,⟨co,hc.new n,hcl⟩,⟨on,ho.mono le⟩,⟨gr,hg.mono le⟩,⟨od,hod.mono le⟩,x.args_.new n,x.len_,λv hv=>let⟨q,e,ew⟩:=x.reps v hv;⟨q,e.mono le,ew⟩⟩
theorem QM.grow{d:Nat}{m0:MH}{v':QV}{vs:List QV}{s':Sl}{u:QV}(x:QM d m0 m h v vs)(g:eB m m' v.args s' 38 21 (vs.map QV.enc++[u.enc]))(k:Kept m0 m cb)(c:aK m h cb)(hu:∃q,dC h q u/\QA d q)(hl:vs.length<=1)
 (ew:v'.where_=v.where_)(ec:v'.columns=v.columns)(eo:∃l,lB h v'.on l)(eg:∃l,Ints h v'.group l)(ed:∃l,iJ h v'.order l)(ea:v'.args=s'):QM d m0 m' h v' (vs++[u]):=by
 obtain⟨co,hc,hcl⟩:=x.cols;refine⟨by rw[ew];exact x.wher,⟨co,by rw[ec];exact hc.apart x.args_ g (by decide),hcl⟩,eo,eg,ed,by rw[ea,List.map_append];exact x.args_.grown g k c,by simp;omega,λv hv=>?_⟩;rcases List.mem_append.1 hv with h1|h1
 .exact x.reps v h1
 .simp at h1;subst h1;exact hu
theorem RV(h:eJ s=0):A9 s:=Classical.byContradiction λhn=>by rw[sB hn]at h;cases h
theorem sA(h:eJ s=0):nD s:=λt ht=>by
 obtain⟨i,hi⟩:=List.mem_iff_getElem?.1 ht;have:=(RV h).2 i t hi;exact this.1
theorem Dv(h:eJ s=0):s.tables.length<=8:=(RV h).1
theorem Iy(s:oF)(ps:List Int)(q:Query):(fB s ps q).1.length<=12:=by
 unfold fB;split
 .split
  .split
   .exact DF s ps q
   .simp[jT]
  .simp[jT]
 .simp[jT]
theorem L8{t:Int}(he:eJ s=0)(hp:ps.all dR=true)(h0:0<=t)(h1:t<s.tables.length):(fB s ps (.mk 1 t iB [] [] [] [] 0 [])).2=0:=by
 have h8:=sA he
 have hk:(gI s t).length<=12:=by
  unfold gI;split
  .simp
  .split
   .simp
   .rename_i x hx;have:=h8 x (List.mem_of_getElem? hx);simp;omega
 have e1:bY s ps (.mk 1 t iB [] [] [] [] 0 [])=iS s ps (.mk 1 t iB [] [] [] [] 0 []) [] []:=by simp[bY,gC,arity]
 have e2:lF (.mk 1 t iB [] [] [] [] 0 [])=true:=by rfl
 unfold fB;rw[if_pos he,if_pos hp,if_pos e2,e1];unfold iS;rw[if_neg (by simp[arity,dQ])];simp only[if_true];rw[if_pos ⟨h0,h1⟩];unfold yY;rw[if_pos hk]
structure YZ(m0:MH)(h3:PH)(cb:Nat)(a q:QV)(mx:MH):Prop where
 case_:aK mx h3 cb
 kept:Kept m0 mx cb
 ex:∃o args,q=⟨o,0,hP,cE,cE,cE,cE,0,args⟩/\qC m0 mx args 38 21 ([a].map QV.enc)
theorem YZ.qm{d:Nat}{m0 mx:MH}{h3:PH}{a q:QV}(x:YZ m0 h3 cb a q mx)(hr:∃qa,dC h3 qa a/\QA d qa):QM d m0 mx h3 q [a]:=by
 obtain⟨o,args,rfl,hf⟩:=x.ex;exact⟨⟨_,Cd h3,Ah⟩,⟨[],qC.nil _ _ _ _,by simp⟩,⟨_,p9 _⟩,⟨_,kQ _⟩,⟨_,vZ _⟩,hf,by simp,λv hv=>by simp at hv;subst hv;exact hr⟩
theorem Sp:∀N,Sound Tryz.prog 13 (RF N)
 |0=>by
  refine eD (fn:=Tryz.f13) (c:=dM Tryz.f13) Tryz.func13 rfl (by decide) ?_;rintro cvs m h K ⟨cb,sc,p,s,ps,deep,rfl,_,_,_,_,_,_,_,_,_,hN,_⟩;omega
 |N+1=>by
  refine gZ Tryz.func13 ?_;rintro cvs m h K ⟨cb,sc,p,s,ps,deep,rfl,hc,hs,he,hne,hp,hpl,hpk,d0,d1,hN,hK⟩;refine⟨XA N cb sc p,rfl,aD FV (aD KL (aD KO (aD TQ (aD KN (aD TP (aD CU (aD (Sp N) aF))))))),O4 N cb sc p deep m h K,by kernel_rfl,?_⟩;have htl:=hs.tables.slen;have h8:=sA he;have ht8:=Dv he;have htp:0<s.tables.length:=List.length_pos_iff.2 hne;have hif:(if(sc.tables.len:Int)>1 then(sc.tables.len:Int)else 1)=(sc.tables.len:Int):=by split<;>omega
  have hm0:m cb≠none:=by obtain⟨cs,e⟩:=hc.blk;rw[e];simp
  dsimp only[O4,push_cast];rw[hif];refine⟨cb,12,rfl,hc,λk m1 k0 k1 o1 c1=>?_⟩;refine aE (λhd=>?_) (λhd=>aB (λ_=>?_) (λ_=>aB (λ_=>?_) (λ_=>?_)))
  .exact⟨cb,_,rfl,c1,λk2 m2 k20 k21 o2 c2=>⟨k2,rfl,hK _ _ m2 h (.refl _) (zE h k2) (Ea k2) (wV.mono (d:=0) mY.scan (Nat.zero_le _)) (L8 he hpk k20 aC) (o1.trans o2) c2⟩⟩
  .exact⟨cb,_,rfl,c1,λk2 m2 k20 k21 o2 c2=>⟨k2,rfl,hK _ _ m2 h (.refl _) (zE h k2) (Ea k2) (wV.mono (d:=0) mY.scan (Nat.zero_le _)) (L8 he hpk k20 aC) (o1.trans o2) c2⟩⟩
  .exact⟨cb,_,rfl,c1,λk2 m2 k20 k21 o2 c2=>⟨k2,rfl,hK _ _ m2 h (.refl _) (zE h k2) (Ea k2) (wV.mono (d:=0) mY.scan (Nat.zero_le _)) (L8 he hpk k20 aC) (o1.trans o2) c2⟩⟩
  have hw1:IntKind.i64.wrap (deep-1)=deep-1:=eG aC aC;have hw2:IntKind.i64.wrap (deep-2)=deep-2:=eG aC aC;rw[hw1];refine⟨cb,sc,p,s,ps,deep-1,rfl,c1,hs,he,hne,hp,hpl,hpk,aC,aC,aC,λa qa m2 h2 le2 ra qaw0 qaf qa0 o2 c2=>⟨sc,p,a,s,ps,qa,rfl,hs.mono le2,hp.mono le2,ra,λkk h3 le3 ik=>?_⟩⟩;have hkl:=Iy s ps qa;obtain⟨dd,hdd⟩:∃dd,(deep-1).toNat=dd:=⟨_,rfl⟩
  have hde:deep.toNat=dd+1:=by omega
  rw[hdd]at qaf;have qaw:QA dd qa:=⟨qaw0,qaf.arg⟩
  generalize hks:(fB s ps qa).fst=ks at ik hkl;clear hks;have hle3:PH.le h h3:=le2.trans le3;have ra3:dC h3 qa a:=ra.mono le3;refine⟨λ⟨d,op,a',q,k',mx,hx⟩=>d=deep/\a'=a/\k'=kk/\hx=h3/\YZ m h3 cb a q mx,λs1 m3 hnew=>⟨(deep,IntKind.i64.wrap (1+k),a,⟨IntKind.i64.wrap (1+k),0,hP,cE,cE,cE,cE,0,s1⟩,kk,m3,h3),⟨rfl,rfl,rfl,rfl,?_⟩,MT⟩,?_⟩
  .have k2:=(Kept.of o1).on o2;have c3:=c2.mono le3;exact⟨c3.keep (mO.at_cb hnew c3) (.refl _),k2.new hnew,_,_,rfl,mO.frow hnew k2 c3⟩
  rintro⟨deep,op,a',q,k',mx,hx⟩ ⟨rfl,rfl,rfl,rfl,mid⟩;dsimp only;have reach:∀(q:QV)(vs:List QV)(my:MH)(hy:PH),PH.le hx hy->Kept m my cb->aK my hy cb->QM dd m my hy q vs->DT my hy->PH.le hx (A2 m my hy)/\bC m (uB m my) cb/\aK (uB m my) (A2 m my hy) cb/\∃qq,dC (A2 m my hy) qq q/\QW qq/\wV (dd+1) qq:=λq vs my hy l k c x d=>⟨l.trans (Mz d),keep_other k,Tn c hm0 d,x.ice d⟩
  have join:∀(q:QV)(u:QV)(s1:Sl)(my:MH)(hy:PH)(Q:Sl->MH->Prop),PH.le hx hy->Kept m my cb->aK my hy cb->QM dd m my hy q [a']->qC m my s1 38 21 [u.enc]->(∃qu,dC hy qu u/\QA dd qu)->
   (∀s' m',(∀q':QV,q'.where_=q.where_->q'.columns=q.columns->(∃l,lB hy q'.on l)->(∃l,Ints hy q'.group l)->(∃l,iJ hy q'.order l)->q'.args=s'->QM dd m m' hy q' [a',u])->Kept m m' cb->aK m' hy cb->Q s' m')->
   ∃xs,dE my ⟨q.args.a,q.args.len,q.args.cap⟩ 38 21 xs/\∃ys,iN 21 ys/\oE my hy ⟨s1.a,s1.len,s1.cap⟩ 21 ys/\(xs.length+ys.length)*280<=140737488355328/\xs.length+ys.length<=140737488355328/\∀(s':Sl)(m':MH),eB my m' ⟨q.args.a,q.args.len,q.args.cap⟩ s' 38 21 (xs++ys)->Q s' m':=
   λq u s1 my hy Q l k c x f hu hQ=>⟨_,x.args_.row,[u.enc],UK [u],dE.src f.row,by simp,by simp,λs' m' g=>hQ s' m' (λq' e1 e2 e3 e4 e5 e6=>x.grow g k c hu (by simp) e1 e2 e3 e4 e5 e6) (k.grown x.args_ g) (c.keep (eB.at_cb g x.args_ c (by decide)) (.refl _))⟩
  refine⟨λ⟨a2,q,my,hy⟩=>a2=a'/\PH.le hx hy/\bC m my cb/\aK my hy cb/\∃qq,dC hy qq q/\QW qq/\wV (dd+1) qq,aB (λ_=>?_) (λ_=>?_),?_⟩
  ·
   refine⟨cb,3,rfl,mid.case_,λn m3 n0 n1 o3 c3=>?_⟩;refine⟨λ⟨a2,q,k2,n,my,hy⟩=>a2=a'/\k2=k'/\hy=hx/\ -1<=n/\n<=2/\aK my hx cb/\Kept m my cb/\QM dd m my hx q [a']/\∃co:List Int,qC m my q.columns 3 1 (co.map eI)/\(co.length:Int)<=2-n,λ⟨_,_,_,n,_,_⟩=>(n+1).toNat,⟨(a',q,k',n,m3,hx),⟨rfl,rfl,rfl,by show-1<=n;omega,by show n<=2;omega,c3,mid.kept.on o3,(mid.qm ⟨qa,ra3,qaw⟩).on o3 mid.case_ (.refl _),[],?_,by simp;omega⟩,MT⟩,?_⟩
   .obtain⟨o,args,rfl,hf⟩:=mid.ex;exact qC.nil _ _ _ _
   clear mid q c3 o3 m3 n0 n1 n;rintro⟨a2,q,k2,n,my,hy⟩ ⟨rfl,rfl,rfl,n0,n1,cy,ky,qm,co,fco,hcol⟩;dsimp only;refine aE (λhn=>⟨cb,_,rfl,cy,λc m4 _ _ o4 c4=>⟨_,(fco.on o4 cy (by decide)).row,by simp;omega,by simp;omega,λs' m5 g=>?_⟩⟩) (λhn d=>⟨(a2,q,uB m my,A2 m my hy),⟨rfl,reach q _ my hy (.refl _) ky cy qm d⟩,FT⟩);have f4:=fco.on o4 cy (by decide);have q4:=qm.on o4 cy (.refl _);have k4:=ky.on o4;have f5:qC m m5 s' 3 1 ((co++[c]).map eI):=by rw[List.map_append];exact f4.grown g k4 c4
   have hw3:IntKind.i64.wrap (n-1)=n-1:=eG aC aC;rw[hw3];refine⟨(a2,{q with columns:=s'},k2,n-1,m5,hy),⟨rfl,rfl,rfl,by show-1<=n-1;omega,by show n-1<=2;omega,c4.keep (eB.at_cb g f4 c4 (by decide)) (.refl _),k4.grown f4 g,⟨q4.wher,⟨_,f5,by simp;omega⟩,q4.on_,q4.group_,q4.order_,q4.args_.apart f4 g (by decide),q4.len_,q4.reps⟩,_,f5,by simp;omega⟩,by show(n-1+1).toNat<(n+1).toNat;omega,MT⟩
  .refine⟨λ⟨d,op,a2,q,k2,t,my,hy⟩=>d=deep/\a2=a'/\k2=k'/\hy=hx/\YZ m hx cb a' q my,aB (λ_=>⟨(deep,op,a',q,k',true,mx,hx),⟨rfl,rfl,rfl,rfl,mid⟩,MT⟩) (λ_=>⟨(deep,op,a',q,k',op==5,mx,hx),⟨rfl,rfl,rfl,rfl,mid⟩,MT⟩),?_⟩;clear mid q mx;rintro⟨deep,op,a',q,k',t,mx,hx⟩ ⟨rfl,rfl,rfl,rfl,mid⟩;dsimp only;refine aB (λ_=>?_) (λ_=>?_)
   ·
    rw[hw2];refine⟨cb,sc,p,s,ps,deep-2,rfl,mid.case_,hs.mono hle3,he,hne,hp.mono hle3,hpl,hpk,by show-1<=deep-2;omega,aC,aC,λb qb m5 h5 le5 rb qbw0 qbf _ o5 c5=>⟨sc,p,b,s,ps,qb,rfl,hs.mono (hle3.trans le5),hp.mono (hle3.trans le5),rb,λl h6 le6 il=>?_⟩⟩;have qbw:QA dd qb:=⟨qbw0,(qbf.mono aC).arg⟩
    have hll:=Iy s ps qb;generalize hls:(fB s ps qb).fst=ls at il hll;have q6:QM dd m m5 h6 q [a']:=(mid.qm ⟨qa,ra3,qaw⟩).on o5 mid.case_ (le5.trans le6);have k6:=mid.kept.on o5;have c6:=c5.mono le6;refine⟨λ⟨a2,b2,q,k2,l2,my,hy⟩=>a2=a'/\b2=b/\k2=k'/\l2=l/\hy=h6/\aK my h6 cb/\Kept m my cb/\QM dd m my h6 q [a'],aB (λ_=>aE (λ_=>⟨(a',b,{q with op:=5},k',l,m5,h6),⟨rfl,rfl,rfl,rfl,rfl,c6,k6,⟨q6.wher,q6.cols,q6.on_,q6.group_,q6.order_,q6.args_,q6.len_,q6.reps⟩⟩,MT⟩) (λ_=>⟨(a',b,q,k',l,m5,h6),⟨rfl,rfl,rfl,rfl,rfl,c6,k6,q6⟩,MT⟩)) (λ_=>⟨(a',b,q,k',l,m5,h6),⟨rfl,rfl,rfl,rfl,rfl,c6,k6,q6⟩,MT⟩),?_⟩;have rb6:=rb.mono le6;have hx6:PH.le hx h6:=le5.trans le6;clear q6 k6 c6 o5 c5 rb le5 mid q;rintro⟨a2,b,q,k2,l,my,h6⟩ ⟨rfl,rfl,rfl,rfl,rfl,c6,k6,q6⟩;dsimp only;refine⟨⟨cb,k2,l,ks,ls,rfl,c6,ik.mono hx6,il,aC,aC,λo on m7 h7 le7 hon _ o7 c7 s1 m8 hnew=>?_⟩,λs1 m7 hnew=>⟨cb,k2,l,ks,ls,rfl,c6.keep (mO.at_cb hnew c6) (.refl _),ik.mono hx6,il,aC,aC,λo on m8 h7 le7 hon _ o8 c8=>?_⟩⟩
    .have k7:=k6.on o7;refine join q b s1 m8 h7 _ (hx6.trans le7) (k7.new hnew) (c7.keep (mO.at_cb hnew c7) (.refl _)) ((q6.on o7 c6 le7).new hnew (.refl _)) (mO.frow hnew k7 c7) ⟨qb,rb6.mono le7,qbw⟩ (λs' m9 hq k9 c9 d=>?_);exact⟨(a2,{q with on:=o,args:=s'},uB m m9,A2 m m9 h7),⟨rfl,reach _ _ m9 h7 (hx6.trans le7) k9 c9 (hq {q with on:=o,args:=s'} rfl rfl ⟨on,hon⟩ (let⟨l,e⟩:=q6.group_;⟨l,e.mono le7⟩) (let⟨l,e⟩:=q6.order_;⟨l,e.mono le7⟩) rfl) d⟩,FT⟩
    .have k7:=k6.new hnew;have c7:aK m7 h6 cb:=c6.keep (mO.at_cb hnew c6) (.refl _);have k8:=k7.on o8;refine join q b s1 m8 h7 _ (hx6.trans le7) k8 c8 ((q6.new hnew (.refl _)).on o8 c7 le7) ((mO.frow hnew k6 c6).on o8 c7 (by decide)) ⟨qb,rb6.mono le7,qbw⟩ (λs' m9 hq k9 c9 d=>?_);exact⟨(a2,{q with on:=o,args:=s'},uB m m9,A2 m m9 h7),⟨rfl,reach _ _ m9 h7 (hx6.trans le7) k9 c9 (hq {q with on:=o,args:=s'} rfl rfl ⟨on,hon⟩ (let⟨l,e⟩:=q6.group_;⟨l,e.mono le7⟩) (let⟨l,e⟩:=q6.order_;⟨l,e.mono le7⟩) rfl) d⟩,FT⟩
   .refine⟨λ⟨op,a2,q,k2,t,my,hy⟩=>a2=a'/\k2=k'/\hy=hx/\YZ m hx cb a' q my,aB (λ_=>⟨(op,a',q,k',true,mx,hx),⟨rfl,rfl,rfl,mid⟩,MT⟩) (λ_=>aB (λ_=>⟨(op,a',q,k',true,mx,hx),⟨rfl,rfl,rfl,mid⟩,MT⟩) (λ_=>⟨(op,a',q,k',op==8,mx,hx),⟨rfl,rfl,rfl,mid⟩,MT⟩)),?_⟩;clear mid q mx;rintro⟨op,a',q,k',t,mx,hx⟩ ⟨rfl,rfl,rfl,mid⟩;dsimp only;have q3:=mid.qm ⟨qa,ra3,qaw⟩;refine aB (λ_=>?_) (λ_=>aB (λ_=>?_) (λ_=>aB (λ_=>?_) (λ_=>?_)))
    ·
     refine⟨cb,sc,p,k',a',s,ps,ks,qa,rfl,mid.case_,hs.mono hle3,h8,aC,hp.mono hle3,hpl,ik,aC,ra3,qaw.1,λw qw m5 h5 le5 rw5 qww o5 c5 s1 m6 hnew=>?_⟩;have k5:=mid.kept.on o5;refine join q w s1 m6 h5 _ le5 (k5.new hnew) (c5.keep (mO.at_cb hnew c5) (.refl _)) ((q3.on o5 mid.case_ le5).new hnew (.refl _)) (mO.frow hnew k5 c5) ⟨qw,rw5,qww.qw,qww.siz dd qaf⟩ (λs' m9 hq k9 c9 d=>?_);have q5:=q3.on o5 mid.case_ le5;exact⟨(a',{q with args:=s'},uB m m9,A2 m m9 h5),⟨rfl,reach _ _ m9 h5 le5 k9 c9 (hq {q with args:=s'} rfl rfl q5.on_ q5.group_ q5.order_ rfl) d⟩,FT⟩
    ·
     obtain⟨o,args,rfl,hf⟩:=mid.ex;refine⟨cb,⟨o,0,hP,cE,cE,cE,cE,0,args⟩,k',ks,rfl,mid.case_,ik,aC,λg od kk gr odl m5 h5 le5 hg hod _ _ _ _ o5 c5 d=>?_⟩;have q5:=q3.on o5 mid.case_ le5;exact⟨(a',⟨o,0,hP,cE,cE,g,od,kk,args⟩,uB m m5,A2 m m5 h5),⟨rfl,reach _ [a'] m5 h5 le5 (mid.kept.on o5) c5 ⟨q5.wher,q5.cols,q5.on_,⟨gr,hg⟩,⟨odl,hod⟩,q5.args_,q5.len_,q5.reps⟩ d⟩,FT⟩
    ·
     obtain⟨o,args,rfl,hf⟩:=mid.ex;refine⟨cb,⟨o,0,hP,cE,cE,cE,cE,0,args⟩,k',ks,rfl,mid.case_,ik,aC,λg od kk gr odl m5 h5 le5 hg hod _ _ _ _ o5 c5=>?_⟩;have q5:=q3.on o5 mid.case_ le5;have q5':QM dd m m5 h5 ⟨o,0,hP,cE,cE,g,od,kk,args⟩ [a']:=⟨q5.wher,q5.cols,q5.on_,⟨gr,hg⟩,⟨odl,hod⟩,q5.args_,q5.len_,q5.reps⟩
     refine⟨cb,sc,p,k',a',s,ps,ks,qa,rfl,c5,hs.mono (hle3.trans le5),h8,aC,hp.mono (hle3.trans le5),hpl,ik.mono le5,aC,ra3.mono le5,qaw.1,λw qw m6 h6 le6 rw6 qww o6 c6 s1 m7 hnew=>?_⟩;have k6:=(mid.kept.on o5).on o6;refine join ⟨o,0,hP,cE,cE,g,od,kk,args⟩ w s1 m7 h6 _ (le5.trans le6) (k6.new hnew) (c6.keep (mO.at_cb hnew c6) (.refl _)) ((q5'.on o6 c5 le6).new hnew (.refl _)) (mO.frow hnew k6 c6) ⟨qw,rw6,qww.qw,qww.siz dd qaf⟩ (λs' m9 hq k9 c9 d=>?_);exact⟨(a',⟨o,0,hP,cE,cE,g,od,kk,s'⟩,uB m m9,A2 m m9 h6),⟨rfl,reach _ _ m9 h6 (le5.trans le6) k9 c9 (hq ⟨o,0,hP,cE,cE,g,od,kk,s'⟩ rfl rfl ⟨_,p9 _⟩ ⟨gr,hg.mono le6⟩ ⟨odl,hod.mono le6⟩ rfl) d⟩,FT⟩
    ·
     refine⟨⟨cb,k',p,ks,ps,2,rfl,mid.case_,ik,hp.mono hle3,aC,hpl,aC,λpv pp m5 h5 le5 rp rpw o5 c5 s1 m6 hnew d=>?_⟩,λs1 m5 hnew=>⟨cb,k',p,ks,ps,2,rfl,mid.case_.keep (mO.at_cb hnew mid.case_) (.refl _),ik,hp.mono hle3,aC,hpl,aC,λpv pp m6 h5 le5 rp rpw o6 c6 d=>?_⟩⟩
     .have k5:=mid.kept.on o5;exact⟨(a',⟨2,0,pv,cE,cE,cE,cE,0,s1⟩,uB m m6,A2 m m6 h5),⟨rfl,reach _ [a'] m6 h5 le5 (k5.new hnew) (c5.keep (mO.at_cb hnew c5) (.refl _)) ⟨⟨pp,rp,rpw.vals⟩,⟨[],qC.nil _ _ _ _,by simp⟩,⟨_,p9 _⟩,⟨_,kQ _⟩,⟨_,vZ _⟩,mO.frow hnew k5 c5,by simp,λv hv=>by simp at hv;subst hv;exact⟨qa,ra3.mono le5,qaw⟩⟩ d⟩,FT⟩
     .have k5:=mid.kept.new hnew;have c5:aK m5 hx cb:=mid.case_.keep (mO.at_cb hnew mid.case_) (.refl _);exact⟨(a',⟨2,0,pv,cE,cE,cE,cE,0,s1⟩,uB m m6,A2 m m6 h5),⟨rfl,reach _ [a'] m6 h5 le5 (k5.on o6) c6 ⟨⟨pp,rp,rpw.vals⟩,⟨[],qC.nil _ _ _ _,by simp⟩,⟨_,p9 _⟩,⟨_,kQ _⟩,⟨_,vZ _⟩,(mO.frow hnew mid.kept mid.case_).on o6 c5 (by decide),by simp,λv hv=>by simp at hv;subst hv;exact⟨qa,ra3.mono le5,qaw⟩⟩ d⟩,FT⟩
  .rintro⟨a2,q,my,hy⟩ ⟨rfl,ley,oy,cy,qq,rq,rqw,rqf⟩;dsimp only;refine⟨sc,p,q,s,ps,qq,rfl,hs.mono (hle3.trans ley),hp.mono (hle3.trans ley),rq,λsl h5 le5 _=>aB (λe=>?_) (λe=>?_)⟩
   .exact hK a2 qa my h5 ((hle3.trans ley).trans le5) ((ra3.mono ley).mono le5) qaw.1 (by rw[hde];exact qaf.mono aC) qa0 oy (cy.mono le5)
   .exact hK q qq my h5 ((hle3.trans ley).trans le5) (rq.mono le5) rqw (by rw[hde];exact rqf) (by simpa using e) oy (cy.mono le5)
mutual
def Ir(st:List (List (List VV))):Query->List (List VV)
 |.mk op ta w co on gr od li args=>if op=1 then st.getD ta.toNat []else Yq op (.mk op ta w co on gr od li args) (NB st args)
def NB(st:List (List (List VV))):List Query->List (List (List VV))
 |[]=>[]
 |q::qs=>Ir st q::NB st qs
end
structure B9(st ls:List (List (List VV)))(k:Nat)(ts:List Int):Prop where
 at_:∀(j:Nat)(t:Int),ts[j]? =some t->ls.getD (k+j) []=st.getD t.toNat []
theorem B9.left{st ls:List (List (List VV))}{b:List Int}(x:B9 st ls k (a++b)):B9 st ls k a:=
 ⟨λj t h=>x.at_ j t (by rw[List.getElem?_append_left (List.getElem?_eq_some_iff.1 h).1];exact h)⟩
theorem B9.right{st ls:List (List (List VV))}{b:List Int}(x:B9 st ls k (a++b)):B9 st ls (k+a.length) b:=
 ⟨λj t h=>by
  have:=x.at_ (a.length+j) t (by rw[List.getElem?_append_right aC,Nat.add_sub_cancel_left];exact h)
  rwa [show k+a.length+j=k+(a.length+j)by omega]⟩
theorem Tf{args:List Query}{kss:List (List Int)}(h1:gC s ps args=(kss,0))(h2:(kss.length:Int)=arity 1):args=[]:=by
 cases args with
 |nil=>rfl
 |cons q qs=>obtain⟨_,_,_,_,rfl⟩:=kP h1;simp[arity]at h2;omega
mutual
theorem Lx{s:oF}{ps:List Int}{st ls:List (List (List VV))}:∀{q:Query}{ks:List Int}{k:Nat},bY s ps q=(ks,0)->B9 st ls k (eK q)->iH ls q k=(Ir st q,k+(eK q).length)
 |.mk op ta w co on gr od li args,ks,k,h,hl=>by
  obtain⟨kss,h1,h2,h3⟩:=AY h;by_cases e:op=1
  .subst e;have h0:=Tf h1 h2;subst h0;have hs:eK (.mk 1 ta w co on gr od li [])=[ta]:=by simp[eK,cT]
   rw[hs]at hl⊢
   have:=hl.at_ 0 ta rfl;rw[Nat.add_zero]at this;rw[iH,Ir,if_pos rfl,if_pos rfl,this];rfl
  .have hs:eK (.mk op ta w co on gr od li args)=cT args:=by simp[eK,e]
   rw[hs]at hl⊢
   rw[iH,Ir,if_neg e,if_neg e,JC h1 hl]
theorem JC{s:oF}{ps:List Int}{st ls:List (List (List VV))}:∀{qs:List Query}{kss:List (List Int)}{k:Nat},gC s ps qs=(kss,0)->B9 st ls k (cT qs)->eV ls qs k=(NB st qs,k+(cT qs).length)
 |[],kss,k,h,_=>by simp[eV,NB,cT]
 |q::qs,kss,k,h,hl=>by
  obtain⟨k1,kss',h1,h2,rfl⟩:=kP h;rw[cT]at hl;rw[eV,NB,cT,Lx h1 hl.left,JC h2 hl.right,List.length_append,Nat.add_assoc]
end
mutual
theorem Bw{s:oF}{ps:List Int}:∀{q:Query}{ks:List Int},bY s ps q=(ks,0)->∀t∈eK q,0<=t/\t<s.tables.length
 |.mk op ta w co on gr od li args,ks,h,t,ht=>by
  obtain⟨kss,h1,h2,h3⟩:=AY h;rw[eK]at ht;rcases List.mem_append.1 ht with h5|h5
  .split at h5
   .rename_i e;subst e;simp only[List.mem_singleton]at h5;subst h5;unfold iS at h3;dsimp only at h3;split at h3
    .simp[jT]at h3
    try rw[if_pos rfl]at h3
    split at h3
    .rename_i h4;exact h4
    .simp[jT]at h3
   .simp at h5
  .exact Kl h1 t h5
theorem Kl{s:oF}{ps:List Int}:∀{qs:List Query}{kss:List (List Int)},gC s ps qs=(kss,0)->∀t∈cT qs,0<=t/\t<s.tables.length
 |[],kss,h,t,ht=>by rw[cT]at ht;simp at ht
 |q::qs,kss,h,t,ht=>by
  obtain⟨k1,kss',h1,h2,rfl⟩:=kP h;rw[cT]at ht;rcases List.mem_append.1 ht with ht|ht
  .exact Bw h1 t ht
  .exact Kl h2 t ht
end
def uP(key:Int)(k:Int)(i:Nat)(v:VV):Bool:=gK v&&(v.kind==k||((v.kind==2||v.kind==1)&&decide (key<=(i:Int))))
def A3(t:tV)(r:List VV):Bool:=decide (r.length=t.columns.length)&&(List.range r.length).all λi=>uP t.key (t.columns.getD i ⟨⟨#[]⟩,0⟩).kind i (r.getD i zeroV)
def jJ(t:tV)(r:List VV):List VV:=r.take (max 0 (min t.key r.length)).toNat
def RS(t:tV)(l:List (List VV)):Prop:=(∀r∈l,A3 t r=true)/\∀(i:Nat) r r',l[i]? =some r->l[i+1]? =some r'->dY (jJ t r) (jJ t r')<0
def Il(s:oF)(st:List (List (List VV))):Prop:=∀(i:Nat) t l,s.tables[i]? =some t->st[i]? =some l->RS t l
open Classical in
noncomputable def p7(s:oF)(st:List (List (List VV))):Int:=
 if eJ s≠0 then eJ s else if 512<(st.map λl=>(l.length:Int)).sum then 2 else if st.length≠s.tables.length then 80 else if Il s st then 0 else 80
def YT(st:List (List (List VV))):Prop:=∀l∈st,∀r∈l,∀v∈r,M7 v.kind/\M7 v.int
def wG(t:tV)(key row:List VV):Bool->List (List VV)->List (List VV)
 |d,[]=>if d then[]else[row]
 |d,r::l=>(if 0<=dY (jJ t r) key/\d=false then[row]else[])++((if dY (jJ t r) key≠0 then[r]else[])++wG t key row (d||decide (0<=dY (jJ t r) key)) l)
def Kf(t:tV)(l:List (List VV)):Prop:=l.Pairwise λx y=>dY (jJ t x) (jJ t y)<0
theorem ML{x y z:List VV}(h1:dY x y<0)(h2:dY y z<0):dY x z<0:=by
 have:=wR x y z aC aC;rcases Int.lt_or_eq_of_le this with h|h
 .exact h
 .rw[kJ]at h;subst h;have:=kK x y;omega
theorem Iz{t:tV}{key row:List VV}:∀{l:List (List VV)},(∀r∈l,0<dY (jJ t r) key)->wG t key row true l=l
 |[],_=>rfl
 |r::l,h=>by
  have h1:=h r (List.mem_cons_self ..);rw[wG,if_neg (by simp),if_pos aC,Bool.true_or,Iz λx hx=>h x (List.mem_cons_of_mem _ hx)];rfl
theorem Hs{t:tV}{key row z:List VV}:∀{l:List (List VV)}{d:Bool},z∈wG t key row d l->z=row\/z∈l
 |[],d,h=>by
  rw[wG]at h;split at h
  .simp at h
  .simp at h;exact .inl h
 |r::l,d,h=>by
  rw[wG]at h;rcases List.mem_append.1 h with h|h
  .split at h
   .simp at h;exact .inl h
   .simp at h
  .rcases List.mem_append.1 h with h|h
   .split at h
    .simp at h;exact .inr (by simp[h])
    .simp at h
   .exact(Hs h).imp id λh=>List.mem_cons_of_mem _ h
theorem Ht{t:tV}{key row:List VV}:∀{l:List (List VV)}{d:Bool},(wG t key row d l).length<=l.length+(if d then 0 else 1)
 |[],d=>by rw[wG];cases d<;>simp
 |r::l,d=>by
  have:=Ht (t:=t) (key:=key) (row:=row) (l:=l) (d:=d||decide (0<=dY (jJ t r) key));rw[wG];simp only[List.length_append,List.length_cons];by_cases h:0<=dY (jJ t r) key
  .cases d<;>by_cases h2:dY (jJ t r) key=0<;>simp[h,h2]at this⊢ <;>omega
  .cases d<;>by_cases h2:dY (jJ t r) key=0<;>simp[h,h2]at this⊢ <;>omega
theorem IA{t:tV}{row:List VV}:∀{l:List (List VV)},Kf t l->Kf t (wG t (jJ t row) row false l)
 |[],_=>by rw[wG];exact List.pairwise_singleton _ _
 |r::l,h=>by
  obtain⟨h1,h2⟩:=List.pairwise_cons.1 h;rw[wG];by_cases h3:0<=dY (jJ t r) (jJ t row)
  .rw[if_pos ⟨h3,rfl⟩,show(false||decide (0<=dY (jJ t r) (jJ t row)))=true by simp[h3]];by_cases h4:dY (jJ t r) (jJ t row)=0
   .rw[if_neg (by simp[h4])];have e:=kJ.1 h4
    rw[Iz λx hx=>by
     have h5:=h1 x hx;rw[e]at h5;have:=kK (jJ t x) (jJ t row);omega]
    exact List.pairwise_cons.2 ⟨λx hx=>by rw[<-e];exact h1 x hx,h2⟩
   .rw[if_pos h4];have h5:dY (jJ t row) (jJ t r)<0:=by have:=kK (jJ t row) (jJ t r);omega
    rw[Iz λx hx=>by
     have h6:=ML h5 (h1 x hx);have:=kK (jJ t x) (jJ t row);omega]
    refine List.pairwise_cons.2 ⟨λx hx=>?_,h⟩;rcases List.mem_cons.1 hx with rfl|hx
    .exact h5
    .exact ML h5 (h1 x hx)
  .rw[if_neg (by simp[h3]),if_pos aC,show(false||decide (0<=dY (jJ t r) (jJ t row)))=false by simp[h3]];refine List.pairwise_cons.2 ⟨λx hx=>?_,IA h2⟩;rcases Hs hx with rfl|hx
   .omega
   .exact h1 x hx
theorem Nw{st:List (List (List VV))}(h:p7 s st=0):eJ s=0/\st.length=s.tables.length/\Il s st/\(st.map λl=>(l.length:Int)).sum<=512:=by
 unfold p7 at h;split at h
 .rename_i h1;exact absurd h h1
 .rename_i h1;split at h
  .simp at h
  .rename_i h2;split at h
   .simp at h
   .rename_i h3;split at h
    .rename_i h4;exact⟨Classical.not_not.1 h1,Classical.not_not.1 h3,h4,aC⟩
    .simp at h
theorem UX{t:tV}{x y:List VV}(h:x.length=y.length):(jJ t x).length=(jJ t y).length:=by simp[jJ,h]
theorem VR{t:tV}{x y:List VV}(h:x.length=y.length)(hk:dY (jJ t x) (jJ t y)<0):dY x y<0:=by
 have h1:x=jJ t x++x.drop (max 0 (min t.key x.length)).toNat:=(List.take_append_drop _ _).symm;have h2:y=jJ t y++y.drop (max 0 (min t.key y.length)).toNat:=(List.take_append_drop _ _).symm;rw[h1,h2,Fj (UX h),if_pos aC];exact hk
theorem Kf.of{t:tV}:∀{l:List (List VV)},(∀(i:Nat) r r',l[i]? =some r->l[i+1]? =some r'->dY (jJ t r) (jJ t r')<0)->Kf t l
 |[],_=>List.Pairwise.nil
 |[_],_=>List.pairwise_singleton _ _
 |a::b::l,h=>by
  have h1:Kf t (b::l):=Kf.of λi r r' e1 e2=>h (i+1) r r' e1 e2;refine List.pairwise_cons.2 ⟨λx hx=>?_,h1⟩;have h0:=h 0 a b rfl rfl;rcases List.mem_cons.1 hx with rfl|hx
  .exact h0
  .exact ML h0 ((List.pairwise_cons.1 h1).1 x hx)
theorem Kf.adj{t:tV}{l:List (List VV)}(h:Kf t l)(i:Nat)(r r':List VV)(e1:l[i]? =some r)(e2:l[i+1]? =some r'):dY (jJ t r) (jJ t r')<0:=by
 obtain⟨h1,rfl⟩:=List.getElem?_eq_some_iff.1 e1;obtain⟨h2,rfl⟩:=List.getElem?_eq_some_iff.1 e2;exact List.pairwise_iff_getElem.1 h i (i+1) h1 h2 aC
theorem UC{t:ByteArray}(h:t.toList=(⟨#[]⟩:ByteArray).toList):t.size<=64:=by rw[wB h];decide
theorem Dz{t:ByteArray}(h:BC t=true):t.size<=64:=UC (by simp only[BC,beq_iff_eq]at h;rw[h,ByteArray.toList_eq])
theorem Nn{v:VV}(h:gK v=true):v.text.size<=64:=by
 unfold gK at h;split at h
 .simp only[Bool.and_eq_true]at h;exact Dz h.2
 .split at h
  .simp only[Bool.and_eq_true]at h;exact Dz h.2
  .split at h
   .exact Dz h
   .split at h
    .simp at h;omega
    .cases h
theorem w8(h:(fB s ps q).2=0):eJ s=0/\ps.all dR=true/\lF q=true/\(bY s ps q).2=0:=by
 unfold fB at h;split at h
 .rename_i h1;split at h
  .rename_i h2;split at h
   .rename_i h3;exact⟨h1,h2,h3,h⟩
   .simp[jT]at h
  .simp[jT]at h
 .rename_i h1;simp[jT]at h;exact(h1 h).elim
theorem GJ{v:VV}(h:gK v=true):1<=v.kind/\v.kind<=5/\v.text.size<=64:=by
 refine⟨?_,?_,Nn h⟩
 all_goals
  unfold gK at h;split at h
  .rename_i e;simp at e;omega
  .split at h
   .rename_i e;simp at e;omega
   .split at h
    .rename_i e;simp at e;omega
    .split at h
     .rename_i e;simp at e;omega
     .cases h
theorem MB{t:tV}{r:List VV}(h:A3 t r=true):r.length=t.columns.length/\∀v∈r,gK v=true:=by
 simp only[A3,Bool.and_eq_true,decide_eq_true_eq,List.all_eq_true,List.mem_range]at h;refine⟨h.1,λv hv=>?_⟩;obtain⟨i,hi,rfl⟩:=List.mem_iff_getElem.1 hv;have h2:=h.2 i hi;simp only[uP,Bool.and_eq_true,List.getD_eq_getElem?_getD,List.getElem?_eq_getElem hi,Option.getD_some]at h2;exact h2.1
theorem Wq{t:tV}{l:List (List VV)}(h8:t.columns.length<=12)(hok:RS t l)(hv:∀r∈l,∀v∈r,M7 v.kind/\M7 v.int)(hl:l.length<=1000000):iI t.columns.length l:=by
 have hw:∀r∈l,r.length=t.columns.length:=λr hr=>(MB (hok.1 r hr)).1;refine⟨λr hr=>⟨by rw[hw r hr];exact h8,λv hx=>?_⟩,hw,?_,hl⟩
 .have h1:=(MB (hok.1 r hr)).2 v hx;have h2:=hv r hr v hx;exact⟨h2.1,h2.2,(GJ h1).2.2⟩
 .exact(Kf.of hok.2).imp_of_mem fun{x y} hx hy h=>VR (by rw[hw x hx,hw y hy]) h
def jN(st:List (List (List VV)))(q:Query):List (List (List VV)):=(eK q).map λt=>st.getD t.toNat []
theorem UE{st:List (List (List VV))}{t:Int}(hst:p7 s st=0)(hv:YT st)(h0:0<=t)(h1:t<s.tables.length):iI (gI s t).length (st.getD t.toNat [])/\st.getD t.toNat []∈st:=by
 obtain⟨h2,h3,h4,h5⟩:=Nw hst;have ht:t.toNat<s.tables.length:=by omega
 have hl:t.toNat<st.length:=by omega
 have e1:s.tables[t.toNat]? =some s.tables[t.toNat]:=List.getElem?_eq_getElem ht;have e2:st[t.toNat]? =some st[t.toNat]:=List.getElem?_eq_getElem hl;have e3:st.getD t.toNat []=st[t.toNat]:=by rw[List.getD_eq_getElem?_getD,e2];rfl
 have hm:st[t.toNat]∈st:=List.getElem_mem hl;have h8:=sA h2 _ (List.getElem_mem ht);have hk:(gI s t).length=s.tables[t.toNat].columns.length:=by rw[gI,if_neg aC,e1];simp
 have hle:∀{l:List (List (List VV))}{x},x∈l->((x.length:Nat):Int)<=(l.map λl=>(l.length:Int)).sum:=fun{l x}=>by
  induction l with
  |nil=>intro h;simp at h
  |cons a l ih=>
   intro h
   have h0:∀l:List (List (List VV)),0<=(l.map λl=>(l.length:Int)).sum:=λl=>by
    induction l with
    |nil=>simp
    |cons a l ih=>simp only[List.map_cons,List.sum_cons];omega
   simp only[List.map_cons,List.sum_cons];rcases List.mem_cons.1 h with rfl|h
   .have:=h0 l;omega
   .have:=ih h;omega
 have:=hle hm;rw[e3,hk];exact⟨Wq aC (h4 _ _ _ e1 e2) (hv _ hm) aC,hm⟩
theorem UG{st:List (List (List VV))}{ks:List Int}{c:Nat}(hst:p7 s st=0)(hv:YT st)(hc:∀l∈st,l.length<=c)(h1:1<=c)(hq:bY s ps q=(ks,0))(hb:lO c q<=1000000):
 R2 (jN st q) q 0/\(iH (jN st q) q 0).1=Ir st q/\iI ks.length (Ir st q)/\(Ir st q).length<=1000000:=by
 have e1:∀(j:Nat)(t:Int),(eK q)[j]? =some t->(jN st q)[0+j]? =some (st.getD t.toNat []):=λj t h=>by rw[Nat.zero_add,jN,List.getElem?_map,h];rfl
 have x:=JD h1 (ls:=jN st q) (k:=0) hq ⟨λj t h=>⟨_,e1 j t h,by
  have ht:=Bw hq t (List.mem_of_getElem? h);have:=UE hst hv ht.1 ht.2;exact⟨this.1,hc _ this.2⟩⟩⟩ hb
 have y:=Lx (st:=st) (ls:=jN st q) (k:=0) hq ⟨λj t h=>by rw[List.getD_eq_getElem?_getD,e1 j t h];rfl⟩;have e2:(iH (jN st q) q 0).1=Ir st q:=by rw[y]
 refine⟨x.ok,e2,by rw[<-e2];exact x.rel,?_⟩;rw[<-e2];exact Nat.le_trans x.bnd hb
def XW(s:Sl):CV:=.val (.agg ⟨[.slice s.a s.len s.cap]⟩)
def X6:Vc.Spec:=λcvs m h K=>∃v s,cvs=[aS v,cI 3]/\gJ h s v/\K (cI (eJ s)) m h
def rM(st:List (List (List VV))):Int:=(st.map λl=>(l.length:Int)).sum
def SX:Vc.Spec:=λcvs m h K=>∃s st,cvs=[XW s]/\Leaves h s st/\st.length<=1000/\K (cI (rM st)) m h
def Tv(s:oF)(t:Int)(r:List VV):Bool:=sL s t&&(match s.tables[t.toNat]? with|some tb=>A3 tb r|none=>false)
def EU(s:oF)(t:Int)(r:List VV):List VV:=match(if sL s t then s.tables[t.toNat]? else none)with|some tb=>jJ tb r|none=>[]
def X8:Vc.Spec:=λcvs m h K=>∃v s t sl r,cvs=[aS v,cI t,cS sl,cI 3]/\gJ h s v/\cA h sl r/\K (cB (Tv s t r)) m h
def SH:Vc.Spec:=λcvs m h K=>∃v s t sl r,cvs=[aS v,cI t,cS sl]/\gJ h s v/\cA h sl r/\∀s',cA h s' (EU s t r)->K (cS s') m h
def Hg:Vc.Spec:=λcvs m h K=>∃v s sl st,cvs=[aS v,cI 3,XW sl]/\gJ h s v/\Leaves h sl st/\st.length<=1000/\K (cI (p7 s st)) m h
noncomputable def WS:Ctx:=dL [(104,YH),(105,GB)] [(7,{A:=Nat×bO×Sl×MH×PH,st:=λ⟨i,t,s,m,h⟩=>cD 95 99 [(3,iv 3),(9,.at (.ptr 9 0)),(41,sv s),(42,iv s.len),(43,iv i)] [(9,.cells 86 (t.enc.map .val))] m h})]
 [(12,{A:=Nat×bO×VV×Sl×Bool×MH×PH,st:=λ⟨i,t,v,s,b,m,h⟩=>cD 95 99 [(3,iv 3),(9,.at (.ptr 9 0)),(10,iv i),(11,.at (.ptr 11 0)),(12,bv b),(41,sv s),(42,iv s.len),(43,iv i)] [(9,.cells 86 (t.enc.map .val)),(11,.cells 27 (v.enc.map .val))] m h}),
  (13,{A:=Nat×bO×VV×Sl×Bool×Bool×MH×PH,st:=λ⟨i,t,v,s,b,c,m,h⟩=>cD 95 99 [(3,iv 3),(9,.at (.ptr 9 0)),(10,iv i),(11,.at (.ptr 11 0)),(12,bv b),(13,bv c),(41,sv s),(42,iv s.len),(43,iv i)] [(9,.cells 86 (t.enc.map .val)),(11,.cells 27 (v.enc.map .val))] m h})] [] false
noncomputable def WT(s:Sl)(m:MH)(h:PH):Ctx:=dL [] [(3,{A:=Nat×Int,st:=λ⟨i,n⟩=>cD 19 20 [(3,iv n),(7,sv s),(8,iv s.len),(9,iv i)] [] m h})] [] [] false
noncomputable def f56_ctx(v:cH)(s:Sl)(m:MH)(h:PH):Ctx:=dL [(82,X6),(83,SX),(84,X8),(85,SH),(71,Hi)]
 [(9,{A:=Nat,st:=λi=>cD 69 72 [(1,iv 3),(3,.at (.ptr 3 0)),(29,sv s),(30,iv s.len),(31,iv i)] [(3,.cells 43 (v.enc.map .val))] m h}),
  (12,{A:=Nat×Sl×Nat,st:=λ⟨i,u,j⟩=>cD 69 72 [(1,iv 3),(3,.at (.ptr 3 0)),(8,iv i),(9,sv u),(29,sv s),(30,iv s.len),(31,iv i),(36,sv u),(37,iv u.len),(38,iv j)] [(3,.cells 43 (v.enc.map .val))] m h})] [] [] false
def Oo(v:cH)(m:MH)(h:PH)(K:CV->MH->PH->Prop):Prop:=
  jM (λv1 s=>aA (eA (fX v) (fX v1)) (gJ h s v1) (eE (eJ s) 0 (K (eZ (eJ s)) m h) (K (eZ 0) m h)))
def On(s:Sl)(m:MH)(h:PH)(K:CV->MH->PH->Prop):Prop:=
  ∃(I:Nat×Int->Prop)(m1:Nat×Int->Nat),(∃(x:Nat×Int),aA (I x) (cL 0 x.2) (aA (aJ s) (bK s) (aH (bA x.1) (m=m) (h=h) True)))/\∀(x:Nat×Int),I x->aW (↑x.1:Int) (aG s) (dG s.a (↑x.1:Int) s (λb o y=>aM m h b (bI o x.1 1) (aL y)/\∃(x1:Nat×Int),aA (I x1) (m1 x1<m1 x) (aA (cL (eC (x.2+aG y)) x1.2) (aJ s) (aA (bK s) (fU (bF x.1 1)=bT x1.1) (aA (m=m) (h=h) True))))) (K (eZ x.2) m h)
abbrev lJ:Prop:=eQ (fU 3)
noncomputable abbrev oG(a:Nat×bO×Sl×MH×PH):Sl:=a.2.2.1
noncomputable abbrev BF(a:Nat×bO×Sl×MH×PH):bO:=a.2.1
noncomputable abbrev tN(a:Nat×bO×Sl×MH×PH):Nat->Nat->Option Value:=a.2.2.2.2
noncomputable abbrev EH(a:Nat×bO×VV×Sl×Bool×MH×PH):Bool:=a.2.2.2.2.1
noncomputable abbrev vQ(a:Nat×bO×VV×Sl×Bool×MH×PH):Sl:=a.2.2.2.1
noncomputable abbrev FH(a:Nat×bO×VV×Sl×Bool×MH×PH):bO:=a.2.1
noncomputable abbrev vR(a:Nat×bO×VV×Sl×Bool×MH×PH):MH×PH:=a.2.2.2.2.2
noncomputable abbrev rB(a:Nat×bO×VV×Sl×Bool×Bool×MH×PH):Sl:=a.2.2.2.1
noncomputable abbrev BE(a:Nat×bO×VV×Sl×Bool×Bool×MH×PH):bO:=a.2.1
noncomputable abbrev xQ(a:Nat×bO×VV×Sl×Bool×Bool×MH×PH):Nat->Nat->Option Value:=a.2.2.2.2.2.2.2
noncomputable abbrev CF(a:Nat×bO×VV×Sl×Bool×Bool×MH×PH):Nat->Option Obj:=a.2.2.2.2.2.2.1
attribute [push_cast] lJ oG BF tN EH vQ FH vR rB BE xQ CF
def Om(v:cH)(t:Int)(s:Sl)(m:MH)(h:PH)(K:CV->MH->PH->Prop):Prop:=
  jM (λv1 s1=>∃(t1:Int),aA (aZ (fX v) t=aZ (fX v1) t1) (gJ h s1 v1) (branch (!(sL s1 t1)) (K aU m h) (Cm v t (λb o=>∃(y:bO),aM m h b (fR o t 5) (tM y)/\eE (aG s) (Ak y) (K aU m h) (∃(I:Nat×bO×Sl×MH×PH->Prop)(m1:Nat×bO×Sl×MH×PH->Nat),(∃(x:Nat×bO×Sl×MH×PH),aA (I x) lJ (aA (eP 9) (bB s (oG x)) (aA (bZ s (oG x)) (bA x.1) (aA (oQ 86 (eX y)=oQ 86 (eX (BF x))) (bH m x.2.2.2) (bN h (tN x))))))/\∀(x:Nat×bO×Sl×MH×PH),I x->aW (↑x.1:Int) (aG (oG x)) (bD (λb1 o1=>aH (bE (oG x).a b1 o1) (0<=(↑x.1:Int)) ((↑x.1:Int)<aG (oG x)) (∃(y1:VV),aM (iX x.2.2) (tN x) b1 (bI o1 x.1 3) y1.enc/\∃(v2:VV),gU (eA (eU y1) (eU v2)) (!(gK
 v2)) (K aU (iX x.2.2) (tN x)) (∃(I1:Nat×bO×VV×Sl×Bool×MH×PH->Prop),dK y1.kind 2 (∃(x1:Nat×bO×VV×Sl×Bool×MH×PH),aA (I1 x1) lJ (aA (eP 9) (cC x.1 x1.1) (aA (eP 11) (gT (decide ((↑x.1:Int)>=(BF x).key)) (EH x1)) (aA (bB (oG x) (vQ x1)) (bZ (oG x) (vQ x1)) (aA (cC x.1 x1.1) (oQ 86 (eX (BF x))=oQ 86 (eX (FH x1))) (aA (oB 27 y1.enc=oB 27 x1.2.2.1.enc) (bH (iX x.2.2) (vR x1)) (bN (tN x) (vR x1).2))))))) (∃(x1:Nat×bO×VV×Sl×Bool×MH×PH),aA (I1 x1) lJ (aA (eP 9) (cC x.1 x1.1) (aA (eP 11) (An (EH x1)) (aA (bB (oG x) (vQ x1)) (bZ (oG x) (vQ x1)) (aA (cC x.1 x1.1) (oQ 86 (eX (BF x))=oQ 86 (eX (FH x1))) (aA (oB 27 y1.enc=oB 27
 x1.2.2.1.enc) (bH (iX x.2.2) (vR x1)) (bN (tN x) (vR x1).2)))))))/\∀(x1:Nat×bO×VV×Sl×Bool×MH×PH),I1 x1->∃(I2:Nat×bO×VV×Sl×Bool×Bool×MH×PH->Prop),dK x1.2.2.1.kind 1 (∃(x2:Nat×bO×VV×Sl×Bool×Bool×MH×PH),aA (I2 x2) lJ (aA (eP 9) (cC x1.1 x2.1) (aA (eP 11) (gT (EH x1) x2.2.2.2.2.1) (aA (gT (decide ((↑x1.1:Int)>=(FH x1).key)) x2.2.2.2.2.2.1) (bB (vQ x1) (rB x2)) (aA (bZ (vQ x1) (rB x2)) (cC x1.1 x2.1) (aA (oQ 86 (eX (FH x1))=oQ 86 (eX (BE x2))) (oB 27 x1.2.2.1.enc=oB 27 x2.2.2.1.enc) (bW (bH (vR x1).1 x2.2.2.2.2.2.2) (vR x1).2 (xQ x2)))))))) (∃(x2:Nat×bO×VV×Sl×Bool×Bool×MH×PH),aA (I2 x2) lJ (aA (eP 9) (cC x1.1 x2.1) (aA (eP 11) (gT (EH x1)
 x2.2.2.2.2.1) (aA (An x2.2.2.2.2.2.1) (bB (vQ x1) (rB x2)) (aA (bZ (vQ x1) (rB x2)) (cC x1.1 x2.1) (aA (oQ 86 (eX (FH x1))=oQ 86 (eX (BE x2))) (oB 27 x1.2.2.1.enc=oB 27 x2.2.2.1.enc) (bW (bH (vR x1).1 x2.2.2.2.2.2.2) (vR x1).2 (xQ x2))))))))/\∀(x2:Nat×bO×VV×Sl×Bool×Bool×MH×PH),I2 x2->bD (λb2 o2=>aH (bE (BE x2).columns.a b2 o2) (0<=(↑x2.1:Int)) ((↑x2.1:Int)<aG (BE x2).columns) (∃(y2:Int),aM (CF x2) (xQ x2) b2 (bI o2 x2.1 2+1) (bV y2)/\eE x2.2.2.1.kind y2 (branch (!x2.2.2.2.2.1) (branch (!x2.2.2.2.2.2.1) (K aU (CF x2) (xQ x2)) (∃(x3:Nat×bO×Sl×MH×PH),aA (I x3) (m1 x3<m1 x) (aA lJ (eP 9) (aA (bB (rB x2) (oG x3)) (bZ (rB x2) (oG x3)) (aA (fU (bF
 x2.1 1)=bT x3.1) (oQ 86 (eX (BE x2))=oQ 86 (eX (BF x3))) (bW (bH (CF x2) x3.2.2.2) (xQ x2) (tN x3))))))) (∃(x3:Nat×bO×Sl×MH×PH),aA (I x3) (m1 x3<m1 x) (aA lJ (eP 9) (aA (bB (rB x2) (oG x3)) (bZ (rB x2) (oG x3)) (aA (fU (bF x2.1 1)=bT x3.1) (oQ 86 (eX (BE x2))=oQ 86 (eX (BF x3))) (bW (bH (CF x2) x3.2.2.2) (xQ x2) (tN x3))))))) (∃(x3:Nat×bO×Sl×MH×PH),aA (I x3) (m1 x3<m1 x) (aA lJ (eP 9) (aA (bB (rB x2) (oG x3)) (bZ (rB x2) (oG x3)) (aA (fU (bF x2.1 1)=bT x3.1) (oQ 86 (eX (BE x2))=oQ 86 (eX (BF x3))) (bW (bH (CF x2) x3.2.2.2) (xQ x2) (tN x3)))))))))))) (K fN (iX x.2.2) (tN x)))))))
def Ol(v:cH)(t:Int)(s:Sl)(m:MH)(h:PH)(K:CV->MH->PH->Prop):Prop:=
  aW t 0 (K lN m h) (gA t (gS v) (K lN m h) (bD (λb o=>aH (bE (oP v) b o) (0<=t) (t<aG v.tables) (∃(y:Int),aH (aM m h b (fR o t 5+2) (bV y)) (0<=ite (oH s y>0) (oH s y) 0) (ite (oH s y>0) (oH s y) 0<=(↑s.cap:Int)) (K (CV.val (Value.slice s.a (ite (oH s y>0) (oH s y) 0).toNat s.cap)) m h)))))
noncomputable abbrev kW(a:Nat×Sl×Nat):Sl:=a.2.1
noncomputable abbrev EL(a:Nat×Sl×Nat):Int:=eC ((↑a.2.2:Int)-1)
attribute [push_cast] kW EL
def f56_nice(v:cH)(s:Sl)(m:MH)(h:PH)(K:CV->MH->PH->Prop):Prop:=
  jM (λv1 s1=>aA (aZ (fX v) 3=aZ (fX v1) 3) (gJ h s1 v1) (eE (eJ s1) 0 (K (eZ (eJ s1)) m h) (yW (λs2 s3=>aH (eA (mM (aL s)) (mM (aL s2))) (Leaves h s2 s3) (mG s3.length) (cV (decide (rM s3>512)) (K (eZ 2) m h) (aG s !=gS v) (K (eZ 80) m h) (mA (λI x=>aA (I x) lJ (aA (eP 3) (aJ s) (aA (bK s) (bA x) (aA (bM v) (m=m) (bN h h))))) (λI m1 x=>I x->aW (↑x:Int) (aG s) (dG s.a (↑x:Int) s (λb o y=>aM m h b (bI o x 1) (aL y)/\∃(I1:Nat×Sl×Nat->Prop)(m2:Nat×Sl×Nat->Nat),(∃(x1:Nat×Sl×Nat),aA (I1 x1) lJ (aA (eP 3) (cC x x1.1) (aA (bB y (kW x1)) (aJ s) (aA (bK s) (cC x x1.1) (aA (bB y (kW x1)) (bZ y (kW x1)) (aA (bA x1.2.2) (bM v) (bW (m=m) h
 h)))))))/\∀(x1:Nat×Sl×Nat),I1 x1->aW (↑x1.2.2:Int) (aG (kW x1)) (dG (kW x1).a (↑x1.2.2:Int) (kW x1) (λb1 o1 y1=>aM m h b1 (bI o1 x1.2.2 1) (aL y1)/\jM (λv2 s4=>∃(t:Int),kE (λs5 r=>aH (bP (dU v) (eZ (↑x1.1:Int)::fC y1 3)=bP (dU v2) (eZ t::fC s5 3)) (gJ h s4 v2) (cA h s5 r) (cV (!(Tv s4 t r)) (K (eZ 80) m h) (decide ((↑x1.2.2:Int)>0)) (dG (kW x1).a (EL x1) (kW x1) (λb2 o2 y2=>aM m h b2 (fR o2 (EL x1) 1) (aL y2)/\jM (λv3 s6=>∃(t1:Int),kE (λs7 r1=>aH (bP (dU v) (cR (eZ (↑x1.1:Int)) (lR y2))=bP (dU v3) (cR (eZ t1) (lR s7))) (gJ h s6 v3) (cA h s7 r1) (∀(s8:Sl),cA h s8 (EU s6 t1 r1)->aX h b2 (fR o2 (EL x1) 1) (aL y2)/\jM (λv4 s9=>∃(t2:
 Int),kE (λa r2=>aH (bP (dU v) (cR (eZ (↑x1.1:Int)) (lR y1))=bP (dU v4) (cR (eZ t2) (lR a))) (gJ h s9 v4) (cA h a r2) (∀(a1:Sl),cA h a1 (EU s9 t2 r2)->aX h b2 (fR o2 (EL x1) 1) (aL y2)/\Cw s8 a1 h (λa2 b3=>gA (dY a2 b3) 0 (K (eZ 80) m h) (∃(x2:Nat×Sl×Nat),aA (I1 x2) (m2 x2<m2 x1) (aA lJ (eP 3) (aA (cC x1.1 x2.1) (bB (kW x1) (kW x2)) (aA (aJ s) (bK s) (aA (cC x1.1 x2.1) (bB (kW x1) (kW x2)) (aA (bZ (kW x1) (kW x2)) (fU (bF x1.2.2 1)=bT x2.2.2) (aH (bM v) (m=m) (h=h) True)))))))))))))))) (∃(x2:Nat×Sl×Nat),aA (I1 x2) (m2 x2<m2 x1) (aA lJ (eP 3) (aA (cC x1.1 x2.1) (bB (kW x1) (kW x2)) (aA (aJ s) (bK s) (aA (cC x1.1 x2.1) (bB (kW x1) (kW x2)) (aA
 (bZ (kW x1) (kW x2)) (fU (bF x1.2.2 1)=bT x2.2.2) (aH (bM v) (m=m) (h=h) True)))))))))))) (∃(x2:Nat),aA (I x2) (m1 x2<m1 x) (aA lJ (eP 3) (aA (aJ s) (bK s) (aA (fU (bF x1.1 1)=bT x2) (bM v) (bW (m=m) h h))))))) (K (eZ 0) m h))))))))
theorem cA.cut{a:Option Addr}{len cap:Nat}{r:List VV}(x:cA h ⟨a,len,cap⟩ r){n:Nat}(hn:n<=r.length):cA h ⟨a,n,cap⟩ (r.take n):=by
 obtain⟨⟨vs,h1,h2,h3⟩,h4⟩:=x;refine⟨⟨vs.take n,by rw[List.map_take];exact cN.cut h1 n (by rw[List.length_map];omega),by rw[List.length_take,List.length_take,h2],λi x hx=>?_⟩,by rw[List.length_take];omega⟩;rw[List.getElem?_take]at hx;split at hx
 .rename_i hi;obtain⟨v,e1,e2⟩:=h3 i x hx;exact⟨v,by rw[List.getElem?_take,if_pos hi];exact e1,e2⟩
 .cases hx
theorem Yy{v:cH}(hs:gJ h s v)(hK:K (cI (eJ s)) m h):Oo v m h K:=
 ⟨v,s,rfl,hs,aB (λ_=>hK) (λe=>by rw[show eJ s=0 by simpa using e]at hK;exact hK)⟩
theorem TG:Sound Tryz.prog 82 X6:=by
 refine gZ Tryz.func82 ?_;rintro cvs m h K ⟨v,s,rfl,hs,hK⟩;refine⟨dL [(79,zX)] [] [] [] false,rfl,aD KH aF,Oo v m h K,by kernel_rfl,?_⟩;exact Yy hs hK
theorem Leaves.lens{s:Sl}{st:List (List (List VV))}(hl:Leaves h s st){l:List (List VV)}(hm:l∈st):l.length<=502633886983:=by
 obtain⟨i,hi,rfl⟩:=List.mem_iff_getElem.1 hm;obtain⟨_,_,_,_,_,hr⟩:=bL.at hl (List.getElem?_eq_getElem hi);exact hr.len
theorem BZ:∀{l:List (List (List VV))},(∀x∈l,x.length<=502633886983)->0<=rM l/\rM l<=(l.length:Int)*502633886983
 |[],_=>by simp[rM]
 |a::l,h=>by
  have h1:=h a (List.mem_cons_self ..);have h2:=BZ (l:=l) λx hx=>h x (List.mem_cons_of_mem _ hx);simp only[rM,List.map_cons,List.sum_cons,List.length_cons]at h2⊢
  omega
theorem Rr{st:List (List (List VV))}{l:List (List VV)}(h:st[i]? =some l):rM (st.take (i+1))=rM (st.take i)+(l.length:Int):=by
 rw[List.take_add_one,h];simp[rM]
theorem TF:Sound Tryz.prog 83 SX:=by
 refine gZ Tryz.func83 ?_;rintro cvs m h K ⟨s,st,rfl,hl,hn,hK⟩;refine⟨WT s m h,rfl,aF,On s m h K,by kernel_rfl,?_⟩;dsimp only[On,push_cast];have hsl:=bL.slen hl;refine⟨λz=>z.1<=st.length/\z.2=rM (st.take z.1),λz=>st.length-z.1,⟨(0,0),⟨by simp,by simp[rM]⟩,MT⟩,?_⟩;rintro⟨i,n⟩ ⟨hi,hn2⟩;dsimp only at hi hn2⊢
 subst hn2;refine aE (λhlt=>?_) (λhge=>?_)
 .obtain⟨l,hx⟩:=eW hsl hlt;obtain⟨b,o,u,ea,rd,hr⟩:=bL.at hl hx;have hul:=bL.slen hr;have hb:=BZ (l:=st.take (i+1)) λx hx=>hl.lens (List.mem_of_mem_take hx);have hb2:=(BZ (l:=st.take i) λx hx=>hl.lens (List.mem_of_mem_take hx)).1;have hs:=Rr hx;rw[List.length_take]at hb;refine⟨b,o,ea,aC,aC,u,.imm rd,(i+1,rM (st.take (i+1))),⟨by show i+1<=st.length;omega,rfl⟩,by show st.length-(i+1)<st.length-i;omega,?_⟩;rw[eG aC aC,hul, <-hs];exact MT
 .rw[List.take_of_length_le aC];exact hK
theorem BV{t:tV}{r:List VV}:A3 t r=true↔r.length=t.columns.length/\∀i,i<r.length->uP t.key (t.columns.getD i ⟨⟨#[]⟩,0⟩).kind i (r.getD i zeroV)=true:=by
 simp only[A3,Bool.and_eq_true,decide_eq_true_eq,List.all_eq_true,List.mem_range]
theorem N8{t:Int}{r:List VV}{tb:tV}(ht:s.tables[t.toNat]? =some tb)(h:sL s t=true):Tv s t r=A3 tb r:=by
 simp only[Tv,h,ht,Bool.true_and]
theorem TE:Sound Tryz.prog 84 X8:=by
 refine gZ Tryz.func84 ?_;rintro cvs m h K ⟨v,s,t,sl,r,rfl,hs,hv,hK⟩;refine⟨WS,rfl,aD JB (aD DL aF),Om v t sl m h K,by kernel_rfl,?_⟩;dsimp only[Om,push_cast];have htl:=hs.tables.slen;have hrl:=bL.slen hv;refine⟨v,s,t,rfl,hs,aB (λe=>?_) (λe=>?_)⟩
 .have e:sL s t=false:=by simpa using e
  simp only[Tv,e,Bool.false_and]at hK;exact hK
 have e:sL s t=true:=by simpa using e
 have he:=e;simp only[sL,Bool.and_eq_true,decide_eq_true_eq]at he;obtain⟨tb,htb⟩:∃tb,s.tables[t.toNat]? =some tb:=⟨_,List.getElem?_eq_getElem aC⟩
 obtain⟨b,o,y,ea,rd,hy⟩:=bL.at hs.tables htb;rw[N8 htb e]at hK;have hcl:=bL.slen hy.columns;have hk:=hy.key;refine⟨b,o,ea,he.1,aC,y,.imm rd,aB (λe1=>?_) (λe1=>?_)⟩
 .have:A3 tb r=false:=by
   cases e2:A3 tb r with
   |false=>rfl
   |true=>
    have:=(BV.1 e2).1;simp at e1;omega
  rw[this]at hK;exact hK
 have hwl:r.length=tb.columns.length:=by simp at e1;omega
 have bad:∀i,i<r.length->uP tb.key (tb.columns.getD i ⟨⟨#[]⟩,0⟩).kind i (r.getD i zeroV)=false->K (cB false) m h:=λi hi hf=>by
  have:A3 tb r=false:=by
   cases e2:A3 tb r with
   |false=>rfl
   |true=>rw[(BV.1 e2).2 i hi]at hf;cases hf
  rw[this]at hK;exact hK
 refine⟨λz=>z.2.1=y/\z.2.2.1=sl/\z.2.2.2.1=m/\z.2.2.2.2=h/\z.1<=r.length/\∀j,j<z.1->uP tb.key (tb.columns.getD j ⟨⟨#[]⟩,0⟩).kind j (r.getD j zeroV)=true,λz=>r.length-z.1,⟨(0,y,sl,m,h),⟨rfl,rfl,rfl,rfl,by simp,λj hj=>by simp at hj⟩,MT⟩,?_⟩;rintro⟨i,y',sl',m',h'⟩ ⟨e1,e2,e3,e4,hi,hall⟩;dsimp only at e1 e2 e3 e4 hi hall⊢
 subst e1 e2 e3 e4;refine aE (λhlt=>?_) (λhge=>?_)
 .have hil:i<r.length:=by omega
  have hx:r[i]? =some (r.getD i zeroV):=by rw[List.getD_eq_getElem?_getD,List.getElem?_eq_getElem hil];rfl
  obtain⟨b2,o2,x,ea2,rd2,hxx⟩:=bL.at hv hx;subst hxx;have hc:tb.columns[i]? =some (tb.columns.getD i ⟨⟨#[]⟩,0⟩):=by rw[List.getD_eq_getElem?_getD,List.getElem?_eq_getElem aC];rfl
  obtain⟨b3,o3,c,ea3,rd3,hcc⟩:=bL.at hy.columns hc;have badi:=bad i hil
  have alli:uP tb.key (tb.columns.getD i ⟨⟨#[]⟩,0⟩).kind i (r.getD i zeroV)=true->∀j,j<i+1->uP tb.key (tb.columns.getD j ⟨⟨#[]⟩,0⟩).kind j (r.getD j zeroV)=true:=λhf j hj=>by
   by_cases e5:j=i
   .rw[e5];exact hf
   .exact hall j aC
  generalize r.getD i zeroV=x at badi alli rd2 hx;rw[hcc]at badi alli;have go:uP tb.key c.kind i x=true->∃z:Nat×bO×Sl×MH×PH,(z.2.1=y'/\z.2.2.1=sl'/\z.2.2.2.1=m'/\z.2.2.2.2=h'/\z.1<=r.length/\∀j,j<z.1->uP tb.key (tb.columns.getD j ⟨⟨#[]⟩,0⟩).kind j (r.getD j zeroV)=true)/\r.length-z.1<r.length-i/\z=(i+1,y',sl',m',h'):=λhf=>⟨_,⟨rfl,rfl,rfl,rfl,by show i+1<=r.length;omega,alli hf⟩,by show r.length-(i+1)<r.length-i;omega,rfl⟩
  refine⟨b2,o2,ea2,aC,aC,x,.imm rd2,x,rfl,aB (λev=>badi ?_) (λev=>?_)⟩
  .have ev:gK x=false:=by simpa using ev
   simp[uP,ev]
  have ev:gK x=true:=by simpa using ev
  refine⟨λz=>z=(i,y',x,sl',(x.kind==2&&decide ((i:Int)>=y'.key)),m',h'),aB (λe2=>⟨_,rfl,by rw[e2];exact MT⟩) (λe2=>⟨_,rfl,by rw[e2];exact MT⟩),?_⟩;rintro _ rfl;dsimp only;refine⟨λz=>z=(i,y',x,sl',(x.kind==2&&decide ((i:Int)>=y'.key)),(x.kind==1&&decide ((i:Int)>=y'.key)),m',h'),aB (λe2=>⟨_,rfl,by rw[e2];exact MT⟩) (λe2=>⟨_,rfl,by rw[e2];exact MT⟩),?_⟩;rintro _ rfl;dsimp only
  have hfv:uP tb.key c.kind i x=(x.kind==c.kind||((x.kind==2&&decide ((i:Int)>=y'.key))||(x.kind==1&&decide ((i:Int)>=y'.key)))):=by
   rw[hk];simp only[uP,ev,Bool.true_and,ge_iff_le,Bool.and_or_distrib_right]
  generalize hb1:(x.kind==2&&decide ((i:Int)>=y'.key))=B1 at hfv⊢
  generalize hb2:(x.kind==1&&decide ((i:Int)>=y'.key))=B2 at hfv⊢
  refine⟨b3,o3,ea3,aC,aC,c.kind,.imm (aX.part rd3 1 1),aB (λe3=>aB (λe4=>aB (λe5=>badi ?_) (λe5=>?_)) (λe4=>?_)) (λe3=>?_)⟩
  .have e3:(x.kind==c.kind)=false:=by simpa using e3
   have e4:B1=false:=by simpa using e4
   have e5:B2=false:=by simpa using e5
   rw[hfv,e3,e4,e5];rfl
  all_goals
   obtain⟨_,g1,g2,rfl⟩:=go (by rw[hfv];simp_all);refine⟨_,g1,g2,?_⟩;dsimp only;rw[iT (by have:=bL.len hv;omega)];exact MT
 .have:A3 tb r=true:=BV.2 ⟨hwl,λj hj=>hall j aC⟩;rw[this]at hK;exact hK
theorem TD:Sound Tryz.prog 85 SH:=by
 refine gZ Tryz.func85 ?_;rintro cvs m h K ⟨v,s,t,sl,r,rfl,hs,hv,hK⟩;refine⟨dL [] [] [] [] false,rfl,aF,Ol v t sl m h K,by kernel_rfl,?_⟩;dsimp only[Ol,push_cast];have htl:=hs.tables.slen;have hrl:=bL.slen hv;have none_:sL s t=false->K lN m h:=λe=>hK ⟨none,0,0⟩ (by simp only[EU,e];exact bL.nil _ _ _ _);refine aE (λh1=>none_ (by simp[sL];omega)) (λh1=>aE (λh2=>none_ (by simp[sL];omega)) (λh2=>?_));have e:sL s t=true:=by simp[sL];omega
 obtain⟨tb,htb⟩:∃tb,s.tables[t.toNat]? =some tb:=⟨_,List.getElem?_eq_getElem aC⟩
 obtain⟨b,o,y,ea,rd,hy⟩:=bL.at hs.tables htb;have hk:=hy.key;obtain⟨a,len,cap⟩:=sl;have hcap:len<=cap:=by obtain⟨vs,h5,_⟩:=hv.ex;exact h5.cap
 have hrl:len=r.length:=hrl
 have hmm:(if(if(len:Int)<y.key then(len:Int)else y.key)>0 then(if(len:Int)<y.key then(len:Int)else y.key)else 0)=max 0 (min tb.key r.length):=by
  rw[<-hk];split<;>split<;>omega
 refine⟨b,o,ea,aC,aC,y.key,.imm (aX.part rd 2 1),?_⟩;dsimp only;rw[hmm];refine⟨aC,aC,hK ⟨a,(max 0 (min tb.key r.length)).toNat,cap⟩ ?_⟩;have e2:EU s t r=r.take (max 0 (min tb.key r.length)).toNat:=by simp only[EU,e,if_true,htb];rfl
 rw[e2];exact hv.cut aC
theorem CP{t:Nat}{tb:tV}(h:s.tables[t]? =some tb)(r:List VV):EU s t r=jJ tb r:=by
 have:t<s.tables.length:=(List.getElem?_eq_some_iff.1 h).1;have e:sL s (t:Int)=true:=by simp[sL];omega
 simp only[EU,e,if_true,Int.toNat_natCast,h]
theorem Sb{t:Nat}{tb:tV}(h:s.tables[t]? =some tb)(r:List VV):Tv s t r=A3 tb r:=by
 have:t<s.tables.length:=(List.getElem?_eq_some_iff.1 h).1;have e:sL s (t:Int)=true:=by simp[sL];omega
 exact N8 (by simpa using h) e
theorem f56_sound:Sound Tryz.prog 56 Hg:=by
 refine gZ Tryz.func56 ?_;rintro cvs m h K ⟨v,s,sl,st,rfl,hs,hl,hn,hK⟩;refine⟨f56_ctx v sl m h,rfl,aD TG (aD TF (aD TE (aD TD (aD CS aF)))),f56_nice v sl m h K,by kernel_rfl,?_⟩;dsimp only[f56_nice,push_cast];have htl:=hs.tables.slen;have hsl:=bL.slen hl;unfold p7 at hK;refine⟨v,s,rfl,hs,aB (λe=>?_) (λe=>⟨sl,st,rfl,hl,hn,aE (λe2=>?_) (λe2=>aB (λe3=>?_) (λe3=>?_))⟩)⟩
 .rw[if_pos (by simpa using e)]at hK;exact hK
 all_goals rw[if_neg (by simpa using e)]at hK
 .rw[if_pos (by unfold rM at e2;omega)]at hK;exact hK
 all_goals rw[if_neg (by unfold rM at e2;omega)]at hK
 .rw[if_pos (by simp at e3;omega)]at hK;exact hK
 have hlen:st.length=s.tables.length:=by simp at e3;omega
 rw[if_neg (by simp[hlen])]at hK;have bad:¬Il s st->K (cI 80) m h:=λhb=>by rw[if_neg hb]at hK;exact hK
 refine⟨λi=>i<=st.length/\∀(j:Nat) t l,j<i->s.tables[j]? =some t->st[j]? =some l->RS t l,λi=>st.length-i,⟨0,⟨by simp,λj t l hj=>by omega⟩,MT⟩,?_⟩;rintro i ⟨hi,hall⟩;refine aE (λhlt=>?_) (λhge=>?_)
 .obtain⟨l,hx⟩:=eW hsl hlt;obtain⟨b,o,u,ea,rd,hr⟩:=bL.at hl hx;have hul:=bL.slen hr;have hll:=bL.len hr;obtain⟨tb,htb⟩:∃tb,s.tables[i]? =some tb:=⟨_,List.getElem?_eq_getElem aC⟩
  have badi:¬RS tb l->K (cI 80) m h:=λhb=>bad λhok=>hb (hok i tb l htb hx);refine⟨b,o,ea,aC,aC,u,.imm rd,λz=>z.1=i/\z.2.1=u/\z.2.2<=l.length/\(∀k r,k<z.2.2->l[k]? =some r->A3 tb r=true)/\∀k r r',k+1<z.2.2->l[k]? =some r->l[k+1]? =some r'->dY (jJ tb r) (jJ tb r')<0,λz=>l.length-z.2.2,⟨(i,u,0),⟨rfl,rfl,by simp,λk r hk=>by simp at hk,λk r r' hk=>by simp at hk⟩,MT⟩,?_⟩;rintro⟨i',u',j⟩ ⟨e1,e2,hj,hfit,hkey⟩;dsimp only at e1 e2 hj hfit hkey⊢
  subst e1 e2;refine aE (λhlt2=>?_) (λhge2=>?_)
  .obtain⟨r,hxr⟩:=eW hul hlt2;obtain⟨b2,o2,w,ea2,rd2,hv⟩:=bL.at hr hxr;refine⟨b2,o2,ea2,aC,aC,w,.imm rd2,v,s,i',w,r,rfl,hs,hv,aB (λef=>badi λhok=>?_) (λef=>?_)⟩
   .rw[Sb htb,hok.1 r (List.mem_of_getElem? hxr)]at ef;cases ef
   have hf:A3 tb r=true:=by rw[Sb htb]at ef;simpa using ef
   have hfit':∀k r,k<j+1->l[k]? =some r->A3 tb r=true:=λk r' hk hr'=>by
    by_cases e5:k=j
    .subst e5;rw[hxr]at hr';cases hr';exact hf
    .exact hfit k r' aC hr'
   refine aE (λhj0=>?_) (λhj0=>?_)
   .have hw:IntKind.i64.wrap ((j:Int)-1)=((j-1:Nat):Int):=by rw[eG aC aC];omega
    obtain⟨r0,hx0⟩:∃r0,l[j-1]? =some r0:=⟨_,List.getElem?_eq_getElem aC⟩
    obtain⟨b3,o3,w3,ea3,rd3,hv3⟩:=bL.at hr hx0;rw[hw];refine⟨b3,o3,ea3,aC,aC,w3,.imm rd3,v,s,i',w3,r0,rfl,hs,hv3,λs1 hs1=>⟨rd3,v,s,i',w,r,rfl,hs,hv,λs2 hs2=>⟨rd3,s1,s2,_,_,rfl,hs1,hs2,aE (λhc=>badi λhok=>?_) (λhc=>?_)⟩⟩⟩
    .rw[CP htb,CP htb]at hc;have:=hok.2 (j-1) r0 r hx0 (by rw[show j-1+1=j by omega];exact hxr);omega
    .rw[CP htb,CP htb]at hc;refine⟨(i',u',j+1),⟨rfl,rfl,by show j+1<=l.length;omega,hfit',λk r1 r2 hk h1 h2=>?_⟩,by show l.length-(j+1)<l.length-j;omega,?_⟩
     .by_cases e5:k+1=j
      .have:k=j-1:=by omega
       subst this;rw[hx0]at h1;rw[e5,hxr]at h2;cases h1;cases h2;omega
      .exact hkey k r1 r2 (by have:k+1<j+1:=hk;omega) h1 h2
     .dsimp only;rw[iT aC];exact MT
   .refine⟨(i',u',j+1),⟨rfl,rfl,by show j+1<=l.length;omega,hfit',λk r1 r2 hk h1 h2=>by have:k+1<j+1:=hk;omega⟩,by show l.length-(j+1)<l.length-j;omega,?_⟩;dsimp only;rw[iT aC];exact MT
  .refine⟨i'+1,⟨aC,λk t l' hk ht hl'=>?_⟩,aC,?_⟩
   .by_cases e5:k=i'
    .subst e5;rw[htb]at ht;cases ht;rw[hx]at hl';cases hl';refine⟨λr hr=>?_,λk r r' h1 h2=>hkey k r r' ?_ h1 h2⟩
     .obtain⟨n,hn,rfl⟩:=List.mem_iff_getElem.1 hr;exact hfit n _ aC (List.getElem?_eq_getElem hn)
     .have:=(List.getElem?_eq_some_iff.1 h2).1;omega
    .exact hall k t l' aC ht hl'
   .rw[iT aC];exact MT
 .rw[if_pos]at hK
  .exact hK
  .exactλj t l h1 h2=>hall j t l (by have:=(List.getElem?_eq_some_iff.1 h2).1;omega) h1 h2
def B6:Vc.Spec:=λcvs m h K=>∃sc p v s ps q,cvs=[aS sc,cS p,aQ v]/\gJ h s sc/\Ints h p ps/\dC h q v/\lF q=true/\KR K m h (fB s ps q)
noncomputable def f55q_ctx(p:Sl)(N:Nat):Ctx:={uF [(79,zX),(80,MW),(81,Ba N)]
 [(5,{A:=Nat×Nat×Nat×Nat×Nat×MH×PH,st:=λ⟨i,a,b,c,d,m,h⟩=>cD 53 56 [(1,sv p),(3,vv (.pointer (some ⟨a,0,none⟩))),(5,vv (.pointer (some ⟨b,0,none⟩))),(6,vv (.pointer (some ⟨c,0,none⟩))),(7,vv (.pointer (some ⟨d,0,none⟩))),(18,sv p),(19,iv p.len),(20,iv i)] [] m h})] [] [] [200003,200005,200006,200007,200011,0] [] false with elemT:=[3,38]}
noncomputable abbrev mS(a:Nat×Nat×Nat×Nat×Nat×MH×PH):Nat:=a.2.2.2.1
noncomputable abbrev pU(a:Nat×Nat×Nat×Nat×Nat×MH×PH):Nat×MH×PH:=iZ a.2
noncomputable abbrev mT(a:Nat×Nat×Nat×Nat×Nat×MH×PH):Nat:=(pU a).1
noncomputable abbrev pJ(a:Nat×Nat×Nat×Nat×Nat×MH×PH):Nat->Nat->Option Value:=cM (pU a)
abbrev Mj(a b:Int)(c:Prop)(d:(Nat×Nat×Nat×Nat×Nat×MH×PH)->Prop):Prop:=eE a b c (∃(x:Nat×Nat×Nat×Nat×Nat×MH×PH),d x)
attribute [push_cast] mS pU mT pJ Mj
def f55q_nice(sc:cH)(p:Sl)(v:QV)(N:Nat)(m:MH)(h:PH)(K:CV->MH->PH->Prop):Prop:=
  ∀(b:Nat)(m1:MH),aT (cG m h b) (bG m m1 b (dU sc) 43) (∀(b1:Nat)(m2:MH),aT (cG m1 h b1) (bG m1 m2 b1 v.enc 38) (∀(b2:Nat)(m3:MH),aT (cG m2 h b2) (bG m2 m3 b2 hX 33) (∀(b3:Nat)(m4:MH),aT (cG m3 h b3) (bG m3 m4 b3 (iE bU) 54) (∃(y:cH),aM m4 h b 0 (dU y)/\jM (λv1 s=>aA (eA (fX y) (fX v1)) (gJ h s v1) (eE (eJ s) 0 (gQ (λc E=>aA (tX m4 b2 (fA c E 0)) (fL 0 c) (∀(m5:MH),bG m4 m5 b2 (eY tY 1 c) E->gQ (λc1 E1=>aA (tX m5 b3 (fA c1 E1 0)) (fL 0 c1) (∀(m6:MH),bG m5 m6 b3 (eY (eH (eJ s)) 1 c1) E1->iD m6 h b2 0 (λy1=>∃(y2:Int),aM m6 h b3 0 (bV y2)/\K (CV.tup (aZ (lR y1) y2)) m6 h)))))) (∃(I:Nat×Nat×Nat×Nat×Nat×MH×PH->Prop)(m5:Nat×Nat×Nat×Nat×Nat×MH
 ×PH->Nat),(∃(x:Nat×Nat×Nat×Nat×Nat×MH×PH),aA (I x) (aJ p) (aA (dD b x.2.1) (dD b1 x.2.2.1) (aA (dD b2 (mS x)) (dD b3 (mT x)) (aA (aJ p) (bK p) (aH (bA x.1) (bH m4 (pU x).2) (h=pJ x) True)))))/\∀(x:Nat×Nat×Nat×Nat×Nat×MH×PH),I x->aW (↑x.1:Int) (aG p) (bD (λb4 o=>aH (bE p.a b4 o) (0<=(↑x.1:Int)) ((↑x.1:Int)<aG p) (∃(y1:Int),aM (dH (pU x)) (pJ x) b4 (bI o x.1 1) (bV y1)/\Mj y1 3 (Mj y1 4 (Mj y1 5 (gQ (λc E=>aA (tX (dH (pU x)) (mS x) (fA c E 0)) (fL 0 c) (∀(m6:MH),bG (dH (pU x)) m6 (mS x) (eY tY 1 c) E->gQ (λc1 E1=>aA (tX m6 (mT x) (fA c1 E1 0)) (fL 0 c1) (∀(m7:MH),bG m6 m7 (mT x) (eY (eH 1) 1 c1) E1->iD m7 (pJ x)
 (mS x) 0 (λy2=>∃(y3:Int),aM m7 (pJ x) (mT x) 0 (bV y3)/\K (CV.tup (aZ (lR y2) y3)) m7 (pJ x))))))) (λx1=>aA (I x1) (m5 x1<m5 x) (aA (aJ p) (dD x.2.1 x1.2.1) (aA (dD x.2.2.1 x1.2.2.1) (dD (mS x) (mS x1)) (aA (dD (mT x) (mT x1)) (aJ p) (aA (bK p) (fU (bF x.1 1)=bT x1.1) (aA (bH (dH (pU x)) (pU x1).2) (pJ x=pJ x1) True))))))) (λx1=>aA (I x1) (m5 x1<m5 x) (aA (aJ p) (dD x.2.1 x1.2.1) (aA (dD x.2.2.1 x1.2.2.1) (dD (mS x) (mS x1)) (aA (dD (mT x) (mT x1)) (aJ p) (aA (bK p) (fU (bF x.1 1)=bT x1.1) (aA (bH (dH (pU x)) (pU x1).2) (pJ x=pJ x1) True))))))) (λx1=>aA (I x1) (m5 x1<m5 x) (aA (aJ p) (dD x.2.1 x1.2.1) (aA (dD x.2.2.1 x1.2.2.1) (dD (mS
 x) (mS x1)) (aA (dD (mT x) (mT x1)) (aJ p) (aA (bK p) (fU (bF x.1 1)=bT x1.1) (aA (bH (dH (pU x)) (pU x1).2) (pJ x=pJ x1) True))))))))) (∀(b4:Nat)(m6:MH),aT (cG (dH (pU x)) (pJ x) b4) (bG (dH (pU x)) m6 b4 (iE bU) 3) (gQ (λc E=>aA (tX m6 b4 (fA c E 0)) (fL 0 c) (∀(m7:MH),bG m6 m7 b4 (eY bU 1 c) E->∃(y1:QV),aM m7 (pJ x) x.2.2.1 0 y1.enc/\∃(v2:QV),jP (eA (bJ y1) (bJ v2)) (λb5=>∀(h1:PH),cY (pJ x) h1 (aX h1 b5 0 v2.enc) (∃(S:PH->List Value->List (List Value)->Prop)(x1:List (Int×QV))(I1:Nat->MH->PH->Prop),aA (Ca Proofs.Tryz.prog 114 S) (S h1 (iE (PD b5 0)) (List.map (fun(x2:Int×QV)=>jI (eH x2.1) (Value.agg (Array.mk x2.2.enc))) x1)) (aA (I1 0 m7 h1) (∀(k:Nat)(e
 :Int)(e1:QV),fM (λm8 h2=>aT (x1[k]? =Option.some (e,e1)) (PH.le h1 h2) (I1 k m8 h2->sW m8 h2 b4 0 (λy2=>gQ (λc1 E1=>aA (tX m8 b4 (fA c1 E1 0)) (fL 0 c1) (∀(m9:MH),bG m8 m9 b4 (eY (eH (eC (y2+1))) 1 c1) E1->sW m9 h2 b4 0 (λy3=>cV (decide (y3>24)) (gQ (λc2 E2=>aA (tX m9 (mS x) (fA c2 E2 0)) (fL 0 c2) (∀(a:MH),bG m9 a (mS x) (eY tY 1 c2) E2->gQ (λc3 E3=>aA (tX a (mT x) (fA c3 E3 0)) (fL 0 c3) (∀(a1:MH),bG a a1 (mT x) (eY (eH 2) 1 c3) E3->False))))) (decide (e>8)) (gQ (λc2 E2=>aA (tX m9 (mS x) (fA c2 E2 0)) (fL 0 c2) (∀(a:MH),bG m9 a (mS x) (eY tY 1 c2) E2->gQ (λc3 E3=>aA (tX a (mT x) (fA c3 E3 0)) (fL 0 c3) (∀(a1:MH),bG a a1 (mT x) (eY (eH 2) 1 c3)
 E3->False))))) (I1 (k+1) m9 h2)))))))) (fM (λm8 h2=>cY h1 h2 (I1 x1.length m8 h2) (∃(y2:cH),aM m8 h2 x.2.1 0 (dU y2)/\∃(y3:QV),aM m8 h2 x.2.2.1 0 y3.enc/\Et y2 p y3 h2 (λv3 s1 p1 q=>aA (dC h2 q v3) (oK q N) (∀(s2:Sl)(h3:PH),cY h2 h3 (Ints h3 s2 (bY s1 p1 q).1) (gQ (λc1 E1=>aA (tX m8 (mS x) (fA c1 E1 0)) (fL 0 c1) (∀(m9:MH),bG m8 m9 (mS x) (eY (dV s2) 1 c1) E1->gQ (λc2 E2=>aA (tX m9 (mT x) (fA c2 E2 0)) (fL 0 c2) (∀(a:MH),bG m9 a (mT x) (eY (eH (bY s1 p1 q).2) 1 c2) E2->iD a h3 (mS x) 0 (λy4=>∃(y5:Int),aM a h3 (mT x) 0 (bV y5)/\K (CV.tup (aZ (lR y4) y5)) a h3)))))))))))))))))))))))))
mutual
theorem JH:∀(p:Query)(n:Nat),nC p n=false->JF p<=n
 |.mk _ _ _ _ _ _ _ _ args,0,h=>by simp[nC]at h
 |.mk _ _ _ _ _ _ _ _ args,n+1,h=>by
  simp only[nC]at h;have:=Hb args n h;simp only[JF];omega
theorem Hb:∀(ps:List Query)(n:Nat),wQ ps n=false->BY ps<=n
 |[],_,_=>by simp[BY]
 |p::ps,n,h=>by
  simp only[wQ,Bool.or_eq_false_iff]at h;have h1:=JH p n h.1;have h2:=Hb ps n h.2;simp only[BY];omega
end
mutual
theorem qB.deep{h:PH}:∀{q:Query}{v:QV}{d:Nat}{es:List (Nat×QV)},qB h q v d es->∀e∈es,e.1<d+JF q
 |.mk op ta _ _ _ _ _ _ args,v,d,es,w,e,he=>by
  rw[qB]at w;obtain⟨vs,ess,h1,h2,rfl⟩:=w;simp only[JF];rcases List.mem_cons.1 he with rfl|he
  .show d<_;omega
  .have:=gY.deep h2 e he;omega
theorem gY.deep{h:PH}:∀{qs:List Query}{vs:List QV}{d:Nat}{es:List (Nat×QV)},gY h qs vs d es->∀e∈es,e.1<d+BY qs
 |[],vs,d,es,w,e,he=>by rw[gY]at w;rw[w.2]at he;simp at he
 |q::qs,vs,d,es,w,e,he=>by
  rw[gY]at w;obtain⟨v,vs',e1,e2,h1,h2,h3,h4,rfl⟩:=w;simp only[BY];rcases List.mem_append.1 he with he|he
  .have:=qB.deep h3 e he;omega
  .have:=gY.deep h4 e he;omega
end
theorem UL{m mx:MH}{h hx:PH}{b6 b7:Nat}{x6 x7:Value}{sl:Sl}{e:Int}{K:CV->MH->PH->Prop}(h67:b6≠b7)(n6:m b6=none)(n7:m b7=none)(a6:mx b6=some (.cells #[x6] 33 (0,0)))(a7:mx b7=some (.cells #[x7] 54 (0,0)))(s:Sub m mx)(le:PH.le h hx)(hK:K (.tup [cS sl,cI e]) m hx):
 ∃(cs:Array Value)(E:TypeId),tX mx b6 (.cells cs E (0,0))/\0<cs.size/\∀m':MH,jG mx m' b6 (.cells (Array.mk (dV sl::cs.toList.drop 1)) E (0,0))->∃(cs:Array Value)(E:TypeId),tX m' b7 (.cells cs E (0,0))/\0<cs.size/\∀m2:MH,jG m' m2 b7 (.cells (Array.mk (eH e::cs.toList.drop 1)) E (0,0))->∃y:Sl,aM m2 hx b6 0 [dV y]/\∃y1:Int,aM m2 hx b7 0 [eH y1]/\dA h K (.tup [cS y,cI y1]) m2 hx:=by
 refine⟨_,_,⟨a6⟩,by simp,λm1 u1=>⟨_,_,⟨by rw[u1.other b7 (Ne.symm h67)];exact a7⟩,by simp,λm2 u2=>⟨sl,.of_m (by rw[u2.other b6 h67];exact u1.at_) rfl,e,.of_m u2.at_ rfl,λ_=>⟨m,hx,λb o e2=>?_,le,λb i v e2=>.inl e2,hK⟩⟩⟩⟩;rw[u2.other b (λe3=>by rw[e3,n7]at e2;cases e2),u1.other b (λe3=>by rw[e3,n6]at e2;cases e2)];exact s b o e2
theorem f55q_sound:Sound Tryz.prog 55 B6:=by
 refine Dn Tryz.func55 ?_;rintro cvs m h K ⟨sc,p,v,s,ps,q,rfl,hs,hp,hq,hsm,hK⟩;refine⟨f55q_ctx p (SizeOf.sizeOf q+1),rfl,aD KH (aD Ji (aD (TH _) aF)),f55q_nice sc p v (SizeOf.sizeOf q+1) m h (dA h K),by kernel_rfl,?_⟩;show f55q_nice sc p v (SizeOf.sizeOf q+1) m h (dA h K);dsimp only[f55q_nice,push_cast];have hl:=hp.slen;have hlen:=hp.len;have hcn:=Cg hsm;have hdp:JF q<=8:=JH q 8 (by simp only[lF,Bool.and_eq_true,Bool.not_eq_true']at hsm;exact hsm.2);unfold fB at hK;rw[if_pos hsm]at hK;intro b3 m1 u1 w1 b5 m2 u2 w2 b6 m3 u3 w3 b7 m4 u4 w4;obtain⟨s1,n3⟩:=gP (Sub.refl m) u1 w1;obtain⟨s2,n5⟩:=gP s1 u2 w2;obtain⟨s3,n6⟩:=gP s2 u3 w3;obtain⟨s4,n7⟩:=gP s3 u4 w4;have up:∀{ma mb:MH}{b:Nat}{o:Obj}{hh:PH},cG ma hh b->jG ma mb b o->∀{x o'},ma x=some o'->mb x=some o':=fun{ma mb b o hh} u w{x o'} e=>by rw[w.other x (λe2=>by rw[e2,u.m_]at e;cases e)];exact e
 have a3:=up u4 w4 (up u3 w3 (up u2 w2 w1.at_));have a5:=up u4 w4 (up u3 w3 w2.at_);have a6:=up u4 w4 w3.at_;have a7:=w4.at_;have d67:b6≠b7:=λe=>by have e2:=w3.at_;rw[e,u4.m_]at e2;cases e2
 refine⟨sc,.of_m a3 rfl,sc,s,rfl,hs,aB (λh1=>?_) (λh1=>?_)⟩
 .rw[if_neg (by simpa using h1)]at hK;exact UL (sl:=cE) d67 n6 n7 a6 a7 s4 (.refl _) (hK cE h (.refl _) (kQ h))
 have h1:eJ s=0:=by simpa using h1
 rw[if_pos h1]at hK;refine⟨λz=>z.2=(b3,b5,b6,b7,m4,h)/\z.1<=ps.length/\(ps.take z.1).all dR=true,λz=>ps.length-z.1,⟨(0,b3,b5,b6,b7,m4,h),⟨rfl,by simp,by simp⟩,MT⟩,?_⟩;rintro⟨i,z⟩ ⟨ez,hi,hall⟩;dsimp only at ez hi hall;subst ez;dsimp only;refine aE (λhlt=>?_) (λhge=>?_)
 .obtain⟨x,hx⟩:=eW hl hlt;obtain⟨b,o,e,r⟩:=hp.at' hx;have good:dR x=true->(ps.take (i+1)).all dR=true:=λhc=>by rw[wT hx,hall,hc];rfl
  have hw:IntKind.i64.wrap ((i:Int)+1)=((i+1:Nat):Int):=iT aC;have go:dR x=true->((i+1,b3,b5,b6,b7,m4,h):Nat×Nat×Nat×Nat×Nat×MH×PH).2=(b3,b5,b6,b7,m4,h)/\i+1<=ps.length/\(ps.take (i+1)).all dR=true:=λhc=>⟨rfl,aC,good hc⟩
  rw[hw];refine⟨b,o,e,aC,hlt,x,.imm r,aB (λc1=>aB (λc2=>aB (λc3=>?_) (λc3=>⟨(i+1,b3,b5,b6,b7,m4,h),go ?_,by show ps.length-(i+1)<ps.length-i;omega,MT⟩)) (λc2=>⟨(i+1,b3,b5,b6,b7,m4,h),go ?_,by show ps.length-(i+1)<ps.length-i;omega,MT⟩)) (λc1=>⟨(i+1,b3,b5,b6,b7,m4,h),go ?_,by show ps.length-(i+1)<ps.length-i;omega,MT⟩)⟩
  .have:dR x=false:=by simp_all [dR]
   rw[if_neg (λe=>by rw[yH hx this]at e;cases e)]at hK;exact UL (sl:=cE) d67 n6 n7 a6 a7 s4 (.refl _) (hK cE h (.refl _) (kQ h))
  .simp_all [dR]
  .simp_all [dR]
  .simp_all [dR]
 rw[List.take_of_length_le aC]at hall;rw[if_pos hall]at hK;intro b11 m5 u5 w5;refine⟨_,_,⟨w5.at_⟩,by simp,λm6 w6=>?_⟩
 have k6:∀{x o'},m4 x=some o'->m6 x=some o'/\x≠b11:=fun{x o'} e=>by
  have:x≠b11:=λe2=>by rw[e2,u5.m_]at e;cases e
  exact⟨by rw[w6.other x this];exact up u5 w5 e,this⟩
 refine⟨v,.of_m (k6 a5).1 rfl,v,rfl,λbw h1' le1 hbw=>?_⟩;obtain⟨es,hw⟩:=qB.of (hq.mono le1) 1;have hes:=hw.small;have hdeep:=hw.deep;refine⟨H9,es.map λe=>((e.1:Int),e.2),λk mx hx=>hx=h1'/\zW m6 mx b11/\mx b11=some (.cells #[eH (k:Nat)] 3 (0,0)),R5,⟨bw,v,q,es,rfl,hbw,hw,aC,by rw[List.map_map];rfl⟩,⟨rfl,λx o e _=>e,w6.at_⟩,?_,?_⟩
 .rintro k d e' mx hx hk-⟨rfl,hsx,hb11⟩
  rw[List.getElem?_map]at hk;cases hek:es[k]? with
  |none=>rw[hek]at hk;cases hk
  |some e=>
   rw[hek]at hk;simp only[Option.map_some,Option.some.injEq,Prod.mk.injEq]at hk;obtain⟨rfl,rfl⟩:=hk;have hkl:=(List.getElem?_eq_some_iff.1 hek).1;have hde:=hdeep e (List.mem_of_getElem? hek);have hw2:IntKind.i64.wrap ((k:Int)+1)=((k+1:Nat):Int):=iT aC;refine⟨k,.of_m hb11 rfl,_,_,⟨hb11⟩,by simp,λm7 w7=>⟨((k+1:Nat):Int),?_,aE (λhgt=>by omega) (λ_=>aE (λhgt=>by omega) (λ_=>⟨rfl,λx o e1 e2=>by rw[w7.other x e2];exact hsx x o e1 e2,?_⟩))⟩⟩
   .rw[<-hw2];exact .of_m w7.at_ rfl
   .rw[<-hw2];exact w7.at_
 .rintro mx hx-⟨rfl,hsx,hb11⟩
  have kx:∀{x o'},m4 x=some o'->mx x=some o':=fun{x o'} e=>hsx x o' (k6 e).1 (k6 e).2;refine⟨sc,.of_m (kx a3) rfl,v,.of_m (kx a5) rfl,sc,p,v,s,ps,q,rfl,hs.mono le1,sA h1,hp.mono le1,hq.mono le1,aC,λsl h7 le7 hi7=>?_⟩;exact UL d67 n6 n7 (kx a6) (kx a7) (λx o e=>kx (s4 x o e)) (le1.trans le7) (hK sl h7 (le1.trans le7) hi7)
noncomputable def FD(s:oF)(st:List (List (List VV)))(q:Query):List (List VV)×Int:=
 if(fB s [] q).2≠0 then([],(fB s [] q).2)else if p7 s st≠0 then([],p7 s st)else(Ir st q,0)
def LP(st:List (List (List VV)))(q:Query):Prop:=∃c,1<=c/\(∀l∈st,l.length<=c)/\lO c q<=1000000
structure GC(h:PH)(sl:Sl)(st:List (List (List VV))):Prop where
 lea:Leaves h sl st
 len:st.length<=1000
 val:YT st
theorem GC.mono{sl:Sl}{st:List (List (List VV))}(x:GC h sl st)(le:PH.le h h'):GC h' sl st:=⟨bL.mono x.lea le λl s hr=>bL.mono hr le λr t hv=>cA.mono hv le,x.len,x.val⟩
def SE:Vc.Spec:=λcvs m h K=>∃v s sl st w q,cvs=[aS v,XW sl,aQ w]/\gJ h s v/\GC h sl st/\dC h q w/\lF q=true/\jA m/\((fB s [] q).2=0->p7 s st=0->LP st q)/\∀s' h',PH.le h h'->Rows h' s' (FD s st q).1->K (.tup [cS s',cI (FD s st q).2]) m h'
def Yh:Vc.Spec:=λcvs m h K=>∃v s sl st w q,cvs=[aS v,XW sl,aQ w]/\gJ h s v/\GC h sl st/\dC h q w/\lF q=true/\jA m/\((fB s [] q).2=0->p7 s st=0->LP st q)/\∀s' h',PH.le h h'->Rows h' s' (FD s st q).1->K (cS s') m h'
def X4:Vc.Spec:=λcvs m h K=>∃o v w,cvs=[cI o,aQ v,aQ w]/\∀s h',PH.le h h'->cN h' s 21 [v.enc,w.enc]->K (aQ ⟨o,0,hP,cE,cE,cE,cE,0,s⟩) m h'
def SK:Vc.Spec:=λcvs m h K=>∃n,cvs=[cI n]/\K (aV ⟨4,n,⟨#[]⟩⟩) m h
noncomputable def Xl(w:QV)(sl:Sl):Ctx:=dL [(55,B6),(56,Hg),(57,RE),(58,M3)]
 [(10,{A:=Nat×List Sl×Sl×MH×PH,st:=λ⟨i,us,s,m,h⟩=>cD 54 57 [(4,.at (.ptr 4 0)),(5,.at (.ptr 5 0)),(12,.at (.lst 34)),(35,sv s),(36,iv s.len),(37,iv i)] [(4,.cells 25 [.val (.slice sl.a sl.len sl.cap)]),(5,.cells 38 (w.enc.map .val)),(34,.lst 53 1 (us.map eS))] m h})] [] [] false
abbrev EM(a:PH)(b:Query)(c:Sl->PH->Prop):Prop:=∀(x:Sl)(x1:PH),cY a x1 (Ints x1 x (eK b)) (c x x1)
abbrev qM(a:List At):Prop:=eQ (oQ 25 a)
attribute [push_cast] EM qM
def OW(v:cH)(sl:Sl)(w:QV)(m:MH)(h:PH)(K:CV->MH->PH->Prop):Prop:=
  Cz (bP (dU v) (cR lN (bJ w))) h (λs p q=>dT (lF q)/\∀(s1:Sl)(h1:PH),cY h h1 (Ints h1 s1 (fB s p q).1) (eE (fB s p q).2 0 (K (CV.tup (cR lN (CV.val (eH (fB s p q).2)))) m h1) (jM (λv1 s2=>yW (λs3 s4=>aA (bP (dU v) (cR (eZ 3) (mM (aL sl)))=bP (dU v1) (cR (eZ 3) (mM (aL s3)))) (gJ h1 s2 v1) (aA (Leaves h1 s3 s4) (mG s4.length) (eE (p7 s2 s4) 0 (K (CV.tup (aZ lN (p7 s2 s4))) m h1) (kC (λv2 q1=>aH (eA (bJ w) (bJ v2)) (dC h1 q1 v2) (pB q1<=900000) (EM h1 q1 (λs5 h2=>HM s5 (HI (λI x=>aA (I x) (eP 4) (aA (eP 5) (eL 34) (aA (bB s5 (dW x)) (bZ s5 (dW x)) (aA (bA x.1) (qM (jH (tU sl))) (aA (dP w) (CL 53 1 (aG s5) hX (jE x)) (aA (bH m x.2.2.2)
 (h2=iW x) True)))))) (λI m1 x=>I x->aW (↑x.1:Int) (aG (dW x)) (bD (λb o=>aH (bE (dW x).a b o) (0<=(↑x.1:Int)) ((↑x.1:Int)<aG (dW x)) (∃(y:Int),aM (pK x) (iW x) b (bI o x.1 1) (bV y)/\dG sl.a y sl (λb1 o1 y1=>aH (aM (pK x) (iW x) b1 (fR o1 y 1) (aL y1)) (0<=(↑x.1:Int)) ((↑x.1:Int)<jW (jE x)) (∃(e:List Value),IV (tP (jE x) (pM x.1) e) (0<e.length) (λx1=>aA (I x1) (m1 x1<m1 x) (aA (eP 4) eT (aA (eL 34) (bB (dW x) (dW x1)) (aA (bZ (dW x) (dW x1)) (fU (bF x.1 1)=bT x1.1) (aA (qM (jH (tU sl))) (dP w) (aA (Option.some (Own.lst 53 1 (List.set (jE x) (pM x.1) (dV y1::List.drop 1 e)))=Option.some (Own.lst 53 1 (jE x1))) (bH (pK x) x1.2.2.2) (bN (iW x)
 (iW x1))))))))))))) (bX (iW x) 1 (jE x) (λs6 h3=>∃(l:Sl)(v3:QV)(l1:List (List (List VV)))(q2:Query),aA (fF s6 (bJ w)=fF l (bJ v3)) (Leaves h3 l l1) (aA (dC h3 q2 v3) (R2 l1 q2 0) (aH (jA (pK x)) ((iH l1 q2 0).1.length<=1000000) (AG (iH l1 q2 0).1 (λr=>wI r)) (∀(s7:Sl)(h4:PH),cY h3 h4 (Rows h4 s7 (iH l1 q2 0).1) (K (CV.tup (aZ (lR s7) 0)) (pK x) h4)))))))))))))))))))
abbrev EK(a:oF)(b:Query):Prop:=(fB a [] b).2=0
attribute [push_cast] EK
def U6(v:cH)(sl:Sl)(w:QV)(m:MH)(h:PH)(K:CV->MH->PH->Prop):Prop:=
  jM (λv1 s=>yW (λs1 s2=>kC (λw1 q=>aA (bP (dU v) (cR (mM (aL sl)) (bJ w))=bP (dU v1) (cR (mM (aL s1)) (bJ w1))) (gJ h s v1) (aA (GC h s1 s2) (dC h q w1) (aH (dT (lF q)) (jA m) (aT (EK s q) (p7 s s2=0) (LP s2 q)) (lD h (FD s s2 q).1 K m))))))
def U7(o:Int)(v w:QV)(m:MH)(h:PH)(K:CV->MH->PH->Prop):Prop:=
  bX h 21 (v.enc::cQ w.enc) (λs h1=>K (mM (AR o (sE tY (yR (aL s))))) m h1)
noncomputable abbrev sV(a:Int):List Value:=aR (eH 4) (eH a) wL
attribute [push_cast] sV
def U4(n:Int)(m:MH)(h:PH)(K:CV->MH->PH->Prop):Prop:=
  K (mM (sV n)) m h
mutual
theorem zD:∀q:Query,(eK q).length<=pB q
 |.mk op ta _ _ _ _ _ _ args=>by
  have:=It args;rw[eK,pB,List.length_append];split<;>simp<;>omega
theorem It:∀qs:List Query,(cT qs).length<=rN qs
 |[]=>by simp[cT,rN]
 |q::qs=>by
  have:=zD q;have:=It qs;rw[cT,rN,List.length_append];omega
end
theorem F6:Sound Tryz.prog 21 SE:=by
 refine gZ Tryz.func21 ?_;rintro cvs m h K ⟨v,s,sl,st,w,q,rfl,hs,hst,hq,hsm,hT,hb,hK⟩;refine⟨Xl w sl,rfl,aD f55q_sound (aD f56_sound (aD f57_sound (aD f58_sound aF))),OW v sl w m h K,by kernel_rfl,?_⟩;dsimp only[OW,push_cast];unfold FD at hK;refine⟨v,cE,w,s,[],q,rfl,hs,kQ h,hq,hsm,λsl1 h1 le1 _=>aB (λe=>?_) (λe=>?_)⟩
 .rw[if_pos (by simpa using e)]at hK;exact hK ⟨none,0,0⟩ h1 le1 (bL.nil _ _ _ _)
 have e:(fB s [] q).2=0:=by simpa using e
 rw[if_neg (by simp[e])]at hK;refine⟨v,s,sl,st,rfl,hs.mono le1,(hst.mono le1).lea,hst.len,aB (λe2=>?_) (λe2=>?_)⟩
 .rw[if_pos (by simpa using e2)]at hK;exact hK ⟨none,0,0⟩ h1 le1 (bL.nil _ _ _ _)
 have e2:p7 s st=0:=by simpa using e2
 rw[if_neg (by simp[e2])]at hK;dsimp only at hK;obtain⟨c,c1,c2,c3⟩:=hb e e2;obtain⟨_,_,_,hkz⟩:=w8 e;have hkq:bY s [] q=((bY s [] q).1,0):=Prod.ext rfl hkz;obtain⟨ok,ev,rel,len⟩:=UG e2 hst.val c2 c1 hkq c3;have hcnt:=Cg hsm;have hsl:=zD q;have hin:=Bw hkq;have htl:=(Nw e2).2.1;refine⟨w,q,rfl,hq.mono le1,aC,λs' h2 le2 hi=>?_⟩;have hil:=hi.slen;have hst2:=hst.mono (le1.trans le2);have hstl:=bL.slen hst2.lea;generalize hts:eK q=ts at hi hil hsl hin;refine⟨aC,aC,aC,aC,λz=>z.1<=ts.length/\z.2.2.1=s'/\z.2.2.2.1=m/\z.2.2.2.2=h2/\∃us,z.2.1=us++List.replicate (ts.length-z.1) ⟨none,0,0⟩/\us.length=z.1/\∀(j:Nat) u t,us[j]? =some u->ts[j]? =some t->Rows h2 u (st.getD t.toNat []),λz=>ts.length-z.1,⟨(0,List.replicate ts.length ⟨none,0,0⟩,s',m,h2),⟨by simp,rfl,rfl,rfl,[],by simp,rfl,λj u t h=>by simp at h⟩,?_⟩,?_⟩
 .rw[show((s'.len:Int)).toNat=ts.length by omega];dsimp only;rw[List.map_replicate];exact MT
 rintro⟨i,l,s2,m2,h3⟩ ⟨hi1,e3,e4,e5,us,hl,hul,hrow⟩;dsimp only at hi1 e3 e4 e5 hl hul hrow⊢
 subst e3 e4 e5;refine aE (λhlt=>?_) (λhge=>?_)
 .obtain⟨t,hx⟩:=eW hil hlt;obtain⟨b,o,ea,rd⟩:=hi.at' hx;have ht:=hin t (List.mem_of_getElem? hx);have htn:t.toNat<st.length:=by omega
  have e6:st[t.toNat]? =some (st.getD t.toNat []):=by rw[List.getD_eq_getElem?_getD,List.getElem?_eq_getElem htn];rfl
  obtain⟨b2,o2,u,ea2,rd2,hr⟩:=bL.at hst2.lea e6;have hll:l.length=ts.length:=by rw[hl,List.length_append,List.length_replicate];omega
  have hev:l[i]? =some ⟨none,0,0⟩:=by
   rw[hl,List.getElem?_append_right aC,List.getElem?_replicate,if_pos aC]
  refine⟨b,o,ea,aC,aC,t,.imm rd,b2,o2,ea2,ht.1,aC,u,.imm rd2,aC,by rw[List.length_map];omega,[tY],by rw[List.getElem?_map,show((i:Int)).toNat=i from rfl,hev];rfl,by simp,(i+1,l.set i u,s2,m2,h3),⟨by show i+1<=ts.length;omega,rfl,rfl,rfl,us++[u],?_,by simp[hul],λj u' t' h7 h8=>?_⟩,by show ts.length-(i+1)<ts.length-i;omega,?_⟩
  .dsimp only;rw[hl,List.set_append,if_neg aC,List.append_assoc];congr 1;rw[show ts.length-i=(ts.length-(i+1))+1 by omega,List.replicate_succ,show i-us.length=0 by omega];rfl
  .by_cases hj:j<us.length
   .rw[List.getElem?_append_left hj]at h7;exact hrow j u' t' h7 h8
   .rw[List.getElem?_append_right aC]at h7;have:j-us.length=0:=by have:=(List.getElem?_eq_some_iff.1 h7).1;simp at this;omega
    rw[this]at h7;simp at h7;subst h7;have:j=i:=by omega
    subst this;rw[hx]at h8;cases h8;exact hr
  .dsimp only
   have e9:((l.map eS).set ((i:Int)).toNat (dV u::List.drop 1 [tY]))=(l.set i u).map eS:=by
    rw[List.map_set];rfl
   rw[e9,iT aC];exact MT
 .have:i=ts.length:=by omega
  subst this;rw[Nat.sub_self,List.replicate_zero,List.append_nil]at hl;subst hl;intro s3 h4 le4 hri;refine⟨s3,w,jN st q,q,rfl,⟨⟨l,hri,by rw[jN,List.length_map,hts,hul],λi x hx=>?_⟩,by rw[jN,List.length_map,hts];omega⟩,hq.mono ((le1.trans le2).trans le4),ok,hT,by rw[ev];exact len,λr hr=>?_,λs5 h5 le5 hr=>hK s5 h5 (((le1.trans le2).trans le4).trans le5) (by rw[<-ev];exact hr)⟩
  .rw[jN,hts,List.getElem?_map]at hx;cases e7:ts[i]? with
   |none=>rw[e7]at hx;cases hx
   |some t=>
    rw[e7]at hx;simp only[Option.map_some,Option.some.injEq]at hx;subst hx;have hil2:=(List.getElem?_eq_some_iff.1 e7).1;exact⟨l[i],List.getElem?_eq_getElem aC,bL.mono (hrow i _ t (List.getElem?_eq_getElem aC) e7) le4 λr t hv=>cA.mono hv le4⟩
  .rw[ev]at hr;have:=(rel.row r hr).len;omega
theorem TU:Sound Tryz.prog 29 Yh:=by
 refine gZ Tryz.func29 ?_;rintro cvs m h K ⟨v,s,sl,st,w,q,rfl,hs,hst,hq,hsm,hT,hb,hK⟩;refine⟨dL [(21,SE)] [] [] [] false,rfl,aD F6 aF,U6 v sl w m h K,by kernel_rfl,?_⟩;exact⟨v,s,sl,st,w,q,rfl,hs,hst,hq,hsm,hT,hb,hK⟩
theorem TV:Sound Tryz.prog 27 X4:=by
 refine gZ Tryz.func27 ?_;rintro cvs m h K ⟨o,v,w,rfl,hK⟩;refine⟨dL [] [] [] [] false,rfl,aF,U7 o v w m h K,by kernel_rfl,?_⟩;exact hK
theorem TM:Sound Tryz.prog 61 SK:=by
 refine gZ Tryz.func61 ?_;rintro cvs m h K ⟨n,rfl,hK⟩;refine⟨dL [] [] [] [] false,rfl,aF,U4 n m h K,by kernel_rfl,?_⟩;exact hK
def RL:Vc.Spec:=λcvs m h K=>∃s r,cvs=[cS s]/\cA h s r/\r.length<=1000/\∀s' h',PH.le h h'->cA h' s' r->K (cS s') m h'
def Wh:Vc.Spec:=λcvs m h K=>∃v s t sl r,cvs=[aS v,cI t,cS sl]/\gJ h s v/\cA h sl r/\r.length<=1000/\∀s' h',PH.le h h'->cA h' s' (EU s t r)->K (cS s') m h'
def M9(key:Int)(ks:List Int)(r:List VV):Prop:=r.length=ks.length/\(∀v∈r,Hn v)/\∀(i:Nat) v k,r[i]? =some v->ks[i]? =some k->uP key k i v=true
def YV:Vc.Spec:=λcvs m h K=>∃cb s key ks,cvs=[cP cb,cS s,cI key,cI 3]/\aK m h cb/\Ints h s ks/\ks.length<=1000/\(∀k∈ks,k=3\/k=4\/k=5)/\∀s' r m' h',PH.le h h'->cA h' s' r->M9 key ks r->bC m m' cb->aK m' h' cb->K (cS s') m' h'
def Uu(m:MH)(tb:Nat)(us:List Sl):Prop:=∃cur:Array Value,m tb=some (.cells cur 53 (0,0))/\us.length<=cur.size/\cur.toList.take us.length=us.map Sl.val
def YX:Vc.Spec:=λcvs m h K=>∃v s tb n cap us u,∃t:Nat,∃tab rs sk kr sr row,cvs=[aS v,XW ⟨some ⟨tb,0,none⟩,n,cap⟩,cI t,cS sk,cS sr]/\gJ h s v/\s.tables[t]? =some tab/\Uu m tb us/\n=us.length/\us[t]? =some u/\Rows h u rs/\rs.length<=1000/\(∀r∈rs,r.length<=1000)/\cA h sk kr/\cA h sr row/\0<row.length/\row.length<=1000/\
 ∀u' m' h',PH.le h h'->Rows h' u' (wG tab kr row false rs)->Uu m' tb (us.set t u')->bC m m' tb->K (XW ⟨some ⟨tb,0,none⟩,n,cap⟩) m' h'
noncomputable def Xc(cb:Nat)(key:Int)(s:Sl):Ctx:=dL [(16,J1),(77,MY)]
 [(3,{A:=Nat×List VV×MH×PH,st:=λ⟨i,l,m,h⟩=>cD 59 63 [(0,pv cb),(2,iv key),(3,iv 3),(9,.at (.lst 24)),(12,sv s),(13,iv s.len),(14,iv i)] [(24,.lst 27 3 (l.map VV.enc))] m h})] [] [] false
noncomputable def W9(v:cH)(sl:Sl)(t:Nat)(sk sr:Sl)(m:MH):Ctx:=dL [(46,Wh),(62,Hi),(53,RL)]
 [(4,{A:=Nat×List Sl×Bool×Sl×PH,st:=λ⟨i,us,d,u,h⟩=>cD 66 71 [(2,iv t),(3,sv sk),(4,sv sr),(5,.at (.ptr 5 0)),(6,.at (.ptr 6 0)),(10,.at (.ptr 10 0)),(11,.at (.lst 45)),(12,bv d),(23,sv u),(24,iv u.len),(25,iv i)] [(5,.cells 43 (v.enc.map .val)),(6,.cells 25 [.val sl.val]),(10,.cells 25 [.val cE.val]),(45,.lst 74 1 (us.map eS))] m h})]
 [(9,{A:=Nat×List Sl×Bool×Sl×Sl×Int×PH,st:=λ⟨i,us,d,u,r,c,h⟩=>cD 66 71 [(2,iv t),(3,sv sk),(4,sv sr),(5,.at (.ptr 5 0)),(6,.at (.ptr 6 0)),(10,.at (.ptr 10 0)),(11,.at (.lst 45)),(12,bv d),(14,sv r),(15,iv c),(23,sv u),(24,iv u.len),(25,iv i)] [(5,.cells 43 (v.enc.map .val)),(6,.cells 25 [.val sl.val]),(10,.cells 25 [.val cE.val]),(45,.lst 74 1 (us.map eS))] m h}),
  (14,{A:=List Sl×PH,st:=λ⟨us,h⟩=>cD 66 71 [(2,iv t),(6,.at (.ptr 6 0)),(10,.at (.ptr 10 0)),(11,.at (.lst 45))] [(6,.cells 25 [.val sl.val]),(10,.cells 25 [.val cE.val]),(45,.lst 74 1 (us.map eS))] m h})] [] false
def f53_nice(s:Sl)(m:MH)(h:PH)(K:CV->MH->PH->Prop):Prop:=
  ∃(y:List (List Value)),lZ 3 y (cN h (cZ s) 3 y) (iA (y.length*32)) y.length (bX h 3 y (λs1 h1=>K (lR s1) m h1))
def OG(v:cH)(t:Int)(s:Sl)(m:MH)(h:PH)(K:CV->MH->PH->Prop):Prop:=
  aW t 0 (K lN m h) (gA t (gS v) (K lN m h) (bD (λb o=>aH (bE (oP v) b o) (0<=t) (t<aG v.tables) (∃(y:Int),aH (aM m h b (fR o t 5+2) (bV y)) (0<=ite (oH s y>0) (oH s y) 0) (ite (oH s y>0) (oH s y) 0<=(↑s.cap:Int)) (kE (λs1 r=>aH (eA (CV.val (Value.slice s.a (ite (oH s y>0) (oH s y) 0).toNat s.cap)) (lR s1)) (cA h s1 r) (wI r) (∀(s2:Sl)(h1:PH),cY h h1 (cA h1 s2 r) (K (lR s2) m h1))))))))
noncomputable abbrev oO(a:Nat×List VV×MH×PH):Nat->Nat->Option Value:=a.2.2.2
noncomputable abbrev xU(a:Nat×List VV×MH×PH):Nat->Option Obj:=a.2.2.1
abbrev xF(a:Nat×List VV×MH×PH)(b:(Nat×List VV×MH×PH)->Prop):Prop:=aA (iA (kZ (qS a.2.1) 1*32)) (eF (qS a.2.1)) (∃(x:Nat×List VV×MH×PH),b x)
abbrev xR(a:Prop)(b c d:Nat)(e:Int)(g:Sl)(i j:Nat×List VV×MH×PH)(k:Prop)(l:MH):Prop:=aA a (b<c) (aA (cW d) (eQ (fU e)) (aA lJ (eL 24) (aA (aJ g) (bK g) (aA (fU (bF i.1 1)=bT j.1) k (aA (bH l j.2.2) (oO i=oO j) True)))))
abbrev xE(a:Nat)(b:Nat×List VV×MH×PH)(c:List Value)(d:Nat×List VV×MH×PH):Prop:=Option.some (Own.lst 27 a (qS b.2.1++cQ c))=Option.some (Own.lst 27 a (qS d.2.1))
attribute [push_cast] oO xU xF xR xE
def OJ(cb:Nat)(s:Sl)(key:Int)(m:MH)(h:PH)(K:CV->MH->PH->Prop):Prop:=
  ∃(I:Nat×List VV×MH×PH->Prop)(m1:Nat×List VV×MH×PH->Nat),(∃(x:Nat×List VV×MH×PH),aA (I x) (cW cb) (aA (eQ (fU key)) lJ (aA (eL 24) (aJ s) (aA (bK s) (bA x.1) (aH (Option.some (Own.lst 27 3 [])=Option.some (Own.lst 27 3 (qS x.2.1))) (bH m x.2.2) (h=oO x) True)))))/\∀(x:Nat×List VV×MH×PH),I x->aW (↑x.1:Int) (aG s) (bD (λb o=>aH (bE s.a b o) (0<=(↑x.1:Int)) ((↑x.1:Int)<aG s) (∃(y:Int),aM (xU x) (oO x) b (bI o x.1 1) (bV y)/\cV (decide ((↑x.1:Int)>=key)) (mR cb 5 (xU x) (oO x) (λc r=>∀(m2:MH),aT (bC (xU x) m2 c) (aK m2 (oO x) c) (cV r (xF x (λx1=>xR (I x1) (m1 x1) (m1 x) cb key s x x1 (xE 3 x (aR (eH 2) bU wL) x1) m2)) (decide ((↑x.1:Int)>=key)) (mR cb 5 m2
 (oO x) (λc1 r1=>∀(m3:MH),aT (bC m2 m3 c1) (aK m3 (oO x) c1) (branch r1 (xF x (λx1=>xR (I x1) (m1 x1) (m1 x) cb key s x x1 (xE 3 x (aR (eH 1) bU wL) x1) m3)) (AF cb y m3 (oO x) (λv m4=>xF x (λx1=>xR (I x1) (m1 x1) (m1 x) cb key s x x1 (xE 3 x v.enc x1) m4)))))) (AF cb y m2 (oO x) (λv m3=>xF x (λx1=>xR (I x1) (m1 x1) (m1 x) cb key s x x1 (xE 3 x v.enc x1) m3)))))) (decide ((↑x.1:Int)>=key)) (mR cb 5 (xU x) (oO x) (λc r=>∀(m2:MH),aT (bC (xU x) m2 c) (aK m2 (oO x) c) (branch r (xF x (λx1=>xR (I x1) (m1 x1) (m1 x) cb key s x x1 (xE 3 x (aR (eH 1) bU wL) x1) m2)) (AF cb y m2 (oO x) (λv m3=>xF x (λx1=>xR (I x1) (m1 x1) (m1 x) cb key s x x1 (xE 3 x v.enc x1)
 m3)))))) (AF cb y (xU x) (oO x) (λv m2=>xF x (λx1=>xR (I x1) (m1 x1) (m1 x) cb key s x x1 (xE 3 x v.enc x1) m2)))))) (bX (oO x) 3 (qS x.2.1) (λs1 h1=>K (lR s1) (xU x) h1))
noncomputable abbrev xT(a:Nat×List Sl×Bool×Sl×PH):Bool:=a.2.2.1
noncomputable abbrev oI(a:Nat×List Sl×Bool×Sl×PH):Sl:=a.2.2.2.1
abbrev nX:Prop:=qM (jH JM)
noncomputable abbrev nW(a:Nat×List Sl×Bool×Sl×PH):List (List Value):=lM a.2.1
noncomputable abbrev rD(a:Nat×List Sl×Bool×Sl×PH):Nat->Nat->Option Value:=a.2.2.2.2
abbrev HJ(a:(Nat×List Sl×Bool×Sl×Sl×Int×PH)->Prop)(b:Nat)(c d:Sl)(e:(Nat×List Sl×Bool×Sl×Sl×Int×PH)->Prop):Prop:=∃(x:Nat×List Sl×Bool×Sl×Sl×Int×PH),aA (a x) (eQ (bT b)) (aA (aJ c) (aJ d) (aA eT (eP 6) (aA iM (eL 45) (e x))))
noncomputable abbrev EJ(a:Nat×List Sl×Bool×Sl×Sl×Int×PH):Sl:=a.2.2.2.2.1
noncomputable abbrev EI(a:Nat×List Sl×Bool×Sl×Sl×Int×PH):Int:=a.2.2.2.2.2.1
noncomputable abbrev rC(a:Nat×List Sl×Bool×Sl×Sl×Int×PH):Sl:=a.2.2.2.1
noncomputable abbrev xS(a:Nat×List Sl×Bool×Sl×Sl×Int×PH):List (List Value):=lM a.2.1
noncomputable abbrev CG(a:Nat×List Sl×Bool×Sl×Sl×Int×PH):Nat->Nat->Option Value:=a.2.2.2.2.2.2
attribute [push_cast] xT oI nX nW rD HJ EJ EI rC xS CG
def OH(v:cH)(tb n cap t:Nat)(sk sr:Sl)(m:MH)(h:PH)(K:CV->MH->PH->Prop):Prop:=
  bD (λb o=>aH (bE (jZ tb) b o) (0<=(↑t:Int)) ((↑t:Int)<(↑n:Int)) (∃(y:Sl),aM m h b (bI o t 1) (aL y)/\∃(I:Nat×List Sl×Bool×Sl×PH->Prop)(m1:Nat×List Sl×Bool×Sl×PH->Nat),(∃(x:Nat×List Sl×Bool×Sl×PH),aA (I x) (eQ (bT t)) (aA (aJ sk) (aJ sr) (aA eT (eP 6) (aA iM (eL 45) (aA (gT (aG sr==0) (xT x)) (bB y (oI x)) (aA (bZ y (oI x)) (bA x.1) (aA (bM v) (qM (jH (At.val (Value.slice (jZ tb) n cap)))) (aA nX (Option.some (Own.lst 74 1 [])=Option.some (Own.lst 74 1 (nW x))) (bW (m=m) h (rD x))))))))))/\∀(x:Nat×List Sl×Bool×Sl×PH),I x->aW (↑x.1:Int) (aG (oI x)) (dG (oI x).a (↑x.1:Int) (oI x) (λb1 o1 y1=>aM m (rD x) b1 (bI o1 x.1 1) (aL y1)/\jM (λv1 s
 =>∃(t1:Int),kE (λs1 r=>aA (bP (dU v) (cR (eZ (↑t:Int)) (lR y1))=bP (dU v1) (cR (eZ t1) (lR s1))) (gJ (rD x) s v1) (aA (cA (rD x) s1 r) (wI r) (∀(s2:Sl)(h1:PH),cY (rD x) h1 (cA h1 s2 (EU s t1 r)) (Cw s2 sk h1 (λa b2=>∃(I1:Nat×List Sl×Bool×Sl×Sl×Int×PH->Prop),gA (dY a b2) 0 (branch (!(xT x)) (kE (λs3 r1=>aH (tQ sr s3) (cA h1 s3 r1) (wI r1) (∀(s4:Sl)(h2:PH),cY h1 h2 (cA h2 s4 r1) (aA (j8 (nW x)) (eF (nW x)) (HJ (λx1=>I1 x1) t sk sr (λx1=>aA (uL x1.2.2.1) (bB y1 (EJ x1)) (aA (cL (dY a b2) (EI x1)) (bB (oI x) (rC x1)) (aA (bZ (oI x) (rC x1)) (cC x.1 x1.1) (aA (bM v) (qM (jH (At.val (Value.slice (jZ tb) n cap)))) (aA nX
 (Cx (nW x) s4 (xS x1)) (aA (m=m) (h2=CG x1) True))))))))))) (HJ (λx1=>I1 x1) t sk sr (λx1=>aA (gT (xT x) x1.2.2.1) (bB y1 (EJ x1)) (aA (cL (dY a b2) (EI x1)) (bB (oI x) (rC x1)) (aA (bZ (oI x) (rC x1)) (cC x.1 x1.1) (aA (bM v) (qM (jH (At.val (Value.slice (jZ tb) n cap)))) (aA nX (Cy (nW x) (xS x1)) (aA (m=m) (h1=CG x1) True)))))))) (HJ (λx1=>I1 x1) t sk sr (λx1=>aA (gT (xT x) x1.2.2.1) (bB y1 (EJ x1)) (aA (cL (dY a b2) (EI x1)) (bB (oI x) (rC x1)) (aA (bZ (oI x) (rC x1)) (cC x.1 x1.1) (aA (bM v) (qM (jH (At.val (Value.slice (jZ tb) n cap)))) (aA nX (Cy (nW x) (xS x1)) (aA (m=m) (h1=CG x1) True)))))))/\
 ∀(x1:Nat×List Sl×Bool×Sl×Sl×Int×PH),gG (I1 x1) (EI x1 !=0) (aA (j8 (xS x1)) (eF (xS x1)) (∃(x2:Nat×List Sl×Bool×Sl×PH),aA (I x2) (m1 x2<m1 x) (aA (eQ (bT t)) (aJ sk) (aA (aJ sr) eT (aA (eP 6) iM (aA (eL 45) (gT x1.2.2.1 (xT x2)) (aA (bB (rC x1) (oI x2)) (bZ (rC x1) (oI x2)) (aA (fU (bF x1.1 1)=bT x2.1) (bM v) (aA (qM (jH (At.val (Value.slice (jZ tb) n cap)))) nX (aH (Cx (xS x1) (EJ x1) (nW x2)) (m=m) (CG x1=rD x2) True)))))))))) (∃(x2:Nat×List Sl×Bool×Sl×PH),aA (I x2) (m1 x2<m1 x) (aA (eQ (bT t)) (aJ sk) (aA (aJ sr) eT (aA (eP 6) iM (aA (eL 45) (gT x1.2.2.1 (xT x2)) (aA (bB (rC x1) (oI x2)) (bZ (rC x1) (oI x2)) (aA (fU
 (bF x1.1 1)=bT x2.1) (bM v) (aA (qM (jH (At.val (Value.slice (jZ tb) n cap)))) nX (aH (Cy (xS x1) (nW x2)) (m=m) (CG x1=rD x2) True))))))))))))))))) (∃(I1:List Sl×PH->Prop),branch (!(xT x)) (kE (λs r=>aH (tQ sr s) (cA (rD x) s r) (wI r) (∀(s1:Sl)(h1:PH),cY (rD x) h1 (cA h1 s1 r) (aA (j8 (nW x)) (eF (nW x)) (∃(x1:List Sl×PH),aA (I1 x1) (eQ (bT t)) (aA (eP 6) iM (aA (eL 45) (qM (jH (At.val (Value.slice (jZ tb) n cap)))) (aA nX (Cx (nW x) s1 (lM x1.1)) (bW (m=m) h1 x1.2))))))))) (∃(x1:List Sl×PH),aA (I1 x1) (eQ (bT t)) (aA (eP 6) iM (aA (eL 45) (qM (jH (At.val (Value.slice (jZ tb) n cap)))) (aA nX (Cy (nW x) (lM x1.1)) (bW (m=m) (rD x)
 x1.2)))))/\∀(x1:List Sl×PH),I1 x1->bD (λb1 o1=>aH (bE (jZ tb) b1 o1) (0<=(↑t:Int)) ((↑t:Int)<(↑n:Int)) (bX x1.2 1 (lM x1.1) (λs h1=>nS m b1 (bI o1 t 1) (aL s) (λm2=>K (mM (iE (Value.slice (jZ tb) n cap))) m2 h1)))))))
theorem f53_sound:Sound Tryz.prog 53 RL:=by
 refine gZ Tryz.func53 ?_;rintro cvs m h K ⟨s,r,rfl,hs,hl,hK⟩;refine⟨dL [] [] [] [] false,rfl,aF,f53_nice s m h K,by kernel_rfl,?_⟩;dsimp only[f53_nice,push_cast];obtain⟨⟨vs,h1,h2,h3⟩,h4⟩:=hs;exact⟨vs.map VV.enc,Iu vs,h1,by rw[List.length_map];omega,by rw[List.length_map];omega,λs' h' le hri=>hK s' h' le ⟨⟨vs,hri,h2,h3⟩,h4⟩⟩
theorem KK:Sound Tryz.prog 46 Wh:=by
 refine gZ Tryz.func46 ?_;rintro cvs m h K ⟨v,s,t,sl,r,rfl,hs,hv,hl,hK⟩;refine⟨dL [(53,RL)] [] [] [] false,rfl,aD f53_sound aF,OG v t sl m h K,by kernel_rfl,?_⟩;dsimp only[OG,push_cast];have htl:=hs.tables.slen;have hrl:=bL.slen hv;have none_:sL s t=false->K lN m h:=λe=>hK ⟨none,0,0⟩ h (.refl _) (by simp only[EU,e];exact bL.nil _ _ _ _);refine aE (λh1=>none_ (by simp[sL];omega)) (λh1=>aE (λh2=>none_ (by simp[sL];omega)) (λh2=>?_));have e:sL s t=true:=by simp[sL];omega
 obtain⟨tb,htb⟩:∃tb,s.tables[t.toNat]? =some tb:=⟨_,List.getElem?_eq_getElem aC⟩
 obtain⟨b,o,y,ea,rd,hy⟩:=bL.at hs.tables htb;have hk:=hy.key;obtain⟨a,len,cap⟩:=sl;have hcap:len<=cap:=by obtain⟨vs,h5,_⟩:=hv.ex;exact h5.cap
 have hrl:len=r.length:=hrl
 have hmm:(if(if(len:Int)<y.key then(len:Int)else y.key)>0 then(if(len:Int)<y.key then(len:Int)else y.key)else 0)=max 0 (min tb.key r.length):=by
  rw[<-hk];split<;>split<;>omega
 refine⟨b,o,ea,aC,aC,y.key,.imm (aX.part rd 2 1),?_⟩;dsimp only;rw[hmm];have e2:EU s t r=r.take (max 0 (min tb.key r.length)).toNat:=by simp only[EU,e,if_true,htb];rfl
 rw[e2]at hK;exact⟨aC,aC,⟨a,(max 0 (min tb.key r.length)).toNat,cap⟩,_,rfl,hv.cut aC,by rw[List.length_take];omega,hK⟩
theorem M9.snoc{key:Int}{ks:List Int}{l:List VV}{k:Int}{v:VV}(x:M9 key (ks.take i) l)(hk:ks[i]? =some k)(hv:Hn v)(hf:uP key k i v=true):M9 key (ks.take (i+1)) (l++[v]):=by
 obtain⟨h1,h2,h3⟩:=x;have hi:=(List.getElem?_eq_some_iff.1 hk).1;have hl:l.length=i:=by rw[h1,List.length_take];omega
 refine⟨by rw[List.length_append,List.length_take];simp;omega,λu hu=>?_,λj u k' hu hk'=>?_⟩
 .rcases List.mem_append.1 hu with hu|hu
  .exact h2 u hu
  .simp at hu;subst hu;exact hv
 .rw[List.getElem?_take]at hk';split at hk'
  .by_cases hj:j<l.length
   .rw[List.getElem?_append_left hj]at hu;exact h3 j u k' hu (by rw[List.getElem?_take,if_pos aC];exact hk')
   .have:j=i:=by omega
    subst this;rw[List.getElem?_append_right aC,hl,Nat.sub_self]at hu;simp at hu;subst hu;rw[hk]at hk';cases hk';exact hf
  .cases hk'
theorem N7{key k c:Int}(hc:c=1\/c=2)(hi:(i:Int)>=key):uP key k i ⟨c,0,⟨#[]⟩⟩=true:=by
 rcases hc with rfl|rfl<;>simp[uP,gK,Dy]<;>omega
theorem FY{key k:Int}{v:VV}(hk:XN k)(hv:SP k v):uP key k i v=true:=by
 obtain⟨h1,h2⟩:=hv hk;simp[uP,h1,h2]
theorem No(c:Int):Hn ⟨c,0,⟨#[]⟩⟩:=⟨⟨by simp,by simp⟩,by show(ByteArray.mk #[]).size<=64;decide⟩
theorem TO:Sound Tryz.prog 43 YV:=by
 refine gZ Tryz.func43 ?_;rintro cvs m h K ⟨cb,s,key,ks,rfl,hc,hs,hl,hk,hK⟩;refine⟨Xc cb key s,rfl,aD v8 (aD FZ aF),OJ cb s key m h K,by kernel_rfl,?_⟩;dsimp only[OJ,push_cast];have hsl:=hs.slen;refine⟨λz=>z.2.2.2=h/\z.1<=ks.length/\M9 key (ks.take z.1) z.2.1/\bC m z.2.2.1 cb/\aK z.2.2.1 h cb,λz=>ks.length-z.1,⟨(0,[],m,h),⟨rfl,by simp,⟨by simp,by simp,λj u k h=>by simp at h⟩,.refl _ _,hc⟩,MT⟩,?_⟩;rintro⟨i,l,m1,h'⟩ ⟨e1,hi,hfit,o1,c1⟩;dsimp only at e1 hi hfit o1 c1⊢
 subst e1;have hll:l.length=i:=by rw[hfit.1,List.length_take];omega
 refine aE (λhlt=>?_) (λhge s' h2 le2 hri=>?_)
 .obtain⟨k,hx⟩:=eW hsl hlt;obtain⟨b,o,ea,rd⟩:=hs.at' hx;have hkk:=hk k (List.mem_of_getElem? hx);have hI:∀(u:VV)(m':MH),Hn u->uP key k i u=true->bC m1 m' cb->aK m' h' cb->h'=h'/\i+1<=ks.length/\M9 key (ks.take (i+1)) (l++[u])/\bC m m' cb/\aK m' h' cb:=λu m' hu hf o c=>⟨rfl,aC,hfit.snoc hx hu hf,o1.trans o,c⟩
  have hmu:ks.length-(i+1)<ks.length-i:=by omega
  have hw:IntKind.i64.wrap ((i:Int)+1)=((i+1:Nat):Int):=iT aC;refine⟨b,o,ea,aC,aC,k,.imm rd,aE (λhik=>⟨cb,5,rfl,aC,aC,c1,λr m2 o2 c2=>aB (λ_=>?_) (λ_=>aE (λ_=>⟨cb,5,rfl,aC,aC,c2,λr m3 o3 c3=>aB (λ_=>?_) (λ_=>⟨cb,k,rfl,c3,λu m4 hu hku o4 c4=>?_⟩)⟩) (λ_=>⟨cb,k,rfl,c2,λu m4 hu hku o4 c4=>?_⟩))⟩) (λhik=>aE (λhik2=>absurd hik2 hik) (λ_=>⟨cb,k,rfl,c1,λu m4 hu hku o4 c4=>?_⟩))⟩
  .refine⟨by rw[List.length_map];omega,by rw[List.length_map];omega,(i+1,l++[⟨2,0,⟨#[]⟩⟩],m2,h'),hI _ m2 (No 2) (N7 (.inr rfl) hik) o2 c2,hmu,?_⟩;rw[hw,List.map_append];exact MT
  .refine⟨by rw[List.length_map];omega,by rw[List.length_map];omega,(i+1,l++[⟨1,0,⟨#[]⟩⟩],m3,h'),hI _ m3 (No 1) (N7 (.inl rfl) hik) (o2.trans o3) c3,hmu,?_⟩;rw[hw,List.map_append];exact MT
  .refine⟨by rw[List.length_map];omega,by rw[List.length_map];omega,(i+1,l++[u],m4,h'),hI _ m4 hu (FY hkk hku) ((o2.trans o3).trans o4) c4,hmu,?_⟩;rw[hw,List.map_append];exact MT
  .refine⟨by rw[List.length_map];omega,by rw[List.length_map];omega,(i+1,l++[u],m4,h'),hI _ m4 hu (FY hkk hku) (o2.trans o4) c4,hmu,?_⟩;rw[hw,List.map_append];exact MT
  .refine⟨by rw[List.length_map];omega,by rw[List.length_map];omega,(i+1,l++[u],m4,h'),hI _ m4 hu (FY hkk hku) o4 c4,hmu,?_⟩;rw[hw,List.map_append];exact MT
 .rw[List.take_of_length_le aC]at hfit;exact hK s' l m1 h2 le2 ⟨⟨l,hri,rfl,λi x hx=>⟨x,hx,rfl⟩⟩,aC⟩ hfit o1 (c1.mono le2)
theorem TN:Sound Tryz.prog 45 YX:=by
 refine gZ Tryz.func45 ?_;rintro cvs m h K ⟨v,s,tb,n,cap,us,u,t,tab,rs,sk,kr,sr,row,rfl,hs,htab,hT,hn,hu,hrs,hrl,hrw,hkr,hrow,h0,h1,hK⟩;refine⟨W9 v ⟨some ⟨tb,0,none⟩,n,cap⟩ t sk sr m,rfl,aD KK (aD KJ (aD f53_sound aF)),OH v tb n cap t sk sr m h K,by kernel_rfl,?_⟩;dsimp only[OH,push_cast];obtain⟨cur,hcur,hcs,hcl⟩:=hT;have htl:t<us.length:=(List.getElem?_eq_some_iff.1 hu).1;have hul:=bL.slen hrs;have hsrl:=bL.slen hrow;have hd0:((sr.len:Int)==0)=false:=by simp;omega
 have hrd:(cur.toList.drop (0+t*1)).take [dV u].length=[dV u]:=by
  have hcurt:cur.toList[t]? =some (Sl.val u):=by
   have e:(cur.toList.take us.length)[t]? =some (Sl.val u):=by rw[hcl,List.getElem?_map,hu];rfl
   rwa [List.getElem?_take,if_pos htl]at e
  have hlt:=(List.getElem?_eq_some_iff.1 hcurt).1;rw[Nat.zero_add,Nat.mul_one,List.drop_eq_getElem_cons hlt,(List.getElem?_eq_some_iff.1 hcurt).2];rfl
 refine⟨tb,0,rfl,aC,aC,u,.lent cur 53 (0,0) hcur hrd,λz=>z.2.2.2.1=u/\z.1<=rs.length/\PH.le h z.2.2.2.2/\∃out,eR z.2.2.2.2 z.2.1 out/\out.length<=2*z.1/\out++wG tab kr row z.2.2.1 (rs.drop z.1)=wG tab kr row false rs,λz=>rs.length-z.1,⟨(0,[],false,u,h),⟨rfl,by simp,.refl _,[],eR.nil _,by simp,by simp⟩,by rw[hd0];exact MT⟩,?_⟩;rintro⟨i,vs,d,u',hx⟩ ⟨e1,hi,le1,out,hru,hol,kR⟩;dsimp only at e1 hi le1 hru hol kR⊢
 subst e1;have hvl:=hru.len;refine aE (λhlt=>?_) (λhge=>?_)
 .obtain⟨r,hxr⟩:=eW hul hlt;have hil:=(List.getElem?_eq_some_iff.1 hxr).1;obtain⟨b,o,w,ea,rd,hv⟩:=bL.at hrs hxr;have hdrop:rs.drop i=r::rs.drop (i+1):=by rw[List.drop_eq_getElem_cons hil,(List.getElem?_eq_some_iff.1 hxr).2]
  rw[hdrop,wG]at kR;refine⟨b,o,ea,aC,aC,w,.imm (rd.mono le1),v,s,t,w,r,rfl,hs.mono le1,cA.mono hv le1,hrw r (List.mem_of_getElem? hxr),λs' h2 le2 hkv=>⟨s',sk,_,kr,rfl,hkv,cA.mono hkr (le1.trans le2),?_⟩⟩;rw[CP htab];generalize hc:dY (jJ tab r) kr=c at kR⊢
  refine⟨λz=>z.1=i/\z.2.2.2.1=u'/\z.2.2.2.2.1=w/\z.2.2.2.2.2.1=c/\PH.le hx z.2.2.2.2.2.2/\∃out,eR z.2.2.2.2.2.2 z.2.1 out/\out.length<=2*i+1/\out++((if c≠0 then[r]else[])++wG tab kr row z.2.2.1 (rs.drop (i+1)))=wG tab kr row false rs,aE (λhc0=>aB (λhd=>?_) (λhd=>?_)) (λhc0=>?_),?_⟩
  .have hd:d=false:=by simpa using hd
   subst hd;rw[if_pos ⟨hc0,rfl⟩,show(false||decide (0<=c))=true by simp;omega]at kR;refine⟨sr,row,rfl,cA.mono hrow (le1.trans le2),h1,λs2 h3 le3 hv3=>⟨by rw[List.length_map];omega,by rw[List.length_map];omega,(i,vs++[s2],true,u',w,c,h3),⟨rfl,rfl,rfl,rfl,le2.trans le3,out++[row],(hru.mono (le2.trans le3)).snoc hv3,by rw[List.length_append];simp;omega,?_⟩,?_⟩⟩
   .rw[List.append_assoc];exact kR
   .rw[List.map_append];exact MT
  .have hd:d=true:=by simpa using hd
   subst hd;rw[if_neg (by simp),Bool.true_or,List.nil_append]at kR;exact⟨(i,vs,true,u',w,c,h2),⟨rfl,rfl,rfl,rfl,le2,out,hru.mono le2,aC,kR⟩,MT⟩
  .rw[if_neg (λh=>hc0 h.1),show(d||decide (0<=c))=d by rw[decide_eq_false hc0,Bool.or_false],List.nil_append]at kR;exact⟨(i,vs,d,u',w,c,h2),⟨rfl,rfl,rfl,rfl,le2,out,hru.mono le2,aC,kR⟩,MT⟩
  clear kR hru hol hvl out vs;rintro⟨i',vs,d,u2,w2,c2,h3⟩ ⟨e2,e3,e4,e5,le3,out,hru,hol,kR⟩;dsimp only at e2 e3 e4 e5 le3 hru hol kR⊢
  subst e2 e3 e4 e5;have hvl:=hru.len;have hw:IntKind.i64.wrap ((i':Int)+1)=((i'+1:Nat):Int):=iT aC;refine aB (λhcn=>?_) (λhcn=>?_)
  .rw[if_pos (by simpa using hcn)]at kR;refine⟨by rw[List.length_map];omega,by rw[List.length_map];omega,(i'+1,vs++[w2],d,u2,h3),⟨rfl,by show i'+1<=rs.length;omega,le1.trans le3,out++[r],hru.snoc (cA.mono hv (le1.trans le3)),by rw[List.length_append];simp;omega,by rw[List.append_assoc];exact kR⟩,by show rs.length-(i'+1)<rs.length-i';omega,?_⟩;rw[hw,List.map_append];exact MT
  .rw[if_neg (by simpa using hcn),List.nil_append]at kR;refine⟨(i'+1,vs,d,u2,h3),⟨rfl,by show i'+1<=rs.length;omega,le1.trans le3,out,hru,by show out.length<=2*(i'+1);omega,kR⟩,by show rs.length-(i'+1)<rs.length-i';omega,?_⟩;rw[hw];exact MT
 .have hi2:i=rs.length:=by omega
  rw[hi2,List.drop_length,wG]at kR;refine⟨λz=>PH.le h z.2/\eR z.2 z.1 (wG tab kr row false rs),aB (λhd=>?_) (λhd=>?_),?_⟩
  .have hd:d=false:=by simpa using hd
   rw[hd,if_neg (by simp)]at kR;refine⟨sr,row,rfl,cA.mono hrow le1,h1,λs2 h3 le3 hv3=>⟨by rw[List.length_map];omega,by rw[List.length_map];omega,(vs++[s2],h3),⟨le1.trans le3,by rw[<-kR];exact(hru.mono le3).snoc hv3⟩,?_⟩⟩;rw[List.map_append];exact MT
  .have hd:d=true:=by simpa using hd
   rw[hd,if_pos rfl,List.append_nil]at kR;exact⟨(vs,hx),⟨le1,by rw[<-kR];exact hru⟩,MT⟩
  rintro⟨vs2,h3⟩ ⟨le3,hru3⟩;dsimp only at le3 hru3⊢
  have hpl:=Ht (t:=tab) (key:=kr) (row:=row) (l:=rs) (d:=false);refine⟨tb,0,rfl,aC,aC,λs2 h4 le4 hri=>⟨cur,53,⟨hcur⟩,?_,λm' hup=>hK s2 m' h4 (le3.trans le4) ((hru3.mono le4).rows hri (by simp at hpl;omega)) ⟨_,hup.at_,?_,?_⟩ ⟨λb hb=>(hup.other b hb).symm▸rfl⟩⟩⟩
  .omega
  .have hsp:splice cur.toList (0+((t:Int)).toNat*1) [dV s2]=cur.toList.set t (Sl.val s2):=by
    rw[List.set_eq_take_append_cons_drop,if_pos (by rw[Array.length_toList];omega)];simp only[splice,Int.toNat_natCast,Nat.zero_add,Nat.mul_one,List.length_singleton,List.append_assoc];rfl
   rw[hsp];simp only[List.length_set,List.size_toArray,Array.length_toList];exact hcs
  .have hsp:splice cur.toList (0+((t:Int)).toNat*1) [dV s2]=cur.toList.set t (Sl.val s2):=by
    rw[List.set_eq_take_append_cons_drop,if_pos (by rw[Array.length_toList];omega)];simp only[splice,Int.toNat_natCast,Nat.zero_add,Nat.mul_one,List.length_singleton,List.append_assoc];rfl
   rw[hsp,List.length_set,List.map_set, <-hcl,List.take_set]
def JY{α:Type}(T:List α->α->Prop):List α->List α->Prop
 |_,[]=>True
 |pre,x::r=>T pre x/\JY T (pre++[x]) r
theorem N6{α:Type}{T:List α->α->Prop}:∀{l pre:List α},JY T pre l->∀(j:Nat) x,l[j]? =some x->T (pre++l.take j) x
 |[],_,_,j,x,e=>by simp at e
 |y::r,pre,h,0,x,e=>by simp at e;subst e;simpa using h.1
 |y::r,pre,h,j+1,x,e=>by
  have:=N6 h.2 j x (by simpa using e);simpa using this
theorem vW{α:Type}{T:List α->α->Prop}{l:List α}(h:JY T [] l):Good T l:=λj x e=>by simpa using N6 h j x e
theorem Tr{α:Type}{T:List α->α->Prop}{l:List α}(h:Good T l)(n:Nat):Good T (l.take n):=λj x e=>by
 rw[List.getElem?_take]at e;split at e
 .rename_i hj;rw[List.take_take,Nat.min_eq_left aC];exact h j x e
 .cases e
theorem UI(h8:s.tables.length<=8)(hl:∀t∈s.tables,t.columns.length<=8/\t.refs=[]/\t.checks=[])(v0:0<=s.version)(v1:s.version<=1000)(hg:Good zU s.tables):eJ s=0:=by
 have lim:A9 s:=⟨h8,λj t e=>by
  obtain⟨h1,h2,h3⟩:=hl t (List.mem_of_getElem? e);exact⟨h1,by simp[h2],by simp[h3]⟩⟩
 have ok:Hh s:=⟨v0,v1,hg,λj t e=>by
  obtain⟨h1,h2,h3⟩:=hl t (List.mem_of_getElem? e);unfold Bk;rw[h2];intro i x e2;simp at e2⟩
 rw[Fy lim ok];refine y8 _ λe he=>?_;obtain⟨i,_,he⟩:=List.mem_flatMap.1 he;unfold qD at he;split at he
 .rename_i t ht;obtain⟨h1,h2,h3⟩:=hl t (List.mem_of_getElem? ht);rw[h3]at he;simp at he
 .simp at he
theorem PM{id:Int}(h:id=4\/id=5):Good zU (kG id):=by
 have hk:dR id=true:=by rcases h with rfl|rfl<;>rfl
 refine vW ⟨⟨?_,?_,?_,?_,vW ⟨⟨?_,?_,?_⟩,⟨?_,?_,?_⟩,trivial⟩⟩,⟨?_,?_,?_,?_,vW ⟨⟨?_,?_,?_⟩,⟨?_,?_,?_⟩,⟨?_,?_,?_⟩,⟨?_,?_,?_⟩,trivial⟩⟩,⟨?_,?_,?_,?_,vW ⟨⟨?_,?_,?_⟩,⟨?_,?_,?_⟩,trivial⟩⟩,⟨?_,?_,?_,?_,vW ⟨⟨?_,?_,?_⟩,trivial⟩⟩,trivial⟩
 all_goals first|exact hk|rfl|(simp;done)|decide
theorem Ec(h:rP s):eJ s=0/\s.tables≠[]:=by
 obtain⟨ver,n,id,v0,v1,n2,n4,hid,rfl⟩:=h.ex;refine⟨UI (by simp[kG];omega) (λt ht=>?_) v0 (by show ver<=1000;omega) (Tr (PM hid) n),λe=>?_⟩
 .have ht:=List.mem_of_mem_take ht;simp only[kG,List.mem_cons,List.not_mem_nil,or_false]at ht;rcases ht with rfl|rfl|rfl|rfl<;>exact⟨by simp,rfl,rfl⟩
 .have:=congrArg List.length e;simp[kG]at this;omega
theorem Th(h:rP s){t:tV}(ht:t∈s.tables):1<=t.key/\1<=t.columns.length/\t.columns.length<=4/\∀c∈t.columns,XN c.kind:=by
 obtain⟨ver,n,id,v0,v1,n2,n4,hid,rfl⟩:=h.ex;have hk:XN id:=by rcases hid with rfl|rfl;exact .inr (.inl rfl);exact .inr (.inr rfl)
 have ht:=List.mem_of_mem_take ht;simp only[kG,List.mem_cons,List.not_mem_nil,or_false]at ht;rcases ht with rfl|rfl|rfl|rfl
 all_goals
  refine⟨by simp,by simp,by simp,λc hc=>?_⟩;simp only[List.mem_cons,List.not_mem_nil,or_false]at hc
 .rcases hc with rfl|rfl<;>exact .inr (.inl rfl)
 .rcases hc with rfl|rfl|rfl|rfl
  .exact hk
  .exact .inr (.inl rfl)
  .exact .inr (.inr rfl)
  .exact .inl rfl
 .rcases hc with rfl|rfl<;>exact .inr (.inl rfl)
 .subst hc;exact hk
end Go.Ps
