/-
  Part 8 of a proof that a law of the given program returns true: a condition generator that is proved sound, and contracts of functions. No condition of its own. Own work, joined by a program (pack2.py).
-/
import Derived.Test.YtileehgdfcknkaaGreatDoorPg
set_option linter.unusedVariables false
set_option linter.unusedSimpArgs false
namespace Go.Ps
open Go Go.Vc Go.Proofs
variable{K:CV->MH->PH->Prop}{m:MH}{h:PH}{s:nY}{ps:List Int}{cb:Nat}{sc:bX}{v:QV}{q:Query}{p:Pred}{l:List Int}{i:Nat}{N:Nat}{m':MH}{h':PH}{co:List Int}{gr:List Int}{od:List (Int×Bool)}{w:Pred}{ta:Int}{li:Int}{xs:List (List Value)}{sz:Nat}{k:Nat}{ks:List (List Int)}{rs:List Int}{r:Sl}{a:List Int}{b:Nat}
structure Ct(s:nY)(c:Nat)(ls:List (List (List VV)))(k:Nat)(ts:List Int):Prop where
 at_:∀(j:Nat)(t:Int),ts[j]? =some t->∃l,ls[k+j]? =some l/\iI (gT s t).length l/\l.length<=c
theorem Ct.left{c:Nat}{ls:List (List (List VV))}{b:List Int}(x:Ct s c ls k (a++b)):Ct s c ls k a:=
 ⟨λj t h=>x.at_ j t (by rw[List.getElem?_append_left (List.getElem?_eq_some_iff.1 h).1];exact h)⟩
theorem Ct.right{c:Nat}{ls:List (List (List VV))}{b:List Int}(x:Ct s c ls k (a++b)):Ct s c ls (k+a.length) b:=
 ⟨λj t h=>by
  have:=x.at_ (a.length+j) t (by rw[List.getElem?_append_right aC,Nat.add_sub_cancel_left];exact h)
  rwa [show k+a.length+j=k+(a.length+j)by omega]⟩
theorem xC{op:Int}{on:List (Int×Int)}{args:List Query}{ks:List Int}(h:bO s ps (.mk op ta w co on gr od li args)=(ks,0)):
 ∃kss,eZ s ps args=(kss,0)/\(kss.length:Int)=arity op/\iA s ps (.mk op ta w co on gr od li args) (kss.getD 0 []) (kss.getD 1 [])=(ks,0):=by
 rw[bO]at h;generalize eZ s ps args=r at h;obtain⟨kss,e⟩:=r;dsimp only at h;split at h
 .rename_i e0;subst e0;split at h
  .rename_i h1;exact⟨kss,rfl,h1,h⟩
  .simp[iR]at h
 .rename_i e0;simp only[iR,Prod.mk.injEq]at h;exact absurd h.2 e0
theorem jR{qs:List Query}{kss:List (List Int)}(h:eZ s ps (q::qs)=(kss,0)):∃k kss',bO s ps q=(k,0)/\eZ s ps qs=(kss',0)/\kss=k::kss':=by
 rw[eZ]at h;generalize bO s ps q=r at h;obtain⟨k,e⟩:=r;generalize eZ s ps qs=r at h;obtain⟨ks,e'⟩:=r;dsimp only at h;split at h
 .rename_i e0;split at h
  .rename_i e1;simp only[Prod.mk.injEq,and_true]at h;exact⟨k,ks,by rw[e0],by rw[e1],h.symm⟩
  .rename_i e1;simp only[Prod.mk.injEq]at h;exact absurd h.2 e1
 .rename_i e0;simp only[Prod.mk.injEq]at h;exact absurd h.2 e0
theorem j3{ks:List Int}(h:zF l=(ks,0)):ks=l/\l.length<=12:=by
 unfold zF at h;split at h
 .rename_i h1;simp only[Prod.mk.injEq,and_true]at h;exact⟨h.symm,h1⟩
 .simp at h
theorem RQ{op:Int}(h:arity op=0):op=1:=by
 unfold arity at h;split at h
 .rename_i e;simpa using e
 .split at h
  .omega
  .split at h<;>omega
mutual
theorem PG{s:nY}{ps:List Int}{c:Nat}(hc:1<=c):∀{q:Query}{ks:List Int},bO s ps q=(ks,0)->1<=lV c q
 |.mk op ta w co on gr od li args,ks,h=>by
  obtain⟨kss,h1,h2,h3⟩:=xC h;have h4:=RR hc h1;rw[lV];split
  .exact hc
  .rename_i n1;split
   .exact h4.1
   .match args,h1,h4 with
    |[],h1,_=>rw[eZ]at h1;simp only[Prod.mk.injEq,and_true]at h1;rw[<-h1]at h2;exact absurd (RQ h2.symm) n1
    |q::qs,h1,h4=>exact h4.2 (by simp)
theorem RR{s:nY}{ps:List Int}{c:Nat}(hc:1<=c):∀{qs:List Query}{kss:List (List Int)},eZ s ps qs=(kss,0)->1<=uO c qs/\(qs≠[]->1<=wQ c qs)
 |[],kss,h=>by simp[uO]
 |q::qs,kss,h=>by
  obtain⟨k,kss',h1,h2,h3⟩:=jR h;have h4:=PG hc h1;have h5:=RR hc h2;rw[uO,wQ];exact⟨Nat.mul_pos h4 h5.1,λ_=>by omega⟩
end
def L9(c:Nat):List Query->List (List Int)->List (List (List VV))->Prop
 |[],[],[]=>True
 |q::qs,k::ks,l::ls=>iI k.length l/\l.length<=lV c q/\L9 c qs ks ls
 |_,_,_=>False
theorem MN{α:Type}:∀{l:List α},l.length=2->∃a b,l=[a,b]
 |[a,b],_=>⟨a,b,rfl⟩
theorem L9.len{c:Nat}{qs:List Query}{ls:List (List (List VV))}(h:L9 c qs ks ls):qs.length=ks.length/\ls.length=ks.length:=by
 induction qs generalizing ks ls with
 |nil=>
  match ks,ls,h with
  |[],[],_=>exact⟨rfl,rfl⟩
  |_::_,[],h=>exact h.elim
  |[],_::_,h=>exact h.elim
  |_::_,_::_,h=>exact h.elim
 |cons q qs ih=>
  match ks,ls,h with
  |[],[],h=>exact h.elim
  |_::_,[],h=>exact h.elim
  |[],_::_,h=>exact h.elim
  |k::ks,l::ls,h=>
   obtain⟨h1,h2⟩:=ih h.2.2;exact⟨by simp[h1],by simp[h2]⟩
theorem iI.filter{w:Nat}{l:List (List VV)}(x:iI w l)(p:List VV->Bool):iI w (l.filter p):=
 ⟨λr h=>x.row r (List.mem_filter.1 h).1,λr h=>x.wid r (List.mem_filter.1 h).1,x.srt.filter p,Nat.le_trans (List.length_filter_le _ _) x.len⟩
theorem On(x:List VV):∀l:List (List VV),(Gc x l).length<=l.length+1
 |[]=>by simp[Gc]
 |y::l=>by
  have:=On x l;simp only[Gc];split
  .simp
  .split<;>simp<;>omega
theorem Em:∀l:List (List VV),(yY l).length<=l.length
 |[]=>by simp[yY]
 |x::l=>by
  have h1:=Em l;have h2:=On x (yY l);show(Gc x (yY l)).length<=(x::l).length;simp only[List.length_cons];omega
theorem iI.set{w:Nat}{l:List (List VV)}(h1:∀r∈l,Nw r)(h2:∀r∈l,r.length=w)(h3:l.length<=1000000):iI w (yY l):=
 ⟨λr h=>h1 r (zM.1 h),λr h=>h2 r (zM.1 h),nK l,Nat.le_trans (Em l) h3⟩
theorem FC:∀{x y u v:List VV},x.length=y.length->dR (x++u) (y++v)=if dR x y≠0 then dR x y else dR u v
 |[],[],u,v,_=>by simp[dR]
 |a::x,b::y,u,v,h=>by
  simp only[List.length_cons,Nat.add_right_cancel_iff]at h;simp only[List.cons_append,dR];by_cases e:jX a b=0
  .simp only[e,ne_eq,not_true_eq_false,if_false];exact FC h
  .simp[e]
 |[],_::_,_,_,h=>by simp at h
 |_::_,[],_,_,h=>by simp at h
theorem yK{on:List (Int×Int)}{b:List (List VV)}{x z:List VV}(h:z∈mJ on b x):∃y∈b,z=x++y:=by
 unfold mJ at h;split at h
 .obtain⟨y,hy,rfl⟩:=List.mem_map.1 h;exact⟨y,(List.mem_filter.1 hy).1,rfl⟩
 .simp at h
theorem iI.join{w w':Nat}{a b:List (List VV)}{on:List (Int×Int)}(ha:iI w a)(hb:iI w' b)(hw:w+w'<=12)(hl:a.length*b.length<=1000000):iI (w+w') (a.flatMap (mJ on b)):=by
 refine⟨λr h=>?_,λr h=>?_,?_,Nat.le_trans (uF λx _=>yL) hl⟩
 .obtain⟨x,hx,h⟩:=List.mem_flatMap.1 h;obtain⟨y,hy,rfl⟩:=yK h;have h1:=ha.wid x hx;have h2:=hb.wid y hy;refine⟨by rw[List.length_append];omega,λv hv=>?_⟩;rcases List.mem_append.1 hv with hv|hv
  .exact(ha.row x hx).val v hv
  .exact(hb.row y hy).val v hv
 .obtain⟨x,hx,h⟩:=List.mem_flatMap.1 h;obtain⟨y,hy,rfl⟩:=yK h;rw[List.length_append,ha.wid x hx,hb.wid y hy]
 .refine List.pairwise_flatMap.2 ⟨λx hx=>?_,?_⟩
  .unfold mJ;split
   .refine List.pairwise_map.2 ((hb.srt.filter _).imp fun{y z} h=>?_);rw[FC rfl,if_neg (by rw[kL.2 rfl];simp)];exact h
   .exact List.Pairwise.nil
  .refine ha.srt.imp_of_mem fun{x y} hx hy h z hz u hu=>?_;obtain⟨z',_,rfl⟩:=yK hz;obtain⟨u',_,rfl⟩:=yK hu;rw[FC (by rw[ha.wid x hx,ha.wid y hy]),if_pos aC];exact h
theorem Jj{c:Int}(h:BA a c=true):0<=c/\c<a.length:=by
 simp only[BA,Bool.and_eq_true,decide_eq_true_eq]at h;exact h
theorem Cg{α:Type}{T:List α->α->Prop}{l:List α}(h:Good T l){x:α}(hx:x∈l):∃pre,T pre x:=by
 obtain⟨i,hi,e⟩:=List.mem_iff_getElem.1 hx;exact⟨_,h i x (by rw[<-e];exact List.getElem?_eq_getElem hi)⟩
theorem Ex:∀(n:Nat)(l:List Int),l.Nodup->(∀x∈l,0<=x/\x<n)->l.length<=n
 |0,[],_,_=>by simp
 |0,x::l,_,h=>by have:=h x (List.mem_cons_self ..);omega
 |n+1,l,hd,h=>by
  by_cases hn:(n:Int)∈l
  .have h1:=Ex n (l.erase n) (hd.erase _) (λx hx=>by
    have h2:=(hd.mem_erase_iff).1 hx;have:=h x h2.2;omega)
   rw[List.length_erase_of_mem hn]at h1;omega
  .have:=Ex n l hd (λx hx=>by
    have:=h x hx;have h3:x≠(n:Int):=λe=>hn (e▸hx);omega)
   omega
theorem Jm{α:Type}{T:List α->α->Prop}{l:List α}(f:α->Int)(hT:∀pre x,T pre x->f x∉pre.map f)(h:Good T l):(l.map f).Nodup:=by
 rw[List.nodup_iff_pairwise_ne,List.pairwise_map,List.pairwise_iff_getElem];intro i j hi hj hij e;refine hT _ _ (h j l[j] (List.getElem?_eq_getElem hj)) (List.mem_map.2 ⟨l[i],?_,e⟩);rw[List.mem_take_iff_getElem];exact⟨i,aC,rfl⟩
theorem Jl(h:Good (GU a) gr)(hl:a.length<=12):gH a.length gr:=by
 have h1:∀c∈gr,0<=c/\c<a.length:=λc hc=>by obtain⟨_,h2⟩:=Cg h hc;exact Jj h2.1
 have h2:=Jm id (λpre x(h:GU a pre x)=>by simpa using h.2) h;rw[List.map_id]at h2;exact⟨h1,by have:=Ex _ _ h2 h1;omega⟩
theorem KC{b:List Int}{on:List (Int×Int)}(h:Good (Ae a b) on)(ha:a.length<=12)(hb:b.length<=12):gH a.length (jU on)/\gH b.length (fN on):=by
 have h1:∀c∈jU on,0<=c/\c<a.length:=λc hc=>by
  obtain⟨p,hp,rfl⟩:=List.mem_map.1 hc;obtain⟨_,h2⟩:=Cg h hp;exact Jj h2.1
 have h2:∀c∈fN on,0<=c/\c<b.length:=λc hc=>by
  obtain⟨p,hp,rfl⟩:=List.mem_map.1 hc;obtain⟨_,h2⟩:=Cg h hp;exact Jj h2.2.1
 have h3:(jU on).Nodup:=Jm Prod.fst (λpre x(h:Ae a b pre x) hm=>by
  obtain⟨y,hy,e⟩:=List.mem_map.1 hm;exact(h.2.2.2 y hy).1 e) h
 have h4:=Ex _ _ h3 h1;exact⟨⟨h1,aC⟩,⟨h2,by simp only[jU,fN,List.length_map]at h4⊢;omega⟩⟩
theorem N8{w:Nat}{r:List VV}(hr:Nw r)(hw:r.length=w)(hc:gH w co)(hl:co.length<=12):Nw (pick r co)/\(pick r co).length=co.length:=
 ⟨⟨by simpa[pick]using hl,Ev hr (by rw[hw];exact hc)⟩,by simp[pick]⟩
theorem Eh{c:Nat}{p:Query}:wQ c [q,p]=lV c q+lV c p:=by simp[wQ]
theorem Mj{c:Nat}:wQ c [q]=lV c q:=by simp[wQ]
theorem U5{c:Nat}{p:Query}:uO c [q,p]=lV c q*lV c p:=by simp[uO]
theorem WW{c:Nat}{op:Int}{on:List (Int×Int)}{args:List Query}{ks:List Int}{kss:List (List Int)}{L:List (List (List VV))}(n1:op≠1)
 (h2:(kss.length:Int)=arity op)(h12:∀k∈kss,k.length<=12)(h3:iA s ps (.mk op ta w co on gr od li args) (kss.getD 0 []) (kss.getD 1 [])=(ks,0))(hA:L9 c args kss L)(hb:lV c (.mk op ta w co on gr od li args)<=1000000):
 YN op (.mk op ta w co on gr od li args) L/\iI ks.length (YM op (.mk op ta w co on gr od li args) L)/\(YM op (.mk op ta w co on gr od li args) L).length<=lV c (.mk op ta w co on gr od li args):=by
 rw[lV,if_neg n1]at hb⊢
 unfold iA at h3;dsimp only at h3;split at h3
 .simp[iR]at h3
 have one:arity op=1->∃q k l,args=[q]/\kss=[k]/\L=[l]/\iI k.length l/\l.length<=lV c q/\k.length<=12:=λe=>by
  obtain⟨l1,l2⟩:=hA.len;obtain⟨k,rfl⟩:=List.length_eq_one_iff.1 (show kss.length=1 by omega);obtain⟨q,rfl⟩:=List.length_eq_one_iff.1 (show args.length=1 by simpa using l1);obtain⟨l,rfl⟩:=List.length_eq_one_iff.1 (show L.length=1 by simpa using l2);exact⟨q,k,l,rfl,rfl,rfl,hA.1,hA.2.1,h12 k (by simp)⟩
 have two:arity op=2->∃q p k k' l l',args=[q,p]/\kss=[k,k']/\L=[l,l']/\iI k.length l/\l.length<=lV c q/\iI k'.length l'/\l'.length<=lV c p/\k.length<=12/\k'.length<=12:=λe=>by
  obtain⟨l1,l2⟩:=hA.len;obtain⟨k,k',rfl⟩:=MN (show kss.length=2 by omega);obtain⟨q,p,rfl⟩:=MN (show args.length=2 by simpa using l1);obtain⟨l,l',rfl⟩:=MN (show L.length=2 by simpa using l2);exact⟨q,p,k,k',l,l',rfl,rfl,rfl,hA.1,hA.2.1,hA.2.2.1,hA.2.2.2.1,h12 k (by simp),h12 k' (by simp)⟩
 have ar:op=2\/op=3\/op=9\/op=4\/op=5\/op=6\/op=7\/op=8\/op=10:=by
  have:0<=arity op:=by omega
  unfold arity at this;split at this
  .rename_i e;simp at e;exact absurd e n1
  .split at this
   .rename_i e;simp at e;omega
   .split at this
    .rename_i e;simp at e;omega
    .omega
 rcases ar with rfl|rfl|rfl|rfl|rfl|rfl|rfl|rfl|rfl
 .obtain⟨q,k,l,rfl,rfl,rfl,hr,hl,hk⟩:=one rfl;simp only[show((2:Int)=4)=False by decide,if_false,if_true]at h3 hb⊢
  split at h3
  .obtain⟨rfl,_⟩:=j3 h3;refine⟨⟨by simp,λx hx=>by simp at hx;subst hx;exact⟨_,hr⟩⟩,hr.filter _,Nat.le_trans (List.length_filter_le _ _) ?_⟩;rw[Mj];exact hl
  .rename_i e;simp only[iR,Prod.mk.injEq]at h3;exact absurd h3.2 e
 .obtain⟨q,k,l,rfl,rfl,rfl,hr,hl,hk⟩:=one rfl;simp only[show((3:Int)=4)=False by decide,show((3:Int)=2)=False by decide,if_false,if_true]at h3 hb⊢
  split at h3
  .rename_i hg;obtain⟨rfl,h12'⟩:=j3 h3;rw[List.length_map]at h12'⊢
   have hc:gH k.length co:=⟨λc hc=>by obtain⟨_,h2⟩:=Cg hg.2 hc;exact Jj h2,aC⟩
   rw[Mj]at hb⊢
   refine⟨⟨by simp,h12',_,hr,hc⟩,iI.set (λr h=>?_) (λr h=>?_) (by show(l.map _).length<=_;rw[List.length_map];exact hr.len),Nat.le_trans (Em _) (by show(l.map _).length<=_;rw[List.length_map];exact hl)⟩
   .obtain⟨x,hx,rfl⟩:=List.mem_map.1 h;exact(N8 (hr.row x hx) (hr.wid x hx) hc h12').1
   .obtain⟨x,hx,rfl⟩:=List.mem_map.1 h;exact(N8 (hr.row x hx) (hr.wid x hx) hc h12').2
  .simp[iR]at h3
 .obtain⟨q,k,l,rfl,rfl,rfl,hr,hl,hk⟩:=one rfl;simp only[show((9:Int)=4)=False by decide,show((9:Int)=2)=False by decide,show((9:Int)=3)=False by decide,show((9:Int)=5)=False by decide,if_false,if_true]at h3 hb⊢
  split at h3
  .rename_i hg;obtain⟨rfl,h12'⟩:=j3 h3;rw[Mj]at hb⊢
   exact⟨⟨by simp,⟨_,hr,Jl hg.group_ hk⟩,hg.low⟩,hr.filter _,Nat.le_trans (List.length_filter_le _ _) hl⟩
  .simp[iR]at h3
 .obtain⟨q,p,k,k',l,l',rfl,rfl,rfl,hr,hl,hr',hl',hk,hk'⟩:=two rfl;simp only[show((4:Int)=2)=False by decide,show((4:Int)=3)=False by decide,if_false,if_true]at h3 hb⊢
  split at h3
  .rename_i hg;obtain⟨rfl,h12'⟩:=j3 h3;rw[U5]at hb⊢
   have hc:=KC hg hk hk';have hm:l.length*l'.length<=lV c q*lV c p:=Nat.mul_le_mul hl hl';rw[List.length_append]at h12'⊢
   exact⟨⟨⟨by simp,_,_,hr,hr',hc.1,hc.2⟩,Nat.le_trans hm hb⟩,hr.join hr' h12' (Nat.le_trans hm hb),Nat.le_trans (uF λx _=>yL) hm⟩
  .simp[iR]at h3
 .obtain⟨q,p,k,k',l,l',rfl,rfl,rfl,hr,hl,hr',hl',hk,hk'⟩:=two rfl;simp only[show((5:Int)=2)=False by decide,show((5:Int)=3)=False by decide,show((5:Int)=4)=False by decide,if_false,if_true]at h3 hb⊢
  split at h3
  .rename_i hg;obtain⟨rfl,h12'⟩:=j3 h3;rw[Eh]at hb⊢
   have hc:=KC hg hk hk';exact⟨⟨by simp,_,_,hr,hr',hc.1,hc.2⟩,hr.filter _,Nat.le_trans (List.length_filter_le _ _) (by show l.length<=_;omega)⟩
  .simp[iR]at h3
 all_goals
  obtain⟨q,p,k,k',l,l',rfl,rfl,rfl,hr,hl,hr',hl',hk,hk'⟩:=two rfl
 .simp only[show((6:Int)=2)=False by decide,show((6:Int)=3)=False by decide,show((6:Int)=4)=False by decide,show((6:Int)=5)=False by decide,show((6:Int)=9)=False by decide,show((6:Int)=10)=False by decide,if_false,if_true]at h3 hb⊢
  split at h3
  .rename_i hg;have hg:k=k':=hg;subst hg;obtain⟨rfl,h12'⟩:=j3 h3;rw[Eh]at hb⊢
   have hll:(l++l').length<=lV c q+lV c p:=by rw[List.length_append];omega
   refine⟨⟨by simp,λx hx=>by simp at hx;rcases hx with rfl|rfl;exact⟨_,hr⟩;exact⟨_,hr'⟩⟩,iI.set (λr h=>?_) (λr h=>?_) (Nat.le_trans hll hb),Nat.le_trans (Em _) hll⟩
   .rcases List.mem_append.1 h with h|h
    .exact hr.row r h
    .exact hr'.row r h
   .rcases List.mem_append.1 h with h|h
    .exact hr.wid r h
    .exact hr'.wid r h
  .simp[iR]at h3
 .simp only[show((7:Int)=2)=False by decide,show((7:Int)=3)=False by decide,show((7:Int)=4)=False by decide,show((7:Int)=5)=False by decide,show((7:Int)=9)=False by decide,show((7:Int)=10)=False by decide,if_false,if_true]at h3 hb⊢
  split at h3
  .rename_i hg;have hg:k=k':=hg;subst hg;obtain⟨rfl,h12'⟩:=j3 h3;rw[Eh]at hb⊢
   exact⟨⟨by simp,_,λx hx=>by simp at hx;rcases hx with rfl|rfl;exact hr;exact hr'⟩,hr.filter _,Nat.le_trans (List.length_filter_le _ _) (by show l.length<=_;omega)⟩
  .simp[iR]at h3
 .simp only[show((8:Int)=2)=False by decide,show((8:Int)=3)=False by decide,show((8:Int)=4)=False by decide,show((8:Int)=5)=False by decide,show((8:Int)=9)=False by decide,show((8:Int)=10)=False by decide,if_false,if_true]at h3 hb⊢
  split at h3
  .rename_i hg;have hg:k=k':=hg;subst hg;obtain⟨rfl,h12'⟩:=j3 h3;rw[Eh]at hb⊢
   exact⟨⟨by simp,_,λx hx=>by simp at hx;rcases hx with rfl|rfl;exact hr;exact hr'⟩,hr.filter _,Nat.le_trans (List.length_filter_le _ _) (by show l.length<=_;omega)⟩
  .simp[iR]at h3
 .simp only[show((10:Int)=2)=False by decide,show((10:Int)=3)=False by decide,show((10:Int)=4)=False by decide,show((10:Int)=5)=False by decide,show((10:Int)=9)=False by decide,if_false,if_true]at h3 hb⊢
  split at h3
  .rename_i hg;obtain⟨hg,hg2⟩:=hg;have hg:k=k':=hg;subst hg;obtain⟨rfl,h12'⟩:=j3 h3;rw[Eh]at hb⊢
   exact⟨⟨by simp,_,hr,hr',Jl hg2.group_ hk⟩,hr.filter _,Nat.le_trans (List.length_filter_le _ _) (by show l.length<=_;omega)⟩
  .simp[iR]at h3
theorem PF{s:nY}{ps:List Int}{c:Nat}(hc:1<=c):∀{qs:List Query}{kss:List (List Int)},eZ s ps qs=(kss,0)->∀q∈qs,lV c q<=wQ c qs/\lV c q<=uO c qs
 |[],_,_,q,hq=>by simp at hq
 |p::qs,kss,h,q,hq=>by
  obtain⟨k,kss',h1,h2,h3⟩:=jR h;have h4:=PG hc h1;have h5:=(RR hc h2).1;rw[wQ,uO];rcases List.mem_cons.1 hq with rfl|hq
  .exact⟨aC,Nat.le_mul_of_pos_right _ h5⟩
  .have:=PF hc h2 q hq;exact⟨aC,Nat.le_trans this.2 (Nat.le_mul_of_pos_left _ h4)⟩
theorem Jh{s:nY}{ps:List Int}:∀{qs:List Query}{kss:List (List Int)},eZ s ps qs=(kss,0)->∀k∈kss,k.length<=12
 |[],kss,h,k,hk=>by rw[eZ]at h;simp only[Prod.mk.injEq,and_true]at h;subst h;simp at hk
 |q::qs,kss,h,k,hk=>by
  obtain⟨k',kss',h1,h2,rfl⟩:=jR h;rcases List.mem_cons.1 hk with rfl|hk
  .have:=Ba s ps q;rw[h1]at this;exact this
  .exact Jh h2 k hk
structure Zv(c:Nat)(ls:List (List (List VV)))(q:Query)(k:Nat)(ks:List Int):Prop where
 ok:TC ls q k
 rel:iI ks.length (i6 ls q k).1
 bnd:(i6 ls q k).1.length<=lV c q
 nxt:(i6 ls q k).2=k+(i7 q).length
mutual
theorem Pt{s:nY}{ps:List Int}{c:Nat}{ls:List (List (List VV))}(hc:1<=c):∀{q:Query}{ks:List Int}{k:Nat},bO s ps q=(ks,0)->Ct s c ls k (i7 q)->lV c q<=1000000->Zv c ls q k ks
 |.mk op ta w co on gr od li args,ks,k,h,hl,hb=>by
  obtain⟨kss,h1,h2,h3⟩:=xC h;by_cases e:op=1
  .subst e
   have h0:args=[]:=by
    cases args with
    |nil=>rfl
    |cons q qs=>obtain⟨_,_,_,_,rfl⟩:=jR h1;simp[arity]at h2;omega
   subst h0;have hs:i7 (.mk 1 ta w co on gr od li [])=[ta]:=by simp[i7,gY]
   unfold iA at h3;dsimp only at h3;split at h3
   .simp[iR]at h3
   try rw[if_pos rfl]at h3
   split at h3
   .obtain⟨rfl,_⟩:=j3 h3;rw[hs]at hl;obtain⟨l,e1,e2,e3⟩:=hl.at_ 0 ta rfl;rw[Nat.add_zero]at e1;have e4:(i6 ls (.mk 1 ta w co on gr od li []) k)=(l,k+1):=by rw[i6,if_pos rfl,List.getD_eq_getElem?_getD,e1];rfl
    refine⟨by rw[TC,if_pos rfl];exact(List.getElem?_eq_some_iff.1 e1).1,by rw[e4];exact e2,by rw[e4,lV,if_pos rfl];exact e3,by rw[e4,hs];rfl⟩
   .simp[iR]at h3
  .have hs:i7 (.mk op ta w co on gr od li args)=gY args:=by simp[i7,e]
   rw[hs]at hl
   have hb2:∀q∈args,lV c q<=1000000:=λq hq=>by
    have h5:=PF hc h1 q hq;rw[lV,if_neg e]at hb;split at hb<;>omega
   obtain⟨o1,o2,o3⟩:=LM hc h1 hl hb2;obtain⟨n1,n2,n3⟩:=WW e h2 (Jh h1) h3 o2 hb;have e4:i6 ls (.mk op ta w co on gr od li args) k=(YM op (.mk op ta w co on gr od li args) (eO ls args k).1,(eO ls args k).2):=by rw[i6,if_neg e]
   exact⟨by rw[TC,if_neg e];exact⟨n1,o1⟩,by rw[e4];exact n2,by rw[e4];exact n3,by rw[e4,hs];exact o3⟩
theorem LM{s:nY}{ps:List Int}{c:Nat}{ls:List (List (List VV))}(hc:1<=c):∀{qs:List Query}{kss:List (List Int)}{k:Nat},eZ s ps qs=(kss,0)->Ct s c ls k (gY qs)->(∀q∈qs,lV c q<=1000000)->Oc ls qs k/\L9 c qs kss (eO ls qs k).1/\(eO ls qs k).2=k+(gY qs).length
 |[],kss,k,h,_,_=>by
  rw[eZ]at h;simp only[Prod.mk.injEq,and_true]at h;subst h;simp[Oc,eO,L9,gY]
 |q::qs,kss,k,h,hl,hb=>by
  obtain⟨k1,kss',h1,h2,rfl⟩:=jR h;rw[gY]at hl;have e1:=Pt hc h1 hl.left (hb q (List.mem_cons_self ..));have e2:=LM hc h2 hl.right (λp hp=>hb p (List.mem_cons_of_mem _ hp));rw[<-e1.nxt]at e2;rw[Oc,eO,gY];refine⟨⟨e1.ok,e2.1⟩,⟨e1.rel,e1.bnd,e2.2.1⟩,?_⟩;rw[e2.2.2,e1.nxt,List.length_append];omega
end
structure uY(m:MH)(tb:Nat)(ws:List bP):Prop where
 ex:∃cur:Array Value,m tb=some (.cells cur 86 (0,0))/\cur.toList.take (ws.length*5)=(ws.map bP.enc).flatten
def Te:Vc.Spec:=λcvs m h K=>∃ver tb n cap ws w cols,∃t:Nat,cvs=[aS ⟨ver,⟨some ⟨tb,0,none⟩,n,cap⟩⟩,cI t]/\t<n/\uY m tb ws/\ws[t]? =some w/\BE h w.columns cols/\cols.length<=8/\
 ∀sl h',PH.le h h'->Ints h' sl (cols.map lS.kind)->K (cS sl) m h'
noncomputable def XB(cb:Nat):Ctx:=
 uJ [(15,FH),(16,Kb),(76,Tk),(44,Te),(30,xH)] [] [(5,{A:=Int×Int×MH×PH,st:=λ⟨n,id,m,h⟩=>cJ 86 87 [(0,pv cb),(2,.at (.ptr 2 0)),(3,iv n),(4,iv id)] [(2,.cells 43 [.val (.int .i64 0),.val (.slice none 0 0)])] m h}),
  (9,{A:=Int×bX×MH×PH,st:=λ⟨n,s,m,h⟩=>cJ 86 87 [(0,pv cb),(2,.at (.ptr 2 0)),(3,iv n),(5,.at (.ptr 5 0))] [(2,.cells 43 [.val (.int .i64 0),.val (.slice none 0 0)]),(5,.cells 43 (s.enc.map .val))] m h}),
  (11,{A:=Int×bX×MH×PH,st:=λ⟨n,s,m,h⟩=>cJ 86 87 [(0,pv cb),(2,.at (.ptr 2 0)),(3,iv n),(5,.at (.ptr 5 0))] [(2,.cells 43 [.val (.int .i64 0),.val (.slice none 0 0)]),(5,.cells 43 (s.enc.map .val))] m h}),
  (13,{A:=bX×MH×PH,st:=λ⟨s,m,h⟩=>cJ 86 87 [(0,pv cb),(2,.at (.ptr 2 0)),(5,.at (.ptr 5 0))] [(2,.cells 43 [.val (.int .i64 0),.val (.slice none 0 0)]),(5,.cells 43 (s.enc.map .val))] m h}),
  (15,{A:=bX×MH×PH,st:=λ⟨s,m,h⟩=>cJ 86 87 [(2,.at (.ptr 2 0)),(5,.at (.ptr 5 0))] [(2,.cells 43 [.val (.int .i64 0),.val (.slice none 0 0)]),(5,.cells 43 (s.enc.map .val))] m h})] [] [41] [] false
def kI(id:Int):List uK:=
 [⟨⟨⟨[112,114,111,106,101,99,116,115]⟩⟩,[⟨⟨⟨[105,100]⟩⟩,4⟩,⟨⟨⟨[111,119,110,101,114]⟩⟩,4⟩],1,[],[]⟩,
  ⟨⟨⟨[116,97,115,107,115]⟩⟩,[⟨⟨⟨[105,100]⟩⟩,id⟩,⟨⟨⟨[112,114,111,106,101,99,116]⟩⟩,4⟩,⟨⟨⟨[116,105,116,108,101]⟩⟩,5⟩,⟨⟨⟨[100,111,110,101]⟩⟩,3⟩],1,[],[]⟩,
  ⟨⟨⟨[109,101,109,98,101,114,115]⟩⟩,[⟨⟨⟨[112,114,111,106,101,99,116]⟩⟩,4⟩,⟨⟨⟨[112,101,114,115,111,110]⟩⟩,4⟩],2,[],[]⟩,
  ⟨⟨⟨[97,114,99,104,105,118,101,100]⟩⟩,[⟨⟨⟨[116,97,115,107]⟩⟩,id⟩],1,[],[]⟩]
structure Io(h:PH)(t:uK)(w:bP):Prop where
 name_:w.name=t.name
 key_:w.key=t.key
 cols_:BE h w.columns t.columns
def RT(h:PH)(id:Int)(ws:List bP):Prop:=ws.length=4/\∀(i:Nat) t,(kI id)[i]? =some t->∃w,ws[i]? =some w/\Io h t w
structure yT(m0:MH)(h0:PH)(cb:Nat)(tb n:Nat)(id:Int)(ws:List bP)(s:bX)(m:MH)(h:PH):Prop where
 le_:PH.le h0 h
 ver0:0<=s.version
 ver1:s.version<=2
 case_:aK m h cb
 n2:2<=n
 n4:n<=4
 sl_:∃cap,s.tables=⟨some ⟨tb,0,none⟩,n,cap⟩/\n<=cap
 id_:id=4\/id=5
 new_:m0 tb=none
 ne_:tb≠cb
 row_:uY m tb ws
 ws_:RT h id ws
 other_:∀b,b≠cb->b≠tb->m b=m0 b
def S4:Vc.Spec:=λcvs m h K=>∃cb,cvs=[cP cb]/\aK m h cb/\∀tb n id ws s m' h',yT m h cb tb n id ws s m' h'->K (aS s) m' h'
noncomputable def XW:Ctx:=
 uJ [(39,S4)] [(3,{A:=Nat×bX×MH×PH,st:=λ⟨i,s,m,h⟩=>cJ 25 26 [(2,.at (.ptr 2 0)),(3,.at (.ptr 3 0)),(9,iv s.tables.len),(10,iv i)] [(2,.cells 43 [.val (.int .i64 0),.val (.slice none 0 0)]),(3,.cells 43 (s.enc.map .val))] m h})] [] [] [41] [] false
def Gj(v:bX)(t:Int)(m:MH)(h:PH)(K:CV->MH->PH->Prop):Prop:=
  bA t 0 (K lU m h) (fW t (gO v) (K lU m h) (HU v 0 t m h (λb=>b) (λo=>o) 5 (λy=>y) (λy I x=>aA (I x) (eL 32) (aA (bF y (kD x)) (cO y (kD x)) (aA (bE x.1) (nG (pT x)) (aA (m=m) (h=h) True)))) (λI m1 x=>HT (I x) x 0 (λb o y=>aM m h b (bL o x.1 2) (nP y.name y.kind)) (λy x1=>aA (I x1) (m1 x1<m1 x) (aA (eL 32) (bF (kD x) (kD x1)) (aA (cO (kD x) (kD x1)) (fY (aT ((↑x.1:Int)+1))=bZ x1.1) (aA (nH (pT x) y.kind (pT x1)) (m=m) (bT h h))))) (bM h 1 (eF (pT x)) (λs h1=>K (pD s) m h1)))))
theorem Xw(v:bX)(t:Int)(m:MH)(h:PH)(K:CV->MH->PH->Prop):Gj v t m h K=(zX (MX m h) Tryz.f44 (dG Tryz.f44) (entry Tryz.f44.ntmps [aS v,cI t] m h) K):=by kernel_rfl
abbrev rB:Prop:=eQ (oQ 43 (uD (mO 0) JU))
abbrev vU(a:ByteArray)(b:Int)(c:ByteArray)(d:Int->Int)(e:Int->ByteArray->Prop):Prop:=∃(x:Int),bD (iT a) b=bD (iT c) (d x)/\∃(x1:ByteArray),e x x1
noncomputable abbrev HX:ByteArray:=ByteArray.mk (Array.mk (fM 105 (fM 100 [])))
noncomputable abbrev HY(a:Nat):ByteArray:=ByteArray.mk (Array.mk (fM 112 (fM 114 (fM 111 (fM 106 (fM 101 (fM a (pZ 116))))))))
noncomputable abbrev CY(a b c d:Nat)(e:List UInt8)(g:Sl)(i:Int):List Value:=aL (Value.string (ByteArray.mk (Array.mk (fM a (fM b (fM c (fM d e))))))) (dT g) (aL (dY i) tZ iD)
noncomputable abbrev iO(a:bX×MH×PH):Nat->Nat->Option Value:=a.2.2
abbrev CM(a:Int×bX×MH×PH->Prop)(b c:Nat)(d:Int)(e:(Int×bX×MH×PH)->Prop)(g:Nat->Option Obj)(i:Nat->Nat->Option Value):Prop:=∃(x:Int×bX×MH×PH),aA (a x) (cX b) (aA (eP c) (cM d x.1) (aA eM rB (aA (e x) (bK g x.2.2) (bT i (iO x.2)))))
noncomputable abbrev qU(a:Int×bX×MH×PH):bX:=a.2.1
abbrev mI(a b:bX):Prop:=oQ 43 (F3 a)=oQ 43 (F3 b)
attribute [push_cast] rB vU HX HY CY iO CM qU mI
def O5(cb:Nat)(m:MH)(h:PH)(K:CV->MH->PH->Prop):Prop:=
  gZ cb 3 m h (λk m1=>∃(I:Int×Int×MH×PH->Prop),j6 cb 5 m1 h (λc r=>∀(m2:MH),aU (bB m1 m2 c) (aK m2 h c) (branch r (∃(x:Int×Int×MH×PH),aA (I x) (cX cb) (aA gA (cM (aT (2+k)) x.1) (aA (cM 5 x.2.1) rB (aA (bK m2 x.2.2) (h=x.2.2.2) True)))) (∃(x:Int×Int×MH×PH),aA (I x) (cX cb) (aA gA (cM (aT (2+k)) x.1) (aA (cM 4 x.2.1) rB (aA (bK m2 x.2.2) (h=x.2.2.2) True))))))/\∀(x:Int×Int×MH×PH),I x->gZ cb 3 x.2.2.1 x.2.2.2 (λk1 m2=>∃(n:ByteArray),vU HX 4 n (λk2=>k2) (λk2 n1=>vU (ByteArray.mk (Array.mk (fM 111 (fM 119 (fM 110 (fM 101 (pZ 114))))))) 4 n1 (λk3=>k3) (λk3 n2=>vU HX x.2.1 n2 (λk4=>k4) (λk4 n3=>vU (HY 99) 4 n3 (λk5=>k5) (λk5 n4=>vU
 (ByteArray.mk (Array.mk (fM 116 (fM 105 (fM 116 (fM 108 (pZ 101))))))) 5 n4 (λk6=>k6) (λk6 n5=>vU (ByteArray.mk (Array.mk (fM 100 (fM 111 (fM 110 (fM 101 [])))))) 3 n5 (λk7=>k7) (λk7 n6=>vU (HY 99) 4 n6 (λk8=>k8) (λk8 n7=>vU (ByteArray.mk (Array.mk (fM 112 (fM 101 (fM 114 (fM 115 (fM 111 (fM 110 [])))))))) 4 n7 (λk9=>k9) (λk9 n8=>∃(a:Int),bD (iT (ByteArray.mk (Array.mk (fM 116 (fM 97 (fM 115 (fM 107 []))))))) x.2.1=bD (iT n8) a/\bM x.2.2.2 2 (nP n k2::eX (nP n1 k3)) (λs h1=>bM h1 2 (nP n2 k4::nP n3 k5::nP n4 k6::eX (nP n5 k7)) (λs1 h2=>bM h2 2 (nP n6 k8::eX (nP n7 k9)) (λs2 h3=>bM h3 2 (eX (nP n8 a)) (λs3 h4=>gR (λs4 m3=>mP m2 m3 h4 s4 86 5
 (CY 112 114 111 106 (fM 101 (fM 99 (fM 116 (fM 115 [])))) s 1::CY 116 97 115 107 (pZ 115) s1 1::CY 109 101 109 98 (fM 101 (fM 114 (pZ 115))) s2 2::eX (CY 97 114 99 104 (fM 105 (fM 118 (fM 101 (fM 100 [])))) s3 1))->aA (cD x.1) (x.1<=(↑s4.cap:Int)) (∃(I1:Int×bX×MH×PH->Prop),j6 cb 2 m3 h4 (λc r=>∀(m4:MH),aU (bB m3 m4 c) (aK m4 h4 c) (branch r (bM h4 1 (eX (bN 1)) (λs5 h5=>aW (λb o=>aH (aX s4.a b o) ((0:Int)<=1) (1<(↑x.1.toNat:Int)) (bM h5 2 (eX (jJ (dT s5) bC)) (λs6 h6=>oD m4 b (o+5+3) (aR s6) (λm5=>CM I1 cb 2 x.1 (λx1=>oQ 43 (uD (mO k1) (At.val (Value.slice s4.a x.1.toNat s4.cap)))=oQ 43 (F3 (qU x1))) m5 h6)))))) (CM I1 cb 2 x.1 (λx1=>oQ 43 (uD (mO k1) (At.val
 (Value.slice s4.a x.1.toNat s4.cap)))=oQ 43 (F3 (qU x1))) m4 h4)))/\∀(x1:Int×bX×MH×PH),I1 x1->∃(I2:Int×bX×MH×PH->Prop),dV x1.1 2 (j6 cb 3 x1.2.2.1 (iO x1.2) (λc r=>∀(m4:MH),aU (bB x1.2.2.1 m4 c) (aK m4 (iO x1.2) c) (branch r (bM (iO x1.2) 1 (eX (iC bC)) (λs5 h5=>CF (qU x1) 2 (λb o=>bM h5 2 (eX (jJ (dT s5) bC)) (λs6 h6=>oD m4 b (o+10+3) (aR s6) (λm5=>CM I2 cb 2 x1.1 (λx2=>mI (qU x1) (qU x2)) m5 h6))))) (CM I2 cb 2 x1.1 (λx2=>mI (qU x1) (qU x2)) m4 (iO x1.2))))) (CM I2 cb 2 x1.1 (λx2=>mI (qU x1) (qU x2)) x1.2.2.1 (iO x1.2))/\∀(x2:Int×bX×MH×PH),I2 x2->∃(I3:bX×MH×PH->Prop),dV x2.1 3 (j6 cb 3 x2.2.2.1 (iO x2.2) (λc r=>∀(m4:
 MH),aU (bB x2.2.2.1 m4 c) (aK m4 (iO x2.2) c) (branch r (bM (iO x2.2) 1 (eX (iC bC)) (λs5 h5=>CF (qU x2) 3 (λb o=>bM h5 2 (eX (jJ (dT s5) (dY 1))) (λs6 h6=>oD m4 b (o+15+3) (aR s6) (λm5=>∃(x3:bX×MH×PH),aA (I3 x3) (cX cb) (aA gA eM (aA rB (mI (qU x2) x3.1) (aA (bK m5 x3.2) (h6=iO x3) True)))))))) (∃(x3:bX×MH×PH),aA (I3 x3) (cX cb) (aA gA eM (aA rB (mI (qU x2) x3.1) (aA (bK m4 x3.2) (iO x2.2=iO x3) True))))))) (∃(x3:bX×MH×PH),aA (I3 x3) (cX cb) (aA gA eM (aA rB (mI (qU x2) x3.1) (aA (bK x2.2.2.1 x3.2) (iO x2.2=iO x3) True))))/\∀(x3:bX×MH×PH),I3 x3->∃(I4:bX×MH×PH->Prop),j6 cb 3 x3.2.1 (iO x3) (λc r=>∀
 (m4:MH),aU (bB x3.2.1 m4 c) (aK m4 (iO x3) c) (branch r (∃(v:Int),aW (λt n9=>∃(c1:Nat)(w:List bP)(w1:bP)(c2:List lS)(t1:Nat),aA (bD (jI (bI x3.1)) 1=bD (jI (jJ (dY v) (Value.slice (j5 t) n9 c1))) (↑t1:Int)) (t1<n9) (aA (uY m4 t w) (w[t1]? =Option.some w1) (aA (BE (iO x3) w1.columns c2) (c2.length<=8) (lC (λs5 h5=>dK (iO x3) h5 (Ints h5 s5 (List.map lS.kind c2)) (∃(c3:Nat),wA (λs6 t2 c4 p d=>aA (qB cb 0::cH s5 (bD lU 1)=qB c3 0::cH s6 (fL t2 (↑d:Int))) (aK m4 h5 c3) (aA (Ints h5 s6 c4) (Ints h5 t2 p) (aH (fI c4) (fI p) (jG d) (AB (λv1 p1=>fC (λm5 h6=>dK h5 h6 (eH h6 p1 v1) (aU (u0 c4 p d p1) (bB m4 m5 c3) (jQ m5 h6 c3 (CF x3.1 1 (λb o=>bM h6 13 (eX v1.enc) (fun
 s7 h7=>oD m5 b (o+5+4) (aR s7) (λm6=>∃(x4:bX×MH×PH),aA (I4 x4) gA (aA eM rB (aH (mI x3.1 x4.1) (bK m6 x4.2) (h7=iO x4) True))))))))))))))))))))) (∃(x4:bX×MH×PH),aA (I4 x4) gA (aA eM rB (aH (mI x3.1 x4.1) (bK m4 x4.2) (iO x3=iO x4) True)))))/\∀(x4:bX×MH×PH),I4 x4->K (jI (bI x4.1)) x4.2.1 (iO x4)))))))))))))))))
noncomputable abbrev A1(a:Nat×bX×MH×PH):Sl:=a.2.1.tables
attribute [push_cast] A1
def JF(cb:Nat)(m:MH)(h:PH)(K:CV->MH->PH->Prop):Prop:=
  ∃(c:Nat),aA (vI cb=vI c) (aK m h c) (∀(t n:Nat)(i:Int)(w:List bP)(s:bX),fC (λm1 h1=>yT m h c t n i w s m1 h1->∃(I:Nat×bX×MH×PH->Prop)(m2:Nat×bX×MH×PH->Nat),(∃(x:Nat×bX×MH×PH),aA (I x) gA (aA (eP 3) (cO s.tables (A1 x)) (aA (bE x.1) rB (aA (mI s x.2.1) (bK m1 x.2.2) (bT h1 (iO x.2))))))/\∀(x:Nat×bX×MH×PH),I x->bA (↑x.1:Int) (aG (A1 x)) (aW (λb o=>aH (aX (oU x.2.1) b o) (0<=(↑x.1:Int)) ((↑x.1:Int)<aG (A1 x)) (oD x.2.2.1 b (bL o x.1 5+3) iD (λm3=>aW (λb1 o1=>aH (aX (oU x.2.1) b1 o1) (0<=(↑x.1:Int)) ((↑x.1:Int)<aG (A1 x)) (oD m3 b1 (bL o1 x.1 5+4) iD (λm4=>∃(x1:Nat×bX×MH×PH),aA (I x1) (m2 x1<m2 x) (aA
 gA (eP 3) (aA (cO (A1 x) (A1 x1)) (fY (aT ((↑x.1:Int)+1))=bZ x1.1) (aA rB (mI x.2.1 x1.2.1) (cA (bK m4 x1.2.2) (iO x.2) (iO x1.2)))))))))))) (K (jI (bI x.2.1)) x.2.2.1 (iO x.2))))
theorem P3{α:Type}(l:List α)(o:Nat)(x:α)(h:o<l.length):splice l o [x]=l.set o x:=by
 rw[List.set_eq_take_append_cons_drop,if_pos h];simp[splice]
theorem flatten_set:∀(ws:List bP){i k:Nat}{w w':bP}{x:Value},ws[i]? =some w->k<5->w'.enc=w.enc.set k x->((ws.map bP.enc).flatten).set (i*5+k) x=((ws.set i w').map bP.enc).flatten
 |[],i,k,w,w',x,h,_,_=>by simp at h
 |u::ws,0,k,w,w',x,h,hk,e=>by
  simp at h;subst h;simp only[List.map_cons,List.flatten_cons,List.set_cons_zero,Nat.zero_mul,Nat.zero_add,e];rw[List.set_append_left _ _ (by simpa[bP.enc]using hk)]
 |u::ws,i+1,k,w,w',x,h,hk,e=>by
  simp only[List.map_cons,List.flatten_cons,List.set_cons_succ];have hl:u.enc.length=5:=rfl;rw[List.set_append_right _ _ (by rw[hl];omega),hl,show(i+1)*5+k-5=i*5+k by omega,flatten_set ws (by simpa using h) hk e]
theorem Vj(ws:List bP):((ws.map bP.enc).flatten).length=ws.length*5:=by
 induction ws with
 |nil=>rfl
 |cons w ws ih=>simp only[List.map_cons,List.flatten_cons,List.length_append,ih,List.length_cons];show 5+_=_;omega
theorem uY.big{tb:Nat}{ws:List bP}{cs:Array Value}{E:TypeId}{fz:Nat×Nat}(h:uY m tb ws)(hm:m tb=some (.cells cs E fz)):ws.length*5<=cs.size:=by
 obtain⟨cur,h1,h2⟩:=h.ex;rw[h1]at hm;simp only[Option.some.injEq,Obj.cells.injEq]at hm;obtain⟨rfl,_,_⟩:=hm;have:=congrArg List.length h2;rw[Vj]at this;simp at this;omega
theorem uY.store{tb:Nat}{ws:List bP}{w w':bP}{x:Value}(h:uY m tb ws)(hi:ws[i]? =some w)(hk:k<5)(e:w'.enc=w.enc.set k x){cs:Array Value}{E:TypeId}{fz:Nat×Nat}(hm:m tb=some (.cells cs E fz))
 (hu:m' tb=some (.cells (splice cs.toList (i*5+k) [x]).toArray E (0,0))):uY m' tb (ws.set i w'):=by
 have hb:=h.big hm;have hil:=(List.getElem?_eq_some_iff.1 hi).1;obtain⟨cur,h1,h2⟩:=h.ex;rw[h1]at hm;simp only[Option.some.injEq,Obj.cells.injEq]at hm;obtain⟨rfl,rfl,_⟩:=hm;refine⟨_,hu,?_⟩;rw[P3 _ _ _ (by simp;omega),List.length_set,List.toList_toArray,List.take_set,h2];exact flatten_set ws hi hk e
theorem uY.rd{tb:Nat}{ws:List bP}(r:uY m tb ws){j:Nat}{w:bP}{x:Value}(hi:ws[i]? =some w)(hj:w.enc[j]? =some x):aM m h tb (i*5+j) [x]:=by
 obtain⟨cur,h1,h2⟩:=r.ex;refine .of_m h1 ?_;have h3:=kU (xs:=ws.map bP.enc) (sz:=5) (λe he=>by obtain⟨x,_,rfl⟩:=List.mem_map.1 he;rfl) (by rw[List.getElem?_map,hi];rfl) j x hj;rw[<-h2,List.getElem?_take]at h3;split at h3
 .rw[drop_cons h3];rfl
 .cases h3
theorem Xx{ver:Int}{tb n cap:Nat}{ws:List bP}{w:bP}{cols:List lS}{t:Nat}(ht:t<n)(hr:uY m tb ws)(hw:ws[t]? =some w)(hc:BE h w.columns cols)(h8:cols.length<=8)
 (hK:∀sl h',PH.le h h'->Ints h' sl (cols.map lS.kind)->K (cS sl) m h'):Gj ⟨ver,⟨some ⟨tb,0,none⟩,n,cap⟩⟩ t m h K:=by
 dsimp only[Gj,push_cast];have hcl:=bY.slen hc;refine aE (λh1=>by omega) (λh1=>aE (λh2=>by have h2:(t:Int)>=(n:Int):=h2;omega) (λh2=>?_));refine⟨tb,0,rfl,aC,by show(t:Int)<(n:Int);omega,w.columns,?_,λ⟨i,sl,l⟩=>sl=w.columns/\i<=cols.length/\l=(cols.take i).map lS.kind,λ⟨i,_,_⟩=>cols.length-i,⟨(0,w.columns,[]),⟨rfl,by simp,by simp⟩,MT⟩,?_⟩
 .rw[Nat.zero_add,Int.toNat_natCast];exact hr.rd hw rfl
 rintro⟨i,_,_⟩ ⟨rfl,hi,rfl⟩;dsimp only;refine aE (λhlt=>?_) (λhge sl h' hle hrow=>?_)
 .obtain⟨c,hx⟩:=fJ hcl hlt;obtain⟨b,o,e,r⟩:=BE.at hc hx;refine⟨b,o,e,aC,hlt,c,.imm r,?_,?_,(i+1,w.columns,(cols.take (i+1)).map lS.kind),⟨rfl,aC,rfl⟩,by show cols.length-(i+1)<cols.length-i;omega,?_⟩
  .simp;omega
  .simp;omega
  .rw[fP hx,List.map_append];exact MT
 .rw[List.take_of_length_le aC]at hrow;exact hK sl h' hle ⟨hrow,by simp;omega⟩
theorem Qo:Sound Tryz.prog 44 Te:=by
 refine eG (fn:=Tryz.f44) (c:=dG Tryz.f44) Tryz.func44 rfl (by decide) ?_;rintro cvs m h K ⟨ver,tb,n,cap,ws,w,cols,t,rfl,h1,h2,h3,h4,h5,h6⟩;refine⟨MX m h,rfl,aF,?_⟩;rw[<-Xw];exact Xx h1 h2 h3 h4 h5 h6
theorem Io.mono{t:uK}{w:bP}(x:Io h t w)(le:PH.le h h'):Io h' t w:=⟨x.name_,x.key_,bY.mono x.cols_ le λ_ _ e=>e⟩
theorem RT.mono{id:Int}{ws:List bP}(x:RT h id ws)(le:PH.le h h'):RT h' id ws:=⟨x.1,λi t e=>let⟨w,e1,e2⟩:=x.2 i t e;⟨w,e1,e2.mono le⟩⟩
theorem RT.set{id:Int}{ws:List bP}{w w':bP}(x:RT h id ws)(hi:ws[i]? =some w)(e1:w'.name=w.name)(e2:w'.key=w.key)(e3:w'.columns=w.columns):RT h id (ws.set i w'):=by
 refine⟨by rw[List.length_set];exact x.1,λj t e=>?_⟩;obtain⟨u,h1,h2⟩:=x.2 j t e;by_cases hj:i=j
 .subst hj;rw[hi]at h1;cases h1;exact⟨w',by rw[List.getElem?_set_self (List.getElem?_eq_some_iff.1 hi).1],⟨by rw[e1];exact h2.name_,by rw[e2];exact h2.key_,by rw[e3];exact h2.cols_⟩⟩
 .exact⟨u,by rw[List.getElem?_set_ne hj];exact h1,h2⟩
theorem yT.on{m0 m1:MH}{h0 h1:PH}{tb n:Nat}{id:Int}{ws:List bP}{s:bX}(x:yT m0 h0 cb tb n id ws s m h)(le:PH.le h h1)(ho:bB m m1 cb)(hc:aK m1 h1 cb):yT m0 h0 cb tb n id ws s m1 h1:=by
 refine⟨x.le_.trans le,x.ver0,x.ver1,hc,x.n2,x.n4,x.sl_,x.id_,x.new_,x.ne_,?_,x.ws_.mono le,λb n1 n2=>by rw[ho.other b n1];exact x.other_ b n1 n2⟩;obtain⟨cur,e1,e2⟩:=x.row_.ex;exact⟨cur,by rw[ho.other tb x.ne_];exact e1,e2⟩
theorem yT.store{m0:MH}{h0:PH}{tb n:Nat}{id:Int}{ws:List bP}{s:bX}(x:yT m0 h0 cb tb n id ws s m h){o:Nat}{w w':bP}{y:Value}(hi:ws[i]? =some w)(hk:k<5)(ho:o=i*5+k)(e:w'.enc=w.enc.set k y)(e1:w'.name=w.name)(e2:w'.key=w.key)(e3:w'.columns=w.columns){Q:MH->Prop}
 (hQ:∀m2,yT m0 h0 cb tb n id (ws.set i w') s m2 h->Q m2):∃(cs:Array Value)(E:TypeId),tY m tb (.cells cs E (0,0))/\o<cs.size/\∀m2:MH,jH m m2 tb (.cells (splice cs.toList o [y]).toArray E (0,0))->Q m2:=by
 obtain⟨cur,h1,h2⟩:=x.row_.ex;have hil:=(List.getElem?_eq_some_iff.1 hi).1;refine⟨cur,86,⟨h1⟩,by have:=x.row_.big h1;omega,λm2 hu=>hQ m2 ?_⟩;subst ho;refine⟨x.le_,x.ver0,x.ver1,?_,x.n2,x.n4,x.sl_,x.id_,x.new_,x.ne_,x.row_.store hi hk e h1 hu.at_,x.ws_.set hi e1 e2 e3,λb n1 n2=>by rw[hu.other b n2];exact x.other_ b n1 n2⟩;obtain⟨r,q,cs,k,q1,q2⟩:=x.case_;exact⟨r,q,cs,k,by rw[hu.other cb x.ne_.symm];exact q1,q2⟩
theorem Fw{h:PH}{s:Sl}{l:List lS}(r:cN h s 2 (l.map lS.enc))(hl:l.length<=8):BE h s l:=⟨⟨l,r,rfl,λi x e=>⟨x,e,rfl⟩⟩,aC⟩
theorem mP.tabs{m m':MH}{h:PH}{s:Sl}{w:bP}{ws:List bP}(x:mP m m' h s 86 5 ((w::ws).map bP.enc)):∃tb cap,s=⟨some ⟨tb,0,none⟩,ws.length+1,cap⟩/\ws.length+1<=cap/\uY m' tb (w::ws)/\cE m h tb/\∀b,b≠tb->m' b=m b:=by
 rcases x.row.ex with⟨_,e⟩|⟨b,cap,cur,e,hm,h1,_,h3,h4⟩
 .cases e
 .subst e;refine⟨b,cap,by simp,by simpa using h1,⟨cur,hm,by simpa using h4⟩,x.fresh b 0 rfl,λc hc=>x.other c (λi e=>by simp only[Option.some.injEq,Addr.mk.injEq]at e;exact hc e.1.symm)⟩
theorem Ua:Sound Tryz.prog 39 S4:=by
 refine hX Tryz.func39 ?_;rintro cvs m h K ⟨cb,rfl,hc,hK⟩;refine⟨XB cb,rfl,aD Gb (aD wL (aD T2 (aD Qo (aD Db aF)))),O5 cb m h K,by kernel_rfl,?_⟩;dsimp only[O5,push_cast];refine⟨cb,3,rfl,hc,λk m1 k0 k1 o1 c1=>?_⟩;have hk2:IntKind.i64.wrap (2+k)=2+k:=dJ aC aC;rw[hk2];refine⟨λ⟨n,id,mx,hx⟩=>2<=n/\n<=4/\(id=4\/id=5)/\hx=h/\bB m mx cb/\aK mx h cb,⟨cb,5,rfl,aC,aC,c1,λr m2 o2 c2=>aB (λ_=>⟨(2+k,5,m2,h),⟨by show 2<=2+k;omega,by show 2+k<=4;omega,.inr rfl,rfl,o1.trans o2,c2⟩,MT⟩) (λ_=>⟨(2+k,4,m2,h),⟨by show 2<=2+k;omega,by show 2+k<=4;omega,.inl rfl,rfl,o1.trans o2,c2⟩,MT⟩)⟩,?_⟩;clear o1 c1 m1 hk2 k0 k1 k;rintro⟨n,id,m1,hx⟩ ⟨n2,n4,hid,rfl,o1,c1⟩;dsimp only;refine⟨cb,3,rfl,c1,λk m2 k0 k1 o2 c2=>?_⟩;refine⟨_,_,rfl,_,_,rfl,_,_,rfl,_,_,rfl,_,_,rfl,_,_,rfl,_,_,rfl,_,_,rfl,_,_,rfl,λs1 h1 le1 r1 s2 h2 le2 r2 s3 h3 le3 r3 s4 h4 le4 r4 tl m3 hnew=>?_⟩;obtain⟨tb,cap,rfl,hcap,hrow,hun,hoth⟩:=mP.tabs (w:=⟨_,s1,1,bU,bU⟩) (ws:=[⟨_,s2,1,bU,bU⟩,⟨_,s3,2,bU,bU⟩,⟨_,s4,1,bU,bU⟩]) hnew;simp only[List.length_cons,List.length_nil]at hcap;have hle:PH.le hx h4:=((le1.trans le2).trans le3).trans le4
 have tbcb:tb≠cb:=λe=>by
  obtain⟨r,q,cs,j,q1,_⟩:=c2;have:=hun.m_;rw[e,q1]at this;cases this
 have hm0:m tb=none:=by rw[<-o1.other tb tbcb, <-o2.other tb tbcb];exact hun.m_
 have c3:aK m3 h4 cb:=by
  obtain⟨r,q,cs,j,q1,q2,q3⟩:=c2;exact⟨r,q,cs,j,by rw[hoth cb tbcb.symm];exact q1,q2.mono hle,q3⟩
 have S0:yT m hx cb tb n.toNat id _ ⟨k,⟨some ⟨tb,0,none⟩,n.toNat,cap⟩⟩ m3 h4:=⟨hle,k0,by show k<=2;omega,c3,aC,aC,⟨cap,rfl,aC⟩,hid,hm0,tbcb,hrow,⟨rfl,λi t e=>?_⟩,λb n1 n2=>by rw[hoth b n2,o2.other b n1,o1.other b n1]⟩
 rotate_left
 .match i,e with
  |0,e=>cases e;exact⟨_,rfl,⟨rfl,rfl,Fw (l:=[⟨_,_⟩,⟨_,_⟩]) (r1.mono ((le2.trans le3).trans le4)) (by decide)⟩⟩
  |1,e=>cases e;exact⟨_,rfl,⟨rfl,rfl,Fw (l:=[⟨_,_⟩,⟨_,_⟩,⟨_,_⟩,⟨_,_⟩]) (r2.mono (le3.trans le4)) (by simp)⟩⟩
  |2,e=>cases e;exact⟨_,rfl,⟨rfl,rfl,Fw (l:=[⟨_,_⟩,⟨_,_⟩]) (r3.mono le4) (by decide)⟩⟩
  |3,e=>cases e;exact⟨_,rfl,⟨rfl,rfl,Fw (l:=[⟨_,_⟩]) r4 (by simp)⟩⟩
  |i+4,e=>simp[kI]at e
 generalize hws:(bP.mk _ s1 1 bU bU::_)=ws0 at S0;clear hws hrow hnew r1 r2 r3 r4;have getw:∀{ws:List bP}{i:Nat},ws.length=4->i<4->∃w,ws[i]? =some w:=λhl hi=>⟨_,List.getElem?_eq_getElem aC⟩
 refine⟨aC,by show n<=(cap:Int);omega,λ⟨n',s,mx,hy⟩=>n'=n/\∃ws,yT m hx cb tb n.toNat id ws s mx hy,⟨cb,2,rfl,aC,aC,c3,λr m4 o4 c4=>aB (λ_ s5 h5 le5 r5=>⟨tb,0,rfl,aC,aC,λs6 h6 le6 r6=>?_⟩) (λ_=>⟨(n,⟨k,⟨some ⟨tb,0,none⟩,n.toNat,cap⟩⟩,m4,h4),⟨rfl,_,S0.on (.refl _) o4 c4⟩,MT⟩)⟩,?_⟩
 .obtain⟨w,hw⟩:=getw (i:=1) S0.ws_.1 aC;exact(S0.on (le5.trans le6) o4 (c4.mono (le5.trans le6))).store (k:=3) (w':={w with references:=s6}) hw aC rfl rfl rfl rfl rfl λm5 x5=>⟨(n,⟨k,⟨some ⟨tb,0,none⟩,n.toNat,cap⟩⟩,m5,h6),⟨rfl,_,x5⟩,MT⟩
 clear S0 c3 hoth hun hm0 hcap hle le1 le2 le3 le4 o1 o2 c1 c2;rintro⟨n',s,m4,h5⟩ ⟨rfl,ws,S0⟩;dsimp only;obtain⟨cap,hsl,_⟩:=S0.sl_;have hsa:s.tables.a=some ⟨tb,0,none⟩:=by rw[hsl]
 have hsn:s.tables.len=n'.toNat:=by rw[hsl]
 refine⟨λ⟨n,s,mx,hy⟩=>n=n'/\∃ws,yT m hx cb tb n.toNat id ws s mx hy,aE (λhn=>⟨cb,3,rfl,aC,aC,S0.case_,λr m5 o5 c5=>aB (λ_ s7 h7 le7 r7=>⟨tb,0,hsa,aC,aC,λs8 h8 le8 r8=>?_⟩) (λ_=>⟨(n',s,m5,h5),⟨rfl,_,S0.on (.refl _) o5 c5⟩,MT⟩)⟩) (λ_=>⟨(n',s,m4,h5),⟨rfl,_,S0⟩,MT⟩),?_⟩
 .obtain⟨w,hw⟩:=getw (i:=2) S0.ws_.1 aC;exact(S0.on (le7.trans le8) o5 (c5.mono (le7.trans le8))).store (k:=3) (w':={w with references:=s8}) hw aC rfl rfl rfl rfl rfl λm5 x5=>⟨(n',s,m5,h8),⟨rfl,_,x5⟩,MT⟩
 clear S0 hsa hsn hsl;rintro⟨n'',s,m4,h5⟩ ⟨rfl,ws,S0⟩;dsimp only;obtain⟨cap,hsl,_⟩:=S0.sl_;have hsa:s.tables.a=some ⟨tb,0,none⟩:=by rw[hsl]
 have hsn:s.tables.len=n''.toNat:=by rw[hsl]
 refine⟨λ⟨s,mx,hy⟩=>∃ws,yT m hx cb tb n''.toNat id ws s mx hy,aE (λhn=>⟨cb,3,rfl,aC,aC,S0.case_,λr m5 o5 c5=>aB (λ_ s7 h7 le7 r7=>⟨tb,0,hsa,aC,aC,λs8 h8 le8 r8=>?_⟩) (λ_=>⟨(s,m5,h5),⟨_,S0.on (.refl _) o5 c5⟩,MT⟩)⟩) (λ_=>⟨(s,m4,h5),⟨_,S0⟩,MT⟩),?_⟩
 .obtain⟨w,hw⟩:=getw (i:=3) S0.ws_.1 aC;exact(S0.on (le7.trans le8) o5 (c5.mono (le7.trans le8))).store (k:=3) (w':={w with references:=s8}) hw aC rfl rfl rfl rfl rfl λm5 x5=>⟨(s,m5,h8),⟨_,x5⟩,MT⟩
 clear S0 hsa hsn hsl;rintro⟨s,m4,h5⟩ ⟨ws,S0⟩;dsimp only;obtain⟨cap,hsl,_⟩:=S0.sl_;have hsa:s.tables.a=some ⟨tb,0,none⟩:=by rw[hsl]
 have hsn:s.tables.len=n''.toNat:=by rw[hsl]
 refine⟨λ⟨s,mx,hy⟩=>∃ws,yT m hx cb tb n''.toNat id ws s mx hy,⟨cb,3,rfl,aC,aC,S0.case_,λr m5 o5 c5=>aB (λ_=>?_) (λ_=>⟨(s,m5,h5),⟨_,S0.on (.refl _) o5 c5⟩,MT⟩)⟩,λ⟨s,m4,h5⟩⟨ws,S0⟩=>hK _ _ _ _ _ _ _ S0⟩;have S1:=S0.on (.refl _) o5 c5;obtain⟨w,hw,hhalf⟩:=S1.ws_.2 1 _ rfl;refine⟨s.version,tb,n''.toNat,cap,ws,w,_,1,by rw[hsl];rfl,aC,S1.row_,hw,hhalf.cols_,by simp,λsl h6 le6 hi6=>?_⟩;refine⟨cb,sl,bU,_,[],1,rfl,c5.mono le6,hi6,⟨cN.nil _ _,by simp⟩,by simp,by simp,aC,λpvv p m6 h7 le7 hp hpw o6 c6=>⟨tb,0,hsa,aC,aC,λs8 h8 le8 r8=>?_⟩⟩;exact(S1.on ((le6.trans le7).trans le8) o6 (c6.mono le8)).store (k:=4) (w':={w with checks:=s8}) hw aC rfl rfl rfl rfl rfl λm5 x5=>⟨(s,m5,h8),⟨_,x5⟩,MT⟩
structure pE(s:nY):Prop where
 ex:∃ver n id,0<=ver/\ver<=2/\2<=n/\n<=4/\(id=4\/id=5)/\s=⟨ver,(kI id).take n⟩
def Wt:Vc.Spec:=λcvs m h K=>∃cb,cvs=[cP cb]/\aK m h cb/\∀s v m' h',pE s->fQ h' s v->PH.le h h'->bB m m' cb->aK m' h' cb->K (aS v) m' h'
theorem Ut:Sound Tryz.prog 12 Wt:=by
 refine W4 Tryz.func12 ?_;rintro cvs m h K ⟨cb,rfl,hc,hK⟩;refine⟨XW,rfl,aD Ua aF,JF cb m h (cZ h K),by kernel_rfl,?_⟩;show JF cb m h (cZ h K);dsimp only[JF,push_cast];refine⟨cb,rfl,hc,λtb n id ws s m1 h1 S1=>?_⟩;refine⟨λ⟨i,s',mx,hx⟩=>s'=s/\hx=h1/\i<=n/\∃ws,yT m h cb tb n id ws s mx h1/\∀j w,j<i->ws[j]? =some w->w.references=bU/\w.checks=bU,λ⟨i,_,_,_⟩=>n-i,⟨(0,s,m1,h1),⟨rfl,rfl,aC,ws,S1,λj w hj=>by omega⟩,MT⟩,?_⟩;clear S1 ws m1;rintro⟨i,s',m1,hx⟩ ⟨rfl,rfl,hi,ws,S1,hnil⟩;dsimp only;obtain⟨cap,hsl,hscap⟩:=S1.sl_;have hsa:s'.tables.a=some ⟨tb,0,none⟩:=by rw[hsl]
 have hsn:s'.tables.len=n:=by rw[hsl]
 have hn4:=S1.n4;refine aE (λhlt=>⟨tb,0,hsa,aC,hlt,?_⟩) (λhge hdis=>?_)
 .obtain⟨w,hw⟩:∃w,ws[i]? =some w:=⟨_,List.getElem?_eq_getElem (by have:=S1.ws_.1;have:=S1.n4;omega)⟩
  refine S1.store (i:=i) (k:=3) (w':={w with references:=bU}) hw aC aC rfl rfl rfl rfl λm2 S2=>⟨tb,0,hsa,aC,hlt,?_⟩
  have hil:=(List.getElem?_eq_some_iff.1 hw).1;have hw2:(ws.set i {w with references:=bU})[i]? =some {w with references:=bU}:=List.getElem?_set_self hil;refine S2.store (i:=i) (k:=4) (w':={w with references:=bU,checks:=bU}) hw2 aC aC rfl rfl rfl rfl λm3 S3=>⟨(i+1,s',m3,hx),⟨rfl,rfl,by show i+1<=n;omega,_,S3,λj u hj hu=>?_⟩,by show n-(i+1)<n-i;omega,MT⟩
  by_cases e:i=j
  .subst e;rw[List.getElem?_set_self (by rw[List.length_set];exact hil)]at hu;cases hu;exact⟨rfl,rfl⟩
  .rw[List.getElem?_set_ne e,List.getElem?_set_ne e]at hu;exact hnil j u aC hu
 .have hdis:=hdis;obtain⟨cur,hcur,htake⟩:=S1.row_.ex;have hg0:∀i,hx tb i=none:=hdis tb _ hcur
  have hle3:PH.le hx (λx i=>if x=tb then cur[i]? else hx x i):=⟨λx i v e=>by
   have:x≠tb:=λe'=>by rw[e',hg0 i]at e;cases e
   simp[this,e]⟩
  refine⟨λb=>if b=tb then none else m1 b,λx i=>if x=tb then cur[i]? else hx x i,λb o e=>?_,S1.le_.trans hle3,λx i v e=>?_,hK ⟨s'.version,(kI id).take n⟩ s' _ _ ⟨⟨_,_,_,S1.ver0,S1.ver1,S1.n2,S1.n4,S1.id_,rfl⟩⟩ ⟨rfl,?_⟩ (S1.le_.trans hle3) ⟨λb hb=>?_⟩ ?_⟩
  .by_cases e':b=tb
   .simp[e']at e
   .simpa[e']using e
  .by_cases e':x=tb
   .subst e';simp at e;exact .inr ⟨cur,86,(0,0),hcur,e,by simp⟩
   .simp[e']at e;exact .inl e
  .have hws4:=S1.ws_.1;have hn4:=S1.n4;refine⟨⟨ws.take n,⟨by rw[hsn];simp;omega,.inr ⟨tb,0,hsa,λi e hi=>⟨λj v hj=>?_⟩⟩,by rw[hsl];exact hscap⟩,by simp[kI];omega,λi t e=>?_⟩,by simp[kI];omega⟩
   .rw[List.map_take,List.getElem?_take]at hi;split at hi
    .have h1:=kU (xs:=ws.map bP.enc) (sz:=5) (λe he=>by obtain⟨x,_,rfl⟩:=List.mem_map.1 he;rfl) hi j v hj;rw[<-htake,List.getElem?_take]at h1;split at h1
     .simp only[if_true,Nat.zero_add];rw[<-Array.getElem?_toList];exact h1
     .cases h1
    .cases hi
   .rw[List.getElem?_take]at e;split at e
    .rename_i hin;obtain⟨w,e1,e2⟩:=S1.ws_.2 i t e;obtain⟨z1,z2⟩:=hnil i w aC e1;have hh:=e2.mono hle3
     have hnorc:t.refs=[]/\t.checks=[]:=by
      match i,e with
      |0,e=>cases e;exact⟨rfl,rfl⟩
      |1,e=>cases e;exact⟨rfl,rfl⟩
      |2,e=>cases e;exact⟨rfl,rfl⟩
      |3,e=>cases e;exact⟨rfl,rfl⟩
      |i+4,e=>simp[kI]at e
     refine⟨w,by rw[List.getElem?_take,if_pos hin];exact e1,⟨hh.name_,hh.cols_,hh.key_,by rw[z1,hnorc.1];exact bY.nil _ _ _ _,by rw[z2,hnorc.2];exact bY.nil _ _ _ _⟩⟩
    .cases e
  .by_cases e':b=tb
   .subst e';simp[S1.new_]
   .simp[e'];exact S1.other_ b hb e'
  .obtain⟨r,q,cs,k,q1,q2,q3⟩:=S1.case_;exact⟨r,q,cs,k,by simp[S1.ne_.symm];exact q1,q2.mono hle3,q3⟩
def QW(q:Query):Prop:=
 match q with
 |.mk _ _ w _ _ _ _ _ args=>FG w/\∀a∈args,QW a
 termination_by SizeOf.sizeOf q
theorem P7{op:Int}{on:List (Int×Int)}{args:List Query}:
 QW (.mk op ta w co on gr od li args)↔FG w/\∀a∈args,QW a:=by rw[QW.eq_def]
def Wn(s:nY):Prop:=∀t,FJ (gT s t)
structure SY(s:nY)(ps ks:List Int)(q0 q:Query):Prop where
 qw:QW q
 siz:∀d,xI d q0->Kp d q
 kin:Wn s->FJ ps->FJ ks->ks≠[]->ks.length<=12->bO s ps q0=(ks,0)->bO s ps q=(ks,0)
def KQ(K:CV->MH->PH->Prop)(m:MH)(h:PH)(cb:Nat)(R:Query->Prop):Prop:=∀w q m' h',PH.le h h'->cT h' q w->R q->bB m m' cb->aK m' h' cb->K (aQ w) m' h'
def Nj:Vc.Spec:=λcvs m h K=>∃cb sc p k v s ps ks q,cvs=[cP cb,aS sc,cS p,cS k,aQ v]/\aK m h cb/\fQ h s sc/\mS s/\s.tables.length<=1000/\Ints h p ps/\ps.length<=1000/\Ints h k ks/\ks.length<=1000/\cT h q v/\QW q/\KQ K m h cb (SY s ps ks q)
noncomputable def XD(cb:Nat)(sc:bX)(p k:Sl)(v:QV):Ctx:=
 dN [(15,FH),(44,uM),(40,Wp),(16,Kb),(30,xH)] [(3,{A:=Int×Nat×MH×PH,st:=λ⟨f,n,m,h⟩=>cJ 112 117 [(0,pv cb),(2,sv p),(3,sv k),(6,.at (.ptr 6 0)),(9,.at (.ptr 9 0)),(10,.at (.ptr 10 0)),(11,iv f),(12,iv n)] [(6,.cells 43 (sc.enc.map .val)),(9,.cells 38 (v.enc.map .val)),(10,.cells 38 (yX.enc.map .val))] m h}),
  (9,{A:=Int×Nat×Int×Sl×List Int×Nat×MH×PH,st:=λ⟨f,n,t,have_,cols,i,m,h⟩=>cJ 112 117 [(0,pv cb),(2,sv p),(3,sv k),(6,.at (.ptr 6 0)),(9,.at (.ptr 9 0)),(10,.at (.ptr 10 0)),(11,iv f),(12,iv n),(13,iv t),(14,sv have_),(15,.at (.lst 75)),(45,sv k),(46,iv k.len),(47,iv i)] [(6,.cells 43 (sc.enc.map .val)),(9,.cells 38 (v.enc.map .val)),(10,.cells 38 (yX.enc.map .val)),(75,.lst 3 1 (cols.map eI))] m h}),
  (13,{A:=Int×Nat×Int×Sl×List Int×Nat×Int×Int×Nat×MH×PH,st:=λ⟨f,n,t,have_,cols,i,kind,fr,j,m,h⟩=>cJ 112 117 [(0,pv cb),(2,sv p),(3,sv k),(6,.at (.ptr 6 0)),(9,.at (.ptr 9 0)),(10,.at (.ptr 10 0)),(11,iv f),(12,iv n),(13,iv t),(14,sv have_),(15,.at (.lst 75)),(17,iv kind),(18,iv fr),(45,sv k),(46,iv k.len),(47,iv i),(56,iv have_.len),(57,iv j)] [(6,.cells 43 (sc.enc.map .val)),(9,.cells 38 (v.enc.map .val)),(10,.cells 38 (yX.enc.map .val)),(75,.lst 3 1 (cols.map eI))] m h})] [] [] false
abbrev hU:Prop:=eP 10
noncomputable abbrev vV(a:Int×Nat×Int×Sl×List Int×Nat×MH×PH):Sl:=a.2.2.2.1
noncomputable abbrev mD(a:Int×Nat×Int×Sl×List Int×Nat×MH×PH):Nat×MH×PH:=a.2.2.2.2.2
noncomputable abbrev vW(a:Int×Nat×Int×Sl×List Int×Nat×MH×PH):List Int:=a.2.2.2.2.1
noncomputable abbrev lO(a:Int×Nat×Int×Sl×List Int×Nat×MH×PH):Nat->Nat->Option Value:=cC (mD a)
noncomputable abbrev qP(a:Int×Nat×Int×Sl×List Int×Nat×Int×Int×Nat×MH×PH):Sl:=a.2.2.2.1
noncomputable abbrev EX(a:Int×Nat×Int×Sl×List Int×Nat×Int×Int×Nat×MH×PH):Int:=a.2.2.2.2.2.2.1
noncomputable abbrev CT(a:Int×Nat×Int×Sl×List Int×Nat×Int×Int×Nat×MH×PH):Nat:=a.2.2.2.2.2.1
noncomputable abbrev mX(a:Int×Nat×Int×Sl×List Int×Nat×Int×Int×Nat×MH×PH):Nat×MH×PH:=a.2.2.2.2.2.2.2.2
noncomputable abbrev A6(a:Int×Nat×Int×Sl×List Int×Nat×Int×Int×Nat×MH×PH):List Int:=a.2.2.2.2.1
noncomputable abbrev EW(a:Int×Nat×Int×Sl×List Int×Nat×Int×Int×Nat×MH×PH):Int:=Int.tmod (aT (a.2.2.2.2.2.2.2.1+(↑(mX a).1:Int))) (aG (qP a))
noncomputable abbrev EK(a:Int)(b:PV)(c:List Value):List Value:=aL (dY a) bC (aL (dY b.op) (dY b.cmp) (aL (kP b.left) (wW b.left) (aL (dY (oY b.left)) (p9 b.left) c)))
noncomputable abbrev EY(a:PV)(b:Sl):List Value:=aL (lB a.left) (kP a.right) (aL (wW a.right) (dY (oY a.right)) (aL (p9 a.right) (lB a.right) (aL (dT a.args) tZ (zA (aR b)))))
noncomputable abbrev tC(a b:Sl):List Value:=aL (dY 3) bC (aL bC bC (aL bC bC (aL bC bC (sL (dT a) (zA (aR b))))))
attribute [push_cast] hU vV mD vW lO qP EX CT mX A6 EW EK EY tC
def O9(cb:Nat)(sc:bX)(p k:Sl)(v:QV)(m:MH)(h:PH)(K:CV->MH->PH->Prop):Prop:=
  gZ cb (aT (gO sc+1)) m h (λk1 m1=>∃(I:Int×Nat×MH×PH->Prop)(m2:Int×Nat×MH×PH->Nat),(∃(x:Int×Nat×MH×PH),aA (I x) (cX cb) (aA (aJ p) (aJ k) (aA (eP 6) (eP 9) (aA hU (cM k1 x.1) (aA (bE x.2.1) (bR sc) (aA (fG v) hP (cA (bK m1 x.2.2) h (cC x.2))))))))/\∀(x:Int×Nat×MH×PH),I x->bA (↑x.2.1:Int) (aG sc.tables) (jP (gO sc=0)/\AQ (bD (jI (bI sc)) (Int.tmod (aT (x.1+(↑x.2.1:Int))) (gO sc))) (cC x.2) (λs h1=>∃(I1:Int×Nat×Int×Sl×List Int×Nat×MH×PH->Prop)(m3:Int×Nat×Int×Sl×List Int×Nat×MH×PH->Nat),(∃(x1:Int×Nat×Int×Sl×List Int×Nat×MH×PH),aA (I1 x1) (cX cb) (aA (aJ p) (aJ k) (aA (eP 6) (eP 9) (aA hU (cM x.1 x1.1) (aA (cF x.2.1 x1.2.1) (cM
 (Int.tmod (aT (x.1+(↑x.2.1:Int))) (gO sc)) x1.2.2.1) (aA (bF s (vV x1)) (eL 75) (aA (aJ k) (bJ k) (aA (bE (mD x1).1) (bR sc) (aA (fG v) hP (aA (nG (vW x1)) (bK (dD x.2) (mD x1).2) (bT h1 (lO x1))))))))))))/\∀(x1:Int×Nat×Int×Sl×List Int×Nat×MH×PH),I1 x1->bA (↑(mD x1).1:Int) (aG k) (aW (λb o=>aH (aX k.a b o) (0<=(↑(mD x1).1:Int)) ((↑(mD x1).1:Int)<aG k) (∃(y:Int),aM (dD (mD x1)) (lO x1) b (bL o (mD x1).1 1) (bN y)/\gZ cb (aG (vV x1)) (dD (mD x1)) (lO x1) (λk2 m4=>∃(I2:Int×Nat×Int×Sl×List Int×Nat×Int×Int×Nat×MH×PH->Prop)(m5:Int×Nat×Int×Sl×List Int×Nat×Int×Int×Nat×MH×PH->Nat),(∃(x2:Int×Nat×Int×Sl×List Int×Nat×Int×Int
 ×Nat×MH×PH),aA (I2 x2) (cX cb) (aA (aJ p) (aJ k) (aA (eP 6) (eP 9) (aA hU (cM x1.1 x2.1) (aA (cF x1.2.1 x2.2.1) (cM x1.2.2.1 x2.2.2.1) (aA (bF (vV x1) (qP x2)) (eL 75) (aA (cM y (EX x2)) (cM k2 x2.2.2.2.2.2.2.2.1) (aA (aJ k) (bJ k) (aA (cF (mD x1).1 (CT x2)) (cO (vV x1) (qP x2)) (aA (bE (mX x2).1) (bR sc) (aA (fG v) hP (aA (mY (vW x1)=mY (A6 x2)) (bK m4 (mX x2).2) (bT (lO x1) (cC (mX x2)))))))))))))))/\∀(x2:Int×Nat×Int×Sl×List Int×Nat×Int×Int×Nat×MH×PH),I2 x2->bA (↑(mX x2).1:Int) (aG (qP x2)) (jP (aG (qP x2)=0)/\aW (λb1 o1=>aH (aX (qP x2).a b1 o1) (0<=EW x2) (EW x2<aG (qP x2)) (∃(y1:Int),aM (dD (mX x2))
 (cC (mX x2)) b1 (fR o1 (EW x2) 1) (bN y1)/\dL y1 (EX x2) (pR (eF (A6 x2)) 8 (∃(x3:Int×Nat×Int×Sl×List Int×Nat×MH×PH),aA (I1 x3) (m3 x3<m3 x1) (aA (cX cb) (aJ p) (aA (aJ k) (eP 6) (aA (eP 9) hU (aA (cM x2.1 x3.1) (cF x2.2.1 x3.2.1) (aA (cM x2.2.2.1 x3.2.2.1) (bF (qP x2) (vV x3)) (aA (eL 75) (aJ k) (aA (bJ k) (fY (aT ((↑(CT x2):Int)+1))=bZ (mD x3).1) (aA (bR sc) (fG v) (aA hP (nH (A6 x2) (EW x2) (vW x3)) (cA (bK (dD (mX x2)) (mD x3).2) (cC (mX x2)) (lO x3))))))))))))) (∃(x3:Int×Nat×Int×Sl×List Int×Nat×Int×Int×Nat×MH×PH),aA (I2 x3) (m5 x3<m5 x2) (aA (cX cb) (aJ p) (aA (aJ k) (eP 6) (aA (eP 9) hU (aA (cM x2.1 x3.1) (cF
 x2.2.1 x3.2.1) (aA (cM x2.2.2.1 x3.2.2.1) (bF (qP x2) (qP x3)) (aA (eL 75) (cM (EX x2) (EX x3)) (aA (cM x2.2.2.2.2.2.2.2.1 x3.2.2.2.2.2.2.2.1) (aJ k) (aA (bJ k) (cF (CT x2) (CT x3)) (aA (cO (qP x2) (qP x3)) (fY (aT ((↑(mX x2).1:Int)+1))=bZ (mX x3).1) (aA (bR sc) (fG v) (aA hP (mY (A6 x2)=mY (A6 x3)) (cA (bK (dD (mX x2)) (mX x3).2) (cC (mX x2)) (cC (mX x3)))))))))))))))))) (∃(x3:Int×Nat×Int×Sl×List Int×Nat×MH×PH),aA (I1 x3) (m3 x3<m3 x1) (aA (cX cb) (aJ p) (aA (aJ k) (eP 6) (aA (eP 9) hU (aA (cM x2.1 x3.1) (cF x2.2.1 x3.2.1) (aA (cM x2.2.2.1 x3.2.2.1) (bF (qP x2) (vV x3)) (aA (eL 75) (aJ k) (aA (bJ k) (fY (aT ((↑(CT x2):Int)+1))=
 bZ (mD x3).1) (aA (bR sc) (fG v) (aA hP (mY (A6 x2)=mY (vW x3)) (cA (bK (dD (mX x2)) (mD x3).2) (cC (mX x2)) (lO x3)))))))))))))))) (dL x1.1 (gO sc) (∃(x2:Int×Nat×MH×PH),aA (I x2) (m2 x2<m2 x) (aA (cX cb) (aJ p) (aA (aJ k) (eP 6) (aA (eP 9) hU (aA (cM x1.1 x2.1) (fY (aT ((↑x1.2.1:Int)+1))=bZ x2.2.1) (aA (bR sc) (fG v) (aH hP (bK (dD (mD x1)) x2.2.2) (lO x1=cC x2.2) True))))))) (bA (↑(eF (vW x1)).length:Int) (aG k) (∃(x2:Int×Nat×MH×PH),aA (I x2) (m2 x2<m2 x) (aA (cX cb) (aJ p) (aA (aJ k) (eP 6) (aA (eP 9) hU (aA (cM x1.1 x2.1) (fY (aT ((↑x1.2.1:Int)+1))=bZ x2.2.1) (aA (bR sc) (fG v) (aH hP (bK (dD (mD x1)) x2.2.2) (lO
 x1=cC x2.2) True))))))) (jM x1.2.2.1 (λt=>j6 cb 2 (dD (mD x1)) (lO x1) (λc r=>∀(m4:MH),aU (bB (dD (mD x1)) m4 c) (aK m4 (lO x1) c) (branch r ((∃(c1:Nat),wA (λs1 t1 c2 p1 d=>aA (qB cb 0::cH (vV x1) (fL p 1)=qB c1 0::cH s1 (fL t1 (↑d:Int))) (aK m4 (lO x1) c1) (aA (Ints (lO x1) s1 c2) (Ints (lO x1) t1 p1) (aH (fI c2) (fI p1) (jG d) (AB (λv1 p2=>fC (λm5 h2=>dK (lO x1) h2 (eH h2 p2 v1) (aU (u0 c2 p1 d p2) (bB m4 m5 c1) (jQ m5 h2 c1 (bM h2 21 (eX (vX (dY 1) (dY t))) (λs2 h3=>bM h3 1 (eF (vW x1)) (λs3 h4=>bM h4 21 (eX (EK 2 v1 (EY v1 s2))) (λs4 h5=>K (jI (tC s3 s4)) m5 h5)))))))))))))/\∃(c1:Nat),wA (λs1 t1 c2 p1 d=>aA (qB cb 0::
 cH (vV x1) (fL p 1)=qB c1 0::cH s1 (fL t1 (↑d:Int))) (aK m4 (lO x1) c1) (aA (Ints (lO x1) s1 c2) (Ints (lO x1) t1 p1) (aH (fI c2) (fI p1) (jG d) (AB (λv1 p2=>fC (λm5 h2=>dK (lO x1) h2 (eH h2 p2 v1) (aU (u0 c2 p1 d p2) (bB m4 m5 c1) (jQ m5 h2 c1 (bM h2 21 (eX (vX (dY 1) (dY t))) (λs2 h3=>bM h3 1 (eF (vW x1)) (λs3 h4=>bM h4 21 (eX (EK 2 v1 (EY v1 s2))) (λs4 h5=>K (jI (tC s3 s4)) m5 h5))))))))))))) (bM (lO x1) 1 (eF (vW x1)) (λs1 h2=>bM h2 21 (eX (vX (dY 1) (dY t))) (λs2 h3=>K (jI (tC s1 s2)) m4 h3))))))))))) ((∃(c:Nat),wA (λs t c1 p1 d=>aA (qB cb 0::cH k (fL p 1)=qB c 0::cH s (fL t (↑d:Int))) (aK (dD x.2) (cC x.2) c) (aA
 (Ints (cC x.2) s c1) (Ints (cC x.2) t p1) (aH (fI c1) (fI p1) (jG d) (AB (λv1 p2=>fC (λm3 h1=>dK (cC x.2) h1 (eH h1 p2 v1) (aU (u0 c1 p1 d p2) (bB (dD x.2) m3 c) (jQ m3 h1 c (bM h1 21 (eX v.enc) (λs1 h2=>K (jI (EK 2 v1 (EY v1 s1))) m3 h2)))))))))))/\∃(c:Nat),wA (λs t c1 p1 d=>aA (qB cb 0::cH k (fL p 1)=qB c 0::cH s (fL t (↑d:Int))) (aK (dD x.2) (cC x.2) c) (aA (Ints (cC x.2) s c1) (Ints (cC x.2) t p1) (aH (fI c1) (fI p1) (jG d) (AB (λv1 p2=>fC (λm3 h1=>dK (cC x.2) h1 (eH h1 p2 v1) (aU (u0 c1 p1 d p2) (bB (dD x.2) m3 c) (jQ m3 h1 c (bM h1 21 (eX v.enc) (λs1 h2=>K (jI (EK 2 v1 (EY v1 s1))) m3 h2))))))))))))
theorem iV(h:PH):Ints h bU []:=⟨cN.nil _ _,by simp⟩
theorem nZ(h:PH):lD h bU []:=⟨cN.nil _ _,by simp⟩
theorem sE(h:PH):iH h bU []:=⟨cN.nil _ _,by simp⟩
theorem zK(h:PH):eH h gV fT:=Jf (v:=fT) rfl
theorem wJ{h:PH}{s:Sl}{v:QV}{q:Query}(r:cN h s 21 [QV.enc v])(hq:cT h q v):yU h s [q]:=⟨⟨[v],r,rfl,λi x e=>by
 match i,e with
 |0,e=>simp at e;subst e;exact⟨v,rfl,hq⟩
 |i+1,e=>simp at e⟩,by simp⟩
theorem zN(h:PH)(t:Int):cT h (.mk 1 t gV [] [] [] [] 0 []) ⟨1,t,fT,bU,bU,bU,bU,0,bU⟩:=
 nW.rep ⟨rfl,rfl,zK h,iV h,nZ h,iV h,sE h,rfl,bY.nil _ _ _ _⟩
theorem Jn{v:PV}{s:Sl}(hp:eH h p v)(hq:yU h s [q]):cT h (.mk 2 0 p [] [] [] [] 0 [q]) ⟨2,0,v,bU,bU,bU,bU,0,s⟩:=
 nW.rep ⟨rfl,rfl,hp,iV h,nZ h,iV h,sE h,rfl,hq⟩
theorem BN{h:PH}{c s:Sl}{cols:List Int}{q:Query}(hc:Ints h c cols)(hq:yU h s [q]):cT h (.mk 3 0 gV cols [] [] [] 0 [q]) ⟨3,0,fT,c,bU,bU,bU,0,s⟩:=
 nW.rep ⟨rfl,rfl,zK h,hc,nZ h,iV h,sE h,rfl,hq⟩
theorem Ar:FG gV:=⟨mQ,mQ,trivial⟩
theorem Ms{op:Int}{on:List (Int×Int)}(hw:FG w)(hq:QW q):QW (.mk op ta w co on gr od li [q]):=P7.2 ⟨hw,λa ha=>by simp at ha;subst ha;exact hq⟩
theorem Es(t:Int):QW (.mk 1 t gV [] [] [] [] 0 []):=P7.2 ⟨Ar,λa ha=>by simp at ha⟩
theorem R9{a:Int}{n:Nat}(h0:0<=a)(hn:0<n):0<=a.tmod (n:Int)/\a.tmod (n:Int)<(n:Int):=by
 rw[Int.tmod_eq_emod_of_nonneg h0];exact⟨Int.emod_nonneg _ aC,Int.emod_lt_of_pos _ aC⟩
theorem F7{k:List Int}{op:Int}{on:List (Int×Int)}(ha:arity op=1)(h:bO s ps q=(k,0)):bO s ps (.mk op ta w co on gr od li [q])=iA s ps (.mk op ta w co on gr od li [q]) k []:=by
 have e:eZ s ps [q]=([k],0):=xB (by simp[h]);simp[bO,e,ha]
theorem TG{k k':List Int}{op:Int}{on:List (Int×Int)}{p:Query}(ha:arity op=2)(h:bO s ps q=(k,0))(h':bO s ps p=(k',0)):bO s ps (.mk op ta w co on gr od li [q,p])=iA s ps (.mk op ta w co on gr od li [q,p]) k k':=by
 have e:eZ s ps [q,p]=([k,k'],0):=xB (by simp[h,h']);simp[bO,e,ha]
theorem Fc(h:l.length<=12):zF l=(l,0):=if_pos h
theorem Jg{s:nY}{ps:List Int}{t:Int}(h0:0<=t)(h1:t<s.tables.length)(hk:(gT s t).length<=12):bO s ps (.mk 1 t gV [] [] [] [] 0 [])=(gT s t,0):=by
 have e1:bO s ps (.mk 1 t gV [] [] [] [] 0 [])=iA s ps (.mk 1 t gV [] [] [] [] 0 []) [] []:=by simp[bO,eZ,arity]
 rw[e1];unfold iA;rw[if_neg (by simp[arity,dE])];dsimp only;rw[if_pos rfl,if_pos ⟨h0,h1⟩,Fc hk]
theorem kinds_filter{k:List Int}(h:bO s ps q=(k,0))(hw:hZ k ps w=0)(hk:k.length<=12):bO s ps (.mk 2 0 w [] [] [] [] 0 [q])=(k,0):=by
 rw[F7 (by decide) h];unfold iA;rw[if_neg (by simp[arity,dE])];dsimp only;rw[if_neg (by decide),if_pos rfl,if_pos hw,Fc hk]
theorem DC{k:List Int}(h:bO s ps q=(k,0))(h0:co≠[])(hi:∀c∈co,BA k c=true)(hl:co.length<=12):bO s ps (.mk 3 0 gV co [] [] [] 0 [q])=(co.map λc=>k.getD c.toNat 0,0):=by
 rw[F7 (by decide) h];unfold iA;rw[if_neg (by simp[arity,dE])];dsimp only;rw[if_neg (by decide),if_neg (by decide),if_pos rfl,if_pos ⟨h0,λj x hx=>hi x (List.mem_of_getElem? hx)⟩,Fc (by simpa using hl)]
structure D8(kt ks co:List Int):Prop where
 in_:∀c∈co,BA kt c=true
 eq_:(co.map λc=>kt.getD c.toNat 0)=ks
theorem D8.kin{kt ks:List Int}(x:D8 kt ks co)(h:bO s ps q=(kt,0))(hn:ks≠[])(hl:ks.length<=12):bO s ps (.mk 3 0 gV co [] [] [] 0 [q])=(ks,0):=by
 have h1:co.length=ks.length:=by rw[<-x.eq_,List.length_map]
 rw[DC h (λe=>hn (List.eq_nil_of_length_eq_zero (by rw[<-h1,e];rfl))) x.in_ aC,x.eq_]
theorem D8.snoc{kt ks:List Int}{c x:Int}(p:D8 kt (ks.take i) co)(hx:ks[i]? =some x)(hc:BA kt c=true)(e:kt.getD c.toNat 0=x):D8 kt (ks.take (i+1)) (co++[c]):=
 ⟨λy hy=>by
  rcases List.mem_append.1 hy with hy|hy
  .exact p.in_ y hy
  .simp at hy;subst hy;exact hc,by rw[List.map_append,p.eq_,List.take_add_one,hx,List.map_cons,List.map_nil,e];rfl⟩
theorem K5:Sound Tryz.prog 26 Nj:=by
 refine hX Tryz.func26 ?_;rintro cvs m h K ⟨cb,sc,p,k,v,s,ps,ks,q,rfl,hc,hs,h8,hts,hp,hpl,hk,hkl,hq,hqw,hK⟩;refine⟨XD cb sc p k v,rfl,aD Gb (aD Da (aD K3 (aD wL (aD Db aF)))),O9 cb sc p k v m h K,by kernel_rfl,?_⟩;have htl:=hs.tables.slen;have hkn:=hk.slen;have hw:IntKind.i64.wrap ((sc.tables.len:Int)+1)=(sc.tables.len:Int)+1:=dJ aC aC;dsimp only[O9,push_cast];rw[hw];refine⟨cb,_,rfl,hc,λf m1 f0 f1 o1 c1=>?_⟩;refine⟨λ⟨f,n,mx,hx⟩=>0<=f/\f<=sc.tables.len/\n<=sc.tables.len/\PH.le h hx/\bB m mx cb/\aK mx hx cb,λ⟨_,n,_,_⟩=>sc.tables.len-n,⟨(f,0,m1,h),⟨f0,by show f<=(sc.tables.len:Int);omega,aC,.refl _,o1,c1⟩,MT⟩,?_⟩;clear f0 f1 o1 c1 m1 hw;rintro⟨f,n,m1,hx⟩ ⟨f0,f1,hn,hle,o1,c1⟩;dsimp only
 have pred:∀(kk:Sl)(kl:List Int)(mx:MH)(hx:PH)(Q:PV->Pred->MH->PH->Prop),Ints hx kk kl->kl.length<=1000->PH.le h hx->aK mx hx cb->(∀v p m' h',PH.le hx h'->eH h' p v->u0 kl ps 1 p->bB mx m' cb->aK m' h' cb->Q v p m' h')->
  ∃(cb_2:Nat)(s t:Sl)(cols params:List Int)(deep:Nat),[CV.val (.pointer (some ⟨cb,0,none⟩)),CV.val (.slice kk.a kk.len kk.cap),CV.val (.slice p.a p.len p.cap),CV.val (.int .i64 1)]=[CV.val (.pointer (some ⟨cb_2,0,none⟩)),CV.val (.slice s.a s.len s.cap),CV.val (.slice t.a t.len t.cap),CV.val (.int .i64 deep)]/\aK mx hx cb_2/\Ints hx s cols/\Ints hx t params/\cols.length<=1000/\params.length<=1000/\deep<=1000/\
   ∀(v:PV)(p:Pred)(m':MH)(h':PH),PH.le hx h'->eH h' p v->u0 cols params deep p->bB mx m' cb_2->aK m' h' cb_2->Q v p m' h':=λkk kl mx hx Q h1 h2 h3 h4 h5=>
  ⟨cb,kk,p,kl,ps,1,rfl,h4,h1,hp.mono h3,h2,hpl,aC,λv p m' h' q1 q2 qp q3 q4=>h5 v p m' h' q1 q2 qp q3 q4⟩
 refine aE (λhlt=>?_) (λhge=>?_)
 rotate_left
 .have fin:∀(w:PV)(p:Pred)(m':MH)(h':PH),PH.le hx h'->eH h' p w->u0 ks ps 1 p->bB m1 m' cb->aK m' h' cb->∀(s:Sl)(h'_1:PH),PH.le h' h'_1->cN h'_1 s 21 [QV.enc v]->K (aQ ⟨2,0,w,bU,bU,bU,bU,0,s⟩) m' h'_1:=λw p m' h' q1 q2 qp q3 q4 s h2 q5 q6=>
   hK _ _ m' h2 ((hle.trans q1).trans q5) (Jn (q2.mono q5) (wJ q6 (hq.mono ((hle.trans q1).trans q5)))) ⟨Ms qp.vals hqw,λd hf=>hf.filter,λ_ hps hks _ h12 hk0=>kinds_filter hk0 (qp.valid (by decide) hks hps) h12⟩ (o1.trans q3) (q4.mono q5)
  exact⟨pred k ks m1 hx _ (hk.mono hle) hkl hle c1 fin,pred k ks m1 hx _ (hk.mono hle) hkl hle c1 fin⟩
 have hw2:IntKind.i64.wrap (f+(n:Int))=f+(n:Int):=dJ aC aC;rw[hw2];refine⟨aC,sc,s,_,rfl,hs.mono hle,h8,λhv h2 le2 hhv=>?_⟩;have hvn:=hhv.slen;obtain⟨T,hT⟩:∃T,(f+(n:Int)).tmod (sc.tables.len:Int)=T:=⟨_,rfl⟩
 have hTr:=R9 (a:=f+(n:Int)) (n:=sc.tables.len) aC aC;rw[hT]at hhv hvn hTr⊢
 have hv8:(gT s T).length<=8:=by
  unfold gT;split
  .simp
  .split
   .simp
   .rename_i t ht;simpa using h8 t (List.mem_of_getElem? ht)
 obtain⟨kt,hkt⟩:∃kt,gT s T=kt:=⟨_,rfl⟩
 have hscan:bO s ps (.mk 1 T gV [] [] [] [] 0 [])=(kt,0):=by rw[Jg hTr.1 aC aC,hkt]
 have hcolt:Wn s->FJ kt:=λx=>by rw[<-hkt];exact x T
 rw[hkt]at hhv hvn hv8;refine⟨λ⟨f',n',t,have_,cols,i,mx,hx⟩=>f'=f/\n'=n/\have_=hv/\t=T/\i<=ks.length/\cols.length<=i/\(cols.length=i->D8 kt (ks.take i) cols)/\PH.le h2 hx/\bB m mx cb/\aK mx hx cb,λ⟨_,_,_,_,_,i,_,_⟩=>ks.length-i,⟨(f,n,T,hv,[],0,m1,h2),⟨rfl,rfl,rfl,rfl,aC,by simp,λ_=>⟨by simp,by simp⟩,.refl _,o1,c1.mono le2⟩,MT⟩,?_⟩;rintro⟨f',n',t,hv,cols,i,m2,h3⟩ ⟨rfl,rfl,rfl,rfl,hi,hcl,hpk,le3,o2,c2⟩;dsimp only;have hle3:PH.le h h3:=(hle.trans le2).trans le3;refine aE (λhlt2=>?_) (λhge2=>?_)
 .obtain⟨x,hx⟩:=fJ hkn hlt2;obtain⟨b1,of1,e1,r1⟩:=(hk.mono hle3).at hx;refine⟨b1,of1,e1,aC,hlt2,x,.imm (by simpa using r1),cb,_,rfl,c2,λfr m3 fr0 fr1 o3 c3=>?_⟩;refine⟨λ⟨f2,n2,t2,have_,cols2,i2,kind,fr',j,mx,hy⟩=>f2=f'/\n2=n'/\have_=hv/\t2=t/\cols2=cols/\i2=i/\kind=x/\mx=m3/\hy=h3/\j<=hv.len/\fr'=fr,λ⟨_,_,_,_,_,_,_,_,j,_,_⟩=>hv.len-j,⟨(f',n',t,hv,cols,i,x,fr,0,m3,h3),⟨rfl,rfl,rfl,rfl,rfl,rfl,rfl,rfl,rfl,aC,rfl⟩,MT⟩,?_⟩;rintro⟨f2,n2,t2,hv,cols,i,kind,fr',j,m3,h3⟩ ⟨rfl,rfl,rfl,rfl,rfl,rfl,rfl,rfl,rfl,hj,rfl⟩;dsimp only;refine aE (λhlt3=>?_) (λhge3=>⟨(f2,n2,t2,_,_,_,_,_),⟨rfl,rfl,rfl,rfl,by show i+1<=ks.length;omega,by show cols.length<=i+1;omega,λe=>by have e:cols.length=i+1:=e;omega,le3,o2.trans o3,c3⟩,by show ks.length-(i+1)<ks.length-i;omega,MT⟩);have hw3:IntKind.i64.wrap (fr'+(j:Int))=fr'+(j:Int):=dJ aC aC;rw[hw3];have hm:=R9 (a:=fr'+(j:Int)) (n:=Sl.len _) aC (show 0<hv.len by omega);obtain⟨b2,of2,e2,r2⟩:=(hhv.mono le3).inb (n:=(fr'+(j:Int)).tmod (hv.len:Int)) hm.1 (by rw[<-hvn];exact hm.2);refine⟨aC,b2,of2,e2,hm.1,hm.2,_,.imm (by simpa using r2),aB (λek=>⟨by simp;omega,by simp;omega,(f2,n2,t2,_,cols++[(fr'+(j:Int)).tmod (hv.len:Int)],i+1,_,_),⟨rfl,rfl,rfl,rfl,by show i+1<=ks.length;omega,by simp;omega,λe=>?_,le3,o2.trans o3,c3⟩,by show ks.length-(i+1)<ks.length-i;omega,?_⟩) (λ_=>⟨(f2,n2,t2,hv,cols,i,kind,fr',j+1,m3,h3),⟨rfl,rfl,rfl,rfl,rfl,rfl,rfl,rfl,rfl,by show j+1<=hv.len;omega,rfl⟩,by show hv.len-(j+1)<hv.len-j;omega,MT⟩)⟩
  .have e:(cols++[(fr'+(j:Int)).tmod (hv.len:Int)]).length=i+1:=e;rw[List.length_append]at e;exact(hpk (by simpa using e)).snoc hx (by simp only[BA,Bool.and_eq_true,decide_eq_true_eq];omega) (by simpa using ek)
  .rw[List.map_append];exact MT
 .have hn1:n'+1<=sc.tables.len:=by omega
  have hi2:i=ks.length:=by omega
  refine aB (λ_=>⟨(f',n'+1,m2,h3),⟨f0,f1,hn1,hle3,o2,c2⟩,by show sc.tables.len-(n'+1)<sc.tables.len-n';omega,MT⟩) (λ_=>aE (λ_=>⟨(f',n'+1,m2,h3),⟨f0,f1,hn1,hle3,o2,c2⟩,by show sc.tables.len-(n'+1)<sc.tables.len-n';omega,MT⟩) (λhnl=>⟨t,rfl,cb,2,rfl,aC,aC,c2,λr m4 o4 c4=>?_⟩))
  have hpick:D8 kt ks cols:=by
   rw[List.length_map]at hnl;have:=hpk aC
   rwa [hi2,List.take_length]at this
  refine aB (λ_=>?_) (λ_ s1 h5 le5 r5 s2 h6 le6 r6=>?_)
  .have fin:∀(w:PV)(p:Pred)(m':MH)(h':PH),PH.le h3 h'->eH h' p w->u0 kt ps 1 p->bB m4 m' cb->aK m' h' cb->∀(s:Sl)(h'_1:PH),PH.le h' h'_1->cN h'_1 s 21 [QV.enc ⟨1,t,fT,bU,bU,bU,bU,0,bU⟩]->∀(s_1:Sl)(h'_2:PH),PH.le h'_1 h'_2->cN h'_2 s_1 1 (cols.map eI)->∀(s_2:Sl)(h'_3:PH),PH.le h'_2 h'_3->cN h'_3 s_2 21 [QV.enc ⟨2,0,w,bU,bU,bU,bU,0,s⟩]->K (aQ ⟨3,0,fT,s_1,bU,bU,bU,0,s_2⟩) m' h'_3:=λw p m' h' q1 q2 qp q3 q4 s h5 q5 q6 s1 h6 q7 q8 s2 h7 q9 q10=>
    hK _ _ m' h7 ((((hle3.trans q1).trans q5).trans q7).trans q9) (BN (cols:=cols) ⟨q8.mono q9,aC⟩ (wJ q10 (Jn (q2.mono ((q5.trans q7).trans q9)) (wJ (q6.mono (q7.trans q9)) (zN _ t))))) ⟨Ms Ar (Ms qp.vals (Es t)),λd _=>Kp.three d (nD.one (nD.one nD.scan (by decide)) (by decide)),λhsk hps _ hn h12 _=>hpick.kin (kinds_filter hscan (qp.valid (by decide) (hcolt hsk) hps) aC) hn h12⟩ ((o2.trans o4).trans q3) (q4.mono ((q5.trans q7).trans q9))
   exact⟨pred hv kt m4 h3 _ (hhv.mono le3) aC hle3 c4 fin,pred hv kt m4 h3 _ (hhv.mono le3) aC hle3 c4 fin⟩
  .exact hK _ _ m4 h6 ((hle3.trans le5).trans le6) (BN (cols:=cols) ⟨r5.mono le6,aC⟩ (wJ (v:=⟨1,t,fT,bU,bU,bU,bU,0,bU⟩) r6 (zN _ t))) ⟨Ms Ar (Es t),λd _=>Kp.three d (nD.mono (nD.one nD.scan (by decide)) (by decide) (by decide) (by decide)),λ_ _ _ hn h12 _=>hpick.kin hscan hn h12⟩ (o2.trans o4) (c4.mono (le5.trans le6))
def ZE(K:CV->MH->PH->Prop)(m:MH)(h:PH)(cb:Nat)(s:nY)(ps:List Int)(d:Nat):Prop:=∀w q m' h',PH.le h h'->cT h' q w->QW q->xI d q->(fZ s ps q).2=0->bB m m' cb->aK m' h' cb->K (aQ w) m' h'
def RY(N:Nat):Vc.Spec:=λcvs m h K=>∃cb sc p s ps deep,cvs=[cP cb,aS sc,cS p,cI deep]/\aK m h cb/\fQ h s sc/\eD s=0/\s.tables≠[]/\Ints h p ps/\ps.length<=1000/\ps.all dO=true/\ -1<=deep/\deep<=1000/\(deep+1).toNat<N/\ZE K m h cb s ps deep.toNat
noncomputable def XU(N:Nat)(cb:Nat)(sc:bX)(p:Sl):Ctx:=
 uJ [(15,FH),(40,Wp),(25,Cs),(41,Wv),(26,Nj),(42,Yl),(30,xH),(13,RY N)] [(11,{A:=QV×QV×Sl×Int×MH×PH,st:=λ⟨a,q,k,n,m,h⟩=>cJ 171 175 [(0,pv cb),(2,sv p),(5,.at (.ptr 5 0)),(8,.at (.ptr 8 0)),(10,.at (.ptr 10 0)),(11,sv k),(13,.at (.ptr 13 0)),(14,iv n)] [(5,.cells 43 (sc.enc.map .val)),(8,.cells 38 (yX.enc.map .val)),(10,.cells 38 (a.enc.map .val)),(13,.cells 38 (q.enc.map .val))] m h})] [(7,{A:=Int×Int×QV×QV×Sl×MH×PH,st:=λ⟨d,op,a,q,k,m,h⟩=>cJ 171 175 [(0,pv cb),(2,sv p),(3,iv d),(5,.at (.ptr 5 0)),(8,.at (.ptr 8 0)),(9,iv op),(10,.at (.ptr 10 0)),(11,sv k),(13,.at (.ptr 13 0))] [(5,.cells 43 (sc.enc.map .val)),(8,.cells 38 (yX.enc.map .val)),(10,.cells 38 (a.enc.map .val)),(13,.cells 38 (q.enc.map .val))] m h}),
  (16,{A:=Int×Int×QV×QV×Sl×Bool×MH×PH,st:=λ⟨d,op,a,q,k,t,m,h⟩=>cJ 171 175 [(0,pv cb),(2,sv p),(3,iv d),(5,.at (.ptr 5 0)),(8,.at (.ptr 8 0)),(9,iv op),(10,.at (.ptr 10 0)),(11,sv k),(13,.at (.ptr 13 0)),(59,iv op),(84,bv t)] [(5,.cells 43 (sc.enc.map .val)),(8,.cells 38 (yX.enc.map .val)),(10,.cells 38 (a.enc.map .val)),(13,.cells 38 (q.enc.map .val))] m h}),
  (24,{A:=Int×QV×QV×Sl×Bool×MH×PH,st:=λ⟨op,a,q,k,t,m,h⟩=>cJ 171 175 [(0,pv cb),(2,sv p),(5,.at (.ptr 5 0)),(8,.at (.ptr 8 0)),(10,.at (.ptr 10 0)),(11,sv k),(13,.at (.ptr 13 0)),(59,iv op),(122,bv t)] [(5,.cells 43 (sc.enc.map .val)),(8,.cells 38 (yX.enc.map .val)),(10,.cells 38 (a.enc.map .val)),(13,.cells 38 (q.enc.map .val))] m h}),
  (20,{A:=QV×QV×QV×Sl×Sl×MH×PH,st:=λ⟨a,b,q,k,l,m,h⟩=>cJ 171 175 [(0,pv cb),(2,sv p),(5,.at (.ptr 5 0)),(8,.at (.ptr 8 0)),(10,.at (.ptr 10 0)),(11,sv k),(13,.at (.ptr 13 0)),(15,.at (.ptr 15 0)),(16,sv l)] [(5,.cells 43 (sc.enc.map .val)),(8,.cells 38 (yX.enc.map .val)),(10,.cells 38 (a.enc.map .val)),(13,.cells 38 (q.enc.map .val)),(15,.cells 38 (b.enc.map .val))] m h}),
  (30,{A:=QV×QV×MH×PH,frz:=true,st:=λ⟨a,q,m,h⟩=>cJ 171 175 [(2,sv p),(5,.at (.ptr 5 0)),(8,.at (.ptr 8 0)),(10,.at (.ptr 10 0)),(13,.at (.ptr 13 0))] [(5,.cells 43 (sc.enc.map .val)),(8,.cells 38 (yX.enc.map .val)),(10,.cells 38 (a.enc.map .val)),(13,.cells 38 (q.enc.map .val))] m h})] [] [36,1036,1033] [] false
abbrev DV(a:QV->Query->Prop):Prop:=∀(x:QV)(x1:Query),a x x1
abbrev EN(a:List CV)(b:PH)(c:nY->(List Int)->Query->Sl->PH->Prop):Prop:=BZ (λx x1=>∃(x2:QV),Br (λx3 x4=>∃(x5:Query),aA (a=cL (bI x) (fK x1 (bV x2))) (fQ b x3 x) (aA (Ints b x1 x4) (cT b x5 x2) (lC (λx6 x7=>dK b x7 (Ints x7 x6 (fZ x3 x4 x5).1) (c x3 x4 x5 x6 x7))))))
noncomputable abbrev EZ(a:Int×Int×QV×QV×Sl×MH×PH):Sl:=a.2.2.2.2.1
abbrev eN(a b:QV):Prop:=oL 38 a.enc=oL 38 b.enc
abbrev rC(a:List At)(b:QV):Prop:=oQ 38 a=oL 38 b.enc
noncomputable abbrev C1(a:Int×Int×QV×QV×Sl×MH×PH):Nat->Nat->Option Value:=dM a.2.2.2.2
noncomputable abbrev H3(a:Int×Int×QV×QV×Sl×MH×PH):Nat->Option Obj:=iM a.2.2.2.2
abbrev xZ(a:Prop)(b:Nat)(c d e:Sl)(g:Prop):Prop:=aA a (cX b) (aA (aJ c) eM (aA eE hU (aA (bF d e) (eP 13) g)))
noncomputable abbrev A7(a:QV×QV×Sl×Int×MH×PH):Nat->Nat->Option Value:=a.2.2.2.2.2
noncomputable abbrev H2(a:QV×QV×Sl×Int×MH×PH):Nat->Option Obj:=a.2.2.2.2.1
noncomputable abbrev MD(a:QV×QV×Sl×Int×MH×PH):Sl:=a.2.1.columns
noncomputable abbrev rF(a:QV×QV×MH×PH):Nat->Option Obj:=a.2.2.1
noncomputable abbrev tU(a:QV×QV×MH×PH):Nat->Nat->Option Value:=a.2.2.2
noncomputable abbrev mA(a:Int×QV×QV×Sl×Bool×MH×PH):Sl:=a.2.2.2.1
noncomputable abbrev yA(a:Int×QV×QV×Sl×Bool×MH×PH):Bool:=a.2.2.2.2.1
noncomputable abbrev kX(a:Int×QV×QV×Sl×Bool×MH×PH):QV:=a.2.1
noncomputable abbrev y9(a:Int×QV×QV×Sl×Bool×MH×PH):QV:=a.2.2.1
noncomputable abbrev qO(a:Int×Int×QV×QV×Sl×Bool×MH×PH):QV:=y9 a.2
noncomputable abbrev B3(a:Int×QV×QV×Sl×Bool×MH×PH):MH×PH:=a.2.2.2.2.2
noncomputable abbrev fU(a:Int×QV×QV×Sl×Bool×MH×PH):Nat->Nat->Option Value:=(B3 a).2
noncomputable abbrev pM(a:Int×QV×QV×Sl×Bool×MH×PH):Nat->Option Obj:=(B3 a).1
noncomputable abbrev jN(a:QV×QV×QV×Sl×Sl×MH×PH):Sl×MH×PH:=a.2.2.2.2
noncomputable abbrev pX(a:QV×QV×QV×Sl×Sl×MH×PH):QV:=a.2.2.1
noncomputable abbrev E8(a:QV×QV×QV×Sl×Sl×MH×PH):Sl:=(pX a).args
attribute [push_cast] DV EN EZ eN rC C1 H3 xZ A7 H2 MD rF tU mA yA kX y9 qO B3 fU pM jN pX E8
def Pl(N:Nat)(cb:Nat)(sc:bX)(p:Sl)(deep:Int)(m:MH)(h:PH)(K:CV->MH->PH->Prop):Prop:=
  gZ cb 12 m h (λk m1=>bA deep 1 (gZ cb (ite (gO sc>1) (gO sc) 1) m1 h (λk1 m2=>jM k1 (λt=>K (jI (vX (dY 1) (dY t))) m2 h))) (cW (aT (1+k)==1) (gZ cb (ite (gO sc>1) (gO sc) 1) m1 h (λk1 m2=>jM k1 (λt=>K (jI (vX (dY 1) (dY t))) m2 h))) (gO sc==0) (gZ cb (ite (gO sc>1) (gO sc) 1) m1 h (λk1 m2=>jM k1 (λt=>K (jI (vX (dY 1) (dY t))) m2 h))) (∃(c:Nat),BZ (λs p1=>Br (λs1 p2=>∃(d:Int),aA (qB cb 0::cL (bI sc) (fL p (mG deep))=qB c 0::cL (bI s) (fL p1 d)) (aK m1 h c) (aA (fQ h s1 s) (eD s1=0) (aA (jP (s1.tables=[])) (Ints h p1 p2) (aA (fI p2) (dX (DX p2)) (aH (Int.negSucc 0<=d) (d<=1000) ((d+1).toNat<N) (DV (λw q=>fC (λm2 h1=>dK h h1 (cT
 h1 q w) (aU (QW q) (xI d.toNat q) (aU ((fZ s1 p2 q).2=0) (bB m1 m2 c) (jQ m2 h1 c (EN (cL (bI sc) (fK p (bV w))) h1 (λ_ _ _ s2 h2=>∃(I:Int×Int×QV×QV×Sl×MH×PH->Prop),gR (λs3 m3=>mP m2 m3 h2 s3 38 21 (eX w.enc)->∃(x:Int×Int×QV×QV×Sl×MH×PH),aA (I x) (cX cb) (aA (aJ p) (cM deep x.1) (aA eM eE (aA (cM (aT (1+k)) x.2.1) hU (aA (bF s2 (EZ x)) (eP 13) (aA (bR sc) hP (aA (eN w x.2.2.1) (rC (dQ (aT (1+k)) 0 (dQ 0 0 (dQ 0 0 (dQ 0 0 (lT PL (mO 0) (dQ 0 0 (lT (mO 0) PL (lT JU JU (lT JU JU (lT JU (mO 0) (pW s3))))))))))) x.2.2.2.1) (aA (bK m3 x.2.2.2.2.2) (h2=C1 x) True))))))))/\∀(x:Int×Int×QV×QV×Sl×MH×PH),I x->∃(I1:QV×QV×MH×PH->Prop),dL
 x.2.1 3 (gZ cb 3 (H3 x) (C1 x) (λk1 m3=>∃(I2:QV×QV×Sl×Int×MH×PH->Prop)(m4:QV×QV×Sl×Int×MH×PH->Nat),(∃(x1:QV×QV×Sl×Int×MH×PH),xZ (I2 x1) cb p (EZ x) x1.2.2.1 (aA (cM k1 x1.2.2.2.1) (bR sc) (aA hP (eN x.2.2.1 x1.1) (aH (eN x.2.2.2.1 x1.2.1) (bK m3 x1.2.2.2.2) (C1 x=A7 x1) True))))/\∀(x1:QV×QV×Sl×Int×MH×PH),I2 x1->fW x1.2.2.2.1 0 (gZ cb (aG x1.2.2.1) (H2 x1) (A7 x1) (λk2 m5=>∃(x2:List (List Value)),aH (dC m5 (dA (MD x1)) 3 1 x2) (gK ((x2.length+1)*8)) (gS x2) (gR (λs3 m6=>dW m5 m6 (dA (MD x1)) s3 3 1 (eB x2 (bN k2))->∃(x3:QV×QV×Sl×Int×MH×PH),aA (I2 x3) (m4 x3<m4 x1) (aA (cX cb) (aJ p) (aA eM eE (aA hU (bF x1.2.2.1 x3.2.2.1)
 (aA (eP 13) (cM (mG x1.2.2.2.1) x3.2.2.2.1) (aA (bR sc) hP (aA (eN x1.1 x3.1) (rC (dQ x1.2.1.op x1.2.1.table (C4 x1.2.1 (Bl s3) x1.2.1.on (C5 x1.2.1 x1.2.1.args))) x3.2.1) (aA (bK m6 x3.2.2.2.2) (A7 x1=A7 x3) True))))))))))) (Eb (H2 x1) (A7 x1)->∃(x2:QV×QV×MH×PH),aA (I1 x2) (aJ p) (aA (eP 5) eE (aA hU (eP 13) (aA (bR sc) hP (aH (eN x1.1 x2.1) (eN x1.2.1 x2.2.1) (Cw (H2 x1) (A7 x1) (rF x2) (tU x2)) True))))))) (∃(I2:Int×Int×QV×QV×Sl×Bool×MH×PH->Prop),dL x.2.1 4 (∃(x1:Int×Int×QV×QV×Sl×Bool×MH×PH),aA (I2 x1) (cX cb) (aA (aJ p) (cM x.1 x1.1) (aA eM eE (aA (cM x.2.1 x1.2.1) hU (aA (bF (EZ x) (mA x1.2)) (eP 13) (aA (cM x.2.1 x1.2.1) (uS (yA
 x1.2)) (aA (bR sc) hP (aA (eN x.2.2.1 (kX x1.2)) (eN x.2.2.2.1 (qO x1)) (cA (bK (H3 x) (B3 x1.2)) (C1 x) (fU x1.2)))))))))) (∃(x1:Int×Int×QV×QV×Sl×Bool×MH×PH),aA (I2 x1) (cX cb) (aA (aJ p) (cM x.1 x1.1) (aA eM eE (aA (cM x.2.1 x1.2.1) hU (aA (bF (EZ x) (mA x1.2)) (eP 13) (aA (cM x.2.1 x1.2.1) (gP (x.2.1==5) (yA x1.2)) (aA (bR sc) hP (aA (eN x.2.2.1 (kX x1.2)) (eN x.2.2.2.1 (qO x1)) (cA (bK (H3 x) (B3 x1.2)) (C1 x) (fU x1.2))))))))))/\∀(x1:Int×Int×QV×QV×Sl×Bool×MH×PH),gQ (I2 x1) (yA x1.2) (∃(c1:Nat),BZ (λs3 p3=>Br (λs4 p4=>∃(d1:Int),aA (qB cb 0::cL (bI sc) (fL p (aT (x1.1-2)))=qB c1 0::cL (bI s3) (fL p3 d1))
 (aK (pM x1.2) (fU x1.2) c1) (aA (fQ (fU x1.2) s4 s3) (eD s4=0) (aA (jP (s4.tables=[])) (Ints (fU x1.2) p3 p4) (aA (fI p4) (dX (DX p4)) (aH (Int.negSucc 0<=d1) (d1<=1000) ((d1+1).toNat<N) (DV (λw1 q1=>fC (λm3 h3=>dK (fU x1.2) h3 (cT h3 q1 w1) (aU (QW q1) (xI d1.toNat q1) (aU ((fZ s4 p4 q1).2=0) (bB (pM x1.2) m3 c1) (jQ m3 h3 c1 (EN (cL (bI sc) (fK p (bV w1))) h3 (λ_ _ _ s5 h4=>∃(I3:QV×QV×QV×Sl×Sl×MH×PH->Prop),dL x1.2.1 4 (dV (aT (aG (mA x1.2)+aG s5)) 8 (∃(x2:QV×QV×QV×Sl×Sl×MH×PH),xZ (I3 x2) cb p (mA x1.2) x2.2.2.2.1 (aA (eP 15) (bF s5 (jN x2).1) (aA (bR sc) hP (aA (eN (kX x1.2) x2.1) (rC (dQ 5 (qO x1).table (C4 (qO x1) (B0 (qO
 x1)) (qO x1).on (C5 (qO x1) (qO x1).args))) (pX x2)) (aA (eN w1 x2.2.1) (bK m3 (jN x2).2) (bT h4 (dM (jN x2)))))))) (∃(x2:QV×QV×QV×Sl×Sl×MH×PH),xZ (I3 x2) cb p (mA x1.2) x2.2.2.2.1 (aA (eP 15) (bF s5 (jN x2).1) (aA (bR sc) hP (aA (eN (kX x1.2) x2.1) (eN (qO x1) (pX x2)) (aA (eN w1 x2.2.1) (bK m3 (jN x2).2) (bT h4 (dM (jN x2))))))))) (∃(x2:QV×QV×QV×Sl×Sl×MH×PH),xZ (I3 x2) cb p (mA x1.2) x2.2.2.2.1 (aA (eP 15) (bF s5 (jN x2).1) (aA (bR sc) hP (aA (eN (kX x1.2) x2.1) (eN (qO x1) (pX x2)) (aA (eN w1 x2.2.1) (bK m3 (jN x2).2) (bT h4 (dM (jN x2))))))))/\∀(x2:QV×QV×QV×Sl×Sl×MH×PH),I3 x2->(∃(c2:Nat),iZ (λs6 t=>uC (λa b=>aA
 (qB cb 0::eY x2.2.2.2.1 (jN x2).1=qB c2 0::eY s6 t) (aK (iM (jN x2)) (dM (jN x2)) c2) (aA (Ints (dM (jN x2)) s6 a) (Ints (dM (jN x2)) t b) (aA (fI a) (fI b) (∀(o:Sl)(o1:List (Int×Int)),fC (λm4 h5=>dK (dM (jN x2)) h5 (lD h5 o o1) (aU (o1.length<=10) (bB (iM (jN x2)) m4 c2) (jQ m4 h5 c2 (gR (λs7 m5=>mP m4 m5 h5 s7 38 21 (eX x2.2.1.enc)->∃(x3:List (List Value)),AD (dC m5 (dA (E8 x2)) 38 21 x3) (λy=>aA (dU 21 y) (nJ m5 h5 (dA s7) 21 y) (aA (qS x3 y 280) (qT x3 y) (∀(s8:Sl)(m6:MH),aU (dW m5 m6 (dA (E8 x2)) s8 38 21 (x3++y)) (Eb m6 h5) (∃(x4:QV×QV×MH×PH),aA (I1 x4) (aJ p) (aA (eP 5) eE (aA hU (eP 13) (aA (bR sc) hP (aH (eN x2.1 x4.1) (rC
 (dQ (pX x2).op (pX x2).table (C4 (pX x2) (B0 (pX x2)) o (C5 (pX x2) s8))) x4.2.1) (Cw m6 h5 (rF x4) (tU x4)) True)))))))))))))))))))/\gR (λs6 m4=>mP (iM (jN x2)) m4 (dM (jN x2)) s6 38 21 (eX x2.2.1.enc)->∃(c2:Nat),iZ (λs7 t=>uC (λa b=>aA (qB cb 0::eY x2.2.2.2.1 (jN x2).1=qB c2 0::eY s7 t) (aK m4 (dM (jN x2)) c2) (aA (Ints (dM (jN x2)) s7 a) (Ints (dM (jN x2)) t b) (aA (fI a) (fI b) (∀(o:Sl)(o1:List (Int×Int)),fC (λm5 h5=>dK (dM (jN x2)) h5 (lD h5 o o1) (aU (o1.length<=10) (bB m4 m5 c2) (jQ m5 h5 c2 (∃(x3:List (List Value)),AD (dC m5 (dA (E8 x2)) 38 21 x3) (λy=>aA (dU 21 y) (nJ m5 h5 (dA s6) 21 y) (aA (qS x3 y 280) (qT x3 y) (∀(s8:
 Sl)(m6:MH),aU (dW m5 m6 (dA (E8 x2)) s8 38 21 (x3++y)) (Eb m6 h5) (∃(x4:QV×QV×MH×PH),aA (I1 x4) (aJ p) (aA (eP 5) eE (aA hU (eP 13) (aA (bR sc) hP (aH (eN x2.1 x4.1) (rC (dQ (pX x2).op (pX x2).table (C4 (pX x2) (B0 (pX x2)) o (C5 (pX x2) s8))) x4.2.1) (Cw m6 h5 (rF x4) (tU x4)) True))))))))))))))))))))))))))))))))) (∃(I3:Int×QV×QV×Sl×Bool×MH×PH->Prop),cW (x1.2.1==6) (∃(x2:Int×QV×QV×Sl×Bool×MH×PH),xZ (I3 x2) cb p (mA x1.2) (mA x2) (aA (cM x1.2.1 x2.1) (uS (yA x2)) (aA (bR sc) hP (aA (eN (kX x1.2) (kX x2)) (eN (qO x1) (y9 x2)) (aA (bK (pM x1.2) (B3 x2)) (fU x1.2=fU x2) True))))) (x1.2.1==7) (∃(x2:Int×QV×QV×Sl×Bool×MH×PH),
 xZ (I3 x2) cb p (mA x1.2) (mA x2) (aA (cM x1.2.1 x2.1) (uS (yA x2)) (aA (bR sc) hP (aA (eN (kX x1.2) (kX x2)) (eN (qO x1) (y9 x2)) (aA (bK (pM x1.2) (B3 x2)) (fU x1.2=fU x2) True))))) (∃(x2:Int×QV×QV×Sl×Bool×MH×PH),xZ (I3 x2) cb p (mA x1.2) (mA x2) (aA (cM x1.2.1 x2.1) (gP (x1.2.1==8) (yA x2)) (aA (bR sc) hP (aA (eN (kX x1.2) (kX x2)) (eN (qO x1) (y9 x2)) (aA (bK (pM x1.2) (B3 x2)) (fU x1.2=fU x2) True)))))/\∀(x2:Int×QV×QV×Sl×Bool×MH×PH),I3 x2->cW (yA x2) (∃(c1:Nat)(s3:bX),iZ (λp3 k1=>∃(v:QV),Br (λs4 p4=>∃(k2:List Int)(q1:Query),aA (qB cb 0::cL (bI sc) (cH p (fK (mA x2) (bV (kX x2))))=qB c1 0::cL
 (bI s3) (cH p3 (fK k1 (bV v)))) (aK (pM x2) (fU x2) c1) (aA (fQ (fU x2) s4 s3) (mS s4) (aA (jG s4.tables.length) (Ints (fU x2) p3 p4) (aA (fI p4) (Ints (fU x2) k1 k2) (aH (fI k2) (cT (fU x2) q1 v) (QW q1) (DV (λw1 q2=>fC (λm3 h3=>dK (fU x2) h3 (cT h3 q2 w1) (aU (SY s4 p4 k2 q1 q2) (bB (pM x2) m3 c1) (jQ m3 h3 c1 (gR (λs5 m4=>mP m3 m4 h3 s5 38 21 (eX w1.enc)->∃(x3:List (List Value)),AD (dC m4 (dA (y9 x2).args) 38 21 x3) (λy=>aA (dU 21 y) (nJ m4 h3 (dA s5) 21 y) (aA (qS x3 y 280) (qT x3 y) (∀(s6:Sl)(m5:MH),aU (dW m4 m5 (dA (y9 x2).args) s6 38 21 (x3++y)) (Eb m5 h3) (∃(x4:QV×QV×MH×PH),aA (I1 x4) (aJ p) (aA (eP 5) eE (aA hU (eP 13) (aA (bR sc) hP (aH
 (eN (kX x2) x4.1) (rC (qQ (y9 x2) (Bl s6)) x4.2.1) (Cw m5 h3 (rF x4) (tU x4)) True)))))))))))))))))))))) (x2.1==9) (∃(c1:Nat)(v:QV),AK (λs3 k1=>aA (qB cb 0::dZ (bV (y9 x2)) (pD (mA x2))=qB c1 0::dZ (jI (CN v v (aL (lB (iE v)) (kP (fD v)) (aL (wW (fD v)) (dY (oY (fD v))) (aL (p9 (fD v)) (lB (fD v)) (aL (mZ v) (nA v) (aL (dT v.on) tZ (aL tZ (dY v.limit) (aR v.args))))))))) (pD s3)) (aK (pM x2) (fU x2) c1) (aA (Ints (fU x2) s3 k1) (fI k1) (∀(g o:Sl)(k2:Int)(g1:List Int)(o1:List (Int×Bool)),fC (λm3 h3=>dK (fU x2) h3 (Ints h3 g g1) (aU (iH h3 o o1) (g1.length<=k1.length) (aU (o1.length<=k1.length) (cD k2) (aU (k2<=3) (bB (pM x2) m3 c1) (aU (aK m3 h3 c1) (Eb
 m3 h3) (∃(x3:QV×QV×MH×PH),aA (I1 x3) (aJ p) (aA (eP 5) eE (aA hU (eP 13) (aA (bR sc) hP (aH (eN (kX x2) x3.1) (rC (dQ v.op v.table (pQ v.where_ (lT (B0 v) (Bl v.on) (lT (Bl g) (Bl o) (uD (mO k2) (Bl v.args)))))) x3.2.1) (Cw m3 h3 (rF x3) (tU x3)) True)))))))))))))) (dL x2.1 10 (∃(c1:Nat)(v:QV),AK (λs3 k1=>aA (qB cb 0::dZ (bV (y9 x2)) (pD (mA x2))=qB c1 0::dZ (jI (CN v v (aL (lB (iE v)) (kP (fD v)) (aL (wW (fD v)) (dY (oY (fD v))) (aL (p9 (fD v)) (lB (fD v)) (aL (mZ v) (nA v) (aL (dT v.on) tZ (aL tZ (dY v.limit) (aR v.args))))))))) (pD s3)) (aK (pM x2) (fU x2) c1) (aA (Ints (fU x2) s3 k1) (fI k1) (∀(g o:Sl)(k2:Int)(g1:List Int)(o1:List (Int×Bool)),
 fC (λm3 h3=>dK (fU x2) h3 (Ints h3 g g1) (aU (iH h3 o o1) (g1.length<=k1.length) (aU (o1.length<=k1.length) (cD k2) (aU (k2<=3) (bB (pM x2) m3 c1) (jQ m3 h3 c1 (∃(c2:Nat)(s4:bX),iZ (λp3 k3=>∃(v1:QV),Br (λs5 p4=>∃(k4:List Int)(q1:Query),aA (qB cb 0::cL (bI sc) (cH p (fK (mA x2) (bV (kX x2))))=qB c2 0::cL (bI s4) (cH p3 (fK k3 (bV v1)))) (aK m3 h3 c2) (aA (fQ h3 s5 s4) (mS s5) (aA (jG s5.tables.length) (Ints h3 p3 p4) (aA (fI p4) (Ints h3 k3 k4) (aH (fI k4) (cT h3 q1 v1) (QW q1) (DV (λw1 q2=>fC (λm4 h4=>dK h3 h4 (cT h4 q2 w1) (aU (SY s5 p4 k4 q1 q2) (bB m3 m4 c2) (jQ m4 h4 c2 (gR (λs6 m5=>mP m4 m5 h4 s6 38 21 (eX w1.enc)->∃(x3:List (List Value)),AD (dC m5
 (dA v.args) 38 21 x3) (λy=>aA (dU 21 y) (nJ m5 h4 (dA s6) 21 y) (aA (qS x3 y 280) (qT x3 y) (∀(s7:Sl)(m6:MH),aU (dW m5 m6 (dA v.args) s7 38 21 (x3++y)) (Eb m6 h4) (∃(x4:QV×QV×MH×PH),aA (I1 x4) (aJ p) (aA (eP 5) eE (aA hU (eP 13) (aA (bR sc) hP (aH (eN (kX x2) x4.1) (rC (dQ v.op v.table (pQ v.where_ (lT (B0 v) (Bl v.on) (lT (Bl g) (Bl o) (uD (mO k2) (Bl s7)))))) x4.2.1) (Cw m6 h4 (rF x4) (tU x4)) True))))))))))))))))))))))))))))))) ((∃(c1:Nat),wA (λs3 t c2 p3 d1=>aA (qB cb 0::cH (mA x2) (fL p 2)=qB c1 0::cH s3 (fL t (↑d1:Int))) (aK (pM x2) (fU x2) c1) (aA (Ints (fU x2) s3 c2) (Ints (fU x2) t p3) (aH (fI c2) (fI p3) (jG d1) (AB (λv p4=>fC (λm3 h3=>dK
 (fU x2) h3 (eH h3 p4 v) (aU (u0 c2 p3 d1 p4) (bB (pM x2) m3 c1) (jQ m3 h3 c1 (∀(s4:Sl)(m4:MH),aU (mP m3 m4 h3 s4 38 21 (eX (kX x2).enc)) (Eb m4 h3) (∃(x3:QV×QV×MH×PH),aA (I1 x3) (aJ p) (aA (eP 5) eE (aA hU (eP 13) (aA (bR sc) hP (aH (eN (kX x2) x3.1) (rC (dQ 2 0 (pQ v (lT JU JU (lT JU JU (uD (mO 0) (Bl s4)))))) x3.2.1) (Cw m4 h3 (rF x3) (tU x3)) True)))))))))))))))/\gR (λs3 m3=>mP (pM x2) m3 (fU x2) s3 38 21 (eX (kX x2).enc)->∃(c1:Nat),wA (λs4 t c2 p3 d1=>aA (qB cb 0::cH (mA x2) (fL p 2)=qB c1 0::cH s4 (fL t (↑d1:Int))) (aK m3 (fU x2) c1) (aA (Ints (fU x2) s4 c2) (Ints (fU x2) t p3) (aH (fI c2) (fI p3) (jG d1) (AB (λv p4=>fC (λm4 h3=>
 dK (fU x2) h3 (eH h3 p4 v) (aU (u0 c2 p3 d1 p4) (bB m3 m4 c1) (aU (aK m4 h3 c1) (Eb m4 h3) (∃(x3:QV×QV×MH×PH),aA (I1 x3) (aJ p) (aA (eP 5) eE (aA hU (eP 13) (aA (bR sc) hP (aH (eN (kX x2) x3.1) (rC (dQ 2 0 (pQ v (lT JU JU (lT JU JU (uD (mO 0) (Bl s3)))))) x3.2.1) (Cw m4 h3 (rF x3) (tU x3)) True))))))))))))))))))/\∀(x1:QV×QV×MH×PH),I1 x1->EN (cL (bI sc) (fK p (bV x1.2.1))) (tU x1) (λs3 p3 q1 _ h3=>eA (fZ s3 p3 q1).2 0 (K (bV x1.1) (rF x1) h3) (K (bV x1.2.1) (rF x1) h3)))))))))))))))))))
structure qH(m0 m:MH)(s:Sl)(E:TypeId)(sz:Nat)(xs:List (List Value)):Prop where
 row:dC m s E sz xs
 fresh:∀b i,s.a=some ⟨b,i,none⟩->m0 b=none
def Kept(m0 m:MH)(cb:Nat):Prop:=∀b o,m0 b=some o->b≠cb->m b=some o
theorem Kept.of{m0:MH}(h:bB m0 m cb):Kept m0 m cb:=λb o e n=>by rw[h.other b n];exact e
theorem Kept.on{m0:MH}(k:Kept m0 m cb)(h:bB m m' cb):Kept m0 m' cb:=λb o e n=>by rw[h.other b n];exact k b o e n
theorem aK.blk(c:aK m h cb):∃cs,m cb=some (.cells cs 82 (0,0)):=by
 obtain⟨r,q,cs,k,q1,_⟩:=c;exact⟨_,q1⟩
theorem aK.keep(c:aK m h cb)(e:m' cb=m cb)(le:PH.le h h'):aK m' h' cb:=by
 obtain⟨r,q,cs,k,q1,q2,q3⟩:=c;exact⟨r,q,cs,k,by rw[e];exact q1,q2.mono le,q3⟩
theorem Kept.free{m0:MH}(k:Kept m0 m cb)(c:aK m h cb)(hb:m b=none):m0 b=none:=by
 cases e:m0 b with
 |none=>rfl
 |some o=>
  by_cases hc:b=cb
  .obtain⟨cs,e2⟩:=c.blk;rw[hc,e2]at hb;cases hb
  .rw[k b o e hc]at hb;cases hb
theorem dC.nil(m:MH)(E:TypeId)(sz:Nat):dC m bU E sz []:=⟨⟨λ_ h=>by simp at h,λ_ h=>by simp at h⟩,.inl ⟨rfl,rfl⟩⟩
theorem qH.nil(m0 m:MH)(E:TypeId)(sz:Nat):qH m0 m bU E sz []:=⟨dC.nil m E sz,λb i e=>by cases e⟩
theorem qH.on{m0:MH}{s:Sl}{E:TypeId}(r:qH m0 m s E sz xs)(o:bB m m' cb)(c:aK m h cb)(hE:E≠82):qH m0 m' s E sz xs:=by
 refine⟨dC.keep r.row (λb i e=>o.other b (λe2=>?_)),r.fresh⟩;obtain⟨cur,h1⟩:=dC.blk r.row e;obtain⟨cs,h2⟩:=c.blk;rw[e2,h2]at h1;simp only[Option.some.injEq,Obj.cells.injEq]at h1;exact hE h1.2.1.symm
theorem qH.new{m0:MH}{s t:Sl}{E E':TypeId}{sz':Nat}{ys:List (List Value)}(r:qH m0 m s E sz xs)(x:mP m m' h t E' sz' ys):qH m0 m' s E sz xs:=by
 refine⟨dC.keep r.row (λb i e=>x.other b (λj e2=>?_)),r.fresh⟩;obtain⟨cur,h1⟩:=dC.blk r.row e;rw[(x.fresh b j e2).m_]at h1;cases h1
theorem mP.frow{m0:MH}{s:Sl}{E:TypeId}(x:mP m m' h s E sz xs)(k:Kept m0 m cb)(c:aK m h cb):qH m0 m' s E sz xs:=⟨x.row,λb i e=>k.free c (x.fresh b i e).m_⟩
theorem mP.at_cb{s:Sl}{E:TypeId}(x:mP m m' h s E sz xs)(c:aK m h cb):m' cb=m cb:=x.other cb (λi e=>by
 obtain⟨cs,e2⟩:=c.blk;rw[(x.fresh cb i e).m_]at e2;cases e2)
theorem Kept.new{m0:MH}{s:Sl}{E:TypeId}(k:Kept m0 m cb)(x:mP m m' h s E sz xs):Kept m0 m' cb:=λb o e n=>by
 rw[x.other b (λi e2=>by have:=(x.fresh b i e2).m_;rw[k b o e n]at this;cases this)];exact k b o e n
theorem qH.grown{m0:MH}{s s':Sl}{E:TypeId}{zs:List (List Value)}(r:qH m0 m s E sz xs)(x:dW m m' s s' E sz zs)(k:Kept m0 m cb)(c:aK m h cb):qH m0 m' s' E sz zs:=
 ⟨x.row,λb i e=>by
  rcases x.fresh b i e with h1|⟨j,h1⟩
  .exact k.free c h1
  .exact r.fresh b j h1⟩
theorem qH.apart{m0:MH}{s t t':Sl}{E E':TypeId}{sz':Nat}{ys zs:List (List Value)}(r:qH m0 m s E sz xs)(q:qH m0 m t E' sz' ys)(x:dW m m' t t' E' sz' zs)(hE:E≠E'):qH m0 m' s E sz xs:=by
 refine⟨dC.keep r.row (λb i e=>?_),r.fresh⟩;obtain⟨cur,h1⟩:=dC.blk r.row e;rw[h1];refine x.other b _ h1 (λj e2=>?_);obtain⟨cur2,h2⟩:=dC.blk q.row e2;rw[h1]at h2;simp only[Option.some.injEq,Obj.cells.injEq]at h2;exact hE h2.2.1
theorem Kept.grown{m0:MH}{s s':Sl}{E:TypeId}{zs:List (List Value)}(k:Kept m0 m cb)(r:qH m0 m s E sz xs)(x:dW m m' s s' E sz zs):Kept m0 m' cb:=λb o e n=>x.other b o (k b o e n) (λi e2=>by rw[r.fresh b i e2]at e;cases e)
theorem dW.at_cb{m0:MH}{s s':Sl}{E:TypeId}{zs:List (List Value)}(x:dW m m' s s' E sz zs)(r:qH m0 m s E sz xs)(c:aK m h cb)(hE:E≠82):m' cb=m cb:=by
 obtain⟨cs,e⟩:=c.blk;rw[e];refine x.other cb _ e (λi e2=>?_);obtain⟨cur,h1⟩:=dC.blk r.row e2;rw[e]at h1;simp only[Option.some.injEq,Obj.cells.injEq]at h1;exact hE h1.2.1.symm
theorem NX{sz:Nat}:∀{xs:List (List Value)},(∀e∈xs,e.length=sz)->xs.flatten.length=xs.length*sz
 |[],_=>by simp
 |x::xs,h=>by
  simp only[List.flatten_cons,List.length_append,List.length_cons];rw[NX (λe he=>h e (by simp[he])),h x (by simp),Nat.add_mul];omega
theorem dC.src{s:Sl}{E:TypeId}{x:List Value}(r:dC m s E sz (x::xs)):nJ m h s sz (x::xs):=by
 rcases r.ex with⟨_,e⟩|⟨b,cap,cur,rfl,hm,_,_,_,ht⟩
 .cases e
 .exact .lent b 0 cur E (0,0) rfl rfl hm (by rw[List.drop_zero,NX r.rows.len];exact ht)
def uE(m0 m:MH):MH:=λb=>match m0 b with|some _=>m b|none=>none
def Be(m0 m:MH)(h:PH):PH:=λb i=>match m0 b,m b with|none,some (.cells cs _ _)=>cs[i]? |_,_=>h b i
theorem MS{m0 m:MH}{h:PH}(d:Eb m h):PH.le h (Be m0 m h):=⟨λb i v e=>by
 unfold Be;split
 .rename_i cs E fz h1 h2;rw[d.disj b _ h2 i]at e;cases e
 .exact e⟩
theorem TL{m0:MH}(d:Eb m h):Cw m h (uE m0 m) (Be m0 m h):=by
 refine⟨λb o e=>?_,MS d,λb i v e=>?_⟩
 .unfold uE at e;split at e
  .exact e
  .cases e
 .unfold Be at e;split at e
  .rename_i cs E fz h1 h2;exact .inr ⟨cs,E,fz,h2,e,by unfold uE;rw[h1]⟩
  .exact .inl e
theorem FT{p:Prop}(h:p:=by repeat' (first|with_reducible rfl|exact trivial|exact TL (by assumption)|refine⟨?_,?_⟩|rfl)):p:=h
theorem qH.ice{m0:MH}{s:Sl}{E:TypeId}(r:qH m0 m s E sz xs):cN (Be m0 m h) s sz xs:=by
 rcases r.row.ex with⟨rfl,rfl⟩|⟨b,cap,cur,rfl,hm,hcp,_,_,ht⟩
 .exact cN.nil _ _
 .have h0:=r.fresh b 0 rfl;refine⟨rfl,.inr ⟨b,0,rfl,λi e hi=>⟨λj v hj=>?_⟩⟩,hcp⟩;have h1:=kU r.row.rows.len hi j v hj;rw[<-ht,List.getElem?_take]at h1;split at h1
  .unfold Be;rw[h0,hm];simp only[Nat.zero_add];rw[<-Array.getElem?_toList];exact h1
  .cases h1
theorem keep_other{m0:MH}(k:Kept m0 m cb):bB m0 (uE m0 m) cb:=⟨λb hb=>by
 unfold uE;cases e:m0 b with
 |none=>rfl
 |some o=>exact k b o e hb⟩
theorem TI{m0:MH}(c:aK m h cb)(h0:m0 cb≠none)(d:Eb m h):aK (uE m0 m) (Be m0 m h) cb:=c.keep (by
 unfold uE;cases e:m0 cb with
 |none=>exact(h0 e).elim
 |some o=>rfl) (MS d)
def QA(d:Nat)(q:Query):Prop:=QW q/\Kp d q
structure QM(d:Nat)(m0 m:MH)(h:PH)(v:QV)(vs:List QV):Prop where
 wher:∃w,eH h w v.where_/\FG w
 cols:∃co:List Int,qH m0 m v.columns 3 1 (co.map eI)/\co.length<=1000
 on_:∃l,lD h v.on l
 group_:∃l,Ints h v.group l
 order_:∃l,iH h v.order l
 args_:qH m0 m v.args 38 21 (vs.map QV.enc)
 len_:vs.length<=2
 reps:∀v∈vs,∃q,cT h q v/\QA d q
theorem N0{d:Nat}{h:PH}:∀{vs:List QV},(∀v∈vs,∃q,cT h q v/\QA d q)->∃qs:List Query,qs.length=vs.length/\(∀q∈qs,QA d q)/\∀(i:Nat) q,qs[i]? =some q->∃v,vs[i]? =some v/\cT h q v
 |[],_=>⟨[],rfl,λq hq=>by simp at hq,λi q e=>by simp at e⟩
 |v::vs,h1=>by
  obtain⟨q,hq,hqw⟩:=h1 v (by simp);obtain⟨qs,e1,ew,e2⟩:=N0 (vs:=vs) (λu hu=>h1 u (by simp[hu]));refine⟨q::qs,by simp[e1],λx hx=>by rcases List.mem_cons.1 hx with rfl|hx;exact hqw;exact ew x hx,λi x e=>?_⟩;cases i with
  |zero=>simp at e;subst e;exact⟨v,rfl,hq⟩
  |succ i=>simpa using e2 i x (by simpa using e)
theorem QM.ice{n:Nat}{m0:MH}{vs:List QV}(x:QM n m0 m h v vs)(d:Eb m h):∃q,cT (Be m0 m h) q v/\QW q/\xI (n+1) q:=by
 obtain⟨w,hw,hww⟩:=x.wher;obtain⟨co,hc,hcl⟩:=x.cols;obtain⟨on,ho⟩:=x.on_;obtain⟨gr,hg⟩:=x.group_;obtain⟨od,hod⟩:=x.order_;obtain⟨qs,e1,ew,e2⟩:=N0 x.reps;have le:=MS (m0:=m0) d;have hl:=x.len_;exact⟨_,nW.rep ⟨rfl,rfl,hw.mono le,⟨hc.ice,aC⟩,ho.mono le,hg.mono le,hod.mono le,rfl,⟨⟨vs,x.args_.ice,e1,λi q e=>let⟨v,k1,k2⟩:=e2 i q e;⟨v,k1,k2.mono le⟩⟩,aC⟩⟩,P7.2 ⟨hww,λa ha=>(ew a ha).1⟩,xI.node (λa ha=>(ew a ha).2) aC⟩
theorem QM.on{n:Nat}{m0:MH}{vs:List QV}(x:QM n m0 m h v vs)(o:bB m m' cb)(c:aK m h cb)(le:PH.le h h'):QM n m0 m' h' v vs:=by
 obtain⟨w,hw,hww⟩:=x.wher;obtain⟨co,hc,hcl⟩:=x.cols;obtain⟨on,ho⟩:=x.on_;obtain⟨gr,hg⟩:=x.group_;obtain⟨od,hod⟩:=x.order_;exact⟨⟨w,hw.mono le,hww⟩,⟨co,hc.on o c (by decide),hcl⟩,⟨on,ho.mono le⟩,⟨gr,hg.mono le⟩,⟨od,hod.mono le⟩,x.args_.on o c (by decide),x.len_,λv hv=>let⟨q,e,ew⟩:=x.reps v hv;⟨q,e.mono le,ew⟩⟩
theorem QM.new{d:Nat}{m0:MH}{vs:List QV}{t:Sl}{E:TypeId}{ys:List (List Value)}(x:QM d m0 m h v vs)(n:mP m m' h' t E sz ys)(le:PH.le h h'):QM d m0 m' h' v vs:=by
 obtain⟨w,hw,hww⟩:=x.wher;obtain⟨co,hc,hcl⟩:=x.cols;obtain⟨on,ho⟩:=x.on_;obtain⟨gr,hg⟩:=x.group_;obtain⟨od,hod⟩:=x.order_;exact⟨⟨w,hw.mono le,hww⟩,⟨co,hc.new n,hcl⟩,⟨on,ho.mono le⟩,⟨gr,hg.mono le⟩,⟨od,hod.mono le⟩,x.args_.new n,x.len_,λv hv=>let⟨q,e,ew⟩:=x.reps v hv;⟨q,e.mono le,ew⟩⟩
theorem QM.grow{d:Nat}{m0:MH}{v':QV}{vs:List QV}{s':Sl}{u:QV}(x:QM d m0 m h v vs)(g:dW m m' v.args s' 38 21 (vs.map QV.enc++[u.enc]))(k:Kept m0 m cb)(c:aK m h cb)(hu:∃q,cT h q u/\QA d q)(hl:vs.length<=1)
 (ew:v'.where_=v.where_)(ec:v'.columns=v.columns)(eo:∃l,lD h v'.on l)(eg:∃l,Ints h v'.group l)(ed:∃l,iH h v'.order l)(ea:v'.args=s'):QM d m0 m' h v' (vs++[u]):=by
 obtain⟨co,hc,hcl⟩:=x.cols;refine⟨by rw[ew];exact x.wher,⟨co,by rw[ec];exact hc.apart x.args_ g (by decide),hcl⟩,eo,eg,ed,by rw[ea,List.map_append];exact x.args_.grown g k c,by simp;omega,λv hv=>?_⟩;rcases List.mem_append.1 hv with h1|h1
 .exact x.reps v h1
 .simp at h1;subst h1;exact hu
theorem Sf(h:eD s=0):Bm s:=Classical.byContradiction λhn=>by rw[sG hn]at h;cases h
theorem sF(h:eD s=0):mS s:=λt ht=>by
 obtain⟨i,hi⟩:=List.mem_iff_getElem?.1 ht;have:=(Sf h).2 i t hi;exact this.1
theorem An(h:eD s=0):s.tables.length<=8:=(Sf h).1
theorem DO(s:nY)(ps:List Int)(q:Query):(fZ s ps q).1.length<=12:=by
 unfold fZ;split
 .split
  .split
   .exact Ba s ps q
   .simp[iR]
  .simp[iR]
 .simp[iR]
theorem Mp{t:Int}(he:eD s=0)(hp:ps.all dO=true)(h0:0<=t)(h1:t<s.tables.length):(fZ s ps (.mk 1 t gV [] [] [] [] 0 [])).2=0:=by
 have h8:=sF he
 have hk:(gT s t).length<=12:=by
  unfold gT;split
  .simp
  .split
   .simp
   .rename_i x hx;have:=h8 x (List.mem_of_getElem? hx);simp;omega
 have e1:bO s ps (.mk 1 t gV [] [] [] [] 0 [])=iA s ps (.mk 1 t gV [] [] [] [] 0 []) [] []:=by simp[bO,eZ,arity]
 have e2:jZ (.mk 1 t gV [] [] [] [] 0 [])=true:=by rfl
 unfold fZ;rw[if_pos he,if_pos hp,if_pos e2,e1];unfold iA;rw[if_neg (by simp[arity,dE])];simp only[if_true];rw[if_pos ⟨h0,h1⟩];unfold zF;rw[if_pos hk]
structure Zj(m0:MH)(h3:PH)(cb:Nat)(a q:QV)(mx:MH):Prop where
 case_:aK mx h3 cb
 kept:Kept m0 mx cb
 ex:∃o args,q=⟨o,0,fT,bU,bU,bU,bU,0,args⟩/\qH m0 mx args 38 21 ([a].map QV.enc)
theorem Zj.qm{d:Nat}{m0 mx:MH}{h3:PH}{a q:QV}(x:Zj m0 h3 cb a q mx)(hr:∃qa,cT h3 qa a/\QA d qa):QM d m0 mx h3 q [a]:=by
 obtain⟨o,args,rfl,hf⟩:=x.ex;exact⟨⟨_,zK h3,Ar⟩,⟨[],qH.nil _ _ _ _,by simp⟩,⟨_,nZ _⟩,⟨_,iV _⟩,⟨_,sE _⟩,hf,by simp,λv hv=>by simp at hv;subst hv;exact hr⟩
theorem SJ:∀N,Sound Tryz.prog 13 (RY N)
 |0=>by
  refine eG (fn:=Tryz.f13) (c:=dG Tryz.f13) Tryz.func13 rfl (by decide) ?_;rintro cvs m h K ⟨cb,sc,p,s,ps,deep,rfl,_,_,_,_,_,_,_,_,_,hN,_⟩;omega
 |N+1=>by
  refine hX Tryz.func13 ?_;rintro cvs m h K ⟨cb,sc,p,s,ps,deep,rfl,hc,hs,he,hne,hp,hpl,hpk,d0,d1,hN,hK⟩;refine⟨XU N cb sc p,rfl,aD Gb (aD K3 (aD K6 (aD T9 (aD K5 (aD T8 (aD Db (aD (SJ N) aF))))))),Pl N cb sc p deep m h K,by kernel_rfl,?_⟩;have htl:=hs.tables.slen;have h8:=sF he;have ht8:=An he;have htp:0<s.tables.length:=List.length_pos_iff.2 hne;have hif:(if(sc.tables.len:Int)>1 then(sc.tables.len:Int)else 1)=(sc.tables.len:Int):=by split<;>omega
  have hm0:m cb≠none:=by obtain⟨cs,e⟩:=hc.blk;rw[e];simp
  dsimp only[Pl,push_cast];rw[hif];refine⟨cb,12,rfl,hc,λk m1 k0 k1 o1 c1=>?_⟩;refine aE (λhd=>?_) (λhd=>aB (λ_=>?_) (λ_=>aB (λ_=>?_) (λ_=>?_)))
  .exact⟨cb,_,rfl,c1,λk2 m2 k20 k21 o2 c2=>⟨k2,rfl,hK _ _ m2 h (.refl _) (zN h k2) (Es k2) (xI.mono (d:=0) nD.scan (Nat.zero_le _)) (Mp he hpk k20 aC) (o1.trans o2) c2⟩⟩
  .exact⟨cb,_,rfl,c1,λk2 m2 k20 k21 o2 c2=>⟨k2,rfl,hK _ _ m2 h (.refl _) (zN h k2) (Es k2) (xI.mono (d:=0) nD.scan (Nat.zero_le _)) (Mp he hpk k20 aC) (o1.trans o2) c2⟩⟩
  .exact⟨cb,_,rfl,c1,λk2 m2 k20 k21 o2 c2=>⟨k2,rfl,hK _ _ m2 h (.refl _) (zN h k2) (Es k2) (xI.mono (d:=0) nD.scan (Nat.zero_le _)) (Mp he hpk k20 aC) (o1.trans o2) c2⟩⟩
  have hw1:IntKind.i64.wrap (deep-1)=deep-1:=dJ aC aC;have hw2:IntKind.i64.wrap (deep-2)=deep-2:=dJ aC aC;rw[hw1];refine⟨cb,sc,p,s,ps,deep-1,rfl,c1,hs,he,hne,hp,hpl,hpk,aC,aC,aC,λa qa m2 h2 le2 ra qaw0 qaf qa0 o2 c2=>⟨sc,p,a,s,ps,qa,rfl,hs.mono le2,hp.mono le2,ra,λkk h3 le3 ik=>?_⟩⟩;have hkl:=DO s ps qa;obtain⟨dd,hdd⟩:∃dd,(deep-1).toNat=dd:=⟨_,rfl⟩
  have hde:deep.toNat=dd+1:=by omega
  rw[hdd]at qaf;have qaw:QA dd qa:=⟨qaw0,qaf.arg⟩
  generalize hks:(fZ s ps qa).fst=ks at ik hkl;clear hks;have hle3:PH.le h h3:=le2.trans le3;have ra3:cT h3 qa a:=ra.mono le3;refine⟨λ⟨d,op,a',q,k',mx,hx⟩=>d=deep/\a'=a/\k'=kk/\hx=h3/\Zj m h3 cb a q mx,λs1 m3 hnew=>⟨(deep,IntKind.i64.wrap (1+k),a,⟨IntKind.i64.wrap (1+k),0,fT,bU,bU,bU,bU,0,s1⟩,kk,m3,h3),⟨rfl,rfl,rfl,rfl,?_⟩,MT⟩,?_⟩
  .have k2:=(Kept.of o1).on o2;have c3:=c2.mono le3;exact⟨c3.keep (mP.at_cb hnew c3) (.refl _),k2.new hnew,_,_,rfl,mP.frow hnew k2 c3⟩
  rintro⟨deep,op,a',q,k',mx,hx⟩ ⟨rfl,rfl,rfl,rfl,mid⟩;dsimp only;have reach:∀(q:QV)(vs:List QV)(my:MH)(hy:PH),PH.le hx hy->Kept m my cb->aK my hy cb->QM dd m my hy q vs->Eb my hy->PH.le hx (Be m my hy)/\bB m (uE m my) cb/\aK (uE m my) (Be m my hy) cb/\∃qq,cT (Be m my hy) qq q/\QW qq/\xI (dd+1) qq:=λq vs my hy l k c x d=>⟨l.trans (MS d),keep_other k,TI c hm0 d,x.ice d⟩
  have join:∀(q:QV)(u:QV)(s1:Sl)(my:MH)(hy:PH)(Q:Sl->MH->Prop),PH.le hx hy->Kept m my cb->aK my hy cb->QM dd m my hy q [a']->qH m my s1 38 21 [u.enc]->(∃qu,cT hy qu u/\QA dd qu)->
   (∀s' m',(∀q':QV,q'.where_=q.where_->q'.columns=q.columns->(∃l,lD hy q'.on l)->(∃l,Ints hy q'.group l)->(∃l,iH hy q'.order l)->q'.args=s'->QM dd m m' hy q' [a',u])->Kept m m' cb->aK m' hy cb->Q s' m')->
   ∃xs,dC my ⟨q.args.a,q.args.len,q.args.cap⟩ 38 21 xs/\∃ys,dU 21 ys/\nJ my hy ⟨s1.a,s1.len,s1.cap⟩ 21 ys/\(xs.length+ys.length)*280<=140737488355328/\xs.length+ys.length<=140737488355328/\∀(s':Sl)(m':MH),dW my m' ⟨q.args.a,q.args.len,q.args.cap⟩ s' 38 21 (xs++ys)->Q s' m':=
   λq u s1 my hy Q l k c x f hu hQ=>⟨_,x.args_.row,[u.enc],U0 [u],dC.src f.row,by simp,by simp,λs' m' g=>hQ s' m' (λq' e1 e2 e3 e4 e5 e6=>x.grow g k c hu (by simp) e1 e2 e3 e4 e5 e6) (k.grown x.args_ g) (c.keep (dW.at_cb g x.args_ c (by decide)) (.refl _))⟩
  refine⟨λ⟨a2,q,my,hy⟩=>a2=a'/\PH.le hx hy/\bB m my cb/\aK my hy cb/\∃qq,cT hy qq q/\QW qq/\xI (dd+1) qq,aB (λ_=>?_) (λ_=>?_),?_⟩
  ·
   refine⟨cb,3,rfl,mid.case_,λn m3 n0 n1 o3 c3=>?_⟩;refine⟨λ⟨a2,q,k2,n,my,hy⟩=>a2=a'/\k2=k'/\hy=hx/\ -1<=n/\n<=2/\aK my hx cb/\Kept m my cb/\QM dd m my hx q [a']/\∃co:List Int,qH m my q.columns 3 1 (co.map eI)/\(co.length:Int)<=2-n,λ⟨_,_,_,n,_,_⟩=>(n+1).toNat,⟨(a',q,k',n,m3,hx),⟨rfl,rfl,rfl,by show-1<=n;omega,by show n<=2;omega,c3,mid.kept.on o3,(mid.qm ⟨qa,ra3,qaw⟩).on o3 mid.case_ (.refl _),[],?_,by simp;omega⟩,MT⟩,?_⟩
   .obtain⟨o,args,rfl,hf⟩:=mid.ex;exact qH.nil _ _ _ _
   clear mid q c3 o3 m3 n0 n1 n;rintro⟨a2,q,k2,n,my,hy⟩ ⟨rfl,rfl,rfl,n0,n1,cy,ky,qm,co,fco,hcol⟩;dsimp only;refine aE (λhn=>⟨cb,_,rfl,cy,λc m4 _ _ o4 c4=>⟨_,(fco.on o4 cy (by decide)).row,by simp;omega,by simp;omega,λs' m5 g=>?_⟩⟩) (λhn d=>⟨(a2,q,uE m my,Be m my hy),⟨rfl,reach q _ my hy (.refl _) ky cy qm d⟩,FT⟩);have f4:=fco.on o4 cy (by decide);have q4:=qm.on o4 cy (.refl _);have k4:=ky.on o4;have f5:qH m m5 s' 3 1 ((co++[c]).map eI):=by rw[List.map_append];exact f4.grown g k4 c4
   have hw3:IntKind.i64.wrap (n-1)=n-1:=dJ aC aC;rw[hw3];refine⟨(a2,{q with columns:=s'},k2,n-1,m5,hy),⟨rfl,rfl,rfl,by show-1<=n-1;omega,by show n-1<=2;omega,c4.keep (dW.at_cb g f4 c4 (by decide)) (.refl _),k4.grown f4 g,⟨q4.wher,⟨_,f5,by simp;omega⟩,q4.on_,q4.group_,q4.order_,q4.args_.apart f4 g (by decide),q4.len_,q4.reps⟩,_,f5,by simp;omega⟩,by show(n-1+1).toNat<(n+1).toNat;omega,MT⟩
  .refine⟨λ⟨d,op,a2,q,k2,t,my,hy⟩=>d=deep/\a2=a'/\k2=k'/\hy=hx/\Zj m hx cb a' q my,aB (λ_=>⟨(deep,op,a',q,k',true,mx,hx),⟨rfl,rfl,rfl,rfl,mid⟩,MT⟩) (λ_=>⟨(deep,op,a',q,k',op==5,mx,hx),⟨rfl,rfl,rfl,rfl,mid⟩,MT⟩),?_⟩;clear mid q mx;rintro⟨deep,op,a',q,k',t,mx,hx⟩ ⟨rfl,rfl,rfl,rfl,mid⟩;dsimp only;refine aB (λ_=>?_) (λ_=>?_)
   ·
    rw[hw2];refine⟨cb,sc,p,s,ps,deep-2,rfl,mid.case_,hs.mono hle3,he,hne,hp.mono hle3,hpl,hpk,by show-1<=deep-2;omega,aC,aC,λb qb m5 h5 le5 rb qbw0 qbf _ o5 c5=>⟨sc,p,b,s,ps,qb,rfl,hs.mono (hle3.trans le5),hp.mono (hle3.trans le5),rb,λl h6 le6 il=>?_⟩⟩;have qbw:QA dd qb:=⟨qbw0,(qbf.mono aC).arg⟩
    have hll:=DO s ps qb;generalize hls:(fZ s ps qb).fst=ls at il hll;have q6:QM dd m m5 h6 q [a']:=(mid.qm ⟨qa,ra3,qaw⟩).on o5 mid.case_ (le5.trans le6);have k6:=mid.kept.on o5;have c6:=c5.mono le6;refine⟨λ⟨a2,b2,q,k2,l2,my,hy⟩=>a2=a'/\b2=b/\k2=k'/\l2=l/\hy=h6/\aK my h6 cb/\Kept m my cb/\QM dd m my h6 q [a'],aB (λ_=>aE (λ_=>⟨(a',b,{q with op:=5},k',l,m5,h6),⟨rfl,rfl,rfl,rfl,rfl,c6,k6,⟨q6.wher,q6.cols,q6.on_,q6.group_,q6.order_,q6.args_,q6.len_,q6.reps⟩⟩,MT⟩) (λ_=>⟨(a',b,q,k',l,m5,h6),⟨rfl,rfl,rfl,rfl,rfl,c6,k6,q6⟩,MT⟩)) (λ_=>⟨(a',b,q,k',l,m5,h6),⟨rfl,rfl,rfl,rfl,rfl,c6,k6,q6⟩,MT⟩),?_⟩;have rb6:=rb.mono le6;have hx6:PH.le hx h6:=le5.trans le6;clear q6 k6 c6 o5 c5 rb le5 mid q;rintro⟨a2,b,q,k2,l,my,h6⟩ ⟨rfl,rfl,rfl,rfl,rfl,c6,k6,q6⟩;dsimp only;refine⟨⟨cb,k2,l,ks,ls,rfl,c6,ik.mono hx6,il,aC,aC,λo on m7 h7 le7 hon _ o7 c7 s1 m8 hnew=>?_⟩,λs1 m7 hnew=>⟨cb,k2,l,ks,ls,rfl,c6.keep (mP.at_cb hnew c6) (.refl _),ik.mono hx6,il,aC,aC,λo on m8 h7 le7 hon _ o8 c8=>?_⟩⟩
    .have k7:=k6.on o7;refine join q b s1 m8 h7 _ (hx6.trans le7) (k7.new hnew) (c7.keep (mP.at_cb hnew c7) (.refl _)) ((q6.on o7 c6 le7).new hnew (.refl _)) (mP.frow hnew k7 c7) ⟨qb,rb6.mono le7,qbw⟩ (λs' m9 hq k9 c9 d=>?_);exact⟨(a2,{q with on:=o,args:=s'},uE m m9,Be m m9 h7),⟨rfl,reach _ _ m9 h7 (hx6.trans le7) k9 c9 (hq {q with on:=o,args:=s'} rfl rfl ⟨on,hon⟩ (let⟨l,e⟩:=q6.group_;⟨l,e.mono le7⟩) (let⟨l,e⟩:=q6.order_;⟨l,e.mono le7⟩) rfl) d⟩,FT⟩
    .have k7:=k6.new hnew;have c7:aK m7 h6 cb:=c6.keep (mP.at_cb hnew c6) (.refl _);have k8:=k7.on o8;refine join q b s1 m8 h7 _ (hx6.trans le7) k8 c8 ((q6.new hnew (.refl _)).on o8 c7 le7) ((mP.frow hnew k6 c6).on o8 c7 (by decide)) ⟨qb,rb6.mono le7,qbw⟩ (λs' m9 hq k9 c9 d=>?_);exact⟨(a2,{q with on:=o,args:=s'},uE m m9,Be m m9 h7),⟨rfl,reach _ _ m9 h7 (hx6.trans le7) k9 c9 (hq {q with on:=o,args:=s'} rfl rfl ⟨on,hon⟩ (let⟨l,e⟩:=q6.group_;⟨l,e.mono le7⟩) (let⟨l,e⟩:=q6.order_;⟨l,e.mono le7⟩) rfl) d⟩,FT⟩
   .refine⟨λ⟨op,a2,q,k2,t,my,hy⟩=>a2=a'/\k2=k'/\hy=hx/\Zj m hx cb a' q my,aB (λ_=>⟨(op,a',q,k',true,mx,hx),⟨rfl,rfl,rfl,mid⟩,MT⟩) (λ_=>aB (λ_=>⟨(op,a',q,k',true,mx,hx),⟨rfl,rfl,rfl,mid⟩,MT⟩) (λ_=>⟨(op,a',q,k',op==8,mx,hx),⟨rfl,rfl,rfl,mid⟩,MT⟩)),?_⟩;clear mid q mx;rintro⟨op,a',q,k',t,mx,hx⟩ ⟨rfl,rfl,rfl,mid⟩;dsimp only;have q3:=mid.qm ⟨qa,ra3,qaw⟩;refine aB (λ_=>?_) (λ_=>aB (λ_=>?_) (λ_=>aB (λ_=>?_) (λ_=>?_)))
    ·
     refine⟨cb,sc,p,k',a',s,ps,ks,qa,rfl,mid.case_,hs.mono hle3,h8,aC,hp.mono hle3,hpl,ik,aC,ra3,qaw.1,λw qw m5 h5 le5 rw5 qww o5 c5 s1 m6 hnew=>?_⟩;have k5:=mid.kept.on o5;refine join q w s1 m6 h5 _ le5 (k5.new hnew) (c5.keep (mP.at_cb hnew c5) (.refl _)) ((q3.on o5 mid.case_ le5).new hnew (.refl _)) (mP.frow hnew k5 c5) ⟨qw,rw5,qww.qw,qww.siz dd qaf⟩ (λs' m9 hq k9 c9 d=>?_);have q5:=q3.on o5 mid.case_ le5;exact⟨(a',{q with args:=s'},uE m m9,Be m m9 h5),⟨rfl,reach _ _ m9 h5 le5 k9 c9 (hq {q with args:=s'} rfl rfl q5.on_ q5.group_ q5.order_ rfl) d⟩,FT⟩
    ·
     obtain⟨o,args,rfl,hf⟩:=mid.ex;refine⟨cb,⟨o,0,fT,bU,bU,bU,bU,0,args⟩,k',ks,rfl,mid.case_,ik,aC,λg od kk gr odl m5 h5 le5 hg hod _ _ _ _ o5 c5 d=>?_⟩;have q5:=q3.on o5 mid.case_ le5;exact⟨(a',⟨o,0,fT,bU,bU,g,od,kk,args⟩,uE m m5,Be m m5 h5),⟨rfl,reach _ [a'] m5 h5 le5 (mid.kept.on o5) c5 ⟨q5.wher,q5.cols,q5.on_,⟨gr,hg⟩,⟨odl,hod⟩,q5.args_,q5.len_,q5.reps⟩ d⟩,FT⟩
    ·
     obtain⟨o,args,rfl,hf⟩:=mid.ex;refine⟨cb,⟨o,0,fT,bU,bU,bU,bU,0,args⟩,k',ks,rfl,mid.case_,ik,aC,λg od kk gr odl m5 h5 le5 hg hod _ _ _ _ o5 c5=>?_⟩;have q5:=q3.on o5 mid.case_ le5;have q5':QM dd m m5 h5 ⟨o,0,fT,bU,bU,g,od,kk,args⟩ [a']:=⟨q5.wher,q5.cols,q5.on_,⟨gr,hg⟩,⟨odl,hod⟩,q5.args_,q5.len_,q5.reps⟩
     refine⟨cb,sc,p,k',a',s,ps,ks,qa,rfl,c5,hs.mono (hle3.trans le5),h8,aC,hp.mono (hle3.trans le5),hpl,ik.mono le5,aC,ra3.mono le5,qaw.1,λw qw m6 h6 le6 rw6 qww o6 c6 s1 m7 hnew=>?_⟩;have k6:=(mid.kept.on o5).on o6;refine join ⟨o,0,fT,bU,bU,g,od,kk,args⟩ w s1 m7 h6 _ (le5.trans le6) (k6.new hnew) (c6.keep (mP.at_cb hnew c6) (.refl _)) ((q5'.on o6 c5 le6).new hnew (.refl _)) (mP.frow hnew k6 c6) ⟨qw,rw6,qww.qw,qww.siz dd qaf⟩ (λs' m9 hq k9 c9 d=>?_);exact⟨(a',⟨o,0,fT,bU,bU,g,od,kk,s'⟩,uE m m9,Be m m9 h6),⟨rfl,reach _ _ m9 h6 (le5.trans le6) k9 c9 (hq ⟨o,0,fT,bU,bU,g,od,kk,s'⟩ rfl rfl ⟨_,nZ _⟩ ⟨gr,hg.mono le6⟩ ⟨odl,hod.mono le6⟩ rfl) d⟩,FT⟩
    ·
     refine⟨⟨cb,k',p,ks,ps,2,rfl,mid.case_,ik,hp.mono hle3,aC,hpl,aC,λpv pp m5 h5 le5 rp rpw o5 c5 s1 m6 hnew d=>?_⟩,λs1 m5 hnew=>⟨cb,k',p,ks,ps,2,rfl,mid.case_.keep (mP.at_cb hnew mid.case_) (.refl _),ik,hp.mono hle3,aC,hpl,aC,λpv pp m6 h5 le5 rp rpw o6 c6 d=>?_⟩⟩
     .have k5:=mid.kept.on o5;exact⟨(a',⟨2,0,pv,bU,bU,bU,bU,0,s1⟩,uE m m6,Be m m6 h5),⟨rfl,reach _ [a'] m6 h5 le5 (k5.new hnew) (c5.keep (mP.at_cb hnew c5) (.refl _)) ⟨⟨pp,rp,rpw.vals⟩,⟨[],qH.nil _ _ _ _,by simp⟩,⟨_,nZ _⟩,⟨_,iV _⟩,⟨_,sE _⟩,mP.frow hnew k5 c5,by simp,λv hv=>by simp at hv;subst hv;exact⟨qa,ra3.mono le5,qaw⟩⟩ d⟩,FT⟩
     .have k5:=mid.kept.new hnew;have c5:aK m5 hx cb:=mid.case_.keep (mP.at_cb hnew mid.case_) (.refl _);exact⟨(a',⟨2,0,pv,bU,bU,bU,bU,0,s1⟩,uE m m6,Be m m6 h5),⟨rfl,reach _ [a'] m6 h5 le5 (k5.on o6) c6 ⟨⟨pp,rp,rpw.vals⟩,⟨[],qH.nil _ _ _ _,by simp⟩,⟨_,nZ _⟩,⟨_,iV _⟩,⟨_,sE _⟩,(mP.frow hnew mid.kept mid.case_).on o6 c5 (by decide),by simp,λv hv=>by simp at hv;subst hv;exact⟨qa,ra3.mono le5,qaw⟩⟩ d⟩,FT⟩
  .rintro⟨a2,q,my,hy⟩ ⟨rfl,ley,oy,cy,qq,rq,rqw,rqf⟩;dsimp only;refine⟨sc,p,q,s,ps,qq,rfl,hs.mono (hle3.trans ley),hp.mono (hle3.trans ley),rq,λsl h5 le5 _=>aB (λe=>?_) (λe=>?_)⟩
   .exact hK a2 qa my h5 ((hle3.trans ley).trans le5) ((ra3.mono ley).mono le5) qaw.1 (by rw[hde];exact qaf.mono aC) qa0 oy (cy.mono le5)
   .exact hK q qq my h5 ((hle3.trans ley).trans le5) (rq.mono le5) rqw (by rw[hde];exact rqf) (by simpa using e) oy (cy.mono le5)
mutual
def xJ(st:List (List (List VV))):Query->List (List VV)
 |.mk op ta w co on gr od li args=>if op=1 then st.getD ta.toNat []else YM op (.mk op ta w co on gr od li args) (NS st args)
def NS(st:List (List (List VV))):List Query->List (List (List VV))
 |[]=>[]
 |q::qs=>xJ st q::NS st qs
end
structure Cu(st ls:List (List (List VV)))(k:Nat)(ts:List Int):Prop where
 at_:∀(j:Nat)(t:Int),ts[j]? =some t->ls.getD (k+j) []=st.getD t.toNat []
theorem Cu.left{st ls:List (List (List VV))}{b:List Int}(x:Cu st ls k (a++b)):Cu st ls k a:=
 ⟨λj t h=>x.at_ j t (by rw[List.getElem?_append_left (List.getElem?_eq_some_iff.1 h).1];exact h)⟩
theorem Cu.right{st ls:List (List (List VV))}{b:List Int}(x:Cu st ls k (a++b)):Cu st ls (k+a.length) b:=
 ⟨λj t h=>by
  have:=x.at_ (a.length+j) t (by rw[List.getElem?_append_right aC,Nat.add_sub_cancel_left];exact h)
  rwa [show k+a.length+j=k+(a.length+j)by omega]⟩
theorem Tx{args:List Query}{kss:List (List Int)}(h1:eZ s ps args=(kss,0))(h2:(kss.length:Int)=arity 1):args=[]:=by
 cases args with
 |nil=>rfl
 |cons q qs=>obtain⟨_,_,_,_,rfl⟩:=jR h1;simp[arity]at h2;omega
mutual
theorem LN{s:nY}{ps:List Int}{st ls:List (List (List VV))}:∀{q:Query}{ks:List Int}{k:Nat},bO s ps q=(ks,0)->Cu st ls k (i7 q)->i6 ls q k=(xJ st q,k+(i7 q).length)
 |.mk op ta w co on gr od li args,ks,k,h,hl=>by
  obtain⟨kss,h1,h2,h3⟩:=xC h;by_cases e:op=1
  .subst e;have h0:=Tx h1 h2;subst h0;have hs:i7 (.mk 1 ta w co on gr od li [])=[ta]:=by simp[i7,gY]
   rw[hs]at hl⊢
   have:=hl.at_ 0 ta rfl;rw[Nat.add_zero]at this;rw[i6,xJ,if_pos rfl,if_pos rfl,this];rfl
  .have hs:i7 (.mk op ta w co on gr od li args)=gY args:=by simp[i7,e]
   rw[hs]at hl⊢
   rw[i6,xJ,if_neg e,if_neg e,JM h1 hl]
theorem JM{s:nY}{ps:List Int}{st ls:List (List (List VV))}:∀{qs:List Query}{kss:List (List Int)}{k:Nat},eZ s ps qs=(kss,0)->Cu st ls k (gY qs)->eO ls qs k=(NS st qs,k+(gY qs).length)
 |[],kss,k,h,_=>by simp[eO,NS,gY]
 |q::qs,kss,k,h,hl=>by
  obtain⟨k1,kss',h1,h2,rfl⟩:=jR h;rw[gY]at hl;rw[eO,NS,gY,LN h1 hl.left,JM h2 hl.right,List.length_append,Nat.add_assoc]
end
mutual
theorem ID{s:nY}{ps:List Int}:∀{q:Query}{ks:List Int},bO s ps q=(ks,0)->∀t∈i7 q,0<=t/\t<s.tables.length
 |.mk op ta w co on gr od li args,ks,h,t,ht=>by
  obtain⟨kss,h1,h2,h3⟩:=xC h;rw[i7]at ht;rcases List.mem_append.1 ht with h5|h5
  .split at h5
   .rename_i e;subst e;simp only[List.mem_singleton]at h5;subst h5;unfold iA at h3;dsimp only at h3;split at h3
    .simp[iR]at h3
    try rw[if_pos rfl]at h3
    split at h3
    .rename_i h4;exact h4
    .simp[iR]at h3
   .simp at h5
  .exact Kv h1 t h5
theorem Kv{s:nY}{ps:List Int}:∀{qs:List Query}{kss:List (List Int)},eZ s ps qs=(kss,0)->∀t∈gY qs,0<=t/\t<s.tables.length
 |[],kss,h,t,ht=>by rw[gY]at ht;simp at ht
 |q::qs,kss,h,t,ht=>by
  obtain⟨k1,kss',h1,h2,rfl⟩:=jR h;rw[gY]at ht;rcases List.mem_append.1 ht with ht|ht
  .exact ID h1 t ht
  .exact Kv h2 t ht
end
def wG(key:Int)(k:Int)(i:Nat)(v:VV):Bool:=jL v&&(v.kind==k||((v.kind==2||v.kind==1)&&decide (key<=(i:Int))))
def Cj(t:uK)(r:List VV):Bool:=decide (r.length=t.columns.length)&&(List.range r.length).all λi=>wG t.key (t.columns.getD i ⟨⟨#[]⟩,0⟩).kind i (r.getD i zeroV)
def jK(t:uK)(r:List VV):List VV:=r.take (max 0 (min t.key r.length)).toNat
def Sa(t:uK)(l:List (List VV)):Prop:=(∀r∈l,Cj t r=true)/\∀(i:Nat) r r',l[i]? =some r->l[i+1]? =some r'->dR (jK t r) (jK t r')<0
def Ix(s:nY)(st:List (List (List VV))):Prop:=∀(i:Nat) t l,s.tables[i]? =some t->st[i]? =some l->Sa t l
open Classical in
noncomputable def rW(s:nY)(st:List (List (List VV))):Int:=
 if eD s≠0 then eD s else if 512<(st.map λl=>(l.length:Int)).sum then 2 else if st.length≠s.tables.length then 80 else if Ix s st then 0 else 80
def Ze(st:List (List (List VV))):Prop:=∀l∈st,∀r∈l,∀v∈r,Np v.kind/\Np v.int
def wT(t:uK)(key row:List VV):Bool->List (List VV)->List (List VV)
 |d,[]=>if d then[]else[row]
 |d,r::l=>(if 0<=dR (jK t r) key/\d=false then[row]else[])++((if dR (jK t r) key≠0 then[r]else[])++wT t key row (d||decide (0<=dR (jK t r) key)) l)
def Ko(t:uK)(l:List (List VV)):Prop:=l.Pairwise λx y=>dR (jK t x) (jK t y)<0
theorem M4{x y z:List VV}(h1:dR x y<0)(h2:dR y z<0):dR x z<0:=by
 have:=xE x y z aC aC;rcases Int.lt_or_eq_of_le this with h|h
 .exact h
 .rw[kL]at h;subst h;have:=kM x y;omega
theorem II{t:uK}{key row:List VV}:∀{l:List (List VV)},(∀r∈l,0<dR (jK t r) key)->wT t key row true l=l
 |[],_=>rfl
 |r::l,h=>by
  have h1:=h r (List.mem_cons_self ..);rw[wT,if_neg (by simp),if_pos aC,Bool.true_or,II λx hx=>h x (List.mem_cons_of_mem _ hx)];rfl
theorem HF{t:uK}{key row z:List VV}:∀{l:List (List VV)}{d:Bool},z∈wT t key row d l->z=row\/z∈l
 |[],d,h=>by
  rw[wT]at h;split at h
  .simp at h
  .simp at h;exact .inl h
 |r::l,d,h=>by
  rw[wT]at h;rcases List.mem_append.1 h with h|h
  .split at h
   .simp at h;exact .inl h
   .simp at h
  .rcases List.mem_append.1 h with h|h
   .split at h
    .simp at h;exact .inr (by simp[h])
    .simp at h
   .exact(HF h).imp id λh=>List.mem_cons_of_mem _ h
theorem HG{t:uK}{key row:List VV}:∀{l:List (List VV)}{d:Bool},(wT t key row d l).length<=l.length+(if d then 0 else 1)
 |[],d=>by rw[wT];cases d<;>simp
 |r::l,d=>by
  have:=HG (t:=t) (key:=key) (row:=row) (l:=l) (d:=d||decide (0<=dR (jK t r) key));rw[wT];simp only[List.length_append,List.length_cons];by_cases h:0<=dR (jK t r) key
  .cases d<;>by_cases h2:dR (jK t r) key=0<;>simp[h,h2]at this⊢ <;>omega
  .cases d<;>by_cases h2:dR (jK t r) key=0<;>simp[h,h2]at this⊢ <;>omega
theorem IJ{t:uK}{row:List VV}:∀{l:List (List VV)},Ko t l->Ko t (wT t (jK t row) row false l)
 |[],_=>by rw[wT];exact List.pairwise_singleton _ _
 |r::l,h=>by
  obtain⟨h1,h2⟩:=List.pairwise_cons.1 h;rw[wT];by_cases h3:0<=dR (jK t r) (jK t row)
  .rw[if_pos ⟨h3,rfl⟩,show(false||decide (0<=dR (jK t r) (jK t row)))=true by simp[h3]];by_cases h4:dR (jK t r) (jK t row)=0
   .rw[if_neg (by simp[h4])];have e:=kL.1 h4
    rw[II λx hx=>by
     have h5:=h1 x hx;rw[e]at h5;have:=kM (jK t x) (jK t row);omega]
    exact List.pairwise_cons.2 ⟨λx hx=>by rw[<-e];exact h1 x hx,h2⟩
   .rw[if_pos h4];have h5:dR (jK t row) (jK t r)<0:=by have:=kM (jK t row) (jK t r);omega
    rw[II λx hx=>by
     have h6:=M4 h5 (h1 x hx);have:=kM (jK t x) (jK t row);omega]
    refine List.pairwise_cons.2 ⟨λx hx=>?_,h⟩;rcases List.mem_cons.1 hx with rfl|hx
    .exact h5
    .exact M4 h5 (h1 x hx)
  .rw[if_neg (by simp[h3]),if_pos aC,show(false||decide (0<=dR (jK t r) (jK t row)))=false by simp[h3]];refine List.pairwise_cons.2 ⟨λx hx=>?_,IJ h2⟩;rcases HF hx with rfl|hx
   .omega
   .exact h1 x hx
theorem NN{st:List (List (List VV))}(h:rW s st=0):eD s=0/\st.length=s.tables.length/\Ix s st/\(st.map λl=>(l.length:Int)).sum<=512:=by
 unfold rW at h;split at h
 .rename_i h1;exact absurd h h1
 .rename_i h1;split at h
  .simp at h
  .rename_i h2;split at h
   .simp at h
   .rename_i h3;split at h
    .rename_i h4;exact⟨Classical.not_not.1 h1,Classical.not_not.1 h3,h4,aC⟩
    .simp at h
theorem Vg{t:uK}{x y:List VV}(h:x.length=y.length):(jK t x).length=(jK t y).length:=by simp[jK,h]
theorem Wb{t:uK}{x y:List VV}(h:x.length=y.length)(hk:dR (jK t x) (jK t y)<0):dR x y<0:=by
 have h1:x=jK t x++x.drop (max 0 (min t.key x.length)).toNat:=(List.take_append_drop _ _).symm;have h2:y=jK t y++y.drop (max 0 (min t.key y.length)).toNat:=(List.take_append_drop _ _).symm;rw[h1,h2,FC (Vg h),if_pos aC];exact hk
theorem Ko.of{t:uK}:∀{l:List (List VV)},(∀(i:Nat) r r',l[i]? =some r->l[i+1]? =some r'->dR (jK t r) (jK t r')<0)->Ko t l
 |[],_=>List.Pairwise.nil
 |[_],_=>List.pairwise_singleton _ _
 |a::b::l,h=>by
  have h1:Ko t (b::l):=Ko.of λi r r' e1 e2=>h (i+1) r r' e1 e2;refine List.pairwise_cons.2 ⟨λx hx=>?_,h1⟩;have h0:=h 0 a b rfl rfl;rcases List.mem_cons.1 hx with rfl|hx
  .exact h0
  .exact M4 h0 ((List.pairwise_cons.1 h1).1 x hx)
theorem Ko.adj{t:uK}{l:List (List VV)}(h:Ko t l)(i:Nat)(r r':List VV)(e1:l[i]? =some r)(e2:l[i+1]? =some r'):dR (jK t r) (jK t r')<0:=by
 obtain⟨h1,rfl⟩:=List.getElem?_eq_some_iff.1 e1;obtain⟨h2,rfl⟩:=List.getElem?_eq_some_iff.1 e2;exact List.pairwise_iff_getElem.1 h i (i+1) h1 h2 aC
theorem UT{t:ByteArray}(h:t.toList=(⟨#[]⟩:ByteArray).toList):t.size<=64:=by rw[wN h];decide
theorem DR{t:ByteArray}(h:BR t=true):t.size<=64:=UT (by simp only[BR,beq_iff_eq]at h;rw[h,ByteArray.toList_eq])
theorem ND{v:VV}(h:jL v=true):v.text.size<=64:=by
 unfold jL at h;split at h
 .simp only[Bool.and_eq_true]at h;exact DR h.2
 .split at h
  .simp only[Bool.and_eq_true]at h;exact DR h.2
  .split at h
   .exact DR h
   .split at h
    .simp at h;omega
    .cases h
theorem G4(h:(fZ s ps q).2=0):eD s=0/\ps.all dO=true/\jZ q=true/\(bO s ps q).2=0:=by
 unfold fZ at h;split at h
 .rename_i h1;split at h
  .rename_i h2;split at h
   .rename_i h3;exact⟨h1,h2,h3,h⟩
   .simp[iR]at h
  .simp[iR]at h
 .rename_i h1;simp[iR]at h;exact(h1 h).elim
theorem GW{v:VV}(h:jL v=true):1<=v.kind/\v.kind<=5/\v.text.size<=64:=by
 refine⟨?_,?_,ND h⟩
 all_goals
  unfold jL at h;split at h
  .rename_i e;simp at e;omega
  .split at h
   .rename_i e;simp at e;omega
   .split at h
    .rename_i e;simp at e;omega
    .split at h
     .rename_i e;simp at e;omega
     .cases h
theorem MV{t:uK}{r:List VV}(h:Cj t r=true):r.length=t.columns.length/\∀v∈r,jL v=true:=by
 simp only[Cj,Bool.and_eq_true,decide_eq_true_eq,List.all_eq_true,List.mem_range]at h;refine⟨h.1,λv hv=>?_⟩;obtain⟨i,hi,rfl⟩:=List.mem_iff_getElem.1 hv;have h2:=h.2 i hi;simp only[wG,Bool.and_eq_true,List.getD_eq_getElem?_getD,List.getElem?_eq_getElem hi,Option.getD_some]at h2;exact h2.1
theorem WL{t:uK}{l:List (List VV)}(h8:t.columns.length<=12)(hok:Sa t l)(hv:∀r∈l,∀v∈r,Np v.kind/\Np v.int)(hl:l.length<=1000000):iI t.columns.length l:=by
 have hw:∀r∈l,r.length=t.columns.length:=λr hr=>(MV (hok.1 r hr)).1;refine⟨λr hr=>⟨by rw[hw r hr];exact h8,λv hx=>?_⟩,hw,?_,hl⟩
 .have h1:=(MV (hok.1 r hr)).2 v hx;have h2:=hv r hr v hx;exact⟨h2.1,h2.2,(GW h1).2.2⟩
 .exact(Ko.of hok.2).imp_of_mem fun{x y} hx hy h=>Wb (by rw[hw x hx,hw y hy]) h
def rN(st:List (List (List VV)))(q:Query):List (List (List VV)):=(i7 q).map λt=>st.getD t.toNat []
theorem YE{st:List (List (List VV))}{t:Int}(hst:rW s st=0)(hv:Ze st)(h0:0<=t)(h1:t<s.tables.length):iI (gT s t).length (st.getD t.toNat [])/\st.getD t.toNat []∈st:=by
 obtain⟨h2,h3,h4,h5⟩:=NN hst;have ht:t.toNat<s.tables.length:=by omega
 have hl:t.toNat<st.length:=by omega
 have e1:s.tables[t.toNat]? =some s.tables[t.toNat]:=List.getElem?_eq_getElem ht;have e2:st[t.toNat]? =some st[t.toNat]:=List.getElem?_eq_getElem hl;have e3:st.getD t.toNat []=st[t.toNat]:=by rw[List.getD_eq_getElem?_getD,e2];rfl
 have hm:st[t.toNat]∈st:=List.getElem_mem hl;have h8:=sF h2 _ (List.getElem_mem ht);have hk:(gT s t).length=s.tables[t.toNat].columns.length:=by rw[gT,if_neg aC,e1];simp
 have hle:∀{l:List (List (List VV))}{x},x∈l->((x.length:Nat):Int)<=(l.map λl=>(l.length:Int)).sum:=fun{l x}=>by
  induction l with
  |nil=>intro h;simp at h
  |cons a l ih=>
   intro h
   have h0:∀l:List (List (List VV)),0<=(l.map λl=>(l.length:Int)).sum:=λl=>by
    induction l with
    |nil=>simp
    |cons a l ih=>simp only[List.map_cons,List.sum_cons];omega
   simp only[List.map_cons,List.sum_cons];rcases List.mem_cons.1 h with rfl|h
   .have:=h0 l;omega
   .have:=ih h;omega
 have:=hle hm;rw[e3,hk];exact⟨WL aC (h4 _ _ _ e1 e2) (hv _ hm) aC,hm⟩
theorem YG{st:List (List (List VV))}{ks:List Int}{c:Nat}(hst:rW s st=0)(hv:Ze st)(hc:∀l∈st,l.length<=c)(h1:1<=c)(hq:bO s ps q=(ks,0))(hb:lV c q<=1000000):
 TC (rN st q) q 0/\(i6 (rN st q) q 0).1=xJ st q/\iI ks.length (xJ st q)/\(xJ st q).length<=1000000:=by
 have e1:∀(j:Nat)(t:Int),(i7 q)[j]? =some t->(rN st q)[0+j]? =some (st.getD t.toNat []):=λj t h=>by rw[Nat.zero_add,rN,List.getElem?_map,h];rfl
 have x:=Pt h1 (ls:=rN st q) (k:=0) hq ⟨λj t h=>⟨_,e1 j t h,by
  have ht:=ID hq t (List.mem_of_getElem? h);have:=YE hst hv ht.1 ht.2;exact⟨this.1,hc _ this.2⟩⟩⟩ hb
 have y:=LN (st:=st) (ls:=rN st q) (k:=0) hq ⟨λj t h=>by rw[List.getD_eq_getElem?_getD,e1 j t h];rfl⟩;have e2:(i6 (rN st q) q 0).1=xJ st q:=by rw[y]
 refine⟨x.ok,e2,by rw[<-e2];exact x.rel,?_⟩;rw[<-e2];exact Nat.le_trans x.bnd hb
def Y1(s:Sl):CV:=.val (.agg ⟨[.slice s.a s.len s.cap]⟩)
def Yq:Vc.Spec:=λcvs m h K=>∃v s,cvs=[aS v,cI 3]/\fQ h s v/\K (cI (eD s)) m h
def rR(st:List (List (List VV))):Int:=(st.map λl=>(l.length:Int)).sum
def Tj:Vc.Spec:=λcvs m h K=>∃s st,cvs=[Y1 s]/\Leaves h s st/\st.length<=1000/\K (cI (rR st)) m h
def TP(s:nY)(t:Int)(r:List VV):Bool:=sR s t&&(match s.tables[t.toNat]? with|some tb=>Cj tb r|none=>false)
def Fe(s:nY)(t:Int)(r:List VV):List VV:=match(if sR s t then s.tables[t.toNat]? else none)with|some tb=>jK tb r|none=>[]
def Ys:Vc.Spec:=λcvs m h K=>∃v s t sl r,cvs=[aS v,cI t,cS sl,cI 3]/\fQ h s v/\cK h sl r/\K (cB (TP s t r)) m h
def S8:Vc.Spec:=λcvs m h K=>∃v s t sl r,cvs=[aS v,cI t,cS sl]/\fQ h s v/\cK h sl r/\∀s',cK h s' (Fe s t r)->K (cS s') m h
def Ht:Vc.Spec:=λcvs m h K=>∃v s sl st,cvs=[aS v,cI 3,Y1 sl]/\fQ h s v/\Leaves h sl st/\st.length<=1000/\K (cI (rW s st)) m h
noncomputable def Xh:Ctx:=dN [(104,Y3),(105,JV)] [(7,{A:=Nat×bP×Sl×MH×PH,st:=λ⟨i,t,s,m,h⟩=>cJ 95 99 [(3,iv 3),(9,.at (.ptr 9 0)),(41,sv s),(42,iv s.len),(43,iv i)] [(9,.cells 86 (t.enc.map .val))] m h})]
 [(12,{A:=Nat×bP×VV×Sl×Bool×MH×PH,st:=λ⟨i,t,v,s,b,m,h⟩=>cJ 95 99 [(3,iv 3),(9,.at (.ptr 9 0)),(10,iv i),(11,.at (.ptr 11 0)),(12,bv b),(41,sv s),(42,iv s.len),(43,iv i)] [(9,.cells 86 (t.enc.map .val)),(11,.cells 27 (v.enc.map .val))] m h}),
  (13,{A:=Nat×bP×VV×Sl×Bool×Bool×MH×PH,st:=λ⟨i,t,v,s,b,c,m,h⟩=>cJ 95 99 [(3,iv 3),(9,.at (.ptr 9 0)),(10,iv i),(11,.at (.ptr 11 0)),(12,bv b),(13,bv c),(41,sv s),(42,iv s.len),(43,iv i)] [(9,.cells 86 (t.enc.map .val)),(11,.cells 27 (v.enc.map .val))] m h})] [] false
noncomputable def Xi(s:Sl)(m:MH)(h:PH):Ctx:=dN [] [(3,{A:=Nat×Int,st:=λ⟨i,n⟩=>cJ 19 20 [(3,iv n),(7,sv s),(8,iv s.len),(9,iv i)] [] m h})] [] [] false
noncomputable def f56_ctx(v:bX)(s:Sl)(m:MH)(h:PH):Ctx:=dN [(82,Yq),(83,Tj),(84,Ys),(85,S8),(71,Hw)]
 [(9,{A:=Nat,st:=λi=>cJ 69 72 [(1,iv 3),(3,.at (.ptr 3 0)),(29,sv s),(30,iv s.len),(31,iv i)] [(3,.cells 43 (v.enc.map .val))] m h}),
  (12,{A:=Nat×Sl×Nat,st:=λ⟨i,u,j⟩=>cJ 69 72 [(1,iv 3),(3,.at (.ptr 3 0)),(8,iv i),(9,sv u),(29,sv s),(30,iv s.len),(31,iv i),(36,sv u),(37,iv u.len),(38,iv j)] [(3,.cells 43 (v.enc.map .val))] m h})] [] [] false
def OL(v:bX)(m:MH)(h:PH)(K:CV->MH->PH->Prop):Prop:=
  iU (λv1 s=>aA (kF (bI v)=kF (bI v1)) (fQ h s v1) (eA (eD s) 0 (K (eK (eD s)) m h) (K (eK 0) m h)))
def OK(s:Sl)(m:MH)(h:PH)(K:CV->MH->PH->Prop):Prop:=
  ∃(I:Nat×Int->Prop)(m1:Nat×Int->Nat),(∃(x:Nat×Int),aA (I x) (cM 0 x.2) (aA (aJ s) (bJ s) (aH (bE x.1) (m=m) (h=h) True)))/\∀(x:Nat×Int),I x->bA (↑x.1:Int) (aG s) (aW (λb o=>aH (aX s.a b o) (0<=(↑x.1:Int)) ((↑x.1:Int)<aG s) (∃(y:Sl),aM m h b (bL o x.1 1) (aR y)/\∃(x1:Nat×Int),aA (I x1) (m1 x1<m1 x) (aA (cM (aT (x.2+aG y)) x1.2) (aJ s) (aA (bJ s) (fY (aT ((↑x.1:Int)+1))=bZ x1.1) (aA (m=m) (h=h) True)))))) (K (eK x.2) m h)
abbrev lM:Prop:=eQ (fY 3)
noncomputable abbrev lP(a:Nat×bP×Sl×MH×PH):Sl×MH×PH:=a.2.2
noncomputable abbrev oN(a:Nat×bP×Sl×MH×PH):Sl:=(lP a).1
noncomputable abbrev BY(a:Nat×bP×Sl×MH×PH):bP:=a.2.1
noncomputable abbrev E0(a:Nat×bP×VV×Sl×Bool×MH×PH):Bool:=a.2.2.2.2.1
noncomputable abbrev vY(a:Nat×bP×VV×Sl×Bool×MH×PH):Sl:=a.2.2.2.1
noncomputable abbrev FZ(a:Nat×bP×VV×Sl×Bool×MH×PH):bP:=a.2.1
noncomputable abbrev vZ(a:Nat×bP×VV×Sl×Bool×MH×PH):MH×PH:=a.2.2.2.2.2
noncomputable abbrev rG(a:Nat×bP×VV×Sl×Bool×Bool×MH×PH):Sl:=a.2.2.2.1
noncomputable abbrev BX(a:Nat×bP×VV×Sl×Bool×Bool×MH×PH):bP:=a.2.1
noncomputable abbrev yB(a:Nat×bP×VV×Sl×Bool×Bool×MH×PH):Nat->Nat->Option Value:=a.2.2.2.2.2.2.2
noncomputable abbrev CU(a:Nat×bP×VV×Sl×Bool×Bool×MH×PH):Nat->Option Obj:=a.2.2.2.2.2.2.1
attribute [push_cast] lM lP oN BY E0 vY FZ vZ rG BX yB CU
def OJ(v:bX)(t:Int)(s:Sl)(m:MH)(h:PH)(K:CV->MH->PH->Prop):Prop:=
  iU (λv1 s1=>∃(t1:Int),aA (bD (jI (bI v)) t=bD (jI (bI v1)) t1) (fQ h s1 v1) (gM (sR s1 t1) (K aY m h) (CF v t (λb o=>∃(y:bP),aM m h b (fR o t 5) (tS y)/\eA (aG s) (Av y) (K aY m h) (∃(I:Nat×bP×Sl×MH×PH->Prop)(m1:Nat×bP×Sl×MH×PH->Nat),(∃(x:Nat×bP×Sl×MH×PH),aA (I x) lM (aA (eP 9) (bF s (oN x)) (aA (cO s (oN x)) (bE x.1) (aA (oQ 86 (eT y)=oQ 86 (eT (BY x))) (bK m (lP x).2) (bT h (dM (lP x)))))))/\∀(x:Nat×bP×Sl×MH×PH),I x->bA (↑x.1:Int) (aG (oN x)) (aW (λb1 o1=>aH (aX (oN x).a b1 o1) (0<=(↑x.1:Int)) ((↑x.1:Int)<aG (oN x)) (∃(y1:VV),aM (iM (lP x)) (dM (lP x)) b1 (bL o1 x.1 3) y1.enc/\∃(v2:VV),pN y1=
 pN v2/\gM (jL v2) (K aY (iM (lP x)) (dM (lP x))) (∃(I1:Nat×bP×VV×Sl×Bool×MH×PH->Prop),dL y1.kind 2 (∃(x1:Nat×bP×VV×Sl×Bool×MH×PH),aA (I1 x1) lM (aA (eP 9) (cF x.1 x1.1) (aA (eP 11) (gP (decide ((↑x.1:Int)>=(BY x).key)) (E0 x1)) (aA (bF (oN x) (vY x1)) (cO (oN x) (vY x1)) (aA (cF x.1 x1.1) (oQ 86 (eT (BY x))=oQ 86 (eT (FZ x1))) (aA (oL 27 y1.enc=oL 27 x1.2.2.1.enc) (bK (iM (lP x)) (vZ x1)) (bT (dM (lP x)) (vZ x1).2))))))) (∃(x1:Nat×bP×VV×Sl×Bool×MH×PH),aA (I1 x1) lM (aA (eP 9) (cF x.1 x1.1) (aA (eP 11) (Ay (E0 x1)) (aA (bF (oN x) (vY x1)) (cO (oN x) (vY x1)) (aA (cF x.1 x1.1) (oQ 86 (eT (BY x))=oQ 86 (eT
 (FZ x1))) (aA (oL 27 y1.enc=oL 27 x1.2.2.1.enc) (bK (iM (lP x)) (vZ x1)) (bT (dM (lP x)) (vZ x1).2)))))))/\∀(x1:Nat×bP×VV×Sl×Bool×MH×PH),I1 x1->∃(I2:Nat×bP×VV×Sl×Bool×Bool×MH×PH->Prop),dL x1.2.2.1.kind 1 (∃(x2:Nat×bP×VV×Sl×Bool×Bool×MH×PH),aA (I2 x2) lM (aA (eP 9) (cF x1.1 x2.1) (aA (eP 11) (gP (E0 x1) x2.2.2.2.2.1) (aA (gP (decide ((↑x1.1:Int)>=(FZ x1).key)) x2.2.2.2.2.2.1) (bF (vY x1) (rG x2)) (aA (cO (vY x1) (rG x2)) (cF x1.1 x2.1) (aA (oQ 86 (eT (FZ x1))=oQ 86 (eT (BX x2))) (oL 27 x1.2.2.1.enc=oL 27 x2.2.2.1.enc) (cA (bK (vZ x1).1 x2.2.2.2.2.2.2) (vZ x1).2 (yB x2)))))))) (∃(x2:Nat×bP×VV×Sl×Bool×Bool×MH×PH),aA (I2 x2) lM (aA
 (eP 9) (cF x1.1 x2.1) (aA (eP 11) (gP (E0 x1) x2.2.2.2.2.1) (aA (Ay x2.2.2.2.2.2.1) (bF (vY x1) (rG x2)) (aA (cO (vY x1) (rG x2)) (cF x1.1 x2.1) (aA (oQ 86 (eT (FZ x1))=oQ 86 (eT (BX x2))) (oL 27 x1.2.2.1.enc=oL 27 x2.2.2.1.enc) (cA (bK (vZ x1).1 x2.2.2.2.2.2.2) (vZ x1).2 (yB x2))))))))/\∀(x2:Nat×bP×VV×Sl×Bool×Bool×MH×PH),I2 x2->aW (λb2 o2=>aH (aX (BX x2).columns.a b2 o2) (0<=(↑x2.1:Int)) ((↑x2.1:Int)<aG (BX x2).columns) (∃(y2:Int),aM (CU x2) (yB x2) b2 (bL o2 x2.1 2+1) (bN y2)/\eA x2.2.2.1.kind y2 (gM x2.2.2.2.2.1 (gM x2.2.2.2.2.2.1 (K aY (CU x2) (yB x2)) (∃(x3:Nat×bP×Sl×MH×PH),aA (I x3) (m1 x3<m1 x) (aA lM (eP 9) (aA (bF (rG x2) (oN
 x3)) (cO (rG x2) (oN x3)) (aA (fY (aT ((↑x2.1:Int)+1))=bZ x3.1) (oQ 86 (eT (BX x2))=oQ 86 (eT (BY x3))) (cA (bK (CU x2) (lP x3).2) (yB x2) (dM (lP x3)))))))) (∃(x3:Nat×bP×Sl×MH×PH),aA (I x3) (m1 x3<m1 x) (aA lM (eP 9) (aA (bF (rG x2) (oN x3)) (cO (rG x2) (oN x3)) (aA (fY (aT ((↑x2.1:Int)+1))=bZ x3.1) (oQ 86 (eT (BX x2))=oQ 86 (eT (BY x3))) (cA (bK (CU x2) (lP x3).2) (yB x2) (dM (lP x3)))))))) (∃(x3:Nat×bP×Sl×MH×PH),aA (I x3) (m1 x3<m1 x) (aA lM (eP 9) (aA (bF (rG x2) (oN x3)) (cO (rG x2) (oN x3)) (aA (fY (aT ((↑x2.1:Int)+1))=bZ x3.1) (oQ 86 (eT (BX x2))=oQ 86 (eT (BY x3))) (cA (bK (CU x2) (lP x3).2)
 (yB x2) (dM (lP x3))))))))))))) (K fO (iM (lP x)) (dM (lP x))))))))
def OI(v:bX)(t:Int)(s:Sl)(m:MH)(h:PH)(K:CV->MH->PH->Prop):Prop:=
  bA t 0 (K lU m h) (fW t (gO v) (K lU m h) (aW (λb o=>aH (aX (oU v) b o) (0<=t) (t<aG v.tables) (∃(y:Int),aH (aM m h b (fR o t 5+2) (bN y)) (0<=ite (oO s y>0) (oO s y) 0) (ite (oO s y>0) (oO s y) 0<=(↑s.cap:Int)) (K (CV.val (Value.slice s.a (ite (oO s y>0) (oO s y) 0).toNat s.cap)) m h)))))
noncomputable abbrev kY(a:Nat×Sl×Nat):Sl:=a.2.1
noncomputable abbrev CW(a:Nat×Sl×Nat):Int:=aT ((↑a.2.2:Int)-1)
attribute [push_cast] kY CW
def f56_nice(v:bX)(s:Sl)(m:MH)(h:PH)(K:CV->MH->PH->Prop):Prop:=
  iU (λv1 s1=>aA (bD (jI (bI v)) 3=bD (jI (bI v1)) 3) (fQ h s1 v1) (eA (eD s1) 0 (K (eK (eD s1)) m h) (w8 (λs2 s3=>aH (kF (aR s)=kF (aR s2)) (Leaves h s2 s3) (jG s3.length) (cW (decide (rR s3>512)) (K (eK 2) m h) (aG s !=gO v) (K (eK 80) m h) (mT (λI x=>aA (I x) lM (aA (eP 3) (aJ s) (aA (bJ s) (bE x) (aA (bR v) (m=m) (bT h h))))) (λI m1 x=>I x->bA (↑x:Int) (aG s) (aW (λb o=>aH (aX s.a b o) (0<=(↑x:Int)) ((↑x:Int)<aG s) (∃(y:Sl),aM m h b (bL o x 1) (aR y)/\∃(I1:Nat×Sl×Nat->Prop)(m2:Nat×Sl×Nat->Nat),(∃(x1:Nat×Sl×Nat),aA (I1 x1) lM (aA (eP 3) (cF x x1.1) (aA (bF y (kY x1)) (aJ s) (aA (bJ s) (cF x x1.1) (aA (bF y (kY x1)) (cO y
 (kY x1)) (aA (bE x1.2.2) (bR v) (cA (m=m) h h)))))))/\∀(x1:Nat×Sl×Nat),I1 x1->bA (↑x1.2.2:Int) (aG (kY x1)) (aW (λb1 o1=>aH (aX (kY x1).a b1 o1) (0<=(↑x1.2.2:Int)) ((↑x1.2.2:Int)<aG (kY x1)) (∃(y1:Sl),aM m h b1 (bL o1 x1.2.2 1) (aR y1)/\iU (λv2 s4=>∃(t:Int),nB (λs5 r=>aH (cL (bI v) (eK (↑x1.1:Int)::fL y1 3)=cL (bI v2) (eK t::fL s5 3)) (fQ h s4 v2) (cK h s5 r) (cW (!(TP s4 t r)) (K (eK 80) m h) (decide ((↑x1.2.2:Int)>0)) (aW (λb2 o2=>aH (aX (kY x1).a b2 o2) (0<=CW x1) (CW x1<aG (kY x1)) (∃(y2:Sl),aM m h b2 (fR o2 (CW x1) 1) (aR y2)/\iU (λv3 s6=>∃(t1:Int),nB (λs7 r1=>aH (cL (bI v) (dZ (eK (↑x1.1:Int)) (pD y2))=cL (bI v3) (dZ
 (eK t1) (pD s7))) (fQ h s6 v3) (cK h s7 r1) (∀(s8:Sl),cK h s8 (Fe s6 t1 r1)->aZ h b2 (fR o2 (CW x1) 1) (aR y2)/\iU (λv4 s9=>∃(t2:Int),nB (λa r2=>aH (cL (bI v) (dZ (eK (↑x1.1:Int)) (pD y1))=cL (bI v4) (dZ (eK t2) (pD a))) (fQ h s9 v4) (cK h a r2) (∀(a1:Sl),cK h a1 (Fe s9 t2 r2)->aZ h b2 (fR o2 (CW x1) 1) (aR y2)/\CO s8 a1 h (λa2 b3=>fW (dR a2 b3) 0 (K (eK 80) m h) (∃(x2:Nat×Sl×Nat),aA (I1 x2) (m2 x2<m2 x1) (aA lM (eP 3) (aA (cF x1.1 x2.1) (bF (kY x1) (kY x2)) (aA (aJ s) (bJ s) (aA (cF x1.1 x2.1) (bF (kY x1) (kY x2)) (aA (cO (kY x1) (kY x2)) (fY (aT ((↑x1.2.2:Int)+1))=bZ x2.2.2) (aH (bR v) (m=m) (h=h) True))))))))))))))))) (∃(x2:Nat×Sl×Nat),aA (I1 x2)
 (m2 x2<m2 x1) (aA lM (eP 3) (aA (cF x1.1 x2.1) (bF (kY x1) (kY x2)) (aA (aJ s) (bJ s) (aA (cF x1.1 x2.1) (bF (kY x1) (kY x2)) (aA (cO (kY x1) (kY x2)) (fY (aT ((↑x1.2.2:Int)+1))=bZ x2.2.2) (aH (bR v) (m=m) (h=h) True))))))))))))) (∃(x2:Nat),aA (I x2) (m1 x2<m1 x) (aA lM (eP 3) (aA (aJ s) (bJ s) (aA (fY (aT ((↑x1.1:Int)+1))=bZ x2) (bR v) (cA (m=m) h h)))))))) (K (eK 0) m h))))))))
theorem cK.cut{a:Option Addr}{len cap:Nat}{r:List VV}(x:cK h ⟨a,len,cap⟩ r){n:Nat}(hn:n<=r.length):cK h ⟨a,n,cap⟩ (r.take n):=by
 obtain⟨⟨vs,h1,h2,h3⟩,h4⟩:=x;refine⟨⟨vs.take n,by rw[List.map_take];exact cN.cut h1 n (by rw[List.length_map];omega),by rw[List.length_take,List.length_take,h2],λi x hx=>?_⟩,by rw[List.length_take];omega⟩;rw[List.getElem?_take]at hx;split at hx
 .rename_i hi;obtain⟨v,e1,e2⟩:=h3 i x hx;exact⟨v,by rw[List.getElem?_take,if_pos hi];exact e1,e2⟩
 .cases hx
theorem YU{v:bX}(hs:fQ h s v)(hK:K (cI (eD s)) m h):OL v m h K:=
 ⟨v,s,rfl,hs,aB (λ_=>hK) (λe=>by rw[show eD s=0 by simpa using e]at hK;exact hK)⟩
theorem T0:Sound Tryz.prog 82 Yq:=by
 refine hX Tryz.func82 ?_;rintro cvs m h K ⟨v,s,rfl,hs,hK⟩;refine⟨dN [(79,Ac)] [] [] [] false,rfl,aD KX aF,OL v m h K,by kernel_rfl,?_⟩;exact YU hs hK
theorem Leaves.lens{s:Sl}{st:List (List (List VV))}(hl:Leaves h s st){l:List (List VV)}(hm:l∈st):l.length<=502633886983:=by
 obtain⟨i,hi,rfl⟩:=List.mem_iff_getElem.1 hm;obtain⟨_,_,_,_,_,hr⟩:=bY.at hl (List.getElem?_eq_getElem hi);exact hr.len
theorem Cn:∀{l:List (List (List VV))},(∀x∈l,x.length<=502633886983)->0<=rR l/\rR l<=(l.length:Int)*502633886983
 |[],_=>by simp[rR]
 |a::l,h=>by
  have h1:=h a (List.mem_cons_self ..);have h2:=Cn (l:=l) λx hx=>h x (List.mem_cons_of_mem _ hx);simp only[rR,List.map_cons,List.sum_cons,List.length_cons]at h2⊢
  omega
theorem RL{st:List (List (List VV))}{l:List (List VV)}(h:st[i]? =some l):rR (st.take (i+1))=rR (st.take i)+(l.length:Int):=by
 rw[List.take_add_one,h];simp[rR]
theorem TZ:Sound Tryz.prog 83 Tj:=by
 refine hX Tryz.func83 ?_;rintro cvs m h K ⟨s,st,rfl,hl,hn,hK⟩;refine⟨Xi s m h,rfl,aF,OK s m h K,by kernel_rfl,?_⟩;dsimp only[OK,push_cast];have hsl:=bY.slen hl;refine⟨λz=>z.1<=st.length/\z.2=rR (st.take z.1),λz=>st.length-z.1,⟨(0,0),⟨by simp,by simp[rR]⟩,MT⟩,?_⟩;rintro⟨i,n⟩ ⟨hi,hn2⟩;dsimp only at hi hn2⊢
 subst hn2;refine aE (λhlt=>?_) (λhge=>?_)
 .obtain⟨l,hx⟩:=fJ hsl hlt;obtain⟨b,o,u,ea,rd,hr⟩:=bY.at hl hx;have hul:=bY.slen hr;have hb:=Cn (l:=st.take (i+1)) λx hx=>hl.lens (List.mem_of_mem_take hx);have hb2:=(Cn (l:=st.take i) λx hx=>hl.lens (List.mem_of_mem_take hx)).1;have hs:=RL hx;rw[List.length_take]at hb;refine⟨b,o,ea,aC,aC,u,.imm rd,(i+1,rR (st.take (i+1))),⟨by show i+1<=st.length;omega,rfl⟩,by show st.length-(i+1)<st.length-i;omega,?_⟩;rw[dJ aC aC,hul, <-hs];exact MT
 .rw[List.take_of_length_le aC];exact hK
theorem Ci{t:uK}{r:List VV}:Cj t r=true↔r.length=t.columns.length/\∀i,i<r.length->wG t.key (t.columns.getD i ⟨⟨#[]⟩,0⟩).kind i (r.getD i zeroV)=true:=by
 simp only[Cj,Bool.and_eq_true,decide_eq_true_eq,List.all_eq_true,List.mem_range]
theorem Ow{t:Int}{r:List VV}{tb:uK}(ht:s.tables[t.toNat]? =some tb)(h:sR s t=true):TP s t r=Cj tb r:=by
 simp only[TP,h,ht,Bool.true_and]
theorem TY:Sound Tryz.prog 84 Ys:=by
 refine hX Tryz.func84 ?_;rintro cvs m h K ⟨v,s,t,sl,r,rfl,hs,hv,hK⟩;refine⟨Xh,rfl,aD JL (aD JK aF),OJ v t sl m h K,by kernel_rfl,?_⟩;dsimp only[OJ,push_cast];have htl:=hs.tables.slen;have hrl:=bY.slen hv;refine⟨v,s,t,rfl,hs,aB (λe=>?_) (λe=>?_)⟩
 .have e:sR s t=false:=by simpa using e
  simp only[TP,e,Bool.false_and]at hK;exact hK
 have e:sR s t=true:=by simpa using e
 have he:=e;simp only[sR,Bool.and_eq_true,decide_eq_true_eq]at he;obtain⟨tb,htb⟩:∃tb,s.tables[t.toNat]? =some tb:=⟨_,List.getElem?_eq_getElem aC⟩
 obtain⟨b,o,y,ea,rd,hy⟩:=bY.at hs.tables htb;rw[Ow htb e]at hK;have hcl:=bY.slen hy.columns;have hk:=hy.key;refine⟨b,o,ea,he.1,aC,y,.imm rd,aB (λe1=>?_) (λe1=>?_)⟩
 .have:Cj tb r=false:=by
   cases e2:Cj tb r with
   |false=>rfl
   |true=>
    have:=(Ci.1 e2).1;simp at e1;omega
  rw[this]at hK;exact hK
 have hwl:r.length=tb.columns.length:=by simp at e1;omega
 have bad:∀i,i<r.length->wG tb.key (tb.columns.getD i ⟨⟨#[]⟩,0⟩).kind i (r.getD i zeroV)=false->K (cB false) m h:=λi hi hf=>by
  have:Cj tb r=false:=by
   cases e2:Cj tb r with
   |false=>rfl
   |true=>rw[(Ci.1 e2).2 i hi]at hf;cases hf
  rw[this]at hK;exact hK
 refine⟨λz=>z.2.1=y/\z.2.2.1=sl/\z.2.2.2.1=m/\z.2.2.2.2=h/\z.1<=r.length/\∀j,j<z.1->wG tb.key (tb.columns.getD j ⟨⟨#[]⟩,0⟩).kind j (r.getD j zeroV)=true,λz=>r.length-z.1,⟨(0,y,sl,m,h),⟨rfl,rfl,rfl,rfl,by simp,λj hj=>by simp at hj⟩,MT⟩,?_⟩;rintro⟨i,y',sl',m',h'⟩ ⟨e1,e2,e3,e4,hi,hall⟩;dsimp only at e1 e2 e3 e4 hi hall⊢
 subst e1 e2 e3 e4;refine aE (λhlt=>?_) (λhge=>?_)
 .have hil:i<r.length:=by omega
  have hx:r[i]? =some (r.getD i zeroV):=by rw[List.getD_eq_getElem?_getD,List.getElem?_eq_getElem hil];rfl
  obtain⟨b2,o2,x,ea2,rd2,hxx⟩:=bY.at hv hx;subst hxx;have hc:tb.columns[i]? =some (tb.columns.getD i ⟨⟨#[]⟩,0⟩):=by rw[List.getD_eq_getElem?_getD,List.getElem?_eq_getElem aC];rfl
  obtain⟨b3,o3,c,ea3,rd3,hcc⟩:=bY.at hy.columns hc;have badi:=bad i hil
  have alli:wG tb.key (tb.columns.getD i ⟨⟨#[]⟩,0⟩).kind i (r.getD i zeroV)=true->∀j,j<i+1->wG tb.key (tb.columns.getD j ⟨⟨#[]⟩,0⟩).kind j (r.getD j zeroV)=true:=λhf j hj=>by
   by_cases e5:j=i
   .rw[e5];exact hf
   .exact hall j aC
  generalize r.getD i zeroV=x at badi alli rd2 hx;rw[hcc]at badi alli;have go:wG tb.key c.kind i x=true->∃z:Nat×bP×Sl×MH×PH,(z.2.1=y'/\z.2.2.1=sl'/\z.2.2.2.1=m'/\z.2.2.2.2=h'/\z.1<=r.length/\∀j,j<z.1->wG tb.key (tb.columns.getD j ⟨⟨#[]⟩,0⟩).kind j (r.getD j zeroV)=true)/\r.length-z.1<r.length-i/\z=(i+1,y',sl',m',h'):=λhf=>⟨_,⟨rfl,rfl,rfl,rfl,by show i+1<=r.length;omega,alli hf⟩,by show r.length-(i+1)<r.length-i;omega,rfl⟩
  refine⟨b2,o2,ea2,aC,aC,x,.imm rd2,x,rfl,aB (λev=>badi ?_) (λev=>?_)⟩
  .have ev:jL x=false:=by simpa using ev
   simp[wG,ev]
  have ev:jL x=true:=by simpa using ev
  refine⟨λz=>z=(i,y',x,sl',(x.kind==2&&decide ((i:Int)>=y'.key)),m',h'),aB (λe2=>⟨_,rfl,by rw[e2];exact MT⟩) (λe2=>⟨_,rfl,by rw[e2];exact MT⟩),?_⟩;rintro _ rfl;dsimp only;refine⟨λz=>z=(i,y',x,sl',(x.kind==2&&decide ((i:Int)>=y'.key)),(x.kind==1&&decide ((i:Int)>=y'.key)),m',h'),aB (λe2=>⟨_,rfl,by rw[e2];exact MT⟩) (λe2=>⟨_,rfl,by rw[e2];exact MT⟩),?_⟩;rintro _ rfl;dsimp only
  have hfv:wG tb.key c.kind i x=(x.kind==c.kind||((x.kind==2&&decide ((i:Int)>=y'.key))||(x.kind==1&&decide ((i:Int)>=y'.key)))):=by
   rw[hk];simp only[wG,ev,Bool.true_and,ge_iff_le,Bool.and_or_distrib_right]
  generalize hb1:(x.kind==2&&decide ((i:Int)>=y'.key))=B1 at hfv⊢
  generalize hb2:(x.kind==1&&decide ((i:Int)>=y'.key))=B2 at hfv⊢
  refine⟨b3,o3,ea3,aC,aC,c.kind,.imm (aZ.part rd3 1 1),aB (λe3=>aB (λe4=>aB (λe5=>badi ?_) (λe5=>?_)) (λe4=>?_)) (λe3=>?_)⟩
  .have e3:(x.kind==c.kind)=false:=by simpa using e3
   have e4:B1=false:=by simpa using e4
   have e5:B2=false:=by simpa using e5
   rw[hfv,e3,e4,e5];rfl
  all_goals
   obtain⟨_,g1,g2,rfl⟩:=go (by rw[hfv];simp_all);refine⟨_,g1,g2,?_⟩;dsimp only;rw[kN (by have:=bY.len hv;omega)];exact MT
 .have:Cj tb r=true:=Ci.2 ⟨hwl,λj hj=>hall j aC⟩;rw[this]at hK;exact hK
theorem TX:Sound Tryz.prog 85 S8:=by
 refine hX Tryz.func85 ?_;rintro cvs m h K ⟨v,s,t,sl,r,rfl,hs,hv,hK⟩;refine⟨dN [] [] [] [] false,rfl,aF,OI v t sl m h K,by kernel_rfl,?_⟩;dsimp only[OI,push_cast];have htl:=hs.tables.slen;have hrl:=bY.slen hv;have none_:sR s t=false->K lU m h:=λe=>hK ⟨none,0,0⟩ (by simp only[Fe,e];exact bY.nil _ _ _ _);refine aE (λh1=>none_ (by simp[sR];omega)) (λh1=>aE (λh2=>none_ (by simp[sR];omega)) (λh2=>?_));have e:sR s t=true:=by simp[sR];omega
 obtain⟨tb,htb⟩:∃tb,s.tables[t.toNat]? =some tb:=⟨_,List.getElem?_eq_getElem aC⟩
 obtain⟨b,o,y,ea,rd,hy⟩:=bY.at hs.tables htb;have hk:=hy.key;obtain⟨a,len,cap⟩:=sl;have hcap:len<=cap:=by obtain⟨vs,h5,_⟩:=hv.ex;exact h5.cap
 have hrl:len=r.length:=hrl
 have hmm:(if(if(len:Int)<y.key then(len:Int)else y.key)>0 then(if(len:Int)<y.key then(len:Int)else y.key)else 0)=max 0 (min tb.key r.length):=by
  rw[<-hk];split<;>split<;>omega
 refine⟨b,o,ea,aC,aC,y.key,.imm (aZ.part rd 2 1),?_⟩;dsimp only;rw[hmm];refine⟨aC,aC,hK ⟨a,(max 0 (min tb.key r.length)).toNat,cap⟩ ?_⟩;have e2:Fe s t r=r.take (max 0 (min tb.key r.length)).toNat:=by simp only[Fe,e,if_true,htb];rfl
 rw[e2];exact hv.cut aC
theorem C7{t:Nat}{tb:uK}(h:s.tables[t]? =some tb)(r:List VV):Fe s t r=jK tb r:=by
 have:t<s.tables.length:=(List.getElem?_eq_some_iff.1 h).1;have e:sR s (t:Int)=true:=by simp[sR];omega
 simp only[Fe,e,if_true,Int.toNat_natCast,h]
theorem Sy{t:Nat}{tb:uK}(h:s.tables[t]? =some tb)(r:List VV):TP s t r=Cj tb r:=by
 have:t<s.tables.length:=(List.getElem?_eq_some_iff.1 h).1;have e:sR s (t:Int)=true:=by simp[sR];omega
 exact Ow (by simpa using h) e
theorem f56_sound:Sound Tryz.prog 56 Ht:=by
 refine hX Tryz.func56 ?_;rintro cvs m h K ⟨v,s,sl,st,rfl,hs,hl,hn,hK⟩;refine⟨f56_ctx v sl m h,rfl,aD T0 (aD TZ (aD TY (aD TX (aD C9 aF)))),f56_nice v sl m h K,by kernel_rfl,?_⟩;dsimp only[f56_nice,push_cast];have htl:=hs.tables.slen;have hsl:=bY.slen hl;unfold rW at hK;refine⟨v,s,rfl,hs,aB (λe=>?_) (λe=>⟨sl,st,rfl,hl,hn,aE (λe2=>?_) (λe2=>aB (λe3=>?_) (λe3=>?_))⟩)⟩
 .rw[if_pos (by simpa using e)]at hK;exact hK
 all_goals rw[if_neg (by simpa using e)]at hK
 .rw[if_pos (by unfold rR at e2;omega)]at hK;exact hK
 all_goals rw[if_neg (by unfold rR at e2;omega)]at hK
 .rw[if_pos (by simp at e3;omega)]at hK;exact hK
 have hlen:st.length=s.tables.length:=by simp at e3;omega
 rw[if_neg (by simp[hlen])]at hK;have bad:¬Ix s st->K (cI 80) m h:=λhb=>by rw[if_neg hb]at hK;exact hK
 refine⟨λi=>i<=st.length/\∀(j:Nat) t l,j<i->s.tables[j]? =some t->st[j]? =some l->Sa t l,λi=>st.length-i,⟨0,⟨by simp,λj t l hj=>by omega⟩,MT⟩,?_⟩;rintro i ⟨hi,hall⟩;refine aE (λhlt=>?_) (λhge=>?_)
 .obtain⟨l,hx⟩:=fJ hsl hlt;obtain⟨b,o,u,ea,rd,hr⟩:=bY.at hl hx;have hul:=bY.slen hr;have hll:=bY.len hr;obtain⟨tb,htb⟩:∃tb,s.tables[i]? =some tb:=⟨_,List.getElem?_eq_getElem aC⟩
  have badi:¬Sa tb l->K (cI 80) m h:=λhb=>bad λhok=>hb (hok i tb l htb hx);refine⟨b,o,ea,aC,aC,u,.imm rd,λz=>z.1=i/\z.2.1=u/\z.2.2<=l.length/\(∀k r,k<z.2.2->l[k]? =some r->Cj tb r=true)/\∀k r r',k+1<z.2.2->l[k]? =some r->l[k+1]? =some r'->dR (jK tb r) (jK tb r')<0,λz=>l.length-z.2.2,⟨(i,u,0),⟨rfl,rfl,by simp,λk r hk=>by simp at hk,λk r r' hk=>by simp at hk⟩,MT⟩,?_⟩;rintro⟨i',u',j⟩ ⟨e1,e2,hj,hfit,hkey⟩;dsimp only at e1 e2 hj hfit hkey⊢
  subst e1 e2;refine aE (λhlt2=>?_) (λhge2=>?_)
  .obtain⟨r,hxr⟩:=fJ hul hlt2;obtain⟨b2,o2,w,ea2,rd2,hv⟩:=bY.at hr hxr;refine⟨b2,o2,ea2,aC,aC,w,.imm rd2,v,s,i',w,r,rfl,hs,hv,aB (λef=>badi λhok=>?_) (λef=>?_)⟩
   .rw[Sy htb,hok.1 r (List.mem_of_getElem? hxr)]at ef;cases ef
   have hf:Cj tb r=true:=by rw[Sy htb]at ef;simpa using ef
   have hfit':∀k r,k<j+1->l[k]? =some r->Cj tb r=true:=λk r' hk hr'=>by
    by_cases e5:k=j
    .subst e5;rw[hxr]at hr';cases hr';exact hf
    .exact hfit k r' aC hr'
   refine aE (λhj0=>?_) (λhj0=>?_)
   .have hw:IntKind.i64.wrap ((j:Int)-1)=((j-1:Nat):Int):=by rw[dJ aC aC];omega
    obtain⟨r0,hx0⟩:∃r0,l[j-1]? =some r0:=⟨_,List.getElem?_eq_getElem aC⟩
    obtain⟨b3,o3,w3,ea3,rd3,hv3⟩:=bY.at hr hx0;rw[hw];refine⟨b3,o3,ea3,aC,aC,w3,.imm rd3,v,s,i',w3,r0,rfl,hs,hv3,λs1 hs1=>⟨rd3,v,s,i',w,r,rfl,hs,hv,λs2 hs2=>⟨rd3,s1,s2,_,_,rfl,hs1,hs2,aE (λhc=>badi λhok=>?_) (λhc=>?_)⟩⟩⟩
    .rw[C7 htb,C7 htb]at hc;have:=hok.2 (j-1) r0 r hx0 (by rw[show j-1+1=j by omega];exact hxr);omega
    .rw[C7 htb,C7 htb]at hc;refine⟨(i',u',j+1),⟨rfl,rfl,by show j+1<=l.length;omega,hfit',λk r1 r2 hk h1 h2=>?_⟩,by show l.length-(j+1)<l.length-j;omega,?_⟩
     .by_cases e5:k+1=j
      .have:k=j-1:=by omega
       subst this;rw[hx0]at h1;rw[e5,hxr]at h2;cases h1;cases h2;omega
      .exact hkey k r1 r2 (by have:k+1<j+1:=hk;omega) h1 h2
     .dsimp only;rw[kN aC];exact MT
   .refine⟨(i',u',j+1),⟨rfl,rfl,by show j+1<=l.length;omega,hfit',λk r1 r2 hk h1 h2=>by have:k+1<j+1:=hk;omega⟩,by show l.length-(j+1)<l.length-j;omega,?_⟩;dsimp only;rw[kN aC];exact MT
  .refine⟨i'+1,⟨aC,λk t l' hk ht hl'=>?_⟩,aC,?_⟩
   .by_cases e5:k=i'
    .subst e5;rw[htb]at ht;cases ht;rw[hx]at hl';cases hl';refine⟨λr hr=>?_,λk r r' h1 h2=>hkey k r r' ?_ h1 h2⟩
     .obtain⟨n,hn,rfl⟩:=List.mem_iff_getElem.1 hr;exact hfit n _ aC (List.getElem?_eq_getElem hn)
     .have:=(List.getElem?_eq_some_iff.1 h2).1;omega
    .exact hall k t l' aC ht hl'
   .rw[kN aC];exact MT
 .rw[if_pos]at hK
  .exact hK
  .exactλj t l h1 h2=>hall j t l (by have:=(List.getElem?_eq_some_iff.1 h2).1;omega) h1 h2
def Hv:Vc.Spec:=λcvs m h K=>∃sc p v s ps q,cvs=[aS sc,cS p,aQ v]/\fQ h s sc/\Ints h p ps/\cT h q v/\jZ q=true/\KR K m h (fZ s ps q)
noncomputable def f55q_ctx(p:Sl)(N:Nat):Ctx:={uJ [(79,Ac),(80,Nd),(81,Bn N)]
 [(5,{A:=Nat×Nat×Nat×Nat×Nat×MH×PH,st:=λ⟨i,a,b,c,d,m,h⟩=>cJ 53 56 [(1,sv p),(3,vv (.pointer (some ⟨a,0,none⟩))),(5,vv (.pointer (some ⟨b,0,none⟩))),(6,vv (.pointer (some ⟨c,0,none⟩))),(7,vv (.pointer (some ⟨d,0,none⟩))),(18,sv p),(19,iv p.len),(20,iv i)] [] m h})] [] [] [200003,200005,200006,200007,200011,0] [] false with elemT:=[3,38]}
noncomputable abbrev mU(a:Nat×Nat×Nat×Nat×Nat×MH×PH):Nat:=a.2.2.2.1
noncomputable abbrev mV(a:Nat×Nat×Nat×Nat×Nat×MH×PH):Nat:=(eV a.2).1
noncomputable abbrev pO(a:Nat×Nat×Nat×Nat×Nat×MH×PH):Nat->Nat->Option Value:=cC (eV a.2)
abbrev MB(a b:Int)(c:Prop)(d:(Nat×Nat×Nat×Nat×Nat×MH×PH)->Prop):Prop:=eA a b c (∃(x:Nat×Nat×Nat×Nat×Nat×MH×PH),d x)
abbrev HV(a b:Nat×Nat×Nat×Nat×Nat×MH×PH):Prop:=fY (aT ((↑a.1:Int)+1))=bZ b.1
attribute [push_cast] mU mV pO MB HV
def f55q_nice(sc:bX)(p:Sl)(v:QV)(N:Nat)(m:MH)(h:PH)(K:CV->MH->PH->Prop):Prop:=
  ∀(b:Nat)(m1:MH),aU (cE m h b) (bH m m1 b (bI sc) 43) (∀(b1:Nat)(m2:MH),aU (cE m1 h b1) (bH m1 m2 b1 v.enc 38) (∀(b2:Nat)(m3:MH),aU (cE m2 h b2) (bH m2 m3 b2 iD 33) (∀(b3:Nat)(m4:MH),aU (cE m3 h b3) (bH m3 m4 b3 (iC bC) 54) (∃(y:bX),aM m4 h b 0 (bI y)/\iU (λv1 s=>aA (kF (bI y)=kF (bI v1)) (fQ h s v1) (eA (eD s) 0 (gJ (λc E=>aA (tY m4 b2 (eW c E 0)) (fH 0 c) (∀(m5:MH),bH m4 m5 b2 (eU tZ 1 c) E->gJ (λc1 E1=>aA (tY m5 b3 (eW c1 E1 0)) (fH 0 c1) (∀(m6:MH),bH m5 m6 b3 (eU (dY (eD s)) 1 c1) E1->iB m6 h b2 0 (λy1=>∃(y2:Int),aM m6 h b3 0 (bN y2)/\K (CV.tup (bD (pD y1) y2)) m6 h)))))) (∃(I:Nat×Nat×Nat×Nat×Nat×MH×PH->Prop)(m5:Nat×Nat×Nat×Nat×
 Nat×MH×PH->Nat),(∃(x:Nat×Nat×Nat×Nat×Nat×MH×PH),aA (I x) (aJ p) (aA (cV b x.2.1) (cV b1 x.2.2.1) (aA (cV b2 (mU x)) (cV b3 (mV x)) (aA (aJ p) (bJ p) (aH (bE x.1) (bK m4 (eV x.2).2) (h=pO x) True)))))/\∀(x:Nat×Nat×Nat×Nat×Nat×MH×PH),I x->bA (↑x.1:Int) (aG p) (aW (λb4 o=>aH (aX p.a b4 o) (0<=(↑x.1:Int)) ((↑x.1:Int)<aG p) (∃(y1:Int),aM (dD (eV x.2)) (pO x) b4 (bL o x.1 1) (bN y1)/\MB y1 3 (MB y1 4 (MB y1 5 (gJ (λc E=>aA (tY (dD (eV x.2)) (mU x) (eW c E 0)) (fH 0 c) (∀(m6:MH),bH (dD (eV x.2)) m6 (mU x) (eU tZ 1 c) E->gJ (λc1 E1=>aA (tY m6 (mV x) (eW c1 E1 0)) (fH 0 c1) (∀(m7:MH),bH m6 m7 (mV x) (eU (dY 1) 1 c1) E1->iB
 m7 (pO x) (mU x) 0 (λy2=>∃(y3:Int),aM m7 (pO x) (mV x) 0 (bN y3)/\K (CV.tup (bD (pD y2) y3)) m7 (pO x))))))) (λx1=>aA (I x1) (m5 x1<m5 x) (aA (aJ p) (cV x.2.1 x1.2.1) (aA (cV x.2.2.1 x1.2.2.1) (cV (mU x) (mU x1)) (aA (cV (mV x) (mV x1)) (aJ p) (aA (bJ p) (HV x x1) (aA (bK (dD (eV x.2)) (eV x1.2).2) (pO x=pO x1) True))))))) (λx1=>aA (I x1) (m5 x1<m5 x) (aA (aJ p) (cV x.2.1 x1.2.1) (aA (cV x.2.2.1 x1.2.2.1) (cV (mU x) (mU x1)) (aA (cV (mV x) (mV x1)) (aJ p) (aA (bJ p) (HV x x1) (aA (bK (dD (eV x.2)) (eV x1.2).2) (pO x=pO x1) True))))))) (λx1=>aA (I x1) (m5 x1<m5 x) (aA (aJ p) (cV x.2.1 x1.2.1) (aA (cV x.2.2.1 x1.2.2.1) (cV (mU x) (mU
 x1)) (aA (cV (mV x) (mV x1)) (aJ p) (aA (bJ p) (HV x x1) (aA (bK (dD (eV x.2)) (eV x1.2).2) (pO x=pO x1) True))))))))) (∀(b4:Nat)(m6:MH),aU (cE (dD (eV x.2)) (pO x) b4) (bH (dD (eV x.2)) m6 b4 (iC bC) 3) (gJ (λc E=>aA (tY m6 b4 (eW c E 0)) (fH 0 c) (∀(m7:MH),bH m6 m7 b4 (eU bC 1 c) E->∃(y1:QV),aM m7 (pO x) x.2.2.1 0 y1.enc/\∃(v2:QV),jT (oB (bV y1)=oB (bV v2)) (λb5=>∀(h1:PH),dK (pO x) h1 (aZ h1 b5 0 v2.enc) (∃(S:PH->List Value->List (List Value)->Prop)(x1:List (Int×QV))(I1:Nat->MH->PH->Prop),aA (Cv Proofs.Tryz.prog 114 S) (S h1 (iC (PY b5 0)) (List.map (fun(x2:Int×QV)=>jJ (dY x2.1) (Value.agg (Array.mk x2.2.enc))) x1)) (aA (I1 0 m7 h1) (∀(k:Nat)(e:Int)(e1:
 QV),fC (λm8 h2=>aU (x1[k]? =Option.some (e,e1)) (PH.le h1 h2) (I1 k m8 h2->tD m8 h2 b4 0 (λy2=>gJ (λc1 E1=>aA (tY m8 b4 (eW c1 E1 0)) (fH 0 c1) (∀(m9:MH),bH m8 m9 b4 (eU (dY (aT (y2+1))) 1 c1) E1->tD m9 h2 b4 0 (λy3=>cW (decide (y3>24)) (gJ (λc2 E2=>aA (tY m9 (mU x) (eW c2 E2 0)) (fH 0 c2) (∀(a:MH),bH m9 a (mU x) (eU tZ 1 c2) E2->gJ (λc3 E3=>aA (tY a (mV x) (eW c3 E3 0)) (fH 0 c3) (∀(a1:MH),bH a a1 (mV x) (eU (dY 2) 1 c3) E3->False))))) (decide (e>8)) (gJ (λc2 E2=>aA (tY m9 (mU x) (eW c2 E2 0)) (fH 0 c2) (∀(a:MH),bH m9 a (mU x) (eU tZ 1 c2) E2->gJ (λc3 E3=>aA (tY a (mV x) (eW c3 E3 0)) (fH 0 c3) (∀(a1:MH),bH a a1 (mV x) (eU (dY 2) 1 c3) E3->
 False))))) (I1 (k+1) m9 h2)))))))) (fC (λm8 h2=>dK h1 h2 (I1 x1.length m8 h2) (∃(y2:bX),aM m8 h2 x.2.1 0 (bI y2)/\∃(y3:QV),aM m8 h2 x.2.2.1 0 y3.enc/\EL y2 p y3 h2 (λv3 s1 p1 q=>aA (cT h2 q v3) (pV q N) (lC (λs2 h3=>dK h2 h3 (Ints h3 s2 (bO s1 p1 q).1) (gJ (λc1 E1=>aA (tY m8 (mU x) (eW c1 E1 0)) (fH 0 c1) (∀(m9:MH),bH m8 m9 (mU x) (eU (dT s2) 1 c1) E1->gJ (λc2 E2=>aA (tY m9 (mV x) (eW c2 E2 0)) (fH 0 c2) (∀(a:MH),bH m9 a (mV x) (eU (dY (bO s1 p1 q).2) 1 c2) E2->iB a h3 (mU x) 0 (λy4=>∃(y5:Int),aM a h3 (mV x) 0 (bN y5)/\K (CV.tup (bD (pD y4) y5)) a h3))))))))))))))))))))))))))
mutual
theorem JP:∀(p:Query)(n:Nat),lH p n=false->Bj p<=n
 |.mk _ _ _ _ _ _ _ _ args,0,h=>by simp[lH]at h
 |.mk _ _ _ _ _ _ _ _ args,n+1,h=>by
  simp only[lH]at h;have:=Hn args n h;simp only[Bj];omega
theorem Hn:∀(ps:List Query)(n:Nat),rQ ps n=false->uI ps<=n
 |[],_,_=>by simp[uI]
 |p::ps,n,h=>by
  simp only[rQ,Bool.or_eq_false_iff]at h;have h1:=JP p n h.1;have h2:=Hn ps n h.2;simp only[uI];omega
end
mutual
theorem qG.deep{h:PH}:∀{q:Query}{v:QV}{d:Nat}{es:List (Nat×QV)},qG h q v d es->∀e∈es,e.1<d+Bj q
 |.mk op ta _ _ _ _ _ _ args,v,d,es,w,e,he=>by
  rw[qG]at w;obtain⟨vs,ess,h1,h2,rfl⟩:=w;simp only[Bj];rcases List.mem_cons.1 he with rfl|he
  .show d<_;omega
  .have:=gX.deep h2 e he;omega
theorem gX.deep{h:PH}:∀{qs:List Query}{vs:List QV}{d:Nat}{es:List (Nat×QV)},gX h qs vs d es->∀e∈es,e.1<d+uI qs
 |[],vs,d,es,w,e,he=>by rw[gX]at w;rw[w.2]at he;simp at he
 |q::qs,vs,d,es,w,e,he=>by
  rw[gX]at w;obtain⟨v,vs',e1,e2,h1,h2,h3,h4,rfl⟩:=w;simp only[uI];rcases List.mem_append.1 he with he|he
  .have:=qG.deep h3 e he;omega
  .have:=gX.deep h4 e he;omega
end
theorem U4{m mx:MH}{h hx:PH}{b6 b7:Nat}{x6 x7:Value}{sl:Sl}{e:Int}{K:CV->MH->PH->Prop}(h67:b6≠b7)(n6:m b6=none)(n7:m b7=none)(a6:mx b6=some (.cells #[x6] 33 (0,0)))(a7:mx b7=some (.cells #[x7] 54 (0,0)))(s:Sub m mx)(le:PH.le h hx)(hK:K (.tup [cS sl,cI e]) m hx):
 ∃(cs:Array Value)(E:TypeId),tY mx b6 (.cells cs E (0,0))/\0<cs.size/\∀m':MH,jH mx m' b6 (.cells (Array.mk (dT sl::cs.toList.drop 1)) E (0,0))->∃(cs:Array Value)(E:TypeId),tY m' b7 (.cells cs E (0,0))/\0<cs.size/\∀m2:MH,jH m' m2 b7 (.cells (Array.mk (dY e::cs.toList.drop 1)) E (0,0))->∃y:Sl,aM m2 hx b6 0 [dT y]/\∃y1:Int,aM m2 hx b7 0 [dY y1]/\cZ h K (.tup [cS y,cI y1]) m2 hx:=by
 refine⟨_,_,⟨a6⟩,by simp,λm1 u1=>⟨_,_,⟨by rw[u1.other b7 (Ne.symm h67)];exact a7⟩,by simp,λm2 u2=>⟨sl,.of_m (by rw[u2.other b6 h67];exact u1.at_) rfl,e,.of_m u2.at_ rfl,λ_=>⟨m,hx,λb o e2=>?_,le,λb i v e2=>.inl e2,hK⟩⟩⟩⟩;rw[u2.other b (λe3=>by rw[e3,n7]at e2;cases e2),u1.other b (λe3=>by rw[e3,n6]at e2;cases e2)];exact s b o e2
theorem f55q_sound:Sound Tryz.prog 55 Hv:=by
 refine DE Tryz.func55 ?_;rintro cvs m h K ⟨sc,p,v,s,ps,q,rfl,hs,hp,hq,hsm,hK⟩;refine⟨f55q_ctx p (SizeOf.sizeOf q+1),rfl,aD KX (aD Jr (aD (T1 _) aF)),f55q_nice sc p v (SizeOf.sizeOf q+1) m h (cZ h K),by kernel_rfl,?_⟩;show f55q_nice sc p v (SizeOf.sizeOf q+1) m h (cZ h K);dsimp only[f55q_nice,push_cast];have hl:=hp.slen;have hlen:=hp.len;have hcn:=Ku hsm;have hdp:Bj q<=8:=JP q 8 (by simp only[jZ,Bool.and_eq_true,Bool.not_eq_true']at hsm;exact hsm.2);unfold fZ at hK;rw[if_pos hsm]at hK;intro b3 m1 u1 w1 b5 m2 u2 w2 b6 m3 u3 w3 b7 m4 u4 w4;obtain⟨s1,n3⟩:=gI (Sub.refl m) u1 w1;obtain⟨s2,n5⟩:=gI s1 u2 w2;obtain⟨s3,n6⟩:=gI s2 u3 w3;obtain⟨s4,n7⟩:=gI s3 u4 w4;have up:∀{ma mb:MH}{b:Nat}{o:Obj}{hh:PH},cE ma hh b->jH ma mb b o->∀{x o'},ma x=some o'->mb x=some o':=fun{ma mb b o hh} u w{x o'} e=>by rw[w.other x (λe2=>by rw[e2,u.m_]at e;cases e)];exact e
 have a3:=up u4 w4 (up u3 w3 (up u2 w2 w1.at_));have a5:=up u4 w4 (up u3 w3 w2.at_);have a6:=up u4 w4 w3.at_;have a7:=w4.at_;have d67:b6≠b7:=λe=>by have e2:=w3.at_;rw[e,u4.m_]at e2;cases e2
 refine⟨sc,.of_m a3 rfl,sc,s,rfl,hs,aB (λh1=>?_) (λh1=>?_)⟩
 .rw[if_neg (by simpa using h1)]at hK;exact U4 (sl:=bU) d67 n6 n7 a6 a7 s4 (.refl _) (hK bU h (.refl _) (iV h))
 have h1:eD s=0:=by simpa using h1
 rw[if_pos h1]at hK;refine⟨λz=>z.2=(b3,b5,b6,b7,m4,h)/\z.1<=ps.length/\(ps.take z.1).all dO=true,λz=>ps.length-z.1,⟨(0,b3,b5,b6,b7,m4,h),⟨rfl,by simp,by simp⟩,MT⟩,?_⟩;rintro⟨i,z⟩ ⟨ez,hi,hall⟩;dsimp only at ez hi hall;subst ez;dsimp only;refine aE (λhlt=>?_) (λhge=>?_)
 .obtain⟨x,hx⟩:=fJ hl hlt;obtain⟨b,o,e,r⟩:=hp.at' hx;have good:dO x=true->(ps.take (i+1)).all dO=true:=λhc=>by rw[xG hx,hall,hc];rfl
  have hw:IntKind.i64.wrap ((i:Int)+1)=((i+1:Nat):Int):=kN aC;have go:dO x=true->((i+1,b3,b5,b6,b7,m4,h):Nat×Nat×Nat×Nat×Nat×MH×PH).2=(b3,b5,b6,b7,m4,h)/\i+1<=ps.length/\(ps.take (i+1)).all dO=true:=λhc=>⟨rfl,aC,good hc⟩
  rw[hw];refine⟨b,o,e,aC,hlt,x,.imm r,aB (λc1=>aB (λc2=>aB (λc3=>?_) (λc3=>⟨(i+1,b3,b5,b6,b7,m4,h),go ?_,by show ps.length-(i+1)<ps.length-i;omega,MT⟩)) (λc2=>⟨(i+1,b3,b5,b6,b7,m4,h),go ?_,by show ps.length-(i+1)<ps.length-i;omega,MT⟩)) (λc1=>⟨(i+1,b3,b5,b6,b7,m4,h),go ?_,by show ps.length-(i+1)<ps.length-i;omega,MT⟩)⟩
  .have:dO x=false:=by simp_all [dO]
   rw[if_neg (λe=>by rw[yS hx this]at e;cases e)]at hK;exact U4 (sl:=bU) d67 n6 n7 a6 a7 s4 (.refl _) (hK bU h (.refl _) (iV h))
  .simp_all [dO]
  .simp_all [dO]
  .simp_all [dO]
 rw[List.take_of_length_le aC]at hall;rw[if_pos hall]at hK;intro b11 m5 u5 w5;refine⟨_,_,⟨w5.at_⟩,by simp,λm6 w6=>?_⟩
 have k6:∀{x o'},m4 x=some o'->m6 x=some o'/\x≠b11:=fun{x o'} e=>by
  have:x≠b11:=λe2=>by rw[e2,u5.m_]at e;cases e
  exact⟨by rw[w6.other x this];exact up u5 w5 e,this⟩
 refine⟨v,.of_m (k6 a5).1 rfl,v,rfl,λbw h1' le1 hbw=>?_⟩;obtain⟨es,hw⟩:=qG.of (hq.mono le1) 1;have hes:=hw.small;have hdeep:=hw.deep;refine⟨Im,es.map λe=>((e.1:Int),e.2),λk mx hx=>hx=h1'/\Ab m6 mx b11/\mx b11=some (.cells #[dY (k:Nat)] 3 (0,0)),Sr,⟨bw,v,q,es,rfl,hbw,hw,aC,by rw[List.map_map];rfl⟩,⟨rfl,λx o e _=>e,w6.at_⟩,?_,?_⟩
 .rintro k d e' mx hx hk-⟨rfl,hsx,hb11⟩
  rw[List.getElem?_map]at hk;cases hek:es[k]? with
  |none=>rw[hek]at hk;cases hk
  |some e=>
   rw[hek]at hk;simp only[Option.map_some,Option.some.injEq,Prod.mk.injEq]at hk;obtain⟨rfl,rfl⟩:=hk;have hkl:=(List.getElem?_eq_some_iff.1 hek).1;have hde:=hdeep e (List.mem_of_getElem? hek);have hw2:IntKind.i64.wrap ((k:Int)+1)=((k+1:Nat):Int):=kN aC;refine⟨k,.of_m hb11 rfl,_,_,⟨hb11⟩,by simp,λm7 w7=>⟨((k+1:Nat):Int),?_,aE (λhgt=>by omega) (λ_=>aE (λhgt=>by omega) (λ_=>⟨rfl,λx o e1 e2=>by rw[w7.other x e2];exact hsx x o e1 e2,?_⟩))⟩⟩
   .rw[<-hw2];exact .of_m w7.at_ rfl
   .rw[<-hw2];exact w7.at_
 .rintro mx hx-⟨rfl,hsx,hb11⟩
  have kx:∀{x o'},m4 x=some o'->mx x=some o':=fun{x o'} e=>hsx x o' (k6 e).1 (k6 e).2;refine⟨sc,.of_m (kx a3) rfl,v,.of_m (kx a5) rfl,sc,p,v,s,ps,q,rfl,hs.mono le1,sF h1,hp.mono le1,hq.mono le1,aC,λsl h7 le7 hi7=>?_⟩;exact U4 d67 n6 n7 (kx a6) (kx a7) (λx o e=>kx (s4 x o e)) (le1.trans le7) (hK sl h7 (le1.trans le7) hi7)
noncomputable def DM(s:nY)(st:List (List (List VV)))(q:Query):List (List VV)×Int:=
 if(fZ s [] q).2≠0 then([],(fZ s [] q).2)else if rW s st≠0 then([],rW s st)else(xJ st q,0)
def To(st:List (List (List VV)))(q:Query):Prop:=∃c,1<=c/\(∀l∈st,l.length<=c)/\lV c q<=1000000
structure FF(h:PH)(sl:Sl)(st:List (List (List VV))):Prop where
 lea:Leaves h sl st
 len:st.length<=1000
 val:Ze st
theorem FF.mono{sl:Sl}{st:List (List (List VV))}(x:FF h sl st)(le:PH.le h h'):FF h' sl st:=⟨bY.mono x.lea le λl s hr=>bY.mono hr le λr t hv=>cK.mono hv le,x.len,x.val⟩
def Wq:Vc.Spec:=λcvs m h K=>∃v s sl st w q,cvs=[aS v,Y1 sl,aQ w]/\fQ h s v/\FF h sl st/\cT h q w/\jZ q=true/\jY m/\((fZ s [] q).2=0->rW s st=0->To st q)/\∀s' h',PH.le h h'->Rows h' s' (DM s st q).1->K (.tup [cS s',cI (DM s st q).2]) m h'
def YA:Vc.Spec:=λcvs m h K=>∃v s sl st w q,cvs=[aS v,Y1 sl,aQ w]/\fQ h s v/\FF h sl st/\cT h q w/\jZ q=true/\jY m/\((fZ s [] q).2=0->rW s st=0->To st q)/\∀s' h',PH.le h h'->Rows h' s' (DM s st q).1->K (cS s') m h'
def Yo:Vc.Spec:=λcvs m h K=>∃o v w,cvs=[cI o,aQ v,aQ w]/\∀s h',PH.le h h'->cN h' s 21 [v.enc,w.enc]->K (aQ ⟨o,0,fT,bU,bU,bU,bU,0,s⟩) m h'
def Tb:Vc.Spec:=λcvs m h K=>∃n,cvs=[cI n]/\K (aV ⟨4,n,⟨#[]⟩⟩) m h
noncomputable def XF(w:QV)(sl:Sl):Ctx:=dN [(55,Hv),(56,Ht),(57,Wo),(58,S5)]
 [(10,{A:=Nat×List Sl×Sl×MH×PH,st:=λ⟨i,us,s,m,h⟩=>cJ 54 57 [(4,.at (.ptr 4 0)),(5,.at (.ptr 5 0)),(12,.at (.lst 34)),(35,sv s),(36,iv s.len),(37,iv i)] [(4,.cells 25 [.val (.slice sl.a sl.len sl.cap)]),(5,.cells 38 (w.enc.map .val)),(34,.lst 53 1 (us.map eS))] m h})] [] [] false
abbrev uR(a:List At):Prop:=eQ (oQ 25 a)
attribute [push_cast] uR
def Pc(v:bX)(sl:Sl)(w:QV)(m:MH)(h:PH)(K:CV->MH->PH->Prop):Prop:=
  BZ (λs p=>∃(v1:QV),Br (λs1 p1=>∃(q:Query),aA (cL (bI v) (dZ lU (bV w))=cL (bI s) (fK p (bV v1))) (fQ h s1 s) (aA (Ints h p p1) (cT h q v1) (dX (jZ q)/\lC (λs2 h1=>dK h h1 (Ints h1 s2 (fZ s1 p1 q).1) (eA (fZ s1 p1 q).2 0 (K (CV.tup (dZ lU (CV.val (dY (fZ s1 p1 q).2)))) m h1) (iU (λv2 s3=>w8 (λs4 s5=>aA (cL (bI v) (dZ (eK 3) (jI (aR sl)))=cL (bI v2) (dZ (eK 3) (jI (aR s4)))) (fQ h1 s3 v2) (aA (Leaves h1 s4 s5) (jG s5.length) (eA (rW s3 s5) 0 (K (CV.tup (bD lU (rW s3 s5))) m h1) (lQ (λv3 q1=>aH (oB (bV w)=oB (bV v3)) (cT h1 q1 v3) (rT q1<=900000) (lC (λs6 h2=>dK h1 h2 (Ints h2 s6 (i7 q1)) (aA (cD (aG s6)) (aG s6<=aG s6) (aA (p5 (aG s6*24))
 (p5 (aG s6)) (HW (λI x=>aA (I x) (eP 4) (aA (eP 5) (eL 34) (aA (bF s6 (dP x)) (cO s6 (dP x)) (aA (bE x.1) (uR (pW sl)) (pJ (fG w) (cR 53 1 (List.replicate (aG s6).toNat iD)=cR 53 1 (jC x)) (bK m x.2.2.2) h2 (jD x)))))) (λI m1 x=>I x->bA (↑x.1:Int) (aG (dP x)) (aW (λb o=>aH (aX (dP x).a b o) (0<=(↑x.1:Int)) ((↑x.1:Int)<aG (dP x)) (∃(y:Int),aM (pP x) (jD x) b (bL o x.1 1) (bN y)/\aW (λb1 o1=>aH (aX sl.a b1 o1) (0<=y) (y<aG sl) (∃(y1:Sl),aH (aM (pP x) (jD x) b1 (fR o1 y 1) (aR y1)) (0<=(↑x.1:Int)) ((↑x.1:Int)<iL (jC x)) (∃(e:List Value),I9 (rK (jC x) (sJ x.1) e) (0<e.length) (λx1=>aA (I x1) (m1 x1<m1 x) (aA (eP 4) eM (aA (eL 34)
 (bF (dP x) (dP x1)) (aA (cO (dP x) (dP x1)) (fY (aT ((↑x.1:Int)+1))=bZ x1.1) (aA (uR (pW sl)) (fG w) (aA (cR 53 1 (List.set (jC x) (sJ x.1) (dT y1::List.drop 1 e))=cR 53 1 (jC x1)) (bK (pP x) x1.2.2.2) (bT (jD x) (jD x1)))))))))))))) (bM (jD x) 1 (jC x) (λs7 h3=>∃(l:Sl)(v4:QV)(l1:List (List (List VV)))(q2:Query),aA (fK s7 (bV w)=fK l (bV v4)) (Leaves h3 l l1) (aA (cT h3 q2 v4) (TC l1 q2 0) (aH (jY (pP x)) ((i6 l1 q2 0).1.length<=1000000) (CP (i6 l1 q2 0).1 (λr=>jG r.length)) (lC (λs8 h4=>dK h3 h4 (Rows h4 s8 (i6 l1 q2 0).1) (K (CV.tup (bD (pD s8) 0)) (pP x) h4))))))))))))))))))))))))))
noncomputable abbrev yE(a:Sl)(b:QV):List CV:=dZ (jI (aR a)) (bV b)
abbrev A4(a:Query)(b:Nat->Option Obj)(c:nY)(d:List (List (List VV)))(e:Prop):Prop:=aH (dX (jZ a)) (jY b) (aU ((fZ c [] a).2=0) (rW c d=0) (To d a)) e
attribute [push_cast] yE A4
def Vq(v:bX)(sl:Sl)(w:QV)(m:MH)(h:PH)(K:CV->MH->PH->Prop):Prop:=
  iU (λv1 s=>w8 (λs1 s2=>lQ (λw1 q=>aA (cL (bI v) (yE sl w)=cL (bI v1) (yE s1 w1)) (fQ h s v1) (aA (FF h s1 s2) (cT h q w1) (A4 q m s s2 (lF h (DM s s2 q).1 K m))))))
def Vr(o:Int)(v w:QV)(m:MH)(h:PH)(K:CV->MH->PH->Prop):Prop:=
  bM h 21 (v.enc::eX w.enc) (λs h1=>K (jI (aL (dY o) bC (aL bC bC (aL bC bC (aL bC bC (sL tZ (zA (aR s)))))))) m h1)
noncomputable abbrev tB(a:Int):List Value:=aL (dY 4) (dY a) wY
attribute [push_cast] tB
def Vo(n:Int)(m:MH)(h:PH)(K:CV->MH->PH->Prop):Prop:=
  K (jI (tB n)) m h
mutual
theorem Kw:∀q:Query,(i7 q).length<=rT q
 |.mk op ta _ _ _ _ _ _ args=>by
  have:=IC args;rw[i7,rT,List.length_append];split<;>simp<;>omega
theorem IC:∀qs:List Query,(gY qs).length<=nR qs
 |[]=>by simp[gY,nR]
 |q::qs=>by
  have:=Kw q;have:=IC qs;rw[gY,nR,List.length_append];omega
end
theorem K9:Sound Tryz.prog 21 Wq:=by
 refine hX Tryz.func21 ?_;rintro cvs m h K ⟨v,s,sl,st,w,q,rfl,hs,hst,hq,hsm,hT,hb,hK⟩;refine⟨XF w sl,rfl,aD f55q_sound (aD f56_sound (aD f57_sound (aD f58_sound aF))),Pc v sl w m h K,by kernel_rfl,?_⟩;dsimp only[Pc,push_cast];unfold DM at hK;refine⟨v,bU,w,s,[],q,rfl,hs,iV h,hq,hsm,λsl1 h1 le1 _=>aB (λe=>?_) (λe=>?_)⟩
 .rw[if_pos (by simpa using e)]at hK;exact hK ⟨none,0,0⟩ h1 le1 (bY.nil _ _ _ _)
 have e:(fZ s [] q).2=0:=by simpa using e
 rw[if_neg (by simp[e])]at hK;refine⟨v,s,sl,st,rfl,hs.mono le1,(hst.mono le1).lea,hst.len,aB (λe2=>?_) (λe2=>?_)⟩
 .rw[if_pos (by simpa using e2)]at hK;exact hK ⟨none,0,0⟩ h1 le1 (bY.nil _ _ _ _)
 have e2:rW s st=0:=by simpa using e2
 rw[if_neg (by simp[e2])]at hK;dsimp only at hK;obtain⟨c,c1,c2,c3⟩:=hb e e2;obtain⟨_,_,_,hkz⟩:=G4 e;have hkq:bO s [] q=((bO s [] q).1,0):=Prod.ext rfl hkz;obtain⟨ok,ev,rel,len⟩:=YG e2 hst.val c2 c1 hkq c3;have hcnt:=Ku hsm;have hsl:=Kw q;have hin:=ID hkq;have htl:=(NN e2).2.1;refine⟨w,q,rfl,hq.mono le1,aC,λs' h2 le2 hi=>?_⟩;have hil:=hi.slen;have hst2:=hst.mono (le1.trans le2);have hstl:=bY.slen hst2.lea;generalize hts:i7 q=ts at hi hil hsl hin;refine⟨aC,aC,aC,aC,λz=>z.1<=ts.length/\z.2.2.1=s'/\z.2.2.2.1=m/\z.2.2.2.2=h2/\∃us,z.2.1=us++List.replicate (ts.length-z.1) ⟨none,0,0⟩/\us.length=z.1/\∀(j:Nat) u t,us[j]? =some u->ts[j]? =some t->Rows h2 u (st.getD t.toNat []),λz=>ts.length-z.1,⟨(0,List.replicate ts.length ⟨none,0,0⟩,s',m,h2),⟨by simp,rfl,rfl,rfl,[],by simp,rfl,λj u t h=>by simp at h⟩,?_⟩,?_⟩
 .rw[show((s'.len:Int)).toNat=ts.length by omega];dsimp only;rw[List.map_replicate];exact MT
 rintro⟨i,l,s2,m2,h3⟩ ⟨hi1,e3,e4,e5,us,hl,hul,hrow⟩;dsimp only at hi1 e3 e4 e5 hl hul hrow⊢
 subst e3 e4 e5;refine aE (λhlt=>?_) (λhge=>?_)
 .obtain⟨t,hx⟩:=fJ hil hlt;obtain⟨b,o,ea,rd⟩:=hi.at' hx;have ht:=hin t (List.mem_of_getElem? hx);have htn:t.toNat<st.length:=by omega
  have e6:st[t.toNat]? =some (st.getD t.toNat []):=by rw[List.getD_eq_getElem?_getD,List.getElem?_eq_getElem htn];rfl
  obtain⟨b2,o2,u,ea2,rd2,hr⟩:=bY.at hst2.lea e6;have hll:l.length=ts.length:=by rw[hl,List.length_append,List.length_replicate];omega
  have hev:l[i]? =some ⟨none,0,0⟩:=by
   rw[hl,List.getElem?_append_right aC,List.getElem?_replicate,if_pos aC]
  refine⟨b,o,ea,aC,aC,t,.imm rd,b2,o2,ea2,ht.1,aC,u,.imm rd2,aC,by rw[List.length_map];omega,[tZ],by rw[List.getElem?_map,show((i:Int)).toNat=i from rfl,hev];rfl,by simp,(i+1,l.set i u,s2,m2,h3),⟨by show i+1<=ts.length;omega,rfl,rfl,rfl,us++[u],?_,by simp[hul],λj u' t' h7 h8=>?_⟩,by show ts.length-(i+1)<ts.length-i;omega,?_⟩
  .dsimp only;rw[hl,List.set_append,if_neg aC,List.append_assoc];congr 1;rw[show ts.length-i=(ts.length-(i+1))+1 by omega,List.replicate_succ,show i-us.length=0 by omega];rfl
  .by_cases hj:j<us.length
   .rw[List.getElem?_append_left hj]at h7;exact hrow j u' t' h7 h8
   .rw[List.getElem?_append_right aC]at h7;have:j-us.length=0:=by have:=(List.getElem?_eq_some_iff.1 h7).1;simp at this;omega
    rw[this]at h7;simp at h7;subst h7;have:j=i:=by omega
    subst this;rw[hx]at h8;cases h8;exact hr
  .dsimp only
   have e9:((l.map eS).set ((i:Int)).toNat (dT u::List.drop 1 [tZ]))=(l.set i u).map eS:=by
    rw[List.map_set];rfl
   rw[e9,kN aC];exact MT
 .have:i=ts.length:=by omega
  subst this;rw[Nat.sub_self,List.replicate_zero,List.append_nil]at hl;subst hl;intro s3 h4 le4 hri;refine⟨s3,w,rN st q,q,rfl,⟨⟨l,hri,by rw[rN,List.length_map,hts,hul],λi x hx=>?_⟩,by rw[rN,List.length_map,hts];omega⟩,hq.mono ((le1.trans le2).trans le4),ok,hT,by rw[ev];exact len,λr hr=>?_,λs5 h5 le5 hr=>hK s5 h5 (((le1.trans le2).trans le4).trans le5) (by rw[<-ev];exact hr)⟩
  .rw[rN,hts,List.getElem?_map]at hx;cases e7:ts[i]? with
   |none=>rw[e7]at hx;cases hx
   |some t=>
    rw[e7]at hx;simp only[Option.map_some,Option.some.injEq]at hx;subst hx;have hil2:=(List.getElem?_eq_some_iff.1 e7).1;exact⟨l[i],List.getElem?_eq_getElem aC,bY.mono (hrow i _ t (List.getElem?_eq_getElem aC) e7) le4 λr t hv=>cK.mono hv le4⟩
  .rw[ev]at hr;have:=(rel.row r hr).len;omega
theorem Ub:Sound Tryz.prog 29 YA:=by
 refine hX Tryz.func29 ?_;rintro cvs m h K ⟨v,s,sl,st,w,q,rfl,hs,hst,hq,hsm,hT,hb,hK⟩;refine⟨dN [(21,Wq)] [] [] [] false,rfl,aD K9 aF,Vq v sl w m h K,by kernel_rfl,?_⟩;exact⟨v,s,sl,st,w,q,rfl,hs,hst,hq,hsm,hT,hb,hK⟩
theorem Uc:Sound Tryz.prog 27 Yo:=by
 refine hX Tryz.func27 ?_;rintro cvs m h K ⟨o,v,w,rfl,hK⟩;refine⟨dN [] [] [] [] false,rfl,aF,Vr o v w m h K,by kernel_rfl,?_⟩;exact hK
theorem T4:Sound Tryz.prog 61 Tb:=by
 refine hX Tryz.func61 ?_;rintro cvs m h K ⟨n,rfl,hK⟩;refine⟨dN [] [] [] [] false,rfl,aF,Vo n m h K,by kernel_rfl,?_⟩;exact hK
def R3:Vc.Spec:=λcvs m h K=>∃s r,cvs=[cS s]/\cK h s r/\r.length<=1000/\∀s' h',PH.le h h'->cK h' s' r->K (cS s') m h'
def WA:Vc.Spec:=λcvs m h K=>∃v s t sl r,cvs=[aS v,cI t,cS sl]/\fQ h s v/\cK h sl r/\r.length<=1000/\∀s' h',PH.le h h'->cK h' s' (Fe s t r)->K (cS s') m h'
def Nr(key:Int)(ks:List Int)(r:List VV):Prop:=r.length=ks.length/\(∀v∈r,HB v)/\∀(i:Nat) v k,r[i]? =some v->ks[i]? =some k->wG key k i v=true
def Zf:Vc.Spec:=λcvs m h K=>∃cb s key ks,cvs=[cP cb,cS s,cI key,cI 3]/\aK m h cb/\Ints h s ks/\ks.length<=1000/\(∀k∈ks,k=3\/k=4\/k=5)/\∀s' r m' h',PH.le h h'->cK h' s' r->Nr key ks r->bB m m' cb->aK m' h' cb->K (cS s') m' h'
def UK(m:MH)(tb:Nat)(us:List Sl):Prop:=∃cur:Array Value,m tb=some (.cells cur 53 (0,0))/\us.length<=cur.size/\cur.toList.take us.length=us.map Sl.val
def Zh:Vc.Spec:=λcvs m h K=>∃v s tb n cap us u,∃t:Nat,∃tab rs sk kr sr row,cvs=[aS v,Y1 ⟨some ⟨tb,0,none⟩,n,cap⟩,cI t,cS sk,cS sr]/\fQ h s v/\s.tables[t]? =some tab/\UK m tb us/\n=us.length/\us[t]? =some u/\Rows h u rs/\rs.length<=1000/\(∀r∈rs,r.length<=1000)/\cK h sk kr/\cK h sr row/\0<row.length/\row.length<=1000/\
 ∀u' m' h',PH.le h h'->Rows h' u' (wT tab kr row false rs)->UK m' tb (us.set t u')->bB m m' tb->K (Y1 ⟨some ⟨tb,0,none⟩,n,cap⟩) m' h'
noncomputable def Xy(cb:Nat)(key:Int)(s:Sl):Ctx:=dN [(16,Kb),(77,Ng)]
 [(3,{A:=Nat×List VV×MH×PH,st:=λ⟨i,l,m,h⟩=>cJ 59 63 [(0,pv cb),(2,iv key),(3,iv 3),(9,.at (.lst 24)),(12,sv s),(13,iv s.len),(14,iv i)] [(24,.lst 27 3 (l.map VV.enc))] m h})] [] [] false
noncomputable def Xv(v:bX)(sl:Sl)(t:Nat)(sk sr:Sl)(m:MH):Ctx:=dN [(46,WA),(62,Hw),(53,R3)]
 [(4,{A:=Nat×List Sl×Bool×Sl×PH,st:=λ⟨i,us,d,u,h⟩=>cJ 66 71 [(2,iv t),(3,sv sk),(4,sv sr),(5,.at (.ptr 5 0)),(6,.at (.ptr 6 0)),(10,.at (.ptr 10 0)),(11,.at (.lst 45)),(12,bv d),(23,sv u),(24,iv u.len),(25,iv i)] [(5,.cells 43 (v.enc.map .val)),(6,.cells 25 [.val sl.val]),(10,.cells 25 [.val bU.val]),(45,.lst 74 1 (us.map eS))] m h})]
 [(9,{A:=Nat×List Sl×Bool×Sl×Sl×Int×PH,st:=λ⟨i,us,d,u,r,c,h⟩=>cJ 66 71 [(2,iv t),(3,sv sk),(4,sv sr),(5,.at (.ptr 5 0)),(6,.at (.ptr 6 0)),(10,.at (.ptr 10 0)),(11,.at (.lst 45)),(12,bv d),(14,sv r),(15,iv c),(23,sv u),(24,iv u.len),(25,iv i)] [(5,.cells 43 (v.enc.map .val)),(6,.cells 25 [.val sl.val]),(10,.cells 25 [.val bU.val]),(45,.lst 74 1 (us.map eS))] m h}),
  (14,{A:=List Sl×PH,st:=λ⟨us,h⟩=>cJ 66 71 [(2,iv t),(6,.at (.ptr 6 0)),(10,.at (.ptr 10 0)),(11,.at (.lst 45))] [(6,.cells 25 [.val sl.val]),(10,.cells 25 [.val bU.val]),(45,.lst 74 1 (us.map eS))] m h})] [] false
def f53_nice(s:Sl)(m:MH)(h:PH)(K:CV->MH->PH->Prop):Prop:=
  ∃(y:List (List Value)),aA (dU 3 y) (cN h (dA s) 3 y) (aA (gK (y.length*32)) (gK y.length) (bM h 3 y (λs1 h1=>K (pD s1) m h1)))
def OZ(v:bX)(t:Int)(s:Sl)(m:MH)(h:PH)(K:CV->MH->PH->Prop):Prop:=
  bA t 0 (K lU m h) (fW t (gO v) (K lU m h) (aW (λb o=>aH (aX (oU v) b o) (0<=t) (t<aG v.tables) (∃(y:Int),aH (aM m h b (fR o t 5+2) (bN y)) (0<=ite (oO s y>0) (oO s y) 0) (ite (oO s y>0) (oO s y) 0<=(↑s.cap:Int)) (EM (oB (CV.val (Value.slice s.a (ite (oO s y>0) (oO s y) 0).toNat s.cap))) h (λs1 h1=>K (pD s1) m h1))))))
noncomputable abbrev oT(a:Nat×List VV×MH×PH):Nat->Nat->Option Value:=a.2.2.2
noncomputable abbrev yF(a:Nat×List VV×MH×PH):Nat->Option Obj:=a.2.2.1
abbrev xS(a:Nat×List VV×MH×PH)(b:(Nat×List VV×MH×PH)->Prop):Prop:=aA (gK (((qZ a.2.1).length+1)*32)) (gS (qZ a.2.1)) (∃(x:Nat×List VV×MH×PH),b x)
abbrev yC(a:Prop)(b c d:Nat)(e:Int)(g:Sl)(i j:Nat×List VV×MH×PH)(k:Prop)(l:MH):Prop:=aA a (b<c) (aA (cX d) (eQ (fY e)) (aA lM (eL 24) (aA (aJ g) (bJ g) (aA (fY (aT ((↑i.1:Int)+1))=bZ j.1) k (aA (bK l j.2.2) (oT i=oT j) True)))))
abbrev xR(a:Nat)(b:Nat×List VV×MH×PH)(c:List Value)(d:Nat×List VV×MH×PH):Prop:=cR 27 a (eB (qZ b.2.1) c)=cR 27 a (qZ d.2.1)
attribute [push_cast] oT yF xS yC xR
def O2(cb:Nat)(s:Sl)(key:Int)(m:MH)(h:PH)(K:CV->MH->PH->Prop):Prop:=
  ∃(I:Nat×List VV×MH×PH->Prop)(m1:Nat×List VV×MH×PH->Nat),(∃(x:Nat×List VV×MH×PH),aA (I x) (cX cb) (aA (eQ (fY key)) lM (aA (eL 24) (aJ s) (aA (bJ s) (bE x.1) (aH (qW 27 3 (cR 27 3 (qZ x.2.1))) (bK m x.2.2) (h=oT x) True)))))/\∀(x:Nat×List VV×MH×PH),I x->bA (↑x.1:Int) (aG s) (aW (λb o=>aH (aX s.a b o) (0<=(↑x.1:Int)) ((↑x.1:Int)<aG s) (∃(y:Int),aM (yF x) (oT x) b (bL o x.1 1) (bN y)/\cW (decide ((↑x.1:Int)>=key)) (j6 cb 5 (yF x) (oT x) (λc r=>∀(m2:MH),aU (bB (yF x) m2 c) (aK m2 (oT x) c) (cW r (xS x (λx1=>yC (I x1) (m1 x1) (m1 x) cb key s x x1 (xR 3 x (aL (dY 2) bC wY) x1) m2)) (decide ((↑x.1:Int)>=key)) (j6 cb 5 m2 (oT x) (λc1 r1=>∀(m3:
 MH),aU (bB m2 m3 c1) (aK m3 (oT x) c1) (branch r1 (xS x (λx1=>yC (I x1) (m1 x1) (m1 x) cb key s x x1 (xR 3 x (aL (dY 1) bC wY) x1) m3)) (AP cb y m3 (oT x) (λv m4=>xS x (λx1=>yC (I x1) (m1 x1) (m1 x) cb key s x x1 (xR 3 x v.enc x1) m4)))))) (AP cb y m2 (oT x) (λv m3=>xS x (λx1=>yC (I x1) (m1 x1) (m1 x) cb key s x x1 (xR 3 x v.enc x1) m3)))))) (decide ((↑x.1:Int)>=key)) (j6 cb 5 (yF x) (oT x) (λc r=>∀(m2:MH),aU (bB (yF x) m2 c) (aK m2 (oT x) c) (branch r (xS x (λx1=>yC (I x1) (m1 x1) (m1 x) cb key s x x1 (xR 3 x (aL (dY 1) bC wY) x1) m2)) (AP cb y m2 (oT x) (λv m3=>xS x (λx1=>yC (I x1) (m1 x1) (m1 x) cb key s x x1 (xR 3 x v.enc x1) m3)))))) (AP cb y (yF x)
 (oT x) (λv m2=>xS x (λx1=>yC (I x1) (m1 x1) (m1 x) cb key s x x1 (xR 3 x v.enc x1) m2)))))) (bM (oT x) 3 (qZ x.2.1) (λs1 h1=>K (pD s1) (yF x) h1))
noncomputable abbrev yD(a:Nat×List Sl×Bool×Sl×PH):Bool:=a.2.2.1
noncomputable abbrev oP(a:Nat×List Sl×Bool×Sl×PH):Sl:=a.2.2.2.1
abbrev oF:Prop:=uR (oK JU)
noncomputable abbrev rJ(a:Nat×List Sl×Bool×Sl×PH):List (List Value):=p6 a.2.1
noncomputable abbrev tT(a:Nat×List Sl×Bool×Sl×PH):Nat->Nat->Option Value:=a.2.2.2.2
noncomputable abbrev rH(a:Nat×List Sl×Bool×Sl×Sl×Int×PH):Sl:=a.2.2.2.1
noncomputable abbrev A8(a:Nat×List Sl×Bool×Sl×Sl×Int×PH):List (List Value):=p6 a.2.1
noncomputable abbrev CX(a:Nat×List Sl×Bool×Sl×Sl×Int×PH):Nat->Nat->Option Value:=a.2.2.2.2.2.2
attribute [push_cast] yD oP oF rJ tT rH A8 CX
def O0(v:bX)(tb n cap t:Nat)(sk sr:Sl)(m:MH)(h:PH)(K:CV->MH->PH->Prop):Prop:=
  aW (λb o=>aH (aX (j5 tb) b o) (0<=(↑t:Int)) ((↑t:Int)<(↑n:Int)) (∃(y:Sl),aM m h b (bL o t 1) (aR y)/\∃(I:Nat×List Sl×Bool×Sl×PH->Prop)(m1:Nat×List Sl×Bool×Sl×PH->Nat),(∃(x:Nat×List Sl×Bool×Sl×PH),aA (I x) (eQ (bZ t)) (aA (aJ sk) (aJ sr) (aA eM (eP 6) (aA hU (eL 45) (aA (gP (aG sr==0) (yD x)) (bF y (oP x)) (aA (cO y (oP x)) (bE x.1) (aA (bR v) (uR (oK (At.val (Value.slice (j5 tb) n cap)))) (aA oF (qW 74 1 (cR 74 1 (rJ x))) (cA (m=m) h (tT x))))))))))/\∀(x:Nat×List Sl×Bool×Sl×PH),I x->bA (↑x.1:Int) (aG (oP x)) (aW (λb1 o1=>aH (aX (oP x).a b1 o1) (0<=(↑x.1:Int)) ((↑x.1:Int)<aG (oP x)) (∃(y1:Sl),aM m (tT x) b1 (bL o1 x.1 1) (aR
 y1)/\iU (λv1 s=>∃(t1:Int),nB (λs1 r=>aA (cL (bI v) (dZ (eK (↑t:Int)) (pD y1))=cL (bI v1) (dZ (eK t1) (pD s1))) (fQ (tT x) s v1) (aA (cK (tT x) s1 r) (jG r.length) (lC (λs2 h1=>dK (tT x) h1 (cK h1 s2 (Fe s t1 r)) (CO s2 sk h1 (λa b2=>∃(I1:Nat×List Sl×Bool×Sl×Sl×Int×PH->Prop),fW (dR a b2) 0 (gM (yD x) (EM (gC sr) h1 (λs3 h2=>pR (rJ x) 24 (∃(x1:Nat×List Sl×Bool×Sl×Sl×Int×PH),aA (I1 x1) (eQ (bZ t)) (aA (aJ sk) (aJ sr) (aA eM (eP 6) (aA hU (eL 45) (aA (uS x1.2.2.1) (bF y1 x1.2.2.2.2.1) (aA (cM (dR a b2) x1.2.2.2.2.2.1) (bF (oP x) (rH x1)) (aA (cO (oP x) (rH x1)) (cF x.1 x1.1) (aA (bR v) (uR (oK (At.val (Value.slice (j5 tb) n cap))))
 (pJ oF (pG (eB (rJ x) (aR s3)) (A8 x1)) (m=m) h2 (CX x1)))))))))))) (∃(x1:Nat×List Sl×Bool×Sl×Sl×Int×PH),aA (I1 x1) (eQ (bZ t)) (aA (aJ sk) (aJ sr) (aA eM (eP 6) (aA hU (eL 45) (aA (gP (yD x) x1.2.2.1) (bF y1 x1.2.2.2.2.1) (aA (cM (dR a b2) x1.2.2.2.2.2.1) (bF (oP x) (rH x1)) (aA (cO (oP x) (rH x1)) (cF x.1 x1.1) (aA (bR v) (uR (oK (At.val (Value.slice (j5 tb) n cap)))) (pJ oF (pG (rJ x) (A8 x1)) (m=m) h1 (CX x1))))))))))) (∃(x1:Nat×List Sl×Bool×Sl×Sl×Int×PH),aA (I1 x1) (eQ (bZ t)) (aA (aJ sk) (aJ sr) (aA eM (eP 6) (aA hU (eL 45) (aA (gP (yD x) x1.2.2.1) (bF y1 x1.2.2.2.2.1) (aA (cM (dR a b2) x1.2.2.2.2.2.1) (bF (oP x) (rH x1))
 (aA (cO (oP x) (rH x1)) (cF x.1 x1.1) (aA (bR v) (uR (oK (At.val (Value.slice (j5 tb) n cap)))) (pJ oF (pG (rJ x) (A8 x1)) (m=m) h1 (CX x1))))))))))/\∀(x1:Nat×List Sl×Bool×Sl×Sl×Int×PH),gQ (I1 x1) (x1.2.2.2.2.2.1 !=0) (pR (A8 x1) 24 (∃(x2:Nat×List Sl×Bool×Sl×PH),aA (I x2) (m1 x2<m1 x) (aA (eQ (bZ t)) (aJ sk) (aA (aJ sr) eM (aA (eP 6) hU (aA (eL 45) (gP x1.2.2.1 (yD x2)) (aA (bF (rH x1) (oP x2)) (cO (rH x1) (oP x2)) (aA (fY (aT ((↑x1.1:Int)+1))=bZ x2.1) (bR v) (aA (uR (oK (At.val (Value.slice (j5 tb) n cap)))) oF (aH (pG (eB (A8 x1) (aR x1.2.2.2.2.1)) (rJ x2)) (m=m) (CX x1=tT x2) True)))))))))) (∃(x2:Nat×List Sl×Bool×Sl×PH),
 aA (I x2) (m1 x2<m1 x) (aA (eQ (bZ t)) (aJ sk) (aA (aJ sr) eM (aA (eP 6) hU (aA (eL 45) (gP x1.2.2.1 (yD x2)) (aA (bF (rH x1) (oP x2)) (cO (rH x1) (oP x2)) (aA (fY (aT ((↑x1.1:Int)+1))=bZ x2.1) (bR v) (aA (uR (oK (At.val (Value.slice (j5 tb) n cap)))) oF (aH (pG (A8 x1) (rJ x2)) (m=m) (CX x1=tT x2) True))))))))))))))))))) (∃(I1:List Sl×PH->Prop),gM (yD x) (EM (gC sr) (tT x) (λs h1=>pR (rJ x) 24 (∃(x1:List Sl×PH),aA (I1 x1) (eQ (bZ t)) (aA (eP 6) hU (aA (eL 45) (uR (oK (At.val (Value.slice (j5 tb) n cap)))) (aA oF (pG (eB (rJ x) (aR s)) (p6 x1.1)) (cA (m=m) h1 x1.2))))))) (∃(x1:List Sl×PH),aA (I1 x1) (eQ (bZ t)) (aA (eP 6) hU (aA (eL
 45) (uR (oK (At.val (Value.slice (j5 tb) n cap)))) (aA oF (pG (rJ x) (p6 x1.1)) (cA (m=m) (tT x) x1.2)))))/\∀(x1:List Sl×PH),I1 x1->aW (λb1 o1=>aH (aX (j5 tb) b1 o1) (0<=(↑t:Int)) ((↑t:Int)<(↑n:Int)) (bM x1.2 1 (p6 x1.1) (λs h1=>oD m b1 (bL o1 t 1) (aR s) (λm2=>K (jI (iC (Value.slice (j5 tb) n cap))) m2 h1)))))))
theorem f53_sound:Sound Tryz.prog 53 R3:=by
 refine hX Tryz.func53 ?_;rintro cvs m h K ⟨s,r,rfl,hs,hl,hK⟩;refine⟨dN [] [] [] [] false,rfl,aF,f53_nice s m h K,by kernel_rfl,?_⟩;dsimp only[f53_nice,push_cast];obtain⟨⟨vs,h1,h2,h3⟩,h4⟩:=hs;exact⟨vs.map VV.enc,IE vs,h1,by rw[List.length_map];omega,by rw[List.length_map];omega,λs' h' le hri=>hK s' h' le ⟨⟨vs,hri,h2,h3⟩,h4⟩⟩
theorem K2:Sound Tryz.prog 46 WA:=by
 refine hX Tryz.func46 ?_;rintro cvs m h K ⟨v,s,t,sl,r,rfl,hs,hv,hl,hK⟩;refine⟨dN [(53,R3)] [] [] [] false,rfl,aD f53_sound aF,OZ v t sl m h K,by kernel_rfl,?_⟩;dsimp only[OZ,push_cast];have htl:=hs.tables.slen;have hrl:=bY.slen hv;have none_:sR s t=false->K lU m h:=λe=>hK ⟨none,0,0⟩ h (.refl _) (by simp only[Fe,e];exact bY.nil _ _ _ _);refine aE (λh1=>none_ (by simp[sR];omega)) (λh1=>aE (λh2=>none_ (by simp[sR];omega)) (λh2=>?_));have e:sR s t=true:=by simp[sR];omega
 obtain⟨tb,htb⟩:∃tb,s.tables[t.toNat]? =some tb:=⟨_,List.getElem?_eq_getElem aC⟩
 obtain⟨b,o,y,ea,rd,hy⟩:=bY.at hs.tables htb;have hk:=hy.key;obtain⟨a,len,cap⟩:=sl;have hcap:len<=cap:=by obtain⟨vs,h5,_⟩:=hv.ex;exact h5.cap
 have hrl:len=r.length:=hrl
 have hmm:(if(if(len:Int)<y.key then(len:Int)else y.key)>0 then(if(len:Int)<y.key then(len:Int)else y.key)else 0)=max 0 (min tb.key r.length):=by
  rw[<-hk];split<;>split<;>omega
 refine⟨b,o,ea,aC,aC,y.key,.imm (aZ.part rd 2 1),?_⟩;dsimp only;rw[hmm];have e2:Fe s t r=r.take (max 0 (min tb.key r.length)).toNat:=by simp only[Fe,e,if_true,htb];rfl
 rw[e2]at hK;exact⟨aC,aC,⟨a,(max 0 (min tb.key r.length)).toNat,cap⟩,_,rfl,hv.cut aC,by rw[List.length_take];omega,hK⟩
theorem Nr.snoc{key:Int}{ks:List Int}{l:List VV}{k:Int}{v:VV}(x:Nr key (ks.take i) l)(hk:ks[i]? =some k)(hv:HB v)(hf:wG key k i v=true):Nr key (ks.take (i+1)) (l++[v]):=by
 obtain⟨h1,h2,h3⟩:=x;have hi:=(List.getElem?_eq_some_iff.1 hk).1;have hl:l.length=i:=by rw[h1,List.length_take];omega
 refine⟨by rw[List.length_append,List.length_take];simp;omega,λu hu=>?_,λj u k' hu hk'=>?_⟩
 .rcases List.mem_append.1 hu with hu|hu
  .exact h2 u hu
  .simp at hu;subst hu;exact hv
 .rw[List.getElem?_take]at hk';split at hk'
  .by_cases hj:j<l.length
   .rw[List.getElem?_append_left hj]at hu;exact h3 j u k' hu (by rw[List.getElem?_take,if_pos aC];exact hk')
   .have:j=i:=by omega
    subst this;rw[List.getElem?_append_right aC,hl,Nat.sub_self]at hu;simp at hu;subst hu;rw[hk]at hk';cases hk';exact hf
  .cases hk'
theorem Ov{key k c:Int}(hc:c=1\/c=2)(hi:(i:Int)>=key):wG key k i ⟨c,0,⟨#[]⟩⟩=true:=by
 rcases hc with rfl|rfl<;>simp[wG,jL,DQ]<;>omega
theorem Ge{key k:Int}{v:VV}(hk:X8 k)(hv:Tf k v):wG key k i v=true:=by
 obtain⟨h1,h2⟩:=hv hk;simp[wG,h1,h2]
theorem NF(c:Int):HB ⟨c,0,⟨#[]⟩⟩:=⟨⟨by simp,by simp⟩,by show(ByteArray.mk #[]).size<=64;decide⟩
theorem T6:Sound Tryz.prog 43 Zf:=by
 refine hX Tryz.func43 ?_;rintro cvs m h K ⟨cb,s,key,ks,rfl,hc,hs,hl,hk,hK⟩;refine⟨Xy cb key s,rfl,aD wL (aD Gf aF),O2 cb s key m h K,by kernel_rfl,?_⟩;dsimp only[O2,push_cast];have hsl:=hs.slen;refine⟨λz=>z.2.2.2=h/\z.1<=ks.length/\Nr key (ks.take z.1) z.2.1/\bB m z.2.2.1 cb/\aK z.2.2.1 h cb,λz=>ks.length-z.1,⟨(0,[],m,h),⟨rfl,by simp,⟨by simp,by simp,λj u k h=>by simp at h⟩,.refl _ _,hc⟩,MT⟩,?_⟩;rintro⟨i,l,m1,h'⟩ ⟨e1,hi,hfit,o1,c1⟩;dsimp only at e1 hi hfit o1 c1⊢
 subst e1;have hll:l.length=i:=by rw[hfit.1,List.length_take];omega
 refine aE (λhlt=>?_) (λhge s' h2 le2 hri=>?_)
 .obtain⟨k,hx⟩:=fJ hsl hlt;obtain⟨b,o,ea,rd⟩:=hs.at' hx;have hkk:=hk k (List.mem_of_getElem? hx);have hI:∀(u:VV)(m':MH),HB u->wG key k i u=true->bB m1 m' cb->aK m' h' cb->h'=h'/\i+1<=ks.length/\Nr key (ks.take (i+1)) (l++[u])/\bB m m' cb/\aK m' h' cb:=λu m' hu hf o c=>⟨rfl,aC,hfit.snoc hx hu hf,o1.trans o,c⟩
  have hmu:ks.length-(i+1)<ks.length-i:=by omega
  have hw:IntKind.i64.wrap ((i:Int)+1)=((i+1:Nat):Int):=kN aC;refine⟨b,o,ea,aC,aC,k,.imm rd,aE (λhik=>⟨cb,5,rfl,aC,aC,c1,λr m2 o2 c2=>aB (λ_=>?_) (λ_=>aE (λ_=>⟨cb,5,rfl,aC,aC,c2,λr m3 o3 c3=>aB (λ_=>?_) (λ_=>⟨cb,k,rfl,c3,λu m4 hu hku o4 c4=>?_⟩)⟩) (λ_=>⟨cb,k,rfl,c2,λu m4 hu hku o4 c4=>?_⟩))⟩) (λhik=>aE (λhik2=>absurd hik2 hik) (λ_=>⟨cb,k,rfl,c1,λu m4 hu hku o4 c4=>?_⟩))⟩
  .refine⟨by rw[List.length_map];omega,by rw[List.length_map];omega,(i+1,l++[⟨2,0,⟨#[]⟩⟩],m2,h'),hI _ m2 (NF 2) (Ov (.inr rfl) hik) o2 c2,hmu,?_⟩;rw[hw,List.map_append];exact MT
  .refine⟨by rw[List.length_map];omega,by rw[List.length_map];omega,(i+1,l++[⟨1,0,⟨#[]⟩⟩],m3,h'),hI _ m3 (NF 1) (Ov (.inl rfl) hik) (o2.trans o3) c3,hmu,?_⟩;rw[hw,List.map_append];exact MT
  .refine⟨by rw[List.length_map];omega,by rw[List.length_map];omega,(i+1,l++[u],m4,h'),hI _ m4 hu (Ge hkk hku) ((o2.trans o3).trans o4) c4,hmu,?_⟩;rw[hw,List.map_append];exact MT
  .refine⟨by rw[List.length_map];omega,by rw[List.length_map];omega,(i+1,l++[u],m4,h'),hI _ m4 hu (Ge hkk hku) (o2.trans o4) c4,hmu,?_⟩;rw[hw,List.map_append];exact MT
  .refine⟨by rw[List.length_map];omega,by rw[List.length_map];omega,(i+1,l++[u],m4,h'),hI _ m4 hu (Ge hkk hku) o4 c4,hmu,?_⟩;rw[hw,List.map_append];exact MT
 .rw[List.take_of_length_le aC]at hfit;exact hK s' l m1 h2 le2 ⟨⟨l,hri,rfl,λi x hx=>⟨x,hx,rfl⟩⟩,aC⟩ hfit o1 (c1.mono le2)
theorem T5:Sound Tryz.prog 45 Zh:=by
 refine hX Tryz.func45 ?_;rintro cvs m h K ⟨v,s,tb,n,cap,us,u,t,tab,rs,sk,kr,sr,row,rfl,hs,htab,hT,hn,hu,hrs,hrl,hrw,hkr,hrow,h0,h1,hK⟩;refine⟨Xv v ⟨some ⟨tb,0,none⟩,n,cap⟩ t sk sr m,rfl,aD K2 (aD K1 (aD f53_sound aF)),O0 v tb n cap t sk sr m h K,by kernel_rfl,?_⟩;dsimp only[O0,push_cast];obtain⟨cur,hcur,hcs,hcl⟩:=hT;have htl:t<us.length:=(List.getElem?_eq_some_iff.1 hu).1;have hul:=bY.slen hrs;have hsrl:=bY.slen hrow;have hd0:((sr.len:Int)==0)=false:=by simp;omega
 have hrd:(cur.toList.drop (0+t*1)).take [dT u].length=[dT u]:=by
  have hcurt:cur.toList[t]? =some (Sl.val u):=by
   have e:(cur.toList.take us.length)[t]? =some (Sl.val u):=by rw[hcl,List.getElem?_map,hu];rfl
   rwa [List.getElem?_take,if_pos htl]at e
  have hlt:=(List.getElem?_eq_some_iff.1 hcurt).1;rw[Nat.zero_add,Nat.mul_one,List.drop_eq_getElem_cons hlt,(List.getElem?_eq_some_iff.1 hcurt).2];rfl
 refine⟨tb,0,rfl,aC,aC,u,.lent cur 53 (0,0) hcur hrd,λz=>z.2.2.2.1=u/\z.1<=rs.length/\PH.le h z.2.2.2.2/\∃out,eC z.2.2.2.2 z.2.1 out/\out.length<=2*z.1/\out++wT tab kr row z.2.2.1 (rs.drop z.1)=wT tab kr row false rs,λz=>rs.length-z.1,⟨(0,[],false,u,h),⟨rfl,by simp,.refl _,[],eC.nil _,by simp,by simp⟩,by rw[hd0];exact MT⟩,?_⟩;rintro⟨i,vs,d,u',hx⟩ ⟨e1,hi,le1,out,hru,hol,kS⟩;dsimp only at e1 hi le1 hru hol kS⊢
 subst e1;have hvl:=hru.len;refine aE (λhlt=>?_) (λhge=>?_)
 .obtain⟨r,hxr⟩:=fJ hul hlt;have hil:=(List.getElem?_eq_some_iff.1 hxr).1;obtain⟨b,o,w,ea,rd,hv⟩:=bY.at hrs hxr;have hdrop:rs.drop i=r::rs.drop (i+1):=by rw[List.drop_eq_getElem_cons hil,(List.getElem?_eq_some_iff.1 hxr).2]
  rw[hdrop,wT]at kS;refine⟨b,o,ea,aC,aC,w,.imm (rd.mono le1),v,s,t,w,r,rfl,hs.mono le1,cK.mono hv le1,hrw r (List.mem_of_getElem? hxr),λs' h2 le2 hkv=>⟨s',sk,_,kr,rfl,hkv,cK.mono hkr (le1.trans le2),?_⟩⟩;rw[C7 htab];generalize hc:dR (jK tab r) kr=c at kS⊢
  refine⟨λz=>z.1=i/\z.2.2.2.1=u'/\z.2.2.2.2.1=w/\z.2.2.2.2.2.1=c/\PH.le hx z.2.2.2.2.2.2/\∃out,eC z.2.2.2.2.2.2 z.2.1 out/\out.length<=2*i+1/\out++((if c≠0 then[r]else[])++wT tab kr row z.2.2.1 (rs.drop (i+1)))=wT tab kr row false rs,aE (λhc0=>aB (λhd=>?_) (λhd=>?_)) (λhc0=>?_),?_⟩
  .have hd:d=false:=by simpa using hd
   subst hd;rw[if_pos ⟨hc0,rfl⟩,show(false||decide (0<=c))=true by simp;omega]at kS;refine⟨sr,row,rfl,cK.mono hrow (le1.trans le2),h1,λs2 h3 le3 hv3=>⟨by rw[List.length_map];omega,by rw[List.length_map];omega,(i,vs++[s2],true,u',w,c,h3),⟨rfl,rfl,rfl,rfl,le2.trans le3,out++[row],(hru.mono (le2.trans le3)).snoc hv3,by rw[List.length_append];simp;omega,?_⟩,?_⟩⟩
   .rw[List.append_assoc];exact kS
   .rw[List.map_append];exact MT
  .have hd:d=true:=by simpa using hd
   subst hd;rw[if_neg (by simp),Bool.true_or,List.nil_append]at kS;exact⟨(i,vs,true,u',w,c,h2),⟨rfl,rfl,rfl,rfl,le2,out,hru.mono le2,aC,kS⟩,MT⟩
  .rw[if_neg (λh=>hc0 h.1),show(d||decide (0<=c))=d by rw[decide_eq_false hc0,Bool.or_false],List.nil_append]at kS;exact⟨(i,vs,d,u',w,c,h2),⟨rfl,rfl,rfl,rfl,le2,out,hru.mono le2,aC,kS⟩,MT⟩
  clear kS hru hol hvl out vs;rintro⟨i',vs,d,u2,w2,c2,h3⟩ ⟨e2,e3,e4,e5,le3,out,hru,hol,kS⟩;dsimp only at e2 e3 e4 e5 le3 hru hol kS⊢
  subst e2 e3 e4 e5;have hvl:=hru.len;have hw:IntKind.i64.wrap ((i':Int)+1)=((i'+1:Nat):Int):=kN aC;refine aB (λhcn=>?_) (λhcn=>?_)
  .rw[if_pos (by simpa using hcn)]at kS;refine⟨by rw[List.length_map];omega,by rw[List.length_map];omega,(i'+1,vs++[w2],d,u2,h3),⟨rfl,by show i'+1<=rs.length;omega,le1.trans le3,out++[r],hru.snoc (cK.mono hv (le1.trans le3)),by rw[List.length_append];simp;omega,by rw[List.append_assoc];exact kS⟩,by show rs.length-(i'+1)<rs.length-i';omega,?_⟩;rw[hw,List.map_append];exact MT
  .rw[if_neg (by simpa using hcn),List.nil_append]at kS;refine⟨(i'+1,vs,d,u2,h3),⟨rfl,by show i'+1<=rs.length;omega,le1.trans le3,out,hru,by show out.length<=2*(i'+1);omega,kS⟩,by show rs.length-(i'+1)<rs.length-i';omega,?_⟩;rw[hw];exact MT
 .have hi2:i=rs.length:=by omega
  rw[hi2,List.drop_length,wT]at kS;refine⟨λz=>PH.le h z.2/\eC z.2 z.1 (wT tab kr row false rs),aB (λhd=>?_) (λhd=>?_),?_⟩
  .have hd:d=false:=by simpa using hd
   rw[hd,if_neg (by simp)]at kS;refine⟨sr,row,rfl,cK.mono hrow le1,h1,λs2 h3 le3 hv3=>⟨by rw[List.length_map];omega,by rw[List.length_map];omega,(vs++[s2],h3),⟨le1.trans le3,by rw[<-kS];exact(hru.mono le3).snoc hv3⟩,?_⟩⟩;rw[List.map_append];exact MT
  .have hd:d=true:=by simpa using hd
   rw[hd,if_pos rfl,List.append_nil]at kS;exact⟨(vs,hx),⟨le1,by rw[<-kS];exact hru⟩,MT⟩
  rintro⟨vs2,h3⟩ ⟨le3,hru3⟩;dsimp only at le3 hru3⊢
  have hpl:=HG (t:=tab) (key:=kr) (row:=row) (l:=rs) (d:=false);refine⟨tb,0,rfl,aC,aC,λs2 h4 le4 hri=>⟨cur,53,⟨hcur⟩,?_,λm' hup=>hK s2 m' h4 (le3.trans le4) ((hru3.mono le4).rows hri (by simp at hpl;omega)) ⟨_,hup.at_,?_,?_⟩ ⟨λb hb=>(hup.other b hb).symm▸rfl⟩⟩⟩
  .omega
  .have hsp:splice cur.toList (0+((t:Int)).toNat*1) [dT s2]=cur.toList.set t (Sl.val s2):=by
    rw[List.set_eq_take_append_cons_drop,if_pos (by rw[Array.length_toList];omega)];simp only[splice,Int.toNat_natCast,Nat.zero_add,Nat.mul_one,List.length_singleton,List.append_assoc];rfl
   rw[hsp];simp only[List.length_set,List.size_toArray,Array.length_toList];exact hcs
  .have hsp:splice cur.toList (0+((t:Int)).toNat*1) [dT s2]=cur.toList.set t (Sl.val s2):=by
    rw[List.set_eq_take_append_cons_drop,if_pos (by rw[Array.length_toList];omega)];simp only[splice,Int.toNat_natCast,Nat.zero_add,Nat.mul_one,List.length_singleton,List.append_assoc];rfl
   rw[hsp,List.length_set,List.map_set, <-hcl,List.take_set]
def J8{α:Type}(T:List α->α->Prop):List α->List α->Prop
 |_,[]=>True
 |pre,x::r=>T pre x/\J8 T (pre++[x]) r
theorem Ou{α:Type}{T:List α->α->Prop}:∀{l pre:List α},J8 T pre l->∀(j:Nat) x,l[j]? =some x->T (pre++l.take j) x
 |[],_,_,j,x,e=>by simp at e
 |y::r,pre,h,0,x,e=>by simp at e;subst e;simpa using h.1
 |y::r,pre,h,j+1,x,e=>by
  have:=Ou h.2 j x (by simpa using e);simpa using this
theorem wE{α:Type}{T:List α->α->Prop}{l:List α}(h:J8 T [] l):Good T l:=λj x e=>by simpa using Ou h j x e
theorem TM{α:Type}{T:List α->α->Prop}{l:List α}(h:Good T l)(n:Nat):Good T (l.take n):=λj x e=>by
 rw[List.getElem?_take]at e;split at e
 .rename_i hj;rw[List.take_take,Nat.min_eq_left aC];exact h j x e
 .cases e
theorem UY(h8:s.tables.length<=8)(hl:∀t∈s.tables,t.columns.length<=8/\t.refs=[]/\t.checks=[])(v0:0<=s.version)(v1:s.version<=1000)(hg:Good Aa s.tables):eD s=0:=by
 have lim:Bm s:=⟨h8,λj t e=>by
  obtain⟨h1,h2,h3⟩:=hl t (List.mem_of_getElem? e);exact⟨h1,by simp[h2],by simp[h3]⟩⟩
 have ok:Hu s:=⟨v0,v1,hg,λj t e=>by
  obtain⟨h1,h2,h3⟩:=hl t (List.mem_of_getElem? e);unfold By;rw[h2];intro i x e2;simp at e2⟩
 rw[FQ lim ok];refine zH _ λe he=>?_;obtain⟨i,_,he⟩:=List.mem_flatMap.1 he;unfold qI at he;split at he
 .rename_i t ht;obtain⟨h1,h2,h3⟩:=hl t (List.mem_of_getElem? ht);rw[h3]at he;simp at he
 .simp at he
theorem P8{id:Int}(h:id=4\/id=5):Good Aa (kI id):=by
 have hk:dO id=true:=by rcases h with rfl|rfl<;>rfl
 refine wE ⟨⟨?_,?_,?_,?_,wE ⟨⟨?_,?_,?_⟩,⟨?_,?_,?_⟩,trivial⟩⟩,⟨?_,?_,?_,?_,wE ⟨⟨?_,?_,?_⟩,⟨?_,?_,?_⟩,⟨?_,?_,?_⟩,⟨?_,?_,?_⟩,trivial⟩⟩,⟨?_,?_,?_,?_,wE ⟨⟨?_,?_,?_⟩,⟨?_,?_,?_⟩,trivial⟩⟩,⟨?_,?_,?_,?_,wE ⟨⟨?_,?_,?_⟩,trivial⟩⟩,trivial⟩
 all_goals first|exact hk|rfl|(simp;done)|decide
theorem Eu(h:pE s):eD s=0/\s.tables≠[]:=by
 obtain⟨ver,n,id,v0,v1,n2,n4,hid,rfl⟩:=h.ex;refine⟨UY (by simp[kI];omega) (λt ht=>?_) v0 (by show ver<=1000;omega) (TM (P8 hid) n),λe=>?_⟩
 .have ht:=List.mem_of_mem_take ht;simp only[kI,List.mem_cons,List.not_mem_nil,or_false]at ht;rcases ht with rfl|rfl|rfl|rfl<;>exact⟨by simp,rfl,rfl⟩
 .have:=congrArg List.length e;simp[kI]at this;omega
theorem FW(h:pE s){t:uK}(ht:t∈s.tables):1<=t.key/\1<=t.columns.length/\t.columns.length<=4/\∀c∈t.columns,X8 c.kind:=by
 obtain⟨ver,n,id,v0,v1,n2,n4,hid,rfl⟩:=h.ex;have hk:X8 id:=by rcases hid with rfl|rfl;exact .inr (.inl rfl);exact .inr (.inr rfl)
 have ht:=List.mem_of_mem_take ht;simp only[kI,List.mem_cons,List.not_mem_nil,or_false]at ht;rcases ht with rfl|rfl|rfl|rfl
 all_goals
  refine⟨by simp,by simp,by simp,λc hc=>?_⟩;simp only[List.mem_cons,List.not_mem_nil,or_false]at hc
 .rcases hc with rfl|rfl<;>exact .inr (.inl rfl)
 .rcases hc with rfl|rfl|rfl|rfl
  .exact hk
  .exact .inr (.inl rfl)
  .exact .inr (.inr rfl)
  .exact .inl rfl
 .rcases hc with rfl|rfl<;>exact .inr (.inl rfl)
 .subst hc;exact hk
theorem IK(h:pE s):Wn s:=λt k hk=>by
 unfold gT at hk;split at hk
 .simp at hk
 .split at hk
  .simp at hk
  .rename_i tb htb;obtain⟨c,hc,rfl⟩:=List.mem_map.1 hk;exact(FW h (List.mem_of_getElem? htb)).2.2.2 c hc
end Go.Ps
