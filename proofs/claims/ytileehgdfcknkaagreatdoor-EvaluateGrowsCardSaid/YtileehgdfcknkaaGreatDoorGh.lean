/-
  Part 8 of a proof that a law of the given program returns true: a condition generator that is proved sound, and contracts of functions. No condition of its own. Own work, joined by a program (pack2.py).
-/
import Derived.Test.YtileehgdfcknkaaGreatDoorGg
set_option linter.unusedVariables false
set_option linter.unusedSimpArgs false
namespace Go.Ps
open Go Go.Vc Go.Proofs
variable{K:CV->MH->PH->Prop}{m:MH}{h:PH}{s:nY}{ps:List Int}{cb:Nat}{sc:bR}{v:QV}{q:Query}{p:Pred}{l:List Int}{i:Nat}{N:Nat}{m':MH}{h':PH}{co:List Int}{gr:List Int}{od:List (Int×Bool)}{w:Pred}{ta:Int}{li:Int}{xs:List (List Value)}{sz:Nat}{k:Nat}{ks:List (List Int)}{rs:List Int}{r:Sl}{a:List Int}{b:Nat}
structure Bl(s:nY)(c:Nat)(ls:List (List (List VV)))(k:Nat)(ts:List Int):Prop where
 at_:∀(j:Nat)(t:Int),ts[j]? =some t->∃l,ls[k+j]? =some l/\gZ (gR s t).length l/\l.length<=c
theorem Bl.left{c:Nat}{ls:List (List (List VV))}{b:List Int}(x:Bl s c ls k (a++b)):Bl s c ls k a:=
 ⟨λj t h=>x.at_ j t (by rw[List.getElem?_append_left (List.getElem?_eq_some_iff.1 h).1];exact h)⟩
theorem Bl.right{c:Nat}{ls:List (List (List VV))}{b:List Int}(x:Bl s c ls k (a++b)):Bl s c ls (k+a.length) b:=
 ⟨λj t h=>by
  have:=x.at_ (a.length+j) t (by rw[List.getElem?_append_right aC,Nat.add_sub_cancel_left];exact h)
  rwa [show k+a.length+j=k+(a.length+j)by omega]⟩
theorem w8{op:Int}{on:List (Int×Int)}{args:List Query}{ks:List Int}(h:bZ s ps (.mk op ta w co on gr od li args)=(ks,0)):
 ∃kss,fZ s ps args=(kss,0)/\(kss.length:Int)=arity op/\jC s ps (.mk op ta w co on gr od li args) (kss.getD 0 []) (kss.getD 1 [])=(ks,0):=by
 rw[bZ]at h;generalize fZ s ps args=r at h;obtain⟨kss,e⟩:=r;dsimp only at h;split at h
 .rename_i e0;subst e0;split at h
  .rename_i h1;exact⟨kss,rfl,h1,h⟩
  .simp[j7]at h
 .rename_i e0;simp only[j7,Prod.mk.injEq]at h;exact absurd h.2 e0
theorem jY{qs:List Query}{kss:List (List Int)}(h:fZ s ps (q::qs)=(kss,0)):∃k kss',bZ s ps q=(k,0)/\fZ s ps qs=(kss',0)/\kss=k::kss':=by
 rw[fZ]at h;generalize bZ s ps q=r at h;obtain⟨k,e⟩:=r;generalize fZ s ps qs=r at h;obtain⟨ks,e'⟩:=r;dsimp only at h;split at h
 .rename_i e0;split at h
  .rename_i e1;simp only[Prod.mk.injEq,and_true]at h;exact⟨k,ks,by rw[e0],by rw[e1],h.symm⟩
  .rename_i e1;simp only[Prod.mk.injEq]at h;exact absurd h.2 e1
 .rename_i e0;simp only[Prod.mk.injEq]at h;exact absurd h.2 e0
theorem pB{ks:List Int}(h:zK l=(ks,0)):ks=l/\l.length<=12:=by
 unfold zK at h;split at h
 .rename_i h1;simp only[Prod.mk.injEq,and_true]at h;exact⟨h.symm,h1⟩
 .simp at h
theorem RR{op:Int}(h:arity op=0):op=1:=by
 unfold arity at h;split at h
 .rename_i e;simpa using e
 .split at h
  .omega
  .split at h<;>omega
mutual
theorem PK{s:nY}{ps:List Int}{c:Nat}(hc:1<=c):∀{q:Query}{ks:List Int},bZ s ps q=(ks,0)->1<=lL c q
 |.mk op ta w co on gr od li args,ks,h=>by
  obtain⟨kss,h1,h2,h3⟩:=w8 h;have h4:=RS hc h1;rw[lL];split
  .exact hc
  .rename_i n1;split
   .exact h4.1
   .match args,h1,h4 with
    |[],h1,_=>rw[fZ]at h1;simp only[Prod.mk.injEq,and_true]at h1;rw[<-h1]at h2;exact absurd (RR h2.symm) n1
    |q::qs,h1,h4=>exact h4.2 (by simp)
theorem RS{s:nY}{ps:List Int}{c:Nat}(hc:1<=c):∀{qs:List Query}{kss:List (List Int)},fZ s ps qs=(kss,0)->1<=uQ c qs/\(qs≠[]->1<=zT c qs)
 |[],kss,h=>by simp[uQ]
 |q::qs,kss,h=>by
  obtain⟨k,kss',h1,h2,h3⟩:=jY h;have h4:=PK hc h1;have h5:=RS hc h2;rw[uQ,zT];exact⟨Nat.mul_pos h4 h5.1,λ_=>by omega⟩
end
def L3(c:Nat):List Query->List (List Int)->List (List (List VV))->Prop
 |[],[],[]=>True
 |q::qs,k::ks,l::ls=>gZ k.length l/\l.length<=lL c q/\L3 c qs ks ls
 |_,_,_=>False
theorem MG{α:Type}:∀{l:List α},l.length=2->∃a b,l=[a,b]
 |[a,b],_=>⟨a,b,rfl⟩
theorem L3.len{c:Nat}{qs:List Query}{ls:List (List (List VV))}(h:L3 c qs ks ls):qs.length=ks.length/\ls.length=ks.length:=by
 induction qs generalizing ks ls with
 |nil=>
  match ks,ls,h with
  |[],[],_=>exact⟨rfl,rfl⟩
  |_::_,[],h=>exact h.elim
  |[],_::_,h=>exact h.elim
  |_::_,_::_,h=>exact h.elim
 |cons q qs ih=>
  match ks,ls,h with
  |[],[],h=>exact h.elim
  |_::_,[],h=>exact h.elim
  |[],_::_,h=>exact h.elim
  |k::ks,l::ls,h=>
   obtain⟨h1,h2⟩:=ih h.2.2;exact⟨by simp[h1],by simp[h2]⟩
theorem gZ.filter{w:Nat}{l:List (List VV)}(x:gZ w l)(p:List VV->Bool):gZ w (l.filter p):=
 ⟨λr h=>x.row r (List.mem_filter.1 h).1,λr h=>x.wid r (List.mem_filter.1 h).1,x.srt.filter p,Nat.le_trans (List.length_filter_le _ _) x.len⟩
theorem Oi(x:List VV):∀l:List (List VV),(F8 x l).length<=l.length+1
 |[]=>by simp[F8]
 |y::l=>by
  have:=Oi x l;simp only[F8];split
  .simp
  .split<;>simp<;>omega
theorem Ef:∀l:List (List VV),(wN l).length<=l.length
 |[]=>by simp[wN]
 |x::l=>by
  have h1:=Ef l;have h2:=Oi x (wN l);show(F8 x (wN l)).length<=(x::l).length;simp only[List.length_cons];omega
theorem gZ.set{w:Nat}{l:List (List VV)}(h1:∀r∈l,Nt r)(h2:∀r∈l,r.length=w)(h3:l.length<=1000000):gZ w (wN l):=
 ⟨λr h=>h1 r (uF.1 h),λr h=>h2 r (uF.1 h),BH l,Nat.le_trans (Ef l) h3⟩
theorem Fw:∀{x y u v:List VV},x.length=y.length->dT (x++u) (y++v)=if dT x y≠0 then dT x y else dT u v
 |[],[],u,v,_=>by simp[dT]
 |a::x,b::y,u,v,h=>by
  simp only[List.length_cons,Nat.add_right_cancel_iff]at h;simp only[List.cons_append,dT];by_cases e:j8 a b=0
  .simp only[e,ne_eq,not_true_eq_false,if_false];exact Fw h
  .simp[e]
 |[],_::_,_,_,h=>by simp at h
 |_::_,[],_,_,h=>by simp at h
theorem yO{on:List (Int×Int)}{b:List (List VV)}{x z:List VV}(h:z∈kD on b x):∃y∈b,z=x++y:=by
 unfold kD at h;split at h
 .obtain⟨y,hy,rfl⟩:=List.mem_map.1 h;exact⟨y,(List.mem_filter.1 hy).1,rfl⟩
 .simp at h
theorem gZ.join{w w':Nat}{a b:List (List VV)}{on:List (Int×Int)}(ha:gZ w a)(hb:gZ w' b)(hw:w+w'<=12)(hl:a.length*b.length<=1000000):gZ (w+w') (a.flatMap (kD on b)):=by
 refine⟨λr h=>?_,λr h=>?_,?_,Nat.le_trans (uJ λx _=>yP) hl⟩
 .obtain⟨x,hx,h⟩:=List.mem_flatMap.1 h;obtain⟨y,hy,rfl⟩:=yO h;have h1:=ha.wid x hx;have h2:=hb.wid y hy;refine⟨by rw[List.length_append];omega,λv hv=>?_⟩;rcases List.mem_append.1 hv with hv|hv
  .exact(ha.row x hx).val v hv
  .exact(hb.row y hy).val v hv
 .obtain⟨x,hx,h⟩:=List.mem_flatMap.1 h;obtain⟨y,hy,rfl⟩:=yO h;rw[List.length_append,ha.wid x hx,hb.wid y hy]
 .refine List.pairwise_flatMap.2 ⟨λx hx=>?_,?_⟩
  .unfold kD;split
   .refine List.pairwise_map.2 ((hb.srt.filter _).imp fun{y z} h=>?_);rw[Fw rfl,if_neg (by rw[jB.2 rfl];simp)];exact h
   .exact List.Pairwise.nil
  .refine ha.srt.imp_of_mem fun{x y} hx hy h z hz u hu=>?_;obtain⟨z',_,rfl⟩:=yO hz;obtain⟨u',_,rfl⟩:=yO hu;rw[Fw (by rw[ha.wid x hx,ha.wid y hy]),if_pos aC];exact h
theorem ML{c:Int}(h:FE a c=true):0<=c/\c<a.length:=by
 simp only[FE,Bool.and_eq_true,decide_eq_true_eq]at h;exact h
theorem E9{α:Type}{T:List α->α->Prop}{l:List α}(h:Good T l){x:α}(hx:x∈l):∃pre,T pre x:=by
 obtain⟨i,hi,e⟩:=List.mem_iff_getElem.1 hx;exact⟨_,h i x (by rw[<-e];exact List.getElem?_eq_getElem hi)⟩
theorem Ep:∀(n:Nat)(l:List Int),l.Nodup->(∀x∈l,0<=x/\x<n)->l.length<=n
 |0,[],_,_=>by simp
 |0,x::l,_,h=>by have:=h x (List.mem_cons_self ..);omega
 |n+1,l,hd,h=>by
  by_cases hn:(n:Int)∈l
  .have h1:=Ep n (l.erase n) (hd.erase _) (λx hx=>by
    have h2:=(hd.mem_erase_iff).1 hx;have:=h x h2.2;omega)
   rw[List.length_erase_of_mem hn]at h1;omega
  .have:=Ep n l hd (λx hx=>by
    have:=h x hx;have h3:x≠(n:Int):=λe=>hn (e▸hx);omega)
   omega
theorem Jo{α:Type}{T:List α->α->Prop}{l:List α}(f:α->Int)(hT:∀pre x,T pre x->f x∉pre.map f)(h:Good T l):(l.map f).Nodup:=by
 rw[List.nodup_iff_pairwise_ne,List.pairwise_map,List.pairwise_iff_getElem];intro i j hi hj hij e;refine hT _ _ (h j l[j] (List.getElem?_eq_getElem hj)) (List.mem_map.2 ⟨l[i],?_,e⟩);rw[List.mem_take_iff_getElem];exact⟨i,aC,rfl⟩
theorem Jn(h:Good (GR a) gr)(hl:a.length<=12):gX a.length gr:=by
 have h1:∀c∈gr,0<=c/\c<a.length:=λc hc=>by obtain⟨_,h2⟩:=E9 h hc;exact ML h2.1
 have h2:=Jo id (λpre x(h:GR a pre x)=>by simpa using h.2) h;rw[List.map_id]at h2;exact⟨h1,by have:=Ep _ _ h2 h1;omega⟩
theorem KC{b:List Int}{on:List (Int×Int)}(h:Good (Al a b) on)(ha:a.length<=12)(hb:b.length<=12):gX a.length (j4 on)/\gX b.length (gA on):=by
 have h1:∀c∈j4 on,0<=c/\c<a.length:=λc hc=>by
  obtain⟨p,hp,rfl⟩:=List.mem_map.1 hc;obtain⟨_,h2⟩:=E9 h hp;exact ML h2.1
 have h2:∀c∈gA on,0<=c/\c<b.length:=λc hc=>by
  obtain⟨p,hp,rfl⟩:=List.mem_map.1 hc;obtain⟨_,h2⟩:=E9 h hp;exact ML h2.2.1
 have h3:(j4 on).Nodup:=Jo Prod.fst (λpre x(h:Al a b pre x) hm=>by
  obtain⟨y,hy,e⟩:=List.mem_map.1 hm;exact(h.2.2.2 y hy).1 e) h
 have h4:=Ep _ _ h3 h1;exact⟨⟨h1,aC⟩,⟨h2,by simp only[j4,gA,List.length_map]at h4⊢;omega⟩⟩
theorem N3{w:Nat}{r:List VV}(hr:Nt r)(hw:r.length=w)(hc:gX w co)(hl:co.length<=12):Nt (pick r co)/\(pick r co).length=co.length:=
 ⟨⟨by simpa[pick]using hl,En hr (by rw[hw];exact hc)⟩,by simp[pick]⟩
theorem Eb{c:Nat}{p:Query}:zT c [q,p]=lL c q+lL c p:=by simp[zT]
theorem Md{c:Nat}:zT c [q]=lL c q:=by simp[zT]
theorem U9{c:Nat}{p:Query}:uQ c [q,p]=lL c q*lL c p:=by simp[uQ]
theorem WZ{c:Nat}{op:Int}{on:List (Int×Int)}{args:List Query}{ks:List Int}{kss:List (List Int)}{L:List (List (List VV))}(n1:op≠1)
 (h2:(kss.length:Int)=arity op)(h12:∀k∈kss,k.length<=12)(h3:jC s ps (.mk op ta w co on gr od li args) (kss.getD 0 []) (kss.getD 1 [])=(ks,0))(hA:L3 c args kss L)(hb:lL c (.mk op ta w co on gr od li args)<=1000000):
 YX op (.mk op ta w co on gr od li args) L/\gZ ks.length (WY op (.mk op ta w co on gr od li args) L)/\(WY op (.mk op ta w co on gr od li args) L).length<=lL c (.mk op ta w co on gr od li args):=by
 rw[lL,if_neg n1]at hb⊢
 unfold jC at h3;dsimp only at h3;split at h3
 .simp[j7]at h3
 have one:arity op=1->∃q k l,args=[q]/\kss=[k]/\L=[l]/\gZ k.length l/\l.length<=lL c q/\k.length<=12:=λe=>by
  obtain⟨l1,l2⟩:=hA.len;obtain⟨k,rfl⟩:=List.length_eq_one_iff.1 (show kss.length=1 by omega);obtain⟨q,rfl⟩:=List.length_eq_one_iff.1 (show args.length=1 by simpa using l1);obtain⟨l,rfl⟩:=List.length_eq_one_iff.1 (show L.length=1 by simpa using l2);exact⟨q,k,l,rfl,rfl,rfl,hA.1,hA.2.1,h12 k (by simp)⟩
 have two:arity op=2->∃q p k k' l l',args=[q,p]/\kss=[k,k']/\L=[l,l']/\gZ k.length l/\l.length<=lL c q/\gZ k'.length l'/\l'.length<=lL c p/\k.length<=12/\k'.length<=12:=λe=>by
  obtain⟨l1,l2⟩:=hA.len;obtain⟨k,k',rfl⟩:=MG (show kss.length=2 by omega);obtain⟨q,p,rfl⟩:=MG (show args.length=2 by simpa using l1);obtain⟨l,l',rfl⟩:=MG (show L.length=2 by simpa using l2);exact⟨q,p,k,k',l,l',rfl,rfl,rfl,hA.1,hA.2.1,hA.2.2.1,hA.2.2.2.1,h12 k (by simp),h12 k' (by simp)⟩
 have ar:op=2\/op=3\/op=9\/op=4\/op=5\/op=6\/op=7\/op=8\/op=10:=by
  have:0<=arity op:=by omega
  unfold arity at this;split at this
  .rename_i e;simp at e;exact absurd e n1
  .split at this
   .rename_i e;simp at e;omega
   .split at this
    .rename_i e;simp at e;omega
    .omega
 rcases ar with rfl|rfl|rfl|rfl|rfl|rfl|rfl|rfl|rfl
 .obtain⟨q,k,l,rfl,rfl,rfl,hr,hl,hk⟩:=one rfl;simp only[show((2:Int)=4)=False by decide,if_false,if_true]at h3 hb⊢
  split at h3
  .obtain⟨rfl,_⟩:=pB h3;refine⟨⟨by simp,λx hx=>by simp at hx;subst hx;exact⟨_,hr⟩⟩,hr.filter _,Nat.le_trans (List.length_filter_le _ _) ?_⟩;rw[Md];exact hl
  .rename_i e;simp only[j7,Prod.mk.injEq]at h3;exact absurd h3.2 e
 .obtain⟨q,k,l,rfl,rfl,rfl,hr,hl,hk⟩:=one rfl;simp only[show((3:Int)=4)=False by decide,show((3:Int)=2)=False by decide,if_false,if_true]at h3 hb⊢
  split at h3
  .rename_i hg;obtain⟨rfl,h12'⟩:=pB h3;rw[List.length_map]at h12'⊢
   have hc:gX k.length co:=⟨λc hc=>by obtain⟨_,h2⟩:=E9 hg.2 hc;exact ML h2,aC⟩
   rw[Md]at hb⊢
   refine⟨⟨by simp,h12',_,hr,hc⟩,gZ.set (λr h=>?_) (λr h=>?_) (by show(l.map _).length<=_;rw[List.length_map];exact hr.len),Nat.le_trans (Ef _) (by show(l.map _).length<=_;rw[List.length_map];exact hl)⟩
   .obtain⟨x,hx,rfl⟩:=List.mem_map.1 h;exact(N3 (hr.row x hx) (hr.wid x hx) hc h12').1
   .obtain⟨x,hx,rfl⟩:=List.mem_map.1 h;exact(N3 (hr.row x hx) (hr.wid x hx) hc h12').2
  .simp[j7]at h3
 .obtain⟨q,k,l,rfl,rfl,rfl,hr,hl,hk⟩:=one rfl;simp only[show((9:Int)=4)=False by decide,show((9:Int)=2)=False by decide,show((9:Int)=3)=False by decide,show((9:Int)=5)=False by decide,if_false,if_true]at h3 hb⊢
  split at h3
  .rename_i hg;obtain⟨rfl,h12'⟩:=pB h3;rw[Md]at hb⊢
   exact⟨⟨by simp,⟨_,hr,Jn hg.group_ hk⟩,hg.low⟩,hr.filter _,Nat.le_trans (List.length_filter_le _ _) hl⟩
  .simp[j7]at h3
 .obtain⟨q,p,k,k',l,l',rfl,rfl,rfl,hr,hl,hr',hl',hk,hk'⟩:=two rfl;simp only[show((4:Int)=2)=False by decide,show((4:Int)=3)=False by decide,if_false,if_true]at h3 hb⊢
  split at h3
  .rename_i hg;obtain⟨rfl,h12'⟩:=pB h3;rw[U9]at hb⊢
   have hc:=KC hg hk hk';have hm:l.length*l'.length<=lL c q*lL c p:=Nat.mul_le_mul hl hl';rw[List.length_append]at h12'⊢
   exact⟨⟨⟨by simp,_,_,hr,hr',hc.1,hc.2⟩,Nat.le_trans hm hb⟩,hr.join hr' h12' (Nat.le_trans hm hb),Nat.le_trans (uJ λx _=>yP) hm⟩
  .simp[j7]at h3
 .obtain⟨q,p,k,k',l,l',rfl,rfl,rfl,hr,hl,hr',hl',hk,hk'⟩:=two rfl;simp only[show((5:Int)=2)=False by decide,show((5:Int)=3)=False by decide,show((5:Int)=4)=False by decide,if_false,if_true]at h3 hb⊢
  split at h3
  .rename_i hg;obtain⟨rfl,h12'⟩:=pB h3;rw[Eb]at hb⊢
   have hc:=KC hg hk hk';exact⟨⟨by simp,_,_,hr,hr',hc.1,hc.2⟩,hr.filter _,Nat.le_trans (List.length_filter_le _ _) (by show l.length<=_;omega)⟩
  .simp[j7]at h3
 all_goals
  obtain⟨q,p,k,k',l,l',rfl,rfl,rfl,hr,hl,hr',hl',hk,hk'⟩:=two rfl
 .simp only[show((6:Int)=2)=False by decide,show((6:Int)=3)=False by decide,show((6:Int)=4)=False by decide,show((6:Int)=5)=False by decide,show((6:Int)=9)=False by decide,show((6:Int)=10)=False by decide,if_false,if_true]at h3 hb⊢
  split at h3
  .rename_i hg;have hg:k=k':=hg;subst hg;obtain⟨rfl,h12'⟩:=pB h3;rw[Eb]at hb⊢
   have hll:(l++l').length<=lL c q+lL c p:=by rw[List.length_append];omega
   refine⟨⟨by simp,λx hx=>by simp at hx;rcases hx with rfl|rfl;exact⟨_,hr⟩;exact⟨_,hr'⟩⟩,gZ.set (λr h=>?_) (λr h=>?_) (Nat.le_trans hll hb),Nat.le_trans (Ef _) hll⟩
   .rcases List.mem_append.1 h with h|h
    .exact hr.row r h
    .exact hr'.row r h
   .rcases List.mem_append.1 h with h|h
    .exact hr.wid r h
    .exact hr'.wid r h
  .simp[j7]at h3
 .simp only[show((7:Int)=2)=False by decide,show((7:Int)=3)=False by decide,show((7:Int)=4)=False by decide,show((7:Int)=5)=False by decide,show((7:Int)=9)=False by decide,show((7:Int)=10)=False by decide,if_false,if_true]at h3 hb⊢
  split at h3
  .rename_i hg;have hg:k=k':=hg;subst hg;obtain⟨rfl,h12'⟩:=pB h3;rw[Eb]at hb⊢
   exact⟨⟨by simp,_,λx hx=>by simp at hx;rcases hx with rfl|rfl;exact hr;exact hr'⟩,hr.filter _,Nat.le_trans (List.length_filter_le _ _) (by show l.length<=_;omega)⟩
  .simp[j7]at h3
 .simp only[show((8:Int)=2)=False by decide,show((8:Int)=3)=False by decide,show((8:Int)=4)=False by decide,show((8:Int)=5)=False by decide,show((8:Int)=9)=False by decide,show((8:Int)=10)=False by decide,if_false,if_true]at h3 hb⊢
  split at h3
  .rename_i hg;have hg:k=k':=hg;subst hg;obtain⟨rfl,h12'⟩:=pB h3;rw[Eb]at hb⊢
   exact⟨⟨by simp,_,λx hx=>by simp at hx;rcases hx with rfl|rfl;exact hr;exact hr'⟩,hr.filter _,Nat.le_trans (List.length_filter_le _ _) (by show l.length<=_;omega)⟩
  .simp[j7]at h3
 .simp only[show((10:Int)=2)=False by decide,show((10:Int)=3)=False by decide,show((10:Int)=4)=False by decide,show((10:Int)=5)=False by decide,show((10:Int)=9)=False by decide,if_false,if_true]at h3 hb⊢
  split at h3
  .rename_i hg;obtain⟨hg,hg2⟩:=hg;have hg:k=k':=hg;subst hg;obtain⟨rfl,h12'⟩:=pB h3;rw[Eb]at hb⊢
   exact⟨⟨by simp,_,hr,hr',Jn hg2.group_ hk⟩,hr.filter _,Nat.le_trans (List.length_filter_le _ _) (by show l.length<=_;omega)⟩
  .simp[j7]at h3
theorem PJ{s:nY}{ps:List Int}{c:Nat}(hc:1<=c):∀{qs:List Query}{kss:List (List Int)},fZ s ps qs=(kss,0)->∀q∈qs,lL c q<=zT c qs/\lL c q<=uQ c qs
 |[],_,_,q,hq=>by simp at hq
 |p::qs,kss,h,q,hq=>by
  obtain⟨k,kss',h1,h2,h3⟩:=jY h;have h4:=PK hc h1;have h5:=(RS hc h2).1;rw[zT,uQ];rcases List.mem_cons.1 hq with rfl|hq
  .exact⟨aC,Nat.le_mul_of_pos_right _ h5⟩
  .have:=PJ hc h2 q hq;exact⟨aC,Nat.le_trans this.2 (Nat.le_mul_of_pos_left _ h4)⟩
theorem Jk{s:nY}{ps:List Int}:∀{qs:List Query}{kss:List (List Int)},fZ s ps qs=(kss,0)->∀k∈kss,k.length<=12
 |[],kss,h,k,hk=>by rw[fZ]at h;simp only[Prod.mk.injEq,and_true]at h;subst h;simp at hk
 |q::qs,kss,h,k,hk=>by
  obtain⟨k',kss',h1,h2,rfl⟩:=jY h;rcases List.mem_cons.1 hk with rfl|hk
  .have:=DR s ps q;rw[h1]at this;exact this
  .exact Jk h2 k hk
structure ZI(c:Nat)(ls:List (List (List VV)))(q:Query)(k:Nat)(ks:List Int):Prop where
 ok:Sm ls q k
 rel:gZ ks.length (fO ls q k).1
 bnd:(fO ls q k).1.length<=lL c q
 nxt:(fO ls q k).2=k+(eH q).length
mutual
theorem Ca{s:nY}{ps:List Int}{c:Nat}{ls:List (List (List VV))}(hc:1<=c):∀{q:Query}{ks:List Int}{k:Nat},bZ s ps q=(ks,0)->Bl s c ls k (eH q)->lL c q<=1000000->ZI c ls q k ks
 |.mk op ta w co on gr od li args,ks,k,h,hl,hb=>by
  obtain⟨kss,h1,h2,h3⟩:=w8 h;by_cases e:op=1
  .subst e
   have h0:args=[]:=by
    cases args with
    |nil=>rfl
    |cons q qs=>obtain⟨_,_,_,_,rfl⟩:=jY h1;simp[arity]at h2;omega
   subst h0;have hs:eH (.mk 1 ta w co on gr od li [])=[ta]:=by simp[eH,dC]
   unfold jC at h3;dsimp only at h3;split at h3
   .simp[j7]at h3
   try rw[if_pos rfl]at h3
   split at h3
   .obtain⟨rfl,_⟩:=pB h3;rw[hs]at hl;obtain⟨l,e1,e2,e3⟩:=hl.at_ 0 ta rfl;rw[Nat.add_zero]at e1;have e4:(fO ls (.mk 1 ta w co on gr od li []) k)=(l,k+1):=by rw[fO,if_pos rfl,List.getD_eq_getElem?_getD,e1];rfl
    refine⟨by rw[Sm,if_pos rfl];exact(List.getElem?_eq_some_iff.1 e1).1,by rw[e4];exact e2,by rw[e4,lL,if_pos rfl];exact e3,by rw[e4,hs];rfl⟩
   .simp[j7]at h3
  .have hs:eH (.mk op ta w co on gr od li args)=dC args:=by simp[eH,e]
   rw[hs]at hl
   have hb2:∀q∈args,lL c q<=1000000:=λq hq=>by
    have h5:=PJ hc h1 q hq;rw[lL,if_neg e]at hb;split at hb<;>omega
   obtain⟨o1,o2,o3⟩:=LK hc h1 hl hb2;obtain⟨n1,n2,n3⟩:=WZ e h2 (Jk h1) h3 o2 hb;have e4:fO ls (.mk op ta w co on gr od li args) k=(WY op (.mk op ta w co on gr od li args) (dV ls args k).1,(dV ls args k).2):=by rw[fO,if_neg e]
   exact⟨by rw[Sm,if_neg e];exact⟨n1,o1⟩,by rw[e4];exact n2,by rw[e4];exact n3,by rw[e4,hs];exact o3⟩
theorem LK{s:nY}{ps:List Int}{c:Nat}{ls:List (List (List VV))}(hc:1<=c):∀{qs:List Query}{kss:List (List Int)}{k:Nat},fZ s ps qs=(kss,0)->Bl s c ls k (dC qs)->(∀q∈qs,lL c q<=1000000)->N7 ls qs k/\L3 c qs kss (dV ls qs k).1/\(dV ls qs k).2=k+(dC qs).length
 |[],kss,k,h,_,_=>by
  rw[fZ]at h;simp only[Prod.mk.injEq,and_true]at h;subst h;simp[N7,dV,L3,dC]
 |q::qs,kss,k,h,hl,hb=>by
  obtain⟨k1,kss',h1,h2,rfl⟩:=jY h;rw[dC]at hl;have e1:=Ca hc h1 hl.left (hb q (List.mem_cons_self ..));have e2:=LK hc h2 hl.right (λp hp=>hb p (List.mem_cons_of_mem _ hp));rw[<-e1.nxt]at e2;rw[N7,dV,dC];refine⟨⟨e1.ok,e2.1⟩,⟨e1.rel,e1.bnd,e2.2.1⟩,?_⟩;rw[e2.2.2,e1.nxt,List.length_append];omega
end
structure u6(m:MH)(tb:Nat)(ws:List bO):Prop where
 ex:∃cur:Array Value,m tb=some (.cells cur 86 (0,0))/\cur.toList.take (ws.length*5)=(ws.map bO.enc).flatten
def Td:Vc.Spec:=λcvs m h K=>∃ver tb n cap ws w cols,∃t:Nat,cvs=[aS ⟨ver,⟨some ⟨tb,0,none⟩,n,cap⟩⟩,cI t]/\t<n/\u6 m tb ws/\ws[t]? =some w/\BB h w.columns cols/\cols.length<=8/\
 ∀sl h',PH.le h h'->Ints h' sl (cols.map mA.kind)->K (cS sl) m h'
noncomputable def XF(cb:Nat):Ctx:=
 uM [(15,FB),(16,Kb),(76,Tk),(44,Td),(30,xE)] [] [(5,{A:=Int×Int×MH×PH,st:=λ⟨n,id,m,h⟩=>cD 86 87 [(0,pv cb),(2,.at (.ptr 2 0)),(3,iv n),(4,iv id)] [(2,.cells 43 [.val (.int .i64 0),.val (.slice none 0 0)])] m h}),
  (9,{A:=Int×bR×MH×PH,st:=λ⟨n,s,m,h⟩=>cD 86 87 [(0,pv cb),(2,.at (.ptr 2 0)),(3,iv n),(5,.at (.ptr 5 0))] [(2,.cells 43 [.val (.int .i64 0),.val (.slice none 0 0)]),(5,.cells 43 (s.enc.map .val))] m h}),
  (11,{A:=Int×bR×MH×PH,st:=λ⟨n,s,m,h⟩=>cD 86 87 [(0,pv cb),(2,.at (.ptr 2 0)),(3,iv n),(5,.at (.ptr 5 0))] [(2,.cells 43 [.val (.int .i64 0),.val (.slice none 0 0)]),(5,.cells 43 (s.enc.map .val))] m h}),
  (13,{A:=bR×MH×PH,st:=λ⟨s,m,h⟩=>cD 86 87 [(0,pv cb),(2,.at (.ptr 2 0)),(5,.at (.ptr 5 0))] [(2,.cells 43 [.val (.int .i64 0),.val (.slice none 0 0)]),(5,.cells 43 (s.enc.map .val))] m h}),
  (15,{A:=bR×MH×PH,st:=λ⟨s,m,h⟩=>cD 86 87 [(2,.at (.ptr 2 0)),(5,.at (.ptr 5 0))] [(2,.cells 43 [.val (.int .i64 0),.val (.slice none 0 0)]),(5,.cells 43 (s.enc.map .val))] m h})] [] [41] [] false
def kR(id:Int):List uD:=
 [⟨⟨⟨[112,114,111,106,101,99,116,115]⟩⟩,[⟨⟨⟨[105,100]⟩⟩,4⟩,⟨⟨⟨[111,119,110,101,114]⟩⟩,4⟩],1,[],[]⟩,
  ⟨⟨⟨[116,97,115,107,115]⟩⟩,[⟨⟨⟨[105,100]⟩⟩,id⟩,⟨⟨⟨[112,114,111,106,101,99,116]⟩⟩,4⟩,⟨⟨⟨[116,105,116,108,101]⟩⟩,5⟩,⟨⟨⟨[100,111,110,101]⟩⟩,3⟩],1,[],[]⟩,
  ⟨⟨⟨[109,101,109,98,101,114,115]⟩⟩,[⟨⟨⟨[112,114,111,106,101,99,116]⟩⟩,4⟩,⟨⟨⟨[112,101,114,115,111,110]⟩⟩,4⟩],2,[],[]⟩,
  ⟨⟨⟨[97,114,99,104,105,118,101,100]⟩⟩,[⟨⟨⟨[116,97,115,107]⟩⟩,id⟩],1,[],[]⟩]
structure Ip(h:PH)(t:uD)(w:bO):Prop where
 name_:w.name=t.name
 key_:w.key=t.key
 cols_:BB h w.columns t.columns
def RU(h:PH)(id:Int)(ws:List bO):Prop:=ws.length=4/\∀(i:Nat) t,(kR id)[i]? =some t->∃w,ws[i]? =some w/\Ip h t w
structure yX(m0:MH)(h0:PH)(cb:Nat)(tb n:Nat)(id:Int)(ws:List bO)(s:bR)(m:MH)(h:PH):Prop where
 le_:PH.le h0 h
 ver0:0<=s.version
 ver1:s.version<=2
 case_:aM m h cb
 n2:2<=n
 n4:n<=4
 sl_:∃cap,s.tables=⟨some ⟨tb,0,none⟩,n,cap⟩/\n<=cap
 id_:id=4\/id=5
 new_:m0 tb=none
 ne_:tb≠cb
 row_:u6 m tb ws
 ws_:RU h id ws
 other_:∀b,b≠cb->b≠tb->m b=m0 b
def SY:Vc.Spec:=λcvs m h K=>∃cb,cvs=[cP cb]/\aM m h cb/\∀tb n id ws s m' h',yX m h cb tb n id ws s m' h'->K (aS s) m' h'
noncomputable def X5:Ctx:=
 uM [(39,SY)] [(3,{A:=Nat×bR×MH×PH,st:=λ⟨i,s,m,h⟩=>cD 25 26 [(2,.at (.ptr 2 0)),(3,.at (.ptr 3 0)),(9,iv s.tables.len),(10,iv i)] [(2,.cells 43 [.val (.int .i64 0),.val (.slice none 0 0)]),(3,.cells 43 (s.enc.map .val))] m h})] [] [] [41] [] false
def Gg(v:bR)(t:Int)(m:MH)(h:PH)(K:CV->MH->PH->Prop):Prop:=
  aW t 0 (K Dm m h) (gK t (hU v) (K Dm m h) (HS v t m h (λb=>b) (λo=>o) 5 (λy=>y) (λy I x=>aA (I x) (eL 32) (aA (bI y (kM x)) (bP y (kM x)) (aA (aZ x.1) (pJ (pW x)) (aA (m=m) (h=h) True)))) (λI m1 x=>HR (I x) x 0 (λb o y=>aL m h b (bF o x.1 2) (nQ y.name y.kind)) (λy x1=>aA (I x1) (m1 x1<m1 x) (aA (eL 32) (bI (kM x) (kM x1)) (aA (bP (kM x) (kM x1)) (fV (bB x.1 1)=bM x1.1) (aA (rA (pW x) y.kind (pW x1)) (m=m) (bN h h))))) (bV h 1 (gU (pW x)) (λs h1=>K (lY s) m h1)))))
theorem XA(v:bR)(t:Int)(m:MH)(h:PH)(K:CV->MH->PH->Prop):Gg v t m h K=(Ab (MS m h) Tryz.f44 (dO Tryz.f44) (entry Tryz.f44.ntmps [aS v,cI t] m h) K):=by kernel_rfl
abbrev rD:Prop:=eQ (oQ 43 (pA (eZ 0) JW))
abbrev vV(a:ByteArray)(b:Int)(c:ByteArray)(d:Int)(e:ByteArray->Int->Prop):Prop:=cJ (jI a) b=cJ (jI c) d/\∃(x:ByteArray)(x1:Int),e x x1
noncomputable abbrev HV:ByteArray:=ByteArray.mk (Array.mk (fY 105 (fY 100 [])))
noncomputable abbrev HW(a:Nat):ByteArray:=ByteArray.mk (Array.mk (fY 112 (fY 114 (fY 111 (fY 106 (fY 101 (fY a (p8 116))))))))
noncomputable abbrev CO(a b c d:Nat)(e:List UInt8)(g:Sl)(i:Int):List Value:=aT (Value.string (ByteArray.mk (Array.mk (fY a (fY b (fY c (fY d e))))))) (eC g) (aT (eN i) uE iL)
noncomputable abbrev i7(a:bR×MH×PH):Nat->Nat->Option Value:=a.2.2
abbrev CG(a:Int×bR×MH×PH->Prop)(b c:Nat)(d:Int)(e:(Int×bR×MH×PH)->Prop)(g:Nat->Option Obj)(i:Nat->Nat->Option Value):Prop:=∃(x:Int×bR×MH×PH),aA (a x) (dG b) (aA (eP c) (cL d x.1) (aA eE rD (aA (e x) (bG g x.2.2) (bN i (i7 x.2)))))
noncomputable abbrev qX(a:Int×bR×MH×PH):bR:=a.2.1
abbrev lO(a b:bR):Prop:=oQ 43 (FY a)=oQ 43 (FY b)
attribute [push_cast] rD vV HV HW CO i7 CG qX lO
def O3(cb:Nat)(m:MH)(h:PH)(K:CV->MH->PH->Prop):Prop:=
  jF cb 3 m h (λk m1=>∃(I:Int×Int×MH×PH->Prop),mF cb 5 m1 h (λc r=>∀(m2:MH),aR (bA m1 m2 c) (aM m2 h c) (branch r (∃(x:Int×Int×MH×PH),aA (I x) (dG cb) (aA gC (cL (iN (2+k)) x.1) (aA (cL 5 x.2.1) rD (aA (bG m2 x.2.2) (h=x.2.2.2) True)))) (∃(x:Int×Int×MH×PH),aA (I x) (dG cb) (aA gC (cL (iN (2+k)) x.1) (aA (cL 4 x.2.1) rD (aA (bG m2 x.2.2) (h=x.2.2.2) True))))))/\∀(x:Int×Int×MH×PH),I x->jF cb 3 x.2.2.1 x.2.2.2 (λk1 m2=>∃(n:ByteArray)(k2:Int),vV HV 4 n k2 (λn1 k3=>vV (ByteArray.mk (Array.mk (fY 111 (fY 119 (fY 110 (fY 101 (p8 114))))))) 4 n1 k3 (λn2 k4=>vV HV x.2.1 n2 k4 (λn3 k5=>vV (HW 99) 4 n3 k5 (λn4 k6=>vV (ByteArray.mk (Array.mk (fY 116
 (fY 105 (fY 116 (fY 108 (p8 101))))))) 5 n4 k6 (λn5 k7=>vV (ByteArray.mk (Array.mk (fY 100 (fY 111 (fY 110 (fY 101 [])))))) 3 n5 k7 (λn6 k8=>vV (HW 99) 4 n6 k8 (λn7 k9=>vV (ByteArray.mk (Array.mk (fY 112 (fY 101 (fY 114 (fY 115 (fY 111 (fY 110 [])))))))) 4 n7 k9 (λn8 a=>cJ (jI (ByteArray.mk (Array.mk (fY 116 (fY 97 (fY 115 (fY 107 []))))))) x.2.1=cJ (jI n8) a/\bV x.2.2.2 2 (nQ n k2::gM (nQ n1 k3)) (λs h1=>bV h1 2 (nQ n2 k4::nQ n3 k5::nQ n4 k6::gM (nQ n5 k7)) (λs1 h2=>bV h2 2 (nQ n6 k8::gM (nQ n7 k9)) (λs2 h3=>bV h3 2 (gM (nQ n8 a)) (λs3 h4=>iA (λs4 m3=>mU m2 m3 h4 s4 86 5 (CO 112 114 111 106 (fY 101 (fY 99 (fY 116 (fY 115 [])))) s 1::CO 116 97 115
 107 (p8 115) s1 1::CO 109 101 109 98 (fY 101 (fY 114 (p8 115))) s2 2::gM (CO 97 114 99 104 (fY 105 (fY 118 (fY 101 (fY 100 [])))) s3 1))->aA (cG x.1) (x.1<=(↑s4.cap:Int)) (∃(I1:Int×bR×MH×PH->Prop),mF cb 2 m3 h4 (λc r=>∀(m4:MH),aR (bA m3 m4 c) (aM m4 h4 c) (branch r (bV h4 1 (gM (bW 1)) (λs5 h5=>bD (λb o=>aH (bE s4.a b o) ((0:Int)<=1) (1<(↑x.1.toNat:Int)) (bV h5 2 (gM (jS (eC s5) cO)) (λs6 h6=>fD (λc1 E=>aA (pH m4 b (dY c1 E 0)) (dU (o+5+3) c1) (∀(m5:MH),bC m4 m5 b (splice c1.toList (o+5+3) (aK s6)) E->CG I1 cb 2 x.1 (λx1=>oQ 43 (pA (eZ k1) (At.val (Value.slice s4.a x.1.toNat s4.cap)))=oQ 43 (FY (qX x1))) m5 h6))))))) (CG I1 cb 2 x.1 (λx1=>oQ 43 (pA (eZ k1) (At.val
 (Value.slice s4.a x.1.toNat s4.cap)))=oQ 43 (FY (qX x1))) m4 h4)))/\∀(x1:Int×bR×MH×PH),I1 x1->∃(I2:Int×bR×MH×PH->Prop),eX x1.1 2 (mF cb 3 x1.2.2.1 (i7 x1.2) (λc r=>∀(m4:MH),aR (bA x1.2.2.1 m4 c) (aM m4 (i7 x1.2) c) (branch r (bV (i7 x1.2) 1 (gM (iR cO)) (λs5 h5=>Cy (qX x1) 2 (λb o=>bV h5 2 (gM (jS (eC s5) cO)) (λs6 h6=>fD (λc1 E=>aA (pH m4 b (dY c1 E 0)) (dU (o+10+3) c1) (∀(m5:MH),bC m4 m5 b (splice c1.toList (o+10+3) (aK s6)) E->CG I2 cb 2 x1.1 (λx2=>lO (qX x1) (qX x2)) m5 h6)))))) (CG I2 cb 2 x1.1 (λx2=>lO (qX x1) (qX x2)) m4 (i7 x1.2))))) (CG I2 cb 2 x1.1 (λx2=>lO (qX x1) (qX x2)) x1.2.2.1 (i7 x1.2))/\∀(x2:Int×bR×MH×PH),I2 x2->∃
 (I3:bR×MH×PH->Prop),eX x2.1 3 (mF cb 3 x2.2.2.1 (i7 x2.2) (λc r=>∀(m4:MH),aR (bA x2.2.2.1 m4 c) (aM m4 (i7 x2.2) c) (branch r (bV (i7 x2.2) 1 (gM (iR cO)) (λs5 h5=>Cy (qX x2) 3 (λb o=>bV h5 2 (gM (jS (eC s5) (eN 1))) (λs6 h6=>fD (λc1 E=>aA (pH m4 b (dY c1 E 0)) (dU (o+15+3) c1) (∀(m5:MH),bC m4 m5 b (splice c1.toList (o+15+3) (aK s6)) E->∃(x3:bR×MH×PH),aA (I3 x3) (dG cb) (aA gC eE (aA rD (lO (qX x2) x3.1) (aA (bG m5 x3.2) (h6=i7 x3) True))))))))) (∃(x3:bR×MH×PH),aA (I3 x3) (dG cb) (aA gC eE (aA rD (lO (qX x2) x3.1) (aA (bG m4 x3.2) (i7 x2.2=i7 x3) True))))))) (∃(x3:bR×MH×PH),aA (I3 x3) (dG cb) (aA gC eE (aA rD
 (lO (qX x2) x3.1) (aA (bG x2.2.2.1 x3.2) (i7 x2.2=i7 x3) True))))/\∀(x3:bR×MH×PH),I3 x3->∃(I4:bR×MH×PH->Prop),mF cb 3 x3.2.1 (i7 x3) (λc r=>∀(m4:MH),aR (bA x3.2.1 m4 c) (aM m4 (i7 x3) c) (branch r (∃(v:Int),bD (λt n9=>∃(c1:Nat)(w:List bO)(w1:bO)(c2:List mA)(t1:Nat),aA (cJ (jK (cA x3.1)) 1=cJ (jK (jS (eN v) (Value.slice (kC t) n9 c1))) (↑t1:Int)) (t1<n9) (aA (u6 m4 t w) (w[t1]? =Option.some w1) (aA (BB (i7 x3) w1.columns c2) (c2.length<=8) (∀(s5:Sl)(h5:PH),dE (i7 x3) h5 (Ints h5 s5 (List.map mA.kind c2)) (∃(c3:Nat),v8 (λs6 t2 c4 p d=>aA (qJ cb 0::cW s5 (cJ Dm 1)=tC c3 s6 t2 d) (aM m4 h5 c3) (aA (Ints h5 s6 c4) (Ints h5 t2 p) (aH (gE c4) (gE p) (mO d) (AH
 (λv1 p1=>fU (λm5 h6=>dE h5 h6 (fA h6 p1 v1) (aR (vA c4 p d p1) (bA m4 m5 c3) (kA m5 h6 c3 (Cy x3.1 1 (λb o=>bV h6 13 (gM v1.enc) (λs7 h7=>fD (λc5 E=>aA (pH m5 b (dY c5 E 0)) (dU (o+5+4) c5) (∀(m6:MH),bC m5 m6 b (splice c5.toList (o+5+4) (aK s7)) E->∃(x4:bR×MH×PH),aA (I4 x4) gC (aA eE rD (aH (lO x3.1 x4.1) (bG m6 x4.2) (h7=i7 x4) True))))))))))))))))))))) (∃(x4:bR×MH×PH),aA (I4 x4) gC (aA eE rD (aH (lO x3.1 x4.1) (bG m4 x4.2) (i7 x3=i7 x4) True)))))/\∀(x4:bR×MH×PH),I4 x4->K (jK (cA x4.1)) x4.2.1 (i7 x4)))))))))))))))))
def JH(cb:Nat)(m:MH)(h:PH)(K:CV->MH->PH->Prop):Prop:=
  ∃(c:Nat),aA (fT (qJ cb 0) (qJ c 0)) (aM m h c) (∀(t n:Nat)(i:Int)(w:List bO)(s:bR),fU (λm1 h1=>yX m h c t n i w s m1 h1->∃(I:Nat×bR×MH×PH->Prop)(m2:Nat×bR×MH×PH->Nat),(∃(x:Nat×bR×MH×PH),aA (I x) gC (aA (eP 3) (bP s.tables x.2.1.tables) (aA (aZ x.1) rD (aA (lO s x.2.1) (bG m1 x.2.2) (bN h1 (i7 x.2))))))/\∀(x:Nat×bR×MH×PH),I x->aW (↑x.1:Int) (aG x.2.1.tables) (bD (λb o=>aH (bE (oU x.2.1) b o) (0<=(↑x.1:Int)) ((↑x.1:Int)<aG x.2.1.tables) (fD (λc1 E=>aA (pH x.2.2.1 b (dY c1 E 0)) (dU (bF o x.1 5+3) c1) (∀(m3:MH),bC x.2.2.1 m3 b (splice c1.toList (bF o x.1 5+3) iL) E->bD (λb1 o1=>aH (bE (oU x.2.1) b1 o1) (0<=(↑x.1:Int)) ((↑x.1:Int)<aG
 x.2.1.tables) (fD (λc2 E1=>aA (pH m3 b1 (dY c2 E1 0)) (dU (bF o1 x.1 5+4) c2) (∀(m4:MH),bC m3 m4 b1 (splice c2.toList (bF o1 x.1 5+4) iL) E1->∃(x1:Nat×bR×MH×PH),aA (I x1) (m2 x1<m2 x) (aA gC (eP 3) (aA (bP x.2.1.tables x1.2.1.tables) (fV (bB x.1 1)=bM x1.1) (aA rD (lO x.2.1 x1.2.1) (bT (bG m4 x1.2.2) (i7 x.2) (i7 x1.2)))))))))))))) (K (jK (cA x.2.1)) x.2.2.1 (i7 x.2))))
theorem P4{α:Type}(l:List α)(o:Nat)(x:α)(h:o<l.length):splice l o [x]=l.set o x:=by
 rw[List.set_eq_take_append_cons_drop,if_pos h];simp[splice]
theorem flatten_set:∀(ws:List bO){i k:Nat}{w w':bO}{x:Value},ws[i]? =some w->k<5->w'.enc=w.enc.set k x->((ws.map bO.enc).flatten).set (i*5+k) x=((ws.set i w').map bO.enc).flatten
 |[],i,k,w,w',x,h,_,_=>by simp at h
 |u::ws,0,k,w,w',x,h,hk,e=>by
  simp at h;subst h;simp only[List.map_cons,List.flatten_cons,List.set_cons_zero,Nat.zero_mul,Nat.zero_add,e];rw[List.set_append_left _ _ (by simpa[bO.enc]using hk)]
 |u::ws,i+1,k,w,w',x,h,hk,e=>by
  simp only[List.map_cons,List.flatten_cons,List.set_cons_succ];have hl:u.enc.length=5:=rfl;rw[List.set_append_right _ _ (by rw[hl];omega),hl,show(i+1)*5+k-5=i*5+k by omega,flatten_set ws (by simpa using h) hk e]
theorem Vn(ws:List bO):((ws.map bO.enc).flatten).length=ws.length*5:=by
 induction ws with
 |nil=>rfl
 |cons w ws ih=>simp only[List.map_cons,List.flatten_cons,List.length_append,ih,List.length_cons];show 5+_=_;omega
theorem u6.big{tb:Nat}{ws:List bO}{cs:Array Value}{E:TypeId}{fz:Nat×Nat}(h:u6 m tb ws)(hm:m tb=some (.cells cs E fz)):ws.length*5<=cs.size:=by
 obtain⟨cur,h1,h2⟩:=h.ex;rw[h1]at hm;simp only[Option.some.injEq,Obj.cells.injEq]at hm;obtain⟨rfl,_,_⟩:=hm;have:=congrArg List.length h2;rw[Vn]at this;simp at this;omega
theorem u6.store{tb:Nat}{ws:List bO}{w w':bO}{x:Value}(h:u6 m tb ws)(hi:ws[i]? =some w)(hk:k<5)(e:w'.enc=w.enc.set k x){cs:Array Value}{E:TypeId}{fz:Nat×Nat}(hm:m tb=some (.cells cs E fz))
 (hu:m' tb=some (.cells (splice cs.toList (i*5+k) [x]).toArray E (0,0))):u6 m' tb (ws.set i w'):=by
 have hb:=h.big hm;have hil:=(List.getElem?_eq_some_iff.1 hi).1;obtain⟨cur,h1,h2⟩:=h.ex;rw[h1]at hm;simp only[Option.some.injEq,Obj.cells.injEq]at hm;obtain⟨rfl,rfl,_⟩:=hm;refine⟨_,hu,?_⟩;rw[P4 _ _ _ (by simp;omega),List.length_set,List.toList_toArray,List.take_set,h2];exact flatten_set ws hi hk e
theorem u6.rd{tb:Nat}{ws:List bO}(r:u6 m tb ws){j:Nat}{w:bO}{x:Value}(hi:ws[i]? =some w)(hj:w.enc[j]? =some x):aL m h tb (i*5+j) [x]:=by
 obtain⟨cur,h1,h2⟩:=r.ex;refine .of_m h1 ?_;have h3:=lC (xs:=ws.map bO.enc) (sz:=5) (λe he=>by obtain⟨x,_,rfl⟩:=List.mem_map.1 he;rfl) (by rw[List.getElem?_map,hi];rfl) j x hj;rw[<-h2,List.getElem?_take]at h3;split at h3
 .rw[drop_cons h3];rfl
 .cases h3
theorem XB{ver:Int}{tb n cap:Nat}{ws:List bO}{w:bO}{cols:List mA}{t:Nat}(ht:t<n)(hr:u6 m tb ws)(hw:ws[t]? =some w)(hc:BB h w.columns cols)(h8:cols.length<=8)
 (hK:∀sl h',PH.le h h'->Ints h' sl (cols.map mA.kind)->K (cS sl) m h'):Gg ⟨ver,⟨some ⟨tb,0,none⟩,n,cap⟩⟩ t m h K:=by
 dsimp only[Gg,push_cast];have hcl:=bH.slen hc;refine aE (λh1=>by omega) (λh1=>aE (λh2=>by have h2:(t:Int)>=(n:Int):=h2;omega) (λh2=>?_));refine⟨tb,0,rfl,aC,by show(t:Int)<(n:Int);omega,w.columns,?_,λ⟨i,sl,l⟩=>sl=w.columns/\i<=cols.length/\l=(cols.take i).map mA.kind,λ⟨i,_,_⟩=>cols.length-i,⟨(0,w.columns,[]),⟨rfl,by simp,by simp⟩,MT⟩,?_⟩
 .rw[Nat.zero_add,Int.toNat_natCast];exact hr.rd hw rfl
 rintro⟨i,_,_⟩ ⟨rfl,hi,rfl⟩;dsimp only;refine aE (λhlt=>?_) (λhge sl h' hle hrow=>?_)
 .obtain⟨c,hx⟩:=eY hcl hlt;obtain⟨b,o,e,r⟩:=BB.at hc hx;refine⟨b,o,e,aC,hlt,c,.imm r,?_,?_,(i+1,w.columns,(cols.take (i+1)).map mA.kind),⟨rfl,aC,rfl⟩,by show cols.length-(i+1)<cols.length-i;omega,?_⟩
  .simp;omega
  .simp;omega
  .rw[gG hx,List.map_append];exact MT
 .rw[List.take_of_length_le aC]at hrow;exact hK sl h' hle ⟨hrow,by simp;omega⟩
theorem Qp:Sound Tryz.prog 44 Td:=by
 refine eJ (fn:=Tryz.f44) (c:=dO Tryz.f44) Tryz.func44 rfl (by decide) ?_;rintro cvs m h K ⟨ver,tb,n,cap,ws,w,cols,t,rfl,h1,h2,h3,h4,h5,h6⟩;refine⟨MS m h,rfl,aF,?_⟩;rw[<-XA];exact XB h1 h2 h3 h4 h5 h6
theorem Ip.mono{t:uD}{w:bO}(x:Ip h t w)(le:PH.le h h'):Ip h' t w:=⟨x.name_,x.key_,bH.mono x.cols_ le λ_ _ e=>e⟩
theorem RU.mono{id:Int}{ws:List bO}(x:RU h id ws)(le:PH.le h h'):RU h' id ws:=⟨x.1,λi t e=>let⟨w,e1,e2⟩:=x.2 i t e;⟨w,e1,e2.mono le⟩⟩
theorem RU.set{id:Int}{ws:List bO}{w w':bO}(x:RU h id ws)(hi:ws[i]? =some w)(e1:w'.name=w.name)(e2:w'.key=w.key)(e3:w'.columns=w.columns):RU h id (ws.set i w'):=by
 refine⟨by rw[List.length_set];exact x.1,λj t e=>?_⟩;obtain⟨u,h1,h2⟩:=x.2 j t e;by_cases hj:i=j
 .subst hj;rw[hi]at h1;cases h1;exact⟨w',by rw[List.getElem?_set_self (List.getElem?_eq_some_iff.1 hi).1],⟨by rw[e1];exact h2.name_,by rw[e2];exact h2.key_,by rw[e3];exact h2.cols_⟩⟩
 .exact⟨u,by rw[List.getElem?_set_ne hj];exact h1,h2⟩
theorem yX.on{m0 m1:MH}{h0 h1:PH}{tb n:Nat}{id:Int}{ws:List bO}{s:bR}(x:yX m0 h0 cb tb n id ws s m h)(le:PH.le h h1)(ho:bA m m1 cb)(hc:aM m1 h1 cb):yX m0 h0 cb tb n id ws s m1 h1:=by
 refine⟨x.le_.trans le,x.ver0,x.ver1,hc,x.n2,x.n4,x.sl_,x.id_,x.new_,x.ne_,?_,x.ws_.mono le,λb n1 n2=>by rw[ho.other b n1];exact x.other_ b n1 n2⟩;obtain⟨cur,e1,e2⟩:=x.row_.ex;exact⟨cur,by rw[ho.other tb x.ne_];exact e1,e2⟩
theorem yX.store{m0:MH}{h0:PH}{tb n:Nat}{id:Int}{ws:List bO}{s:bR}(x:yX m0 h0 cb tb n id ws s m h){o:Nat}{w w':bO}{y:Value}(hi:ws[i]? =some w)(hk:k<5)(ho:o=i*5+k)(e:w'.enc=w.enc.set k y)(e1:w'.name=w.name)(e2:w'.key=w.key)(e3:w'.columns=w.columns){Q:MH->Prop}
 (hQ:∀m2,yX m0 h0 cb tb n id (ws.set i w') s m2 h->Q m2):∃(cs:Array Value)(E:TypeId),pH m tb (.cells cs E (0,0))/\o<cs.size/\∀m2:MH,jQ m m2 tb (.cells (splice cs.toList o [y]).toArray E (0,0))->Q m2:=by
 obtain⟨cur,h1,h2⟩:=x.row_.ex;have hil:=(List.getElem?_eq_some_iff.1 hi).1;refine⟨cur,86,⟨h1⟩,by have:=x.row_.big h1;omega,λm2 hu=>hQ m2 ?_⟩;subst ho;refine⟨x.le_,x.ver0,x.ver1,?_,x.n2,x.n4,x.sl_,x.id_,x.new_,x.ne_,x.row_.store hi hk e h1 hu.at_,x.ws_.set hi e1 e2 e3,λb n1 n2=>by rw[hu.other b n2];exact x.other_ b n1 n2⟩;obtain⟨r,q,cs,k,q1,q2⟩:=x.case_;exact⟨r,q,cs,k,by rw[hu.other cb x.ne_.symm];exact q1,q2⟩
theorem Fp{h:PH}{s:Sl}{l:List mA}(r:cR h s 2 (l.map mA.enc))(hl:l.length<=8):BB h s l:=⟨⟨l,r,rfl,λi x e=>⟨x,e,rfl⟩⟩,aC⟩
theorem mU.tabs{m m':MH}{h:PH}{s:Sl}{w:bO}{ws:List bO}(x:mU m m' h s 86 5 ((w::ws).map bO.enc)):∃tb cap,s=⟨some ⟨tb,0,none⟩,ws.length+1,cap⟩/\ws.length+1<=cap/\u6 m' tb (w::ws)/\cH m h tb/\∀b,b≠tb->m' b=m b:=by
 rcases x.row.ex with⟨_,e⟩|⟨b,cap,cur,e,hm,h1,_,h3,h4⟩
 .cases e
 .subst e;refine⟨b,cap,by simp,by simpa using h1,⟨cur,hm,by simpa using h4⟩,x.fresh b 0 rfl,λc hc=>x.other c (λi e=>by simp only[Option.some.injEq,Addr.mk.injEq]at e;exact hc e.1.symm)⟩
theorem Ub:Sound Tryz.prog 39 SY:=by
 refine iB Tryz.func39 ?_;rintro cvs m h K ⟨cb,rfl,hc,hK⟩;refine⟨XF cb,rfl,aD F7 (aD wI (aD T1 (aD Qp (aD C5 aF)))),O3 cb m h K,by kernel_rfl,?_⟩;dsimp only[O3,push_cast];refine⟨cb,3,rfl,hc,λk m1 k0 k1 o1 c1=>?_⟩;have hk2:IntKind.i64.wrap (2+k)=2+k:=eB aC aC;rw[hk2];refine⟨λ⟨n,id,mx,hx⟩=>2<=n/\n<=4/\(id=4\/id=5)/\hx=h/\bA m mx cb/\aM mx h cb,⟨cb,5,rfl,aC,aC,c1,λr m2 o2 c2=>aB (λ_=>⟨(2+k,5,m2,h),⟨by show 2<=2+k;omega,by show 2+k<=4;omega,.inr rfl,rfl,o1.trans o2,c2⟩,MT⟩) (λ_=>⟨(2+k,4,m2,h),⟨by show 2<=2+k;omega,by show 2+k<=4;omega,.inl rfl,rfl,o1.trans o2,c2⟩,MT⟩)⟩,?_⟩;clear o1 c1 m1 hk2 k0 k1 k;rintro⟨n,id,m1,hx⟩ ⟨n2,n4,hid,rfl,o1,c1⟩;dsimp only;refine⟨cb,3,rfl,c1,λk m2 k0 k1 o2 c2=>?_⟩;refine⟨_,_,rfl,_,_,rfl,_,_,rfl,_,_,rfl,_,_,rfl,_,_,rfl,_,_,rfl,_,_,rfl,_,_,rfl,λs1 h1 le1 r1 s2 h2 le2 r2 s3 h3 le3 r3 s4 h4 le4 r4 tl m3 hnew=>?_⟩;obtain⟨tb,cap,rfl,hcap,hrow,hun,hoth⟩:=mU.tabs (w:=⟨_,s1,1,cF,cF⟩) (ws:=[⟨_,s2,1,cF,cF⟩,⟨_,s3,2,cF,cF⟩,⟨_,s4,1,cF,cF⟩]) hnew;simp only[List.length_cons,List.length_nil]at hcap;have hle:PH.le hx h4:=((le1.trans le2).trans le3).trans le4
 have tbcb:tb≠cb:=λe=>by
  obtain⟨r,q,cs,j,q1,_⟩:=c2;have:=hun.m_;rw[e,q1]at this;cases this
 have hm0:m tb=none:=by rw[<-o1.other tb tbcb, <-o2.other tb tbcb];exact hun.m_
 have c3:aM m3 h4 cb:=by
  obtain⟨r,q,cs,j,q1,q2,q3⟩:=c2;exact⟨r,q,cs,j,by rw[hoth cb tbcb.symm];exact q1,q2.mono hle,q3⟩
 have S0:yX m hx cb tb n.toNat id _ ⟨k,⟨some ⟨tb,0,none⟩,n.toNat,cap⟩⟩ m3 h4:=⟨hle,k0,by show k<=2;omega,c3,aC,aC,⟨cap,rfl,aC⟩,hid,hm0,tbcb,hrow,⟨rfl,λi t e=>?_⟩,λb n1 n2=>by rw[hoth b n2,o2.other b n1,o1.other b n1]⟩
 rotate_left
 .match i,e with
  |0,e=>cases e;exact⟨_,rfl,⟨rfl,rfl,Fp (l:=[⟨_,_⟩,⟨_,_⟩]) (r1.mono ((le2.trans le3).trans le4)) (by decide)⟩⟩
  |1,e=>cases e;exact⟨_,rfl,⟨rfl,rfl,Fp (l:=[⟨_,_⟩,⟨_,_⟩,⟨_,_⟩,⟨_,_⟩]) (r2.mono (le3.trans le4)) (by simp)⟩⟩
  |2,e=>cases e;exact⟨_,rfl,⟨rfl,rfl,Fp (l:=[⟨_,_⟩,⟨_,_⟩]) (r3.mono le4) (by decide)⟩⟩
  |3,e=>cases e;exact⟨_,rfl,⟨rfl,rfl,Fp (l:=[⟨_,_⟩]) r4 (by simp)⟩⟩
  |i+4,e=>simp[kR]at e
 generalize hws:(bO.mk _ s1 1 cF cF::_)=ws0 at S0;clear hws hrow hnew r1 r2 r3 r4;have getw:∀{ws:List bO}{i:Nat},ws.length=4->i<4->∃w,ws[i]? =some w:=λhl hi=>⟨_,List.getElem?_eq_getElem aC⟩
 refine⟨aC,by show n<=(cap:Int);omega,λ⟨n',s,mx,hy⟩=>n'=n/\∃ws,yX m hx cb tb n.toNat id ws s mx hy,⟨cb,2,rfl,aC,aC,c3,λr m4 o4 c4=>aB (λ_ s5 h5 le5 r5=>⟨tb,0,rfl,aC,aC,λs6 h6 le6 r6=>?_⟩) (λ_=>⟨(n,⟨k,⟨some ⟨tb,0,none⟩,n.toNat,cap⟩⟩,m4,h4),⟨rfl,_,S0.on (.refl _) o4 c4⟩,MT⟩)⟩,?_⟩
 .obtain⟨w,hw⟩:=getw (i:=1) S0.ws_.1 aC;exact(S0.on (le5.trans le6) o4 (c4.mono (le5.trans le6))).store (k:=3) (w':={w with references:=s6}) hw aC rfl rfl rfl rfl rfl λm5 x5=>⟨(n,⟨k,⟨some ⟨tb,0,none⟩,n.toNat,cap⟩⟩,m5,h6),⟨rfl,_,x5⟩,MT⟩
 clear S0 c3 hoth hun hm0 hcap hle le1 le2 le3 le4 o1 o2 c1 c2;rintro⟨n',s,m4,h5⟩ ⟨rfl,ws,S0⟩;dsimp only;obtain⟨cap,hsl,_⟩:=S0.sl_;have hsa:s.tables.a=some ⟨tb,0,none⟩:=by rw[hsl]
 have hsn:s.tables.len=n'.toNat:=by rw[hsl]
 refine⟨λ⟨n,s,mx,hy⟩=>n=n'/\∃ws,yX m hx cb tb n.toNat id ws s mx hy,aE (λhn=>⟨cb,3,rfl,aC,aC,S0.case_,λr m5 o5 c5=>aB (λ_ s7 h7 le7 r7=>⟨tb,0,hsa,aC,aC,λs8 h8 le8 r8=>?_⟩) (λ_=>⟨(n',s,m5,h5),⟨rfl,_,S0.on (.refl _) o5 c5⟩,MT⟩)⟩) (λ_=>⟨(n',s,m4,h5),⟨rfl,_,S0⟩,MT⟩),?_⟩
 .obtain⟨w,hw⟩:=getw (i:=2) S0.ws_.1 aC;exact(S0.on (le7.trans le8) o5 (c5.mono (le7.trans le8))).store (k:=3) (w':={w with references:=s8}) hw aC rfl rfl rfl rfl rfl λm5 x5=>⟨(n',s,m5,h8),⟨rfl,_,x5⟩,MT⟩
 clear S0 hsa hsn hsl;rintro⟨n'',s,m4,h5⟩ ⟨rfl,ws,S0⟩;dsimp only;obtain⟨cap,hsl,_⟩:=S0.sl_;have hsa:s.tables.a=some ⟨tb,0,none⟩:=by rw[hsl]
 have hsn:s.tables.len=n''.toNat:=by rw[hsl]
 refine⟨λ⟨s,mx,hy⟩=>∃ws,yX m hx cb tb n''.toNat id ws s mx hy,aE (λhn=>⟨cb,3,rfl,aC,aC,S0.case_,λr m5 o5 c5=>aB (λ_ s7 h7 le7 r7=>⟨tb,0,hsa,aC,aC,λs8 h8 le8 r8=>?_⟩) (λ_=>⟨(s,m5,h5),⟨_,S0.on (.refl _) o5 c5⟩,MT⟩)⟩) (λ_=>⟨(s,m4,h5),⟨_,S0⟩,MT⟩),?_⟩
 .obtain⟨w,hw⟩:=getw (i:=3) S0.ws_.1 aC;exact(S0.on (le7.trans le8) o5 (c5.mono (le7.trans le8))).store (k:=3) (w':={w with references:=s8}) hw aC rfl rfl rfl rfl rfl λm5 x5=>⟨(s,m5,h8),⟨_,x5⟩,MT⟩
 clear S0 hsa hsn hsl;rintro⟨s,m4,h5⟩ ⟨ws,S0⟩;dsimp only;obtain⟨cap,hsl,_⟩:=S0.sl_;have hsa:s.tables.a=some ⟨tb,0,none⟩:=by rw[hsl]
 have hsn:s.tables.len=n''.toNat:=by rw[hsl]
 refine⟨λ⟨s,mx,hy⟩=>∃ws,yX m hx cb tb n''.toNat id ws s mx hy,⟨cb,3,rfl,aC,aC,S0.case_,λr m5 o5 c5=>aB (λ_=>?_) (λ_=>⟨(s,m5,h5),⟨_,S0.on (.refl _) o5 c5⟩,MT⟩)⟩,λ⟨s,m4,h5⟩⟨ws,S0⟩=>hK _ _ _ _ _ _ _ S0⟩;have S1:=S0.on (.refl _) o5 c5;obtain⟨w,hw,hhalf⟩:=S1.ws_.2 1 _ rfl;refine⟨s.version,tb,n''.toNat,cap,ws,w,_,1,by rw[hsl];rfl,aC,S1.row_,hw,hhalf.cols_,by simp,λsl h6 le6 hi6=>?_⟩;refine⟨cb,sl,cF,_,[],1,rfl,c5.mono le6,hi6,⟨cR.nil _ _,by simp⟩,by simp,by simp,aC,λpvv p m6 h7 le7 hp hpw o6 c6=>⟨tb,0,hsa,aC,aC,λs8 h8 le8 r8=>?_⟩⟩;exact(S1.on ((le6.trans le7).trans le8) o6 (c6.mono le8)).store (k:=4) (w':={w with checks:=s8}) hw aC rfl rfl rfl rfl rfl λm5 x5=>⟨(s,m5,h8),⟨_,x5⟩,MT⟩
structure uO(s:nY):Prop where
 ex:∃ver n id,0<=ver/\ver<=2/\2<=n/\n<=4/\(id=4\/id=5)/\s=⟨ver,(kR id).take n⟩
def Wy:Vc.Spec:=λcvs m h K=>∃cb,cvs=[cP cb]/\aM m h cb/\∀s v m' h',uO s->gS h' s v->PH.le h h'->bA m m' cb->aM m' h' cb->K (aS v) m' h'
theorem Uz:Sound Tryz.prog 12 Wy:=by
 refine W6 Tryz.func12 ?_;rintro cvs m h K ⟨cb,rfl,hc,hK⟩;refine⟨X5,rfl,aD Ub aF,JH cb m h (dJ h K),by kernel_rfl,?_⟩;show JH cb m h (dJ h K);dsimp only[JH,push_cast];refine⟨cb,rfl,hc,λtb n id ws s m1 h1 S1=>?_⟩;refine⟨λ⟨i,s',mx,hx⟩=>s'=s/\hx=h1/\i<=n/\∃ws,yX m h cb tb n id ws s mx h1/\∀j w,j<i->ws[j]? =some w->w.references=cF/\w.checks=cF,λ⟨i,_,_,_⟩=>n-i,⟨(0,s,m1,h1),⟨rfl,rfl,aC,ws,S1,λj w hj=>by omega⟩,MT⟩,?_⟩;clear S1 ws m1;rintro⟨i,s',m1,hx⟩ ⟨rfl,rfl,hi,ws,S1,hnil⟩;dsimp only;obtain⟨cap,hsl,hscap⟩:=S1.sl_;have hsa:s'.tables.a=some ⟨tb,0,none⟩:=by rw[hsl]
 have hsn:s'.tables.len=n:=by rw[hsl]
 have hn4:=S1.n4;refine aE (λhlt=>⟨tb,0,hsa,aC,hlt,?_⟩) (λhge hdis=>?_)
 .obtain⟨w,hw⟩:∃w,ws[i]? =some w:=⟨_,List.getElem?_eq_getElem (by have:=S1.ws_.1;have:=S1.n4;omega)⟩
  refine S1.store (i:=i) (k:=3) (w':={w with references:=cF}) hw aC aC rfl rfl rfl rfl λm2 S2=>⟨tb,0,hsa,aC,hlt,?_⟩
  have hil:=(List.getElem?_eq_some_iff.1 hw).1;have hw2:(ws.set i {w with references:=cF})[i]? =some {w with references:=cF}:=List.getElem?_set_self hil;refine S2.store (i:=i) (k:=4) (w':={w with references:=cF,checks:=cF}) hw2 aC aC rfl rfl rfl rfl λm3 S3=>⟨(i+1,s',m3,hx),⟨rfl,rfl,by show i+1<=n;omega,_,S3,λj u hj hu=>?_⟩,by show n-(i+1)<n-i;omega,MT⟩
  by_cases e:i=j
  .subst e;rw[List.getElem?_set_self (by rw[List.length_set];exact hil)]at hu;cases hu;exact⟨rfl,rfl⟩
  .rw[List.getElem?_set_ne e,List.getElem?_set_ne e]at hu;exact hnil j u aC hu
 .have hdis:=hdis;obtain⟨cur,hcur,htake⟩:=S1.row_.ex;have hg0:∀i,hx tb i=none:=hdis tb _ hcur
  have hle3:PH.le hx (λx i=>if x=tb then cur[i]? else hx x i):=⟨λx i v e=>by
   have:x≠tb:=λe'=>by rw[e',hg0 i]at e;cases e
   simp[this,e]⟩
  refine⟨λb=>if b=tb then none else m1 b,λx i=>if x=tb then cur[i]? else hx x i,λb o e=>?_,S1.le_.trans hle3,λx i v e=>?_,hK ⟨s'.version,(kR id).take n⟩ s' _ _ ⟨⟨_,_,_,S1.ver0,S1.ver1,S1.n2,S1.n4,S1.id_,rfl⟩⟩ ⟨rfl,?_⟩ (S1.le_.trans hle3) ⟨λb hb=>?_⟩ ?_⟩
  .by_cases e':b=tb
   .simp[e']at e
   .simpa[e']using e
  .by_cases e':x=tb
   .subst e';simp at e;exact .inr ⟨cur,86,(0,0),hcur,e,by simp⟩
   .simp[e']at e;exact .inl e
  .have hws4:=S1.ws_.1;have hn4:=S1.n4;refine⟨⟨ws.take n,⟨by rw[hsn];simp;omega,.inr ⟨tb,0,hsa,λi e hi=>⟨λj v hj=>?_⟩⟩,by rw[hsl];exact hscap⟩,by simp[kR];omega,λi t e=>?_⟩,by simp[kR];omega⟩
   .rw[List.map_take,List.getElem?_take]at hi;split at hi
    .have h1:=lC (xs:=ws.map bO.enc) (sz:=5) (λe he=>by obtain⟨x,_,rfl⟩:=List.mem_map.1 he;rfl) hi j v hj;rw[<-htake,List.getElem?_take]at h1;split at h1
     .simp only[if_true,Nat.zero_add];rw[<-Array.getElem?_toList];exact h1
     .cases h1
    .cases hi
   .rw[List.getElem?_take]at e;split at e
    .rename_i hin;obtain⟨w,e1,e2⟩:=S1.ws_.2 i t e;obtain⟨z1,z2⟩:=hnil i w aC e1;have hh:=e2.mono hle3
     have hnorc:t.refs=[]/\t.checks=[]:=by
      match i,e with
      |0,e=>cases e;exact⟨rfl,rfl⟩
      |1,e=>cases e;exact⟨rfl,rfl⟩
      |2,e=>cases e;exact⟨rfl,rfl⟩
      |3,e=>cases e;exact⟨rfl,rfl⟩
      |i+4,e=>simp[kR]at e
     refine⟨w,by rw[List.getElem?_take,if_pos hin];exact e1,⟨hh.name_,hh.cols_,hh.key_,by rw[z1,hnorc.1];exact bH.nil _ _ _ _,by rw[z2,hnorc.2];exact bH.nil _ _ _ _⟩⟩
    .cases e
  .by_cases e':b=tb
   .subst e';simp[S1.new_]
   .simp[e'];exact S1.other_ b hb e'
  .obtain⟨r,q,cs,k,q1,q2,q3⟩:=S1.case_;exact⟨r,q,cs,k,by simp[S1.ne_.symm];exact q1,q2.mono hle3,q3⟩
def QW(q:Query):Prop:=
 match q with
 |.mk _ _ w _ _ _ _ _ args=>FA w/\∀a∈args,QW a
 termination_by SizeOf.sizeOf q
theorem P7{op:Int}{on:List (Int×Int)}{args:List Query}:
 QW (.mk op ta w co on gr od li args)↔FA w/\∀a∈args,QW a:=by rw[QW.eq_def]
def Zp(s:nY):Prop:=∀t,HB (gR s t)
structure Wr(s:nY)(ps ks:List Int)(q0 q:Query):Prop where
 qw:QW q
 siz:∀d,xF d q0->Ks d q
 kin:Zp s->HB ps->HB ks->ks≠[]->ks.length<=12->bZ s ps q0=(ks,0)->bZ s ps q=(ks,0)
def KQ(K:CV->MH->PH->Prop)(m:MH)(h:PH)(cb:Nat)(R:Query->Prop):Prop:=∀w q m' h',PH.le h h'->dD h' q w->R q->bA m m' cb->aM m' h' cb->K (aQ w) m' h'
def Ng:Vc.Spec:=λcvs m h K=>∃cb sc p k v s ps ks q,cvs=[cP cb,aS sc,cS p,cS k,aQ v]/\aM m h cb/\gS h s sc/\nK s/\s.tables.length<=1000/\Ints h p ps/\ps.length<=1000/\Ints h k ks/\ks.length<=1000/\dD h q v/\QW q/\KQ K m h cb (Wr s ps ks q)
noncomputable def XM(cb:Nat)(sc:bR)(p k:Sl)(v:QV):Ctx:=
 dL [(15,FB),(44,rX),(40,Wu),(16,Kb),(30,xE)] [(3,{A:=Int×Nat×MH×PH,st:=λ⟨f,n,m,h⟩=>cD 112 117 [(0,pv cb),(2,sv p),(3,sv k),(6,.at (.ptr 6 0)),(9,.at (.ptr 9 0)),(10,.at (.ptr 10 0)),(11,iv f),(12,iv n)] [(6,.cells 43 (sc.enc.map .val)),(9,.cells 38 (v.enc.map .val)),(10,.cells 38 (y9.enc.map .val))] m h}),
  (9,{A:=Int×Nat×Int×Sl×List Int×Nat×MH×PH,st:=λ⟨f,n,t,have_,cols,i,m,h⟩=>cD 112 117 [(0,pv cb),(2,sv p),(3,sv k),(6,.at (.ptr 6 0)),(9,.at (.ptr 9 0)),(10,.at (.ptr 10 0)),(11,iv f),(12,iv n),(13,iv t),(14,sv have_),(15,.at (.lst 75)),(45,sv k),(46,iv k.len),(47,iv i)] [(6,.cells 43 (sc.enc.map .val)),(9,.cells 38 (v.enc.map .val)),(10,.cells 38 (y9.enc.map .val)),(75,.lst 3 1 (cols.map eI))] m h}),
  (13,{A:=Int×Nat×Int×Sl×List Int×Nat×Int×Int×Nat×MH×PH,st:=λ⟨f,n,t,have_,cols,i,kind,fr,j,m,h⟩=>cD 112 117 [(0,pv cb),(2,sv p),(3,sv k),(6,.at (.ptr 6 0)),(9,.at (.ptr 9 0)),(10,.at (.ptr 10 0)),(11,iv f),(12,iv n),(13,iv t),(14,sv have_),(15,.at (.lst 75)),(17,iv kind),(18,iv fr),(45,sv k),(46,iv k.len),(47,iv i),(56,iv have_.len),(57,iv j)] [(6,.cells 43 (sc.enc.map .val)),(9,.cells 38 (v.enc.map .val)),(10,.cells 38 (y9.enc.map .val)),(75,.lst 3 1 (cols.map eI))] m h})] [] [] false
abbrev i6:Prop:=eP 10
noncomputable abbrev vW(a:Int×Nat×Int×Sl×List Int×Nat×MH×PH):Sl:=a.2.2.2.1
noncomputable abbrev mK(a:Int×Nat×Int×Sl×List Int×Nat×MH×PH):Nat×MH×PH:=a.2.2.2.2.2
noncomputable abbrev vX(a:Int×Nat×Int×Sl×List Int×Nat×MH×PH):List Int:=a.2.2.2.2.1
noncomputable abbrev lX(a:Int×Nat×Int×Sl×List Int×Nat×MH×PH):Nat->Nat->Option Value:=cQ (mK a)
noncomputable abbrev qU(a:Int×Nat×Int×Sl×List Int×Nat×Int×Int×Nat×MH×PH):Sl:=a.2.2.2.1
noncomputable abbrev ER(a:Int×Nat×Int×Sl×List Int×Nat×Int×Int×Nat×MH×PH):Int:=a.2.2.2.2.2.2.1
noncomputable abbrev CL(a:Int×Nat×Int×Sl×List Int×Nat×Int×Int×Nat×MH×PH):Nat:=a.2.2.2.2.2.1
noncomputable abbrev nA(a:Int×Nat×Int×Sl×List Int×Nat×Int×Int×Nat×MH×PH):Nat×MH×PH:=a.2.2.2.2.2.2.2.2
noncomputable abbrev yB(a:Int×Nat×Int×Sl×List Int×Nat×Int×Int×Nat×MH×PH):List Int:=a.2.2.2.2.1
noncomputable abbrev EP(a:Int×Nat×Int×Sl×List Int×Nat×Int×Int×Nat×MH×PH):Int:=Int.tmod (iN (a.2.2.2.2.2.2.2.1+(↑(nA a).1:Int))) (aG (qU a))
noncomputable abbrev EE(a:Int)(b:PV)(c:List Value):List Value:=aT (eN a) cO (aT (eN b.op) (eN b.cmp) (aT (kW b.left) (wU b.left) (aT (eN (o9 b.left)) (qB b.left) c)))
noncomputable abbrev ES(a:PV)(b:Sl):List Value:=aT (lJ a.left) (kW a.right) (aT (wU a.right) (eN (o9 a.right)) (aT (qB a.right) (lJ a.right) (aT (eC a.args) uE (zC (aK b)))))
attribute [push_cast] i6 vW mK vX lX qU ER CL nA yB EP EE ES
def Pc(cb:Nat)(sc:bR)(p k:Sl)(v:QV)(m:MH)(h:PH)(K:CV->MH->PH->Prop):Prop:=
  jF cb (iN (hU sc+1)) m h (λk1 m1=>∃(I:Int×Nat×MH×PH->Prop)(m2:Int×Nat×MH×PH->Nat),(∃(x:Int×Nat×MH×PH),aA (I x) (dG cb) (aA (aJ p) (aJ k) (aA (eP 6) (eP 9) (aA i6 (cL k1 x.1) (aA (aZ x.2.1) (bL sc) (aA (dQ v) iH (bT (bG m1 x.2.2) h (cQ x.2))))))))/\∀(x:Int×Nat×MH×PH),I x->aW (↑x.2.1:Int) (aG sc.tables) (jO (hU sc=0)/\xU (cJ (jK (cA sc)) (Int.tmod (iN (x.1+(↑x.2.1:Int))) (hU sc))) (cQ x.2) (λs h1=>∃(I1:Int×Nat×Int×Sl×List Int×Nat×MH×PH->Prop)(m3:Int×Nat×Int×Sl×List Int×Nat×MH×PH->Nat),(∃(x1:Int×Nat×Int×Sl×List Int×Nat×MH×PH),aA (I1 x1) (dG cb) (aA (aJ p) (aJ k) (aA (eP 6) (eP 9) (aA i6 (cL x.1 x1.1) (aA (bX x.2.1 x1.2.1) (cL
 (Int.tmod (iN (x.1+(↑x.2.1:Int))) (hU sc)) x1.2.2.1) (aA (bI s (vW x1)) (eL 75) (aA (aJ k) (bJ k) (aA (aZ (mK x1).1) (bL sc) (aA (dQ v) iH (aA (pJ (vX x1)) (bG (dM x.2) (mK x1).2) (bN h1 (lX x1))))))))))))/\∀(x1:Int×Nat×Int×Sl×List Int×Nat×MH×PH),I1 x1->aW (↑(mK x1).1:Int) (aG k) (bD (λb o=>aH (bE k.a b o) (0<=(↑(mK x1).1:Int)) ((↑(mK x1).1:Int)<aG k) (∃(y:Int),aL (dM (mK x1)) (lX x1) b (bF o (mK x1).1 1) (bW y)/\jF cb (aG (vW x1)) (dM (mK x1)) (lX x1) (λk2 m4=>∃(I2:Int×Nat×Int×Sl×List Int×Nat×Int×Int×Nat×MH×PH->Prop)(m5:Int×Nat×Int×Sl×List Int×Nat×Int×Int×Nat×MH×PH->Nat),(∃(x2:Int×Nat×Int×Sl×List Int×Nat×Int×Int×
 Nat×MH×PH),aA (I2 x2) (dG cb) (aA (aJ p) (aJ k) (aA (eP 6) (eP 9) (aA i6 (cL x1.1 x2.1) (aA (bX x1.2.1 x2.2.1) (cL x1.2.2.1 x2.2.2.1) (aA (bI (vW x1) (qU x2)) (eL 75) (aA (cL y (ER x2)) (cL k2 x2.2.2.2.2.2.2.2.1) (aA (aJ k) (bJ k) (aA (bX (mK x1).1 (CL x2)) (bP (vW x1) (qU x2)) (aA (aZ (nA x2).1) (bL sc) (aA (dQ v) iH (aA (AO (vX x1) (yB x2)) (bG m4 (nA x2).2) (bN (lX x1) (cQ (nA x2)))))))))))))))/\∀(x2:Int×Nat×Int×Sl×List Int×Nat×Int×Int×Nat×MH×PH),I2 x2->aW (↑(nA x2).1:Int) (aG (qU x2)) (jO (aG (qU x2)=0)/\bD (λb1 o1=>aH (bE (qU x2).a b1 o1) (0<=EP x2) (EP x2<aG (qU x2)) (∃(y1:Int),aL (dM (nA x2)) (cQ
 (nA x2)) b1 (fJ o1 (EP x2) 1) (bW y1)/\dR y1 (ER x2) (aA (xP (yB x2)) (dN (gU (yB x2))) (∃(x3:Int×Nat×Int×Sl×List Int×Nat×MH×PH),aA (I1 x3) (m3 x3<m3 x1) (aA (dG cb) (aJ p) (aA (aJ k) (eP 6) (aA (eP 9) i6 (aA (cL x2.1 x3.1) (bX x2.2.1 x3.2.1) (aA (cL x2.2.2.1 x3.2.2.1) (bI (qU x2) (vW x3)) (aA (eL 75) (aJ k) (aA (bJ k) (fV (bB (CL x2) 1)=bM (mK x3).1) (aA (bL sc) (dQ v) (aA iH (rA (yB x2) (EP x2) (vX x3)) (bT (bG (dM (nA x2)) (mK x3).2) (cQ (nA x2)) (lX x3))))))))))))) (∃(x3:Int×Nat×Int×Sl×List Int×Nat×Int×Int×Nat×MH×PH),aA (I2 x3) (m5 x3<m5 x2) (aA (dG cb) (aJ p) (aA (aJ k) (eP 6) (aA (eP 9) i6 (aA (cL x2.1 x3.1) (bX
 x2.2.1 x3.2.1) (aA (cL x2.2.2.1 x3.2.2.1) (bI (qU x2) (qU x3)) (aA (eL 75) (cL (ER x2) (ER x3)) (aA (cL x2.2.2.2.2.2.2.2.1 x3.2.2.2.2.2.2.2.1) (aJ k) (aA (bJ k) (bX (CL x2) (CL x3)) (aA (bP (qU x2) (qU x3)) (fV (bB (nA x2).1 1)=bM (nA x3).1) (aA (bL sc) (dQ v) (aA iH (AO (yB x2) (yB x3)) (bT (bG (dM (nA x2)) (nA x3).2) (cQ (nA x2)) (cQ (nA x3)))))))))))))))))) (∃(x3:Int×Nat×Int×Sl×List Int×Nat×MH×PH),aA (I1 x3) (m3 x3<m3 x1) (aA (dG cb) (aJ p) (aA (aJ k) (eP 6) (aA (eP 9) i6 (aA (cL x2.1 x3.1) (bX x2.2.1 x3.2.1) (aA (cL x2.2.2.1 x3.2.2.1) (bI (qU x2) (vW x3)) (aA (eL 75) (aJ k) (aA (bJ k) (fV (bB (CL x2) 1)=bM (mK x3).1) (aA (bL
 sc) (dQ v) (aA iH (AO (yB x2) (vX x3)) (bT (bG (dM (nA x2)) (mK x3).2) (cQ (nA x2)) (lX x3)))))))))))))))) (dR x1.1 (hU sc) (∃(x2:Int×Nat×MH×PH),aA (I x2) (m2 x2<m2 x) (aA (dG cb) (aJ p) (aA (aJ k) (eP 6) (aA (eP 9) i6 (aA (cL x1.1 x2.1) (fV (bB x1.2.1 1)=bM x2.2.1) (aA (bL sc) (dQ v) (aH iH (bG (dM (mK x1)) x2.2.2) (lX x1=cQ x2.2) True))))))) (aW (↑(gU (vX x1)).length:Int) (aG k) (∃(x2:Int×Nat×MH×PH),aA (I x2) (m2 x2<m2 x) (aA (dG cb) (aJ p) (aA (aJ k) (eP 6) (aA (eP 9) i6 (aA (cL x1.1 x2.1) (fV (bB x1.2.1 1)=bM x2.2.1) (aA (bL sc) (dQ v) (aH iH (bG (dM (mK x1)) x2.2.2) (lX x1=cQ x2.2) True))))))) (tE x1.2.2.1 (λt=>mF cb
 2 (dM (mK x1)) (lX x1) (λc r=>∀(m4:MH),aR (bA (dM (mK x1)) m4 c) (aM m4 (lX x1) c) (branch r ((∃(c1:Nat),v8 (λs1 t1 c2 p1 d=>aA (qJ cb 0::cW (vW x1) (iK p 1)=tC c1 s1 t1 d) (aM m4 (lX x1) c1) (aA (Ints (lX x1) s1 c2) (Ints (lX x1) t1 p1) (aH (gE c2) (gE p1) (mO d) (AH (λv1 p2=>fU (λm5 h2=>dE (lX x1) h2 (fA h2 p2 v1) (aR (vA c2 p1 d p2) (bA m4 m5 c1) (kA m5 h2 c1 (bV h2 21 (gM (vY (eN 1) (eN t))) (λs2 h3=>bV h3 1 (gU (vX x1)) (λs3 h4=>bV h4 21 (gM (EE 2 v1 (ES v1 s2))) (λs4 h5=>K (jK (oO (eN 3) cO (sK (eC s3) (zC (aK s4))))) m5 h5)))))))))))))/\∃(c1:Nat),v8 (λs1 t1 c2 p1 d=>aA (qJ cb 0::cW (vW x1) (iK p 1)=tC c1 s1
 t1 d) (aM m4 (lX x1) c1) (aA (Ints (lX x1) s1 c2) (Ints (lX x1) t1 p1) (aH (gE c2) (gE p1) (mO d) (AH (λv1 p2=>fU (λm5 h2=>dE (lX x1) h2 (fA h2 p2 v1) (aR (vA c2 p1 d p2) (bA m4 m5 c1) (kA m5 h2 c1 (bV h2 21 (gM (vY (eN 1) (eN t))) (λs2 h3=>bV h3 1 (gU (vX x1)) (λs3 h4=>bV h4 21 (gM (EE 2 v1 (ES v1 s2))) (λs4 h5=>K (jK (oO (eN 3) cO (sK (eC s3) (zC (aK s4))))) m5 h5))))))))))))) (bV (lX x1) 1 (gU (vX x1)) (λs1 h2=>bV h2 21 (gM (vY (eN 1) (eN t))) (λs2 h3=>K (jK (oO (eN 3) cO (sK (eC s1) (zC (aK s2))))) m4 h3))))))))))) ((∃(c:Nat),v8 (λs t c1 p1 d=>aA (qJ cb 0::cW k (iK p 1)=tC c s t d) (aM (dM x.2) (cQ x.2) c) (aA (Ints (cQ
 x.2) s c1) (Ints (cQ x.2) t p1) (aH (gE c1) (gE p1) (mO d) (AH (λv1 p2=>fU (λm3 h1=>dE (cQ x.2) h1 (fA h1 p2 v1) (aR (vA c1 p1 d p2) (bA (dM x.2) m3 c) (kA m3 h1 c (bV h1 21 (gM v.enc) (λs1 h2=>K (jK (EE 2 v1 (ES v1 s1))) m3 h2)))))))))))/\∃(c:Nat),v8 (λs t c1 p1 d=>aA (qJ cb 0::cW k (iK p 1)=tC c s t d) (aM (dM x.2) (cQ x.2) c) (aA (Ints (cQ x.2) s c1) (Ints (cQ x.2) t p1) (aH (gE c1) (gE p1) (mO d) (AH (λv1 p2=>fU (λm3 h1=>dE (cQ x.2) h1 (fA h1 p2 v1) (aR (vA c1 p1 d p2) (bA (dM x.2) m3 c) (kA m3 h1 c (bV h1 21 (gM v.enc) (λs1 h2=>K (jK (EE 2 v1 (ES v1 s1))) m3 h2))))))))))))
theorem kZ(h:PH):Ints h cF []:=⟨cR.nil _ _,by simp⟩
theorem qF(h:PH):lK h cF []:=⟨cR.nil _ _,by simp⟩
theorem wF(h:PH):iW h cF []:=⟨cR.nil _ _,by simp⟩
theorem Cq(h:PH):fA h iO iF:=Ji (v:=iF) rfl
theorem zX{h:PH}{s:Sl}{v:QV}{q:Query}(r:cR h s 21 [QV.enc v])(hq:dD h q v):yY h s [q]:=⟨⟨[v],r,rfl,λi x e=>by
 match i,e with
 |0,e=>simp at e;subst e;exact⟨v,rfl,hq⟩
 |i+1,e=>simp at e⟩,by simp⟩
theorem zU(h:PH)(t:Int):dD h (.mk 1 t iO [] [] [] [] 0 []) ⟨1,t,iF,cF,cF,cF,cF,0,cF⟩:=
 oW.rep ⟨rfl,rfl,Cq h,kZ h,qF h,kZ h,wF h,rfl,bH.nil _ _ _ _⟩
theorem Jp{v:PV}{s:Sl}(hp:fA h p v)(hq:yY h s [q]):dD h (.mk 2 0 p [] [] [] [] 0 [q]) ⟨2,0,v,cF,cF,cF,cF,0,s⟩:=
 oW.rep ⟨rfl,rfl,hp,kZ h,qF h,kZ h,wF h,rfl,hq⟩
theorem G3{h:PH}{c s:Sl}{cols:List Int}{q:Query}(hc:Ints h c cols)(hq:yY h s [q]):dD h (.mk 3 0 iO cols [] [] [] 0 [q]) ⟨3,0,iF,c,cF,cF,cF,0,s⟩:=
 oW.rep ⟨rfl,rfl,Cq h,hc,qF h,kZ h,wF h,rfl,hq⟩
theorem Aw:FA iO:=⟨mV,mV,trivial⟩
theorem Mo{op:Int}{on:List (Int×Int)}(hw:FA w)(hq:QW q):QW (.mk op ta w co on gr od li [q]):=P7.2 ⟨hw,λa ha=>by simp at ha;subst ha;exact hq⟩
theorem El(t:Int):QW (.mk 1 t iO [] [] [] [] 0 []):=P7.2 ⟨Aw,λa ha=>by simp at ha⟩
theorem Sa{a:Int}{n:Nat}(h0:0<=a)(hn:0<n):0<=a.tmod (n:Int)/\a.tmod (n:Int)<(n:Int):=by
 rw[Int.tmod_eq_emod_of_nonneg h0];exact⟨Int.emod_nonneg _ aC,Int.emod_lt_of_pos _ aC⟩
theorem F3{k:List Int}{op:Int}{on:List (Int×Int)}(ha:arity op=1)(h:bZ s ps q=(k,0)):bZ s ps (.mk op ta w co on gr od li [q])=jC s ps (.mk op ta w co on gr od li [q]) k []:=by
 have e:fZ s ps [q]=([k],0):=A9 (by simp[h]);simp[bZ,e,ha]
theorem Ig(h:l.length<=12):zK l=(l,0):=if_pos h
theorem Jj{s:nY}{ps:List Int}{t:Int}(h0:0<=t)(h1:t<s.tables.length)(hk:(gR s t).length<=12):bZ s ps (.mk 1 t iO [] [] [] [] 0 [])=(gR s t,0):=by
 have e1:bZ s ps (.mk 1 t iO [] [] [] [] 0 [])=jC s ps (.mk 1 t iO [] [] [] [] 0 []) [] []:=by simp[bZ,fZ,arity]
 rw[e1];unfold jC;rw[if_neg (by simp[arity,dZ])];dsimp only;rw[if_pos rfl,if_pos ⟨h0,h1⟩,Ig hk]
theorem kinds_filter{k:List Int}(h:bZ s ps q=(k,0))(hw:iP k ps w=0)(hk:k.length<=12):bZ s ps (.mk 2 0 w [] [] [] [] 0 [q])=(k,0):=by
 rw[F3 (by decide) h];unfold jC;rw[if_neg (by simp[arity,dZ])];dsimp only;rw[if_neg (by decide),if_pos rfl,if_pos hw,Ig hk]
theorem Kl{k:List Int}(h:bZ s ps q=(k,0))(h0:co≠[])(hi:∀c∈co,FE k c=true)(hl:co.length<=12):bZ s ps (.mk 3 0 iO co [] [] [] 0 [q])=(co.map λc=>k.getD c.toNat 0,0):=by
 rw[F3 (by decide) h];unfold jC;rw[if_neg (by simp[arity,dZ])];dsimp only;rw[if_neg (by decide),if_neg (by decide),if_pos rfl,if_pos ⟨h0,λj x hx=>hi x (List.mem_of_getElem? hx)⟩,Ig (by simpa using hl)]
structure D2(kt ks co:List Int):Prop where
 in_:∀c∈co,FE kt c=true
 eq_:(co.map λc=>kt.getD c.toNat 0)=ks
theorem D2.kin{kt ks:List Int}(x:D2 kt ks co)(h:bZ s ps q=(kt,0))(hn:ks≠[])(hl:ks.length<=12):bZ s ps (.mk 3 0 iO co [] [] [] 0 [q])=(ks,0):=by
 have h1:co.length=ks.length:=by rw[<-x.eq_,List.length_map]
 rw[Kl h (λe=>hn (List.eq_nil_of_length_eq_zero (by rw[<-h1,e];rfl))) x.in_ aC,x.eq_]
theorem D2.snoc{kt ks:List Int}{c x:Int}(p:D2 kt (ks.take i) co)(hx:ks[i]? =some x)(hc:FE kt c=true)(e:kt.getD c.toNat 0=x):D2 kt (ks.take (i+1)) (co++[c]):=
 ⟨λy hy=>by
  rcases List.mem_append.1 hy with hy|hy
  .exact p.in_ y hy
  .simp at hy;subst hy;exact hc,by rw[List.map_append,p.eq_,List.take_add_one,hx,List.map_cons,List.map_nil,e];rfl⟩
theorem K3:Sound Tryz.prog 26 Ng:=by
 refine iB Tryz.func26 ?_;rintro cvs m h K ⟨cb,sc,p,k,v,s,ps,ks,q,rfl,hc,hs,h8,hts,hp,hpl,hk,hkl,hq,hqw,hK⟩;refine⟨XM cb sc p k v,rfl,aD F7 (aD C4 (aD K1 (aD wI (aD C5 aF)))),Pc cb sc p k v m h K,by kernel_rfl,?_⟩;have htl:=hs.tables.slen;have hkn:=hk.slen;have hw:IntKind.i64.wrap ((sc.tables.len:Int)+1)=(sc.tables.len:Int)+1:=eB aC aC;dsimp only[Pc,push_cast];rw[hw];refine⟨cb,_,rfl,hc,λf m1 f0 f1 o1 c1=>?_⟩;refine⟨λ⟨f,n,mx,hx⟩=>0<=f/\f<=sc.tables.len/\n<=sc.tables.len/\PH.le h hx/\bA m mx cb/\aM mx hx cb,λ⟨_,n,_,_⟩=>sc.tables.len-n,⟨(f,0,m1,h),⟨f0,by show f<=(sc.tables.len:Int);omega,aC,.refl _,o1,c1⟩,MT⟩,?_⟩;clear f0 f1 o1 c1 m1 hw;rintro⟨f,n,m1,hx⟩ ⟨f0,f1,hn,hle,o1,c1⟩;dsimp only
 have pred:∀(kk:Sl)(kl:List Int)(mx:MH)(hx:PH)(Q:PV->Pred->MH->PH->Prop),Ints hx kk kl->kl.length<=1000->PH.le h hx->aM mx hx cb->(∀v p m' h',PH.le hx h'->fA h' p v->vA kl ps 1 p->bA mx m' cb->aM m' h' cb->Q v p m' h')->
  ∃(cb_2:Nat)(s t:Sl)(cols params:List Int)(deep:Nat),[CV.val (.pointer (some ⟨cb,0,none⟩)),CV.val (.slice kk.a kk.len kk.cap),CV.val (.slice p.a p.len p.cap),CV.val (.int .i64 1)]=[CV.val (.pointer (some ⟨cb_2,0,none⟩)),CV.val (.slice s.a s.len s.cap),CV.val (.slice t.a t.len t.cap),CV.val (.int .i64 deep)]/\aM mx hx cb_2/\Ints hx s cols/\Ints hx t params/\cols.length<=1000/\params.length<=1000/\deep<=1000/\
   ∀(v:PV)(p:Pred)(m':MH)(h':PH),PH.le hx h'->fA h' p v->vA cols params deep p->bA mx m' cb_2->aM m' h' cb_2->Q v p m' h':=λkk kl mx hx Q h1 h2 h3 h4 h5=>
  ⟨cb,kk,p,kl,ps,1,rfl,h4,h1,hp.mono h3,h2,hpl,aC,λv p m' h' q1 q2 qp q3 q4=>h5 v p m' h' q1 q2 qp q3 q4⟩
 refine aE (λhlt=>?_) (λhge=>?_)
 rotate_left
 .have fin:∀(w:PV)(p:Pred)(m':MH)(h':PH),PH.le hx h'->fA h' p w->vA ks ps 1 p->bA m1 m' cb->aM m' h' cb->∀(s:Sl)(h'_1:PH),PH.le h' h'_1->cR h'_1 s 21 [QV.enc v]->K (aQ ⟨2,0,w,cF,cF,cF,cF,0,s⟩) m' h'_1:=λw p m' h' q1 q2 qp q3 q4 s h2 q5 q6=>
   hK _ _ m' h2 ((hle.trans q1).trans q5) (Jp (q2.mono q5) (zX q6 (hq.mono ((hle.trans q1).trans q5)))) ⟨Mo qp.vals hqw,λd hf=>hf.filter,λ_ hps hks _ h12 hk0=>kinds_filter hk0 (qp.valid (by decide) hks hps) h12⟩ (o1.trans q3) (q4.mono q5)
  exact⟨pred k ks m1 hx _ (hk.mono hle) hkl hle c1 fin,pred k ks m1 hx _ (hk.mono hle) hkl hle c1 fin⟩
 have hw2:IntKind.i64.wrap (f+(n:Int))=f+(n:Int):=eB aC aC;rw[hw2];refine⟨aC,sc,s,_,rfl,hs.mono hle,h8,λhv h2 le2 hhv=>?_⟩;have hvn:=hhv.slen;obtain⟨T,hT⟩:∃T,(f+(n:Int)).tmod (sc.tables.len:Int)=T:=⟨_,rfl⟩
 have hTr:=Sa (a:=f+(n:Int)) (n:=sc.tables.len) aC aC;rw[hT]at hhv hvn hTr⊢
 have hv8:(gR s T).length<=8:=by
  unfold gR;split
  .simp
  .split
   .simp
   .rename_i t ht;simpa using h8 t (List.mem_of_getElem? ht)
 obtain⟨kt,hkt⟩:∃kt,gR s T=kt:=⟨_,rfl⟩
 have hscan:bZ s ps (.mk 1 T iO [] [] [] [] 0 [])=(kt,0):=by rw[Jj hTr.1 aC aC,hkt]
 have hcolt:Zp s->HB kt:=λx=>by rw[<-hkt];exact x T
 rw[hkt]at hhv hvn hv8;refine⟨λ⟨f',n',t,have_,cols,i,mx,hx⟩=>f'=f/\n'=n/\have_=hv/\t=T/\i<=ks.length/\cols.length<=i/\(cols.length=i->D2 kt (ks.take i) cols)/\PH.le h2 hx/\bA m mx cb/\aM mx hx cb,λ⟨_,_,_,_,_,i,_,_⟩=>ks.length-i,⟨(f,n,T,hv,[],0,m1,h2),⟨rfl,rfl,rfl,rfl,aC,by simp,λ_=>⟨by simp,by simp⟩,.refl _,o1,c1.mono le2⟩,MT⟩,?_⟩;rintro⟨f',n',t,hv,cols,i,m2,h3⟩ ⟨rfl,rfl,rfl,rfl,hi,hcl,hpk,le3,o2,c2⟩;dsimp only;have hle3:PH.le h h3:=(hle.trans le2).trans le3;refine aE (λhlt2=>?_) (λhge2=>?_)
 .obtain⟨x,hx⟩:=eY hkn hlt2;obtain⟨b1,of1,e1,r1⟩:=(hk.mono hle3).at hx;refine⟨b1,of1,e1,aC,hlt2,x,.imm (by simpa using r1),cb,_,rfl,c2,λfr m3 fr0 fr1 o3 c3=>?_⟩;refine⟨λ⟨f2,n2,t2,have_,cols2,i2,kind,fr',j,mx,hy⟩=>f2=f'/\n2=n'/\have_=hv/\t2=t/\cols2=cols/\i2=i/\kind=x/\mx=m3/\hy=h3/\j<=hv.len/\fr'=fr,λ⟨_,_,_,_,_,_,_,_,j,_,_⟩=>hv.len-j,⟨(f',n',t,hv,cols,i,x,fr,0,m3,h3),⟨rfl,rfl,rfl,rfl,rfl,rfl,rfl,rfl,rfl,aC,rfl⟩,MT⟩,?_⟩;rintro⟨f2,n2,t2,hv,cols,i,kind,fr',j,m3,h3⟩ ⟨rfl,rfl,rfl,rfl,rfl,rfl,rfl,rfl,rfl,hj,rfl⟩;dsimp only;refine aE (λhlt3=>?_) (λhge3=>⟨(f2,n2,t2,_,_,_,_,_),⟨rfl,rfl,rfl,rfl,by show i+1<=ks.length;omega,by show cols.length<=i+1;omega,λe=>by have e:cols.length=i+1:=e;omega,le3,o2.trans o3,c3⟩,by show ks.length-(i+1)<ks.length-i;omega,MT⟩);have hw3:IntKind.i64.wrap (fr'+(j:Int))=fr'+(j:Int):=eB aC aC;rw[hw3];have hm:=Sa (a:=fr'+(j:Int)) (n:=Sl.len _) aC (show 0<hv.len by omega);obtain⟨b2,of2,e2,r2⟩:=(hhv.mono le3).inb (n:=(fr'+(j:Int)).tmod (hv.len:Int)) hm.1 (by rw[<-hvn];exact hm.2);refine⟨aC,b2,of2,e2,hm.1,hm.2,_,.imm (by simpa using r2),aB (λek=>⟨by simp;omega,by simp;omega,(f2,n2,t2,_,cols++[(fr'+(j:Int)).tmod (hv.len:Int)],i+1,_,_),⟨rfl,rfl,rfl,rfl,by show i+1<=ks.length;omega,by simp;omega,λe=>?_,le3,o2.trans o3,c3⟩,by show ks.length-(i+1)<ks.length-i;omega,?_⟩) (λ_=>⟨(f2,n2,t2,hv,cols,i,kind,fr',j+1,m3,h3),⟨rfl,rfl,rfl,rfl,rfl,rfl,rfl,rfl,rfl,by show j+1<=hv.len;omega,rfl⟩,by show hv.len-(j+1)<hv.len-j;omega,MT⟩)⟩
  .have e:(cols++[(fr'+(j:Int)).tmod (hv.len:Int)]).length=i+1:=e;rw[List.length_append]at e;exact(hpk (by simpa using e)).snoc hx (by simp only[FE,Bool.and_eq_true,decide_eq_true_eq];omega) (by simpa using ek)
  .rw[List.map_append];exact MT
 .have hn1:n'+1<=sc.tables.len:=by omega
  have hi2:i=ks.length:=by omega
  refine aB (λ_=>⟨(f',n'+1,m2,h3),⟨f0,f1,hn1,hle3,o2,c2⟩,by show sc.tables.len-(n'+1)<sc.tables.len-n';omega,MT⟩) (λ_=>aE (λ_=>⟨(f',n'+1,m2,h3),⟨f0,f1,hn1,hle3,o2,c2⟩,by show sc.tables.len-(n'+1)<sc.tables.len-n';omega,MT⟩) (λhnl=>⟨t,rfl,cb,2,rfl,aC,aC,c2,λr m4 o4 c4=>?_⟩))
  have hpick:D2 kt ks cols:=by
   rw[List.length_map]at hnl;have:=hpk aC
   rwa [hi2,List.take_length]at this
  refine aB (λ_=>?_) (λ_ s1 h5 le5 r5 s2 h6 le6 r6=>?_)
  .have fin:∀(w:PV)(p:Pred)(m':MH)(h':PH),PH.le h3 h'->fA h' p w->vA kt ps 1 p->bA m4 m' cb->aM m' h' cb->∀(s:Sl)(h'_1:PH),PH.le h' h'_1->cR h'_1 s 21 [QV.enc ⟨1,t,iF,cF,cF,cF,cF,0,cF⟩]->∀(s_1:Sl)(h'_2:PH),PH.le h'_1 h'_2->cR h'_2 s_1 1 (cols.map eI)->∀(s_2:Sl)(h'_3:PH),PH.le h'_2 h'_3->cR h'_3 s_2 21 [QV.enc ⟨2,0,w,cF,cF,cF,cF,0,s⟩]->K (aQ ⟨3,0,iF,s_1,cF,cF,cF,0,s_2⟩) m' h'_3:=λw p m' h' q1 q2 qp q3 q4 s h5 q5 q6 s1 h6 q7 q8 s2 h7 q9 q10=>
    hK _ _ m' h7 ((((hle3.trans q1).trans q5).trans q7).trans q9) (G3 (cols:=cols) ⟨q8.mono q9,aC⟩ (zX q10 (Jp (q2.mono ((q5.trans q7).trans q9)) (zX (q6.mono (q7.trans q9)) (zU _ t))))) ⟨Mo Aw (Mo qp.vals (El t)),λd _=>Ks.three d (nE.one (nE.one nE.scan (by decide)) (by decide)),λhsk hps _ hn h12 _=>hpick.kin (kinds_filter hscan (qp.valid (by decide) (hcolt hsk) hps) aC) hn h12⟩ ((o2.trans o4).trans q3) (q4.mono ((q5.trans q7).trans q9))
   exact⟨pred hv kt m4 h3 _ (hhv.mono le3) aC hle3 c4 fin,pred hv kt m4 h3 _ (hhv.mono le3) aC hle3 c4 fin⟩
  .exact hK _ _ m4 h6 ((hle3.trans le5).trans le6) (G3 (cols:=cols) ⟨r5.mono le6,aC⟩ (zX (v:=⟨1,t,iF,cF,cF,cF,cF,0,cF⟩) r6 (zU _ t))) ⟨Mo Aw (El t),λd _=>Ks.three d (nE.mono (nE.one nE.scan (by decide)) (by decide) (by decide) (by decide)),λ_ _ _ hn h12 _=>hpick.kin hscan hn h12⟩ (o2.trans o4) (c4.mono (le5.trans le6))
def ZP(K:CV->MH->PH->Prop)(m:MH)(h:PH)(cb:Nat)(s:nY)(ps:List Int)(d:Nat):Prop:=∀w q m' h',PH.le h h'->dD h' q w->QW q->xF d q->(fI s ps q).2=0->bA m m' cb->aM m' h' cb->K (aQ w) m' h'
def R0(N:Nat):Vc.Spec:=λcvs m h K=>∃cb sc p s ps deep,cvs=[cP cb,aS sc,cS p,cI deep]/\aM m h cb/\gS h s sc/\eV s=0/\s.tables≠[]/\Ints h p ps/\ps.length<=1000/\ps.all eA=true/\ -1<=deep/\deep<=1000/\(deep+1).toNat<N/\ZP K m h cb s ps deep.toNat
noncomputable def X3(N:Nat)(cb:Nat)(sc:bR)(p:Sl):Ctx:=
 uM [(15,FB),(40,Wu),(25,Cj),(41,WA),(26,Ng),(42,Yv),(30,xE),(13,R0 N)] [(11,{A:=QV×QV×Sl×Int×MH×PH,st:=λ⟨a,q,k,n,m,h⟩=>cD 171 175 [(0,pv cb),(2,sv p),(5,.at (.ptr 5 0)),(8,.at (.ptr 8 0)),(10,.at (.ptr 10 0)),(11,sv k),(13,.at (.ptr 13 0)),(14,iv n)] [(5,.cells 43 (sc.enc.map .val)),(8,.cells 38 (y9.enc.map .val)),(10,.cells 38 (a.enc.map .val)),(13,.cells 38 (q.enc.map .val))] m h})] [(7,{A:=Int×Int×QV×QV×Sl×MH×PH,st:=λ⟨d,op,a,q,k,m,h⟩=>cD 171 175 [(0,pv cb),(2,sv p),(3,iv d),(5,.at (.ptr 5 0)),(8,.at (.ptr 8 0)),(9,iv op),(10,.at (.ptr 10 0)),(11,sv k),(13,.at (.ptr 13 0))] [(5,.cells 43 (sc.enc.map .val)),(8,.cells 38 (y9.enc.map .val)),(10,.cells 38 (a.enc.map .val)),(13,.cells 38 (q.enc.map .val))] m h}),
  (16,{A:=Int×Int×QV×QV×Sl×Bool×MH×PH,st:=λ⟨d,op,a,q,k,t,m,h⟩=>cD 171 175 [(0,pv cb),(2,sv p),(3,iv d),(5,.at (.ptr 5 0)),(8,.at (.ptr 8 0)),(9,iv op),(10,.at (.ptr 10 0)),(11,sv k),(13,.at (.ptr 13 0)),(59,iv op),(84,bv t)] [(5,.cells 43 (sc.enc.map .val)),(8,.cells 38 (y9.enc.map .val)),(10,.cells 38 (a.enc.map .val)),(13,.cells 38 (q.enc.map .val))] m h}),
  (24,{A:=Int×QV×QV×Sl×Bool×MH×PH,st:=λ⟨op,a,q,k,t,m,h⟩=>cD 171 175 [(0,pv cb),(2,sv p),(5,.at (.ptr 5 0)),(8,.at (.ptr 8 0)),(10,.at (.ptr 10 0)),(11,sv k),(13,.at (.ptr 13 0)),(59,iv op),(122,bv t)] [(5,.cells 43 (sc.enc.map .val)),(8,.cells 38 (y9.enc.map .val)),(10,.cells 38 (a.enc.map .val)),(13,.cells 38 (q.enc.map .val))] m h}),
  (20,{A:=QV×QV×QV×Sl×Sl×MH×PH,st:=λ⟨a,b,q,k,l,m,h⟩=>cD 171 175 [(0,pv cb),(2,sv p),(5,.at (.ptr 5 0)),(8,.at (.ptr 8 0)),(10,.at (.ptr 10 0)),(11,sv k),(13,.at (.ptr 13 0)),(15,.at (.ptr 15 0)),(16,sv l)] [(5,.cells 43 (sc.enc.map .val)),(8,.cells 38 (y9.enc.map .val)),(10,.cells 38 (a.enc.map .val)),(13,.cells 38 (q.enc.map .val)),(15,.cells 38 (b.enc.map .val))] m h}),
  (30,{A:=QV×QV×MH×PH,frz:=true,st:=λ⟨a,q,m,h⟩=>cD 171 175 [(2,sv p),(5,.at (.ptr 5 0)),(8,.at (.ptr 8 0)),(10,.at (.ptr 10 0)),(13,.at (.ptr 13 0))] [(5,.cells 43 (sc.enc.map .val)),(8,.cells 38 (y9.enc.map .val)),(10,.cells 38 (a.enc.map .val)),(13,.cells 38 (q.enc.map .val))] m h})] [] [36,1036,1033] [] false
abbrev FQ(a:QV->Query->Prop):Prop:=∀(x:QV)(x1:Query),a x x1
abbrev CI(a:List CV)(b:PH)(c:nY->(List Int)->Query->Prop):Prop:=DQ (λx x1=>∃(x2:QV),Dw (λx3 x4=>∃(x5:Query),aA (a=wV x x1 x2) (gS b x3 x) (aA (Ints b x1 x4) (dD b x5 x2) (c x3 x4 x5))))
noncomputable abbrev ET(a:Int×Int×QV×QV×Sl×MH×PH):Sl:=a.2.2.2.2.1
abbrev fS(a b:QV):Prop:=xN 38 a.enc=xN 38 b.enc
abbrev rE(a:List At)(b:QV):Prop:=oQ 38 a=xN 38 b.enc
noncomputable abbrev CS(a:Int×Int×QV×QV×Sl×MH×PH):Nat->Nat->Option Value:=a.2.2.2.2.2.2
noncomputable abbrev H3(a:Int×Int×QV×QV×Sl×MH×PH):Nat->Option Obj:=jH a.2.2.2.2
abbrev yC(a:Prop)(b:Nat)(c d e:Sl)(g:Prop):Prop:=aA a (dG b) (aA (aJ c) eE (aA fQ i6 (aA (bI d e) (eP 13) g)))
noncomputable abbrev A6(a:QV×QV×Sl×Int×MH×PH):Nat->Nat->Option Value:=a.2.2.2.2.2
noncomputable abbrev H2(a:QV×QV×Sl×Int×MH×PH):Nat->Option Obj:=a.2.2.2.2.1
noncomputable abbrev My(a:QV×QV×Sl×Int×MH×PH):Sl:=a.2.1.columns
noncomputable abbrev rH(a:QV×QV×MH×PH):Nat->Option Obj:=a.2.2.1
noncomputable abbrev rM(a:QV×QV×MH×PH):Nat->Nat->Option Value:=a.2.2.2
noncomputable abbrev mI(a:Int×QV×QV×Sl×Bool×MH×PH):Sl:=a.2.2.2.1
noncomputable abbrev yD(a:Int×QV×QV×Sl×Bool×MH×PH):Bool:=a.2.2.2.2.1
noncomputable abbrev lE(a:Int×QV×QV×Sl×Bool×MH×PH):QV:=a.2.1
noncomputable abbrev zE(a:Int×QV×QV×Sl×Bool×MH×PH):QV:=a.2.2.1
noncomputable abbrev qS(a:Int×Int×QV×QV×Sl×Bool×MH×PH):QV:=zE a.2
noncomputable abbrev BS(a:Int×QV×QV×Sl×Bool×MH×PH):MH×PH:=a.2.2.2.2.2
noncomputable abbrev gI(a:Int×QV×QV×Sl×Bool×MH×PH):Nat->Nat->Option Value:=(BS a).2
noncomputable abbrev pP(a:Int×QV×QV×Sl×Bool×MH×PH):Nat->Option Obj:=(BS a).1
noncomputable abbrev sL(a:QV×QV×QV×Sl×Sl×MH×PH):Sl×MH×PH:=a.2.2.2.2
noncomputable abbrev pZ(a:QV×QV×QV×Sl×Sl×MH×PH):QV:=a.2.2.1
noncomputable abbrev oD(a:QV×QV×QV×Sl×Sl×MH×PH):Nat->Nat->Option Value:=(sL a).2.2
noncomputable abbrev E0(a:QV×QV×QV×Sl×Sl×MH×PH):Sl:=(pZ a).args
attribute [push_cast] FQ CI ET fS rE CS H3 yC A6 H2 My rH rM mI yD lE zE qS BS gI pP sL pZ oD E0
def Po(N:Nat)(cb:Nat)(sc:bR)(p:Sl)(deep:Int)(m:MH)(h:PH)(K:CV->MH->PH->Prop):Prop:=
  jF cb 12 m h (λk m1=>aW deep 1 (jF cb (ite (hU sc>1) (hU sc) 1) m1 h (λk1 m2=>tE k1 (λt=>K (jK (vY (eN 1) (eN t))) m2 h))) (dA (iN (1+k)==1) (jF cb (ite (hU sc>1) (hU sc) 1) m1 h (λk1 m2=>tE k1 (λt=>K (jK (vY (eN 1) (eN t))) m2 h))) (hU sc==0) (jF cb (ite (hU sc>1) (hU sc) 1) m1 h (λk1 m2=>tE k1 (λt=>K (jK (vY (eN 1) (eN t))) m2 h))) (∃(c:Nat),DQ (λs p1=>Dw (λs1 p2=>∃(d:Int),aA (qJ cb 0::cE (cA sc) (iK p (iN (deep-1)))=qJ c 0::cE (cA s) (iK p1 d)) (aM m1 h c) (aA (gS h s1 s) (eV s1=0) (aA (jO (s1.tables=[])) (Ints h p1 p2) (aA (gE p2) (mD (DO p2)) (aH (Int.negSucc 0<=d) (d<=1000) ((d+1).toNat<N) (FQ (λw q=>fU (λm2 h1=>dE h
 h1 (dD h1 q w) (aR (QW q) (xF d.toNat q) (aR ((fI s1 p2 q).2=0) (bA m1 m2 c) (kA m2 h1 c (CI (wV sc p w) h1 (λs2 p3 q1=>∀(s3:Sl)(h2:PH),dE h1 h2 (Ints h2 s3 (fI s2 p3 q1).1) (∃(I:Int×Int×QV×QV×Sl×MH×PH->Prop),iA (λs4 m3=>mU m2 m3 h2 s4 38 21 (gM w.enc)->∃(x:Int×Int×QV×QV×Sl×MH×PH),aA (I x) (dG cb) (aA (aJ p) (cL deep x.1) (aA eE fQ (aA (cL (iN (1+k)) x.2.1) i6 (aA (bI s3 (ET x)) (eP 13) (aA (bL sc) iH (aA (fS w x.2.2.1) (rE (eW (eZ (iN (1+k))) (eZ 0) (eW (eZ 0) (eZ 0) (eW (eZ 0) (eZ 0) (eW (eZ 0) (eZ 0) (eW PO (eZ 0) (eW (eZ 0) (eZ 0) (eW (eZ 0) PO (eW JW JW (eW JW JW (eW JW (eZ 0) (jR (uC s4)))))))))))) x.2.2.2.1) (aA (bG m3 x.2.2.2.2.2) (h2=CS x)
 True))))))))/\∀(x:Int×Int×QV×QV×Sl×MH×PH),I x->∃(I1:QV×QV×MH×PH->Prop),dR x.2.1 3 (jF cb 3 (H3 x) (CS x) (λk1 m3=>∃(I2:QV×QV×Sl×Int×MH×PH->Prop)(m4:QV×QV×Sl×Int×MH×PH->Nat),(∃(x1:QV×QV×Sl×Int×MH×PH),yC (I2 x1) cb p (ET x) x1.2.2.1 (aA (cL k1 x1.2.2.2.1) (bL sc) (aA iH (fS x.2.2.1 x1.1) (aH (fS x.2.2.2.1 x1.2.1) (bG m3 x1.2.2.2.2) (CS x=A6 x1) True))))/\∀(x1:QV×QV×Sl×Int×MH×PH),I2 x1->gK x1.2.2.2.1 0 (jF cb (aG x1.2.2.1) (H2 x1) (A6 x1) (λk2 m5=>∃(x2:List (List Value)),aH (dH m5 (cV (My x1)) 3 1 x2) (eO (lI x2 1*8)) (dN x2) (iA (λs4 m6=>eM m5 m6 (cV (My x1)) s4 3 1 (eT x2 (bW k2))->∃(x3:QV×QV×Sl×Int×MH×PH),aA (I2 x3) (m4
 x3<m4 x1) (aA (dG cb) (aJ p) (aA eE fQ (aA i6 (bI x1.2.2.1 x3.2.2.1) (aA (eP 13) (cL (iN (x1.2.2.2.1-1)) x3.2.2.2.1) (aA (bL sc) iH (aA (fS x1.1 x3.1) (rE (eW (eZ x1.2.1.op) (eZ x1.2.1.table) (CX x1.2.1 (uC s4) x1.2.1.on (pA (eZ x1.2.1.limit) (uC x1.2.1.args)))) x3.2.1) (aA (bG m6 x3.2.2.2.2) (A6 x1=A6 x3) True))))))))))) (D5 (H2 x1) (A6 x1)->∃(x2:QV×QV×MH×PH),aA (I1 x2) (aJ p) (aA (eP 5) fQ (aA i6 (eP 13) (aA (bL sc) iH (aH (fS x1.1 x2.1) (fS x1.2.1 x2.2.1) (Co (H2 x1) (A6 x1) (rH x2) (rM x2)) True))))))) (∃(I2:Int×Int×QV×QV×Sl×Bool×MH×PH->Prop),dR x.2.1 4 (∃(x1:Int×Int×QV×QV×Sl×Bool×MH×PH),aA (I2 x1) (dG cb) (aA (aJ p) (cL x.1 x1.1) (aA eE fQ
 (aA (cL x.2.1 x1.2.1) i6 (aA (bI (ET x) (mI x1.2)) (eP 13) (aA (cL x.2.1 x1.2.1) (uU (yD x1.2)) (aA (bL sc) iH (aA (fS x.2.2.1 (lE x1.2)) (fS x.2.2.2.1 (qS x1)) (bT (bG (H3 x) (BS x1.2)) (CS x) (gI x1.2)))))))))) (∃(x1:Int×Int×QV×QV×Sl×Bool×MH×PH),aA (I2 x1) (dG cb) (aA (aJ p) (cL x.1 x1.1) (aA eE fQ (aA (cL x.2.1 x1.2.1) i6 (aA (bI (ET x) (mI x1.2)) (eP 13) (aA (cL x.2.1 x1.2.1) (hX (x.2.1==5) (yD x1.2)) (aA (bL sc) iH (aA (fS x.2.2.1 (lE x1.2)) (fS x.2.2.2.1 (qS x1)) (bT (bG (H3 x) (BS x1.2)) (CS x) (gI x1.2))))))))))/\∀(x1:Int×Int×QV×QV×Sl×Bool×MH×PH),gP (I2 x1) (yD x1.2) (∃(c1:Nat),DQ (λs4 p4=>Dw (λs5 p5=>∃
 (d1:Int),aA (qJ cb 0::cE (cA sc) (iK p (iN (x1.1-2)))=qJ c1 0::cE (cA s4) (iK p4 d1)) (aM (pP x1.2) (gI x1.2) c1) (aA (gS (gI x1.2) s5 s4) (eV s5=0) (aA (jO (s5.tables=[])) (Ints (gI x1.2) p4 p5) (aA (gE p5) (mD (DO p5)) (aH (Int.negSucc 0<=d1) (d1<=1000) ((d1+1).toNat<N) (FQ (λw1 q2=>fU (λm3 h3=>dE (gI x1.2) h3 (dD h3 q2 w1) (aR (QW q2) (xF d1.toNat q2) (aR ((fI s5 p5 q2).2=0) (bA (pP x1.2) m3 c1) (kA m3 h3 c1 (CI (wV sc p w1) h3 (λs6 p6 q3=>∀(s7:Sl)(h4:PH),dE h3 h4 (Ints h4 s7 (fI s6 p6 q3).1) (∃(I3:QV×QV×QV×Sl×Sl×MH×PH->Prop),dR x1.2.1 4 (eX (iN (aG (mI x1.2)+aG s7)) 8 (∃(x2:QV×QV×QV×Sl×Sl×MH×PH),yC (I3 x2) cb p (mI x1.2) x2.2.2.2.1 (aA (eP
 15) (bI s7 (sL x2).1) (aA (bL sc) iH (aA (fS (lE x1.2) x2.1) (rE (eW (eZ 5) (eZ (qS x1).table) (CX (qS x1) (BR (qS x1)) (qS x1).on (pA (eZ (qS x1).limit) (uC (qS x1).args)))) (pZ x2)) (aA (fS w1 x2.2.1) (bG m3 (sL x2).2) (bN h4 (oD x2))))))) (∃(x2:QV×QV×QV×Sl×Sl×MH×PH),yC (I3 x2) cb p (mI x1.2) x2.2.2.2.1 (aA (eP 15) (bI s7 (sL x2).1) (aA (bL sc) iH (aA (fS (lE x1.2) x2.1) (fS (qS x1) (pZ x2)) (aA (fS w1 x2.2.1) (bG m3 (sL x2).2) (bN h4 (oD x2)))))))) (∃(x2:QV×QV×QV×Sl×Sl×MH×PH),yC (I3 x2) cb p (mI x1.2) x2.2.2.2.1 (aA (eP 15) (bI s7 (sL x2).1) (aA (bL sc) iH (aA (fS (lE x1.2) x2.1) (fS (qS x1) (pZ x2)) (aA (fS w1 x2.2.1) (bG
 m3 (sL x2).2) (bN h4 (oD x2)))))))/\∀(x2:QV×QV×QV×Sl×Sl×MH×PH),I3 x2->(∃(c2:Nat),j3 (λs8 t=>vB (λa b=>aA (qJ cb 0::gJ x2.2.2.2.1 (sL x2).1=qJ c2 0::gJ s8 t) (aM (jH (sL x2)) (oD x2) c2) (aA (Ints (oD x2) s8 a) (Ints (oD x2) t b) (aA (gE a) (gE b) (∀(o:Sl)(o1:List (Int×Int)),fU (λm4 h5=>dE (oD x2) h5 (lK h5 o o1) (aR (o1.length<=10) (bA (jH (sL x2)) m4 c2) (kA m4 h5 c2 (iA (λs9 m5=>mU m4 m5 h5 s9 38 21 (gM x2.2.1.enc)->∃(x3:List (List Value)),AI (dH m5 (cV (E0 x2)) 38 21 x3) (λy=>aA (eG 21 y) (oJ m5 h5 (cV s9) 21 y) (aA (pX x3 y 280) (eO (pY x3 y)) (∀(a1:Sl)(m6:MH),aR (eM m5 m6 (cV (E0 x2)) a1 38 21 (x3++y)) (D5 m6 h5) (∃(x4:QV×QV×
 MH×PH),aA (I1 x4) (aJ p) (aA (eP 5) fQ (aA i6 (eP 13) (aA (bL sc) iH (aH (fS x2.1 x4.1) (rE (eW (eZ (pZ x2).op) (eZ (pZ x2).table) (CX (pZ x2) (BR (pZ x2)) o (pA (eZ (pZ x2).limit) (uC a1)))) x4.2.1) (Co m6 h5 (rH x4) (rM x4)) True)))))))))))))))))))/\iA (λs8 m4=>mU (jH (sL x2)) m4 (oD x2) s8 38 21 (gM x2.2.1.enc)->∃(c2:Nat),j3 (λs9 t=>vB (λa b=>aA (qJ cb 0::gJ x2.2.2.2.1 (sL x2).1=qJ c2 0::gJ s9 t) (aM m4 (oD x2) c2) (aA (Ints (oD x2) s9 a) (Ints (oD x2) t b) (aA (gE a) (gE b) (∀(o:Sl)(o1:List (Int×Int)),fU (λm5 h5=>dE (oD x2) h5 (lK h5 o o1) (aR (o1.length<=10) (bA m4 m5 c2) (kA m5 h5 c2 (∃(x3:List (List Value)),AI (dH m5 (cV (E0
 x2)) 38 21 x3) (λy=>aA (eG 21 y) (oJ m5 h5 (cV s8) 21 y) (aA (pX x3 y 280) (eO (pY x3 y)) (∀(a1:Sl)(m6:MH),aR (eM m5 m6 (cV (E0 x2)) a1 38 21 (x3++y)) (D5 m6 h5) (∃(x4:QV×QV×MH×PH),aA (I1 x4) (aJ p) (aA (eP 5) fQ (aA i6 (eP 13) (aA (bL sc) iH (aH (fS x2.1 x4.1) (rE (eW (eZ (pZ x2).op) (eZ (pZ x2).table) (CX (pZ x2) (BR (pZ x2)) o (pA (eZ (pZ x2).limit) (uC a1)))) x4.2.1) (Co m6 h5 (rH x4) (rM x4)) True)))))))))))))))))))))))))))))))))) (∃(I3:Int×QV×QV×Sl×Bool×MH×PH->Prop),dA (x1.2.1==6) (∃(x2:Int×QV×QV×Sl×Bool×MH×PH),yC (I3 x2) cb p (mI x1.2) (mI x2) (aA (cL x1.2.1 x2.1) (uU (yD x2)) (aA (bL sc) iH (aA (fS (lE x1.2) (lE x2)) (fS (qS x1)
 (zE x2)) (aA (bG (pP x1.2) (BS x2)) (gI x1.2=gI x2) True))))) (x1.2.1==7) (∃(x2:Int×QV×QV×Sl×Bool×MH×PH),yC (I3 x2) cb p (mI x1.2) (mI x2) (aA (cL x1.2.1 x2.1) (uU (yD x2)) (aA (bL sc) iH (aA (fS (lE x1.2) (lE x2)) (fS (qS x1) (zE x2)) (aA (bG (pP x1.2) (BS x2)) (gI x1.2=gI x2) True))))) (∃(x2:Int×QV×QV×Sl×Bool×MH×PH),yC (I3 x2) cb p (mI x1.2) (mI x2) (aA (cL x1.2.1 x2.1) (hX (x1.2.1==8) (yD x2)) (aA (bL sc) iH (aA (fS (lE x1.2) (lE x2)) (fS (qS x1) (zE x2)) (aA (bG (pP x1.2) (BS x2)) (gI x1.2=gI x2) True)))))/\∀(x2:Int×QV×QV×Sl×Bool×MH×PH),I3 x2->dA (yD x2) (∃(c1:Nat)(s4:bR),j3 (λp4 k1=>∃(v:QV),Dw
 (λs5 p5=>∃(k2:List Int)(q2:Query),aA (qJ cb 0::cE (cA sc) (cW p (gL (mI x2) (cN (lE x2))))=qJ c1 0::cE (cA s4) (cW p4 (gL k1 (cN v)))) (aM (pP x2) (gI x2) c1) (aA (gS (gI x2) s5 s4) (nK s5) (aA (mO s5.tables.length) (Ints (gI x2) p4 p5) (aA (gE p5) (Ints (gI x2) k1 k2) (aH (gE k2) (dD (gI x2) q2 v) (QW q2) (FQ (λw1 q3=>fU (λm3 h3=>dE (gI x2) h3 (dD h3 q3 w1) (aR (Wr s5 p5 k2 q2 q3) (bA (pP x2) m3 c1) (kA m3 h3 c1 (iA (λs6 m4=>mU m3 m4 h3 s6 38 21 (gM w1.enc)->∃(x3:List (List Value)),AI (dH m4 (cV (zE x2).args) 38 21 x3) (λy=>aA (eG 21 y) (oJ m4 h3 (cV s6) 21 y) (aA (pX x3 y 280) (eO (pY x3 y)) (∀(s7:Sl)(m5:MH),aR (eM m4 m5 (cV (zE
 x2).args) s7 38 21 (x3++y)) (D5 m5 h3) (∃(x4:QV×QV×MH×PH),aA (I1 x4) (aJ p) (aA (eP 5) fQ (aA i6 (eP 13) (aA (bL sc) iH (aH (fS (lE x2) x4.1) (rE (qQ (zE x2) (uC s7)) x4.2.1) (Co m5 h3 (rH x4) (rM x4)) True)))))))))))))))))))))) (x2.1==9) (∃(c1:Nat)(v:QV),AP (λs4 k1=>aA (qJ cb 0::bK (cN (zE x2)) (lY (mI x2))=qJ c1 0::bK (jK (CH v v (aT (lJ (iT v)) (kW (fN v)) (aT (wU (fN v)) (eN (o9 (fN v))) (aT (qB (fN v)) (lJ (fN v)) (aT (nB v) (nC v) (aT (eC v.on) uE (aT uE (eN v.limit) (aK v.args))))))))) (lY s4)) (aM (pP x2) (gI x2) c1) (aA (Ints (gI x2) s4 k1) (gE k1) (∀(g o:Sl)(k2:Int)(g1:List Int)(o1:List (Int×Bool)),fU (λm3 h3=>dE (gI x2) h3 (Ints h3 g
 g1) (aR (iW h3 o o1) (g1.length<=k1.length) (aR (o1.length<=k1.length) (cG k2) (aR (k2<=3) (bA (pP x2) m3 c1) (aR (aM m3 h3 c1) (D5 m3 h3) (∃(x3:QV×QV×MH×PH),aA (I1 x3) (aJ p) (aA (eP 5) fQ (aA i6 (eP 13) (aA (bL sc) iH (aH (fS (lE x2) x3.1) (rE (eW (eZ v.op) (eZ v.table) (pQ v.where_ (eW (BR v) (uC v.on) (eW (uC g) (uC o) (pA (eZ k2) (uC v.args)))))) x3.2.1) (Co m3 h3 (rH x3) (rM x3)) True)))))))))))))) (dR x2.1 10 (∃(c1:Nat)(v:QV),AP (λs4 k1=>aA (qJ cb 0::bK (cN (zE x2)) (lY (mI x2))=qJ c1 0::bK (jK (CH v v (aT (lJ (iT v)) (kW (fN v)) (aT (wU (fN v)) (eN (o9 (fN v))) (aT (qB (fN v)) (lJ (fN v)) (aT (nB v) (nC v) (aT (eC v.on) uE (aT uE (eN v.limit)
 (aK v.args))))))))) (lY s4)) (aM (pP x2) (gI x2) c1) (aA (Ints (gI x2) s4 k1) (gE k1) (∀(g o:Sl)(k2:Int)(g1:List Int)(o1:List (Int×Bool)),fU (λm3 h3=>dE (gI x2) h3 (Ints h3 g g1) (aR (iW h3 o o1) (g1.length<=k1.length) (aR (o1.length<=k1.length) (cG k2) (aR (k2<=3) (bA (pP x2) m3 c1) (kA m3 h3 c1 (∃(c2:Nat)(s5:bR),j3 (λp4 k3=>∃(v1:QV),Dw (λs6 p5=>∃(k4:List Int)(q2:Query),aA (qJ cb 0::cE (cA sc) (cW p (gL (mI x2) (cN (lE x2))))=qJ c2 0::cE (cA s5) (cW p4 (gL k3 (cN v1)))) (aM m3 h3 c2) (aA (gS h3 s6 s5) (nK s6) (aA (mO s6.tables.length) (Ints h3 p4 p5) (aA (gE p5) (Ints h3 k3 k4) (aH (gE k4) (dD h3 q2 v1) (QW q2) (FQ (λw1 q3=>fU (λm4 h4=>dE h3 h4 (dD h4 q3
 w1) (aR (Wr s6 p5 k4 q2 q3) (bA m3 m4 c2) (kA m4 h4 c2 (iA (λs7 m5=>mU m4 m5 h4 s7 38 21 (gM w1.enc)->∃(x3:List (List Value)),AI (dH m5 (cV v.args) 38 21 x3) (λy=>aA (eG 21 y) (oJ m5 h4 (cV s7) 21 y) (aA (pX x3 y 280) (eO (pY x3 y)) (∀(s8:Sl)(m6:MH),aR (eM m5 m6 (cV v.args) s8 38 21 (x3++y)) (D5 m6 h4) (∃(x4:QV×QV×MH×PH),aA (I1 x4) (aJ p) (aA (eP 5) fQ (aA i6 (eP 13) (aA (bL sc) iH (aH (fS (lE x2) x4.1) (rE (eW (eZ v.op) (eZ v.table) (pQ v.where_ (eW (BR v) (uC v.on) (eW (uC g) (uC o) (pA (eZ k2) (uC s8)))))) x4.2.1) (Co m6 h4 (rH x4) (rM x4)) True))))))))))))))))))))))))))))))) ((∃(c1:Nat),v8 (λs4 t c2 p4 d1=>aA (qJ cb 0::cW (mI x2) (iK p 2)=tC c1 s4 t d1) (aM
 (pP x2) (gI x2) c1) (aA (Ints (gI x2) s4 c2) (Ints (gI x2) t p4) (aH (gE c2) (gE p4) (mO d1) (AH (λv p5=>fU (λm3 h3=>dE (gI x2) h3 (fA h3 p5 v) (aR (vA c2 p4 d1 p5) (bA (pP x2) m3 c1) (kA m3 h3 c1 (∀(s5:Sl)(m4:MH),aR (mU m3 m4 h3 s5 38 21 (gM (lE x2).enc)) (D5 m4 h3) (∃(x3:QV×QV×MH×PH),aA (I1 x3) (aJ p) (aA (eP 5) fQ (aA i6 (eP 13) (aA (bL sc) iH (aH (fS (lE x2) x3.1) (rE (eW (eZ 2) (eZ 0) (pQ v (eW JW JW (eW JW JW (pA (eZ 0) (uC s5)))))) x3.2.1) (Co m4 h3 (rH x3) (rM x3)) True)))))))))))))))/\iA (λs4 m3=>mU (pP x2) m3 (gI x2) s4 38 21 (gM (lE x2).enc)->∃(c1:Nat),v8 (λs5 t c2 p4 d1=>aA (qJ cb 0::cW (mI x2) (iK p 2)=tC c1 s5 t d1) (aM m3
 (gI x2) c1) (aA (Ints (gI x2) s5 c2) (Ints (gI x2) t p4) (aH (gE c2) (gE p4) (mO d1) (AH (λv p5=>fU (λm4 h3=>dE (gI x2) h3 (fA h3 p5 v) (aR (vA c2 p4 d1 p5) (bA m3 m4 c1) (aR (aM m4 h3 c1) (D5 m4 h3) (∃(x3:QV×QV×MH×PH),aA (I1 x3) (aJ p) (aA (eP 5) fQ (aA i6 (eP 13) (aA (bL sc) iH (aH (fS (lE x2) x3.1) (rE (eW (eZ 2) (eZ 0) (pQ v (eW JW JW (eW JW JW (pA (eZ 0) (uC s4)))))) x3.2.1) (Co m4 h3 (rH x3) (rM x3)) True))))))))))))))))))/\∀(x1:QV×QV×MH×PH),I1 x1->CI (wV sc p x1.2.1) (rM x1) (λs4 p4 q2=>∀(s5:Sl)(h3:PH),dE (rM x1) h3 (Ints h3 s5 (fI s4 p4 q2).1) (eR (fI s4 p4 q2).2 0 (K (cN x1.1) (rH x1) h3) (K (cN x1.2.1) (rH x1) h3)))))))))))))))))))))
structure qI(m0 m:MH)(s:Sl)(E:TypeId)(sz:Nat)(xs:List (List Value)):Prop where
 row:dH m s E sz xs
 fresh:∀b i,s.a=some ⟨b,i,none⟩->m0 b=none
def Kept(m0 m:MH)(cb:Nat):Prop:=∀b o,m0 b=some o->b≠cb->m b=some o
theorem Kept.of{m0:MH}(h:bA m0 m cb):Kept m0 m cb:=λb o e n=>by rw[h.other b n];exact e
theorem Kept.on{m0:MH}(k:Kept m0 m cb)(h:bA m m' cb):Kept m0 m' cb:=λb o e n=>by rw[h.other b n];exact k b o e n
theorem aM.blk(c:aM m h cb):∃cs,m cb=some (.cells cs 82 (0,0)):=by
 obtain⟨r,q,cs,k,q1,_⟩:=c;exact⟨_,q1⟩
theorem aM.keep(c:aM m h cb)(e:m' cb=m cb)(le:PH.le h h'):aM m' h' cb:=by
 obtain⟨r,q,cs,k,q1,q2,q3⟩:=c;exact⟨r,q,cs,k,by rw[e];exact q1,q2.mono le,q3⟩
theorem Kept.free{m0:MH}(k:Kept m0 m cb)(c:aM m h cb)(hb:m b=none):m0 b=none:=by
 cases e:m0 b with
 |none=>rfl
 |some o=>
  by_cases hc:b=cb
  .obtain⟨cs,e2⟩:=c.blk;rw[hc,e2]at hb;cases hb
  .rw[k b o e hc]at hb;cases hb
theorem dH.nil(m:MH)(E:TypeId)(sz:Nat):dH m cF E sz []:=⟨⟨λ_ h=>by simp at h,λ_ h=>by simp at h⟩,.inl ⟨rfl,rfl⟩⟩
theorem qI.nil(m0 m:MH)(E:TypeId)(sz:Nat):qI m0 m cF E sz []:=⟨dH.nil m E sz,λb i e=>by cases e⟩
theorem qI.on{m0:MH}{s:Sl}{E:TypeId}(r:qI m0 m s E sz xs)(o:bA m m' cb)(c:aM m h cb)(hE:E≠82):qI m0 m' s E sz xs:=by
 refine⟨dH.keep r.row (λb i e=>o.other b (λe2=>?_)),r.fresh⟩;obtain⟨cur,h1⟩:=dH.blk r.row e;obtain⟨cs,h2⟩:=c.blk;rw[e2,h2]at h1;simp only[Option.some.injEq,Obj.cells.injEq]at h1;exact hE h1.2.1.symm
theorem qI.new{m0:MH}{s t:Sl}{E E':TypeId}{sz':Nat}{ys:List (List Value)}(r:qI m0 m s E sz xs)(x:mU m m' h t E' sz' ys):qI m0 m' s E sz xs:=by
 refine⟨dH.keep r.row (λb i e=>x.other b (λj e2=>?_)),r.fresh⟩;obtain⟨cur,h1⟩:=dH.blk r.row e;rw[(x.fresh b j e2).m_]at h1;cases h1
theorem mU.frow{m0:MH}{s:Sl}{E:TypeId}(x:mU m m' h s E sz xs)(k:Kept m0 m cb)(c:aM m h cb):qI m0 m' s E sz xs:=⟨x.row,λb i e=>k.free c (x.fresh b i e).m_⟩
theorem mU.at_cb{s:Sl}{E:TypeId}(x:mU m m' h s E sz xs)(c:aM m h cb):m' cb=m cb:=x.other cb (λi e=>by
 obtain⟨cs,e2⟩:=c.blk;rw[(x.fresh cb i e).m_]at e2;cases e2)
theorem Kept.new{m0:MH}{s:Sl}{E:TypeId}(k:Kept m0 m cb)(x:mU m m' h s E sz xs):Kept m0 m' cb:=λb o e n=>by
 rw[x.other b (λi e2=>by have:=(x.fresh b i e2).m_;rw[k b o e n]at this;cases this)];exact k b o e n
theorem qI.grown{m0:MH}{s s':Sl}{E:TypeId}{zs:List (List Value)}(r:qI m0 m s E sz xs)(x:eM m m' s s' E sz zs)(k:Kept m0 m cb)(c:aM m h cb):qI m0 m' s' E sz zs:=
 ⟨x.row,λb i e=>by
  rcases x.fresh b i e with h1|⟨j,h1⟩
  .exact k.free c h1
  .exact r.fresh b j h1⟩
theorem qI.apart{m0:MH}{s t t':Sl}{E E':TypeId}{sz':Nat}{ys zs:List (List Value)}(r:qI m0 m s E sz xs)(q:qI m0 m t E' sz' ys)(x:eM m m' t t' E' sz' zs)(hE:E≠E'):qI m0 m' s E sz xs:=by
 refine⟨dH.keep r.row (λb i e=>?_),r.fresh⟩;obtain⟨cur,h1⟩:=dH.blk r.row e;rw[h1];refine x.other b _ h1 (λj e2=>?_);obtain⟨cur2,h2⟩:=dH.blk q.row e2;rw[h1]at h2;simp only[Option.some.injEq,Obj.cells.injEq]at h2;exact hE h2.2.1
theorem Kept.grown{m0:MH}{s s':Sl}{E:TypeId}{zs:List (List Value)}(k:Kept m0 m cb)(r:qI m0 m s E sz xs)(x:eM m m' s s' E sz zs):Kept m0 m' cb:=λb o e n=>x.other b o (k b o e n) (λi e2=>by rw[r.fresh b i e2]at e;cases e)
theorem eM.at_cb{m0:MH}{s s':Sl}{E:TypeId}{zs:List (List Value)}(x:eM m m' s s' E sz zs)(r:qI m0 m s E sz xs)(c:aM m h cb)(hE:E≠82):m' cb=m cb:=by
 obtain⟨cs,e⟩:=c.blk;rw[e];refine x.other cb _ e (λi e2=>?_);obtain⟨cur,h1⟩:=dH.blk r.row e2;rw[e]at h1;simp only[Option.some.injEq,Obj.cells.injEq]at h1;exact hE h1.2.1.symm
theorem NT{sz:Nat}:∀{xs:List (List Value)},(∀e∈xs,e.length=sz)->xs.flatten.length=xs.length*sz
 |[],_=>by simp
 |x::xs,h=>by
  simp only[List.flatten_cons,List.length_append,List.length_cons];rw[NT (λe he=>h e (by simp[he])),h x (by simp),Nat.add_mul];omega
theorem dH.src{s:Sl}{E:TypeId}{x:List Value}(r:dH m s E sz (x::xs)):oJ m h s sz (x::xs):=by
 rcases r.ex with⟨_,e⟩|⟨b,cap,cur,rfl,hm,_,_,_,ht⟩
 .cases e
 .exact .lent b 0 cur E (0,0) rfl rfl hm (by rw[List.drop_zero,NT r.rows.len];exact ht)
def uI(m0 m:MH):MH:=λb=>match m0 b with|some _=>m b|none=>none
def Bd(m0 m:MH)(h:PH):PH:=λb i=>match m0 b,m b with|none,some (.cells cs _ _)=>cs[i]? |_,_=>h b i
theorem MO{m0 m:MH}{h:PH}(d:D5 m h):PH.le h (Bd m0 m h):=⟨λb i v e=>by
 unfold Bd;split
 .rename_i cs E fz h1 h2;rw[d.disj b _ h2 i]at e;cases e
 .exact e⟩
theorem TJ{m0:MH}(d:D5 m h):Co m h (uI m0 m) (Bd m0 m h):=by
 refine⟨λb o e=>?_,MO d,λb i v e=>?_⟩
 .unfold uI at e;split at e
  .exact e
  .cases e
 .unfold Bd at e;split at e
  .rename_i cs E fz h1 h2;exact .inr ⟨cs,E,fz,h2,e,by unfold uI;rw[h1]⟩
  .exact .inl e
theorem FT{p:Prop}(h:p:=by repeat' (first|with_reducible rfl|exact trivial|exact TJ (by assumption)|refine⟨?_,?_⟩|rfl)):p:=h
theorem qI.ice{m0:MH}{s:Sl}{E:TypeId}(r:qI m0 m s E sz xs):cR (Bd m0 m h) s sz xs:=by
 rcases r.row.ex with⟨rfl,rfl⟩|⟨b,cap,cur,rfl,hm,hcp,_,_,ht⟩
 .exact cR.nil _ _
 .have h0:=r.fresh b 0 rfl;refine⟨rfl,.inr ⟨b,0,rfl,λi e hi=>⟨λj v hj=>?_⟩⟩,hcp⟩;have h1:=lC r.row.rows.len hi j v hj;rw[<-ht,List.getElem?_take]at h1;split at h1
  .unfold Bd;rw[h0,hm];simp only[Nat.zero_add];rw[<-Array.getElem?_toList];exact h1
  .cases h1
theorem keep_other{m0:MH}(k:Kept m0 m cb):bA m0 (uI m0 m) cb:=⟨λb hb=>by
 unfold uI;cases e:m0 b with
 |none=>rfl
 |some o=>exact k b o e hb⟩
theorem TG{m0:MH}(c:aM m h cb)(h0:m0 cb≠none)(d:D5 m h):aM (uI m0 m) (Bd m0 m h) cb:=c.keep (by
 unfold uI;cases e:m0 cb with
 |none=>exact(h0 e).elim
 |some o=>rfl) (MO d)
def QA(d:Nat)(q:Query):Prop:=QW q/\Ks d q
structure QM(d:Nat)(m0 m:MH)(h:PH)(v:QV)(vs:List QV):Prop where
 wher:∃w,fA h w v.where_/\FA w
 cols:∃co:List Int,qI m0 m v.columns 3 1 (co.map eI)/\co.length<=1000
 on_:∃l,lK h v.on l
 group_:∃l,Ints h v.group l
 order_:∃l,iW h v.order l
 args_:qI m0 m v.args 38 21 (vs.map QV.enc)
 len_:vs.length<=2
 reps:∀v∈vs,∃q,dD h q v/\QA d q
theorem NX{d:Nat}{h:PH}:∀{vs:List QV},(∀v∈vs,∃q,dD h q v/\QA d q)->∃qs:List Query,qs.length=vs.length/\(∀q∈qs,QA d q)/\∀(i:Nat) q,qs[i]? =some q->∃v,vs[i]? =some v/\dD h q v
 |[],_=>⟨[],rfl,λq hq=>by simp at hq,λi q e=>by simp at e⟩
 |v::vs,h1=>by
  obtain⟨q,hq,hqw⟩:=h1 v (by simp);obtain⟨qs,e1,ew,e2⟩:=NX (vs:=vs) (λu hu=>h1 u (by simp[hu]));refine⟨q::qs,by simp[e1],λx hx=>by rcases List.mem_cons.1 hx with rfl|hx;exact hqw;exact ew x hx,λi x e=>?_⟩;cases i with
  |zero=>simp at e;subst e;exact⟨v,rfl,hq⟩
  |succ i=>simpa using e2 i x (by simpa using e)
theorem QM.ice{n:Nat}{m0:MH}{vs:List QV}(x:QM n m0 m h v vs)(d:D5 m h):∃q,dD (Bd m0 m h) q v/\QW q/\xF (n+1) q:=by
 obtain⟨w,hw,hww⟩:=x.wher;obtain⟨co,hc,hcl⟩:=x.cols;obtain⟨on,ho⟩:=x.on_;obtain⟨gr,hg⟩:=x.group_;obtain⟨od,hod⟩:=x.order_;obtain⟨qs,e1,ew,e2⟩:=NX x.reps;have le:=MO (m0:=m0) d;have hl:=x.len_;exact⟨_,oW.rep ⟨rfl,rfl,hw.mono le,⟨hc.ice,aC⟩,ho.mono le,hg.mono le,hod.mono le,rfl,⟨⟨vs,x.args_.ice,e1,λi q e=>let⟨v,k1,k2⟩:=e2 i q e;⟨v,k1,k2.mono le⟩⟩,aC⟩⟩,P7.2 ⟨hww,λa ha=>(ew a ha).1⟩,xF.node (λa ha=>(ew a ha).2) aC⟩
theorem QM.on{n:Nat}{m0:MH}{vs:List QV}(x:QM n m0 m h v vs)(o:bA m m' cb)(c:aM m h cb)(le:PH.le h h'):QM n m0 m' h' v vs:=by
 obtain⟨w,hw,hww⟩:=x.wher;obtain⟨co,hc,hcl⟩:=x.cols;obtain⟨on,ho⟩:=x.on_;obtain⟨gr,hg⟩:=x.group_;obtain⟨od,hod⟩:=x.order_;exact⟨⟨w,hw.mono le,hww⟩,⟨co,hc.on o c (by decide),hcl⟩,⟨on,ho.mono le⟩,⟨gr,hg.mono le⟩,⟨od,hod.mono le⟩,x.args_.on o c (by decide),x.len_,λv hv=>let⟨q,e,ew⟩:=x.reps v hv;⟨q,e.mono le,ew⟩⟩
theorem QM.new{d:Nat}{m0:MH}{vs:List QV}{t:Sl}{E:TypeId}{ys:List (List Value)}(x:QM d m0 m h v vs)(n:mU m m' h' t E sz ys)(le:PH.le h h'):QM d m0 m' h' v vs:=by
 obtain⟨w,hw,hww⟩:=x.wher;obtain⟨co,hc,hcl⟩:=x.cols;obtain⟨on,ho⟩:=x.on_;obtain⟨gr,hg⟩:=x.group_;obtain⟨od,hod⟩:=x.order_;exact⟨⟨w,hw.mono le,hww⟩,⟨co,hc.new n,hcl⟩,⟨on,ho.mono le⟩,⟨gr,hg.mono le⟩,⟨od,hod.mono le⟩,x.args_.new n,x.len_,λv hv=>let⟨q,e,ew⟩:=x.reps v hv;⟨q,e.mono le,ew⟩⟩
theorem QM.grow{d:Nat}{m0:MH}{v':QV}{vs:List QV}{s':Sl}{u:QV}(x:QM d m0 m h v vs)(g:eM m m' v.args s' 38 21 (vs.map QV.enc++[u.enc]))(k:Kept m0 m cb)(c:aM m h cb)(hu:∃q,dD h q u/\QA d q)(hl:vs.length<=1)
 (ew:v'.where_=v.where_)(ec:v'.columns=v.columns)(eo:∃l,lK h v'.on l)(eg:∃l,Ints h v'.group l)(ed:∃l,iW h v'.order l)(ea:v'.args=s'):QM d m0 m' h v' (vs++[u]):=by
 obtain⟨co,hc,hcl⟩:=x.cols;refine⟨by rw[ew];exact x.wher,⟨co,by rw[ec];exact hc.apart x.args_ g (by decide),hcl⟩,eo,eg,ed,by rw[ea,List.map_append];exact x.args_.grown g k c,by simp;omega,λv hv=>?_⟩;rcases List.mem_append.1 hv with h1|h1
 .exact x.reps v h1
 .simp at h1;subst h1;exact hu
theorem Se(h:eV s=0):Bk s:=Classical.byContradiction λhn=>by rw[sH hn]at h;cases h
theorem sG(h:eV s=0):nK s:=λt ht=>by
 obtain⟨i,hi⟩:=List.mem_iff_getElem?.1 ht;have:=(Se h).2 i t hi;exact this.1
theorem DG(h:eV s=0):s.tables.length<=8:=(Se h).1
theorem II(s:nY)(ps:List Int)(q:Query):(fI s ps q).1.length<=12:=by
 unfold fI;split
 .split
  .split
   .exact DR s ps q
   .simp[j7]
  .simp[j7]
 .simp[j7]
theorem Mk{t:Int}(he:eV s=0)(hp:ps.all eA=true)(h0:0<=t)(h1:t<s.tables.length):(fI s ps (.mk 1 t iO [] [] [] [] 0 [])).2=0:=by
 have h8:=sG he
 have hk:(gR s t).length<=12:=by
  unfold gR;split
  .simp
  .split
   .simp
   .rename_i x hx;have:=h8 x (List.mem_of_getElem? hx);simp;omega
 have e1:bZ s ps (.mk 1 t iO [] [] [] [] 0 [])=jC s ps (.mk 1 t iO [] [] [] [] 0 []) [] []:=by simp[bZ,fZ,arity]
 have e2:mX (.mk 1 t iO [] [] [] [] 0 [])=true:=by rfl
 unfold fI;rw[if_pos he,if_pos hp,if_pos e2,e1];unfold jC;rw[if_neg (by simp[arity,dZ])];simp only[if_true];rw[if_pos ⟨h0,h1⟩];unfold zK;rw[if_pos hk]
structure Zu(m0:MH)(h3:PH)(cb:Nat)(a q:QV)(mx:MH):Prop where
 case_:aM mx h3 cb
 kept:Kept m0 mx cb
 ex:∃o args,q=⟨o,0,iF,cF,cF,cF,cF,0,args⟩/\qI m0 mx args 38 21 ([a].map QV.enc)
theorem Zu.qm{d:Nat}{m0 mx:MH}{h3:PH}{a q:QV}(x:Zu m0 h3 cb a q mx)(hr:∃qa,dD h3 qa a/\QA d qa):QM d m0 mx h3 q [a]:=by
 obtain⟨o,args,rfl,hf⟩:=x.ex;exact⟨⟨_,Cq h3,Aw⟩,⟨[],qI.nil _ _ _ _,by simp⟩,⟨_,qF _⟩,⟨_,kZ _⟩,⟨_,wF _⟩,hf,by simp,λv hv=>by simp at hv;subst hv;exact hr⟩
theorem SJ:∀N,Sound Tryz.prog 13 (R0 N)
 |0=>by
  refine eJ (fn:=Tryz.f13) (c:=dO Tryz.f13) Tryz.func13 rfl (by decide) ?_;rintro cvs m h K ⟨cb,sc,p,s,ps,deep,rfl,_,_,_,_,_,_,_,_,_,hN,_⟩;omega
 |N+1=>by
  refine iB Tryz.func13 ?_;rintro cvs m h K ⟨cb,sc,p,s,ps,deep,rfl,hc,hs,he,hne,hp,hpl,hpk,d0,d1,hN,hK⟩;refine⟨X3 N cb sc p,rfl,aD F7 (aD K1 (aD K4 (aD Ua (aD K3 (aD T9 (aD C5 (aD (SJ N) aF))))))),Po N cb sc p deep m h K,by kernel_rfl,?_⟩;have htl:=hs.tables.slen;have h8:=sG he;have ht8:=DG he;have htp:0<s.tables.length:=List.length_pos_iff.2 hne;have hif:(if(sc.tables.len:Int)>1 then(sc.tables.len:Int)else 1)=(sc.tables.len:Int):=by split<;>omega
  have hm0:m cb≠none:=by obtain⟨cs,e⟩:=hc.blk;rw[e];simp
  dsimp only[Po,push_cast];rw[hif];refine⟨cb,12,rfl,hc,λk m1 k0 k1 o1 c1=>?_⟩;refine aE (λhd=>?_) (λhd=>aB (λ_=>?_) (λ_=>aB (λ_=>?_) (λ_=>?_)))
  .exact⟨cb,_,rfl,c1,λk2 m2 k20 k21 o2 c2=>⟨k2,rfl,hK _ _ m2 h (.refl _) (zU h k2) (El k2) (xF.mono (d:=0) nE.scan (Nat.zero_le _)) (Mk he hpk k20 aC) (o1.trans o2) c2⟩⟩
  .exact⟨cb,_,rfl,c1,λk2 m2 k20 k21 o2 c2=>⟨k2,rfl,hK _ _ m2 h (.refl _) (zU h k2) (El k2) (xF.mono (d:=0) nE.scan (Nat.zero_le _)) (Mk he hpk k20 aC) (o1.trans o2) c2⟩⟩
  .exact⟨cb,_,rfl,c1,λk2 m2 k20 k21 o2 c2=>⟨k2,rfl,hK _ _ m2 h (.refl _) (zU h k2) (El k2) (xF.mono (d:=0) nE.scan (Nat.zero_le _)) (Mk he hpk k20 aC) (o1.trans o2) c2⟩⟩
  have hw1:IntKind.i64.wrap (deep-1)=deep-1:=eB aC aC;have hw2:IntKind.i64.wrap (deep-2)=deep-2:=eB aC aC;rw[hw1];refine⟨cb,sc,p,s,ps,deep-1,rfl,c1,hs,he,hne,hp,hpl,hpk,aC,aC,aC,λa qa m2 h2 le2 ra qaw0 qaf qa0 o2 c2=>⟨sc,p,a,s,ps,qa,rfl,hs.mono le2,hp.mono le2,ra,λkk h3 le3 ik=>?_⟩⟩;have hkl:=II s ps qa;obtain⟨dd,hdd⟩:∃dd,(deep-1).toNat=dd:=⟨_,rfl⟩
  have hde:deep.toNat=dd+1:=by omega
  rw[hdd]at qaf;have qaw:QA dd qa:=⟨qaw0,qaf.arg⟩
  generalize hks:(fI s ps qa).fst=ks at ik hkl;clear hks;have hle3:PH.le h h3:=le2.trans le3;have ra3:dD h3 qa a:=ra.mono le3;refine⟨λ⟨d,op,a',q,k',mx,hx⟩=>d=deep/\a'=a/\k'=kk/\hx=h3/\Zu m h3 cb a q mx,λs1 m3 hnew=>⟨(deep,IntKind.i64.wrap (1+k),a,⟨IntKind.i64.wrap (1+k),0,iF,cF,cF,cF,cF,0,s1⟩,kk,m3,h3),⟨rfl,rfl,rfl,rfl,?_⟩,MT⟩,?_⟩
  .have k2:=(Kept.of o1).on o2;have c3:=c2.mono le3;exact⟨c3.keep (mU.at_cb hnew c3) (.refl _),k2.new hnew,_,_,rfl,mU.frow hnew k2 c3⟩
  rintro⟨deep,op,a',q,k',mx,hx⟩ ⟨rfl,rfl,rfl,rfl,mid⟩;dsimp only;have reach:∀(q:QV)(vs:List QV)(my:MH)(hy:PH),PH.le hx hy->Kept m my cb->aM my hy cb->QM dd m my hy q vs->D5 my hy->PH.le hx (Bd m my hy)/\bA m (uI m my) cb/\aM (uI m my) (Bd m my hy) cb/\∃qq,dD (Bd m my hy) qq q/\QW qq/\xF (dd+1) qq:=λq vs my hy l k c x d=>⟨l.trans (MO d),keep_other k,TG c hm0 d,x.ice d⟩
  have join:∀(q:QV)(u:QV)(s1:Sl)(my:MH)(hy:PH)(Q:Sl->MH->Prop),PH.le hx hy->Kept m my cb->aM my hy cb->QM dd m my hy q [a']->qI m my s1 38 21 [u.enc]->(∃qu,dD hy qu u/\QA dd qu)->
   (∀s' m',(∀q':QV,q'.where_=q.where_->q'.columns=q.columns->(∃l,lK hy q'.on l)->(∃l,Ints hy q'.group l)->(∃l,iW hy q'.order l)->q'.args=s'->QM dd m m' hy q' [a',u])->Kept m m' cb->aM m' hy cb->Q s' m')->
   ∃xs,dH my ⟨q.args.a,q.args.len,q.args.cap⟩ 38 21 xs/\∃ys,eG 21 ys/\oJ my hy ⟨s1.a,s1.len,s1.cap⟩ 21 ys/\(xs.length+ys.length)*280<=140737488355328/\xs.length+ys.length<=140737488355328/\∀(s':Sl)(m':MH),eM my m' ⟨q.args.a,q.args.len,q.args.cap⟩ s' 38 21 (xs++ys)->Q s' m':=
   λq u s1 my hy Q l k c x f hu hQ=>⟨_,x.args_.row,[u.enc],U7 [u],dH.src f.row,by simp,by simp,λs' m' g=>hQ s' m' (λq' e1 e2 e3 e4 e5 e6=>x.grow g k c hu (by simp) e1 e2 e3 e4 e5 e6) (k.grown x.args_ g) (c.keep (eM.at_cb g x.args_ c (by decide)) (.refl _))⟩
  refine⟨λ⟨a2,q,my,hy⟩=>a2=a'/\PH.le hx hy/\bA m my cb/\aM my hy cb/\∃qq,dD hy qq q/\QW qq/\xF (dd+1) qq,aB (λ_=>?_) (λ_=>?_),?_⟩
  ·
   refine⟨cb,3,rfl,mid.case_,λn m3 n0 n1 o3 c3=>?_⟩;refine⟨λ⟨a2,q,k2,n,my,hy⟩=>a2=a'/\k2=k'/\hy=hx/\ -1<=n/\n<=2/\aM my hx cb/\Kept m my cb/\QM dd m my hx q [a']/\∃co:List Int,qI m my q.columns 3 1 (co.map eI)/\(co.length:Int)<=2-n,λ⟨_,_,_,n,_,_⟩=>(n+1).toNat,⟨(a',q,k',n,m3,hx),⟨rfl,rfl,rfl,by show-1<=n;omega,by show n<=2;omega,c3,mid.kept.on o3,(mid.qm ⟨qa,ra3,qaw⟩).on o3 mid.case_ (.refl _),[],?_,by simp;omega⟩,MT⟩,?_⟩
   .obtain⟨o,args,rfl,hf⟩:=mid.ex;exact qI.nil _ _ _ _
   clear mid q c3 o3 m3 n0 n1 n;rintro⟨a2,q,k2,n,my,hy⟩ ⟨rfl,rfl,rfl,n0,n1,cy,ky,qm,co,fco,hcol⟩;dsimp only;refine aE (λhn=>⟨cb,_,rfl,cy,λc m4 _ _ o4 c4=>⟨_,(fco.on o4 cy (by decide)).row,by simp;omega,by simp;omega,λs' m5 g=>?_⟩⟩) (λhn d=>⟨(a2,q,uI m my,Bd m my hy),⟨rfl,reach q _ my hy (.refl _) ky cy qm d⟩,FT⟩);have f4:=fco.on o4 cy (by decide);have q4:=qm.on o4 cy (.refl _);have k4:=ky.on o4;have f5:qI m m5 s' 3 1 ((co++[c]).map eI):=by rw[List.map_append];exact f4.grown g k4 c4
   have hw3:IntKind.i64.wrap (n-1)=n-1:=eB aC aC;rw[hw3];refine⟨(a2,{q with columns:=s'},k2,n-1,m5,hy),⟨rfl,rfl,rfl,by show-1<=n-1;omega,by show n-1<=2;omega,c4.keep (eM.at_cb g f4 c4 (by decide)) (.refl _),k4.grown f4 g,⟨q4.wher,⟨_,f5,by simp;omega⟩,q4.on_,q4.group_,q4.order_,q4.args_.apart f4 g (by decide),q4.len_,q4.reps⟩,_,f5,by simp;omega⟩,by show(n-1+1).toNat<(n+1).toNat;omega,MT⟩
  .refine⟨λ⟨d,op,a2,q,k2,t,my,hy⟩=>d=deep/\a2=a'/\k2=k'/\hy=hx/\Zu m hx cb a' q my,aB (λ_=>⟨(deep,op,a',q,k',true,mx,hx),⟨rfl,rfl,rfl,rfl,mid⟩,MT⟩) (λ_=>⟨(deep,op,a',q,k',op==5,mx,hx),⟨rfl,rfl,rfl,rfl,mid⟩,MT⟩),?_⟩;clear mid q mx;rintro⟨deep,op,a',q,k',t,mx,hx⟩ ⟨rfl,rfl,rfl,rfl,mid⟩;dsimp only;refine aB (λ_=>?_) (λ_=>?_)
   ·
    rw[hw2];refine⟨cb,sc,p,s,ps,deep-2,rfl,mid.case_,hs.mono hle3,he,hne,hp.mono hle3,hpl,hpk,by show-1<=deep-2;omega,aC,aC,λb qb m5 h5 le5 rb qbw0 qbf _ o5 c5=>⟨sc,p,b,s,ps,qb,rfl,hs.mono (hle3.trans le5),hp.mono (hle3.trans le5),rb,λl h6 le6 il=>?_⟩⟩;have qbw:QA dd qb:=⟨qbw0,(qbf.mono aC).arg⟩
    have hll:=II s ps qb;generalize hls:(fI s ps qb).fst=ls at il hll;have q6:QM dd m m5 h6 q [a']:=(mid.qm ⟨qa,ra3,qaw⟩).on o5 mid.case_ (le5.trans le6);have k6:=mid.kept.on o5;have c6:=c5.mono le6;refine⟨λ⟨a2,b2,q,k2,l2,my,hy⟩=>a2=a'/\b2=b/\k2=k'/\l2=l/\hy=h6/\aM my h6 cb/\Kept m my cb/\QM dd m my h6 q [a'],aB (λ_=>aE (λ_=>⟨(a',b,{q with op:=5},k',l,m5,h6),⟨rfl,rfl,rfl,rfl,rfl,c6,k6,⟨q6.wher,q6.cols,q6.on_,q6.group_,q6.order_,q6.args_,q6.len_,q6.reps⟩⟩,MT⟩) (λ_=>⟨(a',b,q,k',l,m5,h6),⟨rfl,rfl,rfl,rfl,rfl,c6,k6,q6⟩,MT⟩)) (λ_=>⟨(a',b,q,k',l,m5,h6),⟨rfl,rfl,rfl,rfl,rfl,c6,k6,q6⟩,MT⟩),?_⟩;have rb6:=rb.mono le6;have hx6:PH.le hx h6:=le5.trans le6;clear q6 k6 c6 o5 c5 rb le5 mid q;rintro⟨a2,b,q,k2,l,my,h6⟩ ⟨rfl,rfl,rfl,rfl,rfl,c6,k6,q6⟩;dsimp only;refine⟨⟨cb,k2,l,ks,ls,rfl,c6,ik.mono hx6,il,aC,aC,λo on m7 h7 le7 hon _ o7 c7 s1 m8 hnew=>?_⟩,λs1 m7 hnew=>⟨cb,k2,l,ks,ls,rfl,c6.keep (mU.at_cb hnew c6) (.refl _),ik.mono hx6,il,aC,aC,λo on m8 h7 le7 hon _ o8 c8=>?_⟩⟩
    .have k7:=k6.on o7;refine join q b s1 m8 h7 _ (hx6.trans le7) (k7.new hnew) (c7.keep (mU.at_cb hnew c7) (.refl _)) ((q6.on o7 c6 le7).new hnew (.refl _)) (mU.frow hnew k7 c7) ⟨qb,rb6.mono le7,qbw⟩ (λs' m9 hq k9 c9 d=>?_);exact⟨(a2,{q with on:=o,args:=s'},uI m m9,Bd m m9 h7),⟨rfl,reach _ _ m9 h7 (hx6.trans le7) k9 c9 (hq {q with on:=o,args:=s'} rfl rfl ⟨on,hon⟩ (let⟨l,e⟩:=q6.group_;⟨l,e.mono le7⟩) (let⟨l,e⟩:=q6.order_;⟨l,e.mono le7⟩) rfl) d⟩,FT⟩
    .have k7:=k6.new hnew;have c7:aM m7 h6 cb:=c6.keep (mU.at_cb hnew c6) (.refl _);have k8:=k7.on o8;refine join q b s1 m8 h7 _ (hx6.trans le7) k8 c8 ((q6.new hnew (.refl _)).on o8 c7 le7) ((mU.frow hnew k6 c6).on o8 c7 (by decide)) ⟨qb,rb6.mono le7,qbw⟩ (λs' m9 hq k9 c9 d=>?_);exact⟨(a2,{q with on:=o,args:=s'},uI m m9,Bd m m9 h7),⟨rfl,reach _ _ m9 h7 (hx6.trans le7) k9 c9 (hq {q with on:=o,args:=s'} rfl rfl ⟨on,hon⟩ (let⟨l,e⟩:=q6.group_;⟨l,e.mono le7⟩) (let⟨l,e⟩:=q6.order_;⟨l,e.mono le7⟩) rfl) d⟩,FT⟩
   .refine⟨λ⟨op,a2,q,k2,t,my,hy⟩=>a2=a'/\k2=k'/\hy=hx/\Zu m hx cb a' q my,aB (λ_=>⟨(op,a',q,k',true,mx,hx),⟨rfl,rfl,rfl,mid⟩,MT⟩) (λ_=>aB (λ_=>⟨(op,a',q,k',true,mx,hx),⟨rfl,rfl,rfl,mid⟩,MT⟩) (λ_=>⟨(op,a',q,k',op==8,mx,hx),⟨rfl,rfl,rfl,mid⟩,MT⟩)),?_⟩;clear mid q mx;rintro⟨op,a',q,k',t,mx,hx⟩ ⟨rfl,rfl,rfl,mid⟩;dsimp only;have q3:=mid.qm ⟨qa,ra3,qaw⟩;refine aB (λ_=>?_) (λ_=>aB (λ_=>?_) (λ_=>aB (λ_=>?_) (λ_=>?_)))
    ·
     refine⟨cb,sc,p,k',a',s,ps,ks,qa,rfl,mid.case_,hs.mono hle3,h8,aC,hp.mono hle3,hpl,ik,aC,ra3,qaw.1,λw qw m5 h5 le5 rw5 qww o5 c5 s1 m6 hnew=>?_⟩;have k5:=mid.kept.on o5;refine join q w s1 m6 h5 _ le5 (k5.new hnew) (c5.keep (mU.at_cb hnew c5) (.refl _)) ((q3.on o5 mid.case_ le5).new hnew (.refl _)) (mU.frow hnew k5 c5) ⟨qw,rw5,qww.qw,qww.siz dd qaf⟩ (λs' m9 hq k9 c9 d=>?_);have q5:=q3.on o5 mid.case_ le5;exact⟨(a',{q with args:=s'},uI m m9,Bd m m9 h5),⟨rfl,reach _ _ m9 h5 le5 k9 c9 (hq {q with args:=s'} rfl rfl q5.on_ q5.group_ q5.order_ rfl) d⟩,FT⟩
    ·
     obtain⟨o,args,rfl,hf⟩:=mid.ex;refine⟨cb,⟨o,0,iF,cF,cF,cF,cF,0,args⟩,k',ks,rfl,mid.case_,ik,aC,λg od kk gr odl m5 h5 le5 hg hod _ _ _ _ o5 c5 d=>?_⟩;have q5:=q3.on o5 mid.case_ le5;exact⟨(a',⟨o,0,iF,cF,cF,g,od,kk,args⟩,uI m m5,Bd m m5 h5),⟨rfl,reach _ [a'] m5 h5 le5 (mid.kept.on o5) c5 ⟨q5.wher,q5.cols,q5.on_,⟨gr,hg⟩,⟨odl,hod⟩,q5.args_,q5.len_,q5.reps⟩ d⟩,FT⟩
    ·
     obtain⟨o,args,rfl,hf⟩:=mid.ex;refine⟨cb,⟨o,0,iF,cF,cF,cF,cF,0,args⟩,k',ks,rfl,mid.case_,ik,aC,λg od kk gr odl m5 h5 le5 hg hod _ _ _ _ o5 c5=>?_⟩;have q5:=q3.on o5 mid.case_ le5;have q5':QM dd m m5 h5 ⟨o,0,iF,cF,cF,g,od,kk,args⟩ [a']:=⟨q5.wher,q5.cols,q5.on_,⟨gr,hg⟩,⟨odl,hod⟩,q5.args_,q5.len_,q5.reps⟩
     refine⟨cb,sc,p,k',a',s,ps,ks,qa,rfl,c5,hs.mono (hle3.trans le5),h8,aC,hp.mono (hle3.trans le5),hpl,ik.mono le5,aC,ra3.mono le5,qaw.1,λw qw m6 h6 le6 rw6 qww o6 c6 s1 m7 hnew=>?_⟩;have k6:=(mid.kept.on o5).on o6;refine join ⟨o,0,iF,cF,cF,g,od,kk,args⟩ w s1 m7 h6 _ (le5.trans le6) (k6.new hnew) (c6.keep (mU.at_cb hnew c6) (.refl _)) ((q5'.on o6 c5 le6).new hnew (.refl _)) (mU.frow hnew k6 c6) ⟨qw,rw6,qww.qw,qww.siz dd qaf⟩ (λs' m9 hq k9 c9 d=>?_);exact⟨(a',⟨o,0,iF,cF,cF,g,od,kk,s'⟩,uI m m9,Bd m m9 h6),⟨rfl,reach _ _ m9 h6 (le5.trans le6) k9 c9 (hq ⟨o,0,iF,cF,cF,g,od,kk,s'⟩ rfl rfl ⟨_,qF _⟩ ⟨gr,hg.mono le6⟩ ⟨odl,hod.mono le6⟩ rfl) d⟩,FT⟩
    ·
     refine⟨⟨cb,k',p,ks,ps,2,rfl,mid.case_,ik,hp.mono hle3,aC,hpl,aC,λpv pp m5 h5 le5 rp rpw o5 c5 s1 m6 hnew d=>?_⟩,λs1 m5 hnew=>⟨cb,k',p,ks,ps,2,rfl,mid.case_.keep (mU.at_cb hnew mid.case_) (.refl _),ik,hp.mono hle3,aC,hpl,aC,λpv pp m6 h5 le5 rp rpw o6 c6 d=>?_⟩⟩
     .have k5:=mid.kept.on o5;exact⟨(a',⟨2,0,pv,cF,cF,cF,cF,0,s1⟩,uI m m6,Bd m m6 h5),⟨rfl,reach _ [a'] m6 h5 le5 (k5.new hnew) (c5.keep (mU.at_cb hnew c5) (.refl _)) ⟨⟨pp,rp,rpw.vals⟩,⟨[],qI.nil _ _ _ _,by simp⟩,⟨_,qF _⟩,⟨_,kZ _⟩,⟨_,wF _⟩,mU.frow hnew k5 c5,by simp,λv hv=>by simp at hv;subst hv;exact⟨qa,ra3.mono le5,qaw⟩⟩ d⟩,FT⟩
     .have k5:=mid.kept.new hnew;have c5:aM m5 hx cb:=mid.case_.keep (mU.at_cb hnew mid.case_) (.refl _);exact⟨(a',⟨2,0,pv,cF,cF,cF,cF,0,s1⟩,uI m m6,Bd m m6 h5),⟨rfl,reach _ [a'] m6 h5 le5 (k5.on o6) c6 ⟨⟨pp,rp,rpw.vals⟩,⟨[],qI.nil _ _ _ _,by simp⟩,⟨_,qF _⟩,⟨_,kZ _⟩,⟨_,wF _⟩,(mU.frow hnew mid.kept mid.case_).on o6 c5 (by decide),by simp,λv hv=>by simp at hv;subst hv;exact⟨qa,ra3.mono le5,qaw⟩⟩ d⟩,FT⟩
  .rintro⟨a2,q,my,hy⟩ ⟨rfl,ley,oy,cy,qq,rq,rqw,rqf⟩;dsimp only;refine⟨sc,p,q,s,ps,qq,rfl,hs.mono (hle3.trans ley),hp.mono (hle3.trans ley),rq,λsl h5 le5 _=>aB (λe=>?_) (λe=>?_)⟩
   .exact hK a2 qa my h5 ((hle3.trans ley).trans le5) ((ra3.mono ley).mono le5) qaw.1 (by rw[hde];exact qaf.mono aC) qa0 oy (cy.mono le5)
   .exact hK q qq my h5 ((hle3.trans ley).trans le5) (rq.mono le5) rqw (by rw[hde];exact rqf) (by simpa using e) oy (cy.mono le5)
mutual
def Kj(st:List (List (List VV))):Query->List (List VV)
 |.mk op ta w co on gr od li args=>if op=1 then st.getD ta.toNat []else WY op (.mk op ta w co on gr od li args) (NP st args)
def NP(st:List (List (List VV))):List Query->List (List (List VV))
 |[]=>[]
 |q::qs=>Kj st q::NP st qs
end
structure Cm(st ls:List (List (List VV)))(k:Nat)(ts:List Int):Prop where
 at_:∀(j:Nat)(t:Int),ts[j]? =some t->ls.getD (k+j) []=st.getD t.toNat []
theorem Cm.left{st ls:List (List (List VV))}{b:List Int}(x:Cm st ls k (a++b)):Cm st ls k a:=
 ⟨λj t h=>x.at_ j t (by rw[List.getElem?_append_left (List.getElem?_eq_some_iff.1 h).1];exact h)⟩
theorem Cm.right{st ls:List (List (List VV))}{b:List Int}(x:Cm st ls k (a++b)):Cm st ls (k+a.length) b:=
 ⟨λj t h=>by
  have:=x.at_ (a.length+j) t (by rw[List.getElem?_append_right aC,Nat.add_sub_cancel_left];exact h)
  rwa [show k+a.length+j=k+(a.length+j)by omega]⟩
theorem Ty{args:List Query}{kss:List (List Int)}(h1:fZ s ps args=(kss,0))(h2:(kss.length:Int)=arity 1):args=[]:=by
 cases args with
 |nil=>rfl
 |cons q qs=>obtain⟨_,_,_,_,rfl⟩:=jY h1;simp[arity]at h2;omega
mutual
theorem LL{s:nY}{ps:List Int}{st ls:List (List (List VV))}:∀{q:Query}{ks:List Int}{k:Nat},bZ s ps q=(ks,0)->Cm st ls k (eH q)->fO ls q k=(Kj st q,k+(eH q).length)
 |.mk op ta w co on gr od li args,ks,k,h,hl=>by
  obtain⟨kss,h1,h2,h3⟩:=w8 h;by_cases e:op=1
  .subst e;have h0:=Ty h1 h2;subst h0;have hs:eH (.mk 1 ta w co on gr od li [])=[ta]:=by simp[eH,dC]
   rw[hs]at hl⊢
   have:=hl.at_ 0 ta rfl;rw[Nat.add_zero]at this;rw[fO,Kj,if_pos rfl,if_pos rfl,this];rfl
  .have hs:eH (.mk op ta w co on gr od li args)=dC args:=by simp[eH,e]
   rw[hs]at hl⊢
   rw[fO,Kj,if_neg e,if_neg e,JN h1 hl]
theorem JN{s:nY}{ps:List Int}{st ls:List (List (List VV))}:∀{qs:List Query}{kss:List (List Int)}{k:Nat},fZ s ps qs=(kss,0)->Cm st ls k (dC qs)->dV ls qs k=(NP st qs,k+(dC qs).length)
 |[],kss,k,h,_=>by simp[dV,NP,dC]
 |q::qs,kss,k,h,hl=>by
  obtain⟨k1,kss',h1,h2,rfl⟩:=jY h;rw[dC]at hl;rw[dV,NP,dC,LL h1 hl.left,JN h2 hl.right,List.length_append,Nat.add_assoc]
end
mutual
theorem BI{s:nY}{ps:List Int}:∀{q:Query}{ks:List Int},bZ s ps q=(ks,0)->∀t∈eH q,0<=t/\t<s.tables.length
 |.mk op ta w co on gr od li args,ks,h,t,ht=>by
  obtain⟨kss,h1,h2,h3⟩:=w8 h;rw[eH]at ht;rcases List.mem_append.1 ht with h5|h5
  .split at h5
   .rename_i e;subst e;simp only[List.mem_singleton]at h5;subst h5;unfold jC at h3;dsimp only at h3;split at h3
    .simp[j7]at h3
    try rw[if_pos rfl]at h3
    split at h3
    .rename_i h4;exact h4
    .simp[j7]at h3
   .simp at h5
  .exact Kx h1 t h5
theorem Kx{s:nY}{ps:List Int}:∀{qs:List Query}{kss:List (List Int)},fZ s ps qs=(kss,0)->∀t∈dC qs,0<=t/\t<s.tables.length
 |[],kss,h,t,ht=>by rw[dC]at ht;simp at ht
 |q::qs,kss,h,t,ht=>by
  obtain⟨k1,kss',h1,h2,rfl⟩:=jY h;rw[dC]at ht;rcases List.mem_append.1 ht with ht|ht
  .exact BI h1 t ht
  .exact Kx h2 t ht
end
def uY(key:Int)(k:Int)(i:Nat)(v:VV):Bool:=gT v&&(v.kind==k||((v.kind==2||v.kind==1)&&decide (key<=(i:Int))))
def Be(t:uD)(r:List VV):Bool:=decide (r.length=t.columns.length)&&(List.range r.length).all λi=>uY t.key (t.columns.getD i ⟨⟨#[]⟩,0⟩).kind i (r.getD i zeroV)
def jT(t:uD)(r:List VV):List VV:=r.take (max 0 (min t.key r.length)).toNat
def Sb(t:uD)(l:List (List VV)):Prop:=(∀r∈l,Be t r=true)/\∀(i:Nat) r r',l[i]? =some r->l[i+1]? =some r'->dT (jT t r) (jT t r')<0
def Iy(s:nY)(st:List (List (List VV))):Prop:=∀(i:Nat) t l,s.tables[i]? =some t->st[i]? =some l->Sb t l
open Classical in
noncomputable def qL(s:nY)(st:List (List (List VV))):Int:=
 if eV s≠0 then eV s else if 512<(st.map λl=>(l.length:Int)).sum then 2 else if st.length≠s.tables.length then 80 else if Iy s st then 0 else 80
def Zo(st:List (List (List VV))):Prop:=∀l∈st,∀r∈l,∀v∈r,Nl v.kind/\Nl v.int
def wQ(t:uD)(key row:List VV):Bool->List (List VV)->List (List VV)
 |d,[]=>if d then[]else[row]
 |d,r::l=>(if 0<=dT (jT t r) key/\d=false then[row]else[])++((if dT (jT t r) key≠0 then[r]else[])++wQ t key row (d||decide (0<=dT (jT t r) key)) l)
def Kr(t:uD)(l:List (List VV)):Prop:=l.Pairwise λx y=>dT (jT t x) (jT t y)<0
theorem Fv{x y z:List VV}(h1:dT x y<0)(h2:dT y z<0):dT x z<0:=by
 have:=xB x y z aC aC;rcases Int.lt_or_eq_of_le this with h|h
 .exact h
 .rw[jB]at h;subst h;have:=kU x y;omega
theorem IJ{t:uD}{key row:List VV}:∀{l:List (List VV)},(∀r∈l,0<dT (jT t r) key)->wQ t key row true l=l
 |[],_=>rfl
 |r::l,h=>by
  have h1:=h r (List.mem_cons_self ..);rw[wQ,if_neg (by simp),if_pos aC,Bool.true_or,IJ λx hx=>h x (List.mem_cons_of_mem _ hx)];rfl
theorem HD{t:uD}{key row z:List VV}:∀{l:List (List VV)}{d:Bool},z∈wQ t key row d l->z=row\/z∈l
 |[],d,h=>by
  rw[wQ]at h;split at h
  .simp at h
  .simp at h;exact .inl h
 |r::l,d,h=>by
  rw[wQ]at h;rcases List.mem_append.1 h with h|h
  .split at h
   .simp at h;exact .inl h
   .simp at h
  .rcases List.mem_append.1 h with h|h
   .split at h
    .simp at h;exact .inr (by simp[h])
    .simp at h
   .exact(HD h).imp id λh=>List.mem_cons_of_mem _ h
theorem HE{t:uD}{key row:List VV}:∀{l:List (List VV)}{d:Bool},(wQ t key row d l).length<=l.length+(if d then 0 else 1)
 |[],d=>by rw[wQ];cases d<;>simp
 |r::l,d=>by
  have:=HE (t:=t) (key:=key) (row:=row) (l:=l) (d:=d||decide (0<=dT (jT t r) key));rw[wQ];simp only[List.length_append,List.length_cons];by_cases h:0<=dT (jT t r) key
  .cases d<;>by_cases h2:dT (jT t r) key=0<;>simp[h,h2]at this⊢ <;>omega
  .cases d<;>by_cases h2:dT (jT t r) key=0<;>simp[h,h2]at this⊢ <;>omega
theorem IK{t:uD}{row:List VV}:∀{l:List (List VV)},Kr t l->Kr t (wQ t (jT t row) row false l)
 |[],_=>by rw[wQ];exact List.pairwise_singleton _ _
 |r::l,h=>by
  obtain⟨h1,h2⟩:=List.pairwise_cons.1 h;rw[wQ];by_cases h3:0<=dT (jT t r) (jT t row)
  .rw[if_pos ⟨h3,rfl⟩,show(false||decide (0<=dT (jT t r) (jT t row)))=true by simp[h3]];by_cases h4:dT (jT t r) (jT t row)=0
   .rw[if_neg (by simp[h4])];have e:=jB.1 h4
    rw[IJ λx hx=>by
     have h5:=h1 x hx;rw[e]at h5;have:=kU (jT t x) (jT t row);omega]
    exact List.pairwise_cons.2 ⟨λx hx=>by rw[<-e];exact h1 x hx,h2⟩
   .rw[if_pos h4];have h5:dT (jT t row) (jT t r)<0:=by have:=kU (jT t row) (jT t r);omega
    rw[IJ λx hx=>by
     have h6:=Fv h5 (h1 x hx);have:=kU (jT t x) (jT t row);omega]
    refine List.pairwise_cons.2 ⟨λx hx=>?_,h⟩;rcases List.mem_cons.1 hx with rfl|hx
    .exact h5
    .exact Fv h5 (h1 x hx)
  .rw[if_neg (by simp[h3]),if_pos aC,show(false||decide (0<=dT (jT t r) (jT t row)))=false by simp[h3]];refine List.pairwise_cons.2 ⟨λx hx=>?_,IK h2⟩;rcases HD hx with rfl|hx
   .omega
   .exact h1 x hx
theorem NK{st:List (List (List VV))}(h:qL s st=0):eV s=0/\st.length=s.tables.length/\Iy s st/\(st.map λl=>(l.length:Int)).sum<=512:=by
 unfold qL at h;split at h
 .rename_i h1;exact absurd h h1
 .rename_i h1;split at h
  .simp at h
  .rename_i h2;split at h
   .simp at h
   .rename_i h3;split at h
    .rename_i h4;exact⟨Classical.not_not.1 h1,Classical.not_not.1 h3,h4,aC⟩
    .simp at h
theorem Vk{t:uD}{x y:List VV}(h:x.length=y.length):(jT t x).length=(jT t y).length:=by simp[jT,h]
theorem We{t:uD}{x y:List VV}(h:x.length=y.length)(hk:dT (jT t x) (jT t y)<0):dT x y<0:=by
 have h1:x=jT t x++x.drop (max 0 (min t.key x.length)).toNat:=(List.take_append_drop _ _).symm;have h2:y=jT t y++y.drop (max 0 (min t.key y.length)).toNat:=(List.take_append_drop _ _).symm;rw[h1,h2,Fw (Vk h),if_pos aC];exact hk
theorem Kr.of{t:uD}:∀{l:List (List VV)},(∀(i:Nat) r r',l[i]? =some r->l[i+1]? =some r'->dT (jT t r) (jT t r')<0)->Kr t l
 |[],_=>List.Pairwise.nil
 |[_],_=>List.pairwise_singleton _ _
 |a::b::l,h=>by
  have h1:Kr t (b::l):=Kr.of λi r r' e1 e2=>h (i+1) r r' e1 e2;refine List.pairwise_cons.2 ⟨λx hx=>?_,h1⟩;have h0:=h 0 a b rfl rfl;rcases List.mem_cons.1 hx with rfl|hx
  .exact h0
  .exact Fv h0 ((List.pairwise_cons.1 h1).1 x hx)
theorem Kr.adj{t:uD}{l:List (List VV)}(h:Kr t l)(i:Nat)(r r':List VV)(e1:l[i]? =some r)(e2:l[i+1]? =some r'):dT (jT t r) (jT t r')<0:=by
 obtain⟨h1,rfl⟩:=List.getElem?_eq_some_iff.1 e1;obtain⟨h2,rfl⟩:=List.getElem?_eq_some_iff.1 e2;exact List.pairwise_iff_getElem.1 h i (i+1) h1 h2 aC
theorem U0{t:ByteArray}(h:t.toList=(⟨#[]⟩:ByteArray).toList):t.size<=64:=by rw[wK h];decide
theorem DK{t:ByteArray}(h:BO t=true):t.size<=64:=U0 (by simp only[BO,beq_iff_eq]at h;rw[h,ByteArray.toList_eq])
theorem NA{v:VV}(h:gT v=true):v.text.size<=64:=by
 unfold gT at h;split at h
 .simp only[Bool.and_eq_true]at h;exact DK h.2
 .split at h
  .simp only[Bool.and_eq_true]at h;exact DK h.2
  .split at h
   .exact DK h
   .split at h
    .simp at h;omega
    .cases h
theorem xK(h:(fI s ps q).2=0):eV s=0/\ps.all eA=true/\mX q=true/\(bZ s ps q).2=0:=by
 unfold fI at h;split at h
 .rename_i h1;split at h
  .rename_i h2;split at h
   .rename_i h3;exact⟨h1,h2,h3,h⟩
   .simp[j7]at h
  .simp[j7]at h
 .rename_i h1;simp[j7]at h;exact(h1 h).elim
theorem GU{v:VV}(h:gT v=true):1<=v.kind/\v.kind<=5/\v.text.size<=64:=by
 refine⟨?_,?_,NA h⟩
 all_goals
  unfold gT at h;split at h
  .rename_i e;simp at e;omega
  .split at h
   .rename_i e;simp at e;omega
   .split at h
    .rename_i e;simp at e;omega
    .split at h
     .rename_i e;simp at e;omega
     .cases h
theorem MQ{t:uD}{r:List VV}(h:Be t r=true):r.length=t.columns.length/\∀v∈r,gT v=true:=by
 simp only[Be,Bool.and_eq_true,decide_eq_true_eq,List.all_eq_true,List.mem_range]at h;refine⟨h.1,λv hv=>?_⟩;obtain⟨i,hi,rfl⟩:=List.mem_iff_getElem.1 hv;have h2:=h.2 i hi;simp only[uY,Bool.and_eq_true,List.getD_eq_getElem?_getD,List.getElem?_eq_getElem hi,Option.getD_some]at h2;exact h2.1
theorem WQ{t:uD}{l:List (List VV)}(h8:t.columns.length<=12)(hok:Sb t l)(hv:∀r∈l,∀v∈r,Nl v.kind/\Nl v.int)(hl:l.length<=1000000):gZ t.columns.length l:=by
 have hw:∀r∈l,r.length=t.columns.length:=λr hr=>(MQ (hok.1 r hr)).1;refine⟨λr hr=>⟨by rw[hw r hr];exact h8,λv hx=>?_⟩,hw,?_,hl⟩
 .have h1:=(MQ (hok.1 r hr)).2 v hx;have h2:=hv r hr v hx;exact⟨h2.1,h2.2,(GU h1).2.2⟩
 .exact(Kr.of hok.2).imp_of_mem fun{x y} hx hy h=>We (by rw[hw x hx,hw y hy]) h
def jX(st:List (List (List VV)))(q:Query):List (List (List VV)):=(eH q).map λt=>st.getD t.toNat []
theorem U2{st:List (List (List VV))}{t:Int}(hst:qL s st=0)(hv:Zo st)(h0:0<=t)(h1:t<s.tables.length):gZ (gR s t).length (st.getD t.toNat [])/\st.getD t.toNat []∈st:=by
 obtain⟨h2,h3,h4,h5⟩:=NK hst;have ht:t.toNat<s.tables.length:=by omega
 have hl:t.toNat<st.length:=by omega
 have e1:s.tables[t.toNat]? =some s.tables[t.toNat]:=List.getElem?_eq_getElem ht;have e2:st[t.toNat]? =some st[t.toNat]:=List.getElem?_eq_getElem hl;have e3:st.getD t.toNat []=st[t.toNat]:=by rw[List.getD_eq_getElem?_getD,e2];rfl
 have hm:st[t.toNat]∈st:=List.getElem_mem hl;have h8:=sG h2 _ (List.getElem_mem ht);have hk:(gR s t).length=s.tables[t.toNat].columns.length:=by rw[gR,if_neg aC,e1];simp
 have hle:∀{l:List (List (List VV))}{x},x∈l->((x.length:Nat):Int)<=(l.map λl=>(l.length:Int)).sum:=fun{l x}=>by
  induction l with
  |nil=>intro h;simp at h
  |cons a l ih=>
   intro h
   have h0:∀l:List (List (List VV)),0<=(l.map λl=>(l.length:Int)).sum:=λl=>by
    induction l with
    |nil=>simp
    |cons a l ih=>simp only[List.map_cons,List.sum_cons];omega
   simp only[List.map_cons,List.sum_cons];rcases List.mem_cons.1 h with rfl|h
   .have:=h0 l;omega
   .have:=ih h;omega
 have:=hle hm;rw[e3,hk];exact⟨WQ aC (h4 _ _ _ e1 e2) (hv _ hm) aC,hm⟩
theorem YS{st:List (List (List VV))}{ks:List Int}{c:Nat}(hst:qL s st=0)(hv:Zo st)(hc:∀l∈st,l.length<=c)(h1:1<=c)(hq:bZ s ps q=(ks,0))(hb:lL c q<=1000000):
 Sm (jX st q) q 0/\(fO (jX st q) q 0).1=Kj st q/\gZ ks.length (Kj st q)/\(Kj st q).length<=1000000:=by
 have e1:∀(j:Nat)(t:Int),(eH q)[j]? =some t->(jX st q)[0+j]? =some (st.getD t.toNat []):=λj t h=>by rw[Nat.zero_add,jX,List.getElem?_map,h];rfl
 have x:=Ca h1 (ls:=jX st q) (k:=0) hq ⟨λj t h=>⟨_,e1 j t h,by
  have ht:=BI hq t (List.mem_of_getElem? h);have:=U2 hst hv ht.1 ht.2;exact⟨this.1,hc _ this.2⟩⟩⟩ hb
 have y:=LL (st:=st) (ls:=jX st q) (k:=0) hq ⟨λj t h=>by rw[List.getD_eq_getElem?_getD,e1 j t h];rfl⟩;have e2:(fO (jX st q) q 0).1=Kj st q:=by rw[y]
 refine⟨x.ok,e2,by rw[<-e2];exact x.rel,?_⟩;rw[<-e2];exact Nat.le_trans x.bnd hb
def Yr(s:Sl):CV:=.val (.agg ⟨[.slice s.a s.len s.cap]⟩)
def YD:Vc.Spec:=λcvs m h K=>∃v s,cvs=[aS v,cI 3]/\gS h s v/\K (cI (eV s)) m h
def rT(st:List (List (List VV))):Int:=(st.map λl=>(l.length:Int)).sum
def Tj:Vc.Spec:=λcvs m h K=>∃s st,cvs=[Yr s]/\Leaves h s st/\st.length<=1000/\K (cI (rT st)) m h
def TO(s:nY)(t:Int)(r:List VV):Bool:=sR s t&&(match s.tables[t.toNat]? with|some tb=>Be tb r|none=>false)
def E7(s:nY)(t:Int)(r:List VV):List VV:=match(if sR s t then s.tables[t.toNat]? else none)with|some tb=>jT tb r|none=>[]
def YF:Vc.Spec:=λcvs m h K=>∃v s t sl r,cvs=[aS v,cI t,cS sl,cI 3]/\gS h s v/\cC h sl r/\K (cB (TO s t r)) m h
def S6:Vc.Spec:=λcvs m h K=>∃v s t sl r,cvs=[aS v,cI t,cS sl]/\gS h s v/\cC h sl r/\∀s',cC h s' (E7 s t r)->K (cS s') m h
def Hq:Vc.Spec:=λcvs m h K=>∃v s sl st,cvs=[aS v,cI 3,Yr sl]/\gS h s v/\Leaves h sl st/\st.length<=1000/\K (cI (qL s st)) m h
noncomputable def Xj:Ctx:=dL [(104,Zb),(105,GO)] [(7,{A:=Nat×bO×Sl×MH×PH,st:=λ⟨i,t,s,m,h⟩=>cD 95 99 [(3,iv 3),(9,.at (.ptr 9 0)),(41,sv s),(42,iv s.len),(43,iv i)] [(9,.cells 86 (t.enc.map .val))] m h})]
 [(12,{A:=Nat×bO×VV×Sl×Bool×MH×PH,st:=λ⟨i,t,v,s,b,m,h⟩=>cD 95 99 [(3,iv 3),(9,.at (.ptr 9 0)),(10,iv i),(11,.at (.ptr 11 0)),(12,bv b),(41,sv s),(42,iv s.len),(43,iv i)] [(9,.cells 86 (t.enc.map .val)),(11,.cells 27 (v.enc.map .val))] m h}),
  (13,{A:=Nat×bO×VV×Sl×Bool×Bool×MH×PH,st:=λ⟨i,t,v,s,b,c,m,h⟩=>cD 95 99 [(3,iv 3),(9,.at (.ptr 9 0)),(10,iv i),(11,.at (.ptr 11 0)),(12,bv b),(13,bv c),(41,sv s),(42,iv s.len),(43,iv i)] [(9,.cells 86 (t.enc.map .val)),(11,.cells 27 (v.enc.map .val))] m h})] [] false
noncomputable def Xk(s:Sl)(m:MH)(h:PH):Ctx:=dL [] [(3,{A:=Nat×Int,st:=λ⟨i,n⟩=>cD 19 20 [(3,iv n),(7,sv s),(8,iv s.len),(9,iv i)] [] m h})] [] [] false
noncomputable def f56_ctx(v:bR)(s:Sl)(m:MH)(h:PH):Ctx:=dL [(82,YD),(83,Tj),(84,YF),(85,S6),(71,FD)]
 [(9,{A:=Nat,st:=λi=>cD 69 72 [(1,iv 3),(3,.at (.ptr 3 0)),(29,sv s),(30,iv s.len),(31,iv i)] [(3,.cells 43 (v.enc.map .val))] m h}),
  (12,{A:=Nat×Sl×Nat,st:=λ⟨i,u,j⟩=>cD 69 72 [(1,iv 3),(3,.at (.ptr 3 0)),(8,iv i),(9,sv u),(29,sv s),(30,iv s.len),(31,iv i),(36,sv u),(37,iv u.len),(38,iv j)] [(3,.cells 43 (v.enc.map .val))] m h})] [] [] false
def OH(v:bR)(m:MH)(h:PH)(K:CV->MH->PH->Prop):Prop:=
  jW (λv1 s=>aA (fT (jK (cA v)) (jK (cA v1))) (gS h s v1) (eR (eV s) 0 (K (fH (eV s)) m h) (K (fH 0) m h)))
def OG(s:Sl)(m:MH)(h:PH)(K:CV->MH->PH->Prop):Prop:=
  ∃(I:Nat×Int->Prop)(m1:Nat×Int->Nat),(∃(x:Nat×Int),aA (I x) (cL 0 x.2) (aA (aJ s) (bJ s) (aH (aZ x.1) (m=m) (h=h) True)))/\∀(x:Nat×Int),I x->aW (↑x.1:Int) (aG s) (cZ s.a (↑x.1:Int) s (λb o y=>aL m h b (bF o x.1 1) (aK y)/\∃(x1:Nat×Int),aA (I x1) (m1 x1<m1 x) (aA (cL (iN (x.2+aG y)) x1.2) (aJ s) (aA (bJ s) (fV (bB x.1 1)=bM x1.1) (aA (m=m) (h=h) True))))) (K (fH x.2) m h)
abbrev lT:Prop:=eQ (fV 3)
noncomputable abbrev oK(a:Nat×bO×Sl×MH×PH):Sl:=a.2.2.1
noncomputable abbrev BQ(a:Nat×bO×Sl×MH×PH):bO:=a.2.1
noncomputable abbrev tU(a:Nat×bO×Sl×MH×PH):Nat->Nat->Option Value:=a.2.2.2.2
noncomputable abbrev EU(a:Nat×bO×VV×Sl×Bool×MH×PH):Bool:=a.2.2.2.2.1
noncomputable abbrev vZ(a:Nat×bO×VV×Sl×Bool×MH×PH):Sl:=a.2.2.2.1
noncomputable abbrev FU(a:Nat×bO×VV×Sl×Bool×MH×PH):bO:=a.2.1
noncomputable abbrev v7(a:Nat×bO×VV×Sl×Bool×MH×PH):MH×PH:=a.2.2.2.2.2
noncomputable abbrev rI(a:Nat×bO×VV×Sl×Bool×Bool×MH×PH):Sl:=a.2.2.2.1
noncomputable abbrev BP(a:Nat×bO×VV×Sl×Bool×Bool×MH×PH):bO:=a.2.1
noncomputable abbrev yE(a:Nat×bO×VV×Sl×Bool×Bool×MH×PH):Nat->Nat->Option Value:=a.2.2.2.2.2.2.2
noncomputable abbrev CM(a:Nat×bO×VV×Sl×Bool×Bool×MH×PH):Nat->Option Obj:=a.2.2.2.2.2.2.1
attribute [push_cast] lT oK BQ tU EU vZ FU v7 rI BP yE CM
def OF(v:bR)(t:Int)(s:Sl)(m:MH)(h:PH)(K:CV->MH->PH->Prop):Prop:=
  jW (λv1 s1=>∃(t1:Int),aA (cJ (jK (cA v)) t=cJ (jK (cA v1)) t1) (gS h s1 v1) (branch (!(sR s1 t1)) (K aU m h) (Cy v t (λb o=>∃(y:bO),aL m h b (fJ o t 5) (tT y)/\eR (aG s) (Az y) (K aU m h) (∃(I:Nat×bO×Sl×MH×PH->Prop)(m1:Nat×bO×Sl×MH×PH->Nat),(∃(x:Nat×bO×Sl×MH×PH),aA (I x) lT (aA (eP 9) (bI s (oK x)) (aA (bP s (oK x)) (aZ x.1) (aA (oQ 86 (fE y)=oQ 86 (fE (BQ x))) (bG m x.2.2.2) (bN h (tU x))))))/\∀(x:Nat×bO×Sl×MH×PH),I x->aW (↑x.1:Int) (aG (oK x)) (bD (λb1 o1=>aH (bE (oK x).a b1 o1) (0<=(↑x.1:Int)) ((↑x.1:Int)<aG (oK x)) (∃(y1:VV),aL (jH x.2.2) (tU x) b1 (bF o1 x.1 3) y1.enc/\∃(v2:VV),hZ (fT (fC y1) (fC v2))
 (!(gT v2)) (K aU (jH x.2.2) (tU x)) (∃(I1:Nat×bO×VV×Sl×Bool×MH×PH->Prop),dR y1.kind 2 (∃(x1:Nat×bO×VV×Sl×Bool×MH×PH),aA (I1 x1) lT (aA (eP 9) (bX x.1 x1.1) (aA (eP 11) (hX (decide ((↑x.1:Int)>=(BQ x).key)) (EU x1)) (aA (bI (oK x) (vZ x1)) (bP (oK x) (vZ x1)) (aA (bX x.1 x1.1) (oQ 86 (fE (BQ x))=oQ 86 (fE (FU x1))) (aA (zD y1=zD x1.2.2.1) (bG (jH x.2.2) (v7 x1)) (bN (tU x) (v7 x1).2))))))) (∃(x1:Nat×bO×VV×Sl×Bool×MH×PH),aA (I1 x1) lT (aA (eP 9) (bX x.1 x1.1) (aA (eP 11) (AD (EU x1)) (aA (bI (oK x) (vZ x1)) (bP (oK x) (vZ x1)) (aA (bX x.1 x1.1) (oQ 86 (fE (BQ x))=oQ 86 (fE (FU x1))) (aA (zD y1=zD x1.2.2.1) (bG
 (jH x.2.2) (v7 x1)) (bN (tU x) (v7 x1).2)))))))/\∀(x1:Nat×bO×VV×Sl×Bool×MH×PH),I1 x1->∃(I2:Nat×bO×VV×Sl×Bool×Bool×MH×PH->Prop),dR x1.2.2.1.kind 1 (∃(x2:Nat×bO×VV×Sl×Bool×Bool×MH×PH),aA (I2 x2) lT (aA (eP 9) (bX x1.1 x2.1) (aA (eP 11) (hX (EU x1) x2.2.2.2.2.1) (aA (hX (decide ((↑x1.1:Int)>=(FU x1).key)) x2.2.2.2.2.2.1) (bI (vZ x1) (rI x2)) (aA (bP (vZ x1) (rI x2)) (bX x1.1 x2.1) (aA (oQ 86 (fE (FU x1))=oQ 86 (fE (BP x2))) (zD x1.2.2.1=zD x2.2.2.1) (bT (bG (v7 x1).1 x2.2.2.2.2.2.2) (v7 x1).2 (yE x2)))))))) (∃(x2:Nat×bO×VV×Sl×Bool×Bool×MH×PH),aA (I2 x2) lT (aA (eP 9) (bX x1.1 x2.1) (aA (eP 11) (hX (EU x1) x2.2.2.2.2.1) (aA (AD
 x2.2.2.2.2.2.1) (bI (vZ x1) (rI x2)) (aA (bP (vZ x1) (rI x2)) (bX x1.1 x2.1) (aA (oQ 86 (fE (FU x1))=oQ 86 (fE (BP x2))) (zD x1.2.2.1=zD x2.2.2.1) (bT (bG (v7 x1).1 x2.2.2.2.2.2.2) (v7 x1).2 (yE x2))))))))/\∀(x2:Nat×bO×VV×Sl×Bool×Bool×MH×PH),I2 x2->bD (λb2 o2=>aH (bE (BP x2).columns.a b2 o2) (0<=(↑x2.1:Int)) ((↑x2.1:Int)<aG (BP x2).columns) (∃(y2:Int),aL (CM x2) (yE x2) b2 (bF o2 x2.1 2+1) (bW y2)/\eR x2.2.2.1.kind y2 (branch (!x2.2.2.2.2.1) (branch (!x2.2.2.2.2.2.1) (K aU (CM x2) (yE x2)) (∃(x3:Nat×bO×Sl×MH×PH),aA (I x3) (m1 x3<m1 x) (aA lT (eP 9) (aA (bI (rI x2) (oK x3)) (bP (rI x2) (oK x3)) (aA (fV (bB x2.1 1)=bM x3.1) (oQ 86 (fE (BP
 x2))=oQ 86 (fE (BQ x3))) (bT (bG (CM x2) x3.2.2.2) (yE x2) (tU x3))))))) (∃(x3:Nat×bO×Sl×MH×PH),aA (I x3) (m1 x3<m1 x) (aA lT (eP 9) (aA (bI (rI x2) (oK x3)) (bP (rI x2) (oK x3)) (aA (fV (bB x2.1 1)=bM x3.1) (oQ 86 (fE (BP x2))=oQ 86 (fE (BQ x3))) (bT (bG (CM x2) x3.2.2.2) (yE x2) (tU x3))))))) (∃(x3:Nat×bO×Sl×MH×PH),aA (I x3) (m1 x3<m1 x) (aA lT (eP 9) (aA (bI (rI x2) (oK x3)) (bP (rI x2) (oK x3)) (aA (fV (bB x2.1 1)=bM x3.1) (oQ 86 (fE (BP x2))=oQ 86 (fE (BQ x3))) (bT (bG (CM x2) x3.2.2.2) (yE x2) (tU x3)))))))))))) (K fK (jH x.2.2) (tU x)))))))
def OE(v:bR)(t:Int)(s:Sl)(m:MH)(h:PH)(K:CV->MH->PH->Prop):Prop:=
  aW t 0 (K Dm m h) (gK t (hU v) (K Dm m h) (bD (λb o=>aH (bE (oU v) b o) (0<=t) (t<aG v.tables) (∃(y:Int),aH (aL m h b (fJ o t 5+2) (bW y)) (0<=ite (oM s y>0) (oM s y) 0) (ite (oM s y>0) (oM s y) 0<=(↑s.cap:Int)) (K (CV.val (Value.slice s.a (ite (oM s y>0) (oM s y) 0).toNat s.cap)) m h)))))
noncomputable abbrev lF(a:Nat×Sl×Nat):Sl:=a.2.1
noncomputable abbrev EW(a:Nat×Sl×Nat):Int:=iN ((↑a.2.2:Int)-1)
attribute [push_cast] lF EW
def f56_nice(v:bR)(s:Sl)(m:MH)(h:PH)(K:CV->MH->PH->Prop):Prop:=
  jW (λv1 s1=>aA (cJ (jK (cA v)) 3=cJ (jK (cA v1)) 3) (gS h s1 v1) (eR (eV s1) 0 (K (fH (eV s1)) m h) (zI (λs2 s3=>aH (fT (jK (aK s)) (jK (aK s2))) (Leaves h s2 s3) (mO s3.length) (dA (decide (rT s3>512)) (K (fH 2) m h) (aG s !=hU v) (K (fH 80) m h) (lV (λI x=>aA (I x) lT (aA (eP 3) (aJ s) (aA (bJ s) (aZ x) (aA (bL v) (m=m) (bN h h))))) (λI m1 x=>I x->aW (↑x:Int) (aG s) (cZ s.a (↑x:Int) s (λb o y=>aL m h b (bF o x 1) (aK y)/\∃(I1:Nat×Sl×Nat->Prop)(m2:Nat×Sl×Nat->Nat),(∃(x1:Nat×Sl×Nat),aA (I1 x1) lT (aA (eP 3) (bX x x1.1) (aA (bI y (lF x1)) (aJ s) (aA (bJ s) (bX x x1.1) (aA (bI y (lF x1)) (bP y (lF x1)) (aA (aZ x1.2.2) (bL v) (bT (m=m)
 h h)))))))/\∀(x1:Nat×Sl×Nat),I1 x1->aW (↑x1.2.2:Int) (aG (lF x1)) (cZ (lF x1).a (↑x1.2.2:Int) (lF x1) (λb1 o1 y1=>aL m h b1 (bF o1 x1.2.2 1) (aK y1)/\jW (λv2 s4=>∃(t:Int),kP (λs5 r=>aH (cE (cA v) (fH (↑x1.1:Int)::iK y1 3)=cE (cA v2) (fH t::iK s5 3)) (gS h s4 v2) (cC h s5 r) (dA (!(TO s4 t r)) (K (fH 80) m h) (decide ((↑x1.2.2:Int)>0)) (cZ (lF x1).a (EW x1) (lF x1) (λb2 o2 y2=>aL m h b2 (fJ o2 (EW x1) 1) (aK y2)/\jW (λv3 s6=>∃(t1:Int),kP (λs7 r1=>aH (cE (cA v) (bK (fH (↑x1.1:Int)) (lY y2))=cE (cA v3) (bK (fH t1) (lY s7))) (gS h s6 v3) (cC h s7 r1) (∀(s8:Sl),cC h s8 (E7 s6 t1 r1)->aX h b2 (fJ o2 (EW x1) 1) (aK y2)/\jW (λv4 s9=>∃(t2:
 Int),kP (λa r2=>aH (cE (cA v) (bK (fH (↑x1.1:Int)) (lY y1))=cE (cA v4) (bK (fH t2) (lY a))) (gS h s9 v4) (cC h a r2) (∀(a1:Sl),cC h a1 (E7 s9 t2 r2)->aX h b2 (fJ o2 (EW x1) 1) (aK y2)/\xT s8 a1 h (λa2 b3=>gK (dT a2 b3) 0 (K (fH 80) m h) (∃(x2:Nat×Sl×Nat),aA (I1 x2) (m2 x2<m2 x1) (aA lT (eP 3) (aA (bX x1.1 x2.1) (bI (lF x1) (lF x2)) (aA (aJ s) (bJ s) (aA (bX x1.1 x2.1) (bI (lF x1) (lF x2)) (aA (bP (lF x1) (lF x2)) (fV (bB x1.2.2 1)=bM x2.2.2) (aH (bL v) (m=m) (h=h) True)))))))))))))))) (∃(x2:Nat×Sl×Nat),aA (I1 x2) (m2 x2<m2 x1) (aA lT (eP 3) (aA (bX x1.1 x2.1) (bI (lF x1) (lF x2)) (aA (aJ s) (bJ s) (aA (bX x1.1 x2.1) (bI (lF x1) (lF x2)) (aA
 (bP (lF x1) (lF x2)) (fV (bB x1.2.2 1)=bM x2.2.2) (aH (bL v) (m=m) (h=h) True)))))))))))) (∃(x2:Nat),aA (I x2) (m1 x2<m1 x) (aA lT (eP 3) (aA (aJ s) (bJ s) (aA (fV (bB x1.1 1)=bM x2) (bL v) (bT (m=m) h h))))))) (K (fH 0) m h))))))))
theorem cC.cut{a:Option Addr}{len cap:Nat}{r:List VV}(x:cC h ⟨a,len,cap⟩ r){n:Nat}(hn:n<=r.length):cC h ⟨a,n,cap⟩ (r.take n):=by
 obtain⟨⟨vs,h1,h2,h3⟩,h4⟩:=x;refine⟨⟨vs.take n,by rw[List.map_take];exact cR.cut h1 n (by rw[List.length_map];omega),by rw[List.length_take,List.length_take,h2],λi x hx=>?_⟩,by rw[List.length_take];omega⟩;rw[List.getElem?_take]at hx;split at hx
 .rename_i hi;obtain⟨v,e1,e2⟩:=h3 i x hx;exact⟨v,by rw[List.getElem?_take,if_pos hi];exact e1,e2⟩
 .cases hx
theorem Y3{v:bR}(hs:gS h s v)(hK:K (cI (eV s)) m h):OH v m h K:=
 ⟨v,s,rfl,hs,aB (λ_=>hK) (λe=>by rw[show eV s=0 by simpa using e]at hK;exact hK)⟩
theorem TZ:Sound Tryz.prog 82 YD:=by
 refine iB Tryz.func82 ?_;rintro cvs m h K ⟨v,s,rfl,hs,hK⟩;refine⟨dL [(79,Aj)] [] [] [] false,rfl,aD KX aF,OH v m h K,by kernel_rfl,?_⟩;exact Y3 hs hK
theorem Leaves.lens{s:Sl}{st:List (List (List VV))}(hl:Leaves h s st){l:List (List VV)}(hm:l∈st):l.length<=502633886983:=by
 obtain⟨i,hi,rfl⟩:=List.mem_iff_getElem.1 hm;obtain⟨_,_,_,_,_,hr⟩:=bH.at hl (List.getElem?_eq_getElem hi);exact hr.len
theorem Cd:∀{l:List (List (List VV))},(∀x∈l,x.length<=502633886983)->0<=rT l/\rT l<=(l.length:Int)*502633886983
 |[],_=>by simp[rT]
 |a::l,h=>by
  have h1:=h a (List.mem_cons_self ..);have h2:=Cd (l:=l) λx hx=>h x (List.mem_cons_of_mem _ hx);simp only[rT,List.map_cons,List.sum_cons,List.length_cons]at h2⊢
  omega
theorem RM{st:List (List (List VV))}{l:List (List VV)}(h:st[i]? =some l):rT (st.take (i+1))=rT (st.take i)+(l.length:Int):=by
 rw[List.take_add_one,h];simp[rT]
theorem TY:Sound Tryz.prog 83 Tj:=by
 refine iB Tryz.func83 ?_;rintro cvs m h K ⟨s,st,rfl,hl,hn,hK⟩;refine⟨Xk s m h,rfl,aF,OG s m h K,by kernel_rfl,?_⟩;dsimp only[OG,push_cast];have hsl:=bH.slen hl;refine⟨λz=>z.1<=st.length/\z.2=rT (st.take z.1),λz=>st.length-z.1,⟨(0,0),⟨by simp,by simp[rT]⟩,MT⟩,?_⟩;rintro⟨i,n⟩ ⟨hi,hn2⟩;dsimp only at hi hn2⊢
 subst hn2;refine aE (λhlt=>?_) (λhge=>?_)
 .obtain⟨l,hx⟩:=eY hsl hlt;obtain⟨b,o,u,ea,rd,hr⟩:=bH.at hl hx;have hul:=bH.slen hr;have hb:=Cd (l:=st.take (i+1)) λx hx=>hl.lens (List.mem_of_mem_take hx);have hb2:=(Cd (l:=st.take i) λx hx=>hl.lens (List.mem_of_mem_take hx)).1;have hs:=RM hx;rw[List.length_take]at hb;refine⟨b,o,ea,aC,aC,u,.imm rd,(i+1,rT (st.take (i+1))),⟨by show i+1<=st.length;omega,rfl⟩,by show st.length-(i+1)<st.length-i;omega,?_⟩;rw[eB aC aC,hul, <-hs];exact MT
 .rw[List.take_of_length_le aC];exact hK
theorem B8{t:uD}{r:List VV}:Be t r=true↔r.length=t.columns.length/\∀i,i<r.length->uY t.key (t.columns.getD i ⟨⟨#[]⟩,0⟩).kind i (r.getD i zeroV)=true:=by
 simp only[Be,Bool.and_eq_true,decide_eq_true_eq,List.all_eq_true,List.mem_range]
theorem Oq{t:Int}{r:List VV}{tb:uD}(ht:s.tables[t.toNat]? =some tb)(h:sR s t=true):TO s t r=Be tb r:=by
 simp only[TO,h,ht,Bool.true_and]
theorem TX:Sound Tryz.prog 84 YF:=by
 refine iB Tryz.func84 ?_;rintro cvs m h K ⟨v,s,t,sl,r,rfl,hs,hv,hK⟩;refine⟨Xj,rfl,aD JM (aD DX aF),OF v t sl m h K,by kernel_rfl,?_⟩;dsimp only[OF,push_cast];have htl:=hs.tables.slen;have hrl:=bH.slen hv;refine⟨v,s,t,rfl,hs,aB (λe=>?_) (λe=>?_)⟩
 .have e:sR s t=false:=by simpa using e
  simp only[TO,e,Bool.false_and]at hK;exact hK
 have e:sR s t=true:=by simpa using e
 have he:=e;simp only[sR,Bool.and_eq_true,decide_eq_true_eq]at he;obtain⟨tb,htb⟩:∃tb,s.tables[t.toNat]? =some tb:=⟨_,List.getElem?_eq_getElem aC⟩
 obtain⟨b,o,y,ea,rd,hy⟩:=bH.at hs.tables htb;rw[Oq htb e]at hK;have hcl:=bH.slen hy.columns;have hk:=hy.key;refine⟨b,o,ea,he.1,aC,y,.imm rd,aB (λe1=>?_) (λe1=>?_)⟩
 .have:Be tb r=false:=by
   cases e2:Be tb r with
   |false=>rfl
   |true=>
    have:=(B8.1 e2).1;simp at e1;omega
  rw[this]at hK;exact hK
 have hwl:r.length=tb.columns.length:=by simp at e1;omega
 have bad:∀i,i<r.length->uY tb.key (tb.columns.getD i ⟨⟨#[]⟩,0⟩).kind i (r.getD i zeroV)=false->K (cB false) m h:=λi hi hf=>by
  have:Be tb r=false:=by
   cases e2:Be tb r with
   |false=>rfl
   |true=>rw[(B8.1 e2).2 i hi]at hf;cases hf
  rw[this]at hK;exact hK
 refine⟨λz=>z.2.1=y/\z.2.2.1=sl/\z.2.2.2.1=m/\z.2.2.2.2=h/\z.1<=r.length/\∀j,j<z.1->uY tb.key (tb.columns.getD j ⟨⟨#[]⟩,0⟩).kind j (r.getD j zeroV)=true,λz=>r.length-z.1,⟨(0,y,sl,m,h),⟨rfl,rfl,rfl,rfl,by simp,λj hj=>by simp at hj⟩,MT⟩,?_⟩;rintro⟨i,y',sl',m',h'⟩ ⟨e1,e2,e3,e4,hi,hall⟩;dsimp only at e1 e2 e3 e4 hi hall⊢
 subst e1 e2 e3 e4;refine aE (λhlt=>?_) (λhge=>?_)
 .have hil:i<r.length:=by omega
  have hx:r[i]? =some (r.getD i zeroV):=by rw[List.getD_eq_getElem?_getD,List.getElem?_eq_getElem hil];rfl
  obtain⟨b2,o2,x,ea2,rd2,hxx⟩:=bH.at hv hx;subst hxx;have hc:tb.columns[i]? =some (tb.columns.getD i ⟨⟨#[]⟩,0⟩):=by rw[List.getD_eq_getElem?_getD,List.getElem?_eq_getElem aC];rfl
  obtain⟨b3,o3,c,ea3,rd3,hcc⟩:=bH.at hy.columns hc;have badi:=bad i hil
  have alli:uY tb.key (tb.columns.getD i ⟨⟨#[]⟩,0⟩).kind i (r.getD i zeroV)=true->∀j,j<i+1->uY tb.key (tb.columns.getD j ⟨⟨#[]⟩,0⟩).kind j (r.getD j zeroV)=true:=λhf j hj=>by
   by_cases e5:j=i
   .rw[e5];exact hf
   .exact hall j aC
  generalize r.getD i zeroV=x at badi alli rd2 hx;rw[hcc]at badi alli;have go:uY tb.key c.kind i x=true->∃z:Nat×bO×Sl×MH×PH,(z.2.1=y'/\z.2.2.1=sl'/\z.2.2.2.1=m'/\z.2.2.2.2=h'/\z.1<=r.length/\∀j,j<z.1->uY tb.key (tb.columns.getD j ⟨⟨#[]⟩,0⟩).kind j (r.getD j zeroV)=true)/\r.length-z.1<r.length-i/\z=(i+1,y',sl',m',h'):=λhf=>⟨_,⟨rfl,rfl,rfl,rfl,by show i+1<=r.length;omega,alli hf⟩,by show r.length-(i+1)<r.length-i;omega,rfl⟩
  refine⟨b2,o2,ea2,aC,aC,x,.imm rd2,x,rfl,aB (λev=>badi ?_) (λev=>?_)⟩
  .have ev:gT x=false:=by simpa using ev
   simp[uY,ev]
  have ev:gT x=true:=by simpa using ev
  refine⟨λz=>z=(i,y',x,sl',(x.kind==2&&decide ((i:Int)>=y'.key)),m',h'),aB (λe2=>⟨_,rfl,by rw[e2];exact MT⟩) (λe2=>⟨_,rfl,by rw[e2];exact MT⟩),?_⟩;rintro _ rfl;dsimp only;refine⟨λz=>z=(i,y',x,sl',(x.kind==2&&decide ((i:Int)>=y'.key)),(x.kind==1&&decide ((i:Int)>=y'.key)),m',h'),aB (λe2=>⟨_,rfl,by rw[e2];exact MT⟩) (λe2=>⟨_,rfl,by rw[e2];exact MT⟩),?_⟩;rintro _ rfl;dsimp only
  have hfv:uY tb.key c.kind i x=(x.kind==c.kind||((x.kind==2&&decide ((i:Int)>=y'.key))||(x.kind==1&&decide ((i:Int)>=y'.key)))):=by
   rw[hk];simp only[uY,ev,Bool.true_and,ge_iff_le,Bool.and_or_distrib_right]
  generalize hb1:(x.kind==2&&decide ((i:Int)>=y'.key))=B1 at hfv⊢
  generalize hb2:(x.kind==1&&decide ((i:Int)>=y'.key))=B2 at hfv⊢
  refine⟨b3,o3,ea3,aC,aC,c.kind,.imm (aX.part rd3 1 1),aB (λe3=>aB (λe4=>aB (λe5=>badi ?_) (λe5=>?_)) (λe4=>?_)) (λe3=>?_)⟩
  .have e3:(x.kind==c.kind)=false:=by simpa using e3
   have e4:B1=false:=by simpa using e4
   have e5:B2=false:=by simpa using e5
   rw[hfv,e3,e4,e5];rfl
  all_goals
   obtain⟨_,g1,g2,rfl⟩:=go (by rw[hfv];simp_all);refine⟨_,g1,g2,?_⟩;dsimp only;rw[iM (by have:=bH.len hv;omega)];exact MT
 .have:Be tb r=true:=B8.2 ⟨hwl,λj hj=>hall j aC⟩;rw[this]at hK;exact hK
theorem TW:Sound Tryz.prog 85 S6:=by
 refine iB Tryz.func85 ?_;rintro cvs m h K ⟨v,s,t,sl,r,rfl,hs,hv,hK⟩;refine⟨dL [] [] [] [] false,rfl,aF,OE v t sl m h K,by kernel_rfl,?_⟩;dsimp only[OE,push_cast];have htl:=hs.tables.slen;have hrl:=bH.slen hv;have none_:sR s t=false->K Dm m h:=λe=>hK ⟨none,0,0⟩ (by simp only[E7,e];exact bH.nil _ _ _ _);refine aE (λh1=>none_ (by simp[sR];omega)) (λh1=>aE (λh2=>none_ (by simp[sR];omega)) (λh2=>?_));have e:sR s t=true:=by simp[sR];omega
 obtain⟨tb,htb⟩:∃tb,s.tables[t.toNat]? =some tb:=⟨_,List.getElem?_eq_getElem aC⟩
 obtain⟨b,o,y,ea,rd,hy⟩:=bH.at hs.tables htb;have hk:=hy.key;obtain⟨a,len,cap⟩:=sl;have hcap:len<=cap:=by obtain⟨vs,h5,_⟩:=hv.ex;exact h5.cap
 have hrl:len=r.length:=hrl
 have hmm:(if(if(len:Int)<y.key then(len:Int)else y.key)>0 then(if(len:Int)<y.key then(len:Int)else y.key)else 0)=max 0 (min tb.key r.length):=by
  rw[<-hk];split<;>split<;>omega
 refine⟨b,o,ea,aC,aC,y.key,.imm (aX.part rd 2 1),?_⟩;dsimp only;rw[hmm];refine⟨aC,aC,hK ⟨a,(max 0 (min tb.key r.length)).toNat,cap⟩ ?_⟩;have e2:E7 s t r=r.take (max 0 (min tb.key r.length)).toNat:=by simp only[E7,e,if_true,htb];rfl
 rw[e2];exact hv.cut aC
theorem CZ{t:Nat}{tb:uD}(h:s.tables[t]? =some tb)(r:List VV):E7 s t r=jT tb r:=by
 have:t<s.tables.length:=(List.getElem?_eq_some_iff.1 h).1;have e:sR s (t:Int)=true:=by simp[sR];omega
 simp only[E7,e,if_true,Int.toNat_natCast,h]
theorem Sx{t:Nat}{tb:uD}(h:s.tables[t]? =some tb)(r:List VV):TO s t r=Be tb r:=by
 have:t<s.tables.length:=(List.getElem?_eq_some_iff.1 h).1;have e:sR s (t:Int)=true:=by simp[sR];omega
 exact Oq (by simpa using h) e
theorem f56_sound:Sound Tryz.prog 56 Hq:=by
 refine iB Tryz.func56 ?_;rintro cvs m h K ⟨v,s,sl,st,rfl,hs,hl,hn,hK⟩;refine⟨f56_ctx v sl m h,rfl,aD TZ (aD TY (aD TX (aD TW (aD C3 aF)))),f56_nice v sl m h K,by kernel_rfl,?_⟩;dsimp only[f56_nice,push_cast];have htl:=hs.tables.slen;have hsl:=bH.slen hl;unfold qL at hK;refine⟨v,s,rfl,hs,aB (λe=>?_) (λe=>⟨sl,st,rfl,hl,hn,aE (λe2=>?_) (λe2=>aB (λe3=>?_) (λe3=>?_))⟩)⟩
 .rw[if_pos (by simpa using e)]at hK;exact hK
 all_goals rw[if_neg (by simpa using e)]at hK
 .rw[if_pos (by unfold rT at e2;omega)]at hK;exact hK
 all_goals rw[if_neg (by unfold rT at e2;omega)]at hK
 .rw[if_pos (by simp at e3;omega)]at hK;exact hK
 have hlen:st.length=s.tables.length:=by simp at e3;omega
 rw[if_neg (by simp[hlen])]at hK;have bad:¬Iy s st->K (cI 80) m h:=λhb=>by rw[if_neg hb]at hK;exact hK
 refine⟨λi=>i<=st.length/\∀(j:Nat) t l,j<i->s.tables[j]? =some t->st[j]? =some l->Sb t l,λi=>st.length-i,⟨0,⟨by simp,λj t l hj=>by omega⟩,MT⟩,?_⟩;rintro i ⟨hi,hall⟩;refine aE (λhlt=>?_) (λhge=>?_)
 .obtain⟨l,hx⟩:=eY hsl hlt;obtain⟨b,o,u,ea,rd,hr⟩:=bH.at hl hx;have hul:=bH.slen hr;have hll:=bH.len hr;obtain⟨tb,htb⟩:∃tb,s.tables[i]? =some tb:=⟨_,List.getElem?_eq_getElem aC⟩
  have badi:¬Sb tb l->K (cI 80) m h:=λhb=>bad λhok=>hb (hok i tb l htb hx);refine⟨b,o,ea,aC,aC,u,.imm rd,λz=>z.1=i/\z.2.1=u/\z.2.2<=l.length/\(∀k r,k<z.2.2->l[k]? =some r->Be tb r=true)/\∀k r r',k+1<z.2.2->l[k]? =some r->l[k+1]? =some r'->dT (jT tb r) (jT tb r')<0,λz=>l.length-z.2.2,⟨(i,u,0),⟨rfl,rfl,by simp,λk r hk=>by simp at hk,λk r r' hk=>by simp at hk⟩,MT⟩,?_⟩;rintro⟨i',u',j⟩ ⟨e1,e2,hj,hfit,hkey⟩;dsimp only at e1 e2 hj hfit hkey⊢
  subst e1 e2;refine aE (λhlt2=>?_) (λhge2=>?_)
  .obtain⟨r,hxr⟩:=eY hul hlt2;obtain⟨b2,o2,w,ea2,rd2,hv⟩:=bH.at hr hxr;refine⟨b2,o2,ea2,aC,aC,w,.imm rd2,v,s,i',w,r,rfl,hs,hv,aB (λef=>badi λhok=>?_) (λef=>?_)⟩
   .rw[Sx htb,hok.1 r (List.mem_of_getElem? hxr)]at ef;cases ef
   have hf:Be tb r=true:=by rw[Sx htb]at ef;simpa using ef
   have hfit':∀k r,k<j+1->l[k]? =some r->Be tb r=true:=λk r' hk hr'=>by
    by_cases e5:k=j
    .subst e5;rw[hxr]at hr';cases hr';exact hf
    .exact hfit k r' aC hr'
   refine aE (λhj0=>?_) (λhj0=>?_)
   .have hw:IntKind.i64.wrap ((j:Int)-1)=((j-1:Nat):Int):=by rw[eB aC aC];omega
    obtain⟨r0,hx0⟩:∃r0,l[j-1]? =some r0:=⟨_,List.getElem?_eq_getElem aC⟩
    obtain⟨b3,o3,w3,ea3,rd3,hv3⟩:=bH.at hr hx0;rw[hw];refine⟨b3,o3,ea3,aC,aC,w3,.imm rd3,v,s,i',w3,r0,rfl,hs,hv3,λs1 hs1=>⟨rd3,v,s,i',w,r,rfl,hs,hv,λs2 hs2=>⟨rd3,s1,s2,_,_,rfl,hs1,hs2,aE (λhc=>badi λhok=>?_) (λhc=>?_)⟩⟩⟩
    .rw[CZ htb,CZ htb]at hc;have:=hok.2 (j-1) r0 r hx0 (by rw[show j-1+1=j by omega];exact hxr);omega
    .rw[CZ htb,CZ htb]at hc;refine⟨(i',u',j+1),⟨rfl,rfl,by show j+1<=l.length;omega,hfit',λk r1 r2 hk h1 h2=>?_⟩,by show l.length-(j+1)<l.length-j;omega,?_⟩
     .by_cases e5:k+1=j
      .have:k=j-1:=by omega
       subst this;rw[hx0]at h1;rw[e5,hxr]at h2;cases h1;cases h2;omega
      .exact hkey k r1 r2 (by have:k+1<j+1:=hk;omega) h1 h2
     .dsimp only;rw[iM aC];exact MT
   .refine⟨(i',u',j+1),⟨rfl,rfl,by show j+1<=l.length;omega,hfit',λk r1 r2 hk h1 h2=>by have:k+1<j+1:=hk;omega⟩,by show l.length-(j+1)<l.length-j;omega,?_⟩;dsimp only;rw[iM aC];exact MT
  .refine⟨i'+1,⟨aC,λk t l' hk ht hl'=>?_⟩,aC,?_⟩
   .by_cases e5:k=i'
    .subst e5;rw[htb]at ht;cases ht;rw[hx]at hl';cases hl';refine⟨λr hr=>?_,λk r r' h1 h2=>hkey k r r' ?_ h1 h2⟩
     .obtain⟨n,hn,rfl⟩:=List.mem_iff_getElem.1 hr;exact hfit n _ aC (List.getElem?_eq_getElem hn)
     .have:=(List.getElem?_eq_some_iff.1 h2).1;omega
    .exact hall k t l' aC ht hl'
   .rw[iM aC];exact MT
 .rw[if_pos]at hK
  .exact hK
  .exactλj t l h1 h2=>hall j t l (by have:=(List.getElem?_eq_some_iff.1 h2).1;omega) h1 h2
def Ci:Vc.Spec:=λcvs m h K=>∃sc p v s ps q,cvs=[aS sc,cS p,aQ v]/\gS h s sc/\Ints h p ps/\dD h q v/\mX q=true/\KR K m h (fI s ps q)
noncomputable def f55q_ctx(p:Sl)(N:Nat):Ctx:={uM [(79,Aj),(80,M9),(81,Bm N)]
 [(5,{A:=Nat×Nat×Nat×Nat×Nat×MH×PH,st:=λ⟨i,a,b,c,d,m,h⟩=>cD 53 56 [(1,sv p),(3,vv (.pointer (some ⟨a,0,none⟩))),(5,vv (.pointer (some ⟨b,0,none⟩))),(6,vv (.pointer (some ⟨c,0,none⟩))),(7,vv (.pointer (some ⟨d,0,none⟩))),(18,sv p),(19,iv p.len),(20,iv i)] [] m h})] [] [] [200003,200005,200006,200007,200011,0] [] false with elemT:=[3,38]}
noncomputable abbrev mY(a:Nat×Nat×Nat×Nat×Nat×MH×PH):Nat:=a.2.2.2.1
noncomputable abbrev mZ(a:Nat×Nat×Nat×Nat×Nat×MH×PH):Nat:=(fG a.2).1
noncomputable abbrev pR(a:Nat×Nat×Nat×Nat×Nat×MH×PH):Nat->Nat->Option Value:=cQ (fG a.2)
abbrev Mw(a b:Int)(c:Prop)(d:(Nat×Nat×Nat×Nat×Nat×MH×PH)->Prop):Prop:=eR a b c (∃(x:Nat×Nat×Nat×Nat×Nat×MH×PH),d x)
attribute [push_cast] mY mZ pR Mw
def f55q_nice(sc:bR)(p:Sl)(v:QV)(N:Nat)(m:MH)(h:PH)(K:CV->MH->PH->Prop):Prop:=
  ∀(b:Nat)(m1:MH),aR (cH m h b) (bC m m1 b (cA sc) 43) (∀(b1:Nat)(m2:MH),aR (cH m1 h b1) (bC m1 m2 b1 v.enc 38) (∀(b2:Nat)(m3:MH),aR (cH m2 h b2) (bC m2 m3 b2 iL 33) (∀(b3:Nat)(m4:MH),aR (cH m3 h b3) (bC m3 m4 b3 (iR cO) 54) (∃(y:bR),aL m4 h b 0 (cA y)/\jW (λv1 s=>aA (fT (jK (cA y)) (jK (cA v1))) (gS h s v1) (eR (eV s) 0 (fD (λc E=>aA (pH m4 b2 (dY c E 0)) (dU 0 c) (∀(m5:MH),bC m4 m5 b2 (fF uE 1 c) E->fD (λc1 E1=>aA (pH m5 b3 (dY c1 E1 0)) (dU 0 c1) (∀(m6:MH),bC m5 m6 b3 (fF (eN (eV s)) 1 c1) E1->iQ m6 h b2 0 (λy1=>∃(y2:Int),aL m6 h b3 0 (bW y2)/\K (CV.tup (cJ (lY y1) y2)) m6 h)))))) (∃(I:Nat×Nat×Nat×Nat×Nat×MH×PH->Prop)(m5:Nat×Nat×Nat×Nat
 ×Nat×MH×PH->Nat),(∃(x:Nat×Nat×Nat×Nat×Nat×MH×PH),aA (I x) (aJ p) (aA (cY b x.2.1) (cY b1 x.2.2.1) (aA (cY b2 (mY x)) (cY b3 (mZ x)) (aA (aJ p) (bJ p) (aH (aZ x.1) (bG m4 (fG x.2).2) (h=pR x) True)))))/\∀(x:Nat×Nat×Nat×Nat×Nat×MH×PH),I x->aW (↑x.1:Int) (aG p) (bD (λb4 o=>aH (bE p.a b4 o) (0<=(↑x.1:Int)) ((↑x.1:Int)<aG p) (∃(y1:Int),aL (dM (fG x.2)) (pR x) b4 (bF o x.1 1) (bW y1)/\Mw y1 3 (Mw y1 4 (Mw y1 5 (fD (λc E=>aA (pH (dM (fG x.2)) (mY x) (dY c E 0)) (dU 0 c) (∀(m6:MH),bC (dM (fG x.2)) m6 (mY x) (fF uE 1 c) E->fD (λc1 E1=>aA (pH m6 (mZ x) (dY c1 E1 0)) (dU 0 c1) (∀(m7:MH),bC m6 m7 (mZ x) (fF (eN 1) 1 c1) E1->
 iQ m7 (pR x) (mY x) 0 (λy2=>∃(y3:Int),aL m7 (pR x) (mZ x) 0 (bW y3)/\K (CV.tup (cJ (lY y2) y3)) m7 (pR x))))))) (λx1=>aA (I x1) (m5 x1<m5 x) (aA (aJ p) (cY x.2.1 x1.2.1) (aA (cY x.2.2.1 x1.2.2.1) (cY (mY x) (mY x1)) (aA (cY (mZ x) (mZ x1)) (aJ p) (aA (bJ p) (fV (bB x.1 1)=bM x1.1) (aA (bG (dM (fG x.2)) (fG x1.2).2) (pR x=pR x1) True))))))) (λx1=>aA (I x1) (m5 x1<m5 x) (aA (aJ p) (cY x.2.1 x1.2.1) (aA (cY x.2.2.1 x1.2.2.1) (cY (mY x) (mY x1)) (aA (cY (mZ x) (mZ x1)) (aJ p) (aA (bJ p) (fV (bB x.1 1)=bM x1.1) (aA (bG (dM (fG x.2)) (fG x1.2).2) (pR x=pR x1) True))))))) (λx1=>aA (I x1) (m5 x1<m5 x) (aA (aJ p) (cY x.2.1 x1.2.1) (aA (cY
 x.2.2.1 x1.2.2.1) (cY (mY x) (mY x1)) (aA (cY (mZ x) (mZ x1)) (aJ p) (aA (bJ p) (fV (bB x.1 1)=bM x1.1) (aA (bG (dM (fG x.2)) (fG x1.2).2) (pR x=pR x1) True))))))))) (∀(b4:Nat)(m6:MH),aR (cH (dM (fG x.2)) (pR x) b4) (bC (dM (fG x.2)) m6 b4 (iR cO) 3) (fD (λc E=>aA (pH m6 b4 (dY c E 0)) (dU 0 c) (∀(m7:MH),bC m6 m7 b4 (fF cO 1 c) E->∃(y1:QV),aL m7 (pR x) x.2.2.1 0 y1.enc/\∃(v2:QV),j2 (tW y1 v2) (λb5=>∀(h1:PH),dE (pR x) h1 (aX h1 b5 0 v2.enc) (∃(S:PH->List Value->List (List Value)->Prop)(x1:List (Int×QV))(I1:Nat->MH->PH->Prop),aA (Cn Proofs.Tryz.prog 114 S) (S h1 (iR (P1 b5 0)) (List.map (fun(x2:Int×QV)=>jS (eN x2.1) (Value.agg (Array.mk x2.2.enc))) x1)) (aA (I1
 0 m7 h1) (∀(k:Nat)(e:Int)(e1:QV),fU (λm8 h2=>aR (x1[k]? =Option.some (e,e1)) (PH.le h1 h2) (I1 k m8 h2->tD m8 h2 b4 0 (λy2=>fD (λc1 E1=>aA (pH m8 b4 (dY c1 E1 0)) (dU 0 c1) (∀(m9:MH),bC m8 m9 b4 (fF (eN (iN (y2+1))) 1 c1) E1->tD m9 h2 b4 0 (λy3=>dA (decide (y3>24)) (fD (λc2 E2=>aA (pH m9 (mY x) (dY c2 E2 0)) (dU 0 c2) (∀(a:MH),bC m9 a (mY x) (fF uE 1 c2) E2->fD (λc3 E3=>aA (pH a (mZ x) (dY c3 E3 0)) (dU 0 c3) (∀(a1:MH),bC a a1 (mZ x) (fF (eN 2) 1 c3) E3->False))))) (decide (e>8)) (fD (λc2 E2=>aA (pH m9 (mY x) (dY c2 E2 0)) (dU 0 c2) (∀(a:MH),bC m9 a (mY x) (fF uE 1 c2) E2->fD (λc3 E3=>aA (pH a (mZ x) (dY c3 E3 0)) (dU 0 c3) (∀(a1:MH),bC a a1 (mZ
 x) (fF (eN 2) 1 c3) E3->False))))) (I1 (k+1) m9 h2)))))))) (fU (λm8 h2=>dE h1 h2 (I1 x1.length m8 h2) (∃(y2:bR),aL m8 h2 x.2.1 0 (cA y2)/\∃(y3:QV),aL m8 h2 x.2.2.1 0 y3.enc/\EF y2 p y3 h2 (λv3 s1 p1 q=>aA (dD h2 q v3) (nP q N) (∀(s2:Sl)(h3:PH),dE h2 h3 (Ints h3 s2 (bZ s1 p1 q).1) (fD (λc1 E1=>aA (pH m8 (mY x) (dY c1 E1 0)) (dU 0 c1) (∀(m9:MH),bC m8 m9 (mY x) (fF (eC s2) 1 c1) E1->fD (λc2 E2=>aA (pH m9 (mZ x) (dY c2 E2 0)) (dU 0 c2) (∀(a:MH),bC m9 a (mZ x) (fF (eN (bZ s1 p1 q).2) 1 c2) E2->iQ a h3 (mY x) 0 (λy4=>∃(y5:Int),aL a h3 (mZ x) 0 (bW y5)/\K (CV.tup (cJ (lY y4) y5)) a h3)))))))))))))))))))))))))
mutual
theorem JR:∀(p:Query)(n:Nat),nI p n=false->JP p<=n
 |.mk _ _ _ _ _ _ _ _ args,0,h=>by simp[nI]at h
 |.mk _ _ _ _ _ _ _ _ args,n+1,h=>by
  simp only[nI]at h;have:=Hl args n h;simp only[JP];omega
theorem Hl:∀(ps:List Query)(n:Nat),xA ps n=false->Cc ps<=n
 |[],_,_=>by simp[Cc]
 |p::ps,n,h=>by
  simp only[xA,Bool.or_eq_false_iff]at h;have h1:=JR p n h.1;have h2:=Hl ps n h.2;simp only[Cc];omega
end
mutual
theorem qH.deep{h:PH}:∀{q:Query}{v:QV}{d:Nat}{es:List (Nat×QV)},qH h q v d es->∀e∈es,e.1<d+JP q
 |.mk op ta _ _ _ _ _ _ args,v,d,es,w,e,he=>by
  rw[qH]at w;obtain⟨vs,ess,h1,h2,rfl⟩:=w;simp only[JP];rcases List.mem_cons.1 he with rfl|he
  .show d<_;omega
  .have:=iE.deep h2 e he;omega
theorem iE.deep{h:PH}:∀{qs:List Query}{vs:List QV}{d:Nat}{es:List (Nat×QV)},iE h qs vs d es->∀e∈es,e.1<d+Cc qs
 |[],vs,d,es,w,e,he=>by rw[iE]at w;rw[w.2]at he;simp at he
 |q::qs,vs,d,es,w,e,he=>by
  rw[iE]at w;obtain⟨v,vs',e1,e2,h1,h2,h3,h4,rfl⟩:=w;simp only[Cc];rcases List.mem_append.1 he with he|he
  .have:=qH.deep h3 e he;omega
  .have:=iE.deep h4 e he;omega
end
theorem U8{m mx:MH}{h hx:PH}{b6 b7:Nat}{x6 x7:Value}{sl:Sl}{e:Int}{K:CV->MH->PH->Prop}(h67:b6≠b7)(n6:m b6=none)(n7:m b7=none)(a6:mx b6=some (.cells #[x6] 33 (0,0)))(a7:mx b7=some (.cells #[x7] 54 (0,0)))(s:Sub m mx)(le:PH.le h hx)(hK:K (.tup [cS sl,cI e]) m hx):
 ∃(cs:Array Value)(E:TypeId),pH mx b6 (.cells cs E (0,0))/\0<cs.size/\∀m':MH,jQ mx m' b6 (.cells (Array.mk (eC sl::cs.toList.drop 1)) E (0,0))->∃(cs:Array Value)(E:TypeId),pH m' b7 (.cells cs E (0,0))/\0<cs.size/\∀m2:MH,jQ m' m2 b7 (.cells (Array.mk (eN e::cs.toList.drop 1)) E (0,0))->∃y:Sl,aL m2 hx b6 0 [eC y]/\∃y1:Int,aL m2 hx b7 0 [eN y1]/\dJ h K (.tup [cS y,cI y1]) m2 hx:=by
 refine⟨_,_,⟨a6⟩,by simp,λm1 u1=>⟨_,_,⟨by rw[u1.other b7 (Ne.symm h67)];exact a7⟩,by simp,λm2 u2=>⟨sl,.of_m (by rw[u2.other b6 h67];exact u1.at_) rfl,e,.of_m u2.at_ rfl,λ_=>⟨m,hx,λb o e2=>?_,le,λb i v e2=>.inl e2,hK⟩⟩⟩⟩;rw[u2.other b (λe3=>by rw[e3,n7]at e2;cases e2),u1.other b (λe3=>by rw[e3,n6]at e2;cases e2)];exact s b o e2
theorem f55q_sound:Sound Tryz.prog 55 Ci:=by
 refine Dz Tryz.func55 ?_;rintro cvs m h K ⟨sc,p,v,s,ps,q,rfl,hs,hp,hq,hsm,hK⟩;refine⟨f55q_ctx p (SizeOf.sizeOf q+1),rfl,aD KX (aD Jt (aD (T0 _) aF)),f55q_nice sc p v (SizeOf.sizeOf q+1) m h (dJ h K),by kernel_rfl,?_⟩;show f55q_nice sc p v (SizeOf.sizeOf q+1) m h (dJ h K);dsimp only[f55q_nice,push_cast];have hl:=hp.slen;have hlen:=hp.len;have hcn:=Ct hsm;have hdp:JP q<=8:=JR q 8 (by simp only[mX,Bool.and_eq_true,Bool.not_eq_true']at hsm;exact hsm.2);unfold fI at hK;rw[if_pos hsm]at hK;intro b3 m1 u1 w1 b5 m2 u2 w2 b6 m3 u3 w3 b7 m4 u4 w4;obtain⟨s1,n3⟩:=gY (Sub.refl m) u1 w1;obtain⟨s2,n5⟩:=gY s1 u2 w2;obtain⟨s3,n6⟩:=gY s2 u3 w3;obtain⟨s4,n7⟩:=gY s3 u4 w4;have up:∀{ma mb:MH}{b:Nat}{o:Obj}{hh:PH},cH ma hh b->jQ ma mb b o->∀{x o'},ma x=some o'->mb x=some o':=fun{ma mb b o hh} u w{x o'} e=>by rw[w.other x (λe2=>by rw[e2,u.m_]at e;cases e)];exact e
 have a3:=up u4 w4 (up u3 w3 (up u2 w2 w1.at_));have a5:=up u4 w4 (up u3 w3 w2.at_);have a6:=up u4 w4 w3.at_;have a7:=w4.at_;have d67:b6≠b7:=λe=>by have e2:=w3.at_;rw[e,u4.m_]at e2;cases e2
 refine⟨sc,.of_m a3 rfl,sc,s,rfl,hs,aB (λh1=>?_) (λh1=>?_)⟩
 .rw[if_neg (by simpa using h1)]at hK;exact U8 (sl:=cF) d67 n6 n7 a6 a7 s4 (.refl _) (hK cF h (.refl _) (kZ h))
 have h1:eV s=0:=by simpa using h1
 rw[if_pos h1]at hK;refine⟨λz=>z.2=(b3,b5,b6,b7,m4,h)/\z.1<=ps.length/\(ps.take z.1).all eA=true,λz=>ps.length-z.1,⟨(0,b3,b5,b6,b7,m4,h),⟨rfl,by simp,by simp⟩,MT⟩,?_⟩;rintro⟨i,z⟩ ⟨ez,hi,hall⟩;dsimp only at ez hi hall;subst ez;dsimp only;refine aE (λhlt=>?_) (λhge=>?_)
 .obtain⟨x,hx⟩:=eY hl hlt;obtain⟨b,o,e,r⟩:=hp.at' hx;have good:eA x=true->(ps.take (i+1)).all eA=true:=λhc=>by rw[xD hx,hall,hc];rfl
  have hw:IntKind.i64.wrap ((i:Int)+1)=((i+1:Nat):Int):=iM aC;have go:eA x=true->((i+1,b3,b5,b6,b7,m4,h):Nat×Nat×Nat×Nat×Nat×MH×PH).2=(b3,b5,b6,b7,m4,h)/\i+1<=ps.length/\(ps.take (i+1)).all eA=true:=λhc=>⟨rfl,aC,good hc⟩
  rw[hw];refine⟨b,o,e,aC,hlt,x,.imm r,aB (λc1=>aB (λc2=>aB (λc3=>?_) (λc3=>⟨(i+1,b3,b5,b6,b7,m4,h),go ?_,by show ps.length-(i+1)<ps.length-i;omega,MT⟩)) (λc2=>⟨(i+1,b3,b5,b6,b7,m4,h),go ?_,by show ps.length-(i+1)<ps.length-i;omega,MT⟩)) (λc1=>⟨(i+1,b3,b5,b6,b7,m4,h),go ?_,by show ps.length-(i+1)<ps.length-i;omega,MT⟩)⟩
  .have:eA x=false:=by simp_all [eA]
   rw[if_neg (λe=>by rw[yW hx this]at e;cases e)]at hK;exact U8 (sl:=cF) d67 n6 n7 a6 a7 s4 (.refl _) (hK cF h (.refl _) (kZ h))
  .simp_all [eA]
  .simp_all [eA]
  .simp_all [eA]
 rw[List.take_of_length_le aC]at hall;rw[if_pos hall]at hK;intro b11 m5 u5 w5;refine⟨_,_,⟨w5.at_⟩,by simp,λm6 w6=>?_⟩
 have k6:∀{x o'},m4 x=some o'->m6 x=some o'/\x≠b11:=fun{x o'} e=>by
  have:x≠b11:=λe2=>by rw[e2,u5.m_]at e;cases e
  exact⟨by rw[w6.other x this];exact up u5 w5 e,this⟩
 refine⟨v,.of_m (k6 a5).1 rfl,v,rfl,λbw h1' le1 hbw=>?_⟩;obtain⟨es,hw⟩:=qH.of (hq.mono le1) 1;have hes:=hw.small;have hdeep:=hw.deep;refine⟨Io,es.map λe=>((e.1:Int),e.2),λk mx hx=>hx=h1'/\Ai m6 mx b11/\mx b11=some (.cells #[eN (k:Nat)] 3 (0,0)),Sq,⟨bw,v,q,es,rfl,hbw,hw,aC,by rw[List.map_map];rfl⟩,⟨rfl,λx o e _=>e,w6.at_⟩,?_,?_⟩
 .rintro k d e' mx hx hk-⟨rfl,hsx,hb11⟩
  rw[List.getElem?_map]at hk;cases hek:es[k]? with
  |none=>rw[hek]at hk;cases hk
  |some e=>
   rw[hek]at hk;simp only[Option.map_some,Option.some.injEq,Prod.mk.injEq]at hk;obtain⟨rfl,rfl⟩:=hk;have hkl:=(List.getElem?_eq_some_iff.1 hek).1;have hde:=hdeep e (List.mem_of_getElem? hek);have hw2:IntKind.i64.wrap ((k:Int)+1)=((k+1:Nat):Int):=iM aC;refine⟨k,.of_m hb11 rfl,_,_,⟨hb11⟩,by simp,λm7 w7=>⟨((k+1:Nat):Int),?_,aE (λhgt=>by omega) (λ_=>aE (λhgt=>by omega) (λ_=>⟨rfl,λx o e1 e2=>by rw[w7.other x e2];exact hsx x o e1 e2,?_⟩))⟩⟩
   .rw[<-hw2];exact .of_m w7.at_ rfl
   .rw[<-hw2];exact w7.at_
 .rintro mx hx-⟨rfl,hsx,hb11⟩
  have kx:∀{x o'},m4 x=some o'->mx x=some o':=fun{x o'} e=>hsx x o' (k6 e).1 (k6 e).2;refine⟨sc,.of_m (kx a3) rfl,v,.of_m (kx a5) rfl,sc,p,v,s,ps,q,rfl,hs.mono le1,sG h1,hp.mono le1,hq.mono le1,aC,λsl h7 le7 hi7=>?_⟩;exact U8 d67 n6 n7 (kx a6) (kx a7) (λx o e=>kx (s4 x o e)) (le1.trans le7) (hK sl h7 (le1.trans le7) hi7)
noncomputable def Mm(s:nY)(st:List (List (List VV)))(q:Query):List (List VV)×Int:=
 if(fI s [] q).2≠0 then([],(fI s [] q).2)else if qL s st≠0 then([],qL s st)else(Kj st q,0)
def To(st:List (List (List VV)))(q:Query):Prop:=∃c,1<=c/\(∀l∈st,l.length<=c)/\lL c q<=1000000
structure Hz(h:PH)(sl:Sl)(st:List (List (List VV))):Prop where
 lea:Leaves h sl st
 len:st.length<=1000
 val:Zo st
theorem Hz.mono{sl:Sl}{st:List (List (List VV))}(x:Hz h sl st)(le:PH.le h h'):Hz h' sl st:=⟨bH.mono x.lea le λl s hr=>bH.mono hr le λr t hv=>cC.mono hv le,x.len,x.val⟩
def Wv:Vc.Spec:=λcvs m h K=>∃v s sl st w q,cvs=[aS v,Yr sl,aQ w]/\gS h s v/\Hz h sl st/\dD h q w/\mX q=true/\jD m/\((fI s [] q).2=0->qL s st=0->To st q)/\∀s' h',PH.le h h'->Rows h' s' (Mm s st q).1->K (.tup [cS s',cI (Mm s st q).2]) m h'
def YN:Vc.Spec:=λcvs m h K=>∃v s sl st w q,cvs=[aS v,Yr sl,aQ w]/\gS h s v/\Hz h sl st/\dD h q w/\mX q=true/\jD m/\((fI s [] q).2=0->qL s st=0->To st q)/\∀s' h',PH.le h h'->Rows h' s' (Mm s st q).1->K (cS s') m h'
def Yz:Vc.Spec:=λcvs m h K=>∃o v w,cvs=[cI o,aQ v,aQ w]/\∀s h',PH.le h h'->cR h' s 21 [v.enc,w.enc]->K (aQ ⟨o,0,iF,cF,cF,cF,cF,0,s⟩) m h'
def S9:Vc.Spec:=λcvs m h K=>∃n,cvs=[cI n]/\K (aV ⟨4,n,⟨#[]⟩⟩) m h
noncomputable def XO(w:QV)(sl:Sl):Ctx:=dL [(55,Ci),(56,Hq),(57,RZ),(58,Nh)]
 [(10,{A:=Nat×List Sl×Sl×MH×PH,st:=λ⟨i,us,s,m,h⟩=>cD 54 57 [(4,.at (.ptr 4 0)),(5,.at (.ptr 5 0)),(12,.at (.lst 34)),(35,sv s),(36,iv s.len),(37,iv i)] [(4,.cells 25 [.val (.slice sl.a sl.len sl.cap)]),(5,.cells 38 (w.enc.map .val)),(34,.lst 53 1 (us.map eS))] m h})] [] [] false
abbrev EX(a:PH)(b:Query)(c:Sl->PH->Prop):Prop:=∀(x:Sl)(x1:PH),dE a x1 (Ints x1 x (eH b)) (c x x1)
abbrev qV(a:List At):Prop:=eQ (oQ 25 a)
noncomputable abbrev pV(a:List Sl):Option Go.Vc.Own:=cM 53 1 (List.map eS a)
attribute [push_cast] EX qV pV
def Pf(v:bR)(sl:Sl)(w:QV)(m:MH)(h:PH)(K:CV->MH->PH->Prop):Prop:=
  CI (cE (cA v) (bK Dm (cN w))) h (λs p q=>mD (mX q)/\∀(s1:Sl)(h1:PH),dE h h1 (Ints h1 s1 (fI s p q).1) (eR (fI s p q).2 0 (K (CV.tup (bK Dm (CV.val (eN (fI s p q).2)))) m h1) (jW (λv1 s2=>zI (λs3 s4=>aA (cE (cA v) (bK (fH 3) (jK (aK sl)))=cE (cA v1) (bK (fH 3) (jK (aK s3)))) (gS h1 s2 v1) (aA (Leaves h1 s3 s4) (mO s4.length) (eR (qL s2 s4) 0 (dK K (qL s2 s4) m h1) (jV (λv2 q1=>aH (tW w v2) (dD h1 q1 v2) (pG q1<=900000) (EX h1 q1 (λs5 h2=>HY s5 (HT (λI x=>aA (I x) (eP 4) (aA (eP 5) (eL 34) (aA (bI s5 (eF x)) (bP s5 (eF x)) (aA (aZ x.1) (qV (jR (uC sl))) (aA (dQ w) (CU 53 1 (aG s5) iL (pV x.2.1)) (aA (bG m x.2.2.2) (h2=jG x) True))))))
 (λI m1 x=>I x->aW (↑x.1:Int) (aG (eF x)) (bD (λb o=>aH (bE (eF x).a b o) (0<=(↑x.1:Int)) ((↑x.1:Int)<aG (eF x)) (∃(y:Int),aL (pS x) (jG x) b (bF o x.1 1) (bW y)/\cZ sl.a y sl (λb1 o1 y1=>aH (aL (pS x) (jG x) b1 (fJ o1 y 1) (aK y1)) (0<=(↑x.1:Int)) ((↑x.1:Int)<j9 (oL x)) (∃(e:List Value),Jb (tX (oL x) (pU x.1) e) (0<e.length) (λx1=>aA (I x1) (m1 x1<m1 x) (aA (eP 4) eE (aA (eL 34) (bI (eF x) (eF x1)) (aA (bP (eF x) (eF x1)) (fV (bB x.1 1)=bM x1.1) (aA (qV (jR (uC sl))) (dQ w) (aA (cM 53 1 (List.set (oL x) (pU x.1) (eC y1::List.drop 1 e))=pV x1.2.1) (bG (pS x) x1.2.2.2) (bN (jG x) (jG x1))))))))))))) (bV (jG x) 1 (oL x) (λs6 h3=>∃
 (l:Sl)(v3:QV)(l1:List (List (List VV)))(q2:Query),aA (gL s6 (cN w)=gL l (cN v3)) (Leaves h3 l l1) (aA (dD h3 q2 v3) (Sm l1 q2 0) (aH (jD (pS x)) ((fO l1 q2 0).1.length<=1000000) (AV (fO l1 q2 0).1 (λr=>wS r)) (∀(s7:Sl)(h4:PH),dE h3 h4 (Rows h4 s7 (fO l1 q2 0).1) (K (CV.tup (cJ (lY s7) 0)) (pS x) h4)))))))))))))))))))
abbrev EV(a:nY)(b:Query):Prop:=(fI a [] b).2=0
attribute [push_cast] EV
def Vt(v:bR)(sl:Sl)(w:QV)(m:MH)(h:PH)(K:CV->MH->PH->Prop):Prop:=
  jW (λv1 s=>zI (λs1 s2=>jV (λw1 q=>aA (cE (cA v) (bK (jK (aK sl)) (cN w))=cE (cA v1) (bK (jK (aK s1)) (cN w1))) (gS h s v1) (aA (Hz h s1 s2) (dD h q w1) (aH (mD (mX q)) (jD m) (aR (EV s q) (qL s s2=0) (To s2 q)) (lN h (Mm s s2 q).1 K m))))))
def Vu(o:Int)(v w:QV)(m:MH)(h:PH)(K:CV->MH->PH->Prop):Prop:=
  bV h 21 (v.enc::gM w.enc) (λs h1=>K (jK (oO (eN o) cO (sK uE (zC (aK s))))) m h1)
noncomputable abbrev tB(a:Int):List Value:=aT (eN 4) (eN a) wW
attribute [push_cast] tB
def Vr(n:Int)(m:MH)(h:PH)(K:CV->MH->PH->Prop):Prop:=
  K (jK (tB n)) m h
mutual
theorem wG:∀q:Query,(eH q).length<=pG q
 |.mk op ta _ _ _ _ _ _ args=>by
  have:=IE args;rw[eH,pG,List.length_append];split<;>simp<;>omega
theorem IE:∀qs:List Query,(dC qs).length<=rU qs
 |[]=>by simp[dC,rU]
 |q::qs=>by
  have:=wG q;have:=IE qs;rw[dC,rU,List.length_append];omega
end
theorem K7:Sound Tryz.prog 21 Wv:=by
 refine iB Tryz.func21 ?_;rintro cvs m h K ⟨v,s,sl,st,w,q,rfl,hs,hst,hq,hsm,hT,hb,hK⟩;refine⟨XO w sl,rfl,aD f55q_sound (aD f56_sound (aD f57_sound (aD f58_sound aF))),Pf v sl w m h K,by kernel_rfl,?_⟩;dsimp only[Pf,push_cast];unfold Mm at hK;refine⟨v,cF,w,s,[],q,rfl,hs,kZ h,hq,hsm,λsl1 h1 le1 _=>aB (λe=>?_) (λe=>?_)⟩
 .rw[if_pos (by simpa using e)]at hK;exact hK ⟨none,0,0⟩ h1 le1 (bH.nil _ _ _ _)
 have e:(fI s [] q).2=0:=by simpa using e
 rw[if_neg (by simp[e])]at hK;refine⟨v,s,sl,st,rfl,hs.mono le1,(hst.mono le1).lea,hst.len,aB (λe2=>?_) (λe2=>?_)⟩
 .rw[if_pos (by simpa using e2)]at hK;exact hK ⟨none,0,0⟩ h1 le1 (bH.nil _ _ _ _)
 have e2:qL s st=0:=by simpa using e2
 rw[if_neg (by simp[e2])]at hK;dsimp only at hK;obtain⟨c,c1,c2,c3⟩:=hb e e2;obtain⟨_,_,_,hkz⟩:=xK e;have hkq:bZ s [] q=((bZ s [] q).1,0):=Prod.ext rfl hkz;obtain⟨ok,ev,rel,len⟩:=YS e2 hst.val c2 c1 hkq c3;have hcnt:=Ct hsm;have hsl:=wG q;have hin:=BI hkq;have htl:=(NK e2).2.1;refine⟨w,q,rfl,hq.mono le1,aC,λs' h2 le2 hi=>?_⟩;have hil:=hi.slen;have hst2:=hst.mono (le1.trans le2);have hstl:=bH.slen hst2.lea;generalize hts:eH q=ts at hi hil hsl hin;refine⟨aC,aC,aC,aC,λz=>z.1<=ts.length/\z.2.2.1=s'/\z.2.2.2.1=m/\z.2.2.2.2=h2/\∃us,z.2.1=us++List.replicate (ts.length-z.1) ⟨none,0,0⟩/\us.length=z.1/\∀(j:Nat) u t,us[j]? =some u->ts[j]? =some t->Rows h2 u (st.getD t.toNat []),λz=>ts.length-z.1,⟨(0,List.replicate ts.length ⟨none,0,0⟩,s',m,h2),⟨by simp,rfl,rfl,rfl,[],by simp,rfl,λj u t h=>by simp at h⟩,?_⟩,?_⟩
 .rw[show((s'.len:Int)).toNat=ts.length by omega];dsimp only;rw[List.map_replicate];exact MT
 rintro⟨i,l,s2,m2,h3⟩ ⟨hi1,e3,e4,e5,us,hl,hul,hrow⟩;dsimp only at hi1 e3 e4 e5 hl hul hrow⊢
 subst e3 e4 e5;refine aE (λhlt=>?_) (λhge=>?_)
 .obtain⟨t,hx⟩:=eY hil hlt;obtain⟨b,o,ea,rd⟩:=hi.at' hx;have ht:=hin t (List.mem_of_getElem? hx);have htn:t.toNat<st.length:=by omega
  have e6:st[t.toNat]? =some (st.getD t.toNat []):=by rw[List.getD_eq_getElem?_getD,List.getElem?_eq_getElem htn];rfl
  obtain⟨b2,o2,u,ea2,rd2,hr⟩:=bH.at hst2.lea e6;have hll:l.length=ts.length:=by rw[hl,List.length_append,List.length_replicate];omega
  have hev:l[i]? =some ⟨none,0,0⟩:=by
   rw[hl,List.getElem?_append_right aC,List.getElem?_replicate,if_pos aC]
  refine⟨b,o,ea,aC,aC,t,.imm rd,b2,o2,ea2,ht.1,aC,u,.imm rd2,aC,by rw[List.length_map];omega,[uE],by rw[List.getElem?_map,show((i:Int)).toNat=i from rfl,hev];rfl,by simp,(i+1,l.set i u,s2,m2,h3),⟨by show i+1<=ts.length;omega,rfl,rfl,rfl,us++[u],?_,by simp[hul],λj u' t' h7 h8=>?_⟩,by show ts.length-(i+1)<ts.length-i;omega,?_⟩
  .dsimp only;rw[hl,List.set_append,if_neg aC,List.append_assoc];congr 1;rw[show ts.length-i=(ts.length-(i+1))+1 by omega,List.replicate_succ,show i-us.length=0 by omega];rfl
  .by_cases hj:j<us.length
   .rw[List.getElem?_append_left hj]at h7;exact hrow j u' t' h7 h8
   .rw[List.getElem?_append_right aC]at h7;have:j-us.length=0:=by have:=(List.getElem?_eq_some_iff.1 h7).1;simp at this;omega
    rw[this]at h7;simp at h7;subst h7;have:j=i:=by omega
    subst this;rw[hx]at h8;cases h8;exact hr
  .dsimp only
   have e9:((l.map eS).set ((i:Int)).toNat (eC u::List.drop 1 [uE]))=(l.set i u).map eS:=by
    rw[List.map_set];rfl
   rw[e9,iM aC];exact MT
 .have:i=ts.length:=by omega
  subst this;rw[Nat.sub_self,List.replicate_zero,List.append_nil]at hl;subst hl;intro s3 h4 le4 hri;refine⟨s3,w,jX st q,q,rfl,⟨⟨l,hri,by rw[jX,List.length_map,hts,hul],λi x hx=>?_⟩,by rw[jX,List.length_map,hts];omega⟩,hq.mono ((le1.trans le2).trans le4),ok,hT,by rw[ev];exact len,λr hr=>?_,λs5 h5 le5 hr=>hK s5 h5 (((le1.trans le2).trans le4).trans le5) (by rw[<-ev];exact hr)⟩
  .rw[jX,hts,List.getElem?_map]at hx;cases e7:ts[i]? with
   |none=>rw[e7]at hx;cases hx
   |some t=>
    rw[e7]at hx;simp only[Option.map_some,Option.some.injEq]at hx;subst hx;have hil2:=(List.getElem?_eq_some_iff.1 e7).1;exact⟨l[i],List.getElem?_eq_getElem aC,bH.mono (hrow i _ t (List.getElem?_eq_getElem aC) e7) le4 λr t hv=>cC.mono hv le4⟩
  .rw[ev]at hr;have:=(rel.row r hr).len;omega
theorem Uh:Sound Tryz.prog 29 YN:=by
 refine iB Tryz.func29 ?_;rintro cvs m h K ⟨v,s,sl,st,w,q,rfl,hs,hst,hq,hsm,hT,hb,hK⟩;refine⟨dL [(21,Wv)] [] [] [] false,rfl,aD K7 aF,Vt v sl w m h K,by kernel_rfl,?_⟩;exact⟨v,s,sl,st,w,q,rfl,hs,hst,hq,hsm,hT,hb,hK⟩
theorem Ui:Sound Tryz.prog 27 Yz:=by
 refine iB Tryz.func27 ?_;rintro cvs m h K ⟨o,v,w,rfl,hK⟩;refine⟨dL [] [] [] [] false,rfl,aF,Vu o v w m h K,by kernel_rfl,?_⟩;exact hK
theorem T5:Sound Tryz.prog 61 S9:=by
 refine iB Tryz.func61 ?_;rintro cvs m h K ⟨n,rfl,hK⟩;refine⟨dL [] [] [] [] false,rfl,aF,Vr n m h K,by kernel_rfl,?_⟩;exact hK
def R4:Vc.Spec:=λcvs m h K=>∃s r,cvs=[cS s]/\cC h s r/\r.length<=1000/\∀s' h',PH.le h h'->cC h' s' r->K (cS s') m h'
def WG:Vc.Spec:=λcvs m h K=>∃v s t sl r,cvs=[aS v,cI t,cS sl]/\gS h s v/\cC h sl r/\r.length<=1000/\∀s' h',PH.le h h'->cC h' s' (E7 s t r)->K (cS s') m h'
def No(key:Int)(ks:List Int)(r:List VV):Prop:=r.length=ks.length/\(∀v∈r,Hx v)/\∀(i:Nat) v k,r[i]? =some v->ks[i]? =some k->uY key k i v=true
def Zq:Vc.Spec:=λcvs m h K=>∃cb s key ks,cvs=[cP cb,cS s,cI key,cI 3]/\aM m h cb/\Ints h s ks/\ks.length<=1000/\(∀k∈ks,k=3\/k=4\/k=5)/\∀s' r m' h',PH.le h h'->cC h' s' r->No key ks r->bA m m' cb->aM m' h' cb->K (cS s') m' h'
def UR(m:MH)(tb:Nat)(us:List Sl):Prop:=∃cur:Array Value,m tb=some (.cells cur 53 (0,0))/\us.length<=cur.size/\cur.toList.take us.length=us.map Sl.val
def Zs:Vc.Spec:=λcvs m h K=>∃v s tb n cap us u,∃t:Nat,∃tab rs sk kr sr row,cvs=[aS v,Yr ⟨some ⟨tb,0,none⟩,n,cap⟩,cI t,cS sk,cS sr]/\gS h s v/\s.tables[t]? =some tab/\UR m tb us/\n=us.length/\us[t]? =some u/\Rows h u rs/\rs.length<=1000/\(∀r∈rs,r.length<=1000)/\cC h sk kr/\cC h sr row/\0<row.length/\row.length<=1000/\
 ∀u' m' h',PH.le h h'->Rows h' u' (wQ tab kr row false rs)->UR m' tb (us.set t u')->bA m m' tb->K (Yr ⟨some ⟨tb,0,none⟩,n,cap⟩) m' h'
noncomputable def XC(cb:Nat)(key:Int)(s:Sl):Ctx:=dL [(16,Kb),(77,Nb)]
 [(3,{A:=Nat×List VV×MH×PH,st:=λ⟨i,l,m,h⟩=>cD 59 63 [(0,pv cb),(2,iv key),(3,iv 3),(9,.at (.lst 24)),(12,sv s),(13,iv s.len),(14,iv i)] [(24,.lst 27 3 (l.map VV.enc))] m h})] [] [] false
noncomputable def Xz(v:bR)(sl:Sl)(t:Nat)(sk sr:Sl)(m:MH):Ctx:=dL [(46,WG),(62,FD),(53,R4)]
 [(4,{A:=Nat×List Sl×Bool×Sl×PH,st:=λ⟨i,us,d,u,h⟩=>cD 66 71 [(2,iv t),(3,sv sk),(4,sv sr),(5,.at (.ptr 5 0)),(6,.at (.ptr 6 0)),(10,.at (.ptr 10 0)),(11,.at (.lst 45)),(12,bv d),(23,sv u),(24,iv u.len),(25,iv i)] [(5,.cells 43 (v.enc.map .val)),(6,.cells 25 [.val sl.val]),(10,.cells 25 [.val cF.val]),(45,.lst 74 1 (us.map eS))] m h})]
 [(9,{A:=Nat×List Sl×Bool×Sl×Sl×Int×PH,st:=λ⟨i,us,d,u,r,c,h⟩=>cD 66 71 [(2,iv t),(3,sv sk),(4,sv sr),(5,.at (.ptr 5 0)),(6,.at (.ptr 6 0)),(10,.at (.ptr 10 0)),(11,.at (.lst 45)),(12,bv d),(14,sv r),(15,iv c),(23,sv u),(24,iv u.len),(25,iv i)] [(5,.cells 43 (v.enc.map .val)),(6,.cells 25 [.val sl.val]),(10,.cells 25 [.val cF.val]),(45,.lst 74 1 (us.map eS))] m h}),
  (14,{A:=List Sl×PH,st:=λ⟨us,h⟩=>cD 66 71 [(2,iv t),(6,.at (.ptr 6 0)),(10,.at (.ptr 10 0)),(11,.at (.lst 45))] [(6,.cells 25 [.val sl.val]),(10,.cells 25 [.val cF.val]),(45,.lst 74 1 (us.map eS))] m h})] [] false
def f53_nice(s:Sl)(m:MH)(h:PH)(K:CV->MH->PH->Prop):Prop:=
  ∃(y:List (List Value)),aA (eG 3 y) (cR h (cV s) 3 y) (aA (eO (y.length*32)) (eO y.length) (bV h 3 y (λs1 h1=>K (lY s1) m h1)))
def OX(v:bR)(t:Int)(s:Sl)(m:MH)(h:PH)(K:CV->MH->PH->Prop):Prop:=
  aW t 0 (K Dm m h) (gK t (hU v) (K Dm m h) (bD (λb o=>aH (bE (oU v) b o) (0<=t) (t<aG v.tables) (∃(y:Int),aH (aL m h b (fJ o t 5+2) (bW y)) (0<=ite (oM s y>0) (oM s y) 0) (ite (oM s y>0) (oM s y) 0<=(↑s.cap:Int)) (kP (λs1 r=>aH (fT (CV.val (Value.slice s.a (ite (oM s y>0) (oM s y) 0).toNat s.cap)) (lY s1)) (cC h s1 r) (wS r) (∀(s2:Sl)(h1:PH),dE h h1 (cC h1 s2 r) (K (lY s2) m h1))))))))
noncomputable abbrev oT(a:Nat×List VV×MH×PH):Nat->Nat->Option Value:=a.2.2.2
noncomputable abbrev yI(a:Nat×List VV×MH×PH):Nat->Option Obj:=a.2.2.1
abbrev xS(a:Nat×List VV×MH×PH)(b:(Nat×List VV×MH×PH)->Prop):Prop:=aA (eO (lI (rB a.2.1) 1*32)) (dN (rB a.2.1)) (∃(x:Nat×List VV×MH×PH),b x)
abbrev yF(a:Prop)(b c d:Nat)(e:Int)(g:Sl)(i j:Nat×List VV×MH×PH)(k:Prop)(l:MH):Prop:=aA a (b<c) (aA (dG d) (eQ (fV e)) (aA lT (eL 24) (aA (aJ g) (bJ g) (aA (fV (bB i.1 1)=bM j.1) k (aA (bG l j.2.2) (oT i=oT j) True)))))
abbrev xR(a:Nat)(b:Nat×List VV×MH×PH)(c:List Value)(d:Nat×List VV×MH×PH):Prop:=cM 27 a (eT (rB b.2.1) c)=cM 27 a (rB d.2.1)
attribute [push_cast] oT yI xS yF xR
def O0(cb:Nat)(s:Sl)(key:Int)(m:MH)(h:PH)(K:CV->MH->PH->Prop):Prop:=
  ∃(I:Nat×List VV×MH×PH->Prop)(m1:Nat×List VV×MH×PH->Nat),(∃(x:Nat×List VV×MH×PH),aA (I x) (dG cb) (aA (eQ (fV key)) lT (aA (eL 24) (aJ s) (aA (bJ s) (aZ x.1) (aH (mM 27 3 (cM 27 3 (rB x.2.1))) (bG m x.2.2) (h=oT x) True)))))/\∀(x:Nat×List VV×MH×PH),I x->aW (↑x.1:Int) (aG s) (bD (λb o=>aH (bE s.a b o) (0<=(↑x.1:Int)) ((↑x.1:Int)<aG s) (∃(y:Int),aL (yI x) (oT x) b (bF o x.1 1) (bW y)/\dA (decide ((↑x.1:Int)>=key)) (mF cb 5 (yI x) (oT x) (λc r=>∀(m2:MH),aR (bA (yI x) m2 c) (aM m2 (oT x) c) (dA r (xS x (λx1=>yF (I x1) (m1 x1) (m1 x) cb key s x x1 (xR 3 x (aT (eN 2) cO wW) x1) m2)) (decide ((↑x.1:Int)>=key)) (mF cb 5 m2 (oT x) (λc1 r1=>∀(m3:
 MH),aR (bA m2 m3 c1) (aM m3 (oT x) c1) (branch r1 (xS x (λx1=>yF (I x1) (m1 x1) (m1 x) cb key s x x1 (xR 3 x (aT (eN 1) cO wW) x1) m3)) (AU cb y m3 (oT x) (λv m4=>xS x (λx1=>yF (I x1) (m1 x1) (m1 x) cb key s x x1 (xR 3 x v.enc x1) m4)))))) (AU cb y m2 (oT x) (λv m3=>xS x (λx1=>yF (I x1) (m1 x1) (m1 x) cb key s x x1 (xR 3 x v.enc x1) m3)))))) (decide ((↑x.1:Int)>=key)) (mF cb 5 (yI x) (oT x) (λc r=>∀(m2:MH),aR (bA (yI x) m2 c) (aM m2 (oT x) c) (branch r (xS x (λx1=>yF (I x1) (m1 x1) (m1 x) cb key s x x1 (xR 3 x (aT (eN 1) cO wW) x1) m2)) (AU cb y m2 (oT x) (λv m3=>xS x (λx1=>yF (I x1) (m1 x1) (m1 x) cb key s x x1 (xR 3 x v.enc x1) m3)))))) (AU cb y (yI x)
 (oT x) (λv m2=>xS x (λx1=>yF (I x1) (m1 x1) (m1 x) cb key s x x1 (xR 3 x v.enc x1) m2)))))) (bV (oT x) 3 (rB x.2.1) (λs1 h1=>K (lY s1) (yI x) h1))
noncomputable abbrev yG(a:Nat×List Sl×Bool×Sl×PH):Bool:=a.2.2.1
noncomputable abbrev oN(a:Nat×List Sl×Bool×Sl×PH):Sl:=a.2.2.2.1
abbrev oE:Prop:=qV (jR JW)
noncomputable abbrev rK(a:Nat×List Sl×Bool×Sl×PH):Nat->Nat->Option Value:=a.2.2.2.2
abbrev HU(a:(Nat×List Sl×Bool×Sl×Sl×Int×PH)->Prop)(b:Nat)(c d:Sl)(e:(Nat×List Sl×Bool×Sl×Sl×Int×PH)->Prop):Prop:=∃(x:Nat×List Sl×Bool×Sl×Sl×Int×PH),aA (a x) (eQ (bM b)) (aA (aJ c) (aJ d) (aA eE (eP 6) (aA i6 (eL 45) (e x))))
noncomputable abbrev rJ(a:Nat×List Sl×Bool×Sl×Sl×Int×PH):Sl:=a.2.2.2.1
noncomputable abbrev CN(a:Nat×List Sl×Bool×Sl×Sl×Int×PH):Nat->Nat->Option Value:=a.2.2.2.2.2.2
attribute [push_cast] yG oN oE rK HU rJ CN
def OY(v:bR)(tb n cap t:Nat)(sk sr:Sl)(m:MH)(h:PH)(K:CV->MH->PH->Prop):Prop:=
  bD (λb o=>aH (bE (kC tb) b o) (0<=(↑t:Int)) ((↑t:Int)<(↑n:Int)) (∃(y:Sl),aL m h b (bF o t 1) (aK y)/\∃(I:Nat×List Sl×Bool×Sl×PH->Prop)(m1:Nat×List Sl×Bool×Sl×PH->Nat),(∃(x:Nat×List Sl×Bool×Sl×PH),aA (I x) (eQ (bM t)) (aA (aJ sk) (aJ sr) (aA eE (eP 6) (aA i6 (eL 45) (aA (hX (aG sr==0) (yG x)) (bI y (oN x)) (aA (bP y (oN x)) (aZ x.1) (aA (bL v) (qV (jR (At.val (Value.slice (kC tb) n cap)))) (aA oE (mM 74 1 (iZ x.2.1)) (bT (m=m) h (rK x))))))))))/\∀(x:Nat×List Sl×Bool×Sl×PH),I x->aW (↑x.1:Int) (aG (oN x)) (cZ (oN x).a (↑x.1:Int) (oN x) (λb1 o1 y1=>aL m (rK x) b1 (bF o1 x.1 1) (aK y1)/\jW (λv1 s=>∃(t1:Int),kP (λs1 r=>aA
 (cE (cA v) (bK (fH (↑t:Int)) (lY y1))=cE (cA v1) (bK (fH t1) (lY s1))) (gS (rK x) s v1) (aA (cC (rK x) s1 r) (wS r) (∀(s2:Sl)(h1:PH),dE (rK x) h1 (cC h1 s2 (E7 s t1 r)) (xT s2 sk h1 (λa b2=>∃(I1:Nat×List Sl×Bool×Sl×Sl×Int×PH->Prop),gK (dT a b2) 0 (branch (!(yG x)) (kP (λs3 r1=>aH (tY sr s3) (cC h1 s3 r1) (wS r1) (∀(s4:Sl)(h2:PH),dE h1 h2 (cC h2 s4 r1) (aA (iG (eU x.2.1)) (dN (eU x.2.1)) (HU (λx1=>I1 x1) t sk sr (λx1=>aA (uU x1.2.2.1) (bI y1 x1.2.2.2.2.1) (aA (cL (dT a b2) x1.2.2.2.2.2.1) (bI (oN x) (rJ x1)) (aA (bP (oN x) (rJ x1)) (bX x.1 x1.1) (aA (bL v) (qV (jR (At.val (Value.slice (kC tb) n cap)))) (aA oE (cM 74 1 (eT (eU x.2.1)
 (aK s4))=iZ x1.2.1) (aA (m=m) (h2=CN x1) True))))))))))) (HU (λx1=>I1 x1) t sk sr (λx1=>aA (hX (yG x) x1.2.2.1) (bI y1 x1.2.2.2.2.1) (aA (cL (dT a b2) x1.2.2.2.2.2.1) (bI (oN x) (rJ x1)) (aA (bP (oN x) (rJ x1)) (bX x.1 x1.1) (aA (bL v) (qV (jR (At.val (Value.slice (kC tb) n cap)))) (aA oE (iZ x.2.1=iZ x1.2.1) (aA (m=m) (h1=CN x1) True)))))))) (HU (λx1=>I1 x1) t sk sr (λx1=>aA (hX (yG x) x1.2.2.1) (bI y1 x1.2.2.2.2.1) (aA (cL (dT a b2) x1.2.2.2.2.2.1) (bI (oN x) (rJ x1)) (aA (bP (oN x) (rJ x1)) (bX x.1 x1.1) (aA (bL v) (qV (jR (At.val (Value.slice (kC tb) n cap)))) (aA oE (iZ x.2.1=iZ x1.2.1) (aA (m=m) (h1=CN x1) True)))))))/\∀(x1:Nat×
 List Sl×Bool×Sl×Sl×Int×PH),gP (I1 x1) (x1.2.2.2.2.2.1 !=0) (aA (iG (eU x1.2.1)) (dN (eU x1.2.1)) (∃(x2:Nat×List Sl×Bool×Sl×PH),aA (I x2) (m1 x2<m1 x) (aA (eQ (bM t)) (aJ sk) (aA (aJ sr) eE (aA (eP 6) i6 (aA (eL 45) (hX x1.2.2.1 (yG x2)) (aA (bI (rJ x1) (oN x2)) (bP (rJ x1) (oN x2)) (aA (fV (bB x1.1 1)=bM x2.1) (bL v) (aA (qV (jR (At.val (Value.slice (kC tb) n cap)))) oE (aH (cM 74 1 (eT (eU x1.2.1) (aK x1.2.2.2.2.1))=iZ x2.2.1) (m=m) (CN x1=rK x2) True)))))))))) (∃(x2:Nat×List Sl×Bool×Sl×PH),aA (I x2) (m1 x2<m1 x) (aA (eQ (bM t)) (aJ sk) (aA (aJ sr) eE (aA (eP 6) i6 (aA (eL 45) (hX x1.2.2.1 (yG x2)) (aA (bI (rJ x1) (oN x2)) (bP (rJ x1)
 (oN x2)) (aA (fV (bB x1.1 1)=bM x2.1) (bL v) (aA (qV (jR (At.val (Value.slice (kC tb) n cap)))) oE (aH (iZ x1.2.1=iZ x2.2.1) (m=m) (CN x1=rK x2) True))))))))))))))))) (∃(I1:List Sl×PH->Prop),branch (!(yG x)) (kP (λs r=>aH (tY sr s) (cC (rK x) s r) (wS r) (∀(s1:Sl)(h1:PH),dE (rK x) h1 (cC h1 s1 r) (aA (iG (eU x.2.1)) (dN (eU x.2.1)) (∃(x1:List Sl×PH),aA (I1 x1) (eQ (bM t)) (aA (eP 6) i6 (aA (eL 45) (qV (jR (At.val (Value.slice (kC tb) n cap)))) (aA oE (cM 74 1 (eT (eU x.2.1) (aK s1))=iZ x1.1) (bT (m=m) h1 x1.2))))))))) (∃(x1:List Sl×PH),aA (I1 x1) (eQ (bM t)) (aA (eP 6) i6 (aA (eL 45) (qV (jR (At.val (Value.slice (kC tb) n cap)))) (aA oE (iZ x.2.1=
 iZ x1.1) (bT (m=m) (rK x) x1.2)))))/\∀(x1:List Sl×PH),I1 x1->bD (λb1 o1=>aH (bE (kC tb) b1 o1) (0<=(↑t:Int)) ((↑t:Int)<(↑n:Int)) (bV x1.2 1 (eU x1.1) (λs h1=>fD (λc E=>aA (pH m b1 (dY c E 0)) (dU (bF o1 t 1) c) (∀(m2:MH),bC m m2 b1 (splice c.toList (bF o1 t 1) (aK s)) E->K (jK (iR (Value.slice (kC tb) n cap))) m2 h1))))))))
theorem f53_sound:Sound Tryz.prog 53 R4:=by
 refine iB Tryz.func53 ?_;rintro cvs m h K ⟨s,r,rfl,hs,hl,hK⟩;refine⟨dL [] [] [] [] false,rfl,aF,f53_nice s m h K,by kernel_rfl,?_⟩;dsimp only[f53_nice,push_cast];obtain⟨⟨vs,h1,h2,h3⟩,h4⟩:=hs;exact⟨vs.map VV.enc,IF vs,h1,by rw[List.length_map];omega,by rw[List.length_map];omega,λs' h' le hri=>hK s' h' le ⟨⟨vs,hri,h2,h3⟩,h4⟩⟩
theorem KZ:Sound Tryz.prog 46 WG:=by
 refine iB Tryz.func46 ?_;rintro cvs m h K ⟨v,s,t,sl,r,rfl,hs,hv,hl,hK⟩;refine⟨dL [(53,R4)] [] [] [] false,rfl,aD f53_sound aF,OX v t sl m h K,by kernel_rfl,?_⟩;dsimp only[OX,push_cast];have htl:=hs.tables.slen;have hrl:=bH.slen hv;have none_:sR s t=false->K Dm m h:=λe=>hK ⟨none,0,0⟩ h (.refl _) (by simp only[E7,e];exact bH.nil _ _ _ _);refine aE (λh1=>none_ (by simp[sR];omega)) (λh1=>aE (λh2=>none_ (by simp[sR];omega)) (λh2=>?_));have e:sR s t=true:=by simp[sR];omega
 obtain⟨tb,htb⟩:∃tb,s.tables[t.toNat]? =some tb:=⟨_,List.getElem?_eq_getElem aC⟩
 obtain⟨b,o,y,ea,rd,hy⟩:=bH.at hs.tables htb;have hk:=hy.key;obtain⟨a,len,cap⟩:=sl;have hcap:len<=cap:=by obtain⟨vs,h5,_⟩:=hv.ex;exact h5.cap
 have hrl:len=r.length:=hrl
 have hmm:(if(if(len:Int)<y.key then(len:Int)else y.key)>0 then(if(len:Int)<y.key then(len:Int)else y.key)else 0)=max 0 (min tb.key r.length):=by
  rw[<-hk];split<;>split<;>omega
 refine⟨b,o,ea,aC,aC,y.key,.imm (aX.part rd 2 1),?_⟩;dsimp only;rw[hmm];have e2:E7 s t r=r.take (max 0 (min tb.key r.length)).toNat:=by simp only[E7,e,if_true,htb];rfl
 rw[e2]at hK;exact⟨aC,aC,⟨a,(max 0 (min tb.key r.length)).toNat,cap⟩,_,rfl,hv.cut aC,by rw[List.length_take];omega,hK⟩
theorem No.snoc{key:Int}{ks:List Int}{l:List VV}{k:Int}{v:VV}(x:No key (ks.take i) l)(hk:ks[i]? =some k)(hv:Hx v)(hf:uY key k i v=true):No key (ks.take (i+1)) (l++[v]):=by
 obtain⟨h1,h2,h3⟩:=x;have hi:=(List.getElem?_eq_some_iff.1 hk).1;have hl:l.length=i:=by rw[h1,List.length_take];omega
 refine⟨by rw[List.length_append,List.length_take];simp;omega,λu hu=>?_,λj u k' hu hk'=>?_⟩
 .rcases List.mem_append.1 hu with hu|hu
  .exact h2 u hu
  .simp at hu;subst hu;exact hv
 .rw[List.getElem?_take]at hk';split at hk'
  .by_cases hj:j<l.length
   .rw[List.getElem?_append_left hj]at hu;exact h3 j u k' hu (by rw[List.getElem?_take,if_pos aC];exact hk')
   .have:j=i:=by omega
    subst this;rw[List.getElem?_append_right aC,hl,Nat.sub_self]at hu;simp at hu;subst hu;rw[hk]at hk';cases hk';exact hf
  .cases hk'
theorem Oo{key k c:Int}(hc:c=1\/c=2)(hi:(i:Int)>=key):uY key k i ⟨c,0,⟨#[]⟩⟩=true:=by
 rcases hc with rfl|rfl<;>simp[uY,gT,DJ]<;>omega
theorem Ga{key k:Int}{v:VV}(hk:Yi k)(hv:Te k v):uY key k i v=true:=by
 obtain⟨h1,h2⟩:=hv hk;simp[uY,h1,h2]
theorem NB(c:Int):Hx ⟨c,0,⟨#[]⟩⟩:=⟨⟨by simp,by simp⟩,by show(ByteArray.mk #[]).size<=64;decide⟩
theorem T8:Sound Tryz.prog 43 Zq:=by
 refine iB Tryz.func43 ?_;rintro cvs m h K ⟨cb,s,key,ks,rfl,hc,hs,hl,hk,hK⟩;refine⟨XC cb key s,rfl,aD wI (aD Gb aF),O0 cb s key m h K,by kernel_rfl,?_⟩;dsimp only[O0,push_cast];have hsl:=hs.slen;refine⟨λz=>z.2.2.2=h/\z.1<=ks.length/\No key (ks.take z.1) z.2.1/\bA m z.2.2.1 cb/\aM z.2.2.1 h cb,λz=>ks.length-z.1,⟨(0,[],m,h),⟨rfl,by simp,⟨by simp,by simp,λj u k h=>by simp at h⟩,.refl _ _,hc⟩,MT⟩,?_⟩;rintro⟨i,l,m1,h'⟩ ⟨e1,hi,hfit,o1,c1⟩;dsimp only at e1 hi hfit o1 c1⊢
 subst e1;have hll:l.length=i:=by rw[hfit.1,List.length_take];omega
 refine aE (λhlt=>?_) (λhge s' h2 le2 hri=>?_)
 .obtain⟨k,hx⟩:=eY hsl hlt;obtain⟨b,o,ea,rd⟩:=hs.at' hx;have hkk:=hk k (List.mem_of_getElem? hx);have hI:∀(u:VV)(m':MH),Hx u->uY key k i u=true->bA m1 m' cb->aM m' h' cb->h'=h'/\i+1<=ks.length/\No key (ks.take (i+1)) (l++[u])/\bA m m' cb/\aM m' h' cb:=λu m' hu hf o c=>⟨rfl,aC,hfit.snoc hx hu hf,o1.trans o,c⟩
  have hmu:ks.length-(i+1)<ks.length-i:=by omega
  have hw:IntKind.i64.wrap ((i:Int)+1)=((i+1:Nat):Int):=iM aC;refine⟨b,o,ea,aC,aC,k,.imm rd,aE (λhik=>⟨cb,5,rfl,aC,aC,c1,λr m2 o2 c2=>aB (λ_=>?_) (λ_=>aE (λ_=>⟨cb,5,rfl,aC,aC,c2,λr m3 o3 c3=>aB (λ_=>?_) (λ_=>⟨cb,k,rfl,c3,λu m4 hu hku o4 c4=>?_⟩)⟩) (λ_=>⟨cb,k,rfl,c2,λu m4 hu hku o4 c4=>?_⟩))⟩) (λhik=>aE (λhik2=>absurd hik2 hik) (λ_=>⟨cb,k,rfl,c1,λu m4 hu hku o4 c4=>?_⟩))⟩
  .refine⟨by rw[List.length_map];omega,by rw[List.length_map];omega,(i+1,l++[⟨2,0,⟨#[]⟩⟩],m2,h'),hI _ m2 (NB 2) (Oo (.inr rfl) hik) o2 c2,hmu,?_⟩;rw[hw,List.map_append];exact MT
  .refine⟨by rw[List.length_map];omega,by rw[List.length_map];omega,(i+1,l++[⟨1,0,⟨#[]⟩⟩],m3,h'),hI _ m3 (NB 1) (Oo (.inl rfl) hik) (o2.trans o3) c3,hmu,?_⟩;rw[hw,List.map_append];exact MT
  .refine⟨by rw[List.length_map];omega,by rw[List.length_map];omega,(i+1,l++[u],m4,h'),hI _ m4 hu (Ga hkk hku) ((o2.trans o3).trans o4) c4,hmu,?_⟩;rw[hw,List.map_append];exact MT
  .refine⟨by rw[List.length_map];omega,by rw[List.length_map];omega,(i+1,l++[u],m4,h'),hI _ m4 hu (Ga hkk hku) (o2.trans o4) c4,hmu,?_⟩;rw[hw,List.map_append];exact MT
  .refine⟨by rw[List.length_map];omega,by rw[List.length_map];omega,(i+1,l++[u],m4,h'),hI _ m4 hu (Ga hkk hku) o4 c4,hmu,?_⟩;rw[hw,List.map_append];exact MT
 .rw[List.take_of_length_le aC]at hfit;exact hK s' l m1 h2 le2 ⟨⟨l,hri,rfl,λi x hx=>⟨x,hx,rfl⟩⟩,aC⟩ hfit o1 (c1.mono le2)
theorem T6:Sound Tryz.prog 45 Zs:=by
 refine iB Tryz.func45 ?_;rintro cvs m h K ⟨v,s,tb,n,cap,us,u,t,tab,rs,sk,kr,sr,row,rfl,hs,htab,hT,hn,hu,hrs,hrl,hrw,hkr,hrow,h0,h1,hK⟩;refine⟨Xz v ⟨some ⟨tb,0,none⟩,n,cap⟩ t sk sr m,rfl,aD KZ (aD Gf (aD f53_sound aF)),OY v tb n cap t sk sr m h K,by kernel_rfl,?_⟩;dsimp only[OY,push_cast];obtain⟨cur,hcur,hcs,hcl⟩:=hT;have htl:t<us.length:=(List.getElem?_eq_some_iff.1 hu).1;have hul:=bH.slen hrs;have hsrl:=bH.slen hrow;have hd0:((sr.len:Int)==0)=false:=by simp;omega
 have hrd:(cur.toList.drop (0+t*1)).take [eC u].length=[eC u]:=by
  have hcurt:cur.toList[t]? =some (Sl.val u):=by
   have e:(cur.toList.take us.length)[t]? =some (Sl.val u):=by rw[hcl,List.getElem?_map,hu];rfl
   rwa [List.getElem?_take,if_pos htl]at e
  have hlt:=(List.getElem?_eq_some_iff.1 hcurt).1;rw[Nat.zero_add,Nat.mul_one,List.drop_eq_getElem_cons hlt,(List.getElem?_eq_some_iff.1 hcurt).2];rfl
 refine⟨tb,0,rfl,aC,aC,u,.lent cur 53 (0,0) hcur hrd,λz=>z.2.2.2.1=u/\z.1<=rs.length/\PH.le h z.2.2.2.2/\∃out,eK z.2.2.2.2 z.2.1 out/\out.length<=2*z.1/\out++wQ tab kr row z.2.2.1 (rs.drop z.1)=wQ tab kr row false rs,λz=>rs.length-z.1,⟨(0,[],false,u,h),⟨rfl,by simp,.refl _,[],eK.nil _,by simp,by simp⟩,by rw[hd0];exact MT⟩,?_⟩;rintro⟨i,vs,d,u',hx⟩ ⟨e1,hi,le1,out,hru,hol,lA⟩;dsimp only at e1 hi le1 hru hol lA⊢
 subst e1;have hvl:=hru.len;refine aE (λhlt=>?_) (λhge=>?_)
 .obtain⟨r,hxr⟩:=eY hul hlt;have hil:=(List.getElem?_eq_some_iff.1 hxr).1;obtain⟨b,o,w,ea,rd,hv⟩:=bH.at hrs hxr;have hdrop:rs.drop i=r::rs.drop (i+1):=by rw[List.drop_eq_getElem_cons hil,(List.getElem?_eq_some_iff.1 hxr).2]
  rw[hdrop,wQ]at lA;refine⟨b,o,ea,aC,aC,w,.imm (rd.mono le1),v,s,t,w,r,rfl,hs.mono le1,cC.mono hv le1,hrw r (List.mem_of_getElem? hxr),λs' h2 le2 hkv=>⟨s',sk,_,kr,rfl,hkv,cC.mono hkr (le1.trans le2),?_⟩⟩;rw[CZ htab];generalize hc:dT (jT tab r) kr=c at lA⊢
  refine⟨λz=>z.1=i/\z.2.2.2.1=u'/\z.2.2.2.2.1=w/\z.2.2.2.2.2.1=c/\PH.le hx z.2.2.2.2.2.2/\∃out,eK z.2.2.2.2.2.2 z.2.1 out/\out.length<=2*i+1/\out++((if c≠0 then[r]else[])++wQ tab kr row z.2.2.1 (rs.drop (i+1)))=wQ tab kr row false rs,aE (λhc0=>aB (λhd=>?_) (λhd=>?_)) (λhc0=>?_),?_⟩
  .have hd:d=false:=by simpa using hd
   subst hd;rw[if_pos ⟨hc0,rfl⟩,show(false||decide (0<=c))=true by simp;omega]at lA;refine⟨sr,row,rfl,cC.mono hrow (le1.trans le2),h1,λs2 h3 le3 hv3=>⟨by rw[List.length_map];omega,by rw[List.length_map];omega,(i,vs++[s2],true,u',w,c,h3),⟨rfl,rfl,rfl,rfl,le2.trans le3,out++[row],(hru.mono (le2.trans le3)).snoc hv3,by rw[List.length_append];simp;omega,?_⟩,?_⟩⟩
   .rw[List.append_assoc];exact lA
   .rw[List.map_append];exact MT
  .have hd:d=true:=by simpa using hd
   subst hd;rw[if_neg (by simp),Bool.true_or,List.nil_append]at lA;exact⟨(i,vs,true,u',w,c,h2),⟨rfl,rfl,rfl,rfl,le2,out,hru.mono le2,aC,lA⟩,MT⟩
  .rw[if_neg (λh=>hc0 h.1),show(d||decide (0<=c))=d by rw[decide_eq_false hc0,Bool.or_false],List.nil_append]at lA;exact⟨(i,vs,d,u',w,c,h2),⟨rfl,rfl,rfl,rfl,le2,out,hru.mono le2,aC,lA⟩,MT⟩
  clear lA hru hol hvl out vs;rintro⟨i',vs,d,u2,w2,c2,h3⟩ ⟨e2,e3,e4,e5,le3,out,hru,hol,lA⟩;dsimp only at e2 e3 e4 e5 le3 hru hol lA⊢
  subst e2 e3 e4 e5;have hvl:=hru.len;have hw:IntKind.i64.wrap ((i':Int)+1)=((i'+1:Nat):Int):=iM aC;refine aB (λhcn=>?_) (λhcn=>?_)
  .rw[if_pos (by simpa using hcn)]at lA;refine⟨by rw[List.length_map];omega,by rw[List.length_map];omega,(i'+1,vs++[w2],d,u2,h3),⟨rfl,by show i'+1<=rs.length;omega,le1.trans le3,out++[r],hru.snoc (cC.mono hv (le1.trans le3)),by rw[List.length_append];simp;omega,by rw[List.append_assoc];exact lA⟩,by show rs.length-(i'+1)<rs.length-i';omega,?_⟩;rw[hw,List.map_append];exact MT
  .rw[if_neg (by simpa using hcn),List.nil_append]at lA;refine⟨(i'+1,vs,d,u2,h3),⟨rfl,by show i'+1<=rs.length;omega,le1.trans le3,out,hru,by show out.length<=2*(i'+1);omega,lA⟩,by show rs.length-(i'+1)<rs.length-i';omega,?_⟩;rw[hw];exact MT
 .have hi2:i=rs.length:=by omega
  rw[hi2,List.drop_length,wQ]at lA;refine⟨λz=>PH.le h z.2/\eK z.2 z.1 (wQ tab kr row false rs),aB (λhd=>?_) (λhd=>?_),?_⟩
  .have hd:d=false:=by simpa using hd
   rw[hd,if_neg (by simp)]at lA;refine⟨sr,row,rfl,cC.mono hrow le1,h1,λs2 h3 le3 hv3=>⟨by rw[List.length_map];omega,by rw[List.length_map];omega,(vs++[s2],h3),⟨le1.trans le3,by rw[<-lA];exact(hru.mono le3).snoc hv3⟩,?_⟩⟩;rw[List.map_append];exact MT
  .have hd:d=true:=by simpa using hd
   rw[hd,if_pos rfl,List.append_nil]at lA;exact⟨(vs,hx),⟨le1,by rw[<-lA];exact hru⟩,MT⟩
  rintro⟨vs2,h3⟩ ⟨le3,hru3⟩;dsimp only at le3 hru3⊢
  have hpl:=HE (t:=tab) (key:=kr) (row:=row) (l:=rs) (d:=false);refine⟨tb,0,rfl,aC,aC,λs2 h4 le4 hri=>⟨cur,53,⟨hcur⟩,?_,λm' hup=>hK s2 m' h4 (le3.trans le4) ((hru3.mono le4).rows hri (by simp at hpl;omega)) ⟨_,hup.at_,?_,?_⟩ ⟨λb hb=>(hup.other b hb).symm▸rfl⟩⟩⟩
  .omega
  .have hsp:splice cur.toList (0+((t:Int)).toNat*1) [eC s2]=cur.toList.set t (Sl.val s2):=by
    rw[List.set_eq_take_append_cons_drop,if_pos (by rw[Array.length_toList];omega)];simp only[splice,Int.toNat_natCast,Nat.zero_add,Nat.mul_one,List.length_singleton,List.append_assoc];rfl
   rw[hsp];simp only[List.length_set,List.size_toArray,Array.length_toList];exact hcs
  .have hsp:splice cur.toList (0+((t:Int)).toNat*1) [eC s2]=cur.toList.set t (Sl.val s2):=by
    rw[List.set_eq_take_append_cons_drop,if_pos (by rw[Array.length_toList];omega)];simp only[splice,Int.toNat_natCast,Nat.zero_add,Nat.mul_one,List.length_singleton,List.append_assoc];rfl
   rw[hsp,List.length_set,List.map_set, <-hcl,List.take_set]
def J8{α:Type}(T:List α->α->Prop):List α->List α->Prop
 |_,[]=>True
 |pre,x::r=>T pre x/\J8 T (pre++[x]) r
theorem On{α:Type}{T:List α->α->Prop}:∀{l pre:List α},J8 T pre l->∀(j:Nat) x,l[j]? =some x->T (pre++l.take j) x
 |[],_,_,j,x,e=>by simp at e
 |y::r,pre,h,0,x,e=>by simp at e;subst e;simpa using h.1
 |y::r,pre,h,j+1,x,e=>by
  have:=On h.2 j x (by simpa using e);simpa using this
theorem wC{α:Type}{T:List α->α->Prop}{l:List α}(h:J8 T [] l):Good T l:=λj x e=>by simpa using On h j x e
theorem TK{α:Type}{T:List α->α->Prop}{l:List α}(h:Good T l)(n:Nat):Good T (l.take n):=λj x e=>by
 rw[List.getElem?_take]at e;split at e
 .rename_i hj;rw[List.take_take,Nat.min_eq_left aC];exact h j x e
 .cases e
theorem U5(h8:s.tables.length<=8)(hl:∀t∈s.tables,t.columns.length<=8/\t.refs=[]/\t.checks=[])(v0:0<=s.version)(v1:s.version<=1000)(hg:Good Ah s.tables):eV s=0:=by
 have lim:Bk s:=⟨h8,λj t e=>by
  obtain⟨h1,h2,h3⟩:=hl t (List.mem_of_getElem? e);exact⟨h1,by simp[h2],by simp[h3]⟩⟩
 have ok:Hr s:=⟨v0,v1,hg,λj t e=>by
  obtain⟨h1,h2,h3⟩:=hl t (List.mem_of_getElem? e);unfold Bw;rw[h2];intro i x e2;simp at e2⟩
 rw[FL lim ok];refine zM _ λe he=>?_;obtain⟨i,_,he⟩:=List.mem_flatMap.1 he;unfold qK at he;split at he
 .rename_i t ht;obtain⟨h1,h2,h3⟩:=hl t (List.mem_of_getElem? ht);rw[h3]at he;simp at he
 .simp at he
theorem P8{id:Int}(h:id=4\/id=5):Good Ah (kR id):=by
 have hk:eA id=true:=by rcases h with rfl|rfl<;>rfl
 refine wC ⟨⟨?_,?_,?_,?_,wC ⟨⟨?_,?_,?_⟩,⟨?_,?_,?_⟩,trivial⟩⟩,⟨?_,?_,?_,?_,wC ⟨⟨?_,?_,?_⟩,⟨?_,?_,?_⟩,⟨?_,?_,?_⟩,⟨?_,?_,?_⟩,trivial⟩⟩,⟨?_,?_,?_,?_,wC ⟨⟨?_,?_,?_⟩,⟨?_,?_,?_⟩,trivial⟩⟩,⟨?_,?_,?_,?_,wC ⟨⟨?_,?_,?_⟩,trivial⟩⟩,trivial⟩
 all_goals first|exact hk|rfl|(simp;done)|decide
theorem IL(h:uO s):eV s=0/\s.tables≠[]:=by
 obtain⟨ver,n,id,v0,v1,n2,n4,hid,rfl⟩:=h.ex;refine⟨U5 (by simp[kR];omega) (λt ht=>?_) v0 (by show ver<=1000;omega) (TK (P8 hid) n),λe=>?_⟩
 .have ht:=List.mem_of_mem_take ht;simp only[kR,List.mem_cons,List.not_mem_nil,or_false]at ht;rcases ht with rfl|rfl|rfl|rfl<;>exact⟨by simp,rfl,rfl⟩
 .have:=congrArg List.length e;simp[kR]at this;omega
theorem TA(h:uO s){t:uD}(ht:t∈s.tables):1<=t.key/\1<=t.columns.length/\t.columns.length<=4/\∀c∈t.columns,Yi c.kind:=by
 obtain⟨ver,n,id,v0,v1,n2,n4,hid,rfl⟩:=h.ex;have hk:Yi id:=by rcases hid with rfl|rfl;exact .inr (.inl rfl);exact .inr (.inr rfl)
 have ht:=List.mem_of_mem_take ht;simp only[kR,List.mem_cons,List.not_mem_nil,or_false]at ht;rcases ht with rfl|rfl|rfl|rfl
 all_goals
  refine⟨by simp,by simp,by simp,λc hc=>?_⟩;simp only[List.mem_cons,List.not_mem_nil,or_false]at hc
 .rcases hc with rfl|rfl<;>exact .inr (.inl rfl)
 .rcases hc with rfl|rfl|rfl|rfl
  .exact hk
  .exact .inr (.inl rfl)
  .exact .inr (.inr rfl)
  .exact .inl rfl
 .rcases hc with rfl|rfl<;>exact .inr (.inl rfl)
 .subst hc;exact hk
end Go.Ps
