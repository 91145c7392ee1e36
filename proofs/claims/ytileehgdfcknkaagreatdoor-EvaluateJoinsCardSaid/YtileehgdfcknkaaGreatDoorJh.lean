/-
  Part 8 of a proof that a law of the given program returns true: a condition generator that is proved sound, and contracts of functions. No condition of its own. Own work, joined by a program (pack2.py).
-/
import Derived.Test.YtileehgdfcknkaaGreatDoorJg
set_option linter.unusedVariables false
set_option linter.unusedSimpArgs false
namespace Go.Ps
open Go Go.Vc Go.Proofs
variable{K:CV->MH->PH->Prop}{m:MH}{h:PH}{s:oS}{ps:List Int}{cb:Nat}{sc:aW}{v:QV}{q:Query}{p:Pred}{l:List Int}{i:Nat}{N:Nat}{m':MH}{h':PH}{co:List Int}{gr:List Int}{od:List (Int×Bool)}{w:Pred}{ta:Int}{li:Int}{xs:List (List Value)}{sz:Nat}{k:Nat}{ks:List (List Int)}{rs:List Int}{r:Sl}{a:List Int}{b:Nat}
structure CS(s:oS)(c:Nat)(ls:List (List (List VV)))(k:Nat)(ts:List Int):Prop where
 at_:∀(j:Nat)(t:Int),ts[j]? =some t->∃l,ls[k+j]? =some l/\gX (gT s t).length l/\l.length<=c
theorem CS.left{c:Nat}{ls:List (List (List VV))}{b:List Int}(x:CS s c ls k (a++b)):CS s c ls k a:=
 ⟨λj t h=>x.at_ j t (by rw[List.getElem?_append_left (List.getElem?_eq_some_iff.1 h).1];exact h)⟩
theorem CS.right{c:Nat}{ls:List (List (List VV))}{b:List Int}(x:CS s c ls k (a++b)):CS s c ls (k+a.length) b:=
 ⟨λj t h=>by
  have:=x.at_ (a.length+j) t (by rw[List.getElem?_append_right aC,Nat.add_sub_cancel_left];exact h)
  rwa [show k+a.length+j=k+(a.length+j)by omega]⟩
theorem yC{op:Int}{on:List (Int×Int)}{args:List Query}{ks:List Int}(h:bY s ps (.mk op ta w co on gr od li args)=(ks,0)):
 ∃kss,eX s ps args=(kss,0)/\(kss.length:Int)=arity op/\iC s ps (.mk op ta w co on gr od li args) (kss.getD 0 []) (kss.getD 1 [])=(ks,0):=by
 rw[bY]at h;generalize eX s ps args=r at h;obtain⟨kss,e⟩:=r;dsimp only at h;split at h
 .rename_i e0;subst e0;split at h
  .rename_i h1;exact⟨kss,rfl,h1,h⟩
  .simp[iY]at h
 .rename_i e0;simp only[iY,Prod.mk.injEq]at h;exact absurd h.2 e0
theorem j6{qs:List Query}{kss:List (List Int)}(h:eX s ps (q::qs)=(kss,0)):∃k kss',bY s ps q=(k,0)/\eX s ps qs=(kss',0)/\kss=k::kss':=by
 rw[eX]at h;generalize bY s ps q=r at h;obtain⟨k,e⟩:=r;generalize eX s ps qs=r at h;obtain⟨ks,e'⟩:=r;dsimp only at h;split at h
 .rename_i e0;split at h
  .rename_i e1;simp only[Prod.mk.injEq,and_true]at h;exact⟨k,ks,by rw[e0],by rw[e1],h.symm⟩
  .rename_i e1;simp only[Prod.mk.injEq]at h;exact absurd h.2 e1
 .rename_i e0;simp only[Prod.mk.injEq]at h;exact absurd h.2 e0
theorem kH{ks:List Int}(h:Ah l=(ks,0)):ks=l/\l.length<=12:=by
 unfold Ah at h;split at h
 .rename_i h1;simp only[Prod.mk.injEq,and_true]at h;exact⟨h.symm,h1⟩
 .simp at h
theorem Sq{op:Int}(h:arity op=0):op=1:=by
 unfold arity at h;split at h
 .rename_i e;simpa using e
 .split at h
  .omega
  .split at h<;>omega
mutual
theorem Qk{s:oS}{ps:List Int}{c:Nat}(hc:1<=c):∀{q:Query}{ks:List Int},bY s ps q=(ks,0)->1<=mU c q
 |.mk op ta w co on gr od li args,ks,h=>by
  obtain⟨kss,h1,h2,h3⟩:=yC h;have h4:=Sr hc h1;rw[mU];split
  .exact hc
  .rename_i n1;split
   .exact h4.1
   .match args,h1,h4 with
    |[],h1,_=>rw[eX]at h1;simp only[Prod.mk.injEq,and_true]at h1;rw[<-h1]at h2;exact absurd (Sq h2.symm) n1
    |q::qs,h1,h4=>exact h4.2 (by simp)
theorem Sr{s:oS}{ps:List Int}{c:Nat}(hc:1<=c):∀{qs:List Query}{kss:List (List Int)},eX s ps qs=(kss,0)->1<=tP c qs/\(qs≠[]->1<=yO c qs)
 |[],kss,h=>by simp[tP]
 |q::qs,kss,h=>by
  obtain⟨k,kss',h1,h2,h3⟩:=j6 h;have h4:=Qk hc h1;have h5:=Sr hc h2;rw[tP,yO];exact⟨Nat.mul_pos h4 h5.1,λ_=>by omega⟩
end
def MO(c:Nat):List Query->List (List Int)->List (List (List VV))->Prop
 |[],[],[]=>True
 |q::qs,k::ks,l::ls=>gX k.length l/\l.length<=mU c q/\MO c qs ks ls
 |_,_,_=>False
theorem Nt{α:Type}:∀{l:List α},l.length=2->∃a b,l=[a,b]
 |[a,b],_=>⟨a,b,rfl⟩
theorem MO.len{c:Nat}{qs:List Query}{ls:List (List (List VV))}(h:MO c qs ks ls):qs.length=ks.length/\ls.length=ks.length:=by
 induction qs generalizing ks ls with
 |nil=>
  match ks,ls,h with
  |[],[],_=>exact⟨rfl,rfl⟩
  |_::_,[],h=>exact h.elim
  |[],_::_,h=>exact h.elim
  |_::_,_::_,h=>exact h.elim
 |cons q qs ih=>
  match ks,ls,h with
  |[],[],h=>exact h.elim
  |_::_,[],h=>exact h.elim
  |[],_::_,h=>exact h.elim
  |k::ks,l::ls,h=>
   obtain⟨h1,h2⟩:=ih h.2.2;exact⟨by simp[h1],by simp[h2]⟩
theorem gX.filter{w:Nat}{l:List (List VV)}(x:gX w l)(p:List VV->Bool):gX w (l.filter p):=
 ⟨λr h=>x.row r (List.mem_filter.1 h).1,λr h=>x.wid r (List.mem_filter.1 h).1,x.srt.filter p,Nat.le_trans (List.length_filter_le _ _) x.len⟩
theorem O1(x:List VV):∀l:List (List VV),(GR x l).length<=l.length+1
 |[]=>by simp[GR]
 |y::l=>by
  have:=O1 x l;simp only[GR];split
  .simp
  .split<;>simp<;>omega
theorem ER:∀l:List (List VV),(AO l).length<=l.length
 |[]=>by simp[AO]
 |x::l=>by
  have h1:=ER l;have h2:=O1 x (AO l);show(GR x (AO l)).length<=(x::l).length;simp only[List.length_cons];omega
theorem gX.set{w:Nat}{l:List (List VV)}(h1:∀r∈l,N9 r)(h2:∀r∈l,r.length=w)(h3:l.length<=1000000):gX w (AO l):=
 ⟨λr h=>h1 r (EP.1 h),λr h=>h2 r (EP.1 h),Ca l,Nat.le_trans (ER l) h3⟩
theorem Gh:∀{x y u v:List VV},x.length=y.length->dP (x++u) (y++v)=if dP x y≠0 then dP x y else dP u v
 |[],[],u,v,_=>by simp[dP]
 |a::x,b::y,u,v,h=>by
  simp only[List.length_cons,Nat.add_right_cancel_iff]at h;simp only[List.cons_append,dP];by_cases e:kC a b=0
  .simp only[e,ne_eq,not_true_eq_false,if_false];exact Gh h
  .simp[e]
 |[],_::_,_,_,h=>by simp at h
 |_::_,[],_,_,h=>by simp at h
theorem zK{on:List (Int×Int)}{b:List (List VV)}{x z:List VV}(h:z∈iX on b x):∃y∈b,z=x++y:=by
 unfold iX at h;split at h
 .obtain⟨y,hy,rfl⟩:=List.mem_map.1 h;exact⟨y,(List.mem_filter.1 hy).1,rfl⟩
 .simp at h
theorem gX.join{w w':Nat}{a b:List (List VV)}{on:List (Int×Int)}(ha:gX w a)(hb:gX w' b)(hw:w+w'<=12)(hl:a.length*b.length<=1000000):gX (w+w') (a.flatMap (iX on b)):=by
 refine⟨λr h=>?_,λr h=>?_,?_,Nat.le_trans (vH λx _=>zL) hl⟩
 .obtain⟨x,hx,h⟩:=List.mem_flatMap.1 h;obtain⟨y,hy,rfl⟩:=zK h;have h1:=ha.wid x hx;have h2:=hb.wid y hy;refine⟨by rw[List.length_append];omega,λv hv=>?_⟩;rcases List.mem_append.1 hv with hv|hv
  .exact(ha.row x hx).val v hv
  .exact(hb.row y hy).val v hv
 .obtain⟨x,hx,h⟩:=List.mem_flatMap.1 h;obtain⟨y,hy,rfl⟩:=zK h;rw[List.length_append,ha.wid x hx,hb.wid y hy]
 .refine List.pairwise_flatMap.2 ⟨λx hx=>?_,?_⟩
  .unfold iX;split
   .refine List.pairwise_map.2 ((hb.srt.filter _).imp fun{y z} h=>?_);rw[Gh rfl,if_neg (by rw[lC.2 rfl];simp)];exact h
   .exact List.Pairwise.nil
  .refine ha.srt.imp_of_mem fun{x y} hx hy h z hz u hu=>?_;obtain⟨z',_,rfl⟩:=zK hz;obtain⟨u',_,rfl⟩:=zK hu;rw[Gh (by rw[ha.wid x hx,ha.wid y hy]),if_pos aC];exact h
theorem JY{c:Int}(h:Cx a c=true):0<=c/\c<a.length:=by
 simp only[Cx,Bool.and_eq_true,decide_eq_true_eq]at h;exact h
theorem CE{α:Type}{T:List α->α->Prop}{l:List α}(h:Good T l){x:α}(hx:x∈l):∃pre,T pre x:=by
 obtain⟨i,hi,e⟩:=List.mem_iff_getElem.1 hx;exact⟨_,h i x (by rw[<-e];exact List.getElem?_eq_getElem hi)⟩
theorem E4:∀(n:Nat)(l:List Int),l.Nodup->(∀x∈l,0<=x/\x<n)->l.length<=n
 |0,[],_,_=>by simp
 |0,x::l,_,h=>by have:=h x (List.mem_cons_self ..);omega
 |n+1,l,hd,h=>by
  by_cases hn:(n:Int)∈l
  .have h1:=E4 n (l.erase n) (hd.erase _) (λx hx=>by
    have h2:=(hd.mem_erase_iff).1 hx;have:=h x h2.2;omega)
   rw[List.length_erase_of_mem hn]at h1;omega
  .have:=E4 n l hd (λx hx=>by
    have:=h x hx;have h3:x≠(n:Int):=λe=>hn (e▸hx);omega)
   omega
theorem J1{α:Type}{T:List α->α->Prop}{l:List α}(f:α->Int)(hT:∀pre x,T pre x->f x∉pre.map f)(h:Good T l):(l.map f).Nodup:=by
 rw[List.nodup_iff_pairwise_ne,List.pairwise_map,List.pairwise_iff_getElem];intro i j hi hj hij e;refine hT _ _ (h j l[j] (List.getElem?_eq_getElem hj)) (List.mem_map.2 ⟨l[i],?_,e⟩);rw[List.mem_take_iff_getElem];exact⟨i,aC,rfl⟩
theorem J0(h:Good (Hx a) gr)(hl:a.length<=12):gJ a.length gr:=by
 have h1:∀c∈gr,0<=c/\c<a.length:=λc hc=>by obtain⟨_,h2⟩:=CE h hc;exact JY h2.1
 have h2:=J1 id (λpre x(h:Hx a pre x)=>by simpa using h.2) h;rw[List.map_id]at h2;exact⟨h1,by have:=E4 _ _ h2 h1;omega⟩
theorem Lj{b:List Int}{on:List (Int×Int)}(h:Good (tG a b) on)(ha:a.length<=12)(hb:b.length<=12):gJ a.length (iI on)/\gJ b.length (eF on):=by
 have h1:∀c∈iI on,0<=c/\c<a.length:=λc hc=>by
  obtain⟨p,hp,rfl⟩:=List.mem_map.1 hc;obtain⟨_,h2⟩:=CE h hp;exact JY h2.1
 have h2:∀c∈eF on,0<=c/\c<b.length:=λc hc=>by
  obtain⟨p,hp,rfl⟩:=List.mem_map.1 hc;obtain⟨_,h2⟩:=CE h hp;exact JY h2.2.1
 have h3:(iI on).Nodup:=J1 Prod.fst (λpre x(h:tG a b pre x) hm=>by
  obtain⟨y,hy,e⟩:=List.mem_map.1 hm;exact(h.2.2.2 y hy).1 e) h
 have h4:=E4 _ _ h3 h1;exact⟨⟨h1,aC⟩,⟨h2,by simp only[iI,eF,List.length_map]at h4⊢;omega⟩⟩
theorem OM{w:Nat}{r:List VV}(hr:N9 r)(hw:r.length=w)(hc:gJ w co)(hl:co.length<=12):N9 (pick r co)/\(pick r co).length=co.length:=
 ⟨⟨by simpa[pick]using hl,EZ hr (by rw[hw];exact hc)⟩,by simp[pick]⟩
theorem EL{c:Nat}{p:Query}:yO c [q,p]=mU c q+mU c p:=by simp[yO]
theorem MZ{c:Nat}:yO c [q]=mU c q:=by simp[yO]
theorem VA{c:Nat}{p:Query}:tP c [q,p]=mU c q*mU c p:=by simp[tP]
theorem Xp{c:Nat}{op:Int}{on:List (Int×Int)}{args:List Query}{ks:List Int}{kss:List (List Int)}{L:List (List (List VV))}(n1:op≠1)
 (h2:(kss.length:Int)=arity op)(h12:∀k∈kss,k.length<=12)(h3:iC s ps (.mk op ta w co on gr od li args) (kss.getD 0 []) (kss.getD 1 [])=(ks,0))(hA:MO c args kss L)(hb:mU c (.mk op ta w co on gr od li args)<=1000000):
 Ze op (.mk op ta w co on gr od li args) L/\gX ks.length (Zd op (.mk op ta w co on gr od li args) L)/\(Zd op (.mk op ta w co on gr od li args) L).length<=mU c (.mk op ta w co on gr od li args):=by
 rw[mU,if_neg n1]at hb⊢
 unfold iC at h3;dsimp only at h3;split at h3
 .simp[iY]at h3
 have one:arity op=1->∃q k l,args=[q]/\kss=[k]/\L=[l]/\gX k.length l/\l.length<=mU c q/\k.length<=12:=λe=>by
  obtain⟨l1,l2⟩:=hA.len;obtain⟨k,rfl⟩:=List.length_eq_one_iff.1 (show kss.length=1 by omega);obtain⟨q,rfl⟩:=List.length_eq_one_iff.1 (show args.length=1 by simpa using l1);obtain⟨l,rfl⟩:=List.length_eq_one_iff.1 (show L.length=1 by simpa using l2);exact⟨q,k,l,rfl,rfl,rfl,hA.1,hA.2.1,h12 k (by simp)⟩
 have two:arity op=2->∃q p k k' l l',args=[q,p]/\kss=[k,k']/\L=[l,l']/\gX k.length l/\l.length<=mU c q/\gX k'.length l'/\l'.length<=mU c p/\k.length<=12/\k'.length<=12:=λe=>by
  obtain⟨l1,l2⟩:=hA.len;obtain⟨k,k',rfl⟩:=Nt (show kss.length=2 by omega);obtain⟨q,p,rfl⟩:=Nt (show args.length=2 by simpa using l1);obtain⟨l,l',rfl⟩:=Nt (show L.length=2 by simpa using l2);exact⟨q,p,k,k',l,l',rfl,rfl,rfl,hA.1,hA.2.1,hA.2.2.1,hA.2.2.2.1,h12 k (by simp),h12 k' (by simp)⟩
 have ar:op=2\/op=3\/op=9\/op=4\/op=5\/op=6\/op=7\/op=8\/op=10:=by
  have:0<=arity op:=by omega
  unfold arity at this;split at this
  .rename_i e;simp at e;exact absurd e n1
  .split at this
   .rename_i e;simp at e;omega
   .split at this
    .rename_i e;simp at e;omega
    .omega
 rcases ar with rfl|rfl|rfl|rfl|rfl|rfl|rfl|rfl|rfl
 .obtain⟨q,k,l,rfl,rfl,rfl,hr,hl,hk⟩:=one rfl;simp only[show((2:Int)=4)=False by decide,if_false,if_true]at h3 hb⊢
  split at h3
  .obtain⟨rfl,_⟩:=kH h3;refine⟨⟨by simp,λx hx=>by simp at hx;subst hx;exact⟨_,hr⟩⟩,hr.filter _,Nat.le_trans (List.length_filter_le _ _) ?_⟩;rw[MZ];exact hl
  .rename_i e;simp only[iY,Prod.mk.injEq]at h3;exact absurd h3.2 e
 .obtain⟨q,k,l,rfl,rfl,rfl,hr,hl,hk⟩:=one rfl;simp only[show((3:Int)=4)=False by decide,show((3:Int)=2)=False by decide,if_false,if_true]at h3 hb⊢
  split at h3
  .rename_i hg;obtain⟨rfl,h12'⟩:=kH h3;rw[List.length_map]at h12'⊢
   have hc:gJ k.length co:=⟨λc hc=>by obtain⟨_,h2⟩:=CE hg.2 hc;exact JY h2,aC⟩
   rw[MZ]at hb⊢
   refine⟨⟨by simp,h12',_,hr,hc⟩,gX.set (λr h=>?_) (λr h=>?_) (by show(l.map _).length<=_;rw[List.length_map];exact hr.len),Nat.le_trans (ER _) (by show(l.map _).length<=_;rw[List.length_map];exact hl)⟩
   .obtain⟨x,hx,rfl⟩:=List.mem_map.1 h;exact(OM (hr.row x hx) (hr.wid x hx) hc h12').1
   .obtain⟨x,hx,rfl⟩:=List.mem_map.1 h;exact(OM (hr.row x hx) (hr.wid x hx) hc h12').2
  .simp[iY]at h3
 .obtain⟨q,k,l,rfl,rfl,rfl,hr,hl,hk⟩:=one rfl;simp only[show((9:Int)=4)=False by decide,show((9:Int)=2)=False by decide,show((9:Int)=3)=False by decide,show((9:Int)=5)=False by decide,if_false,if_true]at h3 hb⊢
  split at h3
  .rename_i hg;obtain⟨rfl,h12'⟩:=kH h3;rw[MZ]at hb⊢
   exact⟨⟨by simp,⟨_,hr,J0 hg.group_ hk⟩,hg.low⟩,hr.filter _,Nat.le_trans (List.length_filter_le _ _) hl⟩
  .simp[iY]at h3
 .obtain⟨q,p,k,k',l,l',rfl,rfl,rfl,hr,hl,hr',hl',hk,hk'⟩:=two rfl;simp only[show((4:Int)=2)=False by decide,show((4:Int)=3)=False by decide,if_false,if_true]at h3 hb⊢
  split at h3
  .rename_i hg;obtain⟨rfl,h12'⟩:=kH h3;rw[VA]at hb⊢
   have hc:=Lj hg hk hk';have hm:l.length*l'.length<=mU c q*mU c p:=Nat.mul_le_mul hl hl';rw[List.length_append]at h12'⊢
   exact⟨⟨⟨by simp,_,_,hr,hr',hc.1,hc.2⟩,Nat.le_trans hm hb⟩,hr.join hr' h12' (Nat.le_trans hm hb),Nat.le_trans (vH λx _=>zL) hm⟩
  .simp[iY]at h3
 .obtain⟨q,p,k,k',l,l',rfl,rfl,rfl,hr,hl,hr',hl',hk,hk'⟩:=two rfl;simp only[show((5:Int)=2)=False by decide,show((5:Int)=3)=False by decide,show((5:Int)=4)=False by decide,if_false,if_true]at h3 hb⊢
  split at h3
  .rename_i hg;obtain⟨rfl,h12'⟩:=kH h3;rw[EL]at hb⊢
   have hc:=Lj hg hk hk';exact⟨⟨by simp,_,_,hr,hr',hc.1,hc.2⟩,hr.filter _,Nat.le_trans (List.length_filter_le _ _) (by show l.length<=_;omega)⟩
  .simp[iY]at h3
 all_goals
  obtain⟨q,p,k,k',l,l',rfl,rfl,rfl,hr,hl,hr',hl',hk,hk'⟩:=two rfl
 .simp only[show((6:Int)=2)=False by decide,show((6:Int)=3)=False by decide,show((6:Int)=4)=False by decide,show((6:Int)=5)=False by decide,show((6:Int)=9)=False by decide,show((6:Int)=10)=False by decide,if_false,if_true]at h3 hb⊢
  split at h3
  .rename_i hg;have hg:k=k':=hg;subst hg;obtain⟨rfl,h12'⟩:=kH h3;rw[EL]at hb⊢
   have hll:(l++l').length<=mU c q+mU c p:=by rw[List.length_append];omega
   refine⟨⟨by simp,λx hx=>by simp at hx;rcases hx with rfl|rfl;exact⟨_,hr⟩;exact⟨_,hr'⟩⟩,gX.set (λr h=>?_) (λr h=>?_) (Nat.le_trans hll hb),Nat.le_trans (ER _) hll⟩
   .rcases List.mem_append.1 h with h|h
    .exact hr.row r h
    .exact hr'.row r h
   .rcases List.mem_append.1 h with h|h
    .exact hr.wid r h
    .exact hr'.wid r h
  .simp[iY]at h3
 .simp only[show((7:Int)=2)=False by decide,show((7:Int)=3)=False by decide,show((7:Int)=4)=False by decide,show((7:Int)=5)=False by decide,show((7:Int)=9)=False by decide,show((7:Int)=10)=False by decide,if_false,if_true]at h3 hb⊢
  split at h3
  .rename_i hg;have hg:k=k':=hg;subst hg;obtain⟨rfl,h12'⟩:=kH h3;rw[EL]at hb⊢
   exact⟨⟨by simp,_,λx hx=>by simp at hx;rcases hx with rfl|rfl;exact hr;exact hr'⟩,hr.filter _,Nat.le_trans (List.length_filter_le _ _) (by show l.length<=_;omega)⟩
  .simp[iY]at h3
 .simp only[show((8:Int)=2)=False by decide,show((8:Int)=3)=False by decide,show((8:Int)=4)=False by decide,show((8:Int)=5)=False by decide,show((8:Int)=9)=False by decide,show((8:Int)=10)=False by decide,if_false,if_true]at h3 hb⊢
  split at h3
  .rename_i hg;have hg:k=k':=hg;subst hg;obtain⟨rfl,h12'⟩:=kH h3;rw[EL]at hb⊢
   exact⟨⟨by simp,_,λx hx=>by simp at hx;rcases hx with rfl|rfl;exact hr;exact hr'⟩,hr.filter _,Nat.le_trans (List.length_filter_le _ _) (by show l.length<=_;omega)⟩
  .simp[iY]at h3
 .simp only[show((10:Int)=2)=False by decide,show((10:Int)=3)=False by decide,show((10:Int)=4)=False by decide,show((10:Int)=5)=False by decide,show((10:Int)=9)=False by decide,if_false,if_true]at h3 hb⊢
  split at h3
  .rename_i hg;obtain⟨hg,hg2⟩:=hg;have hg:k=k':=hg;subst hg;obtain⟨rfl,h12'⟩:=kH h3;rw[EL]at hb⊢
   exact⟨⟨by simp,_,hr,hr',J0 hg2.group_ hk⟩,hr.filter _,Nat.le_trans (List.length_filter_le _ _) (by show l.length<=_;omega)⟩
  .simp[iY]at h3
theorem Qj{s:oS}{ps:List Int}{c:Nat}(hc:1<=c):∀{qs:List Query}{kss:List (List Int)},eX s ps qs=(kss,0)->∀q∈qs,mU c q<=yO c qs/\mU c q<=tP c qs
 |[],_,_,q,hq=>by simp at hq
 |p::qs,kss,h,q,hq=>by
  obtain⟨k,kss',h1,h2,h3⟩:=j6 h;have h4:=Qk hc h1;have h5:=(Sr hc h2).1;rw[yO,tP];rcases List.mem_cons.1 hq with rfl|hq
  .exact⟨aC,Nat.le_mul_of_pos_right _ h5⟩
  .have:=Qj hc h2 q hq;exact⟨aC,Nat.le_trans this.2 (Nat.le_mul_of_pos_left _ h4)⟩
theorem JW{s:oS}{ps:List Int}:∀{qs:List Query}{kss:List (List Int)},eX s ps qs=(kss,0)->∀k∈kss,k.length<=12
 |[],kss,h,k,hk=>by rw[eX]at h;simp only[Prod.mk.injEq,and_true]at h;subst h;simp at hk
 |q::qs,kss,h,k,hk=>by
  obtain⟨k',kss',h1,h2,rfl⟩:=j6 h;rcases List.mem_cons.1 hk with rfl|hk
  .have:=BB s ps q;rw[h1]at this;exact this
  .exact JW h2 k hk
structure ZW(c:Nat)(ls:List (List (List VV)))(q:Query)(k:Nat)(ks:List Int):Prop where
 ok:T9 ls q k
 rel:gX ks.length (jI ls q k).1
 bnd:(jI ls q k).1.length<=mU c q
 nxt:(jI ls q k).2=k+(jJ q).length
mutual
theorem P8{s:oS}{ps:List Int}{c:Nat}{ls:List (List (List VV))}(hc:1<=c):∀{q:Query}{ks:List Int}{k:Nat},bY s ps q=(ks,0)->CS s c ls k (jJ q)->mU c q<=1000000->ZW c ls q k ks
 |.mk op ta w co on gr od li args,ks,k,h,hl,hb=>by
  obtain⟨kss,h1,h2,h3⟩:=yC h;by_cases e:op=1
  .subst e
   have h0:args=[]:=by
    cases args with
    |nil=>rfl
    |cons q qs=>obtain⟨_,_,_,_,rfl⟩:=j6 h1;simp[arity]at h2;omega
   subst h0;have hs:jJ (.mk 1 ta w co on gr od li [])=[ta]:=by simp[jJ,gY]
   unfold iC at h3;dsimp only at h3;split at h3
   .simp[iY]at h3
   try rw[if_pos rfl]at h3
   split at h3
   .obtain⟨rfl,_⟩:=kH h3;rw[hs]at hl;obtain⟨l,e1,e2,e3⟩:=hl.at_ 0 ta rfl;rw[Nat.add_zero]at e1;have e4:(jI ls (.mk 1 ta w co on gr od li []) k)=(l,k+1):=by rw[jI,if_pos rfl,List.getD_eq_getElem?_getD,e1];rfl
    refine⟨by rw[T9,if_pos rfl];exact(List.getElem?_eq_some_iff.1 e1).1,by rw[e4];exact e2,by rw[e4,mU,if_pos rfl];exact e3,by rw[e4,hs];rfl⟩
   .simp[iY]at h3
  .have hs:jJ (.mk op ta w co on gr od li args)=gY args:=by simp[jJ,e]
   rw[hs]at hl
   have hb2:∀q∈args,mU c q<=1000000:=λq hq=>by
    have h5:=Qj hc h1 q hq;rw[mU,if_neg e]at hb;split at hb<;>omega
   obtain⟨o1,o2,o3⟩:=Mt hc h1 hl hb2;obtain⟨n1,n2,n3⟩:=Xp e h2 (JW h1) h3 o2 hb;have e4:jI ls (.mk op ta w co on gr od li args) k=(Zd op (.mk op ta w co on gr od li args) (eG ls args k).1,(eG ls args k).2):=by rw[jI,if_neg e]
   exact⟨by rw[T9,if_neg e];exact⟨n1,o1⟩,by rw[e4];exact n2,by rw[e4];exact n3,by rw[e4,hs];exact o3⟩
theorem Mt{s:oS}{ps:List Int}{c:Nat}{ls:List (List (List VV))}(hc:1<=c):∀{qs:List Query}{kss:List (List Int)}{k:Nat},eX s ps qs=(kss,0)->CS s c ls k (gY qs)->(∀q∈qs,mU c q<=1000000)->OQ ls qs k/\MO c qs kss (eG ls qs k).1/\(eG ls qs k).2=k+(gY qs).length
 |[],kss,k,h,_,_=>by
  rw[eX]at h;simp only[Prod.mk.injEq,and_true]at h;subst h;simp[OQ,eG,MO,gY]
 |q::qs,kss,k,h,hl,hb=>by
  obtain⟨k1,kss',h1,h2,rfl⟩:=j6 h;rw[gY]at hl;have e1:=P8 hc h1 hl.left (hb q (List.mem_cons_self ..));have e2:=Mt hc h2 hl.right (λp hp=>hb p (List.mem_cons_of_mem _ hp));rw[<-e1.nxt]at e2;rw[OQ,eG,gY];refine⟨⟨e1.ok,e2.1⟩,⟨e1.rel,e1.bnd,e2.2.1⟩,?_⟩;rw[e2.2.2,e1.nxt,List.length_append];omega
end
structure v7(m:MH)(tb:Nat)(ws:List bU):Prop where
 ex:∃cur:Array Value,m tb=some (.cells cur 86 (0,0))/\cur.toList.take (ws.length*5)=(ws.map bU.enc).flatten
def TK:Vc.Spec:=λcvs m h K=>∃ver tb n cap ws w cols,∃t:Nat,cvs=[aS ⟨ver,⟨some ⟨tb,0,none⟩,n,cap⟩⟩,cI t]/\t<n/\v7 m tb ws/\ws[t]? =some w/\B5 h w.columns cols/\cols.length<=8/\
 ∀sl h',PH.le h h'->Ints h' sl (cols.map mT.kind)->K (cS sl) m h'
noncomputable def X2(cb:Nat):Ctx:=
 vK [(15,Gn),(16,KN),(76,TQ),(44,TK),(30,yI)] [] [(5,{A:=Int×Int×MH×PH,st:=λ⟨n,id,m,h⟩=>cE 86 87 [(0,pv cb),(2,.at (.ptr 2 0)),(3,iv n),(4,iv id)] [(2,.cells 43 [.val (.int .i64 0),.val (.slice none 0 0)])] m h}),
  (9,{A:=Int×aW×MH×PH,st:=λ⟨n,s,m,h⟩=>cE 86 87 [(0,pv cb),(2,.at (.ptr 2 0)),(3,iv n),(5,.at (.ptr 5 0))] [(2,.cells 43 [.val (.int .i64 0),.val (.slice none 0 0)]),(5,.cells 43 (s.enc.map .val))] m h}),
  (11,{A:=Int×aW×MH×PH,st:=λ⟨n,s,m,h⟩=>cE 86 87 [(0,pv cb),(2,.at (.ptr 2 0)),(3,iv n),(5,.at (.ptr 5 0))] [(2,.cells 43 [.val (.int .i64 0),.val (.slice none 0 0)]),(5,.cells 43 (s.enc.map .val))] m h}),
  (13,{A:=aW×MH×PH,st:=λ⟨s,m,h⟩=>cE 86 87 [(0,pv cb),(2,.at (.ptr 2 0)),(5,.at (.ptr 5 0))] [(2,.cells 43 [.val (.int .i64 0),.val (.slice none 0 0)]),(5,.cells 43 (s.enc.map .val))] m h}),
  (15,{A:=aW×MH×PH,st:=λ⟨s,m,h⟩=>cE 86 87 [(2,.at (.ptr 2 0)),(5,.at (.ptr 5 0))] [(2,.cells 43 [.val (.int .i64 0),.val (.slice none 0 0)]),(5,.cells 43 (s.enc.map .val))] m h})] [] [41] [] false
def kZ(id:Int):List vL:=
 [⟨⟨⟨[112,114,111,106,101,99,116,115]⟩⟩,[⟨⟨⟨[105,100]⟩⟩,4⟩,⟨⟨⟨[111,119,110,101,114]⟩⟩,4⟩],1,[],[]⟩,
  ⟨⟨⟨[116,97,115,107,115]⟩⟩,[⟨⟨⟨[105,100]⟩⟩,id⟩,⟨⟨⟨[112,114,111,106,101,99,116]⟩⟩,4⟩,⟨⟨⟨[116,105,116,108,101]⟩⟩,5⟩,⟨⟨⟨[100,111,110,101]⟩⟩,3⟩],1,[],[]⟩,
  ⟨⟨⟨[109,101,109,98,101,114,115]⟩⟩,[⟨⟨⟨[112,114,111,106,101,99,116]⟩⟩,4⟩,⟨⟨⟨[112,101,114,115,111,110]⟩⟩,4⟩],2,[],[]⟩,
  ⟨⟨⟨[97,114,99,104,105,118,101,100]⟩⟩,[⟨⟨⟨[116,97,115,107]⟩⟩,id⟩],1,[],[]⟩]
structure Je(h:PH)(t:vL)(w:bU):Prop where
 name_:w.name=t.name
 key_:w.key=t.key
 cols_:B5 h w.columns t.columns
def Su(h:PH)(id:Int)(ws:List bU):Prop:=ws.length=4/\∀(i:Nat) t,(kZ id)[i]? =some t->∃w,ws[i]? =some w/\Je h t w
structure zW(m0:MH)(h0:PH)(cb:Nat)(tb n:Nat)(id:Int)(ws:List bU)(s:aW)(m:MH)(h:PH):Prop where
 le_:PH.le h0 h
 ver0:0<=s.version
 ver1:s.version<=2
 case_:aL m h cb
 n2:2<=n
 n4:n<=4
 sl_:∃cap,s.tables=⟨some ⟨tb,0,none⟩,n,cap⟩/\n<=cap
 id_:id=4\/id=5
 new_:m0 tb=none
 ne_:tb≠cb
 row_:v7 m tb ws
 ws_:Su h id ws
 other_:∀b,b≠cb->b≠tb->m b=m0 b
def TA:Vc.Spec:=λcvs m h K=>∃cb,cvs=[cP cb]/\aL m h cb/\∀tb n id ws s m' h',zW m h cb tb n id ws s m' h'->K (aS s) m' h'
noncomputable def Yo:Ctx:=
 vK [(39,TA)] [(3,{A:=Nat×aW×MH×PH,st:=λ⟨i,s,m,h⟩=>cE 25 26 [(2,.at (.ptr 2 0)),(3,.at (.ptr 3 0)),(9,iv s.tables.len),(10,iv i)] [(2,.cells 43 [.val (.int .i64 0),.val (.slice none 0 0)]),(3,.cells 43 (s.enc.map .val))] m h})] [] [] [41] [] false
def GZ(v:aW)(t:Int)(m:MH)(h:PH)(K:CV->MH->PH->Prop):Prop:=
  bC t 0 (K mW m h) (fR t (gP v) (K mW m h) (IF v 0 t m h (λb=>b) (λo=>o) 5 (λy=>y) (λy I x=>aA (I x) (eL 32) (aA (bK y (kV x)) (bL y (kV x)) (aA (bD x.1) (sI (rA x)) (aA (m=m) (h=h) True)))) (λI m1 x=>IE (I x) x 0 (λb o y=>aM m h b (bM o x.1 2) (gM (Ab y) (dK y.kind))) (λy x1=>aA (I x1) (m1 x1<m1 x) (aA (eL 32) (bK (kV x) (kV x1)) (aA (bL (kV x) (kV x1)) (fM (bE x.1 1)=bX x1.1) (aA (sJ (rA x) y.kind (rA x1)) (m=m) (cQ h h))))) (Fj h (rA x) K m))))
theorem XX(v:aW)(t:Int)(m:MH)(h:PH)(K:CV->MH->PH->Prop):GZ v t m h K=(Aw (NC m h) Tryz.f44 (dJ Tryz.f44) (entry Tryz.f44.ntmps [aS v,cI t] m h) K):=by kernel_rfl
abbrev nG(a:Int):Prop:=eQ (oQ 43 (wB a Qx))
abbrev wS(a:ByteArray)(b:Int)(c:ByteArray)(d:Int->Int)(e:Int->ByteArray->Prop):Prop:=∃(x:Int),aY (jB a) b=aY (jB c) (d x)/\∃(x1:ByteArray),e x x1
noncomputable abbrev IJ:ByteArray:=ByteArray.mk (Array.mk (dH 105 (dH 100 [])))
noncomputable abbrev IK(a:Nat):ByteArray:=ByteArray.mk (Array.mk (dH 112 (dH 114 (dH 111 (dH 106 (dH 101 (dH a (rG 116))))))))
noncomputable abbrev vT(a:ByteArray)(b:Int):List Value:=gM (Value.string a) (dK b)
noncomputable abbrev Dp(a b c d:Nat)(e:List UInt8)(g:Sl)(i:Int):List Value:=aI (Value.string (ByteArray.mk (Array.mk (dH a (dH b (dH c (dH d e))))))) (dO g) (aI (dK i) vO iN)
noncomputable abbrev sE(a:Int×aW×MH×PH):aW:=a.2.1
noncomputable abbrev iS(a:Int×aW×MH×PH):MH×PH:=a.2.2
abbrev jO(a b:aW):Prop:=oQ 43 (Lm a)=oQ 43 (Lm b)
noncomputable abbrev nY(a b:Nat)(c:CV)(d:Int):List CV:=BK a b::c::aY mW d
attribute [push_cast] nG wS IJ IK vT Dp sE iS jO nY
def PJ(cb:Nat)(m:MH)(h:PH)(K:CV->MH->PH->Prop):Prop:=
  iZ cb 3 m h (λk m1=>∃(I:Int×Int×MH×PH->Prop),j5 cb 5 m1 h (λc r=>∀(m2:MH),bO (bA m1 m2 c) (aL m2 h c) (branch r (∃(x:Int×Int×MH×PH),aA (I x) (cX cb) (aA (eP 2) (cG (dV (2+k)) x.1) (aA (cG 5 x.2.1) (nG 0) (aA (cK m2 x.2.2) (bR h x.2.2) True)))) (∃(x:Int×Int×MH×PH),aA (I x) (cX cb) (aA (eP 2) (cG (dV (2+k)) x.1) (aA (cG 4 x.2.1) (nG 0) (aA (cK m2 x.2.2) (bR h x.2.2) True))))))/\∀(x:Int×Int×MH×PH),I x->iZ cb 3 x.2.2.1 x.2.2.2 (λk1 m2=>∃(n:ByteArray),wS IJ 4 n (λk2=>k2) (λk2 n1=>wS (ByteArray.mk (Array.mk (dH 111 (dH 119 (dH 110 (dH 101 (rG 114))))))) 4 n1 (λk3=>k3) (λk3 n2=>wS IJ x.2.1 n2 (λk4=>k4) (λk4 n3=>wS (IK 99) 4 n3 (λk5=>k5) (fun
 k5 n4=>wS (ByteArray.mk (Array.mk (dH 116 (dH 105 (dH 116 (dH 108 (rG 101))))))) 5 n4 (λk6=>k6) (λk6 n5=>wS (ByteArray.mk (Array.mk (dH 100 (dH 111 (dH 110 (dH 101 [])))))) 3 n5 (λk7=>k7) (λk7 n6=>wS (IK 99) 4 n6 (λk8=>k8) (λk8 n7=>wS (ByteArray.mk (Array.mk (dH 112 (dH 101 (dH 114 (dH 115 (dH 111 (dH 110 [])))))))) 4 n7 (λk9=>k9) (λk9 n8=>∃(a:Int),aY (jB (ByteArray.mk (Array.mk (dH 116 (dH 97 (dH 115 (dH 107 []))))))) x.2.1=aY (jB n8) a/\cC (λs h1=>bJ x.2.2.2 h1 (a8 h1 s 2 (vT n k2::fO (vT n1 k3))) (cC (λs1 h2=>bJ h1 h2 (a8 h2 s1 2 (vT n2 k4::vT n3 k5::vT n4 k6::fO (vT n5 k7))) (cC (λs2 h3=>bJ h2 h3 (a8 h3 s2 2 (vT n6 k8::fO (vT n7
 k9))) (cC (λs3 h4=>bJ h3 h4 (a8 h4 s3 2 (fO (vT n8 a))) (gQ (λs4 m3=>nR m2 m3 h4 s4 86 5 (Dp 112 114 111 106 (dH 101 (dH 99 (dH 116 (dH 115 [])))) s 1::Dp 116 97 115 107 (rG 115) s1 1::Dp 109 101 109 98 (dH 101 (dH 114 (rG 115))) s2 2::fO (Dp 97 114 99 104 (dH 105 (dH 118 (dH 101 (dH 100 [])))) s3 1))->aA (cD x.1) (x.1<=(↑s4.cap:Int)) (∃(I1:Int×aW×MH×PH->Prop),j5 cb 2 m3 h4 (λc r=>∀(m4:MH),bO (bA m3 m4 c) (aL m4 h4 c) (branch r (cC (λs5 h5=>bJ h4 h5 (a8 h5 s5 1 (fO (bT 1))) (aU (λb o=>aA (aX s4.a b o) ((0:Int)<=1) (1<(↑x.1.toNat:Int)/\cC (λs6 h6=>bJ h5 h6 (a8 h6 s6 2 (fO (gM (dO s5) aK))) (pO m4 b (o+5+3) (aR s6) (λm5=>∃(x1:Int×aW×MH×PH),
 aA (I1 x1) (cX cb) (aA (eP 2) (cG x.1 x1.1) (aA fZ (nG 0) (aA (oQ 43 (wB k1 (At.val (Value.slice s4.a x.1.toNat s4.cap)))=oQ 43 (Lm (sE x1))) (cK m5 (iS x1)) (jN h6 (iS x1))))))))))))) (∃(x1:Int×aW×MH×PH),aA (I1 x1) (cX cb) (aA (eP 2) (cG x.1 x1.1) (aA fZ (nG 0) (aA (oQ 43 (wB k1 (At.val (Value.slice s4.a x.1.toNat s4.cap)))=oQ 43 (Lm (sE x1))) (cK m4 (iS x1)) (jN h4 (iS x1))))))))/\∀(x1:Int×aW×MH×PH),I1 x1->∃(I2:Int×aW×MH×PH->Prop),eB x1.1 2 (j5 cb 3 (iS x1).1 (iS x1).2 (λc r=>∀(m4:MH),bO (bA (iS x1).1 m4 c) (aL m4 (iS x1).2 c) (branch r (cC (λs5 h5=>bJ (iS x1).2 h5 (a8 h5 s5 1 (fO (iP aK))) (C6 (sE x1) 2 (λb o=>cC (λs6 h6=>bJ h5 h6 (a8 h6 s6 2
 (fO (gM (dO s5) aK))) (pO m4 b (o+10+3) (aR s6) (λm5=>∃(x2:Int×aW×MH×PH),aA (I2 x2) (cX cb) (aA (eP 2) (cG x1.1 x2.1) (aA fZ (nG 0) (aA (jO (sE x1) (sE x2)) (cK m5 (iS x2)) (jN h6 (iS x2)))))))))))) (∃(x2:Int×aW×MH×PH),aA (I2 x2) (cX cb) (aA (eP 2) (cG x1.1 x2.1) (aA fZ (nG 0) (aA (jO (sE x1) (sE x2)) (cK m4 (iS x2)) (jN (iS x1).2 (iS x2))))))))) (∃(x2:Int×aW×MH×PH),aA (I2 x2) (cX cb) (aA (eP 2) (cG x1.1 x2.1) (aA fZ (nG 0) (aA (jO (sE x1) (sE x2)) (eA (iS x1) (iS x2)) (jN (iS x1).2 (iS x2))))))/\∀(x2:Int×aW×MH×PH),I2 x2->∃(I3:aW×MH×PH->Prop),eB x2.1 3 (j5 cb 3 (iS x2).1 (iS x2).2 (λc r=>∀(m4:MH),bO
 (bA (iS x2).1 m4 c) (aL m4 (iS x2).2 c) (branch r (cC (λs5 h5=>bJ (iS x2).2 h5 (a8 h5 s5 1 (fO (iP aK))) (C6 (sE x2) 3 (λb o=>cC (λs6 h6=>bJ h5 h6 (a8 h6 s6 2 (fO (gM (dO s5) (dK 1)))) (pO m4 b (o+15+3) (aR s6) (λm5=>∃(x3:aW×MH×PH),aA (I3 x3) (cX cb) (aA (eP 2) (eP 5) (aA (nG 0) (jO (sE x2) x3.1) (aA (cK m5 x3.2) (bR h6 x3.2) True)))))))))) (∃(x3:aW×MH×PH),aA (I3 x3) (cX cb) (aA (eP 2) (eP 5) (aA (nG 0) (jO (sE x2) x3.1) (aA (cK m4 x3.2) (bR (iS x2).2 x3.2) True))))))) (∃(x3:aW×MH×PH),aA (I3 x3) (cX cb) (aA (eP 2) (eP 5) (aA (nG 0) (jO (sE x2) x3.1) (aA (eA (iS x2) x3.2) (bR (iS x2).2 x3.2) True))))/\∀(x3:aW×MH×PH),I3 x3->∃(I4:aW×MH×
 PH->Prop),j5 cb 3 x3.2.1 x3.2.2 (λc r=>∀(m4:MH),bO (bA x3.2.1 m4 c) (aL m4 x3.2.2 c) (branch r (∃(v:Int),aU (λt n9=>∃(c1:Nat)(w:List bU)(w1:bU)(c2:List mT)(t1:Nat),aA (aY (bI x3.1) 1=aY (kN (gM (dK v) (Value.slice (kJ t) n9 c1))) (↑t1:Int)) (t1<n9) (aA (v7 m4 t w) (w[t1]? =Option.some w1) (aA (B5 x3.2.2 w1.columns c2) (c2.length<=8) (cC (λs5 h5=>bJ x3.2.2 h5 (Ints h5 s5 (List.map mT.kind c2)) (∃(c3:Nat),w9 (λs6 t2 c4 p d=>aA (nY cb 0 (cW s5) 1=BK c3 0::cW s6::aY (cW t2) (↑d:Int)) (aL m4 h5 c3) (aA (Ints h5 s6 c4) (Ints h5 t2 p) (aA (fV c4) (fV p) (j2 d/\wZ h5 (λv1 p1 m5 h6=>bO (wA c4 p d p1) (bA m4 m5 c3) (iO m5 h6 c3 (C6 x3.1 1 (λb o=>cC (λs7 h7=>bJ h6 h7 (a8 h7 s7 13
 (fO v1.enc)) (pO m5 b (o+5+4) (aR s7) (λm6=>∃(x4:aW×MH×PH),aA (I4 x4) (eP 2) (aA fZ (nG 0) (aA (jO x3.1 x4.1) (cK m6 x4.2) (bR h7 x4.2/\True))))))))))))))))))))) (∃(x4:aW×MH×PH),aA (I4 x4) (eP 2) (aA fZ (nG 0) (aA (jO x3.1 x4.1) (cK m4 x4.2) (bR x3.2.2 x4.2/\True))))))/\∀(x4:aW×MH×PH),I4 x4->K (bI x4.1) x4.2.1 x4.2.2))))))))))))))))))))
noncomputable abbrev Bv(a:Nat×aW×MH×PH):Sl:=a.2.1.tables
attribute [push_cast] Bv
def Kk(cb:Nat)(m:MH)(h:PH)(K:CV->MH->PH->Prop):Prop:=
  ∃(c:Nat),aA (kA (fI cb)=kA (fI c)) (aL m h c) (∀(t n:Nat)(i:Int)(w:List bU)(s:aW),iA (λm1 h1=>zW m h c t n i w s m1 h1->∃(I:Nat×aW×MH×PH->Prop)(m2:Nat×aW×MH×PH->Nat),(∃(x:Nat×aW×MH×PH),aA (I x) (eP 2) (aA (eP 3) (bL s.tables (Bv x)) (aA (bD x.1) (nG 0) (aA (jO s x.2.1) (cK m1 x.2.2) (jN h1 x.2.2)))))/\∀(x:Nat×aW×MH×PH),I x->bC (↑x.1:Int) (aG (Bv x)) (aU (λb o=>aA (aX (qG x.2.1) b o) (0<=(↑x.1:Int)) ((↑x.1:Int)<aG (Bv x)/\pO x.2.2.1 b (bM o x.1 5+3) iN (λm3=>aU (λb1 o1=>aA (aX (qG x.2.1) b1 o1) (0<=(↑x.1:Int)) ((↑x.1:Int)<aG (Bv x)/\pO m3 b1 (bM o1 x.1 5+4) iN (λm4=>∃(x1:Nat×aW×MH×PH),aA (I x1) (m2 x1<m2 x)
 (aA (eP 2) (eP 3) (aA (bL (Bv x) (Bv x1)) (fM (bE x.1 1)=bX x1.1) (aA (nG 0) (jO x.2.1 x1.2.1) (aA (cK m4 x1.2.2) (bR x.2.2.2 x1.2.2) True))))))))))) (K (bI x.2.1) x.2.2.1 x.2.2.2)))
theorem QB{α:Type}(l:List α)(o:Nat)(x:α)(h:o<l.length):splice l o [x]=l.set o x:=by
 rw[List.set_eq_take_append_cons_drop,if_pos h];simp[splice]
theorem flatten_set:∀(ws:List bU){i k:Nat}{w w':bU}{x:Value},ws[i]? =some w->k<5->w'.enc=w.enc.set k x->((ws.map bU.enc).flatten).set (i*5+k) x=((ws.set i w').map bU.enc).flatten
 |[],i,k,w,w',x,h,_,_=>by simp at h
 |u::ws,0,k,w,w',x,h,hk,e=>by
  simp at h;subst h;simp only[List.map_cons,List.flatten_cons,List.set_cons_zero,Nat.zero_mul,Nat.zero_add,e];rw[List.set_append_left _ _ (by simpa[bU.enc]using hk)]
 |u::ws,i+1,k,w,w',x,h,hk,e=>by
  simp only[List.map_cons,List.flatten_cons,List.set_cons_succ];have hl:u.enc.length=5:=rfl;rw[List.set_append_right _ _ (by rw[hl];omega),hl,show(i+1)*5+k-5=i*5+k by omega,flatten_set ws (by simpa using h) hk e]
theorem VN(ws:List bU):((ws.map bU.enc).flatten).length=ws.length*5:=by
 induction ws with
 |nil=>rfl
 |cons w ws ih=>simp only[List.map_cons,List.flatten_cons,List.length_append,ih,List.length_cons];show 5+_=_;omega
theorem v7.big{tb:Nat}{ws:List bU}{cs:Array Value}{E:TypeId}{fz:Nat×Nat}(h:v7 m tb ws)(hm:m tb=some (.cells cs E fz)):ws.length*5<=cs.size:=by
 obtain⟨cur,h1,h2⟩:=h.ex;rw[h1]at hm;simp only[Option.some.injEq,Obj.cells.injEq]at hm;obtain⟨rfl,_,_⟩:=hm;have:=congrArg List.length h2;rw[VN]at this;simp at this;omega
theorem v7.store{tb:Nat}{ws:List bU}{w w':bU}{x:Value}(h:v7 m tb ws)(hi:ws[i]? =some w)(hk:k<5)(e:w'.enc=w.enc.set k x){cs:Array Value}{E:TypeId}{fz:Nat×Nat}(hm:m tb=some (.cells cs E fz))
 (hu:m' tb=some (.cells (splice cs.toList (i*5+k) [x]).toArray E (0,0))):v7 m' tb (ws.set i w'):=by
 have hb:=h.big hm;have hil:=(List.getElem?_eq_some_iff.1 hi).1;obtain⟨cur,h1,h2⟩:=h.ex;rw[h1]at hm;simp only[Option.some.injEq,Obj.cells.injEq]at hm;obtain⟨rfl,rfl,_⟩:=hm;refine⟨_,hu,?_⟩;rw[QB _ _ _ (by simp;omega),List.length_set,List.toList_toArray,List.take_set,h2];exact flatten_set ws hi hk e
theorem v7.rd{tb:Nat}{ws:List bU}(r:v7 m tb ws){j:Nat}{w:bU}{x:Value}(hi:ws[i]? =some w)(hj:w.enc[j]? =some x):aM m h tb (i*5+j) [x]:=by
 obtain⟨cur,h1,h2⟩:=r.ex;refine .of_m h1 ?_;have h3:=lJ (xs:=ws.map bU.enc) (sz:=5) (λe he=>by obtain⟨x,_,rfl⟩:=List.mem_map.1 he;rfl) (by rw[List.getElem?_map,hi];rfl) j x hj;rw[<-h2,List.getElem?_take]at h3;split at h3
 .rw[drop_cons h3];rfl
 .cases h3
theorem XY{ver:Int}{tb n cap:Nat}{ws:List bU}{w:bU}{cols:List mT}{t:Nat}(ht:t<n)(hr:v7 m tb ws)(hw:ws[t]? =some w)(hc:B5 h w.columns cols)(h8:cols.length<=8)
 (hK:∀sl h',PH.le h h'->Ints h' sl (cols.map mT.kind)->K (cS sl) m h'):GZ ⟨ver,⟨some ⟨tb,0,none⟩,n,cap⟩⟩ t m h K:=by
 dsimp only[GZ,push_cast];have hcl:=bZ.slen hc;refine aE (λh1=>by omega) (λh1=>aE (λh2=>by have h2:(t:Int)>=(n:Int):=h2;omega) (λh2=>?_));refine⟨tb,0,rfl,aC,by show(t:Int)<(n:Int);omega,w.columns,?_,λ⟨i,sl,l⟩=>sl=w.columns/\i<=cols.length/\l=(cols.take i).map mT.kind,λ⟨i,_,_⟩=>cols.length-i,⟨(0,w.columns,[]),⟨rfl,by simp,by simp⟩,MT⟩,?_⟩
 .rw[Nat.zero_add,Int.toNat_natCast];exact hr.rd hw rfl
 rintro⟨i,_,_⟩ ⟨rfl,hi,rfl⟩;dsimp only;refine aE (λhlt=>?_) (λhge sl h' hle hrow=>?_)
 .obtain⟨c,hx⟩:=fG hcl hlt;obtain⟨b,o,e,r⟩:=B5.at hc hx;refine⟨b,o,e,aC,hlt,c,.imm r,?_,?_,(i+1,w.columns,(cols.take (i+1)).map mT.kind),⟨rfl,aC,rfl⟩,by show cols.length-(i+1)<cols.length-i;omega,?_⟩
  .simp;omega
  .simp;omega
  .rw[fL hx,List.map_append];exact MT
 .rw[List.take_of_length_le aC]at hrow;exact hK sl h' hle ⟨hrow,by simp;omega⟩
theorem Q0:Sound Tryz.prog 44 TK:=by
 refine eD (fn:=Tryz.f44) (c:=dJ Tryz.f44) Tryz.func44 rfl (by decide) ?_;rintro cvs m h K ⟨ver,tb,n,cap,ws,w,cols,t,rfl,h1,h2,h3,h4,h5,h6⟩;refine⟨NC m h,rfl,aF,?_⟩;rw[<-XX];exact XY h1 h2 h3 h4 h5 h6
theorem Je.mono{t:vL}{w:bU}(x:Je h t w)(le:PH.le h h'):Je h' t w:=⟨x.name_,x.key_,bZ.mono x.cols_ le λ_ _ e=>e⟩
theorem Su.mono{id:Int}{ws:List bU}(x:Su h id ws)(le:PH.le h h'):Su h' id ws:=⟨x.1,λi t e=>let⟨w,e1,e2⟩:=x.2 i t e;⟨w,e1,e2.mono le⟩⟩
theorem Su.set{id:Int}{ws:List bU}{w w':bU}(x:Su h id ws)(hi:ws[i]? =some w)(e1:w'.name=w.name)(e2:w'.key=w.key)(e3:w'.columns=w.columns):Su h id (ws.set i w'):=by
 refine⟨by rw[List.length_set];exact x.1,λj t e=>?_⟩;obtain⟨u,h1,h2⟩:=x.2 j t e;by_cases hj:i=j
 .subst hj;rw[hi]at h1;cases h1;exact⟨w',by rw[List.getElem?_set_self (List.getElem?_eq_some_iff.1 hi).1],⟨by rw[e1];exact h2.name_,by rw[e2];exact h2.key_,by rw[e3];exact h2.cols_⟩⟩
 .exact⟨u,by rw[List.getElem?_set_ne hj];exact h1,h2⟩
theorem zW.on{m0 m1:MH}{h0 h1:PH}{tb n:Nat}{id:Int}{ws:List bU}{s:aW}(x:zW m0 h0 cb tb n id ws s m h)(le:PH.le h h1)(ho:bA m m1 cb)(hc:aL m1 h1 cb):zW m0 h0 cb tb n id ws s m1 h1:=by
 refine⟨x.le_.trans le,x.ver0,x.ver1,hc,x.n2,x.n4,x.sl_,x.id_,x.new_,x.ne_,?_,x.ws_.mono le,λb n1 n2=>by rw[ho.other b n1];exact x.other_ b n1 n2⟩;obtain⟨cur,e1,e2⟩:=x.row_.ex;exact⟨cur,by rw[ho.other tb x.ne_];exact e1,e2⟩
theorem zW.store{m0:MH}{h0:PH}{tb n:Nat}{id:Int}{ws:List bU}{s:aW}(x:zW m0 h0 cb tb n id ws s m h){o:Nat}{w w':bU}{y:Value}(hi:ws[i]? =some w)(hk:k<5)(ho:o=i*5+k)(e:w'.enc=w.enc.set k y)(e1:w'.name=w.name)(e2:w'.key=w.key)(e3:w'.columns=w.columns){Q:MH->Prop}
 (hQ:∀m2,zW m0 h0 cb tb n id (ws.set i w') s m2 h->Q m2):∃(cs:Array Value)(E:TypeId),vA m tb (.cells cs E (0,0))/\o<cs.size/\∀m2:MH,jS m m2 tb (.cells (splice cs.toList o [y]).toArray E (0,0))->Q m2:=by
 obtain⟨cur,h1,h2⟩:=x.row_.ex;have hil:=(List.getElem?_eq_some_iff.1 hi).1;refine⟨cur,86,⟨h1⟩,by have:=x.row_.big h1;omega,λm2 hu=>hQ m2 ?_⟩;subst ho;refine⟨x.le_,x.ver0,x.ver1,?_,x.n2,x.n4,x.sl_,x.id_,x.new_,x.ne_,x.row_.store hi hk e h1 hu.at_,x.ws_.set hi e1 e2 e3,λb n1 n2=>by rw[hu.other b n2];exact x.other_ b n1 n2⟩;obtain⟨r,q,cs,k,q1,q2⟩:=x.case_;exact⟨r,q,cs,k,by rw[hu.other cb x.ne_.symm];exact q1,q2⟩
theorem Gc{h:PH}{s:Sl}{l:List mT}(r:a8 h s 2 (l.map mT.enc))(hl:l.length<=8):B5 h s l:=⟨⟨l,r,rfl,λi x e=>⟨x,e,rfl⟩⟩,aC⟩
theorem nR.tabs{m m':MH}{h:PH}{s:Sl}{w:bU}{ws:List bU}(x:nR m m' h s 86 5 ((w::ws).map bU.enc)):∃tb cap,s=⟨some ⟨tb,0,none⟩,ws.length+1,cap⟩/\ws.length+1<=cap/\v7 m' tb (w::ws)/\cF m h tb/\∀b,b≠tb->m' b=m b:=by
 rcases x.row.ex with⟨_,e⟩|⟨b,cap,cur,e,hm,h1,_,h3,h4⟩
 .cases e
 .subst e;refine⟨b,cap,by simp,by simpa using h1,⟨cur,hm,by simpa using h4⟩,x.fresh b 0 rfl,λc hc=>x.other c (λi e=>by simp only[Option.some.injEq,Addr.mk.injEq]at e;exact hc e.1.symm)⟩
theorem UG:Sound Tryz.prog 39 TA:=by
 refine iB Tryz.func39 ?_;rintro cvs m h K ⟨cb,rfl,hc,hK⟩;refine⟨X2 cb,rfl,aD GQ (aD xL (aD Uz (aD Q0 (aD DC aF)))),PJ cb m h K,by kernel_rfl,?_⟩;dsimp only[PJ,push_cast];refine⟨cb,3,rfl,hc,λk m1 k0 k1 o1 c1=>?_⟩;have hk2:IntKind.i64.wrap (2+k)=2+k:=dW aC aC;rw[hk2];refine⟨λ⟨n,id,mx,hx⟩=>2<=n/\n<=4/\(id=4\/id=5)/\hx=h/\bA m mx cb/\aL mx h cb,⟨cb,5,rfl,aC,aC,c1,λr m2 o2 c2=>aB (λ_=>⟨(2+k,5,m2,h),⟨by show 2<=2+k;omega,by show 2+k<=4;omega,.inr rfl,rfl,o1.trans o2,c2⟩,MT⟩) (λ_=>⟨(2+k,4,m2,h),⟨by show 2<=2+k;omega,by show 2+k<=4;omega,.inl rfl,rfl,o1.trans o2,c2⟩,MT⟩)⟩,?_⟩;clear o1 c1 m1 hk2 k0 k1 k;rintro⟨n,id,m1,hx⟩ ⟨n2,n4,hid,rfl,o1,c1⟩;dsimp only;refine⟨cb,3,rfl,c1,λk m2 k0 k1 o2 c2=>?_⟩;refine⟨_,_,rfl,_,_,rfl,_,_,rfl,_,_,rfl,_,_,rfl,_,_,rfl,_,_,rfl,_,_,rfl,_,_,rfl,λs1 h1 le1 r1 s2 h2 le2 r2 s3 h3 le3 r3 s4 h4 le4 r4 tl m3 hnew=>?_⟩;obtain⟨tb,cap,rfl,hcap,hrow,hun,hoth⟩:=nR.tabs (w:=⟨_,s1,1,bF,bF⟩) (ws:=[⟨_,s2,1,bF,bF⟩,⟨_,s3,2,bF,bF⟩,⟨_,s4,1,bF,bF⟩]) hnew;simp only[List.length_cons,List.length_nil]at hcap;have hle:PH.le hx h4:=((le1.trans le2).trans le3).trans le4
 have tbcb:tb≠cb:=λe=>by
  obtain⟨r,q,cs,j,q1,_⟩:=c2;have:=hun.m_;rw[e,q1]at this;cases this
 have hm0:m tb=none:=by rw[<-o1.other tb tbcb, <-o2.other tb tbcb];exact hun.m_
 have c3:aL m3 h4 cb:=by
  obtain⟨r,q,cs,j,q1,q2,q3⟩:=c2;exact⟨r,q,cs,j,by rw[hoth cb tbcb.symm];exact q1,q2.mono hle,q3⟩
 have S0:zW m hx cb tb n.toNat id _ ⟨k,⟨some ⟨tb,0,none⟩,n.toNat,cap⟩⟩ m3 h4:=⟨hle,k0,by show k<=2;omega,c3,aC,aC,⟨cap,rfl,aC⟩,hid,hm0,tbcb,hrow,⟨rfl,λi t e=>?_⟩,λb n1 n2=>by rw[hoth b n2,o2.other b n1,o1.other b n1]⟩
 rotate_left
 .match i,e with
  |0,e=>cases e;exact⟨_,rfl,⟨rfl,rfl,Gc (l:=[⟨_,_⟩,⟨_,_⟩]) (r1.mono ((le2.trans le3).trans le4)) (by decide)⟩⟩
  |1,e=>cases e;exact⟨_,rfl,⟨rfl,rfl,Gc (l:=[⟨_,_⟩,⟨_,_⟩,⟨_,_⟩,⟨_,_⟩]) (r2.mono (le3.trans le4)) (by simp)⟩⟩
  |2,e=>cases e;exact⟨_,rfl,⟨rfl,rfl,Gc (l:=[⟨_,_⟩,⟨_,_⟩]) (r3.mono le4) (by decide)⟩⟩
  |3,e=>cases e;exact⟨_,rfl,⟨rfl,rfl,Gc (l:=[⟨_,_⟩]) r4 (by simp)⟩⟩
  |i+4,e=>simp[kZ]at e
 generalize hws:(bU.mk _ s1 1 bF bF::_)=ws0 at S0;clear hws hrow hnew r1 r2 r3 r4;have getw:∀{ws:List bU}{i:Nat},ws.length=4->i<4->∃w,ws[i]? =some w:=λhl hi=>⟨_,List.getElem?_eq_getElem aC⟩
 refine⟨aC,by show n<=(cap:Int);omega,λ⟨n',s,mx,hy⟩=>n'=n/\∃ws,zW m hx cb tb n.toNat id ws s mx hy,⟨cb,2,rfl,aC,aC,c3,λr m4 o4 c4=>aB (λ_ s5 h5 le5 r5=>⟨tb,0,rfl,aC,aC,λs6 h6 le6 r6=>?_⟩) (λ_=>⟨(n,⟨k,⟨some ⟨tb,0,none⟩,n.toNat,cap⟩⟩,m4,h4),⟨rfl,_,S0.on (.refl _) o4 c4⟩,MT⟩)⟩,?_⟩
 .obtain⟨w,hw⟩:=getw (i:=1) S0.ws_.1 aC;exact(S0.on (le5.trans le6) o4 (c4.mono (le5.trans le6))).store (k:=3) (w':={w with references:=s6}) hw aC rfl rfl rfl rfl rfl λm5 x5=>⟨(n,⟨k,⟨some ⟨tb,0,none⟩,n.toNat,cap⟩⟩,m5,h6),⟨rfl,_,x5⟩,MT⟩
 clear S0 c3 hoth hun hm0 hcap hle le1 le2 le3 le4 o1 o2 c1 c2;rintro⟨n',s,m4,h5⟩ ⟨rfl,ws,S0⟩;dsimp only;obtain⟨cap,hsl,_⟩:=S0.sl_;have hsa:s.tables.a=some ⟨tb,0,none⟩:=by rw[hsl]
 have hsn:s.tables.len=n'.toNat:=by rw[hsl]
 refine⟨λ⟨n,s,mx,hy⟩=>n=n'/\∃ws,zW m hx cb tb n.toNat id ws s mx hy,aE (λhn=>⟨cb,3,rfl,aC,aC,S0.case_,λr m5 o5 c5=>aB (λ_ s7 h7 le7 r7=>⟨tb,0,hsa,aC,aC,λs8 h8 le8 r8=>?_⟩) (λ_=>⟨(n',s,m5,h5),⟨rfl,_,S0.on (.refl _) o5 c5⟩,MT⟩)⟩) (λ_=>⟨(n',s,m4,h5),⟨rfl,_,S0⟩,MT⟩),?_⟩
 .obtain⟨w,hw⟩:=getw (i:=2) S0.ws_.1 aC;exact(S0.on (le7.trans le8) o5 (c5.mono (le7.trans le8))).store (k:=3) (w':={w with references:=s8}) hw aC rfl rfl rfl rfl rfl λm5 x5=>⟨(n',s,m5,h8),⟨rfl,_,x5⟩,MT⟩
 clear S0 hsa hsn hsl;rintro⟨n'',s,m4,h5⟩ ⟨rfl,ws,S0⟩;dsimp only;obtain⟨cap,hsl,_⟩:=S0.sl_;have hsa:s.tables.a=some ⟨tb,0,none⟩:=by rw[hsl]
 have hsn:s.tables.len=n''.toNat:=by rw[hsl]
 refine⟨λ⟨s,mx,hy⟩=>∃ws,zW m hx cb tb n''.toNat id ws s mx hy,aE (λhn=>⟨cb,3,rfl,aC,aC,S0.case_,λr m5 o5 c5=>aB (λ_ s7 h7 le7 r7=>⟨tb,0,hsa,aC,aC,λs8 h8 le8 r8=>?_⟩) (λ_=>⟨(s,m5,h5),⟨_,S0.on (.refl _) o5 c5⟩,MT⟩)⟩) (λ_=>⟨(s,m4,h5),⟨_,S0⟩,MT⟩),?_⟩
 .obtain⟨w,hw⟩:=getw (i:=3) S0.ws_.1 aC;exact(S0.on (le7.trans le8) o5 (c5.mono (le7.trans le8))).store (k:=3) (w':={w with references:=s8}) hw aC rfl rfl rfl rfl rfl λm5 x5=>⟨(s,m5,h8),⟨_,x5⟩,MT⟩
 clear S0 hsa hsn hsl;rintro⟨s,m4,h5⟩ ⟨ws,S0⟩;dsimp only;obtain⟨cap,hsl,_⟩:=S0.sl_;have hsa:s.tables.a=some ⟨tb,0,none⟩:=by rw[hsl]
 have hsn:s.tables.len=n''.toNat:=by rw[hsl]
 refine⟨λ⟨s,mx,hy⟩=>∃ws,zW m hx cb tb n''.toNat id ws s mx hy,⟨cb,3,rfl,aC,aC,S0.case_,λr m5 o5 c5=>aB (λ_=>?_) (λ_=>⟨(s,m5,h5),⟨_,S0.on (.refl _) o5 c5⟩,MT⟩)⟩,λ⟨s,m4,h5⟩⟨ws,S0⟩=>hK _ _ _ _ _ _ _ S0⟩;have S1:=S0.on (.refl _) o5 c5;obtain⟨w,hw,hhalf⟩:=S1.ws_.2 1 _ rfl;refine⟨s.version,tb,n''.toNat,cap,ws,w,_,1,by rw[hsl];rfl,aC,S1.row_,hw,hhalf.cols_,by simp,λsl h6 le6 hi6=>?_⟩;refine⟨cb,sl,bF,_,[],1,rfl,c5.mono le6,hi6,⟨a8.nil _ _,by simp⟩,by simp,by simp,aC,λpvv p m6 h7 le7 hp hpw o6 c6=>⟨tb,0,hsa,aC,aC,λs8 h8 le8 r8=>?_⟩⟩;exact(S1.on ((le6.trans le7).trans le8) o6 (c6.mono le8)).store (k:=4) (w':={w with checks:=s8}) hw aC rfl rfl rfl rfl rfl λm5 x5=>⟨(s,m5,h8),⟨_,x5⟩,MT⟩
structure pK(s:oS):Prop where
 ex:∃ver n id,0<=ver/\ver<=2/\2<=n/\n<=4/\(id=4\/id=5)/\s=⟨ver,(kZ id).take n⟩
def W0:Vc.Spec:=λcvs m h K=>∃cb,cvs=[cP cb]/\aL m h cb/\∀s v m' h',pK s->gI h' s v->PH.le h h'->bA m m' cb->aL m' h' cb->K (aS v) m' h'
theorem U0:Sound Tryz.prog 12 W0:=by
 refine Xv Tryz.func12 ?_;rintro cvs m h K ⟨cb,rfl,hc,hK⟩;refine⟨Yo,rfl,aD UG aF,Kk cb m h (cZ h K),by kernel_rfl,?_⟩;show Kk cb m h (cZ h K);dsimp only[Kk,push_cast];refine⟨cb,rfl,hc,λtb n id ws s m1 h1 S1=>?_⟩;refine⟨λ⟨i,s',mx,hx⟩=>s'=s/\hx=h1/\i<=n/\∃ws,zW m h cb tb n id ws s mx h1/\∀j w,j<i->ws[j]? =some w->w.references=bF/\w.checks=bF,λ⟨i,_,_,_⟩=>n-i,⟨(0,s,m1,h1),⟨rfl,rfl,aC,ws,S1,λj w hj=>by omega⟩,MT⟩,?_⟩;clear S1 ws m1;rintro⟨i,s',m1,hx⟩ ⟨rfl,rfl,hi,ws,S1,hnil⟩;dsimp only;obtain⟨cap,hsl,hscap⟩:=S1.sl_;have hsa:s'.tables.a=some ⟨tb,0,none⟩:=by rw[hsl]
 have hsn:s'.tables.len=n:=by rw[hsl]
 have hn4:=S1.n4;refine aE (λhlt=>⟨tb,0,hsa,aC,hlt,?_⟩) (λhge hdis=>?_)
 .obtain⟨w,hw⟩:∃w,ws[i]? =some w:=⟨_,List.getElem?_eq_getElem (by have:=S1.ws_.1;have:=S1.n4;omega)⟩
  refine S1.store (i:=i) (k:=3) (w':={w with references:=bF}) hw aC aC rfl rfl rfl rfl λm2 S2=>⟨tb,0,hsa,aC,hlt,?_⟩
  have hil:=(List.getElem?_eq_some_iff.1 hw).1;have hw2:(ws.set i {w with references:=bF})[i]? =some {w with references:=bF}:=List.getElem?_set_self hil;refine S2.store (i:=i) (k:=4) (w':={w with references:=bF,checks:=bF}) hw2 aC aC rfl rfl rfl rfl λm3 S3=>⟨(i+1,s',m3,hx),⟨rfl,rfl,by show i+1<=n;omega,_,S3,λj u hj hu=>?_⟩,by show n-(i+1)<n-i;omega,MT⟩
  by_cases e:i=j
  .subst e;rw[List.getElem?_set_self (by rw[List.length_set];exact hil)]at hu;cases hu;exact⟨rfl,rfl⟩
  .rw[List.getElem?_set_ne e,List.getElem?_set_ne e]at hu;exact hnil j u aC hu
 .have hdis:=hdis;obtain⟨cur,hcur,htake⟩:=S1.row_.ex;have hg0:∀i,hx tb i=none:=hdis tb _ hcur
  have hle3:PH.le hx (λx i=>if x=tb then cur[i]? else hx x i):=⟨λx i v e=>by
   have:x≠tb:=λe'=>by rw[e',hg0 i]at e;cases e
   simp[this,e]⟩
  refine⟨λb=>if b=tb then none else m1 b,λx i=>if x=tb then cur[i]? else hx x i,λb o e=>?_,S1.le_.trans hle3,λx i v e=>?_,hK ⟨s'.version,(kZ id).take n⟩ s' _ _ ⟨⟨_,_,_,S1.ver0,S1.ver1,S1.n2,S1.n4,S1.id_,rfl⟩⟩ ⟨rfl,?_⟩ (S1.le_.trans hle3) ⟨λb hb=>?_⟩ ?_⟩
  .by_cases e':b=tb
   .simp[e']at e
   .simpa[e']using e
  .by_cases e':x=tb
   .subst e';simp at e;exact .inr ⟨cur,86,(0,0),hcur,e,by simp⟩
   .simp[e']at e;exact .inl e
  .have hws4:=S1.ws_.1;have hn4:=S1.n4;refine⟨⟨ws.take n,⟨by rw[hsn];simp;omega,.inr ⟨tb,0,hsa,λi e hi=>⟨λj v hj=>?_⟩⟩,by rw[hsl];exact hscap⟩,by simp[kZ];omega,λi t e=>?_⟩,by simp[kZ];omega⟩
   .rw[List.map_take,List.getElem?_take]at hi;split at hi
    .have h1:=lJ (xs:=ws.map bU.enc) (sz:=5) (λe he=>by obtain⟨x,_,rfl⟩:=List.mem_map.1 he;rfl) hi j v hj;rw[<-htake,List.getElem?_take]at h1;split at h1
     .simp only[if_true,Nat.zero_add];rw[<-Array.getElem?_toList];exact h1
     .cases h1
    .cases hi
   .rw[List.getElem?_take]at e;split at e
    .rename_i hin;obtain⟨w,e1,e2⟩:=S1.ws_.2 i t e;obtain⟨z1,z2⟩:=hnil i w aC e1;have hh:=e2.mono hle3
     have hnorc:t.refs=[]/\t.checks=[]:=by
      match i,e with
      |0,e=>cases e;exact⟨rfl,rfl⟩
      |1,e=>cases e;exact⟨rfl,rfl⟩
      |2,e=>cases e;exact⟨rfl,rfl⟩
      |3,e=>cases e;exact⟨rfl,rfl⟩
      |i+4,e=>simp[kZ]at e
     refine⟨w,by rw[List.getElem?_take,if_pos hin];exact e1,⟨hh.name_,hh.cols_,hh.key_,by rw[z1,hnorc.1];exact bZ.nil _ _ _ _,by rw[z2,hnorc.2];exact bZ.nil _ _ _ _⟩⟩
    .cases e
  .by_cases e':b=tb
   .subst e';simp[S1.new_]
   .simp[e'];exact S1.other_ b hb e'
  .obtain⟨r,q,cs,k,q1,q2,q3⟩:=S1.case_;exact⟨r,q,cs,k,by simp[S1.ne_.symm];exact q1,q2.mono hle3,q3⟩
def QW(q:Query):Prop:=
 match q with
 |.mk _ _ w _ _ _ _ _ args=>Gm w/\∀a∈args,QW a
 termination_by SizeOf.sizeOf q
theorem QG{op:Int}{on:List (Int×Int)}{args:List Query}:
 QW (.mk op ta w co on gr od li args)↔Gm w/\∀a∈args,QW a:=by rw[QW.eq_def]
def WU(s:oS):Prop:=∀t,DY (gT s t)
structure WT(s:oS)(ps ks:List Int)(q0 q:Query):Prop where
 qw:QW q
 siz:∀d,yK d q0->K6 d q
 kin:WU s->DY ps->DY ks->ks≠[]->ks.length<=12->bY s ps q0=(ks,0)->bY s ps q=(ks,0)
def KQ(K:CV->MH->PH->Prop)(m:MH)(h:PH)(cb:Nat)(R:Query->Prop):Prop:=∀w q m' h',PH.le h h'->dA h' q w->R q->bA m m' cb->aL m' h' cb->K (aQ w) m' h'
def NY:Vc.Spec:=λcvs m h K=>∃cb sc p k v s ps ks q,cvs=[cP cb,aS sc,cS p,cS k,aQ v]/\aL m h cb/\gI h s sc/\oU s/\s.tables.length<=1000/\Ints h p ps/\ps.length<=1000/\Ints h k ks/\ks.length<=1000/\dA h q v/\QW q/\KQ K m h cb (WT s ps ks q)
noncomputable def X4(cb:Nat)(sc:aW)(p k:Sl)(v:QV):Ctx:=
 dM [(15,Gn),(44,vN),(40,WW),(16,KN),(30,yI)] [(3,{A:=Int×Nat×MH×PH,st:=λ⟨f,n,m,h⟩=>cE 112 117 [(0,pv cb),(2,sv p),(3,sv k),(6,.at (.ptr 6 0)),(9,.at (.ptr 9 0)),(10,.at (.ptr 10 0)),(11,iv f),(12,iv n)] [(6,.cells 43 (sc.enc.map .val)),(9,.cells 38 (v.enc.map .val)),(10,.cells 38 (z6.enc.map .val))] m h}),
  (9,{A:=Int×Nat×Int×Sl×List Int×Nat×MH×PH,st:=λ⟨f,n,t,have_,cols,i,m,h⟩=>cE 112 117 [(0,pv cb),(2,sv p),(3,sv k),(6,.at (.ptr 6 0)),(9,.at (.ptr 9 0)),(10,.at (.ptr 10 0)),(11,iv f),(12,iv n),(13,iv t),(14,sv have_),(15,.at (.lst 75)),(45,sv k),(46,iv k.len),(47,iv i)] [(6,.cells 43 (sc.enc.map .val)),(9,.cells 38 (v.enc.map .val)),(10,.cells 38 (z6.enc.map .val)),(75,.lst 3 1 (cols.map eI))] m h}),
  (13,{A:=Int×Nat×Int×Sl×List Int×Nat×Int×Int×Nat×MH×PH,st:=λ⟨f,n,t,have_,cols,i,kind,fr,j,m,h⟩=>cE 112 117 [(0,pv cb),(2,sv p),(3,sv k),(6,.at (.ptr 6 0)),(9,.at (.ptr 9 0)),(10,.at (.ptr 10 0)),(11,iv f),(12,iv n),(13,iv t),(14,sv have_),(15,.at (.lst 75)),(17,iv kind),(18,iv fr),(45,sv k),(46,iv k.len),(47,iv i),(56,iv have_.len),(57,iv j)] [(6,.cells 43 (sc.enc.map .val)),(9,.cells 38 (v.enc.map .val)),(10,.cells 38 (z6.enc.map .val)),(75,.lst 3 1 (cols.map eI))] m h})] [] [] false
abbrev kU:Prop:=eP 10
noncomputable abbrev wV(a:Int×Nat×Int×Sl×List Int×Nat×MH×PH):Sl:=a.2.2.2.1
noncomputable abbrev wT(a:Int×Nat×Int×Sl×List Int×Nat×MH×PH):Nat:=a.2.2.2.2.2.1
noncomputable abbrev wW(a:Int×Nat×Int×Sl×List Int×Nat×MH×PH):List Int:=a.2.2.2.2.1
noncomputable abbrev wU(a:Int×Nat×Int×Sl×List Int×Nat×MH×PH):MH×PH:=a.2.2.2.2.2.2
noncomputable abbrev FG(a:Int×Nat×Int×Sl×List Int×Nat×MH×PH):Nat->Option Obj:=eW a.2.2.2.2.2
noncomputable abbrev oY(a:Int×Nat×Int×Sl×List Int×Nat×MH×PH):Nat->Nat->Option Value:=dN a.2.2.2.2.2
noncomputable abbrev rZ(a:Int×Nat×Int×Sl×List Int×Nat×Int×Int×Nat×MH×PH):Sl:=a.2.2.2.1
noncomputable abbrev FA(a:Int×Nat×Int×Sl×List Int×Nat×Int×Int×Nat×MH×PH):Int:=a.2.2.2.2.2.2.1
noncomputable abbrev Dk(a:Int×Nat×Int×Sl×List Int×Nat×Int×Int×Nat×MH×PH):Nat:=a.2.2.2.2.2.1
noncomputable abbrev Du(a:Int×Nat×Int×Sl×List Int×Nat×Int×Int×Nat×MH×PH):Nat:=a.2.2.2.2.2.2.2.2.1
noncomputable abbrev Bx(a:Int×Nat×Int×Sl×List Int×Nat×Int×Int×Nat×MH×PH):List Int:=a.2.2.2.2.1
noncomputable abbrev yZ(a:Int×Nat×Int×Sl×List Int×Nat×Int×Int×Nat×MH×PH):MH×PH:=a.2.2.2.2.2.2.2.2.2
noncomputable abbrev Fy(a:Int×Nat×Int×Sl×List Int×Nat×Int×Int×Nat×MH×PH):Int:=Int.tmod (dV (a.2.2.2.2.2.2.2.1+(↑(Du a):Int))) (aG (rZ a))
noncomputable abbrev FB(a:Int×Nat×Int×Sl×List Int×Nat×Int×Int×Nat×MH×PH):Nat->Nat->Option Value:=dN a.2.2.2.2.2.2.2.2
abbrev Dl(a:Prop)(b c d:Nat)(e g:Sl)(i:Prop):Prop:=aA a (b<c) (aA (cX d) (aJ e) (aA (aJ g) (eP 6) (aA (eP 9) kU i)))
noncomputable abbrev zE(a:Sl):List Value:=A5 vO (aR a)
noncomputable abbrev FC(a:PV)(b:Sl):List Value:=aI (lU a.left) (fW a.right) (aI (sA a.right) (dK (nM a.right)) (aI (nH a.right) (lU a.right) (aI (dO a.args) vO (zE b))))
attribute [push_cast] kU wV wT wW wU FG oY rZ FA Dk Du Bx yZ Fy FB Dl zE FC
def PN(cb:Nat)(sc:aW)(p k:Sl)(v:QV)(m:MH)(h:PH)(K:CV->MH->PH->Prop):Prop:=
  iZ cb (dV (gP sc+1)) m h (λk1 m1=>∃(I:Int×Nat×MH×PH->Prop)(m2:Int×Nat×MH×PH->Nat),(∃(x:Int×Nat×MH×PH),aA (I x) (cX cb) (aA (aJ p) (aJ k) (aA (eP 6) (eP 9) (aA kU (cG k1 x.1) (aA (bD x.2.1) (bV sc) (aA (fD v) hP (aA (cK m1 x.2.2) (bR h x.2.2) True)))))))/\∀(x:Int×Nat×MH×PH),I x->bC (↑x.2.1:Int) (aG sc.tables) (jZ (gP sc=0)/\Bj (aY (bI sc) (Int.tmod (dV (x.1+(↑x.2.1:Int))) (gP sc))) (dN x.2) (λs h1=>∃(I1:Int×Nat×Int×Sl×List Int×Nat×MH×PH->Prop)(m3:Int×Nat×Int×Sl×List Int×Nat×MH×PH->Nat),(∃(x1:Int×Nat×Int×Sl×List Int×Nat×MH×PH),aA (I1 x1) (cX cb) (aA (aJ p) (aJ k) (aA (eP 6) (eP 9) (aA kU (cG x.1 x1.1) (aA (bP x.2.1 x1.2.1) (cG
 (Int.tmod (dV (x.1+(↑x.2.1:Int))) (gP sc)) x1.2.2.1) (aA (bK s (wV x1)) (eL 75) (aA (aJ k) (bN k) (aA (bD (wT x1)) (bV sc) (aA (fD v) hP (aA (sI (wW x1)) (eA x.2.2 (wU x1)) (jN h1 (wU x1))))))))))))/\∀(x1:Int×Nat×Int×Sl×List Int×Nat×MH×PH),I1 x1->bC (↑(wT x1):Int) (aG k) (aU (λb o=>aA (aX k.a b o) (0<=(↑(wT x1):Int)) ((↑(wT x1):Int)<aG k/\∃(y:Int),aM (FG x1) (oY x1) b (bM o (wT x1) 1) (bT y)/\iZ cb (aG (wV x1)) (FG x1) (oY x1) (λk2 m4=>∃(I2:Int×Nat×Int×Sl×List Int×Nat×Int×Int×Nat×MH×PH->Prop)(m5:Int×Nat×Int×Sl×List Int×Nat×Int×Int×Nat×MH×PH->Nat),(∃(x2:Int×Nat×Int×Sl×List Int×Nat×Int×Int×Nat×MH×PH),aA (I2
 x2) (cX cb) (aA (aJ p) (aJ k) (aA (eP 6) (eP 9) (aA kU (cG x1.1 x2.1) (aA (bP x1.2.1 x2.2.1) (cG x1.2.2.1 x2.2.2.1) (aA (bK (wV x1) (rZ x2)) (eL 75) (aA (cG y (FA x2)) (cG k2 x2.2.2.2.2.2.2.2.1) (aA (aJ k) (bN k) (aA (bP (wT x1) (Dk x2)) (bL (wV x1) (rZ x2)) (aA (bD (Du x2)) (bV sc) (aA (fD v) hP (aA (C5 (wW x1) (Bx x2)) (cK m4 (yZ x2)) (jN (oY x1) (yZ x2))))))))))))))/\∀(x2:Int×Nat×Int×Sl×List Int×Nat×Int×Int×Nat×MH×PH),I2 x2->bC (↑(Du x2):Int) (aG (rZ x2)) (jZ (aG (rZ x2)=0)/\aU (λb1 o1=>aA (aX (rZ x2).a b1 o1) (0<=Fy x2) (Fy x2<aG (rZ x2)/\∃(y1:Int),aM (eW x2.2.2.2.2.2.2.2.2) (FB x2) b1 (fN o1 (Fy x2)
 1) (bT y1)/\dL y1 (FA x2) (oM (jP (Bx x2)) 8 (∃(x3:Int×Nat×Int×Sl×List Int×Nat×MH×PH),Dl (I1 x3) (m3 x3) (m3 x1) cb p k (aA (cG x2.1 x3.1) (bP x2.2.1 x3.2.1) (aA (cG x2.2.2.1 x3.2.2.1) (bK (rZ x2) (wV x3)) (aA (eL 75) (aJ k) (aA (bN k) (fM (bE (Dk x2) 1)=bX (wT x3)) (aA (bV sc) (fD v) (aA hP (sJ (Bx x2) (Fy x2) (wW x3)) (aA (eA (yZ x2) (wU x3)) (bR (FB x2) (wU x3)) True))))))))) (∃(x3:Int×Nat×Int×Sl×List Int×Nat×Int×Int×Nat×MH×PH),Dl (I2 x3) (m5 x3) (m5 x2) cb p k (aA (cG x2.1 x3.1) (bP x2.2.1 x3.2.1) (aA (cG x2.2.2.1 x3.2.2.1) (bK (rZ x2) (rZ x3)) (aA (eL 75) (cG (FA x2) (FA x3)) (aA (cG x2.2.2.2.2.2.2.2.1 x3.2.2.2.2.2.2.2.1) (aJ k)
 (aA (bN k) (bP (Dk x2) (Dk x3)) (aA (bL (rZ x2) (rZ x3)) (fM (bE (Du x2) 1)=bX (Du x3)) (aA (bV sc) (fD v) (aA hP (C5 (Bx x2) (Bx x3)) (aA (eA (yZ x2) (yZ x3)) (bR (FB x2) (yZ x3)) True))))))))))))) (∃(x3:Int×Nat×Int×Sl×List Int×Nat×MH×PH),Dl (I1 x3) (m3 x3) (m3 x1) cb p k (aA (cG x2.1 x3.1) (bP x2.2.1 x3.2.1) (aA (cG x2.2.2.1 x3.2.2.1) (bK (rZ x2) (wV x3)) (aA (eL 75) (aJ k) (aA (bN k) (fM (bE (Dk x2) 1)=bX (wT x3)) (aA (bV sc) (fD v) (aA hP (C5 (Bx x2) (wW x3)) (aA (eA (yZ x2) (wU x3)) (bR (FB x2) (wU x3)) True)))))))))))) (dL x1.1 (gP sc) (∃(x2:Int×Nat×MH×PH),Dl (I x2) (m2 x2) (m2 x) cb p k (aA (cG x1.1 x2.1)
 (fM (bE x1.2.1 1)=bX x2.2.1) (aA (bV sc) (fD v) (aA hP (eA (wU x1) x2.2.2) (bR (oY x1) x2.2.2/\True))))) (bC (↑(jP (wW x1)).length:Int) (aG k) (∃(x2:Int×Nat×MH×PH),Dl (I x2) (m2 x2) (m2 x) cb p k (aA (cG x1.1 x2.1) (fM (bE x1.2.1 1)=bX x2.2.1) (aA (bV sc) (fD v) (aA hP (eA (wU x1) x2.2.2) (bR (oY x1) x2.2.2/\True))))) (jW x1.2.2.1 (λt=>j5 cb 2 (FG x1) (oY x1) (λc r=>∀(m4:MH),bO (bA (FG x1) m4 c) (aL m4 (oY x1) c) (branch r ((∃(c1:Nat),w9 (λs1 t1 c2 p1 d=>aA (BK cb 0::cW (wV x1)::aY (cW p) 1=BK c1 0::cW s1::aY (cW t1) (↑d:Int)) (aL m4 (oY x1) c1) (aA (Ints (oY x1) s1 c2) (Ints (oY x1) t1 p1) (aA (fV c2) (fV p1) (j2 d/\wZ (oY x1)
 (λv1 p2 m5 h2=>bO (wA c2 p1 d p2) (bA m4 m5 c1) (iO m5 h2 c1 (cC (λs2 h3=>bJ h2 h3 (a8 h3 s2 21 (fO (y8 t))) (cC (λs3 h4=>bJ h3 h4 (a8 h4 s3 1 (jP (wW x1))) (cC (λs4 h5=>bJ h4 h5 (a8 h5 s4 21 (fO (aI (dK 2) aK (aI (dK v1.op) (dK v1.cmp) (aI (fW v1.left) (sA v1.left) (aI (dK (nM v1.left)) (nH v1.left) (FC v1 s2))))))) (K (kN (aI (dK 3) aK (aI aK aK (aI aK aK (aI aK aK (aI HB aK (aI aK aK (aI aK HB (aI vO (dO s3) (zE s4)))))))))) m5 h5))))))))))))))/\∃(c1:Nat),w9 (λs1 t1 c2 p1 d=>aA (BK cb 0::cW (wV x1)::aY (cW p) 1=BK c1 0::cW s1::aY (cW t1) (↑d:Int)) (aL m4 (oY x1) c1) (aA (Ints (oY x1) s1 c2) (Ints (oY x1) t1 p1) (aA (fV c2) (fV p1) (j2
 d/\wZ (oY x1) (λv1 p2 m5 h2=>bO (wA c2 p1 d p2) (bA m4 m5 c1) (iO m5 h2 c1 (cC (λs2 h3=>bJ h2 h3 (a8 h3 s2 21 (fO (y8 t))) (cC (λs3 h4=>bJ h3 h4 (a8 h4 s3 1 (jP (wW x1))) (cC (λs4 h5=>bJ h4 h5 (a8 h5 s4 21 (fO (aI (dK 2) aK (aI (dK v1.op) (dK v1.cmp) (aI (fW v1.left) (sA v1.left) (aI (dK (nM v1.left)) (nH v1.left) (FC v1 s2))))))) (K (kN (aI (dK 3) aK (aI aK aK (aI aK aK (aI aK aK (aI HB aK (aI aK aK (aI aK HB (aI vO (dO s3) (zE s4)))))))))) m5 h5)))))))))))))) (cC (λs1 h2=>bJ (oY x1) h2 (a8 h2 s1 1 (jP (wW x1))) (cC (λs2 h3=>bJ h2 h3 (a8 h3 s2 21 (fO (y8 t))) (K (kN (aI (dK 3) aK (aI aK aK (aI aK aK (aI aK aK (aI HB aK
 (aI aK aK (aI aK HB (aI vO (dO s1) (zE s2)))))))))) m4 h3))))))))))))) ((∃(c:Nat),w9 (λs t c1 p1 d=>aA (BK cb 0::cW k::aY (cW p) 1=BK c 0::cW s::aY (cW t) (↑d:Int)) (aL (eW x.2) (dN x.2) c) (aA (Ints (dN x.2) s c1) (Ints (dN x.2) t p1) (aA (fV c1) (fV p1) (j2 d/\wZ (dN x.2) (λv1 p2 m3 h1=>bO (wA c1 p1 d p2) (bA (eW x.2) m3 c) (iO m3 h1 c (cC (λs1 h2=>bJ h1 h2 (a8 h2 s1 21 (fO v.enc)) (K (kN (aI (dK 2) aK (aI (dK v1.op) (dK v1.cmp) (aI (fW v1.left) (sA v1.left) (aI (dK (nM v1.left)) (nH v1.left) (FC v1 s1)))))) m3 h2))))))))))/\∃(c:Nat),w9 (λs t c1 p1 d=>aA (BK cb 0::cW k::aY (cW p) 1=BK c 0::cW s::aY (cW t) (↑d:Int)) (aL (eW x.2) (dN x.2) c) (aA (Ints
 (dN x.2) s c1) (Ints (dN x.2) t p1) (aA (fV c1) (fV p1) (j2 d/\wZ (dN x.2) (λv1 p2 m3 h1=>bO (wA c1 p1 d p2) (bA (eW x.2) m3 c) (iO m3 h1 c (cC (λs1 h2=>bJ h1 h2 (a8 h2 s1 21 (fO v.enc)) (K (kN (aI (dK 2) aK (aI (dK v1.op) (dK v1.cmp) (aI (fW v1.left) (sA v1.left) (aI (dK (nM v1.left)) (nH v1.left) (FC v1 s1)))))) m3 h2)))))))))))
theorem iQ(h:PH):Ints h bF []:=⟨a8.nil _ _,by simp⟩
theorem pM(h:PH):lK h bF []:=⟨a8.nil _ _,by simp⟩
theorem tN(h:PH):iJ h bF []:=⟨a8.nil _ _,by simp⟩
theorem Am(h:PH):eJ h hZ eV:=JU (v:=eV) rfl
theorem xJ{h:PH}{s:Sl}{v:QV}{q:Query}(r:a8 h s 21 [QV.enc v])(hq:dA h q v):zX h s [q]:=⟨⟨[v],r,rfl,λi x e=>by
 match i,e with
 |0,e=>simp at e;subst e;exact⟨v,rfl,hq⟩
 |i+1,e=>simp at e⟩,by simp⟩
theorem Ao(h:PH)(t:Int):dA h (.mk 1 t hZ [] [] [] [] 0 []) ⟨1,t,eV,bF,bF,bF,bF,0,bF⟩:=
 pJ.rep ⟨rfl,rfl,Am h,iQ h,pM h,iQ h,tN h,rfl,bZ.nil _ _ _ _⟩
theorem Et{v:PV}{s:Sl}(hp:eJ h p v)(hq:zX h s [q]):dA h (.mk 2 0 p [] [] [] [] 0 [q]) ⟨2,0,v,bF,bF,bF,bF,0,s⟩:=
 pJ.rep ⟨rfl,rfl,hp,iQ h,pM h,iQ h,tN h,rfl,hq⟩
theorem HK{h:PH}{c s:Sl}{cols:List Int}{q:Query}(hc:Ints h c cols)(hq:zX h s [q]):dA h (.mk 3 0 hZ cols [] [] [] 0 [q]) ⟨3,0,eV,c,bF,bF,bF,0,s⟩:=
 pJ.rep ⟨rfl,rfl,Am h,hc,pM h,iQ h,tN h,rfl,hq⟩
theorem AT:Gm hZ:=⟨nS,nS,trivial⟩
theorem M9{op:Int}{on:List (Int×Int)}(hw:Gm w)(hq:QW q):QW (.mk op ta w co on gr od li [q]):=QG.2 ⟨hw,λa ha=>by simp at ha;subst ha;exact hq⟩
theorem EW(t:Int):QW (.mk 1 t hZ [] [] [] [] 0 []):=QG.2 ⟨AT,λa ha=>by simp at ha⟩
theorem SK{a:Int}{n:Nat}(h0:0<=a)(hn:0<n):0<=a.tmod (n:Int)/\a.tmod (n:Int)<(n:Int):=by
 rw[Int.tmod_eq_emod_of_nonneg h0];exact⟨Int.emod_nonneg _ aC,Int.emod_lt_of_pos _ aC⟩
theorem GM{k:List Int}{op:Int}{on:List (Int×Int)}(ha:arity op=1)(h:bY s ps q=(k,0)):bY s ps (.mk op ta w co on gr od li [q])=iC s ps (.mk op ta w co on gr od li [q]) k []:=by
 have e:eX s ps [q]=([k],0):=yB (by simp[h]);simp[bY,e,ha]
theorem Ud{k k':List Int}{op:Int}{on:List (Int×Int)}{p:Query}(ha:arity op=2)(h:bY s ps q=(k,0))(h':bY s ps p=(k',0)):bY s ps (.mk op ta w co on gr od li [q,p])=iC s ps (.mk op ta w co on gr od li [q,p]) k k':=by
 have e:eX s ps [q,p]=([k,k'],0):=yB (by simp[h,h']);simp[bY,e,ha]
theorem FR(h:l.length<=12):Ah l=(l,0):=if_pos h
theorem JV{s:oS}{ps:List Int}{t:Int}(h0:0<=t)(h1:t<s.tables.length)(hk:(gT s t).length<=12):bY s ps (.mk 1 t hZ [] [] [] [] 0 [])=(gT s t,0):=by
 have e1:bY s ps (.mk 1 t hZ [] [] [] [] 0 [])=iC s ps (.mk 1 t hZ [] [] [] [] 0 []) [] []:=by simp[bY,eX,arity]
 rw[e1];unfold iC;rw[if_neg (by simp[arity,dE])];dsimp only;rw[if_pos rfl,if_pos ⟨h0,h1⟩,FR hk]
theorem kinds_filter{k:List Int}(h:bY s ps q=(k,0))(hw:fX k ps w=0)(hk:k.length<=12):bY s ps (.mk 2 0 w [] [] [] [] 0 [q])=(k,0):=by
 rw[GM (by decide) h];unfold iC;rw[if_neg (by simp[arity,dE])];dsimp only;rw[if_neg (by decide),if_pos rfl,if_pos hw,FR hk]
theorem KX{k:List Int}(h:bY s ps q=(k,0))(h0:co≠[])(hi:∀c∈co,Cx k c=true)(hl:co.length<=12):bY s ps (.mk 3 0 hZ co [] [] [] 0 [q])=(co.map λc=>k.getD c.toNat 0,0):=by
 rw[GM (by decide) h];unfold iC;rw[if_neg (by simp[arity,dE])];dsimp only;rw[if_neg (by decide),if_neg (by decide),if_pos rfl,if_pos ⟨h0,λj x hx=>hi x (List.mem_of_getElem? hx)⟩,FR (by simpa using hl)]
structure EC(kt ks co:List Int):Prop where
 in_:∀c∈co,Cx kt c=true
 eq_:(co.map λc=>kt.getD c.toNat 0)=ks
theorem EC.kin{kt ks:List Int}(x:EC kt ks co)(h:bY s ps q=(kt,0))(hn:ks≠[])(hl:ks.length<=12):bY s ps (.mk 3 0 hZ co [] [] [] 0 [q])=(ks,0):=by
 have h1:co.length=ks.length:=by rw[<-x.eq_,List.length_map]
 rw[KX h (λe=>hn (List.eq_nil_of_length_eq_zero (by rw[<-h1,e];rfl))) x.in_ aC,x.eq_]
theorem EC.snoc{kt ks:List Int}{c x:Int}(p:EC kt (ks.take i) co)(hx:ks[i]? =some x)(hc:Cx kt c=true)(e:kt.getD c.toNat 0=x):EC kt (ks.take (i+1)) (co++[c]):=
 ⟨λy hy=>by
  rcases List.mem_append.1 hy with hy|hy
  .exact p.in_ y hy
  .simp at hy;subst hy;exact hc,by rw[List.map_append,p.eq_,List.take_add_one,hx,List.map_cons,List.map_nil,e];rfl⟩
theorem LL:Sound Tryz.prog 26 NY:=by
 refine iB Tryz.func26 ?_;rintro cvs m h K ⟨cb,sc,p,k,v,s,ps,ks,q,rfl,hc,hs,h8,hts,hp,hpl,hk,hkl,hq,hqw,hK⟩;refine⟨X4 cb sc p k v,rfl,aD GQ (aD DB (aD LJ (aD xL (aD DC aF)))),PN cb sc p k v m h K,by kernel_rfl,?_⟩;have htl:=hs.tables.slen;have hkn:=hk.slen;have hw:IntKind.i64.wrap ((sc.tables.len:Int)+1)=(sc.tables.len:Int)+1:=dW aC aC;dsimp only[PN,push_cast];rw[hw];refine⟨cb,_,rfl,hc,λf m1 f0 f1 o1 c1=>?_⟩;refine⟨λ⟨f,n,mx,hx⟩=>0<=f/\f<=sc.tables.len/\n<=sc.tables.len/\PH.le h hx/\bA m mx cb/\aL mx hx cb,λ⟨_,n,_,_⟩=>sc.tables.len-n,⟨(f,0,m1,h),⟨f0,by show f<=(sc.tables.len:Int);omega,aC,.refl _,o1,c1⟩,MT⟩,?_⟩;clear f0 f1 o1 c1 m1 hw;rintro⟨f,n,m1,hx⟩ ⟨f0,f1,hn,hle,o1,c1⟩;dsimp only
 have pred:∀(kk:Sl)(kl:List Int)(mx:MH)(hx:PH)(Q:PV->Pred->MH->PH->Prop),Ints hx kk kl->kl.length<=1000->PH.le h hx->aL mx hx cb->(∀v p m' h',PH.le hx h'->eJ h' p v->wA kl ps 1 p->bA mx m' cb->aL m' h' cb->Q v p m' h')->
  ∃(cb_2:Nat)(s t:Sl)(cols params:List Int)(deep:Nat),[CV.val (.pointer (some ⟨cb,0,none⟩)),CV.val (.slice kk.a kk.len kk.cap),CV.val (.slice p.a p.len p.cap),CV.val (.int .i64 1)]=[CV.val (.pointer (some ⟨cb_2,0,none⟩)),CV.val (.slice s.a s.len s.cap),CV.val (.slice t.a t.len t.cap),CV.val (.int .i64 deep)]/\aL mx hx cb_2/\Ints hx s cols/\Ints hx t params/\cols.length<=1000/\params.length<=1000/\deep<=1000/\
   ∀(v:PV)(p:Pred)(m':MH)(h':PH),PH.le hx h'->eJ h' p v->wA cols params deep p->bA mx m' cb_2->aL m' h' cb_2->Q v p m' h':=λkk kl mx hx Q h1 h2 h3 h4 h5=>
  ⟨cb,kk,p,kl,ps,1,rfl,h4,h1,hp.mono h3,h2,hpl,aC,λv p m' h' q1 q2 qp q3 q4=>h5 v p m' h' q1 q2 qp q3 q4⟩
 refine aE (λhlt=>?_) (λhge=>?_)
 rotate_left
 .have fin:∀(w:PV)(p:Pred)(m':MH)(h':PH),PH.le hx h'->eJ h' p w->wA ks ps 1 p->bA m1 m' cb->aL m' h' cb->∀(s:Sl)(h'_1:PH),PH.le h' h'_1->a8 h'_1 s 21 [QV.enc v]->K (aQ ⟨2,0,w,bF,bF,bF,bF,0,s⟩) m' h'_1:=λw p m' h' q1 q2 qp q3 q4 s h2 q5 q6=>
   hK _ _ m' h2 ((hle.trans q1).trans q5) (Et (q2.mono q5) (xJ q6 (hq.mono ((hle.trans q1).trans q5)))) ⟨M9 qp.vals hqw,λd hf=>hf.filter,λ_ hps hks _ h12 hk0=>kinds_filter hk0 (qp.valid (by decide) hks hps) h12⟩ (o1.trans q3) (q4.mono q5)
  exact⟨pred k ks m1 hx _ (hk.mono hle) hkl hle c1 fin,pred k ks m1 hx _ (hk.mono hle) hkl hle c1 fin⟩
 have hw2:IntKind.i64.wrap (f+(n:Int))=f+(n:Int):=dW aC aC;rw[hw2];refine⟨aC,sc,s,_,rfl,hs.mono hle,h8,λhv h2 le2 hhv=>?_⟩;have hvn:=hhv.slen;obtain⟨T,hT⟩:∃T,(f+(n:Int)).tmod (sc.tables.len:Int)=T:=⟨_,rfl⟩
 have hTr:=SK (a:=f+(n:Int)) (n:=sc.tables.len) aC aC;rw[hT]at hhv hvn hTr⊢
 have hv8:(gT s T).length<=8:=by
  unfold gT;split
  .simp
  .split
   .simp
   .rename_i t ht;simpa using h8 t (List.mem_of_getElem? ht)
 obtain⟨kt,hkt⟩:∃kt,gT s T=kt:=⟨_,rfl⟩
 have hscan:bY s ps (.mk 1 T hZ [] [] [] [] 0 [])=(kt,0):=by rw[JV hTr.1 aC aC,hkt]
 have hcolt:WU s->DY kt:=λx=>by rw[<-hkt];exact x T
 rw[hkt]at hhv hvn hv8;refine⟨λ⟨f',n',t,have_,cols,i,mx,hx⟩=>f'=f/\n'=n/\have_=hv/\t=T/\i<=ks.length/\cols.length<=i/\(cols.length=i->EC kt (ks.take i) cols)/\PH.le h2 hx/\bA m mx cb/\aL mx hx cb,λ⟨_,_,_,_,_,i,_,_⟩=>ks.length-i,⟨(f,n,T,hv,[],0,m1,h2),⟨rfl,rfl,rfl,rfl,aC,by simp,λ_=>⟨by simp,by simp⟩,.refl _,o1,c1.mono le2⟩,MT⟩,?_⟩;rintro⟨f',n',t,hv,cols,i,m2,h3⟩ ⟨rfl,rfl,rfl,rfl,hi,hcl,hpk,le3,o2,c2⟩;dsimp only;have hle3:PH.le h h3:=(hle.trans le2).trans le3;refine aE (λhlt2=>?_) (λhge2=>?_)
 .obtain⟨x,hx⟩:=fG hkn hlt2;obtain⟨b1,of1,e1,r1⟩:=(hk.mono hle3).at hx;refine⟨b1,of1,e1,aC,hlt2,x,.imm (by simpa using r1),cb,_,rfl,c2,λfr m3 fr0 fr1 o3 c3=>?_⟩;refine⟨λ⟨f2,n2,t2,have_,cols2,i2,kind,fr',j,mx,hy⟩=>f2=f'/\n2=n'/\have_=hv/\t2=t/\cols2=cols/\i2=i/\kind=x/\mx=m3/\hy=h3/\j<=hv.len/\fr'=fr,λ⟨_,_,_,_,_,_,_,_,j,_,_⟩=>hv.len-j,⟨(f',n',t,hv,cols,i,x,fr,0,m3,h3),⟨rfl,rfl,rfl,rfl,rfl,rfl,rfl,rfl,rfl,aC,rfl⟩,MT⟩,?_⟩;rintro⟨f2,n2,t2,hv,cols,i,kind,fr',j,m3,h3⟩ ⟨rfl,rfl,rfl,rfl,rfl,rfl,rfl,rfl,rfl,hj,rfl⟩;dsimp only;refine aE (λhlt3=>?_) (λhge3=>⟨(f2,n2,t2,_,_,_,_,_),⟨rfl,rfl,rfl,rfl,by show i+1<=ks.length;omega,by show cols.length<=i+1;omega,λe=>by have e:cols.length=i+1:=e;omega,le3,o2.trans o3,c3⟩,by show ks.length-(i+1)<ks.length-i;omega,MT⟩);have hw3:IntKind.i64.wrap (fr'+(j:Int))=fr'+(j:Int):=dW aC aC;rw[hw3];have hm:=SK (a:=fr'+(j:Int)) (n:=Sl.len _) aC (show 0<hv.len by omega);obtain⟨b2,of2,e2,r2⟩:=(hhv.mono le3).inb (n:=(fr'+(j:Int)).tmod (hv.len:Int)) hm.1 (by rw[<-hvn];exact hm.2);refine⟨aC,b2,of2,e2,hm.1,hm.2,_,.imm (by simpa using r2),aB (λek=>⟨by simp;omega,by simp;omega,(f2,n2,t2,_,cols++[(fr'+(j:Int)).tmod (hv.len:Int)],i+1,_,_),⟨rfl,rfl,rfl,rfl,by show i+1<=ks.length;omega,by simp;omega,λe=>?_,le3,o2.trans o3,c3⟩,by show ks.length-(i+1)<ks.length-i;omega,?_⟩) (λ_=>⟨(f2,n2,t2,hv,cols,i,kind,fr',j+1,m3,h3),⟨rfl,rfl,rfl,rfl,rfl,rfl,rfl,rfl,rfl,by show j+1<=hv.len;omega,rfl⟩,by show hv.len-(j+1)<hv.len-j;omega,MT⟩)⟩
  .have e:(cols++[(fr'+(j:Int)).tmod (hv.len:Int)]).length=i+1:=e;rw[List.length_append]at e;exact(hpk (by simpa using e)).snoc hx (by simp only[Cx,Bool.and_eq_true,decide_eq_true_eq];omega) (by simpa using ek)
  .rw[List.map_append];exact MT
 .have hn1:n'+1<=sc.tables.len:=by omega
  have hi2:i=ks.length:=by omega
  refine aB (λ_=>⟨(f',n'+1,m2,h3),⟨f0,f1,hn1,hle3,o2,c2⟩,by show sc.tables.len-(n'+1)<sc.tables.len-n';omega,MT⟩) (λ_=>aE (λ_=>⟨(f',n'+1,m2,h3),⟨f0,f1,hn1,hle3,o2,c2⟩,by show sc.tables.len-(n'+1)<sc.tables.len-n';omega,MT⟩) (λhnl=>⟨t,rfl,cb,2,rfl,aC,aC,c2,λr m4 o4 c4=>?_⟩))
  have hpick:EC kt ks cols:=by
   rw[List.length_map]at hnl;have:=hpk aC
   rwa [hi2,List.take_length]at this
  refine aB (λ_=>?_) (λ_ s1 h5 le5 r5 s2 h6 le6 r6=>?_)
  .have fin:∀(w:PV)(p:Pred)(m':MH)(h':PH),PH.le h3 h'->eJ h' p w->wA kt ps 1 p->bA m4 m' cb->aL m' h' cb->∀(s:Sl)(h'_1:PH),PH.le h' h'_1->a8 h'_1 s 21 [QV.enc ⟨1,t,eV,bF,bF,bF,bF,0,bF⟩]->∀(s_1:Sl)(h'_2:PH),PH.le h'_1 h'_2->a8 h'_2 s_1 1 (cols.map eI)->∀(s_2:Sl)(h'_3:PH),PH.le h'_2 h'_3->a8 h'_3 s_2 21 [QV.enc ⟨2,0,w,bF,bF,bF,bF,0,s⟩]->K (aQ ⟨3,0,eV,s_1,bF,bF,bF,0,s_2⟩) m' h'_3:=λw p m' h' q1 q2 qp q3 q4 s h5 q5 q6 s1 h6 q7 q8 s2 h7 q9 q10=>
    hK _ _ m' h7 ((((hle3.trans q1).trans q5).trans q7).trans q9) (HK (cols:=cols) ⟨q8.mono q9,aC⟩ (xJ q10 (Et (q2.mono ((q5.trans q7).trans q9)) (xJ (q6.mono (q7.trans q9)) (Ao _ t))))) ⟨M9 AT (M9 qp.vals (EW t)),λd _=>K6.three d (oH.one (oH.one oH.scan (by decide)) (by decide)),λhsk hps _ hn h12 _=>hpick.kin (kinds_filter hscan (qp.valid (by decide) (hcolt hsk) hps) aC) hn h12⟩ ((o2.trans o4).trans q3) (q4.mono ((q5.trans q7).trans q9))
   exact⟨pred hv kt m4 h3 _ (hhv.mono le3) aC hle3 c4 fin,pred hv kt m4 h3 _ (hhv.mono le3) aC hle3 c4 fin⟩
  .exact hK _ _ m4 h6 ((hle3.trans le5).trans le6) (HK (cols:=cols) ⟨r5.mono le6,aC⟩ (xJ (v:=⟨1,t,eV,bF,bF,bF,bF,0,bF⟩) r6 (Ao _ t))) ⟨M9 AT (EW t),λd _=>K6.three d (oH.mono (oH.one oH.scan (by decide)) (by decide) (by decide) (by decide)),λ_ _ _ hn h12 _=>hpick.kin hscan hn h12⟩ (o2.trans o4) (c4.mono (le5.trans le6))
def Z4(K:CV->MH->PH->Prop)(m:MH)(h:PH)(cb:Nat)(s:oS)(ps:List Int)(d:Nat):Prop:=∀w q m' h',PH.le h h'->dA h' q w->QW q->yK d q->(dG s ps q).2=0->bA m m' cb->aL m' h' cb->K (aQ w) m' h'
def Sz(N:Nat):Vc.Spec:=λcvs m h K=>∃cb sc p s ps deep,cvs=[cP cb,aS sc,cS p,cI deep]/\aL m h cb/\gI h s sc/\eK s=0/\s.tables≠[]/\Ints h p ps/\ps.length<=1000/\ps.all cV=true/\ -1<=deep/\deep<=1000/\(deep+1).toNat<N/\Z4 K m h cb s ps deep.toNat
noncomputable def Ym(N:Nat)(cb:Nat)(sc:aW)(p:Sl):Ctx:=
 vK [(15,Gn),(40,WW),(25,CR),(41,W3),(26,NY),(42,YO),(30,yI),(13,Sz N)] [(11,{A:=QV×QV×Sl×Int×MH×PH,st:=λ⟨a,q,k,n,m,h⟩=>cE 171 175 [(0,pv cb),(2,sv p),(5,.at (.ptr 5 0)),(8,.at (.ptr 8 0)),(10,.at (.ptr 10 0)),(11,sv k),(13,.at (.ptr 13 0)),(14,iv n)] [(5,.cells 43 (sc.enc.map .val)),(8,.cells 38 (z6.enc.map .val)),(10,.cells 38 (a.enc.map .val)),(13,.cells 38 (q.enc.map .val))] m h})] [(7,{A:=Int×Int×QV×QV×Sl×MH×PH,st:=λ⟨d,op,a,q,k,m,h⟩=>cE 171 175 [(0,pv cb),(2,sv p),(3,iv d),(5,.at (.ptr 5 0)),(8,.at (.ptr 8 0)),(9,iv op),(10,.at (.ptr 10 0)),(11,sv k),(13,.at (.ptr 13 0))] [(5,.cells 43 (sc.enc.map .val)),(8,.cells 38 (z6.enc.map .val)),(10,.cells 38 (a.enc.map .val)),(13,.cells 38 (q.enc.map .val))] m h}),
  (16,{A:=Int×Int×QV×QV×Sl×Bool×MH×PH,st:=λ⟨d,op,a,q,k,t,m,h⟩=>cE 171 175 [(0,pv cb),(2,sv p),(3,iv d),(5,.at (.ptr 5 0)),(8,.at (.ptr 8 0)),(9,iv op),(10,.at (.ptr 10 0)),(11,sv k),(13,.at (.ptr 13 0)),(59,iv op),(84,bv t)] [(5,.cells 43 (sc.enc.map .val)),(8,.cells 38 (z6.enc.map .val)),(10,.cells 38 (a.enc.map .val)),(13,.cells 38 (q.enc.map .val))] m h}),
  (24,{A:=Int×QV×QV×Sl×Bool×MH×PH,st:=λ⟨op,a,q,k,t,m,h⟩=>cE 171 175 [(0,pv cb),(2,sv p),(5,.at (.ptr 5 0)),(8,.at (.ptr 8 0)),(10,.at (.ptr 10 0)),(11,sv k),(13,.at (.ptr 13 0)),(59,iv op),(122,bv t)] [(5,.cells 43 (sc.enc.map .val)),(8,.cells 38 (z6.enc.map .val)),(10,.cells 38 (a.enc.map .val)),(13,.cells 38 (q.enc.map .val))] m h}),
  (20,{A:=QV×QV×QV×Sl×Sl×MH×PH,st:=λ⟨a,b,q,k,l,m,h⟩=>cE 171 175 [(0,pv cb),(2,sv p),(5,.at (.ptr 5 0)),(8,.at (.ptr 8 0)),(10,.at (.ptr 10 0)),(11,sv k),(13,.at (.ptr 13 0)),(15,.at (.ptr 15 0)),(16,sv l)] [(5,.cells 43 (sc.enc.map .val)),(8,.cells 38 (z6.enc.map .val)),(10,.cells 38 (a.enc.map .val)),(13,.cells 38 (q.enc.map .val)),(15,.cells 38 (b.enc.map .val))] m h}),
  (30,{A:=QV×QV×MH×PH,frz:=true,st:=λ⟨a,q,m,h⟩=>cE 171 175 [(2,sv p),(5,.at (.ptr 5 0)),(8,.at (.ptr 8 0)),(10,.at (.ptr 10 0)),(13,.at (.ptr 13 0))] [(5,.cells 43 (sc.enc.map .val)),(8,.cells 38 (z6.enc.map .val)),(10,.cells 38 (a.enc.map .val)),(13,.cells 38 (q.enc.map .val))] m h})] [] [36,1036,1033] [] false
abbrev j4(a:List CV)(b:Nat)(c:MH)(d:PH)(e:(List Int)->List Int)(g:oS->(List Int)->Int->Prop):Prop:=∃(x:aW)(x1:Sl),E7 (λx2 x3=>∃(x4:Int),aA (a=BK b 0::bI x::aY (cW x1) x4) (aL c d b) (aA (gI d x2 x) (eK x2=0) (aA (jZ (x2.tables=[])) (Ints d x1 x3) (aA (fV (e x3)) (dX (List.all (e x3) cV)) (g x2 x3 x4)))))
abbrev uY(a:Int)(b:Nat)(c:PH)(d:QV->Query->MH->PH->Prop):Prop:=aA (Int.negSucc 0<=a) (a<=1000) ((a+1).toNat<b/\∀(x:QV)(x1:Query),iA (λx2 x3=>bJ c x3 (dA x3 x1 x) (bO (QW x1) (yK a.toNat x1) (d x x1 x2 x3))))
abbrev Dh(a:List CV)(b:Nat->Nat->Option Value)(c:oS->(List Int)->Query->Sl->PH->Prop):Prop:=∃(x:aW)(x1:Sl)(x2:QV),E7 (λx3 x4=>∃(x5:Query),aA (a=bI x::aT (cW x1) (cN x2)) (gI b x3 x) (aA (Ints b x1 x4) (dA b x5 x2) (cC (λx6 x7=>bJ b x7 (Ints x7 x6 (dG x3 x4 x5).1) (c x3 x4 x5 x6 x7)))))
noncomputable abbrev oO(a:Int×Int×QV×QV×Sl×MH×PH):Sl×MH×PH:=a.2.2.2.2
abbrev iM:Prop:=eP 13
abbrev fK(a b:QV):Prop:=qB 38 a.enc=qB 38 b.enc
abbrev vS(a:List At)(b:QV):Prop:=oQ 38 a=qB 38 b.enc
noncomputable abbrev Af(a:List At):List At:=fU Qx Qx a
noncomputable abbrev I0(a:Int)(b:Sl):List At:=tV a (tV 0 (Bz 0 (Af (Af (fU Qx (jE 0) (jG (oT b)))))))
abbrev y9(a:Prop)(b:Nat)(c d e:Sl)(g:Prop):Prop:=aA a (cX b) (aA (aJ c) fZ (aA (eP 8) kU (aA (bK d e) iM g)))
noncomputable abbrev qW(a:QV×QV×Sl×Int×MH×PH):MH×PH:=a.2.2.2.2
noncomputable abbrev Ni(a:QV×QV×Sl×Int×MH×PH):Sl:=a.2.1.columns
noncomputable abbrev sQ(a:QV×QV×MH×PH):Nat->Option Obj:=a.2.2.1
noncomputable abbrev u0(a:QV×QV×MH×PH):Nat->Nat->Option Value:=a.2.2.2
noncomputable abbrev nA(a:Int×QV×QV×Sl×Bool×MH×PH):Sl:=a.2.2.2.1
noncomputable abbrev zA(a:Int×QV×QV×Sl×Bool×MH×PH):Bool:=a.2.2.2.2.1
noncomputable abbrev lN(a:Int×QV×QV×Sl×Bool×MH×PH):QV:=a.2.1
noncomputable abbrev Aa(a:Int×QV×QV×Sl×Bool×MH×PH):QV:=a.2.2.1
noncomputable abbrev lZ(a:Int×Int×QV×QV×Sl×Bool×MH×PH):QV:=Aa a.2
noncomputable abbrev i7(a:Int×QV×QV×Sl×Bool×MH×PH):MH×PH:=a.2.2.2.2.2
noncomputable abbrev iT(a:Int×QV×QV×Sl×Bool×MH×PH):Nat->Nat->Option Value:=(i7 a).2
noncomputable abbrev jX(a:QV×QV×QV×Sl×Sl×MH×PH):Sl×MH×PH:=a.2.2.2.2
noncomputable abbrev nD(a:QV×QV×QV×Sl×Sl×MH×PH):QV:=a.2.2.1
noncomputable abbrev FK(a:QV×QV×QV×Sl×Sl×MH×PH):Sl:=(nD a).args
attribute [push_cast] j4 uY Dh oO iM fK vS Af I0 y9 qW Ni sQ u0 nA zA lN Aa lZ i7 iT jX nD FK
def P1(N:Nat)(cb:Nat)(sc:aW)(p:Sl)(deep:Int)(m:MH)(h:PH)(K:CV->MH->PH->Prop):Prop:=
  iZ cb 12 m h (λk m1=>bC deep 1 (iZ cb (ite (gP sc>1) (gP sc) 1) m1 h (λk1 m2=>jW k1 (λt=>K (kN (y8 t)) m2 h))) (cR (dV (1+k)==1) (iZ cb (ite (gP sc>1) (gP sc) 1) m1 h (λk1 m2=>jW k1 (λt=>K (kN (y8 t)) m2 h))) (gP sc==0) (iZ cb (ite (gP sc>1) (gP sc) 1) m1 h (λk1 m2=>jW k1 (λt=>K (kN (y8 t)) m2 h))) (∃(c:Nat),j4 (BK cb 0::bI sc::aY (cW p) (dV (deep-1))) c m1 h (λp1=>p1) (λs p1 d=>uY d N h (λw q m2 h1=>bO ((dG s p1 q).2=0) (bA m1 m2 c) (iO m2 h1 c (Dh (bI sc::aT (cW p) (cN w)) h1 (λ_ _ _ s1 h2=>∃(I:Int×Int×QV×QV×Sl×MH×PH->Prop),gQ (λs2 m3=>nR m2 m3 h2 s2 38 21 (fO w.enc)->∃(x:Int×Int×QV×QV×Sl×MH×PH),aA (I x) (cX cb) (aA
 (aJ p) (cG deep x.1) (aA fZ (eP 8) (aA (cG (dV (1+k)) x.2.1) kU (aA (bK s1 (oO x).1) iM (aA (bV sc) hP (aA (fK w x.2.2.1) (vS (I0 (dV (1+k)) s2) x.2.2.2.1) (aA (cK m3 (oO x).2) (bR h2 (oO x).2) True))))))))/\∀(x:Int×Int×QV×QV×Sl×MH×PH),I x->∃(I1:QV×QV×MH×PH->Prop),dL x.2.1 3 (iZ cb 3 (rH (oO x)) (eR (oO x)) (λk1 m3=>∃(I2:QV×QV×Sl×Int×MH×PH->Prop)(m4:QV×QV×Sl×Int×MH×PH->Nat),(∃(x1:QV×QV×Sl×Int×MH×PH),y9 (I2 x1) cb p (oO x).1 x1.2.2.1 (aA (cG k1 x1.2.2.2.1) (bV sc) (aA hP (fK x.2.2.1 x1.1) (aA (fK x.2.2.2.1 x1.2.1) (cK m3 (qW x1)) (bR (eR (oO x)) (qW x1)/\True)))))/\∀(x1:QV×QV×Sl×Int×MH×PH),I2 x1->fR x1.2.2.2.1
 0 (iZ cb (aG x1.2.2.1) (qW x1).1 (qW x1).2 (λk2 m5=>∃(x2:List (List Value)),aA (dD m5 (dC (Ni x1)) 3 1 x2) (fY ((x2.length+1)*8)) (gS x2/\gQ (λs2 m6=>dZ m5 m6 (dC (Ni x1)) s2 3 1 (dU x2 (bT k2))->∃(x3:QV×QV×Sl×Int×MH×PH),aA (I2 x3) (m4 x3<m4 x1) (aA (cX cb) (aJ p) (aA fZ (eP 8) (aA kU (bK x1.2.2.1 x3.2.2.1) (aA iM (cG (dV (x1.2.2.2.1-1)) x3.2.2.2.1) (aA (bV sc) hP (aA (fK x1.1 x3.1) (vS (zH x1.2.1.op x1.2.1 (pQ x1.2.1.where_ (fU (oT s2) (oT x1.2.1.on) (fU (oT x1.2.1.group) (oT x1.2.1.order) (wB x1.2.1.limit (oT x1.2.1.args)))))) x3.2.1) (aA (cK m6 (qW x3)) (bR (qW x1).2 (qW x3)) True))))))))))) (EF (qW x1).1 (qW x1).2->∃(x2:QV×QV×MH×PH),aA (I1 x2) (aJ p) (aA
 (eP 5) (eP 8) (aA kU iM (aA (bV sc) hP (aA (fK x1.1 x2.1) (fK x1.2.1 x2.2.1) (CW (qW x1).1 (qW x1).2 (sQ x2) (u0 x2)/\True)))))))) (∃(I2:Int×Int×QV×QV×Sl×Bool×MH×PH->Prop),dL x.2.1 4 (∃(x1:Int×Int×QV×QV×Sl×Bool×MH×PH),aA (I2 x1) (cX cb) (aA (aJ p) (cG x.1 x1.1) (aA fZ (eP 8) (aA (cG x.2.1 x1.2.1) kU (aA (bK (oO x).1 (nA x1.2)) iM (aA (cG x.2.1 x1.2.1) (tR (zA x1.2)) (aA (bV sc) hP (aA (fK x.2.2.1 (lN x1.2)) (fK x.2.2.2.1 (lZ x1)) (aA (eA (oO x).2 (i7 x1.2)) (bR (eR (oO x)) (i7 x1.2)) True))))))))) (∃(x1:Int×Int×QV×QV×Sl×Bool×MH×PH),aA (I2 x1) (cX cb) (aA (aJ p) (cG x.1 x1.1) (aA fZ (eP 8) (aA (cG x.2.1 x1.2.1) kU (aA
 (bK (oO x).1 (nA x1.2)) iM (aA (cG x.2.1 x1.2.1) (gC (x.2.1==5) (zA x1.2)) (aA (bV sc) hP (aA (fK x.2.2.1 (lN x1.2)) (fK x.2.2.2.1 (lZ x1)) (aA (eA (oO x).2 (i7 x1.2)) (bR (eR (oO x)) (i7 x1.2)) True)))))))))/\∀(x1:Int×Int×QV×QV×Sl×Bool×MH×PH),hX (I2 x1) (zA x1.2) (∃(c1:Nat),j4 (BK cb 0::bI sc::aY (cW p) (dV (x1.1-2))) c1 (i7 x1.2).1 (iT x1.2) (λp2=>p2) (λs2 p2 d1=>uY d1 N (iT x1.2) (λw1 q1 m3 h3=>bO ((dG s2 p2 q1).2=0) (bA (i7 x1.2).1 m3 c1) (iO m3 h3 c1 (Dh (bI sc::aT (cW p) (cN w1)) h3 (λ_ _ _ s3 h4=>∃(I3:QV×QV×QV×Sl×Sl×MH×PH->Prop),dL x1.2.1 4 (eB (dV (aG (nA x1.2)+aG s3)) 8 (∃(x2:QV×QV×QV×Sl×Sl×MH×PH),
 y9 (I3 x2) cb p (nA x1.2) x2.2.2.2.1 (aA (eP 15) (bK s3 (jX x2).1) (aA (bV sc) hP (aA (fK (lN x1.2) x2.1) (vS (zH 5 (lZ x1) (pQ (lZ x1).where_ (fU (oT (lZ x1).columns) (oT (lZ x1).on) (fU (oT (lZ x1).group) (oT (lZ x1).order) (wB (lZ x1).limit (oT (lZ x1).args)))))) (nD x2)) (aA (fK w1 x2.2.1) (cK m3 (jX x2).2) (jN h4 (jX x2).2)))))) (∃(x2:QV×QV×QV×Sl×Sl×MH×PH),y9 (I3 x2) cb p (nA x1.2) x2.2.2.2.1 (aA (eP 15) (bK s3 (jX x2).1) (aA (bV sc) hP (aA (fK (lN x1.2) x2.1) (fK (lZ x1) (nD x2)) (aA (fK w1 x2.2.1) (cK m3 (jX x2).2) (jN h4 (jX x2).2))))))) (∃(x2:QV×QV×QV×Sl×Sl×MH×PH),y9 (I3 x2) cb p (nA x1.2) x2.2.2.2.1 (aA (eP 15) (bK s3 (jX x2).1) (aA
 (bV sc) hP (aA (fK (lN x1.2) x2.1) (fK (lZ x1) (nD x2)) (aA (fK w1 x2.2.1) (cK m3 (jX x2).2) (jN h4 (jX x2).2))))))/\∀(x2:QV×QV×QV×Sl×Sl×MH×PH),I3 x2->(∃(c2:Nat),jT (λs4 t=>pF (λa b=>aA (fI cb::aT (cW x2.2.2.2.1) (cW (jX x2).1)=fI c2::aT (cW s4) (cW t)) (aL (rH (jX x2)) (eR (jX x2)) c2) (aA (Ints (eR (jX x2)) s4 a) (Ints (eR (jX x2)) t b) (aA (fV a) (fV b) (∀(o:Sl)(o1:List (Int×Int)),iA (λm4 h5=>bJ (eR (jX x2)) h5 (lK h5 o o1) (bO (o1.length<=10) (bA (rH (jX x2)) m4 c2) (iO m4 h5 c2 (gQ (λs5 m5=>nR m4 m5 h5 s5 38 21 (fO x2.2.1.enc)->∃(x3:List (List Value)),A7 (dD m5 (dC (FK x2)) 38 21 x3) (λy=>aA (dY 21 y) (oR m5 h5
 (dC s5) 21 y) (aA (sC x3 y 280) (sD x3 y) (∀(s6:Sl)(m6:MH),bO (dZ m5 m6 (dC (FK x2)) s6 38 21 (x3++y)) (EF m6 h5) (∃(x4:QV×QV×MH×PH),aA (I1 x4) (aJ p) (aA (eP 5) (eP 8) (aA kU iM (aA (bV sc) hP (aA (fK x2.1 x4.1) (vS (zH (nD x2).op (nD x2) (pQ (nD x2).where_ (fU (oT (nD x2).columns) (oT o) (fU (oT (nD x2).group) (oT (nD x2).order) (wB (nD x2).limit (oT s6)))))) x4.2.1) (CW m6 h5 (sQ x4) (u0 x4)/\True))))))))))))))))))))/\gQ (λs4 m4=>nR (rH (jX x2)) m4 (eR (jX x2)) s4 38 21 (fO x2.2.1.enc)->∃(c2:Nat),jT (λs5 t=>pF (λa b=>aA (fI cb::aT (cW x2.2.2.2.1) (cW (jX x2).1)=fI c2::aT (cW s5) (cW t)) (aL m4 (eR (jX x2)) c2) (aA (Ints (eR (jX x2))
 s5 a) (Ints (eR (jX x2)) t b) (aA (fV a) (fV b) (∀(o:Sl)(o1:List (Int×Int)),iA (λm5 h5=>bJ (eR (jX x2)) h5 (lK h5 o o1) (bO (o1.length<=10) (bA m4 m5 c2) (iO m5 h5 c2 (∃(x3:List (List Value)),A7 (dD m5 (dC (FK x2)) 38 21 x3) (λy=>aA (dY 21 y) (oR m5 h5 (dC s4) 21 y) (aA (sC x3 y 280) (sD x3 y) (∀(s6:Sl)(m6:MH),bO (dZ m5 m6 (dC (FK x2)) s6 38 21 (x3++y)) (EF m6 h5) (∃(x4:QV×QV×MH×PH),aA (I1 x4) (aJ p) (aA (eP 5) (eP 8) (aA kU iM (aA (bV sc) hP (aA (fK x2.1 x4.1) (vS (zH (nD x2).op (nD x2) (pQ (nD x2).where_ (fU (oT (nD x2).columns) (oT o) (fU (oT (nD x2).group) (oT (nD x2).order) (wB (nD x2).limit (oT s6)))))) x4.2.1) (CW m6 h5 (sQ x4) (u0 x4)/\
 True))))))))))))))))))))))))) (∃(I3:Int×QV×QV×Sl×Bool×MH×PH->Prop),cR (x1.2.1==6) (∃(x2:Int×QV×QV×Sl×Bool×MH×PH),y9 (I3 x2) cb p (nA x1.2) (nA x2) (aA (cG x1.2.1 x2.1) (tR (zA x2)) (aA (bV sc) hP (aA (fK (lN x1.2) (lN x2)) (fK (lZ x1) (Aa x2)) (aA (eA (i7 x1.2) (i7 x2)) (bR (iT x1.2) (i7 x2)) True))))) (x1.2.1==7) (∃(x2:Int×QV×QV×Sl×Bool×MH×PH),y9 (I3 x2) cb p (nA x1.2) (nA x2) (aA (cG x1.2.1 x2.1) (tR (zA x2)) (aA (bV sc) hP (aA (fK (lN x1.2) (lN x2)) (fK (lZ x1) (Aa x2)) (aA (eA (i7 x1.2) (i7 x2)) (bR (iT x1.2) (i7 x2)) True))))) (∃(x2:Int×QV×QV×Sl×Bool×MH×PH),y9 (I3 x2) cb p (nA x1.2) (nA x2) (aA (cG x1.2.1 x2.1)
 (gC (x1.2.1==8) (zA x2)) (aA (bV sc) hP (aA (fK (lN x1.2) (lN x2)) (fK (lZ x1) (Aa x2)) (aA (eA (i7 x1.2) (i7 x2)) (bR (iT x1.2) (i7 x2)) True)))))/\∀(x2:Int×QV×QV×Sl×Bool×MH×PH),I3 x2->cR (zA x2) (∃(c1:Nat)(s2:aW),jT (λp2 k1=>∃(v:QV),E7 (λs3 p3=>∃(k2:List Int)(q1:Query),aA (BK cb 0::bI sc::cW p::aT (cW (nA x2)) (cN (lN x2))=BK c1 0::bI s2::cW p2::aT (cW k1) (cN v)) (aL (i7 x2).1 (iT x2) c1) (aA (gI (iT x2) s3 s2) (oU s3) (aA (j2 s3.tables.length) (Ints (iT x2) p2 p3) (aA (fV p3) (Ints (iT x2) k1 k2) (aA (fV k2) (dA (iT x2) q1 v) (QW q1/\∀(w1:QV)(q2:Query),iA (λm3 h3=>bJ (iT x2) h3 (dA h3 q2 w1) (bO (WT s3 p3 k2 q1
 q2) (bA (i7 x2).1 m3 c1) (iO m3 h3 c1 (gQ (λs4 m4=>nR m3 m4 h3 s4 38 21 (fO w1.enc)->∃(x3:List (List Value)),A7 (dD m4 (dC (Aa x2).args) 38 21 x3) (λy=>aA (dY 21 y) (oR m4 h3 (dC s4) 21 y) (aA (sC x3 y 280) (sD x3 y) (∀(s5:Sl)(m5:MH),bO (dZ m4 m5 (dC (Aa x2).args) s5 38 21 (x3++y)) (EF m5 h3) (∃(x4:QV×QV×MH×PH),aA (I1 x4) (aJ p) (aA (eP 5) (eP 8) (aA kU iM (aA (bV sc) hP (aA (fK (lN x2) x4.1) (vS (qQ (Aa x2) (oT s5)) x4.2.1) (CW m5 h3 (sQ x4) (u0 x4)/\True)))))))))))))))))))))) (x2.1==9) (∃(c1:Nat)(v:QV),Cn (λs2 k1=>aA (fI cb::aT (cN (Aa x2)) (cW (nA x2))=fI c1::aT (Fk v v (aI (lU (gE v)) (fW (fA v)) (aI (sA (fA v)) (dK (nM (fA v)))
 (aI (nH (fA v)) (lU (fA v)) (aI (oA v) (oD v) (aI (dO v.on) vO (aI vO (dK v.limit) (aR v.args)))))))) (cW s2)) (aL (i7 x2).1 (iT x2) c1) (aA (Ints (iT x2) s2 k1) (fV k1) (∀(g o:Sl)(k2:Int)(g1:List Int)(o1:List (Int×Bool)),iA (λm3 h3=>bJ (iT x2) h3 (Ints h3 g g1) (bO (iJ h3 o o1) (qD g1.length k1) (bO (qD o1.length k1) (cD k2) (bO (k2<=3) (bA (i7 x2).1 m3 c1) (bO (aL m3 h3 c1) (EF m3 h3) (∃(x3:QV×QV×MH×PH),aA (I1 x3) (aJ p) (aA (eP 5) (eP 8) (aA kU iM (aA (bV sc) hP (aA (fK (lN x2) x3.1) (vS (zH v.op v (pQ v.where_ (fU (oT v.columns) (oT v.on) (fU (oT g) (oT o) (wB k2 (oT v.args)))))) x3.2.1) (CW m3 h3 (sQ x3) (u0 x3)/\True))))))))))))))) (dL x2.1 10 (∃(c1:Nat)(v:QV),
 Cn (λs2 k1=>aA (fI cb::aT (cN (Aa x2)) (cW (nA x2))=fI c1::aT (Fk v v (aI (lU (gE v)) (fW (fA v)) (aI (sA (fA v)) (dK (nM (fA v))) (aI (nH (fA v)) (lU (fA v)) (aI (oA v) (oD v) (aI (dO v.on) vO (aI vO (dK v.limit) (aR v.args)))))))) (cW s2)) (aL (i7 x2).1 (iT x2) c1) (aA (Ints (iT x2) s2 k1) (fV k1) (∀(g o:Sl)(k2:Int)(g1:List Int)(o1:List (Int×Bool)),iA (λm3 h3=>bJ (iT x2) h3 (Ints h3 g g1) (bO (iJ h3 o o1) (qD g1.length k1) (bO (qD o1.length k1) (cD k2) (bO (k2<=3) (bA (i7 x2).1 m3 c1) (iO m3 h3 c1 (∃(c2:Nat)(s3:aW),jT (λp2 k3=>∃(v1:QV),E7 (λs4 p3=>∃(k4:List Int)(q1:Query),aA (BK cb 0::bI sc::cW p::aT (cW (nA x2)) (cN (lN
 x2))=BK c2 0::bI s3::cW p2::aT (cW k3) (cN v1)) (aL m3 h3 c2) (aA (gI h3 s4 s3) (oU s4) (aA (j2 s4.tables.length) (Ints h3 p2 p3) (aA (fV p3) (Ints h3 k3 k4) (aA (fV k4) (dA h3 q1 v1) (QW q1/\∀(w1:QV)(q2:Query),iA (λm4 h4=>bJ h3 h4 (dA h4 q2 w1) (bO (WT s4 p3 k4 q1 q2) (bA m3 m4 c2) (iO m4 h4 c2 (gQ (λs5 m5=>nR m4 m5 h4 s5 38 21 (fO w1.enc)->∃(x3:List (List Value)),A7 (dD m5 (dC v.args) 38 21 x3) (λy=>aA (dY 21 y) (oR m5 h4 (dC s5) 21 y) (aA (sC x3 y 280) (sD x3 y) (∀(s6:Sl)(m6:MH),bO (dZ m5 m6 (dC v.args) s6 38 21 (x3++y)) (EF m6 h4) (∃(x4:QV×QV×MH×PH),aA (I1 x4) (aJ p) (aA (eP 5) (eP 8) (aA kU iM (aA (bV sc) hP (aA (fK (lN x2) x4.1) (vS (zH v.op v (pQ v.where_ (fU
 (oT v.columns) (oT v.on) (fU (oT g) (oT o) (wB k2 (oT s6)))))) x4.2.1) (CW m6 h4 (sQ x4) (u0 x4)/\True))))))))))))))))))))))))))))))) ((∃(c1:Nat),w9 (λs2 t c2 p2 d1=>aA (BK cb 0::cW (nA x2)::aY (cW p) 2=BK c1 0::cW s2::aY (cW t) (↑d1:Int)) (aL (i7 x2).1 (iT x2) c1) (aA (Ints (iT x2) s2 c2) (Ints (iT x2) t p2) (aA (fV c2) (fV p2) (j2 d1/\wZ (iT x2) (λv p3 m3 h3=>bO (wA c2 p2 d1 p3) (bA (i7 x2).1 m3 c1) (iO m3 h3 c1 (∀(s3:Sl)(m4:MH),bO (nR m3 m4 h3 s3 38 21 (fO (lN x2).enc)) (EF m4 h3) (∃(x3:QV×QV×MH×PH),aA (I1 x3) (aJ p) (aA (eP 5) (eP 8) (aA kU iM (aA (bV sc) hP (aA (fK (lN x2) x3.1) (vS (fU (jE 2) (jE 0) (pQ v (Af (Af (wB 0 (oT s3)))))) x3.2.1) (CW m4 h3
 (sQ x3) (u0 x3)/\True))))))))))))))/\gQ (λs2 m3=>nR (i7 x2).1 m3 (iT x2) s2 38 21 (fO (lN x2).enc)->∃(c1:Nat),w9 (λs3 t c2 p2 d1=>aA (BK cb 0::cW (nA x2)::aY (cW p) 2=BK c1 0::cW s3::aY (cW t) (↑d1:Int)) (aL m3 (iT x2) c1) (aA (Ints (iT x2) s3 c2) (Ints (iT x2) t p2) (aA (fV c2) (fV p2) (j2 d1/\wZ (iT x2) (λv p3 m4 h3=>bO (wA c2 p2 d1 p3) (bA m3 m4 c1) (bO (aL m4 h3 c1) (EF m4 h3) (∃(x3:QV×QV×MH×PH),aA (I1 x3) (aJ p) (aA (eP 5) (eP 8) (aA kU iM (aA (bV sc) hP (aA (fK (lN x2) x3.1) (vS (fU (jE 2) (jE 0) (pQ v (Af (Af (wB 0 (oT s2)))))) x3.2.1) (CW m4 h3 (sQ x3) (u0 x3)/\True)))))))))))))))))/\∀(x1:QV×QV×MH×PH),I1 x1->Dh (bI sc::aT
 (cW p) (cN x1.2.1)) (u0 x1) (λs2 p2 q1 _ h3=>dT (dG s2 p2 q1).2 0 (K (cN x1.1) (sQ x1) h3) (K (cN x1.2.1) (sQ x1) h3))))))))))
structure rT(m0 m:MH)(s:Sl)(E:TypeId)(sz:Nat)(xs:List (List Value)):Prop where
 row:dD m s E sz xs
 fresh:∀b i,s.a=some ⟨b,i,none⟩->m0 b=none
def Kept(m0 m:MH)(cb:Nat):Prop:=∀b o,m0 b=some o->b≠cb->m b=some o
theorem Kept.of{m0:MH}(h:bA m0 m cb):Kept m0 m cb:=λb o e n=>by rw[h.other b n];exact e
theorem Kept.on{m0:MH}(k:Kept m0 m cb)(h:bA m m' cb):Kept m0 m' cb:=λb o e n=>by rw[h.other b n];exact k b o e n
theorem aL.blk(c:aL m h cb):∃cs,m cb=some (.cells cs 82 (0,0)):=by
 obtain⟨r,q,cs,k,q1,_⟩:=c;exact⟨_,q1⟩
theorem aL.keep(c:aL m h cb)(e:m' cb=m cb)(le:PH.le h h'):aL m' h' cb:=by
 obtain⟨r,q,cs,k,q1,q2,q3⟩:=c;exact⟨r,q,cs,k,by rw[e];exact q1,q2.mono le,q3⟩
theorem Kept.free{m0:MH}(k:Kept m0 m cb)(c:aL m h cb)(hb:m b=none):m0 b=none:=by
 cases e:m0 b with
 |none=>rfl
 |some o=>
  by_cases hc:b=cb
  .obtain⟨cs,e2⟩:=c.blk;rw[hc,e2]at hb;cases hb
  .rw[k b o e hc]at hb;cases hb
theorem dD.nil(m:MH)(E:TypeId)(sz:Nat):dD m bF E sz []:=⟨⟨λ_ h=>by simp at h,λ_ h=>by simp at h⟩,.inl ⟨rfl,rfl⟩⟩
theorem rT.nil(m0 m:MH)(E:TypeId)(sz:Nat):rT m0 m bF E sz []:=⟨dD.nil m E sz,λb i e=>by cases e⟩
theorem rT.on{m0:MH}{s:Sl}{E:TypeId}(r:rT m0 m s E sz xs)(o:bA m m' cb)(c:aL m h cb)(hE:E≠82):rT m0 m' s E sz xs:=by
 refine⟨dD.keep r.row (λb i e=>o.other b (λe2=>?_)),r.fresh⟩;obtain⟨cur,h1⟩:=dD.blk r.row e;obtain⟨cs,h2⟩:=c.blk;rw[e2,h2]at h1;simp only[Option.some.injEq,Obj.cells.injEq]at h1;exact hE h1.2.1.symm
theorem rT.new{m0:MH}{s t:Sl}{E E':TypeId}{sz':Nat}{ys:List (List Value)}(r:rT m0 m s E sz xs)(x:nR m m' h t E' sz' ys):rT m0 m' s E sz xs:=by
 refine⟨dD.keep r.row (λb i e=>x.other b (λj e2=>?_)),r.fresh⟩;obtain⟨cur,h1⟩:=dD.blk r.row e;rw[(x.fresh b j e2).m_]at h1;cases h1
theorem nR.frow{m0:MH}{s:Sl}{E:TypeId}(x:nR m m' h s E sz xs)(k:Kept m0 m cb)(c:aL m h cb):rT m0 m' s E sz xs:=⟨x.row,λb i e=>k.free c (x.fresh b i e).m_⟩
theorem nR.at_cb{s:Sl}{E:TypeId}(x:nR m m' h s E sz xs)(c:aL m h cb):m' cb=m cb:=x.other cb (λi e=>by
 obtain⟨cs,e2⟩:=c.blk;rw[(x.fresh cb i e).m_]at e2;cases e2)
theorem Kept.new{m0:MH}{s:Sl}{E:TypeId}(k:Kept m0 m cb)(x:nR m m' h s E sz xs):Kept m0 m' cb:=λb o e n=>by
 rw[x.other b (λi e2=>by have:=(x.fresh b i e2).m_;rw[k b o e n]at this;cases this)];exact k b o e n
theorem rT.grown{m0:MH}{s s':Sl}{E:TypeId}{zs:List (List Value)}(r:rT m0 m s E sz xs)(x:dZ m m' s s' E sz zs)(k:Kept m0 m cb)(c:aL m h cb):rT m0 m' s' E sz zs:=
 ⟨x.row,λb i e=>by
  rcases x.fresh b i e with h1|⟨j,h1⟩
  .exact k.free c h1
  .exact r.fresh b j h1⟩
theorem rT.apart{m0:MH}{s t t':Sl}{E E':TypeId}{sz':Nat}{ys zs:List (List Value)}(r:rT m0 m s E sz xs)(q:rT m0 m t E' sz' ys)(x:dZ m m' t t' E' sz' zs)(hE:E≠E'):rT m0 m' s E sz xs:=by
 refine⟨dD.keep r.row (λb i e=>?_),r.fresh⟩;obtain⟨cur,h1⟩:=dD.blk r.row e;rw[h1];refine x.other b _ h1 (λj e2=>?_);obtain⟨cur2,h2⟩:=dD.blk q.row e2;rw[h1]at h2;simp only[Option.some.injEq,Obj.cells.injEq]at h2;exact hE h2.2.1
theorem Kept.grown{m0:MH}{s s':Sl}{E:TypeId}{zs:List (List Value)}(k:Kept m0 m cb)(r:rT m0 m s E sz xs)(x:dZ m m' s s' E sz zs):Kept m0 m' cb:=λb o e n=>x.other b o (k b o e n) (λi e2=>by rw[r.fresh b i e2]at e;cases e)
theorem dZ.at_cb{m0:MH}{s s':Sl}{E:TypeId}{zs:List (List Value)}(x:dZ m m' s s' E sz zs)(r:rT m0 m s E sz xs)(c:aL m h cb)(hE:E≠82):m' cb=m cb:=by
 obtain⟨cs,e⟩:=c.blk;rw[e];refine x.other cb _ e (λi e2=>?_);obtain⟨cur,h1⟩:=dD.blk r.row e2;rw[e]at h1;simp only[Option.some.injEq,Obj.cells.injEq]at h1;exact hE h1.2.1.symm
theorem OE{sz:Nat}:∀{xs:List (List Value)},(∀e∈xs,e.length=sz)->xs.flatten.length=xs.length*sz
 |[],_=>by simp
 |x::xs,h=>by
  simp only[List.flatten_cons,List.length_append,List.length_cons];rw[OE (λe he=>h e (by simp[he])),h x (by simp),Nat.add_mul];omega
theorem dD.src{s:Sl}{E:TypeId}{x:List Value}(r:dD m s E sz (x::xs)):oR m h s sz (x::xs):=by
 rcases r.ex with⟨_,e⟩|⟨b,cap,cur,rfl,hm,_,_,_,ht⟩
 .cases e
 .exact .lent b 0 cur E (0,0) rfl rfl hm (by rw[List.drop_zero,OE r.rows.len];exact ht)
def vG(m0 m:MH):MH:=λb=>match m0 b with|some _=>m b|none=>none
def BF(m0 m:MH)(h:PH):PH:=λb i=>match m0 b,m b with|none,some (.cells cs _ _)=>cs[i]? |_,_=>h b i
theorem Ny{m0 m:MH}{h:PH}(d:EF m h):PH.le h (BF m0 m h):=⟨λb i v e=>by
 unfold BF;split
 .rename_i cs E fz h1 h2;rw[d.disj b _ h2 i]at e;cases e
 .exact e⟩
theorem Uh{m0:MH}(d:EF m h):CW m h (vG m0 m) (BF m0 m h):=by
 refine⟨λb o e=>?_,Ny d,λb i v e=>?_⟩
 .unfold vG at e;split at e
  .exact e
  .cases e
 .unfold BF at e;split at e
  .rename_i cs E fz h1 h2;exact .inr ⟨cs,E,fz,h2,e,by unfold vG;rw[h1]⟩
  .exact .inl e
theorem FT{p:Prop}(h:p:=by repeat' (first|with_reducible rfl|exact trivial|exact Uh (by assumption)|refine⟨?_,?_⟩|rfl)):p:=h
theorem rT.ice{m0:MH}{s:Sl}{E:TypeId}(r:rT m0 m s E sz xs):a8 (BF m0 m h) s sz xs:=by
 rcases r.row.ex with⟨rfl,rfl⟩|⟨b,cap,cur,rfl,hm,hcp,_,_,ht⟩
 .exact a8.nil _ _
 .have h0:=r.fresh b 0 rfl;refine⟨rfl,.inr ⟨b,0,rfl,λi e hi=>⟨λj v hj=>?_⟩⟩,hcp⟩;have h1:=lJ r.row.rows.len hi j v hj;rw[<-ht,List.getElem?_take]at h1;split at h1
  .unfold BF;rw[h0,hm];simp only[Nat.zero_add];rw[<-Array.getElem?_toList];exact h1
  .cases h1
theorem keep_other{m0:MH}(k:Kept m0 m cb):bA m0 (vG m0 m) cb:=⟨λb hb=>by
 unfold vG;cases e:m0 b with
 |none=>rfl
 |some o=>exact k b o e hb⟩
theorem Ue{m0:MH}(c:aL m h cb)(h0:m0 cb≠none)(d:EF m h):aL (vG m0 m) (BF m0 m h) cb:=c.keep (by
 unfold vG;cases e:m0 cb with
 |none=>exact(h0 e).elim
 |some o=>rfl) (Ny d)
def QA(d:Nat)(q:Query):Prop:=QW q/\K6 d q
structure QM(d:Nat)(m0 m:MH)(h:PH)(v:QV)(vs:List QV):Prop where
 wher:∃w,eJ h w v.where_/\Gm w
 cols:∃co:List Int,rT m0 m v.columns 3 1 (co.map eI)/\co.length<=1000
 on_:∃l,lK h v.on l
 group_:∃l,Ints h v.group l
 order_:∃l,iJ h v.order l
 args_:rT m0 m v.args 38 21 (vs.map QV.enc)
 len_:vs.length<=2
 reps:∀v∈vs,∃q,dA h q v/\QA d q
theorem OH{d:Nat}{h:PH}:∀{vs:List QV},(∀v∈vs,∃q,dA h q v/\QA d q)->∃qs:List Query,qs.length=vs.length/\(∀q∈qs,QA d q)/\∀(i:Nat) q,qs[i]? =some q->∃v,vs[i]? =some v/\dA h q v
 |[],_=>⟨[],rfl,λq hq=>by simp at hq,λi q e=>by simp at e⟩
 |v::vs,h1=>by
  obtain⟨q,hq,hqw⟩:=h1 v (by simp);obtain⟨qs,e1,ew,e2⟩:=OH (vs:=vs) (λu hu=>h1 u (by simp[hu]));refine⟨q::qs,by simp[e1],λx hx=>by rcases List.mem_cons.1 hx with rfl|hx;exact hqw;exact ew x hx,λi x e=>?_⟩;cases i with
  |zero=>simp at e;subst e;exact⟨v,rfl,hq⟩
  |succ i=>simpa using e2 i x (by simpa using e)
theorem QM.ice{n:Nat}{m0:MH}{vs:List QV}(x:QM n m0 m h v vs)(d:EF m h):∃q,dA (BF m0 m h) q v/\QW q/\yK (n+1) q:=by
 obtain⟨w,hw,hww⟩:=x.wher;obtain⟨co,hc,hcl⟩:=x.cols;obtain⟨on,ho⟩:=x.on_;obtain⟨gr,hg⟩:=x.group_;obtain⟨od,hod⟩:=x.order_;obtain⟨qs,e1,ew,e2⟩:=OH x.reps;have le:=Ny (m0:=m0) d;have hl:=x.len_;exact⟨_,pJ.rep ⟨rfl,rfl,hw.mono le,⟨hc.ice,aC⟩,ho.mono le,hg.mono le,hod.mono le,rfl,⟨⟨vs,x.args_.ice,e1,λi q e=>let⟨v,k1,k2⟩:=e2 i q e;⟨v,k1,k2.mono le⟩⟩,aC⟩⟩,QG.2 ⟨hww,λa ha=>(ew a ha).1⟩,yK.node (λa ha=>(ew a ha).2) aC⟩
theorem QM.on{n:Nat}{m0:MH}{vs:List QV}(x:QM n m0 m h v vs)(o:bA m m' cb)(c:aL m h cb)(le:PH.le h h'):QM n m0 m' h' v vs:=by
 obtain⟨w,hw,hww⟩:=x.wher;obtain⟨co,hc,hcl⟩:=x.cols;obtain⟨on,ho⟩:=x.on_;obtain⟨gr,hg⟩:=x.group_;obtain⟨od,hod⟩:=x.order_;exact⟨⟨w,hw.mono le,hww⟩,⟨co,hc.on o c (by decide),hcl⟩,⟨on,ho.mono le⟩,⟨gr,hg.mono le⟩,⟨od,hod.mono le⟩,x.args_.on o c (by decide),x.len_,λv hv=>let⟨q,e,ew⟩:=x.reps v hv;⟨q,e.mono le,ew⟩⟩
theorem QM.new{d:Nat}{m0:MH}{vs:List QV}{t:Sl}{E:TypeId}{ys:List (List Value)}(x:QM d m0 m h v vs)(n:nR m m' h' t E sz ys)(le:PH.le h h'):QM d m0 m' h' v vs:=by
 obtain⟨w,hw,hww⟩:=x.wher;obtain⟨co,hc,hcl⟩:=x.cols;obtain⟨on,ho⟩:=x.on_;obtain⟨gr,hg⟩:=x.group_;obtain⟨od,hod⟩:=x.order_;exact⟨⟨w,hw.mono le,hww⟩,⟨co,hc.new n,hcl⟩,⟨on,ho.mono le⟩,⟨gr,hg.mono le⟩,⟨od,hod.mono le⟩,x.args_.new n,x.len_,λv hv=>let⟨q,e,ew⟩:=x.reps v hv;⟨q,e.mono le,ew⟩⟩
theorem QM.grow{d:Nat}{m0:MH}{v':QV}{vs:List QV}{s':Sl}{u:QV}(x:QM d m0 m h v vs)(g:dZ m m' v.args s' 38 21 (vs.map QV.enc++[u.enc]))(k:Kept m0 m cb)(c:aL m h cb)(hu:∃q,dA h q u/\QA d q)(hl:vs.length<=1)
 (ew:v'.where_=v.where_)(ec:v'.columns=v.columns)(eo:∃l,lK h v'.on l)(eg:∃l,Ints h v'.group l)(ed:∃l,iJ h v'.order l)(ea:v'.args=s'):QM d m0 m' h v' (vs++[u]):=by
 obtain⟨co,hc,hcl⟩:=x.cols;refine⟨by rw[ew];exact x.wher,⟨co,by rw[ec];exact hc.apart x.args_ g (by decide),hcl⟩,eo,eg,ed,by rw[ea,List.map_append];exact x.args_.grown g k c,by simp;omega,λv hv=>?_⟩;rcases List.mem_append.1 hv with h1|h1
 .exact x.reps v h1
 .simp at h1;subst h1;exact hu
theorem SQ(h:eK s=0):BM s:=Classical.byContradiction λhn=>by rw[tO hn]at h;cases h
theorem xR(h:eK s=0):oU s:=λt ht=>by
 obtain⟨i,hi⟩:=List.mem_iff_getElem?.1 ht;have:=(SQ h).2 i t hi;exact this.1
theorem AP(h:eK s=0):s.tables.length<=8:=(SQ h).1
theorem AS(s:oS)(ps:List Int)(q:Query):(dG s ps q).1.length<=12:=by
 unfold dG;split
 .split
  .split
   .exact BB s ps q
   .simp[iY]
  .simp[iY]
 .simp[iY]
theorem M6{t:Int}(he:eK s=0)(hp:ps.all cV=true)(h0:0<=t)(h1:t<s.tables.length):(dG s ps (.mk 1 t hZ [] [] [] [] 0 [])).2=0:=by
 have h8:=xR he
 have hk:(gT s t).length<=12:=by
  unfold gT;split
  .simp
  .split
   .simp
   .rename_i x hx;have:=h8 x (List.mem_of_getElem? hx);simp;omega
 have e1:bY s ps (.mk 1 t hZ [] [] [] [] 0 [])=iC s ps (.mk 1 t hZ [] [] [] [] 0 []) [] []:=by simp[bY,eX,arity]
 have e2:iR (.mk 1 t hZ [] [] [] [] 0 [])=true:=by rfl
 unfold dG;rw[if_pos he,if_pos hp,if_pos e2,e1];unfold iC;rw[if_neg (by simp[arity,dE])];simp only[if_true];rw[if_pos ⟨h0,h1⟩];unfold Ah;rw[if_pos hk]
structure ZK(m0:MH)(h3:PH)(cb:Nat)(a q:QV)(mx:MH):Prop where
 case_:aL mx h3 cb
 kept:Kept m0 mx cb
 ex:∃o args,q=⟨o,0,eV,bF,bF,bF,bF,0,args⟩/\rT m0 mx args 38 21 ([a].map QV.enc)
theorem ZK.qm{d:Nat}{m0 mx:MH}{h3:PH}{a q:QV}(x:ZK m0 h3 cb a q mx)(hr:∃qa,dA h3 qa a/\QA d qa):QM d m0 mx h3 q [a]:=by
 obtain⟨o,args,rfl,hf⟩:=x.ex;exact⟨⟨_,Am h3,AT⟩,⟨[],rT.nil _ _ _ _,by simp⟩,⟨_,pM _⟩,⟨_,iQ _⟩,⟨_,tN _⟩,hf,by simp,λv hv=>by simp at hv;subst hv;exact hr⟩
theorem Tn:∀N,Sound Tryz.prog 13 (Sz N)
 |0=>by
  refine eD (fn:=Tryz.f13) (c:=dJ Tryz.f13) Tryz.func13 rfl (by decide) ?_;rintro cvs m h K ⟨cb,sc,p,s,ps,deep,rfl,_,_,_,_,_,_,_,_,_,hN,_⟩;omega
 |N+1=>by
  refine iB Tryz.func13 ?_;rintro cvs m h K ⟨cb,sc,p,s,ps,deep,rfl,hc,hs,he,hne,hp,hpl,hpk,d0,d1,hN,hK⟩;refine⟨Ym N cb sc p,rfl,aD GQ (aD LJ (aD LM (aD UF (aD LL (aD UE (aD DC (aD (Tn N) aF))))))),P1 N cb sc p deep m h K,by kernel_rfl,?_⟩;have htl:=hs.tables.slen;have h8:=xR he;have ht8:=AP he;have htp:0<s.tables.length:=List.length_pos_iff.2 hne;have hif:(if(sc.tables.len:Int)>1 then(sc.tables.len:Int)else 1)=(sc.tables.len:Int):=by split<;>omega
  have hm0:m cb≠none:=by obtain⟨cs,e⟩:=hc.blk;rw[e];simp
  dsimp only[P1,push_cast];rw[hif];refine⟨cb,12,rfl,hc,λk m1 k0 k1 o1 c1=>?_⟩;refine aE (λhd=>?_) (λhd=>aB (λ_=>?_) (λ_=>aB (λ_=>?_) (λ_=>?_)))
  .exact⟨cb,_,rfl,c1,λk2 m2 k20 k21 o2 c2=>⟨k2,rfl,hK _ _ m2 h (.refl _) (Ao h k2) (EW k2) (yK.mono (d:=0) oH.scan (Nat.zero_le _)) (M6 he hpk k20 aC) (o1.trans o2) c2⟩⟩
  .exact⟨cb,_,rfl,c1,λk2 m2 k20 k21 o2 c2=>⟨k2,rfl,hK _ _ m2 h (.refl _) (Ao h k2) (EW k2) (yK.mono (d:=0) oH.scan (Nat.zero_le _)) (M6 he hpk k20 aC) (o1.trans o2) c2⟩⟩
  .exact⟨cb,_,rfl,c1,λk2 m2 k20 k21 o2 c2=>⟨k2,rfl,hK _ _ m2 h (.refl _) (Ao h k2) (EW k2) (yK.mono (d:=0) oH.scan (Nat.zero_le _)) (M6 he hpk k20 aC) (o1.trans o2) c2⟩⟩
  have hw1:IntKind.i64.wrap (deep-1)=deep-1:=dW aC aC;have hw2:IntKind.i64.wrap (deep-2)=deep-2:=dW aC aC;rw[hw1];refine⟨cb,sc,p,s,ps,deep-1,rfl,c1,hs,he,hne,hp,hpl,hpk,aC,aC,aC,λa qa m2 h2 le2 ra qaw0 qaf qa0 o2 c2=>⟨sc,p,a,s,ps,qa,rfl,hs.mono le2,hp.mono le2,ra,λkk h3 le3 ik=>?_⟩⟩;have hkl:=AS s ps qa;obtain⟨dd,hdd⟩:∃dd,(deep-1).toNat=dd:=⟨_,rfl⟩
  have hde:deep.toNat=dd+1:=by omega
  rw[hdd]at qaf;have qaw:QA dd qa:=⟨qaw0,qaf.arg⟩
  generalize hks:(dG s ps qa).fst=ks at ik hkl;clear hks;have hle3:PH.le h h3:=le2.trans le3;have ra3:dA h3 qa a:=ra.mono le3;refine⟨λ⟨d,op,a',q,k',mx,hx⟩=>d=deep/\a'=a/\k'=kk/\hx=h3/\ZK m h3 cb a q mx,λs1 m3 hnew=>⟨(deep,IntKind.i64.wrap (1+k),a,⟨IntKind.i64.wrap (1+k),0,eV,bF,bF,bF,bF,0,s1⟩,kk,m3,h3),⟨rfl,rfl,rfl,rfl,?_⟩,MT⟩,?_⟩
  .have k2:=(Kept.of o1).on o2;have c3:=c2.mono le3;exact⟨c3.keep (nR.at_cb hnew c3) (.refl _),k2.new hnew,_,_,rfl,nR.frow hnew k2 c3⟩
  rintro⟨deep,op,a',q,k',mx,hx⟩ ⟨rfl,rfl,rfl,rfl,mid⟩;dsimp only;have reach:∀(q:QV)(vs:List QV)(my:MH)(hy:PH),PH.le hx hy->Kept m my cb->aL my hy cb->QM dd m my hy q vs->EF my hy->PH.le hx (BF m my hy)/\bA m (vG m my) cb/\aL (vG m my) (BF m my hy) cb/\∃qq,dA (BF m my hy) qq q/\QW qq/\yK (dd+1) qq:=λq vs my hy l k c x d=>⟨l.trans (Ny d),keep_other k,Ue c hm0 d,x.ice d⟩
  have join:∀(q:QV)(u:QV)(s1:Sl)(my:MH)(hy:PH)(Q:Sl->MH->Prop),PH.le hx hy->Kept m my cb->aL my hy cb->QM dd m my hy q [a']->rT m my s1 38 21 [u.enc]->(∃qu,dA hy qu u/\QA dd qu)->
   (∀s' m',(∀q':QV,q'.where_=q.where_->q'.columns=q.columns->(∃l,lK hy q'.on l)->(∃l,Ints hy q'.group l)->(∃l,iJ hy q'.order l)->q'.args=s'->QM dd m m' hy q' [a',u])->Kept m m' cb->aL m' hy cb->Q s' m')->
   ∃xs,dD my ⟨q.args.a,q.args.len,q.args.cap⟩ 38 21 xs/\∃ys,dY 21 ys/\oR my hy ⟨s1.a,s1.len,s1.cap⟩ 21 ys/\(xs.length+ys.length)*280<=140737488355328/\xs.length+ys.length<=140737488355328/\∀(s':Sl)(m':MH),dZ my m' ⟨q.args.a,q.args.len,q.args.cap⟩ s' 38 21 (xs++ys)->Q s' m':=
   λq u s1 my hy Q l k c x f hu hQ=>⟨_,x.args_.row,[u.enc],Vy [u],dD.src f.row,by simp,by simp,λs' m' g=>hQ s' m' (λq' e1 e2 e3 e4 e5 e6=>x.grow g k c hu (by simp) e1 e2 e3 e4 e5 e6) (k.grown x.args_ g) (c.keep (dZ.at_cb g x.args_ c (by decide)) (.refl _))⟩
  refine⟨λ⟨a2,q,my,hy⟩=>a2=a'/\PH.le hx hy/\bA m my cb/\aL my hy cb/\∃qq,dA hy qq q/\QW qq/\yK (dd+1) qq,aB (λ_=>?_) (λ_=>?_),?_⟩
  ·
   refine⟨cb,3,rfl,mid.case_,λn m3 n0 n1 o3 c3=>?_⟩;refine⟨λ⟨a2,q,k2,n,my,hy⟩=>a2=a'/\k2=k'/\hy=hx/\ -1<=n/\n<=2/\aL my hx cb/\Kept m my cb/\QM dd m my hx q [a']/\∃co:List Int,rT m my q.columns 3 1 (co.map eI)/\(co.length:Int)<=2-n,λ⟨_,_,_,n,_,_⟩=>(n+1).toNat,⟨(a',q,k',n,m3,hx),⟨rfl,rfl,rfl,by show-1<=n;omega,by show n<=2;omega,c3,mid.kept.on o3,(mid.qm ⟨qa,ra3,qaw⟩).on o3 mid.case_ (.refl _),[],?_,by simp;omega⟩,MT⟩,?_⟩
   .obtain⟨o,args,rfl,hf⟩:=mid.ex;exact rT.nil _ _ _ _
   clear mid q c3 o3 m3 n0 n1 n;rintro⟨a2,q,k2,n,my,hy⟩ ⟨rfl,rfl,rfl,n0,n1,cy,ky,qm,co,fco,hcol⟩;dsimp only;refine aE (λhn=>⟨cb,_,rfl,cy,λc m4 _ _ o4 c4=>⟨_,(fco.on o4 cy (by decide)).row,by simp;omega,by simp;omega,λs' m5 g=>?_⟩⟩) (λhn d=>⟨(a2,q,vG m my,BF m my hy),⟨rfl,reach q _ my hy (.refl _) ky cy qm d⟩,FT⟩);have f4:=fco.on o4 cy (by decide);have q4:=qm.on o4 cy (.refl _);have k4:=ky.on o4;have f5:rT m m5 s' 3 1 ((co++[c]).map eI):=by rw[List.map_append];exact f4.grown g k4 c4
   have hw3:IntKind.i64.wrap (n-1)=n-1:=dW aC aC;rw[hw3];refine⟨(a2,{q with columns:=s'},k2,n-1,m5,hy),⟨rfl,rfl,rfl,by show-1<=n-1;omega,by show n-1<=2;omega,c4.keep (dZ.at_cb g f4 c4 (by decide)) (.refl _),k4.grown f4 g,⟨q4.wher,⟨_,f5,by simp;omega⟩,q4.on_,q4.group_,q4.order_,q4.args_.apart f4 g (by decide),q4.len_,q4.reps⟩,_,f5,by simp;omega⟩,by show(n-1+1).toNat<(n+1).toNat;omega,MT⟩
  .refine⟨λ⟨d,op,a2,q,k2,t,my,hy⟩=>d=deep/\a2=a'/\k2=k'/\hy=hx/\ZK m hx cb a' q my,aB (λ_=>⟨(deep,op,a',q,k',true,mx,hx),⟨rfl,rfl,rfl,rfl,mid⟩,MT⟩) (λ_=>⟨(deep,op,a',q,k',op==5,mx,hx),⟨rfl,rfl,rfl,rfl,mid⟩,MT⟩),?_⟩;clear mid q mx;rintro⟨deep,op,a',q,k',t,mx,hx⟩ ⟨rfl,rfl,rfl,rfl,mid⟩;dsimp only;refine aB (λ_=>?_) (λ_=>?_)
   ·
    rw[hw2];refine⟨cb,sc,p,s,ps,deep-2,rfl,mid.case_,hs.mono hle3,he,hne,hp.mono hle3,hpl,hpk,by show-1<=deep-2;omega,aC,aC,λb qb m5 h5 le5 rb qbw0 qbf _ o5 c5=>⟨sc,p,b,s,ps,qb,rfl,hs.mono (hle3.trans le5),hp.mono (hle3.trans le5),rb,λl h6 le6 il=>?_⟩⟩;have qbw:QA dd qb:=⟨qbw0,(qbf.mono aC).arg⟩
    have hll:=AS s ps qb;generalize hls:(dG s ps qb).fst=ls at il hll;have q6:QM dd m m5 h6 q [a']:=(mid.qm ⟨qa,ra3,qaw⟩).on o5 mid.case_ (le5.trans le6);have k6:=mid.kept.on o5;have c6:=c5.mono le6;refine⟨λ⟨a2,b2,q,k2,l2,my,hy⟩=>a2=a'/\b2=b/\k2=k'/\l2=l/\hy=h6/\aL my h6 cb/\Kept m my cb/\QM dd m my h6 q [a'],aB (λ_=>aE (λ_=>⟨(a',b,{q with op:=5},k',l,m5,h6),⟨rfl,rfl,rfl,rfl,rfl,c6,k6,⟨q6.wher,q6.cols,q6.on_,q6.group_,q6.order_,q6.args_,q6.len_,q6.reps⟩⟩,MT⟩) (λ_=>⟨(a',b,q,k',l,m5,h6),⟨rfl,rfl,rfl,rfl,rfl,c6,k6,q6⟩,MT⟩)) (λ_=>⟨(a',b,q,k',l,m5,h6),⟨rfl,rfl,rfl,rfl,rfl,c6,k6,q6⟩,MT⟩),?_⟩;have rb6:=rb.mono le6;have hx6:PH.le hx h6:=le5.trans le6;clear q6 k6 c6 o5 c5 rb le5 mid q;rintro⟨a2,b,q,k2,l,my,h6⟩ ⟨rfl,rfl,rfl,rfl,rfl,c6,k6,q6⟩;dsimp only;refine⟨⟨cb,k2,l,ks,ls,rfl,c6,ik.mono hx6,il,aC,aC,λo on m7 h7 le7 hon _ o7 c7 s1 m8 hnew=>?_⟩,λs1 m7 hnew=>⟨cb,k2,l,ks,ls,rfl,c6.keep (nR.at_cb hnew c6) (.refl _),ik.mono hx6,il,aC,aC,λo on m8 h7 le7 hon _ o8 c8=>?_⟩⟩
    .have k7:=k6.on o7;refine join q b s1 m8 h7 _ (hx6.trans le7) (k7.new hnew) (c7.keep (nR.at_cb hnew c7) (.refl _)) ((q6.on o7 c6 le7).new hnew (.refl _)) (nR.frow hnew k7 c7) ⟨qb,rb6.mono le7,qbw⟩ (λs' m9 hq k9 c9 d=>?_);exact⟨(a2,{q with on:=o,args:=s'},vG m m9,BF m m9 h7),⟨rfl,reach _ _ m9 h7 (hx6.trans le7) k9 c9 (hq {q with on:=o,args:=s'} rfl rfl ⟨on,hon⟩ (let⟨l,e⟩:=q6.group_;⟨l,e.mono le7⟩) (let⟨l,e⟩:=q6.order_;⟨l,e.mono le7⟩) rfl) d⟩,FT⟩
    .have k7:=k6.new hnew;have c7:aL m7 h6 cb:=c6.keep (nR.at_cb hnew c6) (.refl _);have k8:=k7.on o8;refine join q b s1 m8 h7 _ (hx6.trans le7) k8 c8 ((q6.new hnew (.refl _)).on o8 c7 le7) ((nR.frow hnew k6 c6).on o8 c7 (by decide)) ⟨qb,rb6.mono le7,qbw⟩ (λs' m9 hq k9 c9 d=>?_);exact⟨(a2,{q with on:=o,args:=s'},vG m m9,BF m m9 h7),⟨rfl,reach _ _ m9 h7 (hx6.trans le7) k9 c9 (hq {q with on:=o,args:=s'} rfl rfl ⟨on,hon⟩ (let⟨l,e⟩:=q6.group_;⟨l,e.mono le7⟩) (let⟨l,e⟩:=q6.order_;⟨l,e.mono le7⟩) rfl) d⟩,FT⟩
   .refine⟨λ⟨op,a2,q,k2,t,my,hy⟩=>a2=a'/\k2=k'/\hy=hx/\ZK m hx cb a' q my,aB (λ_=>⟨(op,a',q,k',true,mx,hx),⟨rfl,rfl,rfl,mid⟩,MT⟩) (λ_=>aB (λ_=>⟨(op,a',q,k',true,mx,hx),⟨rfl,rfl,rfl,mid⟩,MT⟩) (λ_=>⟨(op,a',q,k',op==8,mx,hx),⟨rfl,rfl,rfl,mid⟩,MT⟩)),?_⟩;clear mid q mx;rintro⟨op,a',q,k',t,mx,hx⟩ ⟨rfl,rfl,rfl,mid⟩;dsimp only;have q3:=mid.qm ⟨qa,ra3,qaw⟩;refine aB (λ_=>?_) (λ_=>aB (λ_=>?_) (λ_=>aB (λ_=>?_) (λ_=>?_)))
    ·
     refine⟨cb,sc,p,k',a',s,ps,ks,qa,rfl,mid.case_,hs.mono hle3,h8,aC,hp.mono hle3,hpl,ik,aC,ra3,qaw.1,λw qw m5 h5 le5 rw5 qww o5 c5 s1 m6 hnew=>?_⟩;have k5:=mid.kept.on o5;refine join q w s1 m6 h5 _ le5 (k5.new hnew) (c5.keep (nR.at_cb hnew c5) (.refl _)) ((q3.on o5 mid.case_ le5).new hnew (.refl _)) (nR.frow hnew k5 c5) ⟨qw,rw5,qww.qw,qww.siz dd qaf⟩ (λs' m9 hq k9 c9 d=>?_);have q5:=q3.on o5 mid.case_ le5;exact⟨(a',{q with args:=s'},vG m m9,BF m m9 h5),⟨rfl,reach _ _ m9 h5 le5 k9 c9 (hq {q with args:=s'} rfl rfl q5.on_ q5.group_ q5.order_ rfl) d⟩,FT⟩
    ·
     obtain⟨o,args,rfl,hf⟩:=mid.ex;refine⟨cb,⟨o,0,eV,bF,bF,bF,bF,0,args⟩,k',ks,rfl,mid.case_,ik,aC,λg od kk gr odl m5 h5 le5 hg hod _ _ _ _ o5 c5 d=>?_⟩;have q5:=q3.on o5 mid.case_ le5;exact⟨(a',⟨o,0,eV,bF,bF,g,od,kk,args⟩,vG m m5,BF m m5 h5),⟨rfl,reach _ [a'] m5 h5 le5 (mid.kept.on o5) c5 ⟨q5.wher,q5.cols,q5.on_,⟨gr,hg⟩,⟨odl,hod⟩,q5.args_,q5.len_,q5.reps⟩ d⟩,FT⟩
    ·
     obtain⟨o,args,rfl,hf⟩:=mid.ex;refine⟨cb,⟨o,0,eV,bF,bF,bF,bF,0,args⟩,k',ks,rfl,mid.case_,ik,aC,λg od kk gr odl m5 h5 le5 hg hod _ _ _ _ o5 c5=>?_⟩;have q5:=q3.on o5 mid.case_ le5;have q5':QM dd m m5 h5 ⟨o,0,eV,bF,bF,g,od,kk,args⟩ [a']:=⟨q5.wher,q5.cols,q5.on_,⟨gr,hg⟩,⟨odl,hod⟩,q5.args_,q5.len_,q5.reps⟩
     refine⟨cb,sc,p,k',a',s,ps,ks,qa,rfl,c5,hs.mono (hle3.trans le5),h8,aC,hp.mono (hle3.trans le5),hpl,ik.mono le5,aC,ra3.mono le5,qaw.1,λw qw m6 h6 le6 rw6 qww o6 c6 s1 m7 hnew=>?_⟩;have k6:=(mid.kept.on o5).on o6;refine join ⟨o,0,eV,bF,bF,g,od,kk,args⟩ w s1 m7 h6 _ (le5.trans le6) (k6.new hnew) (c6.keep (nR.at_cb hnew c6) (.refl _)) ((q5'.on o6 c5 le6).new hnew (.refl _)) (nR.frow hnew k6 c6) ⟨qw,rw6,qww.qw,qww.siz dd qaf⟩ (λs' m9 hq k9 c9 d=>?_);exact⟨(a',⟨o,0,eV,bF,bF,g,od,kk,s'⟩,vG m m9,BF m m9 h6),⟨rfl,reach _ _ m9 h6 (le5.trans le6) k9 c9 (hq ⟨o,0,eV,bF,bF,g,od,kk,s'⟩ rfl rfl ⟨_,pM _⟩ ⟨gr,hg.mono le6⟩ ⟨odl,hod.mono le6⟩ rfl) d⟩,FT⟩
    ·
     refine⟨⟨cb,k',p,ks,ps,2,rfl,mid.case_,ik,hp.mono hle3,aC,hpl,aC,λpv pp m5 h5 le5 rp rpw o5 c5 s1 m6 hnew d=>?_⟩,λs1 m5 hnew=>⟨cb,k',p,ks,ps,2,rfl,mid.case_.keep (nR.at_cb hnew mid.case_) (.refl _),ik,hp.mono hle3,aC,hpl,aC,λpv pp m6 h5 le5 rp rpw o6 c6 d=>?_⟩⟩
     .have k5:=mid.kept.on o5;exact⟨(a',⟨2,0,pv,bF,bF,bF,bF,0,s1⟩,vG m m6,BF m m6 h5),⟨rfl,reach _ [a'] m6 h5 le5 (k5.new hnew) (c5.keep (nR.at_cb hnew c5) (.refl _)) ⟨⟨pp,rp,rpw.vals⟩,⟨[],rT.nil _ _ _ _,by simp⟩,⟨_,pM _⟩,⟨_,iQ _⟩,⟨_,tN _⟩,nR.frow hnew k5 c5,by simp,λv hv=>by simp at hv;subst hv;exact⟨qa,ra3.mono le5,qaw⟩⟩ d⟩,FT⟩
     .have k5:=mid.kept.new hnew;have c5:aL m5 hx cb:=mid.case_.keep (nR.at_cb hnew mid.case_) (.refl _);exact⟨(a',⟨2,0,pv,bF,bF,bF,bF,0,s1⟩,vG m m6,BF m m6 h5),⟨rfl,reach _ [a'] m6 h5 le5 (k5.on o6) c6 ⟨⟨pp,rp,rpw.vals⟩,⟨[],rT.nil _ _ _ _,by simp⟩,⟨_,pM _⟩,⟨_,iQ _⟩,⟨_,tN _⟩,(nR.frow hnew mid.kept mid.case_).on o6 c5 (by decide),by simp,λv hv=>by simp at hv;subst hv;exact⟨qa,ra3.mono le5,qaw⟩⟩ d⟩,FT⟩
  .rintro⟨a2,q,my,hy⟩ ⟨rfl,ley,oy,cy,qq,rq,rqw,rqf⟩;dsimp only;refine⟨sc,p,q,s,ps,qq,rfl,hs.mono (hle3.trans ley),hp.mono (hle3.trans ley),rq,λsl h5 le5 _=>aB (λe=>?_) (λe=>?_)⟩
   .exact hK a2 qa my h5 ((hle3.trans ley).trans le5) ((ra3.mono ley).mono le5) qaw.1 (by rw[hde];exact qaf.mono aC) qa0 oy (cy.mono le5)
   .exact hK q qq my h5 ((hle3.trans ley).trans le5) (rq.mono le5) rqw (by rw[hde];exact rqf) (by simpa using e) oy (cy.mono le5)
mutual
def vB(st:List (List (List VV))):Query->List (List VV)
 |.mk op ta w co on gr od li args=>if op=1 then st.getD ta.toNat []else Zd op (.mk op ta w co on gr od li args) (OA st args)
def OA(st:List (List (List VV))):List Query->List (List (List VV))
 |[]=>[]
 |q::qs=>vB st q::OA st qs
end
structure CT(st ls:List (List (List VV)))(k:Nat)(ts:List Int):Prop where
 at_:∀(j:Nat)(t:Int),ts[j]? =some t->ls.getD (k+j) []=st.getD t.toNat []
theorem CT.left{st ls:List (List (List VV))}{b:List Int}(x:CT st ls k (a++b)):CT st ls k a:=
 ⟨λj t h=>x.at_ j t (by rw[List.getElem?_append_left (List.getElem?_eq_some_iff.1 h).1];exact h)⟩
theorem CT.right{st ls:List (List (List VV))}{b:List Int}(x:CT st ls k (a++b)):CT st ls (k+a.length) b:=
 ⟨λj t h=>by
  have:=x.at_ (a.length+j) t (by rw[List.getElem?_append_right aC,Nat.add_sub_cancel_left];exact h)
  rwa [show k+a.length+j=k+(a.length+j)by omega]⟩
theorem T4{args:List Query}{kss:List (List Int)}(h1:eX s ps args=(kss,0))(h2:(kss.length:Int)=arity 1):args=[]:=by
 cases args with
 |nil=>rfl
 |cons q qs=>obtain⟨_,_,_,_,rfl⟩:=j6 h1;simp[arity]at h2;omega
mutual
theorem Mu{s:oS}{ps:List Int}{st ls:List (List (List VV))}:∀{q:Query}{ks:List Int}{k:Nat},bY s ps q=(ks,0)->CT st ls k (jJ q)->jI ls q k=(vB st q,k+(jJ q).length)
 |.mk op ta w co on gr od li args,ks,k,h,hl=>by
  obtain⟨kss,h1,h2,h3⟩:=yC h;by_cases e:op=1
  .subst e;have h0:=T4 h1 h2;subst h0;have hs:jJ (.mk 1 ta w co on gr od li [])=[ta]:=by simp[jJ,gY]
   rw[hs]at hl⊢
   have:=hl.at_ 0 ta rfl;rw[Nat.add_zero]at this;rw[jI,vB,if_pos rfl,if_pos rfl,this];rfl
  .have hs:jJ (.mk op ta w co on gr od li args)=gY args:=by simp[jJ,e]
   rw[hs]at hl⊢
   rw[jI,vB,if_neg e,if_neg e,Kr h1 hl]
theorem Kr{s:oS}{ps:List Int}{st ls:List (List (List VV))}:∀{qs:List Query}{kss:List (List Int)}{k:Nat},eX s ps qs=(kss,0)->CT st ls k (gY qs)->eG ls qs k=(OA st qs,k+(gY qs).length)
 |[],kss,k,h,_=>by simp[eG,OA,gY]
 |q::qs,kss,k,h,hl=>by
  obtain⟨k1,kss',h1,h2,rfl⟩:=j6 h;rw[gY]at hl;rw[eG,OA,gY,Mu h1 hl.left,Kr h2 hl.right,List.length_append,Nat.add_assoc]
end
mutual
theorem Ju{s:oS}{ps:List Int}:∀{q:Query}{ks:List Int},bY s ps q=(ks,0)->∀t∈jJ q,0<=t/\t<s.tables.length
 |.mk op ta w co on gr od li args,ks,h,t,ht=>by
  obtain⟨kss,h1,h2,h3⟩:=yC h;rw[jJ]at ht;rcases List.mem_append.1 ht with h5|h5
  .split at h5
   .rename_i e;subst e;simp only[List.mem_singleton]at h5;subst h5;unfold iC at h3;dsimp only at h3;split at h3
    .simp[iY]at h3
    try rw[if_pos rfl]at h3
    split at h3
    .rename_i h4;exact h4
    .simp[iY]at h3
   .simp at h5
  .exact Lc h1 t h5
theorem Lc{s:oS}{ps:List Int}:∀{qs:List Query}{kss:List (List Int)},eX s ps qs=(kss,0)->∀t∈gY qs,0<=t/\t<s.tables.length
 |[],kss,h,t,ht=>by rw[gY]at ht;simp at ht
 |q::qs,kss,h,t,ht=>by
  obtain⟨k1,kss',h1,h2,rfl⟩:=j6 h;rw[gY]at ht;rcases List.mem_append.1 ht with ht|ht
  .exact Ju h1 t ht
  .exact Lc h2 t ht
end
def xG(key:Int)(k:Int)(i:Nat)(v:VV):Bool:=jV v&&(v.kind==k||((v.kind==2||v.kind==1)&&decide (key<=(i:Int))))
def CH(t:vL)(r:List VV):Bool:=decide (r.length=t.columns.length)&&(List.range r.length).all λi=>xG t.key (t.columns.getD i ⟨⟨#[]⟩,0⟩).kind i (r.getD i zeroV)
def jU(t:vL)(r:List VV):List VV:=r.take (max 0 (min t.key r.length)).toNat
def SM(t:vL)(l:List (List VV)):Prop:=(∀r∈l,CH t r=true)/\∀(i:Nat) r r',l[i]? =some r->l[i+1]? =some r'->dP (jU t r) (jU t r')<0
def Jn(s:oS)(st:List (List (List VV))):Prop:=∀(i:Nat) t l,s.tables[i]? =some t->st[i]? =some l->SM t l
open Classical in
noncomputable def oI(s:oS)(st:List (List (List VV))):Int:=
 if eK s≠0 then eK s else if 512<(st.map λl=>(l.length:Int)).sum then 2 else if st.length≠s.tables.length then 80 else if Jn s st then 0 else 80
def ZF(st:List (List (List VV))):Prop:=∀l∈st,∀r∈l,∀v∈r,N2 v.kind/\N2 v.int
def xT(t:vL)(key row:List VV):Bool->List (List VV)->List (List VV)
 |d,[]=>if d then[]else[row]
 |d,r::l=>(if 0<=dP (jU t r) key/\d=false then[row]else[])++((if dP (jU t r) key≠0 then[r]else[])++xT t key row (d||decide (0<=dP (jU t r) key)) l)
def K5(t:vL)(l:List (List VV)):Prop:=l.Pairwise λx y=>dP (jU t x) (jU t y)<0
theorem NJ{x y z:List VV}(h1:dP x y<0)(h2:dP y z<0):dP x z<0:=by
 have:=yF x y z aC aC;rcases Int.lt_or_eq_of_le this with h|h
 .exact h
 .rw[lC]at h;subst h;have:=lD x y;omega
theorem Jz{t:vL}{key row:List VV}:∀{l:List (List VV)},(∀r∈l,0<dP (jU t r) key)->xT t key row true l=l
 |[],_=>rfl
 |r::l,h=>by
  have h1:=h r (List.mem_cons_self ..);rw[xT,if_neg (by simp),if_pos aC,Bool.true_or,Jz λx hx=>h x (List.mem_cons_of_mem _ hx)];rfl
theorem Ip{t:vL}{key row z:List VV}:∀{l:List (List VV)}{d:Bool},z∈xT t key row d l->z=row\/z∈l
 |[],d,h=>by
  rw[xT]at h;split at h
  .simp at h
  .simp at h;exact .inl h
 |r::l,d,h=>by
  rw[xT]at h;rcases List.mem_append.1 h with h|h
  .split at h
   .simp at h;exact .inl h
   .simp at h
  .rcases List.mem_append.1 h with h|h
   .split at h
    .simp at h;exact .inr (by simp[h])
    .simp at h
   .exact(Ip h).imp id λh=>List.mem_cons_of_mem _ h
theorem Iq{t:vL}{key row:List VV}:∀{l:List (List VV)}{d:Bool},(xT t key row d l).length<=l.length+(if d then 0 else 1)
 |[],d=>by rw[xT];cases d<;>simp
 |r::l,d=>by
  have:=Iq (t:=t) (key:=key) (row:=row) (l:=l) (d:=d||decide (0<=dP (jU t r) key));rw[xT];simp only[List.length_append,List.length_cons];by_cases h:0<=dP (jU t r) key
  .cases d<;>by_cases h2:dP (jU t r) key=0<;>simp[h,h2]at this⊢ <;>omega
  .cases d<;>by_cases h2:dP (jU t r) key=0<;>simp[h,h2]at this⊢ <;>omega
theorem JA{t:vL}{row:List VV}:∀{l:List (List VV)},K5 t l->K5 t (xT t (jU t row) row false l)
 |[],_=>by rw[xT];exact List.pairwise_singleton _ _
 |r::l,h=>by
  obtain⟨h1,h2⟩:=List.pairwise_cons.1 h;rw[xT];by_cases h3:0<=dP (jU t r) (jU t row)
  .rw[if_pos ⟨h3,rfl⟩,show(false||decide (0<=dP (jU t r) (jU t row)))=true by simp[h3]];by_cases h4:dP (jU t r) (jU t row)=0
   .rw[if_neg (by simp[h4])];have e:=lC.1 h4
    rw[Jz λx hx=>by
     have h5:=h1 x hx;rw[e]at h5;have:=lD (jU t x) (jU t row);omega]
    exact List.pairwise_cons.2 ⟨λx hx=>by rw[<-e];exact h1 x hx,h2⟩
   .rw[if_pos h4];have h5:dP (jU t row) (jU t r)<0:=by have:=lD (jU t row) (jU t r);omega
    rw[Jz λx hx=>by
     have h6:=NJ h5 (h1 x hx);have:=lD (jU t x) (jU t row);omega]
    refine List.pairwise_cons.2 ⟨λx hx=>?_,h⟩;rcases List.mem_cons.1 hx with rfl|hx
    .exact h5
    .exact NJ h5 (h1 x hx)
  .rw[if_neg (by simp[h3]),if_pos aC,show(false||decide (0<=dP (jU t r) (jU t row)))=false by simp[h3]];refine List.pairwise_cons.2 ⟨λx hx=>?_,JA h2⟩;rcases Ip hx with rfl|hx
   .omega
   .exact h1 x hx
theorem Ot{st:List (List (List VV))}(h:oI s st=0):eK s=0/\st.length=s.tables.length/\Jn s st/\(st.map λl=>(l.length:Int)).sum<=512:=by
 unfold oI at h;split at h
 .rename_i h1;exact absurd h h1
 .rename_i h1;split at h
  .simp at h
  .rename_i h2;split at h
   .simp at h
   .rename_i h3;split at h
    .rename_i h4;exact⟨Classical.not_not.1 h1,Classical.not_not.1 h3,h4,aC⟩
    .simp at h
theorem VL{t:vL}{x y:List VV}(h:x.length=y.length):(jU t x).length=(jU t y).length:=by simp[jU,h]
theorem WG{t:vL}{x y:List VV}(h:x.length=y.length)(hk:dP (jU t x) (jU t y)<0):dP x y<0:=by
 have h1:x=jU t x++x.drop (max 0 (min t.key x.length)).toNat:=(List.take_append_drop _ _).symm;have h2:y=jU t y++y.drop (max 0 (min t.key y.length)).toNat:=(List.take_append_drop _ _).symm;rw[h1,h2,Gh (VL h),if_pos aC];exact hk
theorem K5.of{t:vL}:∀{l:List (List VV)},(∀(i:Nat) r r',l[i]? =some r->l[i+1]? =some r'->dP (jU t r) (jU t r')<0)->K5 t l
 |[],_=>List.Pairwise.nil
 |[_],_=>List.pairwise_singleton _ _
 |a::b::l,h=>by
  have h1:K5 t (b::l):=K5.of λi r r' e1 e2=>h (i+1) r r' e1 e2;refine List.pairwise_cons.2 ⟨λx hx=>?_,h1⟩;have h0:=h 0 a b rfl rfl;rcases List.mem_cons.1 hx with rfl|hx
  .exact h0
  .exact NJ h0 ((List.pairwise_cons.1 h1).1 x hx)
theorem K5.adj{t:vL}{l:List (List VV)}(h:K5 t l)(i:Nat)(r r':List VV)(e1:l[i]? =some r)(e2:l[i+1]? =some r'):dP (jU t r) (jU t r')<0:=by
 obtain⟨h1,rfl⟩:=List.getElem?_eq_some_iff.1 e1;obtain⟨h2,rfl⟩:=List.getElem?_eq_some_iff.1 e2;exact List.pairwise_iff_getElem.1 h i (i+1) h1 h2 aC
theorem Vs{t:ByteArray}(h:t.toList=(⟨#[]⟩:ByteArray).toList):t.size<=64:=by rw[xN h];decide
theorem Ej{t:ByteArray}(h:Ch t=true):t.size<=64:=Vs (by simp only[Ch,beq_iff_eq]at h;rw[h,ByteArray.toList_eq])
theorem Og{v:VV}(h:jV v=true):v.text.size<=64:=by
 unfold jV at h;split at h
 .simp only[Bool.and_eq_true]at h;exact Ej h.2
 .split at h
  .simp only[Bool.and_eq_true]at h;exact Ej h.2
  .split at h
   .exact Ej h
   .split at h
    .simp at h;omega
    .cases h
theorem HI(h:(dG s ps q).2=0):eK s=0/\ps.all cV=true/\iR q=true/\(bY s ps q).2=0:=by
 unfold dG at h;split at h
 .rename_i h1;split at h
  .rename_i h2;split at h
   .rename_i h3;exact⟨h1,h2,h3,h⟩
   .simp[iY]at h
  .simp[iY]at h
 .rename_i h1;simp[iY]at h;exact(h1 h).elim
theorem Hz{v:VV}(h:jV v=true):1<=v.kind/\v.kind<=5/\v.text.size<=64:=by
 refine⟨?_,?_,Og h⟩
 all_goals
  unfold jV at h;split at h
  .rename_i e;simp at e;omega
  .split at h
   .rename_i e;simp at e;omega
   .split at h
    .rename_i e;simp at e;omega
    .split at h
     .rename_i e;simp at e;omega
     .cases h
theorem NA{t:vL}{r:List VV}(h:CH t r=true):r.length=t.columns.length/\∀v∈r,jV v=true:=by
 simp only[CH,Bool.and_eq_true,decide_eq_true_eq,List.all_eq_true,List.mem_range]at h;refine⟨h.1,λv hv=>?_⟩;obtain⟨i,hi,rfl⟩:=List.mem_iff_getElem.1 hv;have h2:=h.2 i hi;simp only[xG,Bool.and_eq_true,List.getD_eq_getElem?_getD,List.getElem?_eq_getElem hi,Option.getD_some]at h2;exact h2.1
theorem Xh{t:vL}{l:List (List VV)}(h8:t.columns.length<=12)(hok:SM t l)(hv:∀r∈l,∀v∈r,N2 v.kind/\N2 v.int)(hl:l.length<=1000000):gX t.columns.length l:=by
 have hw:∀r∈l,r.length=t.columns.length:=λr hr=>(NA (hok.1 r hr)).1;refine⟨λr hr=>⟨by rw[hw r hr];exact h8,λv hx=>?_⟩,hw,?_,hl⟩
 .have h1:=(NA (hok.1 r hr)).2 v hx;have h2:=hv r hr v hx;exact⟨h2.1,h2.2,(Hz h1).2.2⟩
 .exact(K5.of hok.2).imp_of_mem fun{x y} hx hy h=>WG (by rw[hw x hx,hw y hy]) h
def tA(st:List (List (List VV)))(q:Query):List (List (List VV)):=(jJ q).map λt=>st.getD t.toNat []
theorem Y7{st:List (List (List VV))}{t:Int}(hst:oI s st=0)(hv:ZF st)(h0:0<=t)(h1:t<s.tables.length):gX (gT s t).length (st.getD t.toNat [])/\st.getD t.toNat []∈st:=by
 obtain⟨h2,h3,h4,h5⟩:=Ot hst;have ht:t.toNat<s.tables.length:=by omega
 have hl:t.toNat<st.length:=by omega
 have e1:s.tables[t.toNat]? =some s.tables[t.toNat]:=List.getElem?_eq_getElem ht;have e2:st[t.toNat]? =some st[t.toNat]:=List.getElem?_eq_getElem hl;have e3:st.getD t.toNat []=st[t.toNat]:=by rw[List.getD_eq_getElem?_getD,e2];rfl
 have hm:st[t.toNat]∈st:=List.getElem_mem hl;have h8:=xR h2 _ (List.getElem_mem ht);have hk:(gT s t).length=s.tables[t.toNat].columns.length:=by rw[gT,if_neg aC,e1];simp
 have hle:∀{l:List (List (List VV))}{x},x∈l->((x.length:Nat):Int)<=(l.map λl=>(l.length:Int)).sum:=fun{l x}=>by
  induction l with
  |nil=>intro h;simp at h
  |cons a l ih=>
   intro h
   have h0:∀l:List (List (List VV)),0<=(l.map λl=>(l.length:Int)).sum:=λl=>by
    induction l with
    |nil=>simp
    |cons a l ih=>simp only[List.map_cons,List.sum_cons];omega
   simp only[List.map_cons,List.sum_cons];rcases List.mem_cons.1 h with rfl|h
   .have:=h0 l;omega
   .have:=ih h;omega
 have:=hle hm;rw[e3,hk];exact⟨Xh aC (h4 _ _ _ e1 e2) (hv _ hm) aC,hm⟩
theorem Vu{st:List (List (List VV))}{ks:List Int}{c:Nat}(hst:oI s st=0)(hv:ZF st)(hc:∀l∈st,l.length<=c)(h1:1<=c)(hq:bY s ps q=(ks,0))(hb:mU c q<=1000000):
 T9 (tA st q) q 0/\(jI (tA st q) q 0).1=vB st q/\gX ks.length (vB st q)/\(vB st q).length<=1000000:=by
 have e1:∀(j:Nat)(t:Int),(jJ q)[j]? =some t->(tA st q)[0+j]? =some (st.getD t.toNat []):=λj t h=>by rw[Nat.zero_add,tA,List.getElem?_map,h];rfl
 have x:=P8 h1 (ls:=tA st q) (k:=0) hq ⟨λj t h=>⟨_,e1 j t h,by
  have ht:=Ju hq t (List.mem_of_getElem? h);have:=Y7 hst hv ht.1 ht.2;exact⟨this.1,hc _ this.2⟩⟩⟩ hb
 have y:=Mu (st:=st) (ls:=tA st q) (k:=0) hq ⟨λj t h=>by rw[List.getD_eq_getElem?_getD,e1 j t h];rfl⟩;have e2:(jI (tA st q) q 0).1=vB st q:=by rw[y]
 refine⟨x.ok,e2,by rw[<-e2];exact x.rel,?_⟩;rw[<-e2];exact Nat.le_trans x.bnd hb
def Yx(s:Sl):CV:=.val (.agg ⟨[.slice s.a s.len s.cap]⟩)
def YT:Vc.Spec:=λcvs m h K=>∃v s,cvs=[aS v,cI 3]/\gI h s v/\K (cI (eK s)) m h
def tE(st:List (List (List VV))):Int:=(st.map λl=>(l.length:Int)).sum
def TP:Vc.Spec:=λcvs m h K=>∃s st,cvs=[Yx s]/\Leaves h s st/\st.length<=1000/\K (cI (tE st)) m h
def Um(s:oS)(t:Int)(r:List VV):Bool:=tY s t&&(match s.tables[t.toNat]? with|some tb=>CH tb r|none=>false)
def FU(s:oS)(t:Int)(r:List VV):List VV:=match(if tY s t then s.tables[t.toNat]? else none)with|some tb=>jU tb r|none=>[]
def YV:Vc.Spec:=λcvs m h K=>∃v s t sl r,cvs=[aS v,cI t,cS sl,cI 3]/\gI h s v/\cL h sl r/\K (cB (Um s t r)) m h
def TE:Vc.Spec:=λcvs m h K=>∃v s t sl r,cvs=[aS v,cI t,cS sl]/\gI h s v/\cL h sl r/\∀s',cL h s' (FU s t r)->K (cS s') m h
def H8:Vc.Spec:=λcvs m h K=>∃v s sl st,cvs=[aS v,cI 3,Yx sl]/\gI h s v/\Leaves h sl st/\st.length<=1000/\K (cI (oI s st)) m h
noncomputable def XI:Ctx:=dM [(104,Zt),(105,Ky)] [(7,{A:=Nat×bU×Sl×MH×PH,st:=λ⟨i,t,s,m,h⟩=>cE 95 99 [(3,iv 3),(9,.at (.ptr 9 0)),(41,sv s),(42,iv s.len),(43,iv i)] [(9,.cells 86 (t.enc.map .val))] m h})]
 [(12,{A:=Nat×bU×VV×Sl×Bool×MH×PH,st:=λ⟨i,t,v,s,b,m,h⟩=>cE 95 99 [(3,iv 3),(9,.at (.ptr 9 0)),(10,iv i),(11,.at (.ptr 11 0)),(12,bv b),(41,sv s),(42,iv s.len),(43,iv i)] [(9,.cells 86 (t.enc.map .val)),(11,.cells 27 (v.enc.map .val))] m h}),
  (13,{A:=Nat×bU×VV×Sl×Bool×Bool×MH×PH,st:=λ⟨i,t,v,s,b,c,m,h⟩=>cE 95 99 [(3,iv 3),(9,.at (.ptr 9 0)),(10,iv i),(11,.at (.ptr 11 0)),(12,bv b),(13,bv c),(41,sv s),(42,iv s.len),(43,iv i)] [(9,.cells 86 (t.enc.map .val)),(11,.cells 27 (v.enc.map .val))] m h})] [] false
noncomputable def XJ(s:Sl)(m:MH)(h:PH):Ctx:=dM [] [(3,{A:=Nat×Int,st:=λ⟨i,n⟩=>cE 19 20 [(3,iv n),(7,sv s),(8,iv s.len),(9,iv i)] [] m h})] [] [] false
noncomputable def f56_ctx(v:aW)(s:Sl)(m:MH)(h:PH):Ctx:=dM [(82,YT),(83,TP),(84,YV),(85,TE),(71,Ib)]
 [(9,{A:=Nat,st:=λi=>cE 69 72 [(1,iv 3),(3,.at (.ptr 3 0)),(29,sv s),(30,iv s.len),(31,iv i)] [(3,.cells 43 (v.enc.map .val))] m h}),
  (12,{A:=Nat×Sl×Nat,st:=λ⟨i,u,j⟩=>cE 69 72 [(1,iv 3),(3,.at (.ptr 3 0)),(8,iv i),(9,sv u),(29,sv s),(30,iv s.len),(31,iv i),(36,sv u),(37,iv u.len),(38,iv j)] [(3,.cells 43 (v.enc.map .val))] m h})] [] [] false
def Po(v:aW)(m:MH)(h:PH)(K:CV->MH->PH->Prop):Prop:=
  kG (λv1 s=>aA (kA (bI v)=kA (bI v1)) (gI h s v1) (dT (eK s) 0 (K (eH (eK s)) m h) (K (eH 0) m h)))
def Pn(s:Sl)(m:MH)(h:PH)(K:CV->MH->PH->Prop):Prop:=
  ∃(I:Nat×Int->Prop)(m1:Nat×Int->Nat),(∃(x:Nat×Int),aA (I x) (cG 0 x.2) (aA (aJ s) (bN s) (cT (bD x.1) m m h h)))/\∀(x:Nat×Int),I x->bC (↑x.1:Int) (aG s) (aU (λb o=>aA (aX s.a b o) (0<=(↑x.1:Int)) ((↑x.1:Int)<aG s/\∃(y:Sl),aM m h b (bM o x.1 1) (aR y)/\∃(x1:Nat×Int),aA (I x1) (m1 x1<m1 x) (aA (cG (dV (x.2+aG y)) x1.2) (aJ s) (aA (bN s) (fM (bE x.1 1)=bX x1.1) (aA (m=m) (h=h) True)))))) (K (eH x.2) m h)
abbrev jH:Prop:=eQ (fM 3)
noncomputable abbrev mN(a:Nat×bU×Sl×MH×PH):Sl×MH×PH:=a.2.2
noncomputable abbrev mA(a:Nat×bU×Sl×MH×PH):Sl:=(mN a).1
noncomputable abbrev Cm(a:Nat×bU×Sl×MH×PH):bU:=a.2.1
noncomputable abbrev FD(a:Nat×bU×VV×Sl×Bool×MH×PH):Bool:=a.2.2.2.2.1
noncomputable abbrev wX(a:Nat×bU×VV×Sl×Bool×MH×PH):Sl:=a.2.2.2.1
noncomputable abbrev GF(a:Nat×bU×VV×Sl×Bool×MH×PH):bU:=a.2.1
noncomputable abbrev wY(a:Nat×bU×VV×Sl×Bool×MH×PH):MH×PH:=a.2.2.2.2.2
noncomputable abbrev sR(a:Nat×bU×VV×Sl×Bool×Bool×MH×PH):Sl:=a.2.2.2.1
noncomputable abbrev Ck(a:Nat×bU×VV×Sl×Bool×Bool×MH×PH):bU:=a.2.1
noncomputable abbrev nI(a:Nat×bU×VV×Sl×Bool×Bool×MH×PH):MH×PH:=a.2.2.2.2.2.2
attribute [push_cast] jH mN mA Cm FD wX GF wY sR Ck nI
def Pm(v:aW)(t:Int)(s:Sl)(m:MH)(h:PH)(K:CV->MH->PH->Prop):Prop:=
  kG (λv1 s1=>∃(t1:Int),aA (aY (bI v) t=aY (bI v1) t1) (gI h s1 v1) (gA (tY s1 t1) (K bB m h) (C6 v t (λb o=>∃(y:bU),aM m h b (fN o t 5) (uV y)/\dT (aG s) (AW y) (K bB m h) (∃(I:Nat×bU×Sl×MH×PH->Prop)(m1:Nat×bU×Sl×MH×PH->Nat),(∃(x:Nat×bU×Sl×MH×PH),aA (I x) jH (aA (eP 9) (bK s (mA x)) (aA (bL s (mA x)) (bD x.1) (aA (oQ 86 (eN y)=oQ 86 (eN (Cm x))) (cK m (mN x).2) (jN h (mN x).2)))))/\∀(x:Nat×bU×Sl×MH×PH),I x->bC (↑x.1:Int) (aG (mA x)) (aU (λb1 o1=>aA (aX (mA x).a b1 o1) (0<=(↑x.1:Int)) ((↑x.1:Int)<aG (mA x)/\∃(y1:VV),aM (rH (mN x)) (eR (mN x)) b1 (bM o1 x.1 3) y1.enc/\∃(v2:VV),nK (jA y1) (jA
 v2) (gA (jV v2) (K bB (rH (mN x)) (eR (mN x))) (∃(I1:Nat×bU×VV×Sl×Bool×MH×PH->Prop),dL y1.kind 2 (∃(x1:Nat×bU×VV×Sl×Bool×MH×PH),aA (I1 x1) jH (aA (eP 9) (bP x.1 x1.1) (aA nC (gC (decide ((↑x.1:Int)>=(Cm x).key)) (FD x1)) (aA (bK (mA x) (wX x1)) (bL (mA x) (wX x1)) (aA (bP x.1 x1.1) (oQ 86 (eN (Cm x))=oQ 86 (eN (GF x1))) (aA (qB 27 y1.enc=qB 27 x1.2.2.1.enc) (eA (mN x).2 (wY x1)) (jN (eR (mN x)) (wY x1)))))))) (∃(x1:Nat×bU×VV×Sl×Bool×MH×PH),aA (I1 x1) jH (aA (eP 9) (bP x.1 x1.1) (aA nC (xX (FD x1)) (aA (bK (mA x) (wX x1)) (bL (mA x) (wX x1)) (aA (bP x.1 x1.1) (oQ 86 (eN (Cm x))=oQ 86 (eN (GF x1)))
 (aA (qB 27 y1.enc=qB 27 x1.2.2.1.enc) (eA (mN x).2 (wY x1)) (jN (eR (mN x)) (wY x1))))))))/\∀(x1:Nat×bU×VV×Sl×Bool×MH×PH),I1 x1->∃(I2:Nat×bU×VV×Sl×Bool×Bool×MH×PH->Prop),dL x1.2.2.1.kind 1 (∃(x2:Nat×bU×VV×Sl×Bool×Bool×MH×PH),aA (I2 x2) jH (aA (eP 9) (bP x1.1 x2.1) (aA nC (gC (FD x1) x2.2.2.2.2.1) (aA (gC (decide ((↑x1.1:Int)>=(GF x1).key)) x2.2.2.2.2.2.1) (bK (wX x1) (sR x2)) (aA (bL (wX x1) (sR x2)) (bP x1.1 x2.1) (aA (oQ 86 (eN (GF x1))=oQ 86 (eN (Ck x2))) (qB 27 x1.2.2.1.enc=qB 27 x2.2.2.1.enc) (aA (eA (wY x1) (nI x2)) (bR (wY x1).2 (nI x2)) True))))))) (∃(x2:Nat×bU×VV×Sl×Bool×Bool×MH×PH),aA (I2 x2) jH (aA (eP 9) (bP
 x1.1 x2.1) (aA nC (gC (FD x1) x2.2.2.2.2.1) (aA (xX x2.2.2.2.2.2.1) (bK (wX x1) (sR x2)) (aA (bL (wX x1) (sR x2)) (bP x1.1 x2.1) (aA (oQ 86 (eN (GF x1))=oQ 86 (eN (Ck x2))) (qB 27 x1.2.2.1.enc=qB 27 x2.2.2.1.enc) (aA (eA (wY x1) (nI x2)) (bR (wY x1).2 (nI x2)) True)))))))/\∀(x2:Nat×bU×VV×Sl×Bool×Bool×MH×PH),I2 x2->aU (λb2 o2=>aA (aX (Ck x2).columns.a b2 o2) (0<=(↑x2.1:Int)) ((↑x2.1:Int)<aG (Ck x2).columns/\∃(y2:Int),aM (nI x2).1 (nI x2).2 b2 (bM o2 x2.1 2+1) (bT y2)/\dT x2.2.2.1.kind y2 (gA x2.2.2.2.2.1 (gA x2.2.2.2.2.2.1 (K bB (nI x2).1 (nI x2).2) (∃(x3:Nat×bU×Sl×MH×PH),aA (I x3) (m1 x3<m1 x) (aA jH (eP 9) (aA (bK (sR x2) (mA
 x3)) (bL (sR x2) (mA x3)) (aA (fM (bE x2.1 1)=bX x3.1) (oQ 86 (eN (Ck x2))=oQ 86 (eN (Cm x3))) (aA (eA (nI x2) (mN x3).2) (bR (nI x2).2 (mN x3).2) True)))))) (∃(x3:Nat×bU×Sl×MH×PH),aA (I x3) (m1 x3<m1 x) (aA jH (eP 9) (aA (bK (sR x2) (mA x3)) (bL (sR x2) (mA x3)) (aA (fM (bE x2.1 1)=bX x3.1) (oQ 86 (eN (Ck x2))=oQ 86 (eN (Cm x3))) (aA (eA (nI x2) (mN x3).2) (bR (nI x2).2 (mN x3).2) True)))))) (∃(x3:Nat×bU×Sl×MH×PH),aA (I x3) (m1 x3<m1 x) (aA jH (eP 9) (aA (bK (sR x2) (mA x3)) (bL (sR x2) (mA x3)) (aA (fM (bE x2.1 1)=bX x3.1) (oQ 86 (eN (Ck x2))=oQ 86 (eN (Cm x3))) (aA (eA (nI x2) (mN x3).2) (bR (nI x2).2
 (mN x3).2) True)))))))))))) (K fH (rH (mN x)) (eR (mN x))))))))
def Pl(v:aW)(t:Int)(s:Sl)(m:MH)(h:PH)(K:CV->MH->PH->Prop):Prop:=
  bC t 0 (K mW m h) (fR t (gP v) (K mW m h) (aU (λb o=>aA (aX (qG v) b o) (0<=t) (t<aG v.tables/\∃(y:Int),aA (aM m h b (fN o t 5+2) (bT y)) (0<=ite (mC s y>0) (mC s y) 0) (ite (mC s y>0) (mC s y) 0<=(↑s.cap:Int)/\K (CV.val (Value.slice s.a (ite (mC s y>0) (mC s y) 0).toNat s.cap)) m h)))))
noncomputable abbrev lO(a:Nat×Sl×Nat):Sl:=a.2.1
noncomputable abbrev Dm(a:Nat×Sl×Nat):Int:=dV ((↑a.2.2:Int)-1)
attribute [push_cast] lO Dm
def f56_nice(v:aW)(s:Sl)(m:MH)(h:PH)(K:CV->MH->PH->Prop):Prop:=
  kG (λv1 s1=>aA (aY (bI v) 3=aY (bI v1) 3) (gI h s1 v1) (dT (eK s1) 0 (K (eH (eK s1)) m h) (Co (λs2 s3=>aA (kA (kN (aR s))=kA (kN (aR s2))) (Leaves h s2 s3) (j2 s3.length/\cR (decide (tE s3>512)) (K (eH 2) m h) (aG s !=gP v) (K (eH 80) m h) (nU (λI x=>aA (I x) jH (aA (eP 3) (aJ s) (aA (bN s) (bD x) (aA (bV v) (m=m) (cQ h h))))) (λI m1 x=>I x->bC (↑x:Int) (aG s) (aU (λb o=>aA (aX s.a b o) (0<=(↑x:Int)) ((↑x:Int)<aG s/\∃(y:Sl),aM m h b (bM o x 1) (aR y)/\∃(I1:Nat×Sl×Nat->Prop)(m2:Nat×Sl×Nat->Nat),(∃(x1:Nat×Sl×Nat),aA (I1 x1) jH (aA (eP 3) (bP x x1.1) (aA (bK y (lO x1)) (aJ s) (aA (bN s) (bP x x1.1) (aA (bK y (lO x1)) (bL y (lO
 x1)) (aA (bD x1.2.2) (bV v) (dR m m h h)))))))/\∀(x1:Nat×Sl×Nat),I1 x1->bC (↑x1.2.2:Int) (aG (lO x1)) (aU (λb1 o1=>aA (aX (lO x1).a b1 o1) (0<=(↑x1.2.2:Int)) ((↑x1.2.2:Int)<aG (lO x1)/\∃(y1:Sl),aM m h b1 (bM o1 x1.2.2 1) (aR y1)/\kG (λv2 s4=>∃(t:Int),oE (λs5 r=>aA (bI v::eH (↑x1.1:Int)::aY (cW y1) 3=bI v2::eH t::aY (cW s5) 3) (gI h s4 v2) (cL h s5 r/\cR (!(Um s4 t r)) (K (eH 80) m h) (decide ((↑x1.2.2:Int)>0)) (aU (λb2 o2=>aA (aX (lO x1).a b2 o2) (0<=Dm x1) (Dm x1<aG (lO x1)/\∃(y2:Sl),aM m h b2 (fN o2 (Dm x1) 1) (aR y2)/\kG (λv3 s6=>∃(t1:Int),oE (λs7 r1=>aA (bI v::aT (eH (↑x1.1:Int)) (cW y2)=bI v3::aT (eH t1) (cW s7)) (gI h
 s6 v3) (cL h s7 r1/\∀(s8:Sl),cL h s8 (FU s6 t1 r1)->aZ h b2 (fN o2 (Dm x1) 1) (aR y2)/\kG (λv4 s9=>∃(t2:Int),oE (λa r2=>aA (bI v::aT (eH (↑x1.1:Int)) (cW y1)=bI v4::aT (eH t2) (cW a)) (gI h s9 v4) (cL h a r2/\∀(a1:Sl),cL h a1 (FU s9 t2 r2)->aZ h b2 (fN o2 (Dm x1) 1) (aR y2)/\Df s8 a1 h (λa2 b3=>fR (dP a2 b3) 0 (K (eH 80) m h) (∃(x2:Nat×Sl×Nat),aA (I1 x2) (m2 x2<m2 x1) (aA jH (eP 3) (aA (bP x1.1 x2.1) (bK (lO x1) (lO x2)) (aA (aJ s) (bN s) (aA (bP x1.1 x2.1) (bK (lO x1) (lO x2)) (aA (bL (lO x1) (lO x2)) (fM (bE x1.2.2 1)=bX x2.2.2) (cT (bV v) m m h h))))))))))))))))) (∃(x2:Nat×Sl×Nat),aA (I1 x2) (m2 x2<m2 x1) (aA jH (eP 3) (aA (bP x1.1 x2.1)
 (bK (lO x1) (lO x2)) (aA (aJ s) (bN s) (aA (bP x1.1 x2.1) (bK (lO x1) (lO x2)) (aA (bL (lO x1) (lO x2)) (fM (bE x1.2.2 1)=bX x2.2.2) (cT (bV v) m m h h))))))))))))) (∃(x2:Nat),aA (I x2) (m1 x2<m1 x) (aA jH (eP 3) (aA (aJ s) (bN s) (aA (fM (bE x1.1 1)=bX x2) (bV v) (dR m m h h)))))))) (K (eH 0) m h))))))))
theorem cL.cut{a:Option Addr}{len cap:Nat}{r:List VV}(x:cL h ⟨a,len,cap⟩ r){n:Nat}(hn:n<=r.length):cL h ⟨a,n,cap⟩ (r.take n):=by
 obtain⟨⟨vs,h1,h2,h3⟩,h4⟩:=x;refine⟨⟨vs.take n,by rw[List.map_take];exact a8.cut h1 n (by rw[List.length_map];omega),by rw[List.length_take,List.length_take,h2],λi x hx=>?_⟩,by rw[List.length_take];omega⟩;rw[List.getElem?_take]at hx;split at hx
 .rename_i hi;obtain⟨v,e1,e2⟩:=h3 i x hx;exact⟨v,by rw[List.getElem?_take,if_pos hi];exact e1,e2⟩
 .cases hx
theorem Zk{v:aW}(hs:gI h s v)(hK:K (cI (eK s)) m h):Po v m h K:=
 ⟨v,s,rfl,hs,aB (λ_=>hK) (λe=>by rw[show eK s=0 by simpa using e]at hK;exact hK)⟩
theorem Ux:Sound Tryz.prog 82 YT:=by
 refine iB Tryz.func82 ?_;rintro cvs m h K ⟨v,s,rfl,hs,hK⟩;refine⟨dM [(79,AG)] [] [] [] false,rfl,aD LD aF,Po v m h K,by kernel_rfl,?_⟩;exact Zk hs hK
theorem Leaves.lens{s:Sl}{st:List (List (List VV))}(hl:Leaves h s st){l:List (List VV)}(hm:l∈st):l.length<=502633886983:=by
 obtain⟨i,hi,rfl⟩:=List.mem_iff_getElem.1 hm;obtain⟨_,_,_,_,_,hr⟩:=bZ.at hl (List.getElem?_eq_getElem hi);exact hr.len
theorem CM:∀{l:List (List (List VV))},(∀x∈l,x.length<=502633886983)->0<=tE l/\tE l<=(l.length:Int)*502633886983
 |[],_=>by simp[tE]
 |a::l,h=>by
  have h1:=h a (List.mem_cons_self ..);have h2:=CM (l:=l) λx hx=>h x (List.mem_cons_of_mem _ hx);simp only[tE,List.map_cons,List.sum_cons,List.length_cons]at h2⊢
  omega
theorem Si{st:List (List (List VV))}{l:List (List VV)}(h:st[i]? =some l):tE (st.take (i+1))=tE (st.take i)+(l.length:Int):=by
 rw[List.take_add_one,h];simp[tE]
theorem Uw:Sound Tryz.prog 83 TP:=by
 refine iB Tryz.func83 ?_;rintro cvs m h K ⟨s,st,rfl,hl,hn,hK⟩;refine⟨XJ s m h,rfl,aF,Pn s m h K,by kernel_rfl,?_⟩;dsimp only[Pn,push_cast];have hsl:=bZ.slen hl;refine⟨λz=>z.1<=st.length/\z.2=tE (st.take z.1),λz=>st.length-z.1,⟨(0,0),⟨by simp,by simp[tE]⟩,MT⟩,?_⟩;rintro⟨i,n⟩ ⟨hi,hn2⟩;dsimp only at hi hn2⊢
 subst hn2;refine aE (λhlt=>?_) (λhge=>?_)
 .obtain⟨l,hx⟩:=fG hsl hlt;obtain⟨b,o,u,ea,rd,hr⟩:=bZ.at hl hx;have hul:=bZ.slen hr;have hb:=CM (l:=st.take (i+1)) λx hx=>hl.lens (List.mem_of_mem_take hx);have hb2:=(CM (l:=st.take i) λx hx=>hl.lens (List.mem_of_mem_take hx)).1;have hs:=Si hx;rw[List.length_take]at hb;refine⟨b,o,ea,aC,aC,u,.imm rd,(i+1,tE (st.take (i+1))),⟨by show i+1<=st.length;omega,rfl⟩,by show st.length-(i+1)<st.length-i;omega,?_⟩;rw[dW aC aC,hul, <-hs];exact MT
 .rw[List.take_of_length_le aC];exact hK
theorem CG{t:vL}{r:List VV}:CH t r=true↔r.length=t.columns.length/\∀i,i<r.length->xG t.key (t.columns.getD i ⟨⟨#[]⟩,0⟩).kind i (r.getD i zeroV)=true:=by
 simp only[CH,Bool.and_eq_true,decide_eq_true_eq,List.all_eq_true,List.mem_range]
theorem O8{t:Int}{r:List VV}{tb:vL}(ht:s.tables[t.toNat]? =some tb)(h:tY s t=true):Um s t r=CH tb r:=by
 simp only[Um,h,ht,Bool.true_and]
theorem Uv:Sound Tryz.prog 84 YV:=by
 refine iB Tryz.func84 ?_;rintro cvs m h K ⟨v,s,t,sl,r,rfl,hs,hv,hK⟩;refine⟨XI,rfl,aD Kq (aD Kp aF),Pm v t sl m h K,by kernel_rfl,?_⟩;dsimp only[Pm,push_cast];have htl:=hs.tables.slen;have hrl:=bZ.slen hv;refine⟨v,s,t,rfl,hs,aB (λe=>?_) (λe=>?_)⟩
 .have e:tY s t=false:=by simpa using e
  simp only[Um,e,Bool.false_and]at hK;exact hK
 have e:tY s t=true:=by simpa using e
 have he:=e;simp only[tY,Bool.and_eq_true,decide_eq_true_eq]at he;obtain⟨tb,htb⟩:∃tb,s.tables[t.toNat]? =some tb:=⟨_,List.getElem?_eq_getElem aC⟩
 obtain⟨b,o,y,ea,rd,hy⟩:=bZ.at hs.tables htb;rw[O8 htb e]at hK;have hcl:=bZ.slen hy.columns;have hk:=hy.key;refine⟨b,o,ea,he.1,aC,y,.imm rd,aB (λe1=>?_) (λe1=>?_)⟩
 .have:CH tb r=false:=by
   cases e2:CH tb r with
   |false=>rfl
   |true=>
    have:=(CG.1 e2).1;simp at e1;omega
  rw[this]at hK;exact hK
 have hwl:r.length=tb.columns.length:=by simp at e1;omega
 have bad:∀i,i<r.length->xG tb.key (tb.columns.getD i ⟨⟨#[]⟩,0⟩).kind i (r.getD i zeroV)=false->K (cB false) m h:=λi hi hf=>by
  have:CH tb r=false:=by
   cases e2:CH tb r with
   |false=>rfl
   |true=>rw[(CG.1 e2).2 i hi]at hf;cases hf
  rw[this]at hK;exact hK
 refine⟨λz=>z.2.1=y/\z.2.2.1=sl/\z.2.2.2.1=m/\z.2.2.2.2=h/\z.1<=r.length/\∀j,j<z.1->xG tb.key (tb.columns.getD j ⟨⟨#[]⟩,0⟩).kind j (r.getD j zeroV)=true,λz=>r.length-z.1,⟨(0,y,sl,m,h),⟨rfl,rfl,rfl,rfl,by simp,λj hj=>by simp at hj⟩,MT⟩,?_⟩;rintro⟨i,y',sl',m',h'⟩ ⟨e1,e2,e3,e4,hi,hall⟩;dsimp only at e1 e2 e3 e4 hi hall⊢
 subst e1 e2 e3 e4;refine aE (λhlt=>?_) (λhge=>?_)
 .have hil:i<r.length:=by omega
  have hx:r[i]? =some (r.getD i zeroV):=by rw[List.getD_eq_getElem?_getD,List.getElem?_eq_getElem hil];rfl
  obtain⟨b2,o2,x,ea2,rd2,hxx⟩:=bZ.at hv hx;subst hxx;have hc:tb.columns[i]? =some (tb.columns.getD i ⟨⟨#[]⟩,0⟩):=by rw[List.getD_eq_getElem?_getD,List.getElem?_eq_getElem aC];rfl
  obtain⟨b3,o3,c,ea3,rd3,hcc⟩:=bZ.at hy.columns hc;have badi:=bad i hil
  have alli:xG tb.key (tb.columns.getD i ⟨⟨#[]⟩,0⟩).kind i (r.getD i zeroV)=true->∀j,j<i+1->xG tb.key (tb.columns.getD j ⟨⟨#[]⟩,0⟩).kind j (r.getD j zeroV)=true:=λhf j hj=>by
   by_cases e5:j=i
   .rw[e5];exact hf
   .exact hall j aC
  generalize r.getD i zeroV=x at badi alli rd2 hx;rw[hcc]at badi alli;have go:xG tb.key c.kind i x=true->∃z:Nat×bU×Sl×MH×PH,(z.2.1=y'/\z.2.2.1=sl'/\z.2.2.2.1=m'/\z.2.2.2.2=h'/\z.1<=r.length/\∀j,j<z.1->xG tb.key (tb.columns.getD j ⟨⟨#[]⟩,0⟩).kind j (r.getD j zeroV)=true)/\r.length-z.1<r.length-i/\z=(i+1,y',sl',m',h'):=λhf=>⟨_,⟨rfl,rfl,rfl,rfl,by show i+1<=r.length;omega,alli hf⟩,by show r.length-(i+1)<r.length-i;omega,rfl⟩
  refine⟨b2,o2,ea2,aC,aC,x,.imm rd2,x,rfl,aB (λev=>badi ?_) (λev=>?_)⟩
  .have ev:jV x=false:=by simpa using ev
   simp[xG,ev]
  have ev:jV x=true:=by simpa using ev
  refine⟨λz=>z=(i,y',x,sl',(x.kind==2&&decide ((i:Int)>=y'.key)),m',h'),aB (λe2=>⟨_,rfl,by rw[e2];exact MT⟩) (λe2=>⟨_,rfl,by rw[e2];exact MT⟩),?_⟩;rintro _ rfl;dsimp only;refine⟨λz=>z=(i,y',x,sl',(x.kind==2&&decide ((i:Int)>=y'.key)),(x.kind==1&&decide ((i:Int)>=y'.key)),m',h'),aB (λe2=>⟨_,rfl,by rw[e2];exact MT⟩) (λe2=>⟨_,rfl,by rw[e2];exact MT⟩),?_⟩;rintro _ rfl;dsimp only
  have hfv:xG tb.key c.kind i x=(x.kind==c.kind||((x.kind==2&&decide ((i:Int)>=y'.key))||(x.kind==1&&decide ((i:Int)>=y'.key)))):=by
   rw[hk];simp only[xG,ev,Bool.true_and,ge_iff_le,Bool.and_or_distrib_right]
  generalize hb1:(x.kind==2&&decide ((i:Int)>=y'.key))=B1 at hfv⊢
  generalize hb2:(x.kind==1&&decide ((i:Int)>=y'.key))=B2 at hfv⊢
  refine⟨b3,o3,ea3,aC,aC,c.kind,.imm (aZ.part rd3 1 1),aB (λe3=>aB (λe4=>aB (λe5=>badi ?_) (λe5=>?_)) (λe4=>?_)) (λe3=>?_)⟩
  .have e3:(x.kind==c.kind)=false:=by simpa using e3
   have e4:B1=false:=by simpa using e4
   have e5:B2=false:=by simpa using e5
   rw[hfv,e3,e4,e5];rfl
  all_goals
   obtain⟨_,g1,g2,rfl⟩:=go (by rw[hfv];simp_all);refine⟨_,g1,g2,?_⟩;dsimp only;rw[j8 (by have:=bZ.len hv;omega)];exact MT
 .have:CH tb r=true:=CG.2 ⟨hwl,λj hj=>hall j aC⟩;rw[this]at hK;exact hK
theorem Uu:Sound Tryz.prog 85 TE:=by
 refine iB Tryz.func85 ?_;rintro cvs m h K ⟨v,s,t,sl,r,rfl,hs,hv,hK⟩;refine⟨dM [] [] [] [] false,rfl,aF,Pl v t sl m h K,by kernel_rfl,?_⟩;dsimp only[Pl,push_cast];have htl:=hs.tables.slen;have hrl:=bZ.slen hv;have none_:tY s t=false->K mW m h:=λe=>hK ⟨none,0,0⟩ (by simp only[FU,e];exact bZ.nil _ _ _ _);refine aE (λh1=>none_ (by simp[tY];omega)) (λh1=>aE (λh2=>none_ (by simp[tY];omega)) (λh2=>?_));have e:tY s t=true:=by simp[tY];omega
 obtain⟨tb,htb⟩:∃tb,s.tables[t.toNat]? =some tb:=⟨_,List.getElem?_eq_getElem aC⟩
 obtain⟨b,o,y,ea,rd,hy⟩:=bZ.at hs.tables htb;have hk:=hy.key;obtain⟨a,len,cap⟩:=sl;have hcap:len<=cap:=by obtain⟨vs,h5,_⟩:=hv.ex;exact h5.cap
 have hrl:len=r.length:=hrl
 have hmm:(if(if(len:Int)<y.key then(len:Int)else y.key)>0 then(if(len:Int)<y.key then(len:Int)else y.key)else 0)=max 0 (min tb.key r.length):=by
  rw[<-hk];split<;>split<;>omega
 refine⟨b,o,ea,aC,aC,y.key,.imm (aZ.part rd 2 1),?_⟩;dsimp only;rw[hmm];refine⟨aC,aC,hK ⟨a,(max 0 (min tb.key r.length)).toNat,cap⟩ ?_⟩;have e2:FU s t r=r.take (max 0 (min tb.key r.length)).toNat:=by simp only[FU,e,if_true,htb];rfl
 rw[e2];exact hv.cut aC
theorem Dy{t:Nat}{tb:vL}(h:s.tables[t]? =some tb)(r:List VV):FU s t r=jU tb r:=by
 have:t<s.tables.length:=(List.getElem?_eq_some_iff.1 h).1;have e:tY s (t:Int)=true:=by simp[tY];omega
 simp only[FU,e,if_true,Int.toNat_natCast,h]
theorem Tc{t:Nat}{tb:vL}(h:s.tables[t]? =some tb)(r:List VV):Um s t r=CH tb r:=by
 have:t<s.tables.length:=(List.getElem?_eq_some_iff.1 h).1;have e:tY s (t:Int)=true:=by simp[tY];omega
 exact O8 (by simpa using h) e
theorem f56_sound:Sound Tryz.prog 56 H8:=by
 refine iB Tryz.func56 ?_;rintro cvs m h K ⟨v,s,sl,st,rfl,hs,hl,hn,hK⟩;refine⟨f56_ctx v sl m h,rfl,aD Ux (aD Uw (aD Uv (aD Uu (aD DA aF)))),f56_nice v sl m h K,by kernel_rfl,?_⟩;dsimp only[f56_nice,push_cast];have htl:=hs.tables.slen;have hsl:=bZ.slen hl;unfold oI at hK;refine⟨v,s,rfl,hs,aB (λe=>?_) (λe=>⟨sl,st,rfl,hl,hn,aE (λe2=>?_) (λe2=>aB (λe3=>?_) (λe3=>?_))⟩)⟩
 .rw[if_pos (by simpa using e)]at hK;exact hK
 all_goals rw[if_neg (by simpa using e)]at hK
 .rw[if_pos (by unfold tE at e2;omega)]at hK;exact hK
 all_goals rw[if_neg (by unfold tE at e2;omega)]at hK
 .rw[if_pos (by simp at e3;omega)]at hK;exact hK
 have hlen:st.length=s.tables.length:=by simp at e3;omega
 rw[if_neg (by simp[hlen])]at hK;have bad:¬Jn s st->K (cI 80) m h:=λhb=>by rw[if_neg hb]at hK;exact hK
 refine⟨λi=>i<=st.length/\∀(j:Nat) t l,j<i->s.tables[j]? =some t->st[j]? =some l->SM t l,λi=>st.length-i,⟨0,⟨by simp,λj t l hj=>by omega⟩,MT⟩,?_⟩;rintro i ⟨hi,hall⟩;refine aE (λhlt=>?_) (λhge=>?_)
 .obtain⟨l,hx⟩:=fG hsl hlt;obtain⟨b,o,u,ea,rd,hr⟩:=bZ.at hl hx;have hul:=bZ.slen hr;have hll:=bZ.len hr;obtain⟨tb,htb⟩:∃tb,s.tables[i]? =some tb:=⟨_,List.getElem?_eq_getElem aC⟩
  have badi:¬SM tb l->K (cI 80) m h:=λhb=>bad λhok=>hb (hok i tb l htb hx);refine⟨b,o,ea,aC,aC,u,.imm rd,λz=>z.1=i/\z.2.1=u/\z.2.2<=l.length/\(∀k r,k<z.2.2->l[k]? =some r->CH tb r=true)/\∀k r r',k+1<z.2.2->l[k]? =some r->l[k+1]? =some r'->dP (jU tb r) (jU tb r')<0,λz=>l.length-z.2.2,⟨(i,u,0),⟨rfl,rfl,by simp,λk r hk=>by simp at hk,λk r r' hk=>by simp at hk⟩,MT⟩,?_⟩;rintro⟨i',u',j⟩ ⟨e1,e2,hj,hfit,hkey⟩;dsimp only at e1 e2 hj hfit hkey⊢
  subst e1 e2;refine aE (λhlt2=>?_) (λhge2=>?_)
  .obtain⟨r,hxr⟩:=fG hul hlt2;obtain⟨b2,o2,w,ea2,rd2,hv⟩:=bZ.at hr hxr;refine⟨b2,o2,ea2,aC,aC,w,.imm rd2,v,s,i',w,r,rfl,hs,hv,aB (λef=>badi λhok=>?_) (λef=>?_)⟩
   .rw[Tc htb,hok.1 r (List.mem_of_getElem? hxr)]at ef;cases ef
   have hf:CH tb r=true:=by rw[Tc htb]at ef;simpa using ef
   have hfit':∀k r,k<j+1->l[k]? =some r->CH tb r=true:=λk r' hk hr'=>by
    by_cases e5:k=j
    .subst e5;rw[hxr]at hr';cases hr';exact hf
    .exact hfit k r' aC hr'
   refine aE (λhj0=>?_) (λhj0=>?_)
   .have hw:IntKind.i64.wrap ((j:Int)-1)=((j-1:Nat):Int):=by rw[dW aC aC];omega
    obtain⟨r0,hx0⟩:∃r0,l[j-1]? =some r0:=⟨_,List.getElem?_eq_getElem aC⟩
    obtain⟨b3,o3,w3,ea3,rd3,hv3⟩:=bZ.at hr hx0;rw[hw];refine⟨b3,o3,ea3,aC,aC,w3,.imm rd3,v,s,i',w3,r0,rfl,hs,hv3,λs1 hs1=>⟨rd3,v,s,i',w,r,rfl,hs,hv,λs2 hs2=>⟨rd3,s1,s2,_,_,rfl,hs1,hs2,aE (λhc=>badi λhok=>?_) (λhc=>?_)⟩⟩⟩
    .rw[Dy htb,Dy htb]at hc;have:=hok.2 (j-1) r0 r hx0 (by rw[show j-1+1=j by omega];exact hxr);omega
    .rw[Dy htb,Dy htb]at hc;refine⟨(i',u',j+1),⟨rfl,rfl,by show j+1<=l.length;omega,hfit',λk r1 r2 hk h1 h2=>?_⟩,by show l.length-(j+1)<l.length-j;omega,?_⟩
     .by_cases e5:k+1=j
      .have:k=j-1:=by omega
       subst this;rw[hx0]at h1;rw[e5,hxr]at h2;cases h1;cases h2;omega
      .exact hkey k r1 r2 (by have:k+1<j+1:=hk;omega) h1 h2
     .dsimp only;rw[j8 aC];exact MT
   .refine⟨(i',u',j+1),⟨rfl,rfl,by show j+1<=l.length;omega,hfit',λk r1 r2 hk h1 h2=>by have:k+1<j+1:=hk;omega⟩,by show l.length-(j+1)<l.length-j;omega,?_⟩;dsimp only;rw[j8 aC];exact MT
  .refine⟨i'+1,⟨aC,λk t l' hk ht hl'=>?_⟩,aC,?_⟩
   .by_cases e5:k=i'
    .subst e5;rw[htb]at ht;cases ht;rw[hx]at hl';cases hl';refine⟨λr hr=>?_,λk r r' h1 h2=>hkey k r r' ?_ h1 h2⟩
     .obtain⟨n,hn,rfl⟩:=List.mem_iff_getElem.1 hr;exact hfit n _ aC (List.getElem?_eq_getElem hn)
     .have:=(List.getElem?_eq_some_iff.1 h2).1;omega
    .exact hall k t l' aC ht hl'
   .rw[j8 aC];exact MT
 .rw[if_pos]at hK
  .exact hK
  .exactλj t l h1 h2=>hall j t l (by have:=(List.getElem?_eq_some_iff.1 h2).1;omega) h1 h2
def Ia:Vc.Spec:=λcvs m h K=>∃sc p v s ps q,cvs=[aS sc,cS p,aQ v]/\gI h s sc/\Ints h p ps/\dA h q v/\iR q=true/\KR K m h (dG s ps q)
noncomputable def f55q_ctx(p:Sl)(N:Nat):Ctx:={vK [(79,AG),(80,NS),(81,BN N)]
 [(5,{A:=Nat×Nat×Nat×Nat×Nat×MH×PH,st:=λ⟨i,a,b,c,d,m,h⟩=>cE 53 56 [(1,sv p),(3,vv (.pointer (some ⟨a,0,none⟩))),(5,vv (.pointer (some ⟨b,0,none⟩))),(6,vv (.pointer (some ⟨c,0,none⟩))),(7,vv (.pointer (some ⟨d,0,none⟩))),(18,sv p),(19,iv p.len),(20,iv i)] [] m h})] [] [] [200003,200005,200006,200007,200011,0] [] false with elemT:=[3,38]}
noncomputable abbrev nW(a:Nat×Nat×Nat×Nat×Nat×MH×PH):Nat:=a.2.2.2.1
noncomputable abbrev nX(a:Nat×Nat×Nat×Nat×Nat×MH×PH):Nat:=(fF a.2).1
noncomputable abbrev w8(a:Nat×Nat×Nat×Nat×Nat×MH×PH):Nat->Nat->Option Value:=dN (fF a.2)
abbrev IG(a:Sl)(b c:Nat×Nat×Nat×Nat×Nat×MH×PH):Prop:=aA (bN a) (fM (bE b.1 1)=bX c.1) (aA (eA (fF b.2).2 (fF c.2).2) (bR (w8 b) (fF c.2).2) True)
attribute [push_cast] nW nX w8 IG
def f55q_nice(sc:aW)(p:Sl)(v:QV)(N:Nat)(m:MH)(h:PH)(K:CV->MH->PH->Prop):Prop:=
  ∀(b:Nat)(m1:MH),bO (cF m h b) (bH m m1 b (gM (qL sc) (qK sc)) 43) (∀(b1:Nat)(m2:MH),bO (cF m1 h b1) (bH m1 m2 b1 v.enc 38) (∀(b2:Nat)(m3:MH),bO (cF m2 h b2) (bH m2 m3 b2 iN 33) (∀(b3:Nat)(m4:MH),bO (cF m3 h b3) (bH m3 m4 b3 (iP aK) 54) (∃(y:aW),aM m4 h b 0 (gM (qL y) (qK y))/\kG (λv1 s=>aA (kA (bI y)=kA (bI v1)) (gI h s v1) (dT (eK s) 0 (gL (λc E=>aA (vA m4 b2 (eU c E 0)) (fE 0 c) (∀(m5:MH),bH m4 m5 b2 (eT vO 1 c) E->gL (λc1 E1=>aA (vA m5 b3 (eU c1 E1 0)) (fE 0 c1) (∀(m6:MH),bH m5 m6 b3 (eT (dK (eK s)) 1 c1) E1->iD m6 h b2 0 (λy1=>∃(y2:Int),aM m6 h b3 0 (bT y2)/\K (CV.tup (aY (cW y1) y2)) m6 h)))))) (∃(I:Nat×Nat×Nat×Nat×Nat×MH×PH->Prop)(m5
 :Nat×Nat×Nat×Nat×Nat×MH×PH->Nat),(∃(x:Nat×Nat×Nat×Nat×Nat×MH×PH),aA (I x) (aJ p) (aA (cJ b x.2.1) (cJ b1 x.2.2.1) (aA (cJ b2 (nW x)) (cJ b3 (nX x)) (aA (aJ p) (bN p) (aA (bD x.1) (cK m4 (fF x.2).2) (bR h (fF x.2).2/\True))))))/\∀(x:Nat×Nat×Nat×Nat×Nat×MH×PH),I x->bC (↑x.1:Int) (aG p) (aU (λb4 o=>aA (aX p.a b4 o) (0<=(↑x.1:Int)) ((↑x.1:Int)<aG p/\∃(y1:Int),aM (eW (fF x.2)) (w8 x) b4 (bM o x.1 1) (bT y1)/\dT y1 3 (dT y1 4 (dT y1 5 (gL (λc E=>aA (vA (eW (fF x.2)) (nW x) (eU c E 0)) (fE 0 c) (∀(m6:MH),bH (eW (fF x.2)) m6 (nW x) (eT vO 1 c) E->gL (λc1 E1=>aA (vA m6 (nX x) (eU c1 E1 0)) (fE 0 c1) (∀(m7:MH),bH m6 m7
 (nX x) (eT (dK 1) 1 c1) E1->iD m7 (w8 x) (nW x) 0 (λy2=>∃(y3:Int),aM m7 (w8 x) (nX x) 0 (bT y3)/\K (CV.tup (aY (cW y2) y3)) m7 (w8 x))))))) (∃(x1:Nat×Nat×Nat×Nat×Nat×MH×PH),aA (I x1) (m5 x1<m5 x) (aA (aJ p) (cJ x.2.1 x1.2.1) (aA (cJ x.2.2.1 x1.2.2.1) (cJ (nW x) (nW x1)) (aA (cJ (nX x) (nX x1)) (aJ p) (IG p x x1)))))) (∃(x1:Nat×Nat×Nat×Nat×Nat×MH×PH),aA (I x1) (m5 x1<m5 x) (aA (aJ p) (cJ x.2.1 x1.2.1) (aA (cJ x.2.2.1 x1.2.2.1) (cJ (nW x) (nW x1)) (aA (cJ (nX x) (nX x1)) (aJ p) (IG p x x1)))))) (∃(x1:Nat×Nat×Nat×Nat×Nat×MH×PH),aA (I x1) (m5 x1<m5 x) (aA (aJ p) (cJ x.2.1 x1.2.1) (aA (cJ x.2.2.1 x1.2.2.1) (cJ (nW x) (nW x1)) (aA (cJ (nX x)
 (nX x1)) (aJ p) (IG p x x1)))))))) (∀(b4:Nat)(m6:MH),bO (cF (eW (fF x.2)) (w8 x) b4) (bH (eW (fF x.2)) m6 b4 (iP aK) 3) (gL (λc E=>aA (vA m6 b4 (eU c E 0)) (fE 0 c) (∀(m7:MH),bH m6 m7 b4 (eT aK 1 c) E->∃(y1:QV),aM m7 (w8 x) x.2.2.1 0 y1.enc/\∃(v2:QV),gG (kA (cN y1)=kA (cN v2)) (λb5=>∀(h1:PH),bJ (w8 x) h1 (aZ h1 b5 0 v2.enc) (∃(S:PH->List Value->List (List Value)->Prop)(x1:List (Int×QV))(I1:Nat->MH->PH->Prop),aA (CU Proofs.Tryz.prog 114 S) (S h1 (iP (T0 b5 0)) (List.map (fun(x2:Int×QV)=>gM (dK x2.1) (Value.agg (Array.mk x2.2.enc))) x1)) (aA (I1 0 m7 h1) (∀(k:Nat)(e:Int)(e1:QV),iA (λm8 h2=>bO (x1[k]? =Option.some (e,e1)) (PH.le h1 h2) (I1 k m8 h2->uJ m8 h2 b4 0 (λy2=>gL
 (λc1 E1=>aA (vA m8 b4 (eU c1 E1 0)) (fE 0 c1) (∀(m9:MH),bH m8 m9 b4 (eT (dK (dV (y2+1))) 1 c1) E1->uJ m9 h2 b4 0 (λy3=>cR (decide (y3>24)) (gL (λc2 E2=>aA (vA m9 (nW x) (eU c2 E2 0)) (fE 0 c2) (∀(a:MH),bH m9 a (nW x) (eT vO 1 c2) E2->gL (λc3 E3=>aA (vA a (nX x) (eU c3 E3 0)) (fE 0 c3) (∀(a1:MH),jZ (bH a a1 (nX x) (eT (dK 2) 1 c3) E3)))))) (decide (e>8)) (gL (λc2 E2=>aA (vA m9 (nW x) (eU c2 E2 0)) (fE 0 c2) (∀(a:MH),bH m9 a (nW x) (eT vO 1 c2) E2->gL (λc3 E3=>aA (vA a (nX x) (eU c3 E3 0)) (fE 0 c3) (∀(a1:MH),jZ (bH a a1 (nX x) (eT (dK 2) 1 c3) E3)))))) (I1 (k+1) m9 h2)))))))) (iA (λm8 h2=>bJ h1 h2 (I1 x1.length m8 h2) (∃(y2:aW),aM m8 h2 x.2.1 0 (gM
 (qL y2) (qK y2))/\∃(y3:QV),aM m8 h2 x.2.2.1 0 y3.enc/\Fl y2 p y3 h2 (λv3 s1 p1 q=>aA (dA h2 q v3) (rC q N) (cC (λs2 h3=>bJ h2 h3 (Ints h3 s2 (bY s1 p1 q).1) (gL (λc1 E1=>aA (vA m8 (nW x) (eU c1 E1 0)) (fE 0 c1) (∀(m9:MH),bH m8 m9 (nW x) (eT (dO s2) 1 c1) E1->gL (λc2 E2=>aA (vA m9 (nX x) (eU c2 E2 0)) (fE 0 c2) (∀(a:MH),bH m9 a (nX x) (eT (dK (bY s1 p1 q).2) 1 c2) E2->iD a h3 (nW x) 0 (λy4=>∃(y5:Int),aM a h3 (nX x) 0 (bT y5)/\K (CV.tup (aY (cW y4) y5)) a h3))))))))))))))))))))))))))
mutual
theorem Kt:∀(p:Query)(n:Nat),mE p n=false->CK p<=n
 |.mk _ _ _ _ _ _ _ _ args,0,h=>by simp[mE]at h
 |.mk _ _ _ _ _ _ _ _ args,n+1,h=>by
  simp only[mE]at h;have:=H3 args n h;simp only[CK];omega
theorem H3:∀(ps:List Query)(n:Nat),tD ps n=false->yE ps<=n
 |[],_,_=>by simp[yE]
 |p::ps,n,h=>by
  simp only[tD,Bool.or_eq_false_iff]at h;have h1:=Kt p n h.1;have h2:=H3 ps n h.2;simp only[yE];omega
end
mutual
theorem rR.deep{h:PH}:∀{q:Query}{v:QV}{d:Nat}{es:List (Nat×QV)},rR h q v d es->∀e∈es,e.1<d+CK q
 |.mk op ta _ _ _ _ _ _ args,v,d,es,w,e,he=>by
  rw[rR]at w;obtain⟨vs,ess,h1,h2,rfl⟩:=w;simp only[CK];rcases List.mem_cons.1 he with rfl|he
  .show d<_;omega
  .have:=gW.deep h2 e he;omega
theorem gW.deep{h:PH}:∀{qs:List Query}{vs:List QV}{d:Nat}{es:List (Nat×QV)},gW h qs vs d es->∀e∈es,e.1<d+yE qs
 |[],vs,d,es,w,e,he=>by rw[gW]at w;rw[w.2]at he;simp at he
 |q::qs,vs,d,es,w,e,he=>by
  rw[gW]at w;obtain⟨v,vs',e1,e2,h1,h2,h3,h4,rfl⟩:=w;simp only[yE];rcases List.mem_append.1 he with he|he
  .have:=rR.deep h3 e he;omega
  .have:=gW.deep h4 e he;omega
end
theorem Vz{m mx:MH}{h hx:PH}{b6 b7:Nat}{x6 x7:Value}{sl:Sl}{e:Int}{K:CV->MH->PH->Prop}(h67:b6≠b7)(n6:m b6=none)(n7:m b7=none)(a6:mx b6=some (.cells #[x6] 33 (0,0)))(a7:mx b7=some (.cells #[x7] 54 (0,0)))(s:Sub m mx)(le:PH.le h hx)(hK:K (.tup [cS sl,cI e]) m hx):
 ∃(cs:Array Value)(E:TypeId),vA mx b6 (.cells cs E (0,0))/\0<cs.size/\∀m':MH,jS mx m' b6 (.cells (Array.mk (dO sl::cs.toList.drop 1)) E (0,0))->∃(cs:Array Value)(E:TypeId),vA m' b7 (.cells cs E (0,0))/\0<cs.size/\∀m2:MH,jS m' m2 b7 (.cells (Array.mk (dK e::cs.toList.drop 1)) E (0,0))->∃y:Sl,aM m2 hx b6 0 [dO y]/\∃y1:Int,aM m2 hx b7 0 [dK y1]/\cZ h K (.tup [cS y,cI y1]) m2 hx:=by
 refine⟨_,_,⟨a6⟩,by simp,λm1 u1=>⟨_,_,⟨by rw[u1.other b7 (Ne.symm h67)];exact a7⟩,by simp,λm2 u2=>⟨sl,.of_m (by rw[u2.other b6 h67];exact u1.at_) rfl,e,.of_m u2.at_ rfl,λ_=>⟨m,hx,λb o e2=>?_,le,λb i v e2=>.inl e2,hK⟩⟩⟩⟩;rw[u2.other b (λe3=>by rw[e3,n7]at e2;cases e2),u1.other b (λe3=>by rw[e3,n6]at e2;cases e2)];exact s b o e2
theorem f55q_sound:Sound Tryz.prog 55 Ia:=by
 refine D6 Tryz.func55 ?_;rintro cvs m h K ⟨sc,p,v,s,ps,q,rfl,hs,hp,hq,hsm,hK⟩;refine⟨f55q_ctx p (SizeOf.sizeOf q+1),rfl,aD LD (aD J5 (aD (Uy _) aF)),f55q_nice sc p v (SizeOf.sizeOf q+1) m h (cZ h K),by kernel_rfl,?_⟩;show f55q_nice sc p v (SizeOf.sizeOf q+1) m h (cZ h K);dsimp only[f55q_nice,push_cast];have hl:=hp.slen;have hlen:=hp.len;have hcn:=Lb hsm;have hdp:CK q<=8:=Kt q 8 (by simp only[iR,Bool.and_eq_true,Bool.not_eq_true']at hsm;exact hsm.2);unfold dG at hK;rw[if_pos hsm]at hK;intro b3 m1 u1 w1 b5 m2 u2 w2 b6 m3 u3 w3 b7 m4 u4 w4;obtain⟨s1,n3⟩:=gK (Sub.refl m) u1 w1;obtain⟨s2,n5⟩:=gK s1 u2 w2;obtain⟨s3,n6⟩:=gK s2 u3 w3;obtain⟨s4,n7⟩:=gK s3 u4 w4;have up:∀{ma mb:MH}{b:Nat}{o:Obj}{hh:PH},cF ma hh b->jS ma mb b o->∀{x o'},ma x=some o'->mb x=some o':=fun{ma mb b o hh} u w{x o'} e=>by rw[w.other x (λe2=>by rw[e2,u.m_]at e;cases e)];exact e
 have a3:=up u4 w4 (up u3 w3 (up u2 w2 w1.at_));have a5:=up u4 w4 (up u3 w3 w2.at_);have a6:=up u4 w4 w3.at_;have a7:=w4.at_;have d67:b6≠b7:=λe=>by have e2:=w3.at_;rw[e,u4.m_]at e2;cases e2
 refine⟨sc,.of_m a3 rfl,sc,s,rfl,hs,aB (λh1=>?_) (λh1=>?_)⟩
 .rw[if_neg (by simpa using h1)]at hK;exact Vz (sl:=bF) d67 n6 n7 a6 a7 s4 (.refl _) (hK bF h (.refl _) (iQ h))
 have h1:eK s=0:=by simpa using h1
 rw[if_pos h1]at hK;refine⟨λz=>z.2=(b3,b5,b6,b7,m4,h)/\z.1<=ps.length/\(ps.take z.1).all cV=true,λz=>ps.length-z.1,⟨(0,b3,b5,b6,b7,m4,h),⟨rfl,by simp,by simp⟩,MT⟩,?_⟩;rintro⟨i,z⟩ ⟨ez,hi,hall⟩;dsimp only at ez hi hall;subst ez;dsimp only;refine aE (λhlt=>?_) (λhge=>?_)
 .obtain⟨x,hx⟩:=fG hl hlt;obtain⟨b,o,e,r⟩:=hp.at' hx;have good:cV x=true->(ps.take (i+1)).all cV=true:=λhc=>by rw[yH hx,hall,hc];rfl
  have hw:IntKind.i64.wrap ((i:Int)+1)=((i+1:Nat):Int):=j8 aC;have go:cV x=true->((i+1,b3,b5,b6,b7,m4,h):Nat×Nat×Nat×Nat×Nat×MH×PH).2=(b3,b5,b6,b7,m4,h)/\i+1<=ps.length/\(ps.take (i+1)).all cV=true:=λhc=>⟨rfl,aC,good hc⟩
  rw[hw];refine⟨b,o,e,aC,hlt,x,.imm r,aB (λc1=>aB (λc2=>aB (λc3=>?_) (λc3=>⟨(i+1,b3,b5,b6,b7,m4,h),go ?_,by show ps.length-(i+1)<ps.length-i;omega,MT⟩)) (λc2=>⟨(i+1,b3,b5,b6,b7,m4,h),go ?_,by show ps.length-(i+1)<ps.length-i;omega,MT⟩)) (λc1=>⟨(i+1,b3,b5,b6,b7,m4,h),go ?_,by show ps.length-(i+1)<ps.length-i;omega,MT⟩)⟩
  .have:cV x=false:=by simp_all [cV]
   rw[if_neg (λe=>by rw[zU hx this]at e;cases e)]at hK;exact Vz (sl:=bF) d67 n6 n7 a6 a7 s4 (.refl _) (hK bF h (.refl _) (iQ h))
  .simp_all [cV]
  .simp_all [cV]
  .simp_all [cV]
 rw[List.take_of_length_le aC]at hall;rw[if_pos hall]at hK;intro b11 m5 u5 w5;refine⟨_,_,⟨w5.at_⟩,by simp,λm6 w6=>?_⟩
 have k6:∀{x o'},m4 x=some o'->m6 x=some o'/\x≠b11:=fun{x o'} e=>by
  have:x≠b11:=λe2=>by rw[e2,u5.m_]at e;cases e
  exact⟨by rw[w6.other x this];exact up u5 w5 e,this⟩
 refine⟨v,.of_m (k6 a5).1 rfl,v,rfl,λbw h1' le1 hbw=>?_⟩;obtain⟨es,hw⟩:=rR.of (hq.mono le1) 1;have hes:=hw.small;have hdeep:=hw.deep;refine⟨Jd,es.map λe=>((e.1:Int),e.2),λk mx hx=>hx=h1'/\AF m6 mx b11/\mx b11=some (.cells #[dK (k:Nat)] 3 (0,0)),S6,⟨bw,v,q,es,rfl,hbw,hw,aC,by rw[List.map_map];rfl⟩,⟨rfl,λx o e _=>e,w6.at_⟩,?_,?_⟩
 .rintro k d e' mx hx hk-⟨rfl,hsx,hb11⟩
  rw[List.getElem?_map]at hk;cases hek:es[k]? with
  |none=>rw[hek]at hk;cases hk
  |some e=>
   rw[hek]at hk;simp only[Option.map_some,Option.some.injEq,Prod.mk.injEq]at hk;obtain⟨rfl,rfl⟩:=hk;have hkl:=(List.getElem?_eq_some_iff.1 hek).1;have hde:=hdeep e (List.mem_of_getElem? hek);have hw2:IntKind.i64.wrap ((k:Int)+1)=((k+1:Nat):Int):=j8 aC;refine⟨k,.of_m hb11 rfl,_,_,⟨hb11⟩,by simp,λm7 w7=>⟨((k+1:Nat):Int),?_,aE (λhgt=>by omega) (λ_=>aE (λhgt=>by omega) (λ_=>⟨rfl,λx o e1 e2=>by rw[w7.other x e2];exact hsx x o e1 e2,?_⟩))⟩⟩
   .rw[<-hw2];exact .of_m w7.at_ rfl
   .rw[<-hw2];exact w7.at_
 .rintro mx hx-⟨rfl,hsx,hb11⟩
  have kx:∀{x o'},m4 x=some o'->mx x=some o':=fun{x o'} e=>hsx x o' (k6 e).1 (k6 e).2;refine⟨sc,.of_m (kx a3) rfl,v,.of_m (kx a5) rfl,sc,p,v,s,ps,q,rfl,hs.mono le1,xR h1,hp.mono le1,hq.mono le1,aC,λsl h7 le7 hi7=>?_⟩;exact Vz d67 n6 n7 (kx a6) (kx a7) (λx o e=>kx (s4 x o e)) (le1.trans le7) (hK sl h7 (le1.trans le7) hi7)
noncomputable def DW(s:oS)(st:List (List (List VV)))(q:Query):List (List VV)×Int:=
 if(dG s [] q).2≠0 then([],(dG s [] q).2)else if oI s st≠0 then([],oI s st)else(vB st q,0)
def D8(st:List (List (List VV)))(q:Query):Prop:=∃c,1<=c/\(∀l∈st,l.length<=c)/\mU c q<=1000000
structure Il(h:PH)(sl:Sl)(st:List (List (List VV))):Prop where
 lea:Leaves h sl st
 len:st.length<=1000
 val:ZF st
theorem Il.mono{sl:Sl}{st:List (List (List VV))}(x:Il h sl st)(le:PH.le h h'):Il h' sl st:=⟨bZ.mono x.lea le λl s hr=>bZ.mono hr le λr t hv=>cL.mono hv le,x.len,x.val⟩
def WX:Vc.Spec:=λcvs m h K=>∃v s sl st w q,cvs=[aS v,Yx sl,aQ w]/\gI h s v/\Il h sl st/\dA h q w/\iR q=true/\iW m/\((dG s [] q).2=0->oI s st=0->D8 st q)/\∀s' h',PH.le h h'->Rows h' s' (DW s st q).1->K (.tup [cS s',cI (DW s st q).2]) m h'
def Y3:Vc.Spec:=λcvs m h K=>∃v s sl st w q,cvs=[aS v,Yx sl,aQ w]/\gI h s v/\Il h sl st/\dA h q w/\iR q=true/\iW m/\((dG s [] q).2=0->oI s st=0->D8 st q)/\∀s' h',PH.le h h'->Rows h' s' (DW s st q).1->K (cS s') m h'
def YR:Vc.Spec:=λcvs m h K=>∃o v w,cvs=[cI o,aQ v,aQ w]/\∀s h',PH.le h h'->a8 h' s 21 [v.enc,w.enc]->K (aQ ⟨o,0,eV,bF,bF,bF,bF,0,s⟩) m h'
def TH:Vc.Spec:=λcvs m h K=>∃n,cvs=[cI n]/\K (aV ⟨4,n,⟨#[]⟩⟩) m h
noncomputable def X6(w:QV)(sl:Sl):Ctx:=dM [(55,Ia),(56,H8),(57,WV),(58,TB)]
 [(10,{A:=Nat×List Sl×Sl×MH×PH,st:=λ⟨i,us,s,m,h⟩=>cE 54 57 [(4,.at (.ptr 4 0)),(5,.at (.ptr 5 0)),(12,.at (.lst 34)),(35,sv s),(36,iv s.len),(37,iv i)] [(4,.cells 25 [.val (.slice sl.a sl.len sl.cap)]),(5,.cells 38 (w.enc.map .val)),(34,.lst 53 1 (us.map eS))] m h})] [] [] false
abbrev vR(a:List At):Prop:=eQ (oQ 25 a)
attribute [push_cast] vR
def PR(v:aW)(sl:Sl)(w:QV)(m:MH)(h:PH)(K:CV->MH->PH->Prop):Prop:=
  ∃(s:aW)(p:Sl)(v1:QV),E7 (λs1 p1=>∃(q:Query),aA (bI v::aT mW (cN w)=bI s::aT (cW p) (cN v1)) (gI h s1 s) (aA (Ints h p p1) (dA h q v1) (dX (iR q)/\cC (λs2 h1=>bJ h h1 (Ints h1 s2 (dG s1 p1 q).1) (dT (dG s1 p1 q).2 0 (K (CV.tup (aT mW (CV.val (dK (dG s1 p1 q).2)))) m h1) (kG (λv2 s3=>Co (λs4 s5=>aA (bI v::aT (eH 3) (kN (aR sl))=bI v2::aT (eH 3) (kN (aR s4))) (gI h1 s3 v2) (aA (Leaves h1 s4 s5) (j2 s5.length) (dT (oI s3 s5) 0 (K (CV.tup (aY mW (oI s3 s5))) m h1) (pE (λv3 q1=>aA (kA (cN w)=kA (cN v3)) (dA h1 q1 v3) (tZ q1<=900000/\cC (λs6 h2=>bJ h1 h2 (Ints h2 s6 (jJ q1)) (aA (cD (aG s6)) (aG s6<=aG s6) (aA (rI (aG s6*24)) (rI (aG s6))
 (IH (λI x=>aA (I x) (eP 4) (aA (eP 5) (eL 34) (aA (bK s6 (dQ x)) (bL s6 (dQ x)) (aA (bD x.1) (vR (jG (oT sl))) (aA (fD w) (Option.some (Own.lst 53 1 (List.replicate (aG s6).toNat iN))=Option.some (Own.lst 53 1 (jM x))) (aA (cK m (kT x)) (bR h2 (kT x)) True)))))) (λI m1 x=>I x->bC (↑x.1:Int) (aG (dQ x)) (aU (λb o=>aA (aX (dQ x).a b o) (0<=(↑x.1:Int)) ((↑x.1:Int)<aG (dQ x)/\∃(y:Int),aM (uW x) (pA x) b (bM o x.1 1) (bT y)/\aU (λb1 o1=>aA (aX sl.a b1 o1) (0<=y) (y<aG sl/\∃(y1:Sl),aA (aM (uW x) (pA x) b1 (fN o1 y 1) (aR y1)) (0<=(↑x.1:Int)) ((↑x.1:Int)<kE (jM x)/\∃(e:List Value),JO (uZ (jM x) (oP x.1) e) (0<e.length) (λx1=>aA (I x1) (m1 x1<m1
 x) (aA (eP 4) fZ (aA (eL 34) (bK (dQ x) (dQ x1)) (aA (bL (dQ x) (dQ x1)) (fM (bE x.1 1)=bX x1.1) (aA (vR (jG (oT sl))) (fD w) (aA (Option.some (Own.lst 53 1 (List.set (jM x) (oP x.1) (dO y1::List.drop 1 e)))=Option.some (Own.lst 53 1 (jM x1))) (eA (kT x) (kT x1)) (jN (pA x) (kT x1)))))))))))))) (FJ (pA x) (jM x) (λs7 h3 l=>∃(v4:QV)(l1:List (List (List VV)))(q2:Query),aA (aT (cW s7) (cN w)=aT (cW l) (cN v4)) (Leaves h3 l l1) (aA (dA h3 q2 v4) (T9 l1 q2 0) (aA (iW (uW x)) ((jI l1 q2 0).1.length<=1000000) (Dg (jI l1 q2 0).1 (λr=>j2 r.length)/\cC (λs8 h4=>bJ h3 h4 (Rows h4 s8 (jI l1 q2 0).1) (K (CV.tup (aY (cW s8) 0)) (uW x) h4)))))))))))))))))))))))))
def VU(v:aW)(sl:Sl)(w:QV)(m:MH)(h:PH)(K:CV->MH->PH->Prop):Prop:=
  kG (λv1 s=>Co (λs1 s2=>pE (λw1 q=>aA (bI v::aT (kN (aR sl)) (cN w)=bI v1::aT (kN (aR s1)) (cN w1)) (gI h s v1) (aA (Il h s1 s2) (dA h q w1) (aA (dX (iR q)) (iW m) (bO ((dG s [] q).2=0) (oI s s2=0) (D8 s2 q)/\lW h (DW s s2 q).1 K m))))))
noncomputable abbrev AX(a b:QV):List (List Value):=a.enc::fO b.enc
attribute [push_cast] AX
def VW(o:Int)(v w:QV)(m:MH)(h:PH)(K:CV->MH->PH->Prop):Prop:=
  cC (λs h1=>bJ h h1 (a8 h1 s 21 (AX v w)) (K (kN (aI (dK o) aK (aI aK aK (aI aK aK (aI aK aK (xU (zE s))))))) m h1))
noncomputable abbrev uI(a:Int):List Value:=aI (dK 4) (dK a) xY
attribute [push_cast] uI
def VS(n:Int)(m:MH)(h:PH)(K:CV->MH->PH->Prop):Prop:=
  K (kN (uI n)) m h
mutual
theorem Le:∀q:Query,(jJ q).length<=tZ q
 |.mk op ta _ _ _ _ _ _ args=>by
  have:=Jt args;rw[jJ,tZ,List.length_append];split<;>simp<;>omega
theorem Jt:∀qs:List Query,(gY qs).length<=qR qs
 |[]=>by simp[gY,qR]
 |q::qs=>by
  have:=Le q;have:=Jt qs;rw[gY,qR,List.length_append];omega
end
theorem LP:Sound Tryz.prog 21 WX:=by
 refine iB Tryz.func21 ?_;rintro cvs m h K ⟨v,s,sl,st,w,q,rfl,hs,hst,hq,hsm,hT,hb,hK⟩;refine⟨X6 w sl,rfl,aD f55q_sound (aD f56_sound (aD f57_sound (aD f58_sound aF))),PR v sl w m h K,by kernel_rfl,?_⟩;dsimp only[PR,push_cast];unfold DW at hK;refine⟨v,bF,w,s,[],q,rfl,hs,iQ h,hq,hsm,λsl1 h1 le1 _=>aB (λe=>?_) (λe=>?_)⟩
 .rw[if_pos (by simpa using e)]at hK;exact hK ⟨none,0,0⟩ h1 le1 (bZ.nil _ _ _ _)
 have e:(dG s [] q).2=0:=by simpa using e
 rw[if_neg (by simp[e])]at hK;refine⟨v,s,sl,st,rfl,hs.mono le1,(hst.mono le1).lea,hst.len,aB (λe2=>?_) (λe2=>?_)⟩
 .rw[if_pos (by simpa using e2)]at hK;exact hK ⟨none,0,0⟩ h1 le1 (bZ.nil _ _ _ _)
 have e2:oI s st=0:=by simpa using e2
 rw[if_neg (by simp[e2])]at hK;dsimp only at hK;obtain⟨c,c1,c2,c3⟩:=hb e e2;obtain⟨_,_,_,hkz⟩:=HI e;have hkq:bY s [] q=((bY s [] q).1,0):=Prod.ext rfl hkz;obtain⟨ok,ev,rel,len⟩:=Vu e2 hst.val c2 c1 hkq c3;have hcnt:=Lb hsm;have hsl:=Le q;have hin:=Ju hkq;have htl:=(Ot e2).2.1;refine⟨w,q,rfl,hq.mono le1,aC,λs' h2 le2 hi=>?_⟩;have hil:=hi.slen;have hst2:=hst.mono (le1.trans le2);have hstl:=bZ.slen hst2.lea;generalize hts:jJ q=ts at hi hil hsl hin;refine⟨aC,aC,aC,aC,λz=>z.1<=ts.length/\z.2.2.1=s'/\z.2.2.2.1=m/\z.2.2.2.2=h2/\∃us,z.2.1=us++List.replicate (ts.length-z.1) ⟨none,0,0⟩/\us.length=z.1/\∀(j:Nat) u t,us[j]? =some u->ts[j]? =some t->Rows h2 u (st.getD t.toNat []),λz=>ts.length-z.1,⟨(0,List.replicate ts.length ⟨none,0,0⟩,s',m,h2),⟨by simp,rfl,rfl,rfl,[],by simp,rfl,λj u t h=>by simp at h⟩,?_⟩,?_⟩
 .rw[show((s'.len:Int)).toNat=ts.length by omega];dsimp only;rw[List.map_replicate];exact MT
 rintro⟨i,l,s2,m2,h3⟩ ⟨hi1,e3,e4,e5,us,hl,hul,hrow⟩;dsimp only at hi1 e3 e4 e5 hl hul hrow⊢
 subst e3 e4 e5;refine aE (λhlt=>?_) (λhge=>?_)
 .obtain⟨t,hx⟩:=fG hil hlt;obtain⟨b,o,ea,rd⟩:=hi.at' hx;have ht:=hin t (List.mem_of_getElem? hx);have htn:t.toNat<st.length:=by omega
  have e6:st[t.toNat]? =some (st.getD t.toNat []):=by rw[List.getD_eq_getElem?_getD,List.getElem?_eq_getElem htn];rfl
  obtain⟨b2,o2,u,ea2,rd2,hr⟩:=bZ.at hst2.lea e6;have hll:l.length=ts.length:=by rw[hl,List.length_append,List.length_replicate];omega
  have hev:l[i]? =some ⟨none,0,0⟩:=by
   rw[hl,List.getElem?_append_right aC,List.getElem?_replicate,if_pos aC]
  refine⟨b,o,ea,aC,aC,t,.imm rd,b2,o2,ea2,ht.1,aC,u,.imm rd2,aC,by rw[List.length_map];omega,[vO],by rw[List.getElem?_map,show((i:Int)).toNat=i from rfl,hev];rfl,by simp,(i+1,l.set i u,s2,m2,h3),⟨by show i+1<=ts.length;omega,rfl,rfl,rfl,us++[u],?_,by simp[hul],λj u' t' h7 h8=>?_⟩,by show ts.length-(i+1)<ts.length-i;omega,?_⟩
  .dsimp only;rw[hl,List.set_append,if_neg aC,List.append_assoc];congr 1;rw[show ts.length-i=(ts.length-(i+1))+1 by omega,List.replicate_succ,show i-us.length=0 by omega];rfl
  .by_cases hj:j<us.length
   .rw[List.getElem?_append_left hj]at h7;exact hrow j u' t' h7 h8
   .rw[List.getElem?_append_right aC]at h7;have:j-us.length=0:=by have:=(List.getElem?_eq_some_iff.1 h7).1;simp at this;omega
    rw[this]at h7;simp at h7;subst h7;have:j=i:=by omega
    subst this;rw[hx]at h8;cases h8;exact hr
  .dsimp only
   have e9:((l.map eS).set ((i:Int)).toNat (dO u::List.drop 1 [vO]))=(l.set i u).map eS:=by
    rw[List.map_set];rfl
   rw[e9,j8 aC];exact MT
 .have:i=ts.length:=by omega
  subst this;rw[Nat.sub_self,List.replicate_zero,List.append_nil]at hl;subst hl;intro s3 h4 le4 hri;refine⟨s3,w,tA st q,q,rfl,⟨⟨l,hri,by rw[tA,List.length_map,hts,hul],λi x hx=>?_⟩,by rw[tA,List.length_map,hts];omega⟩,hq.mono ((le1.trans le2).trans le4),ok,hT,by rw[ev];exact len,λr hr=>?_,λs5 h5 le5 hr=>hK s5 h5 (((le1.trans le2).trans le4).trans le5) (by rw[<-ev];exact hr)⟩
  .rw[tA,hts,List.getElem?_map]at hx;cases e7:ts[i]? with
   |none=>rw[e7]at hx;cases hx
   |some t=>
    rw[e7]at hx;simp only[Option.map_some,Option.some.injEq]at hx;subst hx;have hil2:=(List.getElem?_eq_some_iff.1 e7).1;exact⟨l[i],List.getElem?_eq_getElem aC,bZ.mono (hrow i _ t (List.getElem?_eq_getElem aC) e7) le4 λr t hv=>cL.mono hv le4⟩
  .rw[ev]at hr;have:=(rel.row r hr).len;omega
theorem UH:Sound Tryz.prog 29 Y3:=by
 refine iB Tryz.func29 ?_;rintro cvs m h K ⟨v,s,sl,st,w,q,rfl,hs,hst,hq,hsm,hT,hb,hK⟩;refine⟨dM [(21,WX)] [] [] [] false,rfl,aD LP aF,VU v sl w m h K,by kernel_rfl,?_⟩;exact⟨v,s,sl,st,w,q,rfl,hs,hst,hq,hsm,hT,hb,hK⟩
theorem UI:Sound Tryz.prog 27 YR:=by
 refine iB Tryz.func27 ?_;rintro cvs m h K ⟨o,v,w,rfl,hK⟩;refine⟨dM [] [] [] [] false,rfl,aF,VW o v w m h K,by kernel_rfl,?_⟩;exact hK
theorem UB:Sound Tryz.prog 61 TH:=by
 refine iB Tryz.func61 ?_;rintro cvs m h K ⟨n,rfl,hK⟩;refine⟨dM [] [] [] [] false,rfl,aF,VS n m h K,by kernel_rfl,?_⟩;exact hK
def SF:Vc.Spec:=λcvs m h K=>∃s r,cvs=[cS s]/\cL h s r/\r.length<=1000/\∀s' h',PH.le h h'->cL h' s' r->K (cS s') m h'
def W8:Vc.Spec:=λcvs m h K=>∃v s t sl r,cvs=[aS v,cI t,cS sl]/\gI h s v/\cL h sl r/\r.length<=1000/\∀s' h',PH.le h h'->cL h' s' (FU s t r)->K (cS s') m h'
def N4(key:Int)(ks:List Int)(r:List VV):Prop:=r.length=ks.length/\(∀v∈r,Ij v)/\∀(i:Nat) v k,r[i]? =some v->ks[i]? =some k->xG key k i v=true
def ZG:Vc.Spec:=λcvs m h K=>∃cb s key ks,cvs=[cP cb,cS s,cI key,cI 3]/\aL m h cb/\Ints h s ks/\ks.length<=1000/\(∀k∈ks,k=3\/k=4\/k=5)/\∀s' r m' h',PH.le h h'->cL h' s' r->N4 key ks r->bA m m' cb->aL m' h' cb->K (cS s') m' h'
def Vj(m:MH)(tb:Nat)(us:List Sl):Prop:=∃cur:Array Value,m tb=some (.cells cur 53 (0,0))/\us.length<=cur.size/\cur.toList.take us.length=us.map Sl.val
def ZI:Vc.Spec:=λcvs m h K=>∃v s tb n cap us u,∃t:Nat,∃tab rs sk kr sr row,cvs=[aS v,Yx ⟨some ⟨tb,0,none⟩,n,cap⟩,cI t,cS sk,cS sr]/\gI h s v/\s.tables[t]? =some tab/\Vj m tb us/\n=us.length/\us[t]? =some u/\Rows h u rs/\rs.length<=1000/\(∀r∈rs,r.length<=1000)/\cL h sk kr/\cL h sr row/\0<row.length/\row.length<=1000/\
 ∀u' m' h',PH.le h h'->Rows h' u' (xT tab kr row false rs)->Vj m' tb (us.set t u')->bA m m' tb->K (Yx ⟨some ⟨tb,0,none⟩,n,cap⟩) m' h'
noncomputable def XZ(cb:Nat)(key:Int)(s:Sl):Ctx:=dM [(16,KN),(77,NU)]
 [(3,{A:=Nat×List VV×MH×PH,st:=λ⟨i,l,m,h⟩=>cE 59 63 [(0,pv cb),(2,iv key),(3,iv 3),(9,.at (.lst 24)),(12,sv s),(13,iv s.len),(14,iv i)] [(24,.lst 27 3 (l.map VV.enc))] m h})] [] [] false
noncomputable def XW(v:aW)(sl:Sl)(t:Nat)(sk sr:Sl)(m:MH):Ctx:=dM [(46,W8),(62,Ib),(53,SF)]
 [(4,{A:=Nat×List Sl×Bool×Sl×PH,st:=λ⟨i,us,d,u,h⟩=>cE 66 71 [(2,iv t),(3,sv sk),(4,sv sr),(5,.at (.ptr 5 0)),(6,.at (.ptr 6 0)),(10,.at (.ptr 10 0)),(11,.at (.lst 45)),(12,bv d),(23,sv u),(24,iv u.len),(25,iv i)] [(5,.cells 43 (v.enc.map .val)),(6,.cells 25 [.val sl.val]),(10,.cells 25 [.val bF.val]),(45,.lst 74 1 (us.map eS))] m h})]
 [(9,{A:=Nat×List Sl×Bool×Sl×Sl×Int×PH,st:=λ⟨i,us,d,u,r,c,h⟩=>cE 66 71 [(2,iv t),(3,sv sk),(4,sv sr),(5,.at (.ptr 5 0)),(6,.at (.ptr 6 0)),(10,.at (.ptr 10 0)),(11,.at (.lst 45)),(12,bv d),(14,sv r),(15,iv c),(23,sv u),(24,iv u.len),(25,iv i)] [(5,.cells 43 (v.enc.map .val)),(6,.cells 25 [.val sl.val]),(10,.cells 25 [.val bF.val]),(45,.lst 74 1 (us.map eS))] m h}),
  (14,{A:=List Sl×PH,st:=λ⟨us,h⟩=>cE 66 71 [(2,iv t),(6,.at (.ptr 6 0)),(10,.at (.ptr 10 0)),(11,.at (.lst 45))] [(6,.cells 25 [.val sl.val]),(10,.cells 25 [.val bF.val]),(45,.lst 74 1 (us.map eS))] m h})] [] false
def f53_nice(s:Sl)(m:MH)(h:PH)(K:CV->MH->PH->Prop):Prop:=
  ∃(y:List (List Value)),aA (dY 3 y) (a8 h (dC s) 3 y) (aA (fY (y.length*32)) (fY y.length) (yS h 3 y K m))
def PC(v:aW)(t:Int)(s:Sl)(m:MH)(h:PH)(K:CV->MH->PH->Prop):Prop:=
  bC t 0 (K mW m h) (fR t (gP v) (K mW m h) (aU (λb o=>aA (aX (qG v) b o) (0<=t) (t<aG v.tables/\∃(y:Int),aA (aM m h b (fN o t 5+2) (bT y)) (0<=ite (mC s y>0) (mC s y) 0) (ite (mC s y>0) (mC s y) 0<=(↑s.cap:Int)/\Fm (kA (CV.val (Value.slice s.a (ite (mC s y>0) (mC s y) 0).toNat s.cap))) h (λs1 h1=>K (cW s1) m h1))))))
noncomputable abbrev nE(a:Nat×List VV×MH×PH):List (List Value):=Bm a.2.1
noncomputable abbrev jQ(a:Nat×List VV×MH×PH):MH×PH:=a.2.2
noncomputable abbrev mL(a:Nat×List VV×MH×PH):Nat->Nat->Option Value:=(jQ a).2
abbrev yR(a:Nat×List VV×MH×PH)(b:Nat×List VV×MH×PH->Prop)(c:Nat×List VV×MH×PH->Nat)(d:Nat)(e:Int)(g:Sl)(i:(Nat×List VV×MH×PH)->Prop):Prop:=aA (fY (((nE a).length+1)*32)) (gS (nE a)) (∃(x:Nat×List VV×MH×PH),aA (b x) (c x<c a) (aA (cX d) (eQ (fM e)) (aA jH (eL 24) (aA (aJ g) (bN g) (i x)))))
attribute [push_cast] nE jQ mL yR
def PF(cb:Nat)(s:Sl)(key:Int)(m:MH)(h:PH)(K:CV->MH->PH->Prop):Prop:=
  ∃(I:Nat×List VV×MH×PH->Prop)(m1:Nat×List VV×MH×PH->Nat),(∃(x:Nat×List VV×MH×PH),aA (I x) (cX cb) (aA (eQ (fM key)) jH (aA (eL 24) (aJ s) (aA (bN s) (bD x.1) (aA (rF 27 3 (nE x)) (cK m (jQ x)) (bR h (jQ x)/\True))))))/\∀(x:Nat×List VV×MH×PH),I x->bC (↑x.1:Int) (aG s) (aU (λb o=>aA (aX s.a b o) (0<=(↑x.1:Int)) ((↑x.1:Int)<aG s/\∃(y:Int),aM (jQ x).1 (mL x) b (bM o x.1 1) (bT y)/\cR (decide ((↑x.1:Int)>=key)) (j5 cb 5 (jQ x).1 (mL x) (λc r=>∀(m2:MH),bO (bA (jQ x).1 m2 c) (aL m2 (mL x) c) (cR r (yR x I m1 cb key s (λx1=>aA (fM (bE x.1 1)=bX x1.1) (Option.some (Own.lst 27 3 (dU (nE x) (aI (dK 2) aK xY)))=Option.some (Own.lst 27 3 (nE x1))) (aA
 (cK m2 (jQ x1)) (bR (mL x) (jQ x1)) True))) (decide ((↑x.1:Int)>=key)) (j5 cb 5 m2 (mL x) (λc1 r1=>∀(m3:MH),bO (bA m2 m3 c1) (aL m3 (mL x) c1) (branch r1 (yR x I m1 cb key s (λx1=>aA (fM (bE x.1 1)=bX x1.1) (Option.some (Own.lst 27 3 (dU (nE x) (aI (dK 1) aK xY)))=Option.some (Own.lst 27 3 (nE x1))) (aA (cK m3 (jQ x1)) (bR (mL x) (jQ x1)) True))) (Bi cb y m3 (mL x) (λv m4=>yR x I m1 cb key s (λx1=>aA (fM (bE x.1 1)=bX x1.1) (Option.some (Own.lst 27 3 (dU (nE x) v.enc))=Option.some (Own.lst 27 3 (nE x1))) (aA (cK m4 (jQ x1)) (bR (mL x) (jQ x1)) True))))))) (Bi cb y m2 (mL x) (λv m3=>yR x I m1 cb key s (λx1=>aA (fM (bE x.1 1)=bX x1.1) (Option.some (Own.lst 27 3 (dU
 (nE x) v.enc))=Option.some (Own.lst 27 3 (nE x1))) (aA (cK m3 (jQ x1)) (bR (mL x) (jQ x1)) True))))))) (decide ((↑x.1:Int)>=key)) (j5 cb 5 (jQ x).1 (mL x) (λc r=>∀(m2:MH),bO (bA (jQ x).1 m2 c) (aL m2 (mL x) c) (branch r (yR x I m1 cb key s (λx1=>aA (fM (bE x.1 1)=bX x1.1) (Option.some (Own.lst 27 3 (dU (nE x) (aI (dK 1) aK xY)))=Option.some (Own.lst 27 3 (nE x1))) (aA (cK m2 (jQ x1)) (bR (mL x) (jQ x1)) True))) (Bi cb y m2 (mL x) (λv m3=>yR x I m1 cb key s (λx1=>aA (fM (bE x.1 1)=bX x1.1) (Option.some (Own.lst 27 3 (dU (nE x) v.enc))=Option.some (Own.lst 27 3 (nE x1))) (aA (cK m3 (jQ x1)) (bR (mL x) (jQ x1)) True))))))) (Bi cb y (jQ x).1 (mL x) (λv m2=>yR x
 I m1 cb key s (λx1=>aA (fM (bE x.1 1)=bX x1.1) (Option.some (Own.lst 27 3 (dU (nE x) v.enc))=Option.some (Own.lst 27 3 (nE x1))) (aA (cK m2 (jQ x1)) (bR (mL x) (jQ x1)) True))))))) (yS (mL x) 3 (nE x) K (jQ x).1)
noncomputable abbrev zB(a:Nat×List Sl×Bool×Sl×PH):Bool:=a.2.2.1
noncomputable abbrev mD(a:Nat×List Sl×Bool×Sl×PH):Sl:=a.2.2.2.1
abbrev pW:Prop:=vR (jG Qx)
noncomputable abbrev sV(a:Nat×List Sl×Bool×Sl×PH):List (List Value):=rJ a.2.1
noncomputable abbrev uX(a:Nat×List Sl×Bool×Sl×PH):Nat->Nat->Option Value:=a.2.2.2.2
abbrev II(a:(Nat×List Sl×Bool×Sl×Sl×Int×PH)->Prop)(b:Nat)(c d:Sl)(e:(Nat×List Sl×Bool×Sl×Sl×Int×PH)->Prop):Prop:=∃(x:Nat×List Sl×Bool×Sl×Sl×Int×PH),aA (a x) (eQ (bX b)) (aA (aJ c) (aJ d) (aA fZ (eP 6) (aA kU (eL 45) (e x))))
noncomputable abbrev FF(a:Nat×List Sl×Bool×Sl×Sl×Int×PH):Sl:=a.2.2.2.2.1
noncomputable abbrev FE(a:Nat×List Sl×Bool×Sl×Sl×Int×PH):Int:=a.2.2.2.2.2.1
noncomputable abbrev sS(a:Nat×List Sl×Bool×Sl×Sl×Int×PH):Sl:=a.2.2.2.1
noncomputable abbrev By(a:Nat×List Sl×Bool×Sl×Sl×Int×PH):List (List Value):=rJ a.2.1
noncomputable abbrev Dn(a:Nat×List Sl×Bool×Sl×Sl×Int×PH):Nat->Nat->Option Value:=a.2.2.2.2.2.2
attribute [push_cast] zB mD pW sV uX II FF FE sS By Dn
def PD(v:aW)(tb n cap t:Nat)(sk sr:Sl)(m:MH)(h:PH)(K:CV->MH->PH->Prop):Prop:=
  aU (λb o=>aA (aX (kJ tb) b o) (0<=(↑t:Int)) ((↑t:Int)<(↑n:Int)/\∃(y:Sl),aM m h b (bM o t 1) (aR y)/\∃(I:Nat×List Sl×Bool×Sl×PH->Prop)(m1:Nat×List Sl×Bool×Sl×PH->Nat),(∃(x:Nat×List Sl×Bool×Sl×PH),aA (I x) (eQ (bX t)) (aA (aJ sk) (aJ sr) (aA fZ (eP 6) (aA kU (eL 45) (aA (gC (aG sr==0) (zB x)) (bK y (mD x)) (aA (bL y (mD x)) (bD x.1) (aA (bV v) (vR (jG (At.val (Value.slice (kJ tb) n cap)))) (aA pW (rF 74 1 (sV x)) (dR m m h (uX x))))))))))/\∀(x:Nat×List Sl×Bool×Sl×PH),I x->bC (↑x.1:Int) (aG (mD x)) (aU (λb1 o1=>aA (aX (mD x).a b1 o1) (0<=(↑x.1:Int)) ((↑x.1:Int)<aG (mD x)/\∃(y1:Sl),aM m (uX x) b1 (bM o1 x.1 1) (aR y1)/\
 kG (λv1 s=>∃(t1:Int),oE (λs1 r=>aA (bI v::aT (eH (↑t:Int)) (cW y1)=bI v1::aT (eH t1) (cW s1)) (gI (uX x) s v1) (aA (cL (uX x) s1 r) (j2 r.length) (cC (λs2 h1=>bJ (uX x) h1 (cL h1 s2 (FU s t1 r)) (Df s2 sk h1 (λa b2=>∃(I1:Nat×List Sl×Bool×Sl×Sl×Int×PH->Prop),fR (dP a b2) 0 (gA (zB x) (Fm (fT sr) h1 (λs3 h2=>oM (sV x) 24 (II (λx1=>I1 x1) t sk sr (λx1=>aA (tR x1.2.2.1) (bK y1 (FF x1)) (aA (cG (dP a b2) (FE x1)) (bK (mD x) (sS x1)) (aA (bL (mD x) (sS x1)) (bP x.1 x1.1) (aA (bV v) (vR (jG (At.val (Value.slice (kJ tb) n cap)))) (aA pW (qT (dU (sV x) (aR s3)) (By x1)) (aA (m=m) (h2=Dn x1) True))))))))) (II
 (λx1=>I1 x1) t sk sr (λx1=>aA (gC (zB x) x1.2.2.1) (bK y1 (FF x1)) (aA (cG (dP a b2) (FE x1)) (bK (mD x) (sS x1)) (aA (bL (mD x) (sS x1)) (bP x.1 x1.1) (aA (bV v) (vR (jG (At.val (Value.slice (kJ tb) n cap)))) (aA pW (qT (sV x) (By x1)) (aA (m=m) (h1=Dn x1) True)))))))) (II (λx1=>I1 x1) t sk sr (λx1=>aA (gC (zB x) x1.2.2.1) (bK y1 (FF x1)) (aA (cG (dP a b2) (FE x1)) (bK (mD x) (sS x1)) (aA (bL (mD x) (sS x1)) (bP x.1 x1.1) (aA (bV v) (vR (jG (At.val (Value.slice (kJ tb) n cap)))) (aA pW (qT (sV x) (By x1)) (aA (m=m) (h1=Dn x1) True)))))))/\∀(x1:Nat×List Sl×Bool×Sl×Sl×Int×PH),hX (I1 x1) (FE x1 !=0) (oM
 (By x1) 24 (∃(x2:Nat×List Sl×Bool×Sl×PH),aA (I x2) (m1 x2<m1 x) (aA (eQ (bX t)) (aJ sk) (aA (aJ sr) fZ (aA (eP 6) kU (aA (eL 45) (gC x1.2.2.1 (zB x2)) (aA (bK (sS x1) (mD x2)) (bL (sS x1) (mD x2)) (aA (fM (bE x1.1 1)=bX x2.1) (bV v) (aA (vR (jG (At.val (Value.slice (kJ tb) n cap)))) pW (cT (qT (dU (By x1) (aR (FF x1))) (sV x2)) m m (Dn x1) (uX x2))))))))))) (∃(x2:Nat×List Sl×Bool×Sl×PH),aA (I x2) (m1 x2<m1 x) (aA (eQ (bX t)) (aJ sk) (aA (aJ sr) fZ (aA (eP 6) kU (aA (eL 45) (gC x1.2.2.1 (zB x2)) (aA (bK (sS x1) (mD x2)) (bL (sS x1) (mD x2)) (aA (fM (bE x1.1 1)=bX x2.1) (bV v) (aA (vR (jG (At.val (Value.slice (kJ tb) n cap))))
 pW (cT (qT (By x1) (sV x2)) m m (Dn x1) (uX x2)))))))))))))))))))) (∃(I1:List Sl×PH->Prop),gA (zB x) (Fm (fT sr) (uX x) (λs h1=>oM (sV x) 24 (∃(x1:List Sl×PH),aA (I1 x1) (eQ (bX t)) (aA (eP 6) (eP 10) (aA (eL 45) (vR (jG (At.val (Value.slice (kJ tb) n cap)))) (aA pW (qT (dU (sV x) (aR s)) (rJ x1.1)) (dR m m h1 x1.2))))))) (∃(x1:List Sl×PH),aA (I1 x1) (eQ (bX t)) (aA (eP 6) (eP 10) (aA (eL 45) (vR (jG (At.val (Value.slice (kJ tb) n cap)))) (aA pW (qT (sV x) (rJ x1.1)) (dR m m (uX x) x1.2)))))/\∀(x1:List Sl×PH),I1 x1->aU (λb1 o1=>aA (aX (kJ tb) b1 o1) (0<=(↑t:Int)) ((↑t:Int)<(↑n:Int)/\cC (λs h1=>bJ x1.2 h1 (a8 h1 s 1 (rJ x1.1)) (pO m b1
 (bM o1 t 1) (aR s) (λm2=>K (kN (iP (Value.slice (kJ tb) n cap))) m2 h1))))))))
theorem f53_sound:Sound Tryz.prog 53 SF:=by
 refine iB Tryz.func53 ?_;rintro cvs m h K ⟨s,r,rfl,hs,hl,hK⟩;refine⟨dM [] [] [] [] false,rfl,aF,f53_nice s m h K,by kernel_rfl,?_⟩;dsimp only[f53_nice,push_cast];obtain⟨⟨vs,h1,h2,h3⟩,h4⟩:=hs;exact⟨vs.map VV.enc,Jv vs,h1,by rw[List.length_map];omega,by rw[List.length_map];omega,λs' h' le hri=>hK s' h' le ⟨⟨vs,hri,h2,h3⟩,h4⟩⟩
theorem LI:Sound Tryz.prog 46 W8:=by
 refine iB Tryz.func46 ?_;rintro cvs m h K ⟨v,s,t,sl,r,rfl,hs,hv,hl,hK⟩;refine⟨dM [(53,SF)] [] [] [] false,rfl,aD f53_sound aF,PC v t sl m h K,by kernel_rfl,?_⟩;dsimp only[PC,push_cast];have htl:=hs.tables.slen;have hrl:=bZ.slen hv;have none_:tY s t=false->K mW m h:=λe=>hK ⟨none,0,0⟩ h (.refl _) (by simp only[FU,e];exact bZ.nil _ _ _ _);refine aE (λh1=>none_ (by simp[tY];omega)) (λh1=>aE (λh2=>none_ (by simp[tY];omega)) (λh2=>?_));have e:tY s t=true:=by simp[tY];omega
 obtain⟨tb,htb⟩:∃tb,s.tables[t.toNat]? =some tb:=⟨_,List.getElem?_eq_getElem aC⟩
 obtain⟨b,o,y,ea,rd,hy⟩:=bZ.at hs.tables htb;have hk:=hy.key;obtain⟨a,len,cap⟩:=sl;have hcap:len<=cap:=by obtain⟨vs,h5,_⟩:=hv.ex;exact h5.cap
 have hrl:len=r.length:=hrl
 have hmm:(if(if(len:Int)<y.key then(len:Int)else y.key)>0 then(if(len:Int)<y.key then(len:Int)else y.key)else 0)=max 0 (min tb.key r.length):=by
  rw[<-hk];split<;>split<;>omega
 refine⟨b,o,ea,aC,aC,y.key,.imm (aZ.part rd 2 1),?_⟩;dsimp only;rw[hmm];have e2:FU s t r=r.take (max 0 (min tb.key r.length)).toNat:=by simp only[FU,e,if_true,htb];rfl
 rw[e2]at hK;exact⟨aC,aC,⟨a,(max 0 (min tb.key r.length)).toNat,cap⟩,_,rfl,hv.cut aC,by rw[List.length_take];omega,hK⟩
theorem N4.snoc{key:Int}{ks:List Int}{l:List VV}{k:Int}{v:VV}(x:N4 key (ks.take i) l)(hk:ks[i]? =some k)(hv:Ij v)(hf:xG key k i v=true):N4 key (ks.take (i+1)) (l++[v]):=by
 obtain⟨h1,h2,h3⟩:=x;have hi:=(List.getElem?_eq_some_iff.1 hk).1;have hl:l.length=i:=by rw[h1,List.length_take];omega
 refine⟨by rw[List.length_append,List.length_take];simp;omega,λu hu=>?_,λj u k' hu hk'=>?_⟩
 .rcases List.mem_append.1 hu with hu|hu
  .exact h2 u hu
  .simp at hu;subst hu;exact hv
 .rw[List.getElem?_take]at hk';split at hk'
  .by_cases hj:j<l.length
   .rw[List.getElem?_append_left hj]at hu;exact h3 j u k' hu (by rw[List.getElem?_take,if_pos aC];exact hk')
   .have:j=i:=by omega
    subst this;rw[List.getElem?_append_right aC,hl,Nat.sub_self]at hu;simp at hu;subst hu;rw[hk]at hk';cases hk';exact hf
  .cases hk'
theorem O7{key k c:Int}(hc:c=1\/c=2)(hi:(i:Int)>=key):xG key k i ⟨c,0,⟨#[]⟩⟩=true:=by
 rcases hc with rfl|rfl<;>simp[xG,jV,Ei]<;>omega
theorem GU{key k:Int}{v:VV}(hk:Vp k)(hv:TL k v):xG key k i v=true:=by
 obtain⟨h1,h2⟩:=hv hk;simp[xG,h1,h2]
theorem Oh(c:Int):Ij ⟨c,0,⟨#[]⟩⟩:=⟨⟨by simp,by simp⟩,by show(ByteArray.mk #[]).size<=64;decide⟩
theorem UD:Sound Tryz.prog 43 ZG:=by
 refine iB Tryz.func43 ?_;rintro cvs m h K ⟨cb,s,key,ks,rfl,hc,hs,hl,hk,hK⟩;refine⟨XZ cb key s,rfl,aD xL (aD GV aF),PF cb s key m h K,by kernel_rfl,?_⟩;dsimp only[PF,push_cast];have hsl:=hs.slen;refine⟨λz=>z.2.2.2=h/\z.1<=ks.length/\N4 key (ks.take z.1) z.2.1/\bA m z.2.2.1 cb/\aL z.2.2.1 h cb,λz=>ks.length-z.1,⟨(0,[],m,h),⟨rfl,by simp,⟨by simp,by simp,λj u k h=>by simp at h⟩,.refl _ _,hc⟩,MT⟩,?_⟩;rintro⟨i,l,m1,h'⟩ ⟨e1,hi,hfit,o1,c1⟩;dsimp only at e1 hi hfit o1 c1⊢
 subst e1;have hll:l.length=i:=by rw[hfit.1,List.length_take];omega
 refine aE (λhlt=>?_) (λhge s' h2 le2 hri=>?_)
 .obtain⟨k,hx⟩:=fG hsl hlt;obtain⟨b,o,ea,rd⟩:=hs.at' hx;have hkk:=hk k (List.mem_of_getElem? hx);have hI:∀(u:VV)(m':MH),Ij u->xG key k i u=true->bA m1 m' cb->aL m' h' cb->h'=h'/\i+1<=ks.length/\N4 key (ks.take (i+1)) (l++[u])/\bA m m' cb/\aL m' h' cb:=λu m' hu hf o c=>⟨rfl,aC,hfit.snoc hx hu hf,o1.trans o,c⟩
  have hmu:ks.length-(i+1)<ks.length-i:=by omega
  have hw:IntKind.i64.wrap ((i:Int)+1)=((i+1:Nat):Int):=j8 aC;refine⟨b,o,ea,aC,aC,k,.imm rd,aE (λhik=>⟨cb,5,rfl,aC,aC,c1,λr m2 o2 c2=>aB (λ_=>?_) (λ_=>aE (λ_=>⟨cb,5,rfl,aC,aC,c2,λr m3 o3 c3=>aB (λ_=>?_) (λ_=>⟨cb,k,rfl,c3,λu m4 hu hku o4 c4=>?_⟩)⟩) (λ_=>⟨cb,k,rfl,c2,λu m4 hu hku o4 c4=>?_⟩))⟩) (λhik=>aE (λhik2=>absurd hik2 hik) (λ_=>⟨cb,k,rfl,c1,λu m4 hu hku o4 c4=>?_⟩))⟩
  .refine⟨by rw[List.length_map];omega,by rw[List.length_map];omega,(i+1,l++[⟨2,0,⟨#[]⟩⟩],m2,h'),hI _ m2 (Oh 2) (O7 (.inr rfl) hik) o2 c2,hmu,?_⟩;rw[hw,List.map_append];exact MT
  .refine⟨by rw[List.length_map];omega,by rw[List.length_map];omega,(i+1,l++[⟨1,0,⟨#[]⟩⟩],m3,h'),hI _ m3 (Oh 1) (O7 (.inl rfl) hik) (o2.trans o3) c3,hmu,?_⟩;rw[hw,List.map_append];exact MT
  .refine⟨by rw[List.length_map];omega,by rw[List.length_map];omega,(i+1,l++[u],m4,h'),hI _ m4 hu (GU hkk hku) ((o2.trans o3).trans o4) c4,hmu,?_⟩;rw[hw,List.map_append];exact MT
  .refine⟨by rw[List.length_map];omega,by rw[List.length_map];omega,(i+1,l++[u],m4,h'),hI _ m4 hu (GU hkk hku) (o2.trans o4) c4,hmu,?_⟩;rw[hw,List.map_append];exact MT
  .refine⟨by rw[List.length_map];omega,by rw[List.length_map];omega,(i+1,l++[u],m4,h'),hI _ m4 hu (GU hkk hku) o4 c4,hmu,?_⟩;rw[hw,List.map_append];exact MT
 .rw[List.take_of_length_le aC]at hfit;exact hK s' l m1 h2 le2 ⟨⟨l,hri,rfl,λi x hx=>⟨x,hx,rfl⟩⟩,aC⟩ hfit o1 (c1.mono le2)
theorem UC:Sound Tryz.prog 45 ZI:=by
 refine iB Tryz.func45 ?_;rintro cvs m h K ⟨v,s,tb,n,cap,us,u,t,tab,rs,sk,kr,sr,row,rfl,hs,htab,hT,hn,hu,hrs,hrl,hrw,hkr,hrow,h0,h1,hK⟩;refine⟨XW v ⟨some ⟨tb,0,none⟩,n,cap⟩ t sk sr m,rfl,aD LI (aD LH (aD f53_sound aF)),PD v tb n cap t sk sr m h K,by kernel_rfl,?_⟩;dsimp only[PD,push_cast];obtain⟨cur,hcur,hcs,hcl⟩:=hT;have htl:t<us.length:=(List.getElem?_eq_some_iff.1 hu).1;have hul:=bZ.slen hrs;have hsrl:=bZ.slen hrow;have hd0:((sr.len:Int)==0)=false:=by simp;omega
 have hrd:(cur.toList.drop (0+t*1)).take [dO u].length=[dO u]:=by
  have hcurt:cur.toList[t]? =some (Sl.val u):=by
   have e:(cur.toList.take us.length)[t]? =some (Sl.val u):=by rw[hcl,List.getElem?_map,hu];rfl
   rwa [List.getElem?_take,if_pos htl]at e
  have hlt:=(List.getElem?_eq_some_iff.1 hcurt).1;rw[Nat.zero_add,Nat.mul_one,List.drop_eq_getElem_cons hlt,(List.getElem?_eq_some_iff.1 hcurt).2];rfl
 refine⟨tb,0,rfl,aC,aC,u,.lent cur 53 (0,0) hcur hrd,λz=>z.2.2.2.1=u/\z.1<=rs.length/\PH.le h z.2.2.2.2/\∃out,eC z.2.2.2.2 z.2.1 out/\out.length<=2*z.1/\out++xT tab kr row z.2.2.1 (rs.drop z.1)=xT tab kr row false rs,λz=>rs.length-z.1,⟨(0,[],false,u,h),⟨rfl,by simp,.refl _,[],eC.nil _,by simp,by simp⟩,by rw[hd0];exact MT⟩,?_⟩;rintro⟨i,vs,d,u',hx⟩ ⟨e1,hi,le1,out,hru,hol,lH⟩;dsimp only at e1 hi le1 hru hol lH⊢
 subst e1;have hvl:=hru.len;refine aE (λhlt=>?_) (λhge=>?_)
 .obtain⟨r,hxr⟩:=fG hul hlt;have hil:=(List.getElem?_eq_some_iff.1 hxr).1;obtain⟨b,o,w,ea,rd,hv⟩:=bZ.at hrs hxr;have hdrop:rs.drop i=r::rs.drop (i+1):=by rw[List.drop_eq_getElem_cons hil,(List.getElem?_eq_some_iff.1 hxr).2]
  rw[hdrop,xT]at lH;refine⟨b,o,ea,aC,aC,w,.imm (rd.mono le1),v,s,t,w,r,rfl,hs.mono le1,cL.mono hv le1,hrw r (List.mem_of_getElem? hxr),λs' h2 le2 hkv=>⟨s',sk,_,kr,rfl,hkv,cL.mono hkr (le1.trans le2),?_⟩⟩;rw[Dy htab];generalize hc:dP (jU tab r) kr=c at lH⊢
  refine⟨λz=>z.1=i/\z.2.2.2.1=u'/\z.2.2.2.2.1=w/\z.2.2.2.2.2.1=c/\PH.le hx z.2.2.2.2.2.2/\∃out,eC z.2.2.2.2.2.2 z.2.1 out/\out.length<=2*i+1/\out++((if c≠0 then[r]else[])++xT tab kr row z.2.2.1 (rs.drop (i+1)))=xT tab kr row false rs,aE (λhc0=>aB (λhd=>?_) (λhd=>?_)) (λhc0=>?_),?_⟩
  .have hd:d=false:=by simpa using hd
   subst hd;rw[if_pos ⟨hc0,rfl⟩,show(false||decide (0<=c))=true by simp;omega]at lH;refine⟨sr,row,rfl,cL.mono hrow (le1.trans le2),h1,λs2 h3 le3 hv3=>⟨by rw[List.length_map];omega,by rw[List.length_map];omega,(i,vs++[s2],true,u',w,c,h3),⟨rfl,rfl,rfl,rfl,le2.trans le3,out++[row],(hru.mono (le2.trans le3)).snoc hv3,by rw[List.length_append];simp;omega,?_⟩,?_⟩⟩
   .rw[List.append_assoc];exact lH
   .rw[List.map_append];exact MT
  .have hd:d=true:=by simpa using hd
   subst hd;rw[if_neg (by simp),Bool.true_or,List.nil_append]at lH;exact⟨(i,vs,true,u',w,c,h2),⟨rfl,rfl,rfl,rfl,le2,out,hru.mono le2,aC,lH⟩,MT⟩
  .rw[if_neg (λh=>hc0 h.1),show(d||decide (0<=c))=d by rw[decide_eq_false hc0,Bool.or_false],List.nil_append]at lH;exact⟨(i,vs,d,u',w,c,h2),⟨rfl,rfl,rfl,rfl,le2,out,hru.mono le2,aC,lH⟩,MT⟩
  clear lH hru hol hvl out vs;rintro⟨i',vs,d,u2,w2,c2,h3⟩ ⟨e2,e3,e4,e5,le3,out,hru,hol,lH⟩;dsimp only at e2 e3 e4 e5 le3 hru hol lH⊢
  subst e2 e3 e4 e5;have hvl:=hru.len;have hw:IntKind.i64.wrap ((i':Int)+1)=((i'+1:Nat):Int):=j8 aC;refine aB (λhcn=>?_) (λhcn=>?_)
  .rw[if_pos (by simpa using hcn)]at lH;refine⟨by rw[List.length_map];omega,by rw[List.length_map];omega,(i'+1,vs++[w2],d,u2,h3),⟨rfl,by show i'+1<=rs.length;omega,le1.trans le3,out++[r],hru.snoc (cL.mono hv (le1.trans le3)),by rw[List.length_append];simp;omega,by rw[List.append_assoc];exact lH⟩,by show rs.length-(i'+1)<rs.length-i';omega,?_⟩;rw[hw,List.map_append];exact MT
  .rw[if_neg (by simpa using hcn),List.nil_append]at lH;refine⟨(i'+1,vs,d,u2,h3),⟨rfl,by show i'+1<=rs.length;omega,le1.trans le3,out,hru,by show out.length<=2*(i'+1);omega,lH⟩,by show rs.length-(i'+1)<rs.length-i';omega,?_⟩;rw[hw];exact MT
 .have hi2:i=rs.length:=by omega
  rw[hi2,List.drop_length,xT]at lH;refine⟨λz=>PH.le h z.2/\eC z.2 z.1 (xT tab kr row false rs),aB (λhd=>?_) (λhd=>?_),?_⟩
  .have hd:d=false:=by simpa using hd
   rw[hd,if_neg (by simp)]at lH;refine⟨sr,row,rfl,cL.mono hrow le1,h1,λs2 h3 le3 hv3=>⟨by rw[List.length_map];omega,by rw[List.length_map];omega,(vs++[s2],h3),⟨le1.trans le3,by rw[<-lH];exact(hru.mono le3).snoc hv3⟩,?_⟩⟩;rw[List.map_append];exact MT
  .have hd:d=true:=by simpa using hd
   rw[hd,if_pos rfl,List.append_nil]at lH;exact⟨(vs,hx),⟨le1,by rw[<-lH];exact hru⟩,MT⟩
  rintro⟨vs2,h3⟩ ⟨le3,hru3⟩;dsimp only at le3 hru3⊢
  have hpl:=Iq (t:=tab) (key:=kr) (row:=row) (l:=rs) (d:=false);refine⟨tb,0,rfl,aC,aC,λs2 h4 le4 hri=>⟨cur,53,⟨hcur⟩,?_,λm' hup=>hK s2 m' h4 (le3.trans le4) ((hru3.mono le4).rows hri (by simp at hpl;omega)) ⟨_,hup.at_,?_,?_⟩ ⟨λb hb=>(hup.other b hb).symm▸rfl⟩⟩⟩
  .omega
  .have hsp:splice cur.toList (0+((t:Int)).toNat*1) [dO s2]=cur.toList.set t (Sl.val s2):=by
    rw[List.set_eq_take_append_cons_drop,if_pos (by rw[Array.length_toList];omega)];simp only[splice,Int.toNat_natCast,Nat.zero_add,Nat.mul_one,List.length_singleton,List.append_assoc];rfl
   rw[hsp];simp only[List.length_set,List.size_toArray,Array.length_toList];exact hcs
  .have hsp:splice cur.toList (0+((t:Int)).toNat*1) [dO s2]=cur.toList.set t (Sl.val s2):=by
    rw[List.set_eq_take_append_cons_drop,if_pos (by rw[Array.length_toList];omega)];simp only[splice,Int.toNat_natCast,Nat.zero_add,Nat.mul_one,List.length_singleton,List.append_assoc];rfl
   rw[hsp,List.length_set,List.map_set, <-hcl,List.take_set]
def KK{α:Type}(T:List α->α->Prop):List α->List α->Prop
 |_,[]=>True
 |pre,x::r=>T pre x/\KK T (pre++[x]) r
theorem O6{α:Type}{T:List α->α->Prop}:∀{l pre:List α},KK T pre l->∀(j:Nat) x,l[j]? =some x->T (pre++l.take j) x
 |[],_,_,j,x,e=>by simp at e
 |y::r,pre,h,0,x,e=>by simp at e;subst e;simpa using h.1
 |y::r,pre,h,j+1,x,e=>by
  have:=O6 h.2 j x (by simpa using e);simpa using this
theorem xE{α:Type}{T:List α->α->Prop}{l:List α}(h:KK T [] l):Good T l:=λj x e=>by simpa using O6 h j x e
theorem Uj{α:Type}{T:List α->α->Prop}{l:List α}(h:Good T l)(n:Nat):Good T (l.take n):=λj x e=>by
 rw[List.getElem?_take]at e;split at e
 .rename_i hj;rw[List.take_take,Nat.min_eq_left aC];exact h j x e
 .cases e
theorem Vw(h8:s.tables.length<=8)(hl:∀t∈s.tables,t.columns.length<=8/\t.refs=[]/\t.checks=[])(v0:0<=s.version)(v1:s.version<=1000)(hg:Good AE s.tables):eK s=0:=by
 have lim:BM s:=⟨h8,λj t e=>by
  obtain⟨h1,h2,h3⟩:=hl t (List.mem_of_getElem? e);exact⟨h1,by simp[h2],by simp[h3]⟩⟩
 have ok:H9 s:=⟨v0,v1,hg,λj t e=>by
  obtain⟨h1,h2,h3⟩:=hl t (List.mem_of_getElem? e);unfold BX;rw[h2];intro i x e2;simp at e2⟩
 rw[Gw lim ok];refine Aj _ λe he=>?_;obtain⟨i,_,he⟩:=List.mem_flatMap.1 he;unfold rU at he;split at he
 .rename_i t ht;obtain⟨h1,h2,h3⟩:=hl t (List.mem_of_getElem? ht);rw[h3]at he;simp at he
 .simp at he
theorem QI{id:Int}(h:id=4\/id=5):Good AE (kZ id):=by
 have hk:cV id=true:=by rcases h with rfl|rfl<;>rfl
 refine xE ⟨⟨?_,?_,?_,?_,xE ⟨⟨?_,?_,?_⟩,⟨?_,?_,?_⟩,trivial⟩⟩,⟨?_,?_,?_,?_,xE ⟨⟨?_,?_,?_⟩,⟨?_,?_,?_⟩,⟨?_,?_,?_⟩,⟨?_,?_,?_⟩,trivial⟩⟩,⟨?_,?_,?_,?_,xE ⟨⟨?_,?_,?_⟩,⟨?_,?_,?_⟩,trivial⟩⟩,⟨?_,?_,?_,?_,xE ⟨⟨?_,?_,?_⟩,trivial⟩⟩,trivial⟩
 all_goals first|exact hk|rfl|(simp;done)|decide
theorem EY(h:pK s):eK s=0/\s.tables≠[]:=by
 obtain⟨ver,n,id,v0,v1,n2,n4,hid,rfl⟩:=h.ex;refine⟨Vw (by simp[kZ];omega) (λt ht=>?_) v0 (by show ver<=1000;omega) (Uj (QI hid) n),λe=>?_⟩
 .have ht:=List.mem_of_mem_take ht;simp only[kZ,List.mem_cons,List.not_mem_nil,or_false]at ht;rcases ht with rfl|rfl|rfl|rfl<;>exact⟨by simp,rfl,rfl⟩
 .have:=congrArg List.length e;simp[kZ]at this;omega
theorem GA(h:pK s){t:vL}(ht:t∈s.tables):1<=t.key/\1<=t.columns.length/\t.columns.length<=4/\∀c∈t.columns,Vp c.kind:=by
 obtain⟨ver,n,id,v0,v1,n2,n4,hid,rfl⟩:=h.ex;have hk:Vp id:=by rcases hid with rfl|rfl;exact .inr (.inl rfl);exact .inr (.inr rfl)
 have ht:=List.mem_of_mem_take ht;simp only[kZ,List.mem_cons,List.not_mem_nil,or_false]at ht;rcases ht with rfl|rfl|rfl|rfl
 all_goals
  refine⟨by simp,by simp,by simp,λc hc=>?_⟩;simp only[List.mem_cons,List.not_mem_nil,or_false]at hc
 .rcases hc with rfl|rfl<;>exact .inr (.inl rfl)
 .rcases hc with rfl|rfl|rfl|rfl
  .exact hk
  .exact .inr (.inl rfl)
  .exact .inr (.inr rfl)
  .exact .inl rfl
 .rcases hc with rfl|rfl<;>exact .inr (.inl rfl)
 .subst hc;exact hk
theorem QH(h:pK s):WU s:=λt k hk=>by
 unfold gT at hk;split at hk
 .simp at hk
 .split at hk
  .simp at hk
  .rename_i tb htb;obtain⟨c,hc,rfl⟩:=List.mem_map.1 hk;exact(GA h (List.mem_of_getElem? htb)).2.2.2 c hc
end Go.Ps
