/-
  Part 8 of a proof that a law of the given program returns true: a condition generator that is proved sound, and contracts of functions. No condition of its own. Own work, joined by a program (pack2.py).
-/
import Derived.Test.YtileehgdfcknkaaGreatDoorFg
set_option linter.unusedVariables false
set_option linter.unusedSimpArgs false
namespace Go.Ps
open Go Go.Vc Go.Proofs
variable{K:CV->MH->PH->Prop}{m:MH}{h:PH}{s:nS}{ps:List Int}{cb:Nat}{sc:bJ}{v:QV}{q:Query}{p:Pred}{l:List Int}{i:Nat}{N:Nat}{m':MH}{h':PH}{co:List Int}{gr:List Int}{od:List (Int×Bool)}{w:Pred}{ta:Int}{li:Int}{xs:List (List Value)}{sz:Nat}{k:Nat}{ks:List (List Int)}{rs:List Int}{r:Sl}{a:List Int}{b:Nat}
structure CE(s:nS)(c:Nat)(ls:List (List (List VV)))(k:Nat)(ts:List Int):Prop where
 at_:∀(j:Nat)(t:Int),ts[j]? =some t->∃l,ls[k+j]? =some l/\iH (gT s t).length l/\l.length<=c
theorem CE.left{c:Nat}{ls:List (List (List VV))}{b:List Int}(x:CE s c ls k (a++b)):CE s c ls k a:=
 ⟨λj t h=>x.at_ j t (by rw[List.getElem?_append_left (List.getElem?_eq_some_iff.1 h).1];exact h)⟩
theorem CE.right{c:Nat}{ls:List (List (List VV))}{b:List Int}(x:CE s c ls k (a++b)):CE s c ls (k+a.length) b:=
 ⟨λj t h=>by
  have:=x.at_ (a.length+j) t (by rw[List.getElem?_append_right aC,Nat.add_sub_cancel_left];exact h)
  rwa [show k+a.length+j=k+(a.length+j)by omega]⟩
theorem xP{op:Int}{on:List (Int×Int)}{args:List Query}{ks:List Int}(h:bO s ps (.mk op ta w co on gr od li args)=(ks,0)):
 ∃kss,eU s ps args=(kss,0)/\(kss.length:Int)=arity op/\hZ s ps (.mk op ta w co on gr od li args) (kss.getD 0 []) (kss.getD 1 [])=(ks,0):=by
 rw[bO]at h;generalize eU s ps args=r at h;obtain⟨kss,e⟩:=r;dsimp only at h;split at h
 .rename_i e0;subst e0;split at h
  .rename_i h1;exact⟨kss,rfl,h1,h⟩
  .simp[iR]at h
 .rename_i e0;simp only[iR,Prod.mk.injEq]at h;exact absurd h.2 e0
theorem jQ{qs:List Query}{kss:List (List Int)}(h:eU s ps (q::qs)=(kss,0)):∃k kss',bO s ps q=(k,0)/\eU s ps qs=(kss',0)/\kss=k::kss':=by
 rw[eU]at h;generalize bO s ps q=r at h;obtain⟨k,e⟩:=r;generalize eU s ps qs=r at h;obtain⟨ks,e'⟩:=r;dsimp only at h;split at h
 .rename_i e0;split at h
  .rename_i e1;simp only[Prod.mk.injEq,and_true]at h;exact⟨k,ks,by rw[e0],by rw[e1],h.symm⟩
  .rename_i e1;simp only[Prod.mk.injEq]at h;exact absurd h.2 e1
 .rename_i e0;simp only[Prod.mk.injEq]at h;exact absurd h.2 e0
theorem j6{ks:List Int}(h:z7 l=(ks,0)):ks=l/\l.length<=12:=by
 unfold z7 at h;split at h
 .rename_i h1;simp only[Prod.mk.injEq,and_true]at h;exact⟨h.symm,h1⟩
 .simp at h
theorem R1{op:Int}(h:arity op=0):op=1:=by
 unfold arity at h;split at h
 .rename_i e;simpa using e
 .split at h
  .omega
  .split at h<;>omega
mutual
theorem P0{s:nS}{ps:List Int}{c:Nat}(hc:1<=c):∀{q:Query}{ks:List Int},bO s ps q=(ks,0)->1<=lZ c q
 |.mk op ta w co on gr od li args,ks,h=>by
  obtain⟨kss,h1,h2,h3⟩:=xP h;have h4:=R2 hc h1;rw[lZ];split
  .exact hc
  .rename_i n1;split
   .exact h4.1
   .match args,h1,h4 with
    |[],h1,_=>rw[eU]at h1;simp only[Prod.mk.injEq,and_true]at h1;rw[<-h1]at h2;exact absurd (R1 h2.symm) n1
    |q::qs,h1,h4=>exact h4.2 (by simp)
theorem R2{s:nS}{ps:List Int}{c:Nat}(hc:1<=c):∀{qs:List Query}{kss:List (List Int)},eU s ps qs=(kss,0)->1<=u7 c qs/\(qs≠[]->1<=vO c qs)
 |[],kss,h=>by simp[u7]
 |q::qs,kss,h=>by
  obtain⟨k,kss',h1,h2,h3⟩:=jQ h;have h4:=P0 hc h1;have h5:=R2 hc h2;rw[u7,vO];exact⟨Nat.mul_pos h4 h5.1,λ_=>by omega⟩
end
def Mp(c:Nat):List Query->List (List Int)->List (List (List VV))->Prop
 |[],[],[]=>True
 |q::qs,k::ks,l::ls=>iH k.length l/\l.length<=lZ c q/\Mp c qs ks ls
 |_,_,_=>False
theorem M4{α:Type}:∀{l:List α},l.length=2->∃a b,l=[a,b]
 |[a,b],_=>⟨a,b,rfl⟩
theorem Mp.len{c:Nat}{qs:List Query}{ls:List (List (List VV))}(h:Mp c qs ks ls):qs.length=ks.length/\ls.length=ks.length:=by
 induction qs generalizing ks ls with
 |nil=>
  match ks,ls,h with
  |[],[],_=>exact⟨rfl,rfl⟩
  |_::_,[],h=>exact h.elim
  |[],_::_,h=>exact h.elim
  |_::_,_::_,h=>exact h.elim
 |cons q qs ih=>
  match ks,ls,h with
  |[],[],h=>exact h.elim
  |_::_,[],h=>exact h.elim
  |[],_::_,h=>exact h.elim
  |k::ks,l::ls,h=>
   obtain⟨h1,h2⟩:=ih h.2.2;exact⟨by simp[h1],by simp[h2]⟩
theorem iH.filter{w:Nat}{l:List (List VV)}(x:iH w l)(p:List VV->Bool):iH w (l.filter p):=
 ⟨λr h=>x.row r (List.mem_filter.1 h).1,λr h=>x.wid r (List.mem_filter.1 h).1,x.srt.filter p,Nat.le_trans (List.length_filter_le _ _) x.len⟩
theorem OF(x:List VV):∀l:List (List VV),(Gt x l).length<=l.length+1
 |[]=>by simp[Gt]
 |y::l=>by
  have:=OF x l;simp only[Gt];split
  .simp
  .split<;>simp<;>omega
theorem EB:∀l:List (List VV),(Ae l).length<=l.length
 |[]=>by simp[Ae]
 |x::l=>by
  have h1:=EB l;have h2:=OF x (Ae l);show(Gt x (Ae l)).length<=(x::l).length;simp only[List.length_cons];omega
theorem iH.set{w:Nat}{l:List (List VV)}(h1:∀r∈l,NN r)(h2:∀r∈l,r.length=w)(h3:l.length<=1000000):iH w (Ae l):=
 ⟨λr h=>h1 r (BX.1 h),λr h=>h2 r (BX.1 h),yA l,Nat.le_trans (EB l) h3⟩
theorem FQ:∀{x y u v:List VV},x.length=y.length->dR (x++u) (y++v)=if dR x y≠0 then dR x y else dR u v
 |[],[],u,v,_=>by simp[dR]
 |a::x,b::y,u,v,h=>by
  simp only[List.length_cons,Nat.add_right_cancel_iff]at h;simp only[List.cons_append,dR];by_cases e:jY a b=0
  .simp only[e,ne_eq,not_true_eq_false,if_false];exact FQ h
  .simp[e]
 |[],_::_,_,_,h=>by simp at h
 |_::_,[],_,_,h=>by simp at h
theorem yY{on:List (Int×Int)}{b:List (List VV)}{x z:List VV}(h:z∈mO on b x):∃y∈b,z=x++y:=by
 unfold mO at h;split at h
 .obtain⟨y,hy,rfl⟩:=List.mem_map.1 h;exact⟨y,(List.mem_filter.1 hy).1,rfl⟩
 .simp at h
theorem iH.join{w w':Nat}{a b:List (List VV)}{on:List (Int×Int)}(ha:iH w a)(hb:iH w' b)(hw:w+w'<=12)(hl:a.length*b.length<=1000000):iH (w+w') (a.flatMap (mO on b)):=by
 refine⟨λr h=>?_,λr h=>?_,?_,Nat.le_trans (uS λx _=>yZ) hl⟩
 .obtain⟨x,hx,h⟩:=List.mem_flatMap.1 h;obtain⟨y,hy,rfl⟩:=yY h;have h1:=ha.wid x hx;have h2:=hb.wid y hy;refine⟨by rw[List.length_append];omega,λv hv=>?_⟩;rcases List.mem_append.1 hv with hv|hv
  .exact(ha.row x hx).val v hv
  .exact(hb.row y hy).val v hv
 .obtain⟨x,hx,h⟩:=List.mem_flatMap.1 h;obtain⟨y,hy,rfl⟩:=yY h;rw[List.length_append,ha.wid x hx,hb.wid y hy]
 .refine List.pairwise_flatMap.2 ⟨λx hx=>?_,?_⟩
  .unfold mO;split
   .refine List.pairwise_map.2 ((hb.srt.filter _).imp fun{y z} h=>?_);rw[FQ rfl,if_neg (by rw[kR.2 rfl];simp)];exact h
   .exact List.Pairwise.nil
  .refine ha.srt.imp_of_mem fun{x y} hx hy h z hz u hu=>?_;obtain⟨z',_,rfl⟩:=yY hz;obtain⟨u',_,rfl⟩:=yY hu;rw[FQ (by rw[ha.wid x hx,ha.wid y hy]),if_pos aC];exact h
theorem JE{c:Int}(h:DK a c=true):0<=c/\c<a.length:=by
 simp only[DK,Bool.and_eq_true,decide_eq_true_eq]at h;exact h
theorem Cq{α:Type}{T:List α->α->Prop}{l:List α}(h:Good T l){x:α}(hx:x∈l):∃pre,T pre x:=by
 obtain⟨i,hi,e⟩:=List.mem_iff_getElem.1 hx;exact⟨_,h i x (by rw[<-e];exact List.getElem?_eq_getElem hi)⟩
theorem EL:∀(n:Nat)(l:List Int),l.Nodup->(∀x∈l,0<=x/\x<n)->l.length<=n
 |0,[],_,_=>by simp
 |0,x::l,_,h=>by have:=h x (List.mem_cons_self ..);omega
 |n+1,l,hd,h=>by
  by_cases hn:(n:Int)∈l
  .have h1:=EL n (l.erase n) (hd.erase _) (λx hx=>by
    have h2:=(hd.mem_erase_iff).1 hx;have:=h x h2.2;omega)
   rw[List.length_erase_of_mem hn]at h1;omega
  .have:=EL n l hd (λx hx=>by
    have:=h x hx;have h3:x≠(n:Int):=λe=>hn (e▸hx);omega)
   omega
theorem JH{α:Type}{T:List α->α->Prop}{l:List α}(f:α->Int)(hT:∀pre x,T pre x->f x∉pre.map f)(h:Good T l):(l.map f).Nodup:=by
 rw[List.nodup_iff_pairwise_ne,List.pairwise_map,List.pairwise_iff_getElem];intro i j hi hj hij e;refine hT _ _ (h j l[j] (List.getElem?_eq_getElem hj)) (List.mem_map.2 ⟨l[i],?_,e⟩);rw[List.mem_take_iff_getElem];exact⟨i,aC,rfl⟩
theorem JG(h:Good (Ha a) gr)(hl:a.length<=12):gH a.length gr:=by
 have h1:∀c∈gr,0<=c/\c<a.length:=λc hc=>by obtain⟨_,h2⟩:=Cq h hc;exact JE h2.1
 have h2:=JH id (λpre x(h:Ha a pre x)=>by simpa using h.2) h;rw[List.map_id]at h2;exact⟨h1,by have:=EL _ _ h2 h1;omega⟩
theorem KX{b:List Int}{on:List (Int×Int)}(h:Good (zI a b) on)(ha:a.length<=12)(hb:b.length<=12):gH a.length (jU on)/\gH b.length (fM on):=by
 have h1:∀c∈jU on,0<=c/\c<a.length:=λc hc=>by
  obtain⟨p,hp,rfl⟩:=List.mem_map.1 hc;obtain⟨_,h2⟩:=Cq h hp;exact JE h2.1
 have h2:∀c∈fM on,0<=c/\c<b.length:=λc hc=>by
  obtain⟨p,hp,rfl⟩:=List.mem_map.1 hc;obtain⟨_,h2⟩:=Cq h hp;exact JE h2.2.1
 have h3:(jU on).Nodup:=JH Prod.fst (λpre x(h:zI a b pre x) hm=>by
  obtain⟨y,hy,e⟩:=List.mem_map.1 hm;exact(h.2.2.2 y hy).1 e) h
 have h4:=EL _ _ h3 h1;exact⟨⟨h1,aC⟩,⟨h2,by simp only[jU,fM,List.length_map]at h4⊢;omega⟩⟩
theorem On{w:Nat}{r:List VV}(hr:NN r)(hw:r.length=w)(hc:gH w co)(hl:co.length<=12):NN (pick r co)/\(pick r co).length=co.length:=
 ⟨⟨by simpa[pick]using hl,EJ hr (by rw[hw];exact hc)⟩,by simp[pick]⟩
theorem Ew{c:Nat}{p:Query}:vO c [q,p]=lZ c q+lZ c p:=by simp[vO]
theorem Mz{c:Nat}:vO c [q]=lZ c q:=by simp[vO]
theorem Vh{c:Nat}{p:Query}:u7 c [q,p]=lZ c q*lZ c p:=by simp[u7]
theorem W6{c:Nat}{op:Int}{on:List (Int×Int)}{args:List Query}{ks:List Int}{kss:List (List Int)}{L:List (List (List VV))}(n1:op≠1)
 (h2:(kss.length:Int)=arity op)(h12:∀k∈kss,k.length<=12)(h3:hZ s ps (.mk op ta w co on gr od li args) (kss.getD 0 []) (kss.getD 1 [])=(ks,0))(hA:Mp c args kss L)(hb:lZ c (.mk op ta w co on gr od li args)<=1000000):
 Y1 op (.mk op ta w co on gr od li args) L/\iH ks.length (Y0 op (.mk op ta w co on gr od li args) L)/\(Y0 op (.mk op ta w co on gr od li args) L).length<=lZ c (.mk op ta w co on gr od li args):=by
 rw[lZ,if_neg n1]at hb⊢
 unfold hZ at h3;dsimp only at h3;split at h3
 .simp[iR]at h3
 have one:arity op=1->∃q k l,args=[q]/\kss=[k]/\L=[l]/\iH k.length l/\l.length<=lZ c q/\k.length<=12:=λe=>by
  obtain⟨l1,l2⟩:=hA.len;obtain⟨k,rfl⟩:=List.length_eq_one_iff.1 (show kss.length=1 by omega);obtain⟨q,rfl⟩:=List.length_eq_one_iff.1 (show args.length=1 by simpa using l1);obtain⟨l,rfl⟩:=List.length_eq_one_iff.1 (show L.length=1 by simpa using l2);exact⟨q,k,l,rfl,rfl,rfl,hA.1,hA.2.1,h12 k (by simp)⟩
 have two:arity op=2->∃q p k k' l l',args=[q,p]/\kss=[k,k']/\L=[l,l']/\iH k.length l/\l.length<=lZ c q/\iH k'.length l'/\l'.length<=lZ c p/\k.length<=12/\k'.length<=12:=λe=>by
  obtain⟨l1,l2⟩:=hA.len;obtain⟨k,k',rfl⟩:=M4 (show kss.length=2 by omega);obtain⟨q,p,rfl⟩:=M4 (show args.length=2 by simpa using l1);obtain⟨l,l',rfl⟩:=M4 (show L.length=2 by simpa using l2);exact⟨q,p,k,k',l,l',rfl,rfl,rfl,hA.1,hA.2.1,hA.2.2.1,hA.2.2.2.1,h12 k (by simp),h12 k' (by simp)⟩
 have ar:op=2\/op=3\/op=9\/op=4\/op=5\/op=6\/op=7\/op=8\/op=10:=by
  have:0<=arity op:=by omega
  unfold arity at this;split at this
  .rename_i e;simp at e;exact absurd e n1
  .split at this
   .rename_i e;simp at e;omega
   .split at this
    .rename_i e;simp at e;omega
    .omega
 rcases ar with rfl|rfl|rfl|rfl|rfl|rfl|rfl|rfl|rfl
 .obtain⟨q,k,l,rfl,rfl,rfl,hr,hl,hk⟩:=one rfl;simp only[show((2:Int)=4)=False by decide,if_false,if_true]at h3 hb⊢
  split at h3
  .obtain⟨rfl,_⟩:=j6 h3;refine⟨⟨by simp,λx hx=>by simp at hx;subst hx;exact⟨_,hr⟩⟩,hr.filter _,Nat.le_trans (List.length_filter_le _ _) ?_⟩;rw[Mz];exact hl
  .rename_i e;simp only[iR,Prod.mk.injEq]at h3;exact absurd h3.2 e
 .obtain⟨q,k,l,rfl,rfl,rfl,hr,hl,hk⟩:=one rfl;simp only[show((3:Int)=4)=False by decide,show((3:Int)=2)=False by decide,if_false,if_true]at h3 hb⊢
  split at h3
  .rename_i hg;obtain⟨rfl,h12'⟩:=j6 h3;rw[List.length_map]at h12'⊢
   have hc:gH k.length co:=⟨λc hc=>by obtain⟨_,h2⟩:=Cq hg.2 hc;exact JE h2,aC⟩
   rw[Mz]at hb⊢
   refine⟨⟨by simp,h12',_,hr,hc⟩,iH.set (λr h=>?_) (λr h=>?_) (by show(l.map _).length<=_;rw[List.length_map];exact hr.len),Nat.le_trans (EB _) (by show(l.map _).length<=_;rw[List.length_map];exact hl)⟩
   .obtain⟨x,hx,rfl⟩:=List.mem_map.1 h;exact(On (hr.row x hx) (hr.wid x hx) hc h12').1
   .obtain⟨x,hx,rfl⟩:=List.mem_map.1 h;exact(On (hr.row x hx) (hr.wid x hx) hc h12').2
  .simp[iR]at h3
 .obtain⟨q,k,l,rfl,rfl,rfl,hr,hl,hk⟩:=one rfl;simp only[show((9:Int)=4)=False by decide,show((9:Int)=2)=False by decide,show((9:Int)=3)=False by decide,show((9:Int)=5)=False by decide,if_false,if_true]at h3 hb⊢
  split at h3
  .rename_i hg;obtain⟨rfl,h12'⟩:=j6 h3;rw[Mz]at hb⊢
   exact⟨⟨by simp,⟨_,hr,JG hg.group_ hk⟩,hg.low⟩,hr.filter _,Nat.le_trans (List.length_filter_le _ _) hl⟩
  .simp[iR]at h3
 .obtain⟨q,p,k,k',l,l',rfl,rfl,rfl,hr,hl,hr',hl',hk,hk'⟩:=two rfl;simp only[show((4:Int)=2)=False by decide,show((4:Int)=3)=False by decide,if_false,if_true]at h3 hb⊢
  split at h3
  .rename_i hg;obtain⟨rfl,h12'⟩:=j6 h3;rw[Vh]at hb⊢
   have hc:=KX hg hk hk';have hm:l.length*l'.length<=lZ c q*lZ c p:=Nat.mul_le_mul hl hl';rw[List.length_append]at h12'⊢
   exact⟨⟨⟨by simp,_,_,hr,hr',hc.1,hc.2⟩,Nat.le_trans hm hb⟩,hr.join hr' h12' (Nat.le_trans hm hb),Nat.le_trans (uS λx _=>yZ) hm⟩
  .simp[iR]at h3
 .obtain⟨q,p,k,k',l,l',rfl,rfl,rfl,hr,hl,hr',hl',hk,hk'⟩:=two rfl;simp only[show((5:Int)=2)=False by decide,show((5:Int)=3)=False by decide,show((5:Int)=4)=False by decide,if_false,if_true]at h3 hb⊢
  split at h3
  .rename_i hg;obtain⟨rfl,h12'⟩:=j6 h3;rw[Ew]at hb⊢
   have hc:=KX hg hk hk';exact⟨⟨by simp,_,_,hr,hr',hc.1,hc.2⟩,hr.filter _,Nat.le_trans (List.length_filter_le _ _) (by show l.length<=_;omega)⟩
  .simp[iR]at h3
 all_goals
  obtain⟨q,p,k,k',l,l',rfl,rfl,rfl,hr,hl,hr',hl',hk,hk'⟩:=two rfl
 .simp only[show((6:Int)=2)=False by decide,show((6:Int)=3)=False by decide,show((6:Int)=4)=False by decide,show((6:Int)=5)=False by decide,show((6:Int)=9)=False by decide,show((6:Int)=10)=False by decide,if_false,if_true]at h3 hb⊢
  split at h3
  .rename_i hg;have hg:k=k':=hg;subst hg;obtain⟨rfl,h12'⟩:=j6 h3;rw[Ew]at hb⊢
   have hll:(l++l').length<=lZ c q+lZ c p:=by rw[List.length_append];omega
   refine⟨⟨by simp,λx hx=>by simp at hx;rcases hx with rfl|rfl;exact⟨_,hr⟩;exact⟨_,hr'⟩⟩,iH.set (λr h=>?_) (λr h=>?_) (Nat.le_trans hll hb),Nat.le_trans (EB _) hll⟩
   .rcases List.mem_append.1 h with h|h
    .exact hr.row r h
    .exact hr'.row r h
   .rcases List.mem_append.1 h with h|h
    .exact hr.wid r h
    .exact hr'.wid r h
  .simp[iR]at h3
 .simp only[show((7:Int)=2)=False by decide,show((7:Int)=3)=False by decide,show((7:Int)=4)=False by decide,show((7:Int)=5)=False by decide,show((7:Int)=9)=False by decide,show((7:Int)=10)=False by decide,if_false,if_true]at h3 hb⊢
  split at h3
  .rename_i hg;have hg:k=k':=hg;subst hg;obtain⟨rfl,h12'⟩:=j6 h3;rw[Ew]at hb⊢
   exact⟨⟨by simp,_,λx hx=>by simp at hx;rcases hx with rfl|rfl;exact hr;exact hr'⟩,hr.filter _,Nat.le_trans (List.length_filter_le _ _) (by show l.length<=_;omega)⟩
  .simp[iR]at h3
 .simp only[show((8:Int)=2)=False by decide,show((8:Int)=3)=False by decide,show((8:Int)=4)=False by decide,show((8:Int)=5)=False by decide,show((8:Int)=9)=False by decide,show((8:Int)=10)=False by decide,if_false,if_true]at h3 hb⊢
  split at h3
  .rename_i hg;have hg:k=k':=hg;subst hg;obtain⟨rfl,h12'⟩:=j6 h3;rw[Ew]at hb⊢
   exact⟨⟨by simp,_,λx hx=>by simp at hx;rcases hx with rfl|rfl;exact hr;exact hr'⟩,hr.filter _,Nat.le_trans (List.length_filter_le _ _) (by show l.length<=_;omega)⟩
  .simp[iR]at h3
 .simp only[show((10:Int)=2)=False by decide,show((10:Int)=3)=False by decide,show((10:Int)=4)=False by decide,show((10:Int)=5)=False by decide,show((10:Int)=9)=False by decide,if_false,if_true]at h3 hb⊢
  split at h3
  .rename_i hg;obtain⟨hg,hg2⟩:=hg;have hg:k=k':=hg;subst hg;obtain⟨rfl,h12'⟩:=j6 h3;rw[Ew]at hb⊢
   exact⟨⟨by simp,_,hr,hr',JG hg2.group_ hk⟩,hr.filter _,Nat.le_trans (List.length_filter_le _ _) (by show l.length<=_;omega)⟩
  .simp[iR]at h3
theorem PZ{s:nS}{ps:List Int}{c:Nat}(hc:1<=c):∀{qs:List Query}{kss:List (List Int)},eU s ps qs=(kss,0)->∀q∈qs,lZ c q<=vO c qs/\lZ c q<=u7 c qs
 |[],_,_,q,hq=>by simp at hq
 |p::qs,kss,h,q,hq=>by
  obtain⟨k,kss',h1,h2,h3⟩:=jQ h;have h4:=P0 hc h1;have h5:=(R2 hc h2).1;rw[vO,u7];rcases List.mem_cons.1 hq with rfl|hq
  .exact⟨aC,Nat.le_mul_of_pos_right _ h5⟩
  .have:=PZ hc h2 q hq;exact⟨aC,Nat.le_trans this.2 (Nat.le_mul_of_pos_left _ h4)⟩
theorem JC{s:nS}{ps:List Int}:∀{qs:List Query}{kss:List (List Int)},eU s ps qs=(kss,0)->∀k∈kss,k.length<=12
 |[],kss,h,k,hk=>by rw[eU]at h;simp only[Prod.mk.injEq,and_true]at h;subst h;simp at hk
 |q::qs,kss,h,k,hk=>by
  obtain⟨k',kss',h1,h2,rfl⟩:=jQ h;rcases List.mem_cons.1 hk with rfl|hk
  .have:=tH s ps q;rw[h1]at this;exact this
  .exact JC h2 k hk
structure ZK(c:Nat)(ls:List (List (List VV)))(q:Query)(k:Nat)(ks:List Int):Prop where
 ok:TO ls q k
 rel:iH ks.length (i6 ls q k).1
 bnd:(i6 ls q k).1.length<=lZ c q
 nxt:(i6 ls q k).2=k+(i7 q).length
mutual
theorem PK{s:nS}{ps:List Int}{c:Nat}{ls:List (List (List VV))}(hc:1<=c):∀{q:Query}{ks:List Int}{k:Nat},bO s ps q=(ks,0)->CE s c ls k (i7 q)->lZ c q<=1000000->ZK c ls q k ks
 |.mk op ta w co on gr od li args,ks,k,h,hl,hb=>by
  obtain⟨kss,h1,h2,h3⟩:=xP h;by_cases e:op=1
  .subst e
   have h0:args=[]:=by
    cases args with
    |nil=>rfl
    |cons q qs=>obtain⟨_,_,_,_,rfl⟩:=jQ h1;simp[arity]at h2;omega
   subst h0;have hs:i7 (.mk 1 ta w co on gr od li [])=[ta]:=by simp[i7,gZ]
   unfold hZ at h3;dsimp only at h3;split at h3
   .simp[iR]at h3
   try rw[if_pos rfl]at h3
   split at h3
   .obtain⟨rfl,_⟩:=j6 h3;rw[hs]at hl;obtain⟨l,e1,e2,e3⟩:=hl.at_ 0 ta rfl;rw[Nat.add_zero]at e1;have e4:(i6 ls (.mk 1 ta w co on gr od li []) k)=(l,k+1):=by rw[i6,if_pos rfl,List.getD_eq_getElem?_getD,e1];rfl
    refine⟨by rw[TO,if_pos rfl];exact(List.getElem?_eq_some_iff.1 e1).1,by rw[e4];exact e2,by rw[e4,lZ,if_pos rfl];exact e3,by rw[e4,hs];rfl⟩
   .simp[iR]at h3
  .have hs:i7 (.mk op ta w co on gr od li args)=gZ args:=by simp[i7,e]
   rw[hs]at hl
   have hb2:∀q∈args,lZ c q<=1000000:=λq hq=>by
    have h5:=PZ hc h1 q hq;rw[lZ,if_neg e]at hb;split at hb<;>omega
   obtain⟨o1,o2,o3⟩:=L7 hc h1 hl hb2;obtain⟨n1,n2,n3⟩:=W6 e h2 (JC h1) h3 o2 hb;have e4:i6 ls (.mk op ta w co on gr od li args) k=(Y0 op (.mk op ta w co on gr od li args) (eK ls args k).1,(eK ls args k).2):=by rw[i6,if_neg e]
   exact⟨by rw[TO,if_neg e];exact⟨n1,o1⟩,by rw[e4];exact n2,by rw[e4];exact n3,by rw[e4,hs];exact o3⟩
theorem L7{s:nS}{ps:List Int}{c:Nat}{ls:List (List (List VV))}(hc:1<=c):∀{qs:List Query}{kss:List (List Int)}{k:Nat},eU s ps qs=(kss,0)->CE s c ls k (gZ qs)->(∀q∈qs,lZ c q<=1000000)->Ov ls qs k/\Mp c qs kss (eK ls qs k).1/\(eK ls qs k).2=k+(gZ qs).length
 |[],kss,k,h,_,_=>by
  rw[eU]at h;simp only[Prod.mk.injEq,and_true]at h;subst h;simp[Ov,eK,Mp,gZ]
 |q::qs,kss,k,h,hl,hb=>by
  obtain⟨k1,kss',h1,h2,rfl⟩:=jQ h;rw[gZ]at hl;have e1:=PK hc h1 hl.left (hb q (List.mem_cons_self ..));have e2:=L7 hc h2 hl.right (λp hp=>hb p (List.mem_cons_of_mem _ hp));rw[<-e1.nxt]at e2;rw[Ov,eK,gZ];refine⟨⟨e1.ok,e2.1⟩,⟨e1.rel,e1.bnd,e2.2.1⟩,?_⟩;rw[e2.2.2,e1.nxt,List.length_append];omega
end
structure vM(m:MH)(tb:Nat)(ws:List bR):Prop where
 ex:∃cur:Array Value,m tb=some (.cells cur 86 (0,0))/\cur.toList.take (ws.length*5)=(ws.map bR.enc).flatten
def Tp:Vc.Spec:=λcvs m h K=>∃ver tb n cap ws w cols,∃t:Nat,cvs=[aS ⟨ver,⟨some ⟨tb,0,none⟩,n,cap⟩⟩,cI t]/\t<n/\vM m tb ws/\ws[t]? =some w/\BR h w.columns cols/\cols.length<=8/\
 ∀sl h',PH.le h h'->Ints h' sl (cols.map mC.kind)->K (cS sl) m h'
noncomputable def XQ(cb:Nat):Ctx:=
 uW [(15,FX),(16,Ku),(76,Tv),(44,Tp),(30,xU)] [] [(5,{A:=Int×Int×MH×PH,st:=λ⟨n,id,m,h⟩=>cD 86 87 [(0,pv cb),(2,.at (.ptr 2 0)),(3,iv n),(4,iv id)] [(2,.cells 43 [.val (.int .i64 0),.val (.slice none 0 0)])] m h}),
  (9,{A:=Int×bJ×MH×PH,st:=λ⟨n,s,m,h⟩=>cD 86 87 [(0,pv cb),(2,.at (.ptr 2 0)),(3,iv n),(5,.at (.ptr 5 0))] [(2,.cells 43 [.val (.int .i64 0),.val (.slice none 0 0)]),(5,.cells 43 (s.enc.map .val))] m h}),
  (11,{A:=Int×bJ×MH×PH,st:=λ⟨n,s,m,h⟩=>cD 86 87 [(0,pv cb),(2,.at (.ptr 2 0)),(3,iv n),(5,.at (.ptr 5 0))] [(2,.cells 43 [.val (.int .i64 0),.val (.slice none 0 0)]),(5,.cells 43 (s.enc.map .val))] m h}),
  (13,{A:=bJ×MH×PH,st:=λ⟨s,m,h⟩=>cD 86 87 [(0,pv cb),(2,.at (.ptr 2 0)),(5,.at (.ptr 5 0))] [(2,.cells 43 [.val (.int .i64 0),.val (.slice none 0 0)]),(5,.cells 43 (s.enc.map .val))] m h}),
  (15,{A:=bJ×MH×PH,st:=λ⟨s,m,h⟩=>cD 86 87 [(2,.at (.ptr 2 0)),(5,.at (.ptr 5 0))] [(2,.cells 43 [.val (.int .i64 0),.val (.slice none 0 0)]),(5,.cells 43 (s.enc.map .val))] m h})] [] [41] [] false
def kO(id:Int):List uX:=
 [⟨⟨⟨[112,114,111,106,101,99,116,115]⟩⟩,[⟨⟨⟨[105,100]⟩⟩,4⟩,⟨⟨⟨[111,119,110,101,114]⟩⟩,4⟩],1,[],[]⟩,
  ⟨⟨⟨[116,97,115,107,115]⟩⟩,[⟨⟨⟨[105,100]⟩⟩,id⟩,⟨⟨⟨[112,114,111,106,101,99,116]⟩⟩,4⟩,⟨⟨⟨[116,105,116,108,101]⟩⟩,5⟩,⟨⟨⟨[100,111,110,101]⟩⟩,3⟩],1,[],[]⟩,
  ⟨⟨⟨[109,101,109,98,101,114,115]⟩⟩,[⟨⟨⟨[112,114,111,106,101,99,116]⟩⟩,4⟩,⟨⟨⟨[112,101,114,115,111,110]⟩⟩,4⟩],2,[],[]⟩,
  ⟨⟨⟨[97,114,99,104,105,118,101,100]⟩⟩,[⟨⟨⟨[116,97,115,107]⟩⟩,id⟩],1,[],[]⟩]
structure IH(h:PH)(t:uX)(w:bR):Prop where
 name_:w.name=t.name
 key_:w.key=t.key
 cols_:BR h w.columns t.columns
def R4(h:PH)(id:Int)(ws:List bR):Prop:=ws.length=4/\∀(i:Nat) t,(kO id)[i]? =some t->∃w,ws[i]? =some w/\IH h t w
structure zF(m0:MH)(h0:PH)(cb:Nat)(tb n:Nat)(id:Int)(ws:List bR)(s:bJ)(m:MH)(h:PH):Prop where
 le_:PH.le h0 h
 ver0:0<=s.version
 ver1:s.version<=2
 case_:aK m h cb
 n2:2<=n
 n4:n<=4
 sl_:∃cap,s.tables=⟨some ⟨tb,0,none⟩,n,cap⟩/\n<=cap
 id_:id=4\/id=5
 new_:m0 tb=none
 ne_:tb≠cb
 row_:vM m tb ws
 ws_:R4 h id ws
 other_:∀b,b≠cb->b≠tb->m b=m0 b
def Tf:Vc.Spec:=λcvs m h K=>∃cb,cvs=[cP cb]/\aK m h cb/\∀tb n id ws s m' h',zF m h cb tb n id ws s m' h'->K (aS s) m' h'
noncomputable def Yb:Ctx:=
 uW [(39,Tf)] [(3,{A:=Nat×bJ×MH×PH,st:=λ⟨i,s,m,h⟩=>cD 25 26 [(2,.at (.ptr 2 0)),(3,.at (.ptr 3 0)),(9,iv s.tables.len),(10,iv i)] [(2,.cells 43 [.val (.int .i64 0),.val (.slice none 0 0)]),(3,.cells 43 (s.enc.map .val))] m h})] [] [] [41] [] false
def GA(v:bJ)(t:Int)(m:MH)(h:PH)(K:CV->MH->PH->Prop):Prop:=
  aZ t 0 (K Cz m h) (fU t (gQ v) (K Cz m h) (Ie v 0 t m h (λb=>b) (λo=>o) 5 (λy=>y) (λy I x=>aA (I x) (eL 32) (aA (bF y (kI x)) (cK y (kI x)) (aA (bD x.1) (rL (pZ x)) (aA (m=m) (h=h) True)))) (λI m1 x=>Ic (I x) x 0 (λb o y=>aL m h b (bA o x.1 2) (gL (zR y) (dO y.kind))) (λy x1=>aA (I x1) (m1 x1<m1 x) (aA (eL 32) (bF (kI x) (kI x1)) (aA (cK (kI x) (kI x1)) (fN (bG x.1 1)=bV x1.1) (aA (rM (pZ x) y.kind (pZ x1)) (m=m) (cQ h h))))) (EZ h (pZ x) K m))))
theorem XL(v:bJ)(t:Int)(m:MH)(h:PH)(K:CV->MH->PH->Prop):GA v t m h K=(Am (Nd m h) Tryz.f44 (dJ Tryz.f44) (entry Tryz.f44.ntmps [aS v,cI t] m h) K):=by kernel_rfl
abbrev rQ:Prop:=eQ (oQ 43 (rJ 0 CB))
abbrev wH(a:ByteArray)(b:Int)(c:ByteArray)(d:Int->Int)(e:Int->ByteArray->Prop):Prop:=∃(x:Int),cJ (iU a) b=cJ (iU c) (d x)/\∃(x1:ByteArray),e x x1
noncomputable abbrev Ii:ByteArray:=ByteArray.mk (Array.mk (fL 105 (fL 100 [])))
noncomputable abbrev Ij(a:Nat):ByteArray:=ByteArray.mk (Array.mk (fL 112 (fL 114 (fL 111 (fL 106 (fL 101 (fL a (qD 116))))))))
noncomputable abbrev vB(a:ByteArray)(b:Int):List Value:=gL (Value.string a) (dO b)
noncomputable abbrev Db(a b c d:Nat)(e:List UInt8)(g:Sl)(i:Int):List Value:=aJ (Value.string (ByteArray.mk (Array.mk (fL a (fL b (fL c (fL d e))))))) (dT g) (aJ (dO i) u0 iD)
abbrev C0(a:Int×bJ×MH×PH->Prop)(b c:Nat)(d:Int)(e:(Int×bJ×MH×PH)->Prop)(g:Nat->Option Obj)(i:Nat->Nat->Option Value):Prop:=∃(x:Int×bJ×MH×PH),aA (a x) (cV b) (aA (eP c) (cG d x.1) (aA fH rQ (aA (e x) (cH g x.2.2) (j3 i x.2.2))))
noncomputable abbrev rH(a:Int×bJ×MH×PH):bJ:=a.2.1
noncomputable abbrev rV(a:Int×bJ×MH×PH):Nat->Nat->Option Value:=a.2.2.2
abbrev v8(a:List CV)(b:Nat)(c:MH)(d:PH)(e:(List Int)->(List Int)->Nat->Prop):Prop:=iN (λx x1=>nK (λx2 x3=>∃(x4:Nat),aA (a=Bx b 0::dN x::hX x1 (↑x4:Int)) (aK c d b) (aA (Ints d x x2) (Ints d x1 x3) (aA (jI x2) (jI x3) (mL x4/\e x2 x3 x4)))))
attribute [push_cast] rQ wH Ii Ij vB Db C0 rH rV v8
def Pm(cb:Nat)(m:MH)(h:PH)(K:CV->MH->PH->Prop):Prop:=
  fZ cb 3 m h (λk m1=>∃(I:Int×Int×MH×PH->Prop),kA cb 5 m1 h (λc r=>∀(m2:MH),aM (bB m1 m2 c) (aK m2 h c) (branch r (∃(x:Int×Int×MH×PH),aA (I x) (cV cb) (aA (eP 2) (cG (dX (2+k)) x.1) (aA (cG 5 x.2.1) rQ (aA (cH m2 x.2.2) (eJ h x.2.2) True)))) (∃(x:Int×Int×MH×PH),aA (I x) (cV cb) (aA (eP 2) (cG (dX (2+k)) x.1) (aA (cG 4 x.2.1) rQ (aA (cH m2 x.2.2) (eJ h x.2.2) True))))))/\∀(x:Int×Int×MH×PH),I x->fZ cb 3 x.2.2.1 x.2.2.2 (λk1 m2=>∃(n:ByteArray),wH Ii 4 n (λk2=>k2) (λk2 n1=>wH (ByteArray.mk (Array.mk (fL 111 (fL 119 (fL 110 (fL 101 (qD 114))))))) 4 n1 (λk3=>k3) (λk3 n2=>wH Ii x.2.1 n2 (λk4=>k4) (λk4 n3=>wH (Ij 99) 4 n3 (λk5=>k5) (λk5 n4=>
 wH (ByteArray.mk (Array.mk (fL 116 (fL 105 (fL 116 (fL 108 (qD 101))))))) 5 n4 (λk6=>k6) (λk6 n5=>wH (ByteArray.mk (Array.mk (fL 100 (fL 111 (fL 110 (fL 101 [])))))) 3 n5 (λk7=>k7) (λk7 n6=>wH (Ij 99) 4 n6 (λk8=>k8) (λk8 n7=>wH (ByteArray.mk (Array.mk (fL 112 (fL 101 (fL 114 (fL 115 (fL 111 (fL 110 [])))))))) 4 n7 (λk9=>k9) (λk9 n8=>∃(a:Int),cJ (iU (ByteArray.mk (Array.mk (fL 116 (fL 97 (fL 115 (fL 107 []))))))) x.2.1=cJ (iU n8) a/\bZ (λs h1=>bE x.2.2.2 h1 (aX h1 s 2 (mK (vB n k2) (vB n1 k3))) (bZ (λs1 h2=>bE h1 h2 (aX h2 s1 2 (vB n2 k4::vB n3 k5::mK (vB n4 k6) (vB n5 k7))) (bZ (λs2 h3=>bE h2 h3 (aX h3 s2 2 (mK (vB n6 k8) (vB n7 k9))) (bZ (λs3 h4=>
 bE h3 h4 (aX h4 s3 2 (fE (vB n8 a))) (gS (λs4 m3=>mT m2 m3 h4 s4 86 5 (Db 112 114 111 106 (fL 101 (fL 99 (fL 116 (fL 115 [])))) s 1::Db 116 97 115 107 (qD 115) s1 1::mK (Db 109 101 109 98 (fL 101 (fL 114 (qD 115))) s2 2) (Db 97 114 99 104 (fL 105 (fL 118 (fL 101 (fL 100 [])))) s3 1))->aA (cA x.1) (x.1<=(↑s4.cap:Int)) (∃(I1:Int×bJ×MH×PH->Prop),kA cb 2 m3 h4 (λc r=>∀(m4:MH),aM (bB m3 m4 c) (aK m4 h4 c) (branch r (bZ (λs5 h5=>bE h4 h5 (aX h5 s5 1 (fE (cL 1))) (aR (λb o=>aA (aT s4.a b o) ((0:Int)<=1) (1<(↑x.1.toNat:Int)/\bZ (λs6 h6=>bE h5 h6 (aX h6 s6 2 (fE (gL (dT s5) bC))) (oJ m4 b (o+5+3) (aU s6) (λm5=>C0 I1 cb 2 x.1 (λx1=>oQ 43 (rJ k1 (At.val (Value.slice
 s4.a x.1.toNat s4.cap)))=oQ 43 (fK (rH x1))) m5 h6)))))))) (C0 I1 cb 2 x.1 (λx1=>oQ 43 (rJ k1 (At.val (Value.slice s4.a x.1.toNat s4.cap)))=oQ 43 (fK (rH x1))) m4 h4)))/\∀(x1:Int×bJ×MH×PH),I1 x1->∃(I2:Int×bJ×MH×PH->Prop),eF x1.1 2 (kA cb 3 x1.2.2.1 (rV x1) (λc r=>∀(m4:MH),aM (bB x1.2.2.1 m4 c) (aK m4 (rV x1) c) (branch r (bZ (λs5 h5=>bE (rV x1) h5 (aX h5 s5 1 (fE (iO bC))) (CR (rH x1) 2 (λb o=>bZ (λs6 h6=>bE h5 h6 (aX h6 s6 2 (fE (gL (dT s5) bC))) (oJ m4 b (o+10+3) (aU s6) (λm5=>C0 I2 cb 2 x1.1 (λx2=>oQ 43 (fK (rH x1))=oQ 43 (fK (rH x2))) m5 h6))))))) (C0 I2 cb 2 x1.1 (λx2=>oQ 43 (fK (rH x1))=oQ 43 (fK (rH x2))) m4 (rV x1))))) (C0 I2 cb 2 x1.1
 (λx2=>oQ 43 (fK (rH x1))=oQ 43 (fK (rH x2))) x1.2.2.1 (rV x1))/\∀(x2:Int×bJ×MH×PH),I2 x2->∃(I3:bJ×MH×PH->Prop),eF x2.1 3 (kA cb 3 x2.2.2.1 (rV x2) (λc r=>∀(m4:MH),aM (bB x2.2.2.1 m4 c) (aK m4 (rV x2) c) (branch r (bZ (λs5 h5=>bE (rV x2) h5 (aX h5 s5 1 (fE (iO bC))) (CR (rH x2) 3 (λb o=>bZ (λs6 h6=>bE h5 h6 (aX h6 s6 2 (fE (gL (dT s5) (dO 1)))) (oJ m4 b (o+15+3) (aU s6) (λm5=>∃(x3:bJ×MH×PH),aA (I3 x3) (cV cb) (aA (eP 2) fH (aA rQ (oQ 43 (fK (rH x2))=oQ 43 (fK x3.1)) (aA (cH m5 x3.2) (eJ h6 x3.2) True)))))))))) (∃(x3:bJ×MH×PH),aA (I3 x3) (cV cb) (aA (eP 2) fH (aA rQ (oQ 43 (fK (rH x2))=oQ 43 (fK x3.1)) (aA (cH m4 x3.2)
 (eJ (rV x2) x3.2) True))))))) (∃(x3:bJ×MH×PH),aA (I3 x3) (cV cb) (aA (eP 2) fH (aA rQ (oQ 43 (fK (rH x2))=oQ 43 (fK x3.1)) (aA (cH x2.2.2.1 x3.2) (eJ (rV x2) x3.2) True))))/\∀(x3:bJ×MH×PH),I3 x3->∃(I4:bJ×MH×PH->Prop),kA cb 3 x3.2.1 x3.2.2 (λc r=>∀(m4:MH),aM (bB x3.2.1 m4 c) (aK m4 x3.2.2 c) (branch r (∃(v:Int),aR (λt n9=>∃(c1:Nat)(w:List bR)(w1:bR)(c2:List mC)(t1:Nat),aA (cJ (bN x3.1) 1=cJ (lF (gL (dO v) (Value.slice (j9 t) n9 c1))) (↑t1:Int)) (t1<n9) (aA (vM m4 t w) (w[t1]? =Option.some w1) (aA (BR x3.2.2 w1.columns c2) (c2.length<=8) (bZ (λs5 h5=>bE x3.2.2 h5 (Ints h5 s5 (List.map mC.kind c2)) (∃(c3:Nat),v8 (Bx cb 0::dN s5::cJ Cz 1) c3 m4 h5 (λc4 p d=>zW
 (λv1 p1=>eT (λm5 h6=>bE h5 h6 (dZ h6 p1 v1) (aM (sM c4 p d p1) (bB m4 m5 c3) (jG m5 h6 c3 (CR x3.1 1 (λb o=>bZ (λs6 h7=>bE h6 h7 (aX h7 s6 13 (fE v1.enc)) (oJ m5 b (o+5+4) (aU s6) (λm6=>∃(x4:bJ×MH×PH),aA (I4 x4) (eP 2) (aA fH rQ (aA (oQ 43 (fK x3.1)=oQ 43 (fK x4.1)) (cH m6 x4.2) (eJ h7 x4.2/\True)))))))))))))))))))) (∃(x4:bJ×MH×PH),aA (I4 x4) (eP 2) (aA fH rQ (aA (oQ 43 (fK x3.1)=oQ 43 (fK x4.1)) (cH m4 x4.2) (eJ x3.2.2 x4.2/\True))))))/\∀(x4:bJ×MH×PH),I4 x4->K (bN x4.1) x4.2.1 x4.2.2))))))))))))))))))))
noncomputable abbrev Bj(a:Nat×bJ×MH×PH):Sl:=a.2.1.tables
attribute [push_cast] Bj
def JZ(cb:Nat)(m:MH)(h:PH)(K:CV->MH->PH->Prop):Prop:=
  ∃(c:Nat),aA (jW (iL cb)=jW (iL c)) (aK m h c) (∀(t n:Nat)(i:Int)(w:List bR)(s:bJ),eT (λm1 h1=>zF m h c t n i w s m1 h1->∃(I:Nat×bJ×MH×PH->Prop)(m2:Nat×bJ×MH×PH->Nat),(∃(x:Nat×bJ×MH×PH),aA (I x) (eP 2) (aA (eP 3) (cK s.tables (Bj x)) (aA (bD x.1) rQ (aA (oQ 43 (fK s)=oQ 43 (fK x.2.1)) (cH m1 x.2.2) (j3 h1 x.2.2)))))/\∀(x:Nat×bJ×MH×PH),I x->aZ (↑x.1:Int) (aG (Bj x)) (aR (λb o=>aA (aT (pD x.2.1) b o) (0<=(↑x.1:Int)) ((↑x.1:Int)<aG (Bj x)/\oJ x.2.2.1 b (bA o x.1 5+3) iD (λm3=>aR (λb1 o1=>aA (aT (pD x.2.1) b1 o1) (0<=(↑x.1:Int)) ((↑x.1:Int)<aG (Bj x)/\oJ m3 b1 (bA o1 x.1 5+4) iD (λm4=>∃(x1:Nat×bJ×MH×PH),aA (I
 x1) (m2 x1<m2 x) (aA (eP 2) (eP 3) (aA (cK (Bj x) (Bj x1)) (fN (bG x.1 1)=bV x1.1) (aA rQ (oQ 43 (fK x.2.1)=oQ 43 (fK x1.2.1)) (jE m4 x1.2.2 x.2.2.2))))))))))) (K (bN x.2.1) x.2.2.1 x.2.2.2)))
theorem Qg{α:Type}(l:List α)(o:Nat)(x:α)(h:o<l.length):splice l o [x]=l.set o x:=by
 rw[List.set_eq_take_append_cons_drop,if_pos h];simp[splice]
theorem flatten_set:∀(ws:List bR){i k:Nat}{w w':bR}{x:Value},ws[i]? =some w->k<5->w'.enc=w.enc.set k x->((ws.map bR.enc).flatten).set (i*5+k) x=((ws.set i w').map bR.enc).flatten
 |[],i,k,w,w',x,h,_,_=>by simp at h
 |u::ws,0,k,w,w',x,h,hk,e=>by
  simp at h;subst h;simp only[List.map_cons,List.flatten_cons,List.set_cons_zero,Nat.zero_mul,Nat.zero_add,e];rw[List.set_append_left _ _ (by simpa[bR.enc]using hk)]
 |u::ws,i+1,k,w,w',x,h,hk,e=>by
  simp only[List.map_cons,List.flatten_cons,List.set_cons_succ];have hl:u.enc.length=5:=rfl;rw[List.set_append_right _ _ (by rw[hl];omega),hl,show(i+1)*5+k-5=i*5+k by omega,flatten_set ws (by simpa using h) hk e]
theorem Vt(ws:List bR):((ws.map bR.enc).flatten).length=ws.length*5:=by
 induction ws with
 |nil=>rfl
 |cons w ws ih=>simp only[List.map_cons,List.flatten_cons,List.length_append,ih,List.length_cons];show 5+_=_;omega
theorem vM.big{tb:Nat}{ws:List bR}{cs:Array Value}{E:TypeId}{fz:Nat×Nat}(h:vM m tb ws)(hm:m tb=some (.cells cs E fz)):ws.length*5<=cs.size:=by
 obtain⟨cur,h1,h2⟩:=h.ex;rw[h1]at hm;simp only[Option.some.injEq,Obj.cells.injEq]at hm;obtain⟨rfl,_,_⟩:=hm;have:=congrArg List.length h2;rw[Vt]at this;simp at this;omega
theorem vM.store{tb:Nat}{ws:List bR}{w w':bR}{x:Value}(h:vM m tb ws)(hi:ws[i]? =some w)(hk:k<5)(e:w'.enc=w.enc.set k x){cs:Array Value}{E:TypeId}{fz:Nat×Nat}(hm:m tb=some (.cells cs E fz))
 (hu:m' tb=some (.cells (splice cs.toList (i*5+k) [x]).toArray E (0,0))):vM m' tb (ws.set i w'):=by
 have hb:=h.big hm;have hil:=(List.getElem?_eq_some_iff.1 hi).1;obtain⟨cur,h1,h2⟩:=h.ex;rw[h1]at hm;simp only[Option.some.injEq,Obj.cells.injEq]at hm;obtain⟨rfl,rfl,_⟩:=hm;refine⟨_,hu,?_⟩;rw[Qg _ _ _ (by simp;omega),List.length_set,List.toList_toArray,List.take_set,h2];exact flatten_set ws hi hk e
theorem vM.rd{tb:Nat}{ws:List bR}(r:vM m tb ws){j:Nat}{w:bR}{x:Value}(hi:ws[i]? =some w)(hj:w.enc[j]? =some x):aL m h tb (i*5+j) [x]:=by
 obtain⟨cur,h1,h2⟩:=r.ex;refine .of_m h1 ?_;have h3:=kY (xs:=ws.map bR.enc) (sz:=5) (λe he=>by obtain⟨x,_,rfl⟩:=List.mem_map.1 he;rfl) (by rw[List.getElem?_map,hi];rfl) j x hj;rw[<-h2,List.getElem?_take]at h3;split at h3
 .rw[drop_cons h3];rfl
 .cases h3
theorem XM{ver:Int}{tb n cap:Nat}{ws:List bR}{w:bR}{cols:List mC}{t:Nat}(ht:t<n)(hr:vM m tb ws)(hw:ws[t]? =some w)(hc:BR h w.columns cols)(h8:cols.length<=8)
 (hK:∀sl h',PH.le h h'->Ints h' sl (cols.map mC.kind)->K (cS sl) m h'):GA ⟨ver,⟨some ⟨tb,0,none⟩,n,cap⟩⟩ t m h K:=by
 dsimp only[GA,push_cast];have hcl:=bU.slen hc;refine aE (λh1=>by omega) (λh1=>aE (λh2=>by have h2:(t:Int)>=(n:Int):=h2;omega) (λh2=>?_));refine⟨tb,0,rfl,aC,by show(t:Int)<(n:Int);omega,w.columns,?_,λ⟨i,sl,l⟩=>sl=w.columns/\i<=cols.length/\l=(cols.take i).map mC.kind,λ⟨i,_,_⟩=>cols.length-i,⟨(0,w.columns,[]),⟨rfl,by simp,by simp⟩,MT⟩,?_⟩
 .rw[Nat.zero_add,Int.toNat_natCast];exact hr.rd hw rfl
 rintro⟨i,_,_⟩ ⟨rfl,hi,rfl⟩;dsimp only;refine aE (λhlt=>?_) (λhge sl h' hle hrow=>?_)
 .obtain⟨c,hx⟩:=fD hcl hlt;obtain⟨b,o,e,r⟩:=BR.at hc hx;refine⟨b,o,e,aC,hlt,c,.imm r,?_,?_,(i+1,w.columns,(cols.take (i+1)).map mC.kind),⟨rfl,aC,rfl⟩,by show cols.length-(i+1)<cols.length-i;omega,?_⟩
  .simp;omega
  .simp;omega
  .rw[fO hx,List.map_append];exact MT
 .rw[List.take_of_length_le aC]at hrow;exact hK sl h' hle ⟨hrow,by simp;omega⟩
theorem Qz:Sound Tryz.prog 44 Tp:=by
 refine eG (fn:=Tryz.f44) (c:=dJ Tryz.f44) Tryz.func44 rfl (by decide) ?_;rintro cvs m h K ⟨ver,tb,n,cap,ws,w,cols,t,rfl,h1,h2,h3,h4,h5,h6⟩;refine⟨Nd m h,rfl,aF,?_⟩;rw[<-XL];exact XM h1 h2 h3 h4 h5 h6
theorem IH.mono{t:uX}{w:bR}(x:IH h t w)(le:PH.le h h'):IH h' t w:=⟨x.name_,x.key_,bU.mono x.cols_ le λ_ _ e=>e⟩
theorem R4.mono{id:Int}{ws:List bR}(x:R4 h id ws)(le:PH.le h h'):R4 h' id ws:=⟨x.1,λi t e=>let⟨w,e1,e2⟩:=x.2 i t e;⟨w,e1,e2.mono le⟩⟩
theorem R4.set{id:Int}{ws:List bR}{w w':bR}(x:R4 h id ws)(hi:ws[i]? =some w)(e1:w'.name=w.name)(e2:w'.key=w.key)(e3:w'.columns=w.columns):R4 h id (ws.set i w'):=by
 refine⟨by rw[List.length_set];exact x.1,λj t e=>?_⟩;obtain⟨u,h1,h2⟩:=x.2 j t e;by_cases hj:i=j
 .subst hj;rw[hi]at h1;cases h1;exact⟨w',by rw[List.getElem?_set_self (List.getElem?_eq_some_iff.1 hi).1],⟨by rw[e1];exact h2.name_,by rw[e2];exact h2.key_,by rw[e3];exact h2.cols_⟩⟩
 .exact⟨u,by rw[List.getElem?_set_ne hj];exact h1,h2⟩
theorem zF.on{m0 m1:MH}{h0 h1:PH}{tb n:Nat}{id:Int}{ws:List bR}{s:bJ}(x:zF m0 h0 cb tb n id ws s m h)(le:PH.le h h1)(ho:bB m m1 cb)(hc:aK m1 h1 cb):zF m0 h0 cb tb n id ws s m1 h1:=by
 refine⟨x.le_.trans le,x.ver0,x.ver1,hc,x.n2,x.n4,x.sl_,x.id_,x.new_,x.ne_,?_,x.ws_.mono le,λb n1 n2=>by rw[ho.other b n1];exact x.other_ b n1 n2⟩;obtain⟨cur,e1,e2⟩:=x.row_.ex;exact⟨cur,by rw[ho.other tb x.ne_];exact e1,e2⟩
theorem zF.store{m0:MH}{h0:PH}{tb n:Nat}{id:Int}{ws:List bR}{s:bJ}(x:zF m0 h0 cb tb n id ws s m h){o:Nat}{w w':bR}{y:Value}(hi:ws[i]? =some w)(hk:k<5)(ho:o=i*5+k)(e:w'.enc=w.enc.set k y)(e1:w'.name=w.name)(e2:w'.key=w.key)(e3:w'.columns=w.columns){Q:MH->Prop}
 (hQ:∀m2,zF m0 h0 cb tb n id (ws.set i w') s m2 h->Q m2):∃(cs:Array Value)(E:TypeId),uO m tb (.cells cs E (0,0))/\o<cs.size/\∀m2:MH,jJ m m2 tb (.cells (splice cs.toList o [y]).toArray E (0,0))->Q m2:=by
 obtain⟨cur,h1,h2⟩:=x.row_.ex;have hil:=(List.getElem?_eq_some_iff.1 hi).1;refine⟨cur,86,⟨h1⟩,by have:=x.row_.big h1;omega,λm2 hu=>hQ m2 ?_⟩;subst ho;refine⟨x.le_,x.ver0,x.ver1,?_,x.n2,x.n4,x.sl_,x.id_,x.new_,x.ne_,x.row_.store hi hk e h1 hu.at_,x.ws_.set hi e1 e2 e3,λb n1 n2=>by rw[hu.other b n2];exact x.other_ b n1 n2⟩;obtain⟨r,q,cs,k,q1,q2⟩:=x.case_;exact⟨r,q,cs,k,by rw[hu.other cb x.ne_.symm];exact q1,q2⟩
theorem FL{h:PH}{s:Sl}{l:List mC}(r:aX h s 2 (l.map mC.enc))(hl:l.length<=8):BR h s l:=⟨⟨l,r,rfl,λi x e=>⟨x,e,rfl⟩⟩,aC⟩
theorem mT.tabs{m m':MH}{h:PH}{s:Sl}{w:bR}{ws:List bR}(x:mT m m' h s 86 5 ((w::ws).map bR.enc)):∃tb cap,s=⟨some ⟨tb,0,none⟩,ws.length+1,cap⟩/\ws.length+1<=cap/\vM m' tb (w::ws)/\cC m h tb/\∀b,b≠tb->m' b=m b:=by
 rcases x.row.ex with⟨_,e⟩|⟨b,cap,cur,e,hm,h1,_,h3,h4⟩
 .cases e
 .subst e;refine⟨b,cap,by simp,by simpa using h1,⟨cur,hm,by simpa using h4⟩,x.fresh b 0 rfl,λc hc=>x.other c (λi e=>by simp only[Option.some.injEq,Addr.mk.injEq]at e;exact hc e.1.symm)⟩
theorem Un:Sound Tryz.prog 39 Tf:=by
 refine iB Tryz.func39 ?_;rintro cvs m h K ⟨cb,rfl,hc,hK⟩;refine⟨XQ cb,rfl,aD Gs (aD wY (aD Ug (aD Qz (aD Dq aF)))),Pm cb m h K,by kernel_rfl,?_⟩;dsimp only[Pm,push_cast];refine⟨cb,3,rfl,hc,λk m1 k0 k1 o1 c1=>?_⟩;have hk2:IntKind.i64.wrap (2+k)=2+k:=eC aC aC;rw[hk2];refine⟨λ⟨n,id,mx,hx⟩=>2<=n/\n<=4/\(id=4\/id=5)/\hx=h/\bB m mx cb/\aK mx h cb,⟨cb,5,rfl,aC,aC,c1,λr m2 o2 c2=>aB (λ_=>⟨(2+k,5,m2,h),⟨by show 2<=2+k;omega,by show 2+k<=4;omega,.inr rfl,rfl,o1.trans o2,c2⟩,MT⟩) (λ_=>⟨(2+k,4,m2,h),⟨by show 2<=2+k;omega,by show 2+k<=4;omega,.inl rfl,rfl,o1.trans o2,c2⟩,MT⟩)⟩,?_⟩;clear o1 c1 m1 hk2 k0 k1 k;rintro⟨n,id,m1,hx⟩ ⟨n2,n4,hid,rfl,o1,c1⟩;dsimp only;refine⟨cb,3,rfl,c1,λk m2 k0 k1 o2 c2=>?_⟩;refine⟨_,_,rfl,_,_,rfl,_,_,rfl,_,_,rfl,_,_,rfl,_,_,rfl,_,_,rfl,_,_,rfl,_,_,rfl,λs1 h1 le1 r1 s2 h2 le2 r2 s3 h3 le3 r3 s4 h4 le4 r4 tl m3 hnew=>?_⟩;obtain⟨tb,cap,rfl,hcap,hrow,hun,hoth⟩:=mT.tabs (w:=⟨_,s1,1,bM,bM⟩) (ws:=[⟨_,s2,1,bM,bM⟩,⟨_,s3,2,bM,bM⟩,⟨_,s4,1,bM,bM⟩]) hnew;simp only[List.length_cons,List.length_nil]at hcap;have hle:PH.le hx h4:=((le1.trans le2).trans le3).trans le4
 have tbcb:tb≠cb:=λe=>by
  obtain⟨r,q,cs,j,q1,_⟩:=c2;have:=hun.m_;rw[e,q1]at this;cases this
 have hm0:m tb=none:=by rw[<-o1.other tb tbcb, <-o2.other tb tbcb];exact hun.m_
 have c3:aK m3 h4 cb:=by
  obtain⟨r,q,cs,j,q1,q2,q3⟩:=c2;exact⟨r,q,cs,j,by rw[hoth cb tbcb.symm];exact q1,q2.mono hle,q3⟩
 have S0:zF m hx cb tb n.toNat id _ ⟨k,⟨some ⟨tb,0,none⟩,n.toNat,cap⟩⟩ m3 h4:=⟨hle,k0,by show k<=2;omega,c3,aC,aC,⟨cap,rfl,aC⟩,hid,hm0,tbcb,hrow,⟨rfl,λi t e=>?_⟩,λb n1 n2=>by rw[hoth b n2,o2.other b n1,o1.other b n1]⟩
 rotate_left
 .match i,e with
  |0,e=>cases e;exact⟨_,rfl,⟨rfl,rfl,FL (l:=[⟨_,_⟩,⟨_,_⟩]) (r1.mono ((le2.trans le3).trans le4)) (by decide)⟩⟩
  |1,e=>cases e;exact⟨_,rfl,⟨rfl,rfl,FL (l:=[⟨_,_⟩,⟨_,_⟩,⟨_,_⟩,⟨_,_⟩]) (r2.mono (le3.trans le4)) (by simp)⟩⟩
  |2,e=>cases e;exact⟨_,rfl,⟨rfl,rfl,FL (l:=[⟨_,_⟩,⟨_,_⟩]) (r3.mono le4) (by decide)⟩⟩
  |3,e=>cases e;exact⟨_,rfl,⟨rfl,rfl,FL (l:=[⟨_,_⟩]) r4 (by simp)⟩⟩
  |i+4,e=>simp[kO]at e
 generalize hws:(bR.mk _ s1 1 bM bM::_)=ws0 at S0;clear hws hrow hnew r1 r2 r3 r4;have getw:∀{ws:List bR}{i:Nat},ws.length=4->i<4->∃w,ws[i]? =some w:=λhl hi=>⟨_,List.getElem?_eq_getElem aC⟩
 refine⟨aC,by show n<=(cap:Int);omega,λ⟨n',s,mx,hy⟩=>n'=n/\∃ws,zF m hx cb tb n.toNat id ws s mx hy,⟨cb,2,rfl,aC,aC,c3,λr m4 o4 c4=>aB (λ_ s5 h5 le5 r5=>⟨tb,0,rfl,aC,aC,λs6 h6 le6 r6=>?_⟩) (λ_=>⟨(n,⟨k,⟨some ⟨tb,0,none⟩,n.toNat,cap⟩⟩,m4,h4),⟨rfl,_,S0.on (.refl _) o4 c4⟩,MT⟩)⟩,?_⟩
 .obtain⟨w,hw⟩:=getw (i:=1) S0.ws_.1 aC;exact(S0.on (le5.trans le6) o4 (c4.mono (le5.trans le6))).store (k:=3) (w':={w with references:=s6}) hw aC rfl rfl rfl rfl rfl λm5 x5=>⟨(n,⟨k,⟨some ⟨tb,0,none⟩,n.toNat,cap⟩⟩,m5,h6),⟨rfl,_,x5⟩,MT⟩
 clear S0 c3 hoth hun hm0 hcap hle le1 le2 le3 le4 o1 o2 c1 c2;rintro⟨n',s,m4,h5⟩ ⟨rfl,ws,S0⟩;dsimp only;obtain⟨cap,hsl,_⟩:=S0.sl_;have hsa:s.tables.a=some ⟨tb,0,none⟩:=by rw[hsl]
 have hsn:s.tables.len=n'.toNat:=by rw[hsl]
 refine⟨λ⟨n,s,mx,hy⟩=>n=n'/\∃ws,zF m hx cb tb n.toNat id ws s mx hy,aE (λhn=>⟨cb,3,rfl,aC,aC,S0.case_,λr m5 o5 c5=>aB (λ_ s7 h7 le7 r7=>⟨tb,0,hsa,aC,aC,λs8 h8 le8 r8=>?_⟩) (λ_=>⟨(n',s,m5,h5),⟨rfl,_,S0.on (.refl _) o5 c5⟩,MT⟩)⟩) (λ_=>⟨(n',s,m4,h5),⟨rfl,_,S0⟩,MT⟩),?_⟩
 .obtain⟨w,hw⟩:=getw (i:=2) S0.ws_.1 aC;exact(S0.on (le7.trans le8) o5 (c5.mono (le7.trans le8))).store (k:=3) (w':={w with references:=s8}) hw aC rfl rfl rfl rfl rfl λm5 x5=>⟨(n',s,m5,h8),⟨rfl,_,x5⟩,MT⟩
 clear S0 hsa hsn hsl;rintro⟨n'',s,m4,h5⟩ ⟨rfl,ws,S0⟩;dsimp only;obtain⟨cap,hsl,_⟩:=S0.sl_;have hsa:s.tables.a=some ⟨tb,0,none⟩:=by rw[hsl]
 have hsn:s.tables.len=n''.toNat:=by rw[hsl]
 refine⟨λ⟨s,mx,hy⟩=>∃ws,zF m hx cb tb n''.toNat id ws s mx hy,aE (λhn=>⟨cb,3,rfl,aC,aC,S0.case_,λr m5 o5 c5=>aB (λ_ s7 h7 le7 r7=>⟨tb,0,hsa,aC,aC,λs8 h8 le8 r8=>?_⟩) (λ_=>⟨(s,m5,h5),⟨_,S0.on (.refl _) o5 c5⟩,MT⟩)⟩) (λ_=>⟨(s,m4,h5),⟨_,S0⟩,MT⟩),?_⟩
 .obtain⟨w,hw⟩:=getw (i:=3) S0.ws_.1 aC;exact(S0.on (le7.trans le8) o5 (c5.mono (le7.trans le8))).store (k:=3) (w':={w with references:=s8}) hw aC rfl rfl rfl rfl rfl λm5 x5=>⟨(s,m5,h8),⟨_,x5⟩,MT⟩
 clear S0 hsa hsn hsl;rintro⟨s,m4,h5⟩ ⟨ws,S0⟩;dsimp only;obtain⟨cap,hsl,_⟩:=S0.sl_;have hsa:s.tables.a=some ⟨tb,0,none⟩:=by rw[hsl]
 have hsn:s.tables.len=n''.toNat:=by rw[hsl]
 refine⟨λ⟨s,mx,hy⟩=>∃ws,zF m hx cb tb n''.toNat id ws s mx hy,⟨cb,3,rfl,aC,aC,S0.case_,λr m5 o5 c5=>aB (λ_=>?_) (λ_=>⟨(s,m5,h5),⟨_,S0.on (.refl _) o5 c5⟩,MT⟩)⟩,λ⟨s,m4,h5⟩⟨ws,S0⟩=>hK _ _ _ _ _ _ _ S0⟩;have S1:=S0.on (.refl _) o5 c5;obtain⟨w,hw,hhalf⟩:=S1.ws_.2 1 _ rfl;refine⟨s.version,tb,n''.toNat,cap,ws,w,_,1,by rw[hsl];rfl,aC,S1.row_,hw,hhalf.cols_,by simp,λsl h6 le6 hi6=>?_⟩;refine⟨cb,sl,bM,_,[],1,rfl,c5.mono le6,hi6,⟨aX.nil _ _,by simp⟩,by simp,by simp,aC,λpvv p m6 h7 le7 hp hpw o6 c6=>⟨tb,0,hsa,aC,aC,λs8 h8 le8 r8=>?_⟩⟩;exact(S1.on ((le6.trans le7).trans le8) o6 (c6.mono le8)).store (k:=4) (w':={w with checks:=s8}) hw aC rfl rfl rfl rfl rfl λm5 x5=>⟨(s,m5,h8),⟨_,x5⟩,MT⟩
structure oE(s:nS):Prop where
 ex:∃ver n id,0<=ver/\ver<=2/\2<=n/\n<=4/\(id=4\/id=5)/\s=⟨ver,(kO id).take n⟩
def WE:Vc.Spec:=λcvs m h K=>∃cb,cvs=[cP cb]/\aK m h cb/\∀s v m' h',oE s->fV h' s v->PH.le h h'->bB m m' cb->aK m' h' cb->K (aS v) m' h'
theorem UG:Sound Tryz.prog 12 WE:=by
 refine Xg Tryz.func12 ?_;rintro cvs m h K ⟨cb,rfl,hc,hK⟩;refine⟨Yb,rfl,aD Un aF,JZ cb m h (cY h K),by kernel_rfl,?_⟩;show JZ cb m h (cY h K);dsimp only[JZ,push_cast];refine⟨cb,rfl,hc,λtb n id ws s m1 h1 S1=>?_⟩;refine⟨λ⟨i,s',mx,hx⟩=>s'=s/\hx=h1/\i<=n/\∃ws,zF m h cb tb n id ws s mx h1/\∀j w,j<i->ws[j]? =some w->w.references=bM/\w.checks=bM,λ⟨i,_,_,_⟩=>n-i,⟨(0,s,m1,h1),⟨rfl,rfl,aC,ws,S1,λj w hj=>by omega⟩,MT⟩,?_⟩;clear S1 ws m1;rintro⟨i,s',m1,hx⟩ ⟨rfl,rfl,hi,ws,S1,hnil⟩;dsimp only;obtain⟨cap,hsl,hscap⟩:=S1.sl_;have hsa:s'.tables.a=some ⟨tb,0,none⟩:=by rw[hsl]
 have hsn:s'.tables.len=n:=by rw[hsl]
 have hn4:=S1.n4;refine aE (λhlt=>⟨tb,0,hsa,aC,hlt,?_⟩) (λhge hdis=>?_)
 .obtain⟨w,hw⟩:∃w,ws[i]? =some w:=⟨_,List.getElem?_eq_getElem (by have:=S1.ws_.1;have:=S1.n4;omega)⟩
  refine S1.store (i:=i) (k:=3) (w':={w with references:=bM}) hw aC aC rfl rfl rfl rfl λm2 S2=>⟨tb,0,hsa,aC,hlt,?_⟩
  have hil:=(List.getElem?_eq_some_iff.1 hw).1;have hw2:(ws.set i {w with references:=bM})[i]? =some {w with references:=bM}:=List.getElem?_set_self hil;refine S2.store (i:=i) (k:=4) (w':={w with references:=bM,checks:=bM}) hw2 aC aC rfl rfl rfl rfl λm3 S3=>⟨(i+1,s',m3,hx),⟨rfl,rfl,by show i+1<=n;omega,_,S3,λj u hj hu=>?_⟩,by show n-(i+1)<n-i;omega,MT⟩
  by_cases e:i=j
  .subst e;rw[List.getElem?_set_self (by rw[List.length_set];exact hil)]at hu;cases hu;exact⟨rfl,rfl⟩
  .rw[List.getElem?_set_ne e,List.getElem?_set_ne e]at hu;exact hnil j u aC hu
 .have hdis:=hdis;obtain⟨cur,hcur,htake⟩:=S1.row_.ex;have hg0:∀i,hx tb i=none:=hdis tb _ hcur
  have hle3:PH.le hx (λx i=>if x=tb then cur[i]? else hx x i):=⟨λx i v e=>by
   have:x≠tb:=λe'=>by rw[e',hg0 i]at e;cases e
   simp[this,e]⟩
  refine⟨λb=>if b=tb then none else m1 b,λx i=>if x=tb then cur[i]? else hx x i,λb o e=>?_,S1.le_.trans hle3,λx i v e=>?_,hK ⟨s'.version,(kO id).take n⟩ s' _ _ ⟨⟨_,_,_,S1.ver0,S1.ver1,S1.n2,S1.n4,S1.id_,rfl⟩⟩ ⟨rfl,?_⟩ (S1.le_.trans hle3) ⟨λb hb=>?_⟩ ?_⟩
  .by_cases e':b=tb
   .simp[e']at e
   .simpa[e']using e
  .by_cases e':x=tb
   .subst e';simp at e;exact .inr ⟨cur,86,(0,0),hcur,e,by simp⟩
   .simp[e']at e;exact .inl e
  .have hws4:=S1.ws_.1;have hn4:=S1.n4;refine⟨⟨ws.take n,⟨by rw[hsn];simp;omega,.inr ⟨tb,0,hsa,λi e hi=>⟨λj v hj=>?_⟩⟩,by rw[hsl];exact hscap⟩,by simp[kO];omega,λi t e=>?_⟩,by simp[kO];omega⟩
   .rw[List.map_take,List.getElem?_take]at hi;split at hi
    .have h1:=kY (xs:=ws.map bR.enc) (sz:=5) (λe he=>by obtain⟨x,_,rfl⟩:=List.mem_map.1 he;rfl) hi j v hj;rw[<-htake,List.getElem?_take]at h1;split at h1
     .simp only[if_true,Nat.zero_add];rw[<-Array.getElem?_toList];exact h1
     .cases h1
    .cases hi
   .rw[List.getElem?_take]at e;split at e
    .rename_i hin;obtain⟨w,e1,e2⟩:=S1.ws_.2 i t e;obtain⟨z1,z2⟩:=hnil i w aC e1;have hh:=e2.mono hle3
     have hnorc:t.refs=[]/\t.checks=[]:=by
      match i,e with
      |0,e=>cases e;exact⟨rfl,rfl⟩
      |1,e=>cases e;exact⟨rfl,rfl⟩
      |2,e=>cases e;exact⟨rfl,rfl⟩
      |3,e=>cases e;exact⟨rfl,rfl⟩
      |i+4,e=>simp[kO]at e
     refine⟨w,by rw[List.getElem?_take,if_pos hin];exact e1,⟨hh.name_,hh.cols_,hh.key_,by rw[z1,hnorc.1];exact bU.nil _ _ _ _,by rw[z2,hnorc.2];exact bU.nil _ _ _ _⟩⟩
    .cases e
  .by_cases e':b=tb
   .subst e';simp[S1.new_]
   .simp[e'];exact S1.other_ b hb e'
  .obtain⟨r,q,cs,k,q1,q2,q3⟩:=S1.case_;exact⟨r,q,cs,k,by simp[S1.ne_.symm];exact q1,q2.mono hle3,q3⟩
def QW(q:Query):Prop:=
 match q with
 |.mk _ _ w _ _ _ _ _ args=>FV w/\∀a∈args,QW a
 termination_by SizeOf.sizeOf q
theorem Qj{op:Int}{on:List (Int×Int)}{args:List Query}:
 QW (.mk op ta w co on gr od li args)↔FV w/\∀a∈args,QW a:=by rw[QW.eq_def]
def Wy(s:nS):Prop:=∀t,FZ (gT s t)
structure P5(s:nS)(ps ks:List Int)(q0 q:Query):Prop where
 qw:QW q
 siz:∀d,xV d q0->KI d q
 kin:Wy s->FZ ps->FZ ks->ks≠[]->ks.length<=12->bO s ps q0=(ks,0)->bO s ps q=(ks,0)
def KQ(K:CV->MH->PH->Prop)(m:MH)(h:PH)(cb:Nat)(R:Query->Prop):Prop:=∀w q m' h',PH.le h h'->cN h' q w->R q->bB m m' cb->aK m' h' cb->K (aQ w) m' h'
def NB:Vc.Spec:=λcvs m h K=>∃cb sc p k v s ps ks q,cvs=[cP cb,aS sc,cS p,cS k,aQ v]/\aK m h cb/\fV h s sc/\mW s/\s.tables.length<=1000/\Ints h p ps/\ps.length<=1000/\Ints h k ks/\ks.length<=1000/\cN h q v/\QW q/\KQ K m h cb (P5 s ps ks q)
noncomputable def XS(cb:Nat)(sc:bJ)(p k:Sl)(v:QV):Ctx:=
 dL [(15,FX),(44,uZ),(40,WA),(16,Ku),(30,xU)] [(3,{A:=Int×Nat×MH×PH,st:=λ⟨f,n,m,h⟩=>cD 112 117 [(0,pv cb),(2,sv p),(3,sv k),(6,.at (.ptr 6 0)),(9,.at (.ptr 9 0)),(10,.at (.ptr 10 0)),(11,iv f),(12,iv n)] [(6,.cells 43 (sc.enc.map .val)),(9,.cells 38 (v.enc.map .val)),(10,.cells 38 (zK.enc.map .val))] m h}),
  (9,{A:=Int×Nat×Int×Sl×List Int×Nat×MH×PH,st:=λ⟨f,n,t,have_,cols,i,m,h⟩=>cD 112 117 [(0,pv cb),(2,sv p),(3,sv k),(6,.at (.ptr 6 0)),(9,.at (.ptr 9 0)),(10,.at (.ptr 10 0)),(11,iv f),(12,iv n),(13,iv t),(14,sv have_),(15,.at (.lst 75)),(45,sv k),(46,iv k.len),(47,iv i)] [(6,.cells 43 (sc.enc.map .val)),(9,.cells 38 (v.enc.map .val)),(10,.cells 38 (zK.enc.map .val)),(75,.lst 3 1 (cols.map eI))] m h}),
  (13,{A:=Int×Nat×Int×Sl×List Int×Nat×Int×Int×Nat×MH×PH,st:=λ⟨f,n,t,have_,cols,i,kind,fr,j,m,h⟩=>cD 112 117 [(0,pv cb),(2,sv p),(3,sv k),(6,.at (.ptr 6 0)),(9,.at (.ptr 9 0)),(10,.at (.ptr 10 0)),(11,iv f),(12,iv n),(13,iv t),(14,sv have_),(15,.at (.lst 75)),(17,iv kind),(18,iv fr),(45,sv k),(46,iv k.len),(47,iv i),(56,iv have_.len),(57,iv j)] [(6,.cells 43 (sc.enc.map .val)),(9,.cells 38 (v.enc.map .val)),(10,.cells 38 (zK.enc.map .val)),(75,.lst 3 1 (cols.map eI))] m h})] [] [] false
abbrev hU:Prop:=eP 10
noncomputable abbrev wI(a:Int×Nat×Int×Sl×List Int×Nat×MH×PH):Sl:=a.2.2.2.1
noncomputable abbrev lU(a:Int×Nat×Int×Sl×List Int×Nat×MH×PH):Nat×MH×PH:=a.2.2.2.2.2
noncomputable abbrev wJ(a:Int×Nat×Int×Sl×List Int×Nat×MH×PH):List Int:=a.2.2.2.2.1
noncomputable abbrev sY(a:Int×Nat×Int×Sl×List Int×Nat×MH×PH):Nat->Nat->Option Value:=cR (lU a)
noncomputable abbrev rB(a:Int×Nat×Int×Sl×List Int×Nat×Int×Int×Nat×MH×PH):Sl:=a.2.2.2.1
noncomputable abbrev Fh(a:Int×Nat×Int×Sl×List Int×Nat×Int×Int×Nat×MH×PH):Int:=a.2.2.2.2.2.2.1
noncomputable abbrev C7(a:Int×Nat×Int×Sl×List Int×Nat×Int×Int×Nat×MH×PH):Nat:=a.2.2.2.2.2.1
noncomputable abbrev nX(a:Int×Nat×Int×Sl×List Int×Nat×Int×Int×Nat×MH×PH):Nat×MH×PH:=a.2.2.2.2.2.2.2.2
noncomputable abbrev Bl(a:Int×Nat×Int×Sl×List Int×Nat×Int×Int×Nat×MH×PH):List Int:=a.2.2.2.2.1
noncomputable abbrev Fg(a:Int×Nat×Int×Sl×List Int×Nat×Int×Int×Nat×MH×PH):Int:=Int.tmod (dX (a.2.2.2.2.2.2.2.1+(↑(nX a).1:Int))) (aG (rB a))
noncomputable abbrev Dd(a:PV)(b:Sl):List Value:=aJ (lH a.left) (jS a.right) (aJ (sP a.right) (dO (nL a.right)) (aJ (nF a.right) (lH a.right) (aJ (dT a.args) u0 (zN (aU b)))))
noncomputable abbrev Ik(a:Int)(b:PV)(c:List Value):CV:=lF (aJ (dO a) bC (aJ (dO b.op) (dO b.cmp) (aJ (jS b.left) (sP b.left) (aJ (dO (nL b.left)) (nF b.left) c))))
attribute [push_cast] hU wI lU wJ sY rB Fh C7 nX Bl Fg Dd Ik
def Pq(cb:Nat)(sc:bJ)(p k:Sl)(v:QV)(m:MH)(h:PH)(K:CV->MH->PH->Prop):Prop:=
  fZ cb (dX (gQ sc+1)) m h (λk1 m1=>∃(I:Int×Nat×MH×PH->Prop)(m2:Int×Nat×MH×PH->Nat),(∃(x:Int×Nat×MH×PH),aA (I x) (cV cb) (aA (aI p) (aI k) (aA (eP 6) (eP 9) (aA hU (cG k1 x.1) (aA (bD x.2.1) (bP sc) (aA (fB v) hP (jE m1 x.2.2 h)))))))/\∀(x:Int×Nat×MH×PH),I x->aZ (↑x.2.1:Int) (aG sc.tables) (jO (gQ sc=0)/\A9 (cJ (bN sc) (Int.tmod (dX (x.1+(↑x.2.1:Int))) (gQ sc))) (cR x.2) (λs h1=>∃(I1:Int×Nat×Int×Sl×List Int×Nat×MH×PH->Prop)(m3:Int×Nat×Int×Sl×List Int×Nat×MH×PH->Nat),(∃(x1:Int×Nat×Int×Sl×List Int×Nat×MH×PH),aA (I1 x1) (cV cb) (aA (aI p) (aI k) (aA (eP 6) (eP 9) (aA hU (cG x.1 x1.1) (aA (bY x.2.1 x1.2.1) (cG (Int.tmod (dX (x.1+
 (↑x.2.1:Int))) (gQ sc)) x1.2.2.1) (aA (bF s (wI x1)) (eL 75) (aA (aI k) (bL k) (aA (bD (lU x1).1) (bP sc) (aA (fB v) hP (aA (rL (wJ x1)) (cH (dD x.2) (lU x1).2) (j3 h1 (lU x1).2)))))))))))/\∀(x1:Int×Nat×Int×Sl×List Int×Nat×MH×PH),I1 x1->aZ (↑(lU x1).1:Int) (aG k) (aR (λb o=>aA (aT k.a b o) (0<=(↑(lU x1).1:Int)) ((↑(lU x1).1:Int)<aG k/\∃(y:Int),aL (dD (lU x1)) (sY x1) b (bA o (lU x1).1 1) (cL y)/\fZ cb (aG (wI x1)) (dD (lU x1)) (sY x1) (λk2 m4=>∃(I2:Int×Nat×Int×Sl×List Int×Nat×Int×Int×Nat×MH×PH->Prop)(m5:Int×Nat×Int×Sl×List Int×Nat×Int×Int×Nat×MH×PH->Nat),(∃(x2:Int×Nat×Int×Sl×List Int×Nat×Int×Int×Nat×MH×PH),
 aA (I2 x2) (cV cb) (aA (aI p) (aI k) (aA (eP 6) (eP 9) (aA hU (cG x1.1 x2.1) (aA (bY x1.2.1 x2.2.1) (cG x1.2.2.1 x2.2.2.1) (aA (bF (wI x1) (rB x2)) (eL 75) (aA (cG y (Fh x2)) (cG k2 x2.2.2.2.2.2.2.2.1) (aA (aI k) (bL k) (aA (bY (lU x1).1 (C7 x2)) (cK (wI x1) (rB x2)) (aA (bD (nX x2).1) (bP sc) (aA (fB v) hP (aA (CQ (wJ x1) (Bl x2)) (cH m4 (nX x2).2) (j3 (sY x1) (nX x2).2)))))))))))))/\∀(x2:Int×Nat×Int×Sl×List Int×Nat×Int×Int×Nat×MH×PH),I2 x2->aZ (↑(nX x2).1:Int) (aG (rB x2)) (jO (aG (rB x2)=0)/\aR (λb1 o1=>aA (aT (rB x2).a b1 o1) (0<=Fg x2) (Fg x2<aG (rB x2)/\∃(y1:Int),aL (dD (nX x2)) (cR (nX x2)) b1 (fQ
 o1 (Fg x2) 1) (cL y1)/\dH y1 (Fh x2) (nO (jF (Bl x2)) 8 (∃(x3:Int×Nat×Int×Sl×List Int×Nat×MH×PH),aA (I1 x3) (m3 x3<m3 x1) (aA (cV cb) (aI p) (aA (aI k) (eP 6) (aA (eP 9) hU (aA (cG x2.1 x3.1) (bY x2.2.1 x3.2.1) (aA (cG x2.2.2.1 x3.2.2.1) (bF (rB x2) (wI x3)) (aA (eL 75) (aI k) (aA (bL k) (fN (bG (C7 x2) 1)=bV (lU x3).1) (aA (bP sc) (fB v) (aA hP (rM (Bl x2) (Fg x2) (wJ x3)) (jE (dD (nX x2)) (lU x3).2 (cR (nX x2)))))))))))))) (∃(x3:Int×Nat×Int×Sl×List Int×Nat×Int×Int×Nat×MH×PH),aA (I2 x3) (m5 x3<m5 x2) (aA (cV cb) (aI p) (aA (aI k) (eP 6) (aA (eP 9) hU (aA (cG x2.1 x3.1) (bY x2.2.1 x3.2.1) (aA (cG x2.2.2.1 x3.2.2.1) (bF (rB x2)
 (rB x3)) (aA (eL 75) (cG (Fh x2) (Fh x3)) (aA (cG x2.2.2.2.2.2.2.2.1 x3.2.2.2.2.2.2.2.1) (aI k) (aA (bL k) (bY (C7 x2) (C7 x3)) (aA (cK (rB x2) (rB x3)) (fN (bG (nX x2).1 1)=bV (nX x3).1) (aA (bP sc) (fB v) (aA hP (CQ (Bl x2) (Bl x3)) (jE (dD (nX x2)) (nX x3).2 (cR (nX x2)))))))))))))))))) (∃(x3:Int×Nat×Int×Sl×List Int×Nat×MH×PH),aA (I1 x3) (m3 x3<m3 x1) (aA (cV cb) (aI p) (aA (aI k) (eP 6) (aA (eP 9) hU (aA (cG x2.1 x3.1) (bY x2.2.1 x3.2.1) (aA (cG x2.2.2.1 x3.2.2.1) (bF (rB x2) (wI x3)) (aA (eL 75) (aI k) (aA (bL k) (fN (bG (C7 x2) 1)=bV (lU x3).1) (aA (bP sc) (fB v) (aA hP (CQ (Bl x2) (wJ x3)) (jE (dD (nX x2))
 (lU x3).2 (cR (nX x2))))))))))))))))) (dH x1.1 (gQ sc) (∃(x2:Int×Nat×MH×PH),aA (I x2) (m2 x2<m2 x) (aA (cV cb) (aI p) (aA (aI k) (eP 6) (aA (eP 9) hU (aA (cG x1.1 x2.1) (fN (bG x1.2.1 1)=bV x2.2.1) (aA (bP sc) (fB v) (aA hP (cH (dD (lU x1)) x2.2.2) (eJ (sY x1) x2.2.2/\True)))))))) (aZ (↑(jF (wJ x1)).length:Int) (aG k) (∃(x2:Int×Nat×MH×PH),aA (I x2) (m2 x2<m2 x) (aA (cV cb) (aI p) (aA (aI k) (eP 6) (aA (eP 9) hU (aA (cG x1.1 x2.1) (fN (bG x1.2.1 1)=bV x2.2.1) (aA (bP sc) (fB v) (aA hP (cH (dD (lU x1)) x2.2.2) (eJ (sY x1) x2.2.2/\True)))))))) (jM x1.2.2.1 (λt=>kA cb 2 (dD (lU x1)) (sY x1) (λc r=>∀(m4:MH),aM (bB (dD (lU x1)) m4 c)
 (aK m4 (sY x1) c) (branch r ((∃(c1:Nat),v8 (Bx cb 0::dN (wI x1)::hX p 1) c1 m4 (sY x1) (λc2 p1 d=>zW (λv1 p2=>eT (λm5 h2=>bE (sY x1) h2 (dZ h2 p2 v1) (aM (sM c2 p1 d p2) (bB m4 m5 c1) (jG m5 h2 c1 (bZ (λs1 h3=>bE h2 h3 (aX h3 s1 21 (fE (wK (dO 1) (dO t)))) (bZ (λs2 h4=>bE h3 h4 (aX h4 s2 1 (jF (wJ x1))) (bZ (λs3 h5=>bE h4 h5 (aX h5 s3 21 (fE (aJ (dO 2) bC (aJ (dO v1.op) (dO v1.cmp) (aJ (jS v1.left) (sP v1.left) (aJ (dO (nL v1.left)) (nF v1.left) (Dd v1 s1))))))) (K (lF (aJ (dO 3) bC (aJ bC bC (aJ bC bC (aJ bC bC (sZ (dT s2) (zN (aU s3)))))))) m5 h5)))))))))))))/\∃(c1:Nat),v8 (Bx cb 0::dN (wI x1)::hX p 1) c1 m4 (sY x1) (λc2 p1 d=>zW
 (λv1 p2=>eT (λm5 h2=>bE (sY x1) h2 (dZ h2 p2 v1) (aM (sM c2 p1 d p2) (bB m4 m5 c1) (jG m5 h2 c1 (bZ (λs1 h3=>bE h2 h3 (aX h3 s1 21 (fE (wK (dO 1) (dO t)))) (bZ (λs2 h4=>bE h3 h4 (aX h4 s2 1 (jF (wJ x1))) (bZ (λs3 h5=>bE h4 h5 (aX h5 s3 21 (fE (aJ (dO 2) bC (aJ (dO v1.op) (dO v1.cmp) (aJ (jS v1.left) (sP v1.left) (aJ (dO (nL v1.left)) (nF v1.left) (Dd v1 s1))))))) (K (lF (aJ (dO 3) bC (aJ bC bC (aJ bC bC (aJ bC bC (sZ (dT s2) (zN (aU s3)))))))) m5 h5))))))))))))) (bZ (λs1 h2=>bE (sY x1) h2 (aX h2 s1 1 (jF (wJ x1))) (bZ (λs2 h3=>bE h2 h3 (aX h3 s2 21 (fE (wK (dO 1) (dO t)))) (K (lF (aJ (dO 3) bC (aJ bC bC (aJ bC bC (aJ bC bC (sZ
 (dT s1) (zN (aU s2)))))))) m4 h3))))))))))))) ((∃(c:Nat),v8 (Bx cb 0::dN k::hX p 1) c (dD x.2) (cR x.2) (λc1 p1 d=>zW (λv1 p2=>eT (λm3 h1=>bE (cR x.2) h1 (dZ h1 p2 v1) (aM (sM c1 p1 d p2) (bB (dD x.2) m3 c) (jG m3 h1 c (bZ (λs h2=>bE h1 h2 (aX h2 s 21 (fE v.enc)) (K (Ik 2 v1 (Dd v1 s)) m3 h2)))))))))/\∃(c:Nat),v8 (Bx cb 0::dN k::hX p 1) c (dD x.2) (cR x.2) (λc1 p1 d=>zW (λv1 p2=>eT (λm3 h1=>bE (cR x.2) h1 (dZ h1 p2 v1) (aM (sM c1 p1 d p2) (bB (dD x.2) m3 c) (jG m3 h1 c (bZ (λs h2=>bE h1 h2 (aX h2 s 21 (fE v.enc)) (K (Ik 2 v1 (Dd v1 s)) m3 h2))))))))))
theorem gX(h:PH):Ints h bM []:=⟨aX.nil _ _,by simp⟩
theorem oG(h:PH):lI h bM []:=⟨aX.nil _ _,by simp⟩
theorem qN(h:PH):iI h bM []:=⟨aX.nil _ _,by simp⟩
theorem wV(h:PH):dZ h gV fF:=JA (v:=fF) rfl
theorem wW{h:PH}{s:Sl}{v:QV}{q:Query}(r:aX h s 21 [QV.enc v])(hq:cN h q v):zG h s [q]:=⟨⟨[v],r,rfl,λi x e=>by
 match i,e with
 |0,e=>simp at e;subst e;exact⟨v,rfl,hq⟩
 |i+1,e=>simp at e⟩,by simp⟩
theorem Af(h:PH)(t:Int):cN h (.mk 1 t gV [] [] [] [] 0 []) ⟨1,t,fF,bM,bM,bM,bM,0,bM⟩:=
 nI.rep ⟨rfl,rfl,wV h,gX h,oG h,gX h,qN h,rfl,bU.nil _ _ _ _⟩
theorem Ee{v:PV}{s:Sl}(hp:dZ h p v)(hq:zG h s [q]):cN h (.mk 2 0 p [] [] [] [] 0 [q]) ⟨2,0,v,bM,bM,bM,bM,0,s⟩:=
 nI.rep ⟨rfl,rfl,hp,gX h,oG h,gX h,qN h,rfl,hq⟩
theorem Hm{h:PH}{c s:Sl}{cols:List Int}{q:Query}(hc:Ints h c cols)(hq:zG h s [q]):cN h (.mk 3 0 gV cols [] [] [] 0 [q]) ⟨3,0,fF,c,bM,bM,bM,0,s⟩:=
 nI.rep ⟨rfl,rfl,wV h,hc,oG h,gX h,qN h,rfl,hq⟩
theorem AJ:FV gV:=⟨mU,mU,trivial⟩
theorem MJ{op:Int}{on:List (Int×Int)}(hw:FV w)(hq:QW q):QW (.mk op ta w co on gr od li [q]):=Qj.2 ⟨hw,λa ha=>by simp at ha;subst ha;exact hq⟩
theorem EG(t:Int):QW (.mk 1 t gV [] [] [] [] 0 []):=Qj.2 ⟨AJ,λa ha=>by simp at ha⟩
theorem Sk{a:Int}{n:Nat}(h0:0<=a)(hn:0<n):0<=a.tmod (n:Int)/\a.tmod (n:Int)<(n:Int):=by
 rw[Int.tmod_eq_emod_of_nonneg h0];exact⟨Int.emod_nonneg _ aC,Int.emod_lt_of_pos _ aC⟩
theorem Gn{k:List Int}{op:Int}{on:List (Int×Int)}(ha:arity op=1)(h:bO s ps q=(k,0)):bO s ps (.mk op ta w co on gr od li [q])=hZ s ps (.mk op ta w co on gr od li [q]) k []:=by
 have e:eU s ps [q]=([k],0):=xO (by simp[h]);simp[bO,e,ha]
theorem K4{k k':List Int}{op:Int}{on:List (Int×Int)}{p:Query}(ha:arity op=2)(h:bO s ps q=(k,0))(h':bO s ps p=(k',0)):bO s ps (.mk op ta w co on gr od li [q,p])=hZ s ps (.mk op ta w co on gr od li [q,p]) k k':=by
 have e:eU s ps [q,p]=([k,k'],0):=xO (by simp[h,h']);simp[bO,e,ha]
theorem Dk(h:l.length<=12):z7 l=(l,0):=if_pos h
theorem JB{s:nS}{ps:List Int}{t:Int}(h0:0<=t)(h1:t<s.tables.length)(hk:(gT s t).length<=12):bO s ps (.mk 1 t gV [] [] [] [] 0 [])=(gT s t,0):=by
 have e1:bO s ps (.mk 1 t gV [] [] [] [] 0 [])=hZ s ps (.mk 1 t gV [] [] [] [] 0 []) [] []:=by simp[bO,eU,arity]
 rw[e1];unfold hZ;rw[if_neg (by simp[arity,dE])];dsimp only;rw[if_pos rfl,if_pos ⟨h0,h1⟩,Dk hk]
theorem kinds_filter{k:List Int}(h:bO s ps q=(k,0))(hw:gI k ps w=0)(hk:k.length<=12):bO s ps (.mk 2 0 w [] [] [] [] 0 [q])=(k,0):=by
 rw[Gn (by decide) h];unfold hZ;rw[if_neg (by simp[arity,dE])];dsimp only;rw[if_neg (by decide),if_pos rfl,if_pos hw,Dk hk]
theorem KB{k:List Int}(h:bO s ps q=(k,0))(h0:co≠[])(hi:∀c∈co,DK k c=true)(hl:co.length<=12):bO s ps (.mk 3 0 gV co [] [] [] 0 [q])=(co.map λc=>k.getD c.toNat 0,0):=by
 rw[Gn (by decide) h];unfold hZ;rw[if_neg (by simp[arity,dE])];dsimp only;rw[if_neg (by decide),if_neg (by decide),if_pos rfl,if_pos ⟨h0,λj x hx=>hi x (List.mem_of_getElem? hx)⟩,Dk (by simpa using hl)]
structure Em(kt ks co:List Int):Prop where
 in_:∀c∈co,DK kt c=true
 eq_:(co.map λc=>kt.getD c.toNat 0)=ks
theorem Em.kin{kt ks:List Int}(x:Em kt ks co)(h:bO s ps q=(kt,0))(hn:ks≠[])(hl:ks.length<=12):bO s ps (.mk 3 0 gV co [] [] [] 0 [q])=(ks,0):=by
 have h1:co.length=ks.length:=by rw[<-x.eq_,List.length_map]
 rw[KB h (λe=>hn (List.eq_nil_of_length_eq_zero (by rw[<-h1,e];rfl))) x.in_ aC,x.eq_]
theorem Em.snoc{kt ks:List Int}{c x:Int}(p:Em kt (ks.take i) co)(hx:ks[i]? =some x)(hc:DK kt c=true)(e:kt.getD c.toNat 0=x):Em kt (ks.take (i+1)) (co++[c]):=
 ⟨λy hy=>by
  rcases List.mem_append.1 hy with hy|hy
  .exact p.in_ y hy
  .simp at hy;subst hy;exact hc,by rw[List.map_append,p.eq_,List.take_add_one,hx,List.map_cons,List.map_nil,e];rfl⟩
theorem Lp:Sound Tryz.prog 26 NB:=by
 refine iB Tryz.func26 ?_;rintro cvs m h K ⟨cb,sc,p,k,v,s,ps,ks,q,rfl,hc,hs,h8,hts,hp,hpl,hk,hkl,hq,hqw,hK⟩;refine⟨XS cb sc p k v,rfl,aD Gs (aD Dp (aD Ln (aD wY (aD Dq aF)))),Pq cb sc p k v m h K,by kernel_rfl,?_⟩;have htl:=hs.tables.slen;have hkn:=hk.slen;have hw:IntKind.i64.wrap ((sc.tables.len:Int)+1)=(sc.tables.len:Int)+1:=eC aC aC;dsimp only[Pq,push_cast];rw[hw];refine⟨cb,_,rfl,hc,λf m1 f0 f1 o1 c1=>?_⟩;refine⟨λ⟨f,n,mx,hx⟩=>0<=f/\f<=sc.tables.len/\n<=sc.tables.len/\PH.le h hx/\bB m mx cb/\aK mx hx cb,λ⟨_,n,_,_⟩=>sc.tables.len-n,⟨(f,0,m1,h),⟨f0,by show f<=(sc.tables.len:Int);omega,aC,.refl _,o1,c1⟩,MT⟩,?_⟩;clear f0 f1 o1 c1 m1 hw;rintro⟨f,n,m1,hx⟩ ⟨f0,f1,hn,hle,o1,c1⟩;dsimp only
 have pred:∀(kk:Sl)(kl:List Int)(mx:MH)(hx:PH)(Q:PV->Pred->MH->PH->Prop),Ints hx kk kl->kl.length<=1000->PH.le h hx->aK mx hx cb->(∀v p m' h',PH.le hx h'->dZ h' p v->sM kl ps 1 p->bB mx m' cb->aK m' h' cb->Q v p m' h')->
  ∃(cb_2:Nat)(s t:Sl)(cols params:List Int)(deep:Nat),[CV.val (.pointer (some ⟨cb,0,none⟩)),CV.val (.slice kk.a kk.len kk.cap),CV.val (.slice p.a p.len p.cap),CV.val (.int .i64 1)]=[CV.val (.pointer (some ⟨cb_2,0,none⟩)),CV.val (.slice s.a s.len s.cap),CV.val (.slice t.a t.len t.cap),CV.val (.int .i64 deep)]/\aK mx hx cb_2/\Ints hx s cols/\Ints hx t params/\cols.length<=1000/\params.length<=1000/\deep<=1000/\
   ∀(v:PV)(p:Pred)(m':MH)(h':PH),PH.le hx h'->dZ h' p v->sM cols params deep p->bB mx m' cb_2->aK m' h' cb_2->Q v p m' h':=λkk kl mx hx Q h1 h2 h3 h4 h5=>
  ⟨cb,kk,p,kl,ps,1,rfl,h4,h1,hp.mono h3,h2,hpl,aC,λv p m' h' q1 q2 qp q3 q4=>h5 v p m' h' q1 q2 qp q3 q4⟩
 refine aE (λhlt=>?_) (λhge=>?_)
 rotate_left
 .have fin:∀(w:PV)(p:Pred)(m':MH)(h':PH),PH.le hx h'->dZ h' p w->sM ks ps 1 p->bB m1 m' cb->aK m' h' cb->∀(s:Sl)(h'_1:PH),PH.le h' h'_1->aX h'_1 s 21 [QV.enc v]->K (aQ ⟨2,0,w,bM,bM,bM,bM,0,s⟩) m' h'_1:=λw p m' h' q1 q2 qp q3 q4 s h2 q5 q6=>
   hK _ _ m' h2 ((hle.trans q1).trans q5) (Ee (q2.mono q5) (wW q6 (hq.mono ((hle.trans q1).trans q5)))) ⟨MJ qp.vals hqw,λd hf=>hf.filter,λ_ hps hks _ h12 hk0=>kinds_filter hk0 (qp.valid (by decide) hks hps) h12⟩ (o1.trans q3) (q4.mono q5)
  exact⟨pred k ks m1 hx _ (hk.mono hle) hkl hle c1 fin,pred k ks m1 hx _ (hk.mono hle) hkl hle c1 fin⟩
 have hw2:IntKind.i64.wrap (f+(n:Int))=f+(n:Int):=eC aC aC;rw[hw2];refine⟨aC,sc,s,_,rfl,hs.mono hle,h8,λhv h2 le2 hhv=>?_⟩;have hvn:=hhv.slen;obtain⟨T,hT⟩:∃T,(f+(n:Int)).tmod (sc.tables.len:Int)=T:=⟨_,rfl⟩
 have hTr:=Sk (a:=f+(n:Int)) (n:=sc.tables.len) aC aC;rw[hT]at hhv hvn hTr⊢
 have hv8:(gT s T).length<=8:=by
  unfold gT;split
  .simp
  .split
   .simp
   .rename_i t ht;simpa using h8 t (List.mem_of_getElem? ht)
 obtain⟨kt,hkt⟩:∃kt,gT s T=kt:=⟨_,rfl⟩
 have hscan:bO s ps (.mk 1 T gV [] [] [] [] 0 [])=(kt,0):=by rw[JB hTr.1 aC aC,hkt]
 have hcolt:Wy s->FZ kt:=λx=>by rw[<-hkt];exact x T
 rw[hkt]at hhv hvn hv8;refine⟨λ⟨f',n',t,have_,cols,i,mx,hx⟩=>f'=f/\n'=n/\have_=hv/\t=T/\i<=ks.length/\cols.length<=i/\(cols.length=i->Em kt (ks.take i) cols)/\PH.le h2 hx/\bB m mx cb/\aK mx hx cb,λ⟨_,_,_,_,_,i,_,_⟩=>ks.length-i,⟨(f,n,T,hv,[],0,m1,h2),⟨rfl,rfl,rfl,rfl,aC,by simp,λ_=>⟨by simp,by simp⟩,.refl _,o1,c1.mono le2⟩,MT⟩,?_⟩;rintro⟨f',n',t,hv,cols,i,m2,h3⟩ ⟨rfl,rfl,rfl,rfl,hi,hcl,hpk,le3,o2,c2⟩;dsimp only;have hle3:PH.le h h3:=(hle.trans le2).trans le3;refine aE (λhlt2=>?_) (λhge2=>?_)
 .obtain⟨x,hx⟩:=fD hkn hlt2;obtain⟨b1,of1,e1,r1⟩:=(hk.mono hle3).at hx;refine⟨b1,of1,e1,aC,hlt2,x,.imm (by simpa using r1),cb,_,rfl,c2,λfr m3 fr0 fr1 o3 c3=>?_⟩;refine⟨λ⟨f2,n2,t2,have_,cols2,i2,kind,fr',j,mx,hy⟩=>f2=f'/\n2=n'/\have_=hv/\t2=t/\cols2=cols/\i2=i/\kind=x/\mx=m3/\hy=h3/\j<=hv.len/\fr'=fr,λ⟨_,_,_,_,_,_,_,_,j,_,_⟩=>hv.len-j,⟨(f',n',t,hv,cols,i,x,fr,0,m3,h3),⟨rfl,rfl,rfl,rfl,rfl,rfl,rfl,rfl,rfl,aC,rfl⟩,MT⟩,?_⟩;rintro⟨f2,n2,t2,hv,cols,i,kind,fr',j,m3,h3⟩ ⟨rfl,rfl,rfl,rfl,rfl,rfl,rfl,rfl,rfl,hj,rfl⟩;dsimp only;refine aE (λhlt3=>?_) (λhge3=>⟨(f2,n2,t2,_,_,_,_,_),⟨rfl,rfl,rfl,rfl,by show i+1<=ks.length;omega,by show cols.length<=i+1;omega,λe=>by have e:cols.length=i+1:=e;omega,le3,o2.trans o3,c3⟩,by show ks.length-(i+1)<ks.length-i;omega,MT⟩);have hw3:IntKind.i64.wrap (fr'+(j:Int))=fr'+(j:Int):=eC aC aC;rw[hw3];have hm:=Sk (a:=fr'+(j:Int)) (n:=Sl.len _) aC (show 0<hv.len by omega);obtain⟨b2,of2,e2,r2⟩:=(hhv.mono le3).inb (n:=(fr'+(j:Int)).tmod (hv.len:Int)) hm.1 (by rw[<-hvn];exact hm.2);refine⟨aC,b2,of2,e2,hm.1,hm.2,_,.imm (by simpa using r2),aB (λek=>⟨by simp;omega,by simp;omega,(f2,n2,t2,_,cols++[(fr'+(j:Int)).tmod (hv.len:Int)],i+1,_,_),⟨rfl,rfl,rfl,rfl,by show i+1<=ks.length;omega,by simp;omega,λe=>?_,le3,o2.trans o3,c3⟩,by show ks.length-(i+1)<ks.length-i;omega,?_⟩) (λ_=>⟨(f2,n2,t2,hv,cols,i,kind,fr',j+1,m3,h3),⟨rfl,rfl,rfl,rfl,rfl,rfl,rfl,rfl,rfl,by show j+1<=hv.len;omega,rfl⟩,by show hv.len-(j+1)<hv.len-j;omega,MT⟩)⟩
  .have e:(cols++[(fr'+(j:Int)).tmod (hv.len:Int)]).length=i+1:=e;rw[List.length_append]at e;exact(hpk (by simpa using e)).snoc hx (by simp only[DK,Bool.and_eq_true,decide_eq_true_eq];omega) (by simpa using ek)
  .rw[List.map_append];exact MT
 .have hn1:n'+1<=sc.tables.len:=by omega
  have hi2:i=ks.length:=by omega
  refine aB (λ_=>⟨(f',n'+1,m2,h3),⟨f0,f1,hn1,hle3,o2,c2⟩,by show sc.tables.len-(n'+1)<sc.tables.len-n';omega,MT⟩) (λ_=>aE (λ_=>⟨(f',n'+1,m2,h3),⟨f0,f1,hn1,hle3,o2,c2⟩,by show sc.tables.len-(n'+1)<sc.tables.len-n';omega,MT⟩) (λhnl=>⟨t,rfl,cb,2,rfl,aC,aC,c2,λr m4 o4 c4=>?_⟩))
  have hpick:Em kt ks cols:=by
   rw[List.length_map]at hnl;have:=hpk aC
   rwa [hi2,List.take_length]at this
  refine aB (λ_=>?_) (λ_ s1 h5 le5 r5 s2 h6 le6 r6=>?_)
  .have fin:∀(w:PV)(p:Pred)(m':MH)(h':PH),PH.le h3 h'->dZ h' p w->sM kt ps 1 p->bB m4 m' cb->aK m' h' cb->∀(s:Sl)(h'_1:PH),PH.le h' h'_1->aX h'_1 s 21 [QV.enc ⟨1,t,fF,bM,bM,bM,bM,0,bM⟩]->∀(s_1:Sl)(h'_2:PH),PH.le h'_1 h'_2->aX h'_2 s_1 1 (cols.map eI)->∀(s_2:Sl)(h'_3:PH),PH.le h'_2 h'_3->aX h'_3 s_2 21 [QV.enc ⟨2,0,w,bM,bM,bM,bM,0,s⟩]->K (aQ ⟨3,0,fF,s_1,bM,bM,bM,0,s_2⟩) m' h'_3:=λw p m' h' q1 q2 qp q3 q4 s h5 q5 q6 s1 h6 q7 q8 s2 h7 q9 q10=>
    hK _ _ m' h7 ((((hle3.trans q1).trans q5).trans q7).trans q9) (Hm (cols:=cols) ⟨q8.mono q9,aC⟩ (wW q10 (Ee (q2.mono ((q5.trans q7).trans q9)) (wW (q6.mono (q7.trans q9)) (Af _ t))))) ⟨MJ AJ (MJ qp.vals (EG t)),λd _=>KI.three d (nH.one (nH.one nH.scan (by decide)) (by decide)),λhsk hps _ hn h12 _=>hpick.kin (kinds_filter hscan (qp.valid (by decide) (hcolt hsk) hps) aC) hn h12⟩ ((o2.trans o4).trans q3) (q4.mono ((q5.trans q7).trans q9))
   exact⟨pred hv kt m4 h3 _ (hhv.mono le3) aC hle3 c4 fin,pred hv kt m4 h3 _ (hhv.mono le3) aC hle3 c4 fin⟩
  .exact hK _ _ m4 h6 ((hle3.trans le5).trans le6) (Hm (cols:=cols) ⟨r5.mono le6,aC⟩ (wW (v:=⟨1,t,fF,bM,bM,bM,bM,0,bM⟩) r6 (Af _ t))) ⟨MJ AJ (EG t),λd _=>KI.three d (nH.mono (nH.one nH.scan (by decide)) (by decide) (by decide) (by decide)),λ_ _ _ hn h12 _=>hpick.kin hscan hn h12⟩ (o2.trans o4) (c4.mono (le5.trans le6))
def ZS(K:CV->MH->PH->Prop)(m:MH)(h:PH)(cb:Nat)(s:nS)(ps:List Int)(d:Nat):Prop:=∀w q m' h',PH.le h h'->cN h' q w->QW q->xV d q->(fG s ps q).2=0->bB m m' cb->aK m' h' cb->K (aQ w) m' h'
def R9(N:Nat):Vc.Spec:=λcvs m h K=>∃cb sc p s ps deep,cvs=[cP cb,aS sc,cS p,cI deep]/\aK m h cb/\fV h s sc/\eE s=0/\s.tables≠[]/\Ints h p ps/\ps.length<=1000/\ps.all dM=true/\ -1<=deep/\deep<=1000/\(deep+1).toNat<N/\ZS K m h cb s ps deep.toNat
noncomputable def X9(N:Nat)(cb:Nat)(sc:bJ)(p:Sl):Ctx:=
 uW [(15,FX),(40,WA),(25,CD),(41,WH),(26,NB),(42,YA),(30,xU),(13,R9 N)] [(11,{A:=QV×QV×Sl×Int×MH×PH,st:=λ⟨a,q,k,n,m,h⟩=>cD 171 175 [(0,pv cb),(2,sv p),(5,.at (.ptr 5 0)),(8,.at (.ptr 8 0)),(10,.at (.ptr 10 0)),(11,sv k),(13,.at (.ptr 13 0)),(14,iv n)] [(5,.cells 43 (sc.enc.map .val)),(8,.cells 38 (zK.enc.map .val)),(10,.cells 38 (a.enc.map .val)),(13,.cells 38 (q.enc.map .val))] m h})] [(7,{A:=Int×Int×QV×QV×Sl×MH×PH,st:=λ⟨d,op,a,q,k,m,h⟩=>cD 171 175 [(0,pv cb),(2,sv p),(3,iv d),(5,.at (.ptr 5 0)),(8,.at (.ptr 8 0)),(9,iv op),(10,.at (.ptr 10 0)),(11,sv k),(13,.at (.ptr 13 0))] [(5,.cells 43 (sc.enc.map .val)),(8,.cells 38 (zK.enc.map .val)),(10,.cells 38 (a.enc.map .val)),(13,.cells 38 (q.enc.map .val))] m h}),
  (16,{A:=Int×Int×QV×QV×Sl×Bool×MH×PH,st:=λ⟨d,op,a,q,k,t,m,h⟩=>cD 171 175 [(0,pv cb),(2,sv p),(3,iv d),(5,.at (.ptr 5 0)),(8,.at (.ptr 8 0)),(9,iv op),(10,.at (.ptr 10 0)),(11,sv k),(13,.at (.ptr 13 0)),(59,iv op),(84,bv t)] [(5,.cells 43 (sc.enc.map .val)),(8,.cells 38 (zK.enc.map .val)),(10,.cells 38 (a.enc.map .val)),(13,.cells 38 (q.enc.map .val))] m h}),
  (24,{A:=Int×QV×QV×Sl×Bool×MH×PH,st:=λ⟨op,a,q,k,t,m,h⟩=>cD 171 175 [(0,pv cb),(2,sv p),(5,.at (.ptr 5 0)),(8,.at (.ptr 8 0)),(10,.at (.ptr 10 0)),(11,sv k),(13,.at (.ptr 13 0)),(59,iv op),(122,bv t)] [(5,.cells 43 (sc.enc.map .val)),(8,.cells 38 (zK.enc.map .val)),(10,.cells 38 (a.enc.map .val)),(13,.cells 38 (q.enc.map .val))] m h}),
  (20,{A:=QV×QV×QV×Sl×Sl×MH×PH,st:=λ⟨a,b,q,k,l,m,h⟩=>cD 171 175 [(0,pv cb),(2,sv p),(5,.at (.ptr 5 0)),(8,.at (.ptr 8 0)),(10,.at (.ptr 10 0)),(11,sv k),(13,.at (.ptr 13 0)),(15,.at (.ptr 15 0)),(16,sv l)] [(5,.cells 43 (sc.enc.map .val)),(8,.cells 38 (zK.enc.map .val)),(10,.cells 38 (a.enc.map .val)),(13,.cells 38 (q.enc.map .val)),(15,.cells 38 (b.enc.map .val))] m h}),
  (30,{A:=QV×QV×MH×PH,frz:=true,st:=λ⟨a,q,m,h⟩=>cD 171 175 [(2,sv p),(5,.at (.ptr 5 0)),(8,.at (.ptr 8 0)),(10,.at (.ptr 10 0)),(13,.at (.ptr 13 0))] [(5,.cells 43 (sc.enc.map .val)),(8,.cells 38 (zK.enc.map .val)),(10,.cells 38 (a.enc.map .val)),(13,.cells 38 (q.enc.map .val))] m h})] [] [36,1036,1033] [] false
abbrev D8(a:QV->Query->Prop):Prop:=∀(x:QV)(x1:Query),a x x1
noncomputable abbrev qY(a:Int×Int×QV×QV×Sl×MH×PH):Sl×MH×PH:=a.2.2.2.2
abbrev dA(a b:QV):Prop:=xM 38 a.enc=xM 38 b.enc
abbrev qB(a:List At)(b:QV):Prop:=oQ 38 a=xM 38 b.enc
abbrev gA(a:Int)(b:Sl)(c:QV):Prop:=qB (zX a (zX 0 (dU Ns (fP 0) (dU (fP 0) (fP 0) (dU (fP 0) Ns (dU CB CB (dU CB CB (dU CB (fP 0) (qJ b))))))))) c
abbrev yM(a:Prop)(b:Nat)(c d e:Sl)(g:Prop):Prop:=aA a (cV b) (aA (aI c) fH (aA fI hU (aA (bF d e) (eP 13) g)))
noncomputable abbrev pT(a:QV×QV×Sl×Int×MH×PH):MH×PH:=a.2.2.2.2
noncomputable abbrev MU(a:QV×QV×Sl×Int×MH×PH):Sl:=a.2.1.columns
noncomputable abbrev Dc(a:QV)(b:List At):List At:=dU (xW a.group) (xW a.order) b
noncomputable abbrev rW(a:QV×QV×MH×PH):Nat->Option Obj:=a.2.2.1
noncomputable abbrev oN(a:QV×QV×MH×PH):Nat->Nat->Option Value:=a.2.2.2
noncomputable abbrev mH(a:Int×QV×QV×Sl×Bool×MH×PH):Sl:=a.2.2.2.1
noncomputable abbrev yN(a:Int×QV×QV×Sl×Bool×MH×PH):Bool:=a.2.2.2.2.1
noncomputable abbrev lB(a:Int×QV×QV×Sl×Bool×MH×PH):QV:=a.2.1
noncomputable abbrev zO(a:Int×QV×QV×Sl×Bool×MH×PH):QV:=a.2.2.1
noncomputable abbrev qZ(a:Int×Int×QV×QV×Sl×Bool×MH×PH):QV:=zO a.2
noncomputable abbrev xL(a:Int×QV×QV×Sl×Bool×MH×PH):MH×PH:=a.2.2.2.2.2
noncomputable abbrev mM(a:Int×QV×QV×Sl×Bool×MH×PH):Nat->Option Obj:=(xL a).1
noncomputable abbrev jD(a:Int×QV×QV×Sl×Bool×MH×PH):Nat->Nat->Option Value:=(xL a).2
noncomputable abbrev C8(a:QV×QV×QV×Sl×Sl×MH×PH):Sl:=a.2.2.2.1
noncomputable abbrev jN(a:QV×QV×QV×Sl×Sl×MH×PH):Sl×MH×PH:=a.2.2.2.2
noncomputable abbrev qA(a:QV×QV×QV×Sl×Sl×MH×PH):QV:=a.2.2.1
noncomputable abbrev Fl(a:QV×QV×QV×Sl×Sl×MH×PH):Sl:=(qA a).args
attribute [push_cast] D8 qY dA qB gA yM pT MU Dc rW oN mH yN lB zO qZ xL mM jD C8 jN qA Fl
def PC(N:Nat)(cb:Nat)(sc:bJ)(p:Sl)(deep:Int)(m:MH)(h:PH)(K:CV->MH->PH->Prop):Prop:=
  fZ cb 12 m h (λk m1=>aZ deep 1 (fZ cb (ite (gQ sc>1) (gQ sc) 1) m1 h (λk1 m2=>jM k1 (λt=>K (lF (wK (dO 1) (dO t))) m2 h))) (cT (dX (1+k)==1) (fZ cb (ite (gQ sc>1) (gQ sc) 1) m1 h (λk1 m2=>jM k1 (λt=>K (lF (wK (dO 1) (dO t))) m2 h))) (gQ sc==0) (fZ cb (ite (gQ sc>1) (gQ sc) 1) m1 h (λk1 m2=>jM k1 (λt=>K (lF (wK (dO 1) (dO t))) m2 h))) (∃(c:Nat),xJ (λs p1=>BE (λs1 p2=>∃(d:Int),aA (Bx cb 0::bN sc::hX p (dX (deep-1))=Bx c 0::bN s::hX p1 d) (aK m1 h c) (aA (fV h s1 s) (eE s1=0) (aA (jO (s1.tables=[])) (Ints h p1 p2) (aA (jI p2) (dV (Ea p2)) (aA (Int.negSucc 0<=d) (d<=1000) ((d+1).toNat<N/\D8 (λw q=>eT (λm2 h1=>bE h h1 (cN h1 q
 w) (aM (QW q) (xV d.toNat q) (aM ((fG s1 p2 q).2=0) (bB m1 m2 c) (jG m2 h1 c (xJ (λs2 p3=>∃(v:QV),BE (λs3 p4=>∃(q1:Query),aA (bN sc::bK (dN p) (bW w)=bN s2::bK (dN p3) (bW v)) (fV h1 s3 s2) (aA (Ints h1 p3 p4) (cN h1 q1 v) (bZ (λs4 h2=>bE h1 h2 (Ints h2 s4 (fG s3 p4 q1).1) (∃(I:Int×Int×QV×QV×Sl×MH×PH->Prop),gS (λs5 m3=>mT m2 m3 h2 s5 38 21 (fE w.enc)->∃(x:Int×Int×QV×QV×Sl×MH×PH),aA (I x) (cV cb) (aA (aI p) (cG deep x.1) (aA fH fI (aA (cG (dX (1+k)) x.2.1) hU (aA (bF s4 (qY x).1) (eP 13) (aA (bP sc) hP (aA (dA w x.2.2.1) (gA (dX (1+k)) s5 x.2.2.2.1) (aA (cH m3 (qY x).2) (eJ h2 (qY x).2) True))))))))/\∀(x:Int×Int×QV×QV×Sl×MH×PH),I x->∃
 (I1:QV×QV×MH×PH->Prop),dH x.2.1 3 (fZ cb 3 (lV (qY x)) (eN (qY x)) (λk1 m3=>∃(I2:QV×QV×Sl×Int×MH×PH->Prop)(m4:QV×QV×Sl×Int×MH×PH->Nat),(∃(x1:QV×QV×Sl×Int×MH×PH),yM (I2 x1) cb p (qY x).1 x1.2.2.1 (aA (cG k1 x1.2.2.2.1) (bP sc) (aA hP (dA x.2.2.1 x1.1) (aA (dA x.2.2.2.1 x1.2.1) (cH m3 (pT x1)) (eJ (eN (qY x)) (pT x1)/\True)))))/\∀(x1:QV×QV×Sl×Int×MH×PH),I2 x1->fU x1.2.2.2.1 0 (fZ cb (aG x1.2.2.1) (pT x1).1 (pT x1).2 (λk2 m5=>∃(x2:List (List Value)),aA (dC m5 (cZ (MU x1)) 3 1 x2) (gM ((x2.length+1)*8)) (iF x2/\gS (λs5 m6=>dY m5 m6 (cZ (MU x1)) s5 3 1 (x2++fE (cL k2))->∃(x3:QV×QV×Sl×Int×MH×PH),aA (I2 x3) (m4 x3<m4 x1) (aA
 (cV cb) (aI p) (aA fH fI (aA hU (bF x1.2.2.1 x3.2.2.1) (aA (eP 13) (cG (dX (x1.2.2.2.1-1)) x3.2.2.2.1) (aA (bP sc) hP (aA (dA x1.1 x3.1) (qB (dU (fP x1.2.1.op) (fP x1.2.1.table) (pQ x1.2.1.where_ (dU (xW s5) (xW x1.2.1.on) (Dc x1.2.1 (rJ x1.2.1.limit (xW x1.2.1.args)))))) x3.2.1) (aA (cH m6 (pT x3)) (eJ (pT x1).2 (pT x3)) True))))))))))) (Ep (pT x1).1 (pT x1).2->∃(x2:QV×QV×MH×PH),aA (I1 x2) (aI p) (aA (eP 5) fI (aA hU (eP 13) (aA (bP sc) hP (aA (dA x1.1 x2.1) (dA x1.2.1 x2.2.1) (CH (pT x1).1 (pT x1).2 (rW x2) (oN x2)/\True)))))))) (∃(I2:Int×Int×QV×QV×Sl×Bool×MH×PH->Prop),dH x.2.1 4 (∃(x1:Int×Int×QV×QV×Sl×Bool×MH×PH),aA (I2 x1) (cV cb) (aA (aI p) (cG
 x.1 x1.1) (aA fH fI (aA (cG x.2.1 x1.2.1) hU (aA (bF (qY x).1 (mH x1.2)) (eP 13) (aA (cG x.2.1 x1.2.1) (vC (yN x1.2)) (aA (bP sc) hP (aA (dA x.2.2.1 (lB x1.2)) (dA x.2.2.2.1 (qZ x1)) (jE (lV (qY x)) (xL x1.2) (eN (qY x))))))))))) (∃(x1:Int×Int×QV×QV×Sl×Bool×MH×PH),aA (I2 x1) (cV cb) (aA (aI p) (cG x.1 x1.1) (aA fH fI (aA (cG x.2.1 x1.2.1) hU (aA (bF (qY x).1 (mH x1.2)) (eP 13) (aA (cG x.2.1 x1.2.1) (gR (x.2.1==5) (yN x1.2)) (aA (bP sc) hP (aA (dA x.2.2.1 (lB x1.2)) (dA x.2.2.2.1 (qZ x1)) (jE (lV (qY x)) (xL x1.2) (eN (qY x)))))))))))/\∀(x1:Int×Int×QV×QV×Sl×Bool×MH×PH),fT (I2 x1) (yN x1.2) (∃(c1:Nat),xJ (λs5 p5=>
 BE (λs6 p6=>∃(d1:Int),aA (Bx cb 0::bN sc::hX p (dX (x1.1-2))=Bx c1 0::bN s5::hX p5 d1) (aK (mM x1.2) (jD x1.2) c1) (aA (fV (jD x1.2) s6 s5) (eE s6=0) (aA (jO (s6.tables=[])) (Ints (jD x1.2) p5 p6) (aA (jI p6) (dV (Ea p6)) (aA (Int.negSucc 0<=d1) (d1<=1000) ((d1+1).toNat<N/\D8 (λw1 q2=>eT (λm3 h3=>bE (jD x1.2) h3 (cN h3 q2 w1) (aM (QW q2) (xV d1.toNat q2) (aM ((fG s6 p6 q2).2=0) (bB (mM x1.2) m3 c1) (jG m3 h3 c1 (xJ (λs7 p7=>∃(v1:QV),BE (λs8 p8=>∃(q3:Query),aA (bN sc::bK (dN p) (bW w1)=bN s7::bK (dN p7) (bW v1)) (fV h3 s8 s7) (aA (Ints h3 p7 p8) (cN h3 q3 v1) (bZ (λs9 h4=>bE h3 h4 (Ints h4 s9 (fG s8 p8 q3).1) (∃(I3:QV×QV×QV×Sl×Sl×MH×PH->
 Prop),dH x1.2.1 4 (eF (dX (aG (mH x1.2)+aG s9)) 8 (∃(x2:QV×QV×QV×Sl×Sl×MH×PH),yM (I3 x2) cb p (mH x1.2) (C8 x2) (aA (eP 15) (bF s9 (jN x2).1) (aA (bP sc) hP (aA (dA (lB x1.2) x2.1) (qB (dU (fP 5) (fP (qZ x1).table) (AN (qZ x1) (qZ x1).on (Dc (qZ x1) (rJ (qZ x1).limit (xW (qZ x1).args))))) (qA x2)) (aA (dA w1 x2.2.1) (cH m3 (jN x2).2) (j3 h4 (jN x2).2)))))) (∃(x2:QV×QV×QV×Sl×Sl×MH×PH),yM (I3 x2) cb p (mH x1.2) (C8 x2) (aA (eP 15) (bF s9 (jN x2).1) (aA (bP sc) hP (aA (dA (lB x1.2) x2.1) (dA (qZ x1) (qA x2)) (aA (dA w1 x2.2.1) (cH m3 (jN x2).2) (j3 h4 (jN x2).2))))))) (∃(x2:QV×QV×QV×Sl×Sl×MH×PH),yM (I3 x2) cb p (mH x1.2)
 (C8 x2) (aA (eP 15) (bF s9 (jN x2).1) (aA (bP sc) hP (aA (dA (lB x1.2) x2.1) (dA (qZ x1) (qA x2)) (aA (dA w1 x2.2.1) (cH m3 (jN x2).2) (j3 h4 (jN x2).2))))))/\∀(x2:QV×QV×QV×Sl×Sl×MH×PH),I3 x2->(∃(c2:Nat),iN (λa t=>nK (λa1 b=>aA (iL cb::bK (dN (C8 x2)) (dN (jN x2).1)=iL c2::bK (dN a) (dN t)) (aK (lV (jN x2)) (eN (jN x2)) c2) (aA (Ints (eN (jN x2)) a a1) (Ints (eN (jN x2)) t b) (aA (jI a1) (jI b) (∀(o:Sl)(o1:List (Int×Int)),eT (λm4 h5=>bE (eN (jN x2)) h5 (lI h5 o o1) (aM (o1.length<=10) (bB (lV (jN x2)) m4 c2) (jG m4 h5 c2 (gS (λa2 m5=>mT m4 m5 h5 a2 38 21 (fE x2.2.1.enc)->∃(x3:List (List Value)),AU (dC m5 (cZ (Fl
 x2)) 38 21 x3) (λy=>aA (dW 21 y) (nR m5 h5 (cZ a2) 21 y) (aA (rE x3 y 280) (rF x3 y) (∀(a3:Sl)(m6:MH),aM (dY m5 m6 (cZ (Fl x2)) a3 38 21 (x3++y)) (Ep m6 h5) (∃(x4:QV×QV×MH×PH),aA (I1 x4) (aI p) (aA (eP 5) fI (aA hU (eP 13) (aA (bP sc) hP (aA (dA x2.1 x4.1) (qB (dU (fP (qA x2).op) (fP (qA x2).table) (AN (qA x2) o (Dc (qA x2) (rJ (qA x2).limit (xW a3))))) x4.2.1) (CH m6 h5 (rW x4) (oN x4)/\True))))))))))))))))))))/\gS (λa m4=>mT (lV (jN x2)) m4 (eN (jN x2)) a 38 21 (fE x2.2.1.enc)->∃(c2:Nat),iN (λa1 t=>nK (λa2 b=>aA (iL cb::bK (dN (C8 x2)) (dN (jN x2).1)=iL c2::bK (dN a1) (dN t)) (aK m4 (eN (jN x2)) c2) (aA (Ints (eN (jN x2)) a1
 a2) (Ints (eN (jN x2)) t b) (aA (jI a2) (jI b) (∀(o:Sl)(o1:List (Int×Int)),eT (λm5 h5=>bE (eN (jN x2)) h5 (lI h5 o o1) (aM (o1.length<=10) (bB m4 m5 c2) (jG m5 h5 c2 (∃(x3:List (List Value)),AU (dC m5 (cZ (Fl x2)) 38 21 x3) (λy=>aA (dW 21 y) (nR m5 h5 (cZ a) 21 y) (aA (rE x3 y 280) (rF x3 y) (∀(a3:Sl)(m6:MH),aM (dY m5 m6 (cZ (Fl x2)) a3 38 21 (x3++y)) (Ep m6 h5) (∃(x4:QV×QV×MH×PH),aA (I1 x4) (aI p) (aA (eP 5) fI (aA hU (eP 13) (aA (bP sc) hP (aA (dA x2.1 x4.1) (qB (dU (fP (qA x2).op) (fP (qA x2).table) (AN (qA x2) o (Dc (qA x2) (rJ (qA x2).limit (xW a3))))) x4.2.1) (CH m6 h5 (rW x4) (oN x4)/\True))))))))))))))))))))))))))))))))))))))) (∃(I3:Int×QV×QV
 ×Sl×Bool×MH×PH->Prop),cT (x1.2.1==6) (∃(x2:Int×QV×QV×Sl×Bool×MH×PH),yM (I3 x2) cb p (mH x1.2) (mH x2) (aA (cG x1.2.1 x2.1) (vC (yN x2)) (aA (bP sc) hP (aA (dA (lB x1.2) (lB x2)) (dA (qZ x1) (zO x2)) (aA (cH (mM x1.2) (xL x2)) (eJ (jD x1.2) (xL x2)) True))))) (x1.2.1==7) (∃(x2:Int×QV×QV×Sl×Bool×MH×PH),yM (I3 x2) cb p (mH x1.2) (mH x2) (aA (cG x1.2.1 x2.1) (vC (yN x2)) (aA (bP sc) hP (aA (dA (lB x1.2) (lB x2)) (dA (qZ x1) (zO x2)) (aA (cH (mM x1.2) (xL x2)) (eJ (jD x1.2) (xL x2)) True))))) (∃(x2:Int×QV×QV×Sl×Bool×MH×PH),yM (I3 x2) cb p (mH x1.2) (mH x2) (aA (cG x1.2.1 x2.1) (gR (x1.2.1==8) (yN x2)) (aA (bP sc)
 hP (aA (dA (lB x1.2) (lB x2)) (dA (qZ x1) (zO x2)) (aA (cH (mM x1.2) (xL x2)) (eJ (jD x1.2) (xL x2)) True)))))/\∀(x2:Int×QV×QV×Sl×Bool×MH×PH),I3 x2->cT (yN x2) (∃(c1:Nat)(s5:bJ),iN (λp5 k1=>∃(v1:QV)(s6:nS),nK (λp6 k2=>∃(q2:Query),aA (Bx cb 0::bN sc::dN p::bK (dN (mH x2)) (bW (lB x2))=Bx c1 0::bN s5::dN p5::bK (dN k1) (bW v1)) (aK (mM x2) (jD x2) c1) (aA (fV (jD x2) s6 s5) (mW s6) (aA (mL s6.tables.length) (Ints (jD x2) p5 p6) (aA (jI p6) (Ints (jD x2) k1 k2) (aA (jI k2) (cN (jD x2) q2 v1) (QW q2/\D8 (λw1 q3=>eT (λm3 h3=>bE (jD x2) h3 (cN h3 q3 w1) (aM (P5 s6 p6 k2 q2 q3) (bB (mM x2) m3 c1) (jG m3 h3 c1 (gS (λs7
 m4=>mT m3 m4 h3 s7 38 21 (fE w1.enc)->∃(x3:List (List Value)),AU (dC m4 (cZ (zO x2).args) 38 21 x3) (λy=>aA (dW 21 y) (nR m4 h3 (cZ s7) 21 y) (aA (rE x3 y 280) (rF x3 y) (∀(s8:Sl)(m5:MH),aM (dY m4 m5 (cZ (zO x2).args) s8 38 21 (x3++y)) (Ep m5 h3) (∃(x4:QV×QV×MH×PH),aA (I1 x4) (aI p) (aA (eP 5) fI (aA hU (eP 13) (aA (bP sc) hP (aA (dA (lB x2) x4.1) (qB (qQ (zO x2) (xW s8)) x4.2.1) (CH m5 h3 (rW x4) (oN x4)/\True))))))))))))))))))))))) (x2.1==9) (∃(c1:Nat)(v1:QV),A2 (λs5 k1=>aA (iL cb::bK (bW (zO x2)) (dN (mH x2))=iL c1::bK (E0 v1 v1 (aJ (lH (gC v1)) (jS (eX v1)) (aJ (sP (eX v1)) (dO (nL (eX v1))) (aJ (nF (eX v1)) (lH (eX v1)) (aJ (nC
 v1) (nD v1) (aJ (dT v1.on) u0 (aJ u0 (dO v1.limit) (aU v1.args)))))))) (dN s5)) (aK (mM x2) (jD x2) c1) (aA (Ints (jD x2) s5 k1) (jI k1) (∀(g o:Sl)(k2:Int)(g1:List Int)(o1:List (Int×Bool)),eT (λm3 h3=>bE (jD x2) h3 (Ints h3 g g1) (aM (iI h3 o o1) (g1.length<=k1.length) (aM (o1.length<=k1.length) (cA k2) (aM (k2<=3) (bB (mM x2) m3 c1) (aM (aK m3 h3 c1) (Ep m3 h3) (∃(x3:QV×QV×MH×PH),aA (I1 x3) (aI p) (aA (eP 5) fI (aA hU (eP 13) (aA (bP sc) hP (aA (dA (lB x2) x3.1) (qB (dU (fP v1.op) (fP v1.table) (AN v1 v1.on (dU (xW g) (xW o) (rJ k2 (xW v1.args))))) x3.2.1) (CH m3 h3 (rW x3) (oN x3)/\True))))))))))))))) (dH x2.1 10 (∃(c1:Nat)(v1:QV),A2 (λs5 k1=>aA (iL cb::bK (bW
 (zO x2)) (dN (mH x2))=iL c1::bK (E0 v1 v1 (aJ (lH (gC v1)) (jS (eX v1)) (aJ (sP (eX v1)) (dO (nL (eX v1))) (aJ (nF (eX v1)) (lH (eX v1)) (aJ (nC v1) (nD v1) (aJ (dT v1.on) u0 (aJ u0 (dO v1.limit) (aU v1.args)))))))) (dN s5)) (aK (mM x2) (jD x2) c1) (aA (Ints (jD x2) s5 k1) (jI k1) (∀(g o:Sl)(k2:Int)(g1:List Int)(o1:List (Int×Bool)),eT (λm3 h3=>bE (jD x2) h3 (Ints h3 g g1) (aM (iI h3 o o1) (g1.length<=k1.length) (aM (o1.length<=k1.length) (cA k2) (aM (k2<=3) (bB (mM x2) m3 c1) (jG m3 h3 c1 (∃(c2:Nat)(s6:bJ),iN (λp5 k3=>∃(v2:QV)(s7:nS),nK (λp6 k4=>∃(q2:Query),aA (Bx cb 0::bN sc::dN p::bK (dN (mH x2)) (bW (lB x2))=Bx c2 0::bN s6::dN p5::
 bK (dN k3) (bW v2)) (aK m3 h3 c2) (aA (fV h3 s7 s6) (mW s7) (aA (mL s7.tables.length) (Ints h3 p5 p6) (aA (jI p6) (Ints h3 k3 k4) (aA (jI k4) (cN h3 q2 v2) (QW q2/\D8 (λw1 q3=>eT (λm4 h4=>bE h3 h4 (cN h4 q3 w1) (aM (P5 s7 p6 k4 q2 q3) (bB m3 m4 c2) (jG m4 h4 c2 (gS (λs8 m5=>mT m4 m5 h4 s8 38 21 (fE w1.enc)->∃(x3:List (List Value)),AU (dC m5 (cZ v1.args) 38 21 x3) (λy=>aA (dW 21 y) (nR m5 h4 (cZ s8) 21 y) (aA (rE x3 y 280) (rF x3 y) (∀(s9:Sl)(m6:MH),aM (dY m5 m6 (cZ v1.args) s9 38 21 (x3++y)) (Ep m6 h4) (∃(x4:QV×QV×MH×PH),aA (I1 x4) (aI p) (aA (eP 5) fI (aA hU (eP 13) (aA (bP sc) hP (aA (dA (lB x2) x4.1) (qB (dU (fP v1.op) (fP v1.table) (AN v1 v1.on (dU (xW g) (xW o) (rJ
 k2 (xW s9))))) x4.2.1) (CH m6 h4 (rW x4) (oN x4)/\True)))))))))))))))))))))))))))))))) ((∃(c1:Nat),v8 (Bx cb 0::dN (mH x2)::hX p 2) c1 (mM x2) (jD x2) (λc2 p5 d1=>zW (λv1 p6=>eT (λm3 h3=>bE (jD x2) h3 (dZ h3 p6 v1) (aM (sM c2 p5 d1 p6) (bB (mM x2) m3 c1) (jG m3 h3 c1 (∀(s5:Sl)(m4:MH),aM (mT m3 m4 h3 s5 38 21 (fE (lB x2).enc)) (Ep m4 h3) (∃(x3:QV×QV×MH×PH),aA (I1 x3) (aI p) (aA (eP 5) fI (aA hU (eP 13) (aA (bP sc) hP (aA (dA (lB x2) x3.1) (qB (dU (fP 2) (fP 0) (pQ v1 (dU CB CB (dU CB CB (rJ 0 (xW s5)))))) x3.2.1) (CH m4 h3 (rW x3) (oN x3)/\True)))))))))))))/\gS (λs5 m3=>mT (mM x2) m3 (jD x2) s5 38 21 (fE (lB x2).enc)->∃(c1:Nat),v8 (Bx cb 0::dN
 (mH x2)::hX p 2) c1 m3 (jD x2) (λc2 p5 d1=>zW (λv1 p6=>eT (λm4 h3=>bE (jD x2) h3 (dZ h3 p6 v1) (aM (sM c2 p5 d1 p6) (bB m3 m4 c1) (aM (aK m4 h3 c1) (Ep m4 h3) (∃(x3:QV×QV×MH×PH),aA (I1 x3) (aI p) (aA (eP 5) fI (aA hU (eP 13) (aA (bP sc) hP (aA (dA (lB x2) x3.1) (qB (dU (fP 2) (fP 0) (pQ v1 (dU CB CB (dU CB CB (rJ 0 (xW s5)))))) x3.2.1) (CH m4 h3 (rW x3) (oN x3)/\True))))))))))))))))/\∀(x1:QV×QV×MH×PH),I1 x1->xJ (λs5 p5=>∃(v1:QV),BE (λs6 p6=>∃(q2:Query),aA (bN sc::bK (dN p) (bW x1.2.1)=bN s5::bK (dN p5) (bW v1)) (fV (oN x1) s6 s5) (aA (Ints (oN x1) p5 p6) (cN (oN x1) q2 v1) (bZ (λs7 h3=>bE (oN x1) h3 (Ints h3 s7 (fG s6 p6 q2).1) (eA
 (fG s6 p6 q2).2 0 (K (bW x1.1) (rW x1) h3) (K (bW x1.2.1) (rW x1) h3)))))))))))))))))))))))))))))
structure qS(m0 m:MH)(s:Sl)(E:TypeId)(sz:Nat)(xs:List (List Value)):Prop where
 row:dC m s E sz xs
 fresh:∀b i,s.a=some ⟨b,i,none⟩->m0 b=none
def Kept(m0 m:MH)(cb:Nat):Prop:=∀b o,m0 b=some o->b≠cb->m b=some o
theorem Kept.of{m0:MH}(h:bB m0 m cb):Kept m0 m cb:=λb o e n=>by rw[h.other b n];exact e
theorem Kept.on{m0:MH}(k:Kept m0 m cb)(h:bB m m' cb):Kept m0 m' cb:=λb o e n=>by rw[h.other b n];exact k b o e n
theorem aK.blk(c:aK m h cb):∃cs,m cb=some (.cells cs 82 (0,0)):=by
 obtain⟨r,q,cs,k,q1,_⟩:=c;exact⟨_,q1⟩
theorem aK.keep(c:aK m h cb)(e:m' cb=m cb)(le:PH.le h h'):aK m' h' cb:=by
 obtain⟨r,q,cs,k,q1,q2,q3⟩:=c;exact⟨r,q,cs,k,by rw[e];exact q1,q2.mono le,q3⟩
theorem Kept.free{m0:MH}(k:Kept m0 m cb)(c:aK m h cb)(hb:m b=none):m0 b=none:=by
 cases e:m0 b with
 |none=>rfl
 |some o=>
  by_cases hc:b=cb
  .obtain⟨cs,e2⟩:=c.blk;rw[hc,e2]at hb;cases hb
  .rw[k b o e hc]at hb;cases hb
theorem dC.nil(m:MH)(E:TypeId)(sz:Nat):dC m bM E sz []:=⟨⟨λ_ h=>by simp at h,λ_ h=>by simp at h⟩,.inl ⟨rfl,rfl⟩⟩
theorem qS.nil(m0 m:MH)(E:TypeId)(sz:Nat):qS m0 m bM E sz []:=⟨dC.nil m E sz,λb i e=>by cases e⟩
theorem qS.on{m0:MH}{s:Sl}{E:TypeId}(r:qS m0 m s E sz xs)(o:bB m m' cb)(c:aK m h cb)(hE:E≠82):qS m0 m' s E sz xs:=by
 refine⟨dC.keep r.row (λb i e=>o.other b (λe2=>?_)),r.fresh⟩;obtain⟨cur,h1⟩:=dC.blk r.row e;obtain⟨cs,h2⟩:=c.blk;rw[e2,h2]at h1;simp only[Option.some.injEq,Obj.cells.injEq]at h1;exact hE h1.2.1.symm
theorem qS.new{m0:MH}{s t:Sl}{E E':TypeId}{sz':Nat}{ys:List (List Value)}(r:qS m0 m s E sz xs)(x:mT m m' h t E' sz' ys):qS m0 m' s E sz xs:=by
 refine⟨dC.keep r.row (λb i e=>x.other b (λj e2=>?_)),r.fresh⟩;obtain⟨cur,h1⟩:=dC.blk r.row e;rw[(x.fresh b j e2).m_]at h1;cases h1
theorem mT.frow{m0:MH}{s:Sl}{E:TypeId}(x:mT m m' h s E sz xs)(k:Kept m0 m cb)(c:aK m h cb):qS m0 m' s E sz xs:=⟨x.row,λb i e=>k.free c (x.fresh b i e).m_⟩
theorem mT.at_cb{s:Sl}{E:TypeId}(x:mT m m' h s E sz xs)(c:aK m h cb):m' cb=m cb:=x.other cb (λi e=>by
 obtain⟨cs,e2⟩:=c.blk;rw[(x.fresh cb i e).m_]at e2;cases e2)
theorem Kept.new{m0:MH}{s:Sl}{E:TypeId}(k:Kept m0 m cb)(x:mT m m' h s E sz xs):Kept m0 m' cb:=λb o e n=>by
 rw[x.other b (λi e2=>by have:=(x.fresh b i e2).m_;rw[k b o e n]at this;cases this)];exact k b o e n
theorem qS.grown{m0:MH}{s s':Sl}{E:TypeId}{zs:List (List Value)}(r:qS m0 m s E sz xs)(x:dY m m' s s' E sz zs)(k:Kept m0 m cb)(c:aK m h cb):qS m0 m' s' E sz zs:=
 ⟨x.row,λb i e=>by
  rcases x.fresh b i e with h1|⟨j,h1⟩
  .exact k.free c h1
  .exact r.fresh b j h1⟩
theorem qS.apart{m0:MH}{s t t':Sl}{E E':TypeId}{sz':Nat}{ys zs:List (List Value)}(r:qS m0 m s E sz xs)(q:qS m0 m t E' sz' ys)(x:dY m m' t t' E' sz' zs)(hE:E≠E'):qS m0 m' s E sz xs:=by
 refine⟨dC.keep r.row (λb i e=>?_),r.fresh⟩;obtain⟨cur,h1⟩:=dC.blk r.row e;rw[h1];refine x.other b _ h1 (λj e2=>?_);obtain⟨cur2,h2⟩:=dC.blk q.row e2;rw[h1]at h2;simp only[Option.some.injEq,Obj.cells.injEq]at h2;exact hE h2.2.1
theorem Kept.grown{m0:MH}{s s':Sl}{E:TypeId}{zs:List (List Value)}(k:Kept m0 m cb)(r:qS m0 m s E sz xs)(x:dY m m' s s' E sz zs):Kept m0 m' cb:=λb o e n=>x.other b o (k b o e n) (λi e2=>by rw[r.fresh b i e2]at e;cases e)
theorem dY.at_cb{m0:MH}{s s':Sl}{E:TypeId}{zs:List (List Value)}(x:dY m m' s s' E sz zs)(r:qS m0 m s E sz xs)(c:aK m h cb)(hE:E≠82):m' cb=m cb:=by
 obtain⟨cs,e⟩:=c.blk;rw[e];refine x.other cb _ e (λi e2=>?_);obtain⟨cur,h1⟩:=dC.blk r.row e2;rw[e]at h1;simp only[Option.some.injEq,Obj.cells.injEq]at h1;exact hE h1.2.1.symm
theorem Od{sz:Nat}:∀{xs:List (List Value)},(∀e∈xs,e.length=sz)->xs.flatten.length=xs.length*sz
 |[],_=>by simp
 |x::xs,h=>by
  simp only[List.flatten_cons,List.length_append,List.length_cons];rw[Od (λe he=>h e (by simp[he])),h x (by simp),Nat.add_mul];omega
theorem dC.src{s:Sl}{E:TypeId}{x:List Value}(r:dC m s E sz (x::xs)):nR m h s sz (x::xs):=by
 rcases r.ex with⟨_,e⟩|⟨b,cap,cur,rfl,hm,_,_,_,ht⟩
 .cases e
 .exact .lent b 0 cur E (0,0) rfl rfl hm (by rw[List.drop_zero,Od r.rows.len];exact ht)
def uR(m0 m:MH):MH:=λb=>match m0 b with|some _=>m b|none=>none
def Br(m0 m:MH)(h:PH):PH:=λb i=>match m0 b,m b with|none,some (.cells cs _ _)=>cs[i]? |_,_=>h b i
theorem M9{m0 m:MH}{h:PH}(d:Ep m h):PH.le h (Br m0 m h):=⟨λb i v e=>by
 unfold Br;split
 .rename_i cs E fz h1 h2;rw[d.disj b _ h2 i]at e;cases e
 .exact e⟩
theorem TY{m0:MH}(d:Ep m h):CH m h (uR m0 m) (Br m0 m h):=by
 refine⟨λb o e=>?_,M9 d,λb i v e=>?_⟩
 .unfold uR at e;split at e
  .exact e
  .cases e
 .unfold Br at e;split at e
  .rename_i cs E fz h1 h2;exact .inr ⟨cs,E,fz,h2,e,by unfold uR;rw[h1]⟩
  .exact .inl e
theorem FT{p:Prop}(h:p:=by repeat' (first|with_reducible rfl|exact trivial|exact TY (by assumption)|refine⟨?_,?_⟩|rfl)):p:=h
theorem qS.ice{m0:MH}{s:Sl}{E:TypeId}(r:qS m0 m s E sz xs):aX (Br m0 m h) s sz xs:=by
 rcases r.row.ex with⟨rfl,rfl⟩|⟨b,cap,cur,rfl,hm,hcp,_,_,ht⟩
 .exact aX.nil _ _
 .have h0:=r.fresh b 0 rfl;refine⟨rfl,.inr ⟨b,0,rfl,λi e hi=>⟨λj v hj=>?_⟩⟩,hcp⟩;have h1:=kY r.row.rows.len hi j v hj;rw[<-ht,List.getElem?_take]at h1;split at h1
  .unfold Br;rw[h0,hm];simp only[Nat.zero_add];rw[<-Array.getElem?_toList];exact h1
  .cases h1
theorem keep_other{m0:MH}(k:Kept m0 m cb):bB m0 (uR m0 m) cb:=⟨λb hb=>by
 unfold uR;cases e:m0 b with
 |none=>rfl
 |some o=>exact k b o e hb⟩
theorem TU{m0:MH}(c:aK m h cb)(h0:m0 cb≠none)(d:Ep m h):aK (uR m0 m) (Br m0 m h) cb:=c.keep (by
 unfold uR;cases e:m0 cb with
 |none=>exact(h0 e).elim
 |some o=>rfl) (M9 d)
def QA(d:Nat)(q:Query):Prop:=QW q/\KI d q
structure QM(d:Nat)(m0 m:MH)(h:PH)(v:QV)(vs:List QV):Prop where
 wher:∃w,dZ h w v.where_/\FV w
 cols:∃co:List Int,qS m0 m v.columns 3 1 (co.map eI)/\co.length<=1000
 on_:∃l,lI h v.on l
 group_:∃l,Ints h v.group l
 order_:∃l,iI h v.order l
 args_:qS m0 m v.args 38 21 (vs.map QV.enc)
 len_:vs.length<=2
 reps:∀v∈vs,∃q,cN h q v/\QA d q
theorem Og{d:Nat}{h:PH}:∀{vs:List QV},(∀v∈vs,∃q,cN h q v/\QA d q)->∃qs:List Query,qs.length=vs.length/\(∀q∈qs,QA d q)/\∀(i:Nat) q,qs[i]? =some q->∃v,vs[i]? =some v/\cN h q v
 |[],_=>⟨[],rfl,λq hq=>by simp at hq,λi q e=>by simp at e⟩
 |v::vs,h1=>by
  obtain⟨q,hq,hqw⟩:=h1 v (by simp);obtain⟨qs,e1,ew,e2⟩:=Og (vs:=vs) (λu hu=>h1 u (by simp[hu]));refine⟨q::qs,by simp[e1],λx hx=>by rcases List.mem_cons.1 hx with rfl|hx;exact hqw;exact ew x hx,λi x e=>?_⟩;cases i with
  |zero=>simp at e;subst e;exact⟨v,rfl,hq⟩
  |succ i=>simpa using e2 i x (by simpa using e)
theorem QM.ice{n:Nat}{m0:MH}{vs:List QV}(x:QM n m0 m h v vs)(d:Ep m h):∃q,cN (Br m0 m h) q v/\QW q/\xV (n+1) q:=by
 obtain⟨w,hw,hww⟩:=x.wher;obtain⟨co,hc,hcl⟩:=x.cols;obtain⟨on,ho⟩:=x.on_;obtain⟨gr,hg⟩:=x.group_;obtain⟨od,hod⟩:=x.order_;obtain⟨qs,e1,ew,e2⟩:=Og x.reps;have le:=M9 (m0:=m0) d;have hl:=x.len_;exact⟨_,nI.rep ⟨rfl,rfl,hw.mono le,⟨hc.ice,aC⟩,ho.mono le,hg.mono le,hod.mono le,rfl,⟨⟨vs,x.args_.ice,e1,λi q e=>let⟨v,k1,k2⟩:=e2 i q e;⟨v,k1,k2.mono le⟩⟩,aC⟩⟩,Qj.2 ⟨hww,λa ha=>(ew a ha).1⟩,xV.node (λa ha=>(ew a ha).2) aC⟩
theorem QM.on{n:Nat}{m0:MH}{vs:List QV}(x:QM n m0 m h v vs)(o:bB m m' cb)(c:aK m h cb)(le:PH.le h h'):QM n m0 m' h' v vs:=by
 obtain⟨w,hw,hww⟩:=x.wher;obtain⟨co,hc,hcl⟩:=x.cols;obtain⟨on,ho⟩:=x.on_;obtain⟨gr,hg⟩:=x.group_;obtain⟨od,hod⟩:=x.order_;exact⟨⟨w,hw.mono le,hww⟩,⟨co,hc.on o c (by decide),hcl⟩,⟨on,ho.mono le⟩,⟨gr,hg.mono le⟩,⟨od,hod.mono le⟩,x.args_.on o c (by decide),x.len_,λv hv=>let⟨q,e,ew⟩:=x.reps v hv;⟨q,e.mono le,ew⟩⟩
theorem QM.new{d:Nat}{m0:MH}{vs:List QV}{t:Sl}{E:TypeId}{ys:List (List Value)}(x:QM d m0 m h v vs)(n:mT m m' h' t E sz ys)(le:PH.le h h'):QM d m0 m' h' v vs:=by
 obtain⟨w,hw,hww⟩:=x.wher;obtain⟨co,hc,hcl⟩:=x.cols;obtain⟨on,ho⟩:=x.on_;obtain⟨gr,hg⟩:=x.group_;obtain⟨od,hod⟩:=x.order_;exact⟨⟨w,hw.mono le,hww⟩,⟨co,hc.new n,hcl⟩,⟨on,ho.mono le⟩,⟨gr,hg.mono le⟩,⟨od,hod.mono le⟩,x.args_.new n,x.len_,λv hv=>let⟨q,e,ew⟩:=x.reps v hv;⟨q,e.mono le,ew⟩⟩
theorem QM.grow{d:Nat}{m0:MH}{v':QV}{vs:List QV}{s':Sl}{u:QV}(x:QM d m0 m h v vs)(g:dY m m' v.args s' 38 21 (vs.map QV.enc++[u.enc]))(k:Kept m0 m cb)(c:aK m h cb)(hu:∃q,cN h q u/\QA d q)(hl:vs.length<=1)
 (ew:v'.where_=v.where_)(ec:v'.columns=v.columns)(eo:∃l,lI h v'.on l)(eg:∃l,Ints h v'.group l)(ed:∃l,iI h v'.order l)(ea:v'.args=s'):QM d m0 m' h v' (vs++[u]):=by
 obtain⟨co,hc,hcl⟩:=x.cols;refine⟨by rw[ew];exact x.wher,⟨co,by rw[ec];exact hc.apart x.args_ g (by decide),hcl⟩,eo,eg,ed,by rw[ea,List.map_append];exact x.args_.grown g k c,by simp;omega,λv hv=>?_⟩;rcases List.mem_append.1 hv with h1|h1
 .exact x.reps v h1
 .simp at h1;subst h1;exact hu
theorem Sv(h:eE s=0):BA s:=Classical.byContradiction λhn=>by rw[sV hn]at h;cases h
theorem sU(h:eE s=0):mW s:=λt ht=>by
 obtain⟨i,hi⟩:=List.mem_iff_getElem?.1 ht;have:=(Sv h).2 i t hi;exact this.1
theorem AF(h:eE s=0):s.tables.length<=8:=(Sv h).1
theorem D1(s:nS)(ps:List Int)(q:Query):(fG s ps q).1.length<=12:=by
 unfold fG;split
 .split
  .split
   .exact tH s ps q
   .simp[iR]
  .simp[iR]
 .simp[iR]
theorem MF{t:Int}(he:eE s=0)(hp:ps.all dM=true)(h0:0<=t)(h1:t<s.tables.length):(fG s ps (.mk 1 t gV [] [] [] [] 0 [])).2=0:=by
 have h8:=sU he
 have hk:(gT s t).length<=12:=by
  unfold gT;split
  .simp
  .split
   .simp
   .rename_i x hx;have:=h8 x (List.mem_of_getElem? hx);simp;omega
 have e1:bO s ps (.mk 1 t gV [] [] [] [] 0 [])=hZ s ps (.mk 1 t gV [] [] [] [] 0 []) [] []:=by simp[bO,eU,arity]
 have e2:kZ (.mk 1 t gV [] [] [] [] 0 [])=true:=by rfl
 unfold fG;rw[if_pos he,if_pos hp,if_pos e2,e1];unfold hZ;rw[if_neg (by simp[arity,dE])];simp only[if_true];rw[if_pos ⟨h0,h1⟩];unfold z7;rw[if_pos hk]
structure Zy(m0:MH)(h3:PH)(cb:Nat)(a q:QV)(mx:MH):Prop where
 case_:aK mx h3 cb
 kept:Kept m0 mx cb
 ex:∃o args,q=⟨o,0,fF,bM,bM,bM,bM,0,args⟩/\qS m0 mx args 38 21 ([a].map QV.enc)
theorem Zy.qm{d:Nat}{m0 mx:MH}{h3:PH}{a q:QV}(x:Zy m0 h3 cb a q mx)(hr:∃qa,cN h3 qa a/\QA d qa):QM d m0 mx h3 q [a]:=by
 obtain⟨o,args,rfl,hf⟩:=x.ex;exact⟨⟨_,wV h3,AJ⟩,⟨[],qS.nil _ _ _ _,by simp⟩,⟨_,oG _⟩,⟨_,gX _⟩,⟨_,qN _⟩,hf,by simp,λv hv=>by simp at hv;subst hv;exact hr⟩
theorem SY:∀N,Sound Tryz.prog 13 (R9 N)
 |0=>by
  refine eG (fn:=Tryz.f13) (c:=dJ Tryz.f13) Tryz.func13 rfl (by decide) ?_;rintro cvs m h K ⟨cb,sc,p,s,ps,deep,rfl,_,_,_,_,_,_,_,_,_,hN,_⟩;omega
 |N+1=>by
  refine iB Tryz.func13 ?_;rintro cvs m h K ⟨cb,sc,p,s,ps,deep,rfl,hc,hs,he,hne,hp,hpl,hpk,d0,d1,hN,hK⟩;refine⟨X9 N cb sc p,rfl,aD Gs (aD Ln (aD Lq (aD Um (aD Lp (aD Ul (aD Dq (aD (SY N) aF))))))),PC N cb sc p deep m h K,by kernel_rfl,?_⟩;have htl:=hs.tables.slen;have h8:=sU he;have ht8:=AF he;have htp:0<s.tables.length:=List.length_pos_iff.2 hne;have hif:(if(sc.tables.len:Int)>1 then(sc.tables.len:Int)else 1)=(sc.tables.len:Int):=by split<;>omega
  have hm0:m cb≠none:=by obtain⟨cs,e⟩:=hc.blk;rw[e];simp
  dsimp only[PC,push_cast];rw[hif];refine⟨cb,12,rfl,hc,λk m1 k0 k1 o1 c1=>?_⟩;refine aE (λhd=>?_) (λhd=>aB (λ_=>?_) (λ_=>aB (λ_=>?_) (λ_=>?_)))
  .exact⟨cb,_,rfl,c1,λk2 m2 k20 k21 o2 c2=>⟨k2,rfl,hK _ _ m2 h (.refl _) (Af h k2) (EG k2) (xV.mono (d:=0) nH.scan (Nat.zero_le _)) (MF he hpk k20 aC) (o1.trans o2) c2⟩⟩
  .exact⟨cb,_,rfl,c1,λk2 m2 k20 k21 o2 c2=>⟨k2,rfl,hK _ _ m2 h (.refl _) (Af h k2) (EG k2) (xV.mono (d:=0) nH.scan (Nat.zero_le _)) (MF he hpk k20 aC) (o1.trans o2) c2⟩⟩
  .exact⟨cb,_,rfl,c1,λk2 m2 k20 k21 o2 c2=>⟨k2,rfl,hK _ _ m2 h (.refl _) (Af h k2) (EG k2) (xV.mono (d:=0) nH.scan (Nat.zero_le _)) (MF he hpk k20 aC) (o1.trans o2) c2⟩⟩
  have hw1:IntKind.i64.wrap (deep-1)=deep-1:=eC aC aC;have hw2:IntKind.i64.wrap (deep-2)=deep-2:=eC aC aC;rw[hw1];refine⟨cb,sc,p,s,ps,deep-1,rfl,c1,hs,he,hne,hp,hpl,hpk,aC,aC,aC,λa qa m2 h2 le2 ra qaw0 qaf qa0 o2 c2=>⟨sc,p,a,s,ps,qa,rfl,hs.mono le2,hp.mono le2,ra,λkk h3 le3 ik=>?_⟩⟩;have hkl:=D1 s ps qa;obtain⟨dd,hdd⟩:∃dd,(deep-1).toNat=dd:=⟨_,rfl⟩
  have hde:deep.toNat=dd+1:=by omega
  rw[hdd]at qaf;have qaw:QA dd qa:=⟨qaw0,qaf.arg⟩
  generalize hks:(fG s ps qa).fst=ks at ik hkl;clear hks;have hle3:PH.le h h3:=le2.trans le3;have ra3:cN h3 qa a:=ra.mono le3;refine⟨λ⟨d,op,a',q,k',mx,hx⟩=>d=deep/\a'=a/\k'=kk/\hx=h3/\Zy m h3 cb a q mx,λs1 m3 hnew=>⟨(deep,IntKind.i64.wrap (1+k),a,⟨IntKind.i64.wrap (1+k),0,fF,bM,bM,bM,bM,0,s1⟩,kk,m3,h3),⟨rfl,rfl,rfl,rfl,?_⟩,MT⟩,?_⟩
  .have k2:=(Kept.of o1).on o2;have c3:=c2.mono le3;exact⟨c3.keep (mT.at_cb hnew c3) (.refl _),k2.new hnew,_,_,rfl,mT.frow hnew k2 c3⟩
  rintro⟨deep,op,a',q,k',mx,hx⟩ ⟨rfl,rfl,rfl,rfl,mid⟩;dsimp only;have reach:∀(q:QV)(vs:List QV)(my:MH)(hy:PH),PH.le hx hy->Kept m my cb->aK my hy cb->QM dd m my hy q vs->Ep my hy->PH.le hx (Br m my hy)/\bB m (uR m my) cb/\aK (uR m my) (Br m my hy) cb/\∃qq,cN (Br m my hy) qq q/\QW qq/\xV (dd+1) qq:=λq vs my hy l k c x d=>⟨l.trans (M9 d),keep_other k,TU c hm0 d,x.ice d⟩
  have join:∀(q:QV)(u:QV)(s1:Sl)(my:MH)(hy:PH)(Q:Sl->MH->Prop),PH.le hx hy->Kept m my cb->aK my hy cb->QM dd m my hy q [a']->qS m my s1 38 21 [u.enc]->(∃qu,cN hy qu u/\QA dd qu)->
   (∀s' m',(∀q':QV,q'.where_=q.where_->q'.columns=q.columns->(∃l,lI hy q'.on l)->(∃l,Ints hy q'.group l)->(∃l,iI hy q'.order l)->q'.args=s'->QM dd m m' hy q' [a',u])->Kept m m' cb->aK m' hy cb->Q s' m')->
   ∃xs,dC my ⟨q.args.a,q.args.len,q.args.cap⟩ 38 21 xs/\∃ys,dW 21 ys/\nR my hy ⟨s1.a,s1.len,s1.cap⟩ 21 ys/\(xs.length+ys.length)*280<=140737488355328/\xs.length+ys.length<=140737488355328/\∀(s':Sl)(m':MH),dY my m' ⟨q.args.a,q.args.len,q.args.cap⟩ s' 38 21 (xs++ys)->Q s' m':=
   λq u s1 my hy Q l k c x f hu hQ=>⟨_,x.args_.row,[u.enc],Vf [u],dC.src f.row,by simp,by simp,λs' m' g=>hQ s' m' (λq' e1 e2 e3 e4 e5 e6=>x.grow g k c hu (by simp) e1 e2 e3 e4 e5 e6) (k.grown x.args_ g) (c.keep (dY.at_cb g x.args_ c (by decide)) (.refl _))⟩
  refine⟨λ⟨a2,q,my,hy⟩=>a2=a'/\PH.le hx hy/\bB m my cb/\aK my hy cb/\∃qq,cN hy qq q/\QW qq/\xV (dd+1) qq,aB (λ_=>?_) (λ_=>?_),?_⟩
  ·
   refine⟨cb,3,rfl,mid.case_,λn m3 n0 n1 o3 c3=>?_⟩;refine⟨λ⟨a2,q,k2,n,my,hy⟩=>a2=a'/\k2=k'/\hy=hx/\ -1<=n/\n<=2/\aK my hx cb/\Kept m my cb/\QM dd m my hx q [a']/\∃co:List Int,qS m my q.columns 3 1 (co.map eI)/\(co.length:Int)<=2-n,λ⟨_,_,_,n,_,_⟩=>(n+1).toNat,⟨(a',q,k',n,m3,hx),⟨rfl,rfl,rfl,by show-1<=n;omega,by show n<=2;omega,c3,mid.kept.on o3,(mid.qm ⟨qa,ra3,qaw⟩).on o3 mid.case_ (.refl _),[],?_,by simp;omega⟩,MT⟩,?_⟩
   .obtain⟨o,args,rfl,hf⟩:=mid.ex;exact qS.nil _ _ _ _
   clear mid q c3 o3 m3 n0 n1 n;rintro⟨a2,q,k2,n,my,hy⟩ ⟨rfl,rfl,rfl,n0,n1,cy,ky,qm,co,fco,hcol⟩;dsimp only;refine aE (λhn=>⟨cb,_,rfl,cy,λc m4 _ _ o4 c4=>⟨_,(fco.on o4 cy (by decide)).row,by simp;omega,by simp;omega,λs' m5 g=>?_⟩⟩) (λhn d=>⟨(a2,q,uR m my,Br m my hy),⟨rfl,reach q _ my hy (.refl _) ky cy qm d⟩,FT⟩);have f4:=fco.on o4 cy (by decide);have q4:=qm.on o4 cy (.refl _);have k4:=ky.on o4;have f5:qS m m5 s' 3 1 ((co++[c]).map eI):=by rw[List.map_append];exact f4.grown g k4 c4
   have hw3:IntKind.i64.wrap (n-1)=n-1:=eC aC aC;rw[hw3];refine⟨(a2,{q with columns:=s'},k2,n-1,m5,hy),⟨rfl,rfl,rfl,by show-1<=n-1;omega,by show n-1<=2;omega,c4.keep (dY.at_cb g f4 c4 (by decide)) (.refl _),k4.grown f4 g,⟨q4.wher,⟨_,f5,by simp;omega⟩,q4.on_,q4.group_,q4.order_,q4.args_.apart f4 g (by decide),q4.len_,q4.reps⟩,_,f5,by simp;omega⟩,by show(n-1+1).toNat<(n+1).toNat;omega,MT⟩
  .refine⟨λ⟨d,op,a2,q,k2,t,my,hy⟩=>d=deep/\a2=a'/\k2=k'/\hy=hx/\Zy m hx cb a' q my,aB (λ_=>⟨(deep,op,a',q,k',true,mx,hx),⟨rfl,rfl,rfl,rfl,mid⟩,MT⟩) (λ_=>⟨(deep,op,a',q,k',op==5,mx,hx),⟨rfl,rfl,rfl,rfl,mid⟩,MT⟩),?_⟩;clear mid q mx;rintro⟨deep,op,a',q,k',t,mx,hx⟩ ⟨rfl,rfl,rfl,rfl,mid⟩;dsimp only;refine aB (λ_=>?_) (λ_=>?_)
   ·
    rw[hw2];refine⟨cb,sc,p,s,ps,deep-2,rfl,mid.case_,hs.mono hle3,he,hne,hp.mono hle3,hpl,hpk,by show-1<=deep-2;omega,aC,aC,λb qb m5 h5 le5 rb qbw0 qbf _ o5 c5=>⟨sc,p,b,s,ps,qb,rfl,hs.mono (hle3.trans le5),hp.mono (hle3.trans le5),rb,λl h6 le6 il=>?_⟩⟩;have qbw:QA dd qb:=⟨qbw0,(qbf.mono aC).arg⟩
    have hll:=D1 s ps qb;generalize hls:(fG s ps qb).fst=ls at il hll;have q6:QM dd m m5 h6 q [a']:=(mid.qm ⟨qa,ra3,qaw⟩).on o5 mid.case_ (le5.trans le6);have k6:=mid.kept.on o5;have c6:=c5.mono le6;refine⟨λ⟨a2,b2,q,k2,l2,my,hy⟩=>a2=a'/\b2=b/\k2=k'/\l2=l/\hy=h6/\aK my h6 cb/\Kept m my cb/\QM dd m my h6 q [a'],aB (λ_=>aE (λ_=>⟨(a',b,{q with op:=5},k',l,m5,h6),⟨rfl,rfl,rfl,rfl,rfl,c6,k6,⟨q6.wher,q6.cols,q6.on_,q6.group_,q6.order_,q6.args_,q6.len_,q6.reps⟩⟩,MT⟩) (λ_=>⟨(a',b,q,k',l,m5,h6),⟨rfl,rfl,rfl,rfl,rfl,c6,k6,q6⟩,MT⟩)) (λ_=>⟨(a',b,q,k',l,m5,h6),⟨rfl,rfl,rfl,rfl,rfl,c6,k6,q6⟩,MT⟩),?_⟩;have rb6:=rb.mono le6;have hx6:PH.le hx h6:=le5.trans le6;clear q6 k6 c6 o5 c5 rb le5 mid q;rintro⟨a2,b,q,k2,l,my,h6⟩ ⟨rfl,rfl,rfl,rfl,rfl,c6,k6,q6⟩;dsimp only;refine⟨⟨cb,k2,l,ks,ls,rfl,c6,ik.mono hx6,il,aC,aC,λo on m7 h7 le7 hon _ o7 c7 s1 m8 hnew=>?_⟩,λs1 m7 hnew=>⟨cb,k2,l,ks,ls,rfl,c6.keep (mT.at_cb hnew c6) (.refl _),ik.mono hx6,il,aC,aC,λo on m8 h7 le7 hon _ o8 c8=>?_⟩⟩
    .have k7:=k6.on o7;refine join q b s1 m8 h7 _ (hx6.trans le7) (k7.new hnew) (c7.keep (mT.at_cb hnew c7) (.refl _)) ((q6.on o7 c6 le7).new hnew (.refl _)) (mT.frow hnew k7 c7) ⟨qb,rb6.mono le7,qbw⟩ (λs' m9 hq k9 c9 d=>?_);exact⟨(a2,{q with on:=o,args:=s'},uR m m9,Br m m9 h7),⟨rfl,reach _ _ m9 h7 (hx6.trans le7) k9 c9 (hq {q with on:=o,args:=s'} rfl rfl ⟨on,hon⟩ (let⟨l,e⟩:=q6.group_;⟨l,e.mono le7⟩) (let⟨l,e⟩:=q6.order_;⟨l,e.mono le7⟩) rfl) d⟩,FT⟩
    .have k7:=k6.new hnew;have c7:aK m7 h6 cb:=c6.keep (mT.at_cb hnew c6) (.refl _);have k8:=k7.on o8;refine join q b s1 m8 h7 _ (hx6.trans le7) k8 c8 ((q6.new hnew (.refl _)).on o8 c7 le7) ((mT.frow hnew k6 c6).on o8 c7 (by decide)) ⟨qb,rb6.mono le7,qbw⟩ (λs' m9 hq k9 c9 d=>?_);exact⟨(a2,{q with on:=o,args:=s'},uR m m9,Br m m9 h7),⟨rfl,reach _ _ m9 h7 (hx6.trans le7) k9 c9 (hq {q with on:=o,args:=s'} rfl rfl ⟨on,hon⟩ (let⟨l,e⟩:=q6.group_;⟨l,e.mono le7⟩) (let⟨l,e⟩:=q6.order_;⟨l,e.mono le7⟩) rfl) d⟩,FT⟩
   .refine⟨λ⟨op,a2,q,k2,t,my,hy⟩=>a2=a'/\k2=k'/\hy=hx/\Zy m hx cb a' q my,aB (λ_=>⟨(op,a',q,k',true,mx,hx),⟨rfl,rfl,rfl,mid⟩,MT⟩) (λ_=>aB (λ_=>⟨(op,a',q,k',true,mx,hx),⟨rfl,rfl,rfl,mid⟩,MT⟩) (λ_=>⟨(op,a',q,k',op==8,mx,hx),⟨rfl,rfl,rfl,mid⟩,MT⟩)),?_⟩;clear mid q mx;rintro⟨op,a',q,k',t,mx,hx⟩ ⟨rfl,rfl,rfl,mid⟩;dsimp only;have q3:=mid.qm ⟨qa,ra3,qaw⟩;refine aB (λ_=>?_) (λ_=>aB (λ_=>?_) (λ_=>aB (λ_=>?_) (λ_=>?_)))
    ·
     refine⟨cb,sc,p,k',a',s,ps,ks,qa,rfl,mid.case_,hs.mono hle3,h8,aC,hp.mono hle3,hpl,ik,aC,ra3,qaw.1,λw qw m5 h5 le5 rw5 qww o5 c5 s1 m6 hnew=>?_⟩;have k5:=mid.kept.on o5;refine join q w s1 m6 h5 _ le5 (k5.new hnew) (c5.keep (mT.at_cb hnew c5) (.refl _)) ((q3.on o5 mid.case_ le5).new hnew (.refl _)) (mT.frow hnew k5 c5) ⟨qw,rw5,qww.qw,qww.siz dd qaf⟩ (λs' m9 hq k9 c9 d=>?_);have q5:=q3.on o5 mid.case_ le5;exact⟨(a',{q with args:=s'},uR m m9,Br m m9 h5),⟨rfl,reach _ _ m9 h5 le5 k9 c9 (hq {q with args:=s'} rfl rfl q5.on_ q5.group_ q5.order_ rfl) d⟩,FT⟩
    ·
     obtain⟨o,args,rfl,hf⟩:=mid.ex;refine⟨cb,⟨o,0,fF,bM,bM,bM,bM,0,args⟩,k',ks,rfl,mid.case_,ik,aC,λg od kk gr odl m5 h5 le5 hg hod _ _ _ _ o5 c5 d=>?_⟩;have q5:=q3.on o5 mid.case_ le5;exact⟨(a',⟨o,0,fF,bM,bM,g,od,kk,args⟩,uR m m5,Br m m5 h5),⟨rfl,reach _ [a'] m5 h5 le5 (mid.kept.on o5) c5 ⟨q5.wher,q5.cols,q5.on_,⟨gr,hg⟩,⟨odl,hod⟩,q5.args_,q5.len_,q5.reps⟩ d⟩,FT⟩
    ·
     obtain⟨o,args,rfl,hf⟩:=mid.ex;refine⟨cb,⟨o,0,fF,bM,bM,bM,bM,0,args⟩,k',ks,rfl,mid.case_,ik,aC,λg od kk gr odl m5 h5 le5 hg hod _ _ _ _ o5 c5=>?_⟩;have q5:=q3.on o5 mid.case_ le5;have q5':QM dd m m5 h5 ⟨o,0,fF,bM,bM,g,od,kk,args⟩ [a']:=⟨q5.wher,q5.cols,q5.on_,⟨gr,hg⟩,⟨odl,hod⟩,q5.args_,q5.len_,q5.reps⟩
     refine⟨cb,sc,p,k',a',s,ps,ks,qa,rfl,c5,hs.mono (hle3.trans le5),h8,aC,hp.mono (hle3.trans le5),hpl,ik.mono le5,aC,ra3.mono le5,qaw.1,λw qw m6 h6 le6 rw6 qww o6 c6 s1 m7 hnew=>?_⟩;have k6:=(mid.kept.on o5).on o6;refine join ⟨o,0,fF,bM,bM,g,od,kk,args⟩ w s1 m7 h6 _ (le5.trans le6) (k6.new hnew) (c6.keep (mT.at_cb hnew c6) (.refl _)) ((q5'.on o6 c5 le6).new hnew (.refl _)) (mT.frow hnew k6 c6) ⟨qw,rw6,qww.qw,qww.siz dd qaf⟩ (λs' m9 hq k9 c9 d=>?_);exact⟨(a',⟨o,0,fF,bM,bM,g,od,kk,s'⟩,uR m m9,Br m m9 h6),⟨rfl,reach _ _ m9 h6 (le5.trans le6) k9 c9 (hq ⟨o,0,fF,bM,bM,g,od,kk,s'⟩ rfl rfl ⟨_,oG _⟩ ⟨gr,hg.mono le6⟩ ⟨odl,hod.mono le6⟩ rfl) d⟩,FT⟩
    ·
     refine⟨⟨cb,k',p,ks,ps,2,rfl,mid.case_,ik,hp.mono hle3,aC,hpl,aC,λpv pp m5 h5 le5 rp rpw o5 c5 s1 m6 hnew d=>?_⟩,λs1 m5 hnew=>⟨cb,k',p,ks,ps,2,rfl,mid.case_.keep (mT.at_cb hnew mid.case_) (.refl _),ik,hp.mono hle3,aC,hpl,aC,λpv pp m6 h5 le5 rp rpw o6 c6 d=>?_⟩⟩
     .have k5:=mid.kept.on o5;exact⟨(a',⟨2,0,pv,bM,bM,bM,bM,0,s1⟩,uR m m6,Br m m6 h5),⟨rfl,reach _ [a'] m6 h5 le5 (k5.new hnew) (c5.keep (mT.at_cb hnew c5) (.refl _)) ⟨⟨pp,rp,rpw.vals⟩,⟨[],qS.nil _ _ _ _,by simp⟩,⟨_,oG _⟩,⟨_,gX _⟩,⟨_,qN _⟩,mT.frow hnew k5 c5,by simp,λv hv=>by simp at hv;subst hv;exact⟨qa,ra3.mono le5,qaw⟩⟩ d⟩,FT⟩
     .have k5:=mid.kept.new hnew;have c5:aK m5 hx cb:=mid.case_.keep (mT.at_cb hnew mid.case_) (.refl _);exact⟨(a',⟨2,0,pv,bM,bM,bM,bM,0,s1⟩,uR m m6,Br m m6 h5),⟨rfl,reach _ [a'] m6 h5 le5 (k5.on o6) c6 ⟨⟨pp,rp,rpw.vals⟩,⟨[],qS.nil _ _ _ _,by simp⟩,⟨_,oG _⟩,⟨_,gX _⟩,⟨_,qN _⟩,(mT.frow hnew mid.kept mid.case_).on o6 c5 (by decide),by simp,λv hv=>by simp at hv;subst hv;exact⟨qa,ra3.mono le5,qaw⟩⟩ d⟩,FT⟩
  .rintro⟨a2,q,my,hy⟩ ⟨rfl,ley,oy,cy,qq,rq,rqw,rqf⟩;dsimp only;refine⟨sc,p,q,s,ps,qq,rfl,hs.mono (hle3.trans ley),hp.mono (hle3.trans ley),rq,λsl h5 le5 _=>aB (λe=>?_) (λe=>?_)⟩
   .exact hK a2 qa my h5 ((hle3.trans ley).trans le5) ((ra3.mono ley).mono le5) qaw.1 (by rw[hde];exact qaf.mono aC) qa0 oy (cy.mono le5)
   .exact hK q qq my h5 ((hle3.trans ley).trans le5) (rq.mono le5) rqw (by rw[hde];exact rqf) (by simpa using e) oy (cy.mono le5)
mutual
def oY(st:List (List (List VV))):Query->List (List VV)
 |.mk op ta w co on gr od li args=>if op=1 then st.getD ta.toNat []else Y0 op (.mk op ta w co on gr od li args) (N9 st args)
def N9(st:List (List (List VV))):List Query->List (List (List VV))
 |[]=>[]
 |q::qs=>oY st q::N9 st qs
end
structure CF(st ls:List (List (List VV)))(k:Nat)(ts:List Int):Prop where
 at_:∀(j:Nat)(t:Int),ts[j]? =some t->ls.getD (k+j) []=st.getD t.toNat []
theorem CF.left{st ls:List (List (List VV))}{b:List Int}(x:CF st ls k (a++b)):CF st ls k a:=
 ⟨λj t h=>x.at_ j t (by rw[List.getElem?_append_left (List.getElem?_eq_some_iff.1 h).1];exact h)⟩
theorem CF.right{st ls:List (List (List VV))}{b:List Int}(x:CF st ls k (a++b)):CF st ls (k+a.length) b:=
 ⟨λj t h=>by
  have:=x.at_ (a.length+j) t (by rw[List.getElem?_append_right aC,Nat.add_sub_cancel_left];exact h)
  rwa [show k+a.length+j=k+(a.length+j)by omega]⟩
theorem TK{args:List Query}{kss:List (List Int)}(h1:eU s ps args=(kss,0))(h2:(kss.length:Int)=arity 1):args=[]:=by
 cases args with
 |nil=>rfl
 |cons q qs=>obtain⟨_,_,_,_,rfl⟩:=jQ h1;simp[arity]at h2;omega
mutual
theorem L8{s:nS}{ps:List Int}{st ls:List (List (List VV))}:∀{q:Query}{ks:List Int}{k:Nat},bO s ps q=(ks,0)->CF st ls k (i7 q)->i6 ls q k=(oY st q,k+(i7 q).length)
 |.mk op ta w co on gr od li args,ks,k,h,hl=>by
  obtain⟨kss,h1,h2,h3⟩:=xP h;by_cases e:op=1
  .subst e;have h0:=TK h1 h2;subst h0;have hs:i7 (.mk 1 ta w co on gr od li [])=[ta]:=by simp[i7,gZ]
   rw[hs]at hl⊢
   have:=hl.at_ 0 ta rfl;rw[Nat.add_zero]at this;rw[i6,oY,if_pos rfl,if_pos rfl,this];rfl
  .have hs:i7 (.mk op ta w co on gr od li args)=gZ args:=by simp[i7,e]
   rw[hs]at hl⊢
   rw[i6,oY,if_neg e,if_neg e,J6 h1 hl]
theorem J6{s:nS}{ps:List Int}{st ls:List (List (List VV))}:∀{qs:List Query}{kss:List (List Int)}{k:Nat},eU s ps qs=(kss,0)->CF st ls k (gZ qs)->eK ls qs k=(N9 st qs,k+(gZ qs).length)
 |[],kss,k,h,_=>by simp[eK,N9,gZ]
 |q::qs,kss,k,h,hl=>by
  obtain⟨k1,kss',h1,h2,rfl⟩:=jQ h;rw[gZ]at hl;rw[eK,N9,gZ,L8 h1 hl.left,J6 h2 hl.right,List.length_append,Nat.add_assoc]
end
mutual
theorem IY{s:nS}{ps:List Int}:∀{q:Query}{ks:List Int},bO s ps q=(ks,0)->∀t∈i7 q,0<=t/\t<s.tables.length
 |.mk op ta w co on gr od li args,ks,h,t,ht=>by
  obtain⟨kss,h1,h2,h3⟩:=xP h;rw[i7]at ht;rcases List.mem_append.1 ht with h5|h5
  .split at h5
   .rename_i e;subst e;simp only[List.mem_singleton]at h5;subst h5;unfold hZ at h3;dsimp only at h3;split at h3
    .simp[iR]at h3
    try rw[if_pos rfl]at h3
    split at h3
    .rename_i h4;exact h4
    .simp[iR]at h3
   .simp at h5
  .exact KO h1 t h5
theorem KO{s:nS}{ps:List Int}:∀{qs:List Query}{kss:List (List Int)},eU s ps qs=(kss,0)->∀t∈gZ qs,0<=t/\t<s.tables.length
 |[],kss,h,t,ht=>by rw[gZ]at ht;simp at ht
 |q::qs,kss,h,t,ht=>by
  obtain⟨k1,kss',h1,h2,rfl⟩:=jQ h;rw[gZ]at ht;rcases List.mem_append.1 ht with ht|ht
  .exact IY h1 t ht
  .exact KO h2 t ht
end
def wT(key:Int)(k:Int)(i:Nat)(v:VV):Bool:=jL v&&(v.kind==k||((v.kind==2||v.kind==1)&&decide (key<=(i:Int))))
def Ct(t:uX)(r:List VV):Bool:=decide (r.length=t.columns.length)&&(List.range r.length).all λi=>wT t.key (t.columns.getD i ⟨⟨#[]⟩,0⟩).kind i (r.getD i zeroV)
def jK(t:uX)(r:List VV):List VV:=r.take (max 0 (min t.key r.length)).toNat
def Sm(t:uX)(l:List (List VV)):Prop:=(∀r∈l,Ct t r=true)/\∀(i:Nat) r r',l[i]? =some r->l[i+1]? =some r'->dR (jK t r) (jK t r')<0
def IS(s:nS)(st:List (List (List VV))):Prop:=∀(i:Nat) t l,s.tables[i]? =some t->st[i]? =some l->Sm t l
open Classical in
noncomputable def sN(s:nS)(st:List (List (List VV))):Int:=
 if eE s≠0 then eE s else if 512<(st.map λl=>(l.length:Int)).sum then 2 else if st.length≠s.tables.length then 80 else if IS s st then 0 else 80
def Zt(st:List (List (List VV))):Prop:=∀l∈st,∀r∈l,∀v∈r,NG v.kind/\NG v.int
def xE(t:uX)(key row:List VV):Bool->List (List VV)->List (List VV)
 |d,[]=>if d then[]else[row]
 |d,r::l=>(if 0<=dR (jK t r) key/\d=false then[row]else[])++((if dR (jK t r) key≠0 then[r]else[])++xE t key row (d||decide (0<=dR (jK t r) key)) l)
def KH(t:uX)(l:List (List VV)):Prop:=l.Pairwise λx y=>dR (jK t x) (jK t y)<0
theorem Nk{x y z:List VV}(h1:dR x y<0)(h2:dR y z<0):dR x z<0:=by
 have:=xR x y z aC aC;rcases Int.lt_or_eq_of_le this with h|h
 .exact h
 .rw[kR]at h;subst h;have:=kS x y;omega
theorem I9{t:uX}{key row:List VV}:∀{l:List (List VV)},(∀r∈l,0<dR (jK t r) key)->xE t key row true l=l
 |[],_=>rfl
 |r::l,h=>by
  have h1:=h r (List.mem_cons_self ..);rw[xE,if_neg (by simp),if_pos aC,Bool.true_or,I9 λx hx=>h x (List.mem_cons_of_mem _ hx)];rfl
theorem HX{t:uX}{key row z:List VV}:∀{l:List (List VV)}{d:Bool},z∈xE t key row d l->z=row\/z∈l
 |[],d,h=>by
  rw[xE]at h;split at h
  .simp at h
  .simp at h;exact .inl h
 |r::l,d,h=>by
  rw[xE]at h;rcases List.mem_append.1 h with h|h
  .split at h
   .simp at h;exact .inl h
   .simp at h
  .rcases List.mem_append.1 h with h|h
   .split at h
    .simp at h;exact .inr (by simp[h])
    .simp at h
   .exact(HX h).imp id λh=>List.mem_cons_of_mem _ h
theorem HY{t:uX}{key row:List VV}:∀{l:List (List VV)}{d:Bool},(xE t key row d l).length<=l.length+(if d then 0 else 1)
 |[],d=>by rw[xE];cases d<;>simp
 |r::l,d=>by
  have:=HY (t:=t) (key:=key) (row:=row) (l:=l) (d:=d||decide (0<=dR (jK t r) key));rw[xE];simp only[List.length_append,List.length_cons];by_cases h:0<=dR (jK t r) key
  .cases d<;>by_cases h2:dR (jK t r) key=0<;>simp[h,h2]at this⊢ <;>omega
  .cases d<;>by_cases h2:dR (jK t r) key=0<;>simp[h,h2]at this⊢ <;>omega
theorem Ja{t:uX}{row:List VV}:∀{l:List (List VV)},KH t l->KH t (xE t (jK t row) row false l)
 |[],_=>by rw[xE];exact List.pairwise_singleton _ _
 |r::l,h=>by
  obtain⟨h1,h2⟩:=List.pairwise_cons.1 h;rw[xE];by_cases h3:0<=dR (jK t r) (jK t row)
  .rw[if_pos ⟨h3,rfl⟩,show(false||decide (0<=dR (jK t r) (jK t row)))=true by simp[h3]];by_cases h4:dR (jK t r) (jK t row)=0
   .rw[if_neg (by simp[h4])];have e:=kR.1 h4
    rw[I9 λx hx=>by
     have h5:=h1 x hx;rw[e]at h5;have:=kS (jK t x) (jK t row);omega]
    exact List.pairwise_cons.2 ⟨λx hx=>by rw[<-e];exact h1 x hx,h2⟩
   .rw[if_pos h4];have h5:dR (jK t row) (jK t r)<0:=by have:=kS (jK t row) (jK t r);omega
    rw[I9 λx hx=>by
     have h6:=Nk h5 (h1 x hx);have:=kS (jK t x) (jK t row);omega]
    refine List.pairwise_cons.2 ⟨λx hx=>?_,h⟩;rcases List.mem_cons.1 hx with rfl|hx
    .exact h5
    .exact Nk h5 (h1 x hx)
  .rw[if_neg (by simp[h3]),if_pos aC,show(false||decide (0<=dR (jK t r) (jK t row)))=false by simp[h3]];refine List.pairwise_cons.2 ⟨λx hx=>?_,Ja h2⟩;rcases HX hx with rfl|hx
   .omega
   .exact h1 x hx
theorem N4{st:List (List (List VV))}(h:sN s st=0):eE s=0/\st.length=s.tables.length/\IS s st/\(st.map λl=>(l.length:Int)).sum<=512:=by
 unfold sN at h;split at h
 .rename_i h1;exact absurd h h1
 .rename_i h1;split at h
  .simp at h
  .rename_i h2;split at h
   .simp at h
   .rename_i h3;split at h
    .rename_i h4;exact⟨Classical.not_not.1 h1,Classical.not_not.1 h3,h4,aC⟩
    .simp at h
theorem Vr{t:uX}{x y:List VV}(h:x.length=y.length):(jK t x).length=(jK t y).length:=by simp[jK,h]
theorem Wm{t:uX}{x y:List VV}(h:x.length=y.length)(hk:dR (jK t x) (jK t y)<0):dR x y<0:=by
 have h1:x=jK t x++x.drop (max 0 (min t.key x.length)).toNat:=(List.take_append_drop _ _).symm;have h2:y=jK t y++y.drop (max 0 (min t.key y.length)).toNat:=(List.take_append_drop _ _).symm;rw[h1,h2,FQ (Vr h),if_pos aC];exact hk
theorem KH.of{t:uX}:∀{l:List (List VV)},(∀(i:Nat) r r',l[i]? =some r->l[i+1]? =some r'->dR (jK t r) (jK t r')<0)->KH t l
 |[],_=>List.Pairwise.nil
 |[_],_=>List.pairwise_singleton _ _
 |a::b::l,h=>by
  have h1:KH t (b::l):=KH.of λi r r' e1 e2=>h (i+1) r r' e1 e2;refine List.pairwise_cons.2 ⟨λx hx=>?_,h1⟩;have h0:=h 0 a b rfl rfl;rcases List.mem_cons.1 hx with rfl|hx
  .exact h0
  .exact Nk h0 ((List.pairwise_cons.1 h1).1 x hx)
theorem KH.adj{t:uX}{l:List (List VV)}(h:KH t l)(i:Nat)(r r':List VV)(e1:l[i]? =some r)(e2:l[i+1]? =some r'):dR (jK t r) (jK t r')<0:=by
 obtain⟨h1,rfl⟩:=List.getElem?_eq_some_iff.1 e1;obtain⟨h2,rfl⟩:=List.getElem?_eq_some_iff.1 e2;exact List.pairwise_iff_getElem.1 h i (i+1) h1 h2 aC
theorem U6{t:ByteArray}(h:t.toList=(⟨#[]⟩:ByteArray).toList):t.size<=64:=by rw[w8 h];decide
theorem D4{t:ByteArray}(h:B8 t=true):t.size<=64:=U6 (by simp only[B8,beq_iff_eq]at h;rw[h,ByteArray.toList_eq])
theorem NU{v:VV}(h:jL v=true):v.text.size<=64:=by
 unfold jL at h;split at h
 .simp only[Bool.and_eq_true]at h;exact D4 h.2
 .split at h
  .simp only[Bool.and_eq_true]at h;exact D4 h.2
  .split at h
   .exact D4 h
   .split at h
    .simp at h;omega
    .cases h
theorem Hk(h:(fG s ps q).2=0):eE s=0/\ps.all dM=true/\kZ q=true/\(bO s ps q).2=0:=by
 unfold fG at h;split at h
 .rename_i h1;split at h
  .rename_i h2;split at h
   .rename_i h3;exact⟨h1,h2,h3,h⟩
   .simp[iR]at h
  .simp[iR]at h
 .rename_i h1;simp[iR]at h;exact(h1 h).elim
theorem Hc{v:VV}(h:jL v=true):1<=v.kind/\v.kind<=5/\v.text.size<=64:=by
 refine⟨?_,?_,NU h⟩
 all_goals
  unfold jL at h;split at h
  .rename_i e;simp at e;omega
  .split at h
   .rename_i e;simp at e;omega
   .split at h
    .rename_i e;simp at e;omega
    .split at h
     .rename_i e;simp at e;omega
     .cases h
theorem Nb{t:uX}{r:List VV}(h:Ct t r=true):r.length=t.columns.length/\∀v∈r,jL v=true:=by
 simp only[Ct,Bool.and_eq_true,decide_eq_true_eq,List.all_eq_true,List.mem_range]at h;refine⟨h.1,λv hv=>?_⟩;obtain⟨i,hi,rfl⟩:=List.mem_iff_getElem.1 hv;have h2:=h.2 i hi;simp only[wT,Bool.and_eq_true,List.getD_eq_getElem?_getD,List.getElem?_eq_getElem hi,Option.getD_some]at h2;exact h2.1
theorem WV{t:uX}{l:List (List VV)}(h8:t.columns.length<=12)(hok:Sm t l)(hv:∀r∈l,∀v∈r,NG v.kind/\NG v.int)(hl:l.length<=1000000):iH t.columns.length l:=by
 have hw:∀r∈l,r.length=t.columns.length:=λr hr=>(Nb (hok.1 r hr)).1;refine⟨λr hr=>⟨by rw[hw r hr];exact h8,λv hx=>?_⟩,hw,?_,hl⟩
 .have h1:=(Nb (hok.1 r hr)).2 v hx;have h2:=hv r hr v hx;exact⟨h2.1,h2.2,(Hc h1).2.2⟩
 .exact(KH.of hok.2).imp_of_mem fun{x y} hx hy h=>Wm (by rw[hw x hx,hw y hy]) h
def sF(st:List (List (List VV)))(q:Query):List (List (List VV)):=(i7 q).map λt=>st.getD t.toNat []
theorem YT{st:List (List (List VV))}{t:Int}(hst:sN s st=0)(hv:Zt st)(h0:0<=t)(h1:t<s.tables.length):iH (gT s t).length (st.getD t.toNat [])/\st.getD t.toNat []∈st:=by
 obtain⟨h2,h3,h4,h5⟩:=N4 hst;have ht:t.toNat<s.tables.length:=by omega
 have hl:t.toNat<st.length:=by omega
 have e1:s.tables[t.toNat]? =some s.tables[t.toNat]:=List.getElem?_eq_getElem ht;have e2:st[t.toNat]? =some st[t.toNat]:=List.getElem?_eq_getElem hl;have e3:st.getD t.toNat []=st[t.toNat]:=by rw[List.getD_eq_getElem?_getD,e2];rfl
 have hm:st[t.toNat]∈st:=List.getElem_mem hl;have h8:=sU h2 _ (List.getElem_mem ht);have hk:(gT s t).length=s.tables[t.toNat].columns.length:=by rw[gT,if_neg aC,e1];simp
 have hle:∀{l:List (List (List VV))}{x},x∈l->((x.length:Nat):Int)<=(l.map λl=>(l.length:Int)).sum:=fun{l x}=>by
  induction l with
  |nil=>intro h;simp at h
  |cons a l ih=>
   intro h
   have h0:∀l:List (List (List VV)),0<=(l.map λl=>(l.length:Int)).sum:=λl=>by
    induction l with
    |nil=>simp
    |cons a l ih=>simp only[List.map_cons,List.sum_cons];omega
   simp only[List.map_cons,List.sum_cons];rcases List.mem_cons.1 h with rfl|h
   .have:=h0 l;omega
   .have:=ih h;omega
 have:=hle hm;rw[e3,hk];exact⟨WV aC (h4 _ _ _ e1 e2) (hv _ hm) aC,hm⟩
theorem Va{st:List (List (List VV))}{ks:List Int}{c:Nat}(hst:sN s st=0)(hv:Zt st)(hc:∀l∈st,l.length<=c)(h1:1<=c)(hq:bO s ps q=(ks,0))(hb:lZ c q<=1000000):
 TO (sF st q) q 0/\(i6 (sF st q) q 0).1=oY st q/\iH ks.length (oY st q)/\(oY st q).length<=1000000:=by
 have e1:∀(j:Nat)(t:Int),(i7 q)[j]? =some t->(sF st q)[0+j]? =some (st.getD t.toNat []):=λj t h=>by rw[Nat.zero_add,sF,List.getElem?_map,h];rfl
 have x:=PK h1 (ls:=sF st q) (k:=0) hq ⟨λj t h=>⟨_,e1 j t h,by
  have ht:=IY hq t (List.mem_of_getElem? h);have:=YT hst hv ht.1 ht.2;exact⟨this.1,hc _ this.2⟩⟩⟩ hb
 have y:=L8 (st:=st) (ls:=sF st q) (k:=0) hq ⟨λj t h=>by rw[List.getD_eq_getElem?_getD,e1 j t h];rfl⟩;have e2:(i6 (sF st q) q 0).1=oY st q:=by rw[y]
 refine⟨x.ok,e2,by rw[<-e2];exact x.rel,?_⟩;rw[<-e2];exact Nat.le_trans x.bnd hb
def Ze(s:Sl):CV:=.val (.agg ⟨[.slice s.a s.len s.cap]⟩)
def YF:Vc.Spec:=λcvs m h K=>∃v s,cvs=[aS v,cI 3]/\fV h s v/\K (cI (eE s)) m h
def sJ(st:List (List (List VV))):Int:=(st.map λl=>(l.length:Int)).sum
def Tu:Vc.Spec:=λcvs m h K=>∃s st,cvs=[Ze s]/\Leaves h s st/\st.length<=1000/\K (cI (sJ st)) m h
def T2(s:nS)(t:Int)(r:List VV):Bool:=tI s t&&(match s.tables[t.toNat]? with|some tb=>Ct tb r|none=>false)
def Fs(s:nS)(t:Int)(r:List VV):List VV:=match(if tI s t then s.tables[t.toNat]? else none)with|some tb=>jK tb r|none=>[]
def YH:Vc.Spec:=λcvs m h K=>∃v s t sl r,cvs=[aS v,cI t,cS sl,cI 3]/\fV h s v/\cF h sl r/\K (cB (T2 s t r)) m h
def Tj:Vc.Spec:=λcvs m h K=>∃v s t sl r,cvs=[aS v,cI t,cS sl]/\fV h s v/\cF h sl r/\∀s',cF h s' (Fs s t r)->K (cS s') m h
def HK:Vc.Spec:=λcvs m h K=>∃v s sl st,cvs=[aS v,cI 3,Ze sl]/\fV h s v/\Leaves h sl st/\st.length<=1000/\K (cI (sN s st)) m h
noncomputable def Xw:Ctx:=dL [(104,Zg),(105,Kf)] [(7,{A:=Nat×bR×Sl×MH×PH,st:=λ⟨i,t,s,m,h⟩=>cD 95 99 [(3,iv 3),(9,.at (.ptr 9 0)),(41,sv s),(42,iv s.len),(43,iv i)] [(9,.cells 86 (t.enc.map .val))] m h})]
 [(12,{A:=Nat×bR×VV×Sl×Bool×MH×PH,st:=λ⟨i,t,v,s,b,m,h⟩=>cD 95 99 [(3,iv 3),(9,.at (.ptr 9 0)),(10,iv i),(11,.at (.ptr 11 0)),(12,bv b),(41,sv s),(42,iv s.len),(43,iv i)] [(9,.cells 86 (t.enc.map .val)),(11,.cells 27 (v.enc.map .val))] m h}),
  (13,{A:=Nat×bR×VV×Sl×Bool×Bool×MH×PH,st:=λ⟨i,t,v,s,b,c,m,h⟩=>cD 95 99 [(3,iv 3),(9,.at (.ptr 9 0)),(10,iv i),(11,.at (.ptr 11 0)),(12,bv b),(13,bv c),(41,sv s),(42,iv s.len),(43,iv i)] [(9,.cells 86 (t.enc.map .val)),(11,.cells 27 (v.enc.map .val))] m h})] [] false
noncomputable def Xx(s:Sl)(m:MH)(h:PH):Ctx:=dL [] [(3,{A:=Nat×Int,st:=λ⟨i,n⟩=>cD 19 20 [(3,iv n),(7,sv s),(8,iv s.len),(9,iv i)] [] m h})] [] [] false
noncomputable def f56_ctx(v:bJ)(s:Sl)(m:MH)(h:PH):Ctx:=dL [(82,YF),(83,Tu),(84,YH),(85,Tj),(71,HN)]
 [(9,{A:=Nat,st:=λi=>cD 69 72 [(1,iv 3),(3,.at (.ptr 3 0)),(29,sv s),(30,iv s.len),(31,iv i)] [(3,.cells 43 (v.enc.map .val))] m h}),
  (12,{A:=Nat×Sl×Nat,st:=λ⟨i,u,j⟩=>cD 69 72 [(1,iv 3),(3,.at (.ptr 3 0)),(8,iv i),(9,sv u),(29,sv s),(30,iv s.len),(31,iv i),(36,sv u),(37,iv u.len),(38,iv j)] [(3,.cells 43 (v.enc.map .val))] m h})] [] [] false
def O2(v:bJ)(m:MH)(h:PH)(K:CV->MH->PH->Prop):Prop:=
  lE (λv1 s=>aA (jW (bN v)=jW (bN v1)) (fV h s v1) (eA (eE s) 0 (K (eD (eE s)) m h) (K (eD 0) m h)))
def O1(s:Sl)(m:MH)(h:PH)(K:CV->MH->PH->Prop):Prop:=
  ∃(I:Nat×Int->Prop)(m1:Nat×Int->Nat),(∃(x:Nat×Int),aA (I x) (cG 0 x.2) (aA (aI s) (bL s) (cO (bD x.1) m m h h)))/\∀(x:Nat×Int),I x->aZ (↑x.1:Int) (aG s) (aR (λb o=>aA (aT s.a b o) (0<=(↑x.1:Int)) ((↑x.1:Int)<aG s/\∃(y:Sl),aL m h b (bA o x.1 1) (aU y)/\∃(x1:Nat×Int),aA (I x1) (m1 x1<m1 x) (aA (cG (dX (x.2+aG y)) x1.2) (aI s) (aA (bL s) (fN (bG x.1 1)=bV x1.1) (aA (m=m) (h=h) True)))))) (K (eD x.2) m h)
abbrev iZ:Prop:=eQ (fN 3)
noncomputable abbrev oZ(a:Nat×bR×Sl×MH×PH):Sl:=a.2.2.1
noncomputable abbrev Cc(a:Nat×bR×Sl×MH×PH):bR:=a.2.1
noncomputable abbrev wL(a:Nat×bR×VV×Sl×Bool×MH×PH):Sl:=a.2.2.2.1
noncomputable abbrev Ge(a:Nat×bR×VV×Sl×Bool×MH×PH):bR:=a.2.1
noncomputable abbrev wM(a:Nat×bR×VV×Sl×Bool×MH×PH):MH×PH:=a.2.2.2.2.2
noncomputable abbrev rX(a:Nat×bR×VV×Sl×Bool×Bool×MH×PH):Sl:=a.2.2.2.1
noncomputable abbrev Cb(a:Nat×bR×VV×Sl×Bool×Bool×MH×PH):bR:=a.2.1
noncomputable abbrev oT(a:Nat×bR×VV×Sl×Bool×Bool×MH×PH):MH×PH:=a.2.2.2.2.2.2
attribute [push_cast] iZ oZ Cc wL Ge wM rX Cb oT
def O0(v:bJ)(t:Int)(s:Sl)(m:MH)(h:PH)(K:CV->MH->PH->Prop):Prop:=
  lE (λv1 s1=>∃(t1:Int),aA (cJ (bN v) t=cJ (bN v1) t1) (fV h s1 v1) (gP (tI s1 t1) (K aW m h) (CR v t (λb o=>∃(y:bR),aL m h b (fQ o t 5) (uH y)/\eA (aG s) (AM y) (K aW m h) (∃(I:Nat×bR×Sl×MH×PH->Prop)(m1:Nat×bR×Sl×MH×PH->Nat),(∃(x:Nat×bR×Sl×MH×PH),aA (I x) iZ (aA (eP 9) (bF s (oZ x)) (aA (cK s (oZ x)) (bD x.1) (aA (oQ 86 (eM y)=oQ 86 (eM (Cc x))) (cH m x.2.2.2) (j3 h x.2.2.2)))))/\∀(x:Nat×bR×Sl×MH×PH),I x->aZ (↑x.1:Int) (aG (oZ x)) (aR (λb1 o1=>aA (aT (oZ x).a b1 o1) (0<=(↑x.1:Int)) ((↑x.1:Int)<aG (oZ x)/\∃(y1:VV),aL (lV x.2.2) (eN x.2.2) b1 (bA o1 x.1 3) y1.enc/\∃(v2:VV),pX (iT y1) (iT v2) (gP (jL v2)
 (K aW (lV x.2.2) (eN x.2.2)) (∃(I1:Nat×bR×VV×Sl×Bool×MH×PH->Prop),dH y1.kind 2 (∃(x1:Nat×bR×VV×Sl×Bool×MH×PH),aA (I1 x1) iZ (aA (eP 9) (bY x.1 x1.1) (aA (eP 11) (gR (decide ((↑x.1:Int)>=(Cc x).key)) x1.2.2.2.2.1) (aA (bF (oZ x) (wL x1)) (cK (oZ x) (wL x1)) (aA (bY x.1 x1.1) (oQ 86 (eM (Cc x))=oQ 86 (eM (Ge x1))) (aA (xM 27 y1.enc=xM 27 x1.2.2.1.enc) (cH (lV x.2.2) (wM x1)) (j3 (eN x.2.2) (wM x1)))))))) (∃(x1:Nat×bR×VV×Sl×Bool×MH×PH),aA (I1 x1) iZ (aA (eP 9) (bY x.1 x1.1) (aA (eP 11) (AQ x1.2.2.2.2.1) (aA (bF (oZ x) (wL x1)) (cK (oZ x) (wL x1)) (aA (bY x.1 x1.1) (oQ 86 (eM (Cc x))=oQ 86 (eM (Ge x1))) (aA (xM 27 y1.enc=xM 27
 x1.2.2.1.enc) (cH (lV x.2.2) (wM x1)) (j3 (eN x.2.2) (wM x1))))))))/\∀(x1:Nat×bR×VV×Sl×Bool×MH×PH),I1 x1->∃(I2:Nat×bR×VV×Sl×Bool×Bool×MH×PH->Prop),dH x1.2.2.1.kind 1 (∃(x2:Nat×bR×VV×Sl×Bool×Bool×MH×PH),aA (I2 x2) iZ (aA (eP 9) (bY x1.1 x2.1) (aA (eP 11) (gR x1.2.2.2.2.1 x2.2.2.2.2.1) (aA (gR (decide ((↑x1.1:Int)>=(Ge x1).key)) x2.2.2.2.2.2.1) (bF (wL x1) (rX x2)) (aA (cK (wL x1) (rX x2)) (bY x1.1 x2.1) (aA (oQ 86 (eM (Ge x1))=oQ 86 (eM (Cb x2))) (xM 27 x1.2.2.1.enc=xM 27 x2.2.2.1.enc) (jE (wM x1).1 (oT x2) (wM x1).2))))))) (∃(x2:Nat×bR×VV×Sl×Bool×Bool×MH×PH),aA (I2 x2) iZ (aA (eP 9) (bY x1.1 x2.1) (aA (eP 11) (gR x1.2.2.2.2.1 x2.2.2.2.2.1) (aA
 (AQ x2.2.2.2.2.2.1) (bF (wL x1) (rX x2)) (aA (cK (wL x1) (rX x2)) (bY x1.1 x2.1) (aA (oQ 86 (eM (Ge x1))=oQ 86 (eM (Cb x2))) (xM 27 x1.2.2.1.enc=xM 27 x2.2.2.1.enc) (jE (wM x1).1 (oT x2) (wM x1).2)))))))/\∀(x2:Nat×bR×VV×Sl×Bool×Bool×MH×PH),I2 x2->aR (λb2 o2=>aA (aT (Cb x2).columns.a b2 o2) (0<=(↑x2.1:Int)) ((↑x2.1:Int)<aG (Cb x2).columns/\∃(y2:Int),aL (oT x2).1 (oT x2).2 b2 (bA o2 x2.1 2+1) (cL y2)/\eA x2.2.2.1.kind y2 (gP x2.2.2.2.2.1 (gP x2.2.2.2.2.2.1 (K aW (oT x2).1 (oT x2).2) (∃(x3:Nat×bR×Sl×MH×PH),aA (I x3) (m1 x3<m1 x) (aA iZ (eP 9) (aA (bF (rX x2) (oZ x3)) (cK (rX x2) (oZ x3)) (aA (fN (bG x2.1 1)=bV x3.1) (oQ 86 (eM
 (Cb x2))=oQ 86 (eM (Cc x3))) (jE (oT x2).1 x3.2.2.2 (oT x2).2)))))) (∃(x3:Nat×bR×Sl×MH×PH),aA (I x3) (m1 x3<m1 x) (aA iZ (eP 9) (aA (bF (rX x2) (oZ x3)) (cK (rX x2) (oZ x3)) (aA (fN (bG x2.1 1)=bV x3.1) (oQ 86 (eM (Cb x2))=oQ 86 (eM (Cc x3))) (jE (oT x2).1 x3.2.2.2 (oT x2).2)))))) (∃(x3:Nat×bR×Sl×MH×PH),aA (I x3) (m1 x3<m1 x) (aA iZ (eP 9) (aA (bF (rX x2) (oZ x3)) (cK (rX x2) (oZ x3)) (aA (fN (bG x2.1 1)=bV x3.1) (oQ 86 (eM (Cb x2))=oQ 86 (eM (Cc x3))) (jE (oT x2).1 x3.2.2.2 (oT x2).2)))))))))))) (K fJ (lV x.2.2) (eN x.2.2)))))))
def OZ(v:bJ)(t:Int)(s:Sl)(m:MH)(h:PH)(K:CV->MH->PH->Prop):Prop:=
  aZ t 0 (K Cz m h) (fU t (gQ v) (K Cz m h) (aR (λb o=>aA (aT (pD v) b o) (0<=t) (t<aG v.tables/\∃(y:Int),aA (aL m h b (fQ o t 5+2) (cL y)) (0<=ite (o9 s y>0) (o9 s y) 0) (ite (o9 s y>0) (o9 s y) 0<=(↑s.cap:Int)/\K (CV.val (Value.slice s.a (ite (o9 s y>0) (o9 s y) 0).toNat s.cap)) m h)))))
noncomputable abbrev lC(a:Nat×Sl×Nat):Sl:=a.2.1
noncomputable abbrev C9(a:Nat×Sl×Nat):Int:=dX ((↑a.2.2:Int)-1)
attribute [push_cast] lC C9
def f56_nice(v:bJ)(s:Sl)(m:MH)(h:PH)(K:CV->MH->PH->Prop):Prop:=
  lE (λv1 s1=>aA (cJ (bN v) 3=cJ (bN v1) 3) (fV h s1 v1) (eA (eE s1) 0 (K (eD (eE s1)) m h) (Gh (λs2 s3=>aA (jW (lF (aU s))=jW (lF (aU s2))) (Leaves h s2 s3) (mL s3.length/\cT (decide (sJ s3>512)) (K (eD 2) m h) (aG s !=gQ v) (K (eD 80) m h) (mX (λI x=>aA (I x) iZ (aA (eP 3) (aI s) (aA (bL s) (bD x) (aA (bP v) (m=m) (cQ h h))))) (λI m1 x=>I x->aZ (↑x:Int) (aG s) (aR (λb o=>aA (aT s.a b o) (0<=(↑x:Int)) ((↑x:Int)<aG s/\∃(y:Sl),aL m h b (bA o x 1) (aU y)/\∃(I1:Nat×Sl×Nat->Prop)(m2:Nat×Sl×Nat->Nat),(∃(x1:Nat×Sl×Nat),aA (I1 x1) iZ (aA (eP 3) (bY x x1.1) (aA (bF y (lC x1)) (aI s) (aA (bL s) (bY x x1.1) (aA (bF y (lC x1)) (cK y (lC
 x1)) (aA (bD x1.2.2) (bP v) (dQ m m h h)))))))/\∀(x1:Nat×Sl×Nat),I1 x1->aZ (↑x1.2.2:Int) (aG (lC x1)) (aR (λb1 o1=>aA (aT (lC x1).a b1 o1) (0<=(↑x1.2.2:Int)) ((↑x1.2.2:Int)<aG (lC x1)/\∃(y1:Sl),aL m h b1 (bA o1 x1.2.2 1) (aU y1)/\lE (λv2 s4=>∃(t:Int),nE (λs5 r=>aA (bN v::eD (↑x1.1:Int)::hX y1 3=bN v2::eD t::hX s5 3) (fV h s4 v2) (cF h s5 r/\cT (!(T2 s4 t r)) (K (eD 80) m h) (decide ((↑x1.2.2:Int)>0)) (aR (λb2 o2=>aA (aT (lC x1).a b2 o2) (0<=C9 x1) (C9 x1<aG (lC x1)/\∃(y2:Sl),aL m h b2 (fQ o2 (C9 x1) 1) (aU y2)/\lE (λv3 s6=>∃(t1:Int),nE (λs7 r1=>aA (bN v::bK (eD (↑x1.1:Int)) (dN y2)=bN v3::bK (eD t1) (dN s7)) (fV h s6 v3) (cF
 h s7 r1/\∀(s8:Sl),cF h s8 (Fs s6 t1 r1)->aY h b2 (fQ o2 (C9 x1) 1) (aU y2)/\lE (λv4 s9=>∃(t2:Int),nE (λa r2=>aA (bN v::bK (eD (↑x1.1:Int)) (dN y1)=bN v4::bK (eD t2) (dN a)) (fV h s9 v4) (cF h a r2/\∀(a1:Sl),cF h a1 (Fs s9 t2 r2)->aY h b2 (fQ o2 (C9 x1) 1) (aU y2)/\C1 s8 a1 h (λa2 b3=>fU (dR a2 b3) 0 (K (eD 80) m h) (∃(x2:Nat×Sl×Nat),aA (I1 x2) (m2 x2<m2 x1) (aA iZ (eP 3) (aA (bY x1.1 x2.1) (bF (lC x1) (lC x2)) (aA (aI s) (bL s) (aA (bY x1.1 x2.1) (bF (lC x1) (lC x2)) (aA (cK (lC x1) (lC x2)) (fN (bG x1.2.2 1)=bV x2.2.2) (cO (bP v) m m h h))))))))))))))))) (∃(x2:Nat×Sl×Nat),aA (I1 x2) (m2 x2<m2 x1) (aA iZ (eP 3) (aA (bY x1.1 x2.1) (bF (lC
 x1) (lC x2)) (aA (aI s) (bL s) (aA (bY x1.1 x2.1) (bF (lC x1) (lC x2)) (aA (cK (lC x1) (lC x2)) (fN (bG x1.2.2 1)=bV x2.2.2) (cO (bP v) m m h h))))))))))))) (∃(x2:Nat),aA (I x2) (m1 x2<m1 x) (aA iZ (eP 3) (aA (aI s) (bL s) (aA (fN (bG x1.1 1)=bV x2) (bP v) (dQ m m h h)))))))) (K (eD 0) m h))))))))
theorem cF.cut{a:Option Addr}{len cap:Nat}{r:List VV}(x:cF h ⟨a,len,cap⟩ r){n:Nat}(hn:n<=r.length):cF h ⟨a,n,cap⟩ (r.take n):=by
 obtain⟨⟨vs,h1,h2,h3⟩,h4⟩:=x;refine⟨⟨vs.take n,by rw[List.map_take];exact aX.cut h1 n (by rw[List.length_map];omega),by rw[List.length_take,List.length_take,h2],λi x hx=>?_⟩,by rw[List.length_take];omega⟩;rw[List.getElem?_take]at hx;split at hx
 .rename_i hi;obtain⟨v,e1,e2⟩:=h3 i x hx;exact⟨v,by rw[List.getElem?_take,if_pos hi];exact e1,e2⟩
 .cases hx
theorem Y7{v:bJ}(hs:fV h s v)(hK:K (cI (eE s)) m h):O2 v m h K:=
 ⟨v,s,rfl,hs,aB (λ_=>hK) (λe=>by rw[show eE s=0 by simpa using e]at hK;exact hK)⟩
theorem Ue:Sound Tryz.prog 82 YF:=by
 refine iB Tryz.func82 ?_;rintro cvs m h K ⟨v,s,rfl,hs,hK⟩;refine⟨dL [(79,Aw)] [] [] [] false,rfl,aD Li aF,O2 v m h K,by kernel_rfl,?_⟩;exact Y7 hs hK
theorem Leaves.lens{s:Sl}{st:List (List (List VV))}(hl:Leaves h s st){l:List (List VV)}(hm:l∈st):l.length<=502633886983:=by
 obtain⟨i,hi,rfl⟩:=List.mem_iff_getElem.1 hm;obtain⟨_,_,_,_,_,hr⟩:=bU.at hl (List.getElem?_eq_getElem hi);exact hr.len
theorem Cw:∀{l:List (List (List VV))},(∀x∈l,x.length<=502633886983)->0<=sJ l/\sJ l<=(l.length:Int)*502633886983
 |[],_=>by simp[sJ]
 |a::l,h=>by
  have h1:=h a (List.mem_cons_self ..);have h2:=Cw (l:=l) λx hx=>h x (List.mem_cons_of_mem _ hx);simp only[sJ,List.map_cons,List.sum_cons,List.length_cons]at h2⊢
  omega
theorem RW{st:List (List (List VV))}{l:List (List VV)}(h:st[i]? =some l):sJ (st.take (i+1))=sJ (st.take i)+(l.length:Int):=by
 rw[List.take_add_one,h];simp[sJ]
theorem Ud:Sound Tryz.prog 83 Tu:=by
 refine iB Tryz.func83 ?_;rintro cvs m h K ⟨s,st,rfl,hl,hn,hK⟩;refine⟨Xx s m h,rfl,aF,O1 s m h K,by kernel_rfl,?_⟩;dsimp only[O1,push_cast];have hsl:=bU.slen hl;refine⟨λz=>z.1<=st.length/\z.2=sJ (st.take z.1),λz=>st.length-z.1,⟨(0,0),⟨by simp,by simp[sJ]⟩,MT⟩,?_⟩;rintro⟨i,n⟩ ⟨hi,hn2⟩;dsimp only at hi hn2⊢
 subst hn2;refine aE (λhlt=>?_) (λhge=>?_)
 .obtain⟨l,hx⟩:=fD hsl hlt;obtain⟨b,o,u,ea,rd,hr⟩:=bU.at hl hx;have hul:=bU.slen hr;have hb:=Cw (l:=st.take (i+1)) λx hx=>hl.lens (List.mem_of_mem_take hx);have hb2:=(Cw (l:=st.take i) λx hx=>hl.lens (List.mem_of_mem_take hx)).1;have hs:=RW hx;rw[List.length_take]at hb;refine⟨b,o,ea,aC,aC,u,.imm rd,(i+1,sJ (st.take (i+1))),⟨by show i+1<=st.length;omega,rfl⟩,by show st.length-(i+1)<st.length-i;omega,?_⟩;rw[eC aC aC,hul, <-hs];exact MT
 .rw[List.take_of_length_le aC];exact hK
theorem Cs{t:uX}{r:List VV}:Ct t r=true↔r.length=t.columns.length/\∀i,i<r.length->wT t.key (t.columns.getD i ⟨⟨#[]⟩,0⟩).kind i (r.getD i zeroV)=true:=by
 simp only[Ct,Bool.and_eq_true,decide_eq_true_eq,List.all_eq_true,List.mem_range]
theorem OM{t:Int}{r:List VV}{tb:uX}(ht:s.tables[t.toNat]? =some tb)(h:tI s t=true):T2 s t r=Ct tb r:=by
 simp only[T2,h,ht,Bool.true_and]
theorem Uc:Sound Tryz.prog 84 YH:=by
 refine iB Tryz.func84 ?_;rintro cvs m h K ⟨v,s,t,sl,r,rfl,hs,hv,hK⟩;refine⟨Xw,rfl,aD J5 (aD J4 aF),O0 v t sl m h K,by kernel_rfl,?_⟩;dsimp only[O0,push_cast];have htl:=hs.tables.slen;have hrl:=bU.slen hv;refine⟨v,s,t,rfl,hs,aB (λe=>?_) (λe=>?_)⟩
 .have e:tI s t=false:=by simpa using e
  simp only[T2,e,Bool.false_and]at hK;exact hK
 have e:tI s t=true:=by simpa using e
 have he:=e;simp only[tI,Bool.and_eq_true,decide_eq_true_eq]at he;obtain⟨tb,htb⟩:∃tb,s.tables[t.toNat]? =some tb:=⟨_,List.getElem?_eq_getElem aC⟩
 obtain⟨b,o,y,ea,rd,hy⟩:=bU.at hs.tables htb;rw[OM htb e]at hK;have hcl:=bU.slen hy.columns;have hk:=hy.key;refine⟨b,o,ea,he.1,aC,y,.imm rd,aB (λe1=>?_) (λe1=>?_)⟩
 .have:Ct tb r=false:=by
   cases e2:Ct tb r with
   |false=>rfl
   |true=>
    have:=(Cs.1 e2).1;simp at e1;omega
  rw[this]at hK;exact hK
 have hwl:r.length=tb.columns.length:=by simp at e1;omega
 have bad:∀i,i<r.length->wT tb.key (tb.columns.getD i ⟨⟨#[]⟩,0⟩).kind i (r.getD i zeroV)=false->K (cB false) m h:=λi hi hf=>by
  have:Ct tb r=false:=by
   cases e2:Ct tb r with
   |false=>rfl
   |true=>rw[(Cs.1 e2).2 i hi]at hf;cases hf
  rw[this]at hK;exact hK
 refine⟨λz=>z.2.1=y/\z.2.2.1=sl/\z.2.2.2.1=m/\z.2.2.2.2=h/\z.1<=r.length/\∀j,j<z.1->wT tb.key (tb.columns.getD j ⟨⟨#[]⟩,0⟩).kind j (r.getD j zeroV)=true,λz=>r.length-z.1,⟨(0,y,sl,m,h),⟨rfl,rfl,rfl,rfl,by simp,λj hj=>by simp at hj⟩,MT⟩,?_⟩;rintro⟨i,y',sl',m',h'⟩ ⟨e1,e2,e3,e4,hi,hall⟩;dsimp only at e1 e2 e3 e4 hi hall⊢
 subst e1 e2 e3 e4;refine aE (λhlt=>?_) (λhge=>?_)
 .have hil:i<r.length:=by omega
  have hx:r[i]? =some (r.getD i zeroV):=by rw[List.getD_eq_getElem?_getD,List.getElem?_eq_getElem hil];rfl
  obtain⟨b2,o2,x,ea2,rd2,hxx⟩:=bU.at hv hx;subst hxx;have hc:tb.columns[i]? =some (tb.columns.getD i ⟨⟨#[]⟩,0⟩):=by rw[List.getD_eq_getElem?_getD,List.getElem?_eq_getElem aC];rfl
  obtain⟨b3,o3,c,ea3,rd3,hcc⟩:=bU.at hy.columns hc;have badi:=bad i hil
  have alli:wT tb.key (tb.columns.getD i ⟨⟨#[]⟩,0⟩).kind i (r.getD i zeroV)=true->∀j,j<i+1->wT tb.key (tb.columns.getD j ⟨⟨#[]⟩,0⟩).kind j (r.getD j zeroV)=true:=λhf j hj=>by
   by_cases e5:j=i
   .rw[e5];exact hf
   .exact hall j aC
  generalize r.getD i zeroV=x at badi alli rd2 hx;rw[hcc]at badi alli;have go:wT tb.key c.kind i x=true->∃z:Nat×bR×Sl×MH×PH,(z.2.1=y'/\z.2.2.1=sl'/\z.2.2.2.1=m'/\z.2.2.2.2=h'/\z.1<=r.length/\∀j,j<z.1->wT tb.key (tb.columns.getD j ⟨⟨#[]⟩,0⟩).kind j (r.getD j zeroV)=true)/\r.length-z.1<r.length-i/\z=(i+1,y',sl',m',h'):=λhf=>⟨_,⟨rfl,rfl,rfl,rfl,by show i+1<=r.length;omega,alli hf⟩,by show r.length-(i+1)<r.length-i;omega,rfl⟩
  refine⟨b2,o2,ea2,aC,aC,x,.imm rd2,x,rfl,aB (λev=>badi ?_) (λev=>?_)⟩
  .have ev:jL x=false:=by simpa using ev
   simp[wT,ev]
  have ev:jL x=true:=by simpa using ev
  refine⟨λz=>z=(i,y',x,sl',(x.kind==2&&decide ((i:Int)>=y'.key)),m',h'),aB (λe2=>⟨_,rfl,by rw[e2];exact MT⟩) (λe2=>⟨_,rfl,by rw[e2];exact MT⟩),?_⟩;rintro _ rfl;dsimp only;refine⟨λz=>z=(i,y',x,sl',(x.kind==2&&decide ((i:Int)>=y'.key)),(x.kind==1&&decide ((i:Int)>=y'.key)),m',h'),aB (λe2=>⟨_,rfl,by rw[e2];exact MT⟩) (λe2=>⟨_,rfl,by rw[e2];exact MT⟩),?_⟩;rintro _ rfl;dsimp only
  have hfv:wT tb.key c.kind i x=(x.kind==c.kind||((x.kind==2&&decide ((i:Int)>=y'.key))||(x.kind==1&&decide ((i:Int)>=y'.key)))):=by
   rw[hk];simp only[wT,ev,Bool.true_and,ge_iff_le,Bool.and_or_distrib_right]
  generalize hb1:(x.kind==2&&decide ((i:Int)>=y'.key))=B1 at hfv⊢
  generalize hb2:(x.kind==1&&decide ((i:Int)>=y'.key))=B2 at hfv⊢
  refine⟨b3,o3,ea3,aC,aC,c.kind,.imm (aY.part rd3 1 1),aB (λe3=>aB (λe4=>aB (λe5=>badi ?_) (λe5=>?_)) (λe4=>?_)) (λe3=>?_)⟩
  .have e3:(x.kind==c.kind)=false:=by simpa using e3
   have e4:B1=false:=by simpa using e4
   have e5:B2=false:=by simpa using e5
   rw[hfv,e3,e4,e5];rfl
  all_goals
   obtain⟨_,g1,g2,rfl⟩:=go (by rw[hfv];simp_all);refine⟨_,g1,g2,?_⟩;dsimp only;rw[kE (by have:=bU.len hv;omega)];exact MT
 .have:Ct tb r=true:=Cs.2 ⟨hwl,λj hj=>hall j aC⟩;rw[this]at hK;exact hK
theorem Ub:Sound Tryz.prog 85 Tj:=by
 refine iB Tryz.func85 ?_;rintro cvs m h K ⟨v,s,t,sl,r,rfl,hs,hv,hK⟩;refine⟨dL [] [] [] [] false,rfl,aF,OZ v t sl m h K,by kernel_rfl,?_⟩;dsimp only[OZ,push_cast];have htl:=hs.tables.slen;have hrl:=bU.slen hv;have none_:tI s t=false->K Cz m h:=λe=>hK ⟨none,0,0⟩ (by simp only[Fs,e];exact bU.nil _ _ _ _);refine aE (λh1=>none_ (by simp[tI];omega)) (λh1=>aE (λh2=>none_ (by simp[tI];omega)) (λh2=>?_));have e:tI s t=true:=by simp[tI];omega
 obtain⟨tb,htb⟩:∃tb,s.tables[t.toNat]? =some tb:=⟨_,List.getElem?_eq_getElem aC⟩
 obtain⟨b,o,y,ea,rd,hy⟩:=bU.at hs.tables htb;have hk:=hy.key;obtain⟨a,len,cap⟩:=sl;have hcap:len<=cap:=by obtain⟨vs,h5,_⟩:=hv.ex;exact h5.cap
 have hrl:len=r.length:=hrl
 have hmm:(if(if(len:Int)<y.key then(len:Int)else y.key)>0 then(if(len:Int)<y.key then(len:Int)else y.key)else 0)=max 0 (min tb.key r.length):=by
  rw[<-hk];split<;>split<;>omega
 refine⟨b,o,ea,aC,aC,y.key,.imm (aY.part rd 2 1),?_⟩;dsimp only;rw[hmm];refine⟨aC,aC,hK ⟨a,(max 0 (min tb.key r.length)).toNat,cap⟩ ?_⟩;have e2:Fs s t r=r.take (max 0 (min tb.key r.length)).toNat:=by simp only[Fs,e,if_true,htb];rfl
 rw[e2];exact hv.cut aC
theorem Dl{t:Nat}{tb:uX}(h:s.tables[t]? =some tb)(r:List VV):Fs s t r=jK tb r:=by
 have:t<s.tables.length:=(List.getElem?_eq_some_iff.1 h).1;have e:tI s (t:Int)=true:=by simp[tI];omega
 simp only[Fs,e,if_true,Int.toNat_natCast,h]
theorem SL{t:Nat}{tb:uX}(h:s.tables[t]? =some tb)(r:List VV):T2 s t r=Ct tb r:=by
 have:t<s.tables.length:=(List.getElem?_eq_some_iff.1 h).1;have e:tI s (t:Int)=true:=by simp[tI];omega
 exact OM (by simpa using h) e
theorem f56_sound:Sound Tryz.prog 56 HK:=by
 refine iB Tryz.func56 ?_;rintro cvs m h K ⟨v,s,sl,st,rfl,hs,hl,hn,hK⟩;refine⟨f56_ctx v sl m h,rfl,aD Ue (aD Ud (aD Uc (aD Ub (aD Dn aF)))),f56_nice v sl m h K,by kernel_rfl,?_⟩;dsimp only[f56_nice,push_cast];have htl:=hs.tables.slen;have hsl:=bU.slen hl;unfold sN at hK;refine⟨v,s,rfl,hs,aB (λe=>?_) (λe=>⟨sl,st,rfl,hl,hn,aE (λe2=>?_) (λe2=>aB (λe3=>?_) (λe3=>?_))⟩)⟩
 .rw[if_pos (by simpa using e)]at hK;exact hK
 all_goals rw[if_neg (by simpa using e)]at hK
 .rw[if_pos (by unfold sJ at e2;omega)]at hK;exact hK
 all_goals rw[if_neg (by unfold sJ at e2;omega)]at hK
 .rw[if_pos (by simp at e3;omega)]at hK;exact hK
 have hlen:st.length=s.tables.length:=by simp at e3;omega
 rw[if_neg (by simp[hlen])]at hK;have bad:¬IS s st->K (cI 80) m h:=λhb=>by rw[if_neg hb]at hK;exact hK
 refine⟨λi=>i<=st.length/\∀(j:Nat) t l,j<i->s.tables[j]? =some t->st[j]? =some l->Sm t l,λi=>st.length-i,⟨0,⟨by simp,λj t l hj=>by omega⟩,MT⟩,?_⟩;rintro i ⟨hi,hall⟩;refine aE (λhlt=>?_) (λhge=>?_)
 .obtain⟨l,hx⟩:=fD hsl hlt;obtain⟨b,o,u,ea,rd,hr⟩:=bU.at hl hx;have hul:=bU.slen hr;have hll:=bU.len hr;obtain⟨tb,htb⟩:∃tb,s.tables[i]? =some tb:=⟨_,List.getElem?_eq_getElem aC⟩
  have badi:¬Sm tb l->K (cI 80) m h:=λhb=>bad λhok=>hb (hok i tb l htb hx);refine⟨b,o,ea,aC,aC,u,.imm rd,λz=>z.1=i/\z.2.1=u/\z.2.2<=l.length/\(∀k r,k<z.2.2->l[k]? =some r->Ct tb r=true)/\∀k r r',k+1<z.2.2->l[k]? =some r->l[k+1]? =some r'->dR (jK tb r) (jK tb r')<0,λz=>l.length-z.2.2,⟨(i,u,0),⟨rfl,rfl,by simp,λk r hk=>by simp at hk,λk r r' hk=>by simp at hk⟩,MT⟩,?_⟩;rintro⟨i',u',j⟩ ⟨e1,e2,hj,hfit,hkey⟩;dsimp only at e1 e2 hj hfit hkey⊢
  subst e1 e2;refine aE (λhlt2=>?_) (λhge2=>?_)
  .obtain⟨r,hxr⟩:=fD hul hlt2;obtain⟨b2,o2,w,ea2,rd2,hv⟩:=bU.at hr hxr;refine⟨b2,o2,ea2,aC,aC,w,.imm rd2,v,s,i',w,r,rfl,hs,hv,aB (λef=>badi λhok=>?_) (λef=>?_)⟩
   .rw[SL htb,hok.1 r (List.mem_of_getElem? hxr)]at ef;cases ef
   have hf:Ct tb r=true:=by rw[SL htb]at ef;simpa using ef
   have hfit':∀k r,k<j+1->l[k]? =some r->Ct tb r=true:=λk r' hk hr'=>by
    by_cases e5:k=j
    .subst e5;rw[hxr]at hr';cases hr';exact hf
    .exact hfit k r' aC hr'
   refine aE (λhj0=>?_) (λhj0=>?_)
   .have hw:IntKind.i64.wrap ((j:Int)-1)=((j-1:Nat):Int):=by rw[eC aC aC];omega
    obtain⟨r0,hx0⟩:∃r0,l[j-1]? =some r0:=⟨_,List.getElem?_eq_getElem aC⟩
    obtain⟨b3,o3,w3,ea3,rd3,hv3⟩:=bU.at hr hx0;rw[hw];refine⟨b3,o3,ea3,aC,aC,w3,.imm rd3,v,s,i',w3,r0,rfl,hs,hv3,λs1 hs1=>⟨rd3,v,s,i',w,r,rfl,hs,hv,λs2 hs2=>⟨rd3,s1,s2,_,_,rfl,hs1,hs2,aE (λhc=>badi λhok=>?_) (λhc=>?_)⟩⟩⟩
    .rw[Dl htb,Dl htb]at hc;have:=hok.2 (j-1) r0 r hx0 (by rw[show j-1+1=j by omega];exact hxr);omega
    .rw[Dl htb,Dl htb]at hc;refine⟨(i',u',j+1),⟨rfl,rfl,by show j+1<=l.length;omega,hfit',λk r1 r2 hk h1 h2=>?_⟩,by show l.length-(j+1)<l.length-j;omega,?_⟩
     .by_cases e5:k+1=j
      .have:k=j-1:=by omega
       subst this;rw[hx0]at h1;rw[e5,hxr]at h2;cases h1;cases h2;omega
      .exact hkey k r1 r2 (by have:k+1<j+1:=hk;omega) h1 h2
     .dsimp only;rw[kE aC];exact MT
   .refine⟨(i',u',j+1),⟨rfl,rfl,by show j+1<=l.length;omega,hfit',λk r1 r2 hk h1 h2=>by have:k+1<j+1:=hk;omega⟩,by show l.length-(j+1)<l.length-j;omega,?_⟩;dsimp only;rw[kE aC];exact MT
  .refine⟨i'+1,⟨aC,λk t l' hk ht hl'=>?_⟩,aC,?_⟩
   .by_cases e5:k=i'
    .subst e5;rw[htb]at ht;cases ht;rw[hx]at hl';cases hl';refine⟨λr hr=>?_,λk r r' h1 h2=>hkey k r r' ?_ h1 h2⟩
     .obtain⟨n,hn,rfl⟩:=List.mem_iff_getElem.1 hr;exact hfit n _ aC (List.getElem?_eq_getElem hn)
     .have:=(List.getElem?_eq_some_iff.1 h2).1;omega
    .exact hall k t l' aC ht hl'
   .rw[kE aC];exact MT
 .rw[if_pos]at hK
  .exact hK
  .exactλj t l h1 h2=>hall j t l (by have:=(List.getElem?_eq_some_iff.1 h2).1;omega) h1 h2
def HM:Vc.Spec:=λcvs m h K=>∃sc p v s ps q,cvs=[aS sc,cS p,aQ v]/\fV h s sc/\Ints h p ps/\cN h q v/\kZ q=true/\KR K m h (fG s ps q)
noncomputable def f55q_ctx(p:Sl)(N:Nat):Ctx:={uW [(79,Aw),(80,Nv),(81,BB N)]
 [(5,{A:=Nat×Nat×Nat×Nat×Nat×MH×PH,st:=λ⟨i,a,b,c,d,m,h⟩=>cD 53 56 [(1,sv p),(3,vv (.pointer (some ⟨a,0,none⟩))),(5,vv (.pointer (some ⟨b,0,none⟩))),(6,vv (.pointer (some ⟨c,0,none⟩))),(7,vv (.pointer (some ⟨d,0,none⟩))),(18,sv p),(19,iv p.len),(20,iv i)] [] m h})] [] [] [200003,200005,200006,200007,200011,0] [] false with elemT:=[3,38]}
noncomputable abbrev uI(a:Nat×Nat×Nat×Nat×Nat×MH×PH):Nat:=a.2.2.1
noncomputable abbrev mY(a:Nat×Nat×Nat×Nat×Nat×MH×PH):Nat:=a.2.2.2.1
noncomputable abbrev iM(a:Nat×Nat×Nat×Nat×Nat×MH×PH):Nat×MH×PH:=iV a.2
noncomputable abbrev mZ(a:Nat×Nat×Nat×Nat×Nat×MH×PH):Nat:=(iM a).1
abbrev MR(a b:Int)(c:Prop)(d:(Nat×Nat×Nat×Nat×Nat×MH×PH)->Prop):Prop:=eA a b c (∃(x:Nat×Nat×Nat×Nat×Nat×MH×PH),d x)
attribute [push_cast] uI mY iM mZ MR
def f55q_nice(sc:bJ)(p:Sl)(v:QV)(N:Nat)(m:MH)(h:PH)(K:CV->MH->PH->Prop):Prop:=
  ∀(b:Nat)(m1:MH),aM (cC m h b) (bI m m1 b (gL (pI sc) (pH sc)) 43) (∀(b1:Nat)(m2:MH),aM (cC m1 h b1) (bI m1 m2 b1 v.enc 38) (∀(b2:Nat)(m3:MH),aM (cC m2 h b2) (bI m2 m3 b2 iD 33) (∀(b3:Nat)(m4:MH),aM (cC m3 h b3) (bI m3 m4 b3 (iO bC) 54) (∃(y:bJ),aL m4 h b 0 (gL (pI y) (pH y))/\lE (λv1 s=>aA (jW (bN y)=jW (bN v1)) (fV h s v1) (eA (eE s) 0 (gK (λc E=>aA (uO m4 b2 (eR c E 0)) (fC 0 c) (∀(m5:MH),bI m4 m5 b2 (eO u0 1 c) E->gK (λc1 E1=>aA (uO m5 b3 (eR c1 E1 0)) (fC 0 c1) (∀(m6:MH),bI m5 m6 b3 (eO (dO (eE s)) 1 c1) E1->iC m6 h b2 0 (λy1=>∃(y2:Int),aL m6 h b3 0 (cL y2)/\K (CV.tup (cJ (dN y1) y2)) m6 h)))))) (∃(I:Nat×Nat×Nat×Nat×Nat×MH×PH->Prop)
 (m5:Nat×Nat×Nat×Nat×Nat×MH×PH->Nat),(∃(x:Nat×Nat×Nat×Nat×Nat×MH×PH),aA (I x) (aI p) (aA (cX b x.2.1) (cX b1 (uI x)) (aA (cX b2 (mY x)) (cX b3 (mZ x)) (aA (aI p) (bL p) (aA (bD x.1) (cH m4 (iM x).2) (eJ h (iM x).2/\True))))))/\∀(x:Nat×Nat×Nat×Nat×Nat×MH×PH),I x->aZ (↑x.1:Int) (aG p) (aR (λb4 o=>aA (aT p.a b4 o) (0<=(↑x.1:Int)) ((↑x.1:Int)<aG p/\∃(y1:Int),aL (dD (iM x)) (cR (iM x)) b4 (bA o x.1 1) (cL y1)/\MR y1 3 (MR y1 4 (MR y1 5 (gK (λc E=>aA (uO (dD (iM x)) (mY x) (eR c E 0)) (fC 0 c) (∀(m6:MH),bI (dD (iM x)) m6 (mY x) (eO u0 1 c) E->gK (λc1 E1=>aA (uO m6 (mZ x) (eR c1 E1 0)) (fC 0 c1) (∀(m7:MH),bI m6 m7
 (mZ x) (eO (dO 1) 1 c1) E1->iC m7 (cR (iM x)) (mY x) 0 (λy2=>∃(y3:Int),aL m7 (cR (iM x)) (mZ x) 0 (cL y3)/\K (CV.tup (cJ (dN y2) y3)) m7 (cR (iM x)))))))) (λx1=>aA (I x1) (m5 x1<m5 x) (aA (aI p) (cX x.2.1 x1.2.1) (aA (cX (uI x) (uI x1)) (cX (mY x) (mY x1)) (aA (cX (mZ x) (mZ x1)) (aI p) (aA (bL p) (fN (bG x.1 1)=bV x1.1) (aA (cH (dD (iM x)) (iM x1).2) (eJ (cR (iM x)) (iM x1).2) True))))))) (λx1=>aA (I x1) (m5 x1<m5 x) (aA (aI p) (cX x.2.1 x1.2.1) (aA (cX (uI x) (uI x1)) (cX (mY x) (mY x1)) (aA (cX (mZ x) (mZ x1)) (aI p) (aA (bL p) (fN (bG x.1 1)=bV x1.1) (aA (cH (dD (iM x)) (iM x1).2) (eJ (cR (iM x)) (iM
 x1).2) True))))))) (λx1=>aA (I x1) (m5 x1<m5 x) (aA (aI p) (cX x.2.1 x1.2.1) (aA (cX (uI x) (uI x1)) (cX (mY x) (mY x1)) (aA (cX (mZ x) (mZ x1)) (aI p) (aA (bL p) (fN (bG x.1 1)=bV x1.1) (aA (cH (dD (iM x)) (iM x1).2) (eJ (cR (iM x)) (iM x1).2) True))))))))) (∀(b4:Nat)(m6:MH),aM (cC (dD (iM x)) (cR (iM x)) b4) (bI (dD (iM x)) m6 b4 (iO bC) 3) (gK (λc E=>aA (uO m6 b4 (eR c E 0)) (fC 0 c) (∀(m7:MH),bI m6 m7 b4 (eO bC 1 c) E->∃(y1:QV),aL m7 (cR (iM x)) (uI x) 0 y1.enc/\∃(v2:QV),gE (jW (bW y1)=jW (bW v2)) (λb5=>∀(h1:PH),bE (cR (iM x)) h1 (aY h1 b5 0 v2.enc) (∃(S:PH->List Value->List (List Value)->Prop)(x1:List (Int×QV))(I1:
 Nat->MH->PH->Prop),aA (CG Proofs.Tryz.prog 114 S) (S h1 (iO (TF b5 0)) (List.map (fun(x2:Int×QV)=>gL (dO x2.1) (Value.agg (Array.mk x2.2.enc))) x1)) (aA (I1 0 m7 h1) (∀(k:Nat)(e:Int)(e1:QV),eT (λm8 h2=>aM (x1[k]? =Option.some (e,e1)) (PH.le h1 h2) (I1 k m8 h2->tT m8 h2 b4 0 (λy2=>gK (λc1 E1=>aA (uO m8 b4 (eR c1 E1 0)) (fC 0 c1) (∀(m9:MH),bI m8 m9 b4 (eO (dO (dX (y2+1))) 1 c1) E1->tT m9 h2 b4 0 (λy3=>cT (decide (y3>24)) (gK (λc2 E2=>aA (uO m9 (mY x) (eR c2 E2 0)) (fC 0 c2) (∀(a:MH),bI m9 a (mY x) (eO u0 1 c2) E2->gK (λc3 E3=>aA (uO a (mZ x) (eR c3 E3 0)) (fC 0 c3) (∀(a1:MH),bI a a1 (mZ x) (eO (dO 2) 1 c3) E3->False))))) (decide (e>8)) (gK (λc2 E2=>aA (uO m9 (mY x) (eR c2 E2
 0)) (fC 0 c2) (∀(a:MH),bI m9 a (mY x) (eO u0 1 c2) E2->gK (λc3 E3=>aA (uO a (mZ x) (eR c3 E3 0)) (fC 0 c3) (∀(a1:MH),bI a a1 (mZ x) (eO (dO 2) 1 c3) E3->False))))) (I1 (k+1) m9 h2)))))))) (eT (λm8 h2=>bE h1 h2 (I1 x1.length m8 h2) (∃(y2:bJ),aL m8 h2 x.2.1 0 (gL (pI y2) (pH y2))/\∃(y3:QV),aL m8 h2 (uI x) 0 y3.enc/\E4 y2 p y3 h2 (λv3 s1 p1 q=>aA (cN h2 q v3) (p9 q N) (bZ (λs2 h3=>bE h2 h3 (Ints h3 s2 (bO s1 p1 q).1) (gK (λc1 E1=>aA (uO m8 (mY x) (eR c1 E1 0)) (fC 0 c1) (∀(m9:MH),bI m8 m9 (mY x) (eO (dT s2) 1 c1) E1->gK (λc2 E2=>aA (uO m9 (mZ x) (eR c2 E2 0)) (fC 0 c2) (∀(a:MH),bI m9 a (mZ x) (eO (dO (bO s1 p1 q).2) 1 c2) E2->iC a h3 (mY x) 0 (λy4=>∃(y5
 :Int),aL a h3 (mZ x) 0 (cL y5)/\K (CV.tup (cJ (dN y4) y5)) a h3))))))))))))))))))))))))))
mutual
theorem J9:∀(p:Query)(n:Nat),lM p n=false->Bw p<=n
 |.mk _ _ _ _ _ _ _ _ args,0,h=>by simp[lM]at h
 |.mk _ _ _ _ _ _ _ _ args,n+1,h=>by
  simp only[lM]at h;have:=HE args n h;simp only[Bw];omega
theorem HE:∀(ps:List Query)(n:Nat),sI ps n=false->uV ps<=n
 |[],_,_=>by simp[uV]
 |p::ps,n,h=>by
  simp only[sI,Bool.or_eq_false_iff]at h;have h1:=J9 p n h.1;have h2:=HE ps n h.2;simp only[uV];omega
end
mutual
theorem qR.deep{h:PH}:∀{q:Query}{v:QV}{d:Nat}{es:List (Nat×QV)},qR h q v d es->∀e∈es,e.1<d+Bw q
 |.mk op ta _ _ _ _ _ _ args,v,d,es,w,e,he=>by
  rw[qR]at w;obtain⟨vs,ess,h1,h2,rfl⟩:=w;simp only[Bw];rcases List.mem_cons.1 he with rfl|he
  .show d<_;omega
  .have:=gY.deep h2 e he;omega
theorem gY.deep{h:PH}:∀{qs:List Query}{vs:List QV}{d:Nat}{es:List (Nat×QV)},gY h qs vs d es->∀e∈es,e.1<d+uV qs
 |[],vs,d,es,w,e,he=>by rw[gY]at w;rw[w.2]at he;simp at he
 |q::qs,vs,d,es,w,e,he=>by
  rw[gY]at w;obtain⟨v,vs',e1,e2,h1,h2,h3,h4,rfl⟩:=w;simp only[uV];rcases List.mem_append.1 he with he|he
  .have:=qR.deep h3 e he;omega
  .have:=gY.deep h4 e he;omega
end
theorem Vg{m mx:MH}{h hx:PH}{b6 b7:Nat}{x6 x7:Value}{sl:Sl}{e:Int}{K:CV->MH->PH->Prop}(h67:b6≠b7)(n6:m b6=none)(n7:m b7=none)(a6:mx b6=some (.cells #[x6] 33 (0,0)))(a7:mx b7=some (.cells #[x7] 54 (0,0)))(s:Sub m mx)(le:PH.le h hx)(hK:K (.tup [cS sl,cI e]) m hx):
 ∃(cs:Array Value)(E:TypeId),uO mx b6 (.cells cs E (0,0))/\0<cs.size/\∀m':MH,jJ mx m' b6 (.cells (Array.mk (dT sl::cs.toList.drop 1)) E (0,0))->∃(cs:Array Value)(E:TypeId),uO m' b7 (.cells cs E (0,0))/\0<cs.size/\∀m2:MH,jJ m' m2 b7 (.cells (Array.mk (dO e::cs.toList.drop 1)) E (0,0))->∃y:Sl,aL m2 hx b6 0 [dT y]/\∃y1:Int,aL m2 hx b7 0 [dO y1]/\cY h K (.tup [cS y,cI y1]) m2 hx:=by
 refine⟨_,_,⟨a6⟩,by simp,λm1 u1=>⟨_,_,⟨by rw[u1.other b7 (Ne.symm h67)];exact a7⟩,by simp,λm2 u2=>⟨sl,.of_m (by rw[u2.other b6 h67];exact u1.at_) rfl,e,.of_m u2.at_ rfl,λ_=>⟨m,hx,λb o e2=>?_,le,λb i v e2=>.inl e2,hK⟩⟩⟩⟩;rw[u2.other b (λe3=>by rw[e3,n7]at e2;cases e2),u1.other b (λe3=>by rw[e3,n6]at e2;cases e2)];exact s b o e2
theorem f55q_sound:Sound Tryz.prog 55 HM:=by
 refine DS Tryz.func55 ?_;rintro cvs m h K ⟨sc,p,v,s,ps,q,rfl,hs,hp,hq,hsm,hK⟩;refine⟨f55q_ctx p (SizeOf.sizeOf q+1),rfl,aD Li (aD JL (aD (Uf _) aF)),f55q_nice sc p v (SizeOf.sizeOf q+1) m h (cY h K),by kernel_rfl,?_⟩;show f55q_nice sc p v (SizeOf.sizeOf q+1) m h (cY h K);dsimp only[f55q_nice,push_cast];have hl:=hp.slen;have hlen:=hp.len;have hcn:=KN hsm;have hdp:Bw q<=8:=J9 q 8 (by simp only[kZ,Bool.and_eq_true,Bool.not_eq_true']at hsm;exact hsm.2);unfold fG at hK;rw[if_pos hsm]at hK;intro b3 m1 u1 w1 b5 m2 u2 w2 b6 m3 u3 w3 b7 m4 u4 w4;obtain⟨s1,n3⟩:=gJ (Sub.refl m) u1 w1;obtain⟨s2,n5⟩:=gJ s1 u2 w2;obtain⟨s3,n6⟩:=gJ s2 u3 w3;obtain⟨s4,n7⟩:=gJ s3 u4 w4;have up:∀{ma mb:MH}{b:Nat}{o:Obj}{hh:PH},cC ma hh b->jJ ma mb b o->∀{x o'},ma x=some o'->mb x=some o':=fun{ma mb b o hh} u w{x o'} e=>by rw[w.other x (λe2=>by rw[e2,u.m_]at e;cases e)];exact e
 have a3:=up u4 w4 (up u3 w3 (up u2 w2 w1.at_));have a5:=up u4 w4 (up u3 w3 w2.at_);have a6:=up u4 w4 w3.at_;have a7:=w4.at_;have d67:b6≠b7:=λe=>by have e2:=w3.at_;rw[e,u4.m_]at e2;cases e2
 refine⟨sc,.of_m a3 rfl,sc,s,rfl,hs,aB (λh1=>?_) (λh1=>?_)⟩
 .rw[if_neg (by simpa using h1)]at hK;exact Vg (sl:=bM) d67 n6 n7 a6 a7 s4 (.refl _) (hK bM h (.refl _) (gX h))
 have h1:eE s=0:=by simpa using h1
 rw[if_pos h1]at hK;refine⟨λz=>z.2=(b3,b5,b6,b7,m4,h)/\z.1<=ps.length/\(ps.take z.1).all dM=true,λz=>ps.length-z.1,⟨(0,b3,b5,b6,b7,m4,h),⟨rfl,by simp,by simp⟩,MT⟩,?_⟩;rintro⟨i,z⟩ ⟨ez,hi,hall⟩;dsimp only at ez hi hall;subst ez;dsimp only;refine aE (λhlt=>?_) (λhge=>?_)
 .obtain⟨x,hx⟩:=fD hl hlt;obtain⟨b,o,e,r⟩:=hp.at' hx;have good:dM x=true->(ps.take (i+1)).all dM=true:=λhc=>by rw[xT hx,hall,hc];rfl
  have hw:IntKind.i64.wrap ((i:Int)+1)=((i+1:Nat):Int):=kE aC;have go:dM x=true->((i+1,b3,b5,b6,b7,m4,h):Nat×Nat×Nat×Nat×Nat×MH×PH).2=(b3,b5,b6,b7,m4,h)/\i+1<=ps.length/\(ps.take (i+1)).all dM=true:=λhc=>⟨rfl,aC,good hc⟩
  rw[hw];refine⟨b,o,e,aC,hlt,x,.imm r,aB (λc1=>aB (λc2=>aB (λc3=>?_) (λc3=>⟨(i+1,b3,b5,b6,b7,m4,h),go ?_,by show ps.length-(i+1)<ps.length-i;omega,MT⟩)) (λc2=>⟨(i+1,b3,b5,b6,b7,m4,h),go ?_,by show ps.length-(i+1)<ps.length-i;omega,MT⟩)) (λc1=>⟨(i+1,b3,b5,b6,b7,m4,h),go ?_,by show ps.length-(i+1)<ps.length-i;omega,MT⟩)⟩
  .have:dM x=false:=by simp_all [dM]
   rw[if_neg (λe=>by rw[zE hx this]at e;cases e)]at hK;exact Vg (sl:=bM) d67 n6 n7 a6 a7 s4 (.refl _) (hK bM h (.refl _) (gX h))
  .simp_all [dM]
  .simp_all [dM]
  .simp_all [dM]
 rw[List.take_of_length_le aC]at hall;rw[if_pos hall]at hK;intro b11 m5 u5 w5;refine⟨_,_,⟨w5.at_⟩,by simp,λm6 w6=>?_⟩
 have k6:∀{x o'},m4 x=some o'->m6 x=some o'/\x≠b11:=fun{x o'} e=>by
  have:x≠b11:=λe2=>by rw[e2,u5.m_]at e;cases e
  exact⟨by rw[w6.other x this];exact up u5 w5 e,this⟩
 refine⟨v,.of_m (k6 a5).1 rfl,v,rfl,λbw h1' le1 hbw=>?_⟩;obtain⟨es,hw⟩:=qR.of (hq.mono le1) 1;have hes:=hw.small;have hdeep:=hw.deep;refine⟨IG,es.map λe=>((e.1:Int),e.2),λk mx hx=>hx=h1'/\Av m6 mx b11/\mx b11=some (.cells #[dO (k:Nat)] 3 (0,0)),SF,⟨bw,v,q,es,rfl,hbw,hw,aC,by rw[List.map_map];rfl⟩,⟨rfl,λx o e _=>e,w6.at_⟩,?_,?_⟩
 .rintro k d e' mx hx hk-⟨rfl,hsx,hb11⟩
  rw[List.getElem?_map]at hk;cases hek:es[k]? with
  |none=>rw[hek]at hk;cases hk
  |some e=>
   rw[hek]at hk;simp only[Option.map_some,Option.some.injEq,Prod.mk.injEq]at hk;obtain⟨rfl,rfl⟩:=hk;have hkl:=(List.getElem?_eq_some_iff.1 hek).1;have hde:=hdeep e (List.mem_of_getElem? hek);have hw2:IntKind.i64.wrap ((k:Int)+1)=((k+1:Nat):Int):=kE aC;refine⟨k,.of_m hb11 rfl,_,_,⟨hb11⟩,by simp,λm7 w7=>⟨((k+1:Nat):Int),?_,aE (λhgt=>by omega) (λ_=>aE (λhgt=>by omega) (λ_=>⟨rfl,λx o e1 e2=>by rw[w7.other x e2];exact hsx x o e1 e2,?_⟩))⟩⟩
   .rw[<-hw2];exact .of_m w7.at_ rfl
   .rw[<-hw2];exact w7.at_
 .rintro mx hx-⟨rfl,hsx,hb11⟩
  have kx:∀{x o'},m4 x=some o'->mx x=some o':=fun{x o'} e=>hsx x o' (k6 e).1 (k6 e).2;refine⟨sc,.of_m (kx a3) rfl,v,.of_m (kx a5) rfl,sc,p,v,s,ps,q,rfl,hs.mono le1,sU h1,hp.mono le1,hq.mono le1,aC,λsl h7 le7 hi7=>?_⟩;exact Vg d67 n6 n7 (kx a6) (kx a7) (λx o e=>kx (s4 x o e)) (le1.trans le7) (hK sl h7 (le1.trans le7) hi7)
noncomputable def Ga(s:nS)(st:List (List (List VV)))(q:Query):List (List VV)×Int:=
 if(fG s [] q).2≠0 then([],(fG s [] q).2)else if sN s st≠0 then([],sN s st)else(oY st q,0)
def Tz(st:List (List (List VV)))(q:Query):Prop:=∃c,1<=c/\(∀l∈st,l.length<=c)/\lZ c q<=1000000
structure Nz(h:PH)(sl:Sl)(st:List (List (List VV))):Prop where
 lea:Leaves h sl st
 len:st.length<=1000
 val:Zt st
theorem Nz.mono{sl:Sl}{st:List (List (List VV))}(x:Nz h sl st)(le:PH.le h h'):Nz h' sl st:=⟨bU.mono x.lea le λl s hr=>bU.mono hr le λr t hv=>cF.mono hv le,x.len,x.val⟩
def WB:Vc.Spec:=λcvs m h K=>∃v s sl st w q,cvs=[aS v,Ze sl,aQ w]/\fV h s v/\Nz h sl st/\cN h q w/\kZ q=true/\jZ m/\((fG s [] q).2=0->sN s st=0->Tz st q)/\∀s' h',PH.le h h'->Rows h' s' (Ga s st q).1->K (.tup [cS s',cI (Ga s st q).2]) m h'
def YP:Vc.Spec:=λcvs m h K=>∃v s sl st w q,cvs=[aS v,Ze sl,aQ w]/\fV h s v/\Nz h sl st/\cN h q w/\kZ q=true/\jZ m/\((fG s [] q).2=0->sN s st=0->Tz st q)/\∀s' h',PH.le h h'->Rows h' s' (Ga s st q).1->K (cS s') m h'
def YD:Vc.Spec:=λcvs m h K=>∃o v w,cvs=[cI o,aQ v,aQ w]/\∀s h',PH.le h h'->aX h' s 21 [v.enc,w.enc]->K (aQ ⟨o,0,fF,bM,bM,bM,bM,0,s⟩) m h'
def Tm:Vc.Spec:=λcvs m h K=>∃n,cvs=[cI n]/\K (aV ⟨4,n,⟨#[]⟩⟩) m h
noncomputable def XU(w:QV)(sl:Sl):Ctx:=dL [(55,HM),(56,HK),(57,Wz),(58,Tg)]
 [(10,{A:=Nat×List Sl×Sl×MH×PH,st:=λ⟨i,us,s,m,h⟩=>cD 54 57 [(4,.at (.ptr 4 0)),(5,.at (.ptr 5 0)),(12,.at (.lst 34)),(35,sv s),(36,iv s.len),(37,iv i)] [(4,.cells 25 [.val (.slice sl.a sl.len sl.cap)]),(5,.cells 38 (w.enc.map .val)),(34,.lst 53 1 (us.map eS))] m h})] [] [] false
abbrev vA(a:List At):Prop:=eQ (oQ 25 a)
attribute [push_cast] vA
def Pu(v:bJ)(sl:Sl)(w:QV)(m:MH)(h:PH)(K:CV->MH->PH->Prop):Prop:=
  xJ (λs p=>∃(v1:QV),BE (λs1 p1=>∃(q:Query),aA (bN v::bK Cz (bW w)=bN s::bK (dN p) (bW v1)) (fV h s1 s) (aA (Ints h p p1) (cN h q v1) (dV (kZ q)/\bZ (λs2 h1=>bE h h1 (Ints h1 s2 (fG s1 p1 q).1) (eA (fG s1 p1 q).2 0 (K (CV.tup (bK Cz (CV.val (dO (fG s1 p1 q).2)))) m h1) (lE (λv2 s3=>Gh (λs4 s5=>aA (bN v::bK (eD 3) (lF (aU sl))=bN v2::bK (eD 3) (lF (aU s4))) (fV h1 s3 v2) (aA (Leaves h1 s4 s5) (mL s5.length) (eA (sN s3 s5) 0 (dG K (sN s3 s5) m h1) (qF (λv3 q1=>aA (jW (bW w)=jW (bW v3)) (cN h1 q1 v3) (sK q1<=900000/\bZ (λs6 h2=>bE h1 h2 (Ints h2 s6 (i7 q1)) (aA (cA (aG s6)) (aG s6<=aG s6) (aA (qE (aG s6*24)) (qE (aG s6)) (Ig (λI x=>aA
 (I x) (eP 4) (aA (eP 5) (eL 34) (aA (bF s6 (dP x)) (cK s6 (dP x)) (aA (bD x.1) (vA (qJ sl)) (aA (fB w) (Option.some (Own.lst 53 1 (List.replicate (aG s6).toNat iD))=Option.some (Own.lst 53 1 (jB x))) (aA (cH m x.2.2.2) (eJ h2 (wN x)) True)))))) (λI m1 x=>I x->aZ (↑x.1:Int) (aG (dP x)) (aR (λb o=>aA (aT (dP x).a b o) (0<=(↑x.1:Int)) ((↑x.1:Int)<aG (dP x)/\∃(y:Int),aL (mN x) (nW x) b (bA o x.1 1) (cL y)/\aR (λb1 o1=>aA (aT sl.a b1 o1) (0<=y) (y<aG sl/\∃(y1:Sl),aA (aL (mN x) (nW x) b1 (fQ o1 y 1) (aU y1)) (0<=(↑x.1:Int)) ((↑x.1:Int)<kL (jB x)/\∃(e:List Value),Ju (uK (jB x) (rA x.1) e) (0<e.length) (λx1=>aA (I x1) (m1 x1<m1 x) (aA (eP 4) fH (aA (eL
 34) (bF (dP x) (dP x1)) (aA (cK (dP x) (dP x1)) (fN (bG x.1 1)=bV x1.1) (aA (vA (qJ sl)) (fB w) (aA (Option.some (Own.lst 53 1 (List.set (jB x) (rA x.1) (dT y1::List.drop 1 e)))=Option.some (Own.lst 53 1 (jB x1))) (cH (mN x) x1.2.2.2) (j3 (nW x) (wN x1)))))))))))))) (Fk (nW x) (jB x) (λs7 h3 l=>∃(v4:QV)(l1:List (List (List VV)))(q2:Query),aA (bK (dN s7) (bW w)=bK (dN l) (bW v4)) (Leaves h3 l l1) (aA (cN h3 q2 v4) (TO l1 q2 0) (aA (jZ (mN x)) ((i6 l1 q2 0).1.length<=1000000) (C2 (i6 l1 q2 0).1 (λr=>mL r.length)/\bZ (λs8 h4=>bE h3 h4 (Rows h4 s8 (i6 l1 q2 0).1) (K (CV.tup (cJ (dN s8) 0)) (mN x) h4))))))))))))))))))))))))))
abbrev E7(a:List CV)(b:PH)(c:Nat->Option Obj)(d:nS->(List (List (List VV)))->Query->Prop):Prop:=lE (λx x1=>Gh (λx2 x3=>qF (λx4 x5=>aA (a=bN x::bK (lF (aU x2)) (bW x4)) (fV b x1 x) (aA (Nz b x2 x3) (cN b x5 x4) (aA (dV (kZ x5)) (jZ c) (aM ((fG x1 [] x5).2=0) (sN x1 x3=0) (Tz x3 x5)/\d x1 x3 x5))))))
attribute [push_cast] E7
def VB(v:bJ)(sl:Sl)(w:QV)(m:MH)(h:PH)(K:CV->MH->PH->Prop):Prop:=
  E7 (bN v::bK (lF (aU sl)) (bW w)) h m (λs s1 q=>lK h (Ga s s1 q).1 K m)
def VD(o:Int)(v w:QV)(m:MH)(h:PH)(K:CV->MH->PH->Prop):Prop:=
  bZ (λs h1=>bE h h1 (aX h1 s 21 (mK v.enc w.enc)) (K (lF (aJ (dO o) bC (aJ bC bC (aJ bC bC (aJ bC bC (sZ u0 (zN (aU s)))))))) m h1))
noncomputable abbrev tS(a:Int):List Value:=aJ (dO 4) (dO a) xH
attribute [push_cast] tS
def Vz(n:Int)(m:MH)(h:PH)(K:CV->MH->PH->Prop):Prop:=
  K (lF (tS n)) m h
mutual
theorem KS:∀q:Query,(i7 q).length<=sK q
 |.mk op ta _ _ _ _ _ _ args=>by
  have:=IX args;rw[i7,sK,List.length_append];split<;>simp<;>omega
theorem IX:∀qs:List Query,(gZ qs).length<=oA qs
 |[]=>by simp[gZ,oA]
 |q::qs=>by
  have:=KS q;have:=IX qs;rw[gZ,oA,List.length_append];omega
end
theorem Lt:Sound Tryz.prog 21 WB:=by
 refine iB Tryz.func21 ?_;rintro cvs m h K ⟨v,s,sl,st,w,q,rfl,hs,hst,hq,hsm,hT,hb,hK⟩;refine⟨XU w sl,rfl,aD f55q_sound (aD f56_sound (aD f57_sound (aD f58_sound aF))),Pu v sl w m h K,by kernel_rfl,?_⟩;dsimp only[Pu,push_cast];unfold Ga at hK;refine⟨v,bM,w,s,[],q,rfl,hs,gX h,hq,hsm,λsl1 h1 le1 _=>aB (λe=>?_) (λe=>?_)⟩
 .rw[if_pos (by simpa using e)]at hK;exact hK ⟨none,0,0⟩ h1 le1 (bU.nil _ _ _ _)
 have e:(fG s [] q).2=0:=by simpa using e
 rw[if_neg (by simp[e])]at hK;refine⟨v,s,sl,st,rfl,hs.mono le1,(hst.mono le1).lea,hst.len,aB (λe2=>?_) (λe2=>?_)⟩
 .rw[if_pos (by simpa using e2)]at hK;exact hK ⟨none,0,0⟩ h1 le1 (bU.nil _ _ _ _)
 have e2:sN s st=0:=by simpa using e2
 rw[if_neg (by simp[e2])]at hK;dsimp only at hK;obtain⟨c,c1,c2,c3⟩:=hb e e2;obtain⟨_,_,_,hkz⟩:=Hk e;have hkq:bO s [] q=((bO s [] q).1,0):=Prod.ext rfl hkz;obtain⟨ok,ev,rel,len⟩:=Va e2 hst.val c2 c1 hkq c3;have hcnt:=KN hsm;have hsl:=KS q;have hin:=IY hkq;have htl:=(N4 e2).2.1;refine⟨w,q,rfl,hq.mono le1,aC,λs' h2 le2 hi=>?_⟩;have hil:=hi.slen;have hst2:=hst.mono (le1.trans le2);have hstl:=bU.slen hst2.lea;generalize hts:i7 q=ts at hi hil hsl hin;refine⟨aC,aC,aC,aC,λz=>z.1<=ts.length/\z.2.2.1=s'/\z.2.2.2.1=m/\z.2.2.2.2=h2/\∃us,z.2.1=us++List.replicate (ts.length-z.1) ⟨none,0,0⟩/\us.length=z.1/\∀(j:Nat) u t,us[j]? =some u->ts[j]? =some t->Rows h2 u (st.getD t.toNat []),λz=>ts.length-z.1,⟨(0,List.replicate ts.length ⟨none,0,0⟩,s',m,h2),⟨by simp,rfl,rfl,rfl,[],by simp,rfl,λj u t h=>by simp at h⟩,?_⟩,?_⟩
 .rw[show((s'.len:Int)).toNat=ts.length by omega];dsimp only;rw[List.map_replicate];exact MT
 rintro⟨i,l,s2,m2,h3⟩ ⟨hi1,e3,e4,e5,us,hl,hul,hrow⟩;dsimp only at hi1 e3 e4 e5 hl hul hrow⊢
 subst e3 e4 e5;refine aE (λhlt=>?_) (λhge=>?_)
 .obtain⟨t,hx⟩:=fD hil hlt;obtain⟨b,o,ea,rd⟩:=hi.at' hx;have ht:=hin t (List.mem_of_getElem? hx);have htn:t.toNat<st.length:=by omega
  have e6:st[t.toNat]? =some (st.getD t.toNat []):=by rw[List.getD_eq_getElem?_getD,List.getElem?_eq_getElem htn];rfl
  obtain⟨b2,o2,u,ea2,rd2,hr⟩:=bU.at hst2.lea e6;have hll:l.length=ts.length:=by rw[hl,List.length_append,List.length_replicate];omega
  have hev:l[i]? =some ⟨none,0,0⟩:=by
   rw[hl,List.getElem?_append_right aC,List.getElem?_replicate,if_pos aC]
  refine⟨b,o,ea,aC,aC,t,.imm rd,b2,o2,ea2,ht.1,aC,u,.imm rd2,aC,by rw[List.length_map];omega,[u0],by rw[List.getElem?_map,show((i:Int)).toNat=i from rfl,hev];rfl,by simp,(i+1,l.set i u,s2,m2,h3),⟨by show i+1<=ts.length;omega,rfl,rfl,rfl,us++[u],?_,by simp[hul],λj u' t' h7 h8=>?_⟩,by show ts.length-(i+1)<ts.length-i;omega,?_⟩
  .dsimp only;rw[hl,List.set_append,if_neg aC,List.append_assoc];congr 1;rw[show ts.length-i=(ts.length-(i+1))+1 by omega,List.replicate_succ,show i-us.length=0 by omega];rfl
  .by_cases hj:j<us.length
   .rw[List.getElem?_append_left hj]at h7;exact hrow j u' t' h7 h8
   .rw[List.getElem?_append_right aC]at h7;have:j-us.length=0:=by have:=(List.getElem?_eq_some_iff.1 h7).1;simp at this;omega
    rw[this]at h7;simp at h7;subst h7;have:j=i:=by omega
    subst this;rw[hx]at h8;cases h8;exact hr
  .dsimp only
   have e9:((l.map eS).set ((i:Int)).toNat (dT u::List.drop 1 [u0]))=(l.set i u).map eS:=by
    rw[List.map_set];rfl
   rw[e9,kE aC];exact MT
 .have:i=ts.length:=by omega
  subst this;rw[Nat.sub_self,List.replicate_zero,List.append_nil]at hl;subst hl;intro s3 h4 le4 hri;refine⟨s3,w,sF st q,q,rfl,⟨⟨l,hri,by rw[sF,List.length_map,hts,hul],λi x hx=>?_⟩,by rw[sF,List.length_map,hts];omega⟩,hq.mono ((le1.trans le2).trans le4),ok,hT,by rw[ev];exact len,λr hr=>?_,λs5 h5 le5 hr=>hK s5 h5 (((le1.trans le2).trans le4).trans le5) (by rw[<-ev];exact hr)⟩
  .rw[sF,hts,List.getElem?_map]at hx;cases e7:ts[i]? with
   |none=>rw[e7]at hx;cases hx
   |some t=>
    rw[e7]at hx;simp only[Option.map_some,Option.some.injEq]at hx;subst hx;have hil2:=(List.getElem?_eq_some_iff.1 e7).1;exact⟨l[i],List.getElem?_eq_getElem aC,bU.mono (hrow i _ t (List.getElem?_eq_getElem aC) e7) le4 λr t hv=>cF.mono hv le4⟩
  .rw[ev]at hr;have:=(rel.row r hr).len;omega
theorem Uo:Sound Tryz.prog 29 YP:=by
 refine iB Tryz.func29 ?_;rintro cvs m h K ⟨v,s,sl,st,w,q,rfl,hs,hst,hq,hsm,hT,hb,hK⟩;refine⟨dL [(21,WB)] [] [] [] false,rfl,aD Lt aF,VB v sl w m h K,by kernel_rfl,?_⟩;exact⟨v,s,sl,st,w,q,rfl,hs,hst,hq,hsm,hT,hb,hK⟩
theorem Up:Sound Tryz.prog 27 YD:=by
 refine iB Tryz.func27 ?_;rintro cvs m h K ⟨o,v,w,rfl,hK⟩;refine⟨dL [] [] [] [] false,rfl,aF,VD o v w m h K,by kernel_rfl,?_⟩;exact hK
theorem Ui:Sound Tryz.prog 61 Tm:=by
 refine iB Tryz.func61 ?_;rintro cvs m h K ⟨n,rfl,hK⟩;refine⟨dL [] [] [] [] false,rfl,aF,Vz n m h K,by kernel_rfl,?_⟩;exact hK
def Se:Vc.Spec:=λcvs m h K=>∃s r,cvs=[cS s]/\cF h s r/\r.length<=1000/\∀s' h',PH.le h h'->cF h' s' r->K (cS s') m h'
def WM:Vc.Spec:=λcvs m h K=>∃v s t sl r,cvs=[aS v,cI t,cS sl]/\fV h s v/\cF h sl r/\r.length<=1000/\∀s' h',PH.le h h'->cF h' s' (Fs s t r)->K (cS s') m h'
def NI(key:Int)(ks:List Int)(r:List VV):Prop:=r.length=ks.length/\(∀v∈r,HS v)/\∀(i:Nat) v k,r[i]? =some v->ks[i]? =some k->wT key k i v=true
def Zu:Vc.Spec:=λcvs m h K=>∃cb s key ks,cvs=[cP cb,cS s,cI key,cI 3]/\aK m h cb/\Ints h s ks/\ks.length<=1000/\(∀k∈ks,k=3\/k=4\/k=5)/\∀s' r m' h',PH.le h h'->cF h' s' r->NI key ks r->bB m m' cb->aK m' h' cb->K (cS s') m' h'
def UY(m:MH)(tb:Nat)(us:List Sl):Prop:=∃cur:Array Value,m tb=some (.cells cur 53 (0,0))/\us.length<=cur.size/\cur.toList.take us.length=us.map Sl.val
def Zw:Vc.Spec:=λcvs m h K=>∃v s tb n cap us u,∃t:Nat,∃tab rs sk kr sr row,cvs=[aS v,Ze ⟨some ⟨tb,0,none⟩,n,cap⟩,cI t,cS sk,cS sr]/\fV h s v/\s.tables[t]? =some tab/\UY m tb us/\n=us.length/\us[t]? =some u/\Rows h u rs/\rs.length<=1000/\(∀r∈rs,r.length<=1000)/\cF h sk kr/\cF h sr row/\0<row.length/\row.length<=1000/\
 ∀u' m' h',PH.le h h'->Rows h' u' (xE tab kr row false rs)->UY m' tb (us.set t u')->bB m m' tb->K (Ze ⟨some ⟨tb,0,none⟩,n,cap⟩) m' h'
noncomputable def XN(cb:Nat)(key:Int)(s:Sl):Ctx:=dL [(16,Ku),(77,Nx)]
 [(3,{A:=Nat×List VV×MH×PH,st:=λ⟨i,l,m,h⟩=>cD 59 63 [(0,pv cb),(2,iv key),(3,iv 3),(9,.at (.lst 24)),(12,sv s),(13,iv s.len),(14,iv i)] [(24,.lst 27 3 (l.map VV.enc))] m h})] [] [] false
noncomputable def XK(v:bJ)(sl:Sl)(t:Nat)(sk sr:Sl)(m:MH):Ctx:=dL [(46,WM),(62,HN),(53,Se)]
 [(4,{A:=Nat×List Sl×Bool×Sl×PH,st:=λ⟨i,us,d,u,h⟩=>cD 66 71 [(2,iv t),(3,sv sk),(4,sv sr),(5,.at (.ptr 5 0)),(6,.at (.ptr 6 0)),(10,.at (.ptr 10 0)),(11,.at (.lst 45)),(12,bv d),(23,sv u),(24,iv u.len),(25,iv i)] [(5,.cells 43 (v.enc.map .val)),(6,.cells 25 [.val sl.val]),(10,.cells 25 [.val bM.val]),(45,.lst 74 1 (us.map eS))] m h})]
 [(9,{A:=Nat×List Sl×Bool×Sl×Sl×Int×PH,st:=λ⟨i,us,d,u,r,c,h⟩=>cD 66 71 [(2,iv t),(3,sv sk),(4,sv sr),(5,.at (.ptr 5 0)),(6,.at (.ptr 6 0)),(10,.at (.ptr 10 0)),(11,.at (.lst 45)),(12,bv d),(14,sv r),(15,iv c),(23,sv u),(24,iv u.len),(25,iv i)] [(5,.cells 43 (v.enc.map .val)),(6,.cells 25 [.val sl.val]),(10,.cells 25 [.val bM.val]),(45,.lst 74 1 (us.map eS))] m h}),
  (14,{A:=List Sl×PH,st:=λ⟨us,h⟩=>cD 66 71 [(2,iv t),(6,.at (.ptr 6 0)),(10,.at (.ptr 10 0)),(11,.at (.lst 45))] [(6,.cells 25 [.val sl.val]),(10,.cells 25 [.val bM.val]),(45,.lst 74 1 (us.map eS))] m h})] [] false
def f53_nice(s:Sl)(m:MH)(h:PH)(K:CV->MH->PH->Prop):Prop:=
  ∃(y:List (List Value)),aA (dW 3 y) (aX h (cZ s) 3 y) (aA (gM (y.length*32)) (gM y.length) (yG h 3 y K m))
def Pf(v:bJ)(t:Int)(s:Sl)(m:MH)(h:PH)(K:CV->MH->PH->Prop):Prop:=
  aZ t 0 (K Cz m h) (fU t (gQ v) (K Cz m h) (aR (λb o=>aA (aT (pD v) b o) (0<=t) (t<aG v.tables/\∃(y:Int),aA (aL m h b (fQ o t 5+2) (cL y)) (0<=ite (o9 s y>0) (o9 s y) 0) (ite (o9 s y>0) (o9 s y) 0<=(↑s.cap:Int)/\E5 (jW (CV.val (Value.slice s.a (ite (o9 s y>0) (o9 s y) 0).toNat s.cap))) h (λs1 h1=>K (dN s1) m h1))))))
noncomputable abbrev yR(a:Nat×List VV×MH×PH):Nat->Option Obj:=a.2.2.1
noncomputable abbrev rG(a:Nat×List VV×MH×PH):Nat->Nat->Option Value:=a.2.2.2
abbrev yF(a:Nat×List VV×MH×PH)(b:(Nat×List VV×MH×PH)->Prop):Prop:=aA (gM (((rN a.2.1).length+1)*32)) (iF (rN a.2.1)) (∃(x:Nat×List VV×MH×PH),b x)
abbrev yO(a:Prop)(b c d:Nat)(e:Int)(g:Sl)(i j:Nat×List VV×MH×PH)(k:Prop)(l:MH):Prop:=aA a (b<c) (aA (cV d) (eQ (fN e)) (aA iZ (eL 24) (aA (aI g) (bL g) (aA (fN (bG i.1 1)=bV j.1) k (aA (cH l j.2.2) (eJ (rG i) j.2.2) True)))))
abbrev yE(a:Nat)(b:Nat×List VV×MH×PH)(c:List Value)(d:Nat×List VV×MH×PH):Prop:=Option.some (Own.lst 27 a (rN b.2.1++fE c))=Option.some (Own.lst 27 a (rN d.2.1))
attribute [push_cast] yR rG yF yO yE
def Pj(cb:Nat)(s:Sl)(key:Int)(m:MH)(h:PH)(K:CV->MH->PH->Prop):Prop:=
  ∃(I:Nat×List VV×MH×PH->Prop)(m1:Nat×List VV×MH×PH->Nat),(∃(x:Nat×List VV×MH×PH),aA (I x) (cV cb) (aA (eQ (fN key)) iZ (aA (eL 24) (aI s) (aA (bL s) (bD x.1) (aA (Option.some (Own.lst 27 3 [])=Option.some (Own.lst 27 3 (rN x.2.1))) (cH m x.2.2) (eJ h x.2.2/\True))))))/\∀(x:Nat×List VV×MH×PH),I x->aZ (↑x.1:Int) (aG s) (aR (λb o=>aA (aT s.a b o) (0<=(↑x.1:Int)) ((↑x.1:Int)<aG s/\∃(y:Int),aL (yR x) (rG x) b (bA o x.1 1) (cL y)/\cT (decide ((↑x.1:Int)>=key)) (kA cb 5 (yR x) (rG x) (λc r=>∀(m2:MH),aM (bB (yR x) m2 c) (aK m2 (rG x) c) (cT r (yF x (λx1=>yO (I x1) (m1 x1) (m1 x) cb key s x x1 (yE 3 x (aJ (dO 2) bC xH) x1) m2)) (decide ((↑x.1:Int)>=key)) (kA cb
 5 m2 (rG x) (λc1 r1=>∀(m3:MH),aM (bB m2 m3 c1) (aK m3 (rG x) c1) (branch r1 (yF x (λx1=>yO (I x1) (m1 x1) (m1 x) cb key s x x1 (yE 3 x (aJ (dO 1) bC xH) x1) m3)) (A8 cb y m3 (rG x) (λv m4=>yF x (λx1=>yO (I x1) (m1 x1) (m1 x) cb key s x x1 (yE 3 x v.enc x1) m4)))))) (A8 cb y m2 (rG x) (λv m3=>yF x (λx1=>yO (I x1) (m1 x1) (m1 x) cb key s x x1 (yE 3 x v.enc x1) m3)))))) (decide ((↑x.1:Int)>=key)) (kA cb 5 (yR x) (rG x) (λc r=>∀(m2:MH),aM (bB (yR x) m2 c) (aK m2 (rG x) c) (branch r (yF x (λx1=>yO (I x1) (m1 x1) (m1 x) cb key s x x1 (yE 3 x (aJ (dO 1) bC xH) x1) m2)) (A8 cb y m2 (rG x) (λv m3=>yF x (λx1=>yO (I x1) (m1 x1) (m1 x) cb key s x x1 (yE 3 x v.enc x1)
 m3)))))) (A8 cb y (yR x) (rG x) (λv m2=>yF x (λx1=>yO (I x1) (m1 x1) (m1 x) cb key s x x1 (yE 3 x v.enc x1) m2)))))) (yG (rG x) 3 (rN x.2.1) K (yR x))
noncomputable abbrev yP(a:Nat×List Sl×Bool×Sl×PH):Bool:=a.2.2.1
noncomputable abbrev pA(a:Nat×List Sl×Bool×Sl×PH):Sl:=a.2.2.2.1
abbrev oO:Prop:=vA (pJ CB)
noncomputable abbrev sA(a:Nat×List Sl×Bool×Sl×PH):List (List Value):=qG a.2.1
noncomputable abbrev uJ(a:Nat×List Sl×Bool×Sl×PH):Nat->Nat->Option Value:=a.2.2.2.2
abbrev Ih(a:(Nat×List Sl×Bool×Sl×Sl×Int×PH)->Prop)(b:Nat)(c d:Sl)(e:(Nat×List Sl×Bool×Sl×Sl×Int×PH)->Prop):Prop:=∃(x:Nat×List Sl×Bool×Sl×Sl×Int×PH),aA (a x) (eQ (bV b)) (aA (aI c) (aI d) (aA fH (eP 6) (aA hU (eL 45) (e x))))
noncomputable abbrev rY(a:Nat×List Sl×Bool×Sl×Sl×Int×PH):Sl:=a.2.2.2.1
noncomputable abbrev Bm(a:Nat×List Sl×Bool×Sl×Sl×Int×PH):List (List Value):=qG a.2.1
noncomputable abbrev Da(a:Nat×List Sl×Bool×Sl×Sl×Int×PH):Nat->Nat->Option Value:=a.2.2.2.2.2.2
attribute [push_cast] yP pA oO sA uJ Ih rY Bm Da
def Pg(v:bJ)(tb n cap t:Nat)(sk sr:Sl)(m:MH)(h:PH)(K:CV->MH->PH->Prop):Prop:=
  aR (λb o=>aA (aT (j9 tb) b o) (0<=(↑t:Int)) ((↑t:Int)<(↑n:Int)/\∃(y:Sl),aL m h b (bA o t 1) (aU y)/\∃(I:Nat×List Sl×Bool×Sl×PH->Prop)(m1:Nat×List Sl×Bool×Sl×PH->Nat),(∃(x:Nat×List Sl×Bool×Sl×PH),aA (I x) (eQ (bV t)) (aA (aI sk) (aI sr) (aA fH (eP 6) (aA hU (eL 45) (aA (gR (aG sr==0) (yP x)) (bF y (pA x)) (aA (cK y (pA x)) (bD x.1) (aA (bP v) (vA (pJ (At.val (Value.slice (j9 tb) n cap)))) (aA oO (Option.some (Own.lst 74 1 [])=Option.some (Own.lst 74 1 (sA x))) (dQ m m h (uJ x))))))))))/\∀(x:Nat×List Sl×Bool×Sl×PH),I x->aZ (↑x.1:Int) (aG (pA x)) (aR (λb1 o1=>aA (aT (pA x).a b1 o1) (0<=(↑x.1:Int)) ((↑x.1:Int)<aG (pA x)/\∃(y1:Sl),aL m
 (uJ x) b1 (bA o1 x.1 1) (aU y1)/\lE (λv1 s=>∃(t1:Int),nE (λs1 r=>aA (bN v::bK (eD (↑t:Int)) (dN y1)=bN v1::bK (eD t1) (dN s1)) (fV (uJ x) s v1) (aA (cF (uJ x) s1 r) (mL r.length) (bZ (λs2 h1=>bE (uJ x) h1 (cF h1 s2 (Fs s t1 r)) (C1 s2 sk h1 (λa b2=>∃(I1:Nat×List Sl×Bool×Sl×Sl×Int×PH->Prop),fU (dR a b2) 0 (gP (yP x) (E5 (fX sr) h1 (λs3 h2=>nO (sA x) 24 (Ih (λx1=>I1 x1) t sk sr (λx1=>aA (vC x1.2.2.1) (bF y1 x1.2.2.2.2.1) (aA (cG (dR a b2) x1.2.2.2.2.2.1) (bF (pA x) (rY x1)) (aA (cK (pA x) (rY x1)) (bY x.1 x1.1) (aA (bP v) (vA (pJ (At.val (Value.slice (j9 tb) n cap)))) (aA oO (pP (jC (sA x) s3) (Bm x1)) (aA (m=m)
 (h2=Da x1) True))))))))) (Ih (λx1=>I1 x1) t sk sr (λx1=>aA (gR (yP x) x1.2.2.1) (bF y1 x1.2.2.2.2.1) (aA (cG (dR a b2) x1.2.2.2.2.2.1) (bF (pA x) (rY x1)) (aA (cK (pA x) (rY x1)) (bY x.1 x1.1) (aA (bP v) (vA (pJ (At.val (Value.slice (j9 tb) n cap)))) (aA oO (pP (sA x) (Bm x1)) (aA (m=m) (h1=Da x1) True)))))))) (Ih (λx1=>I1 x1) t sk sr (λx1=>aA (gR (yP x) x1.2.2.1) (bF y1 x1.2.2.2.2.1) (aA (cG (dR a b2) x1.2.2.2.2.2.1) (bF (pA x) (rY x1)) (aA (cK (pA x) (rY x1)) (bY x.1 x1.1) (aA (bP v) (vA (pJ (At.val (Value.slice (j9 tb) n cap)))) (aA oO (pP (sA x) (Bm x1)) (aA (m=m) (h1=Da x1) True)))))))/\∀(x1:Nat×List Sl×Bool×Sl×Sl×Int×
 PH),fT (I1 x1) (x1.2.2.2.2.2.1 !=0) (nO (Bm x1) 24 (∃(x2:Nat×List Sl×Bool×Sl×PH),aA (I x2) (m1 x2<m1 x) (aA (eQ (bV t)) (aI sk) (aA (aI sr) fH (aA (eP 6) hU (aA (eL 45) (gR x1.2.2.1 (yP x2)) (aA (bF (rY x1) (pA x2)) (cK (rY x1) (pA x2)) (aA (fN (bG x1.1 1)=bV x2.1) (bP v) (aA (vA (pJ (At.val (Value.slice (j9 tb) n cap)))) oO (cO (pP (jC (Bm x1) x1.2.2.2.2.1) (sA x2)) m m (Da x1) (uJ x2))))))))))) (∃(x2:Nat×List Sl×Bool×Sl×PH),aA (I x2) (m1 x2<m1 x) (aA (eQ (bV t)) (aI sk) (aA (aI sr) fH (aA (eP 6) hU (aA (eL 45) (gR x1.2.2.1 (yP x2)) (aA (bF (rY x1) (pA x2)) (cK (rY x1) (pA x2)) (aA (fN (bG x1.1 1)=bV x2.1) (bP v) (aA (vA (pJ (At.val
 (Value.slice (j9 tb) n cap)))) oO (cO (pP (Bm x1) (sA x2)) m m (Da x1) (uJ x2)))))))))))))))))))) (∃(I1:List Sl×PH->Prop),gP (yP x) (E5 (fX sr) (uJ x) (λs h1=>nO (sA x) 24 (∃(x1:List Sl×PH),aA (I1 x1) (eQ (bV t)) (aA (eP 6) hU (aA (eL 45) (vA (pJ (At.val (Value.slice (j9 tb) n cap)))) (aA oO (pP (jC (sA x) s) (qG x1.1)) (dQ m m h1 x1.2))))))) (∃(x1:List Sl×PH),aA (I1 x1) (eQ (bV t)) (aA (eP 6) hU (aA (eL 45) (vA (pJ (At.val (Value.slice (j9 tb) n cap)))) (aA oO (pP (sA x) (qG x1.1)) (dQ m m (uJ x) x1.2)))))/\∀(x1:List Sl×PH),I1 x1->aR (λb1 o1=>aA (aT (j9 tb) b1 o1) (0<=(↑t:Int)) ((↑t:Int)<(↑n:Int)/\bZ (λs h1=>bE x1.2 h1 (aX h1 s 1
 (qG x1.1)) (oJ m b1 (bA o1 t 1) (aU s) (λm2=>K (lF (iO (Value.slice (j9 tb) n cap))) m2 h1))))))))
theorem f53_sound:Sound Tryz.prog 53 Se:=by
 refine iB Tryz.func53 ?_;rintro cvs m h K ⟨s,r,rfl,hs,hl,hK⟩;refine⟨dL [] [] [] [] false,rfl,aF,f53_nice s m h K,by kernel_rfl,?_⟩;dsimp only[f53_nice,push_cast];obtain⟨⟨vs,h1,h2,h3⟩,h4⟩:=hs;exact⟨vs.map VV.enc,IZ vs,h1,by rw[List.length_map];omega,by rw[List.length_map];omega,λs' h' le hri=>hK s' h' le ⟨⟨vs,hri,h2,h3⟩,h4⟩⟩
theorem Lm:Sound Tryz.prog 46 WM:=by
 refine iB Tryz.func46 ?_;rintro cvs m h K ⟨v,s,t,sl,r,rfl,hs,hv,hl,hK⟩;refine⟨dL [(53,Se)] [] [] [] false,rfl,aD f53_sound aF,Pf v t sl m h K,by kernel_rfl,?_⟩;dsimp only[Pf,push_cast];have htl:=hs.tables.slen;have hrl:=bU.slen hv;have none_:tI s t=false->K Cz m h:=λe=>hK ⟨none,0,0⟩ h (.refl _) (by simp only[Fs,e];exact bU.nil _ _ _ _);refine aE (λh1=>none_ (by simp[tI];omega)) (λh1=>aE (λh2=>none_ (by simp[tI];omega)) (λh2=>?_));have e:tI s t=true:=by simp[tI];omega
 obtain⟨tb,htb⟩:∃tb,s.tables[t.toNat]? =some tb:=⟨_,List.getElem?_eq_getElem aC⟩
 obtain⟨b,o,y,ea,rd,hy⟩:=bU.at hs.tables htb;have hk:=hy.key;obtain⟨a,len,cap⟩:=sl;have hcap:len<=cap:=by obtain⟨vs,h5,_⟩:=hv.ex;exact h5.cap
 have hrl:len=r.length:=hrl
 have hmm:(if(if(len:Int)<y.key then(len:Int)else y.key)>0 then(if(len:Int)<y.key then(len:Int)else y.key)else 0)=max 0 (min tb.key r.length):=by
  rw[<-hk];split<;>split<;>omega
 refine⟨b,o,ea,aC,aC,y.key,.imm (aY.part rd 2 1),?_⟩;dsimp only;rw[hmm];have e2:Fs s t r=r.take (max 0 (min tb.key r.length)).toNat:=by simp only[Fs,e,if_true,htb];rfl
 rw[e2]at hK;exact⟨aC,aC,⟨a,(max 0 (min tb.key r.length)).toNat,cap⟩,_,rfl,hv.cut aC,by rw[List.length_take];omega,hK⟩
theorem NI.snoc{key:Int}{ks:List Int}{l:List VV}{k:Int}{v:VV}(x:NI key (ks.take i) l)(hk:ks[i]? =some k)(hv:HS v)(hf:wT key k i v=true):NI key (ks.take (i+1)) (l++[v]):=by
 obtain⟨h1,h2,h3⟩:=x;have hi:=(List.getElem?_eq_some_iff.1 hk).1;have hl:l.length=i:=by rw[h1,List.length_take];omega
 refine⟨by rw[List.length_append,List.length_take];simp;omega,λu hu=>?_,λj u k' hu hk'=>?_⟩
 .rcases List.mem_append.1 hu with hu|hu
  .exact h2 u hu
  .simp at hu;subst hu;exact hv
 .rw[List.getElem?_take]at hk';split at hk'
  .by_cases hj:j<l.length
   .rw[List.getElem?_append_left hj]at hu;exact h3 j u k' hu (by rw[List.getElem?_take,if_pos aC];exact hk')
   .have:j=i:=by omega
    subst this;rw[List.getElem?_append_right aC,hl,Nat.sub_self]at hu;simp at hu;subst hu;rw[hk]at hk';cases hk';exact hf
  .cases hk'
theorem OL{key k c:Int}(hc:c=1\/c=2)(hi:(i:Int)>=key):wT key k i ⟨c,0,⟨#[]⟩⟩=true:=by
 rcases hc with rfl|rfl<;>simp[wT,jL,D3]<;>omega
theorem Gv{key k:Int}{v:VV}(hk:Yo k)(hv:Tq k v):wT key k i v=true:=by
 obtain⟨h1,h2⟩:=hv hk;simp[wT,h1,h2]
theorem NW(c:Int):HS ⟨c,0,⟨#[]⟩⟩:=⟨⟨by simp,by simp⟩,by show(ByteArray.mk #[]).size<=64;decide⟩
theorem Uk:Sound Tryz.prog 43 Zu:=by
 refine iB Tryz.func43 ?_;rintro cvs m h K ⟨cb,s,key,ks,rfl,hc,hs,hl,hk,hK⟩;refine⟨XN cb key s,rfl,aD wY (aD Gw aF),Pj cb s key m h K,by kernel_rfl,?_⟩;dsimp only[Pj,push_cast];have hsl:=hs.slen;refine⟨λz=>z.2.2.2=h/\z.1<=ks.length/\NI key (ks.take z.1) z.2.1/\bB m z.2.2.1 cb/\aK z.2.2.1 h cb,λz=>ks.length-z.1,⟨(0,[],m,h),⟨rfl,by simp,⟨by simp,by simp,λj u k h=>by simp at h⟩,.refl _ _,hc⟩,MT⟩,?_⟩;rintro⟨i,l,m1,h'⟩ ⟨e1,hi,hfit,o1,c1⟩;dsimp only at e1 hi hfit o1 c1⊢
 subst e1;have hll:l.length=i:=by rw[hfit.1,List.length_take];omega
 refine aE (λhlt=>?_) (λhge s' h2 le2 hri=>?_)
 .obtain⟨k,hx⟩:=fD hsl hlt;obtain⟨b,o,ea,rd⟩:=hs.at' hx;have hkk:=hk k (List.mem_of_getElem? hx);have hI:∀(u:VV)(m':MH),HS u->wT key k i u=true->bB m1 m' cb->aK m' h' cb->h'=h'/\i+1<=ks.length/\NI key (ks.take (i+1)) (l++[u])/\bB m m' cb/\aK m' h' cb:=λu m' hu hf o c=>⟨rfl,aC,hfit.snoc hx hu hf,o1.trans o,c⟩
  have hmu:ks.length-(i+1)<ks.length-i:=by omega
  have hw:IntKind.i64.wrap ((i:Int)+1)=((i+1:Nat):Int):=kE aC;refine⟨b,o,ea,aC,aC,k,.imm rd,aE (λhik=>⟨cb,5,rfl,aC,aC,c1,λr m2 o2 c2=>aB (λ_=>?_) (λ_=>aE (λ_=>⟨cb,5,rfl,aC,aC,c2,λr m3 o3 c3=>aB (λ_=>?_) (λ_=>⟨cb,k,rfl,c3,λu m4 hu hku o4 c4=>?_⟩)⟩) (λ_=>⟨cb,k,rfl,c2,λu m4 hu hku o4 c4=>?_⟩))⟩) (λhik=>aE (λhik2=>absurd hik2 hik) (λ_=>⟨cb,k,rfl,c1,λu m4 hu hku o4 c4=>?_⟩))⟩
  .refine⟨by rw[List.length_map];omega,by rw[List.length_map];omega,(i+1,l++[⟨2,0,⟨#[]⟩⟩],m2,h'),hI _ m2 (NW 2) (OL (.inr rfl) hik) o2 c2,hmu,?_⟩;rw[hw,List.map_append];exact MT
  .refine⟨by rw[List.length_map];omega,by rw[List.length_map];omega,(i+1,l++[⟨1,0,⟨#[]⟩⟩],m3,h'),hI _ m3 (NW 1) (OL (.inl rfl) hik) (o2.trans o3) c3,hmu,?_⟩;rw[hw,List.map_append];exact MT
  .refine⟨by rw[List.length_map];omega,by rw[List.length_map];omega,(i+1,l++[u],m4,h'),hI _ m4 hu (Gv hkk hku) ((o2.trans o3).trans o4) c4,hmu,?_⟩;rw[hw,List.map_append];exact MT
  .refine⟨by rw[List.length_map];omega,by rw[List.length_map];omega,(i+1,l++[u],m4,h'),hI _ m4 hu (Gv hkk hku) (o2.trans o4) c4,hmu,?_⟩;rw[hw,List.map_append];exact MT
  .refine⟨by rw[List.length_map];omega,by rw[List.length_map];omega,(i+1,l++[u],m4,h'),hI _ m4 hu (Gv hkk hku) o4 c4,hmu,?_⟩;rw[hw,List.map_append];exact MT
 .rw[List.take_of_length_le aC]at hfit;exact hK s' l m1 h2 le2 ⟨⟨l,hri,rfl,λi x hx=>⟨x,hx,rfl⟩⟩,aC⟩ hfit o1 (c1.mono le2)
theorem Uj:Sound Tryz.prog 45 Zw:=by
 refine iB Tryz.func45 ?_;rintro cvs m h K ⟨v,s,tb,n,cap,us,u,t,tab,rs,sk,kr,sr,row,rfl,hs,htab,hT,hn,hu,hrs,hrl,hrw,hkr,hrow,h0,h1,hK⟩;refine⟨XK v ⟨some ⟨tb,0,none⟩,n,cap⟩ t sk sr m,rfl,aD Lm (aD Ll (aD f53_sound aF)),Pg v tb n cap t sk sr m h K,by kernel_rfl,?_⟩;dsimp only[Pg,push_cast];obtain⟨cur,hcur,hcs,hcl⟩:=hT;have htl:t<us.length:=(List.getElem?_eq_some_iff.1 hu).1;have hul:=bU.slen hrs;have hsrl:=bU.slen hrow;have hd0:((sr.len:Int)==0)=false:=by simp;omega
 have hrd:(cur.toList.drop (0+t*1)).take [dT u].length=[dT u]:=by
  have hcurt:cur.toList[t]? =some (Sl.val u):=by
   have e:(cur.toList.take us.length)[t]? =some (Sl.val u):=by rw[hcl,List.getElem?_map,hu];rfl
   rwa [List.getElem?_take,if_pos htl]at e
  have hlt:=(List.getElem?_eq_some_iff.1 hcurt).1;rw[Nat.zero_add,Nat.mul_one,List.drop_eq_getElem_cons hlt,(List.getElem?_eq_some_iff.1 hcurt).2];rfl
 refine⟨tb,0,rfl,aC,aC,u,.lent cur 53 (0,0) hcur hrd,λz=>z.2.2.2.1=u/\z.1<=rs.length/\PH.le h z.2.2.2.2/\∃out,eB z.2.2.2.2 z.2.1 out/\out.length<=2*z.1/\out++xE tab kr row z.2.2.1 (rs.drop z.1)=xE tab kr row false rs,λz=>rs.length-z.1,⟨(0,[],false,u,h),⟨rfl,by simp,.refl _,[],eB.nil _,by simp,by simp⟩,by rw[hd0];exact MT⟩,?_⟩;rintro⟨i,vs,d,u',hx⟩ ⟨e1,hi,le1,out,hru,hol,kW⟩;dsimp only at e1 hi le1 hru hol kW⊢
 subst e1;have hvl:=hru.len;refine aE (λhlt=>?_) (λhge=>?_)
 .obtain⟨r,hxr⟩:=fD hul hlt;have hil:=(List.getElem?_eq_some_iff.1 hxr).1;obtain⟨b,o,w,ea,rd,hv⟩:=bU.at hrs hxr;have hdrop:rs.drop i=r::rs.drop (i+1):=by rw[List.drop_eq_getElem_cons hil,(List.getElem?_eq_some_iff.1 hxr).2]
  rw[hdrop,xE]at kW;refine⟨b,o,ea,aC,aC,w,.imm (rd.mono le1),v,s,t,w,r,rfl,hs.mono le1,cF.mono hv le1,hrw r (List.mem_of_getElem? hxr),λs' h2 le2 hkv=>⟨s',sk,_,kr,rfl,hkv,cF.mono hkr (le1.trans le2),?_⟩⟩;rw[Dl htab];generalize hc:dR (jK tab r) kr=c at kW⊢
  refine⟨λz=>z.1=i/\z.2.2.2.1=u'/\z.2.2.2.2.1=w/\z.2.2.2.2.2.1=c/\PH.le hx z.2.2.2.2.2.2/\∃out,eB z.2.2.2.2.2.2 z.2.1 out/\out.length<=2*i+1/\out++((if c≠0 then[r]else[])++xE tab kr row z.2.2.1 (rs.drop (i+1)))=xE tab kr row false rs,aE (λhc0=>aB (λhd=>?_) (λhd=>?_)) (λhc0=>?_),?_⟩
  .have hd:d=false:=by simpa using hd
   subst hd;rw[if_pos ⟨hc0,rfl⟩,show(false||decide (0<=c))=true by simp;omega]at kW;refine⟨sr,row,rfl,cF.mono hrow (le1.trans le2),h1,λs2 h3 le3 hv3=>⟨by rw[List.length_map];omega,by rw[List.length_map];omega,(i,vs++[s2],true,u',w,c,h3),⟨rfl,rfl,rfl,rfl,le2.trans le3,out++[row],(hru.mono (le2.trans le3)).snoc hv3,by rw[List.length_append];simp;omega,?_⟩,?_⟩⟩
   .rw[List.append_assoc];exact kW
   .rw[List.map_append];exact MT
  .have hd:d=true:=by simpa using hd
   subst hd;rw[if_neg (by simp),Bool.true_or,List.nil_append]at kW;exact⟨(i,vs,true,u',w,c,h2),⟨rfl,rfl,rfl,rfl,le2,out,hru.mono le2,aC,kW⟩,MT⟩
  .rw[if_neg (λh=>hc0 h.1),show(d||decide (0<=c))=d by rw[decide_eq_false hc0,Bool.or_false],List.nil_append]at kW;exact⟨(i,vs,d,u',w,c,h2),⟨rfl,rfl,rfl,rfl,le2,out,hru.mono le2,aC,kW⟩,MT⟩
  clear kW hru hol hvl out vs;rintro⟨i',vs,d,u2,w2,c2,h3⟩ ⟨e2,e3,e4,e5,le3,out,hru,hol,kW⟩;dsimp only at e2 e3 e4 e5 le3 hru hol kW⊢
  subst e2 e3 e4 e5;have hvl:=hru.len;have hw:IntKind.i64.wrap ((i':Int)+1)=((i'+1:Nat):Int):=kE aC;refine aB (λhcn=>?_) (λhcn=>?_)
  .rw[if_pos (by simpa using hcn)]at kW;refine⟨by rw[List.length_map];omega,by rw[List.length_map];omega,(i'+1,vs++[w2],d,u2,h3),⟨rfl,by show i'+1<=rs.length;omega,le1.trans le3,out++[r],hru.snoc (cF.mono hv (le1.trans le3)),by rw[List.length_append];simp;omega,by rw[List.append_assoc];exact kW⟩,by show rs.length-(i'+1)<rs.length-i';omega,?_⟩;rw[hw,List.map_append];exact MT
  .rw[if_neg (by simpa using hcn),List.nil_append]at kW;refine⟨(i'+1,vs,d,u2,h3),⟨rfl,by show i'+1<=rs.length;omega,le1.trans le3,out,hru,by show out.length<=2*(i'+1);omega,kW⟩,by show rs.length-(i'+1)<rs.length-i';omega,?_⟩;rw[hw];exact MT
 .have hi2:i=rs.length:=by omega
  rw[hi2,List.drop_length,xE]at kW;refine⟨λz=>PH.le h z.2/\eB z.2 z.1 (xE tab kr row false rs),aB (λhd=>?_) (λhd=>?_),?_⟩
  .have hd:d=false:=by simpa using hd
   rw[hd,if_neg (by simp)]at kW;refine⟨sr,row,rfl,cF.mono hrow le1,h1,λs2 h3 le3 hv3=>⟨by rw[List.length_map];omega,by rw[List.length_map];omega,(vs++[s2],h3),⟨le1.trans le3,by rw[<-kW];exact(hru.mono le3).snoc hv3⟩,?_⟩⟩;rw[List.map_append];exact MT
  .have hd:d=true:=by simpa using hd
   rw[hd,if_pos rfl,List.append_nil]at kW;exact⟨(vs,hx),⟨le1,by rw[<-kW];exact hru⟩,MT⟩
  rintro⟨vs2,h3⟩ ⟨le3,hru3⟩;dsimp only at le3 hru3⊢
  have hpl:=HY (t:=tab) (key:=kr) (row:=row) (l:=rs) (d:=false);refine⟨tb,0,rfl,aC,aC,λs2 h4 le4 hri=>⟨cur,53,⟨hcur⟩,?_,λm' hup=>hK s2 m' h4 (le3.trans le4) ((hru3.mono le4).rows hri (by simp at hpl;omega)) ⟨_,hup.at_,?_,?_⟩ ⟨λb hb=>(hup.other b hb).symm▸rfl⟩⟩⟩
  .omega
  .have hsp:splice cur.toList (0+((t:Int)).toNat*1) [dT s2]=cur.toList.set t (Sl.val s2):=by
    rw[List.set_eq_take_append_cons_drop,if_pos (by rw[Array.length_toList];omega)];simp only[splice,Int.toNat_natCast,Nat.zero_add,Nat.mul_one,List.length_singleton,List.append_assoc];rfl
   rw[hsp];simp only[List.length_set,List.size_toArray,Array.length_toList];exact hcs
  .have hsp:splice cur.toList (0+((t:Int)).toNat*1) [dT s2]=cur.toList.set t (Sl.val s2):=by
    rw[List.set_eq_take_append_cons_drop,if_pos (by rw[Array.length_toList];omega)];simp only[splice,Int.toNat_natCast,Nat.zero_add,Nat.mul_one,List.length_singleton,List.append_assoc];rfl
   rw[hsp,List.length_set,List.map_set, <-hcl,List.take_set]
def Kr{α:Type}(T:List α->α->Prop):List α->List α->Prop
 |_,[]=>True
 |pre,x::r=>T pre x/\Kr T (pre++[x]) r
theorem OK{α:Type}{T:List α->α->Prop}:∀{l pre:List α},Kr T pre l->∀(j:Nat) x,l[j]? =some x->T (pre++l.take j) x
 |[],_,_,j,x,e=>by simp at e
 |y::r,pre,h,0,x,e=>by simp at e;subst e;simpa using h.1
 |y::r,pre,h,j+1,x,e=>by
  have:=OK h.2 j x (by simpa using e);simpa using this
theorem wR{α:Type}{T:List α->α->Prop}{l:List α}(h:Kr T [] l):Good T l:=λj x e=>by simpa using OK h j x e
theorem TZ{α:Type}{T:List α->α->Prop}{l:List α}(h:Good T l)(n:Nat):Good T (l.take n):=λj x e=>by
 rw[List.getElem?_take]at e;split at e
 .rename_i hj;rw[List.take_take,Nat.min_eq_left aC];exact h j x e
 .cases e
theorem Vd(h8:s.tables.length<=8)(hl:∀t∈s.tables,t.columns.length<=8/\t.refs=[]/\t.checks=[])(v0:0<=s.version)(v1:s.version<=1000)(hg:Good Au s.tables):eE s=0:=by
 have lim:BA s:=⟨h8,λj t e=>by
  obtain⟨h1,h2,h3⟩:=hl t (List.mem_of_getElem? e);exact⟨h1,by simp[h2],by simp[h3]⟩⟩
 have ok:HL s:=⟨v0,v1,hg,λj t e=>by
  obtain⟨h1,h2,h3⟩:=hl t (List.mem_of_getElem? e);unfold BM;rw[h2];intro i x e2;simp at e2⟩
 rw[F6 lim ok];refine Aa _ λe he=>?_;obtain⟨i,_,he⟩:=List.mem_flatMap.1 he;unfold qT at he;split at he
 .rename_i t ht;obtain⟨h1,h2,h3⟩:=hl t (List.mem_of_getElem? ht);rw[h3]at he;simp at he
 .simp at he
theorem Qk{id:Int}(h:id=4\/id=5):Good Au (kO id):=by
 have hk:dM id=true:=by rcases h with rfl|rfl<;>rfl
 refine wR ⟨⟨?_,?_,?_,?_,wR ⟨⟨?_,?_,?_⟩,⟨?_,?_,?_⟩,trivial⟩⟩,⟨?_,?_,?_,?_,wR ⟨⟨?_,?_,?_⟩,⟨?_,?_,?_⟩,⟨?_,?_,?_⟩,⟨?_,?_,?_⟩,trivial⟩⟩,⟨?_,?_,?_,?_,wR ⟨⟨?_,?_,?_⟩,⟨?_,?_,?_⟩,trivial⟩⟩,⟨?_,?_,?_,?_,wR ⟨⟨?_,?_,?_⟩,trivial⟩⟩,trivial⟩
 all_goals first|exact hk|rfl|(simp;done)|decide
theorem EI(h:oE s):eE s=0/\s.tables≠[]:=by
 obtain⟨ver,n,id,v0,v1,n2,n4,hid,rfl⟩:=h.ex;refine⟨Vd (by simp[kO];omega) (λt ht=>?_) v0 (by show ver<=1000;omega) (TZ (Qk hid) n),λe=>?_⟩
 .have ht:=List.mem_of_mem_take ht;simp only[kO,List.mem_cons,List.not_mem_nil,or_false]at ht;rcases ht with rfl|rfl|rfl|rfl<;>exact⟨by simp,rfl,rfl⟩
 .have:=congrArg List.length e;simp[kO]at this;omega
theorem Gb(h:oE s){t:uX}(ht:t∈s.tables):1<=t.key/\1<=t.columns.length/\t.columns.length<=4/\∀c∈t.columns,Yo c.kind:=by
 obtain⟨ver,n,id,v0,v1,n2,n4,hid,rfl⟩:=h.ex;have hk:Yo id:=by rcases hid with rfl|rfl;exact .inr (.inl rfl);exact .inr (.inr rfl)
 have ht:=List.mem_of_mem_take ht;simp only[kO,List.mem_cons,List.not_mem_nil,or_false]at ht;rcases ht with rfl|rfl|rfl|rfl
 all_goals
  refine⟨by simp,by simp,by simp,λc hc=>?_⟩;simp only[List.mem_cons,List.not_mem_nil,or_false]at hc
 .rcases hc with rfl|rfl<;>exact .inr (.inl rfl)
 .rcases hc with rfl|rfl|rfl|rfl
  .exact hk
  .exact .inr (.inl rfl)
  .exact .inr (.inr rfl)
  .exact .inl rfl
 .rcases hc with rfl|rfl<;>exact .inr (.inl rfl)
 .subst hc;exact hk
theorem Jb(h:oE s):Wy s:=λt k hk=>by
 unfold gT at hk;split at hk
 .simp at hk
 .split at hk
  .simp at hk
  .rename_i tb htb;obtain⟨c,hc,rfl⟩:=List.mem_map.1 hk;exact(Gb h (List.mem_of_getElem? htb)).2.2.2 c hc
end Go.Ps
