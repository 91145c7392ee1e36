/-
  Part 8 of a proof that a law of the given program returns true: a condition generator that is proved sound, and contracts of functions. No condition of its own. Own work, joined by a program (pack2.py).
-/
import Derived.Test.YtmecdlibgejboaaGreatDoorPg
set_option linter.unusedVariables false
set_option linter.unusedSimpArgs false
namespace Go.Ps
open Go Go.Vc Go.Proofs List Tryz
variable{K:bo}{m:MH}{h:PH}{s:mI}{ps:br}{cb:Nat}{sc:bY}{v:QV}{q:Query}{p:Pred}{l:br}{i:Nat}{N:Nat}{m':MH}{h':PH}{co:br}{gr:br}{od:bz}{w:Pred}{ta:Int}{li:Int}{xs:List bm}{sz:Nat}{k:Nat}{ks:List br}{rs:br}{r:Sl}{a:br}{b:Nat}
structure FP(s:mI)(c:Nat)(ls:List bt)(k:Nat)(ts:br):Prop where
 at_:∀(j:Nat)(t:Int),ts[j]? =some t->∃l,ls[k+j]? =some l/\gR (jY s t).length l/\l.length<=c
theorem FP.left{c:Nat}{ls:List bt}{b:br}(x:FP s c ls k (a++b)):FP s c ls k a:=
 ⟨λj t h=>x.at_ j t (by rw[getElem?_append_left (List.getElem?_eq_some_iff.1 h).1];exact h)⟩
theorem FP.right{c:Nat}{ls:List bt}{b:br}(x:FP s c ls k (a++b)):FP s c ls (k+a.length) b:=
 ⟨λj t h=>by
  have:=x.at_ (a.length+j) t (by rw[getElem?_append_right aC,Nat.add_sub_cancel_left];exact h)
  rwa [show k+a.length+j=k+(a.length+j)by omega]⟩
theorem yM{op:Int}{on:bx}{args:ce}{ks:br}(h:bH s ps (.mk op ta w co on gr od li args)=(ks,0)):
 ∃c,eM s ps args=(c,0)/\(c.length:Int)=arity op/\fH s ps (.mk op ta w co on gr od li args) (c.getD 0 []) (c.getD 1 [])=(ks,0):=by
 rw[bH]at h;generalize eM s ps args=r at h;obtain⟨c,e⟩:=r;dsimp only at h;split at h
 .rename_i d;subst d;split at h
  .rename_i f;exact⟨c,rfl,f,h⟩
  .simp[eY]at h
 .rename_i d;simp only[eY,Prod.mk.injEq]at h;exact absurd h.2 d
theorem nE{f:ce}{d:List br}(h:eM s ps (q::f)=(d,0)):∃k c,bH s ps q=(k,0)/\eM s ps f=(c,0)/\d=k::c:=by
 rw[eM]at h;generalize bH s ps q=r at h;obtain⟨k,e⟩:=r;generalize eM s ps f=r at h;obtain⟨ks,n⟩:=r;dsimp only at h;split at h
 .rename_i g;split at h
  .rename_i j;simp only[Prod.mk.injEq,and_true]at h;exact⟨k,ks,by rw[g],by rw[j],h.symm⟩
  .rename_i j;simp only[Prod.mk.injEq]at h;exact absurd h.2 j
 .rename_i g;simp only[Prod.mk.injEq]at h;exact absurd h.2 g
theorem uC{ks:br}(h:mG l=(ks,0)):ks=l/\l.length<=12:=by
 unfold mG at h;split at h
 .rename_i c;simp only[Prod.mk.injEq,and_true]at h;exact⟨h.symm,c⟩
 .simp at h
theorem Pg{op:Int}(h:arity op=0):op=1:=by
 unfold arity at h;split at h
 .rename_i e;simpa using e
 .split at h
  .omega
  .split at h<;>omega
mutual
theorem Wd{s:mI}{ps:br}{c:Nat}(f:1<=c):∀{q:Query}{ks:br},bH s ps q=(ks,0)->1<=nI c q
 |.mk op ta w co on gr od li args,ks,h=>by
  obtain⟨j,d,g,o⟩:=yM h;have e:=YT f d;rw[nI];split
  .exact f
  .rename_i n;split
   .exact e.1
   .match args,d,e with
    |[],d,_=>rw[eM]at d;simp only[Prod.mk.injEq,and_true]at d;rw[<-d]at g;exact absurd (Pg g.symm) n
    |q::qs,d,e=>exact e.2 bg
theorem YT{s:mI}{ps:br}{c:Nat}(f:1<=c):∀{e:ce}{d:List br},eM s ps e=(d,0)->1<=AD c e/\(e≠[]->1<=Dd c e)
 |[],d,h=>by simp[AD]
 |q::e,d,h=>by
  obtain⟨k,g,j,n,u⟩:=nE h;have o:=Wd f j;have t:=YT f n;rw[AD,Dd];exact⟨Nat.mul_pos o t.1,λ_=>by omega⟩
end
def Sz(c:Nat):ce->List br->List bt->Prop
 |[],[],[]=>True
 |q::qs,k::ks,l::ls=>gR k.length l/\l.length<=nI c q/\Sz c qs ks ls
 |_,_,_=>False
theorem Td{α:Type}:∀{l:List α},l.length=2->∃a b,l=[a,b]
 |[a,b],_=>⟨a,b,rfl⟩
theorem Sz.len{c:Nat}{d:ce}{ls:List bt}(h:Sz c d ks ls):d.length=ks.length/\ls.length=ks.length:=by
 induction d generalizing ks ls with
 |nil=>
  match ks,ls,h with
  |[],[],_=>exact⟨rfl,rfl⟩
  |_::_,[],h=>exact h.elim
  |[],_::_,h=>exact h.elim
  |_::_,_::_,h=>exact h.elim
 |cons q d e=>
  match ks,ls,h with
  |[],[],h=>exact h.elim
  |_::_,[],h=>exact h.elim
  |[],_::_,h=>exact h.elim
  |k::ks,l::ls,h=>
   obtain⟨f,g⟩:=e h.2.2;exact⟨by simp[f],by simp[g]⟩
theorem gR.filter{w:Nat}{l:bt}(x:gR w l)(p:bu->Bool):gR w (l.filter p):=
 ⟨λr h=>x.row r (mem_filter.1 h).1,λr h=>x.wid r (mem_filter.1 h).1,x.srt.filter p,Nat.le_trans (length_filter_le _ _) x.len⟩
theorem UW(x:bu):∀l:bt,(Kw x l).length<=l.length+1
 |[]=>by simp[Kw]
 |y::l=>by
  have:=UW x l;simp only[Kw];split
  .simp
  .split<;>simp<;>omega
theorem H6:∀l:bt,(Fe l).length<=l.length
 |[]=>by simp[Fe]
 |x::l=>by
  have c:=H6 l;have d:=UW x (Fe l);show(Kw x (Fe l)).length<=(x::l).length;simp only[length_cons];omega
theorem gR.set{w:Nat}{l:bt}(c:∀r∈l,Mq r)(d:∀r∈l,r.length=w)(e:l.length<=1000000):gR w (Fe l):=
 ⟨λr h=>c r (H5.1 h),λr h=>d r (H5.1 h),Fc l,Nat.le_trans (H6 l) e⟩
theorem JK:∀{x y u v:bu},x.length=y.length->eC (x++u) (y++v)=if eC x y≠0 then eC x y else eC u v
 |[],[],u,v,_=>by simp[eC]
 |a::x,b::y,u,v,h=>by
  simp only[length_cons,Nat.add_right_cancel_iff]at h;simp only[cons_append,eC];by_cases e:lZ a b=0
  .simp only[e,ne_eq,not_true_eq_false,if_false];exact JK h
  .simp[e]
 |[],_::_,_,_,h=>by simp at h
 |_::_,[],_,_,h=>by simp at h
theorem CJ{on:bx}{b:bt}{x z:bu}(h:z∈jL on b x):∃y∈b,z=x++y:=by
 unfold jL at h;split at h
 .obtain⟨y,c,rfl⟩:=mem_map.1 h;exact⟨y,(mem_filter.1 c).1,rfl⟩
 .simp at h
theorem gR.join{w w':Nat}{a b:bt}{on:bx}(d:gR w a)(g:gR w' b)(t:w+w'<=12)(j:a.length*b.length<=1000000):gR (w+w') (a.flatMap (jL on b)):=by
 refine⟨λr h=>?_,λr h=>?_,?_,Nat.le_trans (sD λx _=>vN) j⟩
 .obtain⟨x,c,h⟩:=mem_flatMap.1 h;obtain⟨y,e,rfl⟩:=CJ h;have A:=d.wid x c;have B:=g.wid y e;refine⟨by rw[length_append];omega,λv f=>?_⟩;rcases mem_append.1 f with f|f
  .exact(d.row x c).val v f
  .exact(g.row y e).val v f
 .obtain⟨x,c,h⟩:=mem_flatMap.1 h;obtain⟨y,e,rfl⟩:=CJ h;rw[length_append,d.wid x c,g.wid y e]
 .refine pairwise_flatMap.2 ⟨λx c=>?_,?_⟩
  .unfold jL;split
   .refine pairwise_map.2 ((g.srt.filter _).imp fun{y z} h=>?_);rw[JK rfl,if_neg (by rw[lC.2 rfl];simp)];exact h
   .exact List.Pairwise.nil
  .refine d.srt.imp_of_mem fun{x y} c e h z n u o=>?_;obtain⟨C,_,rfl⟩:=CJ n;obtain⟨D,_,rfl⟩:=CJ o;rw[JK (by rw[d.wid x c,d.wid y e]),if_pos aC];exact h
theorem Ti{c:Int}(h:EU a c=true):0<=c/\c<a.length:=by
 simp only[EU,Bool.and_eq_true,decide_eq_true_eq]at h;exact h
theorem Jm{α:Type}{T:List α->α->Prop}{l:List α}(h:Good T l){x:α}(hx:x∈l):∃c,T c x:=by
 obtain⟨i,d,e⟩:=mem_iff_getElem.1 hx;exact⟨_,h i x (by rw[<-e];exact getElem?_eq_getElem d)⟩
theorem Im:∀(n:Nat)(l:br),l.Nodup->(∀x∈l,0<=x/\x<n)->l.length<=n
 |0,[],_,_=>bg
 |0,x::l,_,h=>by have:=h x (mem_cons_self ..);omega
 |n+1,l,d,h=>by
  by_cases f:(n:Int)∈l
  .have g:=Im n (l.erase n) (d.erase _) (λx c=>by
    have j:=(d.mem_erase_iff).1 c;have:=h x j.2;omega)
   rw[length_erase_of_mem f]at g;omega
  .have:=Im n l d (λx c=>by
    have:=h x c;have o:x≠(n:Int):=λe=>f (e▸c);omega)
   omega
theorem Ot{α:Type}{T:List α->α->Prop}{l:List α}(f:α->Int)(d:∀c x,T c x->f x∉c.map f)(h:Good T l):(l.map f).Nodup:=by
 rw[nodup_iff_pairwise_ne,pairwise_map,pairwise_iff_getElem];intro i j o g n e;refine d _ _ (h j l[j] (getElem?_eq_getElem g)) (mem_map.2 ⟨l[i],?_,e⟩);rw[mem_take_iff_getElem];exact⟨i,aC,rfl⟩
theorem Oq(h:Good (FU a) gr)(j:a.length<=12):hZ a.length gr:=by
 have f:∀c∈gr,0<=c/\c<a.length:=λc g=>by obtain⟨_,d⟩:=Jm h g;exact Ti d.1
 have d:=Ot id (λe x(h:FU a e x)=>bj h.2) h;rw[map_id]at d;exact⟨f,by have:=Im _ _ d f;omega⟩
theorem Qm{b:br}{on:bx}(h:Good (tM a b) on)(A:a.length<=12)(B:b.length<=12):hZ a.length (iD on)/\hZ b.length (dV on):=by
 have n:∀c∈iD on,0<=c/\c<a.length:=λc f=>by
  obtain⟨p,g,rfl⟩:=mem_map.1 f;obtain⟨_,d⟩:=Jm h g;exact Ti d.1
 have d:∀c∈dV on,0<=c/\c<b.length:=λc f=>by
  obtain⟨p,g,rfl⟩:=mem_map.1 f;obtain⟨_,d⟩:=Jm h g;exact Ti d.2.1
 have o:(iD on).Nodup:=Ot Prod.fst (λj x(h:tM a b j x) t=>by
  obtain⟨y,u,e⟩:=mem_map.1 t;exact(h.2.2.2 y u).1 e) h
 have z:=Im _ _ o n;exact⟨⟨n,aC⟩,⟨d,by simp only[iD,dV,length_map]at z⊢;omega⟩⟩
theorem UB{w:Nat}{r:bu}(c:Mq r)(d:r.length=w)(e:hZ w co)(f:co.length<=12):Mq (pick r co)/\(pick r co).length=co.length:=
 ⟨⟨by simpa[pick]using f,Ij c (by rw[d];exact e)⟩,by simp[pick]⟩
theorem H2{c:Nat}{p:Query}:Dd c [q,p]=nI c q+nI c p:=by simp[Dd]
theorem SI{c:Nat}:Dd c [q]=nI c q:=by simp[Dd]
theorem aIX{c:Nat}{p:Query}:AD c [q,p]=nI c q*nI c p:=by simp[AD]
theorem blX{c:Nat}{op:Int}{on:bx}{args:ce}{ks:br}{t:List br}{L:List bt}(P:op≠1)
 (Q:(t.length:Int)=arity op)(F:∀k∈t,k.length<=12)(d:fH s ps (.mk op ta w co on gr od li args) (t.getD 0 []) (t.getD 1 [])=(ks,0))(E:Sz c args t L)(o:nI c (.mk op ta w co on gr od li args)<=1000000):
 NZ op (.mk op ta w co on gr od li args) L/\gR ks.length (WQ op (.mk op ta w co on gr od li args) L)/\(WQ op (.mk op ta w co on gr od li args) L).length<=nI c (.mk op ta w co on gr od li args):=by
 rw[nI,if_neg P]at o⊢
 unfold fH at d;dsimp only at d;split at d
 .simp[eY]at d
 have one:arity op=1->∃q k l,args=[q]/\t=[k]/\L=[l]/\gR k.length l/\l.length<=nI c q/\k.length<=12:=λe=>by
  obtain⟨I,J⟩:=E.len;obtain⟨k,rfl⟩:=length_eq_one_iff.1 (show t.length=1 by omega);obtain⟨q,rfl⟩:=length_eq_one_iff.1 (show args.length=1 by simpa using I);obtain⟨l,rfl⟩:=length_eq_one_iff.1 (show L.length=1 by simpa using J);exact⟨q,k,l,rfl,rfl,rfl,E.1,E.2.1,F k (by simp)⟩
 have two:arity op=2->∃q p k y l A,args=[q,p]/\t=[k,y]/\L=[l,A]/\gR k.length l/\l.length<=nI c q/\gR y.length A/\A.length<=nI c p/\k.length<=12/\y.length<=12:=λe=>by
  obtain⟨I,J⟩:=E.len;obtain⟨k,y,rfl⟩:=Td (show t.length=2 by omega);obtain⟨q,p,rfl⟩:=Td (show args.length=2 by simpa using I);obtain⟨l,A,rfl⟩:=Td (show L.length=2 by simpa using J);exact⟨q,p,k,y,l,A,rfl,rfl,rfl,E.1,E.2.1,E.2.2.1,E.2.2.2.1,F k (by simp),F y (by simp)⟩
 have R:op=2\/op=3\/op=9\/op=4\/op=5\/op=6\/op=7\/op=8\/op=10:=by
  have:0<=arity op:=by omega
  unfold arity at this;split at this
  .rename_i e;simp at e;exact absurd e P
  .split at this
   .rename_i e;simp at e;omega
   .split at this
    .rename_i e;simp at e;omega
    .omega
 rcases R with rfl|rfl|rfl|rfl|rfl|rfl|rfl|rfl|rfl
 .obtain⟨q,k,l,rfl,rfl,rfl,g,B,C⟩:=one rfl;simp only[show((2:Int)=4)=False by decide,if_false,if_true]at d o⊢
  split at d
  .obtain⟨rfl,_⟩:=uC d;refine⟨⟨by simp,λx u=>by simp at u;subst u;exact⟨_,g⟩⟩,g.filter _,Nat.le_trans (length_filter_le _ _) ?_⟩;rw[SI];exact B
  .rename_i e;simp only[eY,Prod.mk.injEq]at d;exact absurd d.2 e
 .obtain⟨q,k,l,rfl,rfl,rfl,g,B,C⟩:=one rfl;simp only[show((3:Int)=4)=False by decide,show((3:Int)=2)=False by decide,if_false,if_true]at d o⊢
  split at d
  .rename_i j;obtain⟨rfl,f⟩:=uC d;rw[length_map]at f⊢
   have z:hZ k.length co:=⟨λc z=>by obtain⟨_,Q⟩:=Jm j.2 z;exact Ti Q,aC⟩
   rw[SI]at o⊢
   refine⟨⟨by simp,f,_,g,z⟩,gR.set (λr h=>?_) (λr h=>?_) (by show(l.map _).length<=_;rw[length_map];exact g.len),Nat.le_trans (H6 _) (by show(l.map _).length<=_;rw[length_map];exact B)⟩
   .obtain⟨x,u,rfl⟩:=mem_map.1 h;exact(UB (g.row x u) (g.wid x u) z f).1
   .obtain⟨x,u,rfl⟩:=mem_map.1 h;exact(UB (g.row x u) (g.wid x u) z f).2
  .simp[eY]at d
 .obtain⟨q,k,l,rfl,rfl,rfl,g,B,C⟩:=one rfl;simp only[show((9:Int)=4)=False by decide,show((9:Int)=2)=False by decide,show((9:Int)=3)=False by decide,show((9:Int)=5)=False by decide,if_false,if_true]at d o⊢
  split at d
  .rename_i j;obtain⟨rfl,f⟩:=uC d;rw[SI]at o⊢
   exact⟨⟨by simp,⟨_,g,Oq j.group_ C⟩,j.low⟩,g.filter _,Nat.le_trans (length_filter_le _ _) B⟩
  .simp[eY]at d
 .obtain⟨q,p,k,y,l,A,rfl,rfl,rfl,g,B,n,G,C,D⟩:=two rfl;simp only[show((4:Int)=2)=False by decide,show((4:Int)=3)=False by decide,if_false,if_true]at d o⊢
  split at d
  .rename_i j;obtain⟨rfl,f⟩:=uC d;rw[aIX]at o⊢
   have z:=Qm j C D;have M:l.length*A.length<=nI c q*nI c p:=Nat.mul_le_mul B G;rw[length_append]at f⊢
   exact⟨⟨⟨by simp,_,_,g,n,z.1,z.2⟩,Nat.le_trans M o⟩,g.join n f (Nat.le_trans M o),Nat.le_trans (sD λx _=>vN) M⟩
  .simp[eY]at d
 .obtain⟨q,p,k,y,l,A,rfl,rfl,rfl,g,B,n,G,C,D⟩:=two rfl;simp only[show((5:Int)=2)=False by decide,show((5:Int)=3)=False by decide,show((5:Int)=4)=False by decide,if_false,if_true]at d o⊢
  split at d
  .rename_i j;obtain⟨rfl,f⟩:=uC d;rw[H2]at o⊢
   have z:=Qm j C D;exact⟨⟨by simp,_,_,g,n,z.1,z.2⟩,g.filter _,Nat.le_trans (length_filter_le _ _) (by show l.length<=_;omega)⟩
  .simp[eY]at d
 all_goals
  obtain⟨q,p,k,y,l,A,rfl,rfl,rfl,g,B,n,G,C,D⟩:=two rfl
 .simp only[show((6:Int)=2)=False by decide,show((6:Int)=3)=False by decide,show((6:Int)=4)=False by decide,show((6:Int)=5)=False by decide,show((6:Int)=9)=False by decide,show((6:Int)=10)=False by decide,if_false,if_true]at d o⊢
  split at d
  .rename_i j;have j:k=y:=j;subst j;obtain⟨rfl,f⟩:=uC d;rw[H2]at o⊢
   have H:(l++A).length<=nI c q+nI c p:=by rw[length_append];omega
   refine⟨⟨by simp,λx u=>by simp at u;rcases u with rfl|rfl;exact⟨_,g⟩;exact⟨_,n⟩⟩,gR.set (λr h=>?_) (λr h=>?_) (Nat.le_trans H o),Nat.le_trans (H6 _) H⟩
   .rcases mem_append.1 h with h|h
    .exact g.row r h
    .exact n.row r h
   .rcases mem_append.1 h with h|h
    .exact g.wid r h
    .exact n.wid r h
  .simp[eY]at d
 .simp only[show((7:Int)=2)=False by decide,show((7:Int)=3)=False by decide,show((7:Int)=4)=False by decide,show((7:Int)=5)=False by decide,show((7:Int)=9)=False by decide,show((7:Int)=10)=False by decide,if_false,if_true]at d o⊢
  split at d
  .rename_i j;have j:k=y:=j;subst j;obtain⟨rfl,f⟩:=uC d;rw[H2]at o⊢
   exact⟨⟨by simp,_,λx u=>by simp at u;rcases u with rfl|rfl;exact g;exact n⟩,g.filter _,Nat.le_trans (length_filter_le _ _) (by show l.length<=_;omega)⟩
  .simp[eY]at d
 .simp only[show((8:Int)=2)=False by decide,show((8:Int)=3)=False by decide,show((8:Int)=4)=False by decide,show((8:Int)=5)=False by decide,show((8:Int)=9)=False by decide,show((8:Int)=10)=False by decide,if_false,if_true]at d o⊢
  split at d
  .rename_i j;have j:k=y:=j;subst j;obtain⟨rfl,f⟩:=uC d;rw[H2]at o⊢
   exact⟨⟨by simp,_,λx u=>by simp at u;rcases u with rfl|rfl;exact g;exact n⟩,g.filter _,Nat.le_trans (length_filter_le _ _) (by show l.length<=_;omega)⟩
  .simp[eY]at d
 .simp only[show((10:Int)=2)=False by decide,show((10:Int)=3)=False by decide,show((10:Int)=4)=False by decide,show((10:Int)=5)=False by decide,show((10:Int)=9)=False by decide,if_false,if_true]at d o⊢
  split at d
  .rename_i j;obtain⟨j,O⟩:=j;have j:k=y:=j;subst j;obtain⟨rfl,f⟩:=uC d;rw[H2]at o⊢
   exact⟨⟨by simp,_,g,n,Oq O.group_ C⟩,g.filter _,Nat.le_trans (length_filter_le _ _) (by show l.length<=_;omega)⟩
  .simp[eY]at d
theorem Pf{s:mI}{ps:br}{c:Nat}(g:1<=c):∀{d:ce}{e:List br},eM s ps d=(e,0)->∀q∈d,nI c q<=Dd c d/\nI c q<=AD c d
 |[],_,_,q,f=>by simp at f
 |p::d,e,h,q,f=>by
  obtain⟨k,j,o,n,y⟩:=nE h;have t:=Wd g o;have u:=(YT g n).1;rw[Dd,AD];rcases mem_cons.1 f with rfl|f
  .exact⟨aC,Nat.le_mul_of_pos_right _ u⟩
  .have:=Pf g n q f;exact⟨aC,Nat.le_trans this.2 (Nat.le_mul_of_pos_left _ t)⟩
theorem Oi{s:mI}{ps:br}:∀{e:ce}{c:List br},eM s ps e=(c,0)->∀k∈c,k.length<=12
 |[],c,h,k,d=>by rw[eM]at h;simp only[Prod.mk.injEq,and_true]at h;subst h;simp at d
 |q::e,c,h,k,d=>by
  obtain⟨n,f,g,j,rfl⟩:=nE h;rcases mem_cons.1 d with rfl|d
  .have:=yL s ps q;rw[g]at this;exact this
  .exact Oi j k d
structure b1J(c:Nat)(ls:List bt)(q:Query)(k:Nat)(ks:br):Prop where
 ok:Zo ls q k
 rel:gR ks.length (lB ls q k).1
 bnd:(lB ls q k).1.length<=nI c q
 nxt:(lB ls q k).2=k+(j7 q).length
mutual
theorem VY{s:mI}{ps:br}{c:Nat}{ls:List bt}(y:1<=c):∀{q:Query}{ks:br}{k:Nat},bH s ps q=(ks,0)->FP s c ls k (j7 q)->nI c q<=1000000->b1J c ls q k ks
 |.mk op ta w co on gr od li args,ks,k,h,j,o=>by
  obtain⟨A,n,z,d⟩:=yM h;by_cases e:op=1
  .subst e
   have B:args=[]:=by
    cases args with
    |nil=>rfl
    |cons q M=>obtain⟨_,_,_,_,rfl⟩:=nE n;simp[arity]at z;omega
   subst B;have g:j7 (.mk 1 ta w co on gr od li [])=[ta]:=by simp[j7,i6]
   unfold fH at d;dsimp only at d;split at d
   .simp[eY]at d
   try rw[if_pos rfl]at d
   split at d
   .obtain⟨rfl,_⟩:=uC d;rw[g]at j;obtain⟨l,t,C,D⟩:=j.at_ 0 ta rfl;rw[Nat.add_zero]at t;have f:(lB ls (.mk 1 ta w co on gr od li []) k)=(l,k+1):=by rw[lB,if_pos rfl,getD_eq_getElem?_getD,t];rfl
    refine⟨by rw[Zo,if_pos rfl];exact(List.getElem?_eq_some_iff.1 t).1,by rw[f];exact C,by rw[f,nI,if_pos rfl];exact D,by rw[f,g];rfl⟩
   .simp[eY]at d
  .have g:j7 (.mk op ta w co on gr od li args)=i6 args:=by simp[j7,e]
   rw[g]at j
   have u:∀q∈args,nI c q<=1000000:=λq E=>by
    have O:=Pf y n q E;rw[nI,if_neg e]at o;split at o<;>omega
   obtain⟨F,G,H⟩:=R8 y n j u;obtain⟨I,J,L⟩:=blX e z (Oi n) d G o;have f:lB ls (.mk op ta w co on gr od li args) k=(WQ op (.mk op ta w co on gr od li args) (gM ls args k).1,(gM ls args k).2):=by rw[lB,if_neg e]
   exact⟨by rw[Zo,if_neg e];exact⟨I,F⟩,by rw[f];exact J,by rw[f];exact L,by rw[f,g];exact H⟩
theorem R8{s:mI}{ps:br}{c:Nat}{ls:List bt}(n:1<=c):∀{d:ce}{e:List br}{k:Nat},eM s ps d=(e,0)->FP s c ls k (i6 d)->(∀q∈d,nI c q<=1000000)->UI ls d k/\Sz c d e (gM ls d k).1/\(gM ls d k).2=k+(i6 d).length
 |[],e,k,h,_,_=>by
  rw[eM]at h;simp only[Prod.mk.injEq,and_true]at h;subst h;simp[UI,gM,Sz,i6]
 |q::d,e,k,h,j,o=>by
  obtain⟨A,t,u,y,rfl⟩:=nE h;rw[i6]at j;have f:=VY n u j.left (o q (mem_cons_self ..));have g:=R8 n y j.right (λp z=>o p (mem_cons_of_mem _ z));rw[<-f.nxt]at g;rw[UI,gM,i6];refine⟨⟨f.ok,g.1⟩,⟨f.rel,f.bnd,g.2.1⟩,?_⟩;rw[g.2.2,f.nxt,length_append];omega
end
structure AN(m:MH)(tb:Nat)(ws:List cK):Prop where
 ex:∃cur:Array Value,m tb=some (.cells cur 82 (0,0))/\cur.toList.take (ws.length*5)=(ws.map cK.enc).flatten
def abQ:Vc.Spec:=λd m h K=>∃e g n f j w c,∃t:Nat,d=[aS ⟨e,⟨some ⟨g,0,none⟩,n,f⟩⟩,cI t]/\t<n/\AN m g j/\j[t]? =some w/\E5 h w.columns c/\c.length<=8/\
 ∀o h',PH.le h h'->Ints h' o (c.map nZ.kind)->K (cS o) m h'
noncomputable def bvX(cb:Nat):Ctx:=
 pF [(30,JR),(36,PK),(73,acZ),(59,abQ),(18,BS)] [] [(5,{A:=Int×Int×MH×PH,st:=λ⟨n,id,m,h⟩=>bO 86 87 [(0,pv cb),(2,.at (.ptr 2 0)),(3,iv n),(4,iv id)] [(2,.cells 40 [.val (.int .i64 0),.val (.slice none 0 0)])] m h}),
  (9,{A:=Int×bY×MH×PH,st:=λ⟨n,s,m,h⟩=>bO 86 87 [(0,pv cb),(2,.at (.ptr 2 0)),(3,iv n),(5,.at (.ptr 5 0))] [(2,.cells 40 [.val (.int .i64 0),.val (.slice none 0 0)]),(5,.cells 40 (s.enc.map .val))] m h}),
  (11,{A:=Int×bY×MH×PH,st:=λ⟨n,s,m,h⟩=>bO 86 87 [(0,pv cb),(2,.at (.ptr 2 0)),(3,iv n),(5,.at (.ptr 5 0))] [(2,.cells 40 [.val (.int .i64 0),.val (.slice none 0 0)]),(5,.cells 40 (s.enc.map .val))] m h}),
  (13,{A:=bY×MH×PH,st:=λ⟨s,m,h⟩=>bO 86 87 [(0,pv cb),(2,.at (.ptr 2 0)),(5,.at (.ptr 5 0))] [(2,.cells 40 [.val (.int .i64 0),.val (.slice none 0 0)]),(5,.cells 40 (s.enc.map .val))] m h}),
  (15,{A:=bY×MH×PH,st:=λ⟨s,m,h⟩=>bO 86 87 [(2,.at (.ptr 2 0)),(5,.at (.ptr 5 0))] [(2,.cells 40 [.val (.int .i64 0),.val (.slice none 0 0)]),(5,.cells 40 (s.enc.map .val))] m h})] [] [38] [] false
def mV(id:Int):List Ay:=
 [⟨⟨⟨[112,114,111,106,101,99,116,115]⟩⟩,[⟨⟨⟨[105,100]⟩⟩,4⟩,⟨⟨⟨[111,119,110,101,114]⟩⟩,4⟩],1,[],[]⟩,
  ⟨⟨⟨[116,97,115,107,115]⟩⟩,[⟨⟨⟨[105,100]⟩⟩,id⟩,⟨⟨⟨[112,114,111,106,101,99,116]⟩⟩,4⟩,⟨⟨⟨[116,105,116,108,101]⟩⟩,5⟩,⟨⟨⟨[100,111,110,101]⟩⟩,3⟩],1,[],[]⟩,
  ⟨⟨⟨[109,101,109,98,101,114,115]⟩⟩,[⟨⟨⟨[112,114,111,106,101,99,116]⟩⟩,4⟩,⟨⟨⟨[112,101,114,115,111,110]⟩⟩,4⟩],2,[],[]⟩,
  ⟨⟨⟨[97,114,99,104,105,118,101,100]⟩⟩,[⟨⟨⟨[116,97,115,107]⟩⟩,id⟩],1,[],[]⟩]
structure Nl(h:PH)(t:Ay)(w:cK):Prop where
 name_:w.name=t.name
 key_:w.key=t.key
 cols_:E5 h w.columns t.columns
def YV(h:PH)(id:Int)(ws:List cK):Prop:=ws.length=4/\∀(i:Nat) t,(mV id)[i]? =some t->∃w,ws[i]? =some w/\Nl h t w
structure CQ(m0:MH)(h0:PH)(cb:Nat)(tb n:Nat)(id:Int)(ws:List cK)(s:bY)(m:MH)(h:PH):Prop where
 le_:PH.le h0 h
 ver0:0<=s.version
 ver1:s.version<=2
 case_:aR m h cb
 n2:2<=n
 n4:n<=4
 sl_:∃cap,s.tables=⟨some ⟨tb,0,none⟩,n,cap⟩/\n<=cap
 id_:id=4\/id=5
 new_:m0 tb=none
 ne_:tb≠cb
 row_:AN m tb ws
 ws_:YV h id ws
 other_:∀b,b≠cb->b≠tb->m b=m0 b
def Z4:Vc.Spec:=λc m h K=>∃cb,c=[cP cb]/\aR m h cb/\∀d n id e s m' h',CQ m h cb d n id e s m' h'->K (aS s) m' h'
noncomputable def bQQ:Ctx:=
 pF [(29,Z4)] [(3,{A:=Nat×bY×MH×PH,st:=λ⟨i,s,m,h⟩=>bO 25 26 [(2,.at (.ptr 2 0)),(3,.at (.ptr 3 0)),(9,iv s.tables.len),(10,iv i)] [(2,.cells 40 [.val (.int .i64 0),.val (.slice none 0 0)]),(3,.cells 40 (s.enc.map .val))] m h})] [] [] [38] [] false
def ah(v:bY)(t:Int)(m:MH)(h:PH)(K:bo):Prop:=
  aZ t 0 (K jG m h) (fO t (iX v) (K jG m h) (MK v 0 t m h (λb=>b) (λo=>o) 5 (λy=>y) (λy I x=>aA (I x) (eL 32) (aA (bB y (mN x)) (bQ y (mN x)) (aA (bC x.1) (wE (u0 x)) (aA (m=m) (h=h) True)))) (λI d x=>MJ (I x) x 0 (λb o y=>aJ m h b (bK o x.1 2) (gV (vA y) (fD y.kind))) (λy c=>aA (I c) (d c<d x) (aA (eL 32) (bB (mN x) (mN c)) (aA (bQ (mN x) (mN c)) (bD (fP (bE x.1 1)) c.1) (aA (wF (u0 x) y.kind (u0 c)) (m=m) (bX h h))))) (uM h (u0 x) K m))))
theorem av(v:bY)(t:Int)(m:MH)(h:PH)(K:bo):ah v t m h K=(sC (f59_ctx m h) Tryz.f59 (cC Tryz.f59) (entry Tryz.f59.ntmps [aS v,cI t] m h) K):=bf
abbrev p7:Prop:=eQ (oQ 40 (lX jF PO))
abbrev A3(a:ci)(b:Int)(c:ByteArray)(d:Int)(e:ByteArray->Int->Prop):Prop:=aW (yF a) b=aW (oX c) d/\∃(x:ByteArray)(f:Int),e x f
noncomputable abbrev ML(a:Nat)(b:ci):ci:=fV 112 (fV 114 (fV 111 (fV 106 (fV 101 (fV a b)))))
noncomputable abbrev sA(a:ci):Value:=Value.string (ByteArray.mk (Array.mk a))
noncomputable abbrev AG(a:Option Addr)(b c:Nat):At:=At.val (Value.slice a b c)
noncomputable abbrev tN(a:Int×bY×MH×PH):bY:=a.2.1
noncomputable abbrev kF(a:Int×bY×MH×PH):MH×PH:=a.2.2
abbrev sS(a b:bY):Prop:=oQ 40 (lX (Iq a) (Ip a))=oQ 40 (lX (Iq b) (Ip b))
attribute [push_cast] p7 A3 ML sA AG tN kF sS
def Vv(cb:Nat)(m:MH)(h:PH)(K:bo):Prop:=
  iQ cb 3 m h (λk O=>∃(I:Int×Int×MH×PH->Prop),lW cb 5 O h (λc r=>∀(E:MH),aY (bI O E c) (aR E h c) (branch r (∃(x:Int×Int×MH×PH),aA (I x) (dD cb) (aA gI (cQ (eT (2+k)) x.1) (aA (cQ 5 x.2.1) p7 (aA (cT E x.2.2) (eA h x.2.2) True)))) (∃(x:Int×Int×MH×PH),aA (I x) (dD cb) (aA gI (cQ (eT (2+k)) x.1) (aA (cQ 4 x.2.1) p7 (aA (cT E x.2.2) (eA h x.2.2) True))))))/\∀(x:Int×Int×MH×PH),I x->iQ cb 3 x.2.2.1 x.2.2.2 (λP E=>∃(n:ByteArray)(Q:Int),A3 (CX 105 100) 4 n Q (λR S=>A3 (fV 111 (fV 119 (fV 110 (fV 101 (tR 114))))) 4 R S (λT U=>A3 (CX 105 100) x.2.1 T U (λV W=>A3 (ML 99 (tR 116)) 4 V W (λX Y=>A3 (fV 116 (fV 105
 (fV 116 (fV 108 (tR 101))))) 5 X Y (λZ k7=>A3 (fV 100 (fV 111 (CX 110 101))) 3 Z k7 (λn6 k8=>A3 (ML 99 (tR 116)) 4 n6 k8 (λn7 k9=>A3 (fV 112 (fV 101 (fV 114 (fV 115 (CX 111 110))))) 4 n7 k9 (λn8 a=>aW (yF (fV 116 (fV 97 (CX 115 107)))) x.2.1=aW (oX n8) a/\bZ x.2.2.2 2 (xA n Q::iA (xA R S)) (λs h1=>bZ h1 2 (xA T U::xA V W::xA X Y::iA (xA Z k7)) (λs1 h2=>bZ h2 2 (xA n6 k8::iA (xA n7 k9)) (λs2 h3=>bZ h3 2 (iA (xA n8 a)) (λs3 F=>iF (λD H=>rE E H F D 82 5 (bA (sA (ML 99 (CX 116 115))) (dT s) (bA (fD 1) rV gA)::bA (sA (fV 116 (fV 97 (fV 115 (fV 107 (tR 115)))))) (dT s1) (bA (fD 1) rV
 gA)::bA (sA (fV 109 (fV 101 (fV 109 (fV 98 (fV 101 (fV 114 (tR 115)))))))) (dT s2) (bA (fD 2) rV gA)::iA (bA (sA (fV 97 (fV 114 (fV 99 (fV 104 (fV 105 (fV 118 (CX 101 100)))))))) (dT s3) (bA (fD 1) rV gA)))->aA (cF x.1) (x.1<=(↑D.cap:Int)) (∃(I1:Int×bY×MH×PH->Prop),lW cb 2 H F (λc r=>∀(j:MH),aY (bI H j c) (aR j F c) (branch r (bZ F 1 (iA (bL 1)) (λA y=>aK (λb o=>aA (aL D.a b o) ((0:Int)<=1) (1<(↑x.1.toNat:Int)/\bZ y 2 (iA (gV (dT A) bJ)) (λB C=>sP j b (o+5+3) (aM B) (λz=>∃(f:Int×bY×MH×PH),aA (I1 f) (dD cb) (aA (eP 2) (cQ x.1 f.1) (aA dY p7 (aA (oQ 40 (lX (jI P) (AG D.a x.1.toNat D.cap))=oQ 40 (lX
 (Iq (tN f)) (Ip (tN f)))) (cT z (kF f)) (j4 (eA C (kF f)))))))))))) (∃(f:Int×bY×MH×PH),aA (I1 f) (dD cb) (aA (eP 2) (cQ x.1 f.1) (aA dY p7 (aA (oQ 40 (lX (jI P) (AG D.a x.1.toNat D.cap))=oQ 40 (lX (Iq (tN f)) (Ip (tN f)))) (cT j (kF f)) (j4 (eA F (kF f)))))))))/\∀(f:Int×bY×MH×PH),I1 f->∃(I2:Int×bY×MH×PH->Prop),dZ f.1 2 (lW cb 3 (kF f).1 (kF f).2 (λc r=>∀(j:MH),aY (bI (kF f).1 j c) (aR j (kF f).2 c) (branch r (bZ (kF f).2 1 (iA (jD bJ)) (λA y=>F9 (tN f) 2 (λb o=>bZ y 2 (iA (gV (dT A) bJ)) (λB C=>sP j b (o+10+3) (aM B) (λz=>∃(e:Int×bY×MH×PH),aA (I2 e) (dD cb) (aA (eP 2) (cQ
 f.1 e.1) (aA dY p7 (aA (sS (tN f) (tN e)) (cT z (kF e)) (j4 (eA C (kF e))))))))))) (∃(e:Int×bY×MH×PH),aA (I2 e) (dD cb) (aA (eP 2) (cQ f.1 e.1) (aA dY p7 (aA (sS (tN f) (tN e)) (cT j (kF e)) (j4 (cW (kF f) (kF e)))))))))) (∃(e:Int×bY×MH×PH),aA (I2 e) (dD cb) (aA (eP 2) (cQ f.1 e.1) (aA dY p7 (aA (sS (tN f) (tN e)) (eU (kF f) (kF e)) (j4 (cW (kF f) (kF e)))))))/\∀(e:Int×bY×MH×PH),I2 e->∃(I3:bY×MH×PH->Prop),dZ e.1 3 (lW cb 3 (kF e).1 (kF e).2 (λc r=>∀(j:MH),aY (bI (kF e).1 j c) (aR j (kF e).2 c) (branch r (bZ (kF e).2 1 (iA (jD bJ)) (λA y=>F9 (tN e) 3 (λb o
 =>bZ y 2 (iA (gV (dT A) (fD 1))) (λB C=>sP j b (o+15+3) (aM B) (λz=>∃(g:bY×MH×PH),aA (I3 g) (dD cb) (aA gI dY (aA p7 (sS (tN e) g.1) (aA (cT z g.2) (eA C g.2) True)))))))) (∃(g:bY×MH×PH),aA (I3 g) (dD cb) (aA gI dY (aA p7 (sS (tN e) g.1) (aA (cT j g.2) (cW (kF e) g.2) True))))))) (∃(g:bY×MH×PH),aA (I3 g) (dD cb) (aA gI dY (aA p7 (sS (tN e) g.1) (aA (eU (kF e) g.2) (cW (kF e) g.2) True))))/\∀(g:bY×MH×PH),I3 g->∃(I4:bY×MH×PH->Prop),lW cb 3 g.2.1 g.2.2 (λc r=>∀(j:MH),aY (bI g.2.1 j c) (aR j g.2.2 c) (branch r (∃(v:Int),aK (λt n9=>∃(c1:Nat)(w:List cK)(w1:cK)(J:List nZ)(L:
 Nat),aA (aW (jR (bR g.1)) 1=aW (jR (gV (fD v) (Value.slice (mC t) n9 c1))) (↑L:Int)) (L<n9) (aA (AN j t w) (w[L]? =Option.some w1) (aA (E5 g.2.2 w1.columns J) (J.length<=8) (∀(A:Sl)(y:PH),dA g.2.2 y (Ints y A (List.map nZ.kind J)) (wY (λG B t2 M p d=>aA (uX cb 0::cN A (aW jG 1)=uX G 0::cN B (gQ t2 (↑d:Int))) (aR j y G) (aA (Ints y B M) (Ints y t2 p) (aA (fF M) (fF p) (mT d/\wV y (λv1 p1 z C=>aY (xN M p d p1) (bI j z G) (kR z C G (F9 g.1 1 (λb o=>bZ C 13 (iA v1.enc) (λs7 h7=>sP z b (o+5+4) (aM s7) (λm6=>∃(u:bY×MH×PH),aA (I4 u) gI (aA dY p7 (aA (sS g.1 u.1) (cT m6 u.2) (eA h7 u.2/\True))))))))))))))))))) (∃(u:bY×MH×
 PH),aA (I4 u) gI (aA dY p7 (aA (sS g.1 u.1) (cT j u.2) (cW g.2 u.2/\True))))))/\∀(u:bY×MH×PH),I4 u->K (jR (bR u.1)) u.2.1 u.2.2))))))))))))))))
noncomputable abbrev Ef(a:Nat×bY×MH×PH):Sl:=a.2.1.tables
attribute [push_cast] Ef
def Tr(cb:Nat)(m:MH)(h:PH)(K:bo):Prop:=
  ∃(c:Nat),aA (Bg cb=Bg c) (aR m h c) (∀(t n:Nat)(i:Int)(w:List cK)(s:bY),jQ (λe f=>CQ m h c t n i w s e f->∃(I:Nat×bY×MH×PH->Prop)(g:Nat×bY×MH×PH->Nat),(∃(x:Nat×bY×MH×PH),aA (I x) gI (aA (eP 3) (bQ s.tables (Ef x)) (aA (bC x.1) p7 (aA (sS s x.2.1) (cT e x.2.2) (j4 (eA f x.2.2))))))/\∀(x:Nat×bY×MH×PH),I x->aZ (↑x.1:Int) (aG (Ef x)) (aK (λb o=>aA (aL (tS x.2.1) b o) (0<=(↑x.1:Int)) ((↑x.1:Int)<aG (Ef x)/\sP x.2.2.1 b (bK o x.1 5+3) gA (λy=>aK (λj u=>aA (aL (tS x.2.1) j u) (0<=(↑x.1:Int)) ((↑x.1:Int)<aG (Ef x)/\sP y j (bK u x.1 5+4) gA (λz=>∃(d:Nat×bY×MH×PH),aA (I d) (g d<g x) (aA gI
 iM (aA (bQ (Ef x) (Ef d)) (bD (fP (bE x.1 1)) d.1) (aA p7 (sS x.2.1 d.2.1) (gX (cT z d.2.2) (cW x.2.2 d.2.2)))))))))))) (K (jR (bR x.2.1)) x.2.2.1 x.2.2.2)))
theorem WH{α:Type}(l:List α)(o:Nat)(x:α)(h:o<l.length):splice l o [x]=l.set o x:=by
 rw[set_eq_take_append_cons_drop,if_pos h];simp[splice]
theorem flatten_set:∀(ws:List cK){i k:Nat}{w w':cK}{x:Value},ws[i]? =some w->k<5->w'.enc=w.enc.set k x->((ws.map cK.enc).flatten).set (i*5+k) x=((ws.set i w').map cK.enc).flatten
 |[],i,k,w,w',x,h,_,_=>by simp at h
 |u::ws,0,k,w,w',x,h,c,e=>by
  simp at h;subst h;simp only[map_cons,flatten_cons,set_cons_zero,Nat.zero_mul,Nat.zero_add,e];rw[set_append_left _ _ (by simpa[cK.enc]using c)]
 |u::ws,i+1,k,w,w',x,h,c,e=>by
  simp only[map_cons,flatten_cons,set_cons_succ];have d:u.enc.length=5:=rfl;rw[set_append_right _ _ (by rw[d];omega),d,show(i+1)*5+k-5=i*5+k by omega,flatten_set ws (bj h) c e]
theorem aNZ(ws:List cK):((ws.map cK.enc).flatten).length=ws.length*5:=by
 induction ws with
 |nil=>rfl
 |cons w ws c=>simp only[map_cons,flatten_cons,length_append,c,length_cons];show 5+_=_;omega
theorem AN.big{d:Nat}{ws:List cK}{cs:Array Value}{E:TypeId}{e:Nat×Nat}(h:AN m d ws)(c:m d=some (.cells cs E e)):ws.length*5<=cs.size:=by
 obtain⟨f,g,j⟩:=h.ex;rw[g]at c;simp only[Option.some.injEq,Obj.cells.injEq]at c;obtain⟨rfl,_,_⟩:=c;have:=congrArg List.length j;rw[aNZ]at this;simp at this;omega
theorem AN.store{c:Nat}{ws:List cK}{w w':cK}{x:Value}(h:AN m c ws)(f:ws[i]? =some w)(g:k<5)(e:w'.enc=w.enc.set k x){cs:Array Value}{E:TypeId}{j:Nat×Nat}(d:m c=some (.cells cs E j))
 (n:m' c=some (.cells (splice cs.toList (i*5+k) [x]).toArray E (0,0))):AN m' c (ws.set i w'):=by
 have z:=h.big d;have o:=(List.getElem?_eq_some_iff.1 f).1;obtain⟨t,u,y⟩:=h.ex;rw[u]at d;simp only[Option.some.injEq,Obj.cells.injEq]at d;obtain⟨rfl,rfl,_⟩:=d;refine⟨_,n,?_⟩;rw[WH _ _ _ (by simp;omega),length_set,toList_toArray,take_set,y];exact flatten_set ws f g e
theorem AN.rd{d:Nat}{ws:List cK}(r:AN m d ws){j:Nat}{w:cK}{x:Value}(f:ws[i]? =some w)(g:w.enc[j]? =some x):aJ m h d (i*5+j) [x]:=by
 obtain⟨n,o,t⟩:=r.ex;refine .of_m o ?_;have c:=kU (xs:=ws.map cK.enc) (sz:=5) (λe u=>by obtain⟨x,_,rfl⟩:=mem_map.1 u;rfl) (by rw[getElem?_map,f];rfl) j x g;rw[<-t,getElem?_take]at c;split at c
 .rw[drop_cons c];rfl
 .cases c
theorem aw{g:Int}{j n u:Nat}{ws:List cK}{w:cK}{cols:List nZ}{t:Nat}(I:t<n)(D:AN m j ws)(E:ws[t]? =some w)(B:E5 h w.columns cols)(J:cols.length<=8)
 (F:∀sl h',PH.le h h'->Ints h' sl (cols.map nZ.kind)->K (cS sl) m h'):ah ⟨g,⟨some ⟨j,0,none⟩,n,u⟩⟩ t m h K:=by
 dsimp only[ah,push_cast];have y:=bN.slen B;refine aE (λG=>by omega) (λG=>aE (λz=>by have z:(t:Int)>=(n:Int):=z;omega) (λz=>?_));refine⟨j,0,rfl,aC,by show(t:Int)<(n:Int);omega,w.columns,?_,λ⟨i,sl,l⟩=>sl=w.columns/\i<=cols.length/\l=(cols.take i).map nZ.kind,λ⟨i,_,_⟩=>cols.length-i,⟨(0,w.columns,[]),⟨rfl,bg,bg⟩,MT⟩,?_⟩
 .rw[Nat.zero_add,Int.toNat_natCast];exact D.rd E rfl
 rintro⟨i,_,_⟩ ⟨rfl,L,rfl⟩;dsimp only;refine aE (λf=>?_) (λH sl h' A d=>?_)
 .obtain⟨c,C⟩:=eN y f;obtain⟨b,o,e,r⟩:=E5.at B C;refine⟨b,o,e,aC,f,c,.imm r,?_,?_,(i+1,w.columns,(cols.take (i+1)).map nZ.kind),⟨rfl,aC,rfl⟩,by show cols.length-(i+1)<cols.length-i;omega,?_⟩
  .simp;omega
  .simp;omega
  .rw[iI C,map_append];exact MT
 .rw[take_of_length_le aC]at d;exact F sl h' A ⟨d,by simp;omega⟩
theorem ax:bk 59 abQ:=by
 refine eV (fn:=Tryz.f59) (c:=cC Tryz.f59) func59 rfl bh ?_;rintro e m h K ⟨f,B,n,g,C,w,d,t,rfl,j,o,u,y,z,A⟩;refine⟨f59_ctx m h,rfl,aF,?_⟩;rw[<-av];exact aw j o u y z A
theorem Nl.mono{t:Ay}{w:cK}(x:Nl h t w)(le:PH.le h h'):Nl h' t w:=⟨x.name_,x.key_,bN.mono x.cols_ le λ_ _ e=>e⟩
theorem YV.mono{id:Int}{ws:List cK}(x:YV h id ws)(le:PH.le h h'):YV h' id ws:=⟨x.1,λi t e=>let⟨w,e1,e2⟩:=x.2 i t e;⟨w,e1,e2.mono le⟩⟩
theorem YV.set{id:Int}{ws:List cK}{w w':cK}(x:YV h id ws)(f:ws[i]? =some w)(n:w'.name=w.name)(o:w'.key=w.key)(y:w'.columns=w.columns):YV h id (ws.set i w'):=by
 refine⟨by rw[length_set];exact x.1,λj t e=>?_⟩;obtain⟨u,d,c⟩:=x.2 j t e;by_cases g:i=j
 .subst g;rw[f]at d;cases d;exact⟨w',by rw[getElem?_set_self (List.getElem?_eq_some_iff.1 f).1],⟨by rw[n];exact c.name_,by rw[o];exact c.key_,by rw[y];exact c.cols_⟩⟩
 .exact⟨u,by rw[getElem?_set_ne g];exact d,c⟩
theorem CQ.on{m0 c:MH}{g d:PH}{e n:Nat}{id:Int}{ws:List cK}{s:bY}(x:CQ m0 g cb e n id ws s m h)(le:PH.le h d)(j:bI m c cb)(t:aR c d cb):CQ m0 g cb e n id ws s c d:=by
 refine⟨x.le_.trans le,x.ver0,x.ver1,t,x.n2,x.n4,x.sl_,x.id_,x.new_,x.ne_,?_,x.ws_.mono le,λb o u=>by rw[j.other b o];exact x.other_ b o u⟩;obtain⟨f,y,z⟩:=x.row_.ex;exact⟨f,by rw[j.other e x.ne_];exact y,z⟩
theorem CQ.store{m0:MH}{t:PH}{c n:Nat}{id:Int}{ws:List cK}{s:bY}(x:CQ m0 t cb c n id ws s m h){o:Nat}{w w':cK}{y:Value}(d:ws[i]? =some w)(z:k<5)(A:o=i*5+k)(e:w'.enc=w.enc.set k y)(B:w'.name=w.name)(C:w'.key=w.key)(D:w'.columns=w.columns){Q:MH->Prop}
 (F:∀m2,CQ m0 t cb c n id (ws.set i w') s m2 h->Q m2):∃(cs:Array Value)(E:TypeId),Lo m c (.cells cs E (0,0))/\o<cs.size/\∀m2:MH,gG m m2 c (.cells (splice cs.toList o [y]).toArray E (0,0))->Q m2:=by
 obtain⟨f,g,L⟩:=x.row_.ex;have G:=(List.getElem?_eq_some_iff.1 d).1;refine⟨f,82,⟨g⟩,by have:=x.row_.big g;omega,λm2 j=>F m2 ?_⟩;subst A;refine⟨x.le_,x.ver0,x.ver1,?_,x.n2,x.n4,x.sl_,x.id_,x.new_,x.ne_,x.row_.store d z e g j.at_,x.ws_.set d B C D,λb H u=>by rw[j.other b u];exact x.other_ b H u⟩;obtain⟨r,q,cs,k,I,J⟩:=x.case_;exact⟨r,q,cs,k,by rw[j.other cb x.ne_.symm];exact I,J⟩
theorem JE{h:PH}{s:Sl}{l:List nZ}(r:cZ h s 2 (l.map nZ.enc))(c:l.length<=8):E5 h s l:=⟨⟨l,r,rfl,λi x e=>⟨x,e,rfl⟩⟩,aC⟩
theorem rE.tabs{m m':MH}{h:PH}{s:Sl}{w:cK}{ws:List cK}(x:rE m m' h s 82 5 ((w::ws).map cK.enc)):∃f d,s=⟨some ⟨f,0,none⟩,ws.length+1,d⟩/\ws.length+1<=d/\AN m' f (w::ws)/\bW m h f/\∀b,b≠f->m' b=m b:=by
 rcases x.row.ex with⟨_,e⟩|⟨b,d,g,e,j,n,_,u,o⟩
 .cases e
 .subst e;refine⟨b,d,bg,bj n,⟨g,j,bj o⟩,x.fresh b 0 rfl,λc t=>x.other c (λi e=>by simp only[Option.some.injEq,Addr.mk.injEq]at e;exact t e.1.symm)⟩
theorem arJ:bk 29 Z4:=by
 refine iB func29 ?_;rintro a7 m h K ⟨cb,rfl,hc,hK⟩;refine⟨bvX cb,rfl,aD Kv (aD Br (aD aoZ (aD ax (aD GR aF)))),Vv cb m h K,bf,?_⟩;dsimp only[Vv,push_cast];refine⟨cb,3,rfl,hc,λk m1 k0 k1 S c1=>?_⟩;have a0:IntKind.i64.wrap (2+k)=2+k:=eG aC aC;rw[a0];refine⟨λ⟨n,id,F,L⟩=>2<=n/\n<=4/\(id=4\/id=5)/\L=h/\bI m F cb/\aR F h cb,⟨cb,5,rfl,aC,aC,c1,λr m2 o2 c2=>aB (λ_=>⟨(2+k,5,m2,h),⟨by show 2<=2+k;omega,by show 2+k<=4;omega,.inr rfl,rfl,S.trans o2,c2⟩,MT⟩) (λ_=>⟨(2+k,4,m2,h),⟨by show 2<=2+k;omega,by show 2+k<=4;omega,.inl rfl,rfl,S.trans o2,c2⟩,MT⟩)⟩,?_⟩;clear S c1 m1 a0 k0 k1 k;rintro⟨n,id,m1,L⟩ ⟨n2,n4,a4,rfl,S,c1⟩;dsimp only;refine⟨cb,3,rfl,c1,λk m2 k0 k1 o2 c2=>?_⟩;refine⟨_,_,rfl,_,_,rfl,_,_,rfl,_,_,rfl,_,_,rfl,_,_,rfl,_,_,rfl,_,_,rfl,_,_,rfl,λs1 h1 a1 r1 s2 h2 T r2 s3 h3 G r3 s4 h4 A r4 tl m3 M=>?_⟩;obtain⟨d,f,rfl,O,P,U,B⟩:=rE.tabs (w:=⟨_,s1,1,cD,cD⟩) (ws:=[⟨_,s2,1,cD,cD⟩,⟨_,s3,2,cD,cD⟩,⟨_,s4,1,cD,cD⟩]) M;simp only[length_cons,length_nil]at O;have V:PH.le L h4:=((a1.trans T).trans G).trans A
 have y:d≠cb:=λe=>by
  obtain⟨r,q,cs,j,q1,_⟩:=c2;have:=U.m_;rw[e,q1]at this;cases this
 have a2:m d=none:=by rw[<-S.other d y, <-o2.other d y];exact U.m_
 have c3:aR m3 h4 cb:=by
  obtain⟨r,q,cs,j,q1,q2,q3⟩:=c2;exact⟨r,q,cs,j,by rw[B cb y.symm];exact q1,q2.mono V,q3⟩
 have S0:CQ m L cb d n.toNat id _ ⟨k,⟨some ⟨d,0,none⟩,n.toNat,f⟩⟩ m3 h4:=⟨V,k0,by show k<=2;omega,c3,aC,aC,⟨f,rfl,aC⟩,a4,a2,y,P,⟨rfl,λi t e=>?_⟩,λb n1 n2=>by rw[B b n2,o2.other b n1,S.other b n1]⟩
 rotate_left
 .match i,e with
  |0,e=>cases e;exact⟨_,rfl,⟨rfl,rfl,JE (l:=[⟨_,_⟩,⟨_,_⟩]) (r1.mono ((T.trans G).trans A)) bh⟩⟩
  |1,e=>cases e;exact⟨_,rfl,⟨rfl,rfl,JE (l:=[⟨_,_⟩,⟨_,_⟩,⟨_,_⟩,⟨_,_⟩]) (r2.mono (G.trans A)) bg⟩⟩
  |2,e=>cases e;exact⟨_,rfl,⟨rfl,rfl,JE (l:=[⟨_,_⟩,⟨_,_⟩]) (r3.mono A) bh⟩⟩
  |3,e=>cases e;exact⟨_,rfl,⟨rfl,rfl,JE (l:=[⟨_,_⟩]) r4 bg⟩⟩
  |i+4,e=>simp[mV]at e
 generalize a5:(cK.mk _ s1 1 cD cD::_)=a8 at S0;clear a5 P M r1 r2 r3 r4;have C:∀{ws:List cK}{i:Nat},ws.length=4->i<4->∃w,ws[i]? =some w:=λhl hi=>⟨_,getElem?_eq_getElem aC⟩
 refine⟨aC,by show n<=(f:Int);omega,λ⟨W,s,F,X⟩=>W=n/\∃ws,CQ m L cb d n.toNat id ws s F X,⟨cb,2,rfl,aC,aC,c3,λr Y o4 c4=>aB (λ_ s5 H a3 r5=>⟨d,0,rfl,aC,aC,λs6 h6 D r6=>?_⟩) (λ_=>⟨(n,⟨k,⟨some ⟨d,0,none⟩,n.toNat,f⟩⟩,Y,h4),⟨rfl,_,S0.on (.refl _) o4 c4⟩,MT⟩)⟩,?_⟩
 .obtain⟨w,Q⟩:=C (i:=1) S0.ws_.1 aC;exact(S0.on (a3.trans D) o4 (c4.mono (a3.trans D))).store (k:=3) (w':={w with references:=s6}) Q aC rfl rfl rfl rfl rfl λz Z=>⟨(n,⟨k,⟨some ⟨d,0,none⟩,n.toNat,f⟩⟩,z,h6),⟨rfl,_,Z⟩,MT⟩
 clear S0 c3 B U a2 O V a1 T G A S o2 c1 c2;rintro⟨W,s,Y,H⟩ ⟨rfl,ws,S0⟩;dsimp only;obtain⟨f,c,_⟩:=S0.sl_;have o:s.tables.a=some ⟨d,0,none⟩:=by rw[c]
 have I:s.tables.len=W.toNat:=by rw[c]
 refine⟨λ⟨n,s,F,X⟩=>n=W/\∃ws,CQ m L cb d n.toNat id ws s F X,aE (λhn=>⟨cb,3,rfl,aC,aC,S0.case_,λr z R J=>aB (λ_ s7 h7 u r7=>⟨d,0,o,aC,aC,λs8 h8 g r8=>?_⟩) (λ_=>⟨(W,s,z,H),⟨rfl,_,S0.on (.refl _) R J⟩,MT⟩)⟩) (λ_=>⟨(W,s,Y,H),⟨rfl,_,S0⟩,MT⟩),?_⟩
 .obtain⟨w,Q⟩:=C (i:=2) S0.ws_.1 aC;exact(S0.on (u.trans g) R (J.mono (u.trans g))).store (k:=3) (w':={w with references:=s8}) Q aC rfl rfl rfl rfl rfl λz Z=>⟨(W,s,z,h8),⟨rfl,_,Z⟩,MT⟩
 clear S0 o I c;rintro⟨E,s,Y,H⟩ ⟨rfl,ws,S0⟩;dsimp only;obtain⟨f,c,_⟩:=S0.sl_;have o:s.tables.a=some ⟨d,0,none⟩:=by rw[c]
 have I:s.tables.len=E.toNat:=by rw[c]
 refine⟨λ⟨s,F,X⟩=>∃ws,CQ m L cb d E.toNat id ws s F X,aE (λhn=>⟨cb,3,rfl,aC,aC,S0.case_,λr z R J=>aB (λ_ s7 h7 u r7=>⟨d,0,o,aC,aC,λs8 h8 g r8=>?_⟩) (λ_=>⟨(s,z,H),⟨_,S0.on (.refl _) R J⟩,MT⟩)⟩) (λ_=>⟨(s,Y,H),⟨_,S0⟩,MT⟩),?_⟩
 .obtain⟨w,Q⟩:=C (i:=3) S0.ws_.1 aC;exact(S0.on (u.trans g) R (J.mono (u.trans g))).store (k:=3) (w':={w with references:=s8}) Q aC rfl rfl rfl rfl rfl λz Z=>⟨(s,z,h8),⟨_,Z⟩,MT⟩
 clear S0 o I c;rintro⟨s,Y,H⟩ ⟨ws,S0⟩;dsimp only;obtain⟨f,c,_⟩:=S0.sl_;have o:s.tables.a=some ⟨d,0,none⟩:=by rw[c]
 have I:s.tables.len=E.toNat:=by rw[c]
 refine⟨λ⟨s,F,X⟩=>∃ws,CQ m L cb d E.toNat id ws s F X,⟨cb,3,rfl,aC,aC,S0.case_,λr z R J=>aB (λ_=>?_) (λ_=>⟨(s,z,H),⟨_,S0.on (.refl _) R J⟩,MT⟩)⟩,λ⟨s,Y,H⟩⟨ws,S0⟩=>hK _ _ _ _ _ _ _ S0⟩;have S1:=S0.on (.refl _) R J;obtain⟨w,Q,a'⟩:=S1.ws_.2 1 _ rfl;refine⟨s.version,d,E.toNat,f,ws,w,_,1,by rw[c];rfl,aC,S1.row_,Q,a'.cols_,bg,λsl h6 D a6=>?_⟩;refine⟨cb,sl,cD,_,[],1,rfl,J.mono D,a6,⟨cZ.nil _ _,bg⟩,bg,bg,aC,λa9 p m6 h7 u hp b' o6 c6=>⟨d,0,o,aC,aC,λs8 h8 g r8=>?_⟩⟩;exact(S1.on ((D.trans u).trans g) o6 (c6.mono g)).store (k:=4) (w':={w with checks:=s8}) Q aC rfl rfl rfl rfl rfl λz Z=>⟨(s,z,h8),⟨_,Z⟩,MT⟩
structure BT(s:mI):Prop where
 ex:∃ver n id,0<=ver/\ver<=2/\2<=n/\n<=4/\(id=4\/id=5)/\s=⟨ver,(mV id).take n⟩
def bcZ:Vc.Spec:=λc m h K=>∃cb,c=[cP cb]/\aR m h cb/\∀s v m' h',BT s->gO h' s v->PH.le h h'->bI m m' cb->aR m' h' cb->K (aS v) m' h'
theorem aOJ:bk 8 bcZ:=by
 refine Tm func8 ?_;rintro a' m h K ⟨cb,rfl,hc,hK⟩;refine⟨bQQ,rfl,aD arJ aF,Tr cb m h (cE h K),bf,?_⟩;show Tr cb m h (cE h K);dsimp only[Tr,push_cast];refine⟨cb,rfl,hc,λc n id z s P A S1=>?_⟩;refine⟨λ⟨i,D,mx,E⟩=>D=s/\E=A/\i<=n/\∃z,CQ m h cb c n id z s mx A/\∀j w,j<i->z[j]? =some w->w.references=cD/\w.checks=cD,λ⟨i,_,_,_⟩=>n-i,⟨(0,s,P,A),⟨rfl,rfl,aC,z,S1,λj w R=>by omega⟩,MT⟩,?_⟩;clear S1 z P;rintro⟨i,D,P,E⟩ ⟨rfl,rfl,L,z,S1,B⟩;dsimp only;obtain⟨a0,F,G⟩:=S1.sl_;have H:D.tables.a=some ⟨c,0,none⟩:=by rw[F]
 have S:D.tables.len=n:=by rw[F]
 have T:=S1.n4;refine aE (λM=>⟨c,0,H,aC,M,?_⟩) (λa1 f=>?_)
 .obtain⟨w,Y⟩:∃w,z[i]? =some w:=⟨_,getElem?_eq_getElem (by have:=S1.ws_.1;have:=S1.n4;omega)⟩
  refine S1.store (i:=i) (k:=3) (w':={w with references:=cD}) Y aC aC rfl rfl rfl rfl λm2 S2=>⟨c,0,H,aC,M,?_⟩
  have O:=(List.getElem?_eq_some_iff.1 Y).1;have U:(z.set i {w with references:=cD})[i]? =some {w with references:=cD}:=getElem?_set_self O;refine S2.store (i:=i) (k:=4) (w':={w with references:=cD,checks:=cD}) U aC aC rfl rfl rfl rfl λm3 S3=>⟨(i+1,D,m3,E),⟨rfl,rfl,by show i+1<=n;omega,_,S3,λj u R Q=>?_⟩,by show n-(i+1)<n-i;omega,MT⟩
  by_cases e:i=j
  .subst e;rw[getElem?_set_self (by rw[length_set];exact O)]at Q;cases Q;exact⟨rfl,rfl⟩
  .rw[getElem?_set_ne e,getElem?_set_ne e]at Q;exact B j u aC Q
 .have f:=f;obtain⟨I,C,J⟩:=S1.row_.ex;have V:∀i,E c i=none:=f c _ C
  have d:PH.le E (λx i=>if x=c then I[i]? else E x i):=⟨λx i v e=>by
   have:x≠c:=λg=>by rw[g,V i]at e;cases e
   simp[this,e]⟩
  refine⟨λb=>if b=c then none else P b,λx i=>if x=c then I[i]? else E x i,λb o e=>?_,S1.le_.trans d,λx i v e=>?_,hK ⟨D.version,(mV id).take n⟩ D _ _ ⟨⟨_,_,_,S1.ver0,S1.ver1,S1.n2,S1.n4,S1.id_,rfl⟩⟩ ⟨rfl,?_⟩ (S1.le_.trans d) ⟨λb hb=>?_⟩ ?_⟩
  .by_cases g:b=c
   .simp[g]at e
   .simpa[g]using e
  .by_cases g:x=c
   .subst g;simp at e;exact .inr ⟨I,82,(0,0),C,e,bg⟩
   .simp[g]at e;exact .inl e
  .have Z:=S1.ws_.1;have T:=S1.n4;refine⟨⟨z.take n,⟨by rw[S];simp;omega,.inr ⟨c,0,H,λi e L=>⟨λj v R=>?_⟩⟩,by rw[F];exact G⟩,by simp[mV];omega,λi t e=>?_⟩,by simp[mV];omega⟩
   .rw[map_take,getElem?_take]at L;split at L
    .have A:=kU (xs:=z.map cK.enc) (sz:=5) (λe he=>by obtain⟨x,_,rfl⟩:=mem_map.1 he;rfl) L j v R;rw[<-J,getElem?_take]at A;split at A
     .simp only[if_true,Nat.zero_add];rw[<-Array.getElem?_toList];exact A
     .cases A
    .cases L
   .rw[getElem?_take]at e;split at e
    .rename_i W;obtain⟨w,e1,e2⟩:=S1.ws_.2 i t e;obtain⟨z1,z2⟩:=B i w aC e1;have X:=e2.mono d
     have y:t.refs=[]/\t.checks=[]:=by
      match i,e with
      |0,e=>cases e;exact⟨rfl,rfl⟩
      |1,e=>cases e;exact⟨rfl,rfl⟩
      |2,e=>cases e;exact⟨rfl,rfl⟩
      |3,e=>cases e;exact⟨rfl,rfl⟩
      |i+4,e=>simp[mV]at e
     refine⟨w,by rw[getElem?_take,if_pos W];exact e1,⟨X.name_,X.cols_,X.key_,by rw[z1,y.1];exact bN.nil _ _ _ _,by rw[z2,y.2];exact bN.nil _ _ _ _⟩⟩
    .cases e
  .by_cases g:b=c
   .subst g;simp[S1.new_]
   .simp[g];exact S1.other_ b hb g
  .obtain⟨r,q,cs,k,q1,q2,q3⟩:=S1.case_;exact⟨r,q,cs,k,by simp[S1.ne_.symm];exact q1,q2.mono d,q3⟩
def QW(q:Query):Prop:=
 match q with
 |.mk _ _ w _ _ _ _ _ args=>CR w/\∀a∈args,QW a
 termination_by SizeOf.sizeOf q
theorem SS{op:Int}{on:bx}{args:ce}:
 QW (.mk op ta w co on gr od li args)↔CR w/\∀a∈args,QW a:=by rw[QW.eq_def]
def bXX(s:mI):Prop:=∀t,Ms (jY s t)
structure baZ(s:mI)(ps ks:br)(q0 q:Query):Prop where
 qw:QW q
 siz:∀d,Bn d q0->PM d q
 kin:bXX s->Ms ps->Ms ks->ks≠[]->ks.length<=12->bH s ps q0=(ks,0)->bH s ps q=(ks,0)
def KQ(K:bo)(m:MH)(h:PH)(cb:Nat)(R:Query->Prop):Prop:=∀w q m' h',PH.le h h'->dQ h' q w->R q->bI m m' cb->aR m' h' cb->K (aQ w) m' h'
def Z2:Vc.Spec:=λc m h K=>∃cb sc p k v s ps ks q,c=[cP cb,aS sc,cS p,cS k,aQ v]/\aR m h cb/\gO h s sc/\nK s/\s.tables.length<=1000/\Ints h p ps/\ps.length<=1000/\Ints h k ks/\ks.length<=1000/\dQ h q v/\QW q/\KQ K m h cb (baZ s ps ks q)
noncomputable def buJ(cb:Nat)(sc:bY)(p k:Sl)(v:QV):Ctx:=
 dG [(30,JR),(59,xO),(31,bbZ),(36,PK),(18,BS)] [(3,{A:=Int×Nat×MH×PH,st:=λ⟨f,n,m,h⟩=>bO 112 117 [(0,pv cb),(2,sv p),(3,sv k),(6,.at (.ptr 6 0)),(9,.at (.ptr 9 0)),(10,.at (.ptr 10 0)),(11,iv f),(12,iv n)] [(6,.cells 40 (sc.enc.map .val)),(9,.cells 35 (v.enc.map .val)),(10,.cells 35 (CU.enc.map .val))] m h}),
  (9,{A:=Int×Nat×Int×Sl×br×Nat×MH×PH,st:=λ⟨f,n,t,c,d,i,m,h⟩=>bO 112 117 [(0,pv cb),(2,sv p),(3,sv k),(6,.at (.ptr 6 0)),(9,.at (.ptr 9 0)),(10,.at (.ptr 10 0)),(11,iv f),(12,iv n),(13,iv t),(14,sv c),(15,.at (.lst 75)),(45,sv k),(46,iv k.len),(47,iv i)] [(6,.cells 40 (sc.enc.map .val)),(9,.cells 35 (v.enc.map .val)),(10,.cells 35 (CU.enc.map .val)),(75,.lst 3 1 (d.map eI))] m h}),
  (13,{A:=Int×Nat×Int×Sl×br×Nat×Int×Int×Nat×MH×PH,st:=λ⟨f,n,t,c,d,i,e,g,j,m,h⟩=>bO 112 117 [(0,pv cb),(2,sv p),(3,sv k),(6,.at (.ptr 6 0)),(9,.at (.ptr 9 0)),(10,.at (.ptr 10 0)),(11,iv f),(12,iv n),(13,iv t),(14,sv c),(15,.at (.lst 75)),(17,iv e),(18,iv g),(45,sv k),(46,iv k.len),(47,iv i),(56,iv c.len),(57,iv j)] [(6,.cells 40 (sc.enc.map .val)),(9,.cells 35 (v.enc.map .val)),(10,.cells 35 (CU.enc.map .val)),(75,.lst 3 1 (d.map eI))] m h})] [] [] false
abbrev lT:Prop:=eP 10
noncomputable abbrev A5(a:Int×Nat×Int×Sl×br×Nat×MH×PH):Sl:=a.2.2.2.1
noncomputable abbrev A4(a:Int×Nat×Int×Sl×br×Nat×MH×PH):Nat:=a.2.2.2.2.2.1
noncomputable abbrev A6(a:Int×Nat×Int×Sl×br×Nat×MH×PH):List bm:=oW a.2.2.2.2.1
noncomputable abbrev uR(a:Int×Nat×Int×Sl×br×Nat×MH×PH):MH×PH:=a.2.2.2.2.2.2
noncomputable abbrev I8(a:Int×Nat×Int×Sl×br×Nat×MH×PH):Nat->Option Obj:=mO a.2.2.2.2.2
noncomputable abbrev rO(a:Int×Nat×Int×Sl×br×Nat×MH×PH):Nat->Nat->Option Value:=jO a.2.2.2.2.2
noncomputable abbrev rQ(a:Int×Nat×Int×Sl×br×Nat×Int×Int×Nat×MH×PH):Sl:=a.2.2.2.1
noncomputable abbrev IU(a:Int×Nat×Int×Sl×br×Nat×Int×Int×Nat×MH×PH):Int:=a.2.2.2.2.2.2.1
noncomputable abbrev Gq(a:Int×Nat×Int×Sl×br×Nat×Int×Int×Nat×MH×PH):Nat:=a.2.2.2.2.2.1
noncomputable abbrev GB(a:Int×Nat×Int×Sl×br×Nat×Int×Int×Nat×MH×PH):Nat:=a.2.2.2.2.2.2.2.2.1
noncomputable abbrev Ct(a:Int×Nat×Int×Sl×br×Nat×Int×Int×Nat×MH×PH):List bm:=oW a.2.2.2.2.1
noncomputable abbrev wK(a:Int×Nat×Int×Sl×br×Nat×Int×Int×Nat×MH×PH):MH×PH:=a.2.2.2.2.2.2.2.2.2
noncomputable abbrev IT(a:Int×Nat×Int×Sl×br×Nat×Int×Int×Nat×MH×PH):Int:=Int.tmod (eT (a.2.2.2.2.2.2.2.1+(↑(GB a):Int))) (aG (rQ a))
abbrev Gr(a:Prop)(b c d:Nat)(e g:Sl)(i:Prop):Prop:=aA a (b<c) (aA (dD d) (aH e) (aA (aH g) (eP 6) (aA (eP 9) lT i)))
noncomputable abbrev DX(a:PV)(b:Sl):bm:=bA (fD 2) bJ (bA (fD a.op) (fD a.cmp) (bA (iZ a.left) (xR a.left) (bA (fD (oP a.left)) (sB a.left) (bA (oY a.left) (iZ a.right) (bA (xR a.right) (fD (oP a.right)) (bA (sB a.right) (oY a.right) (bA (dT a.args) rV (AF (aM b)))))))))
attribute [push_cast] lT A5 A4 A6 uR I8 rO rQ IU Gq GB Ct wK IT Gr DX
def Vr(cb:Nat)(sc:bY)(p k:Sl)(v:QV)(m:MH)(h:PH)(K:bo):Prop:=
  iQ cb (eT (iX sc+1)) m h (λV W=>∃(I:Int×Nat×MH×PH->Prop)(M:Int×Nat×MH×PH->Nat),(∃(x:Int×Nat×MH×PH),aA (I x) (dD cb) (aA (aH p) (aH k) (aA (eP 6) (eP 9) (aA lT (cQ V x.1) (aA (bC x.2.1) (bM sc) (aA (fL v) j8 (gX (cT W x.2.2) (eA h x.2.2))))))))/\∀(x:Int×Nat×MH×PH),I x->aZ (↑x.2.1:Int) (aG sc.tables) (jU (iX sc=0)/\Cn (aW (jR (bR sc)) (Int.tmod (eT (x.1+(↑x.2.1:Int))) (iX sc))) (jO x.2) (λs D=>∃(I1:Int×Nat×Int×Sl×br×Nat×MH×PH->Prop)(u:Int×Nat×Int×Sl×br×Nat×MH×PH->Nat),(∃(f:Int×Nat×Int×Sl×br×Nat×MH×PH),aA (I1 f) (dD cb) (aA (aH p) (aH k) (aA (eP 6) (eP 9) (aA lT (cQ x.1 f.1) (aA (cG x.2.1 f.2.1) (cQ
 (Int.tmod (eT (x.1+(↑x.2.1:Int))) (iX sc)) f.2.2.1) (aA (bB s (A5 f)) (eL 75) (aA (aH k) (bG k) (aA (bC (A4 f)) (bM sc) (aA (fL v) j8 (aA (wE (A6 f)) (eU x.2.2 (uR f)) (j4 (eA D (uR f)))))))))))))/\∀(f:Int×Nat×Int×Sl×br×Nat×MH×PH),I1 f->aZ (↑(A4 f):Int) (aG k) (aK (λb o=>aA (aL k.a b o) (0<=(↑(A4 f):Int)) ((↑(A4 f):Int)<aG k/\∃(y:Int),aJ (I8 f) (rO f) b (bK o (A4 f) 1) (bL y)/\iQ cb (aG (A5 f)) (I8 f) (rO f) (λX C=>∃(I2:Int×Nat×Int×Sl×br×Nat×Int×Int×Nat×MH×PH->Prop)(B:Int×Nat×Int×Sl×br×Nat×Int×Int×Nat×MH×PH->Nat),(∃(e:Int×Nat×Int×Sl×br×Nat×Int×Int×Nat×MH×PH),
 aA (I2 e) (dD cb) (aA (aH p) (aH k) (aA (eP 6) (eP 9) (aA lT (cQ f.1 e.1) (aA (cG f.2.1 e.2.1) (cQ f.2.2.1 e.2.2.1) (aA (bB (A5 f) (rQ e)) (eL 75) (aA (cQ y (IU e)) (cQ X e.2.2.2.2.2.2.2.1) (aA (aH k) (bG k) (aA (cG (A4 f) (Gq e)) (bQ (A5 f) (rQ e)) (aA (bC (GB e)) (bM sc) (aA (fL v) j8 (aA (DT (A6 f) (Ct e)) (cT C (wK e)) (j4 (cW (uR f) (wK e)))))))))))))))/\∀(e:Int×Nat×Int×Sl×br×Nat×Int×Int×Nat×MH×PH),I2 e->aZ (↑(GB e):Int) (aG (rQ e)) (jU (aG (rQ e)=0)/\aK (λS T=>aA (aL (rQ e).a S T) (0<=IT e) (IT e<aG (rQ e)/\∃(U:Int),aJ (mO e.2.2.2.2.2.2.2.2) (jO
 e.2.2.2.2.2.2.2.2) S (fX T (IT e) 1) (bL U)/\eD U (IU e) (aA (iY (jA (Ct e) 1) 8) (dO (Ct e)) (∃(g:Int×Nat×Int×Sl×br×Nat×MH×PH),Gr (I1 g) (u g) (u f) cb p k (aA (cQ e.1 g.1) (cG e.2.1 g.2.1) (aA (cQ e.2.2.1 g.2.2.1) (bB (rQ e) (A5 g)) (aA (eL 75) (aH k) (aA (bG k) (bD (fP (bE (Gq e) 1)) (A4 g)) (aA (bM sc) (fL v) (aA j8 (wF (Ct e) (IT e) (A6 g)) (gX (eU (wK e) (uR g)) (cW (wK e) (uR g))))))))))) (∃(g:Int×Nat×Int×Sl×br×Nat×Int×Int×Nat×MH×PH),Gr (I2 g) (B g) (B e) cb p k (aA (cQ e.1 g.1) (cG e.2.1 g.2.1) (aA (cQ e.2.2.1 g.2.2.1) (bB (rQ e) (rQ g)) (aA (eL 75) (cQ (IU e)
 (IU g)) (aA (cQ e.2.2.2.2.2.2.2.1 g.2.2.2.2.2.2.2.1) (aH k) (aA (bG k) (cG (Gq e) (Gq g)) (aA (bQ (rQ e) (rQ g)) (bD (fP (bE (GB e) 1)) (GB g)) (aA (bM sc) (fL v) (aA j8 (DT (Ct e) (Ct g)) (gX (eU (wK e) (wK g)) (cW (wK e) (wK g))))))))))))))) (∃(g:Int×Nat×Int×Sl×br×Nat×MH×PH),Gr (I1 g) (u g) (u f) cb p k (aA (cQ e.1 g.1) (cG e.2.1 g.2.1) (aA (cQ e.2.2.1 g.2.2.1) (bB (rQ e) (A5 g)) (aA (eL 75) (aH k) (aA (bG k) (bD (fP (bE (Gq e) 1)) (A4 g)) (aA (bM sc) (fL v) (aA j8 (DT (Ct e) (A6 g)) (gX (eU (wK e) (uR g)) (cW (wK e) (uR g)))))))))))))) (eD f.1 (iX sc) (∃(e:Int×
 Nat×MH×PH),Gr (I e) (M e) (M x) cb p k (aA (cQ f.1 e.1) (bD (fP (bE f.2.1 1)) e.2.1) (aA (bM sc) (fL v) (aA j8 (eU (uR f) e.2.2) (cW (uR f) e.2.2/\True))))) (aZ (↑(A6 f).length:Int) (aG k) (∃(e:Int×Nat×MH×PH),Gr (I e) (M e) (M x) cb p k (aA (cQ f.1 e.1) (bD (fP (bE f.2.1 1)) e.2.1) (aA (bM sc) (fL v) (aA j8 (eU (uR f) e.2.2) (cW (uR f) e.2.2/\True))))) (yX f.2.2.1 (λt=>lW cb 2 (I8 f) (rO f) (λc r=>∀(C:MH),aY (bI (I8 f) C c) (aR C (rO f) c) (branch r (wY (λj z H E n d=>aA (uX cb 0::cN (A5 f) (gQ p 1)=uX j 0::cN z (gQ H (↑d:Int))) (aR C (rO f) j) (aA (Ints (rO f) z E) (Ints (rO f) H n)
 (aA (fF E) (fF n) (mT d/\wV (rO f) (λF G B A=>aY (xN E n d G) (bI C B j) (kR B A j (bZ A 21 (iA (Cu t)) (λJ L=>bZ L 1 (A6 f) (λO P=>bZ P 21 (iA (DX F J)) (λQ R=>K (jR (bA (fD 3) bJ (bA bJ bJ (bA bJ bJ (bA bJ bJ (v8 (dT O) (AF (aM Q)))))))) B R))))))))))/\wY (λj z H E n d=>aA (uX cb 0::cN (A5 f) (gQ p 1)=uX j 0::cN z (gQ H (↑d:Int))) (aR C (rO f) j) (aA (Ints (rO f) z E) (Ints (rO f) H n) (aA (fF E) (fF n) (mT d/\wV (rO f) (λF G B A=>aY (xN E n d G) (bI C B j) (kR B A j (bZ A 21 (iA (Cu t)) (λJ L=>bZ L 1 (A6 f) (λO P=>bZ P 21 (iA
 (DX F J)) (λQ R=>K (jR (bA (fD 3) bJ (bA bJ bJ (bA bJ bJ (bA bJ bJ (v8 (dT O) (AF (aM Q)))))))) B R))))))))))) (bZ (rO f) 1 (A6 f) (λz A=>bZ A 21 (iA (Cu t)) (λJ L=>K (jR (bA (fD 3) bJ (bA bJ bJ (bA bJ bJ (bA bJ bJ (v8 (dT z) (AF (aM J)))))))) C L))))))))))) (wY (λc s t j n d=>aA (uX cb 0::cN k (gQ p 1)=uX c 0::cN s (gQ t (↑d:Int))) (aR (mO x.2) (jO x.2) c) (aA (Ints (jO x.2) s j) (Ints (jO x.2) t n) (aA (fF j) (fF n) (mT d/\wV (jO x.2) (λF G u D=>aY (xN j n d G) (bI (mO x.2) u c) (kR u D c (bZ D 21 (iA v.enc) (λz A=>K (jR (DX F z)) u A))))))))/\wY (λc s t j n d=>aA (uX cb 0
 ::cN k (gQ p 1)=uX c 0::cN s (gQ t (↑d:Int))) (aR (mO x.2) (jO x.2) c) (aA (Ints (jO x.2) s j) (Ints (jO x.2) t n) (aA (fF j) (fF n) (mT d/\wV (jO x.2) (λF G u D=>aY (xN j n d G) (bI (mO x.2) u c) (kR u D c (bZ D 21 (iA v.enc) (λz A=>K (jR (DX F z)) u A))))))))))
theorem nF(h:PH):Ints h cD []:=⟨cZ.nil _ _,bg⟩
theorem vL(h:PH):jK h cD []:=⟨cZ.nil _ _,bg⟩
theorem yA(h:PH):gZ h cD []:=⟨cZ.nil _ _,bg⟩
theorem FX(h:PH):eW h gS jM:=Ji (v:=jM) rfl
theorem yD{h:PH}{s:Sl}{v:QV}{q:Query}(r:cZ h s 21 [QV.enc v])(c:dQ h q v):xM h s [q]:=⟨⟨[v],r,rfl,λi x e=>by
 match i,e with
 |0,e=>simp at e;subst e;exact⟨v,rfl,c⟩
 |i+1,e=>simp at e⟩,bg⟩
theorem De(h:PH)(t:Int):dQ h (.mk 1 t gS [] [] [] [] 0 []) ⟨1,t,jM,cD,cD,cD,cD,0,cD⟩:=
 tV.rep ⟨rfl,rfl,FX h,nF h,vL h,nF h,yA h,rfl,bN.nil _ _ _ _⟩
theorem EF{v:PV}{s:Sl}(c:eW h p v)(d:xM h s [q]):dQ h (.mk 2 0 p [] [] [] [] 0 [q]) ⟨2,0,v,cD,cD,cD,cD,0,s⟩:=
 tV.rep ⟨rfl,rfl,c,nF h,vL h,nF h,yA h,rfl,d⟩
theorem LH{h:PH}{c s:Sl}{cols:br}{q:Query}(d:Ints h c cols)(e:xM h s [q]):dQ h (.mk 3 0 gS cols [] [] [] 0 [q]) ⟨3,0,jM,c,cD,cD,cD,0,s⟩:=
 tV.rep ⟨rfl,rfl,FX h,d,vL h,nF h,yA h,rfl,e⟩
theorem DC:CR gS:=⟨qN,qN,trivial⟩
theorem NO{op:Int}{on:bx}(d:CR w)(e:QW q):QW (.mk op ta w co on gr od li [q]):=SS.2 ⟨d,λa c=>by simp at c;subst c;exact e⟩
theorem Ig(t:Int):QW (.mk 1 t gS [] [] [] [] 0 []):=SS.2 ⟨DC,λa c=>by simp at c⟩
theorem Zd{a:Int}{n:Nat}(c:0<=a)(d:0<n):0<=a.tmod (n:Int)/\a.tmod (n:Int)<(n:Int):=by
 rw[Int.tmod_eq_emod_of_nonneg c];exact⟨Int.emod_nonneg _ aC,Int.emod_lt_of_pos _ aC⟩
theorem Qu{k:br}{op:Int}{on:bx}(c:arity op=1)(h:bH s ps q=(k,0)):bH s ps (.mk op ta w co on gr od li [q])=fH s ps (.mk op ta w co on gr od li [q]) k []:=by
 have e:eM s ps [q]=([k],0):=vF (by simp[h]);simp[bH,e,c]
theorem Tb(h:l.length<=12):mG l=(l,0):=if_pos h
theorem WZ{t:Int}(c:0<=t)(d:t<s.tables.length)(e:(jY s t).length<=12):bH s ps (.mk 1 t gS [] [] [] [] 0 [])=(jY s t,0):=by
 have f:bH s ps (.mk 1 t gS [] [] [] [] 0 [])=fH s ps (.mk 1 t gS [] [] [] [] 0 []) [] []:=by simp[bH,eM,arity]
 rw[f];unfold fH;rw[if_neg (by simp[arity,dM])];dsimp only;rw[if_pos rfl,if_pos ⟨c,d⟩,Tb e]
theorem kinds_filter{k:br}(h:bH s ps q=(k,0))(c:fI k ps w=0)(d:k.length<=12):bH s ps (.mk 2 0 w [] [] [] [] 0 [q])=(k,0):=by
 rw[Qu bh h];unfold fH;rw[if_neg (by simp[arity,dM])];dsimp only;rw[if_neg bh,if_pos rfl,if_pos c,Tb d]
theorem PY{k:br}(h:bH s ps q=(k,0))(d:co≠[])(e:∀c∈co,EU k c=true)(f:co.length<=12):bH s ps (.mk 3 0 gS co [] [] [] 0 [q])=(co.map λc=>k.getD c.toNat 0,0):=by
 rw[Qu bh h];unfold fH;rw[if_neg (by simp[arity,dM])];dsimp only;rw[if_neg bh,if_neg bh,if_pos rfl,if_pos ⟨d,λj x g=>e x (mem_of_getElem? g)⟩,Tb (bj f)]
structure HP(kt ks co:br):Prop where
 in_:∀c∈co,EU kt c=true
 eq_:(co.map λc=>kt.getD c.toNat 0)=ks
theorem HP.kin{c ks:br}(x:HP c ks co)(h:bH s ps q=(c,0))(d:ks≠[])(g:ks.length<=12):bH s ps (.mk 3 0 gS co [] [] [] 0 [q])=(ks,0):=by
 have f:co.length=ks.length:=by rw[<-x.eq_,length_map]
 rw[PY h (λe=>d (eq_nil_of_length_eq_zero (by rw[<-f,e];rfl))) x.in_ aC,x.eq_]
theorem HP.snoc{f ks:br}{c x:Int}(p:HP f (ks.take i) co)(hx:ks[i]? =some x)(g:EU f c=true)(e:f.getD c.toNat 0=x):HP f (ks.take (i+1)) (co++[c]):=
 ⟨λy d=>by
  rcases mem_append.1 d with d|d
  .exact p.in_ y d
  .simp at d;subst d;exact g,by rw[map_append,p.eq_,take_add_one,hx,map_cons,map_nil,e];rfl⟩
theorem arX:bk 33 Z2:=by
 refine iB func33 ?_;rintro d1 m h K ⟨cb,sc,p,k,v,s,ps,ks,q,rfl,hc,hs,h8,d2,hp,b0,hk,a3,hq,b3,hK⟩;refine⟨buJ cb sc p k v,rfl,aD Kv (aD ab (aD QZ (aD Br (aD GR aF)))),Vr cb sc p k v m h K,bf,?_⟩;have d3:=hs.tables.slen;have b4:=hk.slen;have hw:IntKind.i64.wrap ((sc.tables.len:Int)+1)=(sc.tables.len:Int)+1:=eG aC aC;dsimp only[Vr,push_cast];rw[hw];refine⟨cb,_,rfl,hc,λf W f0 f1 o1 c1=>?_⟩;refine⟨λ⟨f,n,E,o⟩=>0<=f/\f<=sc.tables.len/\n<=sc.tables.len/\PH.le h o/\bI m E cb/\aR E o cb,λ⟨_,n,_,_⟩=>sc.tables.len-n,⟨(f,0,W,h),⟨f0,by show f<=(sc.tables.len:Int);omega,aC,.refl _,o1,c1⟩,MT⟩,?_⟩;clear f0 f1 o1 c1 W hw;rintro⟨f,n,W,o⟩ ⟨f0,f1,hn,A,o1,c1⟩;dsimp only
 have C:∀(kk:Sl)(kl:br)(E:MH)(o:PH)(Q:PV->Pred->MH->PH->Prop),Ints o kk kl->kl.length<=1000->PH.le h o->aR E o cb->(∀v p m' h',PH.le o h'->eW h' p v->xN kl ps 1 p->bI E m' cb->aR m' h' cb->Q v p m' h')->
  ∃(D:Nat)(s t:Sl)(cols u:br)(deep:Nat),[CV.val (.pointer (some ⟨cb,0,none⟩)),CV.val (.slice kk.a kk.len kk.cap),CV.val (.slice p.a p.len p.cap),CV.val (.int .i64 1)]=[CV.val (.pointer (some ⟨D,0,none⟩)),CV.val (.slice s.a s.len s.cap),CV.val (.slice t.a t.len t.cap),CV.val (.int .i64 deep)]/\aR E o D/\Ints o s cols/\Ints o t u/\cols.length<=1000/\u.length<=1000/\deep<=1000/\
   ∀(v:PV)(p:Pred)(m':MH)(h':PH),PH.le o h'->eW h' p v->xN cols u deep p->bI E m' D->aR m' h' D->Q v p m' h':=λkk kl E o Q h1 h2 H h4 h5=>
  ⟨cb,kk,p,kl,ps,1,rfl,h4,h1,hp.mono H,h2,b0,aC,λv p m' h' q1 q2 X q3 q4=>h5 v p m' h' q1 q2 X q3 q4⟩
 refine aE (λd4=>?_) (λd5=>?_)
 rotate_left
 .have fin:∀(w:PV)(p:Pred)(m':MH)(h':PH),PH.le o h'->eW h' p w->xN ks ps 1 p->bI W m' cb->aR m' h' cb->∀(s:Sl)(c:PH),PH.le h' c->cZ c s 21 [QV.enc v]->K (aQ ⟨2,0,w,cD,cD,cD,cD,0,s⟩) m' c:=λw p m' h' q1 q2 X q3 q4 s h2 U q6=>
   hK _ _ m' h2 ((A.trans q1).trans U) (EF (q2.mono U) (yD q6 (hq.mono ((A.trans q1).trans U)))) ⟨NO X.vals b3,λd hf=>hf.filter,λ_ Y b5 _ I b6=>kinds_filter b6 (X.valid bh b5 Y) I⟩ (o1.trans q3) (q4.mono U)
  exact⟨C k ks W o _ (hk.mono A) a3 A c1 fin,C k ks W o _ (hk.mono A) a3 A c1 fin⟩
 have b7:IntKind.i64.wrap (f+(n:Int))=f+(n:Int):=eG aC aC;rw[b7];refine⟨aC,sc,s,_,rfl,hs.mono A,h8,λz h2 a4 F=>?_⟩;have Z:=F.slen;obtain⟨T,hT⟩:∃T,(f+(n:Int)).tmod (sc.tables.len:Int)=T:=⟨_,rfl⟩
 have a5:=Zd (a:=f+(n:Int)) (n:=sc.tables.len) aC aC;rw[hT]at F Z a5⊢
 have b8:(jY s T).length<=8:=by
  unfold jY;split
  .simp
  .split
   .simp
   .rename_i t ht;simpa using h8 t (mem_of_getElem? ht)
 obtain⟨S,a'⟩:∃S,jY s T=S:=⟨_,rfl⟩
 have J:bH s ps (.mk 1 T gS [] [] [] [] 0 [])=(S,0):=by rw[WZ a5.1 aC aC,a']
 have a0:bXX s->Ms S:=λx=>by rw[<-a'];exact x T
 rw[a']at F Z b8;refine⟨λ⟨f',L,t,B,cols,i,E,o⟩=>f'=f/\L=n/\B=z/\t=T/\i<=ks.length/\cols.length<=i/\(cols.length=i->HP S (ks.take i) cols)/\PH.le h2 o/\bI m E cb/\aR E o cb,λ⟨_,_,_,_,_,i,_,_⟩=>ks.length-i,⟨(f,n,T,z,[],0,W,h2),⟨rfl,rfl,rfl,rfl,aC,bg,λ_=>⟨bg,bg⟩,.refl _,o1,c1.mono a4⟩,MT⟩,?_⟩;rintro⟨f',L,t,z,cols,i,m2,H⟩ ⟨rfl,rfl,rfl,rfl,hi,d6,a6,G,o2,c2⟩;dsimp only;have g:PH.le h H:=(A.trans a4).trans G;refine aE (λV=>?_) (λc9=>?_)
 .obtain⟨x,o⟩:=eN b4 V;obtain⟨b1,b9,e1,r1⟩:=(hk.mono g).at o;refine⟨b1,b9,e1,aC,V,x,.imm (bj r1),cb,_,rfl,c2,λfr m3 d7 d8 o3 c3=>?_⟩;refine⟨λ⟨f2,n2,t2,B,a1,i2,M,y,j,E,hy⟩=>f2=f'/\n2=L/\B=z/\t2=t/\a1=cols/\i2=i/\M=x/\E=m3/\hy=H/\j<=z.len/\y=fr,λ⟨_,_,_,_,_,_,_,_,j,_,_⟩=>z.len-j,⟨(f',L,t,z,cols,i,x,fr,0,m3,H),⟨rfl,rfl,rfl,rfl,rfl,rfl,rfl,rfl,rfl,aC,rfl⟩,MT⟩,?_⟩;rintro⟨f2,n2,t2,z,cols,i,M,y,j,m3,H⟩ ⟨rfl,rfl,rfl,rfl,rfl,rfl,rfl,rfl,rfl,hj,rfl⟩;dsimp only;refine aE (λd'=>?_) (λd0=>⟨(f2,n2,t2,_,_,_,_,_),⟨rfl,rfl,rfl,rfl,by show i+1<=ks.length;omega,by show cols.length<=i+1;omega,λe=>by have e:cols.length=i+1:=e;omega,G,o2.trans o3,c3⟩,by show ks.length-(i+1)<ks.length-i;omega,MT⟩);have c':IntKind.i64.wrap (y+(j:Int))=y+(j:Int):=eG aC aC;rw[c'];have hm:=Zd (a:=y+(j:Int)) (n:=Sl.len _) aC (show 0<z.len by omega);obtain⟨b2,c0,e2,r2⟩:=(F.mono G).inb (n:=(y+(j:Int)).tmod (z.len:Int)) hm.1 (by rw[<-Z];exact hm.2);refine⟨aC,b2,c0,e2,hm.1,hm.2,_,.imm (bj r2),aB (λek=>⟨by simp;omega,by simp;omega,(f2,n2,t2,_,cols++[(y+(j:Int)).tmod (z.len:Int)],i+1,_,_),⟨rfl,rfl,rfl,rfl,by show i+1<=ks.length;omega,by simp;omega,λe=>?_,G,o2.trans o3,c3⟩,by show ks.length-(i+1)<ks.length-i;omega,?_⟩) (λ_=>⟨(f2,n2,t2,z,cols,i,M,y,j+1,m3,H),⟨rfl,rfl,rfl,rfl,rfl,rfl,rfl,rfl,rfl,by show j+1<=z.len;omega,rfl⟩,by show z.len-(j+1)<z.len-j;omega,MT⟩)⟩
  .have e:(cols++[(y+(j:Int)).tmod (z.len:Int)]).length=i+1:=e;rw[length_append]at e;exact(a6 (bj e)).snoc o (by simp only[EU,Bool.and_eq_true,decide_eq_true_eq];omega) (bj ek)
  .rw[map_append];exact MT
 .have a7:L+1<=sc.tables.len:=by omega
  have c5:i=ks.length:=by omega
  refine aB (λ_=>⟨(f',L+1,m2,H),⟨f0,f1,a7,g,o2,c2⟩,by show sc.tables.len-(L+1)<sc.tables.len-L;omega,MT⟩) (λ_=>aE (λ_=>⟨(f',L+1,m2,H),⟨f0,f1,a7,g,o2,c2⟩,by show sc.tables.len-(L+1)<sc.tables.len-L;omega,MT⟩) (λc6=>⟨t,rfl,cb,2,rfl,aC,aC,c2,λr m4 o4 c4=>?_⟩))
  have O:HP S ks cols:=by
   rw[length_map]at c6;have:=a6 aC
   rwa [c5,take_length]at this
  refine aB (λ_=>?_) (λ_ s1 h5 a8 r5 s2 h6 a2 r6=>?_)
  .have fin:∀(w:PV)(p:Pred)(m':MH)(h':PH),PH.le H h'->eW h' p w->xN S ps 1 p->bI m4 m' cb->aR m' h' cb->∀(s:Sl)(c:PH),PH.le h' c->cZ c s 21 [QV.enc ⟨1,t,jM,cD,cD,cD,cD,0,cD⟩]->∀(a9:Sl)(P:PH),PH.le c P->cZ P a9 1 (cols.map eI)->∀(b':Sl)(R:PH),PH.le P R->cZ R b' 21 [QV.enc ⟨2,0,w,cD,cD,cD,cD,0,s⟩]->K (aQ ⟨3,0,jM,a9,cD,cD,cD,0,b'⟩) m' R:=λw p m' h' q1 q2 X q3 q4 s h5 U q6 s1 h6 q7 q8 s2 h7 q9 c7=>
    hK _ _ m' h7 ((((g.trans q1).trans U).trans q7).trans q9) (LH (cols:=cols) ⟨q8.mono q9,aC⟩ (yD c7 (EF (q2.mono ((U.trans q7).trans q9)) (yD (q6.mono (q7.trans q9)) (De _ t))))) ⟨NO DC (NO X.vals (Ig t)),λd _=>PM.three d (rD.one (rD.one rD.scan bh) bh),λc8 Y _ hn I _=>O.kin (kinds_filter J (X.valid bh (a0 c8) Y) aC) hn I⟩ ((o2.trans o4).trans q3) (q4.mono ((U.trans q7).trans q9))
   exact⟨C z S m4 H _ (F.mono G) aC g c4 fin,C z S m4 H _ (F.mono G) aC g c4 fin⟩
  .exact hK _ _ m4 h6 ((g.trans a8).trans a2) (LH (cols:=cols) ⟨r5.mono a2,aC⟩ (yD (v:=⟨1,t,jM,cD,cD,cD,cD,0,cD⟩) r6 (De _ t))) ⟨NO DC (Ig t),λd _=>PM.three d (rD.mono (rD.one rD.scan bh) bh bh bh),λ_ _ _ hn I _=>O.kin J hn I⟩ (o2.trans o4) (c4.mono (a8.trans a2))
def KQ2(K:bo)(m:MH)(h:PH)(cb:Nat)(s:mI)(ps:br)(d:Nat):Prop:=∀w q m' h',PH.le h h'->dQ h' q w->QW q->Bn d q->(fE s ps q).2=0->bI m m' cb->aR m' h' cb->K (aQ w) m' h'
def Y1(N:Nat):Vc.Spec:=λc m h K=>∃cb sc p s ps deep,c=[cP cb,aS sc,cS p,cI deep]/\aR m h cb/\gO h s sc/\dH s=0/\s.tables≠[]/\Ints h p ps/\ps.length<=1000/\ps.all dC=true/\ -1<=deep/\deep<=1000/\(deep+1).toNat<N/\KQ2 K m h cb s ps deep.toNat
noncomputable def bPQ(N:Nat)(cb:Nat)(sc:bY)(p:Sl):Ctx:=
 pF [(30,JR),(31,bbZ),(16,AB),(32,bdQ),(33,Z2),(34,bGQ),(18,BS),(9,Y1 N)] [(11,{A:=QV×QV×Sl×Int×MH×PH,st:=λ⟨a,q,k,n,m,h⟩=>bO 171 175 [(0,pv cb),(2,sv p),(5,.at (.ptr 5 0)),(8,.at (.ptr 8 0)),(10,.at (.ptr 10 0)),(11,sv k),(13,.at (.ptr 13 0)),(14,iv n)] [(5,.cells 40 (sc.enc.map .val)),(8,.cells 35 (CU.enc.map .val)),(10,.cells 35 (a.enc.map .val)),(13,.cells 35 (q.enc.map .val))] m h})] [(7,{A:=Int×Int×QV×QV×Sl×MH×PH,st:=λ⟨d,op,a,q,k,m,h⟩=>bO 171 175 [(0,pv cb),(2,sv p),(3,iv d),(5,.at (.ptr 5 0)),(8,.at (.ptr 8 0)),(9,iv op),(10,.at (.ptr 10 0)),(11,sv k),(13,.at (.ptr 13 0))] [(5,.cells 40 (sc.enc.map .val)),(8,.cells 35 (CU.enc.map .val)),(10,.cells 35 (a.enc.map .val)),(13,.cells 35 (q.enc.map .val))] m h}),
  (16,{A:=Int×Int×QV×QV×Sl×Bool×MH×PH,st:=λ⟨d,op,a,q,k,t,m,h⟩=>bO 171 175 [(0,pv cb),(2,sv p),(3,iv d),(5,.at (.ptr 5 0)),(8,.at (.ptr 8 0)),(9,iv op),(10,.at (.ptr 10 0)),(11,sv k),(13,.at (.ptr 13 0)),(59,iv op),(84,bv t)] [(5,.cells 40 (sc.enc.map .val)),(8,.cells 35 (CU.enc.map .val)),(10,.cells 35 (a.enc.map .val)),(13,.cells 35 (q.enc.map .val))] m h}),
  (24,{A:=Int×QV×QV×Sl×Bool×MH×PH,st:=λ⟨op,a,q,k,t,m,h⟩=>bO 171 175 [(0,pv cb),(2,sv p),(5,.at (.ptr 5 0)),(8,.at (.ptr 8 0)),(10,.at (.ptr 10 0)),(11,sv k),(13,.at (.ptr 13 0)),(59,iv op),(122,bv t)] [(5,.cells 40 (sc.enc.map .val)),(8,.cells 35 (CU.enc.map .val)),(10,.cells 35 (a.enc.map .val)),(13,.cells 35 (q.enc.map .val))] m h}),
  (20,{A:=QV×QV×QV×Sl×Sl×MH×PH,st:=λ⟨a,b,q,k,l,m,h⟩=>bO 171 175 [(0,pv cb),(2,sv p),(5,.at (.ptr 5 0)),(8,.at (.ptr 8 0)),(10,.at (.ptr 10 0)),(11,sv k),(13,.at (.ptr 13 0)),(15,.at (.ptr 15 0)),(16,sv l)] [(5,.cells 40 (sc.enc.map .val)),(8,.cells 35 (CU.enc.map .val)),(10,.cells 35 (a.enc.map .val)),(13,.cells 35 (q.enc.map .val)),(15,.cells 35 (b.enc.map .val))] m h}),
  (30,{A:=QV×QV×MH×PH,frz:=true,st:=λ⟨a,q,m,h⟩=>bO 171 175 [(2,sv p),(5,.at (.ptr 5 0)),(8,.at (.ptr 8 0)),(10,.at (.ptr 10 0)),(13,.at (.ptr 13 0))] [(5,.cells 40 (sc.enc.map .val)),(8,.cells 35 (CU.enc.map .val)),(10,.cells 35 (a.enc.map .val)),(13,.cells 35 (q.enc.map .val))] m h})] [] [33,1033,1030] [] false
abbrev GD(a:QV->Query->Prop):Prop:=∀(x:QV)(c:Query),a x c
noncomputable abbrev wB(a:mI)(b:br)(c:Query):Int:=(fE a b c).2
abbrev Co(a:cq)(b:Nat->Nat->Option Value)(c:mI->br->Query->Sl->PH->Prop):Prop:=AJ (λx j=>∃(n:QV),ET (λd e=>∃(f:Query),aA (a=cJ (bR x) (eJ j (dL n))) (gO b d x) (aA (Ints b j e) (dQ b f n) (∀(o:Sl)(g:PH),dA b g (Ints g o (fE d e f).1) (c d e f o g)))))
noncomputable abbrev IV(a:Int×Int×QV×QV×Sl×MH×PH):Sl:=a.2.2.2.2.1
abbrev rX:Prop:=eP 13
abbrev iS(a b:QV):Prop:=C5 a=C5 b
noncomputable abbrev zX(a:Int×Int×QV×QV×Sl×MH×PH):MH×PH:=a.2.2.2.2.2
abbrev Cv(a:Prop)(b:Nat)(c:Sl)(d e:Prop):Prop:=aA a (dD b) (aA (aH c) dY (aA hU lT (aA d rX e)))
noncomputable abbrev uV(a:QV×QV×Sl×Int×MH×PH):MH×PH:=a.2.2.2.2
noncomputable abbrev S4(a:QV×QV×Sl×Int×MH×PH):Sl:=a.2.1.columns
noncomputable abbrev wL(a:QV×QV×MH×PH):Nat->Option Obj:=a.2.2.1
noncomputable abbrev z6(a:QV×QV×MH×PH):Nat->Nat->Option Value:=a.2.2.2
noncomputable abbrev pM(a:Int×QV×QV×Sl×Bool×MH×PH):Sl:=a.2.2.2.1
noncomputable abbrev Cw(a:Int×QV×QV×Sl×Bool×MH×PH):Bool:=a.2.2.2.2.1
noncomputable abbrev rW(a:Int×QV×QV×Sl×Bool×MH×PH):QV:=a.2.1
noncomputable abbrev qY(a:Int×QV×QV×Sl×Bool×MH×PH):QV:=a.2.2.1
noncomputable abbrev nU(a:Int×QV×QV×Sl×Bool×MH×PH):MH×PH:=a.2.2.2.2.2
noncomputable abbrev kP(a:Int×QV×QV×Sl×Bool×MH×PH):Nat->Nat->Option Value:=(nU a).2
noncomputable abbrev nS(a:QV×QV×QV×Sl×Sl×MH×PH):Sl×Sl×MH×PH:=a.2.2.2
noncomputable abbrev vB(a:QV×QV×QV×Sl×Sl×MH×PH):QV:=a.2.2.1
noncomputable abbrev zG(a:QV×QV×QV×Sl×Sl×MH×PH):Nat->Nat->Option Value:=(cX (nS a)).2
noncomputable abbrev Jc(a:QV×QV×QV×Sl×Sl×MH×PH):Sl:=(vB a).args
noncomputable abbrev Cx(a:QV×QV×MH×PH):Option Go.Vc.Own:=C5 a.2.1
abbrev MN(a:Int×Int×QV×QV×Sl×Bool×MH×PH)(b:Int×QV×QV×Sl×Bool×MH×PH)(c:Prop)(d:bY):Prop:=aA (cQ a.2.1 b.1) c (aA (bM d) j8 (aA (iS (rW a.2) (rW b)) (iS (qY a.2) (qY b)) (aA (eU (nU a.2) (nU b)) (cW (nU a.2) (nU b)) True)))
abbrev IL(a:Int)(b:PV)(c:Sl)(d:Option Go.Vc.Own):Prop:=oQ 35 (eZ (jI a) jF (pQ b (eZ PO PO (eZ PO PO (lX jF (qK c))))))=d
attribute [push_cast] GD wB Co IV rX iS zX Cv uV S4 wL z6 pM Cw rW qY nU kP nS vB zG Jc Cx MN IL
def ZC(N:Nat)(cb:Nat)(sc:bY)(p:Sl)(deep:Int)(m:MH)(h:PH)(K:bo):Prop:=
  iQ cb 12 m h (λk Y=>aZ deep 1 (iQ cb (ite (iX sc>1) (iX sc) 1) Y h (λE W=>yX E (λt=>K (jR (Cu t)) W h))) (dN (eT (1+k)==1) (iQ cb (ite (iX sc>1) (iX sc) 1) Y h (λE W=>yX E (λt=>K (jR (Cu t)) W h))) (iX sc==0) (iQ cb (ite (iX sc>1) (iX sc) 1) Y h (λE W=>yX E (λt=>K (jR (Cu t)) W h))) (∃(c:Nat),AJ (λs p1=>ET (λs1 p2=>∃(d:Int),aA (uX cb 0::cJ (bR sc) (gQ p (eT (deep-1)))=uX c 0::cJ (bR s) (gQ p1 d)) (aR Y h c) (aA (gO h s1 s) (dH s1=0) (aA (jU (s1.tables=[])) (Ints h p1 p2) (aA (fF p2) (fS (BD p2)) (aA (Int.negSucc 0<=d) (d<=1000) ((d+1).toNat<N/\GD (λw q=>jQ (λW h1=>dA h h1 (dQ h1 q w) (aY (QW q) (Bn
 d.toNat q) (aY (wB s1 p2 q=0) (bI Y W c) (kR W h1 c (Co (cJ (bR sc) (eJ p (dL w))) h1 (λ_ _ _ s2 h2=>∃(I:Int×Int×QV×QV×Sl×MH×PH->Prop),iF (λB u=>rE W u h2 B 35 21 (iA w.enc)->∃(x:Int×Int×QV×QV×Sl×MH×PH),aA (I x) (dD cb) (aA (aH p) (cQ deep x.1) (aA dY hU (aA (cQ (eT (1+k)) x.2.1) lT (aA (bB s2 (IV x)) rX (aA (bM sc) j8 (aA (iS w x.2.2.1) (oQ 35 (eZ (jI (eT (1+k))) jF (eZ (jI 0) jF (eZ jF jF (eZ (jI 0) jF (eZ WA jF (eZ (jI 0) jF (eZ jF WA (eZ PO PO (eZ PO PO (eZ PO jF (rG (qK B))))))))))))=C5 x.2.2.2.1) (aA (cT u (zX x)) (eA h2 (zX x)) True))))))))/\∀(x:Int×Int×QV×QV×Sl×MH×PH),I x->∃(I1:QV×QV×MH
 ×PH->Prop),eD x.2.1 3 (iQ cb 3 (zX x).1 (zX x).2 (λE u=>∃(I2:QV×QV×Sl×Int×MH×PH->Prop)(A:QV×QV×Sl×Int×MH×PH->Nat),(∃(f:QV×QV×Sl×Int×MH×PH),Cv (I2 f) cb p (bB (IV x) f.2.2.1) (aA (cQ E f.2.2.2.1) (bM sc) (aA j8 (iS x.2.2.1 f.1) (aA (iS x.2.2.2.1 f.2.1) (cT u (uV f)) (cW (zX x) (uV f)/\True)))))/\∀(f:QV×QV×Sl×Int×MH×PH),I2 f->fO f.2.2.2.1 0 (iQ cb (aG f.2.2.1) (uV f).1 (uV f).2 (λP F=>∃(e:List bm),aA (cR F (dJ (S4 f)) 3 1 e) (Cf e) (dO e/\iF (λB L=>eK F L (dJ (S4 f)) B 3 1 (jW e (bL P))->∃(j:QV×QV×Sl×Int×MH×PH),aA (I2 j) (A j<A f) (aA (dD cb) (aH p) (aA dY hU (aA
 lT (bB f.2.2.1 j.2.2.1) (aA rX (cQ (eT (f.2.2.2.1-1)) j.2.2.2.1) (aA (bM sc) j8 (aA (iS f.1 j.1) (oQ 35 (eZ (jI f.2.1.op) (AH f.2.1) (CD f.2.1 (qK B) f.2.1.on (lX (CZ f.2.1) (qK f.2.1.args))))=C5 j.2.1) (aA (cT L (uV j)) (cW (uV f) (uV j)) True))))))))))) (HT (uV f).1 (uV f).2->∃(e:QV×QV×MH×PH),aA (I1 e) (aH p) (aA (eP 5) hU (aA lT rX (aA (bM sc) j8 (aA (iS f.1 e.1) (iS f.2.1 e.2.1) (FV (uV f).1 (uV f).2 (wL e) (z6 e)/\True)))))))) (∃(I2:Int×Int×QV×QV×Sl×Bool×MH×PH->Prop),eD x.2.1 4 (∃(f:Int×Int×QV×QV×Sl×Bool×MH×PH),aA (I2 f) (dD cb) (aA (aH p) (cQ x.1 f.1) (aA dY hU (aA (cQ x.2.1 f.2.1) lT (aA (bB
 (IV x) (pM f.2)) rX (aA (cQ x.2.1 f.2.1) (wC (Cw f.2)) (aA (bM sc) j8 (aA (iS x.2.2.1 (rW f.2)) (iS x.2.2.2.1 (qY f.2)) (gX (eU (zX x) (nU f.2)) (cW (zX x) (nU f.2))))))))))) (∃(f:Int×Int×QV×QV×Sl×Bool×MH×PH),aA (I2 f) (dD cb) (aA (aH p) (cQ x.1 f.1) (aA dY hU (aA (cQ x.2.1 f.2.1) lT (aA (bB (IV x) (pM f.2)) rX (aA (cQ x.2.1 f.2.1) (iT (x.2.1==5) (Cw f.2)) (aA (bM sc) j8 (aA (iS x.2.2.1 (rW f.2)) (iS x.2.2.2.1 (qY f.2)) (gX (eU (zX x) (nU f.2)) (cW (zX x) (nU f.2)))))))))))/\∀(f:Int×Int×QV×QV×Sl×Bool×MH×PH),fA (I2 f) (Cw f.2) (∃(z:Nat),AJ (λB G=>ET (λH J=>∃(Q:Int),aA (uX cb 0
 ::cJ (bR sc) (gQ p (eT (f.1-2)))=uX z 0::cJ (bR B) (gQ G Q)) (aR (nU f.2).1 (kP f.2) z) (aA (gO (kP f.2) H B) (dH H=0) (aA (jU (H.tables=[])) (Ints (kP f.2) G J) (aA (fF J) (fS (BD J)) (aA (Int.negSucc 0<=Q) (Q<=1000) ((Q+1).toNat<N/\GD (λR M=>jQ (λu n=>dA (kP f.2) n (dQ n M R) (aY (QW M) (Bn Q.toNat M) (aY (wB H J M=0) (bI (nU f.2).1 u z) (kR u n z (Co (cJ (bR sc) (eJ p (dL R))) n (λ_ _ _ S T=>∃(I3:QV×QV×QV×Sl×Sl×MH×PH->Prop),eD f.2.1 4 (dZ (eT (aG (pM f.2)+aG S)) 8 (∃(e:QV×QV×QV×Sl×Sl×MH×PH),Cv (I3 e) cb p (bB (pM f.2) (nS e).1) (aA (eP 15) (bB S (nS e).2.1) (aA (bM sc)
 j8 (aA (iS (rW f.2) e.1) (oQ 35 (eZ (jI 5) (AH (qY f.2)) (CD (qY f.2) (C0 (qY f.2)) (qY f.2).on (lX (CZ (qY f.2)) (qK (qY f.2).args))))=C5 (vB e)) (aA (iS R e.2.1) (cT u (cX (nS e))) (j4 (eA T (cX (nS e))))))))) (∃(e:QV×QV×QV×Sl×Sl×MH×PH),Cv (I3 e) cb p (bB (pM f.2) (nS e).1) (aA (eP 15) (bB S (nS e).2.1) (aA (bM sc) j8 (aA (iS (rW f.2) e.1) (iS (qY f.2) (vB e)) (aA (iS R e.2.1) (cT u (cX (nS e))) (j4 (eA T (cX (nS e)))))))))) (∃(e:QV×QV×QV×Sl×Sl×MH×PH),Cv (I3 e) cb p (bB (pM f.2) (nS e).1) (aA (eP 15) (bB S (nS e).2.1) (aA (bM sc) j8 (aA (iS (rW f.2) e.1) (iS (qY f.2) (vB
 e)) (aA (iS R e.2.1) (cT u (cX (nS e))) (j4 (eA T (cX (nS e)))))))))/\∀(e:QV×QV×QV×Sl×Sl×MH×PH),I3 e->(∃(D:Nat)(V:Sl),vE (λt a b=>aA (uX cb 0::cA (nS e).1 (nS e).2.1=uX D 0::cA V t) (aR (cX (nS e)).1 (zG e) D) (aA (Ints (zG e) V a) (Ints (zG e) t b) (aA (fF a) (fF b) (∀(o:Sl)(U:bx),jQ (λA O=>dA (zG e) O (jK O o U) (aY (U.length<=10) (bI (cX (nS e)).1 A D) (kR A O D (Ix A O 35 21 (iA e.2.1.enc) (λX F j=>C2 (cR F (dJ (Jc e)) 35 21 j) (λy=>aA (eR 21 y) (sI F O (dJ X) 21 y) (aA (rY j y 280) (rZ j y) (∀(Z:Sl)(L:MH),aY (eK F L (dJ (Jc e)) Z 35 21 (j++y)) (HT L O) (∃
 (C:QV×QV×MH×PH),aA (I1 C) (aH p) (aA (eP 5) hU (aA lT rX (aA (bM sc) j8 (aA (iS e.1 C.1) (oQ 35 (eZ (jI (vB e).op) (AH (vB e)) (CD (vB e) (C0 (vB e)) o (lX (CZ (vB e)) (qK Z))))=Cx C) (FV L O (wL C) (z6 C)/\True)))))))))))))))))))/\iF (λV A=>rE (cX (nS e)).1 A (zG e) V 35 21 (iA e.2.1.enc)->∃(D:Nat)(X:Sl),vE (λt a b=>aA (uX cb 0::cA (nS e).1 (nS e).2.1=uX D 0::cA X t) (aR A (zG e) D) (aA (Ints (zG e) X a) (Ints (zG e) t b) (aA (fF a) (fF b) (∀(o:Sl)(U:bx),jQ (λF O=>dA (zG e) O (jK O o U) (aY (U.length<=10) (bI A F D) (kR F O D (∃(j:List bm),C2 (cR F
 (dJ (Jc e)) 35 21 j) (λy=>aA (eR 21 y) (sI F O (dJ V) 21 y) (aA (rY j y 280) (rZ j y) (∀(Z:Sl)(L:MH),aY (eK F L (dJ (Jc e)) Z 35 21 (j++y)) (HT L O) (∃(C:QV×QV×MH×PH),aA (I1 C) (aH p) (aA (eP 5) hU (aA lT rX (aA (bM sc) j8 (aA (iS e.1 C.1) (oQ 35 (eZ (jI (vB e).op) (AH (vB e)) (CD (vB e) (C0 (vB e)) o (lX (CZ (vB e)) (qK Z))))=Cx C) (FV L O (wL C) (z6 C)/\True))))))))))))))))))))))))))))))))) (∃(I3:Int×QV×QV×Sl×Bool×MH×PH->Prop),dN (f.2.1==6) (∃(e:Int×QV×QV×Sl×Bool×MH×PH),Cv (I3 e) cb p (bB (pM f.2) (pM e)) (MN f e (wC (Cw e)) sc)) (f.2.1==7) (∃(e:Int×QV×QV×Sl×Bool×MH×PH),Cv (I3 e)
 cb p (bB (pM f.2) (pM e)) (MN f e (wC (Cw e)) sc)) (∃(e:Int×QV×QV×Sl×Bool×MH×PH),Cv (I3 e) cb p (bB (pM f.2) (pM e)) (MN f e (iT (f.2.1==8) (Cw e)) sc))/\∀(e:Int×QV×QV×Sl×Bool×MH×PH),I3 e->dN (Cw e) (∃(z:Nat)(B:bY),mS (λG E=>∃(v:QV),ET (λH J=>∃(P:br)(M:Query),aA (uX cb 0::cJ (bR sc) (cN p (eJ (pM e) (dL (rW e))))=uX z 0::cJ (bR B) (cN G (eJ E (dL v)))) (aR (nU e).1 (kP e) z) (aA (gO (kP e) H B) (nK H) (aA (mT H.tables.length) (Ints (kP e) G J) (aA (fF J) (Ints (kP e) E P) (aA (fF P) (dQ (kP e) M v) (QW M/\GD (λR q2=>jQ (λu n=>dA (kP e) n (dQ n q2 R)
 (aY (baZ H J P M q2) (bI (nU e).1 u z) (kR u n z (Ix u n 35 21 (iA R.enc) (λS A j=>C2 (cR A (dJ (qY e).args) 35 21 j) (λy=>aA (eR 21 y) (sI A n (dJ S) 21 y) (aA (rY j y 280) (rZ j y) (∀(V:Sl)(F:MH),aY (eK A F (dJ (qY e).args) V 35 21 (j++y)) (HT F n) (∃(C:QV×QV×MH×PH),aA (I1 C) (aH p) (aA (eP 5) hU (aA lT rX (aA (bM sc) j8 (aA (iS (rW e) C.1) (oQ 35 (qQ (qY e) (qK V))=Cx C) (FV F n (wL C) (z6 C)/\True))))))))))))))))))))))) (e.1==9) (∃(z:Nat)(v:QV),Ar (λB E=>aA (uX cb 0::lG (qY e) (pM e)=uX z 0::gJ (jR (Gf v v (bA (oY (jV v)) (iZ (gY v)) (bA (xR (gY v)) (fD (oP (gY v))) (bA (sB
 (gY v)) (oY (gY v)) (bA (Fq v) (Fs v) (bA (dT v.on) rV (bA rV (fD v.limit) (aM v.args))))))))) (rC B)) (aR (nU e).1 (kP e) z) (aA (Ints (kP e) B E) (fF E) (∀(g o:Sl)(P:Int)(g1:br)(U:bz),jQ (λu n=>dA (kP e) n (Ints n g g1) (aY (gZ n o U) (g1.length<=E.length) (aY (U.length<=E.length) (cF P) (aY (P<=3) (bI (nU e).1 u z) (aY (aR u n z) (HT u n) (∃(j:QV×QV×MH×PH),aA (I1 j) (aH p) (aA (eP 5) hU (aA lT rX (aA (bM sc) j8 (aA (iS (rW e) j.1) (oQ 35 (eZ (jI v.op) (AH v) (pQ v.where_ (eZ (C0 v) (qK v.on) (eZ (qK g) (qK o) (lX (jI P) (qK v.args))))))=Cx j) (FV u n (wL j) (z6 j)/\True))))))))))))))) (eD e.1 10 (∃(z:
 Nat)(v:QV),Ar (λB E=>aA (uX cb 0::lG (qY e) (pM e)=uX z 0::gJ (jR (Gf v v (bA (oY (jV v)) (iZ (gY v)) (bA (xR (gY v)) (fD (oP (gY v))) (bA (sB (gY v)) (oY (gY v)) (bA (Fq v) (Fs v) (bA (dT v.on) rV (bA rV (fD v.limit) (aM v.args))))))))) (rC B)) (aR (nU e).1 (kP e) z) (aA (Ints (kP e) B E) (fF E) (∀(g o:Sl)(P:Int)(g1:br)(U:bz),jQ (λu n=>dA (kP e) n (Ints n g g1) (aY (gZ n o U) (g1.length<=E.length) (aY (U.length<=E.length) (cF P) (aY (P<=3) (bI (nU e).1 u z) (kR u n z (∃(D:Nat)(H:bY),mS (λG k3=>∃(v1:QV),ET (λS J=>∃(k4:br)(M:Query),aA (uX cb 0::cJ (bR sc) (cN p (eJ (pM e)
 (dL (rW e))))=uX D 0::cJ (bR H) (cN G (eJ k3 (dL v1)))) (aR u n D) (aA (gO n S H) (nK S) (aA (mT S.tables.length) (Ints n G J) (aA (fF J) (Ints n k3 k4) (aA (fF k4) (dQ n M v1) (QW M/\GD (λR q2=>jQ (λA T=>dA n T (dQ T q2 R) (aY (baZ S J k4 M q2) (bI u A D) (kR A T D (Ix A T 35 21 (iA R.enc) (λV F j=>C2 (cR F (dJ v.args) 35 21 j) (λy=>aA (eR 21 y) (sI F T (dJ V) 21 y) (aA (rY j y 280) (rZ j y) (∀(X:Sl)(L:MH),aY (eK F L (dJ v.args) X 35 21 (j++y)) (HT L T) (∃(C:QV×QV×MH×PH),aA (I1 C) (aH p) (aA (eP 5) hU (aA lT rX (aA (bM sc) j8 (aA (iS (rW e) C.1) (oQ 35 (eZ (jI v.op) (AH v) (pQ v.where_ (eZ
 (C0 v) (qK v.on) (eZ (qK g) (qK o) (lX (jI P) (qK X))))))=Cx C) (FV L T (wL C) (z6 C)/\True)))))))))))))))))))))))))))))))) (wY (λz B t D G Q=>aA (uX cb 0::cN (pM e) (gQ p 2)=uX z 0::cN B (gQ t (↑Q:Int))) (aR (nU e).1 (kP e) z) (aA (Ints (kP e) B D) (Ints (kP e) t G) (aA (fF D) (fF G) (mT Q/\wV (kP e) (λv J u n=>aY (xN D G Q J) (bI (nU e).1 u z) (kR u n z (∀(H:Sl)(A:MH),aY (rE u A n H 35 21 (iA (rW e).enc)) (HT A n) (∃(j:QV×QV×MH×PH),aA (I1 j) (aH p) (aA (eP 5) hU (aA lT rX (aA (bM sc) j8 (aA (iS (rW e) j.1) (IL 2 v H (Cx j)) (FV A n (wL j) (z6 j)/\True)))))))))))))/\iF (λB u
 =>rE (nU e).1 u (kP e) B 35 21 (iA (rW e).enc)->wY (λz H t D G Q=>aA (uX cb 0::cN (pM e) (gQ p 2)=uX z 0::cN H (gQ t (↑Q:Int))) (aR u (kP e) z) (aA (Ints (kP e) H D) (Ints (kP e) t G) (aA (fF D) (fF G) (mT Q/\wV (kP e) (λv J A n=>aY (xN D G Q J) (bI u A z) (aY (aR A n z) (HT A n) (∃(j:QV×QV×MH×PH),aA (I1 j) (aH p) (aA (eP 5) hU (aA lT rX (aA (bM sc) j8 (aA (iS (rW e) j.1) (IL 2 v B (Cx j)) (FV A n (wL j) (z6 j)/\True)))))))))))))))))/\∀(f:QV×QV×MH×PH),I1 f->Co (cJ (bR sc) (eJ p (dL f.2.1))) (z6 f) (λB G M _ n=>cO (wB B G M) 0 (K (dL f.1) (wL f) n) (K (dL
 f.2.1) (wL f) n)))))))))))))))))))
structure vS(m0 m:MH)(s:Sl)(E:TypeId)(sz:Nat)(xs:List bm):Prop where
 row:cR m s E sz xs
 fresh:∀b i,s.a=some ⟨b,i,none⟩->m0 b=none
def Kept(m0 m:MH)(cb:Nat):Prop:=∀b o,m0 b=some o->b≠cb->m b=some o
theorem Kept.of{m0:MH}(h:bI m0 m cb):Kept m0 m cb:=λb o e n=>by rw[h.other b n];exact e
theorem Kept.on{m0:MH}(k:Kept m0 m cb)(h:bI m m' cb):Kept m0 m' cb:=λb o e n=>by rw[h.other b n];exact k b o e n
theorem aR.blk(c:aR m h cb):∃cs,m cb=some (.cells cs 78 (0,0)):=by
 obtain⟨r,q,cs,k,d,_⟩:=c;exact⟨_,d⟩
theorem aR.keep(c:aR m h cb)(e:m' cb=m cb)(le:PH.le h h'):aR m' h' cb:=by
 obtain⟨r,q,d,k,f,g,j⟩:=c;exact⟨r,q,d,k,by rw[e];exact f,g.mono le,j⟩
theorem Kept.free{m0:MH}(k:Kept m0 m cb)(c:aR m h cb)(d:m b=none):m0 b=none:=by
 cases e:m0 b with
 |none=>rfl
 |some o=>
  by_cases f:b=cb
  .obtain⟨j,g⟩:=c.blk;rw[f,g]at d;cases d
  .rw[k b o e f]at d;cases d
theorem cR.nil(m:MH)(E:TypeId)(sz:Nat):cR m cD E sz []:=⟨⟨λ_ h=>by simp at h,λ_ h=>by simp at h⟩,.inl ⟨rfl,rfl⟩⟩
theorem vS.nil(m0 m:MH)(E:TypeId)(sz:Nat):vS m0 m cD E sz []:=⟨cR.nil m E sz,λb i e=>by cases e⟩
theorem vS.on{m0:MH}{s:Sl}{E:TypeId}(r:vS m0 m s E sz xs)(o:bI m m' cb)(c:aR m h cb)(f:E≠78):vS m0 m' s E sz xs:=by
 refine⟨cR.keep r.row (λb i e=>o.other b (λg=>?_)),r.fresh⟩;obtain⟨j,d⟩:=cR.blk r.row e;obtain⟨t,n⟩:=c.blk;rw[g,n]at d;simp only[Option.some.injEq,Obj.cells.injEq]at d;exact f d.2.1.symm
theorem vS.new{m0:MH}{s t:Sl}{E E':TypeId}{c:Nat}{f:List bm}(r:vS m0 m s E sz xs)(x:rE m m' h t E' c f):vS m0 m' s E sz xs:=by
 refine⟨cR.keep r.row (λb i e=>x.other b (λj g=>?_)),r.fresh⟩;obtain⟨n,d⟩:=cR.blk r.row e;rw[(x.fresh b j g).m_]at d;cases d
theorem rE.frow{m0:MH}{s:Sl}{E:TypeId}(x:rE m m' h s E sz xs)(k:Kept m0 m cb)(c:aR m h cb):vS m0 m' s E sz xs:=⟨x.row,λb i e=>k.free c (x.fresh b i e).m_⟩
theorem rE.at_cb{s:Sl}{E:TypeId}(x:rE m m' h s E sz xs)(c:aR m h cb):m' cb=m cb:=x.other cb (λi e=>by
 obtain⟨f,d⟩:=c.blk;rw[(x.fresh cb i e).m_]at d;cases d)
theorem Kept.new{m0:MH}{s:Sl}{E:TypeId}(k:Kept m0 m cb)(x:rE m m' h s E sz xs):Kept m0 m' cb:=λb o e n=>by
 rw[x.other b (λi c=>by have:=(x.fresh b i c).m_;rw[k b o e n]at this;cases this)];exact k b o e n
theorem vS.grown{m0:MH}{s f:Sl}{E:TypeId}{g:List bm}(r:vS m0 m s E sz xs)(x:eK m m' s f E sz g)(k:Kept m0 m cb)(c:aR m h cb):vS m0 m' f E sz g:=
 ⟨x.row,λb i e=>by
  rcases x.fresh b i e with d|⟨j,d⟩
  .exact k.free c d
  .exact r.fresh b j d⟩
theorem vS.apart{m0:MH}{s t n:Sl}{E E':TypeId}{c:Nat}{o u:List bm}(r:vS m0 m s E sz xs)(q:vS m0 m t E' c o)(x:eK m m' t n E' c u)(y:E≠E'):vS m0 m' s E sz xs:=by
 refine⟨cR.keep r.row (λb i e=>?_),r.fresh⟩;obtain⟨z,d⟩:=cR.blk r.row e;rw[d];refine x.other b _ d (λj A=>?_);obtain⟨g,f⟩:=cR.blk q.row A;rw[d]at f;simp only[Option.some.injEq,Obj.cells.injEq]at f;exact y f.2.1
theorem Kept.grown{m0:MH}{s c:Sl}{E:TypeId}{d:List bm}(k:Kept m0 m cb)(r:vS m0 m s E sz xs)(x:eK m m' s c E sz d):Kept m0 m' cb:=λb o e n=>x.other b o (k b o e n) (λi f=>by rw[r.fresh b i f]at e;cases e)
theorem eK.at_cb{m0:MH}{s f:Sl}{E:TypeId}{g:List bm}(x:eK m m' s f E sz g)(r:vS m0 m s E sz xs)(c:aR m h cb)(j:E≠78):m' cb=m cb:=by
 obtain⟨t,e⟩:=c.blk;rw[e];refine x.other cb _ e (λi n=>?_);obtain⟨o,d⟩:=cR.blk r.row n;rw[e]at d;simp only[Option.some.injEq,Obj.cells.injEq]at d;exact j d.2.1.symm
theorem Un{sz:Nat}:∀{xs:List bm},(∀e∈xs,e.length=sz)->xs.flatten.length=xs.length*sz
 |[],_=>bg
 |x::xs,h=>by
  simp only[flatten_cons,length_append,length_cons];rw[Un (λe c=>h e (by simp[c])),h x bg,Nat.add_mul];omega
theorem cR.src{s:Sl}{E:TypeId}{x:bm}(r:cR m s E sz (x::xs)):sI m h s sz (x::xs):=by
 rcases r.ex with⟨_,e⟩|⟨b,d,c,rfl,f,_,_,_,g⟩
 .cases e
 .exact .lent b 0 c E (0,0) rfl rfl f (by rw[drop_zero,Un r.rows.len];exact g)
def As(m0 m:MH):MH:=λb=>match m0 b with|some _=>m b|none=>none
def EB(m0 m:MH)(h:PH):PH:=λb i=>match m0 b,m b with|none,some (.cells c _ _)=>c[i]? |_,_=>h b i
theorem Tk{m0 m:MH}{h:PH}(d:HT m h):PH.le h (EB m0 m h):=⟨λb i v e=>by
 unfold EB;split
 .rename_i f E g j c;rw[d.disj b _ c i]at e;cases e
 .exact e⟩
theorem ajX{m0:MH}(d:HT m h):FV m h (As m0 m) (EB m0 m h):=by
 refine⟨λb o e=>?_,Tk d,λb i v e=>?_⟩
 .unfold As at e;split at e
  .exact e
  .cases e
 .unfold EB at e;split at e
  .rename_i c E f g j;exact .inr ⟨c,E,f,j,e,by unfold As;rw[g]⟩
  .exact .inl e
theorem FT{p:Prop}(h:p:=by repeat' (first|with_reducible rfl|exact trivial|exact ajX (by assumption)|refine⟨?_,?_⟩|rfl)):p:=h
theorem vS.ice{m0:MH}{s:Sl}{E:TypeId}(r:vS m0 m s E sz xs):cZ (EB m0 m h) s sz xs:=by
 rcases r.row.ex with⟨rfl,rfl⟩|⟨b,f,g,rfl,n,d,_,_,o⟩
 .exact cZ.nil _ _
 .have t:=r.fresh b 0 rfl;refine⟨rfl,.inr ⟨b,0,rfl,λi e u=>⟨λj v y=>?_⟩⟩,d⟩;have c:=kU r.row.rows.len u j v y;rw[<-o,getElem?_take]at c;split at c
  .unfold EB;rw[t,n];simp only[Nat.zero_add];rw[<-Array.getElem?_toList];exact c
  .cases c
theorem keep_other{m0:MH}(k:Kept m0 m cb):bI m0 (As m0 m) cb:=⟨λb c=>by
 unfold As;cases e:m0 b with
 |none=>rfl
 |some o=>exact k b o e c⟩
theorem aiJ{m0:MH}(c:aR m h cb)(f:m0 cb≠none)(d:HT m h):aR (As m0 m) (EB m0 m h) cb:=c.keep (by
 unfold As;cases e:m0 cb with
 |none=>exact(f e).elim
 |some o=>rfl) (Tk d)
def QA(d:Nat)(q:Query):Prop:=QW q/\PM d q
structure QM(d:Nat)(m0 m:MH)(h:PH)(v:QV)(vs:cu):Prop where
 wher:∃w,eW h w v.where_/\CR w
 cols:∃co:br,vS m0 m v.columns 3 1 (co.map eI)/\co.length<=1000
 on_:∃l,jK h v.on l
 group_:∃l,Ints h v.group l
 order_:∃l,gZ h v.order l
 args_:vS m0 m v.args 35 21 (vs.map QV.enc)
 len_:vs.length<=2
 reps:∀v∈vs,∃q,dQ h q v/\QA d q
theorem Ur{d:Nat}{h:PH}:∀{vs:cu},(∀v∈vs,∃q,dQ h q v/\QA d q)->∃c:ce,c.length=vs.length/\(∀q∈c,QA d q)/\∀(i:Nat) q,c[i]? =some q->∃v,vs[i]? =some v/\dQ h q v
 |[],_=>⟨[],rfl,λq f=>by simp at f,λi q e=>by simp at e⟩
 |v::vs,n=>by
  obtain⟨q,f,g⟩:=n v bg;obtain⟨c,o,t,y⟩:=Ur (vs:=vs) (λu z=>n u (by simp[z]));refine⟨q::c,by simp[o],λx j=>by rcases mem_cons.1 j with rfl|j;exact g;exact t x j,λi x e=>?_⟩;cases i with
  |zero=>simp at e;subst e;exact⟨v,rfl,f⟩
  |succ i=>simpa using y i x (bj e)
theorem QM.ice{n:Nat}{m0:MH}{vs:cu}(x:QM n m0 m h v vs)(d:HT m h):∃q,dQ (EB m0 m h) q v/\QW q/\Bn (n+1) q:=by
 obtain⟨w,o,c⟩:=x.wher;obtain⟨co,t,u⟩:=x.cols;obtain⟨on,y⟩:=x.on_;obtain⟨gr,z⟩:=x.group_;obtain⟨od,f⟩:=x.order_;obtain⟨C,A,j,B⟩:=Ur x.reps;have le:=Tk (m0:=m0) d;have D:=x.len_;exact⟨_,tV.rep ⟨rfl,rfl,o.mono le,⟨t.ice,aC⟩,y.mono le,z.mono le,f.mono le,rfl,⟨⟨vs,x.args_.ice,A,λi q e=>let⟨v,k1,k2⟩:=B i q e;⟨v,k1,k2.mono le⟩⟩,aC⟩⟩,SS.2 ⟨c,λa g=>(j a g).1⟩,Bn.node (λa g=>(j a g).2) aC⟩
theorem QM.on{n:Nat}{m0:MH}{vs:cu}(x:QM n m0 m h v vs)(o:bI m m' cb)(c:aR m h cb)(le:PH.le h h'):QM n m0 m' h' v vs:=by
 obtain⟨w,j,d⟩:=x.wher;obtain⟨co,t,f⟩:=x.cols;obtain⟨on,u⟩:=x.on_;obtain⟨gr,y⟩:=x.group_;obtain⟨od,g⟩:=x.order_;exact⟨⟨w,j.mono le,d⟩,⟨co,t.on o c bh,f⟩,⟨on,u.mono le⟩,⟨gr,y.mono le⟩,⟨od,g.mono le⟩,x.args_.on o c bh,x.len_,λv z=>let⟨q,e,ew⟩:=x.reps v z;⟨q,e.mono le,ew⟩⟩
theorem QM.new{d:Nat}{m0:MH}{vs:cu}{t:Sl}{E:TypeId}{j:List bm}(x:QM d m0 m h v vs)(n:rE m m' h' t E sz j)(le:PH.le h h'):QM d m0 m' h' v vs:=by
 obtain⟨w,o,c⟩:=x.wher;obtain⟨co,u,f⟩:=x.cols;obtain⟨on,y⟩:=x.on_;obtain⟨gr,z⟩:=x.group_;obtain⟨od,g⟩:=x.order_;exact⟨⟨w,o.mono le,c⟩,⟨co,u.new n,f⟩,⟨on,y.mono le⟩,⟨gr,z.mono le⟩,⟨od,g.mono le⟩,x.args_.new n,x.len_,λv A=>let⟨q,e,ew⟩:=x.reps v A;⟨q,e.mono le,ew⟩⟩
theorem QM.grow{d:Nat}{m0:MH}{e:QV}{vs:cu}{n:Sl}{u:QV}(x:QM d m0 m h v vs)(g:eK m m' v.args n 35 21 (vs.map QV.enc++[u.enc]))(k:Kept m0 m cb)(c:aR m h cb)(o:∃q,dQ h q u/\QA d q)(F:vs.length<=1)
 (t:e.where_=v.where_)(y:e.columns=v.columns)(z:∃l,jK h e.on l)(A:∃l,Ints h e.group l)(B:∃l,gZ h e.order l)(C:e.args=n):QM d m0 m' h e (vs++[u]):=by
 obtain⟨co,D,j⟩:=x.cols;refine⟨by rw[t];exact x.wher,⟨co,by rw[y];exact D.apart x.args_ g bh,j⟩,z,A,B,by rw[C,map_append];exact x.args_.grown g k c,by simp;omega,λv E=>?_⟩;rcases mem_append.1 E with f|f
 .exact x.reps v f
 .simp at f;subst f;exact o
theorem Zi(h:dH s=0):Da s:=Classical.byContradiction λc=>by rw[uZ c]at h;cases h
theorem Bw(h:dH s=0):nK s:=λt c=>by
 obtain⟨i,d⟩:=mem_iff_getElem?.1 c;have:=(Zi h).2 i t d;exact this.1
theorem Hp(h:dH s=0):s.tables.length<=8:=(Zi h).1
theorem Hs(s:mI)(ps:br)(q:Query):(fE s ps q).1.length<=12:=by
 unfold fE;split
 .split
  .split
   .exact yL s ps q
   .simp[eY]
  .simp[eY]
 .simp[eY]
theorem Mu{t:Int}(c:dH s=0)(d:ps.all dC=true)(e:0<=t)(f:t<s.tables.length):(fE s ps (.mk 1 t gS [] [] [] [] 0 [])).2=0:=by
 have g:=Bw c
 have j:(jY s t).length<=12:=by
  unfold jY;split
  .simp
  .split
   .simp
   .rename_i x n;have:=g x (mem_of_getElem? n);simp;omega
 have o:bH s ps (.mk 1 t gS [] [] [] [] 0 [])=fH s ps (.mk 1 t gS [] [] [] [] 0 []) [] []:=by simp[bH,eM,arity]
 have u:lP (.mk 1 t gS [] [] [] [] 0 [])=true:=by rfl
 unfold fE;rw[if_pos c,if_pos d,if_pos u,o];unfold fH;rw[if_neg (by simp[arity,dM])];simp only[if_true];rw[if_pos ⟨e,f⟩];unfold mG;rw[if_pos j]
structure Mid(m0:MH)(h3:PH)(cb:Nat)(a q:QV)(mx:MH):Prop where
 case_:aR mx h3 cb
 kept:Kept m0 mx cb
 ex:∃o args,q=⟨o,0,jM,cD,cD,cD,cD,0,args⟩/\vS m0 mx args 35 21 ([a].map QV.enc)
theorem Mid.qm{d:Nat}{m0 e:MH}{c:PH}{a q:QV}(x:Mid m0 c cb a q e)(j:∃f,dQ c f a/\QA d f):QM d m0 e c q [a]:=by
 obtain⟨o,args,rfl,n⟩:=x.ex;exact⟨⟨_,FX c,DC⟩,⟨[],vS.nil _ _ _ _,bg⟩,⟨_,vL _⟩,⟨_,nF _⟩,⟨_,yA _⟩,n,bg,λv g=>by simp at g;subst g;exact j⟩
theorem aOZ:∀N,bk 9 (Y1 N)
 |0=>by
  refine eV (fn:=Tryz.f9) (c:=cC Tryz.f9) func9 rfl bh ?_;rintro d' m h K ⟨cb,sc,p,s,ps,deep,rfl,_,_,_,_,_,_,_,_,_,hN,_⟩;omega
 |N+1=>by
  refine iB func9 ?_;rintro d' m h K ⟨cb,sc,p,s,ps,deep,rfl,hc,hs,he,b',hp,a0,a3,d0,d1,hN,hK⟩;refine⟨bPQ N cb sc p,rfl,aD Kv (aD QZ (aD Rl (aD arZ (aD arX (aD arQ (aD GR (aD (aOZ N) aF))))))),ZC N cb sc p deep m h K,bf,?_⟩;have f3:=hs.tables.slen;have h8:=Bw he;have f6:=Hp he;have f7:0<s.tables.length:=length_pos_iff.2 b';have d2:(if(sc.tables.len:Int)>1 then(sc.tables.len:Int)else 1)=(sc.tables.len:Int):=by split<;>omega
  have d3:m cb≠none:=by obtain⟨cs,e⟩:=hc.blk;rw[e];simp
  dsimp only[ZC,push_cast];rw[d2];refine⟨cb,12,rfl,hc,λk m1 k0 k1 o1 c1=>?_⟩;refine aE (λhd=>?_) (λhd=>aB (λ_=>?_) (λ_=>aB (λ_=>?_) (λ_=>?_)))
  .exact⟨cb,_,rfl,c1,λF m2 a4 b5 o2 c2=>⟨F,rfl,hK _ _ m2 h (.refl _) (De h F) (Ig F) (Bn.mono (d:=0) rD.scan (Nat.zero_le _)) (Mu he a3 a4 aC) (o1.trans o2) c2⟩⟩
  .exact⟨cb,_,rfl,c1,λF m2 a4 b5 o2 c2=>⟨F,rfl,hK _ _ m2 h (.refl _) (De h F) (Ig F) (Bn.mono (d:=0) rD.scan (Nat.zero_le _)) (Mu he a3 a4 aC) (o1.trans o2) c2⟩⟩
  .exact⟨cb,_,rfl,c1,λF m2 a4 b5 o2 c2=>⟨F,rfl,hK _ _ m2 h (.refl _) (De h F) (Ig F) (Bn.mono (d:=0) rD.scan (Nat.zero_le _)) (Mu he a3 a4 aC) (o1.trans o2) c2⟩⟩
  have d4:IntKind.i64.wrap (deep-1)=deep-1:=eG aC aC;have d5:IntKind.i64.wrap (deep-2)=deep-2:=eG aC aC;rw[d4];refine⟨cb,sc,p,s,ps,deep-1,rfl,c1,hs,he,b',hp,a0,a3,aC,aC,aC,λa qa m2 h2 b0 ra b6 a5 d6 o2 c2=>⟨sc,p,a,s,ps,qa,rfl,hs.mono b0,hp.mono b0,ra,λkk h3 b1 ik=>?_⟩⟩;have d7:=Hs s ps qa;obtain⟨S,d8⟩:∃S,(deep-1).toNat=S:=⟨_,rfl⟩
  have b7:deep.toNat=S+1:=by omega
  rw[d8]at a5;have T:QA S qa:=⟨b6,a5.arg⟩
  generalize d9:(fE s ps qa).fst=ks at ik d7;clear d9;have A:PH.le h h3:=b0.trans b1;have U:dQ h3 qa a:=ra.mono b1;refine⟨λ⟨d,op,D,q,H,mx,I⟩=>d=deep/\D=a/\H=kk/\I=h3/\Mid m h3 cb a q mx,λM m3 j=>⟨(deep,IntKind.i64.wrap (1+k),a,⟨IntKind.i64.wrap (1+k),0,jM,cD,cD,cD,cD,0,M⟩,kk,m3,h3),⟨rfl,rfl,rfl,rfl,?_⟩,MT⟩,?_⟩
  .have F:=(Kept.of o1).on o2;have c3:=c2.mono b1;exact⟨c3.keep (rE.at_cb j c3) (.refl _),F.new j,_,_,rfl,rE.frow j F c3⟩
  rintro⟨deep,op,D,q,H,mx,I⟩ ⟨rfl,rfl,rfl,rfl,y⟩;dsimp only;have E:∀(q:QV)(vs:cu)(B:MH)(C:PH),PH.le I C->Kept m B cb->aR B C cb->QM S m B C q vs->HT B C->PH.le I (EB m B C)/\bI m (As m B) cb/\aR (As m B) (EB m B C) cb/\∃qq,dQ (EB m B C) qq q/\QW qq/\Bn (S+1) qq:=λq vs B C l k c x d=>⟨l.trans (Tk d),keep_other k,aiJ c d3 d,x.ice d⟩
  have join:∀(q:QV)(u:QV)(M:Sl)(B:MH)(C:PH)(Q:Sl->MH->Prop),PH.le I C->Kept m B cb->aR B C cb->QM S m B C q [D]->vS m B M 35 21 [u.enc]->(∃qu,dQ C qu u/\QA S qu)->
   (∀J m',(∀q':QV,q'.where_=q.where_->q'.columns=q.columns->(∃l,jK C q'.on l)->(∃l,Ints C q'.group l)->(∃l,gZ C q'.order l)->q'.args=J->QM S m m' C q' [D,u])->Kept m m' cb->aR m' C cb->Q J m')->
   ∃xs,cR B ⟨q.args.a,q.args.len,q.args.cap⟩ 35 21 xs/\∃ys,eR 21 ys/\sI B C ⟨M.a,M.len,M.cap⟩ 21 ys/\(xs.length+ys.length)*280<=140737488355328/\xs.length+ys.length<=140737488355328/\∀(J:Sl)(m':MH),eK B m' ⟨q.args.a,q.args.len,q.args.cap⟩ J 35 21 (xs++ys)->Q J m':=
   λq u M B C Q l k c x f hu hQ=>⟨_,x.args_.row,[u.enc],aHX [u],cR.src f.row,bg,bg,λJ m' g=>hQ J m' (λq' e1 e2 e3 e4 e5 e6=>x.grow g k c hu bg e1 e2 e3 e4 e5 e6) (k.grown x.args_ g) (c.keep (eK.at_cb g x.args_ c bh) (.refl _))⟩
  refine⟨λ⟨V,q,B,C⟩=>V=D/\PH.le I C/\bI m B cb/\aR B C cb/\∃qq,dQ C qq q/\QW qq/\Bn (S+1) qq,aB (λ_=>?_) (λ_=>?_),?_⟩
  ·
   refine⟨cb,3,rfl,y.case_,λn m3 n0 n1 o3 c3=>?_⟩;refine⟨λ⟨V,q,F,n,B,C⟩=>V=D/\F=H/\C=I/\ -1<=n/\n<=2/\aR B I cb/\Kept m B cb/\QM S m B I q [D]/\∃co:br,vS m B q.columns 3 1 (co.map eI)/\(co.length:Int)<=2-n,λ⟨_,_,_,n,_,_⟩=>(n+1).toNat,⟨(D,q,H,n,m3,I),⟨rfl,rfl,rfl,by show-1<=n;omega,by show n<=2;omega,c3,y.kept.on o3,(y.qm ⟨qa,U,T⟩).on o3 y.case_ (.refl _),[],?_,by simp;omega⟩,MT⟩,?_⟩
   .obtain⟨o,args,rfl,hf⟩:=y.ex;exact vS.nil _ _ _ _
   clear y q c3 o3 m3 n0 n1 n;rintro⟨V,q,F,n,B,C⟩ ⟨rfl,rfl,rfl,n0,n1,cy,ky,qm,co,b8,f2⟩;dsimp only;refine aE (λhn=>⟨cb,_,rfl,cy,λc m4 _ _ o4 c4=>⟨_,(b8.on o4 cy bh).row,by simp;omega,by simp;omega,λJ W g=>?_⟩⟩) (λhn d=>⟨(V,q,As m B,EB m B C),⟨rfl,E q _ B C (.refl _) ky cy qm d⟩,FT⟩);have f4:=b8.on o4 cy bh;have q4:=qm.on o4 cy (.refl _);have k4:=ky.on o4;have f5:vS m W J 3 1 ((co++[c]).map eI):=by rw[map_append];exact f4.grown g k4 c4
   have e':IntKind.i64.wrap (n-1)=n-1:=eG aC aC;rw[e'];refine⟨(V,{q with columns:=J},F,n-1,W,C),⟨rfl,rfl,rfl,by show-1<=n-1;omega,by show n-1<=2;omega,c4.keep (eK.at_cb g f4 c4 bh) (.refl _),k4.grown f4 g,⟨q4.wher,⟨_,f5,by simp;omega⟩,q4.on_,q4.group_,q4.order_,q4.args_.apart f4 g bh,q4.len_,q4.reps⟩,_,f5,by simp;omega⟩,by show(n-1+1).toNat<(n+1).toNat;omega,MT⟩
  .refine⟨λ⟨d,op,V,q,F,t,B,C⟩=>d=deep/\V=D/\F=H/\C=I/\Mid m I cb D q B,aB (λ_=>⟨(deep,op,D,q,H,true,mx,I),⟨rfl,rfl,rfl,rfl,y⟩,MT⟩) (λ_=>⟨(deep,op,D,q,H,op==5,mx,I),⟨rfl,rfl,rfl,rfl,y⟩,MT⟩),?_⟩;clear y q mx;rintro⟨deep,op,D,q,H,t,mx,I⟩ ⟨rfl,rfl,rfl,rfl,y⟩;dsimp only;refine aB (λ_=>?_) (λ_=>?_)
   ·
    rw[d5];refine⟨cb,sc,p,s,ps,deep-2,rfl,y.case_,hs.mono A,he,b',hp.mono A,a0,a3,by show-1<=deep-2;omega,aC,aC,λb qb W O z rb b9 e0 _ Z X=>⟨sc,p,b,s,ps,qb,rfl,hs.mono (A.trans z),hp.mono (A.trans z),rb,λl h6 L il=>?_⟩⟩;have c':QA S qb:=⟨b9,(e0.mono aC).arg⟩
    have e7:=Hs s ps qb;generalize f8:(fE s ps qb).fst=ls at il e7;have P:QM S m W h6 q [D]:=(y.qm ⟨qa,U,T⟩).on Z y.case_ (z.trans L);have k6:=y.kept.on Z;have R:=X.mono L;refine⟨λ⟨V,b2,q,F,l2,B,C⟩=>V=D/\b2=b/\F=H/\l2=l/\C=h6/\aR B h6 cb/\Kept m B cb/\QM S m B h6 q [D],aB (λ_=>aE (λ_=>⟨(D,b,{q with op:=5},H,l,W,h6),⟨rfl,rfl,rfl,rfl,rfl,R,k6,⟨P.wher,P.cols,P.on_,P.group_,P.order_,P.args_,P.len_,P.reps⟩⟩,MT⟩) (λ_=>⟨(D,b,q,H,l,W,h6),⟨rfl,rfl,rfl,rfl,rfl,R,k6,P⟩,MT⟩)) (λ_=>⟨(D,b,q,H,l,W,h6),⟨rfl,rfl,rfl,rfl,rfl,R,k6,P⟩,MT⟩),?_⟩;have c0:=rb.mono L;have a1:PH.le I h6:=z.trans L;clear P k6 R Z X rb z y q;rintro⟨V,b,q,F,l,B,h6⟩ ⟨rfl,rfl,rfl,rfl,rfl,R,k6,P⟩;dsimp only;refine⟨⟨cb,F,l,ks,ls,rfl,R,ik.mono a1,il,aC,aC,λo on m7 h7 G b3 _ o7 c7 M m8 j=>?_⟩,λM m7 j=>⟨cb,F,l,ks,ls,rfl,R.keep (rE.at_cb j R) (.refl _),ik.mono a1,il,aC,aC,λo on m8 h7 G b3 _ o8 c8=>?_⟩⟩
    .have k7:=k6.on o7;refine join q b M m8 h7 _ (a1.trans G) (k7.new j) (c7.keep (rE.at_cb j c7) (.refl _)) ((P.on o7 R G).new j (.refl _)) (rE.frow j k7 c7) ⟨qb,c0.mono G,c'⟩ (λJ m9 hq k9 c9 d=>?_);exact⟨(V,{q with on:=o,args:=J},As m m9,EB m m9 h7),⟨rfl,E _ _ m9 h7 (a1.trans G) k9 c9 (hq {q with on:=o,args:=J} rfl rfl ⟨on,b3⟩ (let⟨l,e⟩:=P.group_;⟨l,e.mono G⟩) (let⟨l,e⟩:=P.order_;⟨l,e.mono G⟩) rfl) d⟩,FT⟩
    .have k7:=k6.new j;have c7:aR m7 h6 cb:=R.keep (rE.at_cb j R) (.refl _);have k8:=k7.on o8;refine join q b M m8 h7 _ (a1.trans G) k8 c8 ((P.new j (.refl _)).on o8 c7 G) ((rE.frow j k6 R).on o8 c7 bh) ⟨qb,c0.mono G,c'⟩ (λJ m9 hq k9 c9 d=>?_);exact⟨(V,{q with on:=o,args:=J},As m m9,EB m m9 h7),⟨rfl,E _ _ m9 h7 (a1.trans G) k9 c9 (hq {q with on:=o,args:=J} rfl rfl ⟨on,b3⟩ (let⟨l,e⟩:=P.group_;⟨l,e.mono G⟩) (let⟨l,e⟩:=P.order_;⟨l,e.mono G⟩) rfl) d⟩,FT⟩
   .refine⟨λ⟨op,V,q,F,t,B,C⟩=>V=D/\F=H/\C=I/\Mid m I cb D q B,aB (λ_=>⟨(op,D,q,H,true,mx,I),⟨rfl,rfl,rfl,y⟩,MT⟩) (λ_=>aB (λ_=>⟨(op,D,q,H,true,mx,I),⟨rfl,rfl,rfl,y⟩,MT⟩) (λ_=>⟨(op,D,q,H,op==8,mx,I),⟨rfl,rfl,rfl,y⟩,MT⟩)),?_⟩;clear y q mx;rintro⟨op,D,q,H,t,mx,I⟩ ⟨rfl,rfl,rfl,y⟩;dsimp only;have q3:=y.qm ⟨qa,U,T⟩;refine aB (λ_=>?_) (λ_=>aB (λ_=>?_) (λ_=>aB (λ_=>?_) (λ_=>?_)))
    ·
     refine⟨cb,sc,p,H,D,s,ps,ks,qa,rfl,y.case_,hs.mono A,h8,aC,hp.mono A,a0,ik,aC,U,T.1,λw qw W O z e8 a6 Z X M m6 j=>?_⟩;have k5:=y.kept.on Z;refine join q w M m6 O _ z (k5.new j) (X.keep (rE.at_cb j X) (.refl _)) ((q3.on Z y.case_ z).new j (.refl _)) (rE.frow j k5 X) ⟨qw,e8,a6.qw,a6.siz S a5⟩ (λJ m9 hq k9 c9 d=>?_);have Y:=q3.on Z y.case_ z;exact⟨(D,{q with args:=J},As m m9,EB m m9 O),⟨rfl,E _ _ m9 O z k9 c9 (hq {q with args:=J} rfl rfl Y.on_ Y.group_ Y.order_ rfl) d⟩,FT⟩
    ·
     obtain⟨o,args,rfl,hf⟩:=y.ex;refine⟨cb,⟨o,0,jM,cD,cD,cD,cD,0,args⟩,H,ks,rfl,y.case_,ik,aC,λg od kk gr a8 W O z hg a9 _ _ _ _ Z X d=>?_⟩;have Y:=q3.on Z y.case_ z;exact⟨(D,⟨o,0,jM,cD,cD,g,od,kk,args⟩,As m W,EB m W O),⟨rfl,E _ [D] W O z (y.kept.on Z) X ⟨Y.wher,Y.cols,Y.on_,⟨gr,hg⟩,⟨a8,a9⟩,Y.args_,Y.len_,Y.reps⟩ d⟩,FT⟩
    ·
     obtain⟨o,args,rfl,hf⟩:=y.ex;refine⟨cb,⟨o,0,jM,cD,cD,cD,cD,0,args⟩,H,ks,rfl,y.case_,ik,aC,λg od kk gr a8 W O z hg a9 _ _ _ _ Z X=>?_⟩;have Y:=q3.on Z y.case_ z;have e9:QM S m W O ⟨o,0,jM,cD,cD,g,od,kk,args⟩ [D]:=⟨Y.wher,Y.cols,Y.on_,⟨gr,hg⟩,⟨a8,a9⟩,Y.args_,Y.len_,Y.reps⟩
     refine⟨cb,sc,p,H,D,s,ps,ks,qa,rfl,X,hs.mono (A.trans z),h8,aC,hp.mono (A.trans z),a0,ik.mono z,aC,U.mono z,T.1,λw qw m6 h6 L f' a6 o6 R M m7 j=>?_⟩;have k6:=(y.kept.on Z).on o6;refine join ⟨o,0,jM,cD,cD,g,od,kk,args⟩ w M m7 h6 _ (z.trans L) (k6.new j) (R.keep (rE.at_cb j R) (.refl _)) ((e9.on o6 X L).new j (.refl _)) (rE.frow j k6 R) ⟨qw,f',a6.qw,a6.siz S a5⟩ (λJ m9 hq k9 c9 d=>?_);exact⟨(D,⟨o,0,jM,cD,cD,g,od,kk,J⟩,As m m9,EB m m9 h6),⟨rfl,E _ _ m9 h6 (z.trans L) k9 c9 (hq ⟨o,0,jM,cD,cD,g,od,kk,J⟩ rfl rfl ⟨_,vL _⟩ ⟨gr,hg.mono L⟩ ⟨a8,a9.mono L⟩ rfl) d⟩,FT⟩
    ·
     refine⟨⟨cb,H,p,ks,ps,2,rfl,y.case_,ik,hp.mono A,aC,a0,aC,λpv pp W O z rp b4 Z X M m6 j d=>?_⟩,λM W j=>⟨cb,H,p,ks,ps,2,rfl,y.case_.keep (rE.at_cb j y.case_) (.refl _),ik,hp.mono A,aC,a0,aC,λpv pp m6 O z rp b4 o6 R d=>?_⟩⟩
     .have k5:=y.kept.on Z;exact⟨(D,⟨2,0,pv,cD,cD,cD,cD,0,M⟩,As m m6,EB m m6 O),⟨rfl,E _ [D] m6 O z (k5.new j) (X.keep (rE.at_cb j X) (.refl _)) ⟨⟨pp,rp,b4.vals⟩,⟨[],vS.nil _ _ _ _,bg⟩,⟨_,vL _⟩,⟨_,nF _⟩,⟨_,yA _⟩,rE.frow j k5 X,bg,λv hv=>by simp at hv;subst hv;exact⟨qa,U.mono z,T⟩⟩ d⟩,FT⟩
     .have k5:=y.kept.new j;have X:aR W I cb:=y.case_.keep (rE.at_cb j y.case_) (.refl _);exact⟨(D,⟨2,0,pv,cD,cD,cD,cD,0,M⟩,As m m6,EB m m6 O),⟨rfl,E _ [D] m6 O z (k5.on o6) R ⟨⟨pp,rp,b4.vals⟩,⟨[],vS.nil _ _ _ _,bg⟩,⟨_,vL _⟩,⟨_,nF _⟩,⟨_,yA _⟩,(rE.frow j y.kept y.case_).on o6 X bh,bg,λv hv=>by simp at hv;subst hv;exact⟨qa,U.mono z,T⟩⟩ d⟩,FT⟩
  .rintro⟨V,q,B,C⟩ ⟨rfl,a7,oy,cy,qq,rq,f0,f1⟩;dsimp only;refine⟨sc,p,q,s,ps,qq,rfl,hs.mono (A.trans a7),hp.mono (A.trans a7),rq,λsl O z _=>aB (λe=>?_) (λe=>?_)⟩
   .exact hK V qa B O ((A.trans a7).trans z) ((U.mono a7).mono z) T.1 (by rw[b7];exact a5.mono aC) d6 oy (cy.mono z)
   .exact hK q qq B O ((A.trans a7).trans z) (rq.mono z) f0 (by rw[b7];exact f1) (bj e) oy (cy.mono z)
mutual
def tZ(st:List bt):Query->bt
 |.mk op ta w co on gr od li args=>if op=1 then st.getD ta.toNat []else WQ op (.mk op ta w co on gr od li args) (H7 st args)
def H7(st:List bt):ce->List bt
 |[]=>[]
 |q::qs=>tZ st q::H7 st qs
end
structure FQ(st ls:List bt)(k:Nat)(ts:br):Prop where
 at_:∀(j:Nat)(t:Int),ts[j]? =some t->ls.getD (k+j) []=st.getD t.toNat []
theorem FQ.left{st ls:List bt}{b:br}(x:FQ st ls k (a++b)):FQ st ls k a:=
 ⟨λj t h=>x.at_ j t (by rw[getElem?_append_left (List.getElem?_eq_some_iff.1 h).1];exact h)⟩
theorem FQ.right{st ls:List bt}{b:br}(x:FQ st ls k (a++b)):FQ st ls (k+a.length) b:=
 ⟨λj t h=>by
  have:=x.at_ (a.length+j) t (by rw[getElem?_append_right aC,Nat.add_sub_cancel_left];exact h)
  rwa [show k+a.length+j=k+(a.length+j)by omega]⟩
theorem Qi{args:ce}{c:List br}(d:eM s ps args=(c,0))(e:(c.length:Int)=arity 1):args=[]:=by
 cases args with
 |nil=>rfl
 |cons q f=>obtain⟨_,_,_,_,rfl⟩:=nE d;simp[arity]at e;omega
mutual
theorem R9{s:mI}{ps:br}{st ls:List bt}:∀{q:Query}{ks:br}{k:Nat},bH s ps q=(ks,0)->FQ st ls k (j7 q)->lB ls q k=(tZ st q,k+(j7 q).length)
 |.mk op ta w co on gr od li args,ks,k,h,c=>by
  obtain⟨g,f,j,o⟩:=yM h;by_cases e:op=1
  .subst e;have n:=Qi f j;subst n;have d:j7 (.mk 1 ta w co on gr od li [])=[ta]:=by simp[j7,i6]
   rw[d]at c⊢
   have:=c.at_ 0 ta rfl;rw[Nat.add_zero]at this;rw[lB,tZ,if_pos rfl,if_pos rfl,this];rfl
  .have d:j7 (.mk op ta w co on gr od li args)=i6 args:=by simp[j7,e]
   rw[d]at c⊢
   rw[lB,tZ,if_neg e,if_neg e,HK f c]
theorem HK{s:mI}{ps:br}{st ls:List bt}:∀{d:ce}{c:List br}{k:Nat},eM s ps d=(c,0)->FQ st ls k (i6 d)->gM ls d k=(H7 st d,k+(i6 d).length)
 |[],c,k,h,_=>by simp[gM,H7,i6]
 |q::d,c,k,h,e=>by
  obtain⟨n,f,g,j,rfl⟩:=nE h;rw[i6]at e;rw[gM,H7,i6,R9 g e.left,HK j e.right,length_append,Nat.add_assoc]
end
mutual
theorem H8{s:mI}{ps:br}:∀{q:Query}{ks:br},bH s ps q=(ks,0)->∀t∈j7 q,0<=t/\t<s.tables.length
 |.mk op ta w co on gr od li args,ks,h,t,f=>by
  obtain⟨g,j,o,c⟩:=yM h;rw[j7]at f;rcases mem_append.1 f with d|d
  .split at d
   .rename_i e;subst e;simp only[mem_singleton]at d;subst d;unfold fH at c;dsimp only at c;split at c
    .simp[eY]at c
    try rw[if_pos rfl]at c
    split at c
    .rename_i n;exact n
    .simp[eY]at c
   .simp at d
  .exact Qg j t d
theorem Qg{s:mI}{ps:br}:∀{e:ce}{d:List br},eM s ps e=(d,0)->∀t∈i6 e,0<=t/\t<s.tables.length
 |[],d,h,t,c=>by rw[i6]at c;simp at c
 |q::e,d,h,t,c=>by
  obtain⟨n,f,g,j,rfl⟩:=nE h;rw[i6]at c;rcases mem_append.1 c with c|c
  .exact H8 g t c
  .exact Qg j t c
end
def C8(key:Int)(k:Int)(i:Nat)(v:VV):Bool:=lD v&&(v.kind==k||((v.kind==2||v.kind==1)&&decide (key<=(i:Int))))
def FG(t:Ay)(r:bu):Bool:=decide (r.length=t.columns.length)&&(List.range r.length).all λi=>C8 t.key (t.columns.getD i ⟨⟨#[]⟩,0⟩).kind i (r.getD i zeroV)
def lO(t:Ay)(r:bu):bu:=r.take (max 0 (min t.key r.length)).toNat
def Ze(t:Ay)(l:bt):Prop:=(∀r∈l,FG t r=true)/\∀(i:Nat) r c,l[i]? =some r->l[i+1]? =some c->eC (lO t r) (lO t c)<0
def Nu(s:mI)(st:List bt):Prop:=∀(i:Nat) t l,s.tables[i]? =some t->st[i]? =some l->Ze t l
open Classical in
noncomputable def l8(s:mI)(st:List bt):Int:=
 if dH s≠0 then dH s else if 512<(st.map λl=>(l.length:Int)).sum then 2 else if st.length≠s.tables.length then 80 else if Nu s st then 0 else 80
def StV(st:List bt):Prop:=∀l∈st,∀r∈l,∀v∈r,vP v.kind/\vP v.int
def Bz(t:Ay)(key row:bu):Bool->bt->bt
 |d,[]=>if d then[]else[row]
 |d,r::l=>(if 0<=eC (lO t r) key/\d=false then[row]else[])++((if eC (lO t r) key≠0 then[r]else[])++Bz t key row (d||decide (0<=eC (lO t r) key)) l)
def P5(t:Ay)(l:bt):Prop:=l.Pairwise λx y=>eC (lO t x) (lO t y)<0
theorem JJ{x y z:bu}(c:eC x y<0)(d:eC y z<0):eC x z<0:=by
 have:=BM x y z aC aC;rcases Int.lt_or_eq_of_le this with h|h
 .exact h
 .rw[lC]at h;subst h;have:=mX x y;omega
theorem NP{t:Ay}{key row:bu}:∀{l:bt},(∀r∈l,0<eC (lO t r) key)->Bz t key row true l=l
 |[],_=>rfl
 |r::l,h=>by
  have d:=h r (mem_cons_self ..);rw[Bz,if_neg bg,if_pos aC,Bool.true_or,NP λx c=>h x (mem_cons_of_mem _ c)];rfl
theorem Mw{t:Ay}{key row z:bu}:∀{l:bt}{d:Bool},z∈Bz t key row d l->z=row\/z∈l
 |[],d,h=>by
  rw[Bz]at h;split at h
  .simp at h
  .simp at h;exact .inl h
 |r::l,d,h=>by
  rw[Bz]at h;rcases mem_append.1 h with h|h
  .split at h
   .simp at h;exact .inl h
   .simp at h
  .rcases mem_append.1 h with h|h
   .split at h
    .simp at h;exact .inr (by simp[h])
    .simp at h
   .exact(Mw h).imp id λh=>mem_cons_of_mem _ h
theorem Mx{t:Ay}{key row:bu}:∀{l:bt}{d:Bool},(Bz t key row d l).length<=l.length+(if d then 0 else 1)
 |[],d=>by rw[Bz];cases d<;>simp
 |r::l,d=>by
  have:=Mx (t:=t) (key:=key) (row:=row) (l:=l) (d:=d||decide (0<=eC (lO t r) key));rw[Bz];simp only[length_append,length_cons];by_cases h:0<=eC (lO t r) key
  .cases d<;>by_cases c:eC (lO t r) key=0<;>simp[h,c]at this⊢ <;>omega
  .cases d<;>by_cases c:eC (lO t r) key=0<;>simp[h,c]at this⊢ <;>omega
theorem NQ{t:Ay}{row:bu}:∀{l:bt},P5 t l->P5 t (Bz t (lO t row) row false l)
 |[],_=>by rw[Bz];exact pairwise_singleton _ _
 |r::l,h=>by
  obtain⟨d,n⟩:=pairwise_cons.1 h;rw[Bz];by_cases g:0<=eC (lO t r) (lO t row)
  .rw[if_pos ⟨g,rfl⟩,show(false||decide (0<=eC (lO t r) (lO t row)))=true by simp[g]];by_cases j:eC (lO t r) (lO t row)=0
   .rw[if_neg (by simp[j])];have e:=lC.1 j
    rw[NP λx c=>by
     have f:=d x c;rw[e]at f;have:=mX (lO t x) (lO t row);omega]
    exact pairwise_cons.2 ⟨λx c=>by rw[<-e];exact d x c,n⟩
   .rw[if_pos j];have f:eC (lO t row) (lO t r)<0:=by have:=mX (lO t row) (lO t r);omega
    rw[NP λx c=>by
     have o:=JJ f (d x c);have:=mX (lO t x) (lO t row);omega]
    refine pairwise_cons.2 ⟨λx c=>?_,h⟩;rcases mem_cons.1 c with rfl|c
    .exact f
    .exact JJ f (d x c)
  .rw[if_neg (by simp[g]),if_pos aC,show(false||decide (0<=eC (lO t r) (lO t row)))=false by simp[g]];refine pairwise_cons.2 ⟨λx c=>?_,NQ n⟩;rcases Mw c with rfl|c
   .omega
   .exact d x c
theorem Nx{st:List bt}(h:l8 s st=0):dH s=0/\st.length=s.tables.length/\Nu s st/\(st.map λl=>(l.length:Int)).sum<=512:=by
 unfold l8 at h;split at h
 .rename_i c;exact absurd h c
 .rename_i c;split at h
  .simp at h
  .rename_i f;split at h
   .simp at h
   .rename_i d;split at h
    .rename_i e;exact⟨Classical.not_not.1 c,Classical.not_not.1 d,e,aC⟩
    .simp at h
theorem aMZ{t:Ay}{x y:bu}(h:x.length=y.length):(lO t x).length=(lO t y).length:=by simp[lO,h]
theorem a6Z{t:Ay}{x y:bu}(h:x.length=y.length)(c:eC (lO t x) (lO t y)<0):eC x y<0:=by
 have d:x=lO t x++x.drop (max 0 (min t.key x.length)).toNat:=(take_append_drop _ _).symm;have e:y=lO t y++y.drop (max 0 (min t.key y.length)).toNat:=(take_append_drop _ _).symm;rw[d,e,JK (aMZ h),if_pos aC];exact c
theorem P5.of{t:Ay}:∀{l:bt},(∀(i:Nat) r r',l[i]? =some r->l[i+1]? =some r'->eC (lO t r) (lO t r')<0)->P5 t l
 |[],_=>List.Pairwise.nil
 |[_],_=>pairwise_singleton _ _
 |a::b::l,h=>by
  have d:P5 t (b::l):=P5.of λi r r' f g=>h (i+1) r r' f g;refine pairwise_cons.2 ⟨λx c=>?_,d⟩;have e:=h 0 a b rfl rfl;rcases mem_cons.1 c with rfl|c
  .exact e
  .exact JJ e ((pairwise_cons.1 d).1 x c)
theorem P5.adj{t:Ay}{l:bt}(h:P5 t l)(i:Nat)(r r':bu)(c:l[i]? =some r)(d:l[i+1]? =some r'):eC (lO t r) (lO t r')<0:=by
 obtain⟨e,rfl⟩:=List.getElem?_eq_some_iff.1 c;obtain⟨f,rfl⟩:=List.getElem?_eq_some_iff.1 d;exact pairwise_iff_getElem.1 h i (i+1) e f aC
theorem T6{t:ByteArray}(h:t.toList=(⟨#[]⟩:ByteArray).toList):t.size<=64:=by rw[o9 h];decide
theorem Hw{t:ByteArray}(h:Fj t=true):t.size<=64:=T6 (by simp only[Fj,beq_iff_eq]at h;rw[h,ByteArray.toList_eq])
theorem Lr{v:VV}(h:lD v=true):v.text.size<=64:=by
 unfold lD at h;split at h
 .simp only[Bool.and_eq_true]at h;exact Hw h.2
 .split at h
  .simp only[Bool.and_eq_true]at h;exact Hw h.2
  .split at h
   .exact Hw h
   .split at h
    .simp at h;omega
    .cases h
theorem B9(h:(fE s ps q).2=0):dH s=0/\ps.all dC=true/\lP q=true/\(bH s ps q).2=0:=by
 unfold fE at h;split at h
 .rename_i c;split at h
  .rename_i d;split at h
   .rename_i e;exact⟨c,d,e,h⟩
   .simp[eY]at h
  .simp[eY]at h
 .rename_i c;simp[eY]at h;exact(c h).elim
theorem Ls{v:VV}(h:lD v=true):1<=v.kind/\v.kind<=5/\v.text.size<=64:=by
 refine⟨?_,?_,Lr h⟩
 all_goals
  unfold lD at h;split at h
  .rename_i e;simp at e;omega
  .split at h
   .rename_i e;simp at e;omega
   .split at h
    .rename_i e;simp at e;omega
    .split at h
     .rename_i e;simp at e;omega
     .cases h
theorem Tn{t:Ay}{r:bu}(h:FG t r=true):r.length=t.columns.length/\∀v∈r,lD v=true:=by
 simp only[FG,Bool.and_eq_true,decide_eq_true_eq,all_eq_true,mem_range]at h;refine⟨h.1,λv e=>?_⟩;obtain⟨i,c,rfl⟩:=mem_iff_getElem.1 e;have d:=h.2 i c;simp only[C8,Bool.and_eq_true,getD_eq_getElem?_getD,getElem?_eq_getElem c,Option.getD_some]at d;exact d.1
theorem bjQ{t:Ay}{l:bt}(j:t.columns.length<=12)(c:Ze t l)(n:∀r∈l,∀v∈r,vP v.kind/\vP v.int)(o:l.length<=1000000):gR t.columns.length l:=by
 have e:∀r∈l,r.length=t.columns.length:=λr d=>(Tn (c.1 r d)).1;refine⟨λr d=>⟨by rw[e r d];exact j,λv f=>?_⟩,e,?_,o⟩
 .have u:=(Tn (c.1 r d)).2 v f;have g:=n r d v f;exact⟨g.1,g.2,(Ls u).2.2⟩
 .exact(P5.of c.2).imp_of_mem fun{x y} f z h=>a6Z (by rw[e x f,e y z]) h
def tH(st:List bt)(q:Query):List bt:=(j7 q).map λt=>st.getD t.toNat []
theorem bMJ{st:List bt}{t:Int}(c:l8 s st=0)(y:StV st)(f:0<=t)(D:t<s.tables.length):gR (jY s t).length (st.getD t.toNat [])/\st.getD t.toNat []∈st:=by
 obtain⟨z,E,A,F⟩:=Nx c;have g:t.toNat<s.tables.length:=by omega
 have j:t.toNat<st.length:=by omega
 have n:s.tables[t.toNat]? =some s.tables[t.toNat]:=getElem?_eq_getElem g;have o:st[t.toNat]? =some st[t.toNat]:=getElem?_eq_getElem j;have B:st.getD t.toNat []=st[t.toNat]:=by rw[getD_eq_getElem?_getD,o];rfl
 have d:st[t.toNat]∈st:=getElem_mem j;have G:=Bw z _ (getElem_mem g);have C:(jY s t).length=s.tables[t.toNat].columns.length:=by rw[jY,if_neg aC,n];simp
 have e:∀{l:List bt}{x},x∈l->((x.length:Nat):Int)<=(l.map λl=>(l.length:Int)).sum:=fun{l x}=>by
  induction l with
  |nil=>intro h;simp at h
  |cons a l u=>
   intro h
   have f:∀l:List bt,0<=(l.map λl=>(l.length:Int)).sum:=λl=>by
    induction l with
    |nil=>simp
    |cons a l u=>simp only[map_cons,sum_cons];omega
   simp only[map_cons,sum_cons];rcases mem_cons.1 h with rfl|h
   .have:=f l;omega
   .have:=u h;omega
 have:=e d;rw[B,C];exact⟨bjQ aC (A _ _ _ n o) (y _ d) aC,d⟩
theorem WI{st:List bt}{ks:br}{c:Nat}(d:l8 s st=0)(u:StV st)(z:∀l∈st,l.length<=c)(A:1<=c)(e:bH s ps q=(ks,0))(g:nI c q<=1000000):
 Zo (tH st q) q 0/\(lB (tH st q) q 0).1=tZ st q/\gR ks.length (tZ st q)/\(tZ st q).length<=1000000:=by
 have n:∀(j:Nat)(t:Int),(j7 q)[j]? =some t->(tH st q)[0+j]? =some (st.getD t.toNat []):=λj t h=>by rw[Nat.zero_add,tH,getElem?_map,h];rfl
 have x:=VY A (ls:=tH st q) (k:=0) e ⟨λj t h=>⟨_,n j t h,by
  have o:=H8 e t (mem_of_getElem? h);have:=bMJ d u o.1 o.2;exact⟨this.1,z _ this.2⟩⟩⟩ g
 have y:=R9 (st:=st) (ls:=tH st q) (k:=0) e ⟨λj t h=>by rw[getD_eq_getElem?_getD,n j t h];rfl⟩;have f:(lB (tH st q) q 0).1=tZ st q:=by rw[y]
 refine⟨x.ok,f,by rw[<-f];exact x.rel,?_⟩;rw[<-f];exact Nat.le_trans x.bnd g
structure Step where
 op:Int
 table:Int
 wher:Pred
 columns:br
 on:bx
 group:br
 order:bz
 limit:Int
 left:Int
 right:Int
abbrev cn:=List Step
variable{ts:cn}{t:Step}
def Step.query(t:Step):Query:=.mk t.op t.table t.wher t.columns t.on t.group t.order t.limit []
structure rR(h:PH)(t:Step)(v:l7):Prop where
 op_:v.op=t.op
 table_:v.table=t.table
 where_:eW h t.wher v.where_
 columns_:Ints h v.columns t.columns
 on_:jK h v.on t.on
 group_:Ints h v.group t.group
 order_:gZ h v.order t.order
 limit_:v.limit=t.limit
 left_:v.left=t.left
 right_:v.right=t.right
theorem rR.mono{v:l7}(x:rR h t v)(le:PH.le h h'):rR h' t v:=⟨x.op_,x.table_,x.where_.mono le,x.columns_.mono le,x.on_.mono le,x.group_.mono le,x.order_.mono le,x.limit_,x.left_,x.right_⟩
def aT(v:l7):CV:=.val (.agg ⟨v.enc⟩)
def kO(l:br):ci:=l.flatMap λn=>kJ n++[32]
def xK(v:VV):ci:=kO [v.kind]++(kJ v.int++[32])++kO [(v.text.size:Int)]++v.text.data.toList
def EZ(o:OV):ci:=kO [o.kind,o.index]++xK o.value
mutual
def oK:Pred->ci
 |.mk op c l r args=>kO [op,c]++EZ l++EZ r++kO [(args.length:Int)]++mK args
def mK:cm->ci
 |[]=>[]
 |p::ps=>oK p++mK ps
end
theorem kN:∀l:br,(kO l).length<=22*l.length
 |[]=>by simp[kO]
 |n::l=>by
  have:=kN l;have c:=qP n;unfold kO at this⊢
  simp only[flatMap_cons,length_append,length_cons,length_nil];omega
def Wy:Vc.Spec:=λc m h K=>∃xs s l,c=[.lst 5 1 xs,cS s]/\Ints h s l/\dU m/\xs.length+22*l.length+100<=140737488355328/\K (.lst 5 1 (xs++aU (kO l))) m h
def biJ:Vc.Spec:=λc m h K=>∃xs v,c=[.lst 5 1 xs,aV v]/\dU m/\xs.length+v.text.size+500<=140737488355328/\K (.lst 5 1 (xs++aU (xK v))) m h
def bLX:Vc.Spec:=λc m h K=>∃xs o,c=[.lst 5 1 xs,aO o]/\dU m/\xs.length+o.value.text.size+1000<=140737488355328/\K (.lst 5 1 (xs++aU (EZ o))) m h
def bKJ(N:Nat):Vc.Spec:=λc m h K=>∃xs v p,c=[.lst 5 1 xs,aP v]/\eW h p v/\SizeOf.sizeOf p<N/\dU m/\xs.length+(oK p).length+5000<=140737488355328/\K (.lst 5 1 (xs++aU (oK p))) m h
def bLQ:Vc.Spec:=λc m h K=>∃xs v p,c=[.lst 5 1 xs,aP v]/\eW h p v/\dU m/\xs.length+(oK p).length+5000<=140737488355328/\K (.lst 5 1 (xs++aU (oK p))) m h
noncomputable def aWQ(s:Sl)(m:MH)(h:PH):Ctx:=
 dG [(188,Sy)] [(2,{A:=Nat×List bm,st:=λ⟨i,xs⟩=>bO 21 23 [(0,.at (.lst 21)),(7,sv s),(8,iv s.len),(9,iv i)] [(21,.lst 5 1 xs)] m h})] [] [(188,[0])] true
noncomputable def aVJ(N:Nat)(v:PV)(m:MH):Ctx:=
 dG [(162,Wy),(192,bLX),(163,bKJ N)] [(6,{A:=Nat×List bm×PH,st:=λ⟨i,xs,h⟩=>bO 40 42 [(0,.at (.lst 40)),(29,sv v.args),(30,iv v.args.len),(31,iv i)] [(40,.lst 5 1 xs)] m h})] [] [(162,[0]),(192,[0]),(163,[0])] true
def Rq(xs:List bm)(s:Sl)(m:MH)(h:PH)(K:bo):Prop:=
  ∃(I:Nat×List bm->Prop)(e:Nat×List bm->Nat),(∃(x:Nat×List bm),aA (I x) (eL 21) (aA (aH s) (bG s) (aA (bC x.1) (rH xs x.2) (aA (m=m) (h=h) True))))/\∀(x:Nat×List bm),I x->aZ (↑x.1:Int) (aG s) (aK (λb o=>aA (aL s.a b o) (0<=(↑x.1:Int)) ((↑x.1:Int)<aG s/\∃(y:Int),HA m h b o x.1 1 (bL y) (λc=>∃(i:Int),aA (sN x.2 y=sN c i) (dU m) (aA (lN (jA c 40)) (iY (jA (pT c i) 1) 1) (dO (pT c i)/\∃(d:Nat×List bm),aA (I d) (e d<e x) (aA (eL 21) (aH s) (aA (bG s) (bD (fP (bE x.1 1)) d.1) (aA (rH (jW (pT c i) (zH 32)) d.2) (m=m) (bX h h)))))))))) (K (CV.lst 5 1 x.2) m h)
noncomputable abbrev kL(a:List bm)(b:Sl):cq:=gJ (CV.lst 5 1 a) (rC b)
abbrev wH(a:List bm)(b:br):Prop:=lN (jA a (22*b.length)+100)
attribute [push_cast] kL wH
def KX(xs:List bm)(v:VV)(m:MH)(h:PH)(K:bo):Prop:=
  bZ h 1 (iA (bL v.kind)) (λs f=>∃(x:List bm),Ar (λg l=>aA (kL xs s=kL x g) (Ints f g l) (aA (dU m) (wH x l) (∃(c:List bm)(i:Int),aA (sN (kI x (kO l)) v.int=sN c i) (dU m) (aA (lN (jA c 40)) (iY (jA (pT c i) 1) 1) (dO (pT c i)/\bZ f 1 (iA (bL (↑v.text.size:Int))) (λo j=>∃(d:List bm),Ar (λn e=>aA (kL (jW (pT c i) (zH 32)) o=kL d n) (Ints j n e) (aA (dU m) (wH d e) (aA (rY (kI d (kO e)) (fB v.text) 1) (rZ (kI d (kO e)) (fB v.text)) (K (CV.lst 5 1 (kI d (kO e)++fB v.text)) m j)))))))))))
def KT(xs:List bm)(o:OV)(m:MH)(h:PH)(K:bo):Prop:=
  bZ h 1 (jD (iZ o)::iA (jD (xR o))) (λs d=>∃(x:List bm),Ar (λe l=>aA (kL xs s=kL x e) (Ints d e l) (aA (dU m) (wH x l) (∃(c:List bm)(v:VV),aA (mY (kI x (kO l)) o.value.enc=mY c v.enc) (dU m) (lN (jA c v.text.size+500)/\K (CV.lst 5 1 (kI c (xK v))) m d)))))
def KZ(N:Nat)(xs:List bm)(v:PV)(m:MH)(h:PH)(K:bo):Prop:=
  bZ h 1 (bL v.op::iA (bL v.cmp)) (λs z=>∃(x:List bm),Ar (λA l=>aA (kL xs s=kL x A) (Ints z A l) (aA (dU m) (wH x l) (∃(e:List bm)(o:OV),aA (mY (kI x (kO l)) v.left.enc=mY e o.enc) (dU m) (lN (jA e o.value.text.size+1000)/\∃(f:List bm)(g:OV),aA (mY (kI e (EZ o)) (w8 v)=mY f g.enc) (dU m) (lN (jA f g.value.text.size+1000)/\bZ z 1 (iA (bL (tF v))) (λG B=>∃(j:List bm),Ar (λC n=>aA (kL (kI f (EZ g)) G=kL j C) (Ints B C n) (aA (dU m) (wH j n) (∃(I:Nat×List bm×PH->Prop)(D:Nat×List bm×PH->Nat),(∃(c:Nat×List bm×PH),aA (I c) (eL 40) (aA (aH v.args) (rP v) (aA
 (bC c.1) (rH (kI j (kO n)) c.2.1) (aA (m=m) (B=c.2.2) True))))/\∀(c:Nat×List bm×PH),I c->aZ (↑c.1:Int) (aG v.args) (aK (λb E=>aA (aL v.args.a b E) (0<=(↑c.1:Int)) ((↑c.1:Int)<aG v.args/\∃(y:PV),HA m c.2.2 b E c.1 13 y.enc (λu=>rA (λF p=>aA (mY c.2.1 y.enc=mY u F.enc) (eW c.2.2 p F) (aA (pU p N) (dU m) (lN (jA u (oK p).length+5000)/\∃(d:Nat×List bm×PH),aA (I d) (D d<D c) (aA (eL 40) (aH v.args) (aA (rP v) (bD (fP (bE c.1 1)) d.1) (aA (rH (kI u (oK p)) d.2.1) (m=m) (bX c.2.2 d.2.2))))))))))) (K (CV.lst 5 1 c.2.1) m c.2.2)))))))))))
theorem fM(a b:ci):aU (a++b)=aU a++aU b:=by simp[aU]
theorem Ints.ofRow{s:Sl}(r:cZ h s 1 (l.map eI))(c:l.length<=17592186044416):Ints h s l:=⟨r,c⟩
theorem ahQ{x:Int}(hx:l[i]? =some x):kO (l.take (i+1))=kO (l.take i)++kJ x++[32]:=by
 rw[take_add_one,hx];simp[kO]
theorem EI:bk 162 Wy:=by
 refine iB func162 ?_;rintro n m h K ⟨xs,s,l,rfl,f,u,A,y⟩;refine⟨aWQ s m h,rfl,aD HF aF,Rq xs s m h K,bf,?_⟩;dsimp only[Rq,push_cast];have d:=f.slen;refine⟨λ⟨i,g⟩=>i<=l.length/\g=xs++aU (kO (l.take i)),λ⟨i,_⟩=>l.length-i,⟨(0,xs),⟨aC,by simp[kO,aU]⟩,MT⟩,?_⟩;rintro⟨i,g⟩ ⟨B,rfl⟩;dsimp only;refine aE (λc=>?_) (λz=>?_)
 .obtain⟨x,j⟩:=eN d c;obtain⟨b,o,e,r⟩:=f.at' j;have C:=kN (l.take i);have D:=qP x;have E:(l.take i).length=i:=by simp;omega
  refine⟨b,o,e,aC,c,x,.imm r,_,x,rfl,u,?_,?_,?_,(i+1,xs++aU (kO (l.take (i+1)))),⟨aC,rfl⟩,by show l.length-(i+1)<l.length-i;omega,?_⟩
  .rw[length_append,bV];omega
  .rw[length_append,length_append,bV,bV];omega
  .rw[length_append,length_append,bV,bV];omega
  .rw[ahQ j,fM,fM, <-append_assoc, <-append_assoc];exact MT
 .rw[take_of_length_le aC];exact y
theorem OR:bk 174 biJ:=by
 refine ED func174 ?_;rintro g m h K ⟨xs,v,rfl,c,A,d⟩;refine⟨dG [(162,Wy),(188,Sy)] [] [] [(162,[0]),(188,[0])] true,rfl,aD EI (aD HF aF),KX xs v m h (kA h K),bf,?_⟩;show KX xs v m h (kA h K);dsimp only[KX,push_cast];intro j B e n;have o:=kN [v.kind];have C:=qP v.int;have u:=kN [(v.text.size:Int)];have D:(fB v.text).length=v.text.size:=by simp[fB]
 simp only[length_cons,length_nil]at o u;refine⟨_,j,[v.kind],rfl,.ofRow n bg,c,by simp;omega,_,v.int,rfl,c,?_,?_,?_,λy E f z=>⟨_,y,[(v.text.size:Int)],rfl,.ofRow z bg,c,?_,?_,?_,?_⟩⟩
 .rw[length_append,bV];omega
 .simp only[length_append,bV];omega
 .simp only[length_append,bV];omega
 .simp only[length_append,bV,length_cons,length_nil];omega
 .simp only[length_append,bV,length_cons,length_nil];omega
 .simp only[length_append,bV,length_cons,length_nil];omega
 .refine .out (Sub.refl m) (e.trans f) ?_;rw[xK,fM,fM,fM,fM]at d;simp only[append_assoc]at d⊢
  exact d
theorem XJ:bk 192 bLX:=by
 refine ED func192 ?_;rintro f m h K ⟨xs,o,rfl,d,u,e⟩;refine⟨dG [(162,Wy),(174,biJ)] [] [] [(162,[0]),(174,[0])] true,rfl,aD EI (aD OR aF),KT xs o m h (kA h K),bf,?_⟩;show KT xs o m h (kA h K);dsimp only[KT,push_cast];intro g y c j;have n:=kN [o.kind,o.index];simp only[length_cons,length_nil]at n;refine⟨_,g,[o.kind,o.index],rfl,.ofRow j bg,d,by simp;omega,_,o.value,rfl,d,?_,?_⟩
 .rw[length_append,bV];omega
 .refine .out (Sub.refl m) c ?_;rw[EZ,fM, <-append_assoc]at e;exact e
theorem aCZ(v:VV):v.text.size<=(xK v).length:=by
 have:v.text.data.toList.length=v.text.size:=bg
 simp only[xK,length_append];omega
theorem UF(o:OV):o.value.text.size<=(EZ o).length:=by
 have:=aCZ o.value;simp only[EZ,length_append];omega
theorem LI{l:cm}{x:Pred}(hx:l[i]? =some x):mK (l.take (i+1))=mK (l.take i)++oK x:=by
 have key:∀(a:cm),mK (a++[x])=mK a++oK x:=by
  intro a
  induction a with
  |nil=>simp[mK]
  |cons y a c=>simp[mK,c]
 rw[take_add_one,hx];exact key _
theorem Uy{l:cm}:∀(i:Nat),(mK (l.take i)).length<=(mK l).length:=by
 induction l with
 |nil=>intro i;simp
 |cons y a c=>
  intro i;cases i with
  |zero=>simp[mK]
  |succ i=>have:=c i;simp only[take_succ_cons,mK,length_append];omega
theorem VL:∀N,bk 163 (bKJ N)
 |0=>by
  refine QH (fn:=Tryz.f163) (c:=cC Tryz.f163) func163 rfl bh ?_;rintro y m h K ⟨xs,v,p,rfl,_,J,_,_,_⟩;omega
 |N+1=>by
  refine ED func163 ?_;rintro y m h K ⟨xs,v,p,rfl,L,J,j,M,H⟩;refine⟨aVJ N v m,rfl,aD EI (aD XJ (aD (VL N) aF)),KZ N xs v m h (kA h K),bf,?_⟩;show KZ N xs v m h (kA h K);dsimp only[KZ,push_cast];have d:=@Ai p;obtain⟨op,O,l,r,f⟩:=p;obtain⟨rfl,rfl,rfl,rfl,z⟩:=L.parts;have A:=z.slen;have B:=z.len;simp only[Pred.args]at d;have b1:=UF v.left;have b2:=UF v.right;have P:=kN [v.op,v.cmp];have Q:=kN [(f.length:Int)];simp only[length_cons,length_nil]at P Q;simp only[oK,length_append]at M;intro R h1 C S;refine⟨_,R,[v.op,v.cmp],rfl,.ofRow S bg,j,by simp;omega,_,v.left,rfl,j,?_,_,v.right,rfl,j,?_,λT U D V=>⟨_,T,[(v.args.len:Int)],rfl,.ofRow V bg,j,?_,?_⟩⟩
  .simp only[length_append,bV];omega
  .simp only[length_append,bV];omega
  .simp only[length_append,bV,length_cons,length_nil];omega
  rw[A];refine⟨λ⟨i,I,E⟩=>i<=f.length/\PH.le h E/\I=xs++aU (kO [v.op,v.cmp])++aU (EZ v.left)++aU (EZ v.right)++aU (kO [(f.length:Int)])++aU (mK (f.take i)),λ⟨i,_,_⟩=>f.length-i,⟨(0,_,U),⟨aC,C.trans D,rfl⟩,?_⟩,?_⟩
  .simp only[take_zero,mK,aU,map_nil,append_nil];exact MT
  rintro⟨i,I,E⟩ ⟨hi,g,rfl⟩;dsimp only;refine aE (λF=>?_) (λW=>?_)
  .obtain⟨q,n⟩:=eN rfl F;obtain⟨X,o,u,e,Y,G⟩:=(z.mono g).at n;have Z:=Uy (l:=f) (i+1);rw[LI n,length_append]at Z;refine⟨X,o,e,aC,aC,u,.imm Y,_,u,q,rfl,G,?_,j,?_,(i+1,xs++aU (kO [v.op,v.cmp])++aU (EZ v.left)++aU (EZ v.right)++aU (kO [(f.length:Int)])++aU (mK (f.take (i+1))),E),⟨aC,g,rfl⟩,by show f.length-(i+1)<f.length-i;omega,?_⟩
   .have:=d (mem_of_getElem? n);omega
   .simp only[length_append,bV];omega
   .rw[LI n,fM, <-append_assoc];exact MT
  .rw[take_of_length_le aC];refine .out (Sub.refl m) g ?_;simp only[oK,fM, <-append_assoc]at H;exact H
theorem X4:bk 163 bLQ:=pJ VL λ_ _ _ _⟨xs,v,p,e,c,d,f,g⟩=>⟨SizeOf.sizeOf p+1,xs,v,p,e,c,aC,d,f,g⟩
def nL(l:bx):ci:=l.flatMap λp=>kO [p.1,p.2]
def qT(l:bz):ci:=l.flatMap λp=>kO [p.1,if p.2 then 1 else 0]
def aFJ(b:ci):Value:=.string ⟨b.toArray⟩
def UP(t:Step):bm:=[.int .i64 t.op,.int .i64 t.table,.int .i64 t.limit,.int .i64 t.left,.int .i64 t.right,aFJ (oK t.wher),aFJ (kO t.columns),aFJ (nL t.on),aFJ (kO t.group),aFJ (qT t.order)]
structure PA(t:Step):Prop where
 wher:(oK t.wher).length<=1000000000
 columns:t.columns.length<=1000000000
 on:t.on.length<=1000000000
 group:t.group.length<=1000000000
 order:t.order.length<=1000000000
def bHJ:Vc.Spec:=λc m h K=>∃v t,c=[aT v]/\rR h t v/\PA t/\dU m/\K (.val (.agg ⟨UP t⟩)) m h
def Zb:cr:=[.val (.int .i64 0),.val (.int .i64 0),.val (.int .i64 0),.val (.int .i64 0),.val (.int .i64 0),.val (.string ⟨#[]⟩),.val (.string ⟨#[]⟩),.val (.string ⟨#[]⟩),.val (.string ⟨#[]⟩),.val (.string ⟨#[]⟩)]
noncomputable def a1J(v:l7)(m:MH):Ctx:=
 dG [(162,Wy),(163,bLQ)] [(3,{A:=Nat×List bm×PH,st:=λ⟨i,xs,h⟩=>bO 68 69 [(1,.at (.ptr 1 0)),(2,.at (.ptr 2 0)),(3,.at (.lst 23)),(4,.at (.val (.slice none 0 0))),(11,sv v.on),(12,iv v.on.len),(13,iv i)] [(1,.cells 111 (v.enc.map .val)),(2,.cells 172 Zb),(23,.lst 5 1 xs)] m h}),
  (8,{A:=Nat×List bm×List bm×PH,st:=λ⟨i,xs,c,h⟩=>bO 68 69 [(1,.at (.ptr 1 0)),(2,.at (.ptr 2 0)),(3,.at (.lst 23)),(4,.at (.lst 39)),(26,sv v.order),(27,iv v.order.len),(28,iv i)] [(1,.cells 111 (v.enc.map .val)),(2,.cells 172 Zb),(23,.lst 5 1 xs),(39,.lst 5 1 c)] m h})] [] [(162,[0]),(163,[0])] false
abbrev j9(a:l7):Prop:=eQ (uB 111 a.enc)
abbrev F6:Prop:=eQ (oQ 172 (eZ jF jF (eZ (jI 0) jF (eZ jF WA (eZ WA WA (lX WA WA))))))
noncomputable abbrev zI(a:Nat×List bm×List bm×PH):List bm:=a.2.2.1
noncomputable abbrev wM(a:Nat×List bm×List bm×PH):Nat->Nat->Option Value:=a.2.2.2
abbrev zJ(a:List bm)(b:ci):Prop:=a=fB (ByteArray.mk (Array.mk b))
attribute [push_cast] j9 F6 zI wM zJ
def K7(v:l7)(m:MH)(h:PH)(K:bo):Prop:=
  ∃(I:Nat×List bm×PH->Prop)(C:Nat×List bm×PH->Nat),(∃(x:Nat×List bm×PH),aA (I x) dX (aA (eP 2) (eL 23) (aA (eQ sQn) (aH v.on) (aA (bG v.on) (bC x.1) (aA (j9 v) F6 (aA (rB 5 1 x.2.1) (m=m) (bX h x.2.2)))))))/\∀(x:Nat×List bm×PH),I x->aZ (↑x.1:Int) (aG v.on) (aK (λb o=>aA (aL v.on.a b o) (0<=(↑x.1:Int)) ((↑x.1:Int)<aG v.on/\∃(y:Int×Int),aA (aJ m x.2.2 b (bK o x.1 2) (uS y)) (cF 0) (aA ((0:Int)<2) (cF 1) ((1:Int)<2/\bZ x.2.2 1 (bL y.1::iA (bL y.2)) (λs g=>∃(c:List bm),Ar (λf l=>aA (kL x.2.1 s=kL c f) (Ints g f l) (aA (dU m) (wH c l) (∃(d:Nat×List bm×PH),aA (I d) (C d<C x) (aA dX gI (aA
 (eL 23) (eQ sQn) (aA (aH v.on) (bG v.on) (aA (bD (fP (bE x.1 1)) d.1) (j9 v) (aA F6 (rH (kI c (kO l)) d.2.1) (dW m m g d.2.2))))))))))))))) (∃(I1:Nat×List bm×List bm×PH->Prop)(n:Nat×List bm×List bm×PH->Nat),(∃(c:Nat×List bm×List bm×PH),aA (I1 c) dX (aA (eP 2) (eL 23) (aA (eL 39) (aH v.order) (aA (bG v.order) (bC c.1) (aA (j9 v) F6 (aA (rH x.2.1 c.2.1) (rB 5 1 (zI c)) (dW m m x.2.2 (wM c))))))))/\∀(c:Nat×List bm×List bm×PH),I1 c->aZ (↑c.1:Int) (aG v.order) (aK (λb o=>aA (aL v.order.a b o) (0<=(↑c.1:Int)) ((↑c.1:Int)<aG v.order/\∃(y:Int×Bool),aJ m (wM c) b (bK o c.1 2) (zR y)/\branch y.2
 (bZ (wM c) 1 (bL y.1::iA (bL 1)) (λs g=>∃(d:List bm),Ar (λf l=>aA (kL (zI c) s=kL d f) (Ints g f l) (aA (dU m) (wH d l) (∃(e:Nat×List bm×List bm×PH),aA (I1 e) (n e<n c) (aA dX gI (aA (eL 23) (eL 39) (aA (aH v.order) (bG v.order) (aA (bD (fP (bE c.1 1)) e.1) (j9 v) (aA F6 (rH c.2.1 e.2.1) (dK (rH (kI d (kO l)) (zI e)) m m g (wM e)))))))))))) (bZ (wM c) 1 (bL y.1::iA (jD bJ)) (λs g=>∃(d:List bm),Ar (λf l=>aA (kL (zI c) s=kL d f) (Ints g f l) (aA (dU m) (wH d l) (∃(e:Nat×List bm×List bm×PH),aA (I1 e) (n e<n c) (aA dX gI (aA (eL 23) (eL 39) (aA (aH
 v.order) (bG v.order) (aA (bD (fP (bE c.1 1)) e.1) (j9 v) (aA F6 (rH c.2.1 e.2.1) (dK (rH (kI d (kO l)) (zI e)) m m g (wM e))))))))))))))) (Gg c.2.1 (λb=>∃(j:ci),aA (zI c=aU j) (zJ c.2.1 b) (zJ (zI c) j/\∃(d:List bm),rA (λD p=>aA (mY [] v.where_.enc=mY d D.enc) (eW (wM c) p D) (aA (dU m) (lN (jA d (oK p).length+5000)) (∃(u:ci),Kn (kI d (oK p)=aU u) (zJ (kI d (oK p)) u) (zJ c.2.1 b) (zJ (zI c) j) (λe=>Ar (λs l=>aA (kL [] v.columns=kL e s) (Ints (wM c) s l) (aA (dU m) (wH e l) (∃(z:ci),aA (kI e (kO l)=aU z) (zJ (kI d (oK p)) u) (aA (zJ (kI
 e (kO l)) z) (zJ c.2.1 b) (C2 (zJ (zI c) j) (λA=>Ar (λf B=>aA (kL [] v.group=kL A f) (Ints (wM c) f B) (aA (dU m) (wH A B) (Gg (kI A (kO B)) (λE=>K (jR (bA (fD v.op) (fD v.table) (bA (fD v.limit) (fD v.left) (bA (fD v.right) (sA u) (bA (sA z) (sA b) (gV (sA E) (sA j))))))) m (wM c)))))))))))))))))))
theorem UC{l:bx}{x:Int×Int}(hx:l[i]? =some x):nL (l.take (i+1))=nL (l.take i)++kO [x.1,x.2]:=by
 rw[take_add_one,hx];simp[nL]
theorem LD{l:bz}{x:Int×Bool}(hx:l[i]? =some x):qT (l.take (i+1))=qT (l.take i)++kO [x.1,if x.2 then 1 else 0]:=by
 rw[take_add_one,hx];simp[qT]
theorem NX:∀l:bx,(nL l).length<=44*l.length
 |[]=>by simp[nL]
 |n::l=>by
  have:=NX l;have c:=kN [n.1,n.2];unfold nL at this⊢
  simp only[flatMap_cons,length_append,length_cons,length_nil]at*
  omega
theorem Nz:∀l:bz,(qT l).length<=44*l.length
 |[]=>by simp[qT]
 |n::l=>by
  have:=Nz l;have c:=kN [n.1,if n.2 then 1 else 0];unfold qT at this⊢
  simp only[flatMap_cons,length_append,length_cons,length_nil]at*
  omega
theorem YB:bk 114 bHJ:=by
 refine ED func114 ?_;rintro I m h K ⟨v,t,rfl,f,y,u,J⟩;refine⟨a1J v m,rfl,aD EI (aD X4 aF),K7 v m h (kA h K),bf,?_⟩;show K7 v m h (kA h K);dsimp only[K7,push_cast];have D:=f.on_.slen;have E:=f.order_.slen;have O:=y.wher;have P:=y.columns;have Q:=y.on;have R:=y.group;have S:=y.order;refine⟨λ⟨i,xs,n⟩=>i<=t.on.length/\PH.le h n/\xs=aU (nL (t.on.take i)),λ⟨i,_,_⟩=>t.on.length-i,⟨(0,[],h),⟨aC,.refl _,by simp[nL,aU]⟩,MT⟩,?_⟩;rintro⟨i,xs,n⟩ ⟨G,c,rfl⟩;dsimp only;refine aE (λg=>?_) (λz=>?_)
 .obtain⟨x,d⟩:=eN D g;obtain⟨b,o,e,r⟩:=(f.on_.mono c).at d;have L:=NX (t.on.take i);have M:(t.on.take i).length=i:=by simp;omega
  refine⟨b,o,e,aC,g,x,.imm r,aC,aC,aC,aC,λA B j C=>⟨_,A,[x.1,x.2],rfl,.ofRow C bg,u,?_,(i+1,aU (nL (t.on.take (i+1))),B),⟨aC,c.trans j,rfl⟩,by show t.on.length-(i+1)<t.on.length-i;omega,?_⟩⟩
  .rw[bV];simp only[length_cons,length_nil];omega
  .rw[UC d,fM];exact MT
 rw[take_of_length_le aC];refine⟨λ⟨i,xs,H,n⟩=>i<=t.order.length/\PH.le h n/\xs=aU (nL t.on)/\H=aU (qT (t.order.take i)),λ⟨i,_,_,_⟩=>t.order.length-i,⟨(0,aU (nL t.on),[],n),⟨aC,c,rfl,by simp[qT,aU]⟩,MT⟩,?_⟩;clear c z G;clear i n;rintro⟨i,xs,H,n⟩ ⟨G,c,rfl,rfl⟩;dsimp only;refine aE (λg=>?_) (λz=>?_)
 .obtain⟨x,d⟩:=eN E g;obtain⟨b,o,e,r⟩:=(f.order_.mono c).at d;have L:=Nz (t.order.take i);have M:(t.order.take i).length=i:=by simp;omega
  refine⟨b,o,e,aC,g,x,.imm r,aB (λF A B j C=>⟨_,A,[x.1,1],rfl,.ofRow C bg,u,?_,(i+1,aU (nL t.on),aU (qT (t.order.take (i+1))),B),⟨aC,c.trans j,rfl,rfl⟩,by show t.order.length-(i+1)<t.order.length-i;omega,?_⟩) (λF A B j C=>⟨_,A,[x.1,0],rfl,.ofRow C bg,u,?_,(i+1,aU (nL t.on),aU (qT (t.order.take (i+1))),B),⟨aC,c.trans j,rfl,rfl⟩,by show t.order.length-(i+1)<t.order.length-i;omega,?_⟩)⟩
  .rw[bV];simp only[length_cons,length_nil];omega
  .rw[LD d,fM,F];exact MT
  .rw[bV];simp only[length_cons,length_nil];omega
  .rw[LD d,fM,F];exact MT
 rw[take_of_length_le aC];refine⟨_,rfl,_,rfl,j6 _,j6 _,[],v.where_,t.wher,rfl,f.where_.mono c,u,by simp;omega,_,rfl,j6 _,j6 _,j6 _,[],v.columns,t.columns,rfl,f.columns_.mono c,u,by simp;omega,_,rfl,j6 _,j6 _,j6 _,j6 _,[],v.group,t.group,rfl,f.group_.mono c,u,by simp;omega,_,rfl,.out (Sub.refl m) c ?_⟩;rw[f.op_,f.table_,f.limit_,f.left_,f.right_];exact J
structure KV where
 i0:Int
 i1:Int
 i2:Int
 i3:Int
 i4:Int
 s0:ByteArray
 s1:ByteArray
 s2:ByteArray
 s3:ByteArray
 s4:ByteArray
def KV.val(a:KV):Value:=.agg #[.int .i64 a.i0,.int .i64 a.i1,.int .i64 a.i2,.int .i64 a.i3,.int .i64 a.i4,.string a.s0,.string a.s1,.string a.s2,.string a.s3,.string a.s4]
def bSZ(a b:KV):Bool:=a.i0==b.i0&&(a.i1==b.i1&&(a.i2==b.i2&&(a.i3==b.i3&&(a.i4==b.i4&&(a.s0.toList==b.s0.toList&&(a.s1.toList==b.s1.toList&&(a.s2.toList==b.s2.toList&&(a.s3.toList==b.s3.toList&&(a.s4.toList==b.s4.toList&&(true))))))))))
theorem a5Q(a b:KV)(d:Nat)(w:World):(Op.equalIn (d+2) 172 a.val b.val).run Tryz.prog w= .ok (bSZ a b) w:=by
 unfold KV.val;rw[run_equalIn_struct w (d+1) 172 _ _ bf bf,show(Tryz.prog.fieldsOf 172).toList=[Hh 172 0,Hh 172 1,Hh 172 2,Hh 172 3,Hh 172 4,Hh 172 5,Hh 172 6,Hh 172 7,Hh 172 8,Hh 172 9]by kernel_rfl];refine eO (x:=.int .i64 a.i0) (y:=.int .i64 b.i0) bf bf bf (run_equalIn_int w d _ .i64 .i64 _ _ bf) ?_;refine eO (x:=.int .i64 a.i1) (y:=.int .i64 b.i1) bf bf bf (run_equalIn_int w d _ .i64 .i64 _ _ bf) ?_;refine eO (x:=.int .i64 a.i2) (y:=.int .i64 b.i2) bf bf bf (run_equalIn_int w d _ .i64 .i64 _ _ bf) ?_;refine eO (x:=.int .i64 a.i3) (y:=.int .i64 b.i3) bf bf bf (run_equalIn_int w d _ .i64 .i64 _ _ bf) ?_;refine eO (x:=.int .i64 a.i4) (y:=.int .i64 b.i4) bf bf bf (run_equalIn_int w d _ .i64 .i64 _ _ bf) ?_;refine eO (x:=.string a.s0) (y:=.string b.s0) bf bf bf (run_equalIn_string w d _ _ _ bf) ?_;refine eO (x:=.string a.s1) (y:=.string b.s1) bf bf bf (run_equalIn_string w d _ _ _ bf) ?_;refine eO (x:=.string a.s2) (y:=.string b.s2) bf bf bf (run_equalIn_string w d _ _ _ bf) ?_;refine eO (x:=.string a.s3) (y:=.string b.s3) bf bf bf (run_equalIn_string w d _ _ _ bf) ?_;refine eO (x:=.string a.s4) (y:=.string b.s4) bf bf bf (run_equalIn_string w d _ _ _ bf) ?_;simp[Op.eqFields]
theorem a5X{a b:KV}:bSZ a b=true↔a=b:=by
 obtain⟨J,L,M,O,P,Q,R,S,T,U⟩:=a;obtain⟨z,A,B,C,D,E,F,G,H,I⟩:=b;simp only[bSZ,Bool.and_true,Bool.and_eq_true,beq_iff_eq,KV.mk.injEq];constructor
 .rintro⟨d,e,f,g,j,n,o,u,y,c⟩;exact⟨d,e,f,g,j,o9 n,o9 o,o9 u,o9 y,o9 c⟩
 .rintro⟨d,e,f,g,j,n,o,u,y,c⟩;exact⟨d,e,f,g,j,by rw[n],by rw[o],by rw[u],by rw[y],by rw[c]⟩
theorem KV.val_inj{a b:KV}:a.val=b.val↔a=b:=by
 obtain⟨z,A,B,C,D,E,F,G,H,I⟩:=a;obtain⟨c,d,e,f,g,j,n,o,u,y⟩:=b;simp[KV.val]
theorem aFQ:∃c,Tryz.prog.underlying 172=some (.struct c):=by
 have:(match Tryz.prog.underlying 172 with|some (.struct _)=>true|_=>false)=true:=bf
 split at this
 .rename_i c h;exact⟨c,h⟩
 .cases this
theorem Qw:KeyLaw Tryz.prog 172 (λv=>∃a:KV,v=a.val):=by
 obtain⟨f,c⟩:=aFQ;refine⟨⟨_,c⟩,?_,?_,?_⟩
 .rintro _ w b ⟨a,rfl⟩;exact yB _ _ _ (show yC Tryz.prog (Instr.checkKey b 10000 172 a.val)=some ()by kernel_rfl) w
 .rintro _ _ w ⟨a,rfl⟩ ⟨b,rfl⟩;refine⟨_,a5Q a b 9998 w,?_⟩;rw[a5X,KV.val_inj]
 .rintro d _ _ r e ⟨a,rfl⟩ ⟨b,rfl⟩ h;rw[c]at e;cases e;simp[KV.val,Instr.sameNow]at h
def keyOf(t:Step):KV:=⟨t.op,t.table,t.limit,t.left,t.right,⟨(oK t.wher).toArray⟩,⟨(kO t.columns).toArray⟩,⟨(nL t.on).toArray⟩,⟨(kO t.group).toArray⟩,⟨(qT t.order).toArray⟩⟩
theorem aiZ(t:Step):(keyOf t).val= .agg ⟨UP t⟩:=rfl
def bgZ(N:Nat):Vc.Spec:=λc m h K=>∃v p,c=[aP v]/\eW h p v/\SizeOf.sizeOf p<N/\∀d h',PH.le h h'->eW h' p d->K (aP d) m h'
def bgJ:Vc.Spec:=λc m h K=>∃v p,c=[aP v]/\eW h p v/\∀d h',PH.le h h'->eW h' p d->K (aP d) m h'
def TT:Vc.Spec:=λc m h K=>∃s l,c=[cS s]/\Ints h s l/\∀d h',PH.le h h'->Ints h' d l->K (cS d) m h'
def adX:Vc.Spec:=λc m h K=>∃s l,c=[cS s]/\jK h s l/\∀d h',PH.le h h'->jK h' d l->K (cS d) m h'
def adQ:Vc.Spec:=λc m h K=>∃s l,c=[cS s]/\gZ h s l/\∀d h',PH.le h h'->gZ h' d l->K (cS d) m h'
noncomputable def a2Q(N:Nat)(v:PV)(m:MH):Ctx:=
 dG [(113,bgZ N)] [(4,{A:=Nat×dh×PH,st:=λ⟨i,c,h⟩=>bO 24 25 [(1,.at (.ptr 1 0)),(2,.at (.ptr 2 0)),(9,sv v.args),(10,iv v.args.len),(11,iv i)] [(1,.cells 29 ((v.enc.take 12).map .val++[.lst 20])),(2,.cells 29 (jM.enc.map .val)),(20,.lst 29 13 (c.map PV.enc))] m h})] [] [] false
noncomputable abbrev Eg(a:Nat×dh×PH):List bm:=List.map PV.enc a.2.1
attribute [push_cast] Eg
def RU(N:Nat)(v:PV)(m:MH)(h:PH)(K:bo):Prop:=
  ∃(I:Nat×dh×PH->Prop)(e:Nat×dh×PH->Nat),(∃(x:Nat×dh×PH),aA (I x) dX (aA (eP 2) (aH v.args) (aA (rP v) (bC x.1) (aA (eQ (oQ 29 (eZ (jI v.op) (jI v.cmp) (eZ (jI v.left.kind) (z7 v.left) (eZ (jI (oP v.left)) (jI (Fl v.left)) (eZ (zK v.left) (jI v.right.kind) (eZ (z7 v.right) (jI (oP v.right)) (eZ (jI (Fl v.right)) (zK v.right) (rG (At.lst 20)))))))))) sT (dK (rB 29 13 (Eg x)) m m h x.2.2)))))/\∀(x:Nat×dh×PH),I x->aZ (↑x.1:Int) (aG v.args) (aK (λb o=>aA (aL v.args.a b o) (0<=(↑x.1:Int)) ((↑x.1:Int)<aG v.args/\∃(y:PV),aJ m x.2.2 b (bK o x.1 13) y.enc/\rA (λf p=>aA (qC y=qC f) (eW x.2.2 p f) (pU p N/\∀(g:PV)(c:PH),dA x.2.2 c (eW c p g) (aA
 (iY (jA (Eg x) 1) 136) (dO (Eg x)) (∃(d:Nat×dh×PH),aA (I d) (e d<e x) (aA dX gI (aA (aH v.args) (bG v.args) (aA (bD (fP (bE x.1 1)) d.1) (eQ (oQ 29 (eZ (jI v.op) (jI v.cmp) (eZ (jI v.left.kind) (z7 v.left) (eZ (jI (oP v.left)) (jI (Fl v.left)) (eZ (zK v.left) (jI v.right.kind) (eZ (z7 v.right) (jI (oP v.right)) (eZ (jI (Fl v.right)) (zK v.right) (rG (At.lst 20)))))))))) (aA sT (Option.some (Own.lst 29 13 (jW (Eg x) g.enc))=Option.some (Own.lst 29 13 (Eg d))) (aA (m=m) (c=d.2.2) True)))))))))))) (bZ x.2.2 13 (Eg x) (λs c=>K (jR (bA (fD v.op) (fD v.cmp) (bA (iZ v.left) (xR v.left) (bA (fD (oP v.left)) (sB v.left) (bA (oY v.left) (iZ v.right) (bA (xR v.right) (fD (oP v.right))
 (bA (sB v.right) (oY v.right) (aM s)))))))) m c))
def aoQ(n c:Nat)(m:MH)(h:PH)(K:bo):Prop:=
  K jG m h
theorem bqX(n c:Nat)(m:MH)(h:PH)(K:bo):aoQ n c m h K=(sC (dG [] [] [] [] false) Tryz.f79 (cC Tryz.f79) (entry Tryz.f79.ntmps [.val (.slice none n c)] m h) K):=bf
def anJ(a:Addr)(n c:Nat)(m:MH)(h:PH)(K:bo):Prop:=
  ∃(y:List bm),aA (eR 1 y) (cZ h (Sl.mk (Option.some a) n c) 1 y) (aA (iY (0+y.length) 8) (lN (0+y.length)) (uM h (Ew y) K m))
theorem bqQ(a:Addr)(n c:Nat)(m:MH)(h:PH)(K:bo):anJ a n c m h K=(sC (dG [] [] [] [] false) Tryz.f79 (cC Tryz.f79) (entry Tryz.f79.ntmps [.val (.slice (some a) n c)] m h) K):=bf
def anX(n c:Nat)(m:MH)(h:PH)(K:bo):Prop:=
  K jG m h
theorem bpJ(n c:Nat)(m:MH)(h:PH)(K:bo):anX n c m h K=(sC (dG [] [] [] [] false) Tryz.f80 (cC Tryz.f80) (entry Tryz.f80.ntmps [.val (.slice none n c)] m h) K):=bf
def anQ(a:Addr)(n c:Nat)(m:MH)(h:PH)(K:bo):Prop:=
  ∃(y:List bm),aA (eR 2 y) (cZ h (Sl.mk (Option.some a) n c) 2 y) (aA (iY (0+y.length) 16) (lN (0+y.length)) (bZ h 2 (Ew y) (λs d=>K (rC s) m d)))
theorem bpZ(a:Addr)(n c:Nat)(m:MH)(h:PH)(K:bo):anQ a n c m h K=(sC (dG [] [] [] [] false) Tryz.f80 (cC Tryz.f80) (entry Tryz.f80.ntmps [.val (.slice (some a) n c)] m h) K):=bf
def amZ(n c:Nat)(m:MH)(h:PH)(K:bo):Prop:=
  K jG m h
theorem bpQ(n c:Nat)(m:MH)(h:PH)(K:bo):amZ n c m h K=(sC (dG [] [] [] [] false) Tryz.f83 (cC Tryz.f83) (entry Tryz.f83.ntmps [.val (.slice none n c)] m h) K):=bf
def amX(a:Addr)(n c:Nat)(m:MH)(h:PH)(K:bo):Prop:=
  ∃(y:List bm),aA (eR 2 y) (cZ h (Sl.mk (Option.some a) n c) 2 y) (aA (iY (0+y.length) 16) (lN (0+y.length)) (bZ h 2 (Ew y) (λs d=>K (rC s) m d)))
theorem boJ(a:Addr)(n c:Nat)(m:MH)(h:PH)(K:bo):amX a n c m h K=(sC (dG [] [] [] [] false) Tryz.f83 (cC Tryz.f83) (entry Tryz.f83.ntmps [.val (.slice (some a) n c)] m h) K):=bf
theorem VT:∀N,bk 113 (bgZ N)
 |0=>by
  refine eV (fn:=Tryz.f113) (c:=cC Tryz.f113) func113 rfl bh ?_;rintro C m h K ⟨v,p,rfl,_,O,_⟩;omega
 |N+1=>by
  refine iB func113 ?_;rintro C m h K ⟨v,p,rfl,P,O,Q⟩;refine⟨a2Q N v m,rfl,aD (VT N) aF,RU N v m h K,bf,?_⟩;dsimp only[RU,push_cast];have f:=@Ai p;obtain⟨op,R,l,r,ps⟩:=p;obtain⟨rfl,rfl,rfl,rfl,D⟩:=P.parts;have S:=D.slen;have o:=D.len;simp only[Pred.args]at f;refine⟨λ⟨i,y,e⟩=>i<=ps.length/\PH.le h e/\y.length=i/\∀(j:Nat) x,(ps.take i)[j]? =some x->∃u,y[j]? =some u/\eW e x u,λ⟨i,_,_⟩=>ps.length-i,⟨(0,[],h),⟨aC,.refl _,rfl,λj x e=>by simp at e⟩,MT⟩,?_⟩;rintro⟨i,y,e⟩ ⟨T,g,z,n⟩;dsimp only;refine aE (λA=>?_) (λU L h' d B=>Q ⟨v.op,v.cmp,v.left,v.right,L⟩ h' (g.trans d) (eW.mk (v:=⟨v.op,v.cmp,v.left,v.right,L⟩) ⟨⟨y,B,aC,λj x e=>?_⟩,o⟩))
  .obtain⟨q,E⟩:=eN S A;obtain⟨V,W,u,X,Y,F⟩:=(D.mono g).at E;refine⟨V,W,X,aC,A,u,.imm Y,u,q,rfl,F,?_,λM h' d G=>⟨by simp;omega,by simp;omega,(i+1,y++[M],h'),⟨aC,g.trans d,by simp[z],λj x e=>?_⟩,by show ps.length-(i+1)<ps.length-i;omega,?_⟩⟩
   .have:=f (mem_of_getElem? E);omega
   .rw[take_add_one,E]at e;by_cases hj:j<i
    .rw[getElem?_append_left (by simp;omega)]at e;obtain⟨Z,H,I⟩:=n j x e;exact⟨Z,by rw[getElem?_append_left aC];exact H,I.mono d⟩
    .rw[getElem?_append_right (by simp;omega)]at e;have J:=(List.getElem?_eq_some_iff.1 e).1;simp at J;have:j=i:=by omega
     subst this;simp only[length_take,Nat.min_eq_left T,Nat.sub_self]at e;simp at e;subst e;exact⟨M,by rw[getElem?_append_right aC,z];simp,G⟩
   .rw[map_append];exact MT
  .rw[take_of_length_le aC]at n;obtain⟨u,H,I⟩:=n j x e;exact⟨u,H,I.mono d⟩
theorem YC:bk 113 bgJ:=pJ VT λ_ _ _ _⟨v,p,e,c,d⟩=>⟨SizeOf.sizeOf p+1,v,p,e,c,aC,d⟩
theorem QN:bk 79 TT:=by
 refine eV (fn:=Tryz.f79) (c:=cC Tryz.f79) func79 rfl bh ?_;rintro u m h K ⟨⟨a,n,c⟩,l,rfl,g,o⟩;refine⟨dG [] [] [] [] false,rfl,aF,?_⟩;have d:=g.len;cases a with
 |none=>
  have e:=NL g.row;subst e;show sC _ _ _ (entry Tryz.f79.ntmps [.val (.slice none n c)] m h) K;rw[<-bqX n c m h K];exact o ⟨none,0,0⟩ h (.refl _) ⟨.nil _ _,bg⟩
 |some a=>
  show sC _ _ _ (entry Tryz.f79.ntmps [.val (.slice (some a) n c)] m h) K;rw[<-bqQ a n c m h K];exact⟨_,B8 l,g.row,by simp;omega,by simp;omega,λy h' j f=>o y h' j ⟨f,d⟩⟩
theorem anZ:bk 80 adX:=by
 refine eV (fn:=Tryz.f80) (c:=cC Tryz.f80) func80 rfl bh ?_;rintro u m h K ⟨⟨a,n,c⟩,l,rfl,g,o⟩;refine⟨dG [] [] [] [] false,rfl,aF,?_⟩;have d:=g.len;cases a with
 |none=>
  have e:=NL g.row;subst e;show sC _ _ _ (entry Tryz.f80.ntmps [.val (.slice none n c)] m h) K;rw[<-bpJ n c m h K];exact o ⟨none,0,0⟩ h (.refl _) ⟨.nil _ _,bg⟩
 |some a=>
  show sC _ _ _ (entry Tryz.f80.ntmps [.val (.slice (some a) n c)] m h) K;rw[<-bpZ a n c m h K];exact⟨_,SQ l,g.row,by simp;omega,by simp;omega,λy h' j f=>o y h' j ⟨f,d⟩⟩
theorem amJ:bk 83 adQ:=by
 refine eV (fn:=Tryz.f83) (c:=cC Tryz.f83) func83 rfl bh ?_;rintro u m h K ⟨⟨a,n,c⟩,l,rfl,g,o⟩;refine⟨dG [] [] [] [] false,rfl,aF,?_⟩;have d:=g.len;cases a with
 |none=>
  have e:=NL g.row;subst e;show sC _ _ _ (entry Tryz.f83.ntmps [.val (.slice none n c)] m h) K;rw[<-bpQ n c m h K];exact o ⟨none,0,0⟩ h (.refl _) ⟨.nil _ _,bg⟩
 |some a=>
  show sC _ _ _ (entry Tryz.f83.ntmps [.val (.slice (some a) n c)] m h) K;rw[<-boJ a n c m h K];exact⟨_,SP l,g.row,by simp;omega,by simp;omega,λy h' j f=>o y h' j ⟨f,d⟩⟩
def P6(t:Step)(ts c:cn)(k:Nat):Prop:=(∃x,ts[k]? =some x/\keyOf x=keyOf t/\c=ts)\/((∀x∈ts,keyOf x≠keyOf t)/\c=ts++[t]/\k=ts.length)
def Db(q:Query)(ts d:cn)(k:Nat):Prop:=
 match q with
 |.mk op ta w co on gr od li []=>P6 ⟨op,ta,w,co,on,gr,od,li,0,0⟩ ts d k
 |.mk op ta w co on gr od li [a]=>∃c l,Db a ts c l/\P6 ⟨op,ta,w,co,on,gr,od,li,l,0⟩ c d k
 |.mk op ta w co on gr od li (a::b::_)=>∃c l e r,Db a ts c l/\Db b c e r/\P6 ⟨op,ta,w,co,on,gr,od,li,l,r⟩ e d k
 termination_by SizeOf.sizeOf q
def vI(q:Query):Prop:=
 match q with
 |.mk op ta w co on gr od li args=>PA ⟨op,ta,w,co,on,gr,od,li,0,0⟩/\∀a∈args,vI a
 termination_by SizeOf.sizeOf q
def Steps(h:PH)(vs:List l7)(ts:cn):Prop:=vs.length=ts.length/\∀(i:Nat) t,ts[i]? =some t->∃v,vs[i]? =some v/\rR h t v
structure mU(m:MH)(h:PH)(cb mb:Nat)(s:Sl)(ts:cn):Prop where
 at_:m cb=some (.cells #[.slice s.a s.len s.cap,.map (some mb)] 128 (0,0))
 row:∃vs,cR m s 111 22 (vs.map l7.enc)/\Steps h vs ts
 map_:mJ m mb (ts.mapIdx λi t=>((keyOf t).val,.int .i64 i))
 nodup:(ts.map keyOf).Nodup
structure G6(m m':MH)(cb mb:Nat)(s s':Sl):Prop where
 other:∀b o,m b=some o->b≠cb->b≠mb->(∀i,s.a≠some ⟨b,i,none⟩)->m' b=some o
 fresh:∀b i,s'.a=some ⟨b,i,none⟩->m b=none\/∃i,s.a=some ⟨b,i,none⟩
def bLZ(N:Nat):Vc.Spec:=λc m h K=>∃v q cb d s ts,c=[cP cb,aQ v]/\dQ h q v/\SizeOf.sizeOf q<N/\vI q/\mU m h cb d s ts/\dU m/\(ts.length:Int)+Nv q<=1000000/\
 ∀ts'(k:Nat) s' m' h',PH.le h h'->Db q ts ts' k->mU m' h' cb d s' ts'->G6 m m' cb d s s'->K (cI k) m' h'
noncomputable def bsQ(N:Nat)(cb:Nat)(v:QV):Ctx:=
 pF [(113,bgJ),(79,TT),(80,adX),(83,adQ),(114,bHJ),(66,bLZ N)] [] [(2,{A:=l7×MH×PH,st:=λ⟨t,m,h⟩=>bO 89 91 [(0,pv cb),(3,.at (.ptr 3 0)),(5,.at (.ptr 5 0))] [(3,.cells 35 (v.enc.map .val)),(5,.cells 111 (t.enc.map .val))] m h}),
  (4,{A:=l7×MH×PH,st:=λ⟨t,m,h⟩=>bO 89 91 [(0,pv cb),(3,.at (.ptr 3 0)),(5,.at (.ptr 5 0))] [(3,.cells 35 (v.enc.map .val)),(5,.cells 111 (t.enc.map .val))] m h}),
  (6,{A:=l7×MH×PH,st:=λ⟨t,m,h⟩=>bO 89 91 [(0,pv cb),(5,.at (.ptr 5 0))] [(5,.cells 111 (t.enc.map .val))] m h})] [] [1050] [] false
abbrev MO(a:(l7×MH×PH->Prop)->Prop)(b:(l7×MH×PH->Prop)->(l7×MH×PH)->Prop)(c:(l7×MH×PH)->Prop):Prop:=∃(x:l7×MH×PH->Prop),a x/\∀(d:l7×MH×PH),b x d->c d
abbrev Iy(a:QV)(b:PH)(c:Sl->PH->Prop):Prop:=HD (λx e=>aA (gW a.on=gW x) (jK b x e) (∀(f:Sl)(d:PH),dA b d (jK d f e) (c f d)))
abbrev D4(a:QV)(b:PH)(c:l7×MH×PH->Prop)(d:Nat)(e:Sl->(l7×MH×PH)->Prop)(g:MH):Prop:=SZ (λx n=>aA (gW a.order=gW x) (gZ b x n) (∀(o:Sl)(j:PH),dA b j (gZ j o n) (∃(f:l7×MH×PH),aA (c f) (dD d) (aA iM dY (aA (fL a) (e o f) (aA (cT g f.2) (eA j f.2) True))))))
noncomputable abbrev CE(a:l7×MH×PH):Option Go.Vc.Own:=uB 111 a.1.enc
abbrev Eh(a:QV)(b:PV)(c d e g:Sl)(i:l7×MH×PH):Prop:=oQ 111 (eZ (jI a.op) (AH a) (pQ b (eZ (qK c) (qK d) (eZ (qK e) (qK g) (eZ (CZ a) jF (rG jF))))))=CE i
noncomputable abbrev mD(a:l7×MH×PH):Nat->Option Obj:=a.2.1
noncomputable abbrev nB(a:l7×MH×PH):Nat->Nat->Option Value:=a.2.2
abbrev MP(a:cn)(b:Query):Prop:=(↑a.length:Int)+Nv b<=1000000
noncomputable abbrev D5(a:Step):Value:=Value.agg (Array.mk (bA (fD a.op) (fD a.table) (bA (fD a.limit) (fD a.left) (bA (fD a.right) (sA (oK a.wher)) (bA (sA (kO a.columns)) (sA (nL a.on)) (gV (sA (kO a.group)) (sA (qT a.order))))))))
attribute [push_cast] MO Iy D4 CE Eh mD nB MP D5
def Vj(N:Nat)(cb:Nat)(v:QV)(m:MH)(h:PH)(K:bo):Prop:=
  MO (λI=>rA (λz p=>aA (qC v.where_=qC z) (eW h p z) (∀(F:PV)(j:PH),dA h j (eW j p F) (p9 v.columns j (λl=>∀(s:Sl)(B:PH),dA j B (Ints B s l) (Iy v B (λn A=>p9 v.group A (λG=>∀(u:Sl)(g:PH),dA A g (Ints g u G) (D4 v g I cb (λC x=>Eh v F s n u C x) m/\D4 v g I cb (λC x=>Eh v F s n u C x) m))/\p9 v.group A (λG=>∀(u:Sl)(g:PH),dA A g (Ints g u G) (D4 v g I cb (λC x=>Eh v F s n u C x) m)))/\Iy v B (λn A=>p9 v.group A (λG=>∀(u:Sl)(g:PH),dA A g (Ints g u G) (D4 v g I cb (λC x=>Eh v F s n u C x) m)))))/\p9 v.columns j (λl=>∀(s:Sl)(B:PH),dA j B (Ints B s l) (Iy v B (λn A=>p9
 v.group A (λG=>∀(u:Sl)(g:PH),dA A g (Ints g u G) (D4 v g I cb (λC x=>Eh v F s n u C x) m))))))))/\rA (λz p=>aA (qC v.where_=qC z) (eW h p z) (∀(F:PV)(j:PH),dA h j (eW j p F) (p9 v.columns j (λl=>∀(s:Sl)(B:PH),dA j B (Ints B s l) (Iy v B (λn A=>p9 v.group A (λG=>∀(u:Sl)(g:PH),dA A g (Ints g u G) (D4 v g I cb (λC x=>Eh v F s n u C x) m))))))))) (λI x=>I x) (λx=>MO (λI=>dZ (aG v.args) 0 (aK (λb o=>aA (aL v.args.a b o) ((0:Int)<=0) (0<aG v.args/\AX (mD x) (nB x) b (o+0) (λy=>oU (λz q=>aK (λc E=>∃(s:Sl)(t:cn),aA (wN cb y=wN c z) (dQ (nB x) q z) (aA (oR q N) (vI q) (aA (mU
 (mD x) (nB x) c E s t) (dU (mD x)) (MP t q/\∀(J:cn)(k:Nat)(n:Sl),jQ (λD j=>dA (nB x) j (Db q t J k) (aY (mU D j c E n J) (G6 (mD x) D c E s n) (∃(d:l7×MH×PH),aA (I d) (dD cb) (aA iM dY (aA (fL v) (oQ 111 (eZ (jI x.1.op) (jI x.1.table) (pQ x.1.where_ (eZ (qK x.1.columns) (qK x.1.on) (eZ (qK x.1.group) (qK x.1.order) (eZ (jI x.1.limit) (jI (↑k:Int)) (rG (jI x.1.right)))))))=CE d) (aA (cT D d.2) (eA j d.2) True))))))))))))))) (∃(d:l7×MH×PH),aA (I d) (dD cb) (aA iM dY (aA (fL v) (CE x=CE d) (aA (eU x.2 d.2) (cW x.2 d.2) True))))) (λI d=>I d) (λd=>MO (λI=>dZ (aG v.args) 1 (aK (λb o=>aA (aL v.args.a b o) ((0:Int)<=1) (1<aG
 v.args/\AX (mD d) (nB d) b (o+21) (λy=>oU (λz q=>aK (λc E=>∃(s:Sl)(t:cn),aA (wN cb y=wN c z) (dQ (nB d) q z) (aA (oR q N) (vI q) (aA (mU (mD d) (nB d) c E s t) (dU (mD d)) (MP t q/\∀(J:cn)(k:Nat)(n:Sl),jQ (λD j=>dA (nB d) j (Db q t J k) (aY (mU D j c E n J) (G6 (mD d) D c E s n) (∃(f:l7×MH×PH),aA (I f) (dD cb) (aA dY (oQ 111 (eZ (jI d.1.op) (jI d.1.table) (pQ d.1.where_ (eZ (qK d.1.columns) (qK d.1.on) (eZ (qK d.1.group) (qK d.1.order) (eZ (jI d.1.limit) (jI d.1.left) (rG (jI (↑k:Int))))))))=CE f) (gX (cT D f.2) (eA j f.2))))))))))))))) (∃(f:l7×MH×PH),aA (I f) (dD cb) (aA dY (CE d=CE f)
 (gX (eU d.2 f.2) (cW d.2 f.2))))) (λI f=>I f) (λf=>∃(z:l7)(t:Step),aA (pY f.1.enc=pY z.enc) (rR (nB f) t z) (aA (PA t) (dU (mD f)) (∃(y:Nat),aJ (mD f) (nB f) cb 1 (lV y)/\∃(k:List (Value×Int))(O:Value->Prop),aA (mJ (mD f) y (List.map (fun(p:Value×Int)=>(p.1,fD p.2)) k)) (Cd 172 O) (aA (O (D5 t)) (∀(e:Value×Int),List.Mem e k->O e.1) (((∀(e:Value×Int),aY (List.Mem e k) (e.1=D5 t) False)->∃(H:Sl),aJ (mD f) (nB f) cb 0 (aM H)/\∃(L:Sl),BG (aJ (mD f) (nB f) cb 0 (aM L)) (aJ (mD f) (nB f) cb 0 (aM L)) (λM=>aA (cR (mD f) (dJ L) 111 22 M) (iY (jA M 1) 272) (dO M/\iF (λs E=>eK (mD f) E (dJ L) s 111 22
 (jW M f.1.enc)->fN E cb (dT s) (λD=>∃(P:Nat),aJ D (nB f) cb 1 (lV P)/\Ko (λQ O1=>aA (mJ D P Q) (Cd 172 O1) (aA (O1 (D5 t)) (∀(e:Value×Value),List.Mem e Q->O1 e.1) ((∀(e:Value×Value),Kk e Q (D5 t))/\∀(R:MH),aY (iH D R P) (mJ R P (fK Q (D5 t) (fD (aG H)) [])) (K (fQ (aG H)) R (nB f))))))))))/\∀(H:Int),List.Mem (D5 t,H) k->K (fQ H) (mD f) (nB f))))))))
def Wu(args:ce)(ts c:cn)(l:Nat):Prop:=match args with
 |[]=>c=ts/\l=0
 |a::_=>Db a ts c l
def Second(args:ce)(ts c:cn)(r:Nat):Prop:=match args with
 |_::b::_=>Db b ts c r
 |_=>c=ts/\r=0
theorem Ax{op:Int}{on:bx}{args:ce}{d:cn}:
 Db (.mk op ta w co on gr od li args) ts d k↔∃c l e r,Wu args ts c l/\Second args c e r/\P6 ⟨op,ta,w,co,on,gr,od,li,(l:Nat),(r:Nat)⟩ e d k:=by
 rw[Db.eq_def];cases args with
 |nil=>
  simp only[Wu,Second];constructor
  .intro h;exact⟨ts,0,ts,0,⟨rfl,rfl⟩,⟨rfl,rfl⟩,h⟩
  .rintro⟨_,_,_,_,⟨rfl,rfl⟩,⟨rfl,rfl⟩,h⟩;exact h
 |cons a args=>
  cases args with
  |nil=>
   simp only[Wu,Second];constructor
   .rintro⟨c,l,f,g⟩;exact⟨c,l,c,0,f,⟨rfl,rfl⟩,g⟩
   .rintro⟨c,l,_,_,f,⟨rfl,rfl⟩,g⟩;exact⟨_,l,f,g⟩
  |cons b args=>
   simp only[Wu,Second]
theorem a7J{c:cn}(h:P6 t ts c k):c.length<=ts.length+1:=by
 rcases h with⟨_,_,_,rfl⟩|⟨_,rfl,_⟩
 .omega
 .simp
theorem BQ:∀(q:Query){ts c:cn}{k:Nat},Db q ts c k->(c.length:Int)<=ts.length+Nv q
 |.mk op ta w co on gr od li args,ts,c,k,h=>by
  rw[Ax]at h;obtain⟨f,l,g,r,d,e,j⟩:=h;have:=a7J j;simp only[Nv]
  match args,d,e with
  |[],d,e=>
   obtain⟨rfl,_⟩:=d;obtain⟨rfl,_⟩:=e;simp only[Am];omega
  |[a],d,e=>
   obtain⟨rfl,_⟩:=e;have:=BQ a d;simp only[Am];omega
  |a::b::r,d,e=>
   have:=BQ a d;have:=BQ b e;have:=vV r;simp only[Am];omega
theorem Uv{op:Int}{on:bx}{args:ce}:
 vI (.mk op ta w co on gr od li args)↔PA ⟨op,ta,w,co,on,gr,od,li,0,0⟩/\∀a∈args,vI a:=by rw[vI.eq_def]
theorem cR.blk{s:Sl}{E:Nat}(h:cR m s E sz xs)(e:s.a=some ⟨b,i,none⟩):∃c,m b=some (.cells c E (0,0)):=by
 rcases h.ex with⟨rfl,_⟩|⟨g,d,c,rfl,f,_⟩
 .cases e
 .simp only[Option.some.injEq,Addr.mk.injEq]at e;rw[<-e.1];exact⟨c,f⟩
theorem cR.slen{s:Sl}{E:Nat}(h:cR m s E sz xs):s.len=xs.length:=by
 rcases h.ex with⟨rfl,rfl⟩|⟨e,c,d,rfl,f,_⟩<;>rfl
theorem cR.keep{s:Sl}{E:Nat}(h:cR m s E sz xs)(e:∀b i,s.a=some ⟨b,i,none⟩->m' b=m b):cR m' s E sz xs:=by
 refine⟨h.rows,?_⟩;rcases h.ex with f|⟨b,c,d,rfl,g,j⟩
 .exact .inl f
 .exact .inr ⟨b,c,d,rfl,by rw[e b 0 rfl];exact g,j⟩
theorem G6.refl(m:MH)(cb c:Nat)(s:Sl):G6 m m cb c s s:=⟨λ_ _ h _ _ _=>h,λb i h=>.inr ⟨i,h⟩⟩
theorem G6.trans{y m2:MH}{f:PH}{g:Nat}{s z B:Sl}{A:cn}(a:G6 m y cb g s z)(c:mU y f cb g z A)(b:G6 y m2 cb g z B):G6 m m2 cb g s B:=by
 refine⟨λx o h n u C=>b.other x o (a.other x o h n u C) n u (λi e=>?_),λx i e=>?_⟩
 .rcases a.fresh x i e with f|⟨j,f⟩
  .rw[f]at h;cases h
  .exact C j f
 .rcases b.fresh x i e with d|⟨j,d⟩
  .by_cases D:∃i,s.a=some ⟨x,i,none⟩
   .exact .inr D
   .left;cases E:m x with
    |none=>rfl
    |some o=>
     have n:x≠cb:=λe=>by rw[e,c.at_]at d;cases d
     have u:x≠g:=λe=>by
      obtain⟨G,H,F,_⟩:=c.map_.ex;rw[e,F]at d;cases d
     rw[a.other x o E n u (λi e=>D ⟨i,e⟩)]at d;cases d
  .exact a.fresh x j d
theorem mU.tab{j:Nat}{s o:Sl}(c:mU m h cb j s ts)(g:G6 m m' cb j s o)(u:dU m):dU m':=by
 obtain⟨T,y,e⟩:=u;refine⟨T,y,g.other 1 _ e (λx=>?_) (λx=>?_) (λi x=>?_)⟩
 .rw[x,c.at_]at e;simp only[Option.some.injEq,Obj.cells.injEq]at e;have:=congrArg Array.size e.1;simp[Lib.pow10Tab]at this
 .obtain⟨D,E,z,_⟩:=c.map_.ex;rw[x,z]at e;cases e
 .obtain⟨F,A,_⟩:=c.row;rcases A.ex with⟨d,_⟩|⟨b,B,C,d,f,_,_,n,_⟩
  .rw[d]at x;cases x
  .rw[d]at x;simp only[Option.some.injEq,Addr.mk.injEq]at x;rw[x.1,e]at f;simp only[Option.some.injEq,Obj.cells.injEq]at f;rw[<-f.1]at n;simp[Lib.pow10Tab]at n;omega
theorem mU.mono{d:Nat}{s:Sl}(c:mU m h cb d s ts)(le:PH.le h h'):mU m h' cb d s ts:=by
 obtain⟨f,g,j,n⟩:=c.row;exact⟨c.at_,⟨f,g,j,λi t e=>let⟨v,e1,e2⟩:=n i t e;⟨v,e1,e2.mono le⟩⟩,c.map_,c.nodup⟩
theorem Zp{ts:cn}{k:Value}{y:Int}(h:(k,y)∈ts.mapIdx λi t=>((keyOf t).val,(i:Int))):∃(i:Nat)(t:Step),ts[i]? =some t/\k=(keyOf t).val/\y=i:=by
 obtain⟨i,c,e⟩:=mem_mapIdx.1 h;simp only[Prod.mk.injEq]at e;exact⟨i,ts[i],getElem?_eq_getElem c,e.1.symm,e.2.symm⟩
theorem a7Z{m:MH}{h:PH}{cb g:Nat}{s:Sl}{ts:cn}{t:Step}{v:l7}{N:Nat}{w:QV}{K:bo}(c:mU m h cb g s ts)(ht:dU m)(hk:PA t)(hv:rR h t v)(hl:ts.length+1<=1000001)
 (hK:∀ts'(k:Nat) j m',P6 t ts ts' k->mU m' h cb g j ts'->G6 m m' cb g s j->K (cI k) m' h):
 ∃(V:l7)(t:Step),[CV.val (.agg ⟨v.enc⟩)]=[CV.val (.agg ⟨V.enc⟩)]/\rR h t V/\PA t/\dU m/\∃y:Nat,aJ m h cb 1 [Value.map (some y)]/\∃(f:List (Value×Int))(Ok:Value->Prop),mJ m y (f.map λp=>(p.1,.int .i64 p.2))/\KeyLaw Tryz.prog 172 Ok/\Ok (.agg ⟨UP t⟩)/\(∀e:Value×Int,List.Mem e f->Ok e.1)/\
  ((∀e:Value×Int,List.Mem e f->e.1= .agg ⟨UP t⟩->False)->∃y:Sl,aJ m h cb 0 [.slice y.a y.len y.cap]/\∃d:Sl,aJ m h cb 0 [.slice d.a d.len d.cap]/\aJ m h cb 0 [.slice d.a d.len d.cap]/\∃xs,cR m ⟨d.a,d.len,d.cap⟩ 111 22 xs/\(xs.length+1)*272<=140737488355328/\xs.length<140737488355328/\
   ∀(j:Sl)(m':MH),eK m m' ⟨d.a,d.len,d.cap⟩ j 111 22 (xs++[v.enc])->∃(cs:Array Value)(E:TypeId),Lo m' cb (.cells cs E (0,0))/\0<cs.size/\∀n:MH,gG m' n cb (.cells ⟨.slice j.a j.len j.cap::([]++cs.toList.drop 1)⟩ E (0,0))->
    ∃F:Nat,aJ n h cb 1 [Value.map (some F)]/\∃(f:cd)(Ok:Value->Prop),mJ n F f/\KeyLaw Tryz.prog 172 Ok/\Ok (.agg ⟨UP t⟩)/\(∀e:Value×Value,List.Mem e f->Ok e.1)/\(∀e:Value×Value,List.Mem e f->e.1= .agg ⟨UP t⟩->False)/\
     ∀m':MH,iH n m' F->mJ m' F (f++[(.agg ⟨UP t⟩,.int .i64 y.len)])->K (.val (.int .i64 y.len)) m' h)/\
  ∀y:Int,List.Mem (Value.agg ⟨UP t⟩,y) f->K (.val (.int .i64 y)) m h:=by
 obtain⟨vs,hr,O,a1⟩:=c.row;have I:=cR.slen hr;rw[length_map,O]at I
 have W:(ts.mapIdx λi t=>((keyOf t).val,(i:Int))).map (λp=>(p.1,Value.int .i64 p.2))=ts.mapIdx λi t=>((keyOf t).val,.int .i64 i):=by
  apply ext_getElem?;intro i;simp only[getElem?_map,getElem?_mapIdx,Option.map_map];rfl
 have a2:aJ m h cb 1 [Value.map (some g)]:=.of_m c.at_ rfl;have P:aJ m h cb 0 [.slice s.a s.len s.cap]:=.of_m c.at_ rfl
 have a3:∀b i,s.a=some ⟨b,i,none⟩->b≠cb:=λb i e B=>by
  obtain⟨Q,z⟩:=cR.blk hr e;rw[B,c.at_]at z;cases z
 have J:cb≠g:=λe=>by
  obtain⟨es,cl,z,_⟩:=c.map_.ex;rw[<-e,c.at_]at z;cases z
 refine⟨v,t,rfl,hv,hk,ht,g,a2,ts.mapIdx λi t=>((keyOf t).val,(i:Int)),_,by rw[W];exact c.map_,Qw,⟨keyOf t,rfl⟩,λe X=>?_,λa4=>?_,λy hy=>?_⟩
 .obtain⟨i,t',_,G,_⟩:=Zp (k:=e.1) (y:=e.2) X;exact⟨keyOf t',G⟩
 .have A:∀x∈ts,keyOf x≠keyOf t:=by
   intro x C e;obtain⟨i,D⟩:=mem_iff_getElem?.1 C;have H:=(List.getElem?_eq_some_iff.1 D).1;refine a4 ((keyOf x).val,(i:Int)) ?_ (by rw[e];rfl);refine mem_mapIdx.2 ⟨i,H,?_⟩;rw[getElem?_eq_getElem H]at D;cases D;rfl
  refine⟨s,P,s,P,P,vs.map l7.enc,hr,by rw[length_map];omega,by rw[length_map];omega,λj m1 R=>?_⟩;have L:m1 cb=some (.cells #[.slice s.a s.len s.cap,.map (some g)] 128 (0,0)):=R.other cb _ c.at_ (λi e=>a3 cb i e rfl);refine⟨_,_,⟨L⟩,bg,λm2 S=>?_⟩;have S:gG m1 m2 cb (.cells #[.slice j.a j.len j.cap,.map (some g)] 128 (0,0)):=S;obtain⟨es,cl,Y,a5⟩:=c.map_.ex
  have M:m1 g=some (.map es cl):=R.other g _ Y (λi e=>by
   obtain⟨Q,z⟩:=cR.blk hr e;rw[Y]at z;cases z)
  have Z:m2 g=some (.map es cl):=by rw[S.other g (Ne.symm J)];exact M
  refine⟨g,.of_m S.at_ rfl,ts.mapIdx λi t=>((keyOf t).val,.int .i64 i),_,⟨es,cl,Z,a5⟩,Qw,⟨keyOf t,rfl⟩,λe X=>?_,λe X B=>?_,λm3 T U=>?_⟩
  .obtain⟨i,D,G⟩:=mem_mapIdx.1 X;exact⟨keyOf ts[i],by rw[<-G]⟩
  .obtain⟨i,D,G⟩:=mem_mapIdx.1 X;rw[<-G]at B;exact A ts[i] (getElem_mem D) (KV.val_inj.1 B)
  .rw[I]at U⊢
   have a':∀b i,j.a=some ⟨b,i,none⟩->b≠cb:=λb i e B=>by
    obtain⟨Q,z⟩:=cR.blk R.row e;rw[B,L]at z;cases z
   have a0:∀b i,j.a=some ⟨b,i,none⟩->b≠g:=λb i e B=>by
    obtain⟨Q,z⟩:=cR.blk R.row e;rw[B,M]at z;cases z
   refine hK (ts++[t]) ts.length j m3 (.inr ⟨A,rfl,rfl⟩) ⟨?_,⟨vs++[v],?_,?_⟩,?_,?_⟩ ⟨?_,?_⟩
   .rw[T.other cb J];exact S.at_
   .rw[map_append];refine cR.keep R.row (λb i e=>?_);rw[T.other b (a0 b i e),S.other b (a' b i e)]
   .refine⟨by simp[O],λi x C=>?_⟩;by_cases D:i<ts.length
    .rw[getElem?_append_left D]at C;obtain⟨u,G,B⟩:=a1 i x C;exact⟨u,by rw[getElem?_append_left aC];exact G,B⟩
    .rw[getElem?_append_right aC]at C;have H:=(List.getElem?_eq_some_iff.1 C).1;simp at H;have:i=ts.length:=by omega
     subst this;simp at C;subst C;exact⟨v,by rw[getElem?_append_right aC,O];simp,hv⟩
   .rw[mapIdx_append];rw[<-aiZ]at U;simpa using U
   .rw[map_append,nodup_append];refine⟨c.nodup,bg,λa ha b hb=>?_⟩;obtain⟨x,C,rfl⟩:=mem_map.1 ha;simp at hb;rw[hb];exact A x C
   .intro b o e n1 n2 n3;rw[T.other b n2,S.other b n1];exact R.other b o e n3
   .exact R.fresh
 .obtain⟨i,t',D,G,rfl⟩:=Zp hy;refine hK ts i s m (.inl ⟨t',D,?_,rfl⟩) c (.refl _ _ _ _);exact(KV.val_inj.1 (G.symm.trans rfl:(keyOf t').val=(keyOf t).val))
theorem ZG:∀N,bk 66 (bLZ N)
 |0=>by
  refine eV (fn:=Tryz.f66) (c:=cC Tryz.f66) func66 rfl bh ?_;rintro a' m h K ⟨v,q,cb,F,s,ts,rfl,_,hN,_⟩;omega
 |N+1=>by
  refine iB func66 ?_;rintro a' m h K ⟨v,q,cb,F,s,ts,rfl,hq,hN,E,c,ht,hl,hK⟩;refine⟨bsQ N cb v,rfl,aD YC (aD QN (aD anZ (aD amJ (aD YB (aD (ZG N) aF))))),Vj N cb v m h K,bf,?_⟩;dsimp only[Vj,push_cast];have f:=@By q;obtain⟨op,ta,w,co,on,gr,od,li,args⟩:=q;have x:=hq.parts;have g:=x.args_.slen;rw[Uv]at E;obtain⟨E,O⟩:=E;simp only[Nv]at hl;simp only[Query.args]at f;refine⟨λ⟨t,G,Y⟩=>G=m/\PH.le h Y/\rR Y ⟨op,ta,w,co,on,gr,od,li,0,0⟩ t,?_,?_⟩
  .repeat' (first
    |(refine⟨v.where_,w,rfl,x.where_,λv1 h1 j P=>?_⟩)
    |(refine⟨v.columns,co,rfl,x.columns_.mono j,λQ h2 n r2=>?_⟩)
    |(refine⟨v.on,on,rfl,x.on_.mono (j.trans n),λs3 h3 o r3=>?_⟩)
    |(refine⟨v.group,gr,rfl,x.group_.mono ((j.trans n).trans o),λs4 h4 y r4=>?_⟩)
    |(refine⟨v.order,od,rfl,x.order_.mono (((j.trans n).trans o).trans y),λs5 h5 z r5=>?_⟩)
    |(exact⟨(⟨v.op,v.table,v1,Q,s3,s4,s5,v.limit,0,0⟩,m,h5),⟨rfl,(((j.trans n).trans o).trans y).trans z,⟨x.op_,x.table_,P.mono (((n.trans o).trans y).trans z),r2.mono ((o.trans y).trans z),r3.mono (y.trans z),r4.mono z,r5,x.limit_,rfl,rfl⟩⟩,MT⟩)
    |apply And.intro)
  rintro⟨t,m0,Y⟩ ⟨rfl,d,A⟩;dsimp only;refine⟨λ⟨t,G,L⟩=>∃e l M,Wu args ts e l/\(e.length:Int)+Am (args.drop 1)+1<=1000000/\mU G L cb F M e/\G6 m0 G cb F s M/\PH.le h L/\rR L ⟨op,ta,w,co,on,gr,od,li,(l:Nat),0⟩ t,aE (λR=>?_) (λS=>?_),?_⟩
  .obtain⟨a,rs,rfl⟩:∃a rs,args=a::rs:=by
    cases args with
    |nil=>simp at g;omega
    |cons a rs=>exact⟨a,rs,rfl⟩
   simp only[Am]at hl;have a1:=vV rs;obtain⟨b1,o1,u,e1,P,H⟩:=(x.args_.mono d).at (i:=0) (x:=a) rfl;refine⟨b1,o1,e1,aC,aC,u,.imm (bj P),u,a,cb,F,s,ts,rfl,H,?_,O a bg,c.mono d,ht,aC,λB k T m' h' C I U V=>⟨(⟨t.op,t.table,t.where_,t.columns,t.on,t.group,t.order,t.limit,k,t.right⟩,m',h'),⟨B,k,T,I,?_,U,V,d.trans C,?_⟩,?_⟩⟩
   .have:=f (q:=a) bg;omega
   .have:=BQ a I;simp only[drop_succ_cons,drop_zero];omega
   .have r:=A.mono C;exact⟨r.op_,r.table_,r.where_,r.columns_,r.on_,r.group_,r.order_,r.limit_,rfl,r.right_⟩
   .rw[A.right_];exact MT
  .obtain rfl:args=[]:=by
    cases args with
    |nil=>rfl
    |cons a rs=>simp at g;omega
   exact⟨(t,m0,Y),⟨ts,0,s,⟨rfl,rfl⟩,by simp[Am]at hl⊢;omega,c.mono d,.refl _ _ _ _,d,A⟩,MT⟩
  clear A d;rintro⟨t,m1,L⟩ ⟨e,l,M,hf,J,Z,g1,d,A⟩;dsimp only;have a2:=c.tab g1 ht;refine⟨λ⟨t,G,W⟩=>∃D r Q,Second args e D r/\D.length+1<=1000000/\mU G W cb F Q D/\G6 m0 G cb F s Q/\PH.le h W/\rR W ⟨op,ta,w,co,on,gr,od,li,(l:Nat),(r:Nat)⟩ t,aE (λR=>?_) (λS=>?_),?_⟩
  .obtain⟨a0,a,rs,rfl⟩:∃a0 a rs,args=a0::a::rs:=by
    cases args with
    |nil=>simp at g;omega
    |cons a rs=>cases rs with
     |nil=>simp at g;omega
     |cons b rs=>exact⟨a,b,rs,rfl⟩
   simp only[Am,drop_succ_cons,drop_zero]at J;have a1:=vV rs;obtain⟨b1,o1,u,e1,P,H⟩:=(x.args_.mono d).at (i:=1) (x:=a) rfl;refine⟨b1,o1,e1,aC,aC,u,.imm (bj P),u,a,cb,F,M,e,rfl,H,?_,O a bg,Z,a2,aC,λB k T m' h' C I U V=>⟨(⟨t.op,t.table,t.where_,t.columns,t.on,t.group,t.order,t.limit,t.left,k⟩,m',h'),⟨B,k,T,I,?_,U,g1.trans Z V,d.trans C,?_⟩,?_⟩⟩
   .have:=f (q:=a) bg;omega
   .have:=BQ a I;omega
   .have r:=A.mono C;exact⟨r.op_,r.table_,r.where_,r.columns_,r.on_,r.group_,r.order_,r.limit_,r.left_,rfl⟩
   .exact MT
  .cases args with
   |nil=>exact⟨(t,m1,L),⟨e,0,M,⟨rfl,rfl⟩,by simp[Am]at J;omega,Z,g1,d,A⟩,MT⟩
   |cons a rs=>cases rs with
    |nil=>exact⟨(t,m1,L),⟨e,0,M,⟨rfl,rfl⟩,by simp[Am]at J;omega,Z,g1,d,A⟩,MT⟩
    |cons b rs=>simp at g;omega
  clear A;rintro⟨t,m2,W⟩ ⟨D,r,Q,a3,a4,c2,g2,X,A⟩;dsimp only;exact a7Z (N:=N) (w:=v) (t:=⟨op,ta,w,co,on,gr,od,li,(l:Nat),(r:Nat)⟩) c2 (c.tab g2 ht) ⟨E.wher,E.columns,E.on,E.group,E.order⟩ A aC (λB k T m' I U V=>hK B k T m' W X (Ax.2 ⟨e,l,D,r,hf,a3,I⟩) U (g2.trans c2 V))
def BW:ce->cn->cn->ck->Prop
 |[],ts,c,ks=>c=ts/\ks=[]
 |q::qs,ts,c,ks=>∃d k e,Db q ts d k/\BW qs d c e/\ks=k::e
noncomputable def tJ(s:mI)(c:ce):Int:=if 32<c.length then 2 else if dH s≠0 then dH s else kD (c.map λq=>(fE s [] q).2)
def aPl(p r:Sl):CV:=.val (.agg ⟨[.slice p.a p.len p.cap,.slice r.a r.len r.cap]⟩)
structure TM(h:PH)(p r:Sl)(ts:cn)(ks:ck):Prop where
 steps:∃vs,cZ h p 22 (vs.map l7.enc)/\Steps h vs ts
 roots:Ints h r (ks.map fun(k:Nat)=>(k:Int))
 nodup:(ts.map keyOf).Nodup
def Wv:Vc.Spec:=λd m h K=>∃sc e s c,d=[aS sc,cS e]/\gO h s sc/\xM h e c/\dU m/\(∀q∈c,(fE s [] q).2=0->vI q)/\
 (tJ s c≠0->K (.tup [aPl cD cD,cI (tJ s c)]) m h)/\(tJ s c=0->∀p r ts ks h',PH.le h h'->BW c [] ts ks->TM h' p r ts ks->K (.tup [aPl p r,cI 0]) m h')
def bZJ:Vc.Spec:=λc m h K=>∃v q cb d s ts,c=[cP cb,aQ v]/\dQ h q v/\vI q/\mU m h cb d s ts/\dU m/\(ts.length:Int)+Nv q<=1000000/\
 ∀ts'(k:Nat) s' m' h',PH.le h h'->Db q ts ts' k->mU m' h' cb d s' ts'->G6 m m' cb d s s'->K (cI k) m' h'
noncomputable def bwZ(sc:bY)(sl:Sl)(m0:MH):Ctx:=
 pF [(54,vO),(39,AB),(66,bZJ)] [(7,{A:=Nat×PH,st:=λ⟨i,h⟩=>bO 64 66 [(1,sv sl),(2,.at (.ptr 2 0)),(4,.at (.ptr 4 0)),(25,sv sl),(26,iv sl.len),(27,iv i)] [(2,.cells 40 (sc.enc.map .val)),(4,.cells 52 [.val (.slice none 0 0),.val (.slice none 0 0)])] m0 h}),
  (16,{A:=Nat×Nat×br×MH×PH,st:=λ⟨i,cb,ks,m,h⟩=>bO 64 66 [(4,.at (.ptr 4 0)),(11,pv cb),(12,.at (.lst 46)),(47,sv sl),(48,iv sl.len),(49,iv i)] [(4,.cells 52 [.val (.slice none 0 0),.val (.slice none 0 0)]),(46,.lst 3 1 (ks.map eI))] m h})] [] [] [128] [] false
abbrev Iz:Prop:=eQ (oQ 52 (lX PO PO))
noncomputable abbrev Ei(a:Nat×Nat×br×MH×PH):List bm:=oW a.2.2.1
noncomputable abbrev nC(a:Nat×Nat×br×MH×PH):MH×PH:=a.2.2.2
attribute [push_cast] Iz Ei nC
def OH(sc:bY)(sl:Sl)(m:MH)(h:PH)(K:bo):Prop:=
  dZ (aG sl) 32 (K (CV.tup (aW (jR (gV rV rV)) 2)) m h) (Gj sc h (λs=>K (CV.tup (aW (jR (gV rV rV)) (dH s))) m h) (MQ (λI x=>aA (I x) (aH sl) (aA (eP 2) (eP 4) (aA (aH sl) (bG sl) (aA (bC x.1) (bM sc) (dK Iz m m h x.2))))) (λI B x=>I x->aZ (↑x.1:Int) (aG sl) (aK (λb o=>aA (aL sl.a b o) (0<=(↑x.1:Int)) ((↑x.1:Int)<aG sl/\∃(y:QV),aJ m x.2 b (bK o x.1 21) y.enc/\Co (cJ (bR sc) (gJ jG (dL y))) x.2 (λs p q _ f=>cO (wB s p q) 0 (K (CV.tup (gJ (jR (gV rV rV)) (CV.val (fD (wB s p q))))) m f) (∃(d:Nat×PH),aA (I d) (B d<B x) (aA (aH sl) gI (aA (eP 4) (aH sl) (aA (bG sl) (bD (fP (bE x.1 1)) d.1) (aA (bM sc) Iz (aA (m=m) (f=d.2) True)))))))))) (uL m x.2
 (λb C=>fR (λj u=>aY (bW C x.2 j) (cM C u j (gV rV CY) 128) (Fp (λc E=>aA (Lo u j (qL c E 0)) (2<=c.size) (∀(D:MH),cM u D j (bA rV (BE b) (List.drop 2 c.toList)) E->Be sl 8 (∃(I1:Nat×Nat×br×MH×PH->Prop)(F:Nat×Nat×br×MH×PH->Nat),(∃(d:Nat×Nat×br×MH×PH),aA (I1 d) (eP 4) (aA (cH j d.2.1) (eL 46) (aA (aH sl) (bG sl) (aA (bC d.1) Iz (aA (wT 3 sl (jD bJ) (Ei d)) (cT D (nC d)) (eA x.2 (nC d)/\True))))))/\∀(d:Nat×Nat×br×MH×PH),I1 d->aZ (↑d.1:Int) (aG sl) (aK (λG o=>aA (aL sl.a G o) (0<=(↑d.1:Int)) ((↑d.1:Int)<aG sl/\∃(y:QV),aJ (nC d).1 (nC d).2 G (bK o d.1 21) y.enc/\oU (λv q=>aK (λn z=>
 ∃(s:Sl)(t:cn),aA (wN d.2.1 y=wN n v) (dQ (nC d).2 q v) (aA (vI q) (mU (nC d).1 (nC d).2 n z s t) (aA (dU (nC d).1) (MP t q) (∀(H:cn)(k:Nat)(J:Sl),jQ (λA f=>dA (nC d).2 f (Db q t H k) (aY (mU A f n z J H) (G6 (nC d).1 A n z s J) (oO (↑d.1:Int) (Ei d) (λe=>aA (jC (Ei d) (lK d.1) e) (yG 0 e) (∃(g:Nat×Nat×br×MH×PH),aA (I1 g) (F g<F d) (aA (eP 4) (cH d.2.1 g.2.1) (aA (eL 46) (aH sl) (aA (bG sl) (bD (fP (bE d.1 1)) g.1) (aA Iz (Option.some (Own.lst 3 1 (List.set (Ei d) (lK d.1) (xS (fD (↑k:Int)) 1 e)))=Option.some (Own.lst 3 1 (Ei g))) (aA (cT A (nC g)) (eA f (nC g)) True)))))))))))))))))) (∃(y:Sl),aJ
 (nC d).1 (nC d).2 d.2.1 0 (aM y)/\bZ (nC d).2 1 (Ei d) (λs f=>K (CV.tup (aW (jR (gV (dT y) (dT s))) 0)) (nC d).1 f))))))))))))
theorem apJ:bk 66 bZJ:=pJ ZG λ_ _ _ _⟨v,q,cb,c,s,ts,e,d,f,g,j,n,o⟩=>⟨SizeOf.sizeOf q+1,v,q,cb,c,s,ts,e,d,aC,f,g,j,n,o⟩
theorem Mf:∀{e:ce}{q:Query}{ts d c:cn}{ks:ck}{k:Nat},BW e ts d ks->Db q d c k->BW (e++[q]) ts c (ks++[k])
 |[],q,ts,d,c,ks,k,h,f=>by
  obtain⟨rfl,rfl⟩:=h;exact⟨c,k,[],f,⟨rfl,rfl⟩,rfl⟩
 |p::e,q,ts,d,c,ks,k,h,f=>by
  obtain⟨g,j,n,o,u,rfl⟩:=h;exact⟨g,j,_,o,Mf u f,rfl⟩
theorem cE.keep{r:CV}(c:Sub m m')(le:PH.le h h')(d:K r m h):cE h K r m' h':=
 λ_=>⟨m,h,c,.refl _,λb i v e=>.inl (le.le b i v e),d⟩
theorem Jq:∀{l:br}{i:Nat}{e:Int},l[i]? =some e->e≠0->(∀j x,j<i->l[j]? =some x->x=0)->kD l=e
 |[],_,_,h,_,_=>by simp at h
 |x::r,0,e,h,c,_=>by simp at h;subst h;simp[kD,c]
 |x::r,i+1,e,h,c,d=>by
  have:x=0:=d 0 x aC rfl;subst this;simp only[kD,if_true];exact Jq (i:=i) (bj h) c (λj y g f=>d (j+1) y aC (bj f))
theorem aeX(h:lP q=true):Nv q<=24:=by
 rw[<-FY,(HV q 8 0 aC).1]at h;have:=h.1;omega
theorem Uu(h:(fE s ps q).2=0):lP q=true:=by
 unfold fE at h;split at h
 .split at h
  .split at h
   .assumption
   .simp[eY]at h
  .simp[eY]at h
 .rename_i c;simp[eY]at h;exact(c h).elim
theorem aKZ(m:MH):cR m cD 111 22 (([]:List l7).map l7.enc):=⟨⟨λ_ h=>by simp at h,λ_ h=>by simp at h⟩,.inl ⟨rfl,rfl⟩⟩
theorem aGJ{kk:ck}{n:Nat}(c:kk.length<n):((kk.map fun(k:Nat)=>(k:Int))++replicate (n-kk.length) (0:Int)).set kk.length (k:Int)=((kk++[k]).map fun(k:Nat)=>(k:Int))++replicate (n-(kk.length+1)) (0:Int):=by
 have e:n-kk.length=(n-(kk.length+1))+1:=by omega
 rw[e,replicate_succ];have d:kk.length=(kk.map fun(k:Nat)=>(k:Int)).length:=bg
 rw[set_append,if_neg bg];simp
theorem Q7:bk 24 Wv:=by
 refine Tm func24 ?_;rintro b8 m h K ⟨sc,sl,s,c,rfl,hs,hq,ht,a4,T,hK⟩;refine⟨bwZ sc sl m,rfl,aD aa (aD aqJ (aD apJ aF)),OH sc sl m h (cE h K),bf,?_⟩;show OH sc sl m h (cE h K);dsimp only[OH,push_cast];have hl:=hq.slen;unfold tJ at T hK;refine aE (λU=>?_) (λU=>⟨sc,s,rfl,hs,aB (λV=>?_) (λV=>?_)⟩)
 .rw[if_pos aC]at T;exact cE.keep (Sub.refl m) (.refl _) (T bh)
 .have V:dH s≠0:=bj V
  rw[if_neg aC,if_pos V]at T;exact cE.keep (Sub.refl m) (.refl _) (T V)
 have V:dH s=0:=bj V
 rw[if_neg aC,if_neg (bj V)]at T hK;refine⟨λ⟨i,O⟩=>i<=c.length/\PH.le h O/\∀j q,j<i->c[j]? =some q->(fE s [] q).2=0,λ⟨i,_⟩=>c.length-i,⟨(0,h),⟨aC,.refl _,λj q W=>by omega⟩,MT⟩,?_⟩;rintro⟨i,O⟩ ⟨hi,n,B⟩;dsimp only;refine aE (λF=>?_) (λa5 b m1 hb G cb m2 Z a'=>?_)
 .obtain⟨q,z⟩:=eN hl F;obtain⟨b1,o1,u,P,r1,a0⟩:=(hq.mono n).at z;refine⟨b1,o1,P,aC,F,u,.imm r1,sc,cD,u,s,[],q,rfl,hs.mono n,⟨cZ.nil _ _,bg⟩,a0,λX U a6 ri=>aB (λQ=>?_) (λQ=>?_)⟩
  .have Q:(fE s [] q).2≠0:=bj Q
   have a1:kD (c.map λq=>(fE s [] q).2)=(fE s [] q).2:=Jq (i:=i) (by simp[z]) Q (λj x W O=>by
    rw[getElem?_map,Option.map_eq_some_iff]at O;obtain⟨q',y,rfl⟩:=O;exact B j q' W y)
   rw[a1]at T;exact cE.keep (Sub.refl m) (n.trans a6) (T Q)
  .have Q:(fE s [] q).2=0:=bj Q
   refine⟨(i+1,U),⟨by show i+1<=c.length;omega,n.trans a6,λj q' W y=>?_⟩,by show c.length-(i+1)<c.length-i;omega,MT⟩;by_cases b3:j=i
   .subst b3;rw[z]at y;cases y;exact Q
   .exact B j q' aC y
 have H:∀q∈c,(fE s [] q).2=0:=λq y=>by
  obtain⟨j,W⟩:=mem_iff_getElem?.1 y;exact B j q (by have:=(List.getElem?_eq_some_iff.1 W).1;omega) W
 have a1:kD (c.map λq=>(fE s [] q).2)=0:=uF _ (λx O=>by
  obtain⟨q,y,rfl⟩:=mem_map.1 O;exact H q y)
 have hK:=hK a1;have a7:cb≠b:=λe=>by have:=Z.m_;rw[e,G.at_]at this;cases this
 refine⟨_,_,⟨a'.at_⟩,bg,λm3 I=>?_⟩;have I:gG m2 m3 cb (.cells #[.slice none 0 0,.map (some b)] 128 (0,0)):=I
 have J:Sub m m3:=λx o e=>by
  have n1:x≠b:=λd=>by rw[d,hb.m_]at e;cases e
  have n2:x≠cb:=λd=>by
   have:=Z.m_;rw[<-d,G.other x n1,e]at this;cases this
  rw[I.other x n2,a'.other x n2,G.other x n1];exact e
 have c0:mU m3 O cb b cD []:=⟨I.at_,⟨[],aKZ m3,rfl,λi t e=>by simp at e⟩,⟨#[],0,by rw[I.other b (Ne.symm a7),a'.other b (Ne.symm a7)];exact G.at_,rfl⟩,bg⟩
 refine⟨aC,aC,aC,aC,?_⟩;refine⟨λ⟨i,R,ks,mx,hy⟩=>R=cb/\i<=c.length/\PH.le O hy/\∃ts X L,L.length=i/\ks=(L.map fun(k:Nat)=>(k:Int))++replicate (c.length-i) 0/\BW (c.take i) [] ts L/\mU mx hy cb b X ts/\G6 m3 mx cb b cD X/\ts.length<=24*i,λ⟨i,_,_,_,_⟩=>c.length-i,⟨(0,cb,replicate c.length 0,m3,O),⟨rfl,aC,.refl _,[],cD,[],rfl,bg,⟨rfl,rfl⟩,c0,.refl _ _ _ _,bg⟩,?_⟩,?_⟩
 .have:List.map eI (replicate c.length (0:Int))=replicate (Int.toNat (sl.len:Int)) [Value.int .i64 0]:=by rw[map_replicate,Int.toNat_natCast,hl];rfl
  rw[this];exact MT
 clear hi a5 B i;rintro⟨i,R,ks,mx,hy⟩ ⟨rfl,hi,f,ts,X,L,M,rfl,C,hc,hg,b9⟩;dsimp only;have a8:dU mx:=c0.tab hg (ht.sub J);refine aE (λF=>?_) (λa5=>?_)
 .obtain⟨q,z⟩:=eN hl F;obtain⟨b1,o1,u,P,r1,a0⟩:=(hq.mono (n.trans f)).at z;have a9:=H q (mem_of_getElem? z);have c':=aeX (Uu a9);refine⟨b1,o1,P,aC,F,u,.imm r1,u,q,R,b,X,ts,rfl,a0,a4 q (mem_of_getElem? z) a9,hc,a8,aC,λb4 k s' m' h' A ha b5 b6=>⟨aC,?_,eI 0,?_,by simp[eI],(i+1,R,((L++[k]).map fun(k:Nat)=>(k:Int))++replicate (c.length-(i+1)) 0,m',h'),⟨rfl,aC,f.trans A,b4,s',L++[k],by simp[M],rfl,?_,b5,hg.trans hc b6,?_⟩,by show c.length-(i+1)<c.length-i;omega,?_⟩⟩
  .simp[M];omega
  .rw[getElem?_map,Int.toNat_natCast,getElem?_append_right (by simp[M]),getElem?_replicate,if_pos (by simp[M];omega)];rfl
  .rw[take_add_one,z];exact Mf C ha
  .have:=BQ q ha;omega
  .have e2:(List.map eI ((L.map fun(k:Nat)=>(k:Int))++replicate (c.length-i) 0)).set (Int.toNat (i:Int)) (Value.int .i64 (k:Int)::([]++List.drop 1 (eI 0)))=List.map eI (((L++[k]).map fun(k:Nat)=>(k:Int))++replicate (c.length-(i+1)) 0):=by
    subst M;rw[<-aGJ aC,map_set,Int.toNat_natCast];rfl
   rw[<-e2];exact MT
 .rw[take_of_length_le aC]at C;refine⟨X,.of_m hc.at_ rfl,λr h' A hr=>?_⟩;have hz:c.length-i=0:=by omega
  rw[hz,replicate_zero,append_nil]at hr;obtain⟨vs,b',S⟩:=hc.row;intro b0
  have Y:Sub m mx:=λx o e=>hg.other x o (J x o e) (λd=>by
   have n1:x≠b:=λd=>by rw[d,hb.m_]at e;cases e
   have:=Z.m_;rw[<-d,G.other x n1,e]at this;cases this) (λd=>by rw[d,hb.m_]at e;cases e) (λi d=>by cases d)
  have D:Ints h' r (L.map fun(k:Nat)=>(k:Int)):=⟨hr,by simp;omega⟩
  rcases b'.ex with⟨P,e2⟩|⟨g,c1,a2,P,hm,b2,_,c2,a3⟩
  .refine⟨m,h',Y,n.trans (f.trans A),λb i v e=>.inl e,hK X r ts L h' (n.trans (f.trans A)) C ⟨⟨vs,?_,?_⟩,D,hc.nodup⟩⟩
   .rw[P,e2];exact cZ.nil _ _
   .exact⟨S.1,λi t e=>let⟨v,k1,k2⟩:=S.2 i t e;⟨v,k1,k2.mono A⟩⟩
  .have mg:m g=none:=by
    cases e:m g with
    |none=>rfl
    |some o=>
     rcases hg.fresh g 0 (by rw[P])with d|⟨_,d⟩
     .rw[J g o e]at d;cases d
     .cases d
   have b7:∀i,h' g i=none:=b0 g _ hm
   have E:PH.le h' (λx i=>if x=g then a2[i]? else h' x i):=⟨λx i v e=>by
    have:x≠g:=λd=>by rw[d,b7 i]at e;cases e
    simp[this,e]⟩
   refine⟨m,λx i=>if x=g then a2[i]? else h' x i,Y,(n.trans (f.trans A)).trans E,λx i v e=>?_,hK X r ts L _ ((n.trans (f.trans A)).trans E) C ⟨⟨vs,?_,?_⟩,D.mono E,hc.nodup⟩⟩
   .by_cases d:x=g
    .subst d;simp at e;exact .inr ⟨a2,111,(0,0),hm,e,mg⟩
    .simp[d]at e;exact .inl e
   .refine⟨by rw[P],.inr ⟨g,0,by rw[P],λi e hi=>⟨λj v W=>?_⟩⟩,by rw[P];exact b2⟩;have U:=kU (xs:=vs.map l7.enc) (sz:=22) (λe Q=>by obtain⟨x,_,rfl⟩:=mem_map.1 Q;rfl) hi j v W;rw[<-a3,getElem?_take]at U;split at U
    .simp only[if_true,Nat.zero_add];rw[<-Array.getElem?_toList];exact U
    .cases U
   .exact⟨S.1,λi t e=>let⟨v,k1,k2⟩:=S.2 i t e;⟨v,k1,k2.mono (A.trans E)⟩⟩
def biZ(q:Query):Prop:=
 match q with
 |.mk op _ _ _ _ _ _ _ args=>(args.length:Int)=arity op/\∀a∈args,biZ a
 termination_by SizeOf.sizeOf q
theorem a7Q{op:Int}{on:bx}{args:ce}:
 biZ (.mk op ta w co on gr od li args)↔(args.length:Int)=arity op/\∀a∈args,biZ a:=by rw[biZ.eq_def]
theorem JN(op:Int):arity op<=2:=by
 unfold arity
 repeat' split
 all_goals omega
theorem Qv{x:Step}(h:keyOf x=keyOf t):x.op=t.op/\x.left=t.left/\x.right=t.right:=by
 simp only[keyOf,KV.mk.injEq]at h;exact⟨h.1,h.2.2.2.1,h.2.2.2.2.1⟩
theorem BP{c:cn}(e:(ts.map keyOf).Nodup)(h:P6 t ts c k):(c.map keyOf).Nodup/\ts<+:c:=by
 rcases h with⟨_,_,_,rfl⟩|⟨d,rfl,_⟩
 .exact⟨e,prefix_refl _⟩
 .refine⟨?_,prefix_append _ _⟩;rw[map_append,nodup_append];refine⟨e,bg,λa g b f=>?_⟩;obtain⟨x,j,rfl⟩:=mem_map.1 g;simp at f;rw[f];exact d x j
theorem vH:∀(q:Query){ts c:cn}{k:Nat},(ts.map keyOf).Nodup->Db q ts c k->(c.map keyOf).Nodup/\ts<+:c
 |.mk op ta w co on gr od li args,ts,c,k,f,h=>by
  rw[Ax]at h;obtain⟨y,l,z,r,d,e,g⟩:=h
  match args,d,e with
  |[],d,e=>
   obtain⟨rfl,rfl⟩:=d;obtain⟨rfl,rfl⟩:=e;exact BP f g
  |[a],d,e=>
   obtain⟨rfl,rfl⟩:=e;obtain⟨j,n⟩:=vH a f d;obtain⟨o,u⟩:=BP j g;exact⟨o,n.trans u⟩
  |a::b::rest,d,e=>
   obtain⟨j,n⟩:=vH a f d;obtain⟨o,u⟩:=vH b j e;obtain⟨A,B⟩:=BP o g;exact⟨A,(n.trans u).trans B⟩
theorem Ht{α:Type}{l c:List α}(h:l<+:c){x:α}(hx:l[i]? =some x):c[i]? =some x:=by
 obtain⟨r,rfl⟩:=h;rw[getElem?_append_left (List.getElem?_eq_some_iff.1 hx).1];exact hx
theorem ahX(f:(ts.map keyOf).Nodup){j:Nat}{x y:Step}(hx:ts[i]? =some x)(g:ts[j]? =some y)(e:keyOf x=keyOf y):i=j:=by
 have c:=(List.getElem?_eq_some_iff.1 hx)
 have d:=(List.getElem?_eq_some_iff.1 g)
 obtain⟨c,n⟩:=c;obtain⟨d,o⟩:=d;have u:(ts.map keyOf)[i]'(bj c)=(ts.map keyOf)[j]'(bj d):=by simp[n,o,e]
 exact(getElem_inj f).1 u
theorem again:∀(q:Query){ts c o B:cn}{k C:Nat},(ts.map keyOf).Nodup->Db q ts c k->c<+:o->(o.map keyOf).Nodup->Db q o B C->B=o/\C=k
 |.mk op ta w co on gr od li args,ts,c,o,B,k,C,D,h,I,d,g=>by
  rw[Ax]at h g;obtain⟨P,l,f,r,j,n,u⟩:=h;obtain⟨Q,W,R,X,z,A,E⟩:=g
  have key:∀(f:cn)(l r:Nat),(f.map keyOf).Nodup->P6 ⟨op,ta,w,co,on,gr,od,li,(l:Nat),(r:Nat)⟩ f c k->P6 ⟨op,ta,w,co,on,gr,od,li,(l:Nat),(r:Nat)⟩ o B C->B=o/\C=k:=by
   intro f l r S u E
   have F:∃x,c[k]? =some x/\keyOf x=keyOf ⟨op,ta,w,co,on,gr,od,li,(l:Nat),(r:Nat)⟩:=by
    rcases u with⟨x,F,e,rfl⟩|⟨_,rfl,rfl⟩
    .exact⟨x,F,e⟩
    .exact⟨_,bg,rfl⟩
   obtain⟨x,F,e⟩:=F;have G:=Ht I F;rcases E with⟨y,T,U,rfl⟩|⟨J,_,_⟩
   .exact⟨rfl,ahX d T G (U.trans e.symm)⟩
   .exact(J x (mem_of_getElem? G) e).elim
  match args,j,n,z,A with
  |[],j,n,z,A=>
   obtain⟨rfl,rfl⟩:=j;obtain⟨rfl,rfl⟩:=n;obtain⟨rfl,rfl⟩:=z;obtain⟨rfl,rfl⟩:=A;exact key _ _ _ D u E
  |[a],j,n,z,A=>
   obtain⟨rfl,rfl⟩:=n;obtain⟨rfl,rfl⟩:=A;obtain⟨H,V⟩:=vH a D j;obtain⟨L,M⟩:=BP H u;obtain⟨rfl,rfl⟩:=again a D j (M.trans I) d z;exact key _ _ _ H u E
  |a::b::rest,j,n,z,A=>
   obtain⟨H,V⟩:=vH a D j;obtain⟨L,M⟩:=vH b H n;obtain⟨Y,O⟩:=BP L u;obtain⟨rfl,rfl⟩:=again a D j ((M.trans O).trans I) d z;obtain⟨rfl,rfl⟩:=again b H n (O.trans I) d A;exact key _ _ _ L u E
end Go.Ps
