/-
  Part 9 of a proof that a law of the given program returns true: a condition generator that is proved sound, and contracts of functions. No condition of its own. Own work, joined by a program (pack2.py).
-/
import Derived.Test.YtmecdlibgejboaaGreatDoorPh
set_option linter.unusedVariables false
set_option linter.unusedSimpArgs false
namespace Go.Ps
open Go Go.Vc Go.Proofs List Tryz
variable{K:bo}{m:MH}{h:PH}{s:mI}{ps:br}{ts:cn}{cb:Nat}{sc:bY}{v:QV}{q:Query}{t:Step}{p:Pred}{l:br}{i:Nat}{N:Nat}{m':MH}{h':PH}{co:br}{gr:br}{od:bz}{w:Pred}{ta:Int}{li:Int}{xs:List bm}{sz:Nat}{k:Nat}{ks:List br}{rs:br}{r:Sl}{a:br}{b:Nat}
theorem Kh:∀(n:Nat){l:ck},l.Nodup->(∀x∈l,x<n)->l.length<=n
 |0,l,_,h=>by
  cases l with
  |nil=>simp
  |cons x l=>have:=h x bg;omega
 |n+1,l,d,h=>by
  by_cases f:n∈l
  .have j:=length_erase_of_mem f
   have o:=Kh n (d.erase n) (λx c=>by
    have g:=(d.mem_erase_iff).1 c;have:=h x g.2;have:=g.1;omega)
   have:=length_pos_of_mem f;omega
  .have:=Kh n d (λx c=>by
    have j:=h x c;have:x≠n:=λe=>f (by rw[<-e];exact c);omega)
   omega
theorem U1{α:Type}{T:List α->α->Prop}{l:List α}{f:α->Int}{n:Nat}(h:Good T l)(d:∀c x,T c x->0<=f x/\f x<n)(u:∀c x,T c x->∀y∈c,f y≠f x):l.length<=n:=by
 have z:(l.map λx=>(f x).toNat).Nodup:=by
  rw[nodup_iff_pairwise_ne,pairwise_iff_getElem];intro i j e g A;simp only[length_map]at e g;simp only[getElem_map];have B:=h i l[i] (getElem?_eq_getElem e);have o:=h j l[j] (getElem?_eq_getElem g);have:=u _ _ o l[i] (mem_take_iff_getElem.2 ⟨i,aC,rfl⟩);have:=d _ _ B;have:=d _ _ o;omega
 have:=Kh n z (λx C=>by
  obtain⟨y,D,rfl⟩:=mem_map.1 C;obtain⟨i,e⟩:=mem_iff_getElem?.1 D;have:=d _ _ (h i y e);omega)
 simpa using this
mutual
def a8J:Pred->Prop
 |.mk _ _ l r args=>l.value.text.size<=64/\r.value.text.size<=64/\TI args
def TI:cm->Prop
 |[]=>True
 |p::ps=>a8J p/\TI ps
end
theorem UE(o:OV)(h:o.value.text.size<=64):(EZ o).length<=200:=by
 have e:=kN [o.kind,o.index];have f:=kN [o.value.kind];have g:=kN [(o.value.text.size:Int)];have c:=kN [o.value.int];have d:kO [o.value.int]=kJ o.value.int++[32]:=by unfold kO;rw[flatMap_cons,flatMap_nil,append_nil]
 rw[d]at c;have j:o.value.text.data.toList.length=o.value.text.size:=by rw[Array.length_toList];rfl
 simp only[EZ,xK,length_append,length_cons,length_nil]at*
 omega
mutual
theorem Kb:∀p:Pred,a8J p->((oK p).length:Int)<=1000*Mj p
 |.mk op c l r args,h=>by
  obtain⟨d,e,f⟩:=h;have g:=UE l d;have j:=UE r e;have n:=NR args f;have o:=kN [op,c];have u:=kN [(args.length:Int)];simp only[oK,Mj,length_append,length_cons,length_nil]at*
  omega
theorem NR:∀ps:cm,TI ps->((mK ps).length:Int)<=1000*BX ps
 |[],_=>by simp[mK,BX]
 |p::ps,h=>by
  have:=Kb p h.1;have:=NR ps h.2;simp only[mK,BX,length_append];omega
end
theorem V0{v:VV}(h:ZR v zeroV=true):v.text.size<=64:=by
 simp only[ZR,Bool.and_eq_true,beq_iff_eq]at h;exact T6 h.2.2.1
theorem Jw{o:OV}(h:Wz o dR=true):o.value.text.size<=64:=by
 simp only[Wz,Bool.and_eq_true,beq_iff_eq]at h;exact V0 h.2.2.1
theorem Mb{o:OV}(h:pB l o≠0):o.value.text.size<=64:=by
 unfold pB at h;split at h
 .exact(h rfl).elim
 .rename_i c;simp only[Bool.or_eq_true,not_or,Bool.not_eq_true',Bool.not_eq_false]at c;exact V0 c.2
theorem LS{cols params:br}{o:OV}(h:kindOf cols params o≠0):o.value.text.size<=64:=by
 unfold kindOf at h;split at h
 .split at h
  .exact(h rfl).elim
  .rename_i c;simp only[Bool.or_eq_true,not_or,Bool.not_eq_true',Bool.not_eq_false,l9,Bool.and_eq_true]at c;exact Lr c.2.1
 .split at h
  .exact Mb h
  .split at h
   .exact Mb h
   .exact(h rfl).elim
mutual
theorem Lt{cols params:br}:∀p:Pred,iK cols params p=true->a8J p
 |.mk op c l r args,h=>by
  unfold iK at h;split at h
  .simp only[Bool.and_eq_true,DD,beq_iff_eq]at h;have:args=[]:=eq_nil_of_length_eq_zero h.2;subst this;exact⟨Jw h.1.1.2,Jw h.1.2,trivial⟩
  .split at h
   .simp only[Bool.and_eq_true,beq_iff_eq,bne_iff_ne,ne_eq,decide_eq_true_eq]at h;have:args=[]:=eq_nil_of_length_eq_zero h.1.1.1.1;subst this;exact⟨LS h.1.2,LS (cols:=cols) (params:=params) (by rw[<-h.2];exact h.1.2),trivial⟩
   .split at h
    .simp only[Bool.and_eq_true,DD]at h;exact⟨Jw h.1.1.2,Jw h.1.2,HX args h.2⟩
    .cases h
theorem HX{cols params:br}:∀ps:cm,vT cols params ps=true->TI ps
 |[],_=>trivial
 |p::ps,h=>by
  simp only[vT,Bool.and_eq_true]at h;exact⟨Lt p h.1,HX ps h.2⟩
end
theorem aIZ{cols params:br}(h:fI cols params p=0):(oK p).length<=1000000000:=by
 unfold fI at h;split at h
 .cases h
 .split at h
  .cases h
  .rename_i c;split at h
   .cases h
   .rename_i d;have e:iK cols params p=true:=bj d
    have g:=Kb p (Lt p e);simp only[Bool.or_eq_true,not_or,decide_eq_true_eq]at c;have f:=F3 p 0 aC
    have:Mj p<=24:=by
     by_cases j:(0:Int)+Mj p<=24
     .omega
     .have:=f.2 aC;omega
    omega
theorem aEX:(oK gS).length<=1000000000:=by
 have:=Kb gS ⟨bh,bh,trivial⟩;have e:Mj gS=1:=rfl;omega
theorem Ex{s:mI}{ps:br}:∀(c:ce),∀k∈(eM s ps c).1,k.length<=12
 |[],k,h=>by simp[eM]at h
 |q::c,k,h=>by
  simp only[eM]at h;split at h
  .split at h
   .simp only[mem_cons]at h;rcases h with rfl|h
    .exact yL s ps q
    .exact Ex c k h
   .simp at h
  .simp at h
theorem U3(h:∀k∈ks,k.length<=12)(j:Nat):(ks.getD j []).length<=12:=by
 rw[getD_eq_getElem?_getD];cases e:ks[j]? with
 |none=>simp
 |some k=>exact h k (mem_of_getElem? e)
theorem He{s:mI}{ps:br}:∀{c:ce}{ks:List br},eM s ps c=(ks,0)->ks.length=c.length/\∀q∈c,(bH s ps q).2=0
 |[],ks,h=>by simp[eM]at h;subst h;simp
 |q::c,ks,h=>by
  simp only[eM]at h;split at h
  .rename_i d;split at h
   .rename_i f;have e:eM s ps c=((eM s ps c).1,0):=Prod.ext rfl f;obtain⟨j,n⟩:=He e;simp only[Prod.mk.injEq]at h;rw[<-h.1];refine⟨by simp[j],λx g=>?_⟩;rcases mem_cons.1 g with rfl|g
    .exact d
    .exact n x g
   .rename_i f;simp at h;exact(f h.2).elim
  .rename_i d;simp at h;exact(d h.2).elim
theorem xE{op:Int}{on:bx}{args:ce}(h:(bH s ps (.mk op ta w co on gr od li args)).2=0):
 (∀a∈args,(bH s ps a).2=0)/\(args.length:Int)=arity op/\∃a b,a.length<=12/\b.length<=12/\(fH s ps (.mk op ta w co on gr od li args) a b).2=0:=by
 simp only[bH]at h;split at h
 .rename_i c;have e:eM s ps args=((eM s ps args).1,0):=Prod.ext rfl c;obtain⟨d,f⟩:=He e;split at h
  .rename_i g;refine⟨f,by rw[<-d];exact g,_,_,?_,?_,h⟩
   .exact U3 (Ex args) 0
   .exact U3 (Ex args) 1
  .simp[eY]at h
 .rename_i c;simp[eY]at h;exact(c h).elim
theorem aKX{op:Int}{on:bx}{args:ce}{b:br}(I:a.length<=12)(h:(fH s ps (.mk op ta w co on gr od li args) a b).2=0):
 PA ⟨op,ta,w,co,on,gr,od,li,0,0⟩:=by
 unfold fH at h;dsimp only at h;split at h
 .simp[eY]at h
 .rename_i u;rw[not_or]at u;have A:dM (.mk op ta w co on gr od li args):=Classical.not_not.1 u.2;obtain⟨_,B,C,D,E⟩:=A
  have j:∀l:br,(mG l).2=0->l.length<=12:=λl e=>by
   unfold mG at e;split at e
   .assumption
   .cases e
  have F:(oK w).length<=1000000000:=by
   rcases B with rfl|rfl
   .simp only[show¬((2:Int)=1)by decide,if_false,if_true]at h;split at h
    .rename_i e;exact aIZ e
    .rename_i e;simp[eY]at h;exact(e h).elim
   .exact aEX
  have G:co.length<=1000000000:=by
   rcases C with rfl|rfl
   .simp only[show¬((3:Int)=1)by decide,show¬((3:Int)=2)by decide,if_false,if_true]at h;split at h
    .have:=j _ h;simp at this;omega
    .simp[eY]at h
   .simp
  have H:on.length<=1000000000:=by
   have c:Good (tM a b) on->on.length<=1000000000:=λg=>by
    have:=U1 (f:=λp=>p.1) (n:=a.length) g (λd x t=>by have:=t.1;rw[eX]at this;exact this) (λd x t y o=>(t.2.2.2 y o).1);omega
   rcases D with rfl|rfl|rfl
   .simp only[show¬((4:Int)=1)by decide,show¬((4:Int)=2)by decide,show¬((4:Int)=3)by decide,if_false,if_true]at h;split at h
    .rename_i e;exact c e
    .simp[eY]at h
   .simp only[show¬((5:Int)=1)by decide,show¬((5:Int)=2)by decide,show¬((5:Int)=3)by decide,show¬((5:Int)=4)by decide,if_false,if_true]at h;split at h
    .rename_i e;exact c e
    .simp[eY]at h
   .simp
  have z:gr.length<=1000000000/\od.length<=1000000000:=by
   have c:qI a gr od li->gr.length<=1000000000/\od.length<=1000000000:=λr=>by
    have:=U1 (f:=λp=>p) (n:=a.length) r.group_ (λd x t=>by have:=t.1;rw[eX]at this;exact this) (λd x t y o e=>t.2 (by rw[<-e];exact o));have:=r.len_;omega
   rcases E with rfl|rfl|⟨rfl,rfl,_⟩
   .simp only[show¬((9:Int)=1)by decide,show¬((9:Int)=2)by decide,show¬((9:Int)=3)by decide,show¬((9:Int)=4)by decide,show¬((9:Int)=5)by decide,if_false,if_true]at h;split at h
    .rename_i e;exact c e
    .simp[eY]at h
   .simp only[show¬((10:Int)=1)by decide,show¬((10:Int)=2)by decide,show¬((10:Int)=3)by decide,show¬((10:Int)=4)by decide,show¬((10:Int)=5)by decide,show¬((10:Int)=9)by decide,if_false,if_true]at h;split at h
    .rename_i e;exact c e.2
    .simp[eY]at h
   .simp
  exact⟨F,G,H,z.1,z.2⟩
theorem Kt{s:mI}{ps:br}:∀q:Query,(bH s ps q).2=0->vI q/\biZ q
 |.mk op ta w co on gr od li args,h=>by
  obtain⟨d,e,a,b,f,_,g⟩:=xE h;rw[Uv,a7Q];exact⟨⟨aKX f g,λq c=>(Kt q (d q c)).1⟩,e,λq c=>(Kt q (d q c)).2⟩
theorem Qk(h:(fE s ps q).2=0):vI q:=(Kt q (B9 h).2.2.2).1
theorem Om{n:Int}(h:vP n){b:UInt8}(c:b∈kJ n):b≠32:=by
 intro e;subst e;by_cases f:0<=n
 .rw[Bp h f]at c;have:=JD _ _ c;simp at this
 .rw[Bq h aC]at c;rcases mem_cons.1 c with d|d
  .cases d
  .have:=JD _ _ d;simp at this
theorem qO(n:Int)(l:br):kO (n::l)=kJ n++32::kO l:=by unfold kO;rw[flatMap_cons,append_assoc];rfl
theorem lY{m n:Int}{r r':ci}(d:vP m)(e:vP n)(h:kJ m++32::r=kJ n++32::r'):m=n/\r=r':=by
 obtain⟨f,g⟩:=Ny (λc=>Om d c rfl) (λc=>Om e c rfl) h;exact⟨QB d e f,g⟩
theorem GI(n:Int)(r:ci):kJ n++32::r≠[]:=bg
theorem N0:∀{l c:br},(∀n∈l,vP n)->(∀n∈c,vP n)->kO l=kO c->l=c
 |[],[],_,_,_=>rfl
 |[],n::c,_,_,h=>by rw[qO]at h;exact(GI _ _ h.symm).elim
 |n::l,[],_,_,h=>by rw[qO]at h;exact(GI _ _ h).elim
 |n::l,g::c,e,f,h=>by
  rw[qO,qO]at h;obtain⟨j,o⟩:=lY (e n bg) (f g bg) h;rw[j,N0 (λx d=>e x (by simp[d])) (λx d=>f x (by simp[d])) o]
theorem Cc(p:Int×Int)(l:bx):nL (p::l)=kJ p.1++32::(kJ p.2++32::nL l):=by
 show kO [p.1,p.2]++nL l=_;rw[qO,qO,append_assoc,cons_append,append_assoc];rfl
theorem B6(p:Int×Bool)(l:bz):qT (p::l)=kJ p.1++32::(kJ (if p.2 then 1 else 0)++32::qT l):=by
 show kO [p.1,if p.2 then 1 else 0]++qT l=_;rw[qO,qO,append_assoc,cons_append,append_assoc];rfl
theorem NY:∀{l c:bx},(∀p∈l,vP p.1/\vP p.2)->(∀p∈c,vP p.1/\vP p.2)->nL l=nL c->l=c
 |[],[],_,_,_=>rfl
 |[],p::c,_,_,h=>by rw[Cc]at h;exact(GI _ _ h.symm).elim
 |p::l,[],_,_,h=>by rw[Cc]at h;exact(GI _ _ h).elim
 |p::l,g::c,d,e,h=>by
  rw[Cc,Cc]at h;obtain⟨j,n⟩:=lY (d p bg).1 (e g bg).1 h;obtain⟨o,u⟩:=lY (d p bg).2 (e g bg).2 n;rw[Prod.ext j o,NY (λx f=>d x (by simp[f])) (λx f=>e x (by simp[f])) u]
theorem NA:∀{l c:bz},(∀p∈l,vP p.1)->(∀p∈c,vP p.1)->qT l=qT c->l=c
 |[],[],_,_,_=>rfl
 |[],p::c,_,_,h=>by rw[B6]at h;exact(GI _ _ h.symm).elim
 |p::l,[],_,_,h=>by rw[B6]at h;exact(GI _ _ h).elim
 |p::l,d::c,f,g,h=>by
  have j:∀b:Bool,vP (if b=true then(1:Int)else 0):=λb=>by cases b<;>exact⟨bh,bh⟩
  rw[B6,B6]at h;obtain⟨n,o⟩:=lY (f p bg) (g d bg) h;obtain⟨z,u⟩:=lY (j p.2) (j d.2) o;have y:p.2=d.2:=by cases A:p.2<;>cases B:d.2<;>simp_all
  rw[Prod.ext n y,NA (λx e=>f x (by simp[e])) (λx e=>g x (by simp[e])) u]
structure Wq(o:OV):Prop where
 kind_:vP o.kind
 index_:vP o.index
 vkind_:vP o.value.kind
 int_:vP o.value.int
 text_:o.value.text.size<=64
mutual
def JQ:Pred->Prop
 |.mk op c l r args=>vP op/\vP c/\Wq l/\Wq r/\args.length<=1000000/\Pu args
def Pu:cm->Prop
 |[]=>True
 |p::ps=>JQ p/\Pu ps
end
theorem Nc{n:Nat}(h:n<=1000000):vP (n:Int):=⟨aC,aC⟩
theorem Hu{o o':OV}{r r':ci}(d:Wq o)(e:Wq o')(h:EZ o++r=EZ o'++r'):o=o'/\r=r':=by
 have A:kO []=[]:=rfl;simp only[EZ,xK,qO,A,append_assoc,cons_append,nil_append]at h;obtain⟨j,h⟩:=lY d.kind_ e.kind_ h;obtain⟨n,h⟩:=lY d.index_ e.index_ h;obtain⟨u,h⟩:=lY d.vkind_ e.vkind_ h;obtain⟨y,h⟩:=lY d.int_ e.int_ h;obtain⟨z,h⟩:=lY (Nc (by have:=d.text_;omega)) (Nc (by have:=e.text_;omega)) h;have z:o.value.text.size=o'.value.text.size:=by omega
 obtain⟨f,B⟩:=append_inj h (by rw[Array.length_toList,Array.length_toList];exact z);refine⟨?_,B⟩;obtain⟨k,i,⟨E,F,g⟩⟩:=o;obtain⟨G,H,⟨C,D,c⟩⟩:=o';obtain⟨g⟩:=g;obtain⟨c⟩:=c;simp only at j n u y f;have f:g=c:=Array.toList_inj.1 f;subst j n u y f;rfl
mutual
theorem LJ:∀{p c:Pred}{r r':ci},JQ p->JQ c->oK p++r=oK c++r'->p=c/\r=r'
 |.mk op f l S args,.mk g e T j d,r,r',n,o,h=>by
  obtain⟨u,y,z,A,B,C⟩:=n;obtain⟨D,E,F,G,H,I⟩:=o;have J:kO []=[]:=rfl;simp only[oK,qO,J,append_assoc,cons_append,nil_append]at h;obtain⟨L,h⟩:=lY u D h;obtain⟨M,h⟩:=lY y E h;obtain⟨O,h⟩:=Hu z F h;obtain⟨P,h⟩:=Hu A G h;obtain⟨U,h⟩:=lY (Nc B) (Nc H) h;obtain⟨Q,R⟩:=Ii C I aC h;subst L M O P Q;exact⟨rfl,R⟩
theorem Ii:∀{ps c:cm}{r r':ci},Pu ps->Pu c->ps.length=c.length->mK ps++r=mK c++r'->ps=c/\r=r'
 |[],[],r,r',_,_,_,h=>⟨rfl,by simpa[mK]using h⟩
 |[],_::_,_,_,_,_,d,_=>by simp at d
 |_::_,[],_,_,_,_,d,_=>by simp at d
 |p::ps,o::c,r,r',e,f,d,h=>by
  simp only[mK,append_assoc]at h;obtain⟨g,h⟩:=LJ e.1 f.1 h;obtain⟨j,n⟩:=Ii e.2 f.2 (bj d) h;subst g j;exact⟨rfl,n⟩
end
structure ZZ(t:Step):Prop where
 wher:JQ t.wher
 cols:∀n∈t.columns,vP n
 on_:∀p∈t.on,vP p.1/\vP p.2
 group_:∀n∈t.group,vP n
 order_:∀p∈t.order,vP p.1
theorem key_inj{x:Step}(hx:ZZ x)(d:ZZ t)(h:keyOf x=keyOf t):x=t:=by
 obtain⟨op,ta,w,co,on,gr,od,li,le,S⟩:=x;obtain⟨y,z,T,A,B,C,D,E,F,G⟩:=t;simp only[keyOf,KV.mk.injEq,ByteArray.mk.injEq]at h;obtain⟨H,I,J,L,M,O,P,Q,R,g⟩:=h;have c:∀{a b:ci},a.toArray=b.toArray->a=b:=λe=>bj e
 have j:=(LJ (r:=[]) (r':=[]) hx.wher d.wher (bj (c O))).1;have n:=N0 hx.cols d.cols (c P);have o:=NY hx.on_ d.on_ (c Q);have u:=N0 hx.group_ d.group_ (c R);have f:=NA hx.order_ d.order_ (c g);simp only at j n o u f;subst H I J L M j n o u f;rfl
def bIQ:Vc.Spec:=λd m h K=>∃(s:Sl)(g:Nat)(c:bm)(l:bt)(p:bu->Bool),d=[cS s,.val (.func (.func g) #[] ⟨c⟩)]/\Rows h s l/\l.length<=1000000/\(∀(u:Sl)(r:bu),r∈l->bP h u r->FAt Tryz.prog g 4 (cS u::c.map .val) m h (λx m' h'=>x=[.bool (p r)]/\m'=m/\h'=h))/\
 ∀e h',PH.le h h'->Rows h' e (l.filter p)->K (cS e) m h'
def bIJ:Vc.Spec:=λc m h K=>∃s u l r,c=[cS s,cS u,.val (.func (.func 118) #[] #[])]/\Rows h s l/\nJ l/\bP h u r/\l.length<=1000000/\K (.tup [cI ((l.countP λy=>decide (eC y r<0):Nat):Int),cB (LW l r)]) m h
def bhQ:Vc.Spec:=λc m h K=>∃s u l r,c=[cS s,cS u]/\Rows h s l/\nJ l/\bP h u r/\l.length<=1000000/\K (cB (LW l r)) m h
def Su:Vc.Spec:=λc m h K=>∃s l,c=[cS s]/\Rows h s l/\l.length<=1000000/\(∀r∈l,r.length<=1000)/\∀d h',PH.le h h'->Rows h' d l->K (cS d) m h'
def nW(r:bu):ByteArray:=⟨(r.flatMap xK).toArray⟩
def Sr:Vc.Spec:=λd m h K=>∃s t r c,d=[cS s,cS t]/\bP h s r/\Ints h t c/\Mq r/\hZ r.length c/\dU m/\K (P3 (nW (pick r c))) m h
def acQ:Vc.Spec:=λc m h K=>∃n:Nat,c=[.val (.slice none 0 0),cI n]/\n<=4000000/\K (.lst 100 1 []) m h
def Sv:Vc.Spec:=λc m h K=>∃f d e,c=[cS f]/\Leaves h f [d,e]/\d.length<=1000000/\e.length<=1000000/\∀g h',PH.le h h'->Rows h' g (d++e)->K (cS g) m h'
noncomputable def a1Q(s:Sl)(g:Nat)(c:bm)(m:MH)(h:PH):Ctx:=
 pF [] [(3,{A:=Nat×ca,st:=λ⟨i,d⟩=>bO 23 25 [(1,vv (.func (.func g) #[] ⟨c⟩)),(5,.at (.lst 20)),(8,sv s),(9,iv s.len),(10,iv i)] [(20,.lst 100 1 (d.map eS))] m h})] [] [] [510004] [] false
noncomputable def aUZ(s u:Sl)(m:MH)(h:PH):Ctx:=
 dG [(118,JU)] [(3,{A:=Nat×Nat,st:=λ⟨i,j⟩=>bO 49 52 [(0,sv s),(1,sv u),(2,vv (.func (.func 118) #[] #[])),(8,iv s.len),(9,iv i),(10,iv j)] [] m h})] [] [] false
noncomputable def brX(s:Sl)(m:MH):Ctx:=
 dG [(62,TS)] [(3,{A:=Nat×ca×PH,st:=λ⟨i,c,h⟩=>bO 23 24 [(3,.at (.lst 8)),(9,sv s),(10,iv s.len),(11,iv i)] [(8,.lst 100 1 (c.map eS))] m h})] [] [] false
noncomputable def a0Q(s t:Sl)(m:MH)(h:PH):Ctx:=
 pF [(174,biJ)] [(3,{A:=Nat×ci,st:=λ⟨i,l⟩=>bO 23 25 [(0,sv s),(5,.at (.lst 19)),(8,sv t),(9,iv t.len),(10,iv i)] [(19,.lst 5 1 (aU l))] m h})] [] [] [] [(174,[0])] false
noncomputable def aZJ(c:Sl)(m:MH)(h:PH):Ctx:=
 dG [(175,acQ)] [(3,{A:=Nat×Nat,st:=λ⟨i,n⟩=>bO 36 37 [(0,sv c),(3,iv n),(9,sv c),(10,iv c.len),(11,iv i)] [] m h}),
  (11,{A:=Nat×ca,st:=λ⟨i,l⟩=>bO 36 37 [(6,.at (.lst 24)),(25,sv c),(26,iv c.len),(27,iv i)] [(24,.lst 100 1 (l.map eS))] m h})] [] [] false
noncomputable abbrev qB(a:Nat×ca):List bm:=kS a.2
abbrev Eo(a b:Nat)(c:Sl)(d:bm)(e:MH)(g:PH)(i:bm->MH->PH->Prop):Prop:=FAt Proofs.Tryz.prog a b (cN c (List.map CV.val d)) e g (fun(x:bm)=>i x)
attribute [push_cast] qB Eo
def RP(s:Sl)(g:Nat)(c:bm)(m:MH)(h:PH)(K:bo):Prop:=
  ∃(I:Nat×ca->Prop)(n:Nat×ca->Nat),(∃(x:Nat×ca),aA (I x) (eQ (Fk (Fn.func g) (Array.mk c))) (aA (eL 20) (aH s) (aA (bG s) (bC x.1) (aA (Cy (qB x)) (m=m) (bX h h)))))/\∀(x:Nat×ca),I x->aZ (↑x.1:Int) (aG s) (aK (λb o=>aA (aL s.a b o) (0<=(↑x.1:Int)) ((↑x.1:Int)<aG s/\∃(y:Sl),aJ m h b (bK o x.1 1) (aM y)/\∃(R:Bool->MH->PH->Prop),Eo g 4 y c m h (λl=>fun(e:MH)=>fun(f:PH)=>∃(j:Bool),l=qV j/\R j e f)/\∀(j:Bool),jQ (λe f=>fA (R j e f) j (aA (iL (qB x)) (dO (qB x)) (∃(d:Nat×ca),aA (I d) (n d<n x) (aA (eQ (Fk (Fn.func g) (Array.mk c))) (eL 20) (aA (aH s) (bG s) (aA (bD (fP (bE x.1 1)) d.1) (lJ (iN (qB x) y)
 (qB d)) (dW e m f h)))))) (∃(d:Nat×ca),aA (I d) (n d<n x) (aA (eQ (Fk (Fn.func g) (Array.mk c))) (eL 20) (aA (aH s) (bG s) (aA (bD (fP (bE x.1 1)) d.1) (lJ (qB x) (qB d)) (dW e m f h))))))))) (uM h (qB x) K m)
noncomputable abbrev F7(a:Nat×Nat):Int:=eT (Int.fdiv (Oa (bE a.1 (↑a.2:Int))) 2)
attribute [push_cast] F7
def Ri(s u:Sl)(m:MH)(h:PH)(K:bo):Prop:=
  IW (λI x=>aA (I x) (aH s) (aA (aH u) (zY 118) (aA (bG s) (bC x.1) (aA (bD (fP (↑s.len:Int)) x.2) (m=m) (bX h h))))) (λI f x=>I x->aZ (↑x.1:Int) (↑x.2:Int) (aK (λb o=>aA (aL s.a b o) (0<=F7 x) (F7 x<aG s/\∃(y:Sl),aJ m h b (fX o (F7 x) 1) (aM y)/\∃(d:Sl),oA (λt a=>∃(e:bu),aA (cA y u=cA d t) (bP h d a) (bP h t e/\aZ (eC a e) 0 (∃(c:Nat×Nat),aA (I c) (f c<f x) (aA (aH s) (aH u) (aA (zY 118) (bG s) (aA (bD (SV.at (At.val (fD (eT (F7 x+1))))) c.1) (cG x.2 c.2) (dW m m h h))))) (∃(c:Nat×Nat),aA (I c) (f c<f x) (aA (aH s) (aH u) (aA (zY 118) (bG s) (aA (cG x.1 c.1) (bD (SV.at (At.val (fD (F7 x)))) c.2) (dW m m h
 h)))))))))) (aZ (↑x.1:Int) (aG s) (aK (λb o=>aA (aL s.a b o) (0<=(↑x.1:Int)) ((↑x.1:Int)<aG s/\rI m h b (bK o x.1 1) (λy d=>oA (λt a=>∃(e:bu),aA (cA y u=cA d t) (bP h d a) (bP h t e/\K (CV.tup (gJ (fQ (↑x.1:Int)) (Ah (eC a e==0)))) m h)))))) (K (CV.tup (gJ (fQ (↑x.1:Int)) aX)) m h)))
def ayJ(s u:Sl)(m:MH)(h:PH)(K:bo):Prop:=
  Kl (λc d l=>∃(r:bu),aA (cN s (eJ u (wO 118))=cN c (eJ d (wO 118))) (Rows h c l) (aA (nJ l) (bP h d r) (l.length<=1000000/\K (Ah (LW l r)) m h)))
def Vh(s:Sl)(m:MH)(h:PH)(K:bo):Prop:=
  Be s 24 (MR (λI x=>aA (I x) (eL 8) (aA (aH s) (bG s) (aA (bC x.1) (wT 100 s gA (mP x)) (aA (m=m) (h=kH x) True)))) (λI d x=>I x->aZ (↑x.1:Int) (aG s) (aK (λb o=>aA (aL s.a b o) (0<=(↑x.1:Int)) ((↑x.1:Int)<aG s/\∃(y:Sl),aJ m (kH x) b (bK o x.1 1) (aM y)/\IJ y (kH x) (λf g=>oO (↑x.1:Int) (mP x) (λe=>aA (jC (mP x) (lK x.1) e) (yG 0 e) (∃(c:Nat×ca×PH),aA (I c) (d c<d x) (aA (eL 8) (aH s) (aA (bG s) (bD (fP (bE x.1 1)) c.1) (aA (Option.some (Own.lst 100 1 (List.set (mP x) (lK x.1) (xS (dT f) 1 e)))=Option.some (Own.lst 100 1 (mP c))) (m=m) (bX g (kH c))))))))))) (uM (kH x) (mP x) K m)))
def RN(s t:Sl)(m:MH)(h:PH)(K:bo):Prop:=
  MS (λI x=>aA (I x) (aH s) (aA (eL 19) (aH t) (aA (bG t) (bC x.1) (aA (rB 5 1 (sY x)) (m=m) (bX h h))))) (λI e x=>I x->aZ (↑x.1:Int) (aG t) (aK (λb o=>aA (aL t.a b o) (0<=(↑x.1:Int)) ((↑x.1:Int)<aG t/\∃(y:Int),aJ m h b (bK o x.1 1) (bL y)/\aK (λf g=>aA (aL s.a f g) (0<=y) (y<aG s/\∃(j:VV),aJ m h f (fX g y 3) j.enc/\∃(d:List bm)(v:VV),aA (mY (sY x) j.enc=mY d v.enc) (dU m) (lN (jA d v.text.size+500)/\∃(c:Nat×ci),aA (I c) (e c<e x) (aA (aH s) (eL 19) (aA (aH t) (bG t) (aA (bD (fP (bE x.1 1)) c.1) (rH (kI d (xK v)) (sY c)) (dW m m h h)))))))))) (Gg (sY x) (λb=>K (yF b) m h)))
def Rj(n:Nat)(m:MH)(h:PH)(K:bo):Prop:=
  dZ (eT ((↑n:Int)-eT ((0:Int)-0))) 0 (aA (cF 0) (cF 0) (aA (0<eT ((↑n:Int)-0)) (Hy (eT ((↑n:Int)-0)*24)) (aA (Hy (eT ((↑n:Int)-0))) ((0:Int)<=0) (cF (MU n gA)/\K (CV.lst 100 1 []) m h)))) (K (CV.lst 100 1 []) m h)
def RM(d:Sl)(m:MH)(h:PH)(K:bo):Prop:=
  IW (λI x=>aA (I x) (aH d) (aA (bC x.2) (aH d) (aA (bG d) (bC x.1) (aA (m=m) (h=h) True)))) (λI g x=>I x->aZ (↑x.1:Int) (aG d) (aK (λb o=>aA (aL d.a b o) (0<=(↑x.1:Int)) ((↑x.1:Int)<aG d/\∃(y:Sl),aJ m h b (bK o x.1 1) (aM y)/\aZ (bE x.2 (aG y)) 0 False (∃(c:Nat×Nat),aA (I c) (g c<g x) (aA (aH d) (bD (fP (bE x.2 (aG y))) c.2) (aA (aH d) (bG d) (aA (bD (fP (bE x.1 1)) c.1) (m=m) (bX h h)))))))) (∃(n:Nat),aA (Ej x.2=Ej n) (n<=4000000) (∃(I1:Nat×ca->Prop)(j:Nat×ca->Nat),(∃(c:Nat×ca),aA (I1 c) (eL 24) (aA (aH d) (bG d) (aA (bC c.1) (Cy (qB c)) (aA (m=m) (h=h) True))))/\∀(c:Nat×ca),I1 c->aZ (↑c.1:Int) (aG d)
 (aK (λb o=>aA (aL d.a b o) (0<=(↑c.1:Int)) ((↑c.1:Int)<aG d/\∃(y:Sl),HA m h b o c.1 1 (aM y) (λe=>aA (eR 1 e) (cZ h (dJ y) 1 e) (aA (rY (qB c) e 24) (rZ (qB c) e) (∃(f:Nat×ca),aA (I1 f) (j f<j c) (aA (eL 24) (aH d) (aA (bG d) (bD (fP (bE c.1 1)) f.1) (aA (lJ (qB c++e) (qB f)) (m=m) (bX h h)))))))))) (uM h (qB c) K m))))
theorem V9{u v:VV}{r r':ci}(e:WB u)(f:WB v)(h:xK u++r=xK v++r'):u=v/\r=r':=by
 have z:vP 0:=⟨bh,bh⟩
 have c:∀w:VV,WB w->Wq ⟨0,0,w⟩:=λw d=>⟨z,z,d.kind,d.int,by have:=d.text;show w.text.size<=_;omega⟩
 have:=Hu (o:=⟨0,0,u⟩) (o':=⟨0,0,v⟩) (r:=r) (r':=r') (c u e) (c v f) (by simp only[EZ,append_assoc,h]);exact⟨by injection this.1,this.2⟩
theorem UQ:∀{a b:bu},a.length=b.length->(∀v∈a,WB v)->(∀v∈b,WB v)->a.flatMap xK=b.flatMap xK->a=b
 |[],[],_,_,_,_=>rfl
 |x::a,y::b,c,e,f,h=>by
  simp only[flatMap_cons]at h;obtain⟨g,j⟩:=V9 (e x (mem_cons_self ..)) (f y (mem_cons_self ..)) h;rw[g,UQ (bj c) (λv d=>e v (mem_cons_of_mem _ d)) (λv d=>f v (mem_cons_of_mem _ d)) j]
 |[],_::_,c,_,_,_=>by simp at c
 |_::_,[],c,_,_,_=>by simp at c
theorem Jk:Y4 nW:=⟨fun{a b} c d e=>⟨λh=>by
 simp only[nW,ByteArray.mk.injEq]at h;exact UQ c d e (bj (congrArg Array.toList h)),λh=>by rw[h]⟩⟩
theorem aOX{P:Program}{f:FuncId}{T:TypeId}{c:cq}{R R':bm->MH->PH->Prop}(x:FAt P f T c m h R)(d:∀l m' h',R l m' h'->R' l m' h'):FAt P f T c m h R':=
 ⟨x.fn,λg w e j=>(x.go g w e j).mono λ_ _⟨l,m',h',n,o,u⟩=>⟨l,m',h',n,d _ _ _ o,u⟩⟩
theorem Yw:bk 120 bIQ:=by
 refine iB func120 ?_;rintro E m h K ⟨s,g,c,l,p,rfl,B,P,F,G⟩;refine⟨a1Q s g c m h,rfl,aF,RP s g c m h K,bf,?_⟩;dsimp only[RP,push_cast];have n:=bN.slen B;refine⟨λx=>x.1<=l.length/\x.2.length<=x.1/\eE h x.2 ((l.take x.1).filter p),λx=>l.length-x.1,⟨(0,[]),⟨bg,bg,bj (eE.nil h)⟩,MT⟩,?_⟩;rintro⟨i,C⟩ ⟨H,y,d⟩;dsimp only at H y d;refine aE (λf=>?_) (λz=>?_)
 .dsimp only at f⊢
  obtain⟨r,j⟩:=eN n f;obtain⟨b,o,u,I,rd,D⟩:=bN.at B j;refine⟨b,o,I,aC,aC,u,.imm rd,λt m' h'=>t=p r/\m'=m/\h'=h,aOX (F u r (mem_of_getElem? j) D) (λx m' h'⟨J,L,M⟩=>⟨p r,J,rfl,L,M⟩),?_⟩;rintro t m' h' ⟨rfl,rfl,rfl⟩;refine aB (λe=>⟨by rw[length_map];omega,by rw[length_map];omega,(i+1,C++[u]),⟨by dsimp only;omega,by simp;omega,?_⟩,by dsimp only;omega,?_⟩) (λe=>⟨(i+1,C),⟨by dsimp only;omega,by dsimp only;omega,?_⟩,by dsimp only;omega,?_⟩)
  .rw[iG _ j,if_pos e];exact d.snoc D
  .rw[iJ aC,map_append];exact MT
  .rw[iG _ j,if_neg (by rw[e];simp),append_nil];exact d
  .rw[iJ aC];exact MT
 .dsimp only at z⊢
  rw[take_of_length_le aC]at d;intro O h' le A;exact G O h' le ((d.mono le).rows A (by have:=d.len;omega))
theorem YM{l:bt}{r:bu}(z:nJ l)(A:i<=l.length)(g:∀j y,j<i->l[j]? =some y->eC y r<0)(n:∀j y,i<=j->l[j]? =some y->¬eC y r<0):(l.countP λy=>decide (eC y r<0))=i:=by
 have e:l.countP (λy=>decide (eC y r<0))=(l.take i).countP (λy=>decide (eC y r<0))+(l.drop i).countP λy=>decide (eC y r<0):=by
  rw[<-countP_append,take_append_drop]
 have o:(l.take i).countP (λy=>decide (eC y r<0))=(l.take i).length:=countP_eq_length.2 λy d=>by
  obtain⟨j,c⟩:=getElem?_of_mem d;have f:=(List.getElem?_eq_some_iff.1 c).1;rw[length_take]at f;rw[getElem?_take,if_pos aC]at c;simpa using g j y aC c
 have u:(l.drop i).countP (λy=>decide (eC y r<0))=0:=countP_eq_zero.2 λy d=>by
  obtain⟨j,c⟩:=getElem?_of_mem d;rw[getElem?_drop]at c;simpa using n (i+j) y aC c
 rw[e,o,u,length_take];omega
theorem J0{l:bt}(d:nJ l){j:Nat}{x y:bu}(c:i<j)(hx:l[i]? =some x)(e:l[j]? =some y):eC x y<0:=by
 obtain⟨f,rfl⟩:=List.getElem?_eq_some_iff.1 hx;obtain⟨g,rfl⟩:=List.getElem?_eq_some_iff.1 e;exact pairwise_iff_getElem.1 d i j f g c
theorem aMJ{j:Nat}(h:i+j<=4000000):IntKind.i64.wrap ((IntKind.u64.wrap (IntKind.i64.wrap ((i:Int)+(j:Int)))).fdiv 2)=(((i+j)/2:Nat):Int):=by
 rw[eG (n:=(i:Int)+j) aC aC,P8 aC aC,Int.fdiv_eq_ediv_of_nonneg _ aC];have:((i:Int)+j)/2=(((i+j)/2:Nat):Int):=by omega
 rw[this,eG aC aC]
theorem XX:bk 176 bIJ:=by
 refine iB func176 ?_;rintro Z m h K ⟨s,u,l,r,rfl,L,g,W,hl,F⟩;refine⟨aUZ s u m h,rfl,aD BL aF,Ri s u m h K,bf,?_⟩;dsimp only[Ri,push_cast];have M:=bN.slen L;refine⟨λx=>x.1<=x.2/\x.2<=l.length/\(∀j y,j<x.1->l[j]? =some y->eC y r<0)/\∀j y,x.2<=j->l[j]? =some y->¬eC y r<0,λx=>x.2-x.1,⟨(0,l.length),⟨bg,bg,λj y G=>by omega,λj y G c=>by have:=(List.getElem?_eq_some_iff.1 c).1;omega⟩,?_⟩,?_⟩
 .rw[M];exact MT
 rintro⟨i,j⟩ ⟨O,G,n,z⟩;dsimp only at O G n z;refine aE (λB=>?_) (λP=>?_)
 .dsimp only at B⊢
  have B:i<j:=by omega
  rw[aMJ aC];have Q:i<=(i+j)/2:=by omega
  have R:(i+j)/2<j:=by omega
  generalize (i+j)/2=k at Q R;have d:l[k]? =some (l[k]'(by omega)):=getElem?_eq_getElem _;generalize l[k]'(by omega)=x at d;obtain⟨b,o,e,S,rd,T⟩:=bN.at L d;refine⟨b,o,S,aC,aC,e,.imm rd,e,u,x,r,rfl,T,W,aE (λH=>⟨(k+1,j),⟨by dsimp only;omega,G,λU y C c=>?_,z⟩,by dsimp only;omega,?_⟩) (λH=>⟨(i,k),⟨by dsimp only;omega,by dsimp only;omega,n,λU y C c J=>?_⟩,by dsimp only;omega,?_⟩)⟩
  .by_cases D:U=k
   .subst D;rw[d]at c;cases c;exact H
   .exact JJ (J0 g (by dsimp only at C;omega) c d) H
  .rw[iJ aC];exact MT
  .by_cases D:U=k
   .subst D;rw[d]at c;cases c;exact H J
   .exact H (JJ (J0 g (by dsimp only at C;omega) d c) J)
  .exact MT
 .dsimp only at P⊢
  have:i=j:=by omega
  subst this;rw[YM g G n z]at F
  have f:(∀y,l[i]? =some y->eC y r≠0)->LW l r=false:=λJ=>by
   rw[Bool.eq_false_iff];intro V;obtain⟨j,A⟩:=getElem?_of_mem (Nb.1 V);have hz:eC r r=0:=lC.2 rfl;rcases Nat.lt_trichotomy j i with I|I|I
   .have:=n j r I A;omega
   .subst I;exact J r A hz
   .have E:i<l.length:=by have:=(List.getElem?_eq_some_iff.1 A).1;omega
    have d:l[i]? =some l[i]:=getElem?_eq_getElem E;have h3:=J0 g I d A;exact z i _ (Nat.le_refl _) d h3
  refine aE (λB=>?_) (λX=>?_)
  .have E:i<l.length:=by omega
   have d:l[i]? =some l[i]:=getElem?_eq_getElem E;generalize l[i]=x at d;obtain⟨b,o,e,S,rd,T⟩:=bN.at L d;refine⟨b,o,S,aC,aC,e,.imm rd,e,u,x,r,rfl,T,W,?_⟩
   have:LW l r=(eC x r==0):=by
    cases Y:eC x r==0 with
    |true=>
     have:=lC.1 (by simpa using Y:eC x r=0);subst this;exact Nb.2 (mem_of_getElem? d)
    |false=>exact f λy c=>by rw[d]at c;cases c;simpa using Y
   rw[this]at F;exact F
  .rw[f λy c=>by have:=(List.getElem?_eq_some_iff.1 c).1;omega]at F;exact F
theorem OZ:bk 130 bhQ:=by
 refine iB func130 ?_;rintro d m h K ⟨s,u,l,r,rfl,e,c,f,g,j⟩;refine⟨dG [(176,bIJ)] [] [] [] false,rfl,aD XX aF,ayJ s u m h K,bf,?_⟩;exact⟨s,u,l,r,rfl,e,c,f,g,j⟩
theorem apX:bk 69 Su:=by
 refine iB func69 ?_;rintro E m h K ⟨s,l,rfl,C,L,F,G⟩;refine⟨brX s m,rfl,aD QS aF,Vh s m h K,bf,?_⟩;dsimp only[Vh,push_cast];have z:=bN.slen C;refine⟨aC,aC,aC,aC,λx=>x.1<=l.length/\PH.le h x.2.2/\∃j,j.length=x.1/\x.2.1=j++replicate (l.length-x.1) ⟨none,0,0⟩/\eE x.2.2 j (l.take x.1),λx=>l.length-x.1,⟨(0,replicate l.length ⟨none,0,0⟩,h),⟨bg,.refl _,[],rfl,bg,bj (eE.nil h)⟩,?_⟩,?_⟩
 .dsimp only;rw[map_replicate,show((s.len:Int)).toNat=l.length by omega];exact MT
 rintro⟨i,M,O⟩ ⟨H,le,j,c,D,g⟩;dsimp only at H le c D g;subst D;refine aE (λy=>?_) (λA=>?_)
 .dsimp only at y⊢
  obtain⟨r,d⟩:=eN z y;obtain⟨b,o,u,I,rd,J⟩:=bN.at C d;refine⟨b,o,I,aC,aC,u,.imm (rd.mono le),u,r,rfl,bP.mono J le,F r (mem_of_getElem? d),λn h' f B=>⟨aC,by simp[c];omega,[rV],?_,bg,(i+1,(j++[n])++replicate (l.length-(i+1)) ⟨none,0,0⟩,h'),⟨by dsimp only;omega,le.trans f,j++[n],by simp[c],rfl,?_⟩,by dsimp only;omega,?_⟩⟩
  .rw[getElem?_map,Int.toNat_natCast,getElem?_append_right aC,getElem?_replicate,if_pos aC];rfl
  .dsimp only;rw[take_add_one,d];exact(g.mono f).snoc B
  .dsimp only
   have e:((j++replicate (l.length-i) (⟨none,0,0⟩:Sl)).map eS).set ((i:Int)).toNat (dT n::List.drop 1 [rV])=((j++[n])++replicate (l.length-(i+1)) (⟨none,0,0⟩:Sl)).map eS:=by
    rw[Int.toNat_natCast,show l.length-i=(l.length-(i+1))+1 by omega,replicate_succ,map_append,set_append,if_neg (by simp[c]),map_append,map_append,append_assoc];simp[c,eS]
   rw[e,iJ aC];exact MT
 .dsimp only at A⊢
  have:i=l.length:=by omega
  subst this;rw[Nat.sub_self,replicate_zero,append_nil];rw[take_length]at g;intro n h' f d;exact G n h' (le.trans f) ((g.mono f).rows d aC)
theorem aCX{v:VV}(h:v.text.size<=64):(xK v).length<=200:=by
 have c:=kN [v.kind];have e:=qP v.int;have d:=kN [(v.text.size:Int)];have f:v.text.data.toList.length=v.text.size:=Array.length_toList;simp only[xK,length_append,length_cons,length_nil]at c d⊢
 omega
theorem aiX{r:bu}(h:∀v∈r,v.text.size<=64):(r.flatMap xK).length<=200*r.length:=by
 induction r with
 |nil=>simp
 |cons v l c=>
  have f:=aCX (h v (mem_cons_self ..));have d:=c (λu e=>h u (mem_cons_of_mem _ e));simp only[flatMap_cons,length_append,length_cons]at d⊢
  omega
theorem BK:bk 126 Sr:=by
 refine iB func126 ?_;rintro H m h K ⟨s,t,r,d,rfl,D,E,I,y,J,L⟩;refine⟨a0Q s t m h,rfl,aD OR aF,RN s t m h K,bf,?_⟩;dsimp only[RN,push_cast];have M:=bN.slen D;have z:=E.slen;have O:=y.len;have P:(pick r d).length=d.length:=by simp[pick]
 have g:∀v∈pick r d,v.text.size<=64:=λv Q=>(I.val v (NT y Q)).text;refine⟨λx=>x.1<=d.length/\x.2=((pick r d).take x.1).flatMap xK,λx=>d.length-x.1,⟨(0,[]),⟨bg,bg⟩,MT⟩,?_⟩;rintro⟨i,l⟩ ⟨R,F⟩;dsimp only at R F;subst F;refine aE (λf=>?_) (λA=>?_)
 .dsimp only at f;obtain⟨c,j⟩:=eN z f;obtain⟨b,o,e,rd⟩:=E.at j;obtain⟨v,B,n,S,Y⟩:=Ik y j;obtain⟨T,U,w,V,C,rfl⟩:=bN.at D B;have W:=aiX (r:=(pick r d).take i) (λu X=>g u (mem_of_mem_take X));have G:=g v (mem_of_getElem? n);refine⟨b,o,e,by dsimp only;omega,f,c,.imm (bj rd),T,U,V,S,aC,v,.imm C,_,v,rfl,J,?_,(i+1,((pick r d).take (i+1)).flatMap xK),⟨by dsimp only;omega,rfl⟩,(by dsimp only;omega),?_⟩
  .rw[bV];rw[length_take]at W;dsimp only;omega
  .dsimp only;rw[take_add_one,n,flatMap_append,fM];simp only[Option.toList_some,flatMap_cons,flatMap_nil,append_nil];exact MT
 .dsimp only at A⊢
  rw[take_of_length_le aC];exact⟨_,rfl,L⟩
theorem XY:bk 175 acQ:=by
 refine iB func175 ?_;rintro d m h K ⟨n,rfl,f,c⟩;refine⟨dG [] [] [] [] true,rfl,aF,Rj n m h K,bf,?_⟩;dsimp only[Rj,push_cast];have e:IntKind.i64.wrap ((n:Int)-0)=n:=by rw[eG aC aC];omega
 have g:IntKind.i64.wrap ((n:Int)-IntKind.i64.wrap (0-0))=n:=by rw[show IntKind.i64.wrap (0-0)=0 from by rw[eG aC aC];rfl,e]
 exact aE (λj=>⟨aC,aC,aC,aC,aC,aC,aC,c⟩) (λ_=>c)
theorem Ys:bk 128 Sv:=by
 refine iB func128 ?_;rintro V m h K ⟨A,R,S,rfl,G,W,X,Y⟩;refine⟨aZJ A m h,rfl,aD XY aF,RM A m h K,bf,?_⟩;dsimp only[RM,push_cast];have Z:A.len=2:=bN.slen G
 have g:∀k∈[R,S],k.length<=1000000:=λk d=>by
  rcases mem_cons.1 d with rfl|d
  .exact W
  .rw[mem_singleton.1 d];exact X
 generalize j:[R,S]=ks at G g;have H:ks.length=2:=by rw[<-j];rfl
 have f:∀i,i<=2->((ks.take i).map List.length).sum<=2000000:=λi u=>by
  rw[<-j]
  match i,u with
  |0,_=>simp
  |1,_=>simp;omega
  |2,_=>simp;omega
 refine⟨λx=>x.1<=2/\x.2=((ks.take x.1).map List.length).sum,λx=>2-x.1,⟨(0,0),⟨bg,bg⟩,MT⟩,?_⟩;rintro⟨i,n⟩ ⟨u,T⟩;dsimp only at u T⊢
 subst T;have hb:=f i u;refine aE (λe=>?_) (λB=>?_)
 .obtain⟨k,d⟩:=eN (l:=ks) (n:=A.len) aC e;obtain⟨b,o,z,I,r,y⟩:=bN.at G d;have H:=bN.slen y;have C:=g k (mem_of_getElem? d)
  have hw:IntKind.i64.wrap (((((ks.take i).map List.length).sum:Nat):Int)+(z.len:Int))=((((ks.take (i+1)).map List.length).sum:Nat):Int):=by
   rw[AU d,eG aC aC];omega
  refine⟨b,o,I,aC,e,z,.imm r,?_⟩;rw[hw];exact aE (λU=>by omega) (λ_=>⟨(i+1,((ks.take (i+1)).map List.length).sum),⟨by dsimp only;omega,rfl⟩,by dsimp only;omega,by rw[iJ aC];exact MT⟩)
 .refine⟨((ks.take i).map List.length).sum,rfl,aC,λx=>x.1<=2/\x.2.length<=2000000/\eE h x.2 (ks.take x.1).flatten,λx=>2-x.1,⟨(0,[]),⟨bg,bg,bj (eE.nil h)⟩,MT⟩,?_⟩;clear hb B u;rintro⟨i,us⟩ ⟨u,J,c⟩;dsimp only at u J c⊢
  have L:=c.len;rw[length_flatten]at L;refine aE (λe=>?_) (λB z h' D E=>Y z h' D ?_)
  .obtain⟨k,d⟩:=eN (l:=ks) (n:=A.len) aC e;obtain⟨b,o,z,I,r,y⟩:=bN.at G d;obtain⟨⟨F,M,O,P⟩,_⟩:=y;have C:=g k (mem_of_getElem? d);have Q:=f (i+1) aC;rw[AU d]at Q;refine⟨b,o,I,aC,e,z,.imm r,F.map eS,Ao _,M,by simp;omega,by simp;omega,(i+1,us++F),⟨by dsimp only;omega,by simp;omega,?_⟩,by dsimp only;omega,?_⟩
   .dsimp only;rw[take_add_one,d,flatten_append];simp only[Option.toList_some,flatten_cons,flatten_nil,append_nil];exact c.app ⟨O.symm,P⟩
   .rw[iJ aC,map_append];exact MT
  .rw[take_of_length_le aC, <-j]at c;simp only[flatten_cons,flatten_nil,append_nil]at c;exact(c.mono D).rows E (by simp;omega)
def PB:Vc.Spec:=λc m h K=>∃s t d v od a b,c=[cS s,cS t,cP d]/\m d=some (.cells ⟨l7.enc v⟩ 111 (0,0))/\gZ h v.order od/\bP h s a/\bP h t b/\K (cI (jZ od a b)) m h
def Z0:Vc.Spec:=λd m h K=>∃(s:Sl)(e:Nat)(v:l7)(od:bz)(w:Nat)(ps:cv),d=[cS s,.val (.func (.func 177) #[] #[.pointer (some ⟨e,0,none⟩)])]/\m e=some (.cells ⟨l7.enc v⟩ 111 (0,0))/\(∀i,s.a≠some ⟨e,i,none⟩)/\gZ h v.order od/\cR m s 100 1 (ps.map λp=>eS p.1)/\(∀p∈ps,bP h p.1 p.2)/\(∀p∈ps,p.2.length=w)/\ps.length<=140737488355328/\
 ∀(c:cv)(m':MH),c.Perm ps->c.Pairwise (λp q=>¬jZ od q.2 p.2<0)->cR m' s 100 1 (c.map λp=>eS p.1)->(∀b,(∀i,s.a≠some ⟨b,i,none⟩)->m' b=m b)->K (.tup []) m' h
def Wt:Vc.Spec:=λc m h K=>∃v s gr od l w,c=[aT v,cS s]/\Ints h v.group gr/\gZ h v.order od/\Rows h s l/\gR w l/\hZ w gr/\dU m/\
 ∀y d e f g,m y=none->(∀b,b≠y->d b=m b)->PH.le h e->pE nW d e y gr od l f g->K (.val (.map (some y))) d e
noncomputable def aZZ(s:Sl):Ctx:=pF [(126,Sr),(171,Z0)]
 [(3,{A:=Nat×Nat×Nat×MH×PH,st:=λ⟨b,y,i,m,h⟩=>bO 41 43 [(2,pv b),(5,vv (.map (some y))),(12,sv s),(13,iv s.len),(14,iv i)] [] m h}),
  (9,{A:=Nat×Nat×Nat×MH×PH,st:=λ⟨b,y,r,m,h⟩=>bO 41 43 [(2,pv b),(5,vv (.map (some y))),(32,pv r)] [] m h})] [] [] [200002,1068,400000,0] [] false
def axJ(s t:Sl)(d:Nat)(m:MH)(h:PH)(K:bo):Prop:=
  rI m h d 18 (λy o=>mS (λe f=>∃(c:bz),ID y s t o e f h c (λa b=>K (fQ (jZ c a b)) m h)))
noncomputable abbrev fZ(a:bu)(b:br):Value:=Value.string (nW (pick a b))
abbrev IA(a:MH)(b:Nat×Nat×Nat×MH×PH)(c:cd)(d:MH->(Nat×Nat×Nat×MH×PH)->Prop):Prop:=∀(x:MH),aY (iH a x (fU b)) (mH x (fU b) c) (∃(e:Nat×Nat×Nat×MH×PH),d x e)
attribute [push_cast] fZ IA
def K4(v:l7)(s:Sl)(m:MH)(h:PH)(K:bo):Prop:=
  fR (λb J=>aY (bW m h b) (cM m J b v.enc 111) (uL J h (λP Q=>MV (λI x=>aA (I x) (cH b x.1) (aA (jE P (fU x)) (aH s) (aA (bG s) (bC (fT x)) (aA (cT Q (fW x)) (eA h (fW x)) True)))) (λI n x=>I x->aZ (↑(fT x):Int) (aG s) (aK (λD o=>aA (aL s.a D o) (0<=(↑(fT x):Int)) ((↑(fT x):Int)<aG s/\∃(y:Sl),aJ (jS x) (iE x) D (bK o (fT x) 1) (aM y)/\∃(L:Sl),aJ (jS x) (iE x) x.1 17 (aM L)/\∃(u:Sl),yI (λt r c=>aA (cA y L=cA u t) (bP (iE x) u r) (aA (Ints (iE x) t c) (Mq r) (aA (yH r c) (dU (jS x)) (p8 (jS x) (fU x) (λO=>O (fZ r c)) (fZ r c) (∃(e:List bm),aA (cR (jS x) sO 100 1 e) (iL e) (dO e
 /\iF (λz f=>eK (jS x) f sO z 100 1 (iN e y)->oC f (fU x) (λO=>O (fZ r c)) (fZ r c) (λk=>IA f x (fK k (fZ r c) (dT z) []) (λg d=>aA (I d) (n d<n x) (aA (cH x.1 d.1) (jE (fU x) (fU d)) (aA (aH s) (bG s) (aA (bD (fP (bE (fT x) 1)) (fT d)) (cT g (fW d)) (j4 (cW (fW x) (fW d)))))))) (λl C A=>fK l (fZ r c) C A) (λl A=>IA f x (fK l (fZ r c) (dT z) A) (λg d=>aA (I d) (n d<n x) (aA (cH x.1 d.1) (jE (fU x) (fU d)) (aA (aH s) (bG s) (aA (bD (fP (bE (fT x) 1)) (fT d)) (cT g (fW d)) (j4 (cW (fW x) (fW d))))))))))) (λM=>∃(e:List bm),aA (cR (jS x) (dJ M) 100 1 e) (iL e) (dO
 e/\iF (λz f=>eK (jS x) f (dJ M) z 100 1 (iN e y)->oC f (fU x) (λO=>O (fZ r c)) (fZ r c) (λk=>IA f x (fK k (fZ r c) (dT z) []) (λg d=>aA (I d) (n d<n x) (aA (cH x.1 d.1) (jE (fU x) (fU d)) (aA (aH s) (bG s) (aA (bD (fP (bE (fT x) 1)) (fT d)) (cT g (fW d)) (j4 (cW (fW x) (fW d)))))))) (λl C A=>fK l (fZ r c) C A) (λl A=>IA f x (fK l (fZ r c) (dT z) A) (λg d=>aA (I d) (n d<n x) (aA (cH x.1 d.1) (jE (fU x) (fU d)) (aA (aH s) (bG s) (aA (bD (fP (bE (fT x) 1)) (fT d)) (cT g (fW d)) (j4 (cW (fW x) (fW d)))))))))))))))))) (IG (jS x) (fU x) (iE x) (λr f=>MV (λI1 e=>aA (I1 e)
 (cH x.1 e.1) (aA (jE (fU x) (fU e)) (cH r (fT e)) (gX (cT f (fW e)) (cW (fW x) (fW e))))) (λI1 g e=>IF (I1 e) (jS e) (fT e) (λl=>l=[]->K (CV.val (BE (fU e))) (jS e) (iE e)) (λE=>N9 (λD k l d=>CT E D (fT e) k l d/\∃(u:Sl)(F:Nat)(C:l7)(o:bz)(w:Nat)(p:cv),aA (gJ (CV.val d.2) (mM 177 e.1)=eJ u (mM 177 F)) (E F=Option.some (qL (Array.mk C.enc) 111 0)) (aA (∀(i:Nat),jU (aL u.a F i)) (gZ (iE e) C.order o) (aA (DU E u p) (∀(j:Sl×bu),List.Mem j p->bP (iE e) j.1 j.2) (aA (∀(j:Sl×bu),List.Mem j p->j.2.length=w) (lN p.length) (∀(j:cv)(G:MH),aY (List.Perm j p) (List.Pairwise
 (fun(R:Sl×bu)=>fun(q:Sl×bu)=>¬(jZ o q.2 R.2<0)) j) (aY (DU G u j) (∀(H:Nat),(∀(i:Nat),jU (aL u.a H i))->G H=E H) (∃(B:Nat×Nat×Nat×MH×PH),aA (I1 B) (g B<g e) (aA (cH e.1 B.1) (jE (fU e) (fU B)) (aA (cH (fT e) (fT B)) (cT G (fW B)) (cW (fW e) (fW B)/\True))))))))))))))))))
theorem XW:bk 177 PB:=by
 refine iB func177 ?_;rintro c m h K ⟨s,t,d,v,od,a,b,rfl,e,f,g,j,n⟩;refine⟨pF [(136,FW)] [] [] [] [0] [] false,rfl,aD EJ aF,axJ s t d m h K,bf,?_⟩;exact⟨v.order,.of_m e rfl,v.order,s,t,od,a,b,rfl,f,g,j,n⟩
theorem VH:bk 171 Z0:=by
 refine⟨⟨Tryz.f171,func171,rfl,bh⟩,?_⟩;rintro z u m h w K ⟨s,c,v,od,A,ps,rfl,B,n,C,D,E,F,G,H⟩ j
 obtain⟨I,d,rfl⟩:∃v d,u=[v,d]:=by
  have:=(nY j.args).1
  match u,this with
  |[v,d],_=>exact⟨v,d,rfl⟩
 have J:I=s.val:=j.args.1;have L:d= .func (.func 177) #[] #[.pointer (some ⟨c,0,none⟩)]:=j.args.2.1;subst J L;refine J1 (R:=λl=>l.length=A) (g:=177) (cb:=[.pointer (some ⟨c,0,none⟩)]) (m2:=λb=>if b=c then m c else none) (cf:=jZ od) rfl j ⟨Tryz.f177,func177,rfl,bh⟩ D E F G (V7 od) ⟨PB,XW,λx y=>⟨x.s,y.s,c,v,od,x.l,y.l,rfl,bj B,C,x.ok,y.ok,rfl,rfl,rfl⟩⟩ (λb o f=>?_) H;have f:(if b=c then m c else none)=some o:=f;split at f
 .rename_i e;subst e;exact⟨f,n⟩
 .cases f
theorem kW.appV{m0:MH}{y:Nat}{kk:cj}{us:ByteArray->ca}{key:ByteArray}{s e:Sl}{Q:MH->Prop}(g:kW m0 m y kk us)(A:∃o,m0 y=some o)(E:(us key).length<=502633886983)
 (B:∀m' f,kW m0 m' y f (Mi us key e)->Q m')(n:BU kk key s):
 ∃xs:List bm,cR m (Sl.mk s.a s.len s.cap) 100 1 xs/\(xs.length+1)*24<=140737488355328/\xs.length<140737488355328/\∀(j:Sl)(d:MH),eK m d (Sl.mk s.a s.len s.cap) j 100 1 (xs++[[dT e]])->
 ∃(c:cd)(Ok:Value->Prop),mH d y c/\KeyLaw Tryz.prog 9 Ok/\Ok (.string key)/\Instr.sameBits 10000 (Value.string key) (Value.string key)=true/\(∀e,List.Mem e c->Ok e.1)/\((∀e,List.Mem e c->e.1=Value.string key->False)->∀m':MH,iH d m' y->mH m' y (c++[(Value.string key,dT j)])->Q m')/\
  ∀(u:cd)(C:Value)(z:cd),c=u++(Value.string key,C)::z->∀m':MH,iH d m' y->mH m' y (u++(Value.string key,dT j)::z)->Q m':=
 ⟨_,(n.row g).1,by simp;omega,by simp;omega,λ_ _ D=>g.put A n D B⟩
theorem Yp:bk 132 Wt:=by
 refine Tm func132 ?_;rintro c' m h K ⟨v,s,gr,od,l,w,rfl,a8,a9,Z,d,H,hT,hK⟩;refine⟨aZZ s,rfl,aD BK (aD VH aF),K4 v s m h (cE h K),bf,?_⟩;show K4 v s m h (cE h K);dsimp only[K4,push_cast];intro bq m1 a' C y I J D;obtain⟨s1,nq⟩:=gH (Sub.refl m) a' C;obtain⟨s2,ny⟩:=gH s1 J D;have E:bq≠y:=λe=>by have:=J.m_;rw[<-e,C.at_]at this;cases this
 have L:I bq=some (.cells ⟨l7.enc v⟩ 111 (0,0)):=by rw[D.other bq E];exact C.at_
 have n:I y=some (.map #[] 0):=D.at_;have b':=bN.slen Z;have b0:=d.len;clear C D a' J s1;have a0:∀{F kk us},kW I F y kk us->Sub m F:=λg z o c=>g.old z o (s2 z o c) (λA=>by rw[A,ny]at c;cases c);refine⟨λx=>x.1=bq/\x.2.1=y/\x.2.2.1<=l.length/\x.2.2.2.2=h/\Lp I x.2.2.2.1 h y (kC nW gr (l.take x.2.2.1)),λx=>l.length-x.2.2.1,⟨(bq,y,0,I,h),⟨rfl,rfl,Nat.zero_le _,rfl,⟨[],_,kW.new n,λk=>by simpa[kC]using eE.nil h⟩⟩,MT⟩,?_⟩;rintro⟨M,O,i,F,P⟩ ⟨Q,c,hi,A,⟨kk,uk,g,hg⟩⟩;dsimp only at Q c hi A g hg⊢
 subst Q c A;refine aE (λb3=>?_) (λc0=>?_)
 .obtain⟨r,hr⟩:=eN b' b3;obtain⟨b,o,u,ea,rd,hv⟩:=bN.at Z hr;have a1:=mem_of_getElem? hr;have rq:aJ F P M 17 [dT v.group]:=.of_m (g.old M _ L E) rfl
  have hl:(uk (nW (pick r gr))).length<=502633886983:=by
   have h5:=(hg (nW (pick r gr))).len;have h6:(kC nW gr (l.take i) (nW (pick r gr))).length<=(l.take i).length:=length_filter_le _ _;rw[length_take]at h6;omega
  rw[iJ aC];have nx:∀(m':MH)(j:cj),kW I m' O j (Mi uk (nW (pick r gr)) u)->Lp I m' P O (kC nW gr (l.take (i+1))):=λm' j g'=>Lp.upd g' hg hv (by rw[kC,iG _ hr,if_pos bg];rfl) (λk2 b4=>by rw[kC,iG _ hr,if_neg (by simp[Ne.symm b4]),append_nil];rfl);exact⟨b,o,ea,aC,aC,u,.imm rd,v.group,rq,u,v.group,r,gr,rfl,hv,a8,d.row r a1,by rw[d.wid r a1];exact H,hT.sub (a0 g),g.get2 (λZ=>g.appV ⟨_,n⟩ hl (λm' j g'=>⟨(M,O,i+1,m',P),⟨rfl,rfl,by dsimp only;omega,rfl,nx m' j g'⟩,by dsimp only;omega,MT⟩) Z) (λs Z=>g.appV ⟨_,n⟩ hl (λm' j g'=>⟨(M,O,i+1,m',P),⟨rfl,rfl,by dsimp only;omega,rfl,nx m' j g'⟩,by dsimp only;omega,MT⟩) Z)⟩
 .rw[take_of_length_le aC]at hg;have mq:=g.old M _ L E;refine⟨_,g.map_,λr m5 a2 b5 it=>?_⟩;have b6:F r=none:=a2.m_
  have a3:∀{z o},F z=some o->m5 z=F z/\z≠r:=fun{z o} c=>by
   have:z≠r:=λA=>by rw[A,a2.m_]at c;cases c
   exact⟨b5.other z this,this⟩
  have R:∀p∈kk,∀x i,p.2.a=some ⟨x,i,none⟩->∃o,F x=some o:=λp hp x i c=>⟨_,((g.row p hp).blk c).choose_spec⟩
  refine⟨λz=>z.1=M/\z.2.1=O/\z.2.2.1=r/\z.2.2.2.2=P/\(∀b o,F b=some o->(∀p∈kk,∀i,p.2.a≠some ⟨b,i,none⟩)->z.2.2.2.1 b=some o)/\∃left,kE z.2.2.2.1 O r (kk.map λp=>(Value.string p.1,dT p.2)) left/\∀p∈kk,bfJ z.2.2.2.1 P od p (kC nW gr l) ((Value.string p.1,dT p.2)∉left),λz=>leftOf z.2.2.2.1 z.2.2.1,⟨(M,O,r,m5,P),⟨rfl,rfl,rfl,rfl,λb o e _=>(a3 e).1.trans e,_,it,λp hp=>?_⟩,MT⟩,?_⟩
  .obtain⟨ps,Q,c,A⟩:=bEQ (hg p.1);refine⟨ps,?_,A,by rw[c],λhn=>(hn (mem_map_of_mem (f:=λp:ByteArray×Sl=>(Value.string p.1,dT p.2)) hp)).elim⟩;have e5:(ps.map λq=>eS q.1)=(uk p.1).map eS:=by rw[<-Q,map_map];rfl
   rw[e5];exact cR.keep (g.row p hp) λb i e=>(a3 (R p hp b i e).choose_spec).1
  .rintro⟨c1,c2,c3,mz,hz⟩ ⟨Q,c,A,e4,S,left,G,B⟩;dsimp only at Q c A e4 S G B⊢
   subst Q c A e4;refine⟨c2,_,left,G,λT=>?_,λl1 x l2 b7 m6 b8 a4=>?_⟩
   .subst T;exact L3 s2 ny n g hg (.refl _) b0 S G B hK
   .obtain⟨p0,ps,rfl,a5,a6,hv,hw,c4,U⟩:=L2 (m4y:=n) g d b6 S G B b7 b8 a4;have hb:=a5 c1 _ L E;refine⟨c2,_,_,_,a4,p0.2,c1,v,od,w,ps,rfl,hb.1,hb.2,a9,a6,hv,hw,aC,λb9 m7 V W X a7=>?_⟩;obtain⟨k1,⟨Y,k2,k3⟩,k4⟩:=U b9 m7 V W X a7;exact⟨(c1,c2,c3,m7,hz),⟨rfl,rfl,rfl,rfl,k1,Y,k2,k3⟩,k4,rfl,rfl,rfl,rfl,rfl,trivial⟩
def beJ:Vc.Spec:=λe m h K=>∃v on f g c d,e=[aT v,cS f,cS g]/\jK h v.on on/\Rows h f c/\Rows h g d/\dU m/\blQ on [c,d]/\c.length*d.length<=1000000/\∀j h',PH.le h h'->Rows h' j (c.flatMap (jL on d))->K (cS j) m h'
noncomputable def a0X:Ctx:=pF [(125,Lk),(126,Sr),(172,JV),(173,PG)]
 [(4,{A:=Nat×Nat×Sl×Sl×Sl×Sl×MH×PH,st:=λ⟨i,y,l,a,b,r,m,h⟩=>bO 76 79 [(1,sv l),(7,sv a),(8,sv b),(9,vv (.map (some y))),(25,sv r),(26,iv r.len),(27,iv i)] [] m h}),
  (12,{A:=Nat×Nat×Sl×Sl×ca×MH×PH,st:=λ⟨i,y,l,a,c,m,h⟩=>bO 76 79 [(7,sv a),(9,vv (.map (some y))),(13,.at (.lst 72)),(46,sv l),(47,iv l.len),(48,iv i)] [(72,.lst 100 1 (c.map eS))] m h}),
  (16,{A:=Nat×Nat×Nat×Sl×Sl×Sl×Sl×ca×MH×PH,st:=λ⟨j,i,y,l,a,e,g,c,m,h⟩=>bO 76 79 [(7,sv a),(9,vv (.map (some y))),(13,.at (.lst 72)),(15,sv e),(46,sv l),(47,iv l.len),(48,iv i),(60,sv g),(61,iv g.len),(62,iv j)] [(72,.lst 100 1 (c.map eS))] m h})] [] [] [1068,400000,0] [] false
noncomputable abbrev rL(a:Nat×Nat×Sl×Sl×Sl×Sl×MH×PH):Sl:=a.2.2.1
noncomputable abbrev gU(a:Nat×Nat×Sl×Sl×Sl×Sl×MH×PH):Sl×Sl×MH×PH:=a.2.2.2.2
noncomputable abbrev qX(a:Nat×Nat×Sl×Sl×Sl×Sl×MH×PH):Nat:=a.2.1
noncomputable abbrev kQ(a:Nat×Nat×Sl×Sl×Sl×Sl×MH×PH):Sl:=(gU a).2.1
abbrev IB(a:MH)(b:Nat×Nat×Sl×Sl×Sl×Sl×MH×PH)(c:cd)(d:MH->(Nat×Nat×Sl×Sl×Sl×Sl×MH×PH)->Prop):Prop:=∀(x:MH),aY (iH a x (qX b)) (mH x (qX b) c) (∃(e:Nat×Nat×Sl×Sl×Sl×Sl×MH×PH),d x e)
abbrev Gs(a b:Nat×Nat×Sl×Sl×Sl×Sl×MH×PH):Prop:=bB a.2.2.2.1 b.2.2.2.1
abbrev IX(a b:Nat×Nat×Sl×Sl×Sl×Sl×MH×PH)(c:MH):Prop:=aA (bD (fP (bE a.1 1)) b.1) (cT c (cX (gU b))) (cW (cX (gU a)) (cX (gU b))/\True)
noncomputable abbrev zL(a:Nat×Nat×Sl×Sl×ca×MH×PH):Sl:=a.2.2.2.1
noncomputable abbrev mE(a:Nat×Nat×Sl×Sl×ca×MH×PH):Sl:=a.2.2.1
noncomputable abbrev Ba(a:Nat×Nat×Sl×Sl×ca×MH×PH):List bm:=kS a.2.2.2.2.1
noncomputable abbrev lH(a:Nat×Nat×Sl×Sl×ca×MH×PH):MH×PH:=a.2.2.2.2.2
noncomputable abbrev A8(a:Nat×Nat×Nat×Sl×Sl×Sl×Sl×ca×MH×PH):Sl:=a.2.2.2.2.1
noncomputable abbrev A9(a:Nat×Nat×Nat×Sl×Sl×Sl×Sl×ca×MH×PH):Nat:=a.2.2.1
noncomputable abbrev A7(a:Nat×Nat×Nat×Sl×Sl×Sl×Sl×ca×MH×PH):Sl:=a.2.2.2.2.2.1
noncomputable abbrev nD(a:Nat×Nat×Nat×Sl×Sl×Sl×Sl×ca×MH×PH):Sl:=a.2.2.2.1
noncomputable abbrev pN(a:Nat×Nat×Nat×Sl×Sl×Sl×Sl×ca×MH×PH):Sl:=a.2.2.2.2.2.2.1
noncomputable abbrev sZ(a:Nat×Nat×Nat×Sl×Sl×Sl×Sl×ca×MH×PH):List bm:=kS a.2.2.2.2.2.2.2.1
noncomputable abbrev nP(a:Nat×Nat×Nat×Sl×Sl×Sl×Sl×ca×MH×PH):MH×PH:=a.2.2.2.2.2.2.2.2
attribute [push_cast] rL gU qX kQ IB Gs IX zL mE Ba lH A8 A9 A7 nD pN sZ nP
def K5(v:l7)(T R:Sl)(m:MH)(h:PH)(K:bo):Prop:=
  HD (λs o=>aA (gW v.on=gW s) (jK h s o) (∀(a b:Sl)(D:PH),dA h D (Ints D a (iD o)) (Ints D b (dV o)->uL m D (λU V=>∃(I:Nat×Nat×Sl×Sl×Sl×Sl×MH×PH->Prop)(A:Nat×Nat×Sl×Sl×Sl×Sl×MH×PH->Nat),(∃(x:Nat×Nat×Sl×Sl×Sl×Sl×MH×PH),aA (I x) (bB T (rL x)) (aA (bB a x.2.2.2.1) (bB b (gU x).1) (aA (jE U (qX x)) (bB R (kQ x)) (aA (bQ R (kQ x)) (bC x.1) (gX (cT V (cX (gU x))) (eA D (cX (gU x))))))))/\∀(x:Nat×Nat×Sl×Sl×Sl×Sl×MH×PH),I x->aZ (↑x.1:Int) (aG (kQ x)) (aK (λE F=>aA (aL (kQ x).a E F) (0<=(↑x.1:Int)) ((↑x.1:Int)<aG (kQ x)/\∃(y:Sl),aJ (cX (gU x)).1 (cX (gU x)).2 E (bK F x.1 1) (aM y)/\∃(G:Sl),
 yI (λt r c=>aA (cA y (gU x).1=cA G t) (bP (cX (gU x)).2 G r) (aA (Ints (cX (gU x)).2 t c) (yH r c) (branch (Ja r c) (∃(H:Sl),yI (λJ g j=>aA (cA y (gU x).1=cA H J) (bP (cX (gU x)).2 H g) (aA (Ints (cX (gU x)).2 J j) (Mq g) (aA (yH g j) (dU (cX (gU x)).1) (p8 (cX (gU x)).1 (qX x) (λO=>O (fZ g j)) (fZ g j) (∃(e:List bm),aA (cR (cX (gU x)).1 sO 100 1 e) (iL e) (dO e/\iF (λz n=>eK (cX (gU x)).1 n sO z 100 1 (iN e y)->oC n (qX x) (λO=>O (fZ g j)) (fZ g j) (λk=>IB n x (fK k (fZ g j) (dT z) []) (λu d=>aA (I d) (A d<A x) (aA (bB (rL x) (rL d)) (Gs x d) (aA (bB
 (gU x).1 (gU d).1) (jE (qX x) (qX d)) (aA (bB (kQ x) (kQ d)) (bQ (kQ x) (kQ d)) (IX x d u)))))) (λl P C=>fK l (fZ g j) P C) (λl C=>IB n x (fK l (fZ g j) (dT z) C) (λu d=>aA (I d) (A d<A x) (aA (bB (rL x) (rL d)) (Gs x d) (aA (bB (gU x).1 (gU d).1) (jE (qX x) (qX d)) (aA (bB (kQ x) (kQ d)) (bQ (kQ x) (kQ d)) (IX x d u))))))))) (λB=>∃(e:List bm),aA (cR (cX (gU x)).1 (dJ B) 100 1 e) (iL e) (dO e/\iF (λz n=>eK (cX (gU x)).1 n (dJ B) z 100 1 (iN e y)->oC n (qX x) (λO=>O (fZ g j)) (fZ g j) (λk=>IB n x (fK k (fZ g j) (dT z) []) (λu d=>aA (I d) (A d<A
 x) (aA (bB (rL x) (rL d)) (Gs x d) (aA (bB (gU x).1 (gU d).1) (jE (qX x) (qX d)) (aA (bB (kQ x) (kQ d)) (bQ (kQ x) (kQ d)) (IX x d u)))))) (λl P C=>fK l (fZ g j) P C) (λl C=>IB n x (fK l (fZ g j) (dT z) C) (λu d=>aA (I d) (A d<A x) (aA (bB (rL x) (rL d)) (Gs x d) (aA (bB (gU x).1 (gU d).1) (jE (qX x) (qX d)) (aA (bB (kQ x) (kQ d)) (bQ (kQ x) (kQ d)) (IX x d u)))))))))))))) (∃(e:Nat×Nat×Sl×Sl×Sl×Sl×MH×PH),aA (I e) (A e<A x) (aA (bB (rL x) (rL e)) (Gs x e) (aA (bB (gU x).1 (gU e).1) (jE (qX x) (qX e)) (aA (bB (kQ x) (kQ e)) (bQ (kQ x) (kQ e)) (aA (bD (fP (bE
 x.1 1)) e.1) (eU (cX (gU x)) (cX (gU e))) (cW (cX (gU x)) (cX (gU e))/\True)))))))))))) (∃(I1:Nat×Nat×Sl×Sl×ca×MH×PH->Prop)(n:Nat×Nat×Sl×Sl×ca×MH×PH->Nat),(∃(e:Nat×Nat×Sl×Sl×ca×MH×PH),aA (I1 e) (bB x.2.2.2.1 (zL e)) (aA (jE (qX x) e.2.1) (eL 72) (aA (bB (rL x) (mE e)) (bQ (rL x) (mE e)) (aA (bC e.1) (Cy (Ba e)) (gX (eU (cX (gU x)) (lH e)) (cW (cX (gU x)) (lH e)))))))/\∀(e:Nat×Nat×Sl×Sl×ca×MH×PH),I1 e->aZ (↑e.1:Int) (aG (mE e)) (aK (λE F=>aA (aL (mE e).a E F) (0<=(↑e.1:Int)) ((↑e.1:Int)<aG (mE e)/\∃(y:Sl),aJ (lH e).1 (lH e).2 E (bK F e.1 1) (aM y)/\∃(G:Sl),
 yI (λt r c=>aA (cA y (zL e)=cA G t) (bP (lH e).2 G r) (aA (Ints (lH e).2 t c) (yH r c) (mA (Ja r c) (∃(d:Nat×Nat×Sl×Sl×ca×MH×PH),aA (I1 d) (n d<n e) (aA (bB (zL e) (zL d)) (jE e.2.1 d.2.1) (aA (eL 72) (bB (mE e) (mE d)) (aA (bQ (mE e) (mE d)) (bD (fP (bE e.1 1)) d.1) (aA (lJ (Ba e) (Ba d)) (eU (lH e) (lH d)) (cW (lH e) (lH d)/\True)))))) (∃(H:Sl),yI (λJ g j=>aA (cA y (zL e)=cA H J) (bP (lH e).2 H g) (aA (Ints (lH e).2 J j) (Mq g) (aA (yH g j) (dU (lH e).1) (p8 (lH e).1 e.2.1 (λO=>O (fZ g j)) (fZ g j) (∃(I2:Nat×Nat×Nat×Sl×Sl×Sl×Sl×ca×MH×PH->Prop)(u:Nat×Nat×
 Nat×Sl×Sl×Sl×Sl×ca×MH×PH->Nat),(∃(d:Nat×Nat×Nat×Sl×Sl×Sl×Sl×ca×MH×PH),aA (I2 d) (bB (zL e) (A8 d)) (aA (jE e.2.1 (A9 d)) (eL 72) (aA (bB y (A7 d)) (bB (mE e) (nD d)) (aA (bQ (mE e) (nD d)) (cG e.1 d.2.1) (aA (sQn=sQs (pN d)) (bC (pN d).len) (aA (bC d.1) (lJ (Ba e) (sZ d)) (gX (eU (lH e) (nP d)) (cW (lH e) (nP d)))))))))/\∀(d:Nat×Nat×Nat×Sl×Sl×Sl×Sl×ca×MH×PH),I2 d->aZ (↑d.1:Int) (aG (pN d)) (aK (λL M=>aA (aL (pN d).a L M) (0<=(↑d.1:Int)) ((↑d.1:Int)<aG (pN d)/\∃(B:Sl),aJ (nP d).1 (nP d).2 L (bK M d.1 1) (aM B)/\IC (nP d).2 (A7 d) B (λz Q=>aA
 (iL (sZ d)) (dO (sZ d)) (∃(f:Nat×Nat×Nat×Sl×Sl×Sl×Sl×ca×MH×PH),aA (I2 f) (u f<u d) (aA (bB (A8 d) (A8 f)) (jE (A9 d) (A9 f)) (aA (eL 72) (bB (A7 d) (A7 f)) (aA (bB (nD d) (nD f)) (bQ (nD d) (nD f)) (aA (cG d.2.1 f.2.1) (bB (pN d) (pN f)) (aA (bQ (pN d) (pN f)) (bD (fP (bE d.1 1)) f.1) (aA (lJ (iN (sZ d) z) (sZ f)) (eU (nP d) (nP f)) (eA Q (nP f)/\True)))))))))))) (∃(f:Nat×Nat×Sl×Sl×ca×MH×PH),aA (I1 f) (n f<n e) (aA (bB (A8 d) (zL f)) (jE (A9 d) f.2.1) (aA (eL 72) (bB (nD d) (mE f)) (aA (bQ (nD d) (mE f)) (bD (fP (bE d.2.1 1)) f.1) (aA (lJ (sZ d)
 (Ba f)) (eU (nP d) (lH f)) (cW (nP d) (lH f)/\True))))))) (λB=>∃(I2:Nat×Nat×Nat×Sl×Sl×Sl×Sl×ca×MH×PH->Prop)(u:Nat×Nat×Nat×Sl×Sl×Sl×Sl×ca×MH×PH->Nat),(∃(d:Nat×Nat×Nat×Sl×Sl×Sl×Sl×ca×MH×PH),aA (I2 d) (bB (zL e) (A8 d)) (aA (jE e.2.1 (A9 d)) (eL 72) (aA (bB y (A7 d)) (bB (mE e) (nD d)) (aA (bQ (mE e) (nD d)) (cG e.1 d.2.1) (aA (bB B (pN d)) (bQ B (pN d)) (aA (bC d.1) (lJ (Ba e) (sZ d)) (gX (eU (lH e) (nP d)) (cW (lH e) (nP d)))))))))/\∀(d:Nat×Nat×Nat×Sl×Sl×Sl×Sl×ca×MH×PH),I2 d->aZ (↑d.1:Int) (aG (pN d)) (aK (λL M=>aA (aL (pN d).a L M) (0<=
 (↑d.1:Int)) ((↑d.1:Int)<aG (pN d)/\∃(S:Sl),aJ (nP d).1 (nP d).2 L (bK M d.1 1) (aM S)/\IC (nP d).2 (A7 d) S (λz Q=>aA (iL (sZ d)) (dO (sZ d)) (∃(f:Nat×Nat×Nat×Sl×Sl×Sl×Sl×ca×MH×PH),aA (I2 f) (u f<u d) (aA (bB (A8 d) (A8 f)) (jE (A9 d) (A9 f)) (aA (eL 72) (bB (A7 d) (A7 f)) (aA (bB (nD d) (nD f)) (bQ (nD d) (nD f)) (aA (cG d.2.1 f.2.1) (bB (pN d) (pN f)) (aA (bQ (pN d) (pN f)) (bD (fP (bE d.1 1)) f.1) (aA (lJ (iN (sZ d) z) (sZ f)) (eU (nP d) (nP f)) (eA Q (nP f)/\True)))))))))))) (∃(f:Nat×Nat×Sl×Sl×ca×MH×PH),aA (I1 f) (n f<n e) (aA (bB (A8 d)
 (zL f)) (jE (A9 d) f.2.1) (aA (eL 72) (bB (nD d) (mE f)) (aA (bQ (nD d) (mE f)) (bD (fP (bE d.2.1 1)) f.1) (aA (lJ (sZ d) (Ba f)) (eU (nP d) (lH f)) (cW (nP d) (lH f)/\True)))))))))))))))))) (uM (lH e).2 (Ba e) K (lH e).1))))))
theorem O0:bk 125 Lk:=by
 refine iB func125 ?_;rintro c m h K ⟨s,on,rfl,d,e⟩;refine⟨VE s m h,rfl,aF,GN s m h K,bf,?_⟩;exact ZM d e
theorem XZ:bk 172 JV:=by
 refine iB func172 ?_;rintro d m h K ⟨s,t,r,c,rfl,e,f,g,j⟩;refine⟨VD s t m h,rfl,aD EH aF,GM s t m h K,bf,?_⟩;exact ZL e f g j
theorem kW.get1{m0:MH}{y:Nat}{kk:cj}{us:ByteArray->ca}{key:ByteArray}{K0:Prop}{K:Sl->Prop}(g:kW m0 m y kk us)(d:∀s,BU kk key s->K s)(e:K ⟨none,0,0⟩=K0):
 ∃(c:List (Value×Sl))(Ok:Value->Prop),mJ m y (c.map λp=>(p.1,dT p.2))/\KeyLaw Tryz.prog 9 Ok/\Ok (.string key)/\(∀e,List.Mem e c->Ok e.1)/\((∀e,List.Mem e c->e.1=Value.string key->False)->K0)/\∀t,List.Mem (Value.string key,t) c->K t:=g.get2 (λf=>e▸d _ f) d
theorem Yu:bk 124 beJ:=by
 refine Tm func124 ?_;rintro d1 m h K ⟨v,on,s1,s2,E,f,rfl,ho,P,Q,hT,c1,d2,hK⟩;refine⟨a0X,rfl,aD O0 (aD BK (aD XZ (aD OS aF))),K5 v s1 s2 m h (cE h K),bf,?_⟩;show K5 v s1 s2 m h (cE h K);dsimp only[K5,push_cast];obtain⟨-,wa,wb,n,d,c2,a9⟩:=c1;have n:gR wa E:=n;have d:gR wb f:=d;have d3:=n.len;have d':=d.len;refine⟨v.on,on,rfl,ho,λsa sb h1 B R b' y m2 b0 a2=>?_⟩;obtain⟨st,ny⟩:=gH (Sub.refl m) b0 a2;have b1:m2 y=some (.map #[] 0):=a2.at_;have W:∀{mx kk us},kW m2 mx y kk us->Sub m mx:=λg z o F=>g.old z o (st z o F) (λO=>by rw[O,ny]at F;cases F);clear a2 b0;have P:=bN.mono P B (λ_ _ h=>bP.mono h B);have Q:=bN.mono Q B (λ_ _ h=>bP.mono h B);have b2:=bN.slen P;have b3:=bN.slen Q;refine⟨λx=>x.1<=f.length/\x.2.1=y/\x.2.2.1=s1/\x.2.2.2.1=sa/\x.2.2.2.2.1=sb/\x.2.2.2.2.2.1=s2/\x.2.2.2.2.2.2.2=h1/\Lp m2 x.2.2.2.2.2.2.1 h1 y (under nW (dV on) (f.take x.1)),λx=>f.length-x.1,⟨(0,y,s1,sa,sb,s2,m2,h1),⟨Nat.zero_le _,rfl,rfl,rfl,rfl,rfl,rfl,⟨[],_,kW.new b1,λk=>by simpa[under]using eE.nil h1⟩⟩,MT⟩,?_⟩;rintro⟨i,y',t1,ta,tb,t2,mx,hx⟩ ⟨hi,X,F,O,Y,S,e6,⟨kk,uk,g,hg⟩⟩;dsimp only at hi X F O Y S e6 g hg⊢
 subst X F O Y S e6;refine aE (λa3=>?_) (λb4=>?_)
 .obtain⟨r,H⟩:=eN b3 a3;obtain⟨b,o,u,ea,rd,T⟩:=bN.at Q H;have A:=mem_of_getElem? H;have C:hZ r.length (dV on):=by rw[d.wid r A];exact a9
  rw[iJ aC];refine⟨b,o,ea,aC,aC,u,.imm rd,u,tb,r,dV on,rfl,T,b',C,aB (λc=>?_) (λc=>?_)⟩
  .have hl:(uk (nW (pick r (dV on)))).length<=502633886983:=by
    have h5:=(hg (nW (pick r (dV on)))).len;have h6:(under nW (dV on) (f.take i) (nW (pick r (dV on)))).length<=(f.take i).length:=length_filter_le _ _;rw[length_take]at h6;omega
   exact⟨u,tb,r,dV on,rfl,T,b',d.row r A,C,hT.sub (W g),g.get1 (λs hs=>g.appV ⟨_,b1⟩ hl (λm' d4 g'=>⟨(i+1,y',t1,ta,tb,t2,m',hx),⟨by dsimp only;omega,rfl,rfl,rfl,rfl,rfl,rfl,Lp.upd g' hg T (by rw[xX H,if_pos];simpa[vY]using c) (λk2 c3=>by rw[xX H,if_neg,append_nil];simp[Ne.symm c3])⟩,by dsimp only;omega,MT⟩) hs) rfl⟩
  .refine⟨(i+1,y',t1,ta,tb,t2,mx,hx),⟨by dsimp only;omega,rfl,rfl,rfl,rfl,rfl,rfl,⟨kk,uk,g,λk2=>?_⟩⟩,by dsimp only;omega,MT⟩;dsimp only;rw[xX H,if_neg,append_nil]
   .exact hg k2
   .simp[vY,c]
 .rw[take_of_length_le aC]at hg;have gx:∀{Z},PH.le hx Z->∀key,eE Z (uk key) (under nW (dV on) f key):=λle key=>(hg key).mono le;have sx:=W g;refine⟨λx=>x.1<=E.length/\x.2.1=y'/\x.2.2.1=t1/\x.2.2.2.1=ta/\x.2.2.2.2.2.1=mx/\PH.le hx x.2.2.2.2.2.2/\eE x.2.2.2.2.2.2 x.2.2.2.2.1 ((E.take x.1).flatMap (jL on f)),λx=>E.length-x.1,⟨(0,y',t1,ta,[],mx,hx),⟨Nat.zero_le _,rfl,rfl,rfl,rfl,.refl _,bj (eE.nil hx)⟩,MT⟩,?_⟩;rintro⟨k,y2,a4,I,us,my,hy⟩ ⟨hk,X,F,O,Y,le,D⟩;dsimp only at hk X F O Y le D⊢
  subst X F O Y;refine aE (λa3=>?_) (λb4=>?_)
  .obtain⟨r,H⟩:=eN b2 a3;obtain⟨b,o,u,ea,rd,T⟩:=bN.at P H;have A:=mem_of_getElem? H;have C:hZ r.length (iD on):=by rw[n.wid r A];exact c2
   have T:=bP.mono T le;have R:=R.mono le;rw[iJ aC];refine⟨b,o,ea,aC,aC,u,.imm (rd.mono le),u,I,r,iD on,rfl,T,R,C,aB (λc=>?_) (λc=>?_)⟩
   .refine⟨(k+1,y2,a4,I,us,my,hy),⟨by dsimp only;omega,rfl,rfl,rfl,rfl,le,?_⟩,by dsimp only;omega,MT⟩;have:jL on f r=[]:=if_neg (by simpa[vY]using c);dsimp only;rw[qG _ H,this,append_nil];exact D
   .have c:(pick r (iD on)).all l9=true:=bj c
    have c4:under nW (dV on) f (nW (pick r (iD on)))=f.filter λy=>vY (dV on) y&&agree on r y:=by
     refine filter_congr λz Z=>?_;congr 1;have h5:=Bo Jk (n.row r A) (d.row z Z) C (by rw[d.wid z Z];exact a9);cases S:agree on r z with
     |true=>exact decide_eq_true (h5.2 S).symm
     |false=>exact decide_eq_false λe6=>by rw[h5.1 e6.symm]at S;cases S
    have a5:jL on f r=(under nW (dV on) f (nW (pick r (iD on)))).map (r++ ·):=by rw[c4];exact if_pos (by simpa[vY]using c)
    have b5:((E.take k).flatMap (jL on f)).length+(under nW (dV on) f (nW (pick r (iD on)))).length<=1000000:=by
     have h5:((E.take (k+1)).flatMap (jL on f)).length<=(E.take (k+1)).length*f.length:=sD λx _=>vN;rw[qG _ H,length_append,a5,length_map]at h5;have h6:(E.take (k+1)).length*f.length<=E.length*f.length:=Nat.mul_le_mul_right _ (by rw[length_take];omega);omega
    have a6:=gx le (nW (pick r (iD on)));generalize hG:under nW (dV on) f (nW (pick r (iD on)))=G at a5 b5 a6;have c5:=a6.len;refine⟨u,I,r,iD on,rfl,T,R,n.row r A,C,hT.sub sx,g.get1 (λs hs=>?_) rfl⟩;refine⟨λz=>z.1<=G.length/\z.2.1=k/\z.2.2.1=y2/\z.2.2.2.1=a4/\z.2.2.2.2.1=I/\z.2.2.2.2.2.1=u/\z.2.2.2.2.2.2.1=s/\z.2.2.2.2.2.2.2.2.1=my/\PH.le hy z.2.2.2.2.2.2.2.2.2/\eE z.2.2.2.2.2.2.2.2.2 z.2.2.2.2.2.2.2.1 ((E.take k).flatMap (jL on f)++(G.take z.1).map (r++ ·)),λz=>G.length-z.1,⟨(0,k,y2,a4,I,u,s,us,my,hy),⟨Nat.zero_le _,rfl,rfl,rfl,rfl,rfl,rfl,rfl,.refl _,bj D⟩,MT⟩,?_⟩;rintro⟨j,k',y3,a',a0,ee,gg,b6,mz,Z⟩ ⟨U,X,F,O,Y,S,e6,e7,J,L⟩;dsimp only at U X F O Y S e6 e7 J L⊢
    subst X F O Y S e6 e7;have a1:=(hs.row g).1;have c6:=a1.slen;rw[length_map,c5]at c6;refine aE (λd0=>?_) (λb4=>?_)
    .have b7:j<G.length:=by omega
     obtain⟨w,hw,c7⟩:=a6.at_ j _ (getElem?_eq_getElem b7);obtain⟨b8,e8,c8⟩:=a1.rd (h:=Z) (i:=j) (e:=[dT w]) (by rw[getElem?_map,hw];rfl);have b9:=L.len;simp only[length_append,length_map,length_take]at b9;rw[iJ aC];refine⟨b8,0,e8,aC,aC,w,bj c8,λc9 h3 V a7=>⟨c9,[r,G[j]],rfl,?_,bg,?_,λsl h4 c' c0=>⟨by rw[length_map];omega,by rw[length_map];omega,(j+1,k',y3,a',a0,ee,gg,b6++[sl],mz,h4),⟨by dsimp only;omega,rfl,rfl,rfl,rfl,rfl,rfl,rfl,J.trans (V.trans c'),?_⟩,by dsimp only;omega,?_⟩⟩⟩
     .refine eE.rows (us:=[ee,w]) ?_ a7 bg;refine⟨rfl,λj z U=>?_⟩
      match j,U with
      |0,U=>
       simp at U;subst U;exact⟨ee,rfl,bP.mono T (J.trans V)⟩
      |1,U=>
       simp at U;subst U;exact⟨w,rfl,bP.mono c7 (J.trans V)⟩
     .intro z M;have M:z∈[r,G[j]]:=M;rcases mem_cons.1 M with rfl|M
      .exact(n.row _ A).len
      .have e7:=mem_singleton.1 M
       have:z∈f:=by
        have h9:z∈under nW (dV on) f (nW (pick r (iD on))):=by rw[hG,e7];exact getElem_mem _
        exact(mem_filter.1 h9).1
       exact(d.row _ this).len
     .have e7:(G.take (j+1)).map (r++ ·)=(G.take j).map (r++ ·)++[r++G[j]]:=by rw[take_add_one,getElem?_eq_getElem b7,map_append];rfl
      dsimp only;rw[e7, <-append_assoc];exact(L.mono (V.trans c')).snoc (bj c0)
     .dsimp only;rw[map_append];exact MT
    .have:j=G.length:=by omega
     subst this;rw[iJ aC];refine⟨(k'+1,y3,a',a0,b6,mz,Z),⟨by dsimp only;omega,rfl,rfl,rfl,rfl,le.trans J,?_⟩,by dsimp only;omega,MT⟩;dsimp only;rw[qG _ H,a5];rw[take_length]at L;exact L
  .rw[take_of_length_le aC]at D
   refineλs h' a8 a7=>cE.sub sx (B.trans (le.trans a8)) (hK s h' (B.trans (le.trans a8)) ((D.mono a8).rows a7 ?_))
   have h5:(E.flatMap (jL on f)).length<=E.length*f.length:=sD λx _=>vN;have h6:=D.len;omega
def Y6:Vc.Spec:=λc m h K=>∃u b v w r,c=[cS u,cP b]/\m b=some (.cells ⟨l7.enc v⟩ 111 (0,0))/\eW h w v.where_/\bP h u r/\K (cB (lM r w)) m h
def bfX(t:Bool):Vc.Spec:=λc m h K=>∃u b s l r,c=[cS u,cP b]/\m b=some (.cells #[.slice s.a s.len s.cap] 68 (0,0))/\Rows h s l/\nJ l/\bP h u r/\l.length<=1000000/\K (cB (LW l r==t)) m h
def bbQ:Vc.Spec:=λe m h K=>∃u d f y s r c ks,e=[cS u,cP d,cP f]/\m d=some (.cells #[.map (some y)] 182 (0,0))/\m f=some (.cells #[.slice s.a s.len s.cap] 30 (0,0))/\pC m y ks/\Ints h s c/\bP h u r/\Mq r/\hZ r.length c/\dU m/\∀t:Bool,(t=true↔nW (pick r c)∈ks)->K (cB t) m h
def biQ:Vc.Spec:=λc m h K=>∃i:Nat,∃d e f v od g s rs r x,c=[cI i,cP d,cP e,cP f]/\m d=some (.cells ⟨l7.enc v⟩ 111 (0,0))/\m e=some (.cells #[Sl.val g] 68 (0,0))/\m f=some (.cells #[Sl.val s] 100 (0,0))/\gZ h v.order od/\Rows h g rs/\bP h s r/\rs[i]? =some x/\
 K (cB (decide (jZ od x r>=0))) m h
def Wl:Vc.Spec:=λc m h K=>∃(n d e f:Nat)(v:l7)(od:bz)(g s:Sl)(rs:bt)(r:bu)(w:Nat),c=[cI n,.val (.func (.func 135) #[] #[.pointer (some ⟨d,0,none⟩),.pointer (some ⟨e,0,none⟩),.pointer (some ⟨f,0,none⟩)])]/\
 m d=some (.cells ⟨l7.enc v⟩ 111 (0,0))/\m e=some (.cells #[Sl.val g] 68 (0,0))/\m f=some (.cells #[Sl.val s] 100 (0,0))/\gZ h v.order od/\Rows h g rs/\bP h s r/\rs.length=n/\qH od rs/\(∀x∈rs,x.length=w)/\r.length=w/\
 K (cI ((rs.countP λy=>decide (jZ od y r<0):Nat):Int)) m h
def Y2:Vc.Spec:=λc m h K=>∃u d e v y gr od l f g r w,c=[cS u,cP d,cP e]/\m d=some (.cells #[.map (some y)] 185 (0,0))/\m e=some (.cells ⟨l7.enc v⟩ 111 (0,0))/\pE nW m h y gr od l f g/\gR w l/\hZ w gr/\Ints h v.group gr/\gZ h v.order od/\bP h u r/\Mq r/\r.length=w/\dU m/\
 K (cB (decide (((l.countP λy=>LF gr r y&&decide (jZ od y r<0):Nat):Int)<v.limit))) m h
def Wm:Vc.Spec:=λe m h K=>∃v t f g c d,e=[aT v,cS f,cS g]/\rR h t v/\Rows h f c/\Rows h g d/\dU m/\2<=t.op/\t.op<=10/\NZ t.op t.query [c,d]/\c.length<=1000000/\d.length<=1000000/\∀j h',PH.le h h'->Rows h' j (WQ t.op t.query [c,d])->K (cS j) m h'
noncomputable def aZX:Ctx:=pF [(126,Sr),(134,Wl)] [] [(2,{A:=Nat×Nat×Nat×MH×PH,st:=λ⟨q,e,g,m,h⟩=>bO 21 24 [(2,pv q),(3,pv e),(5,pv g)] [] m h})] [] [200003,200005,0] [] false
noncomputable def brZ:Ctx:=pF [(120,bIQ),(123,baJ),(124,beJ),(125,Lk),(126,Sr),(128,Sv),(132,Wt)]
 [(7,{A:=Nat×Nat×Sl×ca×MH×PH,st:=λ⟨i,b,s,c,m,h⟩=>bO 140 143 [(3,pv b),(7,.at (.lst 33)),(34,sv s),(35,iv s.len),(36,iv i)] [(33,.lst 100 1 (c.map eS))] m h}),
  (11,{A:=Nat×Nat×Nat×Sl×Sl×Sl×ca×bu×MH×PH,st:=λ⟨k,i,b,s,u,co,c,l,m,h⟩=>bO 140 143 [(3,pv b),(7,.at (.lst 33)),(9,sv u),(10,.at (.lst 43)),(34,sv s),(35,iv s.len),(36,iv i),(45,sv co),(46,iv co.len),(47,iv k)] [(33,.lst 100 1 (c.map eS)),(43,.lst 24 3 (l.map VV.enc))] m h}),
  (24,{A:=Nat×Nat×Nat×Sl×Sl×Sl×MH×PH,st:=λ⟨i,a,b,s,t,r,m,h⟩=>bO 140 143 [(1,sv s),(13,pv a),(14,sv t),(15,pv b),(82,sv r),(83,iv r.len),(84,iv i)] [] m h}),
  (38,{A:=Nat×ca×Nat×MH×PH,st:=λ⟨b,c,r,m,h⟩=>bO 140 143 [(3,pv b),(18,.at (.lst 131)),(118,pv r)] [(131,.lst 100 1 (c.map eS))] m h})] [] [] [200003,200005,200013,200015,200021,400000,410000,0] [] false
def azZ(u:Sl)(b:Nat)(m:MH)(h:PH)(K:bo):Prop:=
  ∃(y:PV),aJ m h b 2 y.enc/\Gt (λv s p r=>aA (wP y u=wP v s) (eW h p v) (bP h s r/\K (Ah (lM r p)) m h))
def azX(u:Sl)(a b:Nat)(m:MH)(h:PH)(K:bo):Prop:=
  ∃(y:Nat),aJ m h a 0 (lV y)/\∃(d:Sl),aA (aJ m h b 0 (aM d)) (cV m h a y) (∃(s:Sl),Ci u d s h m a y (λ_ _=>aJ m h b 0 (aM d)) (λr c=>∃(k:de)(O:Value->Prop),aA (mJ m y (List.map (fun(p:Value×Bool)=>(p.1,Value.bool p.2)) k)) (Cd 9 O) (aA (O (fZ r c)) (∀(e:Value×Bool),List.Mem e k->O e.1) (((∀(e:Value×Bool),Ek e k (fZ r c))->K aX m h)/\∀(f:Bool),List.Mem (fZ r c,f) k->K (Ah f) m h))))
def azQ(u:Sl)(b:Nat)(m:MH)(h:PH)(K:bo):Prop:=
  rI m h b 0 (λy s=>HC (λc l=>∃(r:bu),aA (cA y u=cA s c) (Rows h s l) (aA (nJ l) (bP h c r) (l.length<=1000000/\K (CV.val (Value.bool (!(LW l r)))) m h))))
def ayZ(u:Sl)(b:Nat)(m:MH)(h:PH)(K:bo):Prop:=
  rI m h b 0 (λy s=>HC (λc l=>∃(r:bu),aA (cA y u=cA s c) (Rows h s l) (aA (nJ l) (bP h c r) (l.length<=1000000/\K (Ah (LW l r)) m h))))
def RL(i:Nat)(g d j:Nat)(m:MH)(h:PH)(K:bo):Prop:=
  rI m h g 18 (λy c=>aJ m h d 0 (aM c)/\aK (λb o=>aA (aL c.a b o) (0<=(↑i:Int)) ((↑i:Int)<aG c/\rI m h b (bK o i 1) (λn e=>aA (aJ m h j 0 (aM e)) (aJ m h d 0 (aM c)) (mS (λu s=>SZ (λt f=>ID y n e u s t h f (λa z=>aJ m h d 0 (aM c)/\K (Ah (decide (jZ f a z>=0))) m h))))))))
abbrev DV(a:MH)(b:Nat)(c:Value)(d:MH->(Nat×Nat×Nat×MH×PH)->Prop):Prop:=Fp (λx e=>aA (Lo a b (qL x e 0)) (0<x.size) (∀(f:MH),cM a f b (xS c 1 x.toList) e->∃(g:Nat×Nat×Nat×MH×PH),d f g))
attribute [push_cast] DV
def K3(u:Sl)(a b:Nat)(m:MH)(h:PH)(K:bo):Prop:=
  fR (λj d=>aY (bW m h j) (cM m d j (aM u) 100) (∃(I:Nat×Nat×Nat×MH×PH->Prop),(∃(y:Nat),aJ d h a 0 (lV y)/\∃(z:Sl),aJ d h j 0 (aM z)/\∃(A:Sl),aA (aJ d h b 17 (aM A)) (aJ d h a 0 (lV y)/\∃(s:Sl),Ci z A s h d a y (λr c=>aA (aJ d h j 0 (aM z)) (aJ d h b 17 (aM A)) (p8 d y (λO=>O (fZ r c)) (fZ r c) (aA (cV d h a y) (aJ d h j 0 (aM z)) (aJ d h b 17 (aM A)/\fR (λe f=>aY (bW d h e) (cM d f e gA 68) (DV f e rV (λB x=>Ch I x b j e B h))))) (λC=>aA (cV d h a y) (aJ d h j 0 (aM z)) (aJ d h b 17 (aM A)/\fR (λe f=>aY (bW d h e) (cM d f e gA 68) (DV f e (dT C) (λB x=>Ch I x b j e B h))))))) (λr c=>
 aA (cV d h a y) (aJ d h j 0 (aM z)) (aJ d h b 17 (aM A)/\fR (λe f=>aY (bW d h e) (cM d f e gA 68) (aA (aJ f h j 0 (aM z)) (aJ f h b 17 (aM A)) (p8 f y (λO=>O (fZ r c)) (fZ r c) (DV f e rV (λB x=>Ch I x b j e B h)) (λC=>DV f e (dT C) (λB x=>Ch I x b j e B h)))))))) (aA (cV d h a y) (aJ d h j 0 (aM z)) (aJ d h b 17 (aM A)/\fR (λe f=>aY (bW d h e) (cM d f e gA 68) (aJ f h a 0 (lV y)/\∃(s:Sl),Ci z A s h f a y (λ_ _=>aJ f h j 0 (aM z)) (λr c=>aJ f h b 17 (aM A)/\p8 f y (λO=>O (fZ r c)) (fZ r c) (DV f e rV (λB x=>Ch I x b j e B h)) (λC=>DV f e (dT C) (λB x=>Ch I x b j e B h))))))))/\∀
 (x:Nat×Nat×Nat×MH×PH),I x->∃(y:Sl),aJ (jS x) (iE x) (fT x) 0 (aM y)/\aK (λn e=>aK (λE F=>∃(v:l7)(o:bz),Kl (λg s r=>∃(D:bu)(w:Nat),aA (gJ (fQ (aG y)) (IY 135 x.1 (fT x) (fU x) 0)=gJ (fQ (↑n:Int)) (IY 135 e E F 0)) ((fW x).1 e=Option.some (qL (Array.mk v.enc) 111 0)) (aA ((fW x).1 E=Option.some (qL (Array.mk (aM g)) 68 0)) ((fW x).1 F=Option.some (qL (Array.mk (aM s)) 100 0)) (aA (gZ (iE x) v.order o) (Rows (iE x) g r) (aA (bP (iE x) s D) (r.length=n) (aA (qH o r) (IK r (λG=>G.length=w)) (D.length=w/\uN (jS x) (iE x) x.1 19 (λz=>K (CV.val (Value.bool (decide ((↑(countP (fun(A:bu)=>decide (jZ o A D<0)) r):Int)<z)))) (jS
 x) (iE x))))))))))))
abbrev DK(a:bt):Prop:=a.length<=1000000
abbrev IE(a:cq)(b:PH)(c:Nat->bm->bt->(bu->Bool)->Sl->bu->Prop)(d:bo)(e:MH):Prop:=∃(x:Sl),Oc (λg j=>∃(f:bt)(n:bu->Bool),aA (a=eJ x (DY (Fn.func g) (Array.mk j))) (Rows b x f) (aA (DK f) (∀(o:Sl)(u:bu),c g j f n o u) (I9 b n f d e)))
noncomputable abbrev zN(a:Nat×Nat×Sl×ca×MH×PH):Sl:=a.2.2.1
noncomputable abbrev IZ(a:Nat×Nat×Sl×ca×MH×PH):List bm:=kS a.2.2.2.1
noncomputable abbrev qF(a:Nat×Nat×Sl×ca×MH×PH):MH×PH:=a.2.2.2.2
noncomputable abbrev Gu(a:Nat×Nat×Nat×Sl×Sl×Sl×ca×bu×MH×PH):Sl:=a.2.2.2.2.1
noncomputable abbrev Bb(a:Nat×Nat×Nat×Sl×Sl×Sl×ca×bu×MH×PH):Sl:=a.2.2.2.1
noncomputable abbrev zM(a:Nat×Nat×Nat×Sl×Sl×Sl×ca×bu×MH×PH):Sl:=a.2.2.2.2.2.1
noncomputable abbrev Em(a:Nat×Nat×Nat×Sl×Sl×Sl×ca×bu×MH×PH):List bm:=kS a.2.2.2.2.2.2.1
noncomputable abbrev El(a:Nat×Nat×Nat×Sl×Sl×Sl×ca×bu×MH×PH):List bm:=C4 a.2.2.2.2.2.2.2.1
noncomputable abbrev tA(a:Nat×Nat×Nat×Sl×Sl×Sl×ca×bu×MH×PH):MH×PH:=a.2.2.2.2.2.2.2.2
noncomputable abbrev En(a:Nat×Nat×Nat×Sl×Sl×Sl×MH×PH):Sl:=a.2.2.2.1
noncomputable abbrev oT(a:Nat×Nat×Nat×Sl×Sl×Sl×MH×PH):Sl×Sl×MH×PH:=a.2.2.2.2
noncomputable abbrev zO(a:Nat×Nat×Nat×Sl×Sl×Sl×MH×PH):Nat:=a.2.2.1
noncomputable abbrev rM(a:Nat×Nat×Nat×Sl×Sl×Sl×MH×PH):Sl:=(oT a).2.1
noncomputable abbrev wR(a:Nat×Nat×Nat×Sl×Sl×Sl×MH×PH):Nat->Option Obj:=(cX (oT a)).1
noncomputable abbrev zU(a:Nat×Nat×Nat×Sl×Sl×Sl×MH×PH):Nat->Nat->Option Value:=(cX (oT a)).2
noncomputable abbrev GA(a:Nat×ca×Nat×MH×PH):Nat:=a.2.2.1
attribute [push_cast] DK IE zN IZ qF Gu Bb zM Em El tA En oT zO rM wR zU GA
def OC(v:l7)(G s2:Sl)(m:MH)(h:PH)(K:bo):Prop:=
  fR (λb m1=>aY (bW m h b) (cM m m1 b v.enc 111) (fR (λS n=>aY (bW m1 h S) (cM m1 n S (aM s2) 68) (uN n h b 0 (λy=>dN (y==2) (IE (eJ G (mM 121 b)) h (λg c l p u r=>aY (List.Mem r l) (bP h u r) (Eo g 4 u c n h (λx=>fun(C:MH)=>fun(f:PH)=>aA (x=qV (p r)) (C=n) (f=h)))) K n) (y==3) (aA (cF 0) (cF (aG G)) (aA (z8 G 24) (yJ (aG G)) (∃(I:Nat×Nat×Sl×ca×MH×PH->Prop)(C:Nat×Nat×Sl×ca×MH×PH->Nat),(∃(x:Nat×Nat×Sl×ca×MH×PH),aA (I x) (cH b x.2.1) (aA (eL 33) (bB G (zN x)) (aA (bQ G (zN x)) (bC x.1) (aA (Cy (IZ x)) (cT n (qF x)) (j4 (eA h (qF x)))))))/\∀(x:Nat×Nat×Sl×ca×MH×PH),I x->aZ (↑x.1:Int) (aG
 (zN x)) (aK (λH o=>aA (aL (zN x).a H o) (0<=(↑x.1:Int)) ((↑x.1:Int)<aG (zN x)/\∃(E:Sl),aJ (qF x).1 (qF x).2 H (bK o x.1 1) (aM E)/\∃(A:Sl),aA (aJ (qF x).1 (qF x).2 x.2.1 15 (aM A)) (cF (aG A)) (aA (aG A<=aG A) (z8 A 32) (yJ (aG A)/\∃(F:Sl),aJ (qF x).1 (qF x).2 x.2.1 15 (aM F)/\∃(I1:Nat×Nat×Nat×Sl×Sl×Sl×ca×bu×MH×PH->Prop)(L:Nat×Nat×Nat×Sl×Sl×Sl×ca×bu×MH×PH->Nat),(∃(d:Nat×Nat×Nat×Sl×Sl×Sl×ca×bu×MH×PH),aA (I1 d) (cH x.2.1 d.2.2.1) (aA (eL 33) (bB E (Gu d)) (aA (eL 43) (bB (zN x) (Bb d)) (aA (bQ (zN x) (Bb d)) (cG x.1 d.2.1) (aA (bB F (zM d)) (bQ F (zM d)) (aA
 (bC d.1) (lJ (IZ x) (Em d)) (aA (F8 (replicate (aG A).toNat wQ) (El d)) (eU (qF x) (tA d)) (cW (qF x) (tA d)/\True))))))))/\∀(d:Nat×Nat×Nat×Sl×Sl×Sl×ca×bu×MH×PH),I1 d->aZ (↑d.1:Int) (aG (zM d)) (aK (λT U=>aA (aL (zM d).a T U) (0<=(↑d.1:Int)) ((↑d.1:Int)<aG (zM d)/\∃(D:Int),aJ (tA d).1 (tA d).2 T (bK U d.1 1) (bL D)/\aK (λV o2=>aA (aL (Gu d).a V o2) (0<=D) (D<aG (Gu d)/\∃(W:VV),aA (aJ (tA d).1 (tA d).2 V (fX o2 D 3) W.enc) (0<=(↑d.1:Int)) ((↑d.1:Int)<lU (El d)/\∃(e:bm),aA (jC (El d) (lK d.1) e) (3<=e.length) (∃(j:Nat×Nat×Nat×Sl×Sl×Sl×ca×bu×
 MH×PH),aA (I1 j) (L j<L d) (aA (cH d.2.2.1 j.2.2.1) (eL 33) (aA (bB (Gu d) (Gu j)) (eL 43) (aA (bB (Bb d) (Bb j)) (bQ (Bb d) (Bb j)) (aA (cG d.2.1 j.2.1) (bB (zM d) (zM j)) (aA (bQ (zM d) (zM j)) (bD (fP (bE d.1 1)) j.1) (aA (lJ (Em d) (Em j)) (F8 (List.set (El d) (lK d.1) (bA (fD W.kind) (fD W.int) (xS (Value.string W.text) 3 e))) (El j)) (aA (eU (tA d) (tA j)) (cW (tA d) (tA j)) True)))))))))))))) (bZ (tA d).2 3 (El d) (λs f=>aA (iL (Em d)) (dO (Em d)) (∃(j:Nat×Nat×Sl×ca×MH×PH),aA (I j) (C j<C x) (aA (cH d.2.2.1 j.2.1) (eL 33) (aA (bB (Bb d) (zN j)) (bQ (Bb d) (zN j)) (aA
 (bD (fP (bE d.2.1 1)) j.1) (lJ (iN (Em d) s) (IZ j)) (gX (eU (tA d) (qF j)) (eA f (qF j)))))))))))))) (bZ (qF x).2 1 (IZ x) (λs f=>∃(z:Sl),DW s z (qF x).1 f K))))) (dN (y==4) (∃(E:l7),aJ n h b 0 E.enc/\∃(A:Sl),aJ n h S 0 (aM A)/\∃(J:l7)(o:bx),Kl (λs z l=>∃(B:bt),aA (cJ E.enc (cA G A)=cJ J.enc (cA s z)) (jK h J.on o) (aA (Rows h s l) (Rows h z B) (aA (dU n) (blQ o [l,B]) (l.length*B.length<=1000000/\uU h (flatMap (jL o B) l) K n))))) (y==5) (rI n h b 16 (λE s=>∃(o:bx),aA (gW E=gW s) (jK h s o) (∀(a H:Sl)(f:PH),dA h f (Ints f a (iD o)) (Ints f H (dV o)->fR (λT C=>aY
 (bW n f T) (cM n C T gA 30) (fN C T (dT a) (λL=>uL L f (λV M=>fR (λX P=>aY (bW M f X) (cM M P X (jD CY) 182) (fN P X (BE V) (λm7=>∃(A:Sl),aJ m7 f S 0 (aM A)/\∃(I:Nat×Nat×Nat×Sl×Sl×Sl×MH×PH->Prop)(Y:Nat×Nat×Nat×Sl×Sl×Sl×MH×PH->Nat),(∃(x:Nat×Nat×Nat×Sl×Sl×Sl×MH×PH),aA (I x) (bB G (En x)) (aA (cH T x.2.1) (bB H (oT x).1) (aA (cH X (zO x)) (bB A (rM x)) (aA (bQ A (rM x)) (bC x.1) (gX (cT m7 (cX (oT x))) (eA f (cX (oT x))))))))/\∀(x:Nat×Nat×Nat×Sl×Sl×Sl×MH×PH),I x->aZ (↑x.1:Int) (aG (rM x)) (aK (λb6 U=>aA (aL (rM x).a b6 U) (0<=(↑x.1:Int)) ((↑x.1:Int)<aG (rM x)/\∃(F:
 Sl),aJ (wR x) (zU x) b6 (bK U x.1 1) (aM F)/\∃(D:Nat),aA (cV (wR x) (zU x) (zO x) D) (cV (wR x) (zU x) (zO x) D) (∃(z:Sl),yI (λt r c=>aA (cA F (oT x).1=cA z t) (bP (zU x) z r) (aA (Ints (zU x) t c) (Mq r) (aA (yH r c) (dU (wR x)) (cV (wR x) (zU x) (zO x) D/\oC (wR x) D (λO=>O (fZ r c)) (fZ r c) (λk=>∀(Q:MH),aY (iH (wR x) Q D) (mH Q D (Ev k (fZ r c))) (∃(d:Nat×Nat×Nat×Sl×Sl×Sl×MH×PH),aA (I d) (Y d<Y x) (aA (bB (En x) (En d)) (cH x.2.1 d.2.1) (aA (bB (oT x).1 (oT d).1) (cH (zO x) (zO d)) (aA (bB (rM x) (rM d)) (bQ (rM x) (rM d)) (aA (bD (fP (bE x.1 1)) d.1) (cT
 Q (cX (oT d))) (cW (cX (oT x)) (cX (oT d))/\True))))))) (λl J B=>fK l (fZ r c) J B) (λl B=>∀(Q:MH),aY (iH (wR x) Q D) (mH Q D (fK l (fZ r c) BF B)) (∃(d:Nat×Nat×Nat×Sl×Sl×Sl×MH×PH),aA (I d) (Y d<Y x) (aA (bB (En x) (En d)) (cH x.2.1 d.2.1) (aA (bB (oT x).1 (oT d).1) (cH (zO x) (zO d)) (aA (bB (rM x) (rM d)) (bQ (rM x) (rM d)) (aA (bD (fP (bE x.1 1)) d.1) (cT Q (cX (oT d))) (cW (cX (oT x)) (cX (oT d))/\True))))))))))))))) (IE (eJ (En x) (DY (Fn.func 127) (Array.mk (gV (WE (zO x) 0) (WE x.2.1 0))))) (zU x) (λg c l p u r=>aY (List.Mem r l) (bP (zU x) u r) (Eo g 4 u c (wR x) (zU x) (λd
 =>fun(Q:MH)=>fun(R:PH)=>aA (d=qV (p r)) (cT Q (cX (oT x))) (eA R (cX (oT x)))))) K (wR x))))))))))))) (dN (y==6) (∃(E:Sl),aJ n h S 0 (aM E)/\bZ h 1 (aM G::iA (aM E)) (λs f=>HC (λz l=>∃(B:bt),aA (gW s=gW z) (Leaves f z [l,B]) (aA (DK l) (DK B) (∀(Z:Sl)(R:PH),dA f R (Rows R Z (l++B)) (∃(s5:Sl),DW Z s5 n R K)))))) (y==7) (IE (eJ G (mM 129 S)) h (λg c l p u r=>aY (List.Mem r l) (bP h u r) (Eo g 4 u c n h (λx=>fun(C:MH)=>fun(f:PH)=>aA (x=qV (p r)) (C=n) (f=h)))) K n) (dN (y==8) (IE (eJ G (mM 131 S)) h (λg c l p u r=>aY (List.Mem r l) (bP h u r) (Eo g 4 u c n h (λx=>fun(C:MH)=>fun(f:PH)=>aA (x=
 qV (p r)) (C=n) (f=h)))) K n) (y==9) (∃(E:l7),aJ n h b 0 E.enc/\∃(J:l7),Ob (λs g o=>∃(l:bt)(w:Nat),Gv (gJ (jR E.enc) (rC G)) (gJ (jR J.enc) (rC s)) h J.group g (gZ h J.order o) (Rows h s l) w l n (λA C f k g1=>Gh n A C (dA h f (pE nW C f A g o l k g1) (IG C A f (λr L=>∃(I:Nat×ca×Nat×MH×PH->Prop)(M:Nat×ca×Nat×MH×PH->Nat),(∃(x:Nat×ca×Nat×MH×PH),aA (I x) (cH b x.1) (aA (eL 131) (cH r (GA x)) (aA (Cy (kS x.2.1)) (cT L x.2.2.2) (eA f x.2.2.2/\True))))/\∀(x:Nat×ca×Nat×MH×PH),IF (I x) (mO x.2.2) (GA x) (λB=>B=[]->bZ (jO x.2.2) 1 (kS x.2.1) (λz R=>∃(Z:Sl),DW z Z (mO x.2.2) R K)) (λP=>N9 (λH
 k1 B d=>CT P H (GA x) k1 B d/\∃(z:Sl),d.2=dT z/\∃(F:Int),aA (aJ P (jO x.2.2) x.1 19 (bL F)) (0<=pR z F) (pR z F<=(↑z.cap:Int)/\∃(D:List bm),aA (eR 1 D) (sI P (jO x.2.2) (Sl.mk z.a (pR z F).toNat z.cap) 1 D) (aA (rY (kS x.2.1) D 24) (rZ (kS x.2.1) D) (∃(j:Nat×ca×Nat×MH×PH),aA (I j) (M j<M x) (aA (cH x.1 j.1) (eL 131) (aA (cH (GA x) (GA j)) (lJ (kS x.2.1++D) (kS j.2.1)) (aA (cT P j.2.2.2) (cW x.2.2.2 j.2.2.2) True)))))))))))))) (∃(E:l7),aJ n h b 0 E.enc/\∃(A:Sl),aJ n h S 0 (aM A)/\∃(J:l7),Ob (λs g o=>∃(l:bt)(w:Nat),Gv (gJ (jR E.enc) (rC A)) (gJ (jR J.enc) (rC s)) h J.group g (gZ h J.order o) (Rows h s l)
 w l n (λF C f k g1=>Gh n F C (dA h f (pE nW C f F g o l k g1) (fR (λH L=>aY (bW C f H) (cM C L H (jD CY) 185) (fN L H (BE F) (λM=>∃(z:Sl),Oc (λg2 c=>∃(B:bt)(p:bu->Bool),aA (eJ G (DY (Fn.func 133) (Array.mk (gV (WE H 0) (WE b 0))))=eJ z (DY (Fn.func g2) (Array.mk c))) (Rows f z B) (aA (DK B) (∀(u:Sl)(r:bu),aY (List.Mem r B) (bP f u r) (Eo g2 4 u c M f (λx=>fun(P:MH)=>fun(R:PH)=>aA (x=qV (p r)) (P=M) (R=f)))) (I9 f p B K M)))))))))))))))))))
theorem Yv:bk 121 Y6:=by
 refine iB func121 ?_;rintro c m h K ⟨u,b,v,w,r,rfl,d,e,f,g⟩;refine⟨pF [(122,Y5)] [] [] [] [0] [] false,rfl,aD O3 aF,azZ u b m h K,bf,?_⟩;exact⟨v.where_,.of_m d rfl,v.where_,u,w,r,rfl,e,f,g⟩
theorem Yt:bk 127 bbQ:=by
 refine iB func127 ?_;rintro j m h K ⟨u,e,n,y,s,r,c,ks,rfl,f,g,o,z,A,B,d,C,D⟩;refine⟨pF [(126,Sr)] [] [] [] [0] [] false,rfl,aD BK aF,azX u e n m h K,bf,?_⟩;exact⟨y,.of_m f rfl,s,.of_m g rfl,.of_m f rfl,u,s,r,c,rfl,A,z,B,d,C,.of_m f rfl,.of_m g rfl,o.get D⟩
theorem Yr:bk 129 (bfX false):=by
 refine iB func129 ?_;rintro e m h K ⟨u,b,s,l,r,rfl,f,g,c,j,n,d⟩;refine⟨pF [(130,bhQ)] [] [] [] [0] [] false,rfl,aD OZ aF,azQ u b m h K,bf,?_⟩;exact⟨s,.of_m f rfl,s,u,l,r,rfl,g,c,j,n,by rw[show(LW l r==false)= !LW l r by cases LW l r<;>rfl]at d;exact d⟩
theorem Yq:bk 131 (bfX true):=by
 refine iB func131 ?_;rintro e m h K ⟨u,b,s,l,r,rfl,f,g,c,j,n,d⟩;refine⟨pF [(130,bhQ)] [] [] [] [0] [] false,rfl,aD OZ aF,ayZ u b m h K,bf,?_⟩;exact⟨s,.of_m f rfl,s,u,l,r,rfl,g,c,j,n,by rw[show(LW l r==true)=LW l r by cases LW l r<;>rfl]at d;exact d⟩
theorem Ym:bk 135 biQ:=by
 refine iB func135 ?_;rintro j m h K ⟨i,n,e,o,v,od,g,s,rs,r,x,rfl,y,z,A,B,c,C,f,D⟩;refine⟨pF [(136,FW)] [] [] [] [0] [] false,rfl,aD EJ aF,RL i n e o m h K,bf,?_⟩;dsimp only[RL,push_cast];have J:=bN.slen c;have L:=(List.getElem?_eq_some_iff.1 f).1;obtain⟨E,F,u,G,H,I⟩:=bN.at c f;have d:aJ m h e 0 [dT g]:=.of_m z rfl;exact⟨v.order,.of_m y rfl,g,d,E,F,G,aC,aC,u,.imm H,s,.of_m A rfl,d,v.order,u,s,od,x,r,rfl,B,I,C,d,D⟩
theorem VR:bk 134 Wl:=NH Ym λy m h K⟨n,j,o,u,v,od,g,s,rs,r,z,e,A,B,C,D,c,E,F,d,G,f,H⟩=>⟨n,j,o,u,z,od,rs,r,e,by have:=c.len;omega,F,d,G,f,λi x I=>⟨i,j,o,u,v,od,g,s,rs,r,x,rfl,A,B,C,D,c,E,I,rfl,rfl,rfl⟩,H⟩
structure bFZ(m:MH)(h:PH)(v:l7)(bq be:Nat)(e:Sl)(Gk:bt)(c:Nat×Nat×Nat×MH×PH):Prop where
 c1:c.1=bq
 c2:c.2.1=be
 c3:c.2.2.2.2=h
 sub:Sub m c.2.2.2.1
 q_:c.2.2.2.1 bq=some (.cells ⟨l7.enc v⟩ 111 (0,0))
 e_:c.2.2.2.1 be=some (.cells #[Sl.val e] 100 (0,0))
 g_:∃s,c.2.2.2.1 c.2.2.1=some (.cells #[Sl.val s] 68 (0,0))/\Rows h s Gk
theorem Yo:bk 133 Y2:=by
 refine Tm func133 ?_;rintro b' m h K ⟨u,ba,O,v,y,gr,od,l,kk,G,r,w,rfl,Y,I,Z,M,C,a',a7,hu,hr,P,hT,hK⟩;refine⟨aZX,rfl,aD BK (aD VR aF),K3 u ba O m h (cE h K),bf,?_⟩;show K3 u ba O m h (cE h K);dsimp only[K3,push_cast];intro U F a8 a0;obtain⟨H,n1⟩:=gH (Sub.refl m) a8 a0;have J:F U=some (.cells #[Sl.val u] 100 (0,0)):=a0.at_;have a1:hZ r.length gr:=by rw[P];exact C
 have g1:=Z.keep (λo e=>H _ o e) (.refl _)
 have a2:∀{g j},bW F h g->gG F j g (.cells #[rV] 68 (0,0))->∀z o,F z=some o->j z=some o:=fun{g j} f d z o B=>by
  have:z≠g:=λV=>by rw[V,f.m_]at B;cases B
  rw[d.other z this];exact B
 have fin:∀s,BU kk (nW (pick r gr)) s->∀g j,bW F h g->gG F j g (.cells #[rV] 68 (0,0))->∃(cs:Array Value)(E:TypeId),Lo j g (.cells cs E (0,0))/\0<cs.size/\∀m9,gG j m9 g (.cells (Array.mk (dT s::cs.toList.drop 1)) E (0,0))->
  ∃c:Nat×Nat×Nat×MH×PH,bFZ m h v O U u (G (nW (pick r gr))) c/\Uk O 0=Uk c.1 0/\Uk U 0=Uk c.2.1 0/\Uk g 0=Uk c.2.2.1 0/\m9=c.2.2.2.1/\h=c.2.2.2.2/\True:=λs A g j f d=>by
  refine⟨_,_,⟨d.at_⟩,bg,λm9 a3=>⟨(O,U,g,m9,h),?_,MT⟩⟩
  have Q:∀z o,F z=some o->m9 z=some o:=λz o B=>by
   have:z≠g:=λV=>by rw[V,f.m_]at B;cases B
   rw[a3.other z this,d.other z this];exact B
  exact⟨rfl,rfl,rfl,λz o B=>Q z o (H z o B),Q _ _ (H _ _ I),Q _ _ J,s,a3.at_,Z.at_ A⟩
 have R:aJ F h ba 0 [Value.map (some y)]:=.of_m (H _ _ Y) rfl;have W:aJ F h U 0 [dT u]:=.of_m J rfl;have X:aJ F h O 17 [dT v.group]:=.of_m (H _ _ I) rfl;refine⟨bFZ m h v O U u (G (nW (pick r gr))),⟨y,R,u,W,v.group,X,⟨R,u,v.group,r,gr,rfl,hu,a',hr,a1,hT.sub H,R,⟨W,X,g1.get2 (λA=>⟨R,W,X,fin _ A⟩) (λs A=>⟨R,W,X,fin _ A⟩)⟩,R,W,X,λg j f d=>?_⟩,R,W,X,λg j f d=>?_⟩,?_⟩
 .have L:=a2 f d;exact⟨.of_m (L _ _ J) rfl,.of_m (L _ _ (H _ _ I)) rfl,(g1.keep (L y) (.refl _)).get2 (λA=>fin _ A g j f d) (λs A=>fin _ A g j f d)⟩
 .have L:=a2 f d;have a4:aJ j h ba 0 [Value.map (some y)]:=.of_m (L _ _ (H _ _ Y)) rfl;exact⟨a4,u,v.group,r,gr,rfl,hu,a',hr,a1,(hT.sub H).sub L,a4,.of_m (L _ _ J) rfl,.of_m (L _ _ (H _ _ I)) rfl,(g1.keep (L y) (.refl _)).get2 (λA=>fin _ A g j f d) (λs A=>fin _ A g j f d)⟩
 .rintro⟨c1,c2,g,mz,hz⟩ ⟨e1,B,V,a5,S,a6,s,T,D⟩;dsimp only at e1 B V a5 S a6 T⊢
  subst e1 B V;have n:=FB Jk (od:=od) M C hr P;rw[<-(Z.perm _).countP_eq]at n;refine⟨s,.of_m T rfl,s.len,c1,g,c2,v,od,s,u,G (nW (pick r gr)),r,w,rfl,S,T,a6,a7,D,hu,D.slen.symm,Z.sort _,λz a9=>?_,P,v.limit,.of_m S rfl,?_⟩
  .have:=(Z.perm _).mem_iff.1 (show z∈_ from a9);exact M.wid z (mem_filter.1 this).1
  .rw[n];exact cE.keep a5 (.refl _) hK
theorem b0Q(x:Value):Vc.valOf Tryz.prog 4 [x]=x:=bf
theorem JL{g:Nat}{S:Vc.Spec}{u:Sl}{c:bm}{b:Bool}(d:bk g S)(e:∀K:CV->MH->PH->Prop,K (cB b) m h->S (cS u::c.map .val) m h K):FAt Tryz.prog g 4 (cS u::c.map .val) m h λx m' h'=>x=[.bool b]/\m'=m/\h'=h:=
 Sound.fat (vs:=Sl.val u::c) d (e _ ⟨[.bool b],(congrArg CV.val (b0Q _)).symm,rfl,rfl,rfl⟩)
structure StM(m m2:MH)(b b2:Nat)(v:l7)(s2:Sl):Prop where
 sub:Sub m m2
 b_:m2 b=some (.cells ⟨l7.enc v⟩ 111 (0,0))
 s_:m2 b2=some (.cells #[Sl.val s2] 68 (0,0))
 tab:dU m2
theorem apZ:bk 68 Wm:=by
 refine Tm func68 ?_;rintro k4 m h K ⟨v,t,R,S,B,C,rfl,T,G,J,hT,h2,g8,P,W,b7,I⟩;refine⟨brZ,rfl,aD Yw (aD EK (aD Yu (aD O0 (aD BK (aD Ys (aD Yp aF)))))),OC v R S m h (cE h K),bf,?_⟩;show OC v R S m h (cE h K);dsimp only[OC,push_cast];obtain⟨op,ta,w,co,on,gr,od,li,lf,rt⟩:=t;dsimp only[Step.query]at P I h2 g8;intro b m1 d3 a7 b2 m2 b8 a8
 have M:StM m m2 b b2 v S:=by
  obtain⟨R,n1⟩:=gH (Sub.refl m) d3 a7;obtain⟨st,n2⟩:=gH R b8 a8;have g9:b≠b2:=λe=>by have:=b8.m_;rw[<-e,a7.at_]at this;cases this
  exact⟨st,by rw[a8.other b g9];exact a7.at_,a8.at_,hT.sub st⟩
 clear d3 a7 b8 a8;have d4:=bN.slen G;have d5:=bN.slen J;have e0:v.op=op:=T.op_;have go:∀k,(v.op==k)=true->op=k:=λk e=>e0.symm.trans (eq_of_beq e);have b9:∀{m' h'},m' b=some (.cells ⟨l7.enc v⟩ 111 (0,0))->aJ m' h' b 0 (l7.enc v):=λh=>.of_m h (take_length ..);refine⟨v.op,.of_m M.b_ rfl,aB (λe=>?_) (λn2=>aB (λe=>?_) (λn3=>aB (λe=>?_) (λn4=>aB (λe=>?_) (λn5=>aB (λe=>?_) (λn6=>aB (λe=>?_) (λn7=>aB (λe=>?_) (λn8=>aB (λe=>?_) (λn9=>?_))))))))⟩
 .obtain rfl:=go _ e;exact⟨R,121,[.pointer (some ⟨b,0,none⟩)],B,λr=>lM r w,rfl,G,W,λu r n X=>JL Yv λK I=>⟨u,b,v,w,r,rfl,M.b_,T.where_,X,I⟩,λL h' le n=>cE.sub M.sub le (I L h' le n)⟩
 .obtain rfl:=go _ e;obtain⟨_,k5,wd,d,A⟩:=(show Kf (.mk 3 ta w co on gr od li []) [B,C]from P)
  have d:gR wd B:=d;have hc:Ints h v.columns co:=T.columns_;have h4:=hc.slen;refine⟨aC,aC,aC,aC,λx=>x.1<=B.length/\x.2.1=b/\x.2.2.1=R/\x.2.2.2.2.1=m2/\PH.le h x.2.2.2.2.2/\eE x.2.2.2.2.2 x.2.2.2.1 ((B.take x.1).map λr=>pick r co),λx=>B.length-x.1,⟨(0,b,R,[],m2,h),⟨Nat.zero_le _,rfl,rfl,rfl,.refl _,bj (eE.nil h)⟩,MT⟩,?_⟩;rintro⟨i,b',t1,us,mx,Y⟩ ⟨hi,e1,j,O,le,n⟩;dsimp only at hi e1 j O le n⊢
  subst e1 j O;refine aE (λc'=>?_) (λd6=>?_)
  .obtain⟨r,D⟩:=eN d4 c';obtain⟨bb,o,u,ea,rd,X⟩:=bN.at G D;have h7:=d.wid r (mem_of_getElem? D);have d7:=bP.mono X le;have k6:=bN.slen d7;have h8:(pick r co).length=co.length:=by simp[pick]
   have d8:=n.len;rw[length_map,length_take]at d8;refine⟨bb,o,ea,aC,aC,u,.imm (rd.mono le),v.columns,.of_m M.b_ rfl,aC,aC,aC,aC,v.columns,.of_m M.b_ rfl,λz=>z.1<=co.length/\z.2.1=i/\z.2.2.1=b'/\z.2.2.2.1=t1/\z.2.2.2.2.1=u/\z.2.2.2.2.2.1=v.columns/\z.2.2.2.2.2.2.1=us/\z.2.2.2.2.2.2.2.1=(pick r co).take z.1++replicate (co.length-z.1) zeroV/\z.2.2.2.2.2.2.2.2.1=mx/\z.2.2.2.2.2.2.2.2.2=Y,λz=>co.length-z.1,⟨(0,i,b',t1,u,v.columns,us,replicate co.length zeroV,mx,Y),⟨Nat.zero_le _,rfl,rfl,rfl,rfl,rfl,rfl,bg,rfl,rfl⟩,?_⟩,?_⟩
   .dsimp only;rw[map_replicate,show((v.columns.len:Int)).toNat=co.length by omega];exact MT
   .rintro⟨k,i',d9,e',u',cc,f',cells,my,hy⟩ ⟨hk,e1,j,O,e4,e5,e6,e7,e8,e9⟩;dsimp only at hk e1 j O e4 e5 e6 e7 e8 e9⊢
    subst e1 j O e4 e5 e6 e7 e8 e9;refine aE (λf0=>?_) (λd6=>?_)
    .obtain⟨c,f1⟩:=eN h4 f0;obtain⟨b4,o4,e4,h9⟩:=(hc.mono le).at f1;obtain⟨y,i0,i1,h0,h1⟩:=Ik (r:=r) (by rw[h7];exact A) f1;obtain⟨b5,o5,y',e5,i2,rfl⟩:=bN.at d7 i0;have f2:k<co.length:=by omega
     have f3:=UA i1 f2;refine⟨b4,o4,e4,aC,aC,c,.imm (bj h9),b5,o5,e5,h0,aC,y,.imm i2,aC,by simp;omega,_,Ql f2,by simp[VV.enc],(k+1,i',d9,e',u',v.columns,f',(pick r co).take (k+1)++replicate (co.length-(k+1)) zeroV,my,hy),⟨by dsimp only;omega,rfl,rfl,rfl,rfl,rfl,rfl,rfl,rfl,rfl⟩,(by dsimp only;omega),?_⟩;dsimp only;refine⟨rfl,rfl,rfl,rfl,rfl,rfl,rfl,rfl,rfl,by rw[iJ aC],rfl,?_,rfl,rfl,trivial⟩;rw[<-f3,map_set];rfl
    .have:k=co.length:=by omega
     subst this;rw[take_of_length_le aC,Nat.sub_self,replicate_zero,append_nil]
     refineλs3 h3 E U=>⟨by rw[length_map];omega,by rw[length_map];omega,(i'+1,d9,e',f'++[s3],my,h3),⟨by dsimp only;omega,rfl,rfl,rfl,le.trans E,?_⟩,by dsimp only;omega,?_⟩
     .dsimp only;rw[take_add_one,D,map_append];exact(n.mono E).snoc ⟨⟨_,U,rfl,λi x Y=>⟨x,Y,rfl⟩⟩,by rw[h8];omega⟩
     .dsimp only;rw[iJ aC,map_append];exact MT
  .rw[take_of_length_le aC]at n
   exactλs3 h3 E U=>⟨s3,us,_,rfl,.imm U,n.mono E,by simp;omega,λL h' a0 c0=>cE.sub M.sub (le.trans (E.trans a0)) (I L h' (le.trans (E.trans a0)) c0)⟩
 .obtain rfl:=go _ e;obtain⟨h5,h6⟩:=(show Kg (.mk 4 ta w co on gr od li []) [B,C]from P)
  exact⟨v,b9 M.b_,S,.of_m M.s_ rfl,v,on,R,S,B,C,rfl,T.on_,G,J,M.tab,h5,h6,λL h' le n=>cE.sub M.sub le (I L h' le n)⟩
 .obtain rfl:=go _ e;obtain⟨_,wa,wb,d,f,f4,c5⟩:=(show Kd (.mk 5 ta w co on gr od li []) [B,C]from P)
  have d:gR wa B:=d;have f:gR wb C:=f;refine⟨v.on,.of_m M.b_ rfl,v.on,on,rfl,T.on_,λsa sb h1 F i3 i4 b3 m3 f5 c6=>⟨_,_,⟨c6.at_⟩,bg,λm4 a1 y m5 i5 Z b4 m6 f6 c7=>⟨_,_,⟨c7.at_⟩,bg,λm7 c8=>?_⟩⟩⟩;obtain⟨k7,n3⟩:=gH M.sub f5 c6
  have Q:∀{z o},m2 z=some o->m4 z=some o:=fun{z o} j=>by
   have:z≠b3:=λO=>by rw[O,f5.m_]at j;cases j
   rw[a1.other z this,c6.other z this];exact j
  have c9:∀{z o},m4 z=some o->m7 z=some o/\z≠y:=fun{z o} j=>by
   have O:z≠y:=λO=>by rw[O,i5.m_]at j;cases j
   have e5:m5 z=some o:=by rw[Z.other z O];exact j
   have e4:z≠b4:=λe4=>by rw[e4,f6.m_]at e5;cases e5
   exact⟨by rw[c8.other z e4,c7.other z e4];exact e5,O⟩
  have y4:y≠b4:=λe=>by have:=f6.m_;rw[<-e,Z.at_]at this;cases this
  have i8:m7 y=some (.map #[] 0):=by rw[c8.other y y4,c7.other y y4];exact Z.at_
  have i9:m7 b2=some (.cells #[Sl.val S] 68 (0,0)):=(c9 (Q M.s_)).1;have f7:=c9 a1.at_;have V:∀{z o},m z=some o->m7 z=some o/\z≠y:=fun{z o} e=>c9 (Q (M.sub z o e));have G:=bN.mono G F (λ_ _ h=>bP.mono h F);have J:=bN.mono J F (λ_ _ h=>bP.mono h F);refine⟨S,.of_m i9 rfl,λz=>z.1<=C.length/\z.2.1=b3/\z.2.2.1=b4/\z.2.2.2.1=R/\z.2.2.2.2.1=sb/\z.2.2.2.2.2.1=S/\z.2.2.2.2.2.2.2=h1/\(∀x o,m7 x=some o->x≠y->z.2.2.2.2.2.2.1 x=some o)/\pC z.2.2.2.2.2.2.1 y ((C.take z.1).map λr=>nW (pick r (dV on))),λz=>C.length-z.1,⟨(0,b3,b4,R,sb,S,m7,h1),⟨Nat.zero_le _,rfl,rfl,rfl,rfl,rfl,rfl,λ_ _ e _=>e,bj (pC.new i8)⟩,MT⟩,?_⟩;rintro⟨i,c3,c4,t1,tb,t2,mx,Y⟩ ⟨hi,e1,j,O,e4,e5,e6,a',a9⟩;dsimp only at hi e1 j O e4 e5 e6 a' a9⊢
  subst e1 j O e4 e5 e6;have T7:dU mx:=hT.sub λz o e=>a' z o (V e).1 (V e).2;have f8:mx c4=some (.cells #[.map (some y)] 182 (0,0)):=a' c4 _ c8.at_ (Ne.symm y4);refine aE (λc'=>?_) (λd6=>?_)
  .obtain⟨r,D⟩:=eN d5 c';obtain⟨bb,o,u,ea,rd,X⟩:=bN.at J D;have f9:=mem_of_getElem? D;have r4:aJ mx Y c4 0 [Value.map (some y)]:=.of_m f8 rfl;rw[iJ aC];refine⟨bb,o,ea,aC,aC,u,.imm rd,y,r4,r4,u,tb,r,dV on,rfl,X,i4,f.row r f9,by rw[f.wid r f9];exact c5,T7,r4,a9.put (λm' j' g'=>⟨(i+1,c3,c4,t1,tb,t2,m',Y),⟨by dsimp only;omega,rfl,rfl,rfl,rfl,rfl,rfl,λz o j a2=>by dsimp only;rw[j'.other z a2];exact a' z o j a2,?_⟩,by dsimp only;omega,MT⟩)⟩;obtain⟨kk,h5,h6⟩:=g'.ex;exact⟨kk,h5,λq=>by rw[h6,take_add_one,D];simp[or_comm]⟩
  .rw[take_of_length_le aC]at a9;refine⟨t1,127,[.pointer (some ⟨c4,0,none⟩),.pointer (some ⟨c3,0,none⟩)],B,λx=>C.any λy=>agree on x y,rfl,G,W,λu r n X=>JL Yt λK I=>⟨u,c4,c3,y,sa,r,iD on,_,rfl,f8,a' c3 _ f7.1 f7.2,a9,i3,X,d.row r n,by rw[d.wid r n];exact f4,T7,λt T=>?_⟩,λL h' le n=>cE.sub (λz o e=>a' z o (V e).1 (V e).2) (F.trans le) (I L h' (F.trans le) n)⟩;have g0:hZ r.length (iD on):=by rw[d.wid r n];exact f4
   have h1:(nW (pick r (iD on))∈C.map λz=>nW (pick z (dV on)))↔(C.any λy=>agree on r y)=true:=by
    rw[mem_map,any_eq_true];constructor
    .rintro⟨z,hz,j⟩;exact⟨z,hz,(Bo Jk (d.row r n) (f.row z hz) g0 (by rw[f.wid z hz];exact c5)).1 j.symm⟩
    .rintro⟨z,hz,j⟩;exact⟨z,hz,((Bo Jk (d.row r n) (f.row z hz) g0 (by rw[f.wid z hz];exact c5)).2 j).symm⟩
   rw[h1]at T;have:(C.any λy=>agree on r y)=t:=Bool.eq_iff_iff.2 T.symm;dsimp only at I;rw[this]at I;exact I
 .obtain rfl:=go _ e;refine⟨S,.of_m M.s_ rfl,λs h1 F D=>⟨s,B,C,rfl,⟨⟨[R,S],D,rfl,λi x Y=>?_⟩,bg⟩,W,b7,λsl h2 H n=>?_⟩⟩
  .match i,Y with
   |0,Y=>cases Y;exact⟨R,rfl,bN.mono G F (λ_ _ h=>bP.mono h F)⟩
   |1,Y=>cases Y;exact⟨S,rfl,bN.mono J F (λ_ _ h=>bP.mono h F)⟩
  .obtain⟨⟨us,D,g1,j0⟩,_⟩:=n;exact⟨sl,us,B++C,rfl,.imm D,⟨g1.symm,j0⟩,by rw[length_append];omega,λL h3 E U=>cE.sub M.sub (F.trans (H.trans E)) (I L h3 (F.trans (H.trans E)) U)⟩
 .obtain rfl:=go _ e;obtain⟨_,wd,d⟩:=(show AE (.mk 7 ta w co on gr od li []) [B,C]from P)
  exact⟨R,129,[.pointer (some ⟨b2,0,none⟩)],B,λr=>LW C r==false,rfl,G,W,λu r n X=>JL Yr λK I=>⟨u,b2,S,C,r,rfl,M.s_,J,(d C bg).srt,X,b7,I⟩,λL h' le n=>cE.sub M.sub le (I L h' le n)⟩
 .obtain rfl:=go _ e;obtain⟨_,wd,d⟩:=(show AE (.mk 8 ta w co on gr od li []) [B,C]from P)
  exact⟨R,131,[.pointer (some ⟨b2,0,none⟩)],B,λr=>LW C r==true,rfl,G,W,λu r n X=>JL Yq λK I=>⟨u,b2,S,C,r,rfl,M.s_,J,(d C bg).srt,X,b7,I⟩,λL h' le n=>cE.sub M.sub le (I L h' le n)⟩
 .obtain rfl:=go _ e;obtain⟨_,⟨wd,d,A⟩,g2⟩:=(show Ke (.mk 9 ta w co on gr od li []) [B,C]from P)
  have d:gR wd B:=d;refine⟨v,b9 M.b_,v,R,gr,od,B,wd,rfl,T.group_,T.order_,G,d,A,M.tab,λy m3 h2 kk g hy a3 H hg=>⟨_,hg.map_,λr m4 d' j1 it=>?_⟩⟩;have a4:∀{z o},m2 z=some o->m3 z=some o:=fun{z o} e=>by rw[a3 z (λj=>by rw[j,hy]at e;cases e)];exact e
  have Q:∀{z o},m2 z=some o->m4 z=some o/\z≠r:=fun{z o} e=>by
   have:z≠r:=λj=>by have:=a4 e;rw[j,d'.m_]at this;cases this
   exact⟨by rw[j1.other z this];exact a4 e,this⟩
  refine⟨λz=>z.1=b/\z.2.2.1=r/\z.2.2.2.2=h2/\(∀x o,m4 x=some o->x≠r->z.2.2.2.1 x=some o)/\∃left a5,kE z.2.2.2.1 y r (kk.map λp=>(Value.string p.1,dT p.2)) left/\eE h2 z.2.1 a5/\EO nW gr li B kk g left a5,λz=>leftOf z.2.2.2.1 z.2.2.1,⟨(b,[],r,m4,h2),⟨rfl,rfl,rfl,λ_ _ e _=>e,_,[],it,eE.nil _,.start⟩,MT⟩,?_⟩;rintro⟨b',us,r',mz,hz⟩ ⟨e1,j,O,b0,left,a5,a6,b1,rk⟩;dsimp only at e1 j O b0 a6 b1 rk⊢
  subst e1 j O;have d8:=b1.len;have k0:=rk.cnt;refine⟨y,_,left,a6,λd0 s3 h3 E U=>?_,λk1 x1 k2 d1 m5 g3 d2=>?_⟩
  .subst d0;refine⟨s3,us,a5,rfl,.imm U,b1.mono E,aC,λL h' a0 c0=>cE.sub (λz o e=>b0 z o (Q (M.sub z o e)).1 (Q (M.sub z o e)).2) (H.trans (E.trans a0)) (I L h' (H.trans (E.trans a0)) ?_)⟩;show Rows h' L (C9 gr od li B B);rw[rk.done Jk hg d A g2];exact c0
  .have j2:x1∈left:=by rw[d1];simp
   obtain⟨p0,g4,rfl⟩:=mem_map.1 (kE.mem a6 j2);have g5:v.limit=li:=T.limit_;have j3:m5 b'=some (.cells ⟨l7.enc v⟩ 111 (0,0)):=by rw[g3.other b' (Q M.b_).2];exact b0 b' _ (Q M.b_).1 (Q M.b_).2
   obtain⟨c1,c2,g6,D,k',g1⟩:=Uo (li:=li) (hg.rows p0 g4) g2;have k8:=(hg.perm p0.1).length_eq;have k3:(kC nW gr B p0.1).length<=B.length:=length_filter_le _ _;refine⟨y,_,_,_,d2,p0.2,rfl,li,.of_m j3 (by rw[<-g5];rfl),c1,c2,g6.map eS,Ao _,.imm D,by rw[length_map,length_map];omega,by rw[length_map,length_map];omega,(b',us++g6,r',m5,hz),⟨rfl,rfl,rfl,λx o e a2=>by dsimp only;rw[g3.other x a2];exact b0 x o e a2,_,a5++(g p0.1).take li.toNat,d2.it,b1.app k',rk.step hg a6 g4 d1⟩,?_,by rw[map_append];exact MT⟩;show leftOf m5 r'<leftOf mz r';rw[kE.left_ d2.it,kE.left_ a6,d1];simp
 .have n2:=ne_of_beq_false n2;have n3:=ne_of_beq_false n3;have n4:=ne_of_beq_false n4;have n5:=ne_of_beq_false n5;have n6:=ne_of_beq_false n6;have n7:=ne_of_beq_false n7;have n8:=ne_of_beq_false n8;have n9:=ne_of_beq_false n9;obtain rfl:op=10:=by omega
  obtain⟨_,wd,d,f,A⟩:=(show Dh (.mk 10 ta w co on gr od li []) [B,C]from P)
  have d:gR wd B:=d;have f:gR wd C:=f;refine⟨v,b9 M.b_,S,.of_m M.s_ rfl,v,S,gr,od,C,wd,rfl,T.group_,T.order_,J,f,A,M.tab,λy m3 h2 kk g hy a3 H hg b4 m4 d' a1=>⟨_,_,⟨a1.at_⟩,bg,λm5 Z=>?_⟩⟩
  have g7:∀{z o},m3 z=some o->m5 z=some o:=fun{z o} e=>by
   have:z≠b4:=λj=>by rw[j,d'.m_]at e;cases e
   rw[Z.other z this,a1.other z this];exact e
  have a4:∀{z o},m2 z=some o->m5 z=some o:=fun{z o} e=>g7 (by rw[a3 z (λj=>by rw[j,hy]at e;cases e)];exact e);have b6:Sub m m5:=λz o e=>a4 (M.sub z o e);exact⟨R,133,[.pointer (some ⟨b4,0,none⟩),.pointer (some ⟨b,0,none⟩)],B,λr=>decide (((C.countP λy=>LF gr r y&&decide (jZ od y r<0):Nat):Int)<v.limit),rfl,bN.mono G H (λ_ _ h=>bP.mono h H),W,λu r n X=>JL Yo λK I=>⟨u,b4,b,v,y,gr,od,C,kk,g,r,wd,rfl,Z.at_,a4 M.b_,hg.keep (λo=>g7) (.refl _),f,A,T.group_.mono H,T.order_.mono H,X,d.row r n,d.wid r n,hT.sub b6,I⟩,λL h' le n=>cE.sub b6 (H.trans le) (I L h' (H.trans le) (by have e:v.limit=li:=T.limit_;rw[e]at n;exact n))⟩
theorem lA{n:Int}(c: -1000000<=n)(d:n<=1000000):vP n:=⟨aC,aC⟩
theorem LY:vP 0:=⟨bh,bh⟩
theorem sK:Wq dR:=⟨LY,LY,LY,LY,bh⟩
theorem aAQ{v:VV}(h:ZR v zeroV=true):v=zeroV:=Tt.1 h
theorem Wf{o:OV}(h:pB l o≠0)(f:l.length<=1000000)(d:vP o.kind):Wq o:=by
 unfold pB at h;split at h
 .exact(h rfl).elim
 .rename_i c;simp only[Bool.or_eq_true,not_or,Bool.not_eq_true',Bool.not_eq_false,decide_eq_true_eq]at c;have e:=aAQ c.2;refine⟨d,lA aC aC,?_,?_,?_⟩
  all_goals rw[e]
  .exact sK.vkind_
  .exact sK.int_
  .exact sK.text_
theorem UO{cols params:br}{o:OV}(h:kindOf cols params o≠0)(j:cols.length<=1000000)(n:params.length<=1000000)(f:Lj o.value):Wq o:=by
 unfold kindOf at h;split at h
 .rename_i c;have c:o.kind=3:=bj c
  split at h
  .exact(h rfl).elim
  .rename_i g;simp only[Bool.or_eq_true,not_or,Bool.not_eq_true',Bool.not_eq_false,bne_iff_ne,ne_eq,Classical.not_not,l9,Bool.and_eq_true,decide_eq_true_eq]at g;refine⟨lA aC aC,lA aC aC,?_,f.int_,f.text_⟩;have d:=g.2.1;unfold lD at d;split at d
   .rename_i e;simp at e;exact lA aC aC
   .split at d
    .rename_i e;simp at e;exact lA aC aC
    .split at d
     .rename_i e;simp at e;exact lA aC aC
     .split at d
      .rename_i e;simp at e;exact lA aC aC
      .cases d
 .split at h
  .rename_i c;simp at c;exact Wf h n (lA aC aC)
  .split at h
   .rename_i c;simp at c;exact Wf h j (lA aC aC)
   .exact(h rfl).elim
theorem Fa:∀ps:cm,(ps.length:Int)<=BX ps
 |[]=>by simp[BX]
 |p::ps=>by
  have:=Fa ps;have:1<=Mj p:=by cases p;rename_i a;have:=Fa a;simp only[Mj];omega
  simp only[BX,length_cons];omega
theorem bjX(p:Pred):1<=Mj p:=by cases p;rename_i a;have:=Fa a;simp only[Mj];omega
mutual
theorem T4{cols params:br}(c:cols.length<=1000000)(d:params.length<=1000000):∀p:Pred,iK cols params p=true->CR p->Mj p<=1000->JQ p
 |.mk op n l r args,h,w,o=>by
  have u:=Fa args;simp only[Mj]at o;unfold iK at h;split at h
  .rename_i e;simp only[Bool.and_eq_true,DD,beq_iff_eq]at h;have:args=[]:=eq_nil_of_length_eq_zero h.2;subst this;have f:=oH.1 h.1.1.2;have g:=oH.1 h.1.2;subst f g;have j:op=1\/op=2:=bj e
   exact⟨lA aC aC,by rw[h.1.1.1];exact LY,sK,sK,bg,trivial⟩
  .split at h
   .rename_i e;simp only[Bool.and_eq_true,beq_iff_eq,bne_iff_ne,ne_eq,decide_eq_true_eq]at h;have:args=[]:=eq_nil_of_length_eq_zero h.1.1.1.1;subst this;have j:op=3:=bj e
    exact⟨lA aC aC,lA aC aC,UO h.1.2 c d w.1,UO (cols:=cols) (params:=params) (by rw[<-h.2];exact h.1.2) c d w.2.1,bg,trivial⟩
   .split at h
    .rename_i e;simp only[Bool.and_eq_true,DD,beq_iff_eq]at h;have f:=oH.1 h.1.1.2;have g:=oH.1 h.1.2;subst f g
     have j:op=4\/op=5\/op=6:=by
      simp only[Bool.or_eq_true,Bool.and_eq_true,beq_iff_eq]at e;omega
     exact⟨lA aC aC,by rw[h.1.1.1];exact LY,sK,sK,aC,Qc c d args h.2 w.2.2 aC⟩
    .cases h
theorem Qc{cols params:br}(c:cols.length<=1000000)(d:params.length<=1000000):∀ps:cm,vT cols params ps=true->Lm ps->BX ps<=1000->Pu ps
 |[],_,_,_=>trivial
 |p::ps,h,w,e=>by
  simp only[vT,Bool.and_eq_true]at h;have f:=bjX p;have g:=Fa ps;simp only[BX]at e;exact⟨T4 c d p h.1 w.1 aC,Qc c d ps h.2 w.2 aC⟩
end
theorem bOQ{cols params:br}(h:fI cols params p=0)(c:cols.length<=1000000)(d:params.length<=1000000)(w:CR p):JQ p:=by
 unfold fI at h;split at h
 .cases h
 .split at h
  .cases h
  .rename_i e;split at h
   .cases h
   .rename_i f;have g:iK cols params p=true:=bj f
    simp only[Bool.or_eq_true,not_or,decide_eq_true_eq]at e;have j:=F3 p 0 aC
    have:Mj p<=24:=by
     by_cases n:(0:Int)+Mj p<=24
     .omega
     .have:=j.2 aC;omega
    exact T4 c d p g w aC
theorem bLJ:JQ gS:=⟨LY,LY,sK,sK,bh,trivial⟩
def bdX:Query->Prop
 |.mk _ _ w co on gr od _ _=>JQ w/\(∀n∈co,vP n)/\(∀p∈on,vP p.1/\vP p.2)/\(∀n∈gr,vP n)/\∀p∈od,vP p.1
def QI(q:Query):Prop:=
 match q with
 |.mk op ta w co on gr od li args=>bdX (.mk op ta w co on gr od li [])/\∀a∈args,QI a
 termination_by SizeOf.sizeOf q
theorem SU{op:Int}{on:bx}{args:ce}:
 QI (.mk op ta w co on gr od li args)↔bdX (.mk op ta w co on gr od li [])/\∀a∈args,QI a:=by rw[QI.eq_def]
theorem GK{α:Type}{T:List α->α->Prop}{l:List α}{P:α->Prop}(h:Good T l)(d:∀c x,T c x->P x):∀x∈l,P x:=λx e=>by
 obtain⟨j,f⟩:=mem_iff_getElem?.1 e;exact d _ _ (h j x f)
theorem UY{n:Int}(c:l.length<=1000)(h:EU l n=true):vP n:=by
 have:=eX.1 h;exact lA aC aC
theorem bOX{op:Int}{on:bx}{args:ce}{b:br}(H:a.length<=12)(I:b.length<=12)(u:ps.length<=1000)(y:CR w)(h:(fH s ps (.mk op ta w co on gr od li args) a b).2=0):
 bdX (.mk op ta w co on gr od li []):=by
 unfold fH at h;dsimp only at h;split at h
 .simp[eY]at h
 .rename_i j;rw[not_or]at j;have z:dM (.mk op ta w co on gr od li args):=Classical.not_not.1 j.2;obtain⟨_,A,B,C,D⟩:=z
  have E:JQ w:=by
   rcases A with rfl|rfl
   .simp only[show¬((2:Int)=1)by decide,if_false,if_true]at h;split at h
    .rename_i e;exact bOQ e aC aC y
    .rename_i e;simp[eY]at h;exact(e h).elim
   .exact bLJ
  have F:∀n∈co,vP n:=by
   rcases B with rfl|rfl
   .simp only[show¬((3:Int)=1)by decide,show¬((3:Int)=2)by decide,if_false,if_true]at h;split at h
    .rename_i e;exact GK e.2 λd x t=>UY aC t
    .simp[eY]at h
   .intro n f;cases f
  have G:∀p∈on,vP p.1/\vP p.2:=by
   have c:Good (tM a b) on->∀p∈on,vP p.1/\vP p.2:=λg=>GK g λd x t=>⟨UY aC t.1,UY aC t.2.1⟩
   rcases C with rfl|rfl|rfl
   .simp only[show¬((4:Int)=1)by decide,show¬((4:Int)=2)by decide,show¬((4:Int)=3)by decide,if_false,if_true]at h;split at h
    .rename_i e;exact c e
    .simp[eY]at h
   .simp only[show¬((5:Int)=1)by decide,show¬((5:Int)=2)by decide,show¬((5:Int)=3)by decide,show¬((5:Int)=4)by decide,if_false,if_true]at h;split at h
    .rename_i e;exact c e
    .simp[eY]at h
   .intro n f;cases f
  have o:(∀n∈gr,vP n)/\∀p∈od,vP p.1:=by
   have c:qI a gr od li->(∀n∈gr,vP n)/\∀p∈od,vP p.1:=λr=>⟨GK r.group_ λd x t=>UY aC t.1,GK r.order_ λd x t=>UY aC t⟩
   rcases D with rfl|rfl|⟨rfl,rfl,_⟩
   .simp only[show¬((9:Int)=1)by decide,show¬((9:Int)=2)by decide,show¬((9:Int)=3)by decide,show¬((9:Int)=4)by decide,show¬((9:Int)=5)by decide,if_false,if_true]at h;split at h
    .rename_i e;exact c e
    .simp[eY]at h
   .simp only[show¬((10:Int)=1)by decide,show¬((10:Int)=2)by decide,show¬((10:Int)=3)by decide,show¬((10:Int)=4)by decide,show¬((10:Int)=5)by decide,show¬((10:Int)=9)by decide,if_false,if_true]at h;split at h
    .rename_i e;exact c e.2
    .simp[eY]at h
   .exact⟨λn f=>(by cases f),λn f=>(by cases f)⟩
  exact⟨E,F,G,o.1,o.2⟩
theorem Zr{s:mI}{ps:br}(c:ps.length<=1000):∀q:Query,(bH s ps q).2=0->QW q->QI q
 |.mk op ta w co on gr od li args,h,d=>by
  obtain⟨f,o,a,b,g,j,n⟩:=xE h;rw[SS]at d;rw[SU];exact⟨bOX g j c d.1 n,λq e=>Zr c q (f q e) (d.2 q e)⟩
def xP(a:Int)(n:Bool)(e:Int):Bool:=if n=true then decide (0<=a)&&decide (a<e)else a==0
def bgX:Vc.Spec:=λc m h K=>∃a n e,c=[cI a,cB n,cI e]/\K (cB (xP a n e)) m h
def a8Q:Vc.Spec:=λc m h K=>∃v p,c=[aP v]/\eW h p v/\∀r:Bool,(r=true↔p=gS)->K (cB r) m h
def Wk:Vc.Spec:=λc m h K=>∃v t,c=[aT v]/\rR h t v/\∀r:Bool,(r=true↔dM t.query)->K (cB r) m h
noncomputable def a4X(v:l7)(m:MH)(h:PH):Ctx:=
 dG [(156,a8Q)] [] ([3,5,7,9].map λk=>(k,{A:=Unit,st:=λ_=>bO 66 67 [(1,.at (.ptr 1 0))] [(1,.cells 111 (v.enc.map .val))] m h})) [] false
def U7(op:Int)(m:MH)(h:PH)(K:bo):Prop:=
  dN (op==1) (K (fQ 0) m h) (op==2) (K (fQ 1) m h) (dN (op==3) (K (fQ 1) m h) (op==9) (K (fQ 1) m h) (dN (op==4) (K (fQ 2) m h) (op==5) (K (fQ 2) m h) (dN (op==6) (K (fQ 2) m h) (op==7) (K (fQ 2) m h) (dN (op==8) (K (fQ 2) m h) (op==10) (K (fQ 2) m h) (K (fQ (Int.negSucc 0)) m h)))))
def R7(a:Int)(n:Bool)(e:Int)(m:MH)(h:PH)(K:bo):Prop:=
  branch n (fO a 0 (K (Ah (decide (a<e))) m h) (K aX m h)) (K (Ah (a==0)) m h)
def Rv(v:PV)(m:MH)(h:PH)(K:bo):Prop:=
  eD v.op 0 (eD v.cmp 0 (∃(r:Bool),gK (Ep v.left.enc r) r (∃(c:Bool),gK (Ep (w8 v) c) c (K (Ah (tF v==0)) m h) (K aX m h)) (K aX m h)) (K aX m h)) (K aX m h)
def R6(v:l7)(m:MH)(h:PH)(K:bo):Prop:=
  ∃(I:Unit->Prop),cO v.op 1 (cO v.table 0 (K aX m h) (∃(x:Unit),aA (I x) dX (aA (j9 v) (m=m) (bX h h)))) (∃(x:Unit),aA (I x) dX (aA (j9 v) (m=m) (bX h h)))/\∀(x:Unit),I x->∃(I1:Unit->Prop),cO v.op 2 (rA (λf p=>aA (qC v.where_=qC f) (eW h p f) (∀(r:Bool),fA (fS r↔p=Pred.mk 0 0 (OV.mk 0 0 (VV.mk 0 0 (ByteArray.mk (Array.mk [])))) (OV.mk 0 0 (VV.mk 0 0 (ByteArray.mk (Array.mk [])))) []) (!r) (K aX m h) (∃(d:Unit),aA (I1 d) dX (aA (j9 v) (m=m) (bX h h)))))) (∃(d:Unit),aA (I1 d) dX (aA (j9 v) (m=m) (bX h h)))/\∀(d:Unit),I1 d->∃(I2:Unit->Prop),cO v.op 3 (dZ (aG v.columns) 0 (K aX m h) (∃(e:Unit),aA (I2 e) dX (aA (j9 v) (m=m) (bX h h)))) (∃(e:Unit),aA (I2 e) dX
 (aA (j9 v) (m=m) (bX h h)))/\∀(e:Unit),I2 e->∃(I3:Unit->Prop),cO v.op 4 (cO v.op 5 (dZ (aG v.on) 0 (K aX m h) (∃(c:Unit),aA (I3 c) dX (aA (j9 v) (m=m) (bX h h)))) (∃(c:Unit),aA (I3 c) dX (aA (j9 v) (m=m) (bX h h)))) (∃(c:Unit),aA (I3 c) dX (aA (j9 v) (m=m) (bX h h)))/\∀(c:Unit),I3 c->cO v.op 9 (cO v.op 10 (eD (aG v.group) 0 (eD (aG v.order) 0 (K (Ah (v.limit==0)) m h) (K aX m h)) (K aX m h)) (K gL m h)) (K gL m h)
theorem akJ:bk 99 PL:=by
 refine iB func99 ?_;rintro d m h K ⟨op,rfl,c⟩;refine⟨dG [] [] [] [] false,rfl,aF,U7 op m h K,bf,?_⟩;dsimp only[U7,push_cast]
 repeat' (first|(refine aB (λ_=>?_) (λ_=>?_))|(refine Ap c ?_;simp only[arity];simp only[*,Bool.or_false,Bool.false_or,Bool.or_true,Bool.true_or,Bool.and_true,Bool.true_and,Bool.and_false,Bool.false_and,Bool.not_true,Bool.not_false,Bool.false_eq_true,if_true,if_false, ↓reduceIte];done)|(refine Ap c ?_;simp only[arity];simp only[*,Bool.or_false,Bool.false_or,Bool.or_true,Bool.true_or,Bool.and_true,Bool.true_and,Bool.and_false,Bool.false_and,Bool.not_true,Bool.not_false,Bool.false_eq_true,if_true,if_false, ↓reduceIte];rfl))
theorem YI:bk 100 bgX:=by
 refine iB func100 ?_;rintro g m h K ⟨a,n,e,rfl,c⟩;refine⟨dG [] [] [] [] false,rfl,aF,R7 a n e m h K,bf,?_⟩;dsimp only[R7,push_cast];unfold xP at c;refine aB (λd=>?_) (λd=>?_)
 .rw[if_pos d]at c;refine aE (λf=>iV c ?_) (λf=>iV c ?_)
  .rw[decide_eq_true f];rfl
  .rw[decide_eq_false f];rfl
 .rw[if_neg (by simp[d])]at c;exact iV c rfl
theorem Ya:bk 156 a8Q:=by
 refine iB func156 ?_;rintro n m h K ⟨v,p,rfl,o,j⟩;refine⟨dG [] [] [] [] false,rfl,aF,Rv v m h K,bf,?_⟩;dsimp only[Rv,push_cast];obtain⟨op,u,l,r,args⟩:=p;obtain⟨rfl,rfl,rfl,rfl,y⟩:=o.parts;have z:=BI y.slen;have bad:¬(Pred.mk v.op v.cmp v.left v.right args=gS)->K (.val (.bool false)) m h:=λA=>j false ⟨λe=>(by cases e),λe=>(A e).elim⟩;simp only[gS,Pred.mk.injEq]at j bad;refine aB (λc=>aB (λd=>⟨_,Af v.left dR,aB (λf=>⟨_,Af v.right dR,aB (λg=>j _ ?_) (λg=>bad ?_)⟩) (λf=>bad ?_)⟩) (λd=>bad ?_)) (λc=>bad ?_)
 .rw[z];exact⟨λe=>⟨bj c,bj d,oH.1 f,oH.1 g,e⟩,λe=>e.2.2.2.2⟩
 .intro e;rw[oH.2 e.2.2.2.1]at g;cases g
 .intro e;rw[oH.2 e.2.2.1]at f;cases f
 .intro e;rw[e.2.1]at d;cases d
 .intro e;rw[e.1]at c;cases c
theorem YH:bk 101 Wk:=by
 refine iB func101 ?_;rintro R m h K ⟨v,t,rfl,x,o⟩;refine⟨a4X v m h,rfl,aD Ya aF,R6 v m h K,bf,?_⟩;dsimp only[R6,push_cast];obtain⟨op,ta,w,co,on,gr,od,li,le,T⟩:=t;obtain⟨G,H,I,u,y,J,xs,L,_,_⟩:=x;simp only at G H I u y J xs L;have U:=BI u.slen;have V:=BI y.slen;have M:=BI J.slen;have O:=BI xs.slen;simp only[Step.query,dM]at o;subst G H L;have bad:∀{P:Prop},¬P->((v.op=1\/v.table=0)/\(v.op=2\/w=gS)/\(v.op=3\/co=[])/\(v.op=4\/v.op=5\/on=[])/\(v.op=9\/v.op=10\/(gr=[]/\od=[]/\v.limit=0))->P)->K (.val (.bool false)) m h:=λB S=>o false ⟨λe=>(by cases e),λe=>(B (S e)).elim⟩;have f:∀{n:Nat}{α:Type}{l:List α},n=l.length->((n:Int)>0↔l≠[]):=fun{n α l} e=>by rw[e,ne_eq, <-length_eq_zero_iff];omega
 refine⟨λ_=>v.op=1\/v.table=0,aB (λd=>aB (λc=>bad (P:=v.op=1\/v.table=0) ?_ λe=>e.1) (λc=>⟨(),.inr (bj c),MT⟩)) (λd=>⟨(),.inl (bj d),MT⟩),λ_ C=>?_⟩
 .rw[not_or];exact⟨bj d,bj c⟩
 refine⟨λ_=>v.op=2\/w=gS,aB (λd=>⟨v.where_,w,rfl,I,λr Q=>aB (λc=>bad (P:=v.op=2\/w=gS) ?_ λe=>e.2.1) (λc=>⟨(),.inr (Q.1 (bj c)),MT⟩)⟩) (λd=>⟨(),.inl (bj d),MT⟩),λ_ D=>?_⟩
 .rw[not_or];refine⟨bj d,λe=>?_⟩;rw[Q.2 e]at c;cases c
 refine⟨λ_=>v.op=3\/co=[],aB (λd=>aE (λc=>bad (P:=v.op=3\/co=[]) ?_ λe=>e.2.2.1) (λc=>⟨(),.inr ?_,MT⟩)) (λd=>⟨(),.inl (bj d),MT⟩),λ_ E=>?_⟩
 .rw[not_or];exact⟨bj d,(f u.slen).1 c⟩
 .exact Classical.byContradiction λe=>c ((f u.slen).2 e)
 refine⟨λ_=>v.op=4\/v.op=5\/on=[],aB (λd=>aB (λj=>aE (λc=>bad (P:=v.op=4\/v.op=5\/on=[]) ?_ λe=>e.2.2.2.1) (λc=>⟨(),.inr (.inr ?_),MT⟩)) (λj=>⟨(),.inr (.inl (bj j)),MT⟩)) (λd=>⟨(),.inl (bj d),MT⟩),λ_ F=>?_⟩
 .rw[not_or,not_or];exact⟨bj d,bj j,(f y.slen).1 c⟩
 .exact Classical.byContradiction λe=>c ((f y.slen).2 e)
 refine aB (λd=>aB (λc=>?_) (λc=>o true ⟨λ_=>⟨C,D,E,F,.inr (.inl (bj c))⟩,λ_=>rfl⟩)) (λd=>o true ⟨λ_=>⟨C,D,E,F,.inl (bj d)⟩,λ_=>rfl⟩);have d:v.op≠9:=bj d
 have c:v.op≠10:=bj c
 have g:¬(gr=[]/\od=[]/\v.limit=0)->K (.val (.bool false)) m h:=λB=>bad B λe=>(e.2.2.2.2.resolve_left d).resolve_left c;refine aB (λz=>aB (λA=>o _ ?_) (λA=>g λe=>?_)) (λz=>g λe=>?_)
 .rw[beq_iff_eq];exact⟨λe=>⟨C,D,E,F,.inr (.inr ⟨M.1 z,O.1 A,e⟩)⟩,λe=>((e.2.2.2.2.resolve_left d).resolve_left c).2.2⟩
 .rw[O.2 e.2.1]at A;cases A
 .rw[M.2 e.1]at z;cases z
open Classical in
noncomputable def Uw(a co:br):br×Int:=if co≠[]/\Good (λ_ c=>EU a c=true) co then mG (co.map λc=>a.getD c.toNat 0)else eY 120
def bGX:Vc.Spec:=λc m h K=>∃s t a co,c=[cS s,cS t]/\Ints h s a/\Ints h t co/\KR K m h (Uw a co)
def Sn:Vc.Spec:=λc m h K=>∃s t u a b on,c=[cS s,cS t,cS u]/\Ints h s a/\Ints h t b/\jK h u on/\a.length<=1000/\b.length<=1000/\∀r:Bool,(r=true↔Good (tM a b) on)->K (cB r) m h
def Px:Vc.Spec:=λc m h K=>∃s v a t,c=[cS s,aT v]/\Ints h s a/\rR h t v/\a.length<=1000/\∀r:Bool,(r=true↔qI a t.group t.order t.limit)->K (cB r) m h
def eB(b:Bool):bm:=[.bool b]
noncomputable def a4Q(s t:Sl)(m:MH)(h:PH):Ctx:=
 dG [] [(4,{A:=Nat,st:=λi=>bO 51 53 [(0,sv s),(1,sv t),(14,sv t),(15,iv t.len),(16,iv i)] [] m h}),
  (13,{A:=Nat×br,st:=λ⟨i,l⟩=>bO 51 53 [(0,sv s),(8,.at (.lst 34)),(35,sv t),(36,iv t.len),(37,iv i)] [(34,.lst 3 1 (l.map eI))] m h})] [] [] false
noncomputable def a3J(s t u:Sl)(m:MH)(h:PH):Ctx:=
 dG [] [(4,{A:=Nat×ct×ct,st:=λ⟨i,x,y⟩=>bO 75 78 [(0,sv s),(1,sv t),(7,.at (.lst 15)),(8,.at (.lst 18)),(19,sv u),(20,iv u.len),(21,iv i)] [(15,.lst 4 1 (x.map eB)),(18,.lst 4 1 (y.map eB))] m h})] [(9,{A:=Nat×ct×ct×Int×Int,st:=λ⟨i,x,y,a,b⟩=>bO 75 78 [(0,sv s),(1,sv t),(7,.at (.lst 15)),(8,.at (.lst 18)),(11,iv a),(12,iv b),(19,sv u),(20,iv u.len),(21,iv i)] [(15,.lst 4 1 (x.map eB)),(18,.lst 4 1 (y.map eB))] m h})] [] false
noncomputable def a3Z(s:Sl)(v:l7)(m:MH)(h:PH):Ctx:=
 dG [] [(3,{A:=Nat×ct,st:=λ⟨i,x⟩=>bO 68 70 [(0,sv s),(3,.at (.ptr 3 0)),(5,.at (.lst 12)),(14,sv v.group),(15,iv v.group.len),(16,iv i)] [(3,.cells 111 (v.enc.map .val)),(12,.lst 4 1 (x.map eB))] m h}),
  (12,{A:=Nat,st:=λi=>bO 68 70 [(0,sv s),(3,.at (.ptr 3 0)),(43,sv v.order),(44,iv v.order.len),(45,iv i)] [(3,.cells 111 (v.enc.map .val))] m h})] [] [] false
def R5(s t:Sl)(m:MH)(h:PH)(K:bo):Prop:=
  eD (aG t) 0 (K (CV.tup (aW jG 120)) m h) (nR (λI x=>aA (I x) (aH s) (aA (aH t) (aH t) (aA (bG t) (bC x) (aA (m=m) (h=h) True)))) (λI f x=>I x->aZ (↑x:Int) (aG t) (aK (λb o=>aA (aL t.a b o) (0<=(↑x:Int)) ((↑x:Int)<aG t/\∃(y:Int),aJ m h b (bK o x 1) (bL y)/\aZ y 0 (K (CV.tup (aW jG 120)) m h) (fO y (aG s) (K (CV.tup (aW jG 120)) m h) (∃(c:Nat),aA (I c) (f c<f x) (aA (aH s) (aH t) (aA (aH t) (bG t) (aA (bD (fP (bE x 1)) c) (m=m) (bX h h))))))))) (dZ (aG t) 12 (K (CV.tup (aW jG 2)) m h) (Be t 8 (MW (λI1 c=>aA (I1 c) (aH s) (aA (eL 34) (aH t) (aA (bG t) (bC c.1) (aA (wT 3 t (jD bJ) (pO c)) (m=m) (bX h h))))) (λI1 g c=>I1 c->aZ (↑c.1:Int)
 (aG t) (aK (λb o=>aA (aL t.a b o) (0<=(↑c.1:Int)) ((↑c.1:Int)<aG t/\∃(y:Int),aJ m h b (bK o c.1 1) (bL y)/\aK (λj n=>aA (aL s.a j n) (0<=y) (y<aG s/\∃(u:Int),aA (aJ m h j (fX n y 1) (bL u)) (0<=(↑c.1:Int)) ((↑c.1:Int)<lU (pO c)/\∃(e:bm),aA (jC (pO c) (lK c.1) e) (yG 0 e) (∃(d:Nat×br),aA (I1 d) (g d<g c) (aA (aH s) (eL 34) (aA (aH t) (bG t) (aA (bD (fP (bE c.1 1)) d.1) (Option.some (Own.lst 3 1 (List.set (pO c) (lK c.1) (xS (fD u) 1 e)))=Option.some (Own.lst 3 1 (pO d))) (dW m m h h))))))))))) (sR h (pO c) K m)))))))
noncomputable abbrev nN(a:ct):List bm:=List.map eB a
noncomputable abbrev zZ(a:Nat×ct×ct×Int×Int):Int:=a.2.2.2.1
noncomputable abbrev wX(a:Nat×ct×ct×Int×Int):Int:=a.2.2.2.2
noncomputable abbrev Er(a:Nat×ct×ct×Int×Int):List bm:=nN a.2.2.1
attribute [push_cast] nN zZ wX Er
def R4(s t u:Sl)(m:MH)(h:PH)(K:bo):Prop:=
  aA (cF (aG s)) (aG s<=aG s) (aA (z8 s 1) (yJ (aG s)) (aA (cF (aG t)) (aG t<=aG t) (aA (z8 t 1) (yJ (aG t)) (∃(I:Nat×ct×ct->Prop)(j:Nat×ct×ct->Nat),(∃(x:Nat×ct×ct),aA (I x) (aH s) (aA (aH t) (eL 15) (aA (eL 18) (aH u) (aA (bG u) (bC x.1) (aA (wT 4 s (jD tU) (nN x.2.1)) (wT 4 t (jD tU) (nN x.2.2)) (aA (m=m) (h=h) True))))))/\∀(x:Nat×ct×ct),I x->aZ (↑x.1:Int) (aG u) (aK (λb o=>aA (aL u.a b o) (0<=(↑x.1:Int)) ((↑x.1:Int)<aG u/\∃(y:Int×Int),aA (aJ m h b (bK o x.1 2) (uS y)) (cF 0) (aA ((0:Int)<2) (cF 1) ((1:Int)<2/\∃(I1:Nat×ct×ct×Int×Int->Prop),aZ y.1 0 (K aX m h) (fO
 y.1 (aG s) (K aX m h) (aZ y.2 0 (K aX m h) (fO y.2 (aG t) (K aX m h) (∃(c:Nat×ct×ct×Int×Int),aA (I1 c) (aH s) (aA (aH t) (eL 15) (aA (eL 18) (cQ y.1 (zZ c)) (aA (cQ y.2 (wX c)) (aH u) (aA (bG u) (cG x.1 c.1) (aA (Option.some (Own.lst 4 1 (nN x.2.1))=Option.some (Own.lst 4 1 (nN c.2.1))) (Option.some (Own.lst 4 1 (nN x.2.2))=Option.some (Own.lst 4 1 (Er c))) (dW m m h h))))))))))/\∀(c:Nat×ct×ct×Int×Int),I1 c->aK (λn z=>aA (aL s.a n z) (0<=zZ c) (zZ c<aG s/\∃(A:Int),aJ m h n (fX z (zZ c) 1) (bL A)/\aK (λB C=>aA (aL t.a B C) (0<=wX c) (wX c<aG t/\∃(D:Int),aJ m h B (fX C (wX c) 1) (bL D)/\cO A D (K aX m
 h) (oO (zZ c) (nN c.2.1) (λe=>jC (nN c.2.1) (zZ c).toNat e/\∃(E:Bool),gK (mZ 1 e (qV E)) E (K aX m h) (oO (wX c) (Er c) (λF=>jC (Er c) (wX c).toNat F/\∃(G:Bool),gK (mZ 1 F (qV G)) G (K aX m h) (oO (zZ c) (nN c.2.1) (λf=>aA (jC (nN c.2.1) (zZ c).toNat f) (yG 0 f) (aA (cF (wX c)) (wX c<lU (Er c)) (∃(g:bm),aA (jC (Er c) (wX c).toNat g) (yG 0 g) (∃(d:Nat×ct×ct),aA (I d) (j d<j x) (aA (aH s) (aH t) (aA (eL 15) (eL 18) (aA (aH u) (bG u) (aA (bD (fP (bE c.1 1)) d.1) (Option.some (Own.lst 4 1 (List.set (nN c.2.1) (zZ c).toNat (xS BF 1 f)))=Option.some (Own.lst 4 1 (nN d.2.1)))
 (aA (Option.some (Own.lst 4 1 (List.set (Er c) (wX c).toNat (xS BF 1 g)))=Option.some (Own.lst 4 1 (nN d.2.2))) (m=m) (bX h h)))))))))))))))))))))))) (K gL m h)))))
def R3(s:Sl)(v:l7)(m:MH)(h:PH)(K:bo):Prop:=
  Be s 1 (∃(I:Nat×ct->Prop)(g:Nat×ct->Nat),(∃(x:Nat×ct),aA (I x) (aH s) (aA (eP 3) (eL 12) (aA (aH v.group) (bG v.group) (aA (bC x.1) (j9 v) (dK (wT 4 s (jD tU) (nN x.2)) m m h h)))))/\∀(x:Nat×ct),I x->aZ (↑x.1:Int) (aG v.group) (aK (λb o=>aA (aL v.group.a b o) (0<=(↑x.1:Int)) ((↑x.1:Int)<aG v.group/\∃(y:Int),aJ m h b (bK o x.1 1) (bL y)/\aZ y 0 (K aX m h) (fO y (aG s) (K aX m h) (oO y (nN x.2) (λe=>jC (nN x.2) y.toNat e/\∃(j:Bool),gK (mZ 1 e (qV j)) j (K aX m h) (oO y (nN x.2) (λd=>aA (jC (nN x.2) y.toNat d) (yG 0 d) (∃(c:Nat×ct),aA (I c) (g c<g x) (aA (aH s) iM (aA (eL 12) (aH v.group) (aA (bG v.group)
 (bD (fP (bE x.1 1)) c.1) (aA (j9 v) (Option.some (Own.lst 4 1 (List.set (nN x.2) y.toNat (xS BF 1 d)))=Option.some (Own.lst 4 1 (nN c.2))) (aA (m=m) (h=h) True)))))))))))))) (dZ (aG v.order) 12 (K aX m h) (nR (λI1 c=>aA (I1 c) (aH s) (aA (eP 3) (aH v.order) (aA (bG v.order) (bC c) (aA (j9 v) (m=m) (bX h h))))) (λI1 n c=>I1 c->aZ (↑c:Int) (aG v.order) (aK (λb o=>aA (aL v.order.a b o) (0<=(↑c:Int)) ((↑c:Int)<aG v.order/\∃(y:Int×Bool),aJ m h b (bK o c 2) (zR y)/\aZ y.1 0 (K aX m h) (fO y.1 (aG s) (K aX m h) (∃(f:Nat),aA (I1 f) (n f<n c) (aA (aH s) iM (aA (aH v.order) (bG v.order) (aA (bD (fP (bE c 1)) f) (j9 v) (dW m m h h))))))))) (fO v.limit 0 (K (Ah (decide
 (v.limit<=100))) m h) (K aX m h))))))
theorem KR.bad{r:br×Int}{e:Int}(c:KR K m h r)(d:r=eY e):K (.tup [.val (.slice none 0 0),.val (.int .i64 e)]) m h:=c.err (.refl _) d
theorem YG:bk 102 bGX:=by
 refine iB func102 ?_;rintro J m h K ⟨s,t,a,co,rfl,G,y,n⟩;refine⟨a4Q s t m h,rfl,aF,R5 s t m h K,bf,?_⟩;dsimp only[R5,push_cast];have X:=G.slen;have A:=y.slen;have H:=y.len;unfold Uw at n;refine aB (λz=>n.bad (if_neg λe=>e.1 ((BI y.slen).1 z))) (λz=>?_);have B:co≠[]:=λe=>by rw[(BI y.slen).2 e]at z;cases z
 refine⟨λi=>i<=co.length/\fC (λ_ c=>EU a c=true) co i,λi=>co.length-i,⟨0,⟨aC,.zero⟩,MT⟩,λi⟨Y,I⟩=>aE (λd=>?_) (λC=>?_)⟩
 .obtain⟨c,j⟩:=eN A d;obtain⟨b,o,e,r⟩:=y.at' j;refine⟨b,o,e,aC,d,c,.imm r,aE (λD=>n.bad (if_neg λg=>?_)) (λD=>aE (λL=>n.bad (if_neg λg=>?_)) (λL=>⟨i+1,⟨aC,I.succ j (eX.2 ⟨aC,aC⟩)⟩,by show co.length-(i+1)<co.length-i;omega,MT⟩))⟩
  .have:=eX.1 (g.2 i c j);omega
  .have:=eX.1 (g.2 i c j);omega
 have f:=I.all aC;rw[if_pos ⟨B,f⟩]at n;refine aE (λD=>n.big (.refl _) rfl (by simp;omega)) (λD=>⟨aC,aC,aC,aC,?_⟩);refine⟨λ⟨i,l⟩=>i<=co.length/\l=((co.take i).map λc=>a.getD c.toNat 0)++replicate (co.length-i) 0,λ⟨i,_⟩=>co.length-i,⟨(0,replicate co.length 0),⟨aC,bg⟩,?_⟩,?_⟩
 .have:List.map eI (replicate co.length (0:Int))=replicate (Int.toNat (t.len:Int)) [fD 0]:=by rw[map_replicate,Int.toNat_natCast,A];rfl
  rw[this];exact MT
 rintro⟨i,l⟩ ⟨M,rfl⟩;dsimp only;refine aE (λd=>?_) (λC O h' E P=>n.ok E rfl (by simp;omega) ?_)
 .obtain⟨c,j⟩:=eN A d;obtain⟨b,o,e,r⟩:=y.at' j;have u:=eX.1 (f i c j);obtain⟨Q,R,S,T⟩:=G.inb u.1 u.2;refine⟨b,o,e,aC,d,c,.imm r,Q,R,S,u.1,aC,a.getD c.toNat 0,.imm T,aC,by simp;omega,eI 0,?_,by simp[eI],(i+1,((co.take (i+1)).map λc=>a.getD c.toNat 0)++replicate (co.length-(i+1)) 0),⟨by show i+1<=co.length;omega,rfl⟩,by show co.length-(i+1)<co.length-i;omega,?_⟩
  .rw[getElem?_map,Int.toNat_natCast,getElem?_append_right (by simp;omega),getElem?_replicate,if_pos (by simp;omega)];rfl
  .have U:co.length-i=(co.length-(i+1))+1:=by omega
   have V:(List.map eI (((co.take i).map λc=>a.getD c.toNat 0)++replicate (co.length-i) 0)).set (Int.toNat (i:Int)) (fD (a.getD c.toNat 0)::([]++List.drop 1 (eI 0)))=List.map eI (((co.take (i+1)).map λc=>a.getD c.toNat 0)++replicate (co.length-(i+1)) 0):=by
    have W:((co.take i).map λc=>a.getD c.toNat 0).length=i:=by simp;omega
    rw[U,replicate_succ,take_add_one,j,Int.toNat_natCast];simp only[map_append,map_cons];have F:(List.map eI ((co.take i).map λc=>a.getD c.toNat 0)).length=i:=by rw[length_map];exact W
    rw[set_append_right _ _ aC,F,Nat.sub_self];simp[eI]
   rw[<-V];exact MT
 .have:i=co.length:=by omega
  subst this;simpa using P
structure Seen(n:Nat)(x:ct)(l:br):Prop where
 len:x.length=n
 iff:∀k:Nat,k<n->(x[k]? =some true↔(k:Int)∈l)
theorem Seen.zero(n:Nat):Seen n (replicate n false) []:=⟨bg,λk c=>by rw[getElem?_replicate];simp[c]⟩
theorem Seen.map0{n:Nat}{s:Sl}(h:s.len=n):List.map eB (replicate n false)=replicate (Int.toNat (s.len:Int)) [Value.bool false]:=by rw[map_replicate,Int.toNat_natCast,h];rfl
theorem Seen.look{n:Nat}{x:ct}(h:Seen n x l){c:Int}(e:0<=c)(f:c<n):∃y,(List.map eB x)[c.toNat]? =some (eB y)/\(y=true↔c∈l):=by
 have g:=h.len;have d:c.toNat<x.length:=by omega
 refine⟨x[c.toNat],by rw[getElem?_map,getElem?_eq_getElem d];rfl,?_⟩;have:=h.iff c.toNat aC;rw[getElem?_eq_getElem d,show((c.toNat:Nat):Int)=c by omega]at this;simpa using this
theorem Seen.set{n:Nat}{x:ct}(h:Seen n x l){c:Int}(f:0<=c)(g:c<n):Seen n (x.set c.toNat true) (l++[c]):=by
 refine⟨bj h.len,λk d=>?_⟩;have j:=h.len;rw[getElem?_set,mem_append,mem_singleton];by_cases e:c.toNat=k
 .subst e;rw[if_pos rfl,if_pos aC];exact⟨λ_=>.inr aC,λ_=>rfl⟩
 .rw[if_neg e,h.iff k d];exact⟨.inl,λh=>h.elim id λe=>by omega⟩
theorem Seen.cells(x:ct)(k:Nat)(y:Bool):(List.map eB x).set k (Value.bool true::([]++List.drop 1 (eB y)))=List.map eB (x.set k true):=by rw[map_set];rfl
theorem YF:bk 103 Sn:=by
 refine iB func103 ?_;rintro V m h K ⟨s,t,u,a,b,on,rfl,I,J,F,al,bl,L⟩;refine⟨a3J s t u m h,rfl,aF,R4 s t u m h K,bf,?_⟩;dsimp only[R4,push_cast];have W:=I.slen;have X:=J.slen;have Y:=F.slen;have G:=F.len;refine⟨aC,aC,aC,aC,aC,aC,aC,aC,?_⟩;refine⟨λ⟨i,x,y⟩=>i<=on.length/\fC (tM a b) on i/\Seen a.length x ((on.take i).map λp=>p.1)/\Seen b.length y ((on.take i).map λp=>p.2),λ⟨i,_,_⟩=>on.length-i,⟨(0,replicate a.length false,replicate b.length false),⟨aC,.zero,.zero _,.zero _⟩,?_⟩,?_⟩
 .rw[Seen.map0 W,Seen.map0 X];exact MT
 rintro⟨i,x,y⟩ ⟨Z,H,D,E⟩;dsimp only at Z H D E⊢
 refine aE (λB=>?_) (λa'=>L true ⟨λ_=>H.all aC,λ_=>rfl⟩);obtain⟨p,C⟩:=eN Y B;obtain⟨b1,o1,e1,r1⟩:=F.at C;have bad:¬tM a b (on.take i) p->K (.val (.bool false)) m h:=λhn=>L false ⟨λe=>(by cases e),λe=>(Good.not C hn e).elim⟩;refine⟨b1,o1,e1,aC,B,p,.imm r1,aC,aC,aC,aC,λ⟨i',x',y',c,d⟩=>i'=i/\x'=x/\y'=y/\c=p.1/\d=p.2/\EU a p.1=true/\EU b p.2=true,?_,?_⟩
 .refine aE (λn=>bad λg=>?_) (λn=>aE (λo=>bad λg=>?_) (λo=>aE (λz=>bad λg=>?_) (λz=>aE (λh4=>bad λg=>?_) (λh4=>⟨(i,x,y,p.1,p.2),⟨rfl,rfl,rfl,rfl,rfl,eX.2 ⟨aC,aC⟩,eX.2 ⟨aC,aC⟩⟩,MT⟩))))
  .have:=eX.1 g.1;omega
  .have:=eX.1 g.1;omega
  .have:=eX.1 g.2.1;omega
  .have:=eX.1 g.2.1;omega
 rintro⟨i,x,y,c,d⟩ ⟨rfl,rfl,rfl,rfl,rfl,M,O⟩;dsimp only;have f:=eX.1 M;have j:=eX.1 O;obtain⟨b2,o2,e2,r2⟩:=I.inb f.1 f.2;obtain⟨b3,o3,e3,r3⟩:=J.inb j.1 j.2;obtain⟨P,Q,R⟩:=D.look f.1 f.2;obtain⟨S,T,U⟩:=E.look j.1 j.2;have lx:=D.len;have ly:=E.len;refine⟨b2,o2,e2,f.1,aC,_,.imm r2,b3,o3,e3,j.1,aC,_,.imm r3,aB (λn=>bad λg=>?_) (λn=>⟨f.1,by simp;omega,_,Q,P,rfl,aB (λo=>bad λg=>?_) (λo=>⟨j.1,by simp;omega,_,T,S,rfl,aB (λz=>bad λg=>?_) (λz=>?_)⟩)⟩)⟩
 .rw[g.2.2.1]at n;simp at n
 .obtain⟨q,A,e⟩:=mem_map.1 (R.1 o);exact(g.2.2.2 q A).1 e
 .obtain⟨q,A,e⟩:=mem_map.1 (U.1 z);exact(g.2.2.2 q A).2 e
 refine⟨f.1,by simp;omega,_,Q,by simp[eB],j.1,by simp;omega,_,T,by simp[eB],(i+1,x.set p.1.toNat true,y.set p.2.toNat true),⟨by show i+1<=on.length;omega,H.succ C ⟨M,O,bj n,λq A=>⟨λe=>?_,λe=>?_⟩⟩,?_,?_⟩,by show on.length-(i+1)<on.length-i;omega,?_⟩
 .rw[R.2 (mem_map.2 ⟨q,A,e⟩)]at o;cases o
 .rw[U.2 (mem_map.2 ⟨q,A,e⟩)]at z;cases z
 .rw[take_add_one,C,map_append];exact D.set f.1 f.2
 .rw[take_add_one,C,map_append];exact E.set j.1 j.2
 .rw[<-Seen.cells x p.1.toNat P, <-Seen.cells y p.2.toNat S];exact MT
theorem YE:bk 105 Px:=by
 refine iB func105 ?_;rintro T m h K ⟨s,v,a,t,rfl,U,x,al,O⟩;refine⟨a3Z s v m h,rfl,aF,R3 s v m h K,bf,?_⟩;dsimp only[R3,push_cast];have V:=U.slen;have W:=x.group_.slen;have X:=x.order_.slen;have P:=x.group_.len;have Q:=x.order_.len;have Y:=x.limit_;have bad:¬qI a t.group t.order t.limit->K (.val (.bool false)) m h:=λB=>O false ⟨λe=>(by cases e),λe=>(B e).elim⟩;refine⟨aC,aC,aC,aC,?_⟩;refine⟨λ⟨i,u⟩=>i<=t.group.length/\fC (FU a) t.group i/\Seen a.length u (t.group.take i),λ⟨i,_⟩=>t.group.length-i,⟨(0,replicate a.length false),⟨aC,.zero,.zero _⟩,?_⟩,?_⟩
 .rw[Seen.map0 V];exact MT
 rintro⟨i,u⟩ ⟨G,F,C⟩;dsimp only at G F C⊢
 have Z:=C.len;refine aE (λd=>?_) (λD=>?_)
 .obtain⟨c,j⟩:=eN W d;obtain⟨H,I,J,L⟩:=x.group_.at' j;have f:¬FU a (t.group.take i) c->K (.val (.bool false)) m h:=λB=>bad λo=>Good.not j B o.group_;refine⟨H,I,J,aC,d,c,.imm L,aE (λM=>f λg=>?_) (λM=>aE (λz=>f λg=>?_) (λz=>?_))⟩
  .have:=eX.1 g.1;omega
  .have:=eX.1 g.1;omega
  obtain⟨y,R,S⟩:=C.look (c:=c) aC aC;refine⟨aC,by simp;omega,_,R,y,rfl,aB (λA=>f λg=>g.2 (S.1 A)) (λA=>⟨aC,by simp;omega,_,R,by simp[eB],(i+1,u.set c.toNat true),⟨by show i+1<=t.group.length;omega,F.succ j ⟨eX.2 ⟨aC,aC⟩,λe=>?_⟩,?_⟩,by show t.group.length-(i+1)<t.group.length-i;omega,?_⟩)⟩
  .rw[S.2 e]at A;cases A
  .rw[take_add_one,j];exact C.set aC aC
  .rw[<-Seen.cells u c.toNat y];exact MT
 have gg:=F.all aC;clear G F D C Z;refine aE (λM=>bad λo=>by have:=o.len_;omega) (λM=>?_);refine⟨λi=>i<=t.order.length/\fC (HQ a) t.order i,λi=>t.order.length-i,⟨0,⟨aC,.zero⟩,MT⟩,λi⟨G,E⟩=>aE (λd=>?_) (λD=>?_)⟩
 .obtain⟨c,j⟩:=eN X d;obtain⟨H,I,J,L⟩:=x.order_.at j;have n:¬HQ a (t.order.take i) c->K (.val (.bool false)) m h:=λB=>bad λo=>Good.not j B o.order_;refine⟨H,I,J,aC,d,c,.imm L,aE (λz=>n λg=>?_) (λz=>aE (λA=>n λg=>?_) (λA=>⟨i+1,⟨aC,E.succ j (eX.2 ⟨aC,aC⟩)⟩,by show t.order.length-(i+1)<t.order.length-i;omega,MT⟩))⟩
  .have:=eX.1 (show EU a c.1=true from g);omega
  .have:=eX.1 (show EU a c.1=true from g);omega
 have oo:=E.all aC;rw[Y];refine aE (λz=>O _ ⟨λe=>⟨gg,oo,aC,z,bj e⟩,λe=>decide_eq_true e.high⟩) (λz=>bad λo=>by have:=o.low;omega)
def BZ(ks:List br)(a:Int)(n:Bool):br:=if n=true then ks.getD a.toNat []else[]
noncomputable def B5(s:mI)(ks:List br)(t:Step):br×Int:=
 if arity t.op<0\/xP t.left (decide (arity t.op>0)) ks.length=false\/xP t.right (decide (arity t.op>1)) ks.length=false then eY 120
 else if(fH s [] t.query (BZ ks t.left (decide (arity t.op>0))) (BZ ks t.right (decide (arity t.op>1)))).2=100 then eY 120
 else fH s [] t.query (BZ ks t.left (decide (arity t.op>0))) (BZ ks t.right (decide (arity t.op>1)))
def PJ:Vc.Spec:=λc m h K=>∃sc d v s e ks t,c=[aS sc,cS d,aT v]/\gO h s sc/\nK s/\rR h t v/\cR m d 30 1 (e.map eS)/\Slices h e ks/\(∀k∈ks,k.length<=12)/\∀r,fin r=B5 s ks t->KR K m h r
noncomputable def f55_ctx(sc:bY)(kk:Sl)(v:l7)(m:MH)(h:PH):Ctx:=
 dG [(99,PL),(100,bgX),(101,Wk),(81,xO),(98,sJ),(102,bGX),(103,Sn),(104,BR),(105,Px),(106,JT),(79,TT)] [] [(4,{A:=Int,st:=λn=>bO 132 135 [(1,sv kk),(3,.at (.ptr 3 0)),(5,.at (.ptr 5 0)),(8,iv n)] [(3,.cells 40 (sc.enc.map .val)),(5,.cells 111 (v.enc.map .val))] m h}),
  (9,{A:=Int×Sl,st:=λ⟨n,l⟩=>bO 132 135 [(1,sv kk),(3,.at (.ptr 3 0)),(5,.at (.ptr 5 0)),(8,iv n),(9,sv l),(10,.at (.val (.slice none 0 0)))] [(3,.cells 40 (sc.enc.map .val)),(5,.cells 111 (v.enc.map .val))] m h}),
  (11,{A:=Sl×Sl,st:=λ⟨l,r⟩=>bO 132 135 [(3,.at (.ptr 3 0)),(5,.at (.ptr 5 0)),(9,sv l),(10,sv r)] [(3,.cells 40 (sc.enc.map .val)),(5,.cells 111 (v.enc.map .val))] m h}),
  (34,{A:=Sl×Sl×Bool,st:=λ⟨l,r,b⟩=>bO 132 135 [(5,.at (.ptr 5 0)),(9,sv l),(10,sv r),(11,bv b)] [(5,.cells 111 (v.enc.map .val))] m h})] [] false
abbrev Cj(a:Bool)(b:Prop)(c:Sl×Sl×Bool->Prop)(d:Sl×Sl)(e:l7)(g:MH)(i:PH):Prop:=(fS a↔b)->∃(x:Sl×Sl×Bool),aA (c x) dY (aA (bB d.1 x.1) (bB d.2 x.2.1) (aA (iT a x.2.2) (j9 e) (aA (g=g) (i=i) True)))
attribute [push_cast] Cj
def ai(sc:bY)(kk:Sl)(v:l7)(m:MH)(h:PH)(K:bo):Prop:=
  yX v.op (λo=>∃(I:Int->Prop),aZ (arity o) 0 (K (CV.tup (aW jG 120)) m h) (∃(a:Int)(n:Bool)(e:Int),gK (fQ v.left::aW (Ah (decide (arity o>0))) (aG kk)=fQ a::aW (Ah n) e) (!(xP a n e)) (K (CV.tup (aW jG 120)) m h) (∃(C:Int)(G:Bool)(H:Int),gK (fQ v.right::aW (Ah (decide (arity o>1))) (aG kk)=fQ C::aW (Ah G) H) (!(xP C G H)) (K (CV.tup (aW jG 120)) m h) (∃(x:Int),aA (I x) (aH kk) (aA (eP 3) dY (aA (cQ (arity o) x) (bM sc) (aA (j9 v) (m=m) (bX h h)))))))/\∀(x:Int),I x->∃(J:l7)(t:Step),aA (pY v.enc=pY J.enc) (rR h t J) (∀(r:Bool),fA (fS r↔dM (Query.mk t.op t.table t.wher t.columns t.on t.group t.order t.limit [])) (!r) (K (CV.tup (aW jG 120)) m h) (∃(I1:Int×Sl->Prop),dZ x 0
 (aK (λb B=>aA (aL kk.a b B) (0<=v.left) (v.left<aG kk/\∃(y:Sl),aJ m h b (fX B v.left 1) (aM y)/\∃(z:Int×Sl),aA (I1 z) (aH kk) (aA (eP 3) dY (aA (cQ x z.1) (bB y z.2) (aA (eQ sQn) (bM sc) (dK (j9 v) m m h h))))))) (∃(z:Int×Sl),aA (I1 z) (aH kk) (aA (eP 3) dY (aA (cQ x z.1) (sQn=sQs z.2) (aA (eQ sQn) (bM sc) (dK (j9 v) m m h h)))))/\∀(z:Int×Sl),I1 z->∃(I2:Sl×Sl->Prop),dZ z.1 1 (aK (λb B=>aA (aL kk.a b B) (0<=v.right) (v.right<aG kk/\∃(y:Sl),aJ m h b (fX B v.right 1) (aM y)/\∃(d:Sl×Sl),aA (I2 d) iM (aA (eP 5) (bB z.2 d.1) (aA (bB y d.2) (bM sc) (aA (j9 v) (m=m) (bX h h))))))) (∃(d:Sl×Sl),aA (I2 d) iM (aA (eP 5) (bB z.2 d.1) (aA (sQn=sQs
 d.2) (bM sc) (aA (j9 v) (m=m) (bX h h)))))/\∀(d:Sl×Sl),I2 d->∃(I3:Sl×Sl×Bool->Prop),dN (v.op==1) (aZ v.table 0 (K (CV.tup (aW jG 120)) m h) (fO v.table (iX sc) (K (CV.tup (aW jG 120)) m h) (Cn (aW (jR (bR sc)) v.table) h (λs A=>K (CV.tup (aW (rC s) 0)) m A)))) (v.op==2) (IH (cN d.1 (gJ jG (jR v.where_.enc))) h (λc p L=>cO (fI c p L) 0 (K (CV.tup (aW jG (fI c p L))) m h) (∃(f:Sl×Sl×Bool),aA (I3 f) dY (aA (bB d.1 f.1) (bB d.2 f.2.1) (aA (wC f.2.2) (j9 v) (aA (m=m) (h=h) True)))))) (dN (v.op==3) (∃(s:Sl),vE (λg a c=>aA (cA d.1 v.columns=cA s g) (Ints h s a) (Ints h g c/\∀(D:Sl)(A:PH),dA h A (Ints A D (Uw a c).1) (K (CV.tup (eJ D (CV.val (fD (Uw a c).2)))) m
 A)))) (v.op==4) (mS (λs g=>vE (λu a b=>∃(B:bx),aA (cN d.1 (cA d.2 v.on)=cN s (cA g u)) (Ints h s a) (aA (Ints h g b) (jK h u B) (aA (fF a) (fF b) (∀(j:Bool),Cj j (Good (tM a b) B) I3 d v m h)))))) (dN (v.op==5) (mS (λs g=>vE (λu a b=>∃(B:bx),aA (cN d.1 (cA d.2 v.on)=cN s (cA g u)) (Ints h s a) (aA (Ints h g b) (jK h u B) (aA (fF a) (fF b) (∀(j:Bool),Cj j (Good (tM a b) B) I3 d v m h)))))) (v.op==6) (Ck d.1 d.2 h (λa b j=>Cj j (a=b) I3 d v m h)) (dN (v.op==7) (Ck d.1 d.2 h (λa b j=>Cj j (a=b) I3 d v m h)) (v.op==8) (Ck d.1 d.2 h (λa b j=>Cj j (a=b) I3 d v m h)) (dN (v.op==9) (∃(s:Sl)(E:l7)(a:br)(g:
 Step),aA (eJ d.1 (jR v.enc)=eJ s (jR E.enc)) (Ints h s a) (aA (rR h g E) (fF a) (∀(j:Bool),Cj j (qI a g.group g.order g.limit) I3 d v m h))) (v.op==10) (Ck d.1 d.2 h (λa b j=>fA (fS j↔a=b) j (∃(s:Sl)(E:l7)(C:br)(g:Step),aA (eJ d.1 (jR v.enc)=eJ s (jR E.enc)) (Ints h s C) (aA (rR h g E) (fF C) (∀(P:Bool),Cj P (qI C g.group g.order g.limit) I3 d v m h))) (∃(f:Sl×Sl×Bool),aA (I3 f) dY (aA (bB d.1 f.1) (bB d.2 f.2.1) (aA (BC f.2.2) (j9 v) (aA (m=m) (h=h) True)))))) (∃(f:Sl×Sl×Bool),aA (I3 f) dY (aA (bB d.1 f.1) (bB d.2 f.2.1) (aA (wC f.2.2) (j9 v) (aA (m=m) (h=h) True))))))))/\∀(f:Sl×Sl×Bool),I3 f->dN (!f.2.2) (K (CV.tup (aW jG 120)) m h)
 (v.op==4) (bZ h 1 (aM f.1::iA (aM f.2.1)) (λs A=>∃(D:Sl)(k:List br),aA (gW s=gW D) (bSJ A D k) (aA (k.length<=10) (∀(M:br),List.Mem M k->M.length<=12) (∀(O:Sl)(F:PH),dA A F (Ints F O k.flatten) (K (CV.tup (aW (rC O) 0)) m F))))) (p9 f.1 h (λl=>∀(s:Sl)(A:PH),dA h A (Ints A s l) (K (CV.tup (aW (rC s) 0)) m A))))))
theorem cR.rdAt{m:MH}{h:PH}{s:Sl}{E sz:Nat}{xs:List bm}(r:cR m s E sz xs){i:Nat}{e:bm}(g:xs[i]? =some e):∃b o,s.a=some ⟨b,o,none⟩/\aJ m h b (o+i*sz) e:=by
 rcases r.ex with⟨_,rfl⟩|⟨b,n,f,rfl,u,_,_,_,y⟩
 .simp at g
 .refine⟨b,0,rfl,.lent f E (0,0) u ?_⟩;apply ext_getElem?;intro j;rw[getElem?_take];by_cases c:j<e.length
  .rw[if_pos c,getElem?_drop,Nat.zero_add];have d:=kU r.rows.len g j e[j] (getElem?_eq_getElem c);rw[<-y,getElem?_take]at d;split at d
   .rw[d,getElem?_eq_getElem c]
   .cases d
  .rw[if_neg c,getElem?_eq_none aC]
theorem Zs{kk:Sl}{c:ca}(r:cR m kk 30 1 (c.map eS))(g:Slices h c ks){a:Int}(j:0<=a)(n:a<ks.length):∃b o sl,kk.a=some ⟨b,o,none⟩/\aJ m h b (o+a.toNat*1) [.slice sl.a sl.len sl.cap]/\Ints h sl (ks.getD a.toNat []):=by
 have f:a.toNat<ks.length:=by omega
 have d:a.toNat<c.length:=by rw[g.1];exact f
 obtain⟨b,o,e,rd⟩:=cR.rdAt (h:=h) r (i:=a.toNat) (e:=eS c[a.toNat]) (by rw[getElem?_map,getElem?_eq_getElem d];rfl);refine⟨b,o,c[a.toNat],e,rd,?_⟩;rw[getD_eq_getElem?_getD,getElem?_eq_getElem f];exact g.2 a.toNat _ _ (getElem?_eq_getElem d) (getElem?_eq_getElem f)
theorem Wg(h:∀k∈ks,k.length<=12)(a:Int)(n:Bool):(BZ ks a n).length<=12:=by
 unfold BZ;split
 .rw[getD_eq_getElem?_getD];cases e:ks[a.toNat]? with
  |none=>simp
  |some k=>exact h k (mem_of_getElem? e)
 .simp
open Classical in
theorem ay{sc:bY}{kk:Sl}{v:l7}{s:mI}{ss:ca}{ks:List br}{t:Step}{m:MH}{h:PH}{K:bo}(hs:gO h s sc)(h8:nK s)(x:rR h t v)(hr:cR m kk 30 1 (ss.map eS))(a':Slices h ss ks)(a3:∀k∈ks,k.length<=12)
 (a4:∀r,fin r=B5 s ks t->KR K m h r):ai sc kk v m h K:=by
 dsimp only[ai,push_cast];have L:Tst K m h (B5 s ks t):=⟨a4⟩
 clear a4
 have kl:kk.len=ks.length:=by
  have:=cR.slen hr;rw[length_map]at this;rw[this,a'.1]
 have ex:=x;have b1:=hs.tables.slen;obtain⟨op,ta,w,co,on,gr,od,li,le,ri⟩:=t;obtain⟨e0,e1,xw,xc,xo,xg,xs,e2,e3,e4⟩:=x;simp only at e0 e1 xw xc xo xg xs e2 e3 e4;subst e0 e1 e2 e3 e4;have a5:=Wg a3 v.left (decide (arity v.op>0));have a6:=Wg a3 v.right (decide (arity v.op>1))
 have d:B5 s ks ⟨v.op,v.table,w,co,on,gr,od,v.limit,v.left,v.right⟩=if arity v.op<0\/xP v.left (decide (arity v.op>0)) ks.length=false\/xP v.right (decide (arity v.op>1)) ks.length=false then eY 120
  else if(fH s [] (.mk v.op v.table w co on gr od v.limit []) (BZ ks v.left (decide (arity v.op>0))) (BZ ks v.right (decide (arity v.op>1)))).2=100 then eY 120
  else fH s [] (.mk v.op v.table w co on gr od v.limit []) (BZ ks v.left (decide (arity v.op>0))) (BZ ks v.right (decide (arity v.op>1))):=rfl
 generalize hA:BZ ks v.left (decide (arity v.op>0))=A at d a5;generalize hB:BZ ks v.right (decide (arity v.op>1))=B at d a6;generalize B5 s ks ⟨v.op,v.table,w,co,on,gr,od,v.limit,v.left,v.right⟩=R at L d;refine⟨v.op,rfl,λn=>n=arity v.op/\¬(arity v.op<0\/xP v.left (decide (arity v.op>0)) ks.length=false\/xP v.right (decide (arity v.op>1)) ks.length=false),aE (λu=>L.err (by rw[d,if_pos (.inl u)]) bh (.refl _)) (λu=>⟨v.left,_,(kk.len:Int),rfl,aB (λS=>?_) (λS=>⟨v.right,_,(kk.len:Int),rfl,aB (λh3=>?_) (λh3=>⟨arity v.op,⟨rfl,?_⟩,MT⟩)⟩)⟩),?_⟩
 .rw[kl]at S;exact L.err (by rw[d,if_pos (.inr (.inl (bj S)))]) bh (.refl _)
 .rw[kl]at h3;exact L.err (by rw[d,if_pos (.inr (.inr (bj h3)))]) bh (.refl _)
 .rw[kl]at S h3;rintro(e|e|e)
  .exact u e
  .rw[e]at S;cases S
  .rw[e]at h3;cases h3
 rintro n ⟨rfl,T⟩;rw[if_neg T]at d;have V:¬arity v.op<0:=λe=>T (.inl e);refine⟨v,_,rfl,ex,λr a0=>aB (λu=>L.err ?_ (e:=120) bh (.refl _)) (λu=>?_)⟩
 .have hn:¬dM (.mk v.op v.table w co on gr od v.limit []):=λe=>by rw[a0.2 e]at u;cases u
  have e:fH s [] (.mk v.op v.table w co on gr od v.limit []) A B=eY 100:=by
   unfold fH;exact if_pos (.inr hn)
  rw[d,e];rfl
 have hu:dM (.mk v.op v.table w co on gr od v.limit []):=a0.1 (bj u);clear a0 u r
 have D:fH s [] (.mk v.op v.table w co on gr od v.limit []) A B=if v.op=1 then(if 0<=v.table/\v.table<s.tables.length then mG (jY s v.table)else eY 100)
  else if v.op=2 then(if fI A [] w=0 then mG A else eY (fI A [] w))
  else if v.op=3 then(if co≠[]/\Good (λ_ c=>EU A c=true) co then mG (co.map λc=>A.getD c.toNat 0)else eY 100)
  else if v.op=4 then(if Good (tM A B) on then mG (A++B)else eY 100)
  else if v.op=5 then(if Good (tM A B) on then mG A else eY 100)
  else if v.op=9 then(if qI A gr od v.limit then mG A else eY 100)
  else if v.op=10 then(if A=B/\qI A gr od v.limit then mG A else eY 100)
  else(if A=B then mG A else eY 100):=by
  unfold fH;exact if_neg (λe=>e.elim V λe=>e hu)
 have a7:∀l,(mG l).2≠100:=λl=>by unfold mG;split<;>simp
 have H:∀{l},fH s [] (.mk v.op v.table w co on gr od v.limit []) A B=mG l->R=mG l:=fun{l} e=>by rw[d,e,if_neg (a7 l)]
 have C:fH s [] (.mk v.op v.table w co on gr od v.limit []) A B=eY 100->R=eY 120:=λe=>by rw[d,e];rfl
 have a8:∀{e},e≠100->fH s [] (.mk v.op v.table w co on gr od v.limit []) A B=eY e->R=eY e:=fun{e} h0 e1=>by rw[d,e1,if_neg (by simpa[eY]using h0)]
 clear d;refine⟨λ⟨n,l⟩=>n=arity v.op/\Ints h l A,aE (λu=>?_) (λu=>⟨(arity v.op,⟨none,0,0⟩),⟨rfl,?_⟩,MT⟩),?_⟩
 .have O:xP v.left (decide (arity v.op>0)) ks.length=true:=by
   cases e:xP v.left (decide (arity v.op>0)) ks.length with
   |true=>rfl
   |false=>exact(T (.inr (.inl e))).elim
  unfold xP at O;rw[if_pos (decide_eq_true u)]at O;simp only[Bool.and_eq_true,decide_eq_true_eq]at O;obtain⟨b,o,W,e,rd,U⟩:=Zs hr a' O.1 O.2;refine⟨b,o,e,O.1,aC,W,rd,(arity v.op,W),⟨rfl,?_⟩,MT⟩;rw[<-hA,BZ,if_pos (decide_eq_true u)];exact U
 .rw[<-hA,BZ,if_neg (bj u)];exact⟨.nil _ _,bg⟩
 rintro⟨n,l⟩ ⟨rfl,E⟩;dsimp only;refine⟨λ⟨l,r⟩=>Ints h l A/\Ints h r B,aE (λu=>?_) (λu=>⟨(l,⟨none,0,0⟩),⟨E,?_⟩,MT⟩),?_⟩
 .have O:xP v.right (decide (arity v.op>1)) ks.length=true:=by
   cases e:xP v.right (decide (arity v.op>1)) ks.length with
   |true=>rfl
   |false=>exact(T (.inr (.inr e))).elim
  unfold xP at O;rw[if_pos (decide_eq_true u)]at O;simp only[Bool.and_eq_true,decide_eq_true_eq]at O;obtain⟨b,o,W,e,rd,U⟩:=Zs hr a' O.1 O.2;refine⟨b,o,e,O.1,aC,W,rd,(l,W),⟨E,?_⟩,MT⟩;rw[<-hB,BZ,if_pos (decide_eq_true u)];exact U
 .rw[<-hB,BZ,if_neg (bj u)];exact⟨.nil _ _,bg⟩
 clear E l;rintro⟨l,r⟩ ⟨E,j⟩;dsimp only;have X:∀b:Bool,(b=true->R=mG (if v.op=4 then A++B else A))->(b=false->R=eY 120)->∃x:Sl×Sl×Bool,((λ⟨l,r,b⟩=>Ints h l A/\Ints h r B/\(b=true->R=mG (if v.op=4 then A++B else A))/\(b=false->R=eY 120):Sl×Sl×Bool->Prop)) x/\(l,r,b)=x:=λb g1 g2=>⟨_,⟨E,j,g1,g2⟩,rfl⟩
 refine⟨λ⟨l,r,b⟩=>Ints h l A/\Ints h r B/\(b=true->R=mG (if v.op=4 then A++B else A))/\(b=false->R=eY 120),?_,?_⟩
 .refine aB (λM=>?_) (λM=>aB (λP=>?_) (λP=>aB (λY=>?_) (λY=>?_)))
  .have M:v.op=1:=bj M
   rw[if_pos M]at D;refine aE (λu=>L.err (C (by rw[D,if_neg aC])) bh (.refl _)) (λu=>aE (λS=>L.err (C (by rw[D,if_neg aC])) bh (.refl _)) (λS=>⟨sc,s,v.table,rfl,hs,h8,λW h' I U=>L.ok (H (by rw[D,if_pos aC])) I U⟩))
  .have M:¬v.op=1:=bj M
   have P:v.op=2:=bj P
   rw[if_neg M,if_pos P]at D
   have b':fI A [] w≠100:=by unfold fI;repeat' split
                             all_goals decide
   refine⟨l,⟨none,0,0⟩,v.where_,A,[],w,rfl,E,⟨.nil _ _,bg⟩,xw,aB (λu=>?_) (λu=>⟨(l,r,true),⟨E,j,λ_=>?_,λe=>(by cases e)⟩,MT⟩)⟩
   .have u:fI A [] w≠0:=bj u
    exact L.err (a8 b' (by rw[D,if_neg u])) u (.refl _)
   .rw[if_neg aC];exact H (by rw[D,if_pos (bj u)])
  .have M:¬v.op=1:=bj M
   have P:¬v.op=2:=bj P
   have Y:v.op=3:=bj Y
   rw[if_neg M,if_neg P,if_pos Y]at D;refine⟨l,v.columns,A,co,rfl,E,xc,?_⟩;unfold Uw;split
   .rename_i e;have hR:R=mG (co.map λc=>A.getD c.toNat 0):=H (by rw[D,if_pos e]);refine L.all _ ?_;rw[hR];unfold mG;split
    .rename_i u;show fin (_,0)=_;rw[ZB,mG,if_pos u]
    .exact To (e:=2) bh
   .rename_i e;refine L.all _ ?_;rw[C (by rw[D,if_neg e])];exact To bh
  have M:¬v.op=1:=bj M
  have P:¬v.op=2:=bj P
  have Y:¬v.op=3:=bj Y
  rw[if_neg M,if_neg P,if_neg Y]at D;refine aB (λG=>?_) (λG=>aB (λZ=>?_) (λZ=>?_))
  .have G:v.op=4:=bj G
   rw[if_pos G]at D;refine⟨l,r,v.on,A,B,on,rfl,E,j,xo,aC,aC,λz F=>⟨(l,r,z),⟨E,j,λe=>?_,λe=>?_⟩,MT⟩⟩
   .rw[if_pos G];exact H (by rw[D,if_pos (F.1 e)])
   .exact C (by rw[D,if_neg (λg=>by rw[F.2 g]at e;cases e)])
  .have G:¬v.op=4:=bj G
   have Z:v.op=5:=bj Z
   rw[if_neg G,if_pos Z]at D;refine⟨l,r,v.on,A,B,on,rfl,E,j,xo,aC,aC,λz F=>⟨(l,r,z),⟨E,j,λe=>?_,λe=>?_⟩,MT⟩⟩
   .rw[if_neg G];exact H (by rw[D,if_pos (F.1 e)])
   .exact C (by rw[D,if_neg (λg=>by rw[F.2 g]at e;cases e)])
  have G:¬v.op=4:=bj G
  have Z:¬v.op=5:=bj Z
  rw[if_neg G,if_neg Z]at D;simp only[if_neg G]
  have f:¬v.op=9->¬v.op=10->∀z:Bool,(z=true↔A=B)->∃x:Sl×Sl×Bool,(Ints h x.1 A/\Ints h x.2.1 B/\(x.2.2=true->R=mG A)/\(x.2.2=false->R=eY 120))/\x=(l,r,z):=λn9 a1 z F=>by
   rw[if_neg n9,if_neg a1]at D;exact⟨(l,r,z),⟨E,j,λe=>H (by rw[D,if_pos (F.1 e)]),λe=>C (by rw[D,if_neg (λg=>by rw[F.2 g]at e;cases e)])⟩,rfl⟩
  have a2:¬v.op=9->¬v.op=10->∃(s:Sl)(t:Sl)(a:br)(b:br),[rC l,rC r]=[rC s,rC t]/\Ints h s a/\Ints h t b/\∀z:Bool,(z=true↔a=b)->∃x:Sl×Sl×Bool,(Ints h x.1 A/\Ints h x.2.1 B/\(x.2.2=true->R=mG A)/\(x.2.2=false->R=eY 120))/\x=(l,r,z):=λn9 a1=>⟨l,r,A,B,rfl,E,j,f n9 a1⟩
  refine aB (λc6=>?_) (λc6=>aB (λc7=>?_) (λc7=>aB (λc8=>?_) (λc8=>?_)))
  .have c6:v.op=6:=bj c6
   refine⟨l,r,A,B,rfl,E,j,λz F=>?_⟩;obtain⟨_,g,rfl⟩:=f aC aC z F;exact⟨(l,r,z),g,MT⟩
  .have c7:v.op=7:=bj c7
   refine⟨l,r,A,B,rfl,E,j,λz F=>?_⟩;obtain⟨_,g,rfl⟩:=f aC aC z F;exact⟨(l,r,z),g,MT⟩
  .have c8:v.op=8:=bj c8
   refine⟨l,r,A,B,rfl,E,j,λz F=>?_⟩;obtain⟨_,g,rfl⟩:=f aC aC z F;exact⟨(l,r,z),g,MT⟩
  clear f a2 X;refine aB (λQ=>?_) (λQ=>aB (λJ=>?_) (λJ=>?_))
  .have Q:v.op=9:=bj Q
   rw[if_pos Q]at D;refine⟨l,v,A,_,rfl,E,ex,aC,λz F=>⟨(l,r,z),⟨E,j,λe=>H (by rw[D,if_pos (F.1 e)]),λe=>C (by rw[D,if_neg (λg=>by rw[F.2 g]at e;cases e)])⟩,MT⟩⟩
  .have Q:¬v.op=9:=bj Q
   have J:v.op=10:=bj J
   rw[if_neg Q,if_pos J]at D;refine⟨l,r,A,B,rfl,E,j,λy hy=>aB (λy1=>⟨l,v,A,_,rfl,E,ex,aC,λz F=>⟨(l,r,z),⟨E,j,λe=>H (by rw[D,if_pos ⟨hy.1 y1,F.1 e⟩]),λe=>C (by rw[D,if_neg (λg=>by rw[F.2 g.2]at e;cases e)])⟩,MT⟩⟩) (λy1=>⟨(l,r,false),⟨E,j,(λe=>(by cases e)),λe=>C (by rw[D,if_neg (λg=>by rw[hy.2 g.1]at y1;cases y1)])⟩,MT⟩)⟩
  .exfalso;have c6:¬v.op=6:=bj c6
   have c7:¬v.op=7:=bj c7
   have c8:¬v.op=8:=bj c8
   have Q:¬v.op=9:=bj Q
   have J:¬v.op=10:=bj J
   refine V ?_;unfold arity;simp[M,P,Y,G,Z,c6,c7,c8,Q,J]
 clear X E j l r;rintro⟨l,r,b⟩ ⟨E,j,g1,g2⟩;dsimp only at g1 g2⊢
 refine aB (λu=>L.err (g2 (bj u)) bh (.refl _)) (λu=>?_);have g:=g1 (bj u);refine aB (λG=>λW h' I a9=>?_) (λG=>⟨l,A,rfl,E,λs' h' I U=>?_⟩)
 .rw[if_pos (bj G)]at g;refine⟨W,[A,B],rfl,⟨⟨[l,r],a9,rfl,λi k e=>?_⟩,bg⟩,bg,λk hk=>?_,λb2 S b0 U=>L.ok g (I.trans b0) (bj U)⟩
  .match i,e with
   |0,e=>simp at e;subst e;exact⟨l,rfl,E.mono I⟩
   |1,e=>simp at e;subst e;exact⟨r,rfl,j.mono I⟩
   |i+2,e=>simp at e
  .rcases mem_cons.1 hk with rfl|hk
   .exact a5
   .simp at hk;subst hk;exact a6
 .rw[if_neg (bj G)]at g;exact L.ok g I U
theorem az:bk 55 PJ:=by
 refine iB func55 ?_;rintro f m h K ⟨sc,e,v,s,u,ks,t,rfl,g,j,x,n,c,d,o⟩;refine⟨f55_ctx sc e v m h,rfl,aD akJ (aD YI (aD YH (aD KA (aD Kz (aD YG (aD YF (aD EL (aD YE (aD O5 (aD QN aF)))))))))),ai sc e v m h K,bf,?_⟩;exact ay g j x n c d o
noncomputable def Bv(s:mI):List br->cn->List br×Int
 |ks,[]=>(ks,0)
 |ks,t::ts=>if(B5 s ks t).2=0 then Bv s (ks++[(B5 s ks t).1]) ts else(ks,(B5 s ks t).2)
noncomputable def i7(s:mI)(ts:cn)(rs:br):Int:=
 if dH s≠0 then dH s else if 1024<ts.length\/32<rs.length then 2 else if(Bv s [] ts).2≠0 then(Bv s [] ts).2 else if rs.all (λr=>decide (0<=r)&&decide (r<ts.length))=true then 0 else 120
structure rT(h:PH)(p r:Sl)(ts:cn)(rs:br):Prop where
 steps:∃vs,cZ h p 22 (vs.map l7.enc)/\Steps h vs ts
 roots:Ints h r rs
 len:ts.length<=1000000000
def Pv:Vc.Spec:=λc m h K=>∃sc p r s ts rs,c=[aS sc,aPl p r]/\gO h s sc/\rT h p r ts rs/\∀d,K (.tup [cS d,cI (i7 s ts rs)]) m h
noncomputable def bAQ(sc:bY)(p r:Sl):Ctx:=
 pF [(54,vO),(55,PJ)] [(8,{A:=Nat×Sl×MH×PH,st:=λ⟨i,c,m,h⟩=>bO 76 78 [(2,.at (.ptr 2 0)),(3,.at (.ptr 3 0)),(7,sv c),(34,sv p),(35,iv p.len),(36,iv i)] [(2,.cells 40 (sc.enc.map .val)),(3,.cells 52 [.val (.slice p.a p.len p.cap),.val (.slice r.a r.len r.cap)])] m h}),
  (18,{A:=Nat×Sl×MH×PH,st:=λ⟨i,c,m,h⟩=>bO 76 78 [(3,.at (.ptr 3 0)),(7,sv c),(59,sv r),(60,iv r.len),(61,iv i)] [(3,.cells 52 [.val (.slice p.a p.len p.cap),.val (.slice r.a r.len r.cap)])] m h})] [] [] [1057,2057] [] false
abbrev M0(a:(Nat×Sl×MH×PH->Prop)->(Nat×Sl×MH×PH)->Prop)(b:(Nat×Sl×MH×PH->Prop)->(Nat×Sl×MH×PH->Nat)->(Nat×Sl×MH×PH)->Prop):Prop:=∃(x:Nat×Sl×MH×PH->Prop)(d:Nat×Sl×MH×PH->Nat),(∃(c:Nat×Sl×MH×PH),a x c)/\∀(c:Nat×Sl×MH×PH),b x d c
noncomputable abbrev u6(a:Nat×Sl×MH×PH):Sl:=a.2.1
noncomputable abbrev fY(a:Nat×Sl×MH×PH):MH×PH:=a.2.2
attribute [push_cast] M0 u6 fY
def OQ(sc:bY)(p r:Sl)(m:MH)(h:PH)(K:bo):Prop:=
  nV (λv s=>aA (pY (bR sc)=pY (bR v)) (gO h s v) (mR (dH s !=0) (K (CV.tup (aW jG (dH s))) m h) (aG p) 1024 (K (CV.tup (aW jG 2)) m h) (dZ (aG r) 32 (K (CV.tup (aW jG 2)) m h) (aA (cF 0) (cF (aG p)) (aA (z8 p 24) (yJ (aG p)) (iF (λz A=>rE m A h z 30 1 []->M0 (λI x=>aA (I x) gI (aA (eP 3) (bB z (u6 x)) (aA (aH p) (bG p) (aA (bC x.1) (bM sc) (aA (eQ (oQ 52 (lX (qK p) (qK r)))) (cT A (fY x)) (eA h (fY x)/\True)))))) (λI B x=>I x->aZ (↑x.1:Int) (aG p) (aK (λb o=>aA (aL p.a b o) (0<=(↑x.1:Int)) ((↑x.1:Int)<aG p/\∃(y:l7),aJ (fY x).1 (fY x).2 b (bK o x.1 22) y.enc/\AJ (λC k=>∃(D:l7)(j:mI)(E:ca)(n:List br)(t:Step),
 aA (cJ (bR sc) (eJ (u6 x) (jR y.enc))=cJ (bR C) (eJ k (jR D.enc))) (gO (fY x).2 j C) (aA (nK j) (rR (fY x).2 t D) (aA (cR (fY x).1 k 30 1 (kS E)) (Slices (fY x).2 E n) ((∀(F:br),List.Mem F n->F.length<=12)/\∀(g:br×Int),fin g=B5 j n t->∀(u:Sl)(e:PH),dA (fY x).2 e (Ints e u g.1) (mR (g.2 !=0) (K (CV.tup (aW jG g.2)) (fY x).1 e) (aG u) 12 (K (CV.tup (aW jG 2)) (fY x).1 e) (∃(c:List bm),aA (cR (fY x).1 (dJ (u6 x)) 30 1 c) (iL c) (dO c/\iF (λG f=>eK (fY x).1 f (dJ (u6 x)) G 30 1 (iN c u)->∃(d:Nat×Sl×MH×PH),aA (I d) (B d<B x) (aA gI iM (aA (bB G (u6 d)) (aH p) (aA (bG p) (bD (fP (bE x.1 1))
 d.1) (aA (bM sc) (eQ (oQ 52 (lX (qK p) (qK r)))) (aA (cT f (fY d)) (eA e (fY d)) True)))))))))))))))) (M0 (λI1 c=>aA (I1 c) iM (aA (bB (u6 x) (u6 c)) (aH r) (aA (bG r) (bC c.1) (aA (eQ (oQ 52 (lX (qK p) (qK r)))) (eU (fY x) (fY c)) (j4 (cW (fY x) (fY c))))))) (λI1 f c=>I1 c->aZ (↑c.1:Int) (aG r) (aK (λb o=>aA (aL r.a b o) (0<=(↑c.1:Int)) ((↑c.1:Int)<aG r/\∃(y:Int),aJ (fY c).1 (fY c).2 b (bK o c.1 1) (bL y)/\aZ y 0 (K (CV.tup (aW jG 120)) (fY c).1 (fY c).2) (fO y (aG p) (K (CV.tup (aW jG 120)) (fY c).1 (fY c).2) (∃(d:Nat×Sl×MH×PH),aA (I1 d) (f d<f c) (aA iM (bB (u6 c) (u6 d)) (aA (aH r) (bG r) (aA (bD (fP (bE c.1
 1)) d.1) (eQ (oQ 52 (lX (qK p) (qK r)))) (gX (eU (fY c) (fY d)) (cW (fY c) (fY d))))))))))) (K (CV.tup (aW (rC (u6 c)) 0)) (fY c).1 (fY c).2)))))))))))
theorem b0X(h:dH s=0):nK s:=λt c=>by
 obtain⟨i,d⟩:=mem_iff_getElem?.1 c;have e:Da s:=Classical.byContradiction λf=>by rw[uZ f]at h;cases h
 exact(e.2 i t d).1
structure aEQ(m0 m:MH)(h:PH)(kk:Sl)(ks:List br):Prop where
 sub:Sub m0 m
 fresh:∀b i,kk.a=some ⟨b,i,none⟩->m0 b=none
 ex:∃ss,cR m kk 30 1 (ss.map eS)/\Slices h ss ks
 le12:∀k∈ks,k.length<=12
theorem aEQ.new{s:Sl}(x:rE m m' h s 30 1 []):aEQ m m' h s []:=by
 refine⟨λb o e=>?_,λb i e=>(x.fresh b i e).m_,⟨[],x.row,rfl,λj s k e=>by simp at e⟩,λk c=>by simp at c⟩;rw[x.other b (λi d=>by have:=(x.fresh b i d).m_;rw[e]at this;cases this)];exact e
theorem aEQ.grown{m0:MH}{kk sl:Sl}{k:br}(r:aEQ m0 m h kk ks)(le:PH.le h h')(u:Ints h' sl k)(y:k.length<=12):
 ∃xs,cR m ⟨kk.a,kk.len,kk.cap⟩ 30 1 xs/\xs.length=ks.length/\∀f m',eK m m' ⟨kk.a,kk.len,kk.cap⟩ f 30 1 (xs++[[.slice sl.a sl.len sl.cap]])->aEQ m0 m' h' f (ks++[k]):=by
 obtain⟨z,A,n⟩:=r.ex;refine⟨_,A,by rw[length_map,n.1],λf m' g=>⟨λb o e=>g.other b o (r.sub b o e) (λi c=>?_),λb i e=>?_,⟨z++[sl],?_,(n.mono le).snoc u⟩,λx B=>?_⟩⟩
 .rw[r.fresh b i c]at e;cases e
 .rcases g.fresh b i e with c|⟨j,c⟩
  .cases C:m0 b with
   |none=>rfl
   |some o=>rw[r.sub b o C]at c;cases c
  .exact r.fresh b j c
 .rw[map_append];exact g.row
 .rcases mem_append.1 B with d|d
  .exact r.le12 x d
  .simp at d;subst d;exact y
theorem Steps.at'{p:Sl}{vs:List l7}(r:cZ h p 22 (vs.map l7.enc))(s:Steps h vs ts)(c:ts[i]? =some t):∃b o v,p.a=some ⟨b,o,none⟩/\bT h b (o+i*22) (l7.enc v)/\rR h t v:=by
 obtain⟨v,d,f⟩:=s.2 i t c;obtain⟨b,o,e,k⟩:=r.get (i:=i) (e:=l7.enc v) (by simp[d]);exact⟨b,o,v,e,k,f⟩
theorem Steps.slen'{p:Sl}{vs:List l7}(r:cZ h p 22 (vs.map l7.enc))(s:Steps h vs ts):p.len=ts.length:=by
 have:=r.len;simp at this;rw[this,s.1]
theorem rT.at{p:Sl}(x:rT h p r ts rs)(c:ts[i]? =some t):∃b o v,p.a=some ⟨b,o,none⟩/\bT h b (o+i*22) (l7.enc v)/\rR h t v:=by
 obtain⟨f,d,e⟩:=x.steps;exact Steps.at' d e c
theorem rT.slen{p:Sl}(x:rT h p r ts rs):p.len=ts.length/\p.len<=p.cap:=by
 obtain⟨e,c,d⟩:=x.steps;exact⟨Steps.slen' c d,c.cap⟩
theorem rT.mono{p:Sl}(x:rT h p r ts rs)(le:PH.le h h'):rT h' p r ts rs:=by
 obtain⟨c,d,f,g⟩:=x.steps;exact⟨⟨c,d.mono le,f,λi t e=>let⟨v,e1,e2⟩:=g i t e;⟨v,e1,e2.mono le⟩⟩,x.roots.mono le,x.len⟩
theorem akZ(r:br×Int):(r.2≠0/\fin r=eY r.2)\/(r.2=0/\12<r.1.length/\fin r=eY 2)\/(r.2=0/\r.1.length<=12/\fin r=(r.1,0)):=by
 unfold fin;by_cases h:r.2=0
 .rw[if_pos h];unfold mG;by_cases c:r.1.length<=12
  .rw[if_pos c];exact .inr (.inr ⟨h,c,rfl⟩)
  .rw[if_neg c];exact .inr (.inl ⟨h,aC,rfl⟩)
 .rw[if_neg h];exact .inl ⟨h,rfl⟩
theorem G8{s:mI}{ts:cn}{rs:br}(c:dH s=0)(d:¬(1024<ts.length\/32<rs.length)):i7 s ts rs=if(Bv s [] ts).2≠0 then(Bv s [] ts).2 else if rs.all (λr=>decide (0<=r)&&decide (r<ts.length))=true then 0 else 120:=by
 unfold i7;rw[if_neg (bj c),if_neg d]
theorem Lz(d:ts[i]? =some t):Bv s ks (ts.drop i)=if(B5 s ks t).2=0 then Bv s (ks++[(B5 s ks t).1]) (ts.drop (i+1))else(ks,(B5 s ks t).2):=by
 have c:=(List.getElem?_eq_some_iff.1 d)
 obtain⟨c,e⟩:=c;rw[drop_eq_getElem_cons c,e];rfl
theorem axX:bk 17 Pv:=by
 refine ED func17 ?_;rintro Y m h K ⟨sc,p,r,s,ts,rs,rfl,S,x,Z⟩;refine⟨bAQ sc p r,rfl,aD aa (aD az aF),OQ sc p r m h (kA h K),bf,?_⟩;show OQ sc p r m h (kA h K);dsimp only[OQ,push_cast];have pl:=x.slen.1;have rl:=x.roots.slen;have T:=x.len;have U:=x.roots.len;have done:∀{B:MH}{u:PH}{e:Int}{kk:Sl},Sub m B->PH.le h u->i7 s ts rs=e->kA h K (.tup [cS kk,cI e]) B u:=fun{B u e kk} n J L=>.out n J (by rw[<-L];exact Z kk);refine⟨sc,s,rfl,S,aB (λn=>?_) (λn=>?_)⟩
 .have n:dH s≠0:=bj n
  exact done (kk:=⟨none,0,0⟩) (Sub.refl m) (.refl _) (by unfold i7;rw[if_pos n])
 have n:dH s=0:=bj n
 refine aE (λJ=>?_) (λJ=>aE (λL=>?_) (λL=>⟨aC,aC,aC,aC,λk0 m1 M=>?_⟩))
 .exact done (kk:=⟨none,0,0⟩) (Sub.refl m) (.refl _) (by unfold i7;rw[if_neg (bj n),if_pos aC])
 .exact done (kk:=⟨none,0,0⟩) (Sub.refl m) (.refl _) (by unfold i7;rw[if_neg (bj n),if_pos aC])
 have y:=G8 (s:=s) (ts:=ts) (rs:=rs) n aC;refine⟨λ⟨i,kk,B,u⟩=>i<=ts.length/\PH.le h u/\∃ks,aEQ m B u kk ks/\ks.length=i/\Bv s ks (ts.drop i)=Bv s [] ts,λ⟨i,_⟩=>ts.length-i,⟨(0,k0,m1,h),⟨aC,.refl _,[],.new M,rfl,rfl⟩,MT⟩,?_⟩;rintro⟨i,kk,B,u⟩ ⟨hi,d,ks,f,O,c⟩;dsimp only;refine aE (λz=>?_) (λP=>?_)
 .obtain⟨t,V⟩:=eN pl z;obtain⟨b,o,v,e,rd,rv⟩:=(x.mono d).at V;obtain⟨ss,hm,Q⟩:=f.ex;rw[Lz V]at c;refine⟨b,o,e,aC,z,v,.imm rd,sc,kk,v,s,ss,ks,t,rfl,S.mono d,b0X n,rv,hm,Q,f.le12,λq E sl h' C G=>?_⟩;have a':=G.slen;rcases akZ q with⟨F,H⟩|⟨F,H,I⟩|⟨F,H,I⟩
  .rw[E]at H;rw[H,if_neg (by simpa[eY]using F)]at c;refine aB (λ_=>done (kk:=⟨none,0,0⟩) f.sub (d.trans C) ?_) (λD=>?_)
   .rw[y, <-c,if_pos (by simpa[eY]using F)];rfl
   .exact absurd (bj D) F
  .rw[E]at I;rw[I,if_neg (by simp[eY])]at c;refine aB (λD=>absurd F (bj D)) (λ_=>aE (λ_=>done (kk:=⟨none,0,0⟩) f.sub (d.trans C) ?_) (λD=>by omega));rw[y, <-c,if_pos (by simp[eY])];rfl
  .rw[E]at I;rw[I,if_pos rfl]at c;refine aB (λD=>absurd F (bj D)) (λ_=>aE (λD=>by omega) (λ_=>?_));obtain⟨xs,R,a0,hg⟩:=f.grown C G H;exact⟨xs,R,aC,aC,λW m' g=>⟨(i+1,W,m',h'),⟨by show i+1<=ts.length;omega,d.trans C,ks++[q.1],hg W m' g,by simp[O],c⟩,by show ts.length-(i+1)<ts.length-i;omega,MT⟩⟩
 have X:ts.drop i=[]:=drop_of_length_le aC;rw[X]at c;have h0:(Bv s [] ts).2=0:=by rw[<-c];rfl
 rw[h0,if_neg bh]at y;clear c X;refine⟨λ⟨j,k',m',h'⟩=>j<=rs.length/\k'=kk/\m'=B/\h'=u/\(rs.take j).all (λr=>decide (0<=r)&&decide (r<ts.length))=true,λ⟨j,_⟩=>rs.length-j,⟨(0,kk,B,u),⟨aC,rfl,rfl,rfl,bg⟩,MT⟩,?_⟩;rintro⟨j,kk,B,u⟩ ⟨hj,rfl,rfl,rfl,A⟩;dsimp only;refine aE (λz=>?_) (λP=>?_)
 .obtain⟨q,E⟩:=eN rl z;obtain⟨b,o,e,rd⟩:=(x.roots.mono d).at' E
  have bad:¬(0<=q/\q<ts.length)->i7 s ts rs=120:=λhn=>by
   rw[y,if_neg];intro e2;have:=all_eq_true.1 e2 q (mem_of_getElem? E);simp only[Bool.and_eq_true,decide_eq_true_eq]at this;exact hn this
  refine⟨b,o,e,aC,z,q,.imm rd,aE (λD=>done (kk:=⟨none,0,0⟩) f.sub d (bad aC)) (λD=>aE (λh5=>done (kk:=⟨none,0,0⟩) f.sub d (bad aC)) (λh5=>⟨(j+1,kk,B,u),⟨by show j+1<=rs.length;omega,rfl,rfl,rfl,?_⟩,by show rs.length-(j+1)<rs.length-j;omega,MT⟩))⟩;rw[xL E,A,Bool.true_and,Bool.and_eq_true];exact⟨decide_eq_true aC,decide_eq_true aC⟩
 .rw[take_of_length_le aC]at A;exact done f.sub d (by rw[y,if_pos A])
def tK(t:Step):br:=[t.left,t.right].take (arity t.op).toNat
def bEX:Query:=.mk 0 0 gS [] [] [] [] 0 []
def Bk:Nat->cn->Nat->Query
 |0,_,_=>bEX
 |n+1,ts,i=>match ts[i]? with
  |none=>bEX
  |some t=>.mk t.op t.table t.wher t.columns t.on t.group t.order t.limit ((tK t).map λa=>Bk n ts a.toNat)
def eH(ts:cn)(i:Nat):Query:=Bk (i+1) ts i
def CP(ts:cn):Prop:=∀(i:Nat) t,ts[i]? =some t->0<=arity t.op/\∀a∈tK t,0<=a/\a<i
theorem Jv{ts:cn}(ok:CP ts):∀(n c i:Nat),i<n->i<c->Bk n ts i=Bk c ts i
 |0,_,_,h,_=>by omega
 |_+1,0,_,_,h=>by omega
 |n+1,c+1,i,f,g=>by
  simp only[Bk];cases e:ts[i]? with
  |none=>rfl
  |some t=>
   have:(tK t).map (λa=>Bk n ts a.toNat)=(tK t).map (λa=>Bk c ts a.toNat):=map_congr_left λa d=>by
    have:=(ok i t e).2 a d;exact Jv ok n c a.toNat aC aC
   simp only[this]
def AS(ts:cn)(t:Step):ce:=(tK t).map λa=>eH ts a.toNat
theorem nX(ok:CP ts)(c:ts[i]? =some t):eH ts i= .mk t.op t.table t.wher t.columns t.on t.group t.order t.limit (AS ts t):=by
 unfold eH;simp only[Bk,c]
 have:(tK t).map (λa=>Bk i ts a.toNat)=AS ts t:=map_congr_left λa d=>by
  have:=(ok i t c).2 a d;exact Jv ok _ _ _ aC aC
 rw[this]
mutual
def dpQ:Query->Int
 |.mk _ _ _ _ _ _ _ _ args=>1+O7 args
def O7:ce->Int
 |[]=>0
 |p::ps=>max (dpQ p) (O7 ps)
end
theorem V4:∀ps:ce,0<=O7 ps
 |[]=>by simp[O7]
 |p::ps=>by have:=V4 ps;simp only[O7];omega
mutual
theorem Pa:∀(p:Query)(k:Nat),kM p k=true↔(k:Int)<dpQ p
 |.mk _ _ _ _ _ _ _ _ args,0=>by have:=V4 args;simp only[kM,dpQ,true_iff];omega
 |.mk _ _ _ _ _ _ _ _ args,k+1=>by simp only[kM,dpQ];rw[L8 args k];omega
theorem L8:∀(ps:ce)(k:Nat),oZ ps k=true↔(k:Int)<O7 ps
 |[],k=>by simp only[oZ,O7,Bool.false_eq_true,false_iff];omega
 |p::ps,k=>by simp only[oZ,O7,Bool.or_eq_true];rw[Pa p k,L8 ps k];omega
end
theorem J2:lP q=true↔Nv q<=24/\dpQ q<=8:=by
 rw[<-FY,(HV q 8 0 aC).1];have:=Pa q 8;cases e:kM q 8
 .rw[e]at this;simp at this;simp;omega
 .rw[e]at this;simp at this;simp;omega
structure JS(s:mI)(q:Query):Prop where
 kinds:(bH s [] q).2=0
 small:lP q=true
 ints:QI q
 bnd:nI 4 q<=1000000
theorem bCX{op:Int}{on:bx}{args:ce}(j:(bH s [] (.mk op ta w co on gr od li args)).2=0)(d:nI 4 (.mk op ta w co on gr od li args)<=1000000){a:Query}(f:a∈args):nI 4 a<=1000000:=by
 obtain⟨n,g,o,_⟩:=yM (Prod.ext rfl j);have u:=Pf (c:=4) aC g a f;rw[nI]at d;split at d
 .rename_i e;subst e;rw[Qi g o]at f;cases f
 .split at d<;>omega
theorem Ub:∀{l:ce}{a:Query},a∈l->Nv a<=Am l/\dpQ a<=O7 l
 |x::l,a,h=>by
  have c:=vV l;have d:=Mt x;rcases mem_cons.1 h with rfl|h
  .simp only[Am,O7];omega
  .have:=Ub h;simp only[Am,O7];omega
theorem JS.arg{op:Int}{on:bx}{args:ce}(g:JS s (.mk op ta w co on gr od li args)){a:Query}(c:a∈args):JS s a:=by
 refine⟨(xE g.kinds).1 a c,?_,(SU.1 g.ints).2 a c,bCX g.kinds g.bnd c⟩;have d:=J2.1 g.small;have e:=Ub c;simp only[Nv,dpQ]at d;exact J2.2 ⟨aC,aC⟩
def vJ(i:Nat)(t:Step):Prop:=xP t.left (decide (arity t.op>0)) i=true/\xP t.right (decide (arity t.op>1)) i=true
structure Inv(s:mI)(ts:cn):Prop where
 ar:∀(i:Nat) t,ts[i]? =some t->0<=arity t.op
 fit:∀(i:Nat) t,ts[i]? =some t->vJ i t
 nodup:(ts.map keyOf).Nodup
 good:∀i,i<ts.length->JS s (eH ts i)
theorem Jn(g:0<=arity t.op)(h:vJ i t):∀a∈tK t,0<=a/\a<i:=by
 intro a c;have j:=JN t.op;obtain⟨d,f⟩:=h;unfold tK at c;obtain⟨n,e⟩:∃n:Nat,arity t.op=n:=⟨(arity t.op).toNat,aC⟩
 rw[e,Int.toNat_natCast]at c;unfold xP at d f
 match n,e,c with
 |0,_,c=>simp at c
 |1,e,c=>
  simp at c;subst c;rw[if_pos (decide_eq_true aC)]at d;simpa using d
 |2,e,c=>
  simp at c;rw[if_pos (decide_eq_true aC)]at d f;rcases c with rfl|rfl
  .simpa using d
  .simpa using f
 |n+3,e,_=>omega
theorem Inv.ok(v:Inv s ts):CP ts:=λi t e=>⟨v.ar i t e,Jn (v.ar i t e) (v.fit i t e)⟩
theorem Ae{c:cn}(g:ts<+:c)(ok:CP c):∀i,i<ts.length->eH c i=eH ts i:=by
 have d:CP ts:=λi t e=>ok i t (Ht g e);intro i
 induction i using Nat.strongRecOn with
 |_ i j=>
  intro n;have f:ts[i]? =some ts[i]:=getElem?_eq_getElem n;rw[nX d f,nX ok (Ht g f)]
  have:AS c ts[i]=AS ts ts[i]:=map_congr_left λa o=>by
   have:=(d i _ f).2 a o;exact j a.toNat aC aC
  rw[this]
theorem aGX(v:Inv s ts)(c:ts[i]? =some t):ZZ t:=by
 have d:=(List.getElem?_eq_some_iff.1 c).1;have g:=(v.good i d).ints;rw[nX v.ok c,SU]at g;obtain⟨e,f,j,n,o⟩:=g.1;exact⟨e,f,j,n,o⟩
theorem Tf{s:mI}{ts c:cn}{t:Step}{k:Nat}{q:Query}(v:Inv s ts)(H:0<=arity t.op)(I:vJ ts.length t)(g:JS s q)(A:q= .mk t.op t.table t.wher t.columns t.on t.group t.order t.limit (AS ts t))(h:P6 t ts c k):
 Inv s c/\ts<+:c/\k<c.length/\eH c k=q:=by
 have L:ZZ t:=by
  have:=g.ints;rw[A,SU]at this;obtain⟨M,O,P,Q,R⟩:=this.1;exact⟨M,O,P,Q,R⟩
 rcases h with⟨x,y,e,rfl⟩|⟨B,rfl,rfl⟩
 .have C:x=t:=key_inj (aGX v y) L e;subst C;exact⟨v,prefix_refl _,(List.getElem?_eq_some_iff.1 y).1,by rw[nX v.ok y,A]⟩
 .have d:∀(i:Nat) u,(ts++[t])[i]? =some u->ts[i]? =some u\/(i=ts.length/\u=t):=λi u e=>by
   by_cases D:i<ts.length
   .rw[getElem?_append_left D]at e;exact .inl e
   .rw[getElem?_append_right aC]at e;have E:=(List.getElem?_eq_some_iff.1 e).1;simp at E;have:i=ts.length:=by omega
    subst this;simp at e;exact .inr ⟨rfl,e.symm⟩
  have n:∀(i:Nat) u,(ts++[t])[i]? =some u->0<=arity u.op:=λi u e=>by
   rcases d i u e with e|⟨_,rfl⟩
   .exact v.ar i u e
   .exact H
  have j:∀(i:Nat) u,(ts++[t])[i]? =some u->vJ i u:=λi u e=>by
   rcases d i u e with e|⟨rfl,rfl⟩
   .exact v.fit i u e
   .exact I
  have o:CP (ts++[t]):=λi u e=>⟨n i u e,Jn (n i u e) (j i u e)⟩
  have F:ts<+:ts++[t]:=prefix_append _ _
  have f:eH (ts++[t]) ts.length=q:=by
   rw[nX o (t:=t) bg,A]
   have:AS (ts++[t]) t=AS ts t:=map_congr_left λa G=>by
    have:=Jn H I a G;exact Ae F o a.toNat aC
   rw[this]
  refine⟨⟨n,j,?_,λi D=>?_⟩,F,bg,f⟩
  .rw[map_append,nodup_append];refine⟨v.nodup,bg,λa G b J=>?_⟩;obtain⟨x,y,rfl⟩:=mem_map.1 G;simp at J;rw[J];exact B x y
  .by_cases z:i<ts.length
   .rw[Ae F o i z];exact v.good i z
   .have:i=ts.length:=by simp at D;omega
    rw[this,f];exact g
theorem Ou{a e:Int}(c:0<=a)(d:a<e):xP a true e=true:=by unfold xP;rw[if_pos rfl];simp[c,d]
theorem GJ{s:mI}:∀(q:Query){ts j:cn}{k:Nat},JS s q->Inv s ts->Db q ts j k->Inv s j/\ts<+:j/\k<j.length/\eH j k=q
 |.mk op ta w co on gr od li args,ts,j,k,g,v,h=>by
  rw[Ax]at h;obtain⟨I,l,z,r,u,y,A⟩:=h;have d:=(xE g.kinds).2.1;have G:=JN op
  match args,g,u,y,d with
  |[],g,u,y,d=>
   obtain⟨rfl,rfl⟩:=u;obtain⟨rfl,rfl⟩:=y;simp at d;refine Tf (t:=⟨op,ta,w,co,on,gr,od,li,0,0⟩) v (by show 0<=arity op;omega) ⟨?_,?_⟩ g ?_ A
   .show xP 0 (decide (arity op>0)) _=true;rw[decide_eq_false aC];rfl
   .show xP 0 (decide (arity op>1)) _=true;rw[decide_eq_false aC];rfl
   .have:tK ⟨op,ta,w,co,on,gr,od,li,0,0⟩=[]:=by unfold tK;rw[<-d];rfl
    unfold AS;rw[this];rfl
  |[a],g,u,y,d=>
   obtain⟨rfl,rfl⟩:=y;simp at d;obtain⟨B,C,D,E⟩:=GJ a (g.arg bg) v u;have:tK ⟨op,ta,w,co,on,gr,od,li,(l:Nat),0⟩=[(l:Int)]:=by unfold tK;rw[<-d];rfl
   have e:=λn o=>Tf (t:=⟨op,ta,w,co,on,gr,od,li,(l:Nat),0⟩) (q:=.mk op ta w co on gr od li [a]) B (by show 0<=arity op;omega) n g o A;have f:=λn o=>(⟨(e n o).1,C.trans (e n o).2.1,(e n o).2.2⟩:_/\_/\_)
   refine f ⟨?_,?_⟩ ?_
   .show xP l (decide (arity op>0)) _=true;rw[decide_eq_true aC];exact Ou aC aC
   .show xP 0 (decide (arity op>1)) _=true;rw[decide_eq_false aC];rfl
   .unfold AS;rw[this,map_cons,map_nil,Int.toNat_natCast,E]
  |[a,b],g,u,y,d=>
   simp at d;obtain⟨B,C,D,E⟩:=GJ a (g.arg bg) v u;obtain⟨H,F,M,J⟩:=GJ b (g.arg bg) B y;have L:l<z.length:=Nat.lt_of_lt_of_le D F.length_le;have:tK ⟨op,ta,w,co,on,gr,od,li,(l:Nat),(r:Nat)⟩=[(l:Int),(r:Int)]:=by unfold tK;rw[<-d];rfl
   have e:=λn o=>Tf (t:=⟨op,ta,w,co,on,gr,od,li,(l:Nat),(r:Nat)⟩) (q:=.mk op ta w co on gr od li [a,b]) H (by show 0<=arity op;omega) n g o A;have f:=λn o=>(⟨(e n o).1,(C.trans F).trans (e n o).2.1,(e n o).2.2⟩:_/\_/\_)
   refine f ⟨?_,?_⟩ ?_
   .show xP l (decide (arity op>0)) _=true;rw[decide_eq_true aC];exact Ou aC aC
   .show xP r (decide (arity op>1)) _=true;rw[decide_eq_true aC];exact Ou aC aC
   .unfold AS;rw[this,map_cons,map_cons,map_nil,Int.toNat_natCast,Int.toNat_natCast,Ae F H.ok l D,E,J]
  |a::b::c::rest,_,_,_,d=>simp at d;omega
theorem bmX(s:mI):Inv s []:=⟨λi t e=>by simp at e,λi t e=>by simp at e,bg,λi c=>by simp at c⟩
theorem Zv{s:mI}:∀{g:ce}{ts c:cn}{ks:ck},(∀q∈g,JS s q)->Inv s ts->BW g ts c ks->Inv s c/\ts<+:c/\ks.length=g.length/\∀(i:Nat) q k,g[i]? =some q->ks[i]? =some k->k<c.length/\eH c k=q
 |[],ts,c,ks,_,v,h=>by
  obtain⟨rfl,rfl⟩:=h;exact⟨v,prefix_refl _,rfl,λi q k e=>by simp at e⟩
 |q::g,ts,c,ks,n,v,h=>by
  obtain⟨y,k,z,A,B,rfl⟩:=h;obtain⟨C,D,o,E⟩:=GJ q (n q bg) v A;obtain⟨u,j,F,G⟩:=Zv (λx f=>n x (by simp[f])) C B;refine⟨u,D.trans j,by simp[F],λi x H f d=>?_⟩;cases i with
  |zero=>
   simp at f d;subst f d;exact⟨Nat.lt_of_lt_of_le o j.length_le,by rw[Ae j u.ok k o,E]⟩
  |succ i=>
   simp at f d;exact G i x H f d
theorem aNJ(h:vJ i t):(arity t.op=0->t.left=0)/\(arity t.op<=1->t.right=0):=by
 obtain⟨c,d⟩:=h;unfold xP at c d;refine⟨λe=>?_,λe=>?_⟩
 .rw[if_neg (by simp;omega)]at c;simpa using c
 .rw[if_neg (by simp;omega)]at d;simpa using d
theorem WS(s:mI)(ps:br)(op ta:Int)(w:Pred)(co:br)(on:bx)(gr:br)(od:bz)(li:Int)(args:ce)(a b:br):fH s ps (.mk op ta w co on gr od li args) a b=fH s ps (.mk op ta w co on gr od li []) a b:=by
 unfold fH;rfl
theorem UN{op:Int}{on:bx}{args:ce}(h:(bH s [] (.mk op ta w co on gr od li args)).2=0):
 bH s [] (.mk op ta w co on gr od li args)=fH s [] (.mk op ta w co on gr od li []) ((args.map λq=>(bH s [] q).1).getD 0 []) ((args.map λq=>(bH s [] q).1).getD 1 []):=by
 obtain⟨c,d,_⟩:=xE h
 have e:eM s [] args=(args.map (λq=>(bH s [] q).1),0):=vF (by
  rw[map_map];exact map_congr_left λq f=>Prod.ext rfl (c q f))
 simp only[bH,e,if_true];rw[if_pos (by rw[length_map];exact d),WS]
theorem Ph{n:Nat}{a:Int}(c:0<=a)(d:a<n):BZ ((List.range n).map λj=>(bH s [] (eH ts j)).1) a true=(bH s [] (eH ts a.toNat)).1:=by
 unfold BZ;rw[if_pos rfl,getD_eq_getElem?_getD,getElem?_map,getElem?_range aC];rfl
theorem WG(v:Inv s ts)(d:ts[i]? =some t):B5 s ((List.range i).map λj=>(bH s [] (eH ts j)).1) t=((bH s [] (eH ts i)).1,0):=by
 have B:=(List.getElem?_eq_some_iff.1 d).1;have g:=(v.good i B).kinds;have C:=nX v.ok d;rw[C]at g⊢
 have D:=UN g;have F:=v.ar i t d;have G:=JN t.op;have y:=v.fit i t d;have c:=(v.ok i t d).2;have E:((List.range i).map λj=>(bH s [] (eH ts j)).1).length=i:=bg
 have z:BZ ((List.range i).map λj=>(bH s [] (eH ts j)).1) t.left (decide (arity t.op>0))=((AS ts t).map λq=>(bH s [] q).1).getD 0 []/\BZ ((List.range i).map λj=>(bH s [] (eH ts j)).1) t.right (decide (arity t.op>1))=((AS ts t).map λq=>(bH s [] q).1).getD 1 []:=by
  obtain⟨n,f⟩:∃n:Nat,arity t.op=n:=⟨(arity t.op).toNat,aC⟩
  unfold AS;unfold tK at c⊢
  rw[f,Int.toNat_natCast]at c⊢
  match n,f,c with
  |0,_,_=>exact⟨rfl,rfl⟩
  |1,f,c=>
   have o:=c t.left bg;exact⟨Ph o.1 o.2,rfl⟩
  |2,f,c=>
   have o:=c t.left bg;have A:=c t.right bg;exact⟨Ph o.1 o.2,Ph A.1 A.2⟩
  |n+3,f,_=>omega
 have u:fH s [] t.query (BZ ((List.range i).map λj=>(bH s [] (eH ts j)).1) t.left (decide (arity t.op>0))) (BZ ((List.range i).map λj=>(bH s [] (eH ts j)).1) t.right (decide (arity t.op>1)))=bH s [] (.mk t.op t.table t.wher t.columns t.on t.group t.order t.limit (AS ts t)):=by
  rw[D,z.1,z.2];rfl
 unfold B5;rw[u,E,if_neg,if_neg (by rw[g];decide)]
 .exact Prod.ext rfl g
 .rintro(e|e|e)
  .omega
  .rw[y.1]at e;cases e
  .rw[y.2]at e;cases e
theorem Ly{s:mI}{ts:cn}(v:Inv s ts):∀(n i:Nat),i+n=ts.length->(Bv s ((List.range i).map λj=>(bH s [] (eH ts j)).1) (ts.drop i)).2=0
 |0,i,d=>by
  rw[drop_of_length_le aC];rfl
 |n+1,i,d=>by
  have c:ts[i]? =some ts[i]:=getElem?_eq_getElem aC;rw[Lz c,WG v c,if_pos rfl];have:=Ly v n (i+1) aC
  rwa [range_succ,map_append]at this
theorem WL{ks:ck}(v:Inv s ts)(d:dH s=0)(g:ts.length<=1024)(j:ks.length<=32)(e:∀k∈ks,k<ts.length):i7 s ts (ks.map fun(k:Nat)=>(k:Int))=0:=by
 rw[G8 d (by rw[length_map];omega),if_neg,if_pos]
 .rw[all_eq_true];intro r f;obtain⟨k,c,rfl⟩:=mem_map.1 f;have:=e k c;simp;omega
 .have:=Ly v ts.length 0 aC;simpa using this
theorem WK(h:(fE s [] q).2=0)(w:QW q)(d:nI 4 q<=1000000):JS s q:=by
 obtain⟨_,_,e,c⟩:=B9 h;exact⟨c,e,Zr bg q c w,d⟩
theorem Pl:∀{d:ce}{ts c:cn}{ks:ck},BW d ts c ks->(∀q∈d,Nv q<=24)->c.length<=ts.length+24*d.length
 |[],ts,c,ks,h,_=>by obtain⟨rfl,rfl⟩:=h;simp
 |q::d,ts,c,ks,h,e=>by
  obtain⟨f,k,g,j,n,rfl⟩:=h;have:=BQ q j;have:=Pl n λx o=>e x (by simp[o]);have:=e q bg;simp;omega
end Go.Ps
