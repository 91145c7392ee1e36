/- Own work. -/
import Derived.Test.YtafjlhgalgfiaaaGreatDoorSh
set_option linter.unusedVariables false
set_option linter.unusedSimpArgs false
namespace Go.Ps
open Go Go.Vc Go.Proofs List Tryz
variable{K:cn}{m:MH}{h:PH}{s:jP}{ps:cq}{ts:dg}{cb:Nat}{sc:cA}{v:QV}{t:Step}{p:Pred}{l:cq}{i:Nat}{N:Nat}{m':MH}{h':PH}{co:cq}{gr:cq}{od:cv}{ta:Int}{li:Int}{xs:List cr}{sz:Nat}{ks:List cq}{rs:cq}{r:Sl}{a:cq}{b:Nat}
theorem MU:∀(n:Nat){l:dj},l.Nodup->(∀x∈l,x<n)->l.length<=n
 |0,l,_,h=>by
  cases l with
  |nil=>simp
  |cons x l=>have:=h x ay;omega
 |n+1,l,c,h=>by
  by_cases d:n∈l
  .have f:=length_erase_of_mem d
   have g:=MU n (c.erase n) (λx e=>by
    grind)
   omega
  .have:=MU n c (λx e=>by
    grind)
   omega
theorem L0{α T l}{f:α->Int}{n:Nat}(h:Good T l)(e:∀c x,T c x->0<=f x/\f x<n)(o:∀c x,T c x->∀y∈c,f y≠f x):l.length<=n:=by
 have u:(l.map λx=>(f x).toNat).Nodup:=by
  rw[nodup_iff_pairwise_ne,pairwise_iff_getElem];intro i j d g z;simp only[length_map]at d g;simp only[getElem_map];have D:=h i l[i] (bn d);have A:=h j l[j] (bn g);have:=o _ _ A l[i] (mem_take_iff_getElem.2 ⟨i,aC,rfl⟩)
  grind
 have:=MU n u (λx B=>by
  obtain⟨y,C,rfl⟩:=mem_map.1 B;obtain⟨i,d⟩:=mem_iff_getElem?.1 C;have:=e _ _ (h i y d);omega)
 grind
mutual
def b2Q:Pred->Prop
 |.mk _ _ l r args=>l.value.text.size<=64/\r.value.text.size<=64/\Wj args
def Wj:di->Prop
 |[]=>True
 |p::ps=>b2Q p/\Wj ps
end
theorem Xi o(h:o.value.text.size<=64):(DK o).length<=200:=by
 have e:=iJ [o.kind,o.index];have f:=iJ [o.value.kind];have g:=iJ [(o.value.text.size:Int)];have c:=iJ [o.value.int];have d:jJ [o.value.int]=mJ o.value.int++[32]:=by unfold jJ;grind
 rw[d]at c;have j:o.value.text.data.toList.length=o.value.text.size:=by rw[Array.length_toList];rfl
 simp only[DK,Aq,br,ci,length_nil]at*
 omega
mutual
theorem MO:∀p:Pred,b2Q p->((sP p).length:Int)<=1000*SU p
 |.mk op c l r args,h=>by
  obtain⟨d,e,f⟩:=h;have g:=Xi l d;have j:=Xi r e;have n:=QE args f;have o:=iJ [op,c];have u:=iJ [(args.length:Int)];simp only[sP,SU,br,ci,length_nil]at*
  omega
theorem QE:∀ps:di,Wj ps->((p7 ps).length:Int)<=1000*DJ ps
 |[],_=>by simp[p7,DJ]
 |p::ps,h=>by
  have:=MO p h.1;have:=QE ps h.2;simp only[p7,DJ,br];omega
end
theorem YQ{v}(h:eqV v zeroV=true):v.text.size<=64:=by
 simp only[eqV,bz,beq_iff_eq]at h;exact WJ h.2.2.1
theorem L8{o}(h:eqO o gA=true):o.value.text.size<=64:=by
 simp only[eqO,bz,beq_iff_eq]at h;exact YQ h.2.2.1
theorem OS{o}(h:sI l o≠0):o.value.text.size<=64:=by
 unfold sI at h;split at h
 .omega
 .rename_i c;simp only[Bool.or_eq_true,not_or,Bool.not_eq_true',Bool.not_eq_false]at c;exact YQ c.2
theorem OE{cols params o}(h:kindOf cols params o≠0):o.value.text.size<=64:=by
 unfold kindOf at h;split at h
 .split at h
  .omega
  .rename_i c;simp only[Bool.or_eq_true,not_or,Bool.not_eq_true',Bool.not_eq_false,pW,bz]at c;exact N8 c.2.1
 .split at h
  .exact OS h
  .split at h
   .exact OS h
   omega
mutual
theorem Oa{cols params:cq}:∀p:Pred,kO cols params p=true->b2Q p
 |.mk op c l r args,h=>by
  unfold kO at h;split at h
  .simp only[bz,Hr,beq_iff_eq]at h;have:args=[]:=eq_nil_of_length_eq_zero h.2;subst this;exact⟨L8 h.1.1.2,L8 h.1.2,trivial⟩
  .split at h
   .simp only[bz,beq_iff_eq,bne_iff_ne,ne_eq,ce]at h;have:args=[]:=eq_nil_of_length_eq_zero h.1.1.1.1;subst this;exact⟨OE h.1.2,OE (cols:=cols) (params:=params) aC,trivial⟩
   .split at h
    .simp only[bz,Hr]at h;exact⟨L8 h.1.1.2,L8 h.1.2,Kp args h.2⟩
    .cases h
theorem Kp{cols params:cq}:∀ps:di,yW cols params ps=true->Wj ps
 |[],_=>trivial
 |p::ps,h=>by
  simp only[yW,bz]at h;exact⟨Oa p h.1,Kp ps h.2⟩
end
theorem bxJ{cols params}(h:iI cols params p=0):(sP p).length<=1000000000:=by
 unfold iI at h;split at h
 .cases h
 .split at h
  .cases h
  .rename_i c;split at h
   .cases h
   .rename_i e;have d:kO cols params p=true:=bg
    have f:=MO p (Oa p d);simp only[Bool.or_eq_true,not_or,ce]at c;have g:=Ik p 0 aC;omega
theorem btJ:(sP fW).length<=1000000000:=by
 have:=MO fW ⟨az,az,trivial⟩;have e:SU fW=1:=rfl;omega
theorem GK{s:jP}{ps:cq}:∀(c:dc),∀k∈(fQ s ps c).1,k.length<=12
 |[],k,h=>by simp[fQ]at h
 |q::c,k,h=>by
  simp only[fQ]at h;split at h
  .split at h
   .simp only[mem_cons]at h;rcases h with rfl|h
    .exact lV s ps q
    .exact GK c k h
   .simp at h
  .simp at h
theorem XF(h:∀k∈ks,k.length<=12) j:(ks.getD j []).length<=12:=by
 grind
theorem JC{s:jP}{ps:cq}:∀{c:dc}{ks:List cq},fQ s ps c=(ks,0)->ks.length=c.length/\∀q∈c,(aK s ps q).2=0
 |[],ks,h=>by simp[fQ]at h;subst h;simp
 |q::c,ks,h=>by
  simp only[fQ]at h;split at h
  .rename_i f;split at h
   .rename_i d;have e:fQ s ps c=((fQ s ps c).1,0):=Prod.ext rfl d;obtain⟨g,j⟩:=JC e
    grind
   grind
  grind
theorem lU{op w on args}(h:(aK s ps (.mk op ta w co on gr od li args)).2=0):
 (∀a∈args,(aK s ps a).2=0)/\(args.length:Int)=arity op/\∃a b,a.length<=12/\b.length<=12/\(eT s ps (.mk op ta w co on gr od li args) a b).2=0:=by
 simp only[aK]at h;split at h
 .rename_i c;have e:fQ s ps args=((fQ s ps args).1,0):=Prod.ext rfl c;obtain⟨f,d⟩:=JC e;split at h
  .rename_i g;refine⟨d,aC,_,_,?_,?_,h⟩
   .exact XF (GK args) 0
   .exact XF (GK args) 1
  .simp[eF]at h
 .rename_i c;simp[eF]at h;omega
theorem bAQ{op w on args b}(I:a.length<=12)(h:(eT s ps (.mk op ta w co on gr od li args) a b).2=0):
 O0 ⟨op,ta,w,co,on,gr,od,li,0,0⟩:=by
 unfold eT at h;dsimp only at h;split at h
 .simp[eF]at h
 .rename_i j;rw[not_or]at j;have z:cV (.mk op ta w co on gr od li args):=Classical.not_not.1 j.2;obtain⟨_,A,B,C,D⟩:=z
  have E:∀l:cq,(nF l).2=0->l.length<=12:=λl e=>by
   unfold nF at e
   grind
  have F:(sP w).length<=1000000000:=by
   rcases A with rfl|rfl
   .simp only[show¬((2:Int)=1)by decide,if_false,if_true]at h;split at h
    .rename_i e;exact bxJ e
    .rename_i e;simp[eF]at h;omega
   .exact btJ
  have G:co.length<=1000000000:=by
   rcases B with rfl|rfl
   .simp only[show¬((3:Int)=1)by decide,show¬((3:Int)=2)by decide,if_false,if_true]at h;split at h
    .grind
    .simp[eF]at h
   .simp
  have H:on.length<=1000000000:=by
   have d:Good (nT a b) on->on.length<=1000000000:=λg=>by
    have:=L0 (f:=λp=>p.1) (n:=a.length) g (λc x t=>by have:=t.1;rw[fB]at this;exact this) (λc x t y o=>(t.2.2.2 y o).1);omega
   rcases C with rfl|rfl|rfl
   .simp only[show¬((4:Int)=1)by decide,show¬((4:Int)=2)by decide,show¬((4:Int)=3)by decide,if_false,if_true]at h;split at h
    .grind
    .simp[eF]at h
   .simp only[show¬((5:Int)=1)by decide,show¬((5:Int)=2)by decide,show¬((5:Int)=3)by decide,show¬((5:Int)=4)by decide,if_false,if_true]at h;split at h
    .grind
    .simp[eF]at h
   .simp
  have u:gr.length<=1000000000/\od.length<=1000000000:=by
   have d:nJ a gr od li->gr.length<=1000000000/\od.length<=1000000000:=λr=>by
    have:=L0 (f:=λp=>p) (n:=a.length) r.group_ (λc x t=>by have:=t.1;rw[fB]at this;exact this) (λc x t y o e=>t.2 bg);have:=r.len_;omega
   rcases D with rfl|rfl|⟨rfl,rfl,_⟩
   .simp only[show¬((9:Int)=1)by decide,show¬((9:Int)=2)by decide,show¬((9:Int)=3)by decide,show¬((9:Int)=4)by decide,show¬((9:Int)=5)by decide,if_false,if_true]at h;split at h
    .grind
    .simp[eF]at h
   .simp only[show¬((10:Int)=1)by decide,show¬((10:Int)=2)by decide,show¬((10:Int)=3)by decide,show¬((10:Int)=4)by decide,show¬((10:Int)=5)by decide,show¬((10:Int)=9)by decide,if_false,if_true]at h;split at h
    .grind
    .simp[eF]at h
   .simp
  exact⟨F,G,H,u.1,u.2⟩
theorem M4{s:jP}{ps:cq}:∀q:Query,(aK s ps q).2=0->DF q/\cdX q
 |.mk op ta w co on gr od li args,h=>by
  obtain⟨d,e,a,b,f,_,g⟩:=lU h;rw[W8,b0Z];exact⟨⟨bAQ f g,λq c=>(M4 q (d q c)).1⟩,e,λq c=>(M4 q (d q c)).2⟩
theorem a1J{q}(h:(gH s ps q).2=0):DF q:=(M4 q (BP h).2.2.2).1
theorem Re{n}(h:u7 n){b}(c:b∈mJ n):b≠32:=by
 intro e;subst e;by_cases f:0<=n
 .rw[C7 h f]at c;have:=Mg _ _ c;simp at this
 .rw[C8 h aC]at c;rcases mem_cons.1 c with d|d
  .cases d
  .have:=Mg _ _ d;simp at this
theorem vO n l:jJ (n::l)=mJ n++32::jJ l:=by unfold jJ;grind
theorem iV{m n r r'}(d:u7 m)(e:u7 n)(h:mJ m++32::r=mJ n++32::r'):m=n/\r=r':=by
 obtain⟨f,g⟩:=Qk (λc=>Re d c rfl) (λc=>Re e c rfl) h;exact⟨Tm d e f,g⟩
theorem Ou p l:wO (p::l)=mJ p.1++32::(mJ p.2++32::wO l):=by
 show jJ [p.1,p.2]++wO l=_;rw[vO,vO,append_assoc,cons_append,append_assoc];rfl
theorem Ol p l:wM (p::l)=mJ p.1++32::(mJ (if p.2 then 1 else 0)++32::wM l):=by
 show jJ [p.1,if p.2 then 1 else 0]++wM l=_;rw[vO,vO,append_assoc,cons_append,append_assoc];rfl
structure Zk(o:OV):Prop where
 kind_:u7 o.kind
 index_:u7 o.index
 vkind_:u7 o.value.kind
 int_:u7 o.value.int
 text_:o.value.text.size<=64
mutual
def Ms:Pred->Prop
 |.mk op c l r args=>u7 op/\u7 c/\Zk l/\Zk r/\args.length<=8000000/\Sg args
def Sg:di->Prop
 |[]=>True
 |p::ps=>Ms p/\Sg ps
end
theorem yC{n:Nat}(h:n<=8000000):u7 (n:Int):=⟨aC,aC⟩
theorem JT{o o' r r'}(d:Zk o)(e:Zk o')(h:DK o++r=DK o'++r'):o=o'/\r=r':=by
 have A:jJ []=[]:=rfl;simp only[DK,Aq,vO,A,append_assoc,cons_append,nil_append]at h;obtain⟨j,h⟩:=iV d.kind_ e.kind_ h;obtain⟨n,h⟩:=iV d.index_ e.index_ h;obtain⟨u,h⟩:=iV d.vkind_ e.vkind_ h;obtain⟨y,h⟩:=iV d.int_ e.int_ h;obtain⟨z,h⟩:=iV (yC (by have:=d.text_;omega)) (yC (by have:=e.text_;omega)) h;have z:o.value.text.size=o'.value.text.size:=by omega
 obtain⟨f,B⟩:=append_inj h (by rw[Array.length_toList,Array.length_toList];exact z);refine⟨?_,B⟩;obtain⟨k,i,⟨E,F,g⟩⟩:=o;obtain⟨G,H,⟨C,D,c⟩⟩:=o';obtain⟨g⟩:=g;obtain⟨c⟩:=c;simp only at j n u y f;have f:g=c:=Array.toList_inj.1 f;subst j n u y f;rfl
mutual
theorem Ot:∀{p c:Pred}{r r':dh},Ms p->Ms c->sP p++r=sP c++r'->p=c/\r=r'
 |.mk op f l L args,.mk g e M j d,r,r',n,o,h=>by
  obtain⟨u,y,z,A,B,C⟩:=n;obtain⟨D,E,F,G,H,I⟩:=o;have J:jJ []=[]:=rfl;simp only[sP,vO,J,append_assoc,cons_append,nil_append]at h;obtain⟨O,h⟩:=iV u D h;obtain⟨P,h⟩:=iV y E h;obtain⟨Q,h⟩:=JT z F h;obtain⟨R,h⟩:=JT A G h;obtain⟨S,h⟩:=iV (yC B) (yC H) h;obtain⟨T,U⟩:=KG C I aC h
  grind
theorem KG:∀{ps c:di}{r r':dh},Sg ps->Sg c->ps.length=c.length->p7 ps++r=p7 c++r'->ps=c/\r=r'
 |[],[],r,r',_,_,_,h=>⟨rfl,by simpa[p7]using h⟩
 |[],_::_,_,_,_,_,d,_=>by simp at d
 |_::_,[],_,_,_,_,d,_=>by simp at d
 |p::ps,g::c,r,r',e,f,d,h=>by
  simp only[p7,append_assoc]at h;obtain⟨j,h⟩:=Ot e.1 f.1 h;obtain⟨n,o⟩:=KG e.2 f.2 bg h
  grind
end
structure b3Q(t:Step):Prop where
 wher:Ms t.wher
 cols:∀n∈t.columns,u7 n
 on_:∀p∈t.on,u7 p.1/\u7 p.2
 group_:∀n∈t.group,u7 n
 order_:∀p∈t.order,u7 p.1
theorem kN{n}(c: -8000000<=n)(d:n<=8000000):u7 n:=⟨aC,aC⟩
theorem HL:u7 0:=⟨az,az⟩
theorem vN:Zk gA:=⟨HL,HL,HL,HL,az⟩
theorem bpX{v}(h:eqV v zeroV=true):v=zeroV:=V3.1 h
theorem Y5{o}(h:sI l o≠0)(f:l.length<=8000000)(d:u7 o.kind):Zk o:=by
 unfold sI at h;split at h
 .omega
 .rename_i c;simp only[Bool.or_eq_true,not_or,Bool.not_eq_true',Bool.not_eq_false,ce]at c;have e:=bpX c.2;refine⟨d,kN aC aC,?_,?_,?_⟩
  all_goals rw[e]
  .exact vN.vkind_
  .exact vN.int_
  .exact vN.text_
theorem Xr{cols params o}(h:kindOf cols params o≠0)(j:cols.length<=8000000)(n:params.length<=8000000)(f:NY o.value):Zk o:=by
 unfold kindOf at h;split at h
 .rename_i d;have d:o.kind=3:=bg
  split at h
  .omega
  .rename_i g;simp only[Bool.or_eq_true,not_or,Bool.not_eq_true',Bool.not_eq_false,bne_iff_ne,ne_eq,Classical.not_not,pW,bz,ce]at g;refine⟨kN aC aC,kN aC aC,?_,f.int_,f.text_⟩;have c:=g.2.1;unfold kG at c;split at c
   .grind
   .split at c
    .rename_i e;simp at e;exact kN aC aC
    .split at c
     .rename_i e;simp at e;exact kN aC aC
     .split at c
      .rename_i e;simp at e;exact kN aC aC
      .cases c
 .split at h
  .rename_i d;simp at d;exact Y5 h n (kN aC aC)
  .split at h
   .rename_i d;simp at d;exact Y5 h j (kN aC aC)
   omega
theorem Hn:∀ps:di,(ps.length:Int)<=DJ ps
 |[]=>by simp[DJ]
 |p::ps=>by
  have:=Hn ps;have:1<=SU p:=by cases p;rename_i a;have:=Hn a;simp only[SU];omega
  simp only[DJ,ci];omega
theorem ceX p:1<=SU p:=by cases p;rename_i a;have:=Hn a;simp only[SU];omega
mutual
theorem WI{cols params:cq}(c:cols.length<=8000000)(d:params.length<=8000000):∀p:Pred,kO cols params p=true->Ep p->SU p<=1000->Ms p
 |.mk op n l r args,h,w,o=>by
  have u:=Hn args;simp only[SU]at o;unfold kO at h;split at h
  .rename_i e;simp only[bz,Hr,beq_iff_eq]at h;have:args=[]:=eq_nil_of_length_eq_zero h.2;subst this;have f:=uX.1 h.1.1.2;have g:=uX.1 h.1.2;subst f g;have j:op=1\/op=2:=bk e
   exact⟨kN aC aC,by rw[h.1.1.1];exact HL,vN,vN,ay,trivial⟩
  .split at h
   .rename_i e;simp only[bz,beq_iff_eq,bne_iff_ne,ne_eq,ce]at h;have:args=[]:=eq_nil_of_length_eq_zero h.1.1.1.1;subst this;have j:op=3:=bk e
    exact⟨kN aC aC,kN aC aC,Xr h.1.2 c d w.1,Xr (cols:=cols) (params:=params) aC c d w.2.1,ay,trivial⟩
   .split at h
    .rename_i e;simp only[bz,Hr,beq_iff_eq]at h;have f:=uX.1 h.1.1.2;have g:=uX.1 h.1.2;subst f g
     have j:op=4\/op=5\/op=6:=by
      grind
     exact⟨kN aC aC,by rw[h.1.1.1];exact HL,vN,vN,aC,SR c d args h.2 w.2.2 aC⟩
    .cases h
theorem SR{cols params:cq}(c:cols.length<=8000000)(d:params.length<=8000000):∀ps:di,yW cols params ps=true->N0 ps->DJ ps<=1000->Sg ps
 |[],_,_,_=>trivial
 |p::ps,h,w,e=>by
  simp only[yW,bz]at h;have f:=ceX p;have g:=Hn ps;simp only[DJ]at e;exact⟨WI c d p h.1 w.1 aC,SR c d ps h.2 w.2 aC⟩
end
theorem cPJ{cols params}(h:iI cols params p=0)(c:cols.length<=8000000)(d:params.length<=8000000)(w:Ep p):Ms p:=by
 unfold iI at h;split at h
 .cases h
 .split at h
  .cases h
  .rename_i e;split at h
   .cases h
   .rename_i g;have f:kO cols params p=true:=bg
    simp only[Bool.or_eq_true,not_or,ce]at e;have j:=Ik p 0 aC
    have:SU p<=24:=by
     omega
    exact WI c d p f w aC
theorem cNJ:Ms fW:=⟨HL,HL,vN,vN,az,trivial⟩
def b7X:Query->Prop
 |.mk _ _ w co on gr od _ _=>Ms w/\(∀n∈co,u7 n)/\(∀p∈on,u7 p.1/\u7 p.2)/\(∀n∈gr,u7 n)/\∀p∈od,u7 p.1
def QI(q:Query):Prop:=
 match q with
 |.mk op ta w co on gr od li args=>b7X (.mk op ta w co on gr od li [])/\∀a∈args,QI a
 termination_by SizeOf.sizeOf q
theorem JR{op w on args}:
 QI (.mk op ta w co on gr od li args)↔b7X (.mk op ta w co on gr od li [])/\∀a∈args,QI a:=by rw[QI.eq_def]
theorem Da{α T l}{P:α->Prop}(h:Good T l)(d:∀c x,T c x->P x):∀x∈l,P x:=λx e=>by
 obtain⟨j,f⟩:=mem_iff_getElem?.1 e;exact d _ _ (h j x f)
theorem XA{n}(c:l.length<=1000)(h:C9 l n=true):u7 n:=by
 have:=fB.1 h;exact kN aC aC
theorem ZK{s:jP}{ps:cq}{op ta:Int}{w co on gr od li args a b}(G:a.length<=12)(H:b.length<=12)(o:ps.length<=1000)(u:Ep w)(h:(eT s ps (.mk op ta w co on gr od li args) a b).2=0):
 b7X (.mk op ta w co on gr od li []):=by
 unfold eT at h;dsimp only at h;split at h
 .simp[eF]at h
 .rename_i f;rw[not_or]at f;have y:cV (.mk op ta w co on gr od li args):=Classical.not_not.1 f.2;obtain⟨_,z,A,B,C⟩:=y
  have D:Ms w:=by
   rcases z with rfl|rfl
   .simp only[show¬((2:Int)=1)by decide,if_false,if_true]at h;split at h
    .rename_i e;exact cPJ e aC aC u
    .rename_i e;simp[eF]at h;omega
   .exact cNJ
  have E:∀n∈co,u7 n:=by
   rcases A with rfl|rfl
   .simp only[show¬((3:Int)=1)by decide,show¬((3:Int)=2)by decide,if_false,if_true]at h;split at h
    .rename_i e;exact Da e.2 λc x t=>XA aC t
    .simp[eF]at h
   grind
  have F:∀p∈on,u7 p.1/\u7 p.2:=by
   have d:Good (nT a b) on->∀p∈on,u7 p.1/\u7 p.2:=λg=>Da g λc x t=>⟨XA aC t.1,XA aC t.2.1⟩
   rcases B with rfl|rfl|rfl
   .simp only[show¬((4:Int)=1)by decide,show¬((4:Int)=2)by decide,show¬((4:Int)=3)by decide,if_false,if_true]at h;split at h
    .grind
    .simp[eF]at h
   .simp only[show¬((5:Int)=1)by decide,show¬((5:Int)=2)by decide,show¬((5:Int)=3)by decide,show¬((5:Int)=4)by decide,if_false,if_true]at h;split at h
    .grind
    .simp[eF]at h
   grind
  have j:(∀n∈gr,u7 n)/\∀p∈od,u7 p.1:=by
   have d:nJ a gr od li->(∀n∈gr,u7 n)/\∀p∈od,u7 p.1:=λr=>⟨Da r.group_ λc x t=>XA aC t.1,Da r.order_ λc x t=>XA aC t⟩
   rcases C with rfl|rfl|⟨rfl,rfl,_⟩
   .simp only[show¬((9:Int)=1)by decide,show¬((9:Int)=2)by decide,show¬((9:Int)=3)by decide,show¬((9:Int)=4)by decide,show¬((9:Int)=5)by decide,if_false,if_true]at h;split at h
    .grind
    .simp[eF]at h
   .simp only[show¬((10:Int)=1)by decide,show¬((10:Int)=2)by decide,show¬((10:Int)=3)by decide,show¬((10:Int)=4)by decide,show¬((10:Int)=5)by decide,show¬((10:Int)=9)by decide,if_false,if_true]at h;split at h
    .grind
    .simp[eF]at h
   grind
  exact⟨D,E,F,j.1,j.2⟩
theorem VM{s:jP}{ps:cq}(c:ps.length<=1000):∀q:Query,(aK s ps q).2=0->QW q->QI q
 |.mk op ta w co on gr od li args,h,d=>by
  obtain⟨f,o,a,b,g,j,n⟩:=lU h;rw[MN]at d;rw[JR];exact⟨ZK g j c d.1 n,λq e=>VM c q (f q e) (d.2 q e)⟩
def ET(a:Int)(n:Bool)(e:Int):=if n=true then decide (0<=a)&&decide (a<e)else a==0
def cbQ:Vc.Spec:=λc m h K=>∃a n e,c=[cI a,cB n,cI e]/\K (cB (ET a n e)) m h
def b1Q:Vc.Spec:=λc m h K=>∃v p,c=[aP v]/\fO h p v/\∀r:Bool,(r=true↔p=fW)->K (cB r) m h
def Zf:Vc.Spec:=λc m h K=>∃v t,c=[aT v]/\u0 h t v/\∀r:Bool,(r=true↔cV t.query)->K (cB r) m h
noncomputable def bQZ(v:xC)(m:MH)(h:PH):=
 dJ [(197,b1Q)] [] ([3,5,7,9].map λk=>(k,{A:=Unit,st:=λ_=>bZ 66 67 [(1,.at (.ptr 1 0))] [(1,.cells 101 (v.enc.map .val))] m h})) [] false
def Un(op:Int)(m:MH)(h:PH)(K:cn):=
  dP (op==1) (K (gG 0) m h) (op==2) (K (gG 1) m h) (dP (op==3) (K (gG 1) m h) (op==9) (K (gG 1) m h) (dP (op==4) (K (gG 2) m h) (op==5) (K (gG 2) m h) (dP (op==6) (K (gG 2) m h) (op==7) (K (gG 2) m h) (dP (op==8) (K (gG 2) m h) (op==10) (K (gG 2) m h) (K (gG (Int.negSucc 0)) m h)))))
def Um(a:Int)(n:Bool)(e:Int)(m:MH)(h:PH)(K:cn):=
  branch n (iG a 0 (K (As (decide (a<e))) m h) (K bG m h)) (K (As (a==0)) m h)
def TX(v:PV)(m:MH)(h:PH)(K:cn):=
  eY v.op 0 (eY v.cmp 0 (∃(r:Bool),iF (Gs v.left.enc r) r (∃(c:Bool),iF (Gs (Ac v) c) c (K (As (uU v==0)) m h) (K bG m h)) (K bG m h)) (K bG m h)) (K bG m h)
def Ul(v:xC)(m:MH)(h:PH)(K:cn):=
  ∃(I:Unit->Prop),cX v.op 1 (cX v.table 0 (K bG m h) (∃(x:Unit),aA (I x) eW (aA (nW v) (m=m) (bU h h)))) (∃(x:Unit),aA (I x) eW (aA (nW v) (m=m) (bU h h)))/\∀(x:Unit),I x->∃(I1:Unit->Prop),cX v.op 2 (tD (λf p=>aA (fY (lN v.where_) (lN f)) (fO h p f) (∀(r:Bool),hX (iD r (p=LO)) (!r) (K bG m h) (∃(d:Unit),aA (I1 d) eW (aA (nW v) (m=m) (bU h h)))))) (∃(d:Unit),aA (I1 d) eW (aA (nW v) (m=m) (bU h h)))/\∀(d:Unit),I1 d->∃(I2:Unit->Prop),cX v.op 3 (fZ (aG v.columns) 0 (K bG m h) (∃(e:Unit),aA (I2 e) eW (aA (nW v) (m=m) (bU h h)))) (∃(e:Unit),aA (I2 e) eW (aA (nW v) (m=m) (bU h h)))/\∀(e:Unit),I2 e->∃(I3:Unit->Prop),cX v.op 4
 (cX v.op 5 (fZ (aG v.on) 0 (K bG m h) (∃(c:Unit),aA (I3 c) eW (aA (nW v) (m=m) (bU h h)))) (∃(c:Unit),aA (I3 c) eW (aA (nW v) (m=m) (bU h h)))) (∃(c:Unit),aA (I3 c) eW (aA (nW v) (m=m) (bU h h)))/\∀(c:Unit),I3 c->cX v.op 9 (cX v.op 10 (eY (aG v.group) 0 (eY (aG v.order) 0 (K (As (v.limit==0)) m h) (K bG m h)) (K bG m h)) (K iQ m h)) (K iQ m h)
theorem arQ:cm 147 Sx:=by
 refine iU func147 ?_;rintro d m h K ⟨op,rfl,c⟩;refine⟨dJ [] [] [] [] false,rfl,aH,Un op m h K,ax,?_⟩;dsimp only[Un,push_cast]
 repeat' (first|(refine aD (λ_=>?_) (λ_=>?_))|(refine BN c ?_;simp only[arity];simp only[*,Bool.or_false,Bool.false_or,Bool.or_true,Bool.true_or,Bool.and_true,Bool.true_and,Bool.and_false,Bool.false_and,Bool.not_true,Bool.not_false,Bool.false_eq_true,if_true,if_false, ↓reduceIte];done)|(refine BN c ?_;simp only[arity];grind))
theorem aqJ:cm 148 cbQ:=by
 refine iU func148 ?_;rintro f m h K ⟨a,n,e,rfl,c⟩;refine⟨dJ [] [] [] [] false,rfl,aH,Um a n e m h K,ax,?_⟩;dsimp only[Um,push_cast];unfold ET at c;refine aD (λd=>?_) (λd=>?_)
 .rw[if_pos d]at c;refine aF (λg=>kM c ?_) (λg=>kM c ?_)
  .grind
  grind
 .rw[if_neg (by simp[d])]at c;exact kM c rfl
theorem aiQ:cm 197 b1Q:=by
 refine iU func197 ?_;rintro g m h K ⟨v,p,rfl,j,d⟩;refine⟨dJ [] [] [] [] false,rfl,aH,TX v m h K,ax,?_⟩;dsimp only[TX,push_cast];obtain⟨op,n,l,r,args⟩:=p;obtain⟨rfl,rfl,rfl,rfl,o⟩:=j.parts;have u:=Ff o.slen;have bad:¬(Pred.mk v.op v.cmp v.left v.right args=fW)->K (.val (.bool false)) m h:=λy=>d false ⟨λe=>(by cases e),λe=>(y e).elim⟩;simp only[fW,Pred.mk.injEq]at d bad;refine aD (λz=>aD (λA=>⟨_,BH v.left gA,aD (λc=>⟨_,BH v.right gA,aD (λf=>d _ ?_) (λf=>bad ?_)⟩) (λc=>bad ?_)⟩) (λA=>bad ?_)) (λz=>bad ?_)
 .rw[u];exact⟨λe=>⟨bg,bg,uX.1 c,uX.1 f,e⟩,λe=>e.2.2.2.2⟩
 .grind
 .intro e;rw[uX.2 e.2.2.1]at c;cases c
 .grind
 grind
theorem aqZ:cm 149 Zf:=by
 refine iU func149 ?_;rintro J m h K ⟨v,t,rfl,x,g⟩;refine⟨bQZ v m h,rfl,aE aiQ aH,Ul v m h K,ax,?_⟩;dsimp only[Ul,push_cast];obtain⟨op,ta,w,co,on,gr,od,li,le,R⟩:=t;obtain⟨u,y,z,A,B,C,xs,D,_,_⟩:=x;simp only at u y z A B C xs D;have S:=Ff A.slen;have T:=Ff B.slen;have U:=Ff C.slen;have V:=Ff xs.slen;simp only[Step.query,cV]at g;subst u y D;have bad:∀{P:Prop},¬P->((v.op=1\/v.table=0)/\(v.op=2\/w=fW)/\(v.op=3\/co=[])/\(v.op=4\/v.op=5\/on=[])/\(v.op=9\/v.op=10\/(gr=[]/\od=[]/\v.limit=0))->P)->K (.val (.bool false)) m h:=λj L=>g false ⟨λe=>(by cases e),λe=>(j (L e)).elim⟩;have M:∀{n:Nat}{α:Type}{l:List α},n=l.length->((n:Int)>0↔l≠[]):=fun{n α l} e=>by rw[e,ne_eq, <-length_eq_zero_iff];omega
 refine⟨λ_=>v.op=1\/v.table=0,aD (λd=>aD (λc=>bad (P:=v.op=1\/v.table=0) ?_ λe=>e.1) (λc=>⟨(),.inr bg,MT⟩)) (λd=>⟨(),.inl bg,MT⟩),λ_ E=>?_⟩
 .grind
 refine⟨λ_=>v.op=2\/w=fW,aD (λd=>⟨v.where_,w,rfl,z,λr F=>aD (λc=>bad (P:=v.op=2\/w=fW) ?_ λe=>e.2.1) (λc=>⟨(),.inr (F.1 bg),MT⟩)⟩) (λd=>⟨(),.inl bg,MT⟩),λ_ G=>?_⟩
 .rw[not_or];refine⟨bg,λe=>?_⟩;rw[F.2 e]at c;cases c
 refine⟨λ_=>v.op=3\/co=[],aD (λd=>aF (λc=>bad (P:=v.op=3\/co=[]) ?_ λe=>e.2.2.1) (λc=>⟨(),.inr ?_,MT⟩)) (λd=>⟨(),.inl bg,MT⟩),λ_ H=>?_⟩
 .grind
 .grind
 refine⟨λ_=>v.op=4\/v.op=5\/on=[],aD (λd=>aD (λo=>aF (λc=>bad (P:=v.op=4\/v.op=5\/on=[]) ?_ λe=>e.2.2.2.1) (λc=>⟨(),.inr (.inr ?_),MT⟩)) (λo=>⟨(),.inr (.inl bg),MT⟩)) (λd=>⟨(),.inl bg,MT⟩),λ_ I=>?_⟩
 .grind
 .grind
 refine aD (λd=>aD (λc=>?_) (λc=>g true ⟨λ_=>⟨E,G,H,I,.inr (.inl bg)⟩,λ_=>rfl⟩)) (λd=>g true ⟨λ_=>⟨E,G,H,I,.inl bg⟩,λ_=>rfl⟩);have d:v.op≠9:=bg
 have c:v.op≠10:=bg
 have f:¬(gr=[]/\od=[]/\v.limit=0)->K (.val (.bool false)) m h:=λj=>bad j λe=>(e.2.2.2.2.resolve_left d).resolve_left c;refine aD (λO=>aD (λQ=>g _ ?_) (λQ=>f λe=>?_)) (λO=>f λe=>?_)
 .grind
 .grind
 .grind
open Classical in
noncomputable def W9(a co:cq):cq×Int:=if co≠[]/\Good (λ_ c=>C9 a c=true) co then nF (co.map λc=>a.getD c.toNat 0)else eF 120
def cHJ:=λc m h K=>∃s t a co,c=[cS s,cS t]/\Ints h s a/\Ints h t co/\KR K m h (W9 a co)
def UZ:Vc.Spec:=λc m h K=>∃s t u a b on,c=[cS s,cS t,cS u]/\Ints h s a/\Ints h t b/\jD h u on/\a.length<=1000/\b.length<=1000/\∀r:Bool,(r=true↔Good (nT a b) on)->K (cB r) m h
def Sk:Vc.Spec:=λc m h K=>∃s v a t,c=[cS s,aT v]/\Ints h s a/\u0 h t v/\a.length<=1000/\∀r:Bool,(r=true↔nJ a t.group t.order t.limit)->K (cB r) m h
def eB(b:Bool):cr:=[.bool b]
noncomputable def bQX s t m h:=
 dJ [] [(4,{A:=Nat,st:=λi=>bZ 51 53 [(0,sv s),(1,sv t),(14,sv t),(15,iv t.len),(16,iv i)] [] m h}),
  (13,{A:=Nat×cq,st:=λ⟨i,l⟩=>bZ 51 53 [(0,sv s),(8,.at (.lst 34)),(35,sv t),(36,iv t.len),(37,iv i)] [(34,.lst 3 1 (l.map eI))] m h})] [] [] false
noncomputable def bQQ s t u m h:=
 dJ [] [(4,{A:=Nat×dk×dk,st:=λ⟨i,x,y⟩=>bZ 75 78 [(0,sv s),(1,sv t),(7,.at (.lst 15)),(8,.at (.lst 18)),(19,sv u),(20,iv u.len),(21,iv i)] [(15,.lst 4 1 (x.map eB)),(18,.lst 4 1 (y.map eB))] m h})] [(9,{A:=Nat×dk×dk×Int×Int,st:=λ⟨i,x,y,a,b⟩=>bZ 75 78 [(0,sv s),(1,sv t),(7,.at (.lst 15)),(8,.at (.lst 18)),(11,iv a),(12,iv b),(19,sv u),(20,iv u.len),(21,iv i)] [(15,.lst 4 1 (x.map eB)),(18,.lst 4 1 (y.map eB))] m h})] [] false
noncomputable def bPJ(s:Sl)(v:xC)(m:MH)(h:PH):=
 dJ [] [(3,{A:=Nat×dk,st:=λ⟨i,x⟩=>bZ 68 70 [(0,sv s),(3,.at (.ptr 3 0)),(5,.at (.lst 12)),(14,sv v.group),(15,iv v.group.len),(16,iv i)] [(3,.cells 101 (v.enc.map .val)),(12,.lst 4 1 (x.map eB))] m h}),
  (12,{A:=Nat,st:=λi=>bZ 68 70 [(0,sv s),(3,.at (.ptr 3 0)),(43,sv v.order),(44,iv v.order.len),(45,iv i)] [(3,.cells 101 (v.enc.map .val))] m h})] [] [] false
def Uk s t m h K:=
  eY (aG t) 0 (cC K 120 m h) (p9 (λI x=>aA (I x) (aJ s) (aA (aJ t) (aJ t) (aA (bJ t) (bE x) (aA (m=m) (h=h) True)))) (λI f x=>I x->bA (↑x:Int) (aG t) (bK (λb o=>aI (aW t.a b o) (0<=(↑x:Int)) ((↑x:Int)<aG t) (∃(y:Int),aL m h b (o+bM x 1) (bC y)/\bA y 0 (cC K 120 m h) (iG y (aG s) (cC K 120 m h) (∃(c:Nat),aA (I c) (f c<f x) (aA (aJ s) (aJ t) (aA (aJ t) (bJ t) (aA (gX (bH x 1)=bP c) (m=m) (bU h h))))))))) (fZ (aG t) 12 (cC K 2 m h) (Bt t 8 (Lx (λI1 c=>aA (I1 c) (aJ s) (aA (eL 34) (aJ t) (aA (bJ t) (bE c.1) (aA (lS (AK (aG t) (oW bI)) c.2) (m=m) (bU h h))))) (λI1 g c=>I1 c->bA (↑c.1:Int) (aG t) (bK (λb o=>aI (aW t.a b o)
 (0<=(↑c.1:Int)) ((↑c.1:Int)<aG t) (∃(y:Int),aL m h b (o+bM c.1 1) (bC y)/\bK (λj n=>aI (aW s.a j n) (0<=y) (y<aG s) (∃(u:Int),CM (aL m h j (n+iA y 1) (bC u)) 0 (↑c.1:Int) (qO c) (λe=>aA (mQ (qO c) (pD c.1) e) (xP e) (∃(d:Nat×cq),aA (I1 d) (g d<g c) (aA (aJ s) (eL 34) (aA (aJ t) (bJ t) (aA (gX (bH c.1 1)=bP d.1) (lS (List.set (qO c) (pD c.1) (JA (fV u) 1 e)) d.2) (eG m m h h))))))))))) (uL h (qO c) K m)))))))
noncomputable abbrev mX a:=List.map eB a
noncomputable abbrev Bz(a:Nat×dk×dk×Int×Int):=a.2.2.2.1
noncomputable abbrev z6(a:Nat×dk×dk×Int×Int):=a.2.2.2.2
noncomputable abbrev Gt(a:Nat×dk×dk×Int×Int):=mX a.2.2.1
attribute [push_cast] mX Bz z6 Gt
def Uj(s t u:Sl)(m:MH)(h:PH)(K:cn):=
  aA (cM (aG s)) (aG s<=aG s) (aA (Ah s 1) (Af (aG s)) (aA (cM (aG t)) (aG t<=aG t) (aA (Ah t 1) (Af (aG t)) (∃(I:Nat×dk×dk->Prop)(j:Nat×dk×dk->Nat),(∃(x:Nat×dk×dk),aA (I x) (aJ s) (aA (aJ t) (eL 15) (aA (eL 18) (aJ u) (aA (bJ u) (bE x.1) (aA (bV 4 1 (AK (aG s) (oW w9))=bV 4 1 (mX x.2.1)) (bV 4 1 (AK (aG t) (oW w9))=bV 4 1 (mX x.2.2)) (aA (m=m) (h=h) True))))))/\∀(x:Nat×dk×dk),I x->bA (↑x.1:Int) (aG u) (bK (λb o=>aI (aW u.a b o) (0<=(↑x.1:Int)) ((↑x.1:Int)<aG u) (∃(y:Int×Int),aA (aL m h b (o+bM x.1 2) (vY y)) (cM 0) (aA ((0:Int)<2) (cM 1) ((1:Int)<2/\∃(I1:Nat×dk×List
 Bool×Int×Int->Prop),bA y.1 0 (K bG m h) (iG y.1 (aG s) (K bG m h) (bA y.2 0 (K bG m h) (iG y.2 (aG t) (K bG m h) (∃(c:Nat×dk×dk×Int×Int),aA (I1 c) (aJ s) (aA (aJ t) (eL 15) (aA (eL 18) (dH y.1 (Bz c)) (aA (dH y.2 (z6 c)) (aJ u) (aA (bJ u) (cG x.1 c.1) (aA (bV 4 1 (mX x.2.1)=bV 4 1 (mX c.2.1)) (bV 4 1 (mX x.2.2)=bV 4 1 (Gt c)) (eG m m h h))))))))))/\∀(c:Nat×dk×dk×Int×Int),I1 c->bK (λn z=>aI (aW s.a n z) (0<=Bz c) (Bz c<aG s) (∃(A:Int),aL m h n (z+iA (Bz c) 1) (bC A)/\bK (λB C=>aI (aW t.a B C) (0<=z6 c) (z6 c<aG t) (∃(D:Int),aL m h B (C+iA (z6 c) 1) (bC D)/\cX A D (K bG m
 h) (pP (Bz c) (mX c.2.1) (λe=>mQ (mX c.2.1) (Bz c).toNat e/\∃(E:Bool),iF (uK 1 e (uA E)) E (K bG m h) (pP (z6 c) (Gt c) (λF=>mQ (Gt c) (z6 c).toNat F/\∃(G:Bool),iF (uK 1 F (uA G)) G (K bG m h) (pP (Bz c) (mX c.2.1) (λf=>aA (mQ (mX c.2.1) (Bz c).toNat f) (xP f) (aA (cM (z6 c)) (z6 c<tE (Gt c)) (∃(g:cr),aA (mQ (Gt c) (z6 c).toNat g) (xP g) (∃(d:Nat×dk×dk),aA (I d) (j d<j x) (aA (aJ s) (aJ t) (aA (eL 15) (eL 18) (aA (aJ u) (bJ u) (aA (gX (bH c.1 1)=bP d.1) (bV 4 1 (List.set (mX c.2.1) (Bz c).toNat (JA Du 1 f))=bV 4 1 (mX d.2.1)) (aA (bV 4 1 (List.set
 (Gt c) (z6 c).toNat (JA Du 1 g))=bV 4 1 (mX d.2.2)) (m=m) (bU h h)))))))))))))))))))))))) (K iQ m h)))))
def Ui(s:Sl)(v:xC)(m:MH)(h:PH)(K:cn):=
  Bt s 1 (∃(I:Nat×dk->Prop)(g:Nat×dk->Nat),(∃(x:Nat×dk),aA (I x) (aJ s) (aA (eP 3) (eL 12) (aA (aJ v.group) (bJ v.group) (aA (bE x.1) (nW v) (dL (bV 4 1 (AK (aG s) (oW w9))=bV 4 1 (mX x.2)) m m h h)))))/\∀(x:Nat×dk),I x->bA (↑x.1:Int) (aG v.group) (bK (λb o=>aI (aW v.group.a b o) (0<=(↑x.1:Int)) ((↑x.1:Int)<aG v.group) (∃(y:Int),aL m h b (o+bM x.1 1) (bC y)/\bA y 0 (K bG m h) (iG y (aG s) (K bG m h) (pP y (mX x.2) (λe=>mQ (mX x.2) y.toNat e/\∃(j:Bool),iF (uK 1 e (uA j)) j (K bG m h) (pP y (mX x.2) (λd=>aA (mQ (mX x.2) y.toNat d) (xP d) (∃(c:Nat×dk),aA (I c) (g c<g x) (aA (aJ s) jU (aA (eL 12)
 (aJ v.group) (aA (bJ v.group) (gX (bH x.1 1)=bP c.1) (aA (nW v) (bV 4 1 (List.set (mX x.2) y.toNat (JA Du 1 d))=bV 4 1 (mX c.2)) (aA (m=m) (h=h) True)))))))))))))) (fZ (aG v.order) 12 (K bG m h) (p9 (λI1 c=>aA (I1 c) (aJ s) (aA (eP 3) (aJ v.order) (aA (bJ v.order) (bE c) (aA (nW v) (m=m) (bU h h))))) (λI1 n c=>I1 c->bA (↑c:Int) (aG v.order) (bK (λb o=>aI (aW v.order.a b o) (0<=(↑c:Int)) ((↑c:Int)<aG v.order) (∃(y:Int×Bool),aL m h b (o+bM c 2) (Bl y)/\bA y.1 0 (K bG m h) (iG y.1 (aG s) (K bG m h) (∃(f:Nat),aA (I1 f) (n f<n c) (aA (aJ s) jU (aA (aJ v.order) (bJ v.order) (aA (gX (bH c 1)=bP f) (nW v) (eG m m h h))))))))) (iG v.limit 0 (K (As
 (decide (v.limit<=100))) m h) (K bG m h))))))
theorem KR.bad{r e}(c:KR K m h r)(d:r=eF e):K (.tup [.val (.slice none 0 0),.val (.int .i64 e)]) m h:=c.err (.refl _) d
theorem aqQ:cm 150 cHJ:=by
 refine iU func150 ?_;rintro J m h K ⟨s,t,a,co,rfl,F,y,n⟩;refine⟨bQX s t m h,rfl,aH,Uk s t m h K,ax,?_⟩;dsimp only[Uk,push_cast];have V:=F.slen;have z:=y.slen;have G:=y.len;unfold W9 at n;refine aD (λH=>n.bad (if_neg λe=>e.1 ((Ff y.slen).1 H))) (λH=>?_);have A:co≠[]:=λe=>bg
 refine⟨λi=>i<=co.length/\gQ (λ_ c=>C9 a c=true) co i,λi=>co.length-i,⟨0,⟨aC,.zero⟩,MT⟩,λi⟨W,I⟩=>aF (λd=>?_) (λB=>?_)⟩
 .obtain⟨c,j⟩:=fF z d;obtain⟨b,o,e,r⟩:=y.at' j;refine⟨b,o,e,aC,d,c,.imm r,aF (λC=>n.bad (if_neg λg=>?_)) (λC=>aF (λL=>n.bad (if_neg λg=>?_)) (λL=>⟨i+1,⟨aC,I.succ j (fB.2 ⟨aC,aC⟩)⟩,bg,MT⟩))⟩
  .have:=fB.1 (g.2 i c j);omega
  .have:=fB.1 (g.2 i c j);omega
 have f:=I.all aC;rw[if_pos ⟨A,f⟩]at n;refine aF (λC=>n.big (.refl _) rfl bf) (λC=>⟨aC,aC,aC,aC,?_⟩);refine⟨λ⟨i,l⟩=>i<=co.length/\l=((co.take i).map λc=>a.getD c.toNat 0)++replicate (co.length-i) 0,λ⟨i,_⟩=>co.length-i,⟨(0,replicate co.length 0),⟨aC,ay⟩,?_⟩,?_⟩
 .have:List.map eI (replicate co.length (0:Int))=replicate (Int.toNat (t.len:Int)) [fV 0]:=by rw[map_replicate,Int.toNat_natCast,z];rfl
  grind
 rintro⟨i,l⟩ ⟨M,rfl⟩;dsimp only;refine aF (λd=>?_) (λB O h' D X=>n.ok D rfl bf ?_)
 .obtain⟨c,j⟩:=fF z d;obtain⟨b,o,e,r⟩:=y.at' j;have u:=fB.1 (f i c j);obtain⟨P,Q,R,S⟩:=F.inb u.1 u.2;refine⟨b,o,e,aC,d,c,.imm r,P,Q,R,u.1,aC,a.getD c.toNat 0,.imm S,aC,bf,eI 0,?_,by simp[eI],(i+1,((co.take (i+1)).map λc=>a.getD c.toNat 0)++replicate (co.length-(i+1)) 0),⟨aC,rfl⟩,aC,?_⟩
  .grind
  .have T:co.length-i=(co.length-(i+1))+1:=by omega
   have U:(List.map eI (((co.take i).map λc=>a.getD c.toNat 0)++replicate (co.length-i) 0)).set (Int.toNat (i:Int)) (fV (a.getD c.toNat 0)::([]++List.drop 1 (eI 0)))=List.map eI (((co.take (i+1)).map λc=>a.getD c.toNat 0)++replicate (co.length-(i+1)) 0):=by
    have Y:((co.take i).map λc=>a.getD c.toNat 0).length=i:=bf
    rw[T,replicate_succ,cd,j,Int.toNat_natCast];simp only[bu,map_cons];have E:(List.map eI ((co.take i).map λc=>a.getD c.toNat 0)).length=i:=bg
    rw[set_append_right _ _ aC,E,Nat.sub_self];simp[eI]
   rw[<-U];exact MT
 .have:i=co.length:=by omega
  subst this
  grind
structure Seen(n:Nat)(x:dk)(l:cq):Prop where
 len:x.length=n
 iff:∀k:Nat,k<n->(x[k]? =some true↔(k:Int)∈l)
theorem Seen.zero n:Seen n (replicate n false) []:=⟨ay,λk c=>bg⟩
theorem Seen.map0{n}{s:Sl}(h:s.len=n):List.map eB (replicate n false)=replicate (Int.toNat (s.len:Int)) [Value.bool false]:=by rw[map_replicate,Int.toNat_natCast,h];rfl
theorem Seen.look{n x}(h:Seen n x l){c:Int}(d:0<=c)(e:c<n):∃y,(List.map eB x)[c.toNat]? =some (eB y)/\(y=true↔c∈l):=by
 have f:=h.len;have g:c.toNat<x.length:=by omega
 refine⟨x[c.toNat],bg,?_⟩;have:=h.iff c.toNat aC
 grind
theorem Seen.set{n x}(h:Seen n x l){c:Int}(f:0<=c)(g:c<n):Seen n (x.set c.toNat true) (l++[c]):=by
 refine⟨bk h.len,λk d=>?_⟩;have j:=h.len;rw[getElem?_set,mem_append,mem_singleton];by_cases e:c.toNat=k
 .grind
 .rw[if_neg e,h.iff k d]
  grind
theorem Seen.cells x k y:(List.map eB x).set k (Value.bool true::([]++List.drop 1 (eB y)))=List.map eB (x.set k true):=by rw[map_set];rfl
theorem apJ:cm 151 UZ:=by
 refine iU func151 ?_;rintro T m h K ⟨s,t,u,a,b,on,rfl,I,J,F,al,bl,L⟩;refine⟨bQQ s t u m h,rfl,aH,Uj s t u m h K,ax,?_⟩;dsimp only[Uj,push_cast];have U:=I.slen;have V:=J.slen;have W:=F.slen;have G:=F.len;refine⟨aC,aC,aC,aC,aC,aC,aC,aC,?_⟩;refine⟨λ⟨i,x,y⟩=>i<=on.length/\gQ (nT a b) on i/\Seen a.length x ((on.take i).map λp=>p.1)/\Seen b.length y ((on.take i).map λp=>p.2),λ⟨i,_,_⟩=>on.length-i,⟨(0,replicate a.length false,replicate b.length false),⟨aC,.zero,.zero _,.zero _⟩,?_⟩,?_⟩
 .rw[Seen.map0 U,Seen.map0 V];exact MT
 rintro⟨i,x,y⟩ ⟨X,H,A,B⟩;dsimp only at X H A B⊢
 refine aF (λn=>?_) (λY=>L true ⟨λ_=>H.all aC,λ_=>rfl⟩);obtain⟨p,o⟩:=fF W n;obtain⟨Z,o1,e1,r1⟩:=F.at o;have bad:¬nT a b (on.take i) p->K (.val (.bool false)) m h:=λhn=>L false ⟨λe=>(by cases e),λe=>(Good.not o hn e).elim⟩;refine⟨Z,o1,e1,aC,n,p,.imm r1,aC,aC,aC,aC,λ⟨i',x',y',c,d⟩=>i'=i/\x'=x/\y'=y/\c=p.1/\d=p.2/\C9 a p.1=true/\C9 b p.2=true,?_,?_⟩
 .refine aF (λz=>bad λg=>?_) (λz=>aF (λC=>bad λg=>?_) (λC=>aF (λD=>bad λg=>?_) (λD=>aF (λh4=>bad λg=>?_) (λh4=>⟨(i,x,y,p.1,p.2),⟨rfl,rfl,rfl,rfl,rfl,fB.2 ⟨aC,aC⟩,fB.2 ⟨aC,aC⟩⟩,MT⟩))))
  .have:=fB.1 g.1;omega
  .have:=fB.1 g.1;omega
  .have:=fB.1 g.2.1;omega
  .have:=fB.1 g.2.1;omega
 rintro⟨i,x,y,c,d⟩ ⟨rfl,rfl,rfl,rfl,rfl,M,O⟩;dsimp only;have f:=fB.1 M;have j:=fB.1 O;obtain⟨b2,o2,e2,r2⟩:=I.inb f.1 f.2;obtain⟨b3,o3,e3,r3⟩:=J.inb j.1 j.2;obtain⟨P,Q,q1⟩:=A.look f.1 f.2;obtain⟨R,S,q2⟩:=B.look j.1 j.2;have lx:=A.len;have ly:=B.len;refine⟨b2,o2,e2,f.1,aC,_,.imm r2,b3,o3,e3,j.1,aC,_,.imm r3,aD (λz=>bad λg=>?_) (λz=>⟨f.1,bf,_,Q,P,rfl,aD (λC=>bad λg=>?_) (λC=>⟨j.1,bf,_,S,R,rfl,aD (λD=>bad λg=>?_) (λD=>?_)⟩)⟩)⟩
 .rw[g.2.2.1]at z;simp at z
 .obtain⟨q,E,e⟩:=mem_map.1 (q1.1 C);exact(g.2.2.2 q E).1 e
 .obtain⟨q,E,e⟩:=mem_map.1 (q2.1 D);exact(g.2.2.2 q E).2 e
 refine⟨f.1,bf,_,Q,by simp[eB],j.1,bf,_,S,by simp[eB],(i+1,x.set p.1.toNat true,y.set p.2.toNat true),⟨aC,H.succ o ⟨M,O,bg,λq E=>⟨λe=>?_,λe=>?_⟩⟩,?_,?_⟩,aC,?_⟩
 .grind
 .grind
 .rw[cd,o,bu];exact A.set f.1 f.2
 .rw[cd,o,bu];exact B.set j.1 j.2
 .rw[<-Seen.cells x p.1.toNat P, <-Seen.cells y p.2.toNat R];exact MT
theorem apZ:cm 153 Sk:=by
 refine iU func153 ?_;rintro S m h K ⟨s,v,a,t,rfl,T,x,al,O⟩;refine⟨bPJ s v m h,rfl,aH,Ui s v m h K,ax,?_⟩;dsimp only[Ui,push_cast];have U:=T.slen;have V:=x.group_.slen;have W:=x.order_.slen;have P:=x.group_.len;have Q:=x.order_.len;have X:=x.limit_;have bad:¬nJ a t.group t.order t.limit->K (.val (.bool false)) m h:=λA=>O false ⟨λe=>(by cases e),λe=>(A e).elim⟩;refine⟨aC,aC,aC,aC,?_⟩;refine⟨λ⟨i,u⟩=>i<=t.group.length/\gQ (G2 a) t.group i/\Seen a.length u (t.group.take i),λ⟨i,_⟩=>t.group.length-i,⟨(0,replicate a.length false),⟨aC,.zero,.zero _⟩,?_⟩,?_⟩
 .rw[Seen.map0 U];exact MT
 rintro⟨i,u⟩ ⟨G,E,B⟩;dsimp only at G E B⊢
 have Y:=B.len;refine aF (λd=>?_) (λC=>?_)
 .obtain⟨c,j⟩:=fF V d;obtain⟨H,I,J,L⟩:=x.group_.at' j;have f:¬G2 a (t.group.take i) c->K (.val (.bool false)) m h:=λA=>bad λo=>Good.not j A o.group_;refine⟨H,I,J,aC,d,c,.imm L,aF (λM=>f λg=>?_) (λM=>aF (λz=>f λg=>?_) (λz=>?_))⟩
  .have:=fB.1 g.1;omega
  .have:=fB.1 g.1;omega
  obtain⟨y,R,Z⟩:=B.look (c:=c) aC aC;refine⟨aC,bf,_,R,y,rfl,aD (λF=>f λg=>g.2 (Z.1 F)) (λF=>⟨aC,bf,_,R,by simp[eB],(i+1,u.set c.toNat true),⟨aC,E.succ j ⟨fB.2 ⟨aC,aC⟩,λe=>?_⟩,?_⟩,aC,?_⟩)⟩
  .grind
  .rw[cd,j];exact B.set aC aC
  .rw[<-Seen.cells u c.toNat y];exact MT
 have gg:=E.all aC;clear G E C B Y;refine aF (λM=>bad λo=>by have:=o.len_;omega) (λM=>?_);refine⟨λi=>i<=t.order.length/\gQ (Kj a) t.order i,λi=>t.order.length-i,⟨0,⟨aC,.zero⟩,MT⟩,λi⟨G,D⟩=>aF (λd=>?_) (λC=>?_)⟩
 .obtain⟨c,j⟩:=fF W d;obtain⟨H,I,J,L⟩:=x.order_.at j;have n:¬Kj a (t.order.take i) c->K (.val (.bool false)) m h:=λA=>bad λo=>Good.not j A o.order_;refine⟨H,I,J,aC,d,c,.imm L,aF (λz=>n λg=>?_) (λz=>aF (λF=>n λg=>?_) (λF=>⟨i+1,⟨aC,D.succ j (fB.2 ⟨aC,aC⟩)⟩,bg,MT⟩))⟩
  .have:=fB.1 (show C9 a c.1=true from g);omega
  .have:=fB.1 (show C9 a c.1=true from g);omega
 have oo:=D.all aC;rw[X];refine aF (λz=>O _ ⟨λe=>⟨gg,oo,aC,z,bk e⟩,λe=>decide_eq_true e.high⟩) (λz=>bad λo=>by have:=o.low;omega)
def DM(ks:List cq)(a:Int)(n:Bool):=if n=true then ks.getD a.toNat []else[]
noncomputable def DS(s:jP)(ks:List cq)(t:Step):=
 if arity t.op<0\/ET t.left (decide (arity t.op>0)) ks.length=false\/ET t.right (decide (arity t.op>1)) ks.length=false then eF 120
 else if(eT s [] t.query (DM ks t.left (decide (arity t.op>0))) (DM ks t.right (decide (arity t.op>1)))).2=100 then eF 120
 else eT s [] t.query (DM ks t.left (decide (arity t.op>0))) (DM ks t.right (decide (arity t.op>1)))
def Sv:=λc m h K=>∃sc d v s e ks t,c=[aS sc,cS d,aT v]/\iK h s sc/\oE s/\u0 h t v/\cW m d 36 1 (e.map eS)/\Slices h e ks/\(∀k∈ks,k.length<=12)/\∀r,fin r=DS s ks t->KR K m h r
noncomputable def clQ(sc:cA)(kk:Sl)(v:xC)(m:MH)(h:PH):=
 dJ [(147,Sx),(148,cbQ),(149,Zf),(69,vJ),(138,vI),(150,cHJ),(151,UZ),(152,DE),(153,Sk),(154,Mt),(78,P9)] [] [(4,{A:=Int,st:=λn=>bZ 132 135 [(1,sv kk),(3,.at (.ptr 3 0)),(5,.at (.ptr 5 0)),(8,iv n)] [(3,.cells 27 (sc.enc.map .val)),(5,.cells 101 (v.enc.map .val))] m h}),
  (9,{A:=Int×Sl,st:=λ⟨n,l⟩=>bZ 132 135 [(1,sv kk),(3,.at (.ptr 3 0)),(5,.at (.ptr 5 0)),(8,iv n),(9,sv l),(10,.at (.val (.slice none 0 0)))] [(3,.cells 27 (sc.enc.map .val)),(5,.cells 101 (v.enc.map .val))] m h}),
  (11,{A:=Sl×Sl,st:=λ⟨l,r⟩=>bZ 132 135 [(3,.at (.ptr 3 0)),(5,.at (.ptr 5 0)),(9,sv l),(10,sv r)] [(3,.cells 27 (sc.enc.map .val)),(5,.cells 101 (v.enc.map .val))] m h}),
  (34,{A:=Sl×Sl×Bool,st:=λ⟨l,r,b⟩=>bZ 132 135 [(5,.at (.ptr 5 0)),(9,sv l),(10,sv r),(11,bv b)] [(5,.cells 101 (v.enc.map .val))] m h})] [] false
abbrev D0(a:Bool)(b:Prop)(c:Sl×Sl×Bool->Prop)(d:Sl×Sl)(e:xC)(g:MH)(i:PH):=iD a b->∃(x:Sl×Sl×Bool),aA (c x) eM (aA (aZ d.1 x.1) (aZ d.2 x.2.1) (aA (jQ a x.2.2) (nW e) (aA (g=g) (i=i) True)))
attribute [push_cast] D0
def Rp sc kk v m h K:=
  A8 v.op (λo=>∃(I:Int->Prop),bA (arity o) 0 (cC K 120 m h) (∃(a:Int)(n:Bool)(e:Int),iF (gG v.left::fC (As (decide (arity o>0))) (aG kk)=gG a::fC (As n) e) (!(ET a n e)) (cC K 120 m h) (∃(C:Int)(G:Bool)(H:Int),iF (gG v.right::fC (As (decide (arity o>1))) (aG kk)=gG C::fC (As G) H) (!(ET C G H)) (cC K 120 m h) (∃(x:Int),aA (I x) (aJ kk) (aA (eP 3) eM (aA (dH (arity o) x) (cL sc) (aA (nW v) (m=m) (bU h h)))))))/\∀(x:Int),I x->QY (λJ t=>aA (fY (tO v) (tO J)) (u0 h t J) (∀(r:Bool),hX (iD r (cV (Query.mk t.op t.table t.wher t.columns t.on t.group t.order t.limit []))) (!r) (cC K 120 m h) (∃(I1:Int×Sl->Prop),fZ x 0 (bK (λb B=>aI (aW kk.a b B) (0<=v.left)
 (v.left<aG kk) (∃(y:Sl),aL m h b (B+iA v.left 1) (aM y)/\∃(z:Int×Sl),aA (I1 z) (aJ kk) (aA (eP 3) eM (aA (dH x z.1) (aZ y z.2) (aA (eQ sQn) (cL sc) (dL (nW v) m m h h))))))) (∃(z:Int×Sl),aA (I1 z) (aJ kk) (aA (eP 3) eM (aA (dH x z.1) (sQn=sQs z.2) (aA (eQ sQn) (cL sc) (dL (nW v) m m h h)))))/\∀(z:Int×Sl),I1 z->∃(I2:Sl×Sl->Prop),fZ z.1 1 (bK (λb B=>aI (aW kk.a b B) (0<=v.right) (v.right<aG kk) (∃(y:Sl),aL m h b (B+iA v.right 1) (aM y)/\∃(d:Sl×Sl),aA (I2 d) jU (aA (eP 5) (aZ z.2 d.1) (aA (aZ y d.2) (cL sc) (aA (nW v) (m=m) (bU h h))))))) (∃(d:Sl×Sl),aA (I2 d) jU (aA (eP 5) (aZ z.2 d.1) (aA (sQn=sQs d.2) (cL sc) (aA (nW v) (m=m) (bU h
 h)))))/\∀(d:Sl×Sl),I2 d->∃(I3:Sl×Sl×Bool->Prop),dP (v.op==1) (bA v.table 0 (cC K 120 m h) (iG v.table (kT sc) (cC K 120 m h) (A9 sc v.table h (λs A=>lO K s 0 m A)))) (v.op==2) (Ga (dE d.1 (gC Ft (kE v.where_.enc))) h (λc p L=>cX (iI c p L) 0 (cC K (iI c p L) m h) (∃(f:Sl×Sl×Bool),aA (I3 f) eM (aA (aZ d.1 f.1) (aZ d.2 f.2.1) (aA (zC f.2.2) (nW v) (aA (m=m) (h=h) True)))))) (dP (v.op==3) (∃(s:Sl),AO (λg a c=>aI (cJ d.1 v.columns=cJ s g) (Ints h s a) (Ints h g c) (∀(D:Sl)(A:PH),bR h A (Ints A D (W9 a c).1) (K (CV.tup (gT D (CV.val (fV (W9 a c).2)))) m A)))) (v.op==4) (sG (λs g=>AO (λu a b=>∃(B:cw),aA (dE d.1 (cJ d.2 v.on)=dE s
 (cJ g u)) (Ints h s a) (aA (Ints h g b) (jD h u B) (aA (gU a) (gU b) (∀(j:Bool),D0 j (Good (nT a b) B) I3 d v m h)))))) (dP (v.op==5) (sG (λs g=>AO (λu a b=>∃(B:cw),aA (dE d.1 (cJ d.2 v.on)=dE s (cJ g u)) (Ints h s a) (aA (Ints h g b) (jD h u B) (aA (gU a) (gU b) (∀(j:Bool),D0 j (Good (nT a b) B) I3 d v m h)))))) (v.op==6) (A7 d.1 d.2 h (λa b j=>D0 j (a=b) I3 d v m h)) (dP (v.op==7) (A7 d.1 d.2 h (λa b j=>D0 j (a=b) I3 d v m h)) (v.op==8) (A7 d.1 d.2 h (λa b j=>D0 j (a=b) I3 d v m h)) (dP (v.op==9) (∃(s:Sl)(E:xC)(a:cq)(g:Step),aA (gT d.1 (tO v)=gT s (tO E)) (Ints h s a) (aA (u0 h g E) (gU a) (∀(j:Bool),D0 j
 (nJ a g.group g.order g.limit) I3 d v m h))) (v.op==10) (A7 d.1 d.2 h (λa b j=>hX (iD j (a=b)) j (∃(s:Sl)(E:xC)(C:cq)(g:Step),aA (gT d.1 (tO v)=gT s (tO E)) (Ints h s C) (aA (u0 h g E) (gU C) (∀(P:Bool),D0 P (nJ C g.group g.order g.limit) I3 d v m h))) (∃(f:Sl×Sl×Bool),aA (I3 f) eM (aA (aZ d.1 f.1) (aZ d.2 f.2.1) (aA (EH f.2.2) (nW v) (aA (m=m) (h=h) True)))))) (∃(f:Sl×Sl×Bool),aA (I3 f) eM (aA (aZ d.1 f.1) (aZ d.2 f.2.1) (aA (zC f.2.2) (nW v) (aA (m=m) (h=h) True))))))))/\∀(f:Sl×Sl×Bool),I3 f->dP (!f.2.2) (cC K 120 m h) (v.op==4) (cF h 1 (mE (aM f.1) (aM f.2.1)) (λs A=>∃(D:Sl)(k:List cq),aA (tA s=tA D) (cWX A D
 k) (aA (k.length<=10) (∀(M:cq),List.Mem M k->M.length<=12) (∀(O:Sl)(F:PH),bR A F (Ints F O k.flatten) (lO K O 0 m F))))) (xQ f.1 h (λl=>∀(s:Sl)(A:PH),bR h A (Ints A s l) (lO K s 0 m A)))))))
theorem cW.rdAt{m h s E sz xs}(r:cW m s E sz xs){i e}(d:xs[i]? =some e):∃b o,s.a=some ⟨b,o,none⟩/\aL m h b (o+i*sz) e:=by
 rcases r.ex with⟨_,rfl⟩|⟨b,g,c,rfl,n,_,_,_,u⟩
 .simp at d
 .refine⟨b,0,rfl,.lent c E (0,0) n ?_⟩;apply ext_getElem?;intro j;rw[getElem?_take];by_cases f:j<e.length
  .rw[if_pos f,getElem?_drop,Nat.zero_add];have y:=oU r.rows.len d j e[j] (bn f)
   grind
  grind
theorem aKQ{kk c}(r:cW m kk 36 1 (c.map eS))(g:Slices h c ks){a:Int}(j:0<=a)(n:a<ks.length):∃b o sl,kk.a=some ⟨b,o,none⟩/\aL m h b (o+a.toNat*1) [.slice sl.a sl.len sl.cap]/\Ints h sl (ks.getD a.toNat []):=by
 have d:a.toNat<ks.length:=by omega
 have f:a.toNat<c.length:=by rw[g.1];exact d
 obtain⟨b,o,e,rd⟩:=cW.rdAt (h:=h) r (i:=a.toNat) (e:=eS c[a.toNat]) bg;refine⟨b,o,c[a.toNat],e,rd,?_⟩;rw[getD_eq_getElem?_getD,bn d];exact g.2 a.toNat _ _ (bn f) (bn d)
theorem Y6(h:∀k∈ks,k.length<=12) a n:(DM ks a n).length<=12:=by
 unfold DM
 grind
open Classical in
theorem cSZ{sc:cA}{kk:Sl}{v:xC}{s ss ks t m h K}(hs:iK h s sc)(h8:oE s)(x:u0 h t v)(hr:cW m kk 36 1 (ss.map eS))(T:Slices h ss ks)(X:∀k∈ks,k.length<=12)(Y:∀r,fin r=DS s ks t->KR K m h r):Rp sc kk v m h K:=by
 dsimp only[Rp,push_cast];have F:Tst K m h (DS s ks t):=⟨Y⟩
 clear Y
 have kl:kk.len=ks.length:=by
  have:=cW.slen hr;rw[length_map]at this;rw[this,T.1]
 have ex:=x;have a8:=hs.tables.slen;obtain⟨op,ta,w,co,on,gr,od,li,le,ri⟩:=t;obtain⟨e0,e1,xw,xc,xo,xg,xs,e2,e3,e4⟩:=x;simp only at e0 e1 xw xc xo xg xs e2 e3 e4;subst e0 e1 e2 e3 e4;have Z:=Y6 X v.left (decide (arity v.op>0));have a4:=Y6 X v.right (decide (arity v.op>1))
 have d:DS s ks ⟨v.op,v.table,w,co,on,gr,od,v.limit,v.left,v.right⟩=if arity v.op<0\/ET v.left (decide (arity v.op>0)) ks.length=false\/ET v.right (decide (arity v.op>1)) ks.length=false then eF 120
  else if(eT s [] (.mk v.op v.table w co on gr od v.limit []) (DM ks v.left (decide (arity v.op>0))) (DM ks v.right (decide (arity v.op>1)))).2=100 then eF 120
  else eT s [] (.mk v.op v.table w co on gr od v.limit []) (DM ks v.left (decide (arity v.op>0))) (DM ks v.right (decide (arity v.op>1))):=rfl
 generalize hA:DM ks v.left (decide (arity v.op>0))=A at d Z;generalize hB:DM ks v.right (decide (arity v.op>1))=B at d a4;generalize DS s ks ⟨v.op,v.table,w,co,on,gr,od,v.limit,v.left,v.right⟩=R at F d;refine⟨v.op,rfl,λn=>n=arity v.op/\¬(arity v.op<0\/ET v.left (decide (arity v.op>0)) ks.length=false\/ET v.right (decide (arity v.op>1)) ks.length=false),aF (λC=>F.err bg az (.refl _)) (λC=>⟨v.left,_,(kk.len:Int),rfl,aD (λh2=>?_) (λh2=>⟨v.right,_,(kk.len:Int),rfl,aD (λh3=>?_) (λh3=>⟨arity v.op,⟨rfl,?_⟩,MT⟩)⟩)⟩),?_⟩
 .rw[kl]at h2;exact F.err bg az (.refl _)
 .rw[kl]at h3;exact F.err bg az (.refl _)
 .grind
 rintro n ⟨rfl,a'⟩;rw[if_neg a']at d;have P:¬arity v.op<0:=λe=>a' (.inl e);refine⟨v,_,rfl,ex,λr a0=>aD (λC=>F.err ?_ (e:=120) az (.refl _)) (λC=>?_)⟩
 .have hn:¬cV (.mk v.op v.table w co on gr od v.limit []):=λe=>bg
  have e:eT s [] (.mk v.op v.table w co on gr od v.limit []) A B=eF 100:=by
   unfold eT;exact if_pos (.inr hn)
  rw[d,e];rfl
 have hu:cV (.mk v.op v.table w co on gr od v.limit []):=a0.1 bg;clear a0 C r
 have J:eT s [] (.mk v.op v.table w co on gr od v.limit []) A B=if v.op=1 then(if 0<=v.table/\v.table<s.tables.length then nF (jB s v.table)else eF 100)
  else if v.op=2 then(if iI A [] w=0 then nF A else eF (iI A [] w))
  else if v.op=3 then(if co≠[]/\Good (λ_ c=>C9 A c=true) co then nF (co.map λc=>A.getD c.toNat 0)else eF 100)
  else if v.op=4 then(if Good (nT A B) on then nF (A++B)else eF 100)
  else if v.op=5 then(if Good (nT A B) on then nF A else eF 100)
  else if v.op=9 then(if nJ A gr od v.limit then nF A else eF 100)
  else if v.op=10 then(if A=B/\nJ A gr od v.limit then nF A else eF 100)
  else(if A=B then nF A else eF 100):=by
  unfold eT;exact if_neg (λe=>e.elim P λe=>e hu)
 have a7:∀l,(nF l).2≠100:=λl=>by unfold nF;grind
 have L:∀{l},eT s [] (.mk v.op v.table w co on gr od v.limit []) A B=nF l->R=nF l:=fun{l} e=>bg
 have D:eT s [] (.mk v.op v.table w co on gr od v.limit []) A B=eF 100->R=eF 120:=λe=>by rw[d,e];rfl
 have a1:∀{e},e≠100->eT s [] (.mk v.op v.table w co on gr od v.limit []) A B=eF e->R=eF e:=fun{e} h0 e1=>by rw[d,e1,if_neg (by simpa[eF]using h0)]
 clear d;refine⟨λ⟨n,l⟩=>n=arity v.op/\Ints h l A,aF (λC=>?_) (λC=>⟨(arity v.op,⟨none,0,0⟩),⟨rfl,?_⟩,MT⟩),?_⟩
 .have G:ET v.left (decide (arity v.op>0)) ks.length=true:=by
   grind
  unfold ET at G;rw[if_pos (decide_eq_true C)]at G;simp only[bz,ce]at G;obtain⟨b,o,Q,e,rd,S⟩:=aKQ hr T G.1 G.2;refine⟨b,o,e,G.1,aC,Q,rd,(arity v.op,Q),⟨rfl,?_⟩,MT⟩;rw[<-hA,DM,if_pos (decide_eq_true C)];exact S
 .rw[<-hA,DM,if_neg bg];exact⟨.nil _ _,ay⟩
 rintro⟨n,l⟩ ⟨rfl,u⟩;dsimp only;refine⟨λ⟨l,r⟩=>Ints h l A/\Ints h r B,aF (λC=>?_) (λC=>⟨(l,⟨none,0,0⟩),⟨u,?_⟩,MT⟩),?_⟩
 .have G:ET v.right (decide (arity v.op>1)) ks.length=true:=by
   grind
  unfold ET at G;rw[if_pos (decide_eq_true C)]at G;simp only[bz,ce]at G;obtain⟨b,o,Q,e,rd,S⟩:=aKQ hr T G.1 G.2;refine⟨b,o,e,G.1,aC,Q,rd,(l,Q),⟨u,?_⟩,MT⟩;rw[<-hB,DM,if_pos (decide_eq_true C)];exact S
 .rw[<-hB,DM,if_neg bg];exact⟨.nil _ _,ay⟩
 clear u l;rintro⟨l,r⟩ ⟨u,j⟩;dsimp only;have good:∀b:Bool,(b=true->R=nF (if v.op=4 then A++B else A))->(b=false->R=eF 120)->∃x:Sl×Sl×Bool,((λ⟨l,r,b⟩=>Ints h l A/\Ints h r B/\(b=true->R=nF (if v.op=4 then A++B else A))/\(b=false->R=eF 120):Sl×Sl×Bool->Prop)) x/\(l,r,b)=x:=λb g1 g2=>⟨_,⟨u,j,g1,g2⟩,rfl⟩
 refine⟨λ⟨l,r,b⟩=>Ints h l A/\Ints h r B/\(b=true->R=nF (if v.op=4 then A++B else A))/\(b=false->R=eF 120),?_,?_⟩
 .refine aD (λM=>?_) (λM=>aD (λU=>?_) (λU=>aD (λc3=>?_) (λc3=>?_)))
  .have M:v.op=1:=bg
   rw[if_pos M]at J;refine aF (λC=>F.err (D bg) az (.refl _)) (λC=>aF (λh2=>F.err (D bg) az (.refl _)) (λh2=>⟨sc,s,v.table,rfl,hs,h8,λQ h' E S=>F.ok (L bg) E S⟩))
  .have M:¬v.op=1:=bg
   have U:v.op=2:=bg
   rw[if_neg M,if_pos U]at J;have a5:iI A [] w≠100:=by unfold iI;omega
   refine⟨l,⟨none,0,0⟩,v.where_,A,[],w,rfl,u,⟨.nil _ _,ay⟩,xw,aD (λC=>?_) (λC=>⟨(l,r,true),⟨u,j,λ_=>?_,λe=>(by cases e)⟩,MT⟩)⟩
   .have C:iI A [] w≠0:=bg
    exact F.err (a1 a5 bg) C (.refl _)
   grind
  .have M:¬v.op=1:=bg
   have U:¬v.op=2:=bg
   have c3:v.op=3:=bg
   rw[if_neg M,if_neg U,if_pos c3]at J;refine⟨l,v.columns,A,co,rfl,u,xc,?_⟩;unfold W9;split
   .rename_i e;have hR:R=nF (co.map λc=>A.getD c.toNat 0):=L bg;refine F.all _ ?_;rw[hR];unfold nF;split
    .rename_i C;show fin (_,0)=_;rw[aMQ,nF,if_pos C]
    .exact VX (e:=2) az
   .rename_i e;refine F.all _ ?_;rw[D bg];exact VX az
  have M:¬v.op=1:=bg
  have U:¬v.op=2:=bg
  have c3:¬v.op=3:=bg
  rw[if_neg M,if_neg U,if_neg c3]at J;refine aD (λH=>?_) (λH=>aD (λc5=>?_) (λc5=>?_))
  .have H:v.op=4:=bg
   rw[if_pos H]at J;refine⟨l,r,v.on,A,B,on,rfl,u,j,xo,aC,aC,λz I=>⟨(l,r,z),⟨u,j,λe=>?_,λe=>?_⟩,MT⟩⟩
   .grind
   grind
  .have H:¬v.op=4:=bg
   have c5:v.op=5:=bg
   rw[if_neg H,if_pos c5]at J;refine⟨l,r,v.on,A,B,on,rfl,u,j,xo,aC,aC,λz I=>⟨(l,r,z),⟨u,j,λe=>?_,λe=>?_⟩,MT⟩⟩
   .grind
   grind
  have H:¬v.op=4:=bg
  have c5:¬v.op=5:=bg
  rw[if_neg H,if_neg c5]at J;simp only[if_neg H]
  have f:¬v.op=9->¬v.op=10->∀z:Bool,(z=true↔A=B)->∃x:Sl×Sl×Bool,(Ints h x.1 A/\Ints h x.2.1 B/\(x.2.2=true->R=nF A)/\(x.2.2=false->R=eF 120))/\x=(l,r,z):=λn9 a2 z I=>by
   grind
  have V:¬v.op=9->¬v.op=10->∃(s:Sl)(t:Sl)(a:cq)(b:cq),[qW l,qW r]=[qW s,qW t]/\Ints h s a/\Ints h t b/\∀z:Bool,(z=true↔a=b)->∃x:Sl×Sl×Bool,(Ints h x.1 A/\Ints h x.2.1 B/\(x.2.2=true->R=nF A)/\(x.2.2=false->R=eF 120))/\x=(l,r,z):=λn9 a2=>⟨l,r,A,B,rfl,u,j,f n9 a2⟩
  refine aD (λc6=>?_) (λc6=>aD (λc7=>?_) (λc7=>aD (λc8=>?_) (λc8=>?_)))
  .have c6:v.op=6:=bg
   refine⟨l,r,A,B,rfl,u,j,λz I=>?_⟩;obtain⟨_,g,rfl⟩:=f aC aC z I;exact⟨(l,r,z),g,MT⟩
  .have c7:v.op=7:=bg
   refine⟨l,r,A,B,rfl,u,j,λz I=>?_⟩;obtain⟨_,g,rfl⟩:=f aC aC z I;exact⟨(l,r,z),g,MT⟩
  .have c8:v.op=8:=bg
   refine⟨l,r,A,B,rfl,u,j,λz I=>?_⟩;obtain⟨_,g,rfl⟩:=f aC aC z I;exact⟨(l,r,z),g,MT⟩
  clear f V good;refine aD (λW=>?_) (λW=>aD (λO=>?_) (λO=>?_))
  .have W:v.op=9:=bg
   rw[if_pos W]at J;refine⟨l,v,A,_,rfl,u,ex,aC,λz I=>⟨(l,r,z),⟨u,j,λe=>L bg,λe=>D bg⟩,MT⟩⟩
  .have W:¬v.op=9:=bg
   have O:v.op=10:=bg
   rw[if_neg W,if_pos O]at J;refine⟨l,r,A,B,rfl,u,j,λy hy=>aD (λy1=>⟨l,v,A,_,rfl,u,ex,aC,λz I=>⟨(l,r,z),⟨u,j,λe=>L bg,λe=>D bg⟩,MT⟩⟩) (λy1=>⟨(l,r,false),⟨u,j,(λe=>(by cases e)),λe=>D bg⟩,MT⟩)⟩
  .exfalso;have c6:¬v.op=6:=bg
   have c7:¬v.op=7:=bg
   have c8:¬v.op=8:=bg
   have W:¬v.op=9:=bg
   have O:¬v.op=10:=bg
   refine P ?_;unfold arity
   grind
 clear good u j l r;rintro⟨l,r,b⟩ ⟨u,j,g1,g2⟩;dsimp only at g1 g2⊢
 refine aD (λC=>F.err (g2 bg) az (.refl _)) (λC=>?_);have g:=g1 bg;refine aD (λH=>λQ h' E a3=>?_) (λH=>⟨l,A,rfl,u,λs' h' E S=>?_⟩)
 .rw[if_pos bg]at g;refine⟨Q,[A,B],rfl,⟨⟨[l,r],a3,rfl,λi k e=>?_⟩,ay⟩,ay,λk hk=>?_,λa9 h2 a6 S=>F.ok g (E.trans a6) bg⟩
  .match i,e with
   |0,e=>simp at e;subst e;exact⟨l,rfl,u.mono E⟩
   |1,e=>simp at e;subst e;exact⟨r,rfl,j.mono E⟩
   |i+2,e=>simp at e
  .rcases mem_cons.1 hk with rfl|hk
   .exact Z
   grind
 .rw[if_neg bg]at g;exact F.ok g E S
theorem baQ:cm 89 Sv:=by
 refine iU func89 ?_;rintro f m h K ⟨sc,e,v,s,u,ks,t,rfl,g,j,x,n,c,d,o⟩;refine⟨clQ sc e v m h,rfl,aE arQ (aE aqJ (aE aqZ (aE Fo (aE Ka (aE aqQ (aE apJ (aE GU (aE apZ (aE RM (aE M9 aH)))))))))),Rp sc e v m h K,ax,?_⟩;exact cSZ g j x n c d o
noncomputable def Di(s:jP):List cq->dg->List cq×Int
 |ks,[]=>(ks,0)
 |ks,t::ts=>if(DS s ks t).2=0 then Di s (ks++[(DS s ks t).1]) ts else(ks,(DS s ks t).2)
noncomputable def jE(s:jP)(ts:dg)(rs:cq):=
 if eK s≠0 then eK s else if 1024<ts.length\/32<rs.length then 2 else if(Di s [] ts).2≠0 then(Di s [] ts).2 else if rs.all (λr=>decide (0<=r)&&decide (r<ts.length))=true then 0 else 120
structure rU(h:PH)(p r:Sl)(ts:dg)(rs:cq):Prop where
 steps:∃vs,dD h p 22 (vs.map xC.enc)/\Steps h vs ts
 roots:Ints h r rs
 len:ts.length<=1000000000
def Sh:Vc.Spec:=λc m h K=>∃sc p r s ts rs,c=[aS sc,aPl p r]/\iK h s sc/\rU h p r ts rs/\∀d,K (.tup [cS d,cI (jE s ts rs)]) m h
noncomputable def crZ(sc:cA)(p r:Sl):=
 rI [(73,Df),(89,Sv)] [(8,{A:=Nat×Sl×MH×PH,st:=λ⟨i,c,m,h⟩=>bZ 76 78 [(2,.at (.ptr 2 0)),(3,.at (.ptr 3 0)),(7,sv c),(34,sv p),(35,iv p.len),(36,iv i)] [(2,.cells 27 (sc.enc.map .val)),(3,.cells 45 [.val (.slice p.a p.len p.cap),.val (.slice r.a r.len r.cap)])] m h}),
  (18,{A:=Nat×Sl×MH×PH,st:=λ⟨i,c,m,h⟩=>bZ 76 78 [(3,.at (.ptr 3 0)),(7,sv c),(59,sv r),(60,iv r.len),(61,iv i)] [(3,.cells 45 [.val (.slice p.a p.len p.cap),.val (.slice r.a r.len r.cap)])] m h})] [] [] [1108,2108] [] false
abbrev LC(a:(Nat×Sl×MH×PH->Prop)->(Nat×Sl×MH×PH)->Prop)(b:(Nat×Sl×MH×PH->Prop)->(Nat×Sl×MH×PH->Nat)->(Nat×Sl×MH×PH)->Prop):=∃(x:Nat×Sl×MH×PH->Prop)(d:Nat×Sl×MH×PH->Nat),(∃(c:Nat×Sl×MH×PH),a x c)/\∀(c:Nat×Sl×MH×PH),b x d c
noncomputable abbrev kR(a:Nat×Sl×MH×PH):=a.2.1
noncomputable abbrev jX(a:Nat×Sl×MH×PH):=a.2.2
noncomputable abbrev qR a:=(jX a).1
noncomputable abbrev qS a:=(jX a).2
attribute [push_cast] LC kR jX qR qS
def Rw sc p r m h K:=
  Lg sc h (λs=>qB (eK s !=0) (cC K (eK s) m h) (aG p) 1024 (cC K 2 m h) (fZ (aG r) 32 (cC K 2 m h) (aA (cM 0) (cM (aG p)) (aA (Ah p 24) (Af (aG p)) (jY (λz A=>sL m A h z 36 1 []->LC (λI x=>aA (I x) iZ (aA (eP 3) (aZ z (kR x)) (aA (aJ p) (bJ p) (aA (bE x.1) (cL sc) (aI (eQ (oQ 45 (oT (BY p) (BY r)))) (bW A (jX x)) (eH h (jX x)) True))))) (λI B x=>I x->bA (↑x.1:Int) (aG p) (bK (λb o=>aI (aW p.a b o) (0<=(↑x.1:Int)) ((↑x.1:Int)<aG p) (∃(y:xC),aL (qR x) (qS x) b (o+bM x.1 22) y.enc/\EL (λC k=>∃(v:xC)(j:jP)(D:cu)(n:List cq)(t:Step),aA (cE (cN sc) (gT (kR x) (tO y))=cE (cN C) (gT k (tO v)))
 (iK (qS x) j C) (aA (oE j) (u0 (qS x) t v) (aI (cW (qR x) k 36 1 (iC D)) (Slices (qS x) D n) (∀(E:cq),List.Mem E n->E.length<=12) (∀(g:cq×Int),fin g=DS j n t->∀(u:Sl)(e:PH),bR (qS x) e (Ints e u g.1) (qB (g.2 !=0) (cC K g.2 (qR x) e) (aG u) 12 (cC K 2 (qR x) e) (∃(c:List cr),aI (cW (qR x) (dO (kR x)) 36 1 c) (kP c) (dR c) (jY (λF f=>gK (qR x) f (dO (kR x)) F 36 1 (dN c (aM u))->∃(d:Nat×Sl×MH×PH),aA (I d) (B d<B x) (aA iZ jU (aA (aZ F (kR d)) (aJ p) (aA (bJ p) (gX (bH x.1 1)=bP d.1) (aA (cL sc) (eQ (oQ 45 (oT (BY p) (BY r)))) (aA (bW f (jX d)) (eH e (jX d)) True))))))))))))))))
 (LC (λI1 c=>aA (I1 c) jU (aA (aZ (kR x) (kR c)) (aJ r) (aA (bJ r) (bE c.1) (aA (eQ (oQ 45 (oT (BY p) (BY r)))) (fH (jX x) (jX c)) (lF (dC (jX x) (jX c))))))) (λI1 f c=>I1 c->bA (↑c.1:Int) (aG r) (bK (λb o=>aI (aW r.a b o) (0<=(↑c.1:Int)) ((↑c.1:Int)<aG r) (∃(y:Int),aL (qR c) (qS c) b (o+bM c.1 1) (bC y)/\bA y 0 (cC K 120 (qR c) (qS c)) (iG y (aG p) (cC K 120 (qR c) (qS c)) (∃(d:Nat×Sl×MH×PH),aA (I1 d) (f d<f c) (aA jU (aZ (kR c) (kR d)) (aA (aJ r) (bJ r) (aA (gX (bH c.1 1)=bP d.1) (eQ (oQ 45 (oT (BY p) (BY r)))) (aA (fH (jX c) (jX d)) (dC (jX c) (jX d)) True))))))))) (lO K (kR c) 0 (qR
 c) (qS c)))))))))))
theorem cXX(h:eK s=0):oE s:=λt c=>by
 obtain⟨i,d⟩:=mem_iff_getElem?.1 c;have e:EV s:=Classical.byContradiction λf=>by rw[yE f]at h;cases h
 exact(e.2 i t d).1
structure btZ(m0 m:MH)(h:PH)(kk:Sl)(ks:List cq):Prop where
 sub:Sub m0 m
 fresh:∀b i,kk.a=some ⟨b,i,none⟩->m0 b=none
 ex:∃ss,cW m kk 36 1 (ss.map eS)/\Slices h ss ks
 le12:∀k∈ks,k.length<=12
theorem btZ.new{s}(x:sL m m' h s 36 1 []):btZ m m' h s []:=by
 refine⟨λb o e=>?_,λb i e=>(x.fresh b i e).m_,⟨[],x.row,rfl,λj s k e=>by simp at e⟩,λk c=>by simp at c⟩;rw[x.other b (λi d=>by have:=(x.fresh b i d).m_;grind)];exact e
theorem btZ.grown{m0 kk sl k}(r:btZ m0 m h kk ks)(le:PH.le h h')(u:Ints h' sl k)(C:k.length<=12):
 ∃xs,cW m ⟨kk.a,kk.len,kk.cap⟩ 36 1 xs/\xs.length=ks.length/\∀d m',gK m m' ⟨kk.a,kk.len,kk.cap⟩ d 36 1 (xs++[[.slice sl.a sl.len sl.cap]])->btZ m0 m' h' d (ks++[k]):=by
 obtain⟨y,z,f⟩:=r.ex;refine⟨_,z,by rw[length_map,f.1],λd m' g=>⟨λb o e=>g.other b o (r.sub b o e) (λi c=>?_),λb i e=>?_,⟨y++[sl],?_,(f.mono le).snoc u⟩,λx A=>?_⟩⟩
 .rw[r.fresh b i c]at e;cases e
 .rcases g.fresh b i e with c|⟨j,c⟩
  .cases B:m0 b with
   |none=>rfl
   |some o=>rw[r.sub b o B]at c;cases c
  .exact r.fresh b j c
 .rw[bu];exact g.row
 .rcases mem_append.1 A with n|n
  .exact r.le12 x n
  grind
theorem Steps.at'{p vs}(r:dD h p 22 (vs.map xC.enc))(s:Steps h vs ts)(c:ts[i]? =some t):∃b o v,p.a=some ⟨b,o,none⟩/\cR h b (o+i*22) (xC.enc v)/\u0 h t v:=by
 obtain⟨v,d,f⟩:=s.2 i t c;obtain⟨b,o,e,k⟩:=r.get (i:=i) (e:=xC.enc v) (by simp[d])
 grind
theorem Steps.slen'{p vs}(r:dD h p 22 (vs.map xC.enc))(s:Steps h vs ts):p.len=ts.length:=by
 have:=r.len;simp at this;rw[this,s.1]
theorem rU.at{p}(x:rU h p r ts rs)(c:ts[i]? =some t):∃b o v,p.a=some ⟨b,o,none⟩/\cR h b (o+i*22) (xC.enc v)/\u0 h t v:=by
 obtain⟨f,d,e⟩:=x.steps;exact Steps.at' d e c
theorem rU.slen{p}(x:rU h p r ts rs):p.len=ts.length/\p.len<=p.cap:=by
 obtain⟨e,c,d⟩:=x.steps;exact⟨Steps.slen' c d,c.cap⟩
theorem rU.mono{p}(x:rU h p r ts rs)(le:PH.le h h'):rU h' p r ts rs:=by
 obtain⟨c,d,f,g⟩:=x.steps;exact⟨⟨c,d.mono le,f,λi t e=>let⟨v,e1,e2⟩:=g i t e;⟨v,e1,e2.mono le⟩⟩,x.roots.mono le,x.len⟩
theorem a8Q r:(r.2≠0/\fin r=eF r.2)\/(r.2=0/\12<r.1.length/\fin r=eF 2)\/(r.2=0/\r.1.length<=12/\fin r=(r.1,0)):=by
 unfold fin;by_cases h:r.2=0
 .rw[if_pos h];unfold nF;by_cases c:r.1.length<=12
  .grind
  .rw[if_neg c];exact .inr (.inl ⟨h,aC,rfl⟩)
 grind
theorem Jv{s ts rs}(c:eK s=0)(d:¬(1024<ts.length\/32<rs.length)):jE s ts rs=if(Di s [] ts).2≠0 then(Di s [] ts).2 else if rs.all (λr=>decide (0<=r)&&decide (r<ts.length))=true then 0 else 120:=by
 unfold jE;omega
theorem Of(d:ts[i]? =some t):Di s ks (ts.drop i)=if(DS s ks t).2=0 then Di s (ks++[(DS s ks t).1]) (ts.drop (i+1))else(ks,(DS s ks t).2):=by
 have c:=(List.getElem?_eq_some_iff.1 d)
 obtain⟨c,e⟩:=c;rw[drop_eq_getElem_cons c,e];rfl
theorem bfX:cm 48 Sh:=by
 refine Fh func48 ?_;rintro Y m h K ⟨sc,p,r,s,ts,rs,rfl,R,x,hK⟩;refine⟨crZ sc p r,rfl,aE Na (aE baQ aH),Rw sc p r m h (lW h K),ax,?_⟩;show Rw sc p r m h (lW h K);dsimp only[Rw,push_cast];have Z:=x.slen.1;have rl:=x.roots.slen;have S:=x.len;have T:=x.roots.len;have done:∀{y:MH}{n:PH}{e:Int}{kk:Sl},Sub m y->PH.le h n->jE s ts rs=e->lW h K (.tup [cS kk,cI e]) y n:=fun{y n e kk} C J U=>.out C J bg;refine⟨sc,s,rfl,R,aD (λC=>?_) (λC=>?_)⟩
 .have C:eK s≠0:=bg
  exact done (kk:=⟨none,0,0⟩) (Sub.refl m) (.refl _) (by unfold jE;omega)
 have C:eK s=0:=bg
 refine aF (λJ=>?_) (λJ=>aF (λU=>?_) (λU=>⟨aC,aC,aC,aC,λk0 m1 L=>?_⟩))
 .exact done (kk:=⟨none,0,0⟩) (Sub.refl m) (.refl _) (by unfold jE;omega)
 .exact done (kk:=⟨none,0,0⟩) (Sub.refl m) (.refl _) (by unfold jE;omega)
 have z:=Jv (s:=s) (ts:=ts) (rs:=rs) C aC;refine⟨λ⟨i,kk,y,n⟩=>i<=ts.length/\PH.le h n/\∃ks,btZ m y n kk ks/\ks.length=i/\Di s ks (ts.drop i)=Di s [] ts,λ⟨i,_⟩=>ts.length-i,⟨(0,k0,m1,h),⟨aC,.refl _,[],.new L,rfl,rfl⟩,MT⟩,?_⟩;rintro⟨i,kk,y,n⟩ ⟨hi,d,ks,f,M,c⟩;dsimp only;refine aF (λu=>?_) (λO=>?_)
 .obtain⟨t,V⟩:=fF Z u;obtain⟨b,o,v,e,rd,rv⟩:=(x.mono d).at V;obtain⟨ss,hm,P⟩:=f.ex;rw[Of V]at c;refine⟨b,o,e,aC,u,v,.imm rd,sc,kk,v,s,ss,ks,t,rfl,R.mono d,cXX C,rv,hm,P,f.le12,λq D sl h' A G=>?_⟩;have a':=G.slen;rcases a8Q q with⟨E,H⟩|⟨E,H,I⟩|⟨E,H,I⟩
  .rw[D]at H;rw[H,if_neg (by simpa[eF]using E)]at c;refine aD (λ_=>done (kk:=⟨none,0,0⟩) f.sub (d.trans A) ?_) (λF=>?_)
   .rw[z, <-c,if_pos (by simpa[eF]using E)];rfl
   grind
  .rw[D]at I;rw[I,if_neg (by simp[eF])]at c;refine aD (λF=>absurd E bg) (λ_=>aF (λ_=>done (kk:=⟨none,0,0⟩) f.sub (d.trans A) ?_) (λF=>by omega));rw[z, <-c,if_pos (by simp[eF])];rfl
  .rw[D]at I;rw[I,if_pos rfl]at c;refine aD (λF=>absurd E bg) (λ_=>aF (λF=>by omega) (λ_=>?_));obtain⟨xs,Q,a0,hg⟩:=f.grown A G H;exact⟨xs,Q,aC,aC,λW m' g=>⟨(i+1,W,m',h'),⟨aC,d.trans A,ks++[q.1],hg W m' g,by simp[M],c⟩,aC,MT⟩⟩
 have X:ts.drop i=[]:=drop_of_length_le aC;rw[X]at c;have h0:(Di s [] ts).2=0:=by rw[<-c];rfl
 rw[h0,if_neg az]at z;clear c X;refine⟨λ⟨j,k',m',h'⟩=>j<=rs.length/\k'=kk/\m'=y/\h'=n/\(rs.take j).all (λr=>decide (0<=r)&&decide (r<ts.length))=true,λ⟨j,_⟩=>rs.length-j,⟨(0,kk,y,n),⟨aC,rfl,rfl,rfl,ay⟩,MT⟩,?_⟩;rintro⟨j,kk,y,n⟩ ⟨hj,rfl,rfl,rfl,B⟩;dsimp only;refine aF (λu=>?_) (λO=>?_)
 .obtain⟨q,D⟩:=fF rl u;obtain⟨b,o,e,rd⟩:=(x.roots.mono d).at' D
  have bad:¬(0<=q/\q<ts.length)->jE s ts rs=120:=λhn=>by
   rw[z,if_neg];intro e2;have:=all_eq_true.1 e2 q (bo D)
   grind
  refine⟨b,o,e,aC,u,q,.imm rd,aF (λF=>done (kk:=⟨none,0,0⟩) f.sub d (bad aC)) (λF=>aF (λh5=>done (kk:=⟨none,0,0⟩) f.sub d (bad aC)) (λh5=>⟨(j+1,kk,y,n),⟨aC,rfl,rfl,rfl,?_⟩,aC,MT⟩))⟩;rw[BX D,B,Bool.true_and,bz]
  grind
 .rw[bt aC]at B;exact done f.sub d bg
def BW(t:Step):=[t.left,t.right].take (arity t.op).toNat
def aFX:Query:=.mk 0 0 fW [] [] [] [] 0 []
def C0:Nat->dg->Nat->Query
 |0,_,_=>aFX
 |n+1,ts,i=>match ts[i]? with
  |none=>aFX
  |some t=>.mk t.op t.table t.wher t.columns t.on t.group t.order t.limit ((BW t).map λa=>C0 n ts a.toNat)
def aU ts i:=C0 (i+1) ts i
def C1(ts:dg):=∀(i:Nat) t,ts[i]? =some t->0<=arity t.op/\∀a∈BW t,0<=a/\a<i
theorem L6{ts:dg}(ok:C1 ts):∀(n c i:Nat),i<n->i<c->C0 n ts i=C0 c ts i
 |0,_,_,h,_=>by omega
 |_+1,0,_,_,h=>by omega
 |n+1,c+1,i,f,g=>by
  simp only[C0];cases e:ts[i]? with
  |none=>rfl
  |some t=>
   have:(BW t).map (λa=>C0 n ts a.toNat)=(BW t).map (λa=>C0 c ts a.toNat):=map_congr_left λa d=>by
    have:=(ok i t e).2 a d;exact L6 ok n c a.toNat aC aC
   grind
def DC ts t:=(BW t).map λa=>aU ts a.toNat
theorem rH(ok:C1 ts)(c:ts[i]? =some t):aU ts i= .mk t.op t.table t.wher t.columns t.on t.group t.order t.limit (DC ts t):=by
 unfold aU;simp only[C0,c]
 have:(BW t).map (λa=>C0 i ts a.toNat)=DC ts t:=map_congr_left λa d=>by
  have:=(ok i t c).2 a d;exact L6 ok _ _ _ aC aC
 rw[this]
theorem cCJ{op w on args}(j:(aK s [] (.mk op ta w co on gr od li args)).2=0)(f:gP 4 (.mk op ta w co on gr od li args)<=8000000){a}(d:a∈args):gP 4 a<=8000000:=by
 obtain⟨n,g,o,_⟩:=yM (Prod.ext rfl j);have u:=Mn (c:=4) aC g a d;rw[gP]at f;split at f
 .rename_i e;subst e;rw[MG g o]at d;cases d
 grind
def qJ(i:Nat)(t:Step):=ET t.left (decide (arity t.op>0)) i=true/\ET t.right (decide (arity t.op>1)) i=true
theorem L1(g:0<=arity t.op)(h:qJ i t):∀a∈BW t,0<=a/\a<i:=by
 intro a c;have j:=Fv t.op;obtain⟨e,f⟩:=h;unfold BW at c;obtain⟨n,d⟩:∃n:Nat,arity t.op=n:=⟨(arity t.op).toNat,aC⟩
 rw[d,Int.toNat_natCast]at c;unfold ET at e f
 match n,d,c with
 |0,_,c=>simp at c
 |1,d,c=>
  grind
 |2,d,c=>
  grind
 |n+3,d,_=>omega
theorem fL{c}(g:ts<+:c)(ok:C1 c):∀i,i<ts.length->aU c i=aU ts i:=by
 have d:C1 ts:=λi t e=>ok i t (QB g e);intro i
 induction i using Nat.strongRecOn with
 |_ i o=>
  intro j;have f:ts[i]? =some ts[i]:=bn j;rw[rH d f,rH ok (QB g f)]
  have:DC c ts[i]=DC ts ts[i]:=map_congr_left λa n=>by
   have:=(d i _ f).2 a n
   grind
  rw[this]
theorem bEJ(h:qJ i t):(arity t.op=0->t.left=0)/\(arity t.op<=1->t.right=0):=by
 obtain⟨c,d⟩:=h;unfold ET at c d
 grind
theorem JV s ps op ta w co on gr od li args a b:eT s ps (.mk op ta w co on gr od li args) a b=eT s ps (.mk op ta w co on gr od li []) a b:=by
 unfold eT;rfl
theorem HH{op w on args}(h:(aK s [] (.mk op ta w co on gr od li args)).2=0):
 aK s [] (.mk op ta w co on gr od li args)=eT s [] (.mk op ta w co on gr od li []) ((args.map λq=>(aK s [] q).1).getD 0 []) ((args.map λq=>(aK s [] q).1).getD 1 []):=by
 obtain⟨c,f,_⟩:=lU h
 have e:fQ s [] args=(args.map (λq=>(aK s [] q).1),0):=vE (by
  rw[map_map];exact map_congr_left λq d=>Prod.ext rfl (c q d))
 simp only[aK,e,if_true];rw[if_pos bg,JV]
theorem R5{n:Nat}{a:Int}(c:0<=a)(d:a<n):DM ((List.range n).map λj=>(aK s [] (aU ts j)).1) a true=(aK s [] (aU ts a.toNat)).1:=by
 unfold DM
 grind
def c0X(c d cb:Nat):Value:=.func (.func 38) #[] #[.pointer (some ⟨c,0,none⟩),.pointer (some ⟨d,0,none⟩),.pointer (some ⟨cb,0,none⟩)]
structure cDQ(m0:MH)(h:PH)(s:jP)(vb sb cb:Nat):Prop where
 v_:m0 vb=some (.cells #[c0X vb sb cb] 94 (0,0))
 s_:∃sc,iK h s sc/\m0 sb=some (.cells ⟨sc.enc⟩ 27 (0,0))
 tab:eD m0
 small:oE s
def b7J(N:Nat):Vc.Spec:=λc m h K=>∃v q s e f cb g d ts rs,c=[aQ v,cP e,cP f,cP cb]/\dK h q v/\SizeOf.sizeOf q<N/\(aK s [] q).2=0/\DF q/\cDQ d h s e f cb/\gW d m h cb g ts rs/\ts.length+2*oD q<=90000/\
 ∀j m' h',PH.le h h'->pJ h' (fX s q ts).1 j->gW d m' h' cb g (fX s q ts).2 rs->K (aPN j) m' h'
noncomputable def ctQ(N:Nat)(v:QV)(c d cb:Nat):=
 rI [(38,b7J N),(39,b1Z),(40,Va),(41,aVZ),(42,b5Q)] [(4,{A:=Nat×List iN×cq×cq×MH×PH,st:=λ⟨i,e,rs,f,m,h⟩=>bZ 63 67 [(1,pv c),(2,pv d),(3,pv cb),(4,.at (.ptr 4 0)),(5,.at (.ptr 5 0)),(6,.at (.ptr 6 0)),(7,.at (.lst 34)),(8,.at (.lst 39)),(15,sv v.args),(16,iv v.args.len),(17,iv i)] [(4,.cells 41 (v.enc.map .val)),(5,.cells 97 (zQ++[Km,kF 0,kF 0,kF 0])),(6,.cells 97 (v.enc.map .val++[.lst 28,kF 0,kF 0,kF 0])),(28,.lst 97 25 (e.map iN.enc)),(34,.lst 3 1 (rs.map eI)),(39,.lst 3 1 (f.map eI))] m h})] [] [] [510097,0] [] false
noncomputable abbrev Gu(a:Nat×List iN×cq×cq×MH×PH):=List.map iN.enc a.2.1
noncomputable abbrev tL(a:Nat×List iN×cq×cq×MH×PH):=a.2.2.2.2
abbrev CJ(a b:Nat)(c:dl)(d:MH)(e:PH)(g:cr->MH->PH->Prop):=FAt Proofs.Tryz.prog a b c d e (fun(x:cr)=>fun(f:MH)=>fun(j:PH)=>g x f j)
noncomputable abbrev II(a:Nat×List iN×cq×cq×MH×PH):=hU a.2.2.2.1
attribute [push_cast] Gu tL CJ II
def Ry(N:Nat)(v:QV)(D E cb:Nat)(m:MH)(h:PH)(K:cn):=
  ∃(I:Nat×List iN×cq×cq×MH×PH->Prop)(H:Nat×List iN×cq×cq×MH×PH->Nat),(∃(x:Nat×List iN×cq×cq×MH×PH),aA (I x) (cT D) (aA (cT E) (cT cb) (aA (eP 4) eM (aA (eP 6) (eL 34) (aA (eL 39) (aJ v.args) (aA (wF v) (bE x.1) (aA (eO v) (eQ (oQ 97 (gL iE iE (gL (kF 0) iE (PC 0 (gL Km Km (gL (kF 0) iE (DX iE)))))))) (aA (eQ (oQ 97 (gL (kF v.op) (zE v) (B9 v v.on (EA v) (EB v) (gL (kF v.limit) (BY v.args) (gL (At.lst 28) iE (oT iE iE))))))) (vD 97 25 (Gu x)) (aA (tG x.2.2.1) (tG x.2.2.2.1) (aA (bW m (tL x)) (eH h (tL x)) True))))))))))/\∀(x:Nat×List iN×cq×cq×MH×PH),I x->bA (↑x.1:Int) (aG v.args) (bK (λb o=>aI
 (aW v.args.a b o) (0<=(↑x.1:Int)) ((↑x.1:Int)<aG v.args) (∃(y:QV),aL (tL x).1 (tL x).2 b (o+bM x.1 21) y.enc/\∃(f:Nat×Nat×Nat),aL (tL x).1 (tL x).2 D 0 (QZ 38 (Array.mk (aX (SS f.1 0) (SS f.2.1 0) (z8 f.2.2))))/\∃(R:iN->MH->PH->Prop),CJ 38 97 (cE y.enc (dA f.1 (gC (jO f.2.1) (jO f.2.2)))) (tL x).1 (tL x).2 (λl n d=>∃(u:iN),l=u.enc/\R u n d)/\∀(u:iN),eX (λn d=>R u n d->aA (jA (j4 (Gu x) 1) 328) (dR (Gu x)) (aA (A4 (hU x.2.2.1)) (dR (hU x.2.2.1)) (aA (jA (j4 (II x) 1) 8) (dR (II x)) (∃(j:Nat×List iN×cq×cq×MH×PH),aA (I j) (H j<H x) (aA (cT D) (cT E) (aA (cT cb) (eP 4) (aA eM (eP 6) (aA (eL 34) (eL 39)
 (aA (aJ v.args) (wF v) (aA (gX (bH x.1 1)=bP j.1) (eO v) (aA (eQ (oQ 97 (gL iE iE (gL (kF 0) iE (PC 0 (gL Km Km (gL (kF 0) iE (DX iE)))))))) (eQ (oQ 97 (gL (kF v.op) (zE v) (B9 v v.on (EA v) (EB v) (gL (kF v.limit) (BY v.args) (gL (At.lst 28) iE (oT iE iE))))))) (aA (bV 97 25 (dN (Gu x) u.enc)=bV 97 25 (Gu j)) (lS (dN (hU x.2.2.1) (bC u.rows)) j.2.2.1) (aA (lS (dN (hU x.2.2.2.1) (bC u.env)) j.2.2.2.1) (bW n (tL j)) (lF (eH d (tL j))))))))))))))))))) (∃(y:cA),aL (tL x).1 (tL x).2 E 0 (cN y)/\cF (tL x).2 25 (Gu x) (λs d=>∃(J:cA)(F:iN)(A:jP),D7 (λo t w c o1 g o2 l a=>∃(p:List PN)(L:List iN),aA (kH (cN y)
 (vS v v (vZ v (aX (dX v.on) (wY v) (aX (wZ v) (fV v.limit) (aX (wX v) (dX s) (aX bI bI (oW bI)))))))=kH (cN J) F.enc) (iK d A J) (aA (oE A) (dK d (Query.mk o t w c o1 g o2 l a) F.query) (aA (dD d F.args 25 (List.map iN.enc L)) (mF d p L) (aA ((↑p.length:Int)=arity o) (cM (arity o)) ((∀(G:PN),List.Mem G p->cM G.width/\G.width<=1000)/\cF d 1 (hU x.2.2.1) (λs3 B=>∃(M:QV)(O:Sl),D7 (λP Q S T U V W X a1=>∃(k:dj),aI (lL v s3=lL M O) (dK B (Query.mk P Q S T U V W X a1) M) (Ints B O (List.map (fun(z:Nat)=>(↑z:Int)) k)) (∀(Y:xC),u0 B (Step.mk P Q S T U V W X (↑(List.getD k 0 0):Int) (↑(List.getD k 1 0):Int)) Y->Gb (gC (jO cb) (kE Y.enc)) B (tL x).1
 (λZ t3 n h3=>∃(o6:Int),iF (sB v.op o6) (G5 o6) (pP 0 (II x) (λe=>mQ (II x) 0 e/\∃(f:Int),uK 1 e (bC f)/\K (kE (vS v v (vZ v (aX (dX v.on) (wY v) (aX (wZ v) (fV v.limit) (aX (wX v) (dX s) (aX (fV (↑(bT Z t3).2:Int)) (fV f) (bC (FC A o t c p))))))))) n h3)) (cF h3 1 (II x) (λs5 C=>∃(v5:QV)(s6:Sl),D7 (λo7 t4 w2 c2 o8 g2 o9 l2 a2=>∃(z:dj),aI (lL v s5=lL v5 s6) (dK C (Query.mk o7 t4 w2 c2 o8 g2 o9 l2 a2) v5) (Ints C s6 (List.map (fun(k2:Nat)=>(↑k2:Int)) z)) (∀(v6:xC),u0 C (Step.mk o7 t4 w2 c2 o8 g2 o9 l2 (↑(List.getD z 0 0):Int) (↑(List.getD z 1 0):Int)) v6->Gb (gC (jO cb) (kE v6.enc)) C n (λt5 t6 m3 h5=>K (kE (vS v v (vZ v (aX (dX v.on) (wY v) (aX
 (wZ v) (fV v.limit) (aX (wX v) (dX s) (aX (fV (↑(bT Z t3).2:Int)) (rB (bT t5 t6).2) (bC (FC A o t c p))))))))) m3 h5))))))))))))))))
theorem Ia s op ta w co on gr od li args ts:
 fX s (.mk op ta w co on gr od li args) ts=axZ s op ta w co on gr od li args (eJ s args ts).1 (eJ s args ts).2:=by rw[fX]
theorem Ko(s:jP)(q:Query):∀(l:dc)(ts:dg),eJ s (l++[q]) ts=((eJ s l ts).1++[(fX s q (eJ s l ts).2).1],(fX s q (eJ s l ts).2).2)
 |[],ts=>by simp[eJ]
 |p::l,ts=>by
  rw[cons_append,eJ,Ko s q l,eJ];rfl
theorem N6(s:jP):∀(l:dc)(ts:dg),(eJ s l ts).1.length=l.length
 |[],ts=>by simp[eJ]
 |p::l,ts=>by rw[eJ,ci,ci,N6 s l]
theorem bYQ s op ta w co on gr od li args ps ts:(axZ s op ta w co on gr od li args ps ts).2.length<=ts.length+2:=by
 unfold axZ;have c:=dW (Aw op ta w co on gr od li (ps.map PN.rows)) ts;have d:=dW (Aw op ta w co on gr od li (ps.map PN.env)) (bT (Aw op ta w co on gr od li (ps.map PN.rows)) ts).1
 grind
mutual
theorem DQ(s:jP):∀(q:Query)(ts:dg),(fX s q ts).2.length<=ts.length+2*oD q
 |.mk op ta w co on gr od li args,ts=>by
  rw[Ia];have c:=bYQ s op ta w co on gr od li args (eJ s args ts).1 (eJ s args ts).2;have d:=yV s args ts;simp only[oD];omega
theorem yV(s:jP):∀(l:dc)(ts:dg),(eJ s l ts).2.length<=ts.length+2*lZ l
 |[],ts=>by simp[eJ]
 |q::l,ts=>by
  rw[eJ];have c:=DQ s q ts;have d:=yV s l (fX s q ts).2;simp only[lZ];omega
end
theorem tR(h:(nF l).2=0):(nF l).1=l:=by
 unfold nF at h⊢
 grind
theorem ZH{op w on args b ps}(h:(eT s [] (.mk op ta w co on gr od li args) a b).2=0)(o:op≠1->(ps.map PN.width).getD 0 0=(a.length:Int))(u:op=4->(ps.map PN.width).getD 1 0=(b.length:Int)):
 FC s op ta co ps=((eT s [] (.mk op ta w co on gr od li args) a b).1.length:Int):=by
 unfold FC;unfold eT at h⊢
 by_cases g:arity op<0\/¬cV (.mk op ta w co on gr od li args)
 .rw[if_pos g]at h;simp[eF]at h
 .rw[if_neg g]at h⊢
  dsimp only at h⊢
  by_cases d:op=1
  .simp only[if_pos d]at h⊢
   split
   .rename_i c;rw[if_pos c]at h;rw[tR h]
   .rename_i c;rw[if_neg c]at h;simp[eF]at h
  .have e:=o d;simp only[if_neg d]at h⊢
   by_cases j:op=2
   .subst j;simp only[if_true,show((2:Int)=3)=False by simp,show((2:Int)=4)=False by simp,if_false]at h⊢
    split
    .rename_i c;rw[if_pos c]at h;rw[tR h,e]
    .rename_i c;rw[if_neg c]at h;simp only[eF]at h;omega
   .simp only[if_neg j]at h⊢
    by_cases n:op=3
    .simp only[if_pos n]at h⊢
     split
     .rename_i c;rw[if_pos c]at h;rw[tR h];simp
     .rename_i c;rw[if_neg c]at h;simp[eF]at h
    .simp only[if_neg n]at h⊢
     by_cases f:op=4
     .simp only[if_pos f]at h⊢
      split
      .rename_i c;rw[if_pos c]at h;rw[tR h,e,u f];simp
      .rename_i c;rw[if_neg c]at h;simp[eF]at h
     .simp only[if_neg f]at h⊢
      rw[e]
      suffices x:∀R:cq×Int,(R=nF a\/R=eF 100)->R.2=0->(a.length:Int)=(R.1.length:Int)by
       grind
      rintro R (rfl|rfl) h
      .rw[tR h]
      .simp[eF]at h
mutual
theorem N7{s:jP}:∀(q:Query)(ts:dg),(aK s [] q).2=0->(fX s q ts).1.width=((aK s [] q).1.length:Int)
 |.mk op ta w co on gr od li args,ts,h=>by
  have c:=lU h;have f:=FD args ts c.1
  have e:(fX s (.mk op ta w co on gr od li args) ts).1.width=FC s op ta co (eJ s args ts).1:=by
   rw[Ia,axZ];dsimp only;split<;>rfl
  rw[e];have d:=HH h;rw[d]at h⊢
  refine ZH h (λg=>?_) (λj=>?_)
  .grind
  grind
theorem FD{s:jP}:∀(l:dc)(ts:dg),(∀q∈l,(aK s [] q).2=0)->(eJ s l ts).1.map PN.width=l.map λq=>((aK s [] q).1.length:Int)
 |[],ts,_=>by simp[eJ]
 |q::l,ts,h=>by
  rw[eJ,map_cons,map_cons,N7 q ts (h q ay),FD l _ (λp c=>h p (by simp[c]))]
end
theorem cUX{q S U D m0}(V:cm 38 (b7J N))(O:dK h q v)(hN:SizeOf.sizeOf q<N+1)(hk:(aK s [] q).2=0)(E:DF q)(F:cDQ m0 h s S U cb)(c:gW m0 m h cb D ts rs)(hl:ts.length+2*oD q<=90000)(Q:∀B m' h',PH.le h h'->pJ h' (fX s q ts).1 B->gW m0 m' h' cb D (fX s q ts).2 rs->K (aPN B) m' h'):Ry N v S U cb m h K:=by
 dsimp only[Ry,push_cast];have G:=@Dp q;obtain⟨op,ta,w,co,on,gr,od,li,args⟩:=q;simp only[Query.args]at G;have x:=O.parts;have a2:=x.args_.slen;obtain⟨W,b4,_⟩:=lU hk;rw[W8]at E;obtain⟨o,a3⟩:=E;have b3:=Fv op;rw[Ia]at Q;simp only[oD]at hl
 have a4:∀i,lZ (args.take i)<=lZ args:=λi=>by
  have key:∀(l:dc)(i:Nat),lZ (l.take i)<=lZ l:=by
   intro l
   induction l with
   |nil=>intro i;simp
   |cons a l ih=>
    intro i;cases i with
    |zero=>simp[lZ]
    |succ i=>have:=ih i;simp only[take_succ_cons,lZ];omega
  grind
 obtain⟨sc,X,Y⟩:=F.s_;refine⟨λ⟨i,H,rr,es,mx,Z⟩=>i<=args.length/\PH.le h Z/\mF Z (eJ s (args.take i) ts).1 H/\rr=(eJ s (args.take i) ts).1.map (λp=>(p.rows:Int))/\es=(eJ s (args.take i) ts).1.map (λp=>(p.env:Int))/\gW m0 mx Z cb D (eJ s (args.take i) ts).2 rs,λ⟨i,_,_,_,_,_⟩=>args.length-i,⟨(0,[],[],[],m,h),⟨aC,.refl _,by simp only[take_zero,eJ];rfl,rfl,rfl,by simpa[eJ]using c⟩,MT⟩,?_⟩;rintro⟨i,H,rr,es,mx,Z⟩ ⟨hi,g,n,rfl,rfl,cx⟩;dsimp only;have a5:=N6 s (args.take i) ts;have b5:(args.take i).length=i:=bf
 have b6:=n.length;refine aF (λa'=>?_) (λb7=>?_)
 .obtain⟨q,I⟩:=fF a2 a';have J:=bo I;obtain⟨b1,o1,u,e1,r1,a6⟩:=(x.args_.mono g).at I;have tk:args.take (i+1)=args.take i++[q]:=by rw[cd,I];rfl
  have vs:=Ko s q (args.take i) ts;have b8:=a4 (i+1)
  have b9:lZ (args.take (i+1))=lZ (args.take i)+oD q:=by
   rw[tk]
   have key:∀l:dc,lZ (l++[q])=lZ l+oD q:=by
    intro l
    induction l with
    |nil=>simp[lZ]
    |cons a l ih=>simp only[cons_append,lZ,ih];omega
   exact key _
  have a7:=yV s (args.take i) ts;have c0:=sizeOf_lt_of_mem J;have a8:SizeOf.sizeOf q<N:=bg
  refine⟨b1,o1,e1,aC,a',u,.imm r1,(S,U,cb),.of_m (cx.sub _ _ F.v_) rfl,λy my R=>PH.le Z R/\pJ R (fX s q (eJ s (args.take i) ts).2).1 y/\gW m0 my R cb D (fX s q (eJ s (args.take i) ts).2).2 rs,?_,λy my R⟨d,ry,cy⟩=>⟨bg,bg,bg,bg,bg,bg,(i+1,H++[y],(eJ s (args.take (i+1)) ts).1.map (λp=>(p.rows:Int)),(eJ s (args.take (i+1)) ts).1.map (λp=>(p.env:Int)),my,R),⟨aC,g.trans d,?_,rfl,rfl,?_⟩,aC,?_⟩⟩
  .have a0:AQ Tryz.prog 97=true:=ax
   refine Sound.fat (vs:=[.agg ⟨QV.enc u⟩,.pointer (some ⟨S,0,none⟩),.pointer (some ⟨U,0,none⟩),.pointer (some ⟨cb,0,none⟩)]) V ⟨u,q,s,S,U,cb,D,m0,_,rs,rfl,a6,a8,W q J,a3 q J,⟨F.v_,⟨sc,X.mono g,Y⟩,F.tab,F.small⟩,cx,aC,λB m' h' C rp c'=>⟨iN.enc B,?_,B,rfl,C,rp,c'⟩⟩;have e:Vc.valOf Tryz.prog 97 (iN.enc B)= .agg ⟨iN.enc B⟩:=by unfold Vc.valOf;rw[a0]
   rw[e];rfl
  .show mF R (eJ s (args.take (i+1)) ts).1 (H++[y]);rw[tk,vs];exact mF.snoc ry (mF.mono d n)
  .grind
  .have e1:=ry.rows_;have e2:=ry.env_;rw[tk,vs,e1,e2];simp only[bu,map_cons,map_nil];exact MT
 .have a9:args.take i=args:=bt aC;rw[a9]at n cx a5⊢
  have a7:=yV s args ts;have b':=FD args ts W;generalize hP:(eJ s args ts).1=P at*
  generalize hT:(eJ s args ts).2=T at*
  have eR:((P.map PN.rows).map fun(k:Nat)=>(k:Int)).map eI=(P.map λp=>(p.rows:Int)).map eI:=by simp[map_map,Function.comp_def]
  have eE:((P.map PN.env).map fun(k:Nat)=>(k:Int)).map eI=(P.map λp=>(p.env:Int)).map eI:=by simp[map_map,Function.comp_def]
  have kt:∀l r:Int,O0 ⟨op,ta,w,co,on,gr,od,li,l,r⟩:=λl r=>⟨o.wher,o.columns,o.on,o.group,o.order⟩
  refine⟨sc,.of_m (cx.sub _ _ Y) rfl,λs1 h1 d L=>⟨sc,⟨v,s1,0,0,0⟩,s,op,ta,w,co,on,gr,od,li,args,P,H,rfl,X.mono (g.trans d),F.small,O.mono (g.trans d),L,mF.mono d n,aC,aC,?_,λs2 h2 j c1=>⟨v,s2,op,ta,w,co,on,gr,od,li,args,P.map PN.rows,rfl,O.mono ((g.trans d).trans j),⟨bg,bf⟩,λB b0=>⟨B,_,m0,cb,D,T,rs,rfl,b0,kt _ _,cx.mono (d.trans j),F.tab,aC,λm3 h3 z c3=>⟨op,by rw[x.op_],?_⟩⟩⟩⟩⟩
  .intro p hp;have:p.width∈P.map PN.width:=mem_map.2 ⟨p,hp,rfl⟩;rw[b']at this;obtain⟨q,_,e⟩:=mem_map.1 this;have:=lV s [] q;omega
  .have ha:=dW (Aw op ta w co on gr od li (P.map PN.rows)) T;have c3:gW m0 m3 h3 cb D (bT (Aw op ta w co on gr od li (P.map PN.rows)) T).1 rs:=c3;have le:=((g.trans d).trans j).trans z;unfold axZ at Q;refine aD (λf=>?_) (λf s4 h4 A c2=>⟨v,s4,op,ta,w,co,on,gr,od,li,args,P.map PN.env,rfl,O.mono (le.trans A),⟨bg,bf⟩,λv2 b2=>⟨v2,_,m0,cb,D,_,rs,rfl,b2,kt _ _,c3.mono A,F.tab,aC,λm5 h5 M c5=>?_⟩⟩)
   .rw[if_pos f]at Q
    have a1:0<P.length:=by
     have:1<=arity op:=by
      unfold G5 at f;simp only[Bool.or_eq_true,beq_iff_eq]at f;rcases f with(rfl|rfl)|rfl<;>decide
     omega
    refine⟨aC,bg,eI (P[0].env:Int),by simp[a1],(P[0].env:Int),rfl,?_⟩;refine Q ⟨v,s1,_,_,_⟩ m3 h3 le ⟨O.mono le,rfl,?_,rfl,aC,H,L.mono (j.trans z),mF.mono ((d.trans j).trans z) n⟩ c3;simp[a1]
   .rw[if_neg (by simp[f])]at Q;have C:=(le.trans A).trans M;exact Q ⟨v,s1,_,_,_⟩ m5 h5 C ⟨O.mono C,rfl,rfl,rfl,aC,H,L.mono (((j.trans z).trans A).trans M),mF.mono ((((d.trans j).trans z).trans A).trans M) n⟩ c5
theorem V1:∀N,cm 38 (b7J N)
 |0=>by
  refine fP (fn:=Tryz.f38) (c:=dY Tryz.f38) func38 rfl az ?_;rintro e m h K ⟨v,q,s,f,g,cb,n,o,ts,rs,rfl,_,j,_⟩;omega
 |N+1=>by
  refine iU func38 ?_;rintro e m h K ⟨v,q,s,f,g,cb,n,o,ts,rs,rfl,u,j,y,d,z,c,A,B⟩;refine⟨ctQ N v f g cb,rfl,aE (V1 N) (aE bgX (aE Fp (aE bgQ (aE TE aH)))),Ry N v f g cb m h K,ax,?_⟩;exact cUX (V1 N) u j y d z c A B
def cJQ:Vc.Spec:=λc m h K=>∃v q s e f cb g d ts rs,c=[aQ v,cP e,cP f,cP cb]/\dK h q v/\(aK s [] q).2=0/\DF q/\cDQ d h s e f cb/\gW d m h cb g ts rs/\ts.length+2*oD q<=90000/\
 ∀j m' h',PH.le h h'->pJ h' (fX s q ts).1 j->gW d m' h' cb g (fX s q ts).2 rs->K (aPN j) m' h'
theorem TF:cm 38 cJQ:=mV V1 λ_ _ _ _⟨v,q,s,c,d,cb,f,g,ts,rs,e,j,n,o,u,y,z,A⟩=>⟨SizeOf.sizeOf q+1,v,q,s,c,d,cb,f,g,ts,rs,e,j,aC,n,o,u,y,z,A⟩
def B0:=λc m h K=>∃sc p v s ps q,c=[aS sc,cS p,aQ v]/\iK h s sc/\Ints h p ps/\dK h q v/\pY q=true/\KR K m h (gH s ps q)
noncomputable def bHJ p N:={rI [(73,Df),(74,Wf),(75,G1 N)] [(5,{A:=Nat×Nat×Nat×Nat×Nat×MH×PH,st:=λ⟨i,a,b,c,d,m,h⟩=>bZ 53 56 [(1,sv p),(3,vv (.pointer (some ⟨a,0,none⟩))),(5,vv (.pointer (some ⟨b,0,none⟩))),(6,vv (.pointer (some ⟨c,0,none⟩))),(7,vv (.pointer (some ⟨d,0,none⟩))),(18,sv p),(19,iv p.len),(20,iv i)] [] m h})] [] [] [200003,200005,200006,200007,200011,0] [] false with elemT:=[3,41]}
noncomputable abbrev dZ(a:Nat×Nat×Nat×Nat×Nat×MH×PH):=a.2.2
abbrev PD a b c:=aA (bJ a) (gX (bH b.1 1)=bP c.1) (aA (fH (fK (dZ b)) (fK (dZ c))) (dC (fK (dZ b)) (fK (dZ c))) True)
attribute [push_cast] dZ PD
def Nd(sc:cA)(p:Sl)(v:QV)(N:Nat)(m:MH)(h:PH)(K:cn):=
  ∀(b:Nat)(P:MH),bF (cK m h b) (bL m P b (cN sc) 27) (∀(Q:Nat)(R:MH),bF (cK P h Q) (bL P R Q v.enc 41) (∀(J:Nat)(T:MH),bF (cK R h J) (bL R T J iP 36) (∀(L:Nat)(O:MH),bF (cK T h L) (bL T O L (oW bI) 46) (∃(y:cA),aL O h b 0 (cN y)/\Lg y h (λs=>cX (eK s) 0 (jN (λc E=>aA (yP O J (gO c E 0)) (0<c.size) (∀(A:MH),bL O A J (fE pV 1 c) E->jN (λf E1=>aA (yP A L (gO f E1 0)) (0<f.size) (∀(g:MH),bL A g L (fE (fV (eK s)) 1 f) E1->kW g h J 0 (λD=>∃(B:Int),aL g h L 0 (bC B)/\lO K D B g h)))))) (∃(I:Nat×Nat×Nat×Nat×Nat×MH×PH->Prop)(A:Nat×Nat×Nat×Nat×Nat×MH×PH->Nat),(∃(x:Nat×Nat×Nat×Nat×Nat×MH×PH),aA
 (I x) (aJ p) (aA (bY b x.2.1) (bY Q (dZ x).1) (aA (bY J (fT (dZ x))) (bY L (fS (dZ x))) (aA (aJ p) (bJ p) (aI (bE x.1) (bW O (fK (dZ x))) (eH h (fK (dZ x))) True)))))/\∀(x:Nat×Nat×Nat×Nat×Nat×MH×PH),I x->bA (↑x.1:Int) (aG p) (bK (λj o=>aI (aW p.a j o) (0<=(↑x.1:Int)) ((↑x.1:Int)<aG p) (∃(D:Int),aL (lM (dZ x)) (jV (dZ x)) j (o+bM x.1 1) (bC D)/\cX D 3 (cX D 4 (cX D 5 (jN (λc E=>aA (yP (lM (dZ x)) (fT (dZ x)) (gO c E 0)) (0<c.size) (∀(g:MH),bL (lM (dZ x)) g (fT (dZ x)) (fE pV 1 c) E->jN (λf E1=>aA (yP g (fS (dZ x)) (gO f E1 0)) (0<f.size) (∀(F:MH),bL g F (fS (dZ x)) (fE (fV 1) 1 f) E1->
 kW F (jV (dZ x)) (fT (dZ x)) 0 (λB=>∃(G:Int),aL F (jV (dZ x)) (fS (dZ x)) 0 (bC G)/\lO K B G F (jV (dZ x)))))))) (∃(d:Nat×Nat×Nat×Nat×Nat×MH×PH),aA (I d) (A d<A x) (aA (aJ p) (bY x.2.1 d.2.1) (aA (bY (dZ x).1 (dZ d).1) (bY (fT (dZ x)) (fT (dZ d))) (aA (bY (fS (dZ x)) (fS (dZ d))) (aJ p) (PD p x d)))))) (∃(d:Nat×Nat×Nat×Nat×Nat×MH×PH),aA (I d) (A d<A x) (aA (aJ p) (bY x.2.1 d.2.1) (aA (bY (dZ x).1 (dZ d).1) (bY (fT (dZ x)) (fT (dZ d))) (aA (bY (fS (dZ x)) (fS (dZ d))) (aJ p) (PD p x d)))))) (∃(d:Nat×Nat×Nat×Nat×Nat×MH×PH),aA (I d) (A d<A x) (aA (aJ p) (bY x.2.1 d.2.1) (aA
 (bY (dZ x).1 (dZ d).1) (bY (fT (dZ x)) (fT (dZ d))) (aA (bY (fS (dZ x)) (fS (dZ d))) (aJ p) (PD p x d)))))))) (∀(j:Nat)(g:MH),bF (cK (lM (dZ x)) (jV (dZ x)) j) (bL (lM (dZ x)) g j (oW bI) 3) (jN (λc E=>aA (yP g j (gO c E 0)) (0<c.size) (∀(F:MH),bL g F j (fE bI 1 c) E->∃(D:QV),aL F (jV (dZ x)) (dZ x).1 0 D.enc/\∃(W:QV),lC (fY (cZ D) (cZ W)) (λX=>∀(M:PH),bR (jV (dZ x)) M (cR M X 0 W.enc) (∃(S:PH->cr->List cr->Prop)(d:List (Int×QV))(I1:Nat->MH->PH->Prop),aA (H7 Proofs.Tryz.prog 139 S) (S M (z8 X) (List.map (fun(Y:Int×QV)=>j5 (fV Y.1) (Value.agg (Array.mk Y.2.enc))) d)) (aA (I1 0 F M) (∀(k:
 Nat)(e:Int)(e1:QV),eX (λC n=>bF (d[k]? =Option.some (e,e1)) (PH.le M n) (I1 k C n->∃(B:Int),aL C n j 0 (bC B)/\jN (λf E1=>aA (yP C j (gO f E1 0)) (0<f.size) (∀(u:MH),bL C u j (fE (fV (fM (B+1))) 1 f) E1->∃(G:Int),aL u n j 0 (bC G)/\qB (decide (G>24)) (jN (λz E2=>aA (yP u (fT (dZ x)) (gO z E2 0)) (0<z.size) (∀(a:MH),bL u a (fT (dZ x)) (fE pV 1 z) E2->jN (λH E3=>aA (yP a (fS (dZ x)) (gO H E3 0)) (0<H.size) (∀(U:MH),bL a U (fS (dZ x)) (fE (fV 2) 1 H) E3->False))))) e 8 (jN (λz E2=>aA (yP u (fT (dZ x)) (gO z E2 0)) (0<z.size) (∀(a:MH),bL u a (fT (dZ x)) (fE pV 1 z) E2->jN (λH E3=>aA (yP a (fS (dZ x))
 (gO H E3 0)) (0<H.size) (∀(U:MH),bL a U (fS (dZ x)) (fE (fV 2) 1 H) E3->False))))) (I1 (k+1) u n)))))) (eX (λC n=>bR M n (I1 d.length C n) (∃(B:cA),aL C n x.2.1 0 (cN B)/\∃(G:QV),aL C n (dZ x).1 0 G.enc/\K6 B p G n N (λs1 p1 q s2 V=>jN (λf E1=>aA (yP C (fT (dZ x)) (gO f E1 0)) (0<f.size) (∀(u:MH),bL C u (fT (dZ x)) (fE (dX s2) 1 f) E1->jN (λz E2=>aA (yP u (fS (dZ x)) (gO z E2 0)) (0<z.size) (∀(a:MH),bL u a (fS (dZ x)) (fE (fV (aK s1 p1 q).2) 1 z) E2->kW a V (fT (dZ x)) 0 (λy4=>∃(Z:Int),aL a V (fS (dZ x)) 0 (bC Z)/\lO K y4 Z a V))))))))))))))))))))))
mutual
theorem RZ:∀(p:Query)(n:Nat),uY p n=false->RX p<=n
 |.mk _ _ _ _ _ _ _ _ args,0,h=>by simp[uY]at h
 |.mk _ _ _ _ _ _ _ _ args,n+1,h=>by
  simp only[uY]at h;have:=OQ args n h;simp only[RX];omega
theorem OQ:∀(ps:dc)(n:Nat),Dz ps n=false->HV ps<=n
 |[],_,_=>by simp[HV]
 |p::ps,n,h=>by
  simp only[Dz,Bool.or_eq_false_iff]at h;have c:=RZ p n h.1;have d:=OQ ps n h.2;simp only[HV];omega
end
mutual
theorem yU.deep{h:PH}:∀{q:Query}{v:QV}{d:Nat}{es:dq},yU h q v d es->∀e∈es,e.1<d+RX q
 |.mk op ta _ _ _ _ _ _ args,v,d,es,w,e,c=>by
  rw[yU]at w;obtain⟨j,f,n,g,rfl⟩:=w;simp only[RX];rcases mem_cons.1 c with rfl|c
  .omega
  .have:=lI.deep g e c;omega
theorem lI.deep{h:PH}:∀{f:dc}{vs:dt}{d:Nat}{es:dq},lI h f vs d es->∀e∈es,e.1<d+HV f
 |[],vs,d,es,w,e,c=>by rw[lI]at w;grind
 |q::f,vs,d,es,w,e,c=>by
  rw[lI]at w;obtain⟨v,g,o,u,y,z,j,n,rfl⟩:=w;simp only[HV];rcases mem_append.1 c with c|c
  .have:=yU.deep j e c;omega
  .have:=lI.deep n e c;omega
end
theorem bxQ{m f:MH}{h:PH}{hx c d A B sl e K}(g:c≠d)(H:m c=none)(I:m d=none)(C:f c=some (.cells #[A] 36 (0,0)))(D:f d=some (.cells #[B] 46 (0,0)))(s:Sub m f)(le:PH.le h hx)(F:K (.tup [cS sl,cI e]) m hx):
 ∃(cs:Array Value)(E:TypeId),yP f c (.cells cs E (0,0))/\0<cs.size/\∀m':MH,lK f m' c (.cells (Array.mk (dX sl::cs.toList.drop 1)) E (0,0))->∃(cs:Array Value)(E:TypeId),yP m' d (.cells cs E (0,0))/\0<cs.size/\∀m2:MH,lK m' m2 d (.cells (Array.mk (fV e::cs.toList.drop 1)) E (0,0))->∃y:Sl,aL m2 hx c 0 [dX y]/\∃z:Int,aL m2 hx d 0 [fV z]/\cQ h K (.tup [cS y,cI z]) m2 hx:=by
 refine⟨_,_,⟨C⟩,ay,λJ j=>⟨_,_,⟨by rw[j.other d (Ne.symm g)];exact D⟩,ay,λm2 n=>⟨sl,.of_m (by rw[n.other c g];exact j.at_) rfl,e,.of_m n.at_ rfl,λ_=>⟨m,hx,λb o u=>?_,le,λb i v u=>.inl u,F⟩⟩⟩⟩;rw[n.other b (λG=>bg),j.other b (λG=>bg)];exact s b o u
theorem GQ:cm 37 B0:=by
 refine JG func37 ?_;rintro a8 m h K ⟨sc,p,v,s,ps,q,rfl,hs,W,hq,n,y⟩;refine⟨bHJ p (SizeOf.sizeOf q+1),rfl,aE Na (aE Rs (aE (bdJ _) aH)),Nd sc p v (SizeOf.sizeOf q+1) m h (cQ h K),ax,?_⟩;show Nd sc p v (SizeOf.sizeOf q+1) m h (cQ h K);dsimp only[Nd,push_cast];have hl:=W.slen;have a4:=W.len;have a9:=Ie n;have b':RX q<=8:=RZ q 8 (by simp only[pY,bz,Bool.not_eq_true']at n;exact n.2);unfold gH at y;rw[if_pos n]at y;intro E m1 u1 w1 F m2 u2 w2 C m3 u3 X D A Y P;obtain⟨s1,n3⟩:=iT (Sub.refl m) u1 w1;obtain⟨s2,n5⟩:=iT s1 u2 w2;obtain⟨s3,n6⟩:=iT s2 u3 X;obtain⟨s4,n7⟩:=iT s3 Y P;have G:∀{Z mb:MH}{b:Nat}{o:Obj}{hh:PH},cK Z hh b->lK Z mb b o->∀{x g},Z x=some g->mb x=some g:=fun{Z mb b o hh} u w{x g} e=>by rw[w.other x (λM=>by rw[M,u.m_]at e;cases e)];exact e
 have a3:=G Y P (G u3 X (G u2 w2 w1.at_));have a5:=G Y P (G u3 X w2.at_);have a6:=G Y P X.at_;have a7:=P.at_;have H:C≠D:=λe=>bg
 refine⟨sc,.of_m a3 rfl,sc,s,rfl,hs,aD (λh1=>?_) (λh1=>?_)⟩
 .rw[if_neg bg]at y;exact bxQ (sl:=cH) H n6 n7 a6 a7 s4 (.refl _) (y cH h (.refl _) (nG h))
 have h1:eK s=0:=bg
 rw[if_pos h1]at y;refine⟨λz=>z.2=(E,F,C,D,A,h)/\z.1<=ps.length/\(ps.take z.1).all gS=true,λz=>ps.length-z.1,⟨(0,E,F,C,D,A,h),⟨rfl,ay,ay⟩,MT⟩,?_⟩;rintro⟨i,z⟩ ⟨ez,hi,c⟩;dsimp only at ez hi c;subst ez;dsimp only;refine aF (λQ=>?_) (λb0=>?_)
 .obtain⟨x,O⟩:=fF hl Q;obtain⟨b,o,e,r⟩:=W.at' O;have good:gS x=true->(ps.take (i+1)).all gS=true:=λhc=>by rw[BX O,c,hc];rfl
  have R:IntKind.i64.wrap ((i:Int)+1)=((i+1:Nat):Int):=iY aC;have go:gS x=true->((i+1,E,F,C,D,A,h):Nat×Nat×Nat×Nat×Nat×MH×PH).2=(E,F,C,D,A,h)/\i+1<=ps.length/\(ps.take (i+1)).all gS=true:=λhc=>⟨rfl,aC,good hc⟩
  rw[R];refine⟨b,o,e,aC,Q,x,.imm r,aD (λc1=>aD (λc2=>aD (λc3=>?_) (λc3=>⟨(i+1,E,F,C,D,A,h),go ?_,aC,MT⟩)) (λc2=>⟨(i+1,E,F,C,D,A,h),go ?_,aC,MT⟩)) (λc1=>⟨(i+1,E,F,C,D,A,h),go ?_,aC,MT⟩)⟩
  .have:gS x=false:=by simp_all [gS]
   rw[if_neg (λe=>bg)]at y;exact bxQ (sl:=cH) H n6 n7 a6 a7 s4 (.refl _) (y cH h (.refl _) (nG h))
  .simp_all [gS]
  .simp_all [gS]
  .simp_all [gS]
 rw[bt aC]at c;rw[if_pos c]at y;intro B m5 u5 w5;refine⟨_,_,⟨w5.at_⟩,ay,λm6 w6=>?_⟩
 have k6:∀{x g},A x=some g->m6 x=some g/\x≠B:=fun{x g} e=>by
  have:x≠B:=λM=>by rw[M,u5.m_]at e;cases e
  exact⟨by rw[w6.other x this];exact G u5 w5 e,this⟩
 refine⟨v,.of_m (k6 a5).1 rfl,v,rfl,λbw a' f a0=>?_⟩;obtain⟨es,R⟩:=yU.of (hq.mono f) 1;have b1:=R.small;have I:=R.deep;refine⟨P5,es.map λe=>((e.1:Int),e.2),λk S O=>O=a'/\FA m6 S B/\S B=some (.cells #[fV (k:Nat)] 3 (0,0)),aKZ,⟨bw,v,q,es,rfl,a0,R,aC,by rw[map_map];rfl⟩,⟨rfl,λx o e _=>e,w6.at_⟩,?_,?_⟩
 .rintro k d e' S O hk-⟨rfl,J,j⟩
  rw[getElem?_map]at hk;cases L:es[k]? with
  |none=>grind
  |some e=>
   rw[L]at hk;simp only[Option.map_some,bx,Prod.mk.injEq]at hk;obtain⟨rfl,rfl⟩:=hk;have b2:=(bm L);have b4:=I e (bo L);have T:IntKind.i64.wrap ((k:Int)+1)=((k+1:Nat):Int):=iY aC;refine⟨k,.of_m j rfl,_,_,⟨j⟩,ay,λm7 w7=>⟨((k+1:Nat):Int),?_,aF (λa1=>by omega) (λ_=>aF (λa1=>by omega) (λ_=>⟨rfl,λx o e1 M=>by rw[w7.other x M];exact J x o e1 M,?_⟩))⟩⟩
   .rw[<-T];exact .of_m w7.at_ rfl
   .rw[<-T];exact w7.at_
 .rintro S O-⟨rfl,J,j⟩
  have U:∀{x g},A x=some g->S x=some g:=fun{x g} e=>J x g (k6 e).1 (k6 e).2;refine⟨sc,.of_m (U a3) rfl,v,.of_m (U a5) rfl,sc,p,v,s,ps,q,rfl,hs.mono f,AI h1,W.mono f,hq.mono f,aC,λsl h7 V a2=>?_⟩;exact bxQ H n6 n7 (U a6) (U a7) (λx o e=>U (s4 x o e)) (f.trans V) (y sl h7 (f.trans V) a2)
noncomputable def lX s q:=gM (fX s q []).1 ((fX s q []).1.env:Int) (fX s q []).2 []
def btX:Vc.Spec:=λc m h K=>∃sc v s q,c=[aS sc,aQ v]/\iK h s sc/\dK h q v/\pY q=true/\eD m/\((gH s [] q).2=0->DF q/\Jt (fX s q []).1/\lE (fX s q []).1<=100/\oD q<=100)/\
 ((gH s [] q).2≠0->K (.tup [aPl cH cH,cI (gH s [] q).2]) m h)/\((gH s [] q).2=0->∀p r h',PH.le h h'->rU h' p r (lX s q).1 (lX s q).2->K (.tup [aPl p r,cI 0]) m h')
noncomputable def cBQ:=rI [(37,B0),(38,cJQ),(43,c4X)] [] [] [] [93,94,200002,510097] [] false
abbrev Lk(a:cA)(b:QV)(c:PH)(d:jP->cq->Query->PH->Prop):=LH (cE (cN a) (gC Ft (cZ b))) c (λx g e=>Az (pY e)/\∀(j:Sl)(f:PH),bR c f (Ints f j (gH x g e).1) (d x g e f))
attribute [push_cast] Lk
def RU(sc:cA)(v:QV)(m:MH)(h:PH)(K:cn):=
  ∀(b:Nat)(z:MH),bF (cK m h b) (bL m z b (cN sc) 27) (∃(y:cA),aL z h b 0 (cN y)/\Lk y v h (λs p q f=>cX (zD s p q) 0 (K (CV.tup (yA (j5 pV pV) (fV (zD s p q)))) z f) (xO z f (λP J=>∀(e:Nat)(B:MH),bF (cK J f e) (bL J B e (aX pV pV (oW EI)) 93) (jN (λc E=>aA (yP B e (gO c E 0)) (3<=c.size) (∀(C:MH),bL B C e (aX pV pV (fE (Dt P) 3 c)) E->∀(g:Nat)(D:MH),bF (cK C f g) (bL C D g LL 94) (jN (λF E1=>aA (yP D g (gO F E1 0)) (0<F.size) (∀(G:MH),bL D G g (fE (Value.func (Fn.func 38) sR (Array.mk (aX (SS g 0) (SS b 0) (z8 e)))) 1 F) E1->∃(j:Nat×Nat×Nat),aL G f g 0 (QZ 38 (Array.mk (aX (SS j.1 0) (SS j.2.1 0) (z8 j.2.2))))
 /\∃(R:iN->MH->PH->Prop),CJ 38 97 (cE v.enc (dA j.1 (gC (jO j.2.1) (jO j.2.2)))) G f (λl A n=>∃(x:iN),l=x.enc/\R x A n)/\∀(x:iN),eX (λA n=>R x A n->∃(L:iN)(o:PN)(d:Int)(H:MH),J4 (λI M t r=>aA (EG e x x.env=EG I L d) (pJ n o L) (aA (Jt o) (gW H A n I M t r) (aI (eD H) (t.length+5*lE o<=90000) (r.length+lE o<=90000) (eX (λa u=>bR n u (gW H a u I M (gM o d t r).1 (gM o d t r).2) (Gc a u e 0 (λQ O=>aL a u e 1 (aM O)/\K (CV.tup (fC (kE (j5 (dX Q) (dX O))) 0)) a u))))))))))))))))))
theorem Om{q}(h:(gH s ps q).2=0):(aK s ps q).2=0/\eK s=0:=by
 unfold gH at h;split at h
 .rename_i e;refine⟨?_,e⟩;split at h
  .split at h
   .exact h
   .simp[eF]at h
  .simp[eF]at h
 .rename_i c;simp[eF]at h;omega
theorem aJZ m E sz:cW m cH E sz []:=⟨⟨λ_ h=>by simp at h,λ_ h=>by simp at h⟩,.inl ⟨rfl,rfl⟩⟩
theorem boQ:cm 11 btX:=by
 refine SF func11 ?_;rintro b8 m h K ⟨sc,v,s,q,rfl,hs,hq,a6,ht,hv,hE,hK⟩;refine⟨cBQ,rfl,aE GQ (aE TF (aE bfJ aH)),RU sc v m h (cQ h K),ax,?_⟩;show RU sc v m h (cQ h K);dsimp only[RU,push_cast];intro f m1 a7 z
 have H:Sub m m1:=λx o e=>by
  rw[z.other x (λL=>by rw[L,a7.m_]at e;cases e)];exact e
 refine⟨sc,.of_m z.at_ rfl,sc,cH,v,s,[],q,rfl,hs,Xy h,hq,a6,λsl h1 E _=>aD (λM=>?_) (λM=>?_)⟩
 .have M:(gH s [] q).2≠0:=bg
  exact cQ.keep H E (hE M)
 have M:(gH s [] q).2=0:=bg
 obtain⟨S,a8,b9,b6⟩:=hv M;obtain⟨T,U⟩:=Om M;have hK:=hK M;intro c m2 V g cb m3 O C;refine⟨_,_,⟨C.at_⟩,ay,λm4 d B m5 F P=>⟨_,_,⟨P.at_⟩,ay,λD A=>?_⟩⟩;have d:lK m3 m4 cb (.cells #[.slice none 0 0,.slice none 0 0,.map (some c)] 93 (0,0)):=d;have A:lK m5 D B (.cells #[c0X B f cb] 94 (0,0)):=A;have n1:c≠f:=λe=>by have:=V.m_;rw[e,z.at_]at this;cases this
 have n2:cb≠c:=λe=>by have:=O.m_;rw[e,g.at_]at this;cases this
 have n3:cb≠f:=λe=>by have:=O.m_;rw[e,g.other f (Ne.symm n1),z.at_]at this;cases this
 have n4:B≠cb:=λe=>by have:=F.m_;rw[e,d.at_]at this;cases this
 have n5:B≠c:=λe=>by have:=F.m_;rw[e,d.other c (Ne.symm n2),C.other c (Ne.symm n2),g.at_]at this;cases this
 have n6:B≠f:=λe=>by have:=F.m_;rw[e,d.other f (Ne.symm n3),C.other f (Ne.symm n3),g.other f (Ne.symm n1),z.at_]at this;cases this
 have h6:∀x,x≠B->x≠cb->D x=m2 x:=λx Q G=>by rw[A.other x Q,P.other x Q,d.other x G,C.other x G]
 have W:D cb=some (.cells #[.slice none 0 0,.slice none 0 0,.map (some c)] 93 (0,0)):=by rw[A.other cb (Ne.symm n4),P.other cb (Ne.symm n4)];exact d.at_
 have X:D c=some (.map #[] 0):=by rw[h6 c (Ne.symm n5) (Ne.symm n2)];exact g.at_
 have b7:D f=some (.cells ⟨sc.enc⟩ 27 (0,0)):=by rw[h6 f (Ne.symm n6) (Ne.symm n3),g.other f (Ne.symm n1)];exact z.at_
 obtain⟨n,c1⟩:∃n:MH,n=λx=>if x=cb\/x=c then none else D x:=⟨_,rfl⟩
 have a9:∀x,x≠cb->x≠c->n x=D x:=λx Q G=>bg
 have Y:n cb=none:=bg
 have Z:n c=none:=bg
 have R:Sub n D:=λx o e=>by
  grind
 have j:Sub m n:=λx o e=>by
  have Q:=H x o e;have a1:x≠c:=λL=>by rw[L,V.m_]at Q;cases Q
  have G:m2 x=some o:=by rw[g.other x a1];exact Q
  have a2:x≠cb:=λL=>by rw[L,O.m_]at G;cases G
  have e3:m4 x=some o:=by rw[d.other x a2,C.other x a2];exact G
  have a3:x≠B:=λL=>by rw[L,F.m_]at e3;cases e3
  grind
 have c0:gW n D h1 cb c [] []:=⟨R,Y,Z,⟨#[],0,X,rfl⟩,ay,cH,cH,W,⟨[],aJZ D _ _,rfl,λi t e=>by simp at e⟩,aJZ D _ _,λb i e=>by simp[cH]at e,λb i e=>by simp[cH]at e⟩
 have I:cDQ n h1 s B f cb:=⟨by rw[a9 B n4 n5];exact A.at_,⟨sc,hs.mono E,bg⟩,ht.sub j,cXX U⟩
 have b':=DQ s q [];simp only[length_nil,Nat.zero_add]at b';refine⟨(B,f,cb),.of_m A.at_ rfl,λy my hy=>PH.le h1 hy/\pJ hy (fX s q []).1 y/\gW n my hy cb c (fX s q []).2 [],?_,λy m7 h7⟨b0,ry,c7⟩=>?_⟩
 .have a':AQ Tryz.prog 97=true:=ax
  refine Sound.fat (vs:=[.agg ⟨QV.enc v⟩,.pointer (some ⟨B,0,none⟩),.pointer (some ⟨f,0,none⟩),.pointer (some ⟨cb,0,none⟩)]) TF ⟨v,q,s,B,f,cb,c,n,[],[],rfl,hq.mono E,T,S,I,c0,bf,λv' m' h' b1 rp c'=>⟨iN.enc v',?_,v',rfl,b1,rp,c'⟩⟩;have e:Vc.valOf Tryz.prog 97 (iN.enc v')= .agg ⟨iN.enc v'⟩:=by unfold Vc.valOf;rw[a']
  rw[e];rfl
 .refine⟨y,(fX s q []).1,y.env,n,cb,c,(fX s q []).2,[],rfl,ry,a8,c7,I.tab,aC,bf,λm8 h8 b2 c8=>?_⟩;rw[ry.env_]at c8;have c8:gW n m8 h8 cb c (lX s q).1 (lX s q).2:=c8;obtain⟨p,r,a0,⟨vs,hr,a4⟩,b3,b4,b5⟩:=c8.ex;refine⟨p,.of_m a0 rfl,r,.of_m a0 rfl,λa5=>?_⟩;have hd:Hh m8 h8:=⟨a5⟩
  have le:=(E.trans b0).trans b2
  have fr:∀b,n b=none->m b=none:=λb e=>by
   cases G:m b with
   |none=>rfl
   |some o=>rw[j b o G]at e;cases e
  have J:=iS (fX s q []).1 ((fX s q []).1.env:Int) (fX s q []).2 [];have J:(lX s q).1.length<=(fX s q []).2.length+5*lE (fX s q []).1/\(lX s q).2.length<=0+lE (fX s q []).1:=J;refine⟨m,CZ m m8 h8,λb o e=>c8.sub b o (j b o e),le.trans (ES hd),λb i w e=>?_,hK p r _ (le.trans (ES hd)) ⟨⟨vs,wI.ice ⟨hr,λb i e=>fr b (b4 b i e)⟩,a4.1,λi t e=>let⟨u,k1,k2⟩:=a4.2 i t e;⟨u,k1,k2.mono (ES hd)⟩⟩,⟨wI.ice ⟨b3,λb i e=>fr b (b5 b i e)⟩,aC⟩,aC⟩⟩;unfold CZ at e
  grind
theorem JU:∀{l c:cq}{r r':dh},(∀n∈l,u7 n)->(∀n∈c,u7 n)->l.length=c.length->jJ l++r=jJ c++r'->l=c/\r=r'
 |[],[],_,_,_,_,_,h=>⟨rfl,h⟩
 |[],_::_,_,_,_,_,d,_=>by simp at d
 |_::_,[],_,_,_,_,d,_=>by simp at d
 |m::l,n::c,r,r',f,g,d,h=>by
  rw[vO,vO,append_assoc,append_assoc,cons_append,cons_append]at h;obtain⟨a,h⟩:=iV (f m ay) (g n ay) h;obtain⟨b,h⟩:=JU (λx e=>f x (by simp[e])) (λx e=>g x (by simp[e])) bg h
  grind
theorem KJ:∀{l c:cw}{r r':dh},(∀p∈l,u7 p.1/\u7 p.2)->(∀p∈c,u7 p.1/\u7 p.2)->l.length=c.length->wO l++r=wO c++r'->l=c/\r=r'
 |[],[],_,_,_,_,_,h=>⟨rfl,h⟩
 |[],_::_,_,_,_,_,d,_=>by simp at d
 |_::_,[],_,_,_,_,d,_=>by simp at d
 |m::l,n::c,r,r',e,f,d,h=>by
  rw[Ou,Ou]at h;simp only[append_assoc,cons_append]at h;obtain⟨a,h⟩:=iV (e m ay).1 (f n ay).1 h;obtain⟨j,h⟩:=iV (e m ay).2 (f n ay).2 h;obtain⟨b,h⟩:=KJ (λx g=>e x (by simp[g])) (λx g=>f x (by simp[g])) bg h
  grind
theorem Ky:∀{l c:cv}{r r':dh},(∀p∈l,u7 p.1)->(∀p∈c,u7 p.1)->l.length=c.length->wM l++r=wM c++r'->l=c/\r=r'
 |[],[],_,_,_,_,_,h=>⟨rfl,h⟩
 |[],_::_,_,_,_,_,d,_=>by simp at d
 |_::_,[],_,_,_,_,d,_=>by simp at d
 |m::l,n::c,r,r',f,g,d,h=>by
  rw[Ol,Ol]at h;simp only[append_assoc,cons_append]at h;have j:∀b:Bool,u7 (if b then 1 else 0):=λb=>by cases b<;>exact⟨az,az⟩
  obtain⟨a,h⟩:=iV (f m ay) (g n ay) h;obtain⟨o,h⟩:=iV (j m.2) (j n.2) h;obtain⟨b,h⟩:=Ky (λx e=>f x (by simp[e])) (λx e=>g x (by simp[e])) bg h
  grind
structure b2J(t:Step):Prop where
 op_:u7 t.op
 table_:u7 t.table
 limit_:u7 t.limit
 left_:u7 t.left
 right_:u7 t.right
 cols:t.columns.length<=8000000
 on_:t.on.length<=8000000
 group_:t.group.length<=8000000
 order_:t.order.length<=8000000
theorem a0X{x}(hx:b3Q x)(e:b3Q t)(c:b2J x)(d:b2J t)(h:stepB x=stepB t):x=t:=by
 obtain⟨op,ta,w,co,on,gr,od,li,le,S⟩:=x;obtain⟨C,D,T,E,F,G,H,I,J,L⟩:=t;have M:jJ []=[]:=rfl;simp only[stepB,vO,M,append_assoc,cons_append,nil_append]at h;obtain⟨g,h⟩:=iV c.op_ d.op_ h;obtain⟨j,h⟩:=iV c.table_ d.table_ h;obtain⟨n,h⟩:=iV c.limit_ d.limit_ h;obtain⟨o,h⟩:=iV c.left_ d.left_ h;obtain⟨u,h⟩:=iV c.right_ d.right_ h;obtain⟨y,h⟩:=Ot hx.wher e.wher h;obtain⟨O,h⟩:=iV (yC c.cols) (yC d.cols) h;obtain⟨z,h⟩:=JU hx.cols e.cols (by simp only at O⊢;omega) h;obtain⟨P,h⟩:=iV (yC c.on_) (yC d.on_) h;obtain⟨A,h⟩:=KJ hx.on_ e.on_ (by simp only at P⊢;omega) h;obtain⟨Q,h⟩:=iV (yC c.group_) (yC d.group_) h;obtain⟨B,h⟩:=JU hx.group_ e.group_ (by simp only at Q⊢;omega) h;obtain⟨R,h⟩:=iV (yC c.order_) (yC d.order_) h;obtain⟨f,_⟩:=Ky (r:=[]) (r':=[]) hx.order_ e.order_ (by simp only at R⊢;omega) (bk h);simp only at g j n o u y z A B f;subst g j n o u y z A B f;rfl
structure fR(s:jP)(q:Query):Prop where
 kinds:(aK s [] q).2=0
 ints:QI q
 bnd:gP 4 q<=8000000
theorem fR.arg{op w on args}(g:fR s (.mk op ta w co on gr od li args)){a}(c:a∈args):fR s a:=
 ⟨(lU g.kinds).1 a c,(JR.1 g.ints).2 a c,cCJ g.kinds g.bnd c⟩
theorem ZI{op w on args}(u:s.tables.length<=1000)(h:(aK s [] (.mk op ta w co on gr od li args)).2=0):u7 op/\u7 ta/\u7 li:=by
 obtain⟨_,g,a,b,_,_,c⟩:=lU h;unfold eT at c;by_cases d:arity op<0\/¬cV (.mk op ta w co on gr od li args)
 .rw[if_pos d]at c;simp[eF]at c
 .rw[if_neg d]at c;rw[not_or]at d;obtain⟨j,_,_,_,n⟩:cV (.mk op ta w co on gr od li args):=Classical.not_not.1 d.2
  have o:1<=op/\op<=10:=by
   have f:=d.1;unfold arity at f;simp only[beq_iff_eq,Bool.or_eq_true]at f;omega
  refine⟨kN aC aC,?_,?_⟩
  .rcases j with rfl|rfl
   .dsimp only at c;simp only[if_true]at c;split at c
    .rename_i e;exact kN aC aC
    .simp[eF]at c
   .exact HL
  .rcases n with rfl|rfl|⟨_,_,rfl⟩
   .dsimp only at c;simp only[show¬((9:Int)=1)by decide,show¬((9:Int)=2)by decide,show¬((9:Int)=3)by decide,show¬((9:Int)=4)by decide,show¬((9:Int)=5)by decide,if_false,if_true]at c;split at c
    .rename_i e;exact kN (by have:=e.low;omega) (by have:=e.high;omega)
    .simp[eF]at c
   .dsimp only at c;simp only[show¬((10:Int)=1)by decide,show¬((10:Int)=2)by decide,show¬((10:Int)=3)by decide,show¬((10:Int)=4)by decide,show¬((10:Int)=5)by decide,show¬((10:Int)=9)by decide,if_false,if_true]at c;split at c
    .rename_i e;exact kN (by have:=e.2.low;omega) (by have:=e.2.high;omega)
    .simp[eF]at c
   .exact HL
structure EW(s:jP)(ts:dg):Prop where
 ar:∀(i:Nat) t,ts[i]? =some t->0<=arity t.op
 fit:∀(i:Nat) t,ts[i]? =some t->qJ i t
 nodup:(ts.map stepB).Nodup
 good:∀i,i<ts.length->fR s (aU ts i)
 short:∀t∈ts,t.columns.length<=1000/\t.on.length<=1000/\t.group.length<=1000/\t.order.length<=1000
theorem EW.ok(v:EW s ts):C1 ts:=λi t e=>⟨v.ar i t e,L1 (v.ar i t e) (v.fit i t e)⟩
theorem EW.nil s:EW s []:=⟨λi t e=>by simp at e,λi t e=>by simp at e,ay,λi c=>by simp at c,λt d=>by simp at d⟩
theorem Rk{a u}(h:ET a u i=true)(c:i<=8000000):u7 a:=by
 unfold ET at h;split at h
 .simp only[bz,ce]at h;exact kN aC aC
 .have:a=0:=bk h
  rw[this];exact HL
theorem Qh{q args}(j:s.tables.length<=1000)(g:fR s q)(n:q= .mk t.op t.table t.wher t.columns t.on t.group t.order t.limit args)(d:qJ i t)(e:i<=8000000)(E:t.columns.length<=1000/\t.on.length<=1000/\t.group.length<=1000/\t.order.length<=1000):b3Q t/\b2J t:=by
 have c:=g.ints;have f:=g.kinds;rw[n]at c f;rw[JR]at c;obtain⟨o,u,y,z,A⟩:=c.1;obtain⟨B,C,D⟩:=ZI j f;exact⟨⟨o,u,y,z,A⟩,⟨B,C,D,Rk d.1 e,Rk d.2 e,aC,aC,aC,aC⟩⟩
theorem bDX{s ts t q}(H:s.tables.length<=1000)(v:EW s ts)(I:ts.length<=100000)(J:0<=arity t.op)(D:qJ ts.length t)(g:fR s q)(E:q= .mk t.op t.table t.wher t.columns t.on t.group t.order t.limit (DC ts t))(M:t.columns.length<=1000/\t.on.length<=1000/\t.group.length<=1000/\t.order.length<=1000):
 EW s (bT t ts).1/\ts<+:(bT t ts).1/\(bT t ts).2<(bT t ts).1.length/\aU (bT t ts).1 (bT t ts).2=q:=by
 obtain⟨O,P⟩:=Qh H g E D aC M;by_cases y:∀x∈ts,stepB x≠stepB t
 .rw[Ze y];dsimp only
  have c:∀(i:Nat) u,(ts++[t])[i]? =some u->ts[i]? =some u\/(i=ts.length/\u=t):=λi u e=>by
   grind
  have f:∀(i:Nat) u,(ts++[t])[i]? =some u->0<=arity u.op:=λi u e=>by
   rcases c i u e with e|⟨_,rfl⟩
   .exact v.ar i u e
   .exact J
  have d:∀(i:Nat) u,(ts++[t])[i]? =some u->qJ i u:=λi u e=>by
   rcases c i u e with e|⟨rfl,rfl⟩
   .exact v.fit i u e
   .exact D
  have j:C1 (ts++[t]):=λi u e=>⟨f i u e,L1 (f i u e) (d i u e)⟩
  have F:ts<+:ts++[t]:=prefix_append _ _
  have n:aU (ts++[t]) ts.length=q:=by
   rw[rH j (t:=t) ay,E]
   have:DC (ts++[t]) t=DC ts t:=map_congr_left λa L=>by
    have:=L1 J D a L;exact fL F j a.toNat aC
   rw[this]
  refine⟨⟨f,d,?_,λi o=>?_,λu B=>?_⟩,F,ay,n⟩
  .rw[bu,nodup_append];refine⟨v.nodup,ay,λa L b T=>?_⟩
   grind
  .by_cases z:i<ts.length
   .rw[fL F j i z];exact v.good i z
   grind
  .rcases mem_append.1 B with B|B
   .exact v.short u B
   grind
 .have:∃x∈ts,stepB x=stepB t:=Classical.byContradiction λQ=>y λx C e=>Q ⟨x,C,e⟩;obtain⟨x,C,e⟩:=this;obtain⟨i,o⟩:=mem_iff_getElem?.1 C;have A:=(bm o);obtain⟨R,S⟩:=Qh H (v.good i A) (rH v.ok o) (v.fit i x o) aC (v.short x C);have G:x=t:=a0X R O S P e;subst G;rw[Zd v.nodup o rfl];exact⟨v,prefix_refl _,A,by rw[rH v.ok o,E]⟩
theorem WO(v:EW s ts)(d:ts[i]? =some t):DS s ((List.range i).map λj=>(aK s [] (aU ts j)).1) t=((aK s [] (aU ts i)).1,0):=by
 have B:=(bm d);have g:=(v.good i B).kinds;have C:=rH v.ok d;rw[C]at g⊢
 have D:=HH g;have F:=v.ar i t d;have G:=Fv t.op;have y:=v.fit i t d;have c:=(v.ok i t d).2;have E:((List.range i).map λj=>(aK s [] (aU ts j)).1).length=i:=ay
 have z:DM ((List.range i).map λj=>(aK s [] (aU ts j)).1) t.left (decide (arity t.op>0))=((DC ts t).map λq=>(aK s [] q).1).getD 0 []/\DM ((List.range i).map λj=>(aK s [] (aU ts j)).1) t.right (decide (arity t.op>1))=((DC ts t).map λq=>(aK s [] q).1).getD 1 []:=by
  obtain⟨n,f⟩:∃n:Nat,arity t.op=n:=⟨(arity t.op).toNat,aC⟩
  unfold DC;unfold BW at c⊢
  rw[f,Int.toNat_natCast]at c⊢
  match n,f,c with
  |0,_,_=>exact⟨rfl,rfl⟩
  |1,f,c=>
   have o:=c t.left ay;exact⟨R5 o.1 o.2,rfl⟩
  |2,f,c=>
   have o:=c t.left ay;have A:=c t.right ay;exact⟨R5 o.1 o.2,R5 A.1 A.2⟩
  |n+3,f,_=>omega
 have u:eT s [] t.query (DM ((List.range i).map λj=>(aK s [] (aU ts j)).1) t.left (decide (arity t.op>0))) (DM ((List.range i).map λj=>(aK s [] (aU ts j)).1) t.right (decide (arity t.op>1)))=aK s [] (.mk t.op t.table t.wher t.columns t.on t.group t.order t.limit (DC ts t)):=by
  rw[D,z.1,z.2];rfl
 unfold DS;rw[u,E,if_neg,if_neg aC]
 .grind
 .rintro(e|e|e)
  .omega
  .rw[y.1]at e;cases e
  .rw[y.2]at e;cases e
theorem Kw{s:jP}{ts:dg}(v:EW s ts):∀(n i:Nat),i+n=ts.length->(Di s ((List.range i).map λj=>(aK s [] (aU ts j)).1) (ts.drop i)).2=0
 |0,i,d=>by
  rw[drop_of_length_le aC];rfl
 |n+1,i,d=>by
  have c:ts[i]? =some ts[i]:=bn aC;rw[Of c,WO v c,if_pos rfl];have:=Kw v n (i+1) aC
  rwa [range_succ,bu]at this
theorem Xb(v:EW s ts)(c:eK s=0)(d:ts.length<=1024)(e:rs.length<=32)(f:∀r∈rs,0<=r/\r<ts.length):jE s ts rs=0:=by
 rw[Jv c aC,if_neg,if_pos]
 .grind
 .have:=Kw v ts.length 0 aC
  grind
mutual
def eC:Query->Query
 |.mk op ta w co on gr od li args=>if G5 op=true then(G9 args).getD 0 aFX else .mk op ta w co on gr od li (G9 args)
def G9:dc->dc
 |[]=>[]
 |q::qs=>eC q::G9 qs
end
theorem Fq:∀l:dc,G9 l=l.map eC
 |[]=>by simp[G9]
 |q::l=>by rw[G9,Fq l];rfl
def mH(a b:Query)(on:cw):Query:=.mk 5 0 fW [] on [] [] 0 [a,b]
def kB(a b:Query):Query:=.mk 8 0 fW [] [] [] [] 0 [a,b]
def G6(a:Query)(co:cq):Query:=.mk 3 0 fW co [] [] [] 0 [a]
def DU(a b:Query)(gr:cq)(od:cv)(li:Int):Query:=.mk 10 0 fW [] [] gr od li [a,b]
def mU(wd:Query->Int)(q D:Query):dc:=
 match q with
 |.mk op _ _ co on gr od li args=>
  match args with
  |[]=>if op=1 then[D]else[]
  |[a]=>
   if op=2 then mU wd a D
   else if op=3 then mU wd a (mH (eC a) D (oS co))
   else if op=9 then mU wd a (DU (mH (eC a) D (sH gr)) a gr od li)
   else[]
  |a::b::_=>
   if op=4 then mU wd a (G6 (mH D b (Av (wd a) (wd b))) (gV 0 (wd a)))++mU wd b (G6 D (gV (wd a) (wd b)))
   else if op=5 then mU wd a (mH D b on)++mU wd b (mH (eC b) D (qI on))
   else if op=6 then mU wd a (kB (eC a) D)++mU wd b (kB (eC b) D)
   else if op=7\/op=8 then mU wd a D++mU wd b (kB (kB (eC b) D) a)
   else if op=10 then mU wd a D++mU wd b (DU (mH (eC b) D (sH gr)) b gr od li)
   else[]
 termination_by SizeOf.sizeOf q
noncomputable def qX s q:=((aK s [] q).1.length:Int)
def cgX(s:jP)(op ta:Int)(co a b:cq):=if op=1 then jB s ta else if op=3 then co.map (λc=>a.getD c.toNat 0)else if op=4 then a++b else a
structure b7Q(s:jP)(op ta:Int)(co:cq)(on:cw)(gr:cq)(od:cv)(li:Int)(a b:cq)(r:cq):Prop where
 out:r=cgX s op ta co a b
 len:r.length<=12
 tab:op=1->0<=ta/\ta<s.tables.length
 proj:op=3->co≠[]/\Good (λ_ c=>C9 a c=true) co
 pair:op=4\/op=5->Good (nT a b) on
 rank:op=9\/op=10->nJ a gr od li
 same:op=6\/op=7\/op=8\/op=10->a=b
theorem tX(h:(nF l).2=0):l.length<=12:=by
 unfold nF at h
 grind
theorem Xm{op w on args b}(h:(eT s [] (.mk op ta w co on gr od li args) a b).2=0):
 b7Q s op ta co on gr od li a b (eT s [] (.mk op ta w co on gr od li args) a b).1/\1<=op/\op<=10:=by
 unfold eT at h⊢
 by_cases d:arity op<0\/¬cV (.mk op ta w co on gr od li args)
 .rw[if_pos d]at h;simp[eF]at h
 rw[if_neg d]at h⊢
 rw[not_or]at d;have f:=d.1
 have e:op=1\/op=2\/op=3\/op=9\/op=4\/op=5\/op=6\/op=7\/op=8\/op=10:=by
  unfold arity at f
  grind
 refine⟨?_,aC,aC⟩;dsimp only at h⊢
 rcases e with rfl|rfl|rfl|rfl|rfl|rfl|rfl|rfl|rfl|rfl
 .simp only[if_true]at h⊢
  split at h
  .rename_i c;rw[if_pos c];rw[tR h];exact⟨rfl,tX h,λ_=>c,ay,ay,ay,ay⟩
  .simp[eF]at h
 .simp only[show¬((2:Int)=1)by decide,if_true,if_false]at h⊢
  split at h
  .rename_i c;rw[if_pos c];rw[tR h];exact⟨rfl,tX h,ay,ay,ay,ay,ay⟩
  .rename_i c;simp[eF]at h;omega
 .simp only[show¬((3:Int)=1)by decide,show¬((3:Int)=2)by decide,if_true,if_false]at h⊢
  split at h
  .rename_i c;rw[if_pos c];rw[tR h];exact⟨rfl,tX h,ay,λ_=>c,ay,ay,ay⟩
  .simp[eF]at h
 .simp only[show¬((9:Int)=1)by decide,show¬((9:Int)=2)by decide,show¬((9:Int)=3)by decide,show¬((9:Int)=4)by decide,show¬((9:Int)=5)by decide,if_true,if_false]at h⊢
  split at h
  .rename_i c;rw[if_pos c];rw[tR h];exact⟨rfl,tX h,ay,ay,ay,λ_=>c,ay⟩
  .simp[eF]at h
 .simp only[show¬((4:Int)=1)by decide,show¬((4:Int)=2)by decide,show¬((4:Int)=3)by decide,if_true,if_false]at h⊢
  split at h
  .rename_i c;rw[if_pos c];rw[tR h];exact⟨rfl,tX h,ay,ay,λ_=>c,ay,ay⟩
  .simp[eF]at h
 .simp only[show¬((5:Int)=1)by decide,show¬((5:Int)=2)by decide,show¬((5:Int)=3)by decide,show¬((5:Int)=4)by decide,if_true,if_false]at h⊢
  split at h
  .rename_i c;rw[if_pos c];rw[tR h];exact⟨rfl,tX h,ay,ay,λ_=>c,ay,ay⟩
  .simp[eF]at h
 .simp only[show¬((6:Int)=1)by decide,show¬((6:Int)=2)by decide,show¬((6:Int)=3)by decide,show¬((6:Int)=4)by decide,show¬((6:Int)=5)by decide,show¬((6:Int)=9)by decide,show¬((6:Int)=10)by decide,if_true,if_false]at h⊢
  split at h
  .rename_i c;rw[if_pos c];rw[tR h];exact⟨rfl,tX h,ay,ay,ay,ay,λ_=>c⟩
  .simp[eF]at h
 .simp only[show¬((7:Int)=1)by decide,show¬((7:Int)=2)by decide,show¬((7:Int)=3)by decide,show¬((7:Int)=4)by decide,show¬((7:Int)=5)by decide,show¬((7:Int)=9)by decide,show¬((7:Int)=10)by decide,if_true,if_false]at h⊢
  split at h
  .rename_i c;rw[if_pos c];rw[tR h];exact⟨rfl,tX h,ay,ay,ay,ay,λ_=>c⟩
  .simp[eF]at h
 .simp only[show¬((8:Int)=1)by decide,show¬((8:Int)=2)by decide,show¬((8:Int)=3)by decide,show¬((8:Int)=4)by decide,show¬((8:Int)=5)by decide,show¬((8:Int)=9)by decide,show¬((8:Int)=10)by decide,if_true,if_false]at h⊢
  split at h
  .rename_i c;rw[if_pos c];rw[tR h];exact⟨rfl,tX h,ay,ay,ay,ay,λ_=>c⟩
  .simp[eF]at h
 .simp only[show¬((10:Int)=1)by decide,show¬((10:Int)=2)by decide,show¬((10:Int)=3)by decide,show¬((10:Int)=4)by decide,show¬((10:Int)=5)by decide,show¬((10:Int)=9)by decide,if_true,if_false]at h⊢
  split at h
  .rename_i c;rw[if_pos c];rw[tR h];exact⟨rfl,tX h,ay,ay,ay,λ_=>c.2,λ_=>c.1⟩
  .simp[eF]at h
theorem LU(h:l.length<=12):nF l=(l,0):=by unfold nF;rw[if_pos h]
theorem a3Z{on args b}(h:a.length<=12)(c:Good (nT a b) on):eT s [] (.mk 5 0 fW [] on [] [] 0 args) a b=(a,0):=by
 unfold eT;rw[if_neg (by simp[cV,arity])];simp only[show¬((5:Int)=1)by decide,show¬((5:Int)=2)by decide,show¬((5:Int)=3)by decide,show¬((5:Int)=4)by decide,if_true,if_false,if_pos c,LU h]
theorem ZJ{args}(h:a.length<=12):eT s [] (.mk 8 0 fW [] [] [] [] 0 args) a a=(a,0):=by
 unfold eT;rw[if_neg (by simp[cV,arity])];simp only[show¬((8:Int)=1)by decide,show¬((8:Int)=2)by decide,show¬((8:Int)=3)by decide,show¬((8:Int)=4)by decide,show¬((8:Int)=5)by decide,show¬((8:Int)=9)by decide,show¬((8:Int)=10)by decide,if_true,if_false,LU h]
theorem a3J{args b}(d:co≠[])(e:Good (λ_ c=>C9 a c=true) co)(h:co.length<=12):eT s [] (.mk 3 0 fW co [] [] [] 0 args) a b=(co.map (λc=>a.getD c.toNat 0),0):=by
 unfold eT;rw[if_neg (by simp[cV,arity])];simp only[show¬((3:Int)=1)by decide,show¬((3:Int)=2)by decide,if_true,if_false];rw[if_pos ⟨d,e⟩,LU (bk h)]
theorem a4Q{args}(h:a.length<=12)(c:nJ a gr od li):eT s [] (.mk 10 0 fW [] [] gr od li args) a a=(a,0):=by
 unfold eT;rw[if_neg (by simp[cV,arity])];simp only[show¬((10:Int)=1)by decide,show¬((10:Int)=2)by decide,show¬((10:Int)=3)by decide,show¬((10:Int)=4)by decide,show¬((10:Int)=5)by decide,show¬((10:Int)=9)by decide,if_true,if_false];rw[if_pos ⟨rfl,c⟩,LU h]
theorem fR.k{q}(g:fR s q):aK s [] q=((aK s [] q).1,0):=Prod.ext rfl g.kinds
theorem fR.two{op w on a b K}(c:fR s a)(d:fR s b)(g:arity op=2)(j:eT s [] (.mk op ta w co on gr od li [a,b]) (aK s [] a).1 (aK s [] b).1=(K,0))(n:Ep w)(o:gP 4 (.mk op ta w co on gr od li [a,b])<=8000000):
 fR s (.mk op ta w co on gr od li [a,b])/\(aK s [] (.mk op ta w co on gr od li [a,b])).1=K:=by
 have e:aK s [] (.mk op ta w co on gr od li [a,b])=(K,0):=by
  rw[aK,vE (ks:=[(aK s [] a).1,(aK s [] b).1]) (by show[aK s [] a,aK s [] b]=[((aK s [] a).1,0),((aK s [] b).1,0)];rw[<-c.k, <-d.k])]
  grind
 refine⟨⟨by rw[e],JR.2 ⟨ZK (s:=s) (ps:=[]) (a:=(aK s [] a).1) (b:=(aK s [] b).1) (lV ..) (lV ..) ay n (by rw[j]),λq f=>?_⟩,o⟩,by rw[e]⟩;simp at f;rcases f with rfl|rfl
 .exact c.ints
 .exact d.ints
theorem fR.one{op w on a K}(c:fR s a)(f:arity op=1)(g:eT s [] (.mk op ta w co on gr od li [a]) (aK s [] a).1 []=(K,0))(j:Ep w)(n:gP 4 (.mk op ta w co on gr od li [a])<=8000000):
 fR s (.mk op ta w co on gr od li [a])/\(aK s [] (.mk op ta w co on gr od li [a])).1=K:=by
 have d:aK s [] (.mk op ta w co on gr od li [a])=(K,0):=by
  rw[aK,vE (ks:=[(aK s [] a).1]) (by show[aK s [] a]=[((aK s [] a).1,0)];rw[<-c.k])]
  grind
 refine⟨⟨by rw[d],JR.2 ⟨ZK (s:=s) (ps:=[]) (a:=(aK s [] a).1) (b:=[]) (lV ..) ay ay j (by rw[g]),λq e=>?_⟩,n⟩,by rw[d]⟩;simp at e;subst e;exact c.ints
theorem E0{s a b on}(c:fR s a)(d:fR s b)(e:Good (nT (aK s [] a).1 (aK s [] b).1) on)(f:gP 4 a+gP 4 b<=8000000):fR s (mH a b on)/\(aK s [] (mH a b on)).1=(aK s [] a).1:=
 fR.two c d rfl (a3Z (lV ..) e) qY (by simpa[gP,wK]using f)
theorem AR{a b}(c:fR s a)(d:fR s b)(e:(aK s [] a).1=(aK s [] b).1)(f:gP 4 a+gP 4 b<=8000000):fR s (kB a b)/\(aK s [] (kB a b)).1=(aK s [] a).1:=
 fR.two c d rfl (by rw[<-e];exact ZJ (lV ..)) qY (by simpa[gP,wK]using f)
theorem S7{s a co}(d:fR s a)(e:co≠[])(f:Good (λ_ c=>C9 (aK s [] a).1 c=true) co)(g:co.length<=12)(j:gP 4 a<=8000000):fR s (G6 a co)/\(aK s [] (G6 a co)).1=co.map (λc=>(aK s [] a).1.getD c.toNat 0):=
 fR.one d rfl (a3J e f g) qY (by simpa[gP,wK]using j)
theorem a2Q{s a b gr od li}(c:fR s a)(d:fR s b)(e:(aK s [] a).1=(aK s [] b).1)(f:nJ (aK s [] a).1 gr od li)(g:gP 4 a+gP 4 b<=8000000):fR s (DU a b gr od li)/\(aK s [] (DU a b gr od li)).1=(aK s [] a).1:=
 fR.two c d rfl (by rw[<-e];exact a4Q (lV ..) f) qY (by simpa[gP,wK]using g)
theorem fR.node{op w on args}(g:fR s (.mk op ta w co on gr od li args)):
 b7Q s op ta co on gr od li ((args.map λq=>(aK s [] q).1).getD 0 []) ((args.map λq=>(aK s [] q).1).getD 1 []) (aK s [] (.mk op ta w co on gr od li args)).1/\(1<=op/\op<=10)/\(args.length:Int)=arity op/\∀a∈args,fR s a:=by
 have c:=HH g.kinds;have h:=g.kinds;rw[c]at h;have:=Xm h;rw[<-c]at this;exact⟨this.1,this.2,(lU g.kinds).2.1,λa d=>g.arg d⟩
theorem cFX{op on args w}(g:fR s (.mk op ta w co on gr od li args)):co.length<=12/\on.length<=12/\gr.length<=12/\od.length<=12:=by
 obtain⟨_,_,a,b,D,_,h⟩:=lU g.kinds;have n:=(Xm h).1
 have u:cV (.mk op ta w co on gr od li args):=by
  unfold eT at h;by_cases z:arity op<0\/¬cV (.mk op ta w co on gr od li args)
  .rw[if_pos z]at h;simp[eF]at h
  grind
 obtain⟨_,_,A,B,C⟩:=u
 have d:Good (nT a b) on->on.length<=12:=λg=>by
  have:=L0 (f:=λp=>p.1) (n:=a.length) g (λc x t=>by have:=t.1;rw[fB]at this;exact this) (λc x t y o=>(t.2.2.2 y o).1);omega
 have j:nJ a gr od li->gr.length<=12/\od.length<=12:=λr=>by
  have:=L0 (f:=λp=>p) (n:=a.length) r.group_ (λc x t=>by have:=t.1;rw[fB]at this;exact this) (λc x t y o e=>t.2 bg);exact⟨aC,r.len_⟩
 refine⟨?_,?_,?_⟩
 .rcases A with rfl|rfl
  .have:=n.len;rw[n.out]at this;simpa[cgX]using this
  .simp
 .rcases B with rfl|rfl|rfl
  .exact d (n.pair (.inl rfl))
  .exact d (n.pair (.inr rfl))
  .simp
 .rcases C with rfl|rfl|⟨rfl,rfl,_⟩
  .exact j (n.rank (.inl rfl))
  .exact j (n.rank (.inr rfl))
  .simp
theorem JD{s:jP}:∀{l c:dc},l.map (aK s [])=c.map (aK s [])->fQ s [] l=fQ s [] c
 |[],[],_=>rfl
 |[],_::_,h=>by simp at h
 |_::_,[],h=>by simp at h
 |q::l,d::c,h=>by
  simp only[map_cons,List.cons.injEq]at h;rw[fQ,fQ,h.1,JD h.2]
theorem ZT{op w on args c}(h:c.map (aK s [])=args.map (aK s [])):aK s [] (.mk op ta w co on gr od li c)=aK s [] (.mk op ta w co on gr od li args):=by
 rw[aK,aK,JD h];split;rename_i ks e _;rw[JV s [] op ta w co on gr od li c,JV s [] op ta w co on gr od li args]
theorem bvQ{f:Query->Query}:∀{l:dc},(∀a∈l,gP 4 (f a)<=gP 4 a)->wK 4 (l.map f)<=wK 4 l/\yF 4 (l.map f)<=yF 4 l
 |[],_=>⟨Nat.le_refl _,Nat.le_refl _⟩
 |q::l,h=>by
  have c:=h q ay;have d:=bvQ (l:=l) λa e=>h a (by simp[e]);simp only[map_cons,wK,yF];exact⟨aC,Nat.mul_le_mul c d.2⟩
theorem aRZ{op w on args}(g:fR s (.mk op ta w co on gr od li args)){a}(d:a∈args):gP 4 a<=gP 4 (.mk op ta w co on gr od li args):=by
 obtain⟨j,f,n,_⟩:=yM g.k;have o:=Mn (c:=4) aC f a d;rw[gP];split
 .rename_i e;subst e;rw[MG f n]at d;cases d
 grind
theorem Vu{op}(h:G5 op=true):op=7\/op=9\/op=10:=by
 unfold G5 at h
 grind
theorem Am{s:jP}:∀q:Query,fR s q->fR s (eC q)/\(aK s [] (eC q)).1=(aK s [] q).1/\gP 4 (eC q)<=gP 4 q
 |.mk op ta w co on gr od li args,g=>by
  obtain⟨n,A,B,u⟩:=g.node;have j:∀a∈args,fR s (eC a)/\(aK s [] (eC a)).1=(aK s [] a).1/\gP 4 (eC a)<=gP 4 a:=λa d=>Am a (u a d);rw[eC];split
  .rename_i C;have D:=Vu C
   obtain⟨a,c,rfl⟩:∃a c,args=a::c:=by
    cases args with
    |nil=>
     exfalso;have:(1:Int)<=arity op:=by rcases D with rfl|rfl|rfl<;>decide
     grind
    |cons a c=>grind
   have o:=j a ay;have e:(G9 (a::c)).getD 0 aFX=eC a:=by rw[G9];rfl
   rw[e];refine⟨o.1,?_,cj o.2.2 (aRZ g ay)⟩;rw[o.2.1,n.out];unfold cgX
   grind
  .rw[Fq]
   have y:aK s [] (.mk op ta w co on gr od li (args.map eC))=aK s [] (.mk op ta w co on gr od li args):=ZT (by
    rw[map_map];refine map_congr_left λa d=>?_;show aK s [] (eC a)=aK s [] a;rw[(j a d).1.k,(u a d).k,(j a d).2.1])
   have z:gP 4 (.mk op ta w co on gr od li (args.map eC))<=gP 4 (.mk op ta w co on gr od li args):=by
    have:=bvQ (l:=args) (f:=eC) λa d=>(j a d).2.2;simp only[gP]
    grind
   refine⟨⟨by rw[y];exact g.kinds,JR.2 ⟨(JR.1 g.ints).1,λq E=>?_⟩,cj z g.bnd⟩,by rw[y],z⟩;obtain⟨a,d,rfl⟩:=mem_map.1 E;exact(j a d).1.ints
 termination_by q=>SizeOf.sizeOf q
theorem bwX(h:eK s=0){t:Int}(e:0<=t)(f:t<s.tables.length):0<(jB s t).length:=by
 have c:Mr s:=by
  unfold eK at h
  grind
 unfold jB;rw[if_neg aC];have d:t.toNat<s.tables.length:=by omega
 rw[bn d];have:=c.2.2.1 t.toNat _ (bn d);have g:=this.2.1;have j:=this.2.2.1
 grind
theorem WW(h:eK s=0):s.tables.length<=1000:=by
 unfold eK at h;split at h
 .rename_i e;have:=e.1;omega
 .cases h
theorem M0{s:jP}(f:eK s=0):∀q:Query,fR s q->0<(aK s [] q).1.length
 |.mk op ta w co on gr od li args,g=>by
  obtain⟨n,j,d,o⟩:=g.node;rw[n.out]
  have u:op≠1->∃a c,args=a::c:=λA=>by
   cases args with
   |nil=>
    exfalso;simp only[length_nil]at d;unfold arity at d
    grind
   |cons a c=>grind
  unfold cgX;split
  .rename_i e;exact bwX f (n.tab e).1 (n.tab e).2
  .rename_i y;obtain⟨a,c,rfl⟩:=u y;have B:=M0 f a (o a ay);split
   .rename_i z;have:=(n.proj z).1
    grind
   grind
 termination_by q=>SizeOf.sizeOf q
theorem aAQ{op w on ks}(h:(ks.length:Int)=arity op):DC ts (Aw op ta w co on gr od li ks)=ks.map (aU ts):=by
 have c:=Fv op;unfold DC BW Aw;dsimp only;rw[<-h,Int.toNat_natCast]
 match ks,h with
 |[],_=>rfl
 |[a],_=>simp
 |[a,b],_=>simp
 |_::_::_::_,h=>grind
theorem bFQ{n op w on ks}(h:(ks.length:Int)=arity op)(c:∀k∈ks,k<n):qJ n (Aw op ta w co on gr od li ks):=by
 have d:=Fv op;unfold qJ Aw ET;dsimp only;rw[<-h]
 match ks,h,c with
 |[],_,_=>simp
 |[a],_,c=>have:=c a ay;simp;omega
 |[a,b],_,c=>have:=c a ay;have:=c b ay;simp;omega
 |_::_::_::_,h,_=>grind
structure B4(s:jP)(ts ts':dg)(k:Nat)(q:Query):Prop where
 inv:EW s ts'
 pre:ts<+:ts'
 lt:k<ts'.length
 is:aU ts' k=q
theorem Mp{s:jP}{ts:dg}{op ta:Int}{w:Pred}{co on gr od li ks args}(d:s.tables.length<=1000)(v:EW s ts)(e:ts.length<=100000)(c:(ks.length:Int)=arity op)(f:∀k∈ks,k<ts.length)(j:ks.map (aU ts)=args)(g:fR s (.mk op ta w co on gr od li args)):
 B4 s ts (bT (Aw op ta w co on gr od li ks) ts).1 (bT (Aw op ta w co on gr od li ks) ts).2 (.mk op ta w co on gr od li args):=by
 obtain⟨z,A,B,C⟩:=cFX g;obtain⟨n,o,u,y⟩:=bDX (t:=Aw op ta w co on gr od li ks) d v e (by show 0<=arity op;omega) (bFQ c f) g (by rw[aAQ c,j];rfl) ⟨by show co.length<=1000;omega,by show on.length<=1000;omega,by show gr.length<=1000;omega,by show od.length<=1000;omega⟩;exact⟨n,o,u,y⟩
def H6(s:jP)(ts:dg)(p:PN):Prop:=
 match p with
 |.mk q args r e c=>r<ts.length/\e<ts.length/\aU ts r=q/\aU ts e=eC q/\c=qX s q/\fR s q/\q.args=args.map PN.q/\∀a∈args,H6 s ts a
 termination_by SizeOf.sizeOf p
theorem H6.mono{s:jP}{ts c:dg}(d:ts<+:c)(ok:C1 c):∀p:PN,H6 s ts p->H6 s c p
 |.mk q args r e B,h=>by
  rw[H6]at h⊢
  obtain⟨f,g,j,n,o,u,y,z⟩:=h;have C:=d.length_le;exact⟨aC,aC,by rw[fL d ok r f];exact j,by rw[fL d ok e g];exact n,o,u,y,λa A=>H6.mono d ok a (z a A)⟩
 termination_by p=>SizeOf.sizeOf p
theorem H6.get{p}(h:H6 s ts p):p.rows<ts.length/\p.env<ts.length/\aU ts p.rows=p.q/\aU ts p.env=eC p.q/\p.width=qX s p.q/\fR s p.q/\p.q.args=p.args.map PN.q/\∀a∈p.args,H6 s ts a:=by
 cases p;rw[H6]at h;exact h
theorem byQ{s:jP}{ts:dg}:∀p:PN,H6 s ts p->Jt p/\lE p=oD p.q
 |.mk (.mk op ta w co on gr od li c) args r e z,h=>by
  rw[H6]at h;obtain⟨_,_,_,_,j,f,d,n⟩:=h;have d:c=args.map PN.q:=d;obtain⟨A,B,C,D⟩:=cFX f;obtain⟨_,_,o,_⟩:=f.node;have g:∀a∈args,Jt a/\lE a=oD a.q:=λa u=>byQ a (n a u);have E:=lV s [] (.mk op ta w co on gr od li c);unfold qX at j;refine⟨?_,?_⟩
  .rw[Jt]
   grind
  .have key:∀l:List PN,(∀a∈l,lE a=oD a.q)->sO l=lZ (l.map PN.q):=by
    intro l
    induction l with
    |nil=>intro _;simp[sO,lZ]
    |cons a l g=>intro h;simp only[sO,map_cons,lZ,h a ay,g λb y=>h b (by simp[y])]
   simp only[lE,PN.q,oD,d]
   grind
 termination_by p=>SizeOf.sizeOf p
mutual
theorem WG{s:jP}(u:s.tables.length<=1000):∀(q:Query)(ts:dg),fR s q->EW s ts->ts.length+2*oD q<=100000->EW s (fX s q ts).2/\ts<+:(fX s q ts).2/\H6 s (fX s q ts).2 (fX s q ts).1/\(fX s q ts).1.q=q
 |.mk op ta w co on gr od li args,ts,g,v,F=>by
  obtain⟨n,G,H,I⟩:=g.node;simp only[oD]at F;have f:=N7 (.mk op ta w co on gr od li args) ts g.kinds;obtain⟨J,B,y,j⟩:=SP u args ts I v aC;have R:=yV s args ts;rw[Ia]at f⊢
  generalize S:(eJ s args ts).1=P at*
  generalize U:(eJ s args ts).2=T at*
  have C:P.length=args.length:=bg
  have L:(P.map PN.rows).map (aU T)=args:=by
   rw[map_map, <-j];exact map_congr_left λp d=>(y p d).get.2.2.1
  have A:=Mp u J aC bg (λk z=>by obtain⟨p,d,rfl⟩:=mem_map.1 z;exact(y p d).get.1) L g;have o:∀p∈P,H6 s (bT (Aw op ta w co on gr od li (P.map PN.rows)) T).1 p:=λp d=>H6.mono A.pre A.inv.ok p (y p d);have M:=dW (Aw op ta w co on gr od li (P.map PN.rows)) T;unfold axZ at f⊢
  dsimp only at f⊢
  split at f
  .rename_i c;rw[if_pos c];have O:=Vu c
   obtain⟨p,e,rfl⟩:∃a e,P=a::e:=by
    cases P with
    |nil=>
     exfalso;have:(1:Int)<=arity op:=by rcases O with rfl|rfl|rfl<;>decide
     grind
    |cons a e=>grind
   have D:=(o p ay).get;refine⟨A.inv,B.trans A.pre,?_,rfl⟩;rw[H6];refine⟨A.lt,D.2.1,A.is,?_,f,g,j.symm,o⟩;show aU _ p.env=_;rw[D.2.2.2.1,eC,if_pos c, <-j,map_cons,G9];rfl
  .rename_i c;rw[if_neg c]
   have Q:(P.map PN.env).map (aU (bT (Aw op ta w co on gr od li (P.map PN.rows)) T).1)=G9 args:=by
    rw[map_map,Fq, <-j,map_map];exact map_congr_left λp d=>(o p d).get.2.2.2.1
   have E:=(Am _ g).1;rw[eC,if_neg c]at E;have A2:=Mp u A.inv aC bg (λk z=>by obtain⟨p,d,rfl⟩:=mem_map.1 z;exact(o p d).get.2.1) Q E;refine⟨A2.inv,(B.trans A.pre).trans A2.pre,?_,rfl⟩;rw[H6];refine⟨ck A.lt A2.pre.length_le,A2.lt,by rw[fL A2.pre A2.inv.ok _ A.lt];exact A.is,by rw[A2.is,eC,if_neg c],f,g,j.symm,λp d=>H6.mono A2.pre A2.inv.ok p (o p d)⟩
theorem SP{s:jP}(c:s.tables.length<=1000):∀(l:dc)(ts:dg),(∀q∈l,fR s q)->EW s ts->ts.length+2*lZ l<=100000->EW s (eJ s l ts).2/\ts<+:(eJ s l ts).2/\(∀p∈(eJ s l ts).1,H6 s (eJ s l ts).2 p)/\(eJ s l ts).1.map PN.q=l
 |[],ts,_,v,_=>by simp only[eJ];grind
 |q::l,ts,h,v,g=>by
  simp only[lZ]at g;obtain⟨j,n,o,y⟩:=WG c q ts (h q ay) v aC;have z:=DQ s q ts;obtain⟨d,e,A,B⟩:=SP c l (fX s q ts).2 (λa u=>h a (by simp[u])) j aC;rw[eJ];refine⟨d,n.trans e,λp f=>?_,bg⟩;rcases mem_cons.1 f with rfl|f
  .exact H6.mono e d.ok _ o
  grind
end
theorem Pn{b l}(h:∀x∈l,C9 a x.1=true/\C9 b x.2=true/\a.getD x.1.toNat 0=b.getD x.2.toNat 0)(d:(l.map Prod.fst).Nodup)(f:(l.map Prod.snd).Nodup):Good (nT a b) l:=by
 intro i x c;obtain⟨g,n,o⟩:=h x (bo c);refine⟨g,n,o,λq u=>?_⟩;obtain⟨j,A,e⟩:=mem_take_iff_getElem.1 u;obtain⟨y,z⟩:=List.getElem?_eq_some_iff.1 c;rw[nodup_iff_pairwise_ne,pairwise_iff_getElem]at d f
 grind
theorem ZC{b l}(h:Good (nT a b) l):(l.map Prod.fst).Nodup/\(l.map Prod.snd).Nodup:=by
 rw[nodup_iff_pairwise_ne,pairwise_iff_getElem,nodup_iff_pairwise_ne,pairwise_iff_getElem];refine⟨λi j e c d=>?_,λi j e c d=>?_⟩<;>
 .simp only[length_map]at e c;simp only[getElem_map];have:=(h j l[j] (bn c)).2.2.2 l[i] (mem_take_iff_getElem.2 ⟨i,aC,rfl⟩)
  first|exact this.1|exact this.2
theorem a2J{b on}(h:Good (nT a b) on):Good (nT b a) (qI on):=by
 obtain⟨f,g⟩:=ZC h;refine Pn (λx c=>?_) ?_ ?_
 .obtain⟨p,d,rfl⟩:=mem_map.1 c;have:=Da (P:=λp=>C9 a p.1=true/\C9 b p.2=true/\a.getD p.1.toNat 0=b.getD p.2.toNat 0) h (λe x t=>⟨t.1,t.2.1,t.2.2.1⟩) p d
  grind
 .unfold qI;grind
 .unfold qI;grind
theorem byX(h:Good (G2 a) gr):Good (nT a a) (sH gr):=by
 have u:gr.Nodup:=by
  rw[nodup_iff_pairwise_ne,pairwise_iff_getElem];intro i j y d f e;exact(h j gr[j] (bn d)).2 (by rw[<-e];exact mem_take_iff_getElem.2 ⟨i,aC,rfl⟩)
 refine Pn (λx g=>?_) ?_ ?_
 .obtain⟨c,n,rfl⟩:=mem_map.1 g;have:=Da (P:=λc=>C9 a c=true) h (λo x t=>t.1) c n
  grind
 .unfold sH;grind
 .unfold sH;grind
theorem a4Z{α β:Type}{f:α->β}:∀{l:List α},l.Nodup->(∀x∈l,∀y∈l,f x=f y->x=y)->(l.map f).Nodup
 |[],_,_=>ay
 |a::l,h,c=>by
  rw[nodup_cons]at h;rw[map_cons,nodup_cons];refine⟨λg=>?_,a4Z h.2 λx d y e=>c x (by simp[d]) y (by simp[e])⟩
  grind
theorem ZD(h:Good (λ_ c=>C9 a c=true) co):Good (nT a (co.map λc=>a.getD c.toNat 0)) (oS co):=by
 have g:((List.range co.length).filter λi=>decide (co.idxOf (co.getD i 0)=i)).Nodup:=List.Nodup.sublist filter_sublist nodup_range;refine Pn (λx e=>?_) ?_ ?_
 .obtain⟨i,j,rfl⟩:=mem_map.1 e;have d:i<co.length:=bg
  have f:co.getD i 0=co[i]:=by simp[d]
  have:=h i co[i] (bn d);dsimp only;rw[f];refine⟨this,fB.2 ⟨aC,bf⟩,?_⟩
  grind
 .unfold oS
  grind
 .unfold oS
  grind
theorem ZB{b}:Good (nT (a++b) b) (Av (a.length:Int) (b.length:Int)):=by
 have e:(List.range b.length).Nodup:=nodup_range;refine Pn (λx c=>?_) ?_ ?_
 .unfold Av at c;rw[Int.toNat_natCast]at c;obtain⟨i,f,rfl⟩:=mem_map.1 c;have d:i<b.length:=bg
  refine⟨fB.2 ⟨aC,bg⟩,fB.2 ⟨aC,aC⟩,?_⟩
  grind
 .unfold Av
  grind
 .unfold Av
  grind
theorem aGZ{K:cq}{a n}(h:a+n<=K.length):Good (λ_ c=>C9 K c=true) (gV a n):=by
 intro i x d;have:=bo d;unfold gV at this;obtain⟨j,e,rfl⟩:=mem_map.1 this;have:j<n:=bg
 exact fB.2 ⟨aC,aC⟩
theorem WT{K:cq}{a n}(h:a+n<=K.length):(gV a n).map (λc=>K.getD c.toNat 0)=(K.drop a).take n:=by
 unfold gV;rw[map_map,Int.toNat_natCast];apply ext_getElem?
 grind
theorem a0Z{K:cq}{n}(h:n<=K.length):(gV 0 n).map (λc=>K.getD c.toNat 0)=K.take n:=by
 have:=WT (K:=K) (a:=0) (n:=n) aC
 grind
theorem yD{s:jP}{ts:dg}{op on gr od li a b}(c:s.tables.length<=1000)(v:EW s ts)(d:ts.length<=100000)(e:arity op=2)(f:a<ts.length)(j:b<ts.length)(g:fR s (.mk op 0 fW [] on gr od li [aU ts a,aU ts b])):
 B4 s ts (bT ⟨op,0,fW,[],on,gr,od,li,a,b⟩ ts).1 (bT ⟨op,0,fW,[],on,gr,od,li,a,b⟩ ts).2 (.mk op 0 fW [] on gr od li [aU ts a,aU ts b]):=
 Mp (ks:=[a,b]) c v d (by rw[e];rfl) (λk n=>bg) rfl g
theorem Zc{s ts co a}(c:s.tables.length<=1000)(v:EW s ts)(d:ts.length<=100000)(e:a<ts.length)(g:fR s (G6 (aU ts a) co)):
 B4 s ts (bT (pA a co) ts).1 (bT (pA a co) ts).2 (G6 (aU ts a) co):=
 Mp (ks:=[a]) c v d rfl (λk f=>bg) rfl g
theorem B4.keep{c k q}(x:B4 s ts c k q)(d:i<ts.length):i<c.length/\aU c i=aU ts i:=⟨ck d x.pre.length_le,fL x.pre x.inv.ok i d⟩
structure AG(s:jP)(ts:dg)(rs:cq)(r:dg×cq)(qs:dc):Prop where
 inv:EW s r.1
 pre:ts<+:r.1
 ex:∃ds:dj,r.2=rs++ds.map (fun(d:Nat)=>(d:Int))/\(∀d∈ds,d<r.1.length)/\ds.map (aU r.1)=qs
theorem AG.comp{e z r f g}(x:AG s ts rs z f)(j:z.1<+:e)(y:AG s e z.2 r g):AG s ts rs r (f++g):=by
 obtain⟨o,D,u,A⟩:=x.ex;obtain⟨B,E,F,C⟩:=y.ex;have c:=j.trans y.pre;refine⟨y.inv,(x.pre.trans j).trans y.pre,o++B,bg,λd n=>?_,?_⟩
 .grind
 .rw[bu,C, <-A];congr 1;exact map_congr_left λd n=>fL c y.inv.ok d (u d n)
theorem AG.shift{c r q}(d:ts<+:c)(y:AG s c rs r q):AG s ts rs r q:=⟨y.inv,d.trans y.pre,y.ex⟩
theorem O4{q p op w on}(c:op≠1)(d:op≠4):gP 4 (.mk op ta w co on gr od li [q,p])=gP 4 q+gP 4 p:=by
 rw[gP,if_neg c,if_neg d];simp[wK]
theorem cXQ{q w on}:gP 4 (.mk 3 ta w co on gr od li [q])=gP 4 q:=by
 rw[gP,if_neg az,if_neg az];simp[wK]
theorem aIX{s:jP}{ts:dg}{p:PN}{gr:cq}{od li B b k}(j:s.tables.length<=1000)(v:EW s ts)(J:ts.length+5<=100000)(n:k<ts.length)(D:H6 s ts p)(e:(aK s [] (aU ts k)).1=(aK s [] p.q).1)(o:nJ (aK s [] p.q).1 gr od li)(E:gP 4 p.q<=B)(L:gP 4 (aU ts k)<=b)(F:b+2*B<=8000000):
 B4 s ts (BQ p k gr od li ts).1 (BQ p k gr od li ts).2 (DU (mH (eC p.q) (aU ts k) (sH gr)) p.q gr od li)/\(aK s [] (DU (mH (eC p.q) (aU ts k) (sH gr)) p.q gr od li)).1=(aK s [] p.q).1/\gP 4 (DU (mH (eC p.q) (aU ts k) (sH gr)) p.q gr od li)<=b+2*B:=by
 obtain⟨G,u,f,y,_,H,_⟩:=D.get;have ev:=Am _ H;have M:gP 4 (eC p.q)<=B:=cj ev.2.2 E;have g:(aK s [] (aU ts p.env)).1=(aK s [] p.q).1:=bg
 have z:=E0 (on:=sH gr) (v.good _ u) (v.good k n) (by rw[g,e];exact byX o.group_) bg;have A:=yD (on:=sH gr) (gr:=[]) (od:=[]) (li:=0) j v aC (show arity 5=2 from rfl) u n z.1;have I:=dW (dV p.env k (sH gr)) ts;have A:B4 s ts (bT (dV p.env k (sH gr)) ts).1 (bT (dV p.env k (sH gr)) ts).2 (mH (eC p.q) (aU ts k) (sH gr)):=by rw[<-y];exact A
 rw[y]at z;have O:gP 4 (mH (eC p.q) (aU ts k) (sH gr))<=b+B:=by unfold mH;rw[O4 az az];omega
 have c:=A.keep G;have d:(aK s [] (mH (eC p.q) (aU ts k) (sH gr))).1=(aK s [] p.q).1:=bg
 have C:=a2Q (gr:=gr) (od:=od) (li:=li) (A.inv.good _ A.lt) (A.inv.good _ c.1) (by rw[A.is,c.2,f,d]) (by rw[A.is,d];exact o) (by rw[A.is,c.2,f];omega);have A2:=yD (on:=[]) (gr:=gr) (od:=od) (li:=li) j A.inv aC (show arity 10=2 from rfl) A.lt c.1 C.1;rw[A.is,c.2,f]at C A2;refine⟨⟨A2.inv,A.pre.trans A2.pre,A2.lt,A2.is⟩,bg,?_⟩;unfold DU;rw[O4 az az];omega
set_option maxHeartbeats 32000000 in
theorem xA{s:jP}(o:eK s=0):∀(p:PN)(B W b k:Nat)(ts:dg)(rs:cq),H6 s ts p->EW s ts->k<ts.length->(aK s [] (aU ts k)).1=(aK s [] p.q).1->gP 4 p.q<=B->2*B<=W->gP 4 (aU ts k)<=b->b+W*lE p<=8000000->ts.length+5*lE p<=100000->
 AG s ts rs (gM p k ts rs) (mU (qX s) p.q (aU ts k))
 |.mk (.mk op ta w co on gr od li a6) args r e wd,B,W,b,k,ts,rs,hp,v,E,f,hB,M,hb,H,hl=>by
  have R:=WW o;have b5:=hp;rw[H6]at hp;obtain⟨_,_,_,_,_,g,ha,L⟩:=hp;have ha:a6=args.map PN.q:=ha;subst ha;have hB:gP 4 (.mk op ta w co on gr od li (args.map PN.q))<=B:=hB;have f:(aK s [] (aU ts k)).1=(aK s [] (.mk op ta w co on gr od li (args.map PN.q))).1:=f;show AG s ts rs _ (mU (qX s) (.mk op ta w co on gr od li (args.map PN.q)) (aU ts k));obtain⟨n,b6,I,ga⟩:=g.node;have gD:=v.good k E;have J:∀a∈args,gP 4 a.q<=B:=λa h=>cj (aRZ g (mem_map.2 ⟨a,h,rfl⟩)) hB;have eB:∀a∈args,gP 4 (eC a.q)<=B:=λa h=>cj (Am _ (ga _ (mem_map.2 ⟨a,h,rfl⟩))).2.2 (J a h);have eg:∀a∈args,(aK s [] (eC a.q)).1=(aK s [] a.q).1:=λa h=>(Am _ (ga _ (mem_map.2 ⟨a,h,rfl⟩))).2.1;have X:∀a∈args,a.rows<ts.length/\a.env<ts.length/\aU ts a.rows=a.q/\aU ts a.env=eC a.q/\a.width=qX s a.q/\fR s a.q:=λa h=>let x:=(L a h).get;⟨x.1,x.2.1,x.2.2.1,x.2.2.2.1,x.2.2.2.2.1,x.2.2.2.2.2.1⟩
  rw[n.out]at f;rw[length_map]at I;rw[gM.eq_def,mU.eq_def];simp only[lE]at H hl;have a9:op=1\/op=2\/op=3\/op=9\/op=4\/op=5\/op=6\/op=7\/op=8\/op=10:=by omega
  rcases a9 with rfl|rfl|rfl|rfl|rfl|rfl|rfl|rfl|rfl|rfl
  .obtain rfl:args=[]:=eq_nil_of_length_eq_zero (by have:arity 1=0:=rfl;omega);exact⟨v,prefix_refl _,[k],rfl,λd hd=>by simp at hd;subst hd;exact E,rfl⟩
  .obtain⟨a,rfl⟩:=FL (l:=args) (by rw[I];rfl);simp only[sO]at H hl;have e1:W*(1+(lE a+0))=W+W*lE a:=bg
   exact xA o a B W b k ts rs (L a ay) v E f (J a ay) M hb aC aC
  .obtain⟨a,rfl⟩:=FL (l:=args) (by rw[I];rfl);simp only[sO]at H hl;have e1:W*(1+(lE a+0))=W+W*lE a:=bg
   obtain⟨_,g2,_,g4,_,g6⟩:=X a ay;have g1:=eB a ay;have gE:fR s (aU ts a.env):=v.good _ g2;have O:(aK s [] (aU ts a.env)).1=(aK s [] a.q).1:=bg
   have S:=E0 (on:=oS co) gE gD (by rw[O,f];exact ZD (n.proj rfl).2) bg;have A:=yD (on:=oS co) (gr:=[]) (od:=[]) (li:=0) R v aC (show arity 5=2 from rfl) g2 E S.1;have a2:=dW (dV a.env k (oS co)) ts;have A:B4 s ts (bT (dV a.env k (oS co)) ts).1 (bT (dV a.env k (oS co)) ts).2 (mH (eC a.q) (aU ts k) (oS co)):=by rw[<-g4];exact A
   show AG s ts rs (gM a (bT (dV a.env k (oS co)) ts).2 (bT (dV a.env k (oS co)) ts).1 rs) (mU (qX s) a.q (mH (eC a.q) (aU ts k) (oS co)));have:=xA o a B W (b+2*B) _ _ rs (H6.mono A.pre A.inv.ok a (L a ay)) A.inv A.lt (by rw[A.is, <-g4,S.2];exact O) (J a ay) M (by rw[A.is];unfold mH;rw[O4 az az];omega) aC aC;rw[A.is]at this;exact this.shift A.pre
  .obtain⟨a,rfl⟩:=FL (l:=args) (by rw[I];rfl);simp only[sO]at H hl;have e1:W*(1+(lE a+0))=W+W*lE a:=bg
   obtain⟨g0,g2,T,g4,_,g6⟩:=X a ay;have g1:=eB a ay;have a3:nJ (aK s [] a.q).1 gr od li:=n.rank (.inl rfl);have f:(aK s [] (aU ts k)).1=(aK s [] a.q).1:=f;have P:=aIX (gr:=gr) (od:=od) (li:=li) R v aC E (L a ay) f a3 (J a ay) hb aC;show AG s ts rs (gM a (BQ a k gr od li ts).2 (BQ a k gr od li ts).1 rs) (mU (qX s) a.q (DU (mH (eC a.q) (aU ts k) (sH gr)) a.q gr od li));have a2:=C3 a k gr od li ts;have:=xA o a B W (b+2*B) _ _ rs (H6.mono P.1.pre P.1.inv.ok a (L a ay)) P.1.inv P.1.lt (by rw[P.1.is];exact P.2.1) (J a ay) M (by rw[P.1.is];exact P.2.2) aC aC;rw[P.1.is]at this;exact this.shift P.1.pre
  .obtain⟨a,c,rfl⟩:=rW (l:=args) (by rw[I];rfl);simp only[sO]at H hl;have e1:W*(1+(lE a+(lE c+0)))=W+W*lE a+W*lE c:=bg
   obtain⟨g0,g2,T,g4,g5,g6⟩:=X a ay;obtain⟨k0,Y,k3,U,k5,k6⟩:=X c ay;have f:(aK s [] (aU ts k)).1=(aK s [] a.q).1++(aK s [] c.q).1:=f;have pa:=M0 o _ g6;have pb:=M0 o _ k6;have b0:=lV s [] (aU ts k);rw[f,br]at b0;have b1:=J c ay;have S:=E0 (on:=Av a.width c.width) gD (v.good _ k0) (by rw[f,k3,g5,k5];exact ZB) bg;have A:=yD (on:=Av a.width c.width) (gr:=[]) (od:=[]) (li:=0) R v aC (show arity 5=2 from rfl) E k0 S.1;have A:B4 s ts (bT (dV k c.rows (Av a.width c.width)) ts).1 (bT (dV k c.rows (Av a.width c.width)) ts).2 (mH (aU ts k) c.q (Av a.width c.width)):=by rw[<-k3];exact A
   have a2:=dW (dV k c.rows (Av a.width c.width)) ts;rw[k3]at S;have b':(aK s [] (mH (aU ts k) c.q (Av a.width c.width))).1=(aK s [] a.q).1++(aK s [] c.q).1:=bg
   have b2:∀(K1 K2:cq),0<K1.length->(gV 0 (K1.length:Int))≠[]:=λK1 K2 h e=>by
    have:=congrArg List.length e;simp[gV]at this
    grind
   have V:a.width=((aK s [] a.q).1.length:Int):=g5;have a4:c.width=((aK s [] c.q).1.length:Int):=k5;have bX:gP 4 (mH (aU ts k) c.q (Av a.width c.width))<=b+B:=by unfold mH;rw[O4 az az];omega
   have pg:=S7 (a:=mH (aU ts k) c.q (Av a.width c.width)) (co:=gV 0 a.width) S.1 (by rw[V];exact b2 _ [] pa) (by rw[b',V];exact aGZ (a:=0) ay) (by rw[V];simp[gV];omega) aC;rw[<-A.is]at pg;have P:=Zc (co:=gV 0 a.width) R A.inv aC A.lt pg.1;have b7:=dW (pA (bT (dV k c.rows (Av a.width c.width)) ts).2 (gV 0 a.width)) (bT (dV k c.rows (Av a.width c.width)) ts).1;have a5:=A.pre.trans P.pre;rw[A.is]at pg P;have R1:=xA o a B W (b+B) _ _ rs (H6.mono a5 P.inv.ok a (L a ay)) P.inv P.lt (by rw[P.is,pg.2,b',V,a0Z ay];simp) (J a ay) M (by rw[P.is];unfold G6;rw[cXQ];exact bX) aC aC;rw[P.is]at R1;have R1:=R1.shift a5;have a0:=iS a (bT (pA (bT (dV k c.rows (Av a.width c.width)) ts).2 (gV 0 a.width)) (bT (dV k c.rows (Av a.width c.width)) ts).1).2 (bT (pA (bT (dV k c.rows (Av a.width c.width)) ts).2 (gV 0 a.width)) (bT (dV k c.rows (Av a.width c.width)) ts).1).1 rs;show AG s ts rs (gM c _ _ _) (mU (qX s) a.q (G6 (mH (aU ts k) c.q (Av (qX s a.q) (qX s c.q))) (gV 0 (qX s a.q)))++mU (qX s) c.q (G6 (aU ts k) (gV (qX s a.q) (qX s c.q))));rw[<-g5, <-k5];generalize hZ:gM a (bT (pA (bT (dV k c.rows (Av a.width c.width)) ts).2 (gV 0 a.width)) (bT (dV k c.rows (Av a.width c.width)) ts).1).2 (bT (pA (bT (dV k c.rows (Av a.width c.width)) ts).2 (gV 0 a.width)) (bT (dV k c.rows (Av a.width c.width)) ts).1).1 rs=Z at*
   have j:k<Z.1.length/\aU Z.1 k=aU ts k:=⟨ck E R1.pre.length_le,fL R1.pre R1.inv.ok k E⟩
   have a7:=S7 (a:=aU Z.1 k) (co:=gV a.width c.width) (R1.inv.good k j.1) (λe=>by
    have:=congrArg List.length e;rw[a4]at this;simp[gV]at this
    grind) (by rw[j.2,f,V,a4];exact aGZ ay) (by rw[a4];simp[gV];omega) bg
   have P2:=Zc (co:=gV a.width c.width) R R1.inv aC j.1 a7.1;have a1:=dW (pA k (gV a.width c.width)) Z.1;have y:=R1.pre.trans P2.pre;rw[j.2]at a7 P2;have R2:=xA o c B W b _ _ Z.2 (H6.mono y P2.inv.ok c (L c ay)) P2.inv P2.lt (by rw[P2.is,a7.2,f,V,a4,WT ay];simp) (J c ay) M (by rw[P2.is];unfold G6;rw[cXQ];exact hb) aC aC;rw[P2.is]at R2;exact R1.comp P2.pre R2
  .obtain⟨a,c,rfl⟩:=rW (l:=args) (by rw[I];rfl);simp only[sO]at H hl;have e1:W*(1+(lE a+(lE c+0)))=W+W*lE a+W*lE c:=bg
   obtain⟨g0,g2,T,g4,g5,g6⟩:=X a ay;obtain⟨k0,Y,k3,U,k5,k6⟩:=X c ay;have f:(aK s [] (aU ts k)).1=(aK s [] a.q).1:=f;have b3:Good (nT (aK s [] a.q).1 (aK s [] c.q).1) on:=n.pair (.inr rfl);have b1:=J c ay;have a8:=eB c ay;have S:=E0 (on:=on) gD (v.good _ k0) bg bg;have A:=yD (on:=on) (gr:=[]) (od:=[]) (li:=0) R v aC (show arity 5=2 from rfl) E k0 S.1;have A:B4 s ts (bT (dV k c.rows on) ts).1 (bT (dV k c.rows on) ts).2 (mH (aU ts k) c.q on):=by rw[<-k3];exact A
   have a2:=dW (dV k c.rows on) ts;rw[k3]at S;have bX:gP 4 (mH (aU ts k) c.q on)<=b+B:=by unfold mH;rw[O4 az az];omega
   have R1:=xA o a B W (b+B) _ _ rs (H6.mono A.pre A.inv.ok a (L a ay)) A.inv A.lt (by rw[A.is,S.2];exact f) (J a ay) M (by rw[A.is];exact bX) aC aC;rw[A.is]at R1;have R1:=R1.shift A.pre;have a0:=iS a (bT (dV k c.rows on) ts).2 (bT (dV k c.rows on) ts).1 rs;show AG s ts rs (gM c _ _ _) (mU (qX s) a.q (mH (aU ts k) c.q on)++mU (qX s) c.q (mH (eC c.q) (aU ts k) (qI on)));generalize hZ:gM a (bT (dV k c.rows on) ts).2 (bT (dV k c.rows on) ts).1 rs=Z at*
   have j:k<Z.1.length/\aU Z.1 k=aU ts k:=⟨ck E R1.pre.length_le,fL R1.pre R1.inv.ok k E⟩
   have u:c.env<Z.1.length/\aU Z.1 c.env=aU ts c.env:=⟨ck Y R1.pre.length_le,fL R1.pre R1.inv.ok _ Y⟩
   have O:(aK s [] (eC c.q)).1=(aK s [] c.q).1:=eg c ay;have z:=E0 (on:=qI on) (R1.inv.good _ u.1) (R1.inv.good k j.1) (by rw[u.2,j.2,U,O,f];exact a2J b3) bg;have P2:=yD (on:=qI on) (gr:=[]) (od:=[]) (li:=0) R R1.inv aC (show arity 5=2 from rfl) u.1 j.1 z.1;have P2:B4 s Z.1 (bT (dV c.env k (qI on)) Z.1).1 (bT (dV c.env k (qI on)) Z.1).2 (mH (eC c.q) (aU ts k) (qI on)):=by rw[<-U, <-u.2, <-j.2];exact P2
   have a1:=dW (dV c.env k (qI on)) Z.1;rw[u.2,j.2,U]at z;have y:=R1.pre.trans P2.pre;have R2:=xA o c B W (b+B) _ _ Z.2 (H6.mono y P2.inv.ok c (L c ay)) P2.inv P2.lt (by rw[P2.is,z.2];exact O) (J c ay) M (by rw[P2.is];unfold mH;rw[O4 az az];omega) aC aC;rw[P2.is]at R2;exact R1.comp P2.pre R2
  .obtain⟨a,c,rfl⟩:=rW (l:=args) (by rw[I];rfl);simp only[sO]at H hl;have e1:W*(1+(lE a+(lE c+0)))=W+W*lE a+W*lE c:=bg
   obtain⟨g0,g2,T,g4,g5,g6⟩:=X a ay;obtain⟨k0,Y,k3,U,k5,k6⟩:=X c ay;have f:(aK s [] (aU ts k)).1=(aK s [] a.q).1:=f;have C:(aK s [] a.q).1=(aK s [] c.q).1:=n.same (.inl rfl);have be:=eB a ay;have a8:=eB c ay;have O:(aK s [] (eC a.q)).1=(aK s [] a.q).1:=eg a ay;have F:(aK s [] (eC c.q)).1=(aK s [] c.q).1:=eg c ay;have S:=AR (v.good _ g2) gD bg bg;have A:=yD (on:=[]) (gr:=[]) (od:=[]) (li:=0) R v aC (show arity 8=2 from rfl) g2 E S.1;have A:B4 s ts (bT (cO a.env k) ts).1 (bT (cO a.env k) ts).2 (kB (eC a.q) (aU ts k)):=by rw[<-g4];exact A
   have a2:=dW (cO a.env k) ts;rw[g4]at S;have R1:=xA o a B W (b+B) _ _ rs (H6.mono A.pre A.inv.ok a (L a ay)) A.inv A.lt (by rw[A.is,S.2];exact O) (J a ay) M (by rw[A.is];unfold kB;rw[O4 az az];omega) aC aC;rw[A.is]at R1;have R1:=R1.shift A.pre;have a0:=iS a (bT (cO a.env k) ts).2 (bT (cO a.env k) ts).1 rs;show AG s ts rs (gM c _ _ _) (mU (qX s) a.q (kB (eC a.q) (aU ts k))++mU (qX s) c.q (kB (eC c.q) (aU ts k)));generalize hZ:gM a (bT (cO a.env k) ts).2 (bT (cO a.env k) ts).1 rs=Z at*
   have j:k<Z.1.length/\aU Z.1 k=aU ts k:=⟨ck E R1.pre.length_le,fL R1.pre R1.inv.ok k E⟩
   have u:c.env<Z.1.length/\aU Z.1 c.env=aU ts c.env:=⟨ck Y R1.pre.length_le,fL R1.pre R1.inv.ok _ Y⟩
   have z:=AR (R1.inv.good _ u.1) (R1.inv.good k j.1) bg bg;have P2:=yD (on:=[]) (gr:=[]) (od:=[]) (li:=0) R R1.inv aC (show arity 8=2 from rfl) u.1 j.1 z.1;have P2:B4 s Z.1 (bT (cO c.env k) Z.1).1 (bT (cO c.env k) Z.1).2 (kB (eC c.q) (aU ts k)):=by rw[<-U, <-u.2, <-j.2];exact P2
   have a1:=dW (cO c.env k) Z.1;rw[u.2,j.2,U]at z;have y:=R1.pre.trans P2.pre;have R2:=xA o c B W (b+B) _ _ Z.2 (H6.mono y P2.inv.ok c (L c ay)) P2.inv P2.lt (by rw[P2.is,z.2];exact F) (J c ay) M (by rw[P2.is];unfold kB;rw[O4 az az];omega) aC aC;rw[P2.is]at R2;exact R1.comp P2.pre R2
  .obtain⟨a,c,rfl⟩:=rW (l:=args) (by rw[I];rfl);simp only[sO]at H hl;have e1:W*(1+(lE a+(lE c+0)))=W+W*lE a+W*lE c:=bg
   obtain⟨g0,g2,T,g4,g5,g6⟩:=X a ay;obtain⟨k0,Y,k3,U,k5,k6⟩:=X c ay;have f:(aK s [] (aU ts k)).1=(aK s [] a.q).1:=f;have C:(aK s [] a.q).1=(aK s [] c.q).1:=n.same (.inr (.inl rfl));have ba:=J a ay;have a8:=eB c ay;have F:(aK s [] (eC c.q)).1=(aK s [] c.q).1:=eg c ay;have R1:=xA o a B W b k ts rs (L a ay) v E f ba M hb aC aC;have a0:=iS a k ts rs;show AG s ts rs (gM c _ _ _) (mU (qX s) a.q (aU ts k)++mU (qX s) c.q (kB (kB (eC c.q) (aU ts k)) a.q));generalize hZ:gM a k ts rs=Z at*
   have j:k<Z.1.length/\aU Z.1 k=aU ts k:=⟨ck E R1.pre.length_le,fL R1.pre R1.inv.ok k E⟩
   have u:c.env<Z.1.length/\aU Z.1 c.env=aU ts c.env:=⟨ck Y R1.pre.length_le,fL R1.pre R1.inv.ok _ Y⟩
   have G:a.rows<Z.1.length/\aU Z.1 a.rows=aU ts a.rows:=⟨ck g0 R1.pre.length_le,fL R1.pre R1.inv.ok _ g0⟩
   have z:=AR (R1.inv.good _ u.1) (R1.inv.good k j.1) bg bg;have P2:=yD (on:=[]) (gr:=[]) (od:=[]) (li:=0) R R1.inv aC (show arity 8=2 from rfl) u.1 j.1 z.1;have P2:B4 s Z.1 (bT (cO c.env k) Z.1).1 (bT (cO c.env k) Z.1).2 (kB (eC c.q) (aU ts k)):=by rw[<-U, <-u.2, <-j.2];exact P2
   have a1:=dW (cO c.env k) Z.1;rw[u.2,j.2,U]at z;have bX:gP 4 (kB (eC c.q) (aU ts k))<=b+B:=by unfold kB;rw[O4 az az];omega
   have D:=P2.keep G.1;have Q:=AR (P2.inv.good _ P2.lt) (P2.inv.good _ D.1) (by rw[P2.is,D.2,G.2,T,z.2,F,C]) (by rw[P2.is,D.2,G.2,T];omega);have P3:=yD (on:=[]) (gr:=[]) (od:=[]) (li:=0) R P2.inv aC (show arity 8=2 from rfl) P2.lt D.1 Q.1;have P3:B4 s (bT (cO c.env k) Z.1).1 (bT (cO (bT (cO c.env k) Z.1).2 a.rows) (bT (cO c.env k) Z.1).1).1 (bT (cO (bT (cO c.env k) Z.1).2 a.rows) (bT (cO c.env k) Z.1).1).2 (kB (kB (eC c.q) (aU ts k)) a.q):=by rw[<-P2.is, <-T, <-G.2, <-D.2];exact P3
   have b4:=dW (cO (bT (cO c.env k) Z.1).2 a.rows) (bT (cO c.env k) Z.1).1;rw[P2.is,D.2,G.2,T]at Q;have y:=(R1.pre.trans P2.pre).trans P3.pre;have R2:=xA o c B W (b+2*B) _ _ Z.2 (H6.mono y P3.inv.ok c (L c ay)) P3.inv P3.lt (by rw[P3.is,Q.2,z.2];exact F) (J c ay) M (by rw[P3.is];unfold kB at bX⊢;rw[O4 az az];omega) aC aC;rw[P3.is]at R2;exact R1.comp (P2.pre.trans P3.pre) R2
  .obtain⟨a,c,rfl⟩:=rW (l:=args) (by rw[I];rfl);simp only[sO]at H hl;have e1:W*(1+(lE a+(lE c+0)))=W+W*lE a+W*lE c:=bg
   obtain⟨g0,g2,T,g4,g5,g6⟩:=X a ay;obtain⟨k0,Y,k3,U,k5,k6⟩:=X c ay;have f:(aK s [] (aU ts k)).1=(aK s [] a.q).1:=f;have C:(aK s [] a.q).1=(aK s [] c.q).1:=n.same (.inr (.inr (.inl rfl)));have ba:=J a ay;have a8:=eB c ay;have F:(aK s [] (eC c.q)).1=(aK s [] c.q).1:=eg c ay;have R1:=xA o a B W b k ts rs (L a ay) v E f ba M hb aC aC;have a0:=iS a k ts rs;show AG s ts rs (gM c _ _ _) (mU (qX s) a.q (aU ts k)++mU (qX s) c.q (kB (kB (eC c.q) (aU ts k)) a.q));generalize hZ:gM a k ts rs=Z at*
   have j:k<Z.1.length/\aU Z.1 k=aU ts k:=⟨ck E R1.pre.length_le,fL R1.pre R1.inv.ok k E⟩
   have u:c.env<Z.1.length/\aU Z.1 c.env=aU ts c.env:=⟨ck Y R1.pre.length_le,fL R1.pre R1.inv.ok _ Y⟩
   have G:a.rows<Z.1.length/\aU Z.1 a.rows=aU ts a.rows:=⟨ck g0 R1.pre.length_le,fL R1.pre R1.inv.ok _ g0⟩
   have z:=AR (R1.inv.good _ u.1) (R1.inv.good k j.1) bg bg;have P2:=yD (on:=[]) (gr:=[]) (od:=[]) (li:=0) R R1.inv aC (show arity 8=2 from rfl) u.1 j.1 z.1;have P2:B4 s Z.1 (bT (cO c.env k) Z.1).1 (bT (cO c.env k) Z.1).2 (kB (eC c.q) (aU ts k)):=by rw[<-U, <-u.2, <-j.2];exact P2
   have a1:=dW (cO c.env k) Z.1;rw[u.2,j.2,U]at z;have bX:gP 4 (kB (eC c.q) (aU ts k))<=b+B:=by unfold kB;rw[O4 az az];omega
   have D:=P2.keep G.1;have Q:=AR (P2.inv.good _ P2.lt) (P2.inv.good _ D.1) (by rw[P2.is,D.2,G.2,T,z.2,F,C]) (by rw[P2.is,D.2,G.2,T];omega);have P3:=yD (on:=[]) (gr:=[]) (od:=[]) (li:=0) R P2.inv aC (show arity 8=2 from rfl) P2.lt D.1 Q.1;have P3:B4 s (bT (cO c.env k) Z.1).1 (bT (cO (bT (cO c.env k) Z.1).2 a.rows) (bT (cO c.env k) Z.1).1).1 (bT (cO (bT (cO c.env k) Z.1).2 a.rows) (bT (cO c.env k) Z.1).1).2 (kB (kB (eC c.q) (aU ts k)) a.q):=by rw[<-P2.is, <-T, <-G.2, <-D.2];exact P3
   have b4:=dW (cO (bT (cO c.env k) Z.1).2 a.rows) (bT (cO c.env k) Z.1).1;rw[P2.is,D.2,G.2,T]at Q;have y:=(R1.pre.trans P2.pre).trans P3.pre;have R2:=xA o c B W (b+2*B) _ _ Z.2 (H6.mono y P3.inv.ok c (L c ay)) P3.inv P3.lt (by rw[P3.is,Q.2,z.2];exact F) (J c ay) M (by rw[P3.is];unfold kB at bX⊢;rw[O4 az az];omega) aC aC;rw[P3.is]at R2;exact R1.comp (P2.pre.trans P3.pre) R2
  .obtain⟨a,c,rfl⟩:=rW (l:=args) (by rw[I];rfl);simp only[sO]at H hl;have e1:W*(1+(lE a+(lE c+0)))=W+W*lE a+W*lE c:=bg
   have f:(aK s [] (aU ts k)).1=(aK s [] a.q).1:=f;have C:(aK s [] a.q).1=(aK s [] c.q).1:=n.same (.inr (.inr (.inr rfl)));have a3:nJ (aK s [] a.q).1 gr od li:=n.rank (.inr rfl);rw[C]at a3;have R1:=xA o a B W b k ts rs (L a ay) v E f (J a ay) M hb aC aC;have a0:=iS a k ts rs;show AG s ts rs (gM c _ _ _) (mU (qX s) a.q (aU ts k)++mU (qX s) c.q (DU (mH (eC c.q) (aU ts k) (sH gr)) c.q gr od li));generalize hZ:gM a k ts rs=Z at*
   have j:k<Z.1.length/\aU Z.1 k=aU ts k:=⟨ck E R1.pre.length_le,fL R1.pre R1.inv.ok k E⟩
   have P:=aIX (gr:=gr) (od:=od) (li:=li) (B:=B) (b:=b) R R1.inv aC j.1 (H6.mono R1.pre R1.inv.ok c (L c ay)) bg a3 (J c ay) bg aC;rw[j.2]at P;have a1:=C3 c k gr od li Z.1;have y:=R1.pre.trans P.1.pre;have R2:=xA o c B W (b+2*B) _ _ Z.2 (H6.mono y P.1.inv.ok c (L c ay)) P.1.inv P.1.lt (by rw[P.1.is];exact P.2.1) (J c ay) M (by rw[P.1.is];exact P.2.2) aC aC;rw[P.1.is]at R2;exact R1.comp P.1.pre R2
 termination_by p=>SizeOf.sizeOf p
def cJJ:Vc.Spec:=λd m h K=>∃(s:Sl)(g:Nat)(c:cr)(l:ct)(p:da->Bool),d=[cS s,.val (.func (.func g) #[] ⟨c⟩)]/\Rows h s l/\l.length<=8000000/\(∀(u:Sl)(r:da),r∈l->bS h u r->FAt Tryz.prog g 4 (cS u::c.map .val) m h (λx m' h'=>x=[.bool (p r)]/\m'=m/\h'=h))/\
 ∀e h',PH.le h h'->Rows h' e (l.filter p)->K (cS e) m h'
def cKZ:Vc.Spec:=λc m h K=>∃s u l r,c=[cS s,cS u,.val (.func (.func 93) #[] #[])]/\Rows h s l/\mG l/\bS h u r/\l.length<=8000000/\K (.tup [cI ((l.countP λy=>decide (eZ y r<0):Nat):Int),cB (JF l r)]) m h
def cbJ:Vc.Spec:=λc m h K=>∃s u l r,c=[cS s,cS u]/\Rows h s l/\mG l/\bS h u r/\l.length<=8000000/\K (cB (JF l r)) m h
def U4:Vc.Spec:=λc m h K=>∃s l,c=[cS s]/\Rows h s l/\l.length<=8000000/\(∀r∈l,r.length<=1000)/\∀d h',PH.le h h'->Rows h' d l->K (cS d) m h'
def rF(r:da):ByteArray:=⟨(r.flatMap Aq).toArray⟩
def U2:Vc.Spec:=λd m h K=>∃s t r c,d=[cS s,cS t]/\bS h s r/\Ints h t c/\Pb r/\jM r.length c/\eD m/\K (SJ (rF (pick r c))) m h
def aXZ:Vc.Spec:=λc m h K=>∃n:Nat,c=[.val (.slice none 0 0),cI n]/\n<=32000000/\K (.lst 65 1 []) m h
def U5:Vc.Spec:=λc m h K=>∃f d e,c=[cS f]/\Leaves h f [d,e]/\d.length<=8000000/\e.length<=8000000/\∀g h',PH.le h h'->Rows h' g (d++e)->K (cS g) m h'
noncomputable def ckX s g c m h:=
 rI [] [(3,{A:=Nat×cu,st:=λ⟨i,d⟩=>bZ 23 25 [(1,vv (.func (.func g) #[] ⟨c⟩)),(5,.at (.lst 20)),(8,sv s),(9,iv s.len),(10,iv i)] [(20,.lst 65 1 (d.map eS))] m h})] [] [] [510004] [] false
noncomputable def bOJ s u m h:=
 dJ [(93,JI)] [(3,{A:=Nat×Nat,st:=λ⟨i,j⟩=>bZ 49 52 [(0,sv s),(1,sv u),(2,vv (.func (.func 93) #[] #[])),(8,iv s.len),(9,iv i),(10,iv j)] [] m h})] [] [] false
noncomputable def f51_ctx s m:=
 dJ [(57,P8)] [(3,{A:=Nat×cu×PH,st:=λ⟨i,c,h⟩=>bZ 23 24 [(3,.at (.lst 8)),(9,sv s),(10,iv s.len),(11,iv i)] [(8,.lst 65 1 (c.map eS))] m h})] [] [] false
noncomputable def bWJ s t m h:=
 rI [(162,cNZ)] [(3,{A:=Nat×dh,st:=λ⟨i,l⟩=>bZ 23 25 [(0,sv s),(5,.at (.lst 19)),(8,sv t),(9,iv t.len),(10,iv i)] [(19,.lst 5 1 (aY l))] m h})] [] [] [] [(162,[0])] false
noncomputable def bWZ c m h:=
 dJ [(163,aXZ)] [(3,{A:=Nat×Nat,st:=λ⟨i,n⟩=>bZ 36 37 [(0,sv c),(3,iv n),(9,sv c),(10,iv c.len),(11,iv i)] [] m h}),
  (11,{A:=Nat×cu,st:=λ⟨i,l⟩=>bZ 36 37 [(6,.at (.lst 24)),(25,sv c),(26,iv c.len),(27,iv i)] [(24,.lst 65 1 (l.map eS))] m h})] [] [] false
def XJ s g c m h K:=
  ∃(I:Nat×cu->Prop)(n:Nat×cu->Nat),(∃(x:Nat×cu),aA (I x) (CW (Fn.func g) (Array.mk c)) (aA (eL 20) (aJ s) (aA (bJ s) (bE x.1) (aA (F6 x.2) (m=m) (bU h h)))))/\∀(x:Nat×cu),I x->bA (↑x.1:Int) (aG s) (bK (λb o=>aI (aW s.a b o) (0<=(↑x.1:Int)) ((↑x.1:Int)<aG s) (∃(y:Sl),aL m h b (o+bM x.1 1) (aM y)/\∃(R:Bool->MH->PH->Prop),CJ g 4 (dE y (List.map CV.val c)) m h (λl e f=>∃(j:Bool),l=uA j/\R j e f)/\∀(j:Bool),eX (λe f=>hX (R j e f) j (aA (kP (iC x.2)) (dR (iC x.2)) (∃(d:Nat×cu),aA (I d) (n d<n x) (aA (CW (Fn.func g) (Array.mk c)) (eL 20) (aA (aJ s) (bJ s) (aA (gX (bH x.1 1)=bP d.1) (Cu (iC x.2) y d.2) (eG e m f
 h)))))) (∃(d:Nat×cu),aA (I d) (n d<n x) (aA (CW (Fn.func g) (Array.mk c)) (eL 20) (aA (aJ s) (bJ s) (aA (gX (bH x.1 1)=bP d.1) (Bu x.2 d.2) (eG e m f h))))))))) (uM h (iC x.2) K m)
noncomputable abbrev Io(a:Nat×Nat):=fM (Int.fdiv (QU (bH a.1 (↑a.2:Int))) 2)
attribute [push_cast] Io
def Ua(s u:Sl)(m:MH)(h:PH)(K:cn):=
  IP (λI x=>aA (I x) (aJ s) (aA (aJ u) (Bm 93) (aA (bJ s) (bE x.1) (aA (bP s.len=bP x.2) (m=m) (bU h h))))) (λI f x=>I x->bA (↑x.1:Int) (↑x.2:Int) (bK (λb o=>aI (aW s.a b o) (0<=Io x) (Io x<aG s) (∃(y:Sl),aL m h b (o+iA (Io x) 1) (aM y)/\∃(d:Sl),pB (λt a=>∃(e:da),aI (cJ y u=cJ d t) (bS h d a) (bS h t e) (bA (eZ a e) 0 (∃(c:Nat×Nat),aA (I c) (f c<f x) (aA (aJ s) (aJ u) (aA (Bm 93) (bJ s) (aA (SV.at (At.val (fV (fM (Io x+1))))=bP c.1) (cG x.2 c.2) (eG m m h h))))) (∃(c:Nat×Nat),aA (I c) (f c<f x) (aA (aJ s) (aJ u) (aA (Bm 93) (bJ s) (aA (cG x.1 c.1) (SV.at (At.val (fV (Io x)))=bP c.2) (eG m m h h)))))))))) (bA
 (↑x.1:Int) (aG s) (bK (λb o=>aI (aW s.a b o) (0<=(↑x.1:Int)) ((↑x.1:Int)<aG s) (∃(y:Sl),aL m h b (o+bM x.1 1) (aM y)/\∃(d:Sl),pB (λt a=>∃(e:da),aI (cJ y u=cJ d t) (bS h d a) (bS h t e) (K (CV.tup (gC (gG (↑x.1:Int)) (As (eZ a e==0)))) m h))))) (K (CV.tup (gC (gG (↑x.1:Int)) bG)) m h)))
abbrev Cb(a:ct):=a.length<=8000000
attribute [push_cast] Cb
def boZ(s u:Sl)(m:MH)(h:PH)(K:cn):=
  J0 (λc d l r=>aA (dE s (gT u (mR 93 sR))=dE c (gT d (mR 93 sR))) (Rows h c l) (aA (mG l) (bS h d r) (Cb l/\K (As (JF l r)) m h)))
def ak s m h K:=
  Bt s 24 (PE (λI x=>aA (I x) (eL 8) (aA (aJ s) (bJ s) (aA (bE x.1) (bV 65 1 (Ea s)=nX 65 x.2.1) (aA (m=m) (h=pE x) True)))) (λI d x=>I x->bA (↑x.1:Int) (aG s) (bK (λb o=>aI (aW s.a b o) (0<=(↑x.1:Int)) ((↑x.1:Int)<aG s) (∃(y:Sl),aL m (pE x) b (o+bM x.1 1) (aM y)/\IA y (pE x) (λf g=>pP (↑x.1:Int) (wQ x) (λe=>aA (mQ (wQ x) (pD x.1) e) (xP e) (∃(c:Nat×cu×PH),aA (I c) (d c<d x) (aA (eL 8) (aJ s) (aA (bJ s) (gX (bH x.1 1)=bP c.1) (aA (CQ 65 1 (wQ x) x.1 f e (nX 65 c.2.1)) (m=m) (bU g (pE c))))))))))) (uM (pE x) (wQ x) K m)))
def UI(s t:Sl)(m:MH)(h:PH)(K:cn):=
  PF (λI x=>aA (I x) (aJ s) (aA (eL 19) (aJ t) (aA (bJ t) (bE x.1) (aA (vD 5 1 (v7 x)) (m=m) (bU h h))))) (λI e x=>I x->bA (↑x.1:Int) (aG t) (bK (λb o=>aI (aW t.a b o) (0<=(↑x.1:Int)) ((↑x.1:Int)<aG t) (∃(y:Int),aL m h b (o+bM x.1 1) (bC y)/\bK (λf g=>aI (aW s.a f g) (0<=y) (y<aG s) (∃(j:VV),aL m h f (g+iA y 3) j.enc/\∃(d:List cr)(v:VV),aI (qM (v7 x) (kE j.enc)=qM d (kE v.enc)) (eD m) (oC (j4 d v.text.size+500)) (∃(c:Nat×dh),aA (I c) (e c<e x) (aA (aJ s) (eL 19) (aA (aJ t) (bJ t) (aA (gX (bH x.1 1)=bP c.1) (bV 5 1 (mT d (Aq v))=bV 5 1 (v7 c)) (eG m m h h)))))))))) (K7 (v7 x) (λb=>K (wG b) m h)))
def Ub(n:Nat)(m:MH)(h:PH)(K:cn):=
  fZ (fM ((↑n:Int)-fM ((0:Int)-0))) 0 (aA (cM 0) (cM 0) (aA (0<fM ((↑n:Int)-0)) (JZ (fM ((↑n:Int)-0)*24)) (aI (JZ (fM ((↑n:Int)-0))) ((0:Int)<=0) (cM (tE (AK (fM ((↑n:Int)-0)) iP))) (K (CV.lst 65 1 []) m h)))) (K (CV.lst 65 1 []) m h)
def UH d m h K:=
  IP (λI x=>aA (I x) (aJ d) (aA (bE x.2) (aJ d) (aA (bJ d) (bE x.1) (aA (m=m) (h=h) True)))) (λI g x=>I x->bA (↑x.1:Int) (aG d) (bK (λb o=>aI (aW d.a b o) (0<=(↑x.1:Int)) ((↑x.1:Int)<aG d) (∃(y:Sl),aL m h b (o+bM x.1 1) (aM y)/\bA (bH x.2 (aG y)) 0 False (∃(c:Nat×Nat),aA (I c) (g c<g x) (aA (aJ d) (gX (bH x.2 (aG y))=bP c.2) (aA (aJ d) (bJ d) (aA (gX (bH x.1 1)=bP c.1) (m=m) (bU h h)))))))) (∃(n:Nat),aA (Gv x.2=Gv n) (n<=32000000) (∃(I1:Nat×cu->Prop)(j:Nat×cu->Nat),(∃(c:Nat×cu),aA (I1 c) (eL 24) (aA (aJ d) (bJ d) (aA (bE c.1) (F6 c.2) (aA (m=m) (h=h) True))))/\∀(c:Nat×cu),I1 c->bA (↑c.1:Int) (aG d) (bK (fun
 b o=>aI (aW d.a b o) (0<=(↑c.1:Int)) ((↑c.1:Int)<aG d) (∃(y:Sl),Hx m h b o c.1 1 (aM y) (λe=>aA (fU 1 e) (dD h (dO y) 1 e) (aA (sY (iC c.2) e 24) (sZ (iC c.2) e) (∃(f:Nat×cu),aA (I1 f) (j f<j c) (aA (eL 24) (aJ d) (aA (bJ d) (gX (bH c.1 1)=bP f.1) (aA (bV 65 1 (iC c.2++e)=nX 65 f.2) (m=m) (bU h h)))))))))) (uM h (iC c.2) K m))))
theorem YY{u v r r'}(e:Zs u)(f:Zs v)(h:Aq u++r=Aq v++r'):u=v/\r=r':=by
 have z:u7 0:=⟨az,az⟩
 have c:∀w:VV,Zs w->Zk ⟨0,0,w⟩:=λw d=>⟨z,z,d.kind,d.int,by have:=d.text;omega⟩
 have:=JT (o:=⟨0,0,u⟩) (o':=⟨0,0,v⟩) (r:=r) (r':=r') (c u e) (c v f) (by simp only[DK,append_assoc,h])
 grind
theorem Xs:∀{a b:da},a.length=b.length->(∀v∈a,Zs v)->(∀v∈b,Zs v)->a.flatMap Aq=b.flatMap Aq->a=b
 |[],[],_,_,_,_=>rfl
 |x::a,y::b,c,e,f,h=>by
  simp only[flatMap_cons]at h;obtain⟨g,j⟩:=YY (e x (mem_cons_self ..)) (f y (mem_cons_self ..)) h;rw[g,Xs bg (λv d=>e v (mem_cons_of_mem _ d)) (λv d=>f v (mem_cons_of_mem _ d)) j]
 |[],_::_,c,_,_,_=>by simp at c
 |_::_,[],c,_,_,_=>by simp at c
theorem LX:aDX rF:=⟨fun{a b} c d e=>⟨λh=>by
 simp only[rF,ByteArray.mk.injEq]at h;exact Xs c d e bg,λh=>by rw[h]⟩⟩
theorem bFJ{P f T c R R'}(x:FAt P f T c m h R)(d:∀l m' h',R l m' h'->R' l m' h'):FAt P f T c m h R':=
 ⟨x.fn,λg w e j=>(x.go g w e j).mono λ_ _⟨l,m',h',n,o,u⟩=>⟨l,m',h',n,d _ _ _ o,u⟩⟩
theorem a8J:cm 95 cJJ:=by
 refine iU func95 ?_;rintro E m h K ⟨s,g,c,l,p,rfl,B,P,F,G⟩;refine⟨ckX s g c m h,rfl,aH,XJ s g c m h K,ax,?_⟩;dsimp only[XJ,push_cast];have n:=bN.slen B;refine⟨λx=>x.1<=l.length/\x.2.length<=x.1/\fA h x.2 ((l.take x.1).filter p),λx=>l.length-x.1,⟨(0,[]),⟨ay,ay,bk (fA.nil h)⟩,MT⟩,?_⟩;rintro⟨i,C⟩ ⟨H,y,d⟩;dsimp only at H y d;refine aF (λf=>?_) (λz=>?_)
 .dsimp only at f⊢
  obtain⟨r,j⟩:=fF n f;obtain⟨b,o,u,I,rd,D⟩:=bN.at B j;refine⟨b,o,I,aC,aC,u,.imm rd,λt m' h'=>t=p r/\m'=m/\h'=h,bFJ (F u r (bo j) D) (λx m' h'⟨J,L,M⟩=>⟨p r,J,rfl,L,M⟩),?_⟩;rintro t m' h' ⟨rfl,rfl,rfl⟩;refine aD (λe=>⟨bg,bg,(i+1,C++[u]),⟨aC,bf,?_⟩,aC,?_⟩) (λe=>⟨(i+1,C),⟨aC,bg,?_⟩,aC,?_⟩)
  .rw[jZ _ j,if_pos e];exact d.snoc D
  .rw[iY aC,bu];exact MT
  .rw[jZ _ j,if_neg (by rw[e];simp),append_nil];exact d
  .rw[iY aC];exact MT
 .dsimp only at z⊢
  rw[bt aC]at d;intro O h' le A;exact G O h' le ((d.mono le).rows A bg)
theorem ayX{l r}(f:mG l)(g:i<=l.length)(n:∀j y,j<i->l[j]? =some y->eZ y r<0)(o:∀j y,i<=j->l[j]? =some y->¬eZ y r<0):(l.countP λy=>decide (eZ y r<0))=i:=by
 have e:l.countP (λy=>decide (eZ y r<0))=(l.take i).countP (λy=>decide (eZ y r<0))+(l.drop i).countP λy=>decide (eZ y r<0):=by
  rw[<-countP_append,take_append_drop]
 have u:(l.take i).countP (λy=>decide (eZ y r<0))=(l.take i).length:=countP_eq_length.2 λy c=>by
  obtain⟨j,d⟩:=getElem?_of_mem c
  grind
 have z:(l.drop i).countP (λy=>decide (eZ y r<0))=0:=countP_eq_zero.2 λy c=>by
  obtain⟨j,d⟩:=getElem?_of_mem c
  grind
 grind
theorem MA{l}(d:mG l){j x y}(c:i<j)(hx:l[i]? =some x)(e:l[j]? =some y):eZ x y<0:=by
 obtain⟨f,rfl⟩:=List.getElem?_eq_some_iff.1 hx;obtain⟨g,rfl⟩:=List.getElem?_eq_some_iff.1 e;exact pairwise_iff_getElem.1 d i j f g c
theorem bDJ{j}(h:i+j<=32000000):IntKind.i64.wrap ((IntKind.u64.wrap (IntKind.i64.wrap ((i:Int)+(j:Int)))).fdiv 2)=(((i+j)/2:Nat):Int):=by
 rw[fG (n:=(i:Int)+j) aC aC,SN aC aC,Int.fdiv_eq_ediv_of_nonneg _ aC];have:((i:Int)+j)/2=(((i+j)/2:Nat):Int):=by omega
 rw[this,fG aC aC]
theorem anJ:cm 164 cKZ:=by
 refine iU func164 ?_;rintro X m h K ⟨s,u,l,r,rfl,E,d,U,Z,B⟩;refine⟨bOJ s u m h,rfl,aE Fl aH,Ua s u m h K,ax,?_⟩;dsimp only[Ua,push_cast];have Y:=bN.slen E;refine⟨λx=>x.1<=x.2/\x.2<=l.length/\(∀j y,j<x.1->l[j]? =some y->eZ y r<0)/\∀j y,x.2<=j->l[j]? =some y->¬eZ y r<0,λx=>x.2-x.1,⟨(0,l.length),⟨ay,ay,λj y C=>by omega,λj y C D=>bg⟩,?_⟩,?_⟩
 .grind
 rintro⟨i,j⟩ ⟨F,C,f,g⟩;dsimp only at F C f g;refine aF (λn=>?_) (λG=>?_)
 .dsimp only at n⊢
  have n:i<j:=by omega
  rw[bDJ aC];have H:i<=(i+j)/2:=by omega
  have I:(i+j)/2<j:=by omega
  generalize (i+j)/2=k at H I;have c:l[k]? =some (l[k]'(by omega)):=bn _;generalize l[k]'(by omega)=x at c;obtain⟨b,o,e,J,rd,L⟩:=bN.at E c;refine⟨b,o,J,aC,aC,e,.imm rd,e,u,x,r,rfl,L,U,aF (λM=>⟨(k+1,j),⟨aC,C,λO y P D=>?_,g⟩,aC,?_⟩) (λM=>⟨(i,k),⟨aC,aC,f,λO y P D V=>?_⟩,aC,?_⟩)⟩
  .by_cases Q:O=k
   .grind
   .exact GW (MA d aC D c) M
  .rw[iY aC];exact MT
  .by_cases Q:O=k
   .grind
   .exact M (GW (MA d aC c D) V)
  .exact MT
 .dsimp only at G⊢
  have:i=j:=by omega
  subst this;rw[ayX d C f g]at B
  have z:(∀y,l[i]? =some y->eZ y r≠0)->JF l r=false:=λV=>by
   rw[Bool.eq_false_iff];intro R;obtain⟨j,S⟩:=getElem?_of_mem (Ei.1 R);have hz:eZ r r=0:=lH.2 rfl;rcases Nat.lt_trichotomy j i with T|T|T
   .grind
   .grind
   .have A:i<l.length:=bg
    have c:l[i]? =some l[i]:=bn A;have h3:=MA d T c S
    grind
  refine aF (λn=>?_) (λW=>?_)
  .have A:i<l.length:=by omega
   have c:l[i]? =some l[i]:=bn A;generalize l[i]=x at c;obtain⟨b,o,e,J,rd,L⟩:=bN.at E c;refine⟨b,o,J,aC,aC,e,.imm rd,e,u,x,r,rfl,L,U,?_⟩
   have:JF l r=(eZ x r==0):=by
    cases e2:eZ x r==0 with
    |true=>
     have:=lH.1 (by grind:eZ x r=0);subst this;exact Ei.2 (bo c)
    |false=>grind
   rw[this]at B;exact B
  .rw[z λy D=>by grind]at B;exact B
theorem RV:cm 104 cbJ:=by
 refine iU func104 ?_;rintro d m h K ⟨s,u,l,r,rfl,e,c,f,g,j⟩;refine⟨dJ [(164,cKZ)] [] [] [] false,rfl,aE anJ aH,boZ s u m h K,ax,?_⟩;exact⟨s,u,l,r,rfl,e,c,f,g,j⟩
theorem aq:cm 51 U4:=by
 refine iU func51 ?_;rintro E m h K ⟨s,l,rfl,C,L,F,G⟩;refine⟨f51_ctx s m,rfl,aE ab aH,ak s m h K,ax,?_⟩;dsimp only[ak,push_cast];have z:=bN.slen C;refine⟨aC,aC,aC,aC,λx=>x.1<=l.length/\PH.le h x.2.2/\∃j,j.length=x.1/\x.2.1=j++replicate (l.length-x.1) ⟨none,0,0⟩/\fA x.2.2 j (l.take x.1),λx=>l.length-x.1,⟨(0,replicate l.length ⟨none,0,0⟩,h),⟨ay,.refl _,[],rfl,ay,bk (fA.nil h)⟩,?_⟩,?_⟩
 .dsimp only;rw[map_replicate,show((s.len:Int)).toNat=l.length by omega];exact MT
 rintro⟨i,M,O⟩ ⟨H,le,j,f,D,g⟩;dsimp only at H le f D g;subst D;refine aF (λy=>?_) (λA=>?_)
 .dsimp only at y⊢
  obtain⟨r,c⟩:=fF z y;obtain⟨b,o,u,I,rd,J⟩:=bN.at C c;refine⟨b,o,I,aC,aC,u,.imm (rd.mono le),u,r,rfl,bS.mono J le,F r (bo c),λn h' d B=>⟨aC,bg,[pV],?_,ay,(i+1,(j++[n])++replicate (l.length-(i+1)) ⟨none,0,0⟩,h'),⟨aC,le.trans d,j++[n],by simp[f],rfl,?_⟩,aC,?_⟩⟩
  .rw[getElem?_map,Int.toNat_natCast,getElem?_append_right aC,getElem?_replicate,if_pos aC];rfl
  .dsimp only;rw[cd,c];exact(g.mono d).snoc B
  .dsimp only
   have e:((j++replicate (l.length-i) (⟨none,0,0⟩:Sl)).map eS).set ((i:Int)).toNat (dX n::List.drop 1 [pV])=((j++[n])++replicate (l.length-(i+1)) (⟨none,0,0⟩:Sl)).map eS:=by
    rw[Int.toNat_natCast,show l.length-i=(l.length-(i+1))+1 by omega,replicate_succ,bu,set_append,if_neg (by simp[f]),bu,bu,append_assoc];simp[f,eS]
   rw[e,iY aC];exact MT
 .dsimp only at A⊢
  have:i=l.length:=by omega
  subst this;rw[Nat.sub_self,replicate_zero,append_nil];rw[take_length]at g;intro n h' d c;exact G n h' (le.trans d) ((g.mono d).rows c aC)
theorem brX{v}(h:v.text.size<=64):(Aq v).length<=200:=by
 have c:=iJ [v.kind];have e:=oY v.int;have d:=iJ [(v.text.size:Int)];have f:v.text.data.toList.length=v.text.size:=Array.length_toList;simp only[Aq,br,ci,length_nil]at c d⊢
 omega
theorem a5J{r:da}(h:∀v∈r,v.text.size<=64):(r.flatMap Aq).length<=200*r.length:=by
 induction r with
 |nil=>simp
 |cons v l c=>
  have d:=brX (h v (mem_cons_self ..))
  grind
theorem Dy:cm 100 U2:=by
 refine iU func100 ?_;rintro H m h K ⟨s,t,r,d,rfl,D,E,I,y,J,L⟩;refine⟨bWJ s t m h,rfl,aE aoX aH,UI s t m h K,ax,?_⟩;dsimp only[UI,push_cast];have M:=bN.slen D;have z:=E.slen;have O:=y.len;have P:(pick r d).length=d.length:=by simp[pick]
 have g:∀v∈pick r d,v.text.size<=64:=λv Q=>(I.val v (QG y Q)).text;refine⟨λx=>x.1<=d.length/\x.2=((pick r d).take x.1).flatMap Aq,λx=>d.length-x.1,⟨(0,[]),⟨ay,ay⟩,MT⟩,?_⟩;rintro⟨i,l⟩ ⟨R,F⟩;dsimp only at R F;subst F;refine aF (λf=>?_) (λA=>?_)
 .dsimp only at f;obtain⟨c,j⟩:=fF z f;obtain⟨b,o,e,rd⟩:=E.at j;obtain⟨v,B,n,S,X⟩:=KI y j;obtain⟨T,U,w,V,C,rfl⟩:=bN.at D B;have Y:=a5J (r:=(pick r d).take i) (λu W=>g u (mem_of_mem_take W));have G:=g v (bo n);refine⟨b,o,e,aC,f,c,.imm bg,T,U,V,S,aC,v,.imm C,_,v,rfl,J,?_,(i+1,((pick r d).take (i+1)).flatMap Aq),⟨aC,rfl⟩,bg,?_⟩
  .rw[bD]
   grind
  .dsimp only;rw[cd,n,flatMap_append,dU];simp only[Option.toList_some,flatMap_cons,flatMap_nil,append_nil];exact MT
 .dsimp only at A⊢
  rw[bt aC];exact⟨_,rfl,L⟩
theorem aoQ:cm 163 aXZ:=by
 refine iU func163 ?_;rintro d m h K ⟨n,rfl,f,c⟩;refine⟨dJ [] [] [] [] true,rfl,aH,Ub n m h K,ax,?_⟩;dsimp only[Ub,push_cast];have e:IntKind.i64.wrap ((n:Int)-0)=n:=by rw[fG aC aC];omega
 have g:IntKind.i64.wrap ((n:Int)-IntKind.i64.wrap (0-0))=n:=by rw[show IntKind.i64.wrap (0-0)=0 from by rw[fG aC aC];rfl,e]
 exact aF (λj=>⟨aC,aC,aC,aC,aC,aC,aC,c⟩) (λ_=>c)
theorem awJ:cm 102 U5:=by
 refine iU func102 ?_;rintro V m h K ⟨z,R,S,rfl,G,h1,h2,W⟩;refine⟨bWZ z m h,rfl,aE aoQ aH,UH z m h K,ax,?_⟩;dsimp only[UH,push_cast];have X:z.len=2:=bN.slen G
 have g:∀k∈[R,S],k.length<=8000000:=λk e=>by
  grind
 generalize A:[R,S]=ks at G g;have H:ks.length=2:=bg
 have f:∀i,i<=2->((ks.take i).map List.length).sum<=16000000:=λi j=>by
  rw[<-A]
  match i,j with
  |0,_=>simp
  |1,_=>simp;omega
  |2,_=>simp;omega
 refine⟨λx=>x.1<=2/\x.2=((ks.take x.1).map List.length).sum,λx=>2-x.1,⟨(0,0),⟨ay,ay⟩,MT⟩,?_⟩;rintro⟨i,n⟩ ⟨j,T⟩;dsimp only at j T⊢
 subst T;have Y:=f i j;refine aF (λd=>?_) (λB=>?_)
 .obtain⟨k,e⟩:=fF (l:=ks) (n:=z.len) aC d;obtain⟨b,o,y,I,r,u⟩:=bN.at G e;have H:=bN.slen u;have C:=g k (bo e)
  have Z:IntKind.i64.wrap (((((ks.take i).map List.length).sum:Nat):Int)+(y.len:Int))=((((ks.take (i+1)).map List.length).sum:Nat):Int):=by
   rw[Cq e,fG aC aC];omega
  refine⟨b,o,I,aC,d,y,.imm r,?_⟩;rw[Z];exact aF (λU=>by omega) (λ_=>⟨(i+1,((ks.take (i+1)).map List.length).sum),⟨aC,rfl⟩,aC,by rw[iY aC];exact MT⟩)
 .refine⟨((ks.take i).map List.length).sum,rfl,aC,λx=>x.1<=2/\x.2.length<=16000000/\fA h x.2 (ks.take x.1).flatten,λx=>2-x.1,⟨(0,[]),⟨ay,ay,bk (fA.nil h)⟩,MT⟩,?_⟩;clear Y B j;rintro⟨i,us⟩ ⟨j,J,c⟩;dsimp only at j J c⊢
  have L:=c.len;rw[length_flatten]at L;refine aF (λd=>?_) (λB y h' D E=>W y h' D ?_)
  .obtain⟨k,e⟩:=fF (l:=ks) (n:=z.len) aC d;obtain⟨b,o,y,I,r,u⟩:=bN.at G e;obtain⟨⟨F,M,O,P⟩,_⟩:=u;have C:=g k (bo e);have Q:=f (i+1) aC;rw[Cq e]at Q;refine⟨b,o,I,aC,d,y,.imm r,F.map eS,BM _,M,bf,bf,(i+1,us++F),⟨aC,bf,?_⟩,aC,?_⟩
   .dsimp only;rw[cd,e,flatten_append];simp only[Option.toList_some,flatten_cons,flatten_nil,append_nil];exact c.app ⟨O.symm,P⟩
   .rw[iY aC,bu];exact MT
  .rw[bt aC, <-A]at c;simp only[flatten_cons,flatten_nil,append_nil]at c;exact(c.mono D).rows E bf
end Go.Ps
