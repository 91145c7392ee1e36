/- Own work. -/
import Derived.Test.YtafjlhgalgfiaaaGreatDoorOh
set_option linter.unusedVariables false
set_option linter.unusedSimpArgs false
namespace Go.Ps
open Go Go.Vc Go.Proofs List Tryz
variable{K:cq}{m:MH}{h:PH}{s:jZ}{ps:cn}{ts:de}{cb:Nat}{sc:bT}{v:QV}{t:Step}{p:Pred}{l:cn}{i:Nat}{N:Nat}{m':MH}{h':PH}{co:cn}{gr:cn}{od:cv}{ta:Int}{li:Int}{xs:List cr}{sz:Nat}{ks:List cn}{rs:cn}{r:Sl}{a:cn}{b:Nat}
theorem MB:∀(n:Nat){l:di},l.Nodup->(∀x∈l,x<n)->l.length<=n
 |0,l,_,h=>by
  cases l with
  |nil=>simp
  |cons x l=>have:=h x ay;omega
 |n+1,l,c,h=>by
  by_cases d:n∈l
  .have f:=length_erase_of_mem d
   have g:=MB n (c.erase n) (λx e=>by
    grind)
   omega
  .have:=MB n c (λx e=>by
    grind)
   omega
theorem LF{α T l}{f:α->Int}{n:Nat}(h:Good T l)(e:∀c x,T c x->0<=f x/\f x<n)(o:∀c x,T c x->∀y∈c,f y≠f x):l.length<=n:=by
 have u:(l.map λx=>(f x).toNat).Nodup:=by
  rw[nodup_iff_pairwise_ne,pairwise_iff_getElem];intro i j d g z;simp only[length_map]at d g;simp only[getElem_map];have D:=h i l[i] (bn d);have A:=h j l[j] (bn g);have:=o _ _ A l[i] (mem_take_iff_getElem.2 ⟨i,aC,rfl⟩)
  grind
 have:=MB n u (λx B=>by
  obtain⟨y,C,rfl⟩:=mem_map.1 B;obtain⟨i,d⟩:=mem_iff_getElem?.1 C;have:=e _ _ (h i y d);omega)
 grind
mutual
def bWZ:Pred->Prop
 |.mk _ _ l r args=>l.value.text.size<=64/\r.value.text.size<=64/\V3 args
def V3:dh->Prop
 |[]=>True
 |p::ps=>bWZ p/\V3 ps
end
theorem W0 o(h:o.value.text.size<=64):(DC o).length<=200:=by
 have e:=iQ [o.kind,o.index];have f:=iQ [o.value.kind];have g:=iQ [(o.value.text.size:Int)];have c:=iQ [o.value.int];have d:jU [o.value.int]=mP o.value.int++[32]:=by unfold jU;grind
 rw[d]at c;have j:o.value.text.data.toList.length=o.value.text.size:=by rw[Array.length_toList];rfl
 simp only[DC,As,br,ci,length_nil]at*
 omega
mutual
theorem Mw:∀p:Pred,bWZ p->((sH p).length:Int)<=1000*SD p
 |.mk op c l r args,h=>by
  obtain⟨d,e,f⟩:=h;have g:=W0 l d;have j:=W0 r e;have n:=Qm args f;have o:=iQ [op,c];have u:=iQ [(args.length:Int)];simp only[sH,SD,br,ci,length_nil]at*
  omega
theorem Qm:∀ps:dh,V3 ps->((p8 ps).length:Int)<=1000*DB ps
 |[],_=>by simp[p8,DB]
 |p::ps,h=>by
  have:=Mw p h.1;have:=Qm ps h.2;simp only[p8,DB,br];omega
end
theorem Yy{v}(h:eqV v zeroV=true):v.text.size<=64:=by
 simp only[eqV,bz,beq_iff_eq]at h;exact Wr h.2.2.1
theorem LO{o}(h:eqO o gL=true):o.value.text.size<=64:=by
 simp only[eqO,bz,beq_iff_eq]at h;exact Yy h.2.2.1
theorem OA{o}(h:sB l o≠0):o.value.text.size<=64:=by
 unfold sB at h;split at h
 .omega
 .rename_i c;simp only[Bool.or_eq_true,not_or,Bool.not_eq_true',Bool.not_eq_false]at c;exact Yy c.2
theorem Oi{cols params o}(h:kindOf cols params o≠0):o.value.text.size<=64:=by
 unfold kindOf at h;split at h
 .split at h
  .omega
  .rename_i c;simp only[Bool.or_eq_true,not_or,Bool.not_eq_true',Bool.not_eq_false,pW,bz]at c;exact NQ c.2.1
 .split at h
  .exact OA h
  .split at h
   .exact OA h
   omega
mutual
theorem NS{cols params:cn}:∀p:Pred,kT cols params p=true->bWZ p
 |.mk op c l r args,h=>by
  unfold kT at h;split at h
  .simp only[bz,Hf,beq_iff_eq]at h;have:args=[]:=eq_nil_of_length_eq_zero h.2;subst this;exact⟨LO h.1.1.2,LO h.1.2,trivial⟩
  .split at h
   .simp only[bz,beq_iff_eq,bne_iff_ne,ne_eq,ce]at h;have:args=[]:=eq_nil_of_length_eq_zero h.1.1.1.1;subst this;exact⟨Oi h.1.2,Oi (cols:=cols) (params:=params) aC,trivial⟩
   .split at h
    .simp only[bz,Hf]at h;exact⟨LO h.1.1.2,LO h.1.2,J9 args h.2⟩
    .cases h
theorem J9{cols params:cn}:∀ps:dh,zA cols params ps=true->V3 ps
 |[],_=>trivial
 |p::ps,h=>by
  simp only[zA,bz]at h;exact⟨NS p h.1,J9 ps h.2⟩
end
theorem bsX{cols params}(h:iP cols params p=0):(sH p).length<=1000000000:=by
 unfold iP at h;split at h
 .cases h
 .split at h
  .cases h
  .rename_i c;split at h
   .cases h
   .rename_i e;have d:kT cols params p=true:=bg
    have f:=Mw p (NS p d);simp only[Bool.or_eq_true,not_or,ce]at c;have g:=H0 p 0 aC;omega
theorem boQ:(sH gG).length<=1000000000:=by
 have:=Mw gG ⟨az,az,trivial⟩;have e:SD gG=1:=rfl;omega
theorem Gv{s:jZ}{ps:cn}:∀(c:db),∀k∈(fX s ps c).1,k.length<=12
 |[],k,h=>by simp[fX]at h
 |q::c,k,h=>by
  simp only[fX]at h;split at h
  .split at h
   .simp only[mem_cons]at h;rcases h with rfl|h
    .exact lY s ps q
    .exact Gv c k h
   .simp at h
  .simp at h
theorem Xn(h:∀k∈ks,k.length<=12) j:(ks.getD j []).length<=12:=by
 grind
theorem Jo{s:jZ}{ps:cn}:∀{c:db}{ks:List cn},fX s ps c=(ks,0)->ks.length=c.length/\∀q∈c,(aJ s ps q).2=0
 |[],ks,h=>by simp[fX]at h;subst h;simp
 |q::c,ks,h=>by
  simp only[fX]at h;split at h
  .rename_i f;split at h
   .rename_i d;have e:fX s ps c=((fX s ps c).1,0):=Prod.ext rfl d;obtain⟨g,j⟩:=Jo e
    grind
   grind
  grind
theorem lX{op w on args}(h:(aJ s ps (.mk op ta w co on gr od li args)).2=0):
 (∀a∈args,(aJ s ps a).2=0)/\(args.length:Int)=arity op/\∃a b,a.length<=12/\b.length<=12/\(eZ s ps (.mk op ta w co on gr od li args) a b).2=0:=by
 simp only[aJ]at h;split at h
 .rename_i c;have e:fX s ps args=((fX s ps args).1,0):=Prod.ext rfl c;obtain⟨f,d⟩:=Jo e;split at h
  .rename_i g;refine⟨d,aC,_,_,?_,?_,h⟩
   .exact Xn (Gv args) 0
   .exact Xn (Gv args) 1
  .simp[eJ]at h
 .rename_i c;simp[eJ]at h;omega
theorem buZ{op w on args b}(I:a.length<=12)(h:(eZ s ps (.mk op ta w co on gr od li args) a b).2=0):
 OH ⟨op,ta,w,co,on,gr,od,li,0,0⟩:=by
 unfold eZ at h;dsimp only at h;split at h
 .simp[eJ]at h
 .rename_i j;rw[not_or]at j;have z:cY (.mk op ta w co on gr od li args):=Classical.not_not.1 j.2;obtain⟨_,A,B,C,D⟩:=z
  have E:∀l:cn,(nO l).2=0->l.length<=12:=λl e=>by
   unfold nO at e
   grind
  have F:(sH w).length<=1000000000:=by
   rcases A with rfl|rfl
   .simp only[show¬((2:Int)=1)by decide,if_false,if_true]at h;split at h
    .rename_i e;exact bsX e
    .rename_i e;simp[eJ]at h;omega
   .exact boQ
  have G:co.length<=1000000000:=by
   rcases B with rfl|rfl
   .simp only[show¬((3:Int)=1)by decide,show¬((3:Int)=2)by decide,if_false,if_true]at h;split at h
    .grind
    .simp[eJ]at h
   .simp
  have H:on.length<=1000000000:=by
   have d:Good (oB a b) on->on.length<=1000000000:=λg=>by
    have:=LF (f:=λp=>p.1) (n:=a.length) g (λc x t=>by have:=t.1;rw[fH]at this;exact this) (λc x t y o=>(t.2.2.2 y o).1);omega
   rcases C with rfl|rfl|rfl
   .simp only[show¬((4:Int)=1)by decide,show¬((4:Int)=2)by decide,show¬((4:Int)=3)by decide,if_false,if_true]at h;split at h
    .grind
    .simp[eJ]at h
   .simp only[show¬((5:Int)=1)by decide,show¬((5:Int)=2)by decide,show¬((5:Int)=3)by decide,show¬((5:Int)=4)by decide,if_false,if_true]at h;split at h
    .grind
    .simp[eJ]at h
   .simp
  have u:gr.length<=1000000000/\od.length<=1000000000:=by
   have d:nT a gr od li->gr.length<=1000000000/\od.length<=1000000000:=λr=>by
    have:=LF (f:=λp=>p) (n:=a.length) r.group_ (λc x t=>by have:=t.1;rw[fH]at this;exact this) (λc x t y o e=>t.2 bg);have:=r.len_;omega
   rcases D with rfl|rfl|⟨rfl,rfl,_⟩
   .simp only[show¬((9:Int)=1)by decide,show¬((9:Int)=2)by decide,show¬((9:Int)=3)by decide,show¬((9:Int)=4)by decide,show¬((9:Int)=5)by decide,if_false,if_true]at h;split at h
    .grind
    .simp[eJ]at h
   .simp only[show¬((10:Int)=1)by decide,show¬((10:Int)=2)by decide,show¬((10:Int)=3)by decide,show¬((10:Int)=4)by decide,show¬((10:Int)=5)by decide,show¬((10:Int)=9)by decide,if_false,if_true]at h;split at h
    .grind
    .simp[eJ]at h
   .simp
  exact⟨F,G,H,u.1,u.2⟩
theorem ML{s:jZ}{ps:cn}:∀q:Query,(aJ s ps q).2=0->Dx q/\b8Z q
 |.mk op ta w co on gr od li args,h=>by
  obtain⟨d,e,a,b,f,_,g⟩:=lX h;rw[WQ,bVQ];exact⟨⟨buZ f g,λq c=>(ML q (d q c)).1⟩,e,λq c=>(ML q (d q c)).2⟩
theorem aWZ{q}(h:(eH s ps q).2=0):Dx q:=(ML q (DN h).2.2.2).1
theorem QX{n}(h:uY n){b}(c:b∈mP n):b≠32:=by
 intro e;subst e;by_cases f:0<=n
 .rw[CY h f]at c;have:=LX _ _ c;simp at this
 .rw[CZ h aC]at c;rcases mem_cons.1 c with d|d
  .cases d
  .have:=LX _ _ d;simp at this
theorem vO n l:jU (n::l)=mP n++32::jU l:=by unfold jU;grind
theorem jH{m n r r'}(d:uY m)(e:uY n)(h:mP m++32::r=mP n++32::r'):m=n/\r=r':=by
 obtain⟨f,g⟩:=P5 (λc=>QX d c rfl) (λc=>QX e c rfl) h;exact⟨S6 d e f,g⟩
theorem N9 p l:wQ (p::l)=mP p.1++32::(mP p.2++32::wQ l):=by
 show jU [p.1,p.2]++wQ l=_;rw[vO,vO,append_assoc,cons_append,append_assoc];rfl
theorem N3 p l:wO (p::l)=mP p.1++32::(mP (if p.2 then 1 else 0)++32::wO l):=by
 show jU [p.1,if p.2 then 1 else 0]++wO l=_;rw[vO,vO,append_assoc,cons_append,append_assoc];rfl
structure Y3(o:OV):Prop where
 kind_:uY o.kind
 index_:uY o.index
 vkind_:uY o.value.kind
 int_:uY o.value.int
 text_:o.value.text.size<=64
mutual
def Ma:Pred->Prop
 |.mk op c l r args=>uY op/\uY c/\Y3 l/\Y3 r/\args.length<=8000000/\R0 args
def R0:dh->Prop
 |[]=>True
 |p::ps=>Ma p/\R0 ps
end
theorem yD{n:Nat}(h:n<=8000000):uY (n:Int):=⟨aC,aC⟩
theorem JH{o o' r r'}(d:Y3 o)(e:Y3 o')(h:DC o++r=DC o'++r'):o=o'/\r=r':=by
 have A:jU []=[]:=rfl;simp only[DC,As,vO,A,append_assoc,cons_append,nil_append]at h;obtain⟨j,h⟩:=jH d.kind_ e.kind_ h;obtain⟨n,h⟩:=jH d.index_ e.index_ h;obtain⟨u,h⟩:=jH d.vkind_ e.vkind_ h;obtain⟨y,h⟩:=jH d.int_ e.int_ h;obtain⟨z,h⟩:=jH (yD (by have:=d.text_;omega)) (yD (by have:=e.text_;omega)) h;have z:o.value.text.size=o'.value.text.size:=by omega
 obtain⟨f,B⟩:=append_inj h (by rw[Array.length_toList,Array.length_toList];exact z);refine⟨?_,B⟩;obtain⟨k,i,⟨E,F,g⟩⟩:=o;obtain⟨G,H,⟨C,D,c⟩⟩:=o';obtain⟨g⟩:=g;obtain⟨c⟩:=c;simp only at j n u y f;have f:g=c:=Array.toList_inj.1 f;subst j n u y f;rfl
mutual
theorem N8:∀{p c:Pred}{r r':dg},Ma p->Ma c->sH p++r=sH c++r'->p=c/\r=r'
 |.mk op f l L args,.mk g e M j d,r,r',n,o,h=>by
  obtain⟨u,y,z,A,B,C⟩:=n;obtain⟨D,E,F,G,H,I⟩:=o;have J:jU []=[]:=rfl;simp only[sH,vO,J,append_assoc,cons_append,nil_append]at h;obtain⟨O,h⟩:=jH u D h;obtain⟨P,h⟩:=jH y E h;obtain⟨Q,h⟩:=JH z F h;obtain⟨R,h⟩:=JH A G h;obtain⟨S,h⟩:=jH (yD B) (yD H) h;obtain⟨T,U⟩:=Kr C I aC h
  grind
theorem Kr:∀{ps c:dh}{r r':dg},R0 ps->R0 c->ps.length=c.length->p8 ps++r=p8 c++r'->ps=c/\r=r'
 |[],[],r,r',_,_,_,h=>⟨rfl,by simpa[p8]using h⟩
 |[],_::_,_,_,_,_,d,_=>by simp at d
 |_::_,[],_,_,_,_,d,_=>by simp at d
 |p::ps,g::c,r,r',e,f,d,h=>by
  simp only[p8,append_assoc]at h;obtain⟨j,h⟩:=N8 e.1 f.1 h;obtain⟨n,o⟩:=Kr e.2 f.2 bg h
  grind
end
structure bXZ(t:Step):Prop where
 wher:Ma t.wher
 cols:∀n∈t.columns,uY n
 on_:∀p∈t.on,uY p.1/\uY p.2
 group_:∀n∈t.group,uY n
 order_:∀p∈t.order,uY p.1
theorem kS{n}(c: -8000000<=n)(d:n<=8000000):uY n:=⟨aC,aC⟩
theorem Hx:uY 0:=⟨az,az⟩
theorem vN:Y3 gL:=⟨Hx,Hx,Hx,Hx,az⟩
theorem bjJ{v}(h:eqV v zeroV=true):v=zeroV:=VM.1 h
theorem YN{o}(h:sB l o≠0)(f:l.length<=8000000)(d:uY o.kind):Y3 o:=by
 unfold sB at h;split at h
 .omega
 .rename_i c;simp only[Bool.or_eq_true,not_or,Bool.not_eq_true',Bool.not_eq_false,ce]at c;have e:=bjJ c.2;refine⟨d,kS aC aC,?_,?_,?_⟩
  all_goals rw[e]
  .exact vN.vkind_
  .exact vN.int_
  .exact vN.text_
theorem Xa{cols params o}(h:kindOf cols params o≠0)(j:cols.length<=8000000)(n:params.length<=8000000)(f:NH o.value):Y3 o:=by
 unfold kindOf at h;split at h
 .rename_i d;have d:o.kind=3:=bg
  split at h
  .omega
  .rename_i g;simp only[Bool.or_eq_true,not_or,Bool.not_eq_true',Bool.not_eq_false,bne_iff_ne,ne_eq,Classical.not_not,pW,bz,ce]at g;refine⟨kS aC aC,kS aC aC,?_,f.int_,f.text_⟩;have c:=g.2.1;unfold oC at c;split at c
   .grind
   .split at c
    .rename_i e;simp at e;exact kS aC aC
    .split at c
     .rename_i e;simp at e;exact kS aC aC
     .split at c
      .rename_i e;simp at e;exact kS aC aC
      .cases c
 .split at h
  .rename_i d;simp at d;exact YN h n (kS aC aC)
  .split at h
   .rename_i d;simp at d;exact YN h j (kS aC aC)
   omega
theorem Hb:∀ps:dh,(ps.length:Int)<=DB ps
 |[]=>by simp[DB]
 |p::ps=>by
  have:=Hb ps;have:1<=SD p:=by cases p;rename_i a;have:=Hb a;simp only[SD];omega
  simp only[DB,ci];omega
theorem b9J p:1<=SD p:=by cases p;rename_i a;have:=Hb a;simp only[SD];omega
mutual
theorem Wq{cols params:cn}(c:cols.length<=8000000)(d:params.length<=8000000):∀p:Pred,kT cols params p=true->Eh p->SD p<=1000->Ma p
 |.mk op n l r args,h,w,o=>by
  have u:=Hb args;simp only[SD]at o;unfold kT at h;split at h
  .rename_i e;simp only[bz,Hf,beq_iff_eq]at h;have:args=[]:=eq_nil_of_length_eq_zero h.2;subst this;have f:=uU.1 h.1.1.2;have g:=uU.1 h.1.2;subst f g;have j:op=1\/op=2:=bk e
   exact⟨kS aC aC,by rw[h.1.1.1];exact Hx,vN,vN,ay,trivial⟩
  .split at h
   .rename_i e;simp only[bz,beq_iff_eq,bne_iff_ne,ne_eq,ce]at h;have:args=[]:=eq_nil_of_length_eq_zero h.1.1.1.1;subst this;have j:op=3:=bk e
    exact⟨kS aC aC,kS aC aC,Xa h.1.2 c d w.1,Xa (cols:=cols) (params:=params) aC c d w.2.1,ay,trivial⟩
   .split at h
    .rename_i e;simp only[bz,Hf,beq_iff_eq]at h;have f:=uU.1 h.1.1.2;have g:=uU.1 h.1.2;subst f g
     have j:op=4\/op=5\/op=6:=by
      grind
     exact⟨kS aC aC,by rw[h.1.1.1];exact Hx,vN,vN,aC,SA c d args h.2 w.2.2 aC⟩
    .cases h
theorem SA{cols params:cn}(c:cols.length<=8000000)(d:params.length<=8000000):∀ps:dh,zA cols params ps=true->NJ ps->DB ps<=1000->R0 ps
 |[],_,_,_=>trivial
 |p::ps,h,w,e=>by
  simp only[zA,bz]at h;have f:=b9J p;have g:=Hb ps;simp only[DB]at e;exact⟨Wq c d p h.1 w.1 aC,SA c d ps h.2 w.2 aC⟩
end
theorem cLZ{cols params}(h:iP cols params p=0)(c:cols.length<=8000000)(d:params.length<=8000000)(w:Eh p):Ma p:=by
 unfold iP at h;split at h
 .cases h
 .split at h
  .cases h
  .rename_i e;split at h
   .cases h
   .rename_i g;have f:kT cols params p=true:=bg
    simp only[Bool.or_eq_true,not_or,ce]at e;have j:=H0 p 0 aC
    have:SD p<=24:=by
     omega
    exact Wq c d p f w aC
theorem cJZ:Ma gG:=⟨Hx,Hx,vN,vN,az,trivial⟩
def b2X:Query->Prop
 |.mk _ _ w co on gr od _ _=>Ma w/\(∀n∈co,uY n)/\(∀p∈on,uY p.1/\uY p.2)/\(∀n∈gr,uY n)/\∀p∈od,uY p.1
def QI(q:Query):Prop:=
 match q with
 |.mk op ta w co on gr od li args=>b2X (.mk op ta w co on gr od li [])/\∀a∈args,QI a
 termination_by SizeOf.sizeOf q
theorem JF{op w on args}:
 QI (.mk op ta w co on gr od li args)↔b2X (.mk op ta w co on gr od li [])/\∀a∈args,QI a:=by rw[QI.eq_def]
theorem C1{α T l}{P:α->Prop}(h:Good T l)(d:∀c x,T c x->P x):∀x∈l,P x:=λx e=>by
 obtain⟨j,f⟩:=mem_iff_getElem?.1 e;exact d _ _ (h j x f)
theorem Xj{n}(c:l.length<=1000)(h:C0 l n=true):uY n:=by
 have:=fH.1 h;exact kS aC aC
theorem Zq{s:jZ}{ps:cn}{op ta:Int}{w co on gr od li args a b}(G:a.length<=12)(H:b.length<=12)(o:ps.length<=1000)(u:Eh w)(h:(eZ s ps (.mk op ta w co on gr od li args) a b).2=0):
 b2X (.mk op ta w co on gr od li []):=by
 unfold eZ at h;dsimp only at h;split at h
 .simp[eJ]at h
 .rename_i f;rw[not_or]at f;have y:cY (.mk op ta w co on gr od li args):=Classical.not_not.1 f.2;obtain⟨_,z,A,B,C⟩:=y
  have D:Ma w:=by
   rcases z with rfl|rfl
   .simp only[show¬((2:Int)=1)by decide,if_false,if_true]at h;split at h
    .rename_i e;exact cLZ e aC aC u
    .rename_i e;simp[eJ]at h;omega
   .exact cJZ
  have E:∀n∈co,uY n:=by
   rcases A with rfl|rfl
   .simp only[show¬((3:Int)=1)by decide,show¬((3:Int)=2)by decide,if_false,if_true]at h;split at h
    .rename_i e;exact C1 e.2 λc x t=>Xj aC t
    .simp[eJ]at h
   grind
  have F:∀p∈on,uY p.1/\uY p.2:=by
   have d:Good (oB a b) on->∀p∈on,uY p.1/\uY p.2:=λg=>C1 g λc x t=>⟨Xj aC t.1,Xj aC t.2.1⟩
   rcases B with rfl|rfl|rfl
   .simp only[show¬((4:Int)=1)by decide,show¬((4:Int)=2)by decide,show¬((4:Int)=3)by decide,if_false,if_true]at h;split at h
    .grind
    .simp[eJ]at h
   .simp only[show¬((5:Int)=1)by decide,show¬((5:Int)=2)by decide,show¬((5:Int)=3)by decide,show¬((5:Int)=4)by decide,if_false,if_true]at h;split at h
    .grind
    .simp[eJ]at h
   grind
  have j:(∀n∈gr,uY n)/\∀p∈od,uY p.1:=by
   have d:nT a gr od li->(∀n∈gr,uY n)/\∀p∈od,uY p.1:=λr=>⟨C1 r.group_ λc x t=>Xj aC t.1,C1 r.order_ λc x t=>Xj aC t⟩
   rcases C with rfl|rfl|⟨rfl,rfl,_⟩
   .simp only[show¬((9:Int)=1)by decide,show¬((9:Int)=2)by decide,show¬((9:Int)=3)by decide,show¬((9:Int)=4)by decide,show¬((9:Int)=5)by decide,if_false,if_true]at h;split at h
    .grind
    .simp[eJ]at h
   .simp only[show¬((10:Int)=1)by decide,show¬((10:Int)=2)by decide,show¬((10:Int)=3)by decide,show¬((10:Int)=4)by decide,show¬((10:Int)=5)by decide,show¬((10:Int)=9)by decide,if_false,if_true]at h;split at h
    .grind
    .simp[eJ]at h
   grind
  exact⟨D,E,F,j.1,j.2⟩
theorem Vw{s:jZ}{ps:cn}(c:ps.length<=1000):∀q:Query,(aJ s ps q).2=0->QW q->QI q
 |.mk op ta w co on gr od li args,h,d=>by
  obtain⟨f,o,a,b,g,j,n⟩:=lX h;rw[Mv]at d;rw[JF];exact⟨Zq g j c d.1 n,λq e=>Vw c q (f q e) (d.2 q e)⟩
def ED(a:Int)(n:Bool)(e:Int):=if n=true then decide (0<=a)&&decide (a<e)else a==0
def b6X:Vc.Spec:=λc m h K=>∃a n e,c=[cI a,cB n,cI e]/\K (cB (ED a n e)) m h
def bVZ:Vc.Spec:=λc m h K=>∃v p,c=[aP v]/\fP h p v/\∀r:Bool,(r=true↔p=gG)->K (cB r) m h
def YX:Vc.Spec:=λc m h K=>∃v t,c=[aT v]/\uW h t v/\∀r:Bool,(r=true↔cY t.query)->K (cB r) m h
noncomputable def bLQ(v:xA)(m:MH)(h:PH):=
 dK [(197,bVZ)] [] ([3,5,7,9].map λk=>(k,{A:=Unit,st:=λ_=>bY 66 67 [(1,.at (.ptr 1 0))] [(1,.cells 101 (v.enc.map .val))] m h})) [] false
def T6(op:Int)(m:MH)(h:PH)(K:cq):=
  dQ (op==1) (K (jA 0) m h) (op==2) (K (jA 1) m h) (dQ (op==3) (K (jA 1) m h) (op==9) (K (jA 1) m h) (dQ (op==4) (K (jA 2) m h) (op==5) (K (jA 2) m h) (dQ (op==6) (K (jA 2) m h) (op==7) (K (jA 2) m h) (dQ (op==8) (K (jA 2) m h) (op==10) (K (jA 2) m h) (K (jA (Int.negSucc 0)) m h)))))
def T5(a:Int)(n:Bool)(e:Int)(m:MH)(h:PH)(K:cq):=
  branch n (iO a 0 (K (Aw (decide (a<e))) m h) (K bD m h)) (K (Aw (a==0)) m h)
def TH(v:PV)(m:MH)(h:PH)(K:cq):=
  fC v.op 0 (fC v.cmp 0 (∃(r:Bool),gX (Gd v.left.enc r) r (∃(c:Bool),gX (Gd (Ad v) c) c (K (Aw (wF v==0)) m h) (K bD m h)) (K bD m h)) (K bD m h)) (K bD m h)
def T4(v:xA)(m:MH)(h:PH)(K:cq):=
  ∃(I:Unit->Prop),dR v.op 1 (dR v.table 0 (K bD m h) (∃(x:Unit),aA (I x) fB (aA (oG v) (m=m) (bU h h)))) (∃(x:Unit),aA (I x) fB (aA (oG v) (m=m) (bU h h)))/\∀(x:Unit),I x->∃(I1:Unit->Prop),dR v.op 2 (sT (λf p=>aA (eY (gR v.where_) (gR f)) (fP h p f) (∀(r:Bool),gS (iX r↔p=Lr) (!r) (K bD m h) (∃(d:Unit),aA (I1 d) fB (aA (oG v) (m=m) (bU h h)))))) (∃(d:Unit),aA (I1 d) fB (aA (oG v) (m=m) (bU h h)))/\∀(d:Unit),I1 d->∃(I2:Unit->Prop),dR v.op 3 (gA (aG v.columns) 0 (K bD m h) (∃(e:Unit),aA (I2 e) fB (aA (oG v) (m=m) (bU h h)))) (∃(e:Unit),aA (I2 e) fB (aA (oG v) (m=m) (bU h h)))/\∀(e:Unit),I2 e->∃(I3:Unit->Prop),dR v.op 4
 (dR v.op 5 (gA (aG v.on) 0 (K bD m h) (∃(c:Unit),aA (I3 c) fB (aA (oG v) (m=m) (bU h h)))) (∃(c:Unit),aA (I3 c) fB (aA (oG v) (m=m) (bU h h)))) (∃(c:Unit),aA (I3 c) fB (aA (oG v) (m=m) (bU h h)))/\∀(c:Unit),gS (I3 c) (v.op !=9) (dR v.op 10 (fC (aG v.group) 0 (fC (aG v.order) 0 (K (Aw (v.limit==0)) m h) (K bD m h)) (K bD m h)) (K jF m h)) (K jF m h)
theorem amQ:cm 147 Se:=by
 refine jC func147 ?_;rintro d m h K ⟨op,rfl,c⟩;refine⟨dK [] [] [] [] false,rfl,aH,T6 op m h K,ax,?_⟩;dsimp only[T6,push_cast]
 repeat' (first|(refine aD (λ_=>?_) (λ_=>?_))|(refine BO c ?_;simp only[arity];simp only[*,Bool.or_false,Bool.false_or,Bool.or_true,Bool.true_or,Bool.and_true,Bool.true_and,Bool.and_false,Bool.false_and,Bool.not_true,Bool.not_false,Bool.false_eq_true,if_true,if_false, ↓reduceIte];done)|(refine BO c ?_;simp only[arity];grind))
theorem alJ:cm 148 b6X:=by
 refine jC func148 ?_;rintro f m h K ⟨a,n,e,rfl,c⟩;refine⟨dK [] [] [] [] false,rfl,aH,T5 a n e m h K,ax,?_⟩;dsimp only[T5,push_cast];unfold ED at c;refine aD (λd=>?_) (λd=>?_)
 .rw[if_pos d]at c;refine aF (λg=>kR c ?_) (λg=>kR c ?_)
  .grind
  grind
 .rw[if_neg (by simp[d])]at c;exact kR c rfl
theorem adQ:cm 197 bVZ:=by
 refine jC func197 ?_;rintro g m h K ⟨v,p,rfl,j,d⟩;refine⟨dK [] [] [] [] false,rfl,aH,TH v m h K,ax,?_⟩;dsimp only[TH,push_cast];obtain⟨op,n,l,r,args⟩:=p;obtain⟨rfl,rfl,rfl,rfl,o⟩:=j.parts;have u:=EW o.slen;have bad:¬(Pred.mk v.op v.cmp v.left v.right args=gG)->K (.val (.bool false)) m h:=λy=>d false ⟨λe=>(by cases e),λe=>(y e).elim⟩;simp only[gG,Pred.mk.injEq]at d bad;refine aD (λz=>aD (λA=>⟨_,BI v.left gL,aD (λc=>⟨_,BI v.right gL,aD (λf=>d _ ?_) (λf=>bad ?_)⟩) (λc=>bad ?_)⟩) (λA=>bad ?_)) (λz=>bad ?_)
 .rw[u];exact⟨λe=>⟨bg,bg,uU.1 c,uU.1 f,e⟩,λe=>e.2.2.2.2⟩
 .grind
 .intro e;rw[uU.2 e.2.2.1]at c;cases c
 .grind
 grind
theorem alZ:cm 149 YX:=by
 refine jC func149 ?_;rintro J m h K ⟨v,t,rfl,x,g⟩;refine⟨bLQ v m h,rfl,aE adQ aH,T4 v m h K,ax,?_⟩;dsimp only[T4,push_cast];obtain⟨op,ta,w,co,on,gr,od,li,le,R⟩:=t;obtain⟨u,y,z,A,B,C,xs,D,_,_⟩:=x;simp only at u y z A B C xs D;have S:=EW A.slen;have T:=EW B.slen;have U:=EW C.slen;have V:=EW xs.slen;simp only[Step.query,cY]at g;subst u y D;have bad:∀{P:Prop},¬P->((v.op=1\/v.table=0)/\(v.op=2\/w=gG)/\(v.op=3\/co=[])/\(v.op=4\/v.op=5\/on=[])/\(v.op=9\/v.op=10\/(gr=[]/\od=[]/\v.limit=0))->P)->K (.val (.bool false)) m h:=λj L=>g false ⟨λe=>(by cases e),λe=>(j (L e)).elim⟩;have M:∀{n:Nat}{α:Type}{l:List α},n=l.length->((n:Int)>0↔l≠[]):=fun{n α l} e=>by rw[e,ne_eq, <-length_eq_zero_iff];omega
 refine⟨λ_=>v.op=1\/v.table=0,aD (λd=>aD (λc=>bad (P:=v.op=1\/v.table=0) ?_ λe=>e.1) (λc=>⟨(),.inr bg,MT⟩)) (λd=>⟨(),.inl bg,MT⟩),λ_ E=>?_⟩
 .grind
 refine⟨λ_=>v.op=2\/w=gG,aD (λd=>⟨v.where_,w,rfl,z,λr F=>aD (λc=>bad (P:=v.op=2\/w=gG) ?_ λe=>e.2.1) (λc=>⟨(),.inr (F.1 bg),MT⟩)⟩) (λd=>⟨(),.inl bg,MT⟩),λ_ G=>?_⟩
 .rw[not_or];refine⟨bg,λe=>?_⟩;rw[F.2 e]at c;cases c
 refine⟨λ_=>v.op=3\/co=[],aD (λd=>aF (λc=>bad (P:=v.op=3\/co=[]) ?_ λe=>e.2.2.1) (λc=>⟨(),.inr ?_,MT⟩)) (λd=>⟨(),.inl bg,MT⟩),λ_ H=>?_⟩
 .grind
 .grind
 refine⟨λ_=>v.op=4\/v.op=5\/on=[],aD (λd=>aD (λo=>aF (λc=>bad (P:=v.op=4\/v.op=5\/on=[]) ?_ λe=>e.2.2.2.1) (λc=>⟨(),.inr (.inr ?_),MT⟩)) (λo=>⟨(),.inr (.inl bg),MT⟩)) (λd=>⟨(),.inl bg,MT⟩),λ_ I=>?_⟩
 .grind
 .grind
 refine aD (λd=>aD (λc=>?_) (λc=>g true ⟨λ_=>⟨E,G,H,I,.inr (.inl bg)⟩,λ_=>rfl⟩)) (λd=>g true ⟨λ_=>⟨E,G,H,I,.inl bg⟩,λ_=>rfl⟩);have d:v.op≠9:=bg
 have c:v.op≠10:=bg
 have f:¬(gr=[]/\od=[]/\v.limit=0)->K (.val (.bool false)) m h:=λj=>bad j λe=>(e.2.2.2.2.resolve_left d).resolve_left c;refine aD (λO=>aD (λQ=>g _ ?_) (λQ=>f λe=>?_)) (λO=>f λe=>?_)
 .grind
 .grind
 .grind
open Classical in
noncomputable def WR(a co:cn):cn×Int:=if co≠[]/\Good (λ_ c=>C0 a c=true) co then nO (co.map λc=>a.getD c.toNat 0)else eJ 120
def cDJ:=λc m h K=>∃s t a co,c=[cS s,cS t]/\Ints h s a/\Ints h t co/\KR K m h (WR a co)
def UI:Vc.Spec:=λc m h K=>∃s t u a b on,c=[cS s,cS t,cS u]/\Ints h s a/\Ints h t b/\jD h u on/\a.length<=1000/\b.length<=1000/\∀r:Bool,(r=true↔Good (oB a b) on)->K (cB r) m h
def R5:Vc.Spec:=λc m h K=>∃s v a t,c=[cS s,aT v]/\Ints h s a/\uW h t v/\a.length<=1000/\∀r:Bool,(r=true↔nT a t.group t.order t.limit)->K (cB r) m h
def eB(b:Bool):cr:=[.bool b]
noncomputable def bKJ s t m h:=
 dK [] [(4,{A:=Nat,st:=λi=>bY 51 53 [(0,sv s),(1,sv t),(14,sv t),(15,iv t.len),(16,iv i)] [] m h}),
  (13,{A:=Nat×cn,st:=λ⟨i,l⟩=>bY 51 53 [(0,sv s),(8,.at (.lst 34)),(35,sv t),(36,iv t.len),(37,iv i)] [(34,.lst 3 1 (l.map eI))] m h})] [] [] false
noncomputable def bKZ s t u m h:=
 dK [] [(4,{A:=Nat×dj×dj,st:=λ⟨i,x,y⟩=>bY 75 78 [(0,sv s),(1,sv t),(7,.at (.lst 15)),(8,.at (.lst 18)),(19,sv u),(20,iv u.len),(21,iv i)] [(15,.lst 4 1 (x.map eB)),(18,.lst 4 1 (y.map eB))] m h})] [(9,{A:=Nat×dj×dj×Int×Int,st:=λ⟨i,x,y,a,b⟩=>bY 75 78 [(0,sv s),(1,sv t),(7,.at (.lst 15)),(8,.at (.lst 18)),(11,iv a),(12,iv b),(19,sv u),(20,iv u.len),(21,iv i)] [(15,.lst 4 1 (x.map eB)),(18,.lst 4 1 (y.map eB))] m h})] [] false
noncomputable def bKX(s:Sl)(v:xA)(m:MH)(h:PH):=
 dK [] [(3,{A:=Nat×dj,st:=λ⟨i,x⟩=>bY 68 70 [(0,sv s),(3,.at (.ptr 3 0)),(5,.at (.lst 12)),(14,sv v.group),(15,iv v.group.len),(16,iv i)] [(3,.cells 101 (v.enc.map .val)),(12,.lst 4 1 (x.map eB))] m h}),
  (12,{A:=Nat,st:=λi=>bY 68 70 [(0,sv s),(3,.at (.ptr 3 0)),(43,sv v.order),(44,iv v.order.len),(45,iv i)] [(3,.cells 101 (v.enc.map .val))] m h})] [] [] false
def T3 s t m h K:=
  fC (aG t) 0 (cG K 120 m h) (nI (λI x=>aA (I x) (aI s) (aA (aI t) (aI t) (aA (bI t) (bA x) (aA (m=m) (h=h) True)))) (λI f x=>I x->aY (↑x:Int) (aG t) (bK (λb o=>aA (aR t.a b o) (0<=(↑x:Int)) ((↑x:Int)<aG t/\∃(y:Int),aK m h b (bL o x 1) (bC y)/\aY y 0 (cG K 120 m h) (iO y (aG s) (cG K 120 m h) (∃(c:Nat),aA (I c) (f c<f x) (aA (aI s) (aI t) (aA (aI t) (bI t) (aA (iH (bE x 1)=bP c) (m=m) (bU h h))))))))) (gA (aG t) 12 (cG K 2 m h) (CH t 8 (Lf (λI1 c=>aA (I1 c) (aI s) (aA (eL 34) (aI t) (aA (bI t) (bA c.1) (aA (lW (tW (aG t) (pD bF)) c.2) (m=m) (bU h h))))) (λI1 g c=>I1 c->aY (↑c.1:Int) (aG t) (bK (λb o=>aA (aR t.a b o) (0
 <=(↑c.1:Int)) ((↑c.1:Int)<aG t/\∃(y:Int),aK m h b (bL o c.1 1) (bC y)/\bK (λj n=>aA (aR s.a j n) (0<=y) (y<aG s/\∃(u:Int),aA (aK m h j (gH n y 1) (bC u)) (0<=(↑c.1:Int)) ((↑c.1:Int)<nN (qP c)/\∃(e:cr),aA (mH (qP c) (nL c.1) e) (wJ 0 e) (∃(d:Nat×cn),aA (I1 d) (g d<g c) (aA (aI s) (eL 34) (aA (aI t) (bI t) (aA (iH (bE c.1 1)=bP d.1) (lW (List.set (qP c) (nL c.1) (GS (gZ u) 1 e)) d.2) (eM m m h h))))))))))) (uK h (qP c) K m)))))))
abbrev nC a:=List.map eB a
abbrev Bx(a:Nat×dj×dj×Int×Int):=a.2.2.2.1
abbrev z8(a:Nat×dj×dj×Int×Int):=a.2.2.2.2
abbrev Ge(a:Nat×dj×dj×Int×Int):=nC a.2.2.1
attribute [push_cast] nC Bx z8 Ge
def T2(s t u:Sl)(m:MH)(h:PH)(K:cq):=
  aA (cN (aG s)) (aG s<=aG s) (aA (Ah s 1) (Ae (aG s)) (aA (cN (aG t)) (aG t<=aG t) (aA (Ah t 1) (Ae (aG t)) (∃(I:Nat×dj×dj->Prop)(j:Nat×dj×dj->Nat),(∃(x:Nat×dj×dj),aA (I x) (aI s) (aA (aI t) (eL 15) (aA (eL 18) (aI u) (aA (bI u) (bA x.1) (aA (bW 4 1 (tW (aG s) (pD wZ))=bW 4 1 (nC x.2.1)) (bW 4 1 (tW (aG t) (pD wZ))=bW 4 1 (nC x.2.2)) (aA (m=m) (h=h) True))))))/\∀(x:Nat×dj×dj),I x->aY (↑x.1:Int) (aG u) (bK (λb o=>aA (aR u.a b o) (0<=(↑x.1:Int)) ((↑x.1:Int)<aG u/\∃(y:Int×Int),aA (aK m h b (bL o x.1 2) (vZ y)) (cN 0) (aA ((0:Int)<2) (cN 1) ((1:Int)<2/\∃(I1:Nat×dj×List
 Bool×Int×Int->Prop),aY y.1 0 (K bD m h) (iO y.1 (aG s) (K bD m h) (aY y.2 0 (K bD m h) (iO y.2 (aG t) (K bD m h) (∃(c:Nat×dj×dj×Int×Int),aA (I1 c) (aI s) (aA (aI t) (eL 15) (aA (eL 18) (dA y.1 (Bx c)) (aA (dA y.2 (z8 c)) (aI u) (aA (bI u) (cJ x.1 c.1) (aA (bW 4 1 (nC x.2.1)=bW 4 1 (nC c.2.1)) (bW 4 1 (nC x.2.2)=bW 4 1 (Ge c)) (eM m m h h))))))))))/\∀(c:Nat×dj×dj×Int×Int),I1 c->bK (λn z=>aA (aR s.a n z) (0<=Bx c) (Bx c<aG s/\∃(A:Int),aK m h n (gH z (Bx c) 1) (bC A)/\bK (λB C=>aA (aR t.a B C) (0<=z8 c) (z8 c<aG t/\∃(D:Int),aK m h B (gH C (z8 c) 1) (bC D)/\dR A D (K bD m h)
 (qS (Bx c) (nC c.2.1) (λe=>mH (nC c.2.1) (Bx c).toNat e/\∃(E:Bool),gX (uI 1 e (tU E)) E (K bD m h) (qS (z8 c) (Ge c) (λF=>mH (Ge c) (z8 c).toNat F/\∃(G:Bool),gX (uI 1 F (tU G)) G (K bD m h) (qS (Bx c) (nC c.2.1) (λf=>aA (mH (nC c.2.1) (Bx c).toNat f) (wJ 0 f) (aA (cN (z8 c)) (z8 c<nN (Ge c)) (∃(g:cr),aA (mH (Ge c) (z8 c).toNat g) (wJ 0 g) (∃(d:Nat×dj×dj),aA (I d) (j d<j x) (aA (aI s) (aI t) (aA (eL 15) (eL 18) (aA (aI u) (bI u) (aA (iH (bE c.1 1)=bP d.1) (bW 4 1 (List.set (nC c.2.1) (Bx c).toNat (GS Dk 1 f))=bW 4 1 (nC d.2.1)) (aA (bW 4 1 (List.set
 (Ge c) (z8 c).toNat (GS Dk 1 g))=bW 4 1 (nC d.2.2)) (m=m) (bU h h)))))))))))))))))))))))) (K jF m h)))))
def T1(s:Sl)(v:xA)(m:MH)(h:PH)(K:cq):=
  CH s 1 (∃(I:Nat×dj->Prop)(g:Nat×dj->Nat),(∃(x:Nat×dj),aA (I x) (aI s) (aA (eP 3) (eL 12) (aA (aI v.group) (bI v.group) (aA (bA x.1) (oG v) (dJ (bW 4 1 (tW (aG s) (pD wZ))=bW 4 1 (nC x.2)) m m h h)))))/\∀(x:Nat×dj),I x->aY (↑x.1:Int) (aG v.group) (bK (λb o=>aA (aR v.group.a b o) (0<=(↑x.1:Int)) ((↑x.1:Int)<aG v.group/\∃(y:Int),aK m h b (bL o x.1 1) (bC y)/\aY y 0 (K bD m h) (iO y (aG s) (K bD m h) (qS y (nC x.2) (λe=>mH (nC x.2) y.toNat e/\∃(j:Bool),gX (uI 1 e (tU j)) j (K bD m h) (qS y (nC x.2) (λd=>aA (mH (nC x.2) y.toNat d) (wJ 0 d) (∃(c:Nat×dj),aA (I c) (g c<g x) (aA (aI s) j8 (aA (eL 12)
 (aI v.group) (aA (bI v.group) (iH (bE x.1 1)=bP c.1) (aA (oG v) (bW 4 1 (List.set (nC x.2) y.toNat (GS Dk 1 d))=bW 4 1 (nC c.2)) (aA (m=m) (h=h) True)))))))))))))) (gA (aG v.order) 12 (K bD m h) (nI (λI1 c=>aA (I1 c) (aI s) (aA (eP 3) (aI v.order) (aA (bI v.order) (bA c) (aA (oG v) (m=m) (bU h h))))) (λI1 n c=>I1 c->aY (↑c:Int) (aG v.order) (bK (λb o=>aA (aR v.order.a b o) (0<=(↑c:Int)) ((↑c:Int)<aG v.order/\∃(y:Int×Bool),aK m h b (bL o c 2) (Bi y)/\aY y.1 0 (K bD m h) (iO y.1 (aG s) (K bD m h) (∃(f:Nat),aA (I1 f) (n f<n c) (aA (aI s) j8 (aA (aI v.order) (bI v.order) (aA (iH (bE c 1)=bP f) (oG v) (eM m m h h))))))))) (iO v.limit 0 (K (Aw (decide
 (v.limit<=100))) m h) (K bD m h))))))
theorem KR.bad{r e}(c:KR K m h r)(d:r=eJ e):K (.tup [.val (.slice none 0 0),.val (.int .i64 e)]) m h:=c.err (.refl _) d
theorem alQ:cm 150 cDJ:=by
 refine jC func150 ?_;rintro J m h K ⟨s,t,a,co,rfl,F,y,n⟩;refine⟨bKJ s t m h,rfl,aH,T3 s t m h K,ax,?_⟩;dsimp only[T3,push_cast];have V:=F.slen;have z:=y.slen;have G:=y.len;unfold WR at n;refine aD (λH=>n.bad (if_neg λe=>e.1 ((EW y.slen).1 H))) (λH=>?_);have A:co≠[]:=λe=>bg
 refine⟨λi=>i<=co.length/\gY (λ_ c=>C0 a c=true) co i,λi=>co.length-i,⟨0,⟨aC,.zero⟩,MT⟩,λi⟨W,I⟩=>aF (λd=>?_) (λB=>?_)⟩
 .obtain⟨c,j⟩:=fK z d;obtain⟨b,o,e,r⟩:=y.at' j;refine⟨b,o,e,aC,d,c,.imm r,aF (λC=>n.bad (if_neg λg=>?_)) (λC=>aF (λL=>n.bad (if_neg λg=>?_)) (λL=>⟨i+1,⟨aC,I.succ j (fH.2 ⟨aC,aC⟩)⟩,bg,MT⟩))⟩
  .have:=fH.1 (g.2 i c j);omega
  .have:=fH.1 (g.2 i c j);omega
 have f:=I.all aC;rw[if_pos ⟨A,f⟩]at n;refine aF (λC=>n.big (.refl _) rfl bf) (λC=>⟨aC,aC,aC,aC,?_⟩);refine⟨λ⟨i,l⟩=>i<=co.length/\l=((co.take i).map λc=>a.getD c.toNat 0)++replicate (co.length-i) 0,λ⟨i,_⟩=>co.length-i,⟨(0,replicate co.length 0),⟨aC,ay⟩,?_⟩,?_⟩
 .have:List.map eI (replicate co.length (0:Int))=replicate (Int.toNat (t.len:Int)) [gZ 0]:=by rw[map_replicate,Int.toNat_natCast,z];rfl
  grind
 rintro⟨i,l⟩ ⟨M,rfl⟩;dsimp only;refine aF (λd=>?_) (λB O h' D X=>n.ok D rfl bf ?_)
 .obtain⟨c,j⟩:=fK z d;obtain⟨b,o,e,r⟩:=y.at' j;have u:=fH.1 (f i c j);obtain⟨P,Q,R,S⟩:=F.inb u.1 u.2;refine⟨b,o,e,aC,d,c,.imm r,P,Q,R,u.1,aC,a.getD c.toNat 0,.imm S,aC,bf,eI 0,?_,by simp[eI],(i+1,((co.take (i+1)).map λc=>a.getD c.toNat 0)++replicate (co.length-(i+1)) 0),⟨aC,rfl⟩,aC,?_⟩
  .grind
  .have T:co.length-i=(co.length-(i+1))+1:=by omega
   have U:(List.map eI (((co.take i).map λc=>a.getD c.toNat 0)++replicate (co.length-i) 0)).set (Int.toNat (i:Int)) (gZ (a.getD c.toNat 0)::([]++List.drop 1 (eI 0)))=List.map eI (((co.take (i+1)).map λc=>a.getD c.toNat 0)++replicate (co.length-(i+1)) 0):=by
    have Y:((co.take i).map λc=>a.getD c.toNat 0).length=i:=bf
    rw[T,replicate_succ,cd,j,Int.toNat_natCast];simp only[bu,map_cons];have E:(List.map eI ((co.take i).map λc=>a.getD c.toNat 0)).length=i:=bg
    rw[set_append_right _ _ aC,E,Nat.sub_self];simp[eI]
   rw[<-U];exact MT
 .have:i=co.length:=by omega
  subst this
  grind
structure Seen(n:Nat)(x:dj)(l:cn):Prop where
 len:x.length=n
 iff:∀k:Nat,k<n->(x[k]? =some true↔(k:Int)∈l)
theorem Seen.zero n:Seen n (replicate n false) []:=⟨ay,λk c=>bg⟩
theorem Seen.map0{n}{s:Sl}(h:s.len=n):List.map eB (replicate n false)=replicate (Int.toNat (s.len:Int)) [Value.bool false]:=by rw[map_replicate,Int.toNat_natCast,h];rfl
theorem Seen.look{n x}(h:Seen n x l){c:Int}(d:0<=c)(e:c<n):∃y,(List.map eB x)[c.toNat]? =some (eB y)/\(y=true↔c∈l):=by
 have f:=h.len;have g:c.toNat<x.length:=by omega
 refine⟨x[c.toNat],bg,?_⟩;have:=h.iff c.toNat aC
 grind
theorem Seen.set{n x}(h:Seen n x l){c:Int}(f:0<=c)(g:c<n):Seen n (x.set c.toNat true) (l++[c]):=by
 refine⟨bk h.len,λk d=>?_⟩;have j:=h.len;rw[getElem?_set,mem_append,mem_singleton];by_cases e:c.toNat=k
 .grind
 .rw[if_neg e,h.iff k d]
  grind
theorem Seen.cells x k y:(List.map eB x).set k (Value.bool true::([]++List.drop 1 (eB y)))=List.map eB (x.set k true):=by rw[map_set];rfl
theorem akJ:cm 151 UI:=by
 refine jC func151 ?_;rintro T m h K ⟨s,t,u,a,b,on,rfl,I,J,F,al,bl,L⟩;refine⟨bKZ s t u m h,rfl,aH,T2 s t u m h K,ax,?_⟩;dsimp only[T2,push_cast];have U:=I.slen;have V:=J.slen;have W:=F.slen;have G:=F.len;refine⟨aC,aC,aC,aC,aC,aC,aC,aC,?_⟩;refine⟨λ⟨i,x,y⟩=>i<=on.length/\gY (oB a b) on i/\Seen a.length x ((on.take i).map λp=>p.1)/\Seen b.length y ((on.take i).map λp=>p.2),λ⟨i,_,_⟩=>on.length-i,⟨(0,replicate a.length false,replicate b.length false),⟨aC,.zero,.zero _,.zero _⟩,?_⟩,?_⟩
 .rw[Seen.map0 U,Seen.map0 V];exact MT
 rintro⟨i,x,y⟩ ⟨X,H,A,B⟩;dsimp only at X H A B⊢
 refine aF (λn=>?_) (λY=>L true ⟨λ_=>H.all aC,λ_=>rfl⟩);obtain⟨p,o⟩:=fK W n;obtain⟨Z,o1,e1,r1⟩:=F.at o;have bad:¬oB a b (on.take i) p->K (.val (.bool false)) m h:=λhn=>L false ⟨λe=>(by cases e),λe=>(Good.not o hn e).elim⟩;refine⟨Z,o1,e1,aC,n,p,.imm r1,aC,aC,aC,aC,λ⟨i',x',y',c,d⟩=>i'=i/\x'=x/\y'=y/\c=p.1/\d=p.2/\C0 a p.1=true/\C0 b p.2=true,?_,?_⟩
 .refine aF (λz=>bad λg=>?_) (λz=>aF (λC=>bad λg=>?_) (λC=>aF (λD=>bad λg=>?_) (λD=>aF (λh4=>bad λg=>?_) (λh4=>⟨(i,x,y,p.1,p.2),⟨rfl,rfl,rfl,rfl,rfl,fH.2 ⟨aC,aC⟩,fH.2 ⟨aC,aC⟩⟩,MT⟩))))
  .have:=fH.1 g.1;omega
  .have:=fH.1 g.1;omega
  .have:=fH.1 g.2.1;omega
  .have:=fH.1 g.2.1;omega
 rintro⟨i,x,y,c,d⟩ ⟨rfl,rfl,rfl,rfl,rfl,M,O⟩;dsimp only;have f:=fH.1 M;have j:=fH.1 O;obtain⟨b2,o2,e2,r2⟩:=I.inb f.1 f.2;obtain⟨b3,o3,e3,r3⟩:=J.inb j.1 j.2;obtain⟨P,Q,q1⟩:=A.look f.1 f.2;obtain⟨R,S,q2⟩:=B.look j.1 j.2;have lx:=A.len;have ly:=B.len;refine⟨b2,o2,e2,f.1,aC,_,.imm r2,b3,o3,e3,j.1,aC,_,.imm r3,aD (λz=>bad λg=>?_) (λz=>⟨f.1,bf,_,Q,P,rfl,aD (λC=>bad λg=>?_) (λC=>⟨j.1,bf,_,S,R,rfl,aD (λD=>bad λg=>?_) (λD=>?_)⟩)⟩)⟩
 .rw[g.2.2.1]at z;simp at z
 .obtain⟨q,E,e⟩:=mem_map.1 (q1.1 C);exact(g.2.2.2 q E).1 e
 .obtain⟨q,E,e⟩:=mem_map.1 (q2.1 D);exact(g.2.2.2 q E).2 e
 refine⟨f.1,bf,_,Q,by simp[eB],j.1,bf,_,S,by simp[eB],(i+1,x.set p.1.toNat true,y.set p.2.toNat true),⟨aC,H.succ o ⟨M,O,bg,λq E=>⟨λe=>?_,λe=>?_⟩⟩,?_,?_⟩,aC,?_⟩
 .grind
 .grind
 .rw[cd,o,bu];exact A.set f.1 f.2
 .rw[cd,o,bu];exact B.set j.1 j.2
 .rw[<-Seen.cells x p.1.toNat P, <-Seen.cells y p.2.toNat R];exact MT
theorem akZ:cm 153 R5:=by
 refine jC func153 ?_;rintro S m h K ⟨s,v,a,t,rfl,T,x,al,O⟩;refine⟨bKX s v m h,rfl,aH,T1 s v m h K,ax,?_⟩;dsimp only[T1,push_cast];have U:=T.slen;have V:=x.group_.slen;have W:=x.order_.slen;have P:=x.group_.len;have Q:=x.order_.len;have X:=x.limit_;have bad:¬nT a t.group t.order t.limit->K (.val (.bool false)) m h:=λA=>O false ⟨λe=>(by cases e),λe=>(A e).elim⟩;refine⟨aC,aC,aC,aC,?_⟩;refine⟨λ⟨i,u⟩=>i<=t.group.length/\gY (GN a) t.group i/\Seen a.length u (t.group.take i),λ⟨i,_⟩=>t.group.length-i,⟨(0,replicate a.length false),⟨aC,.zero,.zero _⟩,?_⟩,?_⟩
 .rw[Seen.map0 U];exact MT
 rintro⟨i,u⟩ ⟨G,E,B⟩;dsimp only at G E B⊢
 have Y:=B.len;refine aF (λd=>?_) (λC=>?_)
 .obtain⟨c,j⟩:=fK V d;obtain⟨H,I,J,L⟩:=x.group_.at' j;have f:¬GN a (t.group.take i) c->K (.val (.bool false)) m h:=λA=>bad λo=>Good.not j A o.group_;refine⟨H,I,J,aC,d,c,.imm L,aF (λM=>f λg=>?_) (λM=>aF (λz=>f λg=>?_) (λz=>?_))⟩
  .have:=fH.1 g.1;omega
  .have:=fH.1 g.1;omega
  obtain⟨y,R,Z⟩:=B.look (c:=c) aC aC;refine⟨aC,bf,_,R,y,rfl,aD (λF=>f λg=>g.2 (Z.1 F)) (λF=>⟨aC,bf,_,R,by simp[eB],(i+1,u.set c.toNat true),⟨aC,E.succ j ⟨fH.2 ⟨aC,aC⟩,λe=>?_⟩,?_⟩,aC,?_⟩)⟩
  .grind
  .rw[cd,j];exact B.set aC aC
  .rw[<-Seen.cells u c.toNat y];exact MT
 have gg:=E.all aC;clear G E C B Y;refine aF (λM=>bad λo=>by have:=o.len_;omega) (λM=>?_);refine⟨λi=>i<=t.order.length/\gY (J4 a) t.order i,λi=>t.order.length-i,⟨0,⟨aC,.zero⟩,MT⟩,λi⟨G,D⟩=>aF (λd=>?_) (λC=>?_)⟩
 .obtain⟨c,j⟩:=fK W d;obtain⟨H,I,J,L⟩:=x.order_.at j;have n:¬J4 a (t.order.take i) c->K (.val (.bool false)) m h:=λA=>bad λo=>Good.not j A o.order_;refine⟨H,I,J,aC,d,c,.imm L,aF (λz=>n λg=>?_) (λz=>aF (λF=>n λg=>?_) (λF=>⟨i+1,⟨aC,D.succ j (fH.2 ⟨aC,aC⟩)⟩,bg,MT⟩))⟩
  .have:=fH.1 (show C0 a c.1=true from g);omega
  .have:=fH.1 (show C0 a c.1=true from g);omega
 have oo:=D.all aC;rw[X];refine aF (λz=>O _ ⟨λe=>⟨gg,oo,aC,z,bk e⟩,λe=>decide_eq_true e.high⟩) (λz=>bad λo=>by have:=o.low;omega)
def DE(ks:List cn)(a:Int)(n:Bool):=if n=true then ks.getD a.toNat []else[]
noncomputable def DL(s:jZ)(ks:List cn)(t:Step):=
 if arity t.op<0\/ED t.left (decide (arity t.op>0)) ks.length=false\/ED t.right (decide (arity t.op>1)) ks.length=false then eJ 120
 else if(eZ s [] t.query (DE ks t.left (decide (arity t.op>0))) (DE ks t.right (decide (arity t.op>1)))).2=100 then eJ 120
 else eZ s [] t.query (DE ks t.left (decide (arity t.op>0))) (DE ks t.right (decide (arity t.op>1)))
def Sd:=λc m h K=>∃sc d v s e ks t,c=[aS sc,cS d,aT v]/\iU h s sc/\oM s/\uW h t v/\cL m d 36 1 (e.map eS)/\Slices h e ks/\(∀k∈ks,k.length<=12)/\∀r,fin r=DL s ks t->KR K m h r
noncomputable def chQ(sc:bT)(kk:Sl)(v:xA)(m:MH)(h:PH):=
 dK [(147,Se),(148,b6X),(149,YX),(69,xL),(138,vJ),(150,cDJ),(151,UI),(152,Dw),(153,R5),(154,Mc),(78,PQ)] [] [(4,{A:=Int,st:=λn=>bY 132 135 [(1,sv kk),(3,.at (.ptr 3 0)),(5,.at (.ptr 5 0)),(8,iv n)] [(3,.cells 27 (sc.enc.map .val)),(5,.cells 101 (v.enc.map .val))] m h}),
  (9,{A:=Int×Sl,st:=λ⟨n,l⟩=>bY 132 135 [(1,sv kk),(3,.at (.ptr 3 0)),(5,.at (.ptr 5 0)),(8,iv n),(9,sv l),(10,.at (.val (.slice none 0 0)))] [(3,.cells 27 (sc.enc.map .val)),(5,.cells 101 (v.enc.map .val))] m h}),
  (11,{A:=Sl×Sl,st:=λ⟨l,r⟩=>bY 132 135 [(3,.at (.ptr 3 0)),(5,.at (.ptr 5 0)),(9,sv l),(10,sv r)] [(3,.cells 27 (sc.enc.map .val)),(5,.cells 101 (v.enc.map .val))] m h}),
  (34,{A:=Sl×Sl×Bool,st:=λ⟨l,r,b⟩=>bY 132 135 [(5,.at (.ptr 5 0)),(9,sv l),(10,sv r),(11,bv b)] [(5,.cells 101 (v.enc.map .val))] m h})] [] false
abbrev DT(a:Bool)(b:Prop)(c:Sl×Sl×Bool->Prop)(d:Sl×Sl)(e:xA)(g:MH)(i:PH):=(iX a↔b)->∃(x:Sl×Sl×Bool),aA (c x) fT (aA (aW d.1 x.1) (aW d.2 x.2.1) (aA (kN a x.2.2) (oG e) (aA (g=g) (i=i) True)))
attribute [push_cast] DT
def Q9 sc kk v m h K:=
  ∃(o:Int),mG v.op o/\∃(I:Int->Prop),aY (arity o) 0 (cG K 120 m h) (∃(a:Int)(n:Bool)(e:Int),gX (jA v.left::cT (Aw (decide (arity o>0))) (aG kk)=jA a::cT (Aw n) e) (!(ED a n e)) (cG K 120 m h) (∃(C:Int)(G:Bool)(H:Int),gX (jA v.right::cT (Aw (decide (arity o>1))) (aG kk)=jA C::cT (Aw G) H) (!(ED C G H)) (cG K 120 m h) (∃(x:Int),aA (I x) (aI kk) (aA (eP 3) fT (aA (dA (arity o) x) (cV sc) (aA (oG v) (m=m) (bU h h)))))))/\∀(x:Int),I x->QC (λJ t=>aA (eY (jO v.enc) (jO J.enc)) (uW h t J) (∀(r:Bool),gS (iX r↔cY (Query.mk t.op t.table t.wher t.columns t.on t.group t.order t.limit [])) (!r) (cG K 120 m h) (∃(I1:Int×Sl->Prop),gA x 0 (bK (λb B=>aA (aR kk.a b B) (0<=v.left)
 (v.left<aG kk/\∃(y:Sl),aK m h b (gH B v.left 1) (aL y)/\∃(z:Int×Sl),aA (I1 z) (aI kk) (aA (eP 3) fT (aA (dA x z.1) (aW y z.2) (aA (eQ sQn) (cV sc) (dJ (oG v) m m h h))))))) (∃(z:Int×Sl),aA (I1 z) (aI kk) (aA (eP 3) fT (aA (dA x z.1) (sQn=sQs z.2) (aA (eQ sQn) (cV sc) (dJ (oG v) m m h h)))))/\∀(z:Int×Sl),I1 z->∃(I2:Sl×Sl->Prop),gA z.1 1 (bK (λb B=>aA (aR kk.a b B) (0<=v.right) (v.right<aG kk/\∃(y:Sl),aK m h b (gH B v.right 1) (aL y)/\∃(d:Sl×Sl),aA (I2 d) j8 (aA (eP 5) (aW z.2 d.1) (aA (aW y d.2) (cV sc) (aA (oG v) (m=m) (bU h h))))))) (∃(d:Sl×Sl),aA (I2 d) j8 (aA (eP 5) (aW z.2 d.1) (aA (sQn=sQs d.2) (cV sc) (aA (oG v) (m=m) (bU h h)))))
 /\∀(d:Sl×Sl),I2 d->∃(I3:Sl×Sl×Bool->Prop),dQ (v.op==1) (aY v.table 0 (cG K 120 m h) (iO v.table (kM sc) (cG K 120 m h) (Cr (cT (jO (cC sc)) v.table) h (λs A=>K (CV.tup (cT (nW s) 0)) m A)))) (v.op==2) (KM (dC d.1 (tN EH (gR v.where_))) h (λc p L=>dR (iP c p L) 0 (cG K (iP c p L) m h) (∃(f:Sl×Sl×Bool),aA (I3 f) fT (aA (aW d.1 f.1) (aW d.2 f.2.1) (aA (yL f.2.2) (oG v) (aA (m=m) (h=h) True)))))) (dQ (v.op==3) (∃(s:Sl),yQ (λg a c=>aA (cD d.1 v.columns=cD s g) (Ints h s a) (Ints h g c/\∀(D:Sl)(A:PH),bS h A (Ints A D (WR a c).1) (K (CV.tup (gO D (CV.val (gZ (WR a c).2)))) m A)))) (v.op==4) (rC (λs g=>yQ (λu a b=>∃(B:cu),aA (dC d.1
 (cD d.2 v.on)=dC s (cD g u)) (Ints h s a) (aA (Ints h g b) (jD h u B) (aA (iB a) (iB b) (∀(j:Bool),DT j (Good (oB a b) B) I3 d v m h)))))) (dQ (v.op==5) (rC (λs g=>yQ (λu a b=>∃(B:cu),aA (dC d.1 (cD d.2 v.on)=dC s (cD g u)) (Ints h s a) (aA (Ints h g b) (jD h u B) (aA (iB a) (iB b) (∀(j:Bool),DT j (Good (oB a b) B) I3 d v m h)))))) (v.op==6) (DU d.1 d.2 h (λa b j=>DT j (a=b) I3 d v m h)) (dQ (v.op==7) (DU d.1 d.2 h (λa b j=>DT j (a=b) I3 d v m h)) (v.op==8) (DU d.1 d.2 h (λa b j=>DT j (a=b) I3 d v m h)) (dQ (v.op==9) (∃(s:Sl)(E:xA)(a:cn)(g:Step),aA (gO d.1 (jO v.enc)=gO s (jO E.enc)) (Ints h s a) (aA (uW h g E) (iB a)
 (∀(j:Bool),DT j (nT a g.group g.order g.limit) I3 d v m h))) (v.op==10) (DU d.1 d.2 h (λa b j=>gS (iX j↔a=b) j (∃(s:Sl)(E:xA)(C:cn)(g:Step),aA (gO d.1 (jO v.enc)=gO s (jO E.enc)) (Ints h s C) (aA (uW h g E) (iB C) (∀(P:Bool),DT P (nT C g.group g.order g.limit) I3 d v m h))) (∃(f:Sl×Sl×Bool),aA (I3 f) fT (aA (aW d.1 f.1) (aW d.2 f.2.1) (aA (B6 f.2.2) (oG v) (aA (m=m) (h=h) True)))))) (∃(f:Sl×Sl×Bool),aA (I3 f) fT (aA (aW d.1 f.1) (aW d.2 f.2.1) (aA (yL f.2.2) (oG v) (aA (m=m) (h=h) True))))))))/\∀(f:Sl×Sl×Bool),I3 f->dQ (!f.2.2) (cG K 120 m h) (v.op==4) (cK h 1 (mJ (aL f.1) (aL f.2.1)) (λs A=>∃(D:Sl)(k:List cn),aA (vA
 s=vA D) (cSQ A D k) (aA (k.length<=10) (∀(M:cn),List.Mem M k->M.length<=12) (∀(O:Sl)(F:PH),bS A F (Ints F O k.flatten) (K (CV.tup (cT (nW O) 0)) m F))))) (xQ f.1 h (λl=>∀(s:Sl)(A:PH),bS h A (Ints A s l) (K (CV.tup (cT (nW s) 0)) m A))))))
theorem cL.rdAt{m h s E sz xs}(r:cL m s E sz xs){i e}(d:xs[i]? =some e):∃b o,s.a=some ⟨b,o,none⟩/\aK m h b (o+i*sz) e:=by
 rcases r.ex with⟨_,rfl⟩|⟨b,g,c,rfl,n,_,_,_,u⟩
 .simp at d
 .refine⟨b,0,rfl,.lent c E (0,0) n ?_⟩;apply ext_getElem?;intro j;rw[getElem?_take];by_cases f:j<e.length
  .rw[if_pos f,getElem?_drop,Nat.zero_add];have y:=pB r.rows.len d j e[j] (bn f)
   grind
  grind
theorem aEZ{kk c}(r:cL m kk 36 1 (c.map eS))(g:Slices h c ks){a:Int}(j:0<=a)(n:a<ks.length):∃b o sl,kk.a=some ⟨b,o,none⟩/\aK m h b (o+a.toNat*1) [.slice sl.a sl.len sl.cap]/\Ints h sl (ks.getD a.toNat []):=by
 have d:a.toNat<ks.length:=by omega
 have f:a.toNat<c.length:=by rw[g.1];exact d
 obtain⟨b,o,e,rd⟩:=cL.rdAt (h:=h) r (i:=a.toNat) (e:=eS c[a.toNat]) bg;refine⟨b,o,c[a.toNat],e,rd,?_⟩;rw[getD_eq_getElem?_getD,bn d];exact g.2 a.toNat _ _ (bn f) (bn d)
theorem YO(h:∀k∈ks,k.length<=12) a n:(DE ks a n).length<=12:=by
 unfold DE
 grind
open Classical in
theorem cOX{sc:bT}{kk:Sl}{v:xA}{s ss ks t m h K}(hs:iU h s sc)(h8:oM s)(x:uW h t v)(hr:cL m kk 36 1 (ss.map eS))(T:Slices h ss ks)(X:∀k∈ks,k.length<=12)(Y:∀r,fin r=DL s ks t->KR K m h r):Q9 sc kk v m h K:=by
 dsimp only[Q9,push_cast];have F:Tst K m h (DL s ks t):=⟨Y⟩
 clear Y
 have kl:kk.len=ks.length:=by
  have:=cL.slen hr;rw[length_map]at this;rw[this,T.1]
 have ex:=x;have a8:=hs.tables.slen;obtain⟨op,ta,w,co,on,gr,od,li,le,ri⟩:=t;obtain⟨e0,e1,xw,xc,xo,xg,xs,e2,e3,e4⟩:=x;simp only at e0 e1 xw xc xo xg xs e2 e3 e4;subst e0 e1 e2 e3 e4;have Z:=YO X v.left (decide (arity v.op>0));have a4:=YO X v.right (decide (arity v.op>1))
 have d:DL s ks ⟨v.op,v.table,w,co,on,gr,od,v.limit,v.left,v.right⟩=if arity v.op<0\/ED v.left (decide (arity v.op>0)) ks.length=false\/ED v.right (decide (arity v.op>1)) ks.length=false then eJ 120
  else if(eZ s [] (.mk v.op v.table w co on gr od v.limit []) (DE ks v.left (decide (arity v.op>0))) (DE ks v.right (decide (arity v.op>1)))).2=100 then eJ 120
  else eZ s [] (.mk v.op v.table w co on gr od v.limit []) (DE ks v.left (decide (arity v.op>0))) (DE ks v.right (decide (arity v.op>1))):=rfl
 generalize hA:DE ks v.left (decide (arity v.op>0))=A at d Z;generalize hB:DE ks v.right (decide (arity v.op>1))=B at d a4;generalize DL s ks ⟨v.op,v.table,w,co,on,gr,od,v.limit,v.left,v.right⟩=R at F d;refine⟨v.op,rfl,λn=>n=arity v.op/\¬(arity v.op<0\/ED v.left (decide (arity v.op>0)) ks.length=false\/ED v.right (decide (arity v.op>1)) ks.length=false),aF (λC=>F.err bg az (.refl _)) (λC=>⟨v.left,_,(kk.len:Int),rfl,aD (λh2=>?_) (λh2=>⟨v.right,_,(kk.len:Int),rfl,aD (λh3=>?_) (λh3=>⟨arity v.op,⟨rfl,?_⟩,MT⟩)⟩)⟩),?_⟩
 .rw[kl]at h2;exact F.err bg az (.refl _)
 .rw[kl]at h3;exact F.err bg az (.refl _)
 .grind
 rintro n ⟨rfl,a'⟩;rw[if_neg a']at d;have P:¬arity v.op<0:=λe=>a' (.inl e);refine⟨v,_,rfl,ex,λr a0=>aD (λC=>F.err ?_ (e:=120) az (.refl _)) (λC=>?_)⟩
 .have hn:¬cY (.mk v.op v.table w co on gr od v.limit []):=λe=>bg
  have e:eZ s [] (.mk v.op v.table w co on gr od v.limit []) A B=eJ 100:=by
   unfold eZ;exact if_pos (.inr hn)
  rw[d,e];rfl
 have hu:cY (.mk v.op v.table w co on gr od v.limit []):=a0.1 bg;clear a0 C r
 have J:eZ s [] (.mk v.op v.table w co on gr od v.limit []) A B=if v.op=1 then(if 0<=v.table/\v.table<s.tables.length then nO (kH s v.table)else eJ 100)
  else if v.op=2 then(if iP A [] w=0 then nO A else eJ (iP A [] w))
  else if v.op=3 then(if co≠[]/\Good (λ_ c=>C0 A c=true) co then nO (co.map λc=>A.getD c.toNat 0)else eJ 100)
  else if v.op=4 then(if Good (oB A B) on then nO (A++B)else eJ 100)
  else if v.op=5 then(if Good (oB A B) on then nO A else eJ 100)
  else if v.op=9 then(if nT A gr od v.limit then nO A else eJ 100)
  else if v.op=10 then(if A=B/\nT A gr od v.limit then nO A else eJ 100)
  else(if A=B then nO A else eJ 100):=by
  unfold eZ;exact if_neg (λe=>e.elim P λe=>e hu)
 have a7:∀l,(nO l).2≠100:=λl=>by unfold nO;grind
 have L:∀{l},eZ s [] (.mk v.op v.table w co on gr od v.limit []) A B=nO l->R=nO l:=fun{l} e=>bg
 have D:eZ s [] (.mk v.op v.table w co on gr od v.limit []) A B=eJ 100->R=eJ 120:=λe=>by rw[d,e];rfl
 have a1:∀{e},e≠100->eZ s [] (.mk v.op v.table w co on gr od v.limit []) A B=eJ e->R=eJ e:=fun{e} h0 e1=>by rw[d,e1,if_neg (by simpa[eJ]using h0)]
 clear d;refine⟨λ⟨n,l⟩=>n=arity v.op/\Ints h l A,aF (λC=>?_) (λC=>⟨(arity v.op,⟨none,0,0⟩),⟨rfl,?_⟩,MT⟩),?_⟩
 .have G:ED v.left (decide (arity v.op>0)) ks.length=true:=by
   grind
  unfold ED at G;rw[if_pos (decide_eq_true C)]at G;simp only[bz,ce]at G;obtain⟨b,o,Q,e,rd,S⟩:=aEZ hr T G.1 G.2;refine⟨b,o,e,G.1,aC,Q,rd,(arity v.op,Q),⟨rfl,?_⟩,MT⟩;rw[<-hA,DE,if_pos (decide_eq_true C)];exact S
 .rw[<-hA,DE,if_neg bg];exact⟨.nil _ _,ay⟩
 rintro⟨n,l⟩ ⟨rfl,u⟩;dsimp only;refine⟨λ⟨l,r⟩=>Ints h l A/\Ints h r B,aF (λC=>?_) (λC=>⟨(l,⟨none,0,0⟩),⟨u,?_⟩,MT⟩),?_⟩
 .have G:ED v.right (decide (arity v.op>1)) ks.length=true:=by
   grind
  unfold ED at G;rw[if_pos (decide_eq_true C)]at G;simp only[bz,ce]at G;obtain⟨b,o,Q,e,rd,S⟩:=aEZ hr T G.1 G.2;refine⟨b,o,e,G.1,aC,Q,rd,(l,Q),⟨u,?_⟩,MT⟩;rw[<-hB,DE,if_pos (decide_eq_true C)];exact S
 .rw[<-hB,DE,if_neg bg];exact⟨.nil _ _,ay⟩
 clear u l;rintro⟨l,r⟩ ⟨u,j⟩;dsimp only;have good:∀b:Bool,(b=true->R=nO (if v.op=4 then A++B else A))->(b=false->R=eJ 120)->∃x:Sl×Sl×Bool,((λ⟨l,r,b⟩=>Ints h l A/\Ints h r B/\(b=true->R=nO (if v.op=4 then A++B else A))/\(b=false->R=eJ 120):Sl×Sl×Bool->Prop)) x/\(l,r,b)=x:=λb g1 g2=>⟨_,⟨u,j,g1,g2⟩,rfl⟩
 refine⟨λ⟨l,r,b⟩=>Ints h l A/\Ints h r B/\(b=true->R=nO (if v.op=4 then A++B else A))/\(b=false->R=eJ 120),?_,?_⟩
 .refine aD (λM=>?_) (λM=>aD (λU=>?_) (λU=>aD (λc3=>?_) (λc3=>?_)))
  .have M:v.op=1:=bg
   rw[if_pos M]at J;refine aF (λC=>F.err (D bg) az (.refl _)) (λC=>aF (λh2=>F.err (D bg) az (.refl _)) (λh2=>⟨sc,s,v.table,rfl,hs,h8,λQ h' E S=>F.ok (L bg) E S⟩))
  .have M:¬v.op=1:=bg
   have U:v.op=2:=bg
   rw[if_neg M,if_pos U]at J;have a5:iP A [] w≠100:=by unfold iP;omega
   refine⟨l,⟨none,0,0⟩,v.where_,A,[],w,rfl,u,⟨.nil _ _,ay⟩,xw,aD (λC=>?_) (λC=>⟨(l,r,true),⟨u,j,λ_=>?_,λe=>(by cases e)⟩,MT⟩)⟩
   .have C:iP A [] w≠0:=bg
    exact F.err (a1 a5 bg) C (.refl _)
   grind
  .have M:¬v.op=1:=bg
   have U:¬v.op=2:=bg
   have c3:v.op=3:=bg
   rw[if_neg M,if_neg U,if_pos c3]at J;refine⟨l,v.columns,A,co,rfl,u,xc,?_⟩;unfold WR;split
   .rename_i e;have hR:R=nO (co.map λc=>A.getD c.toNat 0):=L bg;refine F.all _ ?_;rw[hR];unfold nO;split
    .rename_i C;show fin (_,0)=_;rw[aGJ,nO,if_pos C]
    .exact VG (e:=2) az
   .rename_i e;refine F.all _ ?_;rw[D bg];exact VG az
  have M:¬v.op=1:=bg
  have U:¬v.op=2:=bg
  have c3:¬v.op=3:=bg
  rw[if_neg M,if_neg U,if_neg c3]at J;refine aD (λH=>?_) (λH=>aD (λc5=>?_) (λc5=>?_))
  .have H:v.op=4:=bg
   rw[if_pos H]at J;refine⟨l,r,v.on,A,B,on,rfl,u,j,xo,aC,aC,λz I=>⟨(l,r,z),⟨u,j,λe=>?_,λe=>?_⟩,MT⟩⟩
   .grind
   grind
  .have H:¬v.op=4:=bg
   have c5:v.op=5:=bg
   rw[if_neg H,if_pos c5]at J;refine⟨l,r,v.on,A,B,on,rfl,u,j,xo,aC,aC,λz I=>⟨(l,r,z),⟨u,j,λe=>?_,λe=>?_⟩,MT⟩⟩
   .grind
   grind
  have H:¬v.op=4:=bg
  have c5:¬v.op=5:=bg
  rw[if_neg H,if_neg c5]at J;simp only[if_neg H]
  have f:¬v.op=9->¬v.op=10->∀z:Bool,(z=true↔A=B)->∃x:Sl×Sl×Bool,(Ints h x.1 A/\Ints h x.2.1 B/\(x.2.2=true->R=nO A)/\(x.2.2=false->R=eJ 120))/\x=(l,r,z):=λn9 a2 z I=>by
   grind
  have V:¬v.op=9->¬v.op=10->∃(s:Sl)(t:Sl)(a:cn)(b:cn),[nW l,nW r]=[nW s,nW t]/\Ints h s a/\Ints h t b/\∀z:Bool,(z=true↔a=b)->∃x:Sl×Sl×Bool,(Ints h x.1 A/\Ints h x.2.1 B/\(x.2.2=true->R=nO A)/\(x.2.2=false->R=eJ 120))/\x=(l,r,z):=λn9 a2=>⟨l,r,A,B,rfl,u,j,f n9 a2⟩
  refine aD (λc6=>?_) (λc6=>aD (λc7=>?_) (λc7=>aD (λc8=>?_) (λc8=>?_)))
  .have c6:v.op=6:=bg
   refine⟨l,r,A,B,rfl,u,j,λz I=>?_⟩;obtain⟨_,g,rfl⟩:=f aC aC z I;exact⟨(l,r,z),g,MT⟩
  .have c7:v.op=7:=bg
   refine⟨l,r,A,B,rfl,u,j,λz I=>?_⟩;obtain⟨_,g,rfl⟩:=f aC aC z I;exact⟨(l,r,z),g,MT⟩
  .have c8:v.op=8:=bg
   refine⟨l,r,A,B,rfl,u,j,λz I=>?_⟩;obtain⟨_,g,rfl⟩:=f aC aC z I;exact⟨(l,r,z),g,MT⟩
  clear f V good;refine aD (λW=>?_) (λW=>aD (λO=>?_) (λO=>?_))
  .have W:v.op=9:=bg
   rw[if_pos W]at J;refine⟨l,v,A,_,rfl,u,ex,aC,λz I=>⟨(l,r,z),⟨u,j,λe=>L bg,λe=>D bg⟩,MT⟩⟩
  .have W:¬v.op=9:=bg
   have O:v.op=10:=bg
   rw[if_neg W,if_pos O]at J;refine⟨l,r,A,B,rfl,u,j,λy hy=>aD (λy1=>⟨l,v,A,_,rfl,u,ex,aC,λz I=>⟨(l,r,z),⟨u,j,λe=>L bg,λe=>D bg⟩,MT⟩⟩) (λy1=>⟨(l,r,false),⟨u,j,(λe=>(by cases e)),λe=>D bg⟩,MT⟩)⟩
  .exfalso;have c6:¬v.op=6:=bg
   have c7:¬v.op=7:=bg
   have c8:¬v.op=8:=bg
   have W:¬v.op=9:=bg
   have O:¬v.op=10:=bg
   refine P ?_;unfold arity
   grind
 clear good u j l r;rintro⟨l,r,b⟩ ⟨u,j,g1,g2⟩;dsimp only at g1 g2⊢
 refine aD (λC=>F.err (g2 bg) az (.refl _)) (λC=>?_);have g:=g1 bg;refine aD (λH=>λQ h' E a3=>?_) (λH=>⟨l,A,rfl,u,λs' h' E S=>?_⟩)
 .rw[if_pos bg]at g;refine⟨Q,[A,B],rfl,⟨⟨[l,r],a3,rfl,λi k e=>?_⟩,ay⟩,ay,λk hk=>?_,λa9 h2 a6 S=>F.ok g (E.trans a6) bg⟩
  .match i,e with
   |0,e=>simp at e;subst e;exact⟨l,rfl,u.mono E⟩
   |1,e=>simp at e;subst e;exact⟨r,rfl,j.mono E⟩
   |i+2,e=>simp at e
  .rcases mem_cons.1 hk with rfl|hk
   .exact Z
   grind
 .rw[if_neg bg]at g;exact F.ok g E S
theorem a4Z:cm 89 Sd:=by
 refine jC func89 ?_;rintro f m h K ⟨sc,e,v,s,u,ks,t,rfl,g,j,x,n,c,d,o⟩;refine⟨chQ sc e v m h,rfl,aE amQ (aE alJ (aE alZ (aE IM (aE JV (aE alQ (aE akJ (aE GF (aE akZ (aE Rw (aE MS aH)))))))))),Q9 sc e v m h K,ax,?_⟩;exact cOX g j x n c d o
noncomputable def C8(s:jZ):List cn->de->List cn×Int
 |ks,[]=>(ks,0)
 |ks,t::ts=>if(DL s ks t).2=0 then C8 s (ks++[(DL s ks t).1]) ts else(ks,(DL s ks t).2)
noncomputable def jQ(s:jZ)(ts:de)(rs:cn):=
 if eX s≠0 then eX s else if 1024<ts.length\/32<rs.length then 2 else if(C8 s [] ts).2≠0 then(C8 s [] ts).2 else if rs.all (λr=>decide (0<=r)&&decide (r<ts.length))=true then 0 else 120
structure rR(h:PH)(p r:Sl)(ts:de)(rs:cn):Prop where
 steps:∃vs,dH h p 22 (vs.map xA.enc)/\Steps h vs ts
 roots:Ints h r rs
 len:ts.length<=1000000000
def R3:Vc.Spec:=λc m h K=>∃sc p r s ts rs,c=[aS sc,aPl p r]/\iU h s sc/\rR h p r ts rs/\∀d,K (.tup [cS d,cI (jQ s ts rs)]) m h
noncomputable def cnX(sc:bT)(p r:Sl):=
 qD [(73,C5),(89,Sd)] [(8,{A:=Nat×Sl×MH×PH,st:=λ⟨i,c,m,h⟩=>bY 76 78 [(2,.at (.ptr 2 0)),(3,.at (.ptr 3 0)),(7,sv c),(34,sv p),(35,iv p.len),(36,iv i)] [(2,.cells 27 (sc.enc.map .val)),(3,.cells 45 [.val (.slice p.a p.len p.cap),.val (.slice r.a r.len r.cap)])] m h}),
  (18,{A:=Nat×Sl×MH×PH,st:=λ⟨i,c,m,h⟩=>bY 76 78 [(3,.at (.ptr 3 0)),(7,sv c),(59,sv r),(60,iv r.len),(61,iv i)] [(3,.cells 45 [.val (.slice p.a p.len p.cap),.val (.slice r.a r.len r.cap)])] m h})] [] [] [1108,2108] [] false
abbrev Pt(a:(Nat×Sl×MH×PH->Prop)->(Nat×Sl×MH×PH)->Prop)(b:(Nat×Sl×MH×PH->Prop)->(Nat×Sl×MH×PH->Nat)->(Nat×Sl×MH×PH)->Prop):=∃(x:Nat×Sl×MH×PH->Prop)(d:Nat×Sl×MH×PH->Nat),(∃(c:Nat×Sl×MH×PH),a x c)/\∀(c:Nat×Sl×MH×PH),b x d c
abbrev tH(a:Nat×Sl×MH×PH):=a.2.1
abbrev iY(a:Nat×Sl×MH×PH):=a.2.2
attribute [push_cast] Pt tH iY
def Rh sc p r m h K:=
  KY sc h (λs=>qC (eX s !=0) (cG K (eX s) m h) (aG p) 1024 (cG K 2 m h) (gA (aG r) 32 (cG K 2 m h) (aA (cN 0) (cN (aG p)) (aA (Ah p 24) (Ae (aG p)) (jW (λz A=>sE m A h z 36 1 []->Pt (λI x=>aA (I x) iS (aA (eP 3) (aW z (tH x)) (aA (aI p) (bI p) (aA (bA x.1) (cV sc) (aA (eQ (oQ 45 (pA (yY p) (yY r)))) (bO A (iY x)) (cF h (iY x)/\True)))))) (λI B x=>I x->aY (↑x.1:Int) (aG p) (bK (λb o=>aA (aR p.a b o) (0<=(↑x.1:Int)) ((↑x.1:Int)<aG p/\∃(y:xA),aK (iY x).1 (iY x).2 b (bL o x.1 22) y.enc/\Ex (λC k=>∃(v:xA)(j:jZ)(D:cw)(n:List cn)(t:Step),aA (cE (cC sc) (gO (tH x) (jO y.enc))=cE (cC C) (gO k (jO
 v.enc))) (iU (iY x).2 j C) (aA (oM j) (uW (iY x).2 t v) (aA (cL (iY x).1 k 36 1 (fJ D)) (Slices (iY x).2 D n) ((∀(E:cn),List.Mem E n->E.length<=12)/\∀(g:cn×Int),fin g=DL j n t->∀(u:Sl)(e:PH),bS (iY x).2 e (Ints e u g.1) (qC (g.2 !=0) (cG K g.2 (iY x).1 e) (aG u) 12 (cG K 2 (iY x).1 e) (∃(c:List cr),aA (cL (iY x).1 (dL (tH x)) 36 1 c) (lL c) (eA c/\jW (λF f=>gK (iY x).1 f (dL (tH x)) F 36 1 (dP c (aL u))->∃(d:Nat×Sl×MH×PH),aA (I d) (B d<B x) (aA iS j8 (aA (aW F (tH d)) (aI p) (aA (bI p) (iH (bE x.1 1)=bP d.1) (aA (cV sc) (eQ (oQ 45 (pA (yY p) (yY r)))) (aA (bO f (iY d)) (cF e (iY d))
 True)))))))))))))))) (Pt (λI1 c=>aA (I1 c) j8 (aA (aW (tH x) (tH c)) (aI r) (aA (bI r) (bA c.1) (aA (eQ (oQ 45 (pA (yY p) (yY r)))) (iJ (iY x) (iY c)) (kY (eO (iY x) (iY c))))))) (λI1 f c=>I1 c->aY (↑c.1:Int) (aG r) (bK (λb o=>aA (aR r.a b o) (0<=(↑c.1:Int)) ((↑c.1:Int)<aG r/\∃(y:Int),aK (iY c).1 (iY c).2 b (bL o c.1 1) (bC y)/\aY y 0 (cG K 120 (iY c).1 (iY c).2) (iO y (aG p) (cG K 120 (iY c).1 (iY c).2) (∃(d:Nat×Sl×MH×PH),aA (I1 d) (f d<f c) (aA j8 (aW (tH c) (tH d)) (aA (aI r) (bI r) (aA (iH (bE c.1 1)=bP d.1) (eQ (oQ 45 (pA (yY p) (yY r)))) (aA (iJ (iY c) (iY d)) (eO (iY c) (iY d)) True))))))))) (K
 (CV.tup (cT (nW (tH c)) 0)) (iY c).1 (iY c).2))))))))))
theorem cTX(h:eX s=0):oM s:=λt c=>by
 obtain⟨i,d⟩:=mem_iff_getElem?.1 c;have e:EF s:=Classical.byContradiction λf=>by rw[yF f]at h;cases h
 exact(e.2 i t d).1
structure bnJ(m0 m:MH)(h:PH)(kk:Sl)(ks:List cn):Prop where
 sub:Sub m0 m
 fresh:∀b i,kk.a=some ⟨b,i,none⟩->m0 b=none
 ex:∃ss,cL m kk 36 1 (ss.map eS)/\Slices h ss ks
 le12:∀k∈ks,k.length<=12
theorem bnJ.new{s}(x:sE m m' h s 36 1 []):bnJ m m' h s []:=by
 refine⟨λb o e=>?_,λb i e=>(x.fresh b i e).m_,⟨[],x.row,rfl,λj s k e=>by simp at e⟩,λk c=>by simp at c⟩;rw[x.other b (λi d=>by have:=(x.fresh b i d).m_;grind)];exact e
theorem bnJ.grown{m0 kk sl k}(r:bnJ m0 m h kk ks)(le:PH.le h h')(u:Ints h' sl k)(C:k.length<=12):
 ∃xs,cL m ⟨kk.a,kk.len,kk.cap⟩ 36 1 xs/\xs.length=ks.length/\∀d m',gK m m' ⟨kk.a,kk.len,kk.cap⟩ d 36 1 (xs++[[.slice sl.a sl.len sl.cap]])->bnJ m0 m' h' d (ks++[k]):=by
 obtain⟨y,z,f⟩:=r.ex;refine⟨_,z,by rw[length_map,f.1],λd m' g=>⟨λb o e=>g.other b o (r.sub b o e) (λi c=>?_),λb i e=>?_,⟨y++[sl],?_,(f.mono le).snoc u⟩,λx A=>?_⟩⟩
 .rw[r.fresh b i c]at e;cases e
 .rcases g.fresh b i e with c|⟨j,c⟩
  .cases B:m0 b with
   |none=>rfl
   |some o=>rw[r.sub b o B]at c;cases c
  .exact r.fresh b j c
 .rw[bu];exact g.row
 .rcases mem_append.1 A with n|n
  .exact r.le12 x n
  grind
theorem Steps.at'{p vs}(r:dH h p 22 (vs.map xA.enc))(s:Steps h vs ts)(c:ts[i]? =some t):∃b o v,p.a=some ⟨b,o,none⟩/\cO h b (o+i*22) (xA.enc v)/\uW h t v:=by
 obtain⟨v,d,f⟩:=s.2 i t c;obtain⟨b,o,e,k⟩:=r.get (i:=i) (e:=xA.enc v) (by simp[d])
 grind
theorem Steps.slen'{p vs}(r:dH h p 22 (vs.map xA.enc))(s:Steps h vs ts):p.len=ts.length:=by
 have:=r.len;simp at this;rw[this,s.1]
theorem rR.at{p}(x:rR h p r ts rs)(c:ts[i]? =some t):∃b o v,p.a=some ⟨b,o,none⟩/\cO h b (o+i*22) (xA.enc v)/\uW h t v:=by
 obtain⟨f,d,e⟩:=x.steps;exact Steps.at' d e c
theorem rR.slen{p}(x:rR h p r ts rs):p.len=ts.length/\p.len<=p.cap:=by
 obtain⟨e,c,d⟩:=x.steps;exact⟨Steps.slen' c d,c.cap⟩
theorem rR.mono{p}(x:rR h p r ts rs)(le:PH.le h h'):rR h' p r ts rs:=by
 obtain⟨c,d,f,g⟩:=x.steps;exact⟨⟨c,d.mono le,f,λi t e=>let⟨v,e1,e2⟩:=g i t e;⟨v,e1,e2.mono le⟩⟩,x.roots.mono le,x.len⟩
theorem a2Z r:(r.2≠0/\fin r=eJ r.2)\/(r.2=0/\12<r.1.length/\fin r=eJ 2)\/(r.2=0/\r.1.length<=12/\fin r=(r.1,0)):=by
 unfold fin;by_cases h:r.2=0
 .rw[if_pos h];unfold nO;by_cases c:r.1.length<=12
  .grind
  .rw[if_neg c];exact .inr (.inl ⟨h,aC,rfl⟩)
 grind
theorem Ji{s ts rs}(c:eX s=0)(d:¬(1024<ts.length\/32<rs.length)):jQ s ts rs=if(C8 s [] ts).2≠0 then(C8 s [] ts).2 else if rs.all (λr=>decide (0<=r)&&decide (r<ts.length))=true then 0 else 120:=by
 unfold jQ;omega
theorem NY(d:ts[i]? =some t):C8 s ks (ts.drop i)=if(DL s ks t).2=0 then C8 s (ks++[(DL s ks t).1]) (ts.drop (i+1))else(ks,(DL s ks t).2):=by
 have c:=(List.getElem?_eq_some_iff.1 d)
 obtain⟨c,e⟩:=c;rw[drop_eq_getElem_cons c,e];rfl
theorem a9J:cm 48 R3:=by
 refine EY func48 ?_;rintro Y m h K ⟨sc,p,r,s,ts,rs,rfl,R,x,hK⟩;refine⟨cnX sc p r,rfl,aE MU (aE a4Z aH),Rh sc p r m h (lZ h K),ax,?_⟩;show Rh sc p r m h (lZ h K);dsimp only[Rh,push_cast];have Z:=x.slen.1;have rl:=x.roots.slen;have S:=x.len;have T:=x.roots.len;have done:∀{y:MH}{n:PH}{e:Int}{kk:Sl},Sub m y->PH.le h n->jQ s ts rs=e->lZ h K (.tup [cS kk,cI e]) y n:=fun{y n e kk} C J U=>.out C J bg;refine⟨sc,s,rfl,R,aD (λC=>?_) (λC=>?_)⟩
 .have C:eX s≠0:=bg
  exact done (kk:=⟨none,0,0⟩) (Sub.refl m) (.refl _) (by unfold jQ;omega)
 have C:eX s=0:=bg
 refine aF (λJ=>?_) (λJ=>aF (λU=>?_) (λU=>⟨aC,aC,aC,aC,λk0 m1 L=>?_⟩))
 .exact done (kk:=⟨none,0,0⟩) (Sub.refl m) (.refl _) (by unfold jQ;omega)
 .exact done (kk:=⟨none,0,0⟩) (Sub.refl m) (.refl _) (by unfold jQ;omega)
 have z:=Ji (s:=s) (ts:=ts) (rs:=rs) C aC;refine⟨λ⟨i,kk,y,n⟩=>i<=ts.length/\PH.le h n/\∃ks,bnJ m y n kk ks/\ks.length=i/\C8 s ks (ts.drop i)=C8 s [] ts,λ⟨i,_⟩=>ts.length-i,⟨(0,k0,m1,h),⟨aC,.refl _,[],.new L,rfl,rfl⟩,MT⟩,?_⟩;rintro⟨i,kk,y,n⟩ ⟨hi,d,ks,f,M,c⟩;dsimp only;refine aF (λu=>?_) (λO=>?_)
 .obtain⟨t,V⟩:=fK Z u;obtain⟨b,o,v,e,rd,rv⟩:=(x.mono d).at V;obtain⟨ss,hm,P⟩:=f.ex;rw[NY V]at c;refine⟨b,o,e,aC,u,v,.imm rd,sc,kk,v,s,ss,ks,t,rfl,R.mono d,cTX C,rv,hm,P,f.le12,λq D sl h' A G=>?_⟩;have a':=G.slen;rcases a2Z q with⟨E,H⟩|⟨E,H,I⟩|⟨E,H,I⟩
  .rw[D]at H;rw[H,if_neg (by simpa[eJ]using E)]at c;refine aD (λ_=>done (kk:=⟨none,0,0⟩) f.sub (d.trans A) ?_) (λF=>?_)
   .rw[z, <-c,if_pos (by simpa[eJ]using E)];rfl
   grind
  .rw[D]at I;rw[I,if_neg (by simp[eJ])]at c;refine aD (λF=>absurd E bg) (λ_=>aF (λ_=>done (kk:=⟨none,0,0⟩) f.sub (d.trans A) ?_) (λF=>by omega));rw[z, <-c,if_pos (by simp[eJ])];rfl
  .rw[D]at I;rw[I,if_pos rfl]at c;refine aD (λF=>absurd E bg) (λ_=>aF (λF=>by omega) (λ_=>?_));obtain⟨xs,Q,a0,hg⟩:=f.grown A G H;exact⟨xs,Q,aC,aC,λW m' g=>⟨(i+1,W,m',h'),⟨aC,d.trans A,ks++[q.1],hg W m' g,by simp[M],c⟩,aC,MT⟩⟩
 have X:ts.drop i=[]:=drop_of_length_le aC;rw[X]at c;have h0:(C8 s [] ts).2=0:=by rw[<-c];rfl
 rw[h0,if_neg az]at z;clear c X;refine⟨λ⟨j,k',m',h'⟩=>j<=rs.length/\k'=kk/\m'=y/\h'=n/\(rs.take j).all (λr=>decide (0<=r)&&decide (r<ts.length))=true,λ⟨j,_⟩=>rs.length-j,⟨(0,kk,y,n),⟨aC,rfl,rfl,rfl,ay⟩,MT⟩,?_⟩;rintro⟨j,kk,y,n⟩ ⟨hj,rfl,rfl,rfl,B⟩;dsimp only;refine aF (λu=>?_) (λO=>?_)
 .obtain⟨q,D⟩:=fK rl u;obtain⟨b,o,e,rd⟩:=(x.roots.mono d).at' D
  have bad:¬(0<=q/\q<ts.length)->jQ s ts rs=120:=λhn=>by
   rw[z,if_neg];intro e2;have:=all_eq_true.1 e2 q (bo D)
   grind
  refine⟨b,o,e,aC,u,q,.imm rd,aF (λF=>done (kk:=⟨none,0,0⟩) f.sub d (bad aC)) (λF=>aF (λh5=>done (kk:=⟨none,0,0⟩) f.sub d (bad aC)) (λh5=>⟨(j+1,kk,y,n),⟨aC,rfl,rfl,rfl,?_⟩,aC,MT⟩))⟩;rw[BW D,B,Bool.true_and,bz]
  grind
 .rw[bt aC]at B;exact done f.sub d bg
def BV(t:Step):=[t.left,t.right].take (arity t.op).toNat
def azJ:Query:=.mk 0 0 gG [] [] [] [] 0 []
def CQ:Nat->de->Nat->Query
 |0,_,_=>azJ
 |n+1,ts,i=>match ts[i]? with
  |none=>azJ
  |some t=>.mk t.op t.table t.wher t.columns t.on t.group t.order t.limit ((BV t).map λa=>CQ n ts a.toNat)
def aU ts i:=CQ (i+1) ts i
def CR(ts:de):=∀(i:Nat) t,ts[i]? =some t->0<=arity t.op/\∀a∈BV t,0<=a/\a<i
theorem LL{ts:de}(ok:CR ts):∀(n c i:Nat),i<n->i<c->CQ n ts i=CQ c ts i
 |0,_,_,h,_=>by omega
 |_+1,0,_,_,h=>by omega
 |n+1,c+1,i,f,g=>by
  simp only[CQ];cases e:ts[i]? with
  |none=>rfl
  |some t=>
   have:(BV t).map (λa=>CQ n ts a.toNat)=(BV t).map (λa=>CQ c ts a.toNat):=map_congr_left λa d=>by
    have:=(ok i t e).2 a d;exact LL ok n c a.toNat aC aC
   grind
def Du ts t:=(BV t).map λa=>aU ts a.toNat
theorem rG(ok:CR ts)(c:ts[i]? =some t):aU ts i= .mk t.op t.table t.wher t.columns t.on t.group t.order t.limit (Du ts t):=by
 unfold aU;simp only[CQ,c]
 have:(BV t).map (λa=>CQ i ts a.toNat)=Du ts t:=map_congr_left λa d=>by
  have:=(ok i t c).2 a d;exact LL ok _ _ _ aC aC
 rw[this]
theorem cyJ{op w on args}(j:(aJ s [] (.mk op ta w co on gr od li args)).2=0)(f:iD 4 (.mk op ta w co on gr od li args)<=8000000){a}(d:a∈args):iD 4 a<=8000000:=by
 obtain⟨n,g,o,_⟩:=yR (Prod.ext rfl j);have u:=L4 (c:=4) aC g a d;rw[iD]at f;split at f
 .rename_i e;subst e;rw[Mq g o]at d;cases d
 grind
def qJ(i:Nat)(t:Step):=ED t.left (decide (arity t.op>0)) i=true/\ED t.right (decide (arity t.op>1)) i=true
theorem LG(g:0<=arity t.op)(h:qJ i t):∀a∈BV t,0<=a/\a<i:=by
 intro a c;have j:=Fa t.op;obtain⟨e,f⟩:=h;unfold BV at c;obtain⟨n,d⟩:∃n:Nat,arity t.op=n:=⟨(arity t.op).toNat,aC⟩
 rw[d,Int.toNat_natCast]at c;unfold ED at e f
 match n,d,c with
 |0,_,c=>simp at c
 |1,d,c=>
  grind
 |2,d,c=>
  grind
 |n+3,d,_=>omega
theorem fR{c}(g:ts<+:c)(ok:CR c):∀i,i<ts.length->aU c i=aU ts i:=by
 have d:CR ts:=λi t e=>ok i t (Qk g e);intro i
 induction i using Nat.strongRecOn with
 |_ i o=>
  intro j;have f:ts[i]? =some ts[i]:=bn j;rw[rG d f,rG ok (Qk g f)]
  have:Du c ts[i]=Du ts ts[i]:=map_congr_left λa n=>by
   have:=(d i _ f).2 a n
   grind
  rw[this]
theorem bzX(h:qJ i t):(arity t.op=0->t.left=0)/\(arity t.op<=1->t.right=0):=by
 obtain⟨c,d⟩:=h;unfold ED at c d
 grind
theorem JJ s ps op ta w co on gr od li args a b:eZ s ps (.mk op ta w co on gr od li args) a b=eZ s ps (.mk op ta w co on gr od li []) a b:=by
 unfold eZ;rfl
theorem Ht{op w on args}(h:(aJ s [] (.mk op ta w co on gr od li args)).2=0):
 aJ s [] (.mk op ta w co on gr od li args)=eZ s [] (.mk op ta w co on gr od li []) ((args.map λq=>(aJ s [] q).1).getD 0 []) ((args.map λq=>(aJ s [] q).1).getD 1 []):=by
 obtain⟨c,f,_⟩:=lX h
 have e:fX s [] args=(args.map (λq=>(aJ s [] q).1),0):=vD (by
  rw[map_map];exact map_congr_left λq d=>Prod.ext rfl (c q d))
 simp only[aJ,e,if_true];rw[if_pos bg,JJ]
theorem RP{n:Nat}{a:Int}(c:0<=a)(d:a<n):DE ((List.range n).map λj=>(aJ s [] (aU ts j)).1) a true=(aJ s [] (aU ts a.toNat)).1:=by
 unfold DE
 grind
def cWX(c d cb:Nat):Value:=.func (.func 38) #[] #[.pointer (some ⟨c,0,none⟩),.pointer (some ⟨d,0,none⟩),.pointer (some ⟨cb,0,none⟩)]
structure czQ(m0:MH)(h:PH)(s:jZ)(vb sb cb:Nat):Prop where
 v_:m0 vb=some (.cells #[cWX vb sb cb] 94 (0,0))
 s_:∃sc,iU h s sc/\m0 sb=some (.cells ⟨sc.enc⟩ 27 (0,0))
 tab:eK m0
 small:oM s
def b3Q(N:Nat):Vc.Spec:=λc m h K=>∃v q s e f cb g d ts rs,c=[aQ v,cP e,cP f,cP cb]/\dO h q v/\SizeOf.sizeOf q<N/\(aJ s [] q).2=0/\Dx q/\czQ d h s e f cb/\iG d m h cb g ts rs/\ts.length+2*oZ q<=90000/\
 ∀j m' h',PH.le h h'->pO h' (gI s q ts).1 j->iG d m' h' cb g (gI s q ts).2 rs->K (aPN j) m' h'
noncomputable def coJ(N:Nat)(v:QV)(c d cb:Nat):=
 qD [(38,b3Q N),(39,bWQ),(40,UU),(41,aQZ),(42,b0Q)] [(4,{A:=Nat×List iR×cn×cn×MH×PH,st:=λ⟨i,e,rs,f,m,h⟩=>bY 63 67 [(1,pv c),(2,pv d),(3,pv cb),(4,.at (.ptr 4 0)),(5,.at (.ptr 5 0)),(6,.at (.ptr 6 0)),(7,.at (.lst 34)),(8,.at (.lst 39)),(15,sv v.args),(16,iv v.args.len),(17,iv i)] [(4,.cells 41 (v.enc.map .val)),(5,.cells 97 (zQ++[J1,kL 0,kL 0,kL 0])),(6,.cells 97 (v.enc.map .val++[.lst 28,kL 0,kL 0,kL 0])),(28,.lst 97 25 (e.map iR.enc)),(34,.lst 3 1 (rs.map eI)),(39,.lst 3 1 (f.map eI))] m h})] [] [] [510097,0] [] false
abbrev Gf(a:Nat×List iR×cn×cn×MH×PH):=List.map iR.enc a.2.1
abbrev sZ(a:Nat×List iR×cn×cn×MH×PH):=a.2.2.2.2
abbrev CE(a b:Nat)(c:dk)(d:MH)(e:PH)(g:cr->MH->PH->Prop):=FAt Proofs.Tryz.prog a b c d e (fun(x:cr)=>fun(f:MH)=>fun(j:PH)=>g x f j)
abbrev Ir(a:Nat×List iR×cn×cn×MH×PH):=iL a.2.2.2.1
attribute [push_cast] Gf sZ CE Ir
def Rj(N:Nat)(v:QV)(D E cb:Nat)(m:MH)(h:PH)(K:cq):=
  ∃(I:Nat×List iR×cn×cn×MH×PH->Prop)(H:Nat×List iR×cn×cn×MH×PH->Nat),(∃(x:Nat×List iR×cn×cn×MH×PH),aA (I x) (cX D) (aA (cX E) (cX cb) (aA (eP 4) fT (aA lK (eL 34) (aA (eL 39) (aI v.args) (aA (wG v) (bA x.1) (aA (fU v) (eQ (oQ 97 (gU iN iN (gU (kL 0) iN (Pl 0 (gU J1 J1 (gU (kL 0) iN (uH iN)))))))) (aA (eQ (oQ 97 (gU (kL v.op) (zJ v) (yC v v.on (En v) (Eo v) (gU (kL v.limit) (yY v.args) (gU (At.lst 28) iN (pA iN iN))))))) (vB 97 25 (Gf x)) (aA (sU x.2.2.1) (sU x.2.2.2.1) (aA (bO m (sZ x)) (cF h (sZ x)) True))))))))))/\∀(x:Nat×List iR×cn×cn×MH×PH),I x->aY (↑x.1:Int) (aG v.args) (bK (λb o=>
 aA (aR v.args.a b o) (0<=(↑x.1:Int)) ((↑x.1:Int)<aG v.args/\∃(y:QV),aK (sZ x).1 (sZ x).2 b (bL o x.1 21) y.enc/\∃(f:Nat×Nat×Nat),aK (sZ x).1 (sZ x).2 D 0 (QE 38 (Array.mk (bG (SB f.1 0) (SB f.2.1 0) (Aa f.2.2))))/\∃(R:iR->MH->PH->Prop),CE 38 97 (cE y.enc (dE f.1 (uJ f.2.1 (OP f.2.2 0)))) (sZ x).1 (sZ x).2 (λl n d=>∃(u:iR),l=u.enc/\R u n d)/\∀(u:iR),fD (λn d=>R u n d->aA (jN (kB (Gf x) 1) 328) (eA (Gf x)) (aA (A5 (iL x.2.2.1)) (eA (iL x.2.2.1)) (aA (jN (kB (Ir x) 1) 8) (eA (Ir x)) (∃(j:Nat×List iR×cn×cn×MH×PH),aA (I j) (H j<H x) (aA (cX D) (cX E) (aA (cX cb) (eP 4) (aA fT lK (aA (eL 34) (eL 39) (aA
 (aI v.args) (wG v) (aA (iH (bE x.1 1)=bP j.1) (fU v) (aA (eQ (oQ 97 (gU iN iN (gU (kL 0) iN (Pl 0 (gU J1 J1 (gU (kL 0) iN (uH iN)))))))) (eQ (oQ 97 (gU (kL v.op) (zJ v) (yC v v.on (En v) (Eo v) (gU (kL v.limit) (yY v.args) (gU (At.lst 28) iN (pA iN iN))))))) (aA (bW 97 25 (dP (Gf x) u.enc)=bW 97 25 (Gf j)) (lW (dP (iL x.2.2.1) (bC u.rows)) j.2.2.1) (aA (lW (dP (iL x.2.2.2.1) (bC u.env)) j.2.2.2.1) (bO n (sZ j)) (kY (cF d (sZ j))))))))))))))))))) (∃(y:bT),aK (sZ x).1 (sZ x).2 E 0 (cC y)/\cK (sZ x).2 25 (Gf x) (λs d=>∃(J:bT)(F:iR)(A:jZ),D2 (λo t w c o1 g o2 l a=>∃(p:List PN)(L:List iR),aA (eU (cC y) (jO
 (vT v v (v7 v (bG (dW v.on) (yO v) (bG (yP v) (uT v) (bG (dW v.args) (dW s) (bG bF bF (pD bF))))))))=eU (cC J) (jO F.enc)) (iU d A J) (aA (oM A) (dO d (Query.mk o t w c o1 g o2 l a) F.query) (aA (dH d F.args 25 (List.map iR.enc L)) (mL d p L) (aA ((↑p.length:Int)=arity o) (cN (arity o)) ((∀(G:PN),List.Mem G p->cN G.width/\G.width<=1000)/\cK d 1 (iL x.2.2.1) (λs3 B=>∃(M:QV)(O:Sl),D2 (λP Q S T U V W X a1=>∃(k:di),aA (lT v s3=lT M O) (dO B (Query.mk P Q S T U V W X a1) M) (Ints B O (List.map (fun(z:Nat)=>(↑z:Int)) k)/\∀(Y:xA),uW B (Step.mk P Q S T U V W X (↑(List.getD k 0 0):Int) (↑(List.getD k 1 0):Int)) Y->FW (uJ cb (jO Y.enc)) B (sZ x).1
 (λZ t3 n h3=>∃(o6:Int),gX (mG v.op o6) (GQ o6) (qS 0 (Ir x) (λe=>mH (Ir x) 0 e/\∃(f:Int),uI 1 e (bC f)/\K (jO (vT v v (v7 v (bG (dW v.on) (yO v) (bG (yP v) (gZ v.limit) (bG (dW v.args) (dW s) (bG (gZ (↑(bZ Z t3).2:Int)) (gZ f) (bC (Fj A o t c p))))))))) n h3)) (cK h3 1 (Ir x) (λs5 C=>∃(v5:QV)(s6:Sl),D2 (λo7 t4 w2 c2 o8 g2 o9 l2 a2=>∃(z:di),aA (lT v s5=lT v5 s6) (dO C (Query.mk o7 t4 w2 c2 o8 g2 o9 l2 a2) v5) (Ints C s6 (List.map (fun(k2:Nat)=>(↑k2:Int)) z)/\∀(v6:xA),uW C (Step.mk o7 t4 w2 c2 o8 g2 o9 l2 (↑(List.getD z 0 0):Int) (↑(List.getD z 1 0):Int)) v6->FW (uJ cb (jO v6.enc)) C n (λt5 t6 m3 h5=>K (jO (vT v v (v7 v (bG (dW v.on) (yO v) (bG (yP v)
 (gZ v.limit) (bG (dW v.args) (dW s) (bG (gZ (↑(bZ Z t3).2:Int)) (gZ (↑(bZ t5 t6).2:Int)) (bC (Fj A o t c p))))))))) m3 h5))))))))))))))))
theorem HS s op ta w co on gr od li args ts:
 gI s (.mk op ta w co on gr od li args) ts=asZ s op ta w co on gr od li args (eW s args ts).1 (eW s args ts).2:=by rw[gI]
theorem J8(s:jZ)(q:Query):∀(l:db)(ts:de),eW s (l++[q]) ts=((eW s l ts).1++[(gI s q (eW s l ts).2).1],(gI s q (eW s l ts).2).2)
 |[],ts=>by simp[eW]
 |p::l,ts=>by
  rw[cons_append,eW,J8 s q l,eW];rfl
theorem NO(s:jZ):∀(l:db)(ts:de),(eW s l ts).1.length=l.length
 |[],ts=>by simp[eW]
 |p::l,ts=>by rw[eW,ci,ci,NO s l]
theorem bSZ s op ta w co on gr od li args ps ts:(asZ s op ta w co on gr od li args ps ts).2.length<=ts.length+2:=by
 unfold asZ;have c:=dZ (Az op ta w co on gr od li (ps.map PN.rows)) ts;have d:=dZ (Az op ta w co on gr od li (ps.map PN.env)) (bZ (Az op ta w co on gr od li (ps.map PN.rows)) ts).1
 grind
mutual
theorem DJ(s:jZ):∀(q:Query)(ts:de),(gI s q ts).2.length<=ts.length+2*oZ q
 |.mk op ta w co on gr od li args,ts=>by
  rw[HS];have c:=bSZ s op ta w co on gr od li args (eW s args ts).1 (eW s args ts).2;have d:=y9 s args ts;simp only[oZ];omega
theorem y9(s:jZ):∀(l:db)(ts:de),(eW s l ts).2.length<=ts.length+2*mD l
 |[],ts=>by simp[eW]
 |q::l,ts=>by
  rw[eW];have c:=DJ s q ts;have d:=y9 s l (gI s q ts).2;simp only[mD];omega
end
theorem tJ(h:(nO l).2=0):(nO l).1=l:=by
 unfold nO at h⊢
 grind
theorem Zn{op w on args b ps}(h:(eZ s [] (.mk op ta w co on gr od li args) a b).2=0)(o:op≠1->(ps.map PN.width).getD 0 0=(a.length:Int))(u:op=4->(ps.map PN.width).getD 1 0=(b.length:Int)):
 Fj s op ta co ps=((eZ s [] (.mk op ta w co on gr od li args) a b).1.length:Int):=by
 unfold Fj;unfold eZ at h⊢
 by_cases g:arity op<0\/¬cY (.mk op ta w co on gr od li args)
 .rw[if_pos g]at h;simp[eJ]at h
 .rw[if_neg g]at h⊢
  dsimp only at h⊢
  by_cases d:op=1
  .simp only[if_pos d]at h⊢
   split
   .rename_i c;rw[if_pos c]at h;rw[tJ h]
   .rename_i c;rw[if_neg c]at h;simp[eJ]at h
  .have e:=o d;simp only[if_neg d]at h⊢
   by_cases j:op=2
   .subst j;simp only[if_true,show((2:Int)=3)=False by simp,show((2:Int)=4)=False by simp,if_false]at h⊢
    split
    .rename_i c;rw[if_pos c]at h;rw[tJ h,e]
    .rename_i c;rw[if_neg c]at h;simp only[eJ]at h;omega
   .simp only[if_neg j]at h⊢
    by_cases n:op=3
    .simp only[if_pos n]at h⊢
     split
     .rename_i c;rw[if_pos c]at h;rw[tJ h];simp
     .rename_i c;rw[if_neg c]at h;simp[eJ]at h
    .simp only[if_neg n]at h⊢
     by_cases f:op=4
     .simp only[if_pos f]at h⊢
      split
      .rename_i c;rw[if_pos c]at h;rw[tJ h,e,u f];simp
      .rename_i c;rw[if_neg c]at h;simp[eJ]at h
     .simp only[if_neg f]at h⊢
      rw[e]
      suffices x:∀R:cn×Int,(R=nO a\/R=eJ 100)->R.2=0->(a.length:Int)=(R.1.length:Int)by
       grind
      rintro R (rfl|rfl) h
      .rw[tJ h]
      .simp[eJ]at h
mutual
theorem NP{s:jZ}:∀(q:Query)(ts:de),(aJ s [] q).2=0->(gI s q ts).1.width=((aJ s [] q).1.length:Int)
 |.mk op ta w co on gr od li args,ts,h=>by
  have c:=lX h;have f:=Fk args ts c.1
  have e:(gI s (.mk op ta w co on gr od li args) ts).1.width=Fj s op ta co (eW s args ts).1:=by
   rw[HS,asZ];dsimp only;split<;>rfl
  rw[e];have d:=Ht h;rw[d]at h⊢
  refine Zn h (λg=>?_) (λj=>?_)
  .grind
  grind
theorem Fk{s:jZ}:∀(l:db)(ts:de),(∀q∈l,(aJ s [] q).2=0)->(eW s l ts).1.map PN.width=l.map λq=>((aJ s [] q).1.length:Int)
 |[],ts,_=>by simp[eW]
 |q::l,ts,h=>by
  rw[eW,map_cons,map_cons,NP q ts (h q ay),Fk l _ (λp c=>h p (by simp[c]))]
end
theorem cQQ{q S U D m0}(V:cm 38 (b3Q N))(O:dO h q v)(hN:SizeOf.sizeOf q<N+1)(hk:(aJ s [] q).2=0)(E:Dx q)(F:czQ m0 h s S U cb)(c:iG m0 m h cb D ts rs)(hl:ts.length+2*oZ q<=90000)(Q:∀B m' h',PH.le h h'->pO h' (gI s q ts).1 B->iG m0 m' h' cb D (gI s q ts).2 rs->K (aPN B) m' h'):Rj N v S U cb m h K:=by
 dsimp only[Rj,push_cast];have G:=@Dg q;obtain⟨op,ta,w,co,on,gr,od,li,args⟩:=q;simp only[Query.args]at G;have x:=O.parts;have a2:=x.args_.slen;obtain⟨W,b4,_⟩:=lX hk;rw[WQ]at E;obtain⟨o,a3⟩:=E;have b3:=Fa op;rw[HS]at Q;simp only[oZ]at hl
 have a4:∀i,mD (args.take i)<=mD args:=λi=>by
  have key:∀(l:db)(i:Nat),mD (l.take i)<=mD l:=by
   intro l
   induction l with
   |nil=>intro i;simp
   |cons a l ih=>
    intro i;cases i with
    |zero=>simp[mD]
    |succ i=>have:=ih i;simp only[take_succ_cons,mD];omega
  grind
 obtain⟨sc,X,Y⟩:=F.s_;refine⟨λ⟨i,H,rr,es,mx,Z⟩=>i<=args.length/\PH.le h Z/\mL Z (eW s (args.take i) ts).1 H/\rr=(eW s (args.take i) ts).1.map (λp=>(p.rows:Int))/\es=(eW s (args.take i) ts).1.map (λp=>(p.env:Int))/\iG m0 mx Z cb D (eW s (args.take i) ts).2 rs,λ⟨i,_,_,_,_,_⟩=>args.length-i,⟨(0,[],[],[],m,h),⟨aC,.refl _,by simp only[take_zero,eW];rfl,rfl,rfl,by simpa[eW]using c⟩,MT⟩,?_⟩;rintro⟨i,H,rr,es,mx,Z⟩ ⟨hi,g,n,rfl,rfl,cx⟩;dsimp only;have a5:=NO s (args.take i) ts;have b5:(args.take i).length=i:=bf
 have b6:=n.length;refine aF (λa'=>?_) (λb7=>?_)
 .obtain⟨q,I⟩:=fK a2 a';have J:=bo I;obtain⟨b1,o1,u,e1,r1,a6⟩:=(x.args_.mono g).at I;have tk:args.take (i+1)=args.take i++[q]:=by rw[cd,I];rfl
  have vs:=J8 s q (args.take i) ts;have b8:=a4 (i+1)
  have b9:mD (args.take (i+1))=mD (args.take i)+oZ q:=by
   rw[tk]
   have key:∀l:db,mD (l++[q])=mD l+oZ q:=by
    intro l
    induction l with
    |nil=>simp[mD]
    |cons a l ih=>simp only[cons_append,mD,ih];omega
   exact key _
  have a7:=y9 s (args.take i) ts;have c0:=sizeOf_lt_of_mem J;have a8:SizeOf.sizeOf q<N:=bg
  refine⟨b1,o1,e1,aC,a',u,.imm r1,(S,U,cb),.of_m (cx.sub _ _ F.v_) rfl,λy my R=>PH.le Z R/\pO R (gI s q (eW s (args.take i) ts).2).1 y/\iG m0 my R cb D (gI s q (eW s (args.take i) ts).2).2 rs,?_,λy my R⟨d,ry,cy⟩=>⟨bg,bg,bg,bg,bg,bg,(i+1,H++[y],(eW s (args.take (i+1)) ts).1.map (λp=>(p.rows:Int)),(eW s (args.take (i+1)) ts).1.map (λp=>(p.env:Int)),my,R),⟨aC,g.trans d,?_,rfl,rfl,?_⟩,aC,?_⟩⟩
  .have a0:AN Tryz.prog 97=true:=ax
   refine Sound.fat (vs:=[.agg ⟨QV.enc u⟩,.pointer (some ⟨S,0,none⟩),.pointer (some ⟨U,0,none⟩),.pointer (some ⟨cb,0,none⟩)]) V ⟨u,q,s,S,U,cb,D,m0,_,rs,rfl,a6,a8,W q J,a3 q J,⟨F.v_,⟨sc,X.mono g,Y⟩,F.tab,F.small⟩,cx,aC,λB m' h' C rp c'=>⟨iR.enc B,?_,B,rfl,C,rp,c'⟩⟩;have e:Vc.valOf Tryz.prog 97 (iR.enc B)= .agg ⟨iR.enc B⟩:=by unfold Vc.valOf;rw[a0]
   rw[e];rfl
  .show mL R (eW s (args.take (i+1)) ts).1 (H++[y]);rw[tk,vs];exact mL.snoc ry (mL.mono d n)
  .grind
  .have e1:=ry.rows_;have e2:=ry.env_;rw[tk,vs,e1,e2];simp only[bu,map_cons,map_nil];exact MT
 .have a9:args.take i=args:=bt aC;rw[a9]at n cx a5⊢
  have a7:=y9 s args ts;have b':=Fk args ts W;generalize hP:(eW s args ts).1=P at*
  generalize hT:(eW s args ts).2=T at*
  have eR:((P.map PN.rows).map fun(k:Nat)=>(k:Int)).map eI=(P.map λp=>(p.rows:Int)).map eI:=by simp[map_map,Function.comp_def]
  have eE:((P.map PN.env).map fun(k:Nat)=>(k:Int)).map eI=(P.map λp=>(p.env:Int)).map eI:=by simp[map_map,Function.comp_def]
  have kt:∀l r:Int,OH ⟨op,ta,w,co,on,gr,od,li,l,r⟩:=λl r=>⟨o.wher,o.columns,o.on,o.group,o.order⟩
  refine⟨sc,.of_m (cx.sub _ _ Y) rfl,λs1 h1 d L=>⟨sc,⟨v,s1,0,0,0⟩,s,op,ta,w,co,on,gr,od,li,args,P,H,rfl,X.mono (g.trans d),F.small,O.mono (g.trans d),L,mL.mono d n,aC,aC,?_,λs2 h2 j c1=>⟨v,s2,op,ta,w,co,on,gr,od,li,args,P.map PN.rows,rfl,O.mono ((g.trans d).trans j),⟨bg,bf⟩,λB b0=>⟨B,_,m0,cb,D,T,rs,rfl,b0,kt _ _,cx.mono (d.trans j),F.tab,aC,λm3 h3 z c3=>⟨op,by rw[x.op_],?_⟩⟩⟩⟩⟩
  .intro p hp;have:p.width∈P.map PN.width:=mem_map.2 ⟨p,hp,rfl⟩;rw[b']at this;obtain⟨q,_,e⟩:=mem_map.1 this;have:=lY s [] q;omega
  .have ha:=dZ (Az op ta w co on gr od li (P.map PN.rows)) T;have c3:iG m0 m3 h3 cb D (bZ (Az op ta w co on gr od li (P.map PN.rows)) T).1 rs:=c3;have le:=((g.trans d).trans j).trans z;unfold asZ at Q;refine aD (λf=>?_) (λf s4 h4 A c2=>⟨v,s4,op,ta,w,co,on,gr,od,li,args,P.map PN.env,rfl,O.mono (le.trans A),⟨bg,bf⟩,λv2 b2=>⟨v2,_,m0,cb,D,_,rs,rfl,b2,kt _ _,c3.mono A,F.tab,aC,λm5 h5 M c5=>?_⟩⟩)
   .rw[if_pos f]at Q
    have a1:0<P.length:=by
     have:1<=arity op:=by
      unfold GQ at f;simp only[Bool.or_eq_true,beq_iff_eq]at f;rcases f with(rfl|rfl)|rfl<;>decide
     omega
    refine⟨aC,bg,eI (P[0].env:Int),by simp[a1],(P[0].env:Int),rfl,?_⟩;refine Q ⟨v,s1,_,_,_⟩ m3 h3 le ⟨O.mono le,rfl,?_,rfl,aC,H,L.mono (j.trans z),mL.mono ((d.trans j).trans z) n⟩ c3;simp[a1]
   .rw[if_neg (by simp[f])]at Q;have C:=(le.trans A).trans M;exact Q ⟨v,s1,_,_,_⟩ m5 h5 C ⟨O.mono C,rfl,rfl,rfl,aC,H,L.mono (((j.trans z).trans A).trans M),mL.mono ((((d.trans j).trans z).trans A).trans M) n⟩ c5
theorem VK:∀N,cm 38 (b3Q N)
 |0=>by
  refine fW (fn:=Tryz.f38) (c:=eD Tryz.f38) func38 rfl az ?_;rintro e m h K ⟨v,q,s,f,g,cb,n,o,ts,rs,rfl,_,j,_⟩;omega
 |N+1=>by
  refine jC func38 ?_;rintro e m h K ⟨v,q,s,f,g,cb,n,o,ts,rs,rfl,u,j,y,d,z,c,A,B⟩;refine⟨coJ N v f g cb,rfl,aE (VK N) (aE baJ (aE E5 (aE baZ (aE Tn aH)))),Rj N v f g cb m h K,ax,?_⟩;exact cQQ (VK N) u j y d z c A B
def cEJ:Vc.Spec:=λc m h K=>∃v q s e f cb g d ts rs,c=[aQ v,cP e,cP f,cP cb]/\dO h q v/\(aJ s [] q).2=0/\Dx q/\czQ d h s e f cb/\iG d m h cb g ts rs/\ts.length+2*oZ q<=90000/\
 ∀j m' h',PH.le h h'->pO h' (gI s q ts).1 j->iG d m' h' cb g (gI s q ts).2 rs->K (aPN j) m' h'
theorem To:cm 38 cEJ:=mZ VK λ_ _ _ _⟨v,q,s,c,d,cb,f,g,ts,rs,e,j,n,o,u,y,z,A⟩=>⟨SizeOf.sizeOf q+1,v,q,s,c,d,cb,f,g,ts,rs,e,j,aC,n,o,u,y,z,A⟩
def Eg:=λc m h K=>∃sc p v s ps q,c=[aS sc,cS p,aQ v]/\iU h s sc/\Ints h p ps/\dO h q v/\tT q=true/\KR K m h (eH s ps q)
noncomputable def bCX p N:={qD [(73,C5),(74,VZ),(75,GM N)] [(5,{A:=Nat×Nat×Nat×Nat×Nat×MH×PH,st:=λ⟨i,a,b,c,d,m,h⟩=>bY 53 56 [(1,sv p),(3,vv (.pointer (some ⟨a,0,none⟩))),(5,vv (.pointer (some ⟨b,0,none⟩))),(6,vv (.pointer (some ⟨c,0,none⟩))),(7,vv (.pointer (some ⟨d,0,none⟩))),(18,sv p),(19,iv p.len),(20,iv i)] [] m h})] [] [] [200003,200005,200006,200007,200011,0] [] false with elemT:=[3,41]}
abbrev eF(a:Nat×Nat×Nat×Nat×Nat×MH×PH):=a.2.2
abbrev Pm a b c:=aA (bI a) (iH (bE b.1 1)=bP c.1) (aA (iJ (fQ (eF b)) (fQ (eF c))) (eO (fQ (eF b)) (fQ (eF c))) True)
attribute [push_cast] eF Pm
def MX(sc:bT)(p:Sl)(v:QV)(N:Nat)(m:MH)(h:PH)(K:cq):=
  ∀(b:Nat)(P:MH),bH (cW m h b) (bJ m P b (cC sc) 27) (∀(Q:Nat)(R:MH),bH (cW P h Q) (bJ P R Q v.enc 41) (∀(J:Nat)(T:MH),bH (cW R h J) (bJ R T J gW 36) (∀(L:Nat)(O:MH),bH (cW T h L) (bJ T O L (pD bF) 46) (∃(y:bT),aK O h b 0 (cC y)/\KY y h (λs=>dR (eX s) 0 (gT (λc E=>aA (sL O J (fA c E 0)) (0<c.size) (∀(A:MH),bJ O A J (iC pF 1 c) E->gT (λf E1=>aA (sL A L (fA f E1 0)) (0<f.size) (∀(g:MH),bJ A g L (iC (gZ (eX s)) 1 f) E1->∃(B:Sl),aK g h J 0 (aL B)/\∃(C:Int),aK g h L 0 (bC C)/\K (CV.tup (cT (nW B) C)) g h))))) (∃(I:Nat×Nat×Nat×Nat×Nat×MH×PH->Prop)(A:Nat×Nat×Nat×Nat×Nat×MH×PH->Nat),(∃(x:Nat×Nat×Nat
 ×Nat×Nat×MH×PH),aA (I x) (aI p) (aA (cA b x.2.1) (cA Q (eF x).1) (aA (cA J (fZ (eF x))) (cA L (fY (eF x))) (aA (aI p) (bI p) (aA (bA x.1) (bO O (fQ (eF x))) (cF h (fQ (eF x))/\True))))))/\∀(x:Nat×Nat×Nat×Nat×Nat×MH×PH),I x->aY (↑x.1:Int) (aG p) (bK (λj o=>aA (aR p.a j o) (0<=(↑x.1:Int)) ((↑x.1:Int)<aG p/\∃(B:Int),aK (lU (eF x)) (j9 (eF x)) j (bL o x.1 1) (bC B)/\dR B 3 (dR B 4 (dR B 5 (gT (λc E=>aA (sL (lU (eF x)) (fZ (eF x)) (fA c E 0)) (0<c.size) (∀(g:MH),bJ (lU (eF x)) g (fZ (eF x)) (iC pF 1 c) E->gT (λf E1=>aA (sL g (fY (eF x)) (fA f E1 0)) (0<f.size) (∀(F:MH),bJ g F (fY (eF
 x)) (iC (gZ 1) 1 f) E1->∃(C:Sl),aK F (j9 (eF x)) (fZ (eF x)) 0 (aL C)/\∃(G:Int),aK F (j9 (eF x)) (fY (eF x)) 0 (bC G)/\K (CV.tup (cT (nW C) G)) F (j9 (eF x))))))) (∃(d:Nat×Nat×Nat×Nat×Nat×MH×PH),aA (I d) (A d<A x) (aA (aI p) (cA x.2.1 d.2.1) (aA (cA (eF x).1 (eF d).1) (cA (fZ (eF x)) (fZ (eF d))) (aA (cA (fY (eF x)) (fY (eF d))) (aI p) (Pm p x d)))))) (∃(d:Nat×Nat×Nat×Nat×Nat×MH×PH),aA (I d) (A d<A x) (aA (aI p) (cA x.2.1 d.2.1) (aA (cA (eF x).1 (eF d).1) (cA (fZ (eF x)) (fZ (eF d))) (aA (cA (fY (eF x)) (fY (eF d))) (aI p) (Pm p x d)))))) (∃(d:Nat×Nat×Nat×Nat×Nat×MH×PH),aA (I d) (A
 d<A x) (aA (aI p) (cA x.2.1 d.2.1) (aA (cA (eF x).1 (eF d).1) (cA (fZ (eF x)) (fZ (eF d))) (aA (cA (fY (eF x)) (fY (eF d))) (aI p) (Pm p x d)))))))) (∀(j:Nat)(g:MH),bH (cW (lU (eF x)) (j9 (eF x)) j) (bJ (lU (eF x)) g j (pD bF) 3) (gT (λc E=>aA (sL g j (fA c E 0)) (0<c.size) (∀(F:MH),bJ g F j (iC bF 1 c) E->∃(B:QV),aK F (j9 (eF x)) (eF x).1 0 B.enc/\∃(W:QV),lD (eY (cM B) (cM W)) (λX=>∀(M:PH),bS (j9 (eF x)) M (cO M X 0 W.enc) (∃(S:PH->cr->List cr->Prop)(d:List (Int×QV))(I1:Nat->MH->PH->Prop),aA (HQ Proofs.Tryz.prog 139 S) (S M (Aa X) (List.map (fun(Y:Int×QV)=>kC (gZ Y.1) (Value.agg
 (Array.mk Y.2.enc))) d)) (aA (I1 0 F M) (∀(k:Nat)(e:Int)(e1:QV),fD (λD n=>bH (d[k]? =Option.some (e,e1)) (PH.le M n) (I1 k D n->zO D n j 0 (λC=>gT (λf E1=>aA (sL D j (fA f E1 0)) (0<f.size) (∀(u:MH),bJ D u j (iC (gZ (iF (C+1))) 1 f) E1->zO u n j 0 (λG=>qC (decide (G>24)) (gT (λz E2=>aA (sL u (fZ (eF x)) (fA z E2 0)) (0<z.size) (∀(a:MH),bJ u a (fZ (eF x)) (iC pF 1 z) E2->gT (λH E3=>aA (sL a (fY (eF x)) (fA H E3 0)) (0<H.size) (∀(U:MH),bJ a U (fY (eF x)) (iC (gZ 2) 1 H) E3->False))))) e 8 (gT (λz E2=>aA (sL u (fZ (eF x)) (fA z E2 0)) (0<z.size) (∀(a:MH),bJ u a (fZ (eF x)) (iC pF 1 z) E2->gT (λH E3=>aA
 (sL a (fY (eF x)) (fA H E3 0)) (0<H.size) (∀(U:MH),bJ a U (fY (eF x)) (iC (gZ 2) 1 H) E3->False))))) (I1 (k+1) u n)))))))) (fD (λD n=>bS M n (I1 d.length D n) (∃(C:bT),aK D n x.2.1 0 (cC C)/\∃(G:QV),aK D n (eF x).1 0 G.enc/\KN C p G n N (λs1 p1 q s2 V=>gT (λf E1=>aA (sL D (fZ (eF x)) (fA f E1 0)) (0<f.size) (∀(u:MH),bJ D u (fZ (eF x)) (iC (dW s2) 1 f) E1->gT (λz E2=>aA (sL u (fY (eF x)) (fA z E2 0)) (0<z.size) (∀(a:MH),bJ u a (fY (eF x)) (iC (gZ (aJ s1 p1 q).2) 1 z) E2->∃(Z:Sl),aK a V (fZ (eF x)) 0 (aL Z)/\∃(y5:Int),aK a V (fY (eF x)) 0 (bC y5)/\K (CV.tup (cT (nW Z) y5)) a V)))))))))))))))))))))
mutual
theorem RL:∀(p:Query)(n:Nat),uV p n=false->RI p<=n
 |.mk _ _ _ _ _ _ _ _ args,0,h=>by simp[uV]at h
 |.mk _ _ _ _ _ _ _ _ args,n+1,h=>by
  simp only[uV]at h;have:=Oy args n h;simp only[RI];omega
theorem Oy:∀(ps:db)(n:Nat),Dr ps n=false->HH ps<=n
 |[],_,_=>by simp[HH]
 |p::ps,n,h=>by
  simp only[Dr,Bool.or_eq_false_iff]at h;have c:=RL p n h.1;have d:=Oy ps n h.2;simp only[HH];omega
end
mutual
theorem y8.deep{h:PH}:∀{q:Query}{v:QV}{d:Nat}{es:dp},y8 h q v d es->∀e∈es,e.1<d+RI q
 |.mk op ta _ _ _ _ _ _ args,v,d,es,w,e,c=>by
  rw[y8]at w;obtain⟨j,f,n,g,rfl⟩:=w;simp only[RI];rcases mem_cons.1 c with rfl|c
  .omega
  .have:=lH.deep g e c;omega
theorem lH.deep{h:PH}:∀{f:db}{vs:du}{d:Nat}{es:dp},lH h f vs d es->∀e∈es,e.1<d+HH f
 |[],vs,d,es,w,e,c=>by rw[lH]at w;grind
 |q::f,vs,d,es,w,e,c=>by
  rw[lH]at w;obtain⟨v,g,o,u,y,z,j,n,rfl⟩:=w;simp only[HH];rcases mem_append.1 c with c|c
  .have:=y8.deep j e c;omega
  .have:=lH.deep n e c;omega
end
theorem brZ{m f:MH}{h:PH}{hx c d A B sl e K}(g:c≠d)(H:m c=none)(I:m d=none)(C:f c=some (.cells #[A] 36 (0,0)))(D:f d=some (.cells #[B] 46 (0,0)))(s:Sub m f)(le:PH.le h hx)(F:K (.tup [cS sl,cI e]) m hx):
 ∃(cs:Array Value)(E:TypeId),sL f c (.cells cs E (0,0))/\0<cs.size/\∀m':MH,lI f m' c (.cells (Array.mk (dW sl::cs.toList.drop 1)) E (0,0))->∃(cs:Array Value)(E:TypeId),sL m' d (.cells cs E (0,0))/\0<cs.size/\∀m2:MH,lI m' m2 d (.cells (Array.mk (gZ e::cs.toList.drop 1)) E (0,0))->∃y:Sl,aK m2 hx c 0 [dW y]/\∃z:Int,aK m2 hx d 0 [gZ z]/\cR h K (.tup [cS y,cI z]) m2 hx:=by
 refine⟨_,_,⟨C⟩,ay,λJ j=>⟨_,_,⟨by rw[j.other d (Ne.symm g)];exact D⟩,ay,λm2 n=>⟨sl,.of_m (by rw[n.other c g];exact j.at_) rfl,e,.of_m n.at_ rfl,λ_=>⟨m,hx,λb o u=>?_,le,λb i v u=>.inl u,F⟩⟩⟩⟩;rw[n.other b (λG=>bg),j.other b (λG=>bg)];exact s b o u
theorem JR:cm 37 Eg:=by
 refine Jr func37 ?_;rintro a8 m h K ⟨sc,p,v,s,ps,q,rfl,hs,W,hq,n,y⟩;refine⟨bCX p (SizeOf.sizeOf q+1),rfl,aE MU (aE Rc (aE (a8X _) aH)),MX sc p v (SizeOf.sizeOf q+1) m h (cR h K),ax,?_⟩;show MX sc p v (SizeOf.sizeOf q+1) m h (cR h K);dsimp only[MX,push_cast];have hl:=W.slen;have a4:=W.len;have a9:=Ml n;have b':RI q<=8:=RL q 8 (by simp only[tT,bz,Bool.not_eq_true']at n;exact n.2);unfold eH at y;rw[if_pos n]at y;intro E m1 u1 w1 F m2 u2 w2 C m3 u3 X D A Y P;obtain⟨s1,n3⟩:=jB (Sub.refl m) u1 w1;obtain⟨s2,n5⟩:=jB s1 u2 w2;obtain⟨s3,n6⟩:=jB s2 u3 X;obtain⟨s4,n7⟩:=jB s3 Y P;have G:∀{Z mb:MH}{b:Nat}{o:Obj}{hh:PH},cW Z hh b->lI Z mb b o->∀{x g},Z x=some g->mb x=some g:=fun{Z mb b o hh} u w{x g} e=>by rw[w.other x (λM=>by rw[M,u.m_]at e;cases e)];exact e
 have a3:=G Y P (G u3 X (G u2 w2 w1.at_));have a5:=G Y P (G u3 X w2.at_);have a6:=G Y P X.at_;have a7:=P.at_;have H:C≠D:=λe=>bg
 refine⟨sc,.of_m a3 rfl,sc,s,rfl,hs,aD (λh1=>?_) (λh1=>?_)⟩
 .rw[if_neg bg]at y;exact brZ (sl:=cH) H n6 n7 a6 a7 s4 (.refl _) (y cH h (.refl _) (oL h))
 have h1:eX s=0:=bg
 rw[if_pos h1]at y;refine⟨λz=>z.2=(E,F,C,D,A,h)/\z.1<=ps.length/\(ps.take z.1).all iA=true,λz=>ps.length-z.1,⟨(0,E,F,C,D,A,h),⟨rfl,ay,ay⟩,MT⟩,?_⟩;rintro⟨i,z⟩ ⟨ez,hi,c⟩;dsimp only at ez hi c;subst ez;dsimp only;refine aF (λQ=>?_) (λb0=>?_)
 .obtain⟨x,O⟩:=fK hl Q;obtain⟨b,o,e,r⟩:=W.at' O;have good:iA x=true->(ps.take (i+1)).all iA=true:=λhc=>by rw[BW O,c,hc];rfl
  have R:IntKind.i64.wrap ((i:Int)+1)=((i+1:Nat):Int):=jK aC;have go:iA x=true->((i+1,E,F,C,D,A,h):Nat×Nat×Nat×Nat×Nat×MH×PH).2=(E,F,C,D,A,h)/\i+1<=ps.length/\(ps.take (i+1)).all iA=true:=λhc=>⟨rfl,aC,good hc⟩
  rw[R];refine⟨b,o,e,aC,Q,x,.imm r,aD (λc1=>aD (λc2=>aD (λc3=>?_) (λc3=>⟨(i+1,E,F,C,D,A,h),go ?_,aC,MT⟩)) (λc2=>⟨(i+1,E,F,C,D,A,h),go ?_,aC,MT⟩)) (λc1=>⟨(i+1,E,F,C,D,A,h),go ?_,aC,MT⟩)⟩
  .have:iA x=false:=by simp_all [iA]
   rw[if_neg (λe=>bg)]at y;exact brZ (sl:=cH) H n6 n7 a6 a7 s4 (.refl _) (y cH h (.refl _) (oL h))
  .simp_all [iA]
  .simp_all [iA]
  .simp_all [iA]
 rw[bt aC]at c;rw[if_pos c]at y;intro B m5 u5 w5;refine⟨_,_,⟨w5.at_⟩,ay,λm6 w6=>?_⟩
 have k6:∀{x g},A x=some g->m6 x=some g/\x≠B:=fun{x g} e=>by
  have:x≠B:=λM=>by rw[M,u5.m_]at e;cases e
  exact⟨by rw[w6.other x this];exact G u5 w5 e,this⟩
 refine⟨v,.of_m (k6 a5).1 rfl,v,rfl,λbw a' f a0=>?_⟩;obtain⟨es,R⟩:=y8.of (hq.mono f) 1;have b1:=R.small;have I:=R.deep;refine⟨PK,es.map λe=>((e.1:Int),e.2),λk S O=>O=a'/\Ff m6 S B/\S B=some (.cells #[gZ (k:Nat)] 3 (0,0)),aFQ,⟨bw,v,q,es,rfl,a0,R,aC,by rw[map_map];rfl⟩,⟨rfl,λx o e _=>e,w6.at_⟩,?_,?_⟩
 .rintro k d e' S O hk-⟨rfl,J,j⟩
  rw[getElem?_map]at hk;cases L:es[k]? with
  |none=>grind
  |some e=>
   rw[L]at hk;simp only[Option.map_some,bx,Prod.mk.injEq]at hk;obtain⟨rfl,rfl⟩:=hk;have b2:=(bm L);have b4:=I e (bo L);have T:IntKind.i64.wrap ((k:Int)+1)=((k+1:Nat):Int):=jK aC;refine⟨k,.of_m j rfl,_,_,⟨j⟩,ay,λm7 w7=>⟨((k+1:Nat):Int),?_,aF (λa1=>by omega) (λ_=>aF (λa1=>by omega) (λ_=>⟨rfl,λx o e1 M=>by rw[w7.other x M];exact J x o e1 M,?_⟩))⟩⟩
   .rw[<-T];exact .of_m w7.at_ rfl
   .rw[<-T];exact w7.at_
 .rintro S O-⟨rfl,J,j⟩
  have U:∀{x g},A x=some g->S x=some g:=fun{x g} e=>J x g (k6 e).1 (k6 e).2;refine⟨sc,.of_m (U a3) rfl,v,.of_m (U a5) rfl,sc,p,v,s,ps,q,rfl,hs.mono f,Dd h1,W.mono f,hq.mono f,aC,λsl h7 V a2=>?_⟩;exact brZ H n6 n7 (U a6) (U a7) (λx o e=>U (s4 x o e)) (f.trans V) (y sl h7 (f.trans V) a2)
noncomputable def mA s q:=gV (gI s q []).1 ((gI s q []).1.env:Int) (gI s q []).2 []
def bnZ:Vc.Spec:=λc m h K=>∃sc v s q,c=[aS sc,aQ v]/\iU h s sc/\dO h q v/\tT q=true/\eK m/\((eH s [] q).2=0->Dx q/\Jg (gI s q []).1/\lE (gI s q []).1<=100/\oZ q<=100)/\
 ((eH s [] q).2≠0->K (.tup [aPl cH cH,cI (eH s [] q).2]) m h)/\((eH s [] q).2=0->∀p r h',PH.le h h'->rR h' p r (mA s q).1 (mA s q).2->K (.tup [aPl p r,cI 0]) m h')
noncomputable def cxQ:=qD [(37,Eg),(38,cEJ),(43,c0Q)] [] [] [] [93,94,200002,510097] [] false
abbrev CL a:=iX (tT a)
attribute [push_cast] CL
def RF(sc:bT)(v:QV)(m:MH)(h:PH)(K:cq):=
  ∀(b:Nat)(z:MH),bH (cW m h b) (bJ m z b (cC sc) 27) (∃(y:bT),aK z h b 0 (cC y)/\FY (cE (cC y) (tN EH (cM v))) h (λs p q=>CL q/\∀(P:Sl)(e:PH),bS h e (Ints e P (eH s p q).1) (dR (eH s p q).2 0 (K (CV.tup (eU (kC pF pF) (CV.val (gZ (eH s p q).2)))) z e) (xN z e (λQ J=>∀(f:Nat)(B:MH),bH (cW J e f) (bJ J B f (bG pF pF (pD Eu)) 93) (gT (λc E=>aA (sL B f (fA c E 0)) (3<=c.size) (∀(C:MH),bJ B C f (bG pF pF (iC (Dj Q) 3 c)) E->∀(g:Nat)(D:MH),bH (cW C e g) (bJ C D g Lo 94) (gT (λF E1=>aA (sL D g (fA F E1 0)) (0<F.size) (∀(G:MH),bJ D G g (iC (Value.func (Fn.func 38) sJ (Array.mk (bG (SB g 0) (SB b 0) (Aa f)))) 1
 F) E1->∃(j:Nat×Nat×Nat),aK G e g 0 (QE 38 (Array.mk (bG (SB j.1 0) (SB j.2.1 0) (Aa j.2.2))))/\∃(R:iR->MH->PH->Prop),CE 38 97 (cE v.enc (dE j.1 (uJ j.2.1 (OP j.2.2 0)))) G e (λl A n=>∃(x:iR),l=x.enc/\R x A n)/\∀(x:iR),fD (λA n=>R x A n->∃(L:iR)(o:PN)(d:Int)(H:MH),JP (λI M t r=>aA (Es f x x.env=Es I L d) (pO n o L) (aA (Jg o) (iG H A n I M t r) (aA (eK H) (t.length+5*lE o<=90000) (r.length+lE o<=90000/\fD (λa u=>bS n u (iG H a u I M (gV o d t r).1 (gV o d t r).2) (xP a u f 0 (λS O=>aK a u f 1 (aL O)/\K (CV.tup (cT (jO (kC (dW S) (dW O))) 0)) a u)))))))))))))))))))
theorem N4{q}(h:(eH s ps q).2=0):(aJ s ps q).2=0/\eX s=0:=by
 unfold eH at h;split at h
 .rename_i e;refine⟨?_,e⟩;split at h
  .split at h
   .exact h
   .simp[eJ]at h
  .simp[eJ]at h
 .rename_i c;simp[eJ]at h;omega
theorem aEQ m E sz:cL m cH E sz []:=⟨⟨λ_ h=>by simp at h,λ_ h=>by simp at h⟩,.inl ⟨rfl,rfl⟩⟩
theorem biZ:cm 11 bnZ:=by
 refine Sn func11 ?_;rintro b8 m h K ⟨sc,v,s,q,rfl,hs,hq,a6,ht,hv,hE,hK⟩;refine⟨cxQ,rfl,aE JR (aE To (aE baX aH)),RF sc v m h (cR h K),ax,?_⟩;show RF sc v m h (cR h K);dsimp only[RF,push_cast];intro f m1 a7 z
 have H:Sub m m1:=λx o e=>by
  rw[z.other x (λL=>by rw[L,a7.m_]at e;cases e)];exact e
 refine⟨sc,.of_m z.at_ rfl,sc,cH,v,s,[],q,rfl,hs,Xh h,hq,a6,λsl h1 E _=>aD (λM=>?_) (λM=>?_)⟩
 .have M:(eH s [] q).2≠0:=bg
  exact cR.keep H E (hE M)
 have M:(eH s [] q).2=0:=bg
 obtain⟨S,a8,b9,b6⟩:=hv M;obtain⟨T,U⟩:=N4 M;have hK:=hK M;intro c m2 V g cb m3 O C;refine⟨_,_,⟨C.at_⟩,ay,λm4 d B m5 F P=>⟨_,_,⟨P.at_⟩,ay,λD A=>?_⟩⟩;have d:lI m3 m4 cb (.cells #[.slice none 0 0,.slice none 0 0,.map (some c)] 93 (0,0)):=d;have A:lI m5 D B (.cells #[cWX B f cb] 94 (0,0)):=A;have n1:c≠f:=λe=>by have:=V.m_;rw[e,z.at_]at this;cases this
 have n2:cb≠c:=λe=>by have:=O.m_;rw[e,g.at_]at this;cases this
 have n3:cb≠f:=λe=>by have:=O.m_;rw[e,g.other f (Ne.symm n1),z.at_]at this;cases this
 have n4:B≠cb:=λe=>by have:=F.m_;rw[e,d.at_]at this;cases this
 have n5:B≠c:=λe=>by have:=F.m_;rw[e,d.other c (Ne.symm n2),C.other c (Ne.symm n2),g.at_]at this;cases this
 have n6:B≠f:=λe=>by have:=F.m_;rw[e,d.other f (Ne.symm n3),C.other f (Ne.symm n3),g.other f (Ne.symm n1),z.at_]at this;cases this
 have h6:∀x,x≠B->x≠cb->D x=m2 x:=λx Q G=>by rw[A.other x Q,P.other x Q,d.other x G,C.other x G]
 have W:D cb=some (.cells #[.slice none 0 0,.slice none 0 0,.map (some c)] 93 (0,0)):=by rw[A.other cb (Ne.symm n4),P.other cb (Ne.symm n4)];exact d.at_
 have X:D c=some (.map #[] 0):=by rw[h6 c (Ne.symm n5) (Ne.symm n2)];exact g.at_
 have b7:D f=some (.cells ⟨sc.enc⟩ 27 (0,0)):=by rw[h6 f (Ne.symm n6) (Ne.symm n3),g.other f (Ne.symm n1)];exact z.at_
 obtain⟨n,c1⟩:∃n:MH,n=λx=>if x=cb\/x=c then none else D x:=⟨_,rfl⟩
 have a9:∀x,x≠cb->x≠c->n x=D x:=λx Q G=>bg
 have Y:n cb=none:=bg
 have Z:n c=none:=bg
 have R:Sub n D:=λx o e=>by
  grind
 have j:Sub m n:=λx o e=>by
  have Q:=H x o e;have a1:x≠c:=λL=>by rw[L,V.m_]at Q;cases Q
  have G:m2 x=some o:=by rw[g.other x a1];exact Q
  have a2:x≠cb:=λL=>by rw[L,O.m_]at G;cases G
  have e3:m4 x=some o:=by rw[d.other x a2,C.other x a2];exact G
  have a3:x≠B:=λL=>by rw[L,F.m_]at e3;cases e3
  grind
 have c0:iG n D h1 cb c [] []:=⟨R,Y,Z,⟨#[],0,X,rfl⟩,ay,cH,cH,W,⟨[],aEQ D _ _,rfl,λi t e=>by simp at e⟩,aEQ D _ _,λb i e=>by simp[cH]at e,λb i e=>by simp[cH]at e⟩
 have I:czQ n h1 s B f cb:=⟨by rw[a9 B n4 n5];exact A.at_,⟨sc,hs.mono E,bg⟩,ht.sub j,cTX U⟩
 have b':=DJ s q [];simp only[length_nil,Nat.zero_add]at b';refine⟨(B,f,cb),.of_m A.at_ rfl,λy my hy=>PH.le h1 hy/\pO hy (gI s q []).1 y/\iG n my hy cb c (gI s q []).2 [],?_,λy m7 h7⟨b0,ry,c7⟩=>?_⟩
 .have a':AN Tryz.prog 97=true:=ax
  refine Sound.fat (vs:=[.agg ⟨QV.enc v⟩,.pointer (some ⟨B,0,none⟩),.pointer (some ⟨f,0,none⟩),.pointer (some ⟨cb,0,none⟩)]) To ⟨v,q,s,B,f,cb,c,n,[],[],rfl,hq.mono E,T,S,I,c0,bf,λv' m' h' b1 rp c'=>⟨iR.enc v',?_,v',rfl,b1,rp,c'⟩⟩;have e:Vc.valOf Tryz.prog 97 (iR.enc v')= .agg ⟨iR.enc v'⟩:=by unfold Vc.valOf;rw[a']
  rw[e];rfl
 .refine⟨y,(gI s q []).1,y.env,n,cb,c,(gI s q []).2,[],rfl,ry,a8,c7,I.tab,aC,bf,λm8 h8 b2 c8=>?_⟩;rw[ry.env_]at c8;have c8:iG n m8 h8 cb c (mA s q).1 (mA s q).2:=c8;obtain⟨p,r,a0,⟨vs,hr,a4⟩,b3,b4,b5⟩:=c8.ex;refine⟨p,.of_m a0 rfl,r,.of_m a0 rfl,λa5=>?_⟩;have hd:Fi m8 h8:=⟨a5⟩
  have le:=(E.trans b0).trans b2
  have fr:∀b,n b=none->m b=none:=λb e=>by
   cases G:m b with
   |none=>rfl
   |some o=>rw[j b o G]at e;cases e
  have J:=i7 (gI s q []).1 ((gI s q []).1.env:Int) (gI s q []).2 [];have J:(mA s q).1.length<=(gI s q []).2.length+5*lE (gI s q []).1/\(mA s q).2.length<=0+lE (gI s q []).1:=J;refine⟨m,AP m m8 h8,λb o e=>c8.sub b o (j b o e),le.trans (Am hd),λb i w e=>?_,hK p r _ (le.trans (Am hd)) ⟨⟨vs,uZ.ice ⟨hr,λb i e=>fr b (b4 b i e)⟩,a4.1,λi t e=>let⟨u,k1,k2⟩:=a4.2 i t e;⟨u,k1,k2.mono (Am hd)⟩⟩,⟨uZ.ice ⟨b3,λb i e=>fr b (b5 b i e)⟩,aC⟩,aC⟩⟩;unfold AP at e
  grind
theorem JI:∀{l c:cn}{r r':dg},(∀n∈l,uY n)->(∀n∈c,uY n)->l.length=c.length->jU l++r=jU c++r'->l=c/\r=r'
 |[],[],_,_,_,_,_,h=>⟨rfl,h⟩
 |[],_::_,_,_,_,_,d,_=>by simp at d
 |_::_,[],_,_,_,_,d,_=>by simp at d
 |m::l,n::c,r,r',f,g,d,h=>by
  rw[vO,vO,append_assoc,append_assoc,cons_append,cons_append]at h;obtain⟨a,h⟩:=jH (f m ay) (g n ay) h;obtain⟨b,h⟩:=JI (λx e=>f x (by simp[e])) (λx e=>g x (by simp[e])) bg h
  grind
theorem Ku:∀{l c:cu}{r r':dg},(∀p∈l,uY p.1/\uY p.2)->(∀p∈c,uY p.1/\uY p.2)->l.length=c.length->wQ l++r=wQ c++r'->l=c/\r=r'
 |[],[],_,_,_,_,_,h=>⟨rfl,h⟩
 |[],_::_,_,_,_,_,d,_=>by simp at d
 |_::_,[],_,_,_,_,d,_=>by simp at d
 |m::l,n::c,r,r',e,f,d,h=>by
  rw[N9,N9]at h;simp only[append_assoc,cons_append]at h;obtain⟨a,h⟩:=jH (e m ay).1 (f n ay).1 h;obtain⟨j,h⟩:=jH (e m ay).2 (f n ay).2 h;obtain⟨b,h⟩:=Ku (λx g=>e x (by simp[g])) (λx g=>f x (by simp[g])) bg h
  grind
theorem Kj:∀{l c:cv}{r r':dg},(∀p∈l,uY p.1)->(∀p∈c,uY p.1)->l.length=c.length->wO l++r=wO c++r'->l=c/\r=r'
 |[],[],_,_,_,_,_,h=>⟨rfl,h⟩
 |[],_::_,_,_,_,_,d,_=>by simp at d
 |_::_,[],_,_,_,_,d,_=>by simp at d
 |m::l,n::c,r,r',f,g,d,h=>by
  rw[N3,N3]at h;simp only[append_assoc,cons_append]at h;have j:∀b:Bool,uY (if b then 1 else 0):=λb=>by cases b<;>exact⟨az,az⟩
  obtain⟨a,h⟩:=jH (f m ay) (g n ay) h;obtain⟨o,h⟩:=jH (j m.2) (j n.2) h;obtain⟨b,h⟩:=Kj (λx e=>f x (by simp[e])) (λx e=>g x (by simp[e])) bg h
  grind
structure bXX(t:Step):Prop where
 op_:uY t.op
 table_:uY t.table
 limit_:uY t.limit
 left_:uY t.left
 right_:uY t.right
 cols:t.columns.length<=8000000
 on_:t.on.length<=8000000
 group_:t.group.length<=8000000
 order_:t.order.length<=8000000
theorem aVX{x}(hx:bXZ x)(e:bXZ t)(c:bXX x)(d:bXX t)(h:stepB x=stepB t):x=t:=by
 obtain⟨op,ta,w,co,on,gr,od,li,le,S⟩:=x;obtain⟨C,D,T,E,F,G,H,I,J,L⟩:=t;have M:jU []=[]:=rfl;simp only[stepB,vO,M,append_assoc,cons_append,nil_append]at h;obtain⟨g,h⟩:=jH c.op_ d.op_ h;obtain⟨j,h⟩:=jH c.table_ d.table_ h;obtain⟨n,h⟩:=jH c.limit_ d.limit_ h;obtain⟨o,h⟩:=jH c.left_ d.left_ h;obtain⟨u,h⟩:=jH c.right_ d.right_ h;obtain⟨y,h⟩:=N8 hx.wher e.wher h;obtain⟨O,h⟩:=jH (yD c.cols) (yD d.cols) h;obtain⟨z,h⟩:=JI hx.cols e.cols (by simp only at O⊢;omega) h;obtain⟨P,h⟩:=jH (yD c.on_) (yD d.on_) h;obtain⟨A,h⟩:=Ku hx.on_ e.on_ (by simp only at P⊢;omega) h;obtain⟨Q,h⟩:=jH (yD c.group_) (yD d.group_) h;obtain⟨B,h⟩:=JI hx.group_ e.group_ (by simp only at Q⊢;omega) h;obtain⟨R,h⟩:=jH (yD c.order_) (yD d.order_) h;obtain⟨f,_⟩:=Kj (r:=[]) (r':=[]) hx.order_ e.order_ (by simp only at R⊢;omega) (bk h);simp only at g j n o u y z A B f;subst g j n o u y z A B f;rfl
structure fS(s:jZ)(q:Query):Prop where
 kinds:(aJ s [] q).2=0
 ints:QI q
 bnd:iD 4 q<=8000000
theorem fS.arg{op w on args}(g:fS s (.mk op ta w co on gr od li args)){a}(c:a∈args):fS s a:=
 ⟨(lX g.kinds).1 a c,(JF.1 g.ints).2 a c,cyJ g.kinds g.bnd c⟩
theorem Zo{op w on args}(u:s.tables.length<=1000)(h:(aJ s [] (.mk op ta w co on gr od li args)).2=0):uY op/\uY ta/\uY li:=by
 obtain⟨_,g,a,b,_,_,c⟩:=lX h;unfold eZ at c;by_cases d:arity op<0\/¬cY (.mk op ta w co on gr od li args)
 .rw[if_pos d]at c;simp[eJ]at c
 .rw[if_neg d]at c;rw[not_or]at d;obtain⟨j,_,_,_,n⟩:cY (.mk op ta w co on gr od li args):=Classical.not_not.1 d.2
  have o:1<=op/\op<=10:=by
   have f:=d.1;unfold arity at f;simp only[beq_iff_eq,Bool.or_eq_true]at f;omega
  refine⟨kS aC aC,?_,?_⟩
  .rcases j with rfl|rfl
   .dsimp only at c;simp only[if_true]at c;split at c
    .rename_i e;exact kS aC aC
    .simp[eJ]at c
   .exact Hx
  .rcases n with rfl|rfl|⟨_,_,rfl⟩
   .dsimp only at c;simp only[show¬((9:Int)=1)by decide,show¬((9:Int)=2)by decide,show¬((9:Int)=3)by decide,show¬((9:Int)=4)by decide,show¬((9:Int)=5)by decide,if_false,if_true]at c;split at c
    .rename_i e;exact kS (by have:=e.low;omega) (by have:=e.high;omega)
    .simp[eJ]at c
   .dsimp only at c;simp only[show¬((10:Int)=1)by decide,show¬((10:Int)=2)by decide,show¬((10:Int)=3)by decide,show¬((10:Int)=4)by decide,show¬((10:Int)=5)by decide,show¬((10:Int)=9)by decide,if_false,if_true]at c;split at c
    .rename_i e;exact kS (by have:=e.2.low;omega) (by have:=e.2.high;omega)
    .simp[eJ]at c
   .exact Hx
structure EG(s:jZ)(ts:de):Prop where
 ar:∀(i:Nat) t,ts[i]? =some t->0<=arity t.op
 fit:∀(i:Nat) t,ts[i]? =some t->qJ i t
 nodup:(ts.map stepB).Nodup
 good:∀i,i<ts.length->fS s (aU ts i)
 short:∀t∈ts,t.columns.length<=1000/\t.on.length<=1000/\t.group.length<=1000/\t.order.length<=1000
theorem EG.ok(v:EG s ts):CR ts:=λi t e=>⟨v.ar i t e,LG (v.ar i t e) (v.fit i t e)⟩
theorem EG.nil s:EG s []:=⟨λi t e=>by simp at e,λi t e=>by simp at e,ay,λi c=>by simp at c,λt d=>by simp at d⟩
theorem Q4{a u}(h:ED a u i=true)(c:i<=8000000):uY a:=by
 unfold ED at h;split at h
 .simp only[bz,ce]at h;exact kS aC aC
 .have:a=0:=bk h
  rw[this];exact Hx
theorem P0{q args}(j:s.tables.length<=1000)(g:fS s q)(n:q= .mk t.op t.table t.wher t.columns t.on t.group t.order t.limit args)(d:qJ i t)(e:i<=8000000)(E:t.columns.length<=1000/\t.on.length<=1000/\t.group.length<=1000/\t.order.length<=1000):bXZ t/\bXX t:=by
 have c:=g.ints;have f:=g.kinds;rw[n]at c f;rw[JF]at c;obtain⟨o,u,y,z,A⟩:=c.1;obtain⟨B,C,D⟩:=Zo j f;exact⟨⟨o,u,y,z,A⟩,⟨B,C,D,Q4 d.1 e,Q4 d.2 e,aC,aC,aC,aC⟩⟩
theorem bxJ{s ts t q}(H:s.tables.length<=1000)(v:EG s ts)(I:ts.length<=100000)(J:0<=arity t.op)(D:qJ ts.length t)(g:fS s q)(E:q= .mk t.op t.table t.wher t.columns t.on t.group t.order t.limit (Du ts t))(M:t.columns.length<=1000/\t.on.length<=1000/\t.group.length<=1000/\t.order.length<=1000):
 EG s (bZ t ts).1/\ts<+:(bZ t ts).1/\(bZ t ts).2<(bZ t ts).1.length/\aU (bZ t ts).1 (bZ t ts).2=q:=by
 obtain⟨O,P⟩:=P0 H g E D aC M;by_cases y:∀x∈ts,stepB x≠stepB t
 .rw[YW y];dsimp only
  have c:∀(i:Nat) u,(ts++[t])[i]? =some u->ts[i]? =some u\/(i=ts.length/\u=t):=λi u e=>by
   grind
  have f:∀(i:Nat) u,(ts++[t])[i]? =some u->0<=arity u.op:=λi u e=>by
   rcases c i u e with e|⟨_,rfl⟩
   .exact v.ar i u e
   .exact J
  have d:∀(i:Nat) u,(ts++[t])[i]? =some u->qJ i u:=λi u e=>by
   rcases c i u e with e|⟨rfl,rfl⟩
   .exact v.fit i u e
   .exact D
  have j:CR (ts++[t]):=λi u e=>⟨f i u e,LG (f i u e) (d i u e)⟩
  have F:ts<+:ts++[t]:=prefix_append _ _
  have n:aU (ts++[t]) ts.length=q:=by
   rw[rG j (t:=t) ay,E]
   have:Du (ts++[t]) t=Du ts t:=map_congr_left λa L=>by
    have:=LG J D a L;exact fR F j a.toNat aC
   rw[this]
  refine⟨⟨f,d,?_,λi o=>?_,λu B=>?_⟩,F,ay,n⟩
  .rw[bu,nodup_append];refine⟨v.nodup,ay,λa L b T=>?_⟩
   grind
  .by_cases z:i<ts.length
   .rw[fR F j i z];exact v.good i z
   grind
  .rcases mem_append.1 B with B|B
   .exact v.short u B
   grind
 .have:∃x∈ts,stepB x=stepB t:=Classical.byContradiction λQ=>y λx C e=>Q ⟨x,C,e⟩;obtain⟨x,C,e⟩:=this;obtain⟨i,o⟩:=mem_iff_getElem?.1 C;have A:=(bm o);obtain⟨R,S⟩:=P0 H (v.good i A) (rG v.ok o) (v.fit i x o) aC (v.short x C);have G:x=t:=aVX R O S P e;subst G;rw[YV v.nodup o rfl];exact⟨v,prefix_refl _,A,by rw[rG v.ok o,E]⟩
theorem Ww(v:EG s ts)(d:ts[i]? =some t):DL s ((List.range i).map λj=>(aJ s [] (aU ts j)).1) t=((aJ s [] (aU ts i)).1,0):=by
 have B:=(bm d);have g:=(v.good i B).kinds;have C:=rG v.ok d;rw[C]at g⊢
 have D:=Ht g;have F:=v.ar i t d;have G:=Fa t.op;have y:=v.fit i t d;have c:=(v.ok i t d).2;have E:((List.range i).map λj=>(aJ s [] (aU ts j)).1).length=i:=ay
 have z:DE ((List.range i).map λj=>(aJ s [] (aU ts j)).1) t.left (decide (arity t.op>0))=((Du ts t).map λq=>(aJ s [] q).1).getD 0 []/\DE ((List.range i).map λj=>(aJ s [] (aU ts j)).1) t.right (decide (arity t.op>1))=((Du ts t).map λq=>(aJ s [] q).1).getD 1 []:=by
  obtain⟨n,f⟩:∃n:Nat,arity t.op=n:=⟨(arity t.op).toNat,aC⟩
  unfold Du;unfold BV at c⊢
  rw[f,Int.toNat_natCast]at c⊢
  match n,f,c with
  |0,_,_=>exact⟨rfl,rfl⟩
  |1,f,c=>
   have o:=c t.left ay;exact⟨RP o.1 o.2,rfl⟩
  |2,f,c=>
   have o:=c t.left ay;have A:=c t.right ay;exact⟨RP o.1 o.2,RP A.1 A.2⟩
  |n+3,f,_=>omega
 have u:eZ s [] t.query (DE ((List.range i).map λj=>(aJ s [] (aU ts j)).1) t.left (decide (arity t.op>0))) (DE ((List.range i).map λj=>(aJ s [] (aU ts j)).1) t.right (decide (arity t.op>1)))=aJ s [] (.mk t.op t.table t.wher t.columns t.on t.group t.order t.limit (Du ts t)):=by
  rw[D,z.1,z.2];rfl
 unfold DL;rw[u,E,if_neg,if_neg aC]
 .grind
 .rintro(e|e|e)
  .omega
  .rw[y.1]at e;cases e
  .rw[y.2]at e;cases e
theorem Kh{s:jZ}{ts:de}(v:EG s ts):∀(n i:Nat),i+n=ts.length->(C8 s ((List.range i).map λj=>(aJ s [] (aU ts j)).1) (ts.drop i)).2=0
 |0,i,d=>by
  rw[drop_of_length_le aC];rfl
 |n+1,i,d=>by
  have c:ts[i]? =some ts[i]:=bn aC;rw[NY c,Ww v c,if_pos rfl];have:=Kh v n (i+1) aC
  rwa [range_succ,bu]at this
theorem WT(v:EG s ts)(c:eX s=0)(d:ts.length<=1024)(e:rs.length<=32)(f:∀r∈rs,0<=r/\r<ts.length):jQ s ts rs=0:=by
 rw[Ji c aC,if_neg,if_pos]
 .grind
 .have:=Kh v ts.length 0 aC
  grind
mutual
def eC:Query->Query
 |.mk op ta w co on gr od li args=>if GQ op=true then(GW args).getD 0 azJ else .mk op ta w co on gr od li (GW args)
def GW:db->db
 |[]=>[]
 |q::qs=>eC q::GW qs
end
theorem E7:∀l:db,GW l=l.map eC
 |[]=>by simp[GW]
 |q::l=>by rw[GW,E7 l];rfl
def mN(a b:Query)(on:cu):Query:=.mk 5 0 gG [] on [] [] 0 [a,b]
def kI(a b:Query):Query:=.mk 8 0 gG [] [] [] [] 0 [a,b]
def GR(a:Query)(co:cn):Query:=.mk 3 0 gG co [] [] [] 0 [a]
def DO(a b:Query)(gr:cn)(od:cv)(li:Int):Query:=.mk 10 0 gG [] [] gr od li [a,b]
def mK(wd:Query->Int)(q D:Query):db:=
 match q with
 |.mk op _ _ co on gr od li args=>
  match args with
  |[]=>if op=1 then[D]else[]
  |[a]=>
   if op=2 then mK wd a D
   else if op=3 then mK wd a (mN (eC a) D (oY co))
   else if op=9 then mK wd a (DO (mN (eC a) D (sA gr)) a gr od li)
   else[]
  |a::b::_=>
   if op=4 then mK wd a (GR (mN D b (Ay (wd a) (wd b))) (iE 0 (wd a)))++mK wd b (GR D (iE (wd a) (wd b)))
   else if op=5 then mK wd a (mN D b on)++mK wd b (mN (eC b) D (qI on))
   else if op=6 then mK wd a (kI (eC a) D)++mK wd b (kI (eC b) D)
   else if op=7\/op=8 then mK wd a D++mK wd b (kI (kI (eC b) D) a)
   else if op=10 then mK wd a D++mK wd b (DO (mN (eC b) D (sA gr)) b gr od li)
   else[]
 termination_by SizeOf.sizeOf q
noncomputable def pZ s q:=((aJ s [] q).1.length:Int)
def cbJ(s:jZ)(op ta:Int)(co a b:cn):=if op=1 then kH s ta else if op=3 then co.map (λc=>a.getD c.toNat 0)else if op=4 then a++b else a
structure b2Q(s:jZ)(op ta:Int)(co:cn)(on:cu)(gr:cn)(od:cv)(li:Int)(a b:cn)(r:cn):Prop where
 out:r=cbJ s op ta co a b
 len:r.length<=12
 tab:op=1->0<=ta/\ta<s.tables.length
 proj:op=3->co≠[]/\Good (λ_ c=>C0 a c=true) co
 pair:op=4\/op=5->Good (oB a b) on
 rank:op=9\/op=10->nT a gr od li
 same:op=6\/op=7\/op=8\/op=10->a=b
theorem tQ(h:(nO l).2=0):l.length<=12:=by
 unfold nO at h
 grind
theorem W5{op w on args b}(h:(eZ s [] (.mk op ta w co on gr od li args) a b).2=0):
 b2Q s op ta co on gr od li a b (eZ s [] (.mk op ta w co on gr od li args) a b).1/\1<=op/\op<=10:=by
 unfold eZ at h⊢
 by_cases d:arity op<0\/¬cY (.mk op ta w co on gr od li args)
 .rw[if_pos d]at h;simp[eJ]at h
 rw[if_neg d]at h⊢
 rw[not_or]at d;have f:=d.1
 have e:op=1\/op=2\/op=3\/op=9\/op=4\/op=5\/op=6\/op=7\/op=8\/op=10:=by
  unfold arity at f
  grind
 refine⟨?_,aC,aC⟩;dsimp only at h⊢
 rcases e with rfl|rfl|rfl|rfl|rfl|rfl|rfl|rfl|rfl|rfl
 .simp only[if_true]at h⊢
  split at h
  .rename_i c;rw[if_pos c];rw[tJ h];exact⟨rfl,tQ h,λ_=>c,ay,ay,ay,ay⟩
  .simp[eJ]at h
 .simp only[show¬((2:Int)=1)by decide,if_true,if_false]at h⊢
  split at h
  .rename_i c;rw[if_pos c];rw[tJ h];exact⟨rfl,tQ h,ay,ay,ay,ay,ay⟩
  .rename_i c;simp[eJ]at h;omega
 .simp only[show¬((3:Int)=1)by decide,show¬((3:Int)=2)by decide,if_true,if_false]at h⊢
  split at h
  .rename_i c;rw[if_pos c];rw[tJ h];exact⟨rfl,tQ h,ay,λ_=>c,ay,ay,ay⟩
  .simp[eJ]at h
 .simp only[show¬((9:Int)=1)by decide,show¬((9:Int)=2)by decide,show¬((9:Int)=3)by decide,show¬((9:Int)=4)by decide,show¬((9:Int)=5)by decide,if_true,if_false]at h⊢
  split at h
  .rename_i c;rw[if_pos c];rw[tJ h];exact⟨rfl,tQ h,ay,ay,ay,λ_=>c,ay⟩
  .simp[eJ]at h
 .simp only[show¬((4:Int)=1)by decide,show¬((4:Int)=2)by decide,show¬((4:Int)=3)by decide,if_true,if_false]at h⊢
  split at h
  .rename_i c;rw[if_pos c];rw[tJ h];exact⟨rfl,tQ h,ay,ay,λ_=>c,ay,ay⟩
  .simp[eJ]at h
 .simp only[show¬((5:Int)=1)by decide,show¬((5:Int)=2)by decide,show¬((5:Int)=3)by decide,show¬((5:Int)=4)by decide,if_true,if_false]at h⊢
  split at h
  .rename_i c;rw[if_pos c];rw[tJ h];exact⟨rfl,tQ h,ay,ay,λ_=>c,ay,ay⟩
  .simp[eJ]at h
 .simp only[show¬((6:Int)=1)by decide,show¬((6:Int)=2)by decide,show¬((6:Int)=3)by decide,show¬((6:Int)=4)by decide,show¬((6:Int)=5)by decide,show¬((6:Int)=9)by decide,show¬((6:Int)=10)by decide,if_true,if_false]at h⊢
  split at h
  .rename_i c;rw[if_pos c];rw[tJ h];exact⟨rfl,tQ h,ay,ay,ay,ay,λ_=>c⟩
  .simp[eJ]at h
 .simp only[show¬((7:Int)=1)by decide,show¬((7:Int)=2)by decide,show¬((7:Int)=3)by decide,show¬((7:Int)=4)by decide,show¬((7:Int)=5)by decide,show¬((7:Int)=9)by decide,show¬((7:Int)=10)by decide,if_true,if_false]at h⊢
  split at h
  .rename_i c;rw[if_pos c];rw[tJ h];exact⟨rfl,tQ h,ay,ay,ay,ay,λ_=>c⟩
  .simp[eJ]at h
 .simp only[show¬((8:Int)=1)by decide,show¬((8:Int)=2)by decide,show¬((8:Int)=3)by decide,show¬((8:Int)=4)by decide,show¬((8:Int)=5)by decide,show¬((8:Int)=9)by decide,show¬((8:Int)=10)by decide,if_true,if_false]at h⊢
  split at h
  .rename_i c;rw[if_pos c];rw[tJ h];exact⟨rfl,tQ h,ay,ay,ay,ay,λ_=>c⟩
  .simp[eJ]at h
 .simp only[show¬((10:Int)=1)by decide,show¬((10:Int)=2)by decide,show¬((10:Int)=3)by decide,show¬((10:Int)=4)by decide,show¬((10:Int)=5)by decide,show¬((10:Int)=9)by decide,if_true,if_false]at h⊢
  split at h
  .rename_i c;rw[if_pos c];rw[tJ h];exact⟨rfl,tQ h,ay,ay,ay,λ_=>c.2,λ_=>c.1⟩
  .simp[eJ]at h
theorem Ly(h:l.length<=12):nO l=(l,0):=by unfold nO;rw[if_pos h]
theorem aYX{on args b}(h:a.length<=12)(c:Good (oB a b) on):eZ s [] (.mk 5 0 gG [] on [] [] 0 args) a b=(a,0):=by
 unfold eZ;rw[if_neg (by simp[cY,arity])];simp only[show¬((5:Int)=1)by decide,show¬((5:Int)=2)by decide,show¬((5:Int)=3)by decide,show¬((5:Int)=4)by decide,if_true,if_false,if_pos c,Ly h]
theorem Zp{args}(h:a.length<=12):eZ s [] (.mk 8 0 gG [] [] [] [] 0 args) a a=(a,0):=by
 unfold eZ;rw[if_neg (by simp[cY,arity])];simp only[show¬((8:Int)=1)by decide,show¬((8:Int)=2)by decide,show¬((8:Int)=3)by decide,show¬((8:Int)=4)by decide,show¬((8:Int)=5)by decide,show¬((8:Int)=9)by decide,show¬((8:Int)=10)by decide,if_true,if_false,Ly h]
theorem aYZ{args b}(d:co≠[])(e:Good (λ_ c=>C0 a c=true) co)(h:co.length<=12):eZ s [] (.mk 3 0 gG co [] [] [] 0 args) a b=(co.map (λc=>a.getD c.toNat 0),0):=by
 unfold eZ;rw[if_neg (by simp[cY,arity])];simp only[show¬((3:Int)=1)by decide,show¬((3:Int)=2)by decide,if_true,if_false];rw[if_pos ⟨d,e⟩,Ly (bk h)]
theorem aYJ{args}(h:a.length<=12)(c:nT a gr od li):eZ s [] (.mk 10 0 gG [] [] gr od li args) a a=(a,0):=by
 unfold eZ;rw[if_neg (by simp[cY,arity])];simp only[show¬((10:Int)=1)by decide,show¬((10:Int)=2)by decide,show¬((10:Int)=3)by decide,show¬((10:Int)=4)by decide,show¬((10:Int)=5)by decide,show¬((10:Int)=9)by decide,if_true,if_false];rw[if_pos ⟨rfl,c⟩,Ly h]
theorem fS.k{q}(g:fS s q):aJ s [] q=((aJ s [] q).1,0):=Prod.ext rfl g.kinds
theorem fS.two{op w on a b K}(c:fS s a)(d:fS s b)(g:arity op=2)(j:eZ s [] (.mk op ta w co on gr od li [a,b]) (aJ s [] a).1 (aJ s [] b).1=(K,0))(n:Eh w)(o:iD 4 (.mk op ta w co on gr od li [a,b])<=8000000):
 fS s (.mk op ta w co on gr od li [a,b])/\(aJ s [] (.mk op ta w co on gr od li [a,b])).1=K:=by
 have e:aJ s [] (.mk op ta w co on gr od li [a,b])=(K,0):=by
  rw[aJ,vD (ks:=[(aJ s [] a).1,(aJ s [] b).1]) (by show[aJ s [] a,aJ s [] b]=[((aJ s [] a).1,0),((aJ s [] b).1,0)];rw[<-c.k, <-d.k])]
  grind
 refine⟨⟨by rw[e],JF.2 ⟨Zq (s:=s) (ps:=[]) (a:=(aJ s [] a).1) (b:=(aJ s [] b).1) (lY ..) (lY ..) ay n (by rw[j]),λq f=>?_⟩,o⟩,by rw[e]⟩;simp at f;rcases f with rfl|rfl
 .exact c.ints
 .exact d.ints
theorem fS.one{op w on a K}(c:fS s a)(f:arity op=1)(g:eZ s [] (.mk op ta w co on gr od li [a]) (aJ s [] a).1 []=(K,0))(j:Eh w)(n:iD 4 (.mk op ta w co on gr od li [a])<=8000000):
 fS s (.mk op ta w co on gr od li [a])/\(aJ s [] (.mk op ta w co on gr od li [a])).1=K:=by
 have d:aJ s [] (.mk op ta w co on gr od li [a])=(K,0):=by
  rw[aJ,vD (ks:=[(aJ s [] a).1]) (by show[aJ s [] a]=[((aJ s [] a).1,0)];rw[<-c.k])]
  grind
 refine⟨⟨by rw[d],JF.2 ⟨Zq (s:=s) (ps:=[]) (a:=(aJ s [] a).1) (b:=[]) (lY ..) ay ay j (by rw[g]),λq e=>?_⟩,n⟩,by rw[d]⟩;simp at e;subst e;exact c.ints
theorem EL{s a b on}(c:fS s a)(d:fS s b)(e:Good (oB (aJ s [] a).1 (aJ s [] b).1) on)(f:iD 4 a+iD 4 b<=8000000):fS s (mN a b on)/\(aJ s [] (mN a b on)).1=(aJ s [] a).1:=
 fS.two c d rfl (aYX (lY ..) e) qY (by simpa[iD,wM]using f)
theorem AO{a b}(c:fS s a)(d:fS s b)(e:(aJ s [] a).1=(aJ s [] b).1)(f:iD 4 a+iD 4 b<=8000000):fS s (kI a b)/\(aJ s [] (kI a b)).1=(aJ s [] a).1:=
 fS.two c d rfl (by rw[<-e];exact Zp (lY ..)) qY (by simpa[iD,wM]using f)
theorem SK{s a co}(d:fS s a)(e:co≠[])(f:Good (λ_ c=>C0 (aJ s [] a).1 c=true) co)(g:co.length<=12)(j:iD 4 a<=8000000):fS s (GR a co)/\(aJ s [] (GR a co)).1=co.map (λc=>(aJ s [] a).1.getD c.toNat 0):=
 fS.one d rfl (aYZ e f g) qY (by simpa[iD,wM]using j)
theorem aWJ{s a b gr od li}(c:fS s a)(d:fS s b)(e:(aJ s [] a).1=(aJ s [] b).1)(f:nT (aJ s [] a).1 gr od li)(g:iD 4 a+iD 4 b<=8000000):fS s (DO a b gr od li)/\(aJ s [] (DO a b gr od li)).1=(aJ s [] a).1:=
 fS.two c d rfl (by rw[<-e];exact aYJ (lY ..) f) qY (by simpa[iD,wM]using g)
theorem fS.node{op w on args}(g:fS s (.mk op ta w co on gr od li args)):
 b2Q s op ta co on gr od li ((args.map λq=>(aJ s [] q).1).getD 0 []) ((args.map λq=>(aJ s [] q).1).getD 1 []) (aJ s [] (.mk op ta w co on gr od li args)).1/\(1<=op/\op<=10)/\(args.length:Int)=arity op/\∀a∈args,fS s a:=by
 have c:=Ht g.kinds;have h:=g.kinds;rw[c]at h;have:=W5 h;rw[<-c]at this;exact⟨this.1,this.2,(lX g.kinds).2.1,λa d=>g.arg d⟩
theorem cBX{op on args w}(g:fS s (.mk op ta w co on gr od li args)):co.length<=12/\on.length<=12/\gr.length<=12/\od.length<=12:=by
 obtain⟨_,_,a,b,D,_,h⟩:=lX g.kinds;have n:=(W5 h).1
 have u:cY (.mk op ta w co on gr od li args):=by
  unfold eZ at h;by_cases z:arity op<0\/¬cY (.mk op ta w co on gr od li args)
  .rw[if_pos z]at h;simp[eJ]at h
  grind
 obtain⟨_,_,A,B,C⟩:=u
 have d:Good (oB a b) on->on.length<=12:=λg=>by
  have:=LF (f:=λp=>p.1) (n:=a.length) g (λc x t=>by have:=t.1;rw[fH]at this;exact this) (λc x t y o=>(t.2.2.2 y o).1);omega
 have j:nT a gr od li->gr.length<=12/\od.length<=12:=λr=>by
  have:=LF (f:=λp=>p) (n:=a.length) r.group_ (λc x t=>by have:=t.1;rw[fH]at this;exact this) (λc x t y o e=>t.2 bg);exact⟨aC,r.len_⟩
 refine⟨?_,?_,?_⟩
 .rcases A with rfl|rfl
  .have:=n.len;rw[n.out]at this;simpa[cbJ]using this
  .simp
 .rcases B with rfl|rfl|rfl
  .exact d (n.pair (.inl rfl))
  .exact d (n.pair (.inr rfl))
  .simp
 .rcases C with rfl|rfl|⟨rfl,rfl,_⟩
  .exact j (n.rank (.inl rfl))
  .exact j (n.rank (.inr rfl))
  .simp
theorem Jp{s:jZ}:∀{l c:db},l.map (aJ s [])=c.map (aJ s [])->fX s [] l=fX s [] c
 |[],[],_=>rfl
 |[],_::_,h=>by simp at h
 |_::_,[],h=>by simp at h
 |q::l,d::c,h=>by
  simp only[map_cons,List.cons.injEq]at h;rw[fX,fX,h.1,Jp h.2]
theorem Zz{op w on args c}(h:c.map (aJ s [])=args.map (aJ s [])):aJ s [] (.mk op ta w co on gr od li c)=aJ s [] (.mk op ta w co on gr od li args):=by
 rw[aJ,aJ,Jp h];split;rename_i ks e _;rw[JJ s [] op ta w co on gr od li c,JJ s [] op ta w co on gr od li args]
theorem bpX{f:Query->Query}:∀{l:db},(∀a∈l,iD 4 (f a)<=iD 4 a)->wM 4 (l.map f)<=wM 4 l/\yG 4 (l.map f)<=yG 4 l
 |[],_=>⟨Nat.le_refl _,Nat.le_refl _⟩
 |q::l,h=>by
  have c:=h q ay;have d:=bpX (l:=l) λa e=>h a (by simp[e]);simp only[map_cons,wM,yG];exact⟨aC,Nat.mul_le_mul c d.2⟩
theorem aMX{op w on args}(g:fS s (.mk op ta w co on gr od li args)){a}(d:a∈args):iD 4 a<=iD 4 (.mk op ta w co on gr od li args):=by
 obtain⟨j,f,n,_⟩:=yR g.k;have o:=L4 (c:=4) aC f a d;rw[iD];split
 .rename_i e;subst e;rw[Mq f n]at d;cases d
 grind
theorem Vf{op}(h:GQ op=true):op=7\/op=9\/op=10:=by
 unfold GQ at h
 grind
theorem Ao{s:jZ}:∀q:Query,fS s q->fS s (eC q)/\(aJ s [] (eC q)).1=(aJ s [] q).1/\iD 4 (eC q)<=iD 4 q
 |.mk op ta w co on gr od li args,g=>by
  obtain⟨n,A,B,u⟩:=g.node;have j:∀a∈args,fS s (eC a)/\(aJ s [] (eC a)).1=(aJ s [] a).1/\iD 4 (eC a)<=iD 4 a:=λa d=>Ao a (u a d);rw[eC];split
  .rename_i C;have D:=Vf C
   obtain⟨a,c,rfl⟩:∃a c,args=a::c:=by
    cases args with
    |nil=>
     exfalso;have:(1:Int)<=arity op:=by rcases D with rfl|rfl|rfl<;>decide
     grind
    |cons a c=>grind
   have o:=j a ay;have e:(GW (a::c)).getD 0 azJ=eC a:=by rw[GW];rfl
   rw[e];refine⟨o.1,?_,cj o.2.2 (aMX g ay)⟩;rw[o.2.1,n.out];unfold cbJ
   grind
  .rw[E7]
   have y:aJ s [] (.mk op ta w co on gr od li (args.map eC))=aJ s [] (.mk op ta w co on gr od li args):=Zz (by
    rw[map_map];refine map_congr_left λa d=>?_;show aJ s [] (eC a)=aJ s [] a;rw[(j a d).1.k,(u a d).k,(j a d).2.1])
   have z:iD 4 (.mk op ta w co on gr od li (args.map eC))<=iD 4 (.mk op ta w co on gr od li args):=by
    have:=bpX (l:=args) (f:=eC) λa d=>(j a d).2.2;simp only[iD]
    grind
   refine⟨⟨by rw[y];exact g.kinds,JF.2 ⟨(JF.1 g.ints).1,λq E=>?_⟩,cj z g.bnd⟩,by rw[y],z⟩;obtain⟨a,d,rfl⟩:=mem_map.1 E;exact(j a d).1.ints
 termination_by q=>SizeOf.sizeOf q
theorem bqJ(h:eX s=0){t:Int}(e:0<=t)(f:t<s.tables.length):0<(kH s t).length:=by
 have c:L8 s:=by
  unfold eX at h
  grind
 unfold kH;rw[if_neg aC];have d:t.toNat<s.tables.length:=by omega
 rw[bn d];have:=c.2.2.1 t.toNat _ (bn d);have g:=this.2.1;have j:=this.2.2.1
 grind
theorem WD(h:eX s=0):s.tables.length<=1000:=by
 unfold eX at h;split at h
 .rename_i e;have:=e.1;omega
 .cases h
theorem MI{s:jZ}(f:eX s=0):∀q:Query,fS s q->0<(aJ s [] q).1.length
 |.mk op ta w co on gr od li args,g=>by
  obtain⟨n,j,d,o⟩:=g.node;rw[n.out]
  have u:op≠1->∃a c,args=a::c:=λA=>by
   cases args with
   |nil=>
    exfalso;simp only[length_nil]at d;unfold arity at d
    grind
   |cons a c=>grind
  unfold cbJ;split
  .rename_i e;exact bqJ f (n.tab e).1 (n.tab e).2
  .rename_i y;obtain⟨a,c,rfl⟩:=u y;have B:=MI f a (o a ay);split
   .rename_i z;have:=(n.proj z).1
    grind
   grind
 termination_by q=>SizeOf.sizeOf q
theorem avQ{op w on ks}(h:(ks.length:Int)=arity op):Du ts (Az op ta w co on gr od li ks)=ks.map (aU ts):=by
 have c:=Fa op;unfold Du BV Az;dsimp only;rw[<-h,Int.toNat_natCast]
 match ks,h with
 |[],_=>rfl
 |[a],_=>simp
 |[a,b],_=>simp
 |_::_::_::_,h=>grind
theorem bzZ{n op w on ks}(h:(ks.length:Int)=arity op)(c:∀k∈ks,k<n):qJ n (Az op ta w co on gr od li ks):=by
 have d:=Fa op;unfold qJ Az ED;dsimp only;rw[<-h]
 match ks,h,c with
 |[],_,_=>simp
 |[a],_,c=>have:=c a ay;simp;omega
 |[a,b],_,c=>have:=c a ay;have:=c b ay;simp;omega
 |_::_::_::_,h,_=>grind
structure BY(s:jZ)(ts ts':de)(k:Nat)(q:Query):Prop where
 inv:EG s ts'
 pre:ts<+:ts'
 lt:k<ts'.length
 is:aU ts' k=q
theorem L6{s:jZ}{ts:de}{op ta:Int}{w:Pred}{co on gr od li ks args}(d:s.tables.length<=1000)(v:EG s ts)(e:ts.length<=100000)(c:(ks.length:Int)=arity op)(f:∀k∈ks,k<ts.length)(j:ks.map (aU ts)=args)(g:fS s (.mk op ta w co on gr od li args)):
 BY s ts (bZ (Az op ta w co on gr od li ks) ts).1 (bZ (Az op ta w co on gr od li ks) ts).2 (.mk op ta w co on gr od li args):=by
 obtain⟨z,A,B,C⟩:=cBX g;obtain⟨n,o,u,y⟩:=bxJ (t:=Az op ta w co on gr od li ks) d v e (by show 0<=arity op;omega) (bzZ c f) g (by rw[avQ c,j];rfl) ⟨by show co.length<=1000;omega,by show on.length<=1000;omega,by show gr.length<=1000;omega,by show od.length<=1000;omega⟩;exact⟨n,o,u,y⟩
def HP(s:jZ)(ts:de)(p:PN):Prop:=
 match p with
 |.mk q args r e c=>r<ts.length/\e<ts.length/\aU ts r=q/\aU ts e=eC q/\c=pZ s q/\fS s q/\q.args=args.map PN.q/\∀a∈args,HP s ts a
 termination_by SizeOf.sizeOf p
theorem HP.mono{s:jZ}{ts c:de}(d:ts<+:c)(ok:CR c):∀p:PN,HP s ts p->HP s c p
 |.mk q args r e B,h=>by
  rw[HP]at h⊢
  obtain⟨f,g,j,n,o,u,y,z⟩:=h;have C:=d.length_le;exact⟨aC,aC,by rw[fR d ok r f];exact j,by rw[fR d ok e g];exact n,o,u,y,λa A=>HP.mono d ok a (z a A)⟩
 termination_by p=>SizeOf.sizeOf p
theorem HP.get{p}(h:HP s ts p):p.rows<ts.length/\p.env<ts.length/\aU ts p.rows=p.q/\aU ts p.env=eC p.q/\p.width=pZ s p.q/\fS s p.q/\p.q.args=p.args.map PN.q/\∀a∈p.args,HP s ts a:=by
 cases p;rw[HP]at h;exact h
theorem bsZ{s:jZ}{ts:de}:∀p:PN,HP s ts p->Jg p/\lE p=oZ p.q
 |.mk (.mk op ta w co on gr od li c) args r e z,h=>by
  rw[HP]at h;obtain⟨_,_,_,_,j,f,d,n⟩:=h;have d:c=args.map PN.q:=d;obtain⟨A,B,C,D⟩:=cBX f;obtain⟨_,_,o,_⟩:=f.node;have g:∀a∈args,Jg a/\lE a=oZ a.q:=λa u=>bsZ a (n a u);have E:=lY s [] (.mk op ta w co on gr od li c);unfold pZ at j;refine⟨?_,?_⟩
  .rw[Jg]
   grind
  .have key:∀l:List PN,(∀a∈l,lE a=oZ a.q)->sG l=mD (l.map PN.q):=by
    intro l
    induction l with
    |nil=>intro _;simp[sG,mD]
    |cons a l g=>intro h;simp only[sG,map_cons,mD,h a ay,g λb y=>h b (by simp[y])]
   simp only[lE,PN.q,oZ,d]
   grind
 termination_by p=>SizeOf.sizeOf p
mutual
theorem Wo{s:jZ}(u:s.tables.length<=1000):∀(q:Query)(ts:de),fS s q->EG s ts->ts.length+2*oZ q<=100000->EG s (gI s q ts).2/\ts<+:(gI s q ts).2/\HP s (gI s q ts).2 (gI s q ts).1/\(gI s q ts).1.q=q
 |.mk op ta w co on gr od li args,ts,g,v,F=>by
  obtain⟨n,G,H,I⟩:=g.node;simp only[oZ]at F;have f:=NP (.mk op ta w co on gr od li args) ts g.kinds;obtain⟨J,B,y,j⟩:=Sy u args ts I v aC;have R:=y9 s args ts;rw[HS]at f⊢
  generalize S:(eW s args ts).1=P at*
  generalize U:(eW s args ts).2=T at*
  have C:P.length=args.length:=bg
  have L:(P.map PN.rows).map (aU T)=args:=by
   rw[map_map, <-j];exact map_congr_left λp d=>(y p d).get.2.2.1
  have A:=L6 u J aC bg (λk z=>by obtain⟨p,d,rfl⟩:=mem_map.1 z;exact(y p d).get.1) L g;have o:∀p∈P,HP s (bZ (Az op ta w co on gr od li (P.map PN.rows)) T).1 p:=λp d=>HP.mono A.pre A.inv.ok p (y p d);have M:=dZ (Az op ta w co on gr od li (P.map PN.rows)) T;unfold asZ at f⊢
  dsimp only at f⊢
  split at f
  .rename_i c;rw[if_pos c];have O:=Vf c
   obtain⟨p,e,rfl⟩:∃a e,P=a::e:=by
    cases P with
    |nil=>
     exfalso;have:(1:Int)<=arity op:=by rcases O with rfl|rfl|rfl<;>decide
     grind
    |cons a e=>grind
   have D:=(o p ay).get;refine⟨A.inv,B.trans A.pre,?_,rfl⟩;rw[HP];refine⟨A.lt,D.2.1,A.is,?_,f,g,j.symm,o⟩;show aU _ p.env=_;rw[D.2.2.2.1,eC,if_pos c, <-j,map_cons,GW];rfl
  .rename_i c;rw[if_neg c]
   have Q:(P.map PN.env).map (aU (bZ (Az op ta w co on gr od li (P.map PN.rows)) T).1)=GW args:=by
    rw[map_map,E7, <-j,map_map];exact map_congr_left λp d=>(o p d).get.2.2.2.1
   have E:=(Ao _ g).1;rw[eC,if_neg c]at E;have A2:=L6 u A.inv aC bg (λk z=>by obtain⟨p,d,rfl⟩:=mem_map.1 z;exact(o p d).get.2.1) Q E;refine⟨A2.inv,(B.trans A.pre).trans A2.pre,?_,rfl⟩;rw[HP];refine⟨ck A.lt A2.pre.length_le,A2.lt,by rw[fR A2.pre A2.inv.ok _ A.lt];exact A.is,by rw[A2.is,eC,if_neg c],f,g,j.symm,λp d=>HP.mono A2.pre A2.inv.ok p (o p d)⟩
theorem Sy{s:jZ}(c:s.tables.length<=1000):∀(l:db)(ts:de),(∀q∈l,fS s q)->EG s ts->ts.length+2*mD l<=100000->EG s (eW s l ts).2/\ts<+:(eW s l ts).2/\(∀p∈(eW s l ts).1,HP s (eW s l ts).2 p)/\(eW s l ts).1.map PN.q=l
 |[],ts,_,v,_=>by simp only[eW];grind
 |q::l,ts,h,v,g=>by
  simp only[mD]at g;obtain⟨j,n,o,y⟩:=Wo c q ts (h q ay) v aC;have z:=DJ s q ts;obtain⟨d,e,A,B⟩:=Sy c l (gI s q ts).2 (λa u=>h a (by simp[u])) j aC;rw[eW];refine⟨d,n.trans e,λp f=>?_,bg⟩;rcases mem_cons.1 f with rfl|f
  .exact HP.mono e d.ok _ o
  grind
end
theorem O6{b l}(h:∀x∈l,C0 a x.1=true/\C0 b x.2=true/\a.getD x.1.toNat 0=b.getD x.2.toNat 0)(d:(l.map Prod.fst).Nodup)(f:(l.map Prod.snd).Nodup):Good (oB a b) l:=by
 intro i x c;obtain⟨g,n,o⟩:=h x (bo c);refine⟨g,n,o,λq u=>?_⟩;obtain⟨j,A,e⟩:=mem_take_iff_getElem.1 u;obtain⟨y,z⟩:=List.getElem?_eq_some_iff.1 c;rw[nodup_iff_pairwise_ne,pairwise_iff_getElem]at d f
 grind
theorem Zk{b l}(h:Good (oB a b) l):(l.map Prod.fst).Nodup/\(l.map Prod.snd).Nodup:=by
 rw[nodup_iff_pairwise_ne,pairwise_iff_getElem,nodup_iff_pairwise_ne,pairwise_iff_getElem];refine⟨λi j e c d=>?_,λi j e c d=>?_⟩<;>
 .simp only[length_map]at e c;simp only[getElem_map];have:=(h j l[j] (bn c)).2.2.2 l[i] (mem_take_iff_getElem.2 ⟨i,aC,rfl⟩)
  first|exact this.1|exact this.2
theorem aXZ{b on}(h:Good (oB a b) on):Good (oB b a) (qI on):=by
 obtain⟨f,g⟩:=Zk h;refine O6 (λx c=>?_) ?_ ?_
 .obtain⟨p,d,rfl⟩:=mem_map.1 c;have:=C1 (P:=λp=>C0 a p.1=true/\C0 b p.2=true/\a.getD p.1.toNat 0=b.getD p.2.toNat 0) h (λe x t=>⟨t.1,t.2.1,t.2.2.1⟩) p d
  grind
 .unfold qI;grind
 .unfold qI;grind
theorem bsJ(h:Good (GN a) gr):Good (oB a a) (sA gr):=by
 have u:gr.Nodup:=by
  rw[nodup_iff_pairwise_ne,pairwise_iff_getElem];intro i j y d f e;exact(h j gr[j] (bn d)).2 (by rw[<-e];exact mem_take_iff_getElem.2 ⟨i,aC,rfl⟩)
 refine O6 (λx g=>?_) ?_ ?_
 .obtain⟨c,n,rfl⟩:=mem_map.1 g;have:=C1 (P:=λc=>C0 a c=true) h (λo x t=>t.1) c n
  grind
 .unfold sA;grind
 .unfold sA;grind
theorem aZX{α β:Type}{f:α->β}:∀{l:List α},l.Nodup->(∀x∈l,∀y∈l,f x=f y->x=y)->(l.map f).Nodup
 |[],_,_=>ay
 |a::l,h,c=>by
  rw[nodup_cons]at h;rw[map_cons,nodup_cons];refine⟨λg=>?_,aZX h.2 λx d y e=>c x (by simp[d]) y (by simp[e])⟩
  grind
theorem Zl(h:Good (λ_ c=>C0 a c=true) co):Good (oB a (co.map λc=>a.getD c.toNat 0)) (oY co):=by
 have g:((List.range co.length).filter λi=>decide (co.idxOf (co.getD i 0)=i)).Nodup:=List.Nodup.sublist filter_sublist nodup_range;refine O6 (λx e=>?_) ?_ ?_
 .obtain⟨i,j,rfl⟩:=mem_map.1 e;have d:i<co.length:=bg
  have f:co.getD i 0=co[i]:=by simp[d]
  have:=h i co[i] (bn d);dsimp only;rw[f];refine⟨this,fH.2 ⟨aC,bf⟩,?_⟩
  grind
 .unfold oY
  grind
 .unfold oY
  grind
theorem Zj{b}:Good (oB (a++b) b) (Ay (a.length:Int) (b.length:Int)):=by
 have e:(List.range b.length).Nodup:=nodup_range;refine O6 (λx c=>?_) ?_ ?_
 .unfold Ay at c;rw[Int.toNat_natCast]at c;obtain⟨i,f,rfl⟩:=mem_map.1 c;have d:i<b.length:=bg
  refine⟨fH.2 ⟨aC,bg⟩,fH.2 ⟨aC,aC⟩,?_⟩
  grind
 .unfold Ay
  grind
 .unfold Ay
  grind
theorem aAJ{K:cn}{a n}(h:a+n<=K.length):Good (λ_ c=>C0 K c=true) (iE a n):=by
 intro i x d;have:=bo d;unfold iE at this;obtain⟨j,e,rfl⟩:=mem_map.1 this;have:j<n:=bg
 exact fH.2 ⟨aC,aC⟩
theorem WA{K:cn}{a n}(h:a+n<=K.length):(iE a n).map (λc=>K.getD c.toNat 0)=(K.drop a).take n:=by
 unfold iE;rw[map_map,Int.toNat_natCast];apply ext_getElem?
 grind
theorem aVZ{K:cn}{n}(h:n<=K.length):(iE 0 n).map (λc=>K.getD c.toNat 0)=K.take n:=by
 have:=WA (K:=K) (a:=0) (n:=n) aC
 grind
theorem yE{s:jZ}{ts:de}{op on gr od li a b}(c:s.tables.length<=1000)(v:EG s ts)(d:ts.length<=100000)(e:arity op=2)(f:a<ts.length)(j:b<ts.length)(g:fS s (.mk op 0 gG [] on gr od li [aU ts a,aU ts b])):
 BY s ts (bZ ⟨op,0,gG,[],on,gr,od,li,a,b⟩ ts).1 (bZ ⟨op,0,gG,[],on,gr,od,li,a,b⟩ ts).2 (.mk op 0 gG [] on gr od li [aU ts a,aU ts b]):=
 L6 (ks:=[a,b]) c v d (by rw[e];rfl) (λk n=>bg) rfl g
theorem YU{s ts co a}(c:s.tables.length<=1000)(v:EG s ts)(d:ts.length<=100000)(e:a<ts.length)(g:fS s (GR (aU ts a) co)):
 BY s ts (bZ (pH a co) ts).1 (bZ (pH a co) ts).2 (GR (aU ts a) co):=
 L6 (ks:=[a]) c v d rfl (λk f=>bg) rfl g
theorem BY.keep{c k q}(x:BY s ts c k q)(d:i<ts.length):i<c.length/\aU c i=aU ts i:=⟨ck d x.pre.length_le,fR x.pre x.inv.ok i d⟩
structure AG(s:jZ)(ts:de)(rs:cn)(r:de×cn)(qs:db):Prop where
 inv:EG s r.1
 pre:ts<+:r.1
 ex:∃ds:di,r.2=rs++ds.map (fun(d:Nat)=>(d:Int))/\(∀d∈ds,d<r.1.length)/\ds.map (aU r.1)=qs
theorem AG.comp{e z r f g}(x:AG s ts rs z f)(j:z.1<+:e)(y:AG s e z.2 r g):AG s ts rs r (f++g):=by
 obtain⟨o,D,u,A⟩:=x.ex;obtain⟨B,E,F,C⟩:=y.ex;have c:=j.trans y.pre;refine⟨y.inv,(x.pre.trans j).trans y.pre,o++B,bg,λd n=>?_,?_⟩
 .grind
 .rw[bu,C, <-A];congr 1;exact map_congr_left λd n=>fR c y.inv.ok d (u d n)
theorem AG.shift{c r q}(d:ts<+:c)(y:AG s c rs r q):AG s ts rs r q:=⟨y.inv,d.trans y.pre,y.ex⟩
theorem OK{q p op w on}(c:op≠1)(d:op≠4):iD 4 (.mk op ta w co on gr od li [q,p])=iD 4 q+iD 4 p:=by
 rw[iD,if_neg c,if_neg d];simp[wM]
theorem cTQ{q w on}:iD 4 (.mk 3 ta w co on gr od li [q])=iD 4 q:=by
 rw[iD,if_neg az,if_neg az];simp[wM]
theorem aCJ{s:jZ}{ts:de}{p:PN}{gr:cn}{od li B b k}(j:s.tables.length<=1000)(v:EG s ts)(J:ts.length+5<=100000)(n:k<ts.length)(D:HP s ts p)(e:(aJ s [] (aU ts k)).1=(aJ s [] p.q).1)(o:nT (aJ s [] p.q).1 gr od li)(E:iD 4 p.q<=B)(L:iD 4 (aU ts k)<=b)(F:b+2*B<=8000000):
 BY s ts (BQ p k gr od li ts).1 (BQ p k gr od li ts).2 (DO (mN (eC p.q) (aU ts k) (sA gr)) p.q gr od li)/\(aJ s [] (DO (mN (eC p.q) (aU ts k) (sA gr)) p.q gr od li)).1=(aJ s [] p.q).1/\iD 4 (DO (mN (eC p.q) (aU ts k) (sA gr)) p.q gr od li)<=b+2*B:=by
 obtain⟨G,u,f,y,_,H,_⟩:=D.get;have ev:=Ao _ H;have M:iD 4 (eC p.q)<=B:=cj ev.2.2 E;have g:(aJ s [] (aU ts p.env)).1=(aJ s [] p.q).1:=bg
 have z:=EL (on:=sA gr) (v.good _ u) (v.good k n) (by rw[g,e];exact bsJ o.group_) bg;have A:=yE (on:=sA gr) (gr:=[]) (od:=[]) (li:=0) j v aC (show arity 5=2 from rfl) u n z.1;have I:=dZ (dX p.env k (sA gr)) ts;have A:BY s ts (bZ (dX p.env k (sA gr)) ts).1 (bZ (dX p.env k (sA gr)) ts).2 (mN (eC p.q) (aU ts k) (sA gr)):=by rw[<-y];exact A
 rw[y]at z;have O:iD 4 (mN (eC p.q) (aU ts k) (sA gr))<=b+B:=by unfold mN;rw[OK az az];omega
 have c:=A.keep G;have d:(aJ s [] (mN (eC p.q) (aU ts k) (sA gr))).1=(aJ s [] p.q).1:=bg
 have C:=aWJ (gr:=gr) (od:=od) (li:=li) (A.inv.good _ A.lt) (A.inv.good _ c.1) (by rw[A.is,c.2,f,d]) (by rw[A.is,d];exact o) (by rw[A.is,c.2,f];omega);have A2:=yE (on:=[]) (gr:=gr) (od:=od) (li:=li) j A.inv aC (show arity 10=2 from rfl) A.lt c.1 C.1;rw[A.is,c.2,f]at C A2;refine⟨⟨A2.inv,A.pre.trans A2.pre,A2.lt,A2.is⟩,bg,?_⟩;unfold DO;rw[OK az az];omega
set_option maxHeartbeats 32000000 in
theorem w8{s:jZ}(o:eX s=0):∀(p:PN)(B W b k:Nat)(ts:de)(rs:cn),HP s ts p->EG s ts->k<ts.length->(aJ s [] (aU ts k)).1=(aJ s [] p.q).1->iD 4 p.q<=B->2*B<=W->iD 4 (aU ts k)<=b->b+W*lE p<=8000000->ts.length+5*lE p<=100000->
 AG s ts rs (gV p k ts rs) (mK (pZ s) p.q (aU ts k))
 |.mk (.mk op ta w co on gr od li a6) args r e wd,B,W,b,k,ts,rs,hp,v,E,f,hB,M,hb,H,hl=>by
  have R:=WD o;have b5:=hp;rw[HP]at hp;obtain⟨_,_,_,_,_,g,ha,L⟩:=hp;have ha:a6=args.map PN.q:=ha;subst ha;have hB:iD 4 (.mk op ta w co on gr od li (args.map PN.q))<=B:=hB;have f:(aJ s [] (aU ts k)).1=(aJ s [] (.mk op ta w co on gr od li (args.map PN.q))).1:=f;show AG s ts rs _ (mK (pZ s) (.mk op ta w co on gr od li (args.map PN.q)) (aU ts k));obtain⟨n,b6,I,ga⟩:=g.node;have gD:=v.good k E;have J:∀a∈args,iD 4 a.q<=B:=λa h=>cj (aMX g (mem_map.2 ⟨a,h,rfl⟩)) hB;have eB:∀a∈args,iD 4 (eC a.q)<=B:=λa h=>cj (Ao _ (ga _ (mem_map.2 ⟨a,h,rfl⟩))).2.2 (J a h);have eg:∀a∈args,(aJ s [] (eC a.q)).1=(aJ s [] a.q).1:=λa h=>(Ao _ (ga _ (mem_map.2 ⟨a,h,rfl⟩))).2.1;have X:∀a∈args,a.rows<ts.length/\a.env<ts.length/\aU ts a.rows=a.q/\aU ts a.env=eC a.q/\a.width=pZ s a.q/\fS s a.q:=λa h=>let x:=(L a h).get;⟨x.1,x.2.1,x.2.2.1,x.2.2.2.1,x.2.2.2.2.1,x.2.2.2.2.2.1⟩
  rw[n.out]at f;rw[length_map]at I;rw[gV.eq_def,mK.eq_def];simp only[lE]at H hl;have a9:op=1\/op=2\/op=3\/op=9\/op=4\/op=5\/op=6\/op=7\/op=8\/op=10:=by omega
  rcases a9 with rfl|rfl|rfl|rfl|rfl|rfl|rfl|rfl|rfl|rfl
  .obtain rfl:args=[]:=eq_nil_of_length_eq_zero (by have:arity 1=0:=rfl;omega);exact⟨v,prefix_refl _,[k],rfl,λd hd=>by simp at hd;subst hd;exact E,rfl⟩
  .obtain⟨a,rfl⟩:=Fv (l:=args) (by rw[I];rfl);simp only[sG]at H hl;have e1:W*(1+(lE a+0))=W+W*lE a:=bg
   exact w8 o a B W b k ts rs (L a ay) v E f (J a ay) M hb aC aC
  .obtain⟨a,rfl⟩:=Fv (l:=args) (by rw[I];rfl);simp only[sG]at H hl;have e1:W*(1+(lE a+0))=W+W*lE a:=bg
   obtain⟨_,g2,_,g4,_,g6⟩:=X a ay;have g1:=eB a ay;have gE:fS s (aU ts a.env):=v.good _ g2;have O:(aJ s [] (aU ts a.env)).1=(aJ s [] a.q).1:=bg
   have S:=EL (on:=oY co) gE gD (by rw[O,f];exact Zl (n.proj rfl).2) bg;have A:=yE (on:=oY co) (gr:=[]) (od:=[]) (li:=0) R v aC (show arity 5=2 from rfl) g2 E S.1;have a2:=dZ (dX a.env k (oY co)) ts;have A:BY s ts (bZ (dX a.env k (oY co)) ts).1 (bZ (dX a.env k (oY co)) ts).2 (mN (eC a.q) (aU ts k) (oY co)):=by rw[<-g4];exact A
   show AG s ts rs (gV a (bZ (dX a.env k (oY co)) ts).2 (bZ (dX a.env k (oY co)) ts).1 rs) (mK (pZ s) a.q (mN (eC a.q) (aU ts k) (oY co)));have:=w8 o a B W (b+2*B) _ _ rs (HP.mono A.pre A.inv.ok a (L a ay)) A.inv A.lt (by rw[A.is, <-g4,S.2];exact O) (J a ay) M (by rw[A.is];unfold mN;rw[OK az az];omega) aC aC;rw[A.is]at this;exact this.shift A.pre
  .obtain⟨a,rfl⟩:=Fv (l:=args) (by rw[I];rfl);simp only[sG]at H hl;have e1:W*(1+(lE a+0))=W+W*lE a:=bg
   obtain⟨g0,g2,T,g4,_,g6⟩:=X a ay;have g1:=eB a ay;have a3:nT (aJ s [] a.q).1 gr od li:=n.rank (.inl rfl);have f:(aJ s [] (aU ts k)).1=(aJ s [] a.q).1:=f;have P:=aCJ (gr:=gr) (od:=od) (li:=li) R v aC E (L a ay) f a3 (J a ay) hb aC;show AG s ts rs (gV a (BQ a k gr od li ts).2 (BQ a k gr od li ts).1 rs) (mK (pZ s) a.q (DO (mN (eC a.q) (aU ts k) (sA gr)) a.q gr od li));have a2:=CT a k gr od li ts;have:=w8 o a B W (b+2*B) _ _ rs (HP.mono P.1.pre P.1.inv.ok a (L a ay)) P.1.inv P.1.lt (by rw[P.1.is];exact P.2.1) (J a ay) M (by rw[P.1.is];exact P.2.2) aC aC;rw[P.1.is]at this;exact this.shift P.1.pre
  .obtain⟨a,c,rfl⟩:=rU (l:=args) (by rw[I];rfl);simp only[sG]at H hl;have e1:W*(1+(lE a+(lE c+0)))=W+W*lE a+W*lE c:=bg
   obtain⟨g0,g2,T,g4,g5,g6⟩:=X a ay;obtain⟨k0,Y,k3,U,k5,k6⟩:=X c ay;have f:(aJ s [] (aU ts k)).1=(aJ s [] a.q).1++(aJ s [] c.q).1:=f;have pa:=MI o _ g6;have pb:=MI o _ k6;have b0:=lY s [] (aU ts k);rw[f,br]at b0;have b1:=J c ay;have S:=EL (on:=Ay a.width c.width) gD (v.good _ k0) (by rw[f,k3,g5,k5];exact Zj) bg;have A:=yE (on:=Ay a.width c.width) (gr:=[]) (od:=[]) (li:=0) R v aC (show arity 5=2 from rfl) E k0 S.1;have A:BY s ts (bZ (dX k c.rows (Ay a.width c.width)) ts).1 (bZ (dX k c.rows (Ay a.width c.width)) ts).2 (mN (aU ts k) c.q (Ay a.width c.width)):=by rw[<-k3];exact A
   have a2:=dZ (dX k c.rows (Ay a.width c.width)) ts;rw[k3]at S;have b':(aJ s [] (mN (aU ts k) c.q (Ay a.width c.width))).1=(aJ s [] a.q).1++(aJ s [] c.q).1:=bg
   have b2:∀(K1 K2:cn),0<K1.length->(iE 0 (K1.length:Int))≠[]:=λK1 K2 h e=>by
    have:=congrArg List.length e;simp[iE]at this
    grind
   have V:a.width=((aJ s [] a.q).1.length:Int):=g5;have a4:c.width=((aJ s [] c.q).1.length:Int):=k5;have bX:iD 4 (mN (aU ts k) c.q (Ay a.width c.width))<=b+B:=by unfold mN;rw[OK az az];omega
   have pg:=SK (a:=mN (aU ts k) c.q (Ay a.width c.width)) (co:=iE 0 a.width) S.1 (by rw[V];exact b2 _ [] pa) (by rw[b',V];exact aAJ (a:=0) ay) (by rw[V];simp[iE];omega) aC;rw[<-A.is]at pg;have P:=YU (co:=iE 0 a.width) R A.inv aC A.lt pg.1;have b7:=dZ (pH (bZ (dX k c.rows (Ay a.width c.width)) ts).2 (iE 0 a.width)) (bZ (dX k c.rows (Ay a.width c.width)) ts).1;have a5:=A.pre.trans P.pre;rw[A.is]at pg P;have R1:=w8 o a B W (b+B) _ _ rs (HP.mono a5 P.inv.ok a (L a ay)) P.inv P.lt (by rw[P.is,pg.2,b',V,aVZ ay];simp) (J a ay) M (by rw[P.is];unfold GR;rw[cTQ];exact bX) aC aC;rw[P.is]at R1;have R1:=R1.shift a5;have a0:=i7 a (bZ (pH (bZ (dX k c.rows (Ay a.width c.width)) ts).2 (iE 0 a.width)) (bZ (dX k c.rows (Ay a.width c.width)) ts).1).2 (bZ (pH (bZ (dX k c.rows (Ay a.width c.width)) ts).2 (iE 0 a.width)) (bZ (dX k c.rows (Ay a.width c.width)) ts).1).1 rs;show AG s ts rs (gV c _ _ _) (mK (pZ s) a.q (GR (mN (aU ts k) c.q (Ay (pZ s a.q) (pZ s c.q))) (iE 0 (pZ s a.q)))++mK (pZ s) c.q (GR (aU ts k) (iE (pZ s a.q) (pZ s c.q))));rw[<-g5, <-k5];generalize hZ:gV a (bZ (pH (bZ (dX k c.rows (Ay a.width c.width)) ts).2 (iE 0 a.width)) (bZ (dX k c.rows (Ay a.width c.width)) ts).1).2 (bZ (pH (bZ (dX k c.rows (Ay a.width c.width)) ts).2 (iE 0 a.width)) (bZ (dX k c.rows (Ay a.width c.width)) ts).1).1 rs=Z at*
   have j:k<Z.1.length/\aU Z.1 k=aU ts k:=⟨ck E R1.pre.length_le,fR R1.pre R1.inv.ok k E⟩
   have a7:=SK (a:=aU Z.1 k) (co:=iE a.width c.width) (R1.inv.good k j.1) (λe=>by
    have:=congrArg List.length e;rw[a4]at this;simp[iE]at this
    grind) (by rw[j.2,f,V,a4];exact aAJ ay) (by rw[a4];simp[iE];omega) bg
   have P2:=YU (co:=iE a.width c.width) R R1.inv aC j.1 a7.1;have a1:=dZ (pH k (iE a.width c.width)) Z.1;have y:=R1.pre.trans P2.pre;rw[j.2]at a7 P2;have R2:=w8 o c B W b _ _ Z.2 (HP.mono y P2.inv.ok c (L c ay)) P2.inv P2.lt (by rw[P2.is,a7.2,f,V,a4,WA ay];simp) (J c ay) M (by rw[P2.is];unfold GR;rw[cTQ];exact hb) aC aC;rw[P2.is]at R2;exact R1.comp P2.pre R2
  .obtain⟨a,c,rfl⟩:=rU (l:=args) (by rw[I];rfl);simp only[sG]at H hl;have e1:W*(1+(lE a+(lE c+0)))=W+W*lE a+W*lE c:=bg
   obtain⟨g0,g2,T,g4,g5,g6⟩:=X a ay;obtain⟨k0,Y,k3,U,k5,k6⟩:=X c ay;have f:(aJ s [] (aU ts k)).1=(aJ s [] a.q).1:=f;have b3:Good (oB (aJ s [] a.q).1 (aJ s [] c.q).1) on:=n.pair (.inr rfl);have b1:=J c ay;have a8:=eB c ay;have S:=EL (on:=on) gD (v.good _ k0) bg bg;have A:=yE (on:=on) (gr:=[]) (od:=[]) (li:=0) R v aC (show arity 5=2 from rfl) E k0 S.1;have A:BY s ts (bZ (dX k c.rows on) ts).1 (bZ (dX k c.rows on) ts).2 (mN (aU ts k) c.q on):=by rw[<-k3];exact A
   have a2:=dZ (dX k c.rows on) ts;rw[k3]at S;have bX:iD 4 (mN (aU ts k) c.q on)<=b+B:=by unfold mN;rw[OK az az];omega
   have R1:=w8 o a B W (b+B) _ _ rs (HP.mono A.pre A.inv.ok a (L a ay)) A.inv A.lt (by rw[A.is,S.2];exact f) (J a ay) M (by rw[A.is];exact bX) aC aC;rw[A.is]at R1;have R1:=R1.shift A.pre;have a0:=i7 a (bZ (dX k c.rows on) ts).2 (bZ (dX k c.rows on) ts).1 rs;show AG s ts rs (gV c _ _ _) (mK (pZ s) a.q (mN (aU ts k) c.q on)++mK (pZ s) c.q (mN (eC c.q) (aU ts k) (qI on)));generalize hZ:gV a (bZ (dX k c.rows on) ts).2 (bZ (dX k c.rows on) ts).1 rs=Z at*
   have j:k<Z.1.length/\aU Z.1 k=aU ts k:=⟨ck E R1.pre.length_le,fR R1.pre R1.inv.ok k E⟩
   have u:c.env<Z.1.length/\aU Z.1 c.env=aU ts c.env:=⟨ck Y R1.pre.length_le,fR R1.pre R1.inv.ok _ Y⟩
   have O:(aJ s [] (eC c.q)).1=(aJ s [] c.q).1:=eg c ay;have z:=EL (on:=qI on) (R1.inv.good _ u.1) (R1.inv.good k j.1) (by rw[u.2,j.2,U,O,f];exact aXZ b3) bg;have P2:=yE (on:=qI on) (gr:=[]) (od:=[]) (li:=0) R R1.inv aC (show arity 5=2 from rfl) u.1 j.1 z.1;have P2:BY s Z.1 (bZ (dX c.env k (qI on)) Z.1).1 (bZ (dX c.env k (qI on)) Z.1).2 (mN (eC c.q) (aU ts k) (qI on)):=by rw[<-U, <-u.2, <-j.2];exact P2
   have a1:=dZ (dX c.env k (qI on)) Z.1;rw[u.2,j.2,U]at z;have y:=R1.pre.trans P2.pre;have R2:=w8 o c B W (b+B) _ _ Z.2 (HP.mono y P2.inv.ok c (L c ay)) P2.inv P2.lt (by rw[P2.is,z.2];exact O) (J c ay) M (by rw[P2.is];unfold mN;rw[OK az az];omega) aC aC;rw[P2.is]at R2;exact R1.comp P2.pre R2
  .obtain⟨a,c,rfl⟩:=rU (l:=args) (by rw[I];rfl);simp only[sG]at H hl;have e1:W*(1+(lE a+(lE c+0)))=W+W*lE a+W*lE c:=bg
   obtain⟨g0,g2,T,g4,g5,g6⟩:=X a ay;obtain⟨k0,Y,k3,U,k5,k6⟩:=X c ay;have f:(aJ s [] (aU ts k)).1=(aJ s [] a.q).1:=f;have C:(aJ s [] a.q).1=(aJ s [] c.q).1:=n.same (.inl rfl);have be:=eB a ay;have a8:=eB c ay;have O:(aJ s [] (eC a.q)).1=(aJ s [] a.q).1:=eg a ay;have F:(aJ s [] (eC c.q)).1=(aJ s [] c.q).1:=eg c ay;have S:=AO (v.good _ g2) gD bg bg;have A:=yE (on:=[]) (gr:=[]) (od:=[]) (li:=0) R v aC (show arity 8=2 from rfl) g2 E S.1;have A:BY s ts (bZ (cQ a.env k) ts).1 (bZ (cQ a.env k) ts).2 (kI (eC a.q) (aU ts k)):=by rw[<-g4];exact A
   have a2:=dZ (cQ a.env k) ts;rw[g4]at S;have R1:=w8 o a B W (b+B) _ _ rs (HP.mono A.pre A.inv.ok a (L a ay)) A.inv A.lt (by rw[A.is,S.2];exact O) (J a ay) M (by rw[A.is];unfold kI;rw[OK az az];omega) aC aC;rw[A.is]at R1;have R1:=R1.shift A.pre;have a0:=i7 a (bZ (cQ a.env k) ts).2 (bZ (cQ a.env k) ts).1 rs;show AG s ts rs (gV c _ _ _) (mK (pZ s) a.q (kI (eC a.q) (aU ts k))++mK (pZ s) c.q (kI (eC c.q) (aU ts k)));generalize hZ:gV a (bZ (cQ a.env k) ts).2 (bZ (cQ a.env k) ts).1 rs=Z at*
   have j:k<Z.1.length/\aU Z.1 k=aU ts k:=⟨ck E R1.pre.length_le,fR R1.pre R1.inv.ok k E⟩
   have u:c.env<Z.1.length/\aU Z.1 c.env=aU ts c.env:=⟨ck Y R1.pre.length_le,fR R1.pre R1.inv.ok _ Y⟩
   have z:=AO (R1.inv.good _ u.1) (R1.inv.good k j.1) bg bg;have P2:=yE (on:=[]) (gr:=[]) (od:=[]) (li:=0) R R1.inv aC (show arity 8=2 from rfl) u.1 j.1 z.1;have P2:BY s Z.1 (bZ (cQ c.env k) Z.1).1 (bZ (cQ c.env k) Z.1).2 (kI (eC c.q) (aU ts k)):=by rw[<-U, <-u.2, <-j.2];exact P2
   have a1:=dZ (cQ c.env k) Z.1;rw[u.2,j.2,U]at z;have y:=R1.pre.trans P2.pre;have R2:=w8 o c B W (b+B) _ _ Z.2 (HP.mono y P2.inv.ok c (L c ay)) P2.inv P2.lt (by rw[P2.is,z.2];exact F) (J c ay) M (by rw[P2.is];unfold kI;rw[OK az az];omega) aC aC;rw[P2.is]at R2;exact R1.comp P2.pre R2
  .obtain⟨a,c,rfl⟩:=rU (l:=args) (by rw[I];rfl);simp only[sG]at H hl;have e1:W*(1+(lE a+(lE c+0)))=W+W*lE a+W*lE c:=bg
   obtain⟨g0,g2,T,g4,g5,g6⟩:=X a ay;obtain⟨k0,Y,k3,U,k5,k6⟩:=X c ay;have f:(aJ s [] (aU ts k)).1=(aJ s [] a.q).1:=f;have C:(aJ s [] a.q).1=(aJ s [] c.q).1:=n.same (.inr (.inl rfl));have ba:=J a ay;have a8:=eB c ay;have F:(aJ s [] (eC c.q)).1=(aJ s [] c.q).1:=eg c ay;have R1:=w8 o a B W b k ts rs (L a ay) v E f ba M hb aC aC;have a0:=i7 a k ts rs;show AG s ts rs (gV c _ _ _) (mK (pZ s) a.q (aU ts k)++mK (pZ s) c.q (kI (kI (eC c.q) (aU ts k)) a.q));generalize hZ:gV a k ts rs=Z at*
   have j:k<Z.1.length/\aU Z.1 k=aU ts k:=⟨ck E R1.pre.length_le,fR R1.pre R1.inv.ok k E⟩
   have u:c.env<Z.1.length/\aU Z.1 c.env=aU ts c.env:=⟨ck Y R1.pre.length_le,fR R1.pre R1.inv.ok _ Y⟩
   have G:a.rows<Z.1.length/\aU Z.1 a.rows=aU ts a.rows:=⟨ck g0 R1.pre.length_le,fR R1.pre R1.inv.ok _ g0⟩
   have z:=AO (R1.inv.good _ u.1) (R1.inv.good k j.1) bg bg;have P2:=yE (on:=[]) (gr:=[]) (od:=[]) (li:=0) R R1.inv aC (show arity 8=2 from rfl) u.1 j.1 z.1;have P2:BY s Z.1 (bZ (cQ c.env k) Z.1).1 (bZ (cQ c.env k) Z.1).2 (kI (eC c.q) (aU ts k)):=by rw[<-U, <-u.2, <-j.2];exact P2
   have a1:=dZ (cQ c.env k) Z.1;rw[u.2,j.2,U]at z;have bX:iD 4 (kI (eC c.q) (aU ts k))<=b+B:=by unfold kI;rw[OK az az];omega
   have D:=P2.keep G.1;have Q:=AO (P2.inv.good _ P2.lt) (P2.inv.good _ D.1) (by rw[P2.is,D.2,G.2,T,z.2,F,C]) (by rw[P2.is,D.2,G.2,T];omega);have P3:=yE (on:=[]) (gr:=[]) (od:=[]) (li:=0) R P2.inv aC (show arity 8=2 from rfl) P2.lt D.1 Q.1;have P3:BY s (bZ (cQ c.env k) Z.1).1 (bZ (cQ (bZ (cQ c.env k) Z.1).2 a.rows) (bZ (cQ c.env k) Z.1).1).1 (bZ (cQ (bZ (cQ c.env k) Z.1).2 a.rows) (bZ (cQ c.env k) Z.1).1).2 (kI (kI (eC c.q) (aU ts k)) a.q):=by rw[<-P2.is, <-T, <-G.2, <-D.2];exact P3
   have b4:=dZ (cQ (bZ (cQ c.env k) Z.1).2 a.rows) (bZ (cQ c.env k) Z.1).1;rw[P2.is,D.2,G.2,T]at Q;have y:=(R1.pre.trans P2.pre).trans P3.pre;have R2:=w8 o c B W (b+2*B) _ _ Z.2 (HP.mono y P3.inv.ok c (L c ay)) P3.inv P3.lt (by rw[P3.is,Q.2,z.2];exact F) (J c ay) M (by rw[P3.is];unfold kI at bX⊢;rw[OK az az];omega) aC aC;rw[P3.is]at R2;exact R1.comp (P2.pre.trans P3.pre) R2
  .obtain⟨a,c,rfl⟩:=rU (l:=args) (by rw[I];rfl);simp only[sG]at H hl;have e1:W*(1+(lE a+(lE c+0)))=W+W*lE a+W*lE c:=bg
   obtain⟨g0,g2,T,g4,g5,g6⟩:=X a ay;obtain⟨k0,Y,k3,U,k5,k6⟩:=X c ay;have f:(aJ s [] (aU ts k)).1=(aJ s [] a.q).1:=f;have C:(aJ s [] a.q).1=(aJ s [] c.q).1:=n.same (.inr (.inr (.inl rfl)));have ba:=J a ay;have a8:=eB c ay;have F:(aJ s [] (eC c.q)).1=(aJ s [] c.q).1:=eg c ay;have R1:=w8 o a B W b k ts rs (L a ay) v E f ba M hb aC aC;have a0:=i7 a k ts rs;show AG s ts rs (gV c _ _ _) (mK (pZ s) a.q (aU ts k)++mK (pZ s) c.q (kI (kI (eC c.q) (aU ts k)) a.q));generalize hZ:gV a k ts rs=Z at*
   have j:k<Z.1.length/\aU Z.1 k=aU ts k:=⟨ck E R1.pre.length_le,fR R1.pre R1.inv.ok k E⟩
   have u:c.env<Z.1.length/\aU Z.1 c.env=aU ts c.env:=⟨ck Y R1.pre.length_le,fR R1.pre R1.inv.ok _ Y⟩
   have G:a.rows<Z.1.length/\aU Z.1 a.rows=aU ts a.rows:=⟨ck g0 R1.pre.length_le,fR R1.pre R1.inv.ok _ g0⟩
   have z:=AO (R1.inv.good _ u.1) (R1.inv.good k j.1) bg bg;have P2:=yE (on:=[]) (gr:=[]) (od:=[]) (li:=0) R R1.inv aC (show arity 8=2 from rfl) u.1 j.1 z.1;have P2:BY s Z.1 (bZ (cQ c.env k) Z.1).1 (bZ (cQ c.env k) Z.1).2 (kI (eC c.q) (aU ts k)):=by rw[<-U, <-u.2, <-j.2];exact P2
   have a1:=dZ (cQ c.env k) Z.1;rw[u.2,j.2,U]at z;have bX:iD 4 (kI (eC c.q) (aU ts k))<=b+B:=by unfold kI;rw[OK az az];omega
   have D:=P2.keep G.1;have Q:=AO (P2.inv.good _ P2.lt) (P2.inv.good _ D.1) (by rw[P2.is,D.2,G.2,T,z.2,F,C]) (by rw[P2.is,D.2,G.2,T];omega);have P3:=yE (on:=[]) (gr:=[]) (od:=[]) (li:=0) R P2.inv aC (show arity 8=2 from rfl) P2.lt D.1 Q.1;have P3:BY s (bZ (cQ c.env k) Z.1).1 (bZ (cQ (bZ (cQ c.env k) Z.1).2 a.rows) (bZ (cQ c.env k) Z.1).1).1 (bZ (cQ (bZ (cQ c.env k) Z.1).2 a.rows) (bZ (cQ c.env k) Z.1).1).2 (kI (kI (eC c.q) (aU ts k)) a.q):=by rw[<-P2.is, <-T, <-G.2, <-D.2];exact P3
   have b4:=dZ (cQ (bZ (cQ c.env k) Z.1).2 a.rows) (bZ (cQ c.env k) Z.1).1;rw[P2.is,D.2,G.2,T]at Q;have y:=(R1.pre.trans P2.pre).trans P3.pre;have R2:=w8 o c B W (b+2*B) _ _ Z.2 (HP.mono y P3.inv.ok c (L c ay)) P3.inv P3.lt (by rw[P3.is,Q.2,z.2];exact F) (J c ay) M (by rw[P3.is];unfold kI at bX⊢;rw[OK az az];omega) aC aC;rw[P3.is]at R2;exact R1.comp (P2.pre.trans P3.pre) R2
  .obtain⟨a,c,rfl⟩:=rU (l:=args) (by rw[I];rfl);simp only[sG]at H hl;have e1:W*(1+(lE a+(lE c+0)))=W+W*lE a+W*lE c:=bg
   have f:(aJ s [] (aU ts k)).1=(aJ s [] a.q).1:=f;have C:(aJ s [] a.q).1=(aJ s [] c.q).1:=n.same (.inr (.inr (.inr rfl)));have a3:nT (aJ s [] a.q).1 gr od li:=n.rank (.inr rfl);rw[C]at a3;have R1:=w8 o a B W b k ts rs (L a ay) v E f (J a ay) M hb aC aC;have a0:=i7 a k ts rs;show AG s ts rs (gV c _ _ _) (mK (pZ s) a.q (aU ts k)++mK (pZ s) c.q (DO (mN (eC c.q) (aU ts k) (sA gr)) c.q gr od li));generalize hZ:gV a k ts rs=Z at*
   have j:k<Z.1.length/\aU Z.1 k=aU ts k:=⟨ck E R1.pre.length_le,fR R1.pre R1.inv.ok k E⟩
   have P:=aCJ (gr:=gr) (od:=od) (li:=li) (B:=B) (b:=b) R R1.inv aC j.1 (HP.mono R1.pre R1.inv.ok c (L c ay)) bg a3 (J c ay) bg aC;rw[j.2]at P;have a1:=CT c k gr od li Z.1;have y:=R1.pre.trans P.1.pre;have R2:=w8 o c B W (b+2*B) _ _ Z.2 (HP.mono y P.1.inv.ok c (L c ay)) P.1.inv P.1.lt (by rw[P.1.is];exact P.2.1) (J c ay) M (by rw[P.1.is];exact P.2.2) aC aC;rw[P.1.is]at R2;exact R1.comp P.1.pre R2
 termination_by p=>SizeOf.sizeOf p
def cFZ:Vc.Spec:=λd m h K=>∃(s:Sl)(g:Nat)(c:cr)(l:ct)(p:cz->Bool),d=[cS s,.val (.func (.func g) #[] ⟨c⟩)]/\Rows h s l/\l.length<=8000000/\(∀(u:Sl)(r:cz),r∈l->bQ h u r->FAt Tryz.prog g 4 (cS u::c.map .val) m h (λx m' h'=>x=[.bool (p r)]/\m'=m/\h'=h))/\
 ∀e h',PH.le h h'->Rows h' e (l.filter p)->K (cS e) m h'
def cGX:Vc.Spec:=λc m h K=>∃s u l r,c=[cS s,cS u,.val (.func (.func 93) #[] #[])]/\Rows h s l/\lJ l/\bQ h u r/\l.length<=8000000/\K (.tup [cI ((l.countP λy=>decide (fG y r<0):Nat):Int),cB (Gy l r)]) m h
def b7Q:Vc.Spec:=λc m h K=>∃s u l r,c=[cS s,cS u]/\Rows h s l/\lJ l/\bQ h u r/\l.length<=8000000/\K (cB (Gy l r)) m h
def UN:Vc.Spec:=λc m h K=>∃s l,c=[cS s]/\Rows h s l/\l.length<=8000000/\(∀r∈l,r.length<=1000)/\∀d h',PH.le h h'->Rows h' d l->K (cS d) m h'
def rE(r:cz):ByteArray:=⟨(r.flatMap As).toArray⟩
def UL:Vc.Spec:=λd m h K=>∃s t r c,d=[cS s,cS t]/\bQ h s r/\Ints h t c/\OS r/\jY r.length c/\eK m/\K (Ss (rE (pick r c))) m h
def aSX:Vc.Spec:=λc m h K=>∃n:Nat,c=[.val (.slice none 0 0),cI n]/\n<=32000000/\K (.lst 65 1 []) m h
def UO:Vc.Spec:=λc m h K=>∃f d e,c=[cS f]/\Leaves h f [d,e]/\d.length<=8000000/\e.length<=8000000/\∀g h',PH.le h h'->Rows h' g (d++e)->K (cS g) m h'
noncomputable def cgX s g c m h:=
 qD [] [(3,{A:=Nat×cw,st:=λ⟨i,d⟩=>bY 23 25 [(1,vv (.func (.func g) #[] ⟨c⟩)),(5,.at (.lst 20)),(8,sv s),(9,iv s.len),(10,iv i)] [(20,.lst 65 1 (d.map eS))] m h})] [] [] [510004] [] false
noncomputable def bJX s u m h:=
 dK [(93,Jv)] [(3,{A:=Nat×Nat,st:=λ⟨i,j⟩=>bY 49 52 [(0,sv s),(1,sv u),(2,vv (.func (.func 93) #[] #[])),(8,iv s.len),(9,iv i),(10,iv j)] [] m h})] [] [] false
noncomputable def f51_ctx s m:=
 dK [(57,PO)] [(3,{A:=Nat×cw×PH,st:=λ⟨i,c,h⟩=>bY 23 24 [(3,.at (.lst 8)),(9,sv s),(10,iv s.len),(11,iv i)] [(8,.lst 65 1 (c.map eS))] m h})] [] [] false
noncomputable def bRX s t m h:=
 qD [(162,cJX)] [(3,{A:=Nat×dg,st:=λ⟨i,l⟩=>bY 23 25 [(0,sv s),(5,.at (.lst 19)),(8,sv t),(9,iv t.len),(10,iv i)] [(19,.lst 5 1 (aX l))] m h})] [] [] [] [(162,[0])] false
noncomputable def bRQ c m h:=
 dK [(163,aSX)] [(3,{A:=Nat×Nat,st:=λ⟨i,n⟩=>bY 36 37 [(0,sv c),(3,iv n),(9,sv c),(10,iv c.len),(11,iv i)] [] m h}),
  (11,{A:=Nat×cw,st:=λ⟨i,l⟩=>bY 36 37 [(6,.at (.lst 24)),(25,sv c),(26,iv c.len),(27,iv i)] [(24,.lst 65 1 (l.map eS))] m h})] [] [] false
abbrev Pu(a b:(Nat×cw->Prop)->(Nat×cw)->Prop)(c:(Nat×cw)->Nat×cw)(d:Sl)(e:(Nat×cw->Prop)->(Nat×cw->Nat)->(Nat×cw)->Nat->Nat->Sl->Prop)(g:PH)(i:cq)(j:MH):=∃(x:Nat×cw->Prop)(u:Nat×cw->Nat),(∃(f:Nat×cw),a x f)/\∀(f:Nat×cw),b x f->aY (↑(c f).1:Int) (aG d) (bK (λn o=>aA (aR d.a n o) (0<=(↑(c f).1:Int)) ((↑(c f).1:Int)<aG d/\∃(y:Sl),e x u f n o y))) (vU g (fJ (c f).2) i j)
attribute [push_cast] Pu
def Xr s g c m h K:=
  Pu (λI x=>aA (I x) (CM (Fn.func g) (Array.mk c)) (aA (eL 20) (aI s) (aA (bI s) (bA x.1) (aA (A4 x.2) (m=m) (bU h h))))) (λI x=>I x) (λx=>x) s (λI n x b o y=>aK m h b (bL o x.1 1) (aL y)/\∃(R:Bool->MH->PH->Prop),CE g 4 (dC y (List.map CV.val c)) m h (λl e f=>∃(j:Bool),l=tU j/\R j e f)/\∀(j:Bool),fD (λe f=>gS (R j e f) j (aA (lL (fJ x.2)) (eA (fJ x.2)) (∃(d:Nat×cw),aA (I d) (n d<n x) (aA (CM (Fn.func g) (Array.mk c)) (eL 20) (aA (aI s) (bI s) (aA (iH (bE x.1 1)=bP d.1) (xO (fJ x.2) y d.2) (eM e m f h)))))) (∃(d:Nat×cw),aA (I d) (n d<n x) (aA (CM (Fn.func g) (Array.mk c)) (eL 20) (aA (aI s) (bI s) (aA (iH (bE x.1 1)=bP
 d.1) (tC x.2 d.2) (eM e m f h))))))) h K m
abbrev H4(a:Nat×Nat):=iF (Int.fdiv (Qz (bE a.1 (↑a.2:Int))) 2)
attribute [push_cast] H4
def TT(s u:Sl)(m:MH)(h:PH)(K:cq):=
  Iy (λI x=>aA (I x) (aI s) (aA (aI u) (Bj 93) (aA (bI s) (bA x.1) (aA (bP s.len=bP x.2) (m=m) (bU h h))))) (λI f x=>I x->aY (↑x.1:Int) (↑x.2:Int) (bK (λb o=>aA (aR s.a b o) (0<=H4 x) (H4 x<aG s/\∃(y:Sl),aK m h b (gH o (H4 x) 1) (aL y)/\∃(d:Sl),pX (λt a=>∃(e:cz),aA (cD y u=cD d t) (bQ h d a) (bQ h t e/\aY (fG a e) 0 (∃(c:Nat×Nat),aA (I c) (f c<f x) (aA (aI s) (aI u) (aA (Bj 93) (bI s) (aA (SV.at (At.val (gZ (iF (H4 x+1))))=bP c.1) (cJ x.2 c.2) (eM m m h h))))) (∃(c:Nat×Nat),aA (I c) (f c<f x) (aA (aI s) (aI u) (aA (Bj 93) (bI s) (aA (cJ x.1 c.1) (SV.at (At.val (gZ (H4 x)))=bP c.2) (eM m m h h)))))))))) (aY (↑x.1
 :Int) (aG s) (bK (λb o=>aA (aR s.a b o) (0<=(↑x.1:Int)) ((↑x.1:Int)<aG s/\∃(y:Sl),aK m h b (bL o x.1 1) (aL y)/\∃(d:Sl),pX (λt a=>∃(e:cz),aA (cD y u=cD d t) (bQ h d a) (bQ h t e/\K (CV.tup (gJ (↑x.1:Int) (Aw (fG a e==0)))) m h))))) (K (CV.tup (gJ (↑x.1:Int) bD)) m h)))
abbrev B7(a:ct):=a.length<=8000000
attribute [push_cast] B7
def bjQ(s u:Sl)(m:MH)(h:PH)(K:cq):=
  ∃(c:Sl),Hj (λd l r=>aA (dC s (gO u (mV 93 sJ))=dC c (gO d (mV 93 sJ))) (Rows h c l) (aA (lJ l) (bQ h d r) (B7 l/\K (Aw (Gy l r)) m h)))
def ak s m h K:=
  CH s 24 (Pn (λI x=>aA (I x) (eL 8) (aA (aI s) (bI s) (aA (bA x.1) (bW 65 1 (tW (aG s) gW)=oI 65 1 x.2.1) (aA (m=m) (h=pJ x) True)))) (λI d x=>I x->aY (↑x.1:Int) (aG s) (bK (λb o=>aA (aR s.a b o) (0<=(↑x.1:Int)) ((↑x.1:Int)<aG s/\∃(y:Sl),aK m (pJ x) b (bL o x.1 1) (aL y)/\FZ y (pJ x) (λf g=>qS (↑x.1:Int) (wT x) (λe=>aA (mH (wT x) (nL x.1) e) (wJ 0 e) (∃(c:Nat×cw×PH),aA (I c) (d c<d x) (aA (eL 8) (aI s) (aA (bI s) (iH (bE x.1 1)=bP c.1) (aA (bW 65 1 (List.set (wT x) (nL x.1) (GS (dW f) 1 e))=oI 65 1 c.2.1) (m=m) (bU g (pJ c))))))))))) (vU (pJ x) (wT x) K m)))
def Us(s t:Sl)(m:MH)(h:PH)(K:cq):=
  Po (λI x=>aA (I x) (aI s) (aA (eL 19) (aI t) (aA (bI t) (bA x.1) (aA (vB 5 1 (v8 x)) (m=m) (bU h h))))) (λI e x=>I x->aY (↑x.1:Int) (aG t) (bK (λb o=>aA (aR t.a b o) (0<=(↑x.1:Int)) ((↑x.1:Int)<aG t/\∃(y:Int),aK m h b (bL o x.1 1) (bC y)/\bK (λf g=>aA (aR s.a f g) (0<=y) (y<aG s/\∃(j:VV),aK m h f (gH g y 3) j.enc/\∃(d:List cr)(v:VV),aA (qN (v8 x) (lV j)=qN d (lV v)) (eK m) (oK (kB d v.text.size+500)/\∃(c:Nat×dg),aA (I c) (e c<e x) (aA (aI s) (eL 19) (aA (aI t) (bI t) (aA (iH (bE x.1 1)=bP c.1) (bW 5 1 (mX d (As v))=bW 5 1 (v8 c)) (eM m m h h)))))))))) (KO (v8 x) (λb=>K (wI b) m h)))
def TU(n:Nat)(m:MH)(h:PH)(K:cq):=
  gA (iF ((↑n:Int)-iF ((0:Int)-0))) 0 (aA (cN 0) (cN 0) (aA (0<vR n) (JN (vR n*24)) (aA (JN (vR n)) ((0:Int)<=0) (cN (nN (tW (vR n) gW))/\K (CV.lst 65 1 []) m h)))) (K (CV.lst 65 1 []) m h)
def Ur d m h K:=
  Iy (λI x=>aA (I x) (aI d) (aA (bA x.2) (aI d) (aA (bI d) (bA x.1) (aA (m=m) (h=h) True)))) (λI g x=>I x->aY (↑x.1:Int) (aG d) (bK (λb o=>aA (aR d.a b o) (0<=(↑x.1:Int)) ((↑x.1:Int)<aG d/\∃(y:Sl),aK m h b (bL o x.1 1) (aL y)/\aY (bE x.2 (aG y)) 0 False (∃(c:Nat×Nat),aA (I c) (g c<g x) (aA (aI d) (iH (bE x.2 (aG y))=bP c.2) (aA (aI d) (bI d) (aA (iH (bE x.1 1)=bP c.1) (m=m) (bU h h)))))))) (∃(n:Nat),aA (Gg x.2=Gg n) (n<=32000000) (Pu (λI1 c=>aA (I1 c) (eL 24) (aA (aI d) (bI d) (aA (bA c.1) (A4 c.2) (aA (m=m) (h=h) True)))) (λI1 c=>I1 c) (λc=>c) d (λI1 j c b o y=>Hm m h b o c.1 1 (aL y) (λe=>aA (gC 1 e) (dH h (dL
 y) 1 e) (aA (sQ (fJ c.2) e 24) (sR (fJ c.2) e) (∃(f:Nat×cw),aA (I1 f) (j f<j c) (aA (eL 24) (aI d) (aA (bI d) (iH (bE c.1 1)=bP f.1) (aA (bW 65 1 (fJ c.2++e)=oI 65 1 f.2) (m=m) (bU h h)))))))) h K m)))
theorem YG{u v r r'}(e:Zb u)(f:Zb v)(h:As u++r=As v++r'):u=v/\r=r':=by
 have z:uY 0:=⟨az,az⟩
 have c:∀w:VV,Zb w->Y3 ⟨0,0,w⟩:=λw d=>⟨z,z,d.kind,d.int,by have:=d.text;omega⟩
 have:=JH (o:=⟨0,0,u⟩) (o':=⟨0,0,v⟩) (r:=r) (r':=r') (c u e) (c v f) (by simp only[DC,append_assoc,h])
 grind
theorem Xb:∀{a b:cz},a.length=b.length->(∀v∈a,Zb v)->(∀v∈b,Zb v)->a.flatMap As=b.flatMap As->a=b
 |[],[],_,_,_,_=>rfl
 |x::a,y::b,c,e,f,h=>by
  simp only[flatMap_cons]at h;obtain⟨g,j⟩:=YG (e x (mem_cons_self ..)) (f y (mem_cons_self ..)) h;rw[g,Xb bg (λv d=>e v (mem_cons_of_mem _ d)) (λv d=>f v (mem_cons_of_mem _ d)) j]
 |[],_::_,c,_,_,_=>by simp at c
 |_::_,[],c,_,_,_=>by simp at c
theorem LB:ayQ rE:=⟨fun{a b} c d e=>⟨λh=>by
 simp only[rE,ByteArray.mk.injEq]at h;exact Xb c d e bg,λh=>by rw[h]⟩⟩
theorem bAX{P f T c R R'}(x:FAt P f T c m h R)(d:∀l m' h',R l m' h'->R' l m' h'):FAt P f T c m h R':=
 ⟨x.fn,λg w e j=>(x.go g w e j).mono λ_ _⟨l,m',h',n,o,u⟩=>⟨l,m',h',n,d _ _ _ o,u⟩⟩
theorem a3X:cm 95 cFZ:=by
 refine jC func95 ?_;rintro E m h K ⟨s,g,c,l,p,rfl,B,P,F,G⟩;refine⟨cgX s g c m h,rfl,aH,Xr s g c m h K,ax,?_⟩;dsimp only[Xr,push_cast];have n:=bM.slen B;refine⟨λx=>x.1<=l.length/\x.2.length<=x.1/\fE h x.2 ((l.take x.1).filter p),λx=>l.length-x.1,⟨(0,[]),⟨ay,ay,bk (fE.nil h)⟩,MT⟩,?_⟩;rintro⟨i,C⟩ ⟨H,y,d⟩;dsimp only at H y d;refine aF (λf=>?_) (λz=>?_)
 .dsimp only at f⊢
  obtain⟨r,j⟩:=fK n f;obtain⟨b,o,u,I,rd,D⟩:=bM.at B j;refine⟨b,o,I,aC,aC,u,.imm rd,λt m' h'=>t=p r/\m'=m/\h'=h,bAX (F u r (bo j) D) (λx m' h'⟨J,L,M⟩=>⟨p r,J,rfl,L,M⟩),?_⟩;rintro t m' h' ⟨rfl,rfl,rfl⟩;refine aD (λe=>⟨bg,bg,(i+1,C++[u]),⟨aC,bf,?_⟩,aC,?_⟩) (λe=>⟨(i+1,C),⟨aC,bg,?_⟩,aC,?_⟩)
  .rw[jS _ j,if_pos e];exact d.snoc D
  .rw[jK aC,bu];exact MT
  .rw[jS _ j,if_neg (by rw[e];simp),append_nil];exact d
  .rw[jK aC];exact MT
 .dsimp only at z⊢
  rw[bt aC]at d;intro O h' le A;exact G O h' le ((d.mono le).rows A bg)
theorem atX{l r}(f:lJ l)(g:i<=l.length)(n:∀j y,j<i->l[j]? =some y->fG y r<0)(o:∀j y,i<=j->l[j]? =some y->¬fG y r<0):(l.countP λy=>decide (fG y r<0))=i:=by
 have e:l.countP (λy=>decide (fG y r<0))=(l.take i).countP (λy=>decide (fG y r<0))+(l.drop i).countP λy=>decide (fG y r<0):=by
  rw[<-countP_append,take_append_drop]
 have u:(l.take i).countP (λy=>decide (fG y r<0))=(l.take i).length:=countP_eq_length.2 λy c=>by
  obtain⟨j,d⟩:=getElem?_of_mem c
  grind
 have z:(l.drop i).countP (λy=>decide (fG y r<0))=0:=countP_eq_zero.2 λy c=>by
  obtain⟨j,d⟩:=getElem?_of_mem c
  grind
 grind
theorem Mj{l}(d:lJ l){j x y}(c:i<j)(hx:l[i]? =some x)(e:l[j]? =some y):fG x y<0:=by
 obtain⟨f,rfl⟩:=List.getElem?_eq_some_iff.1 hx;obtain⟨g,rfl⟩:=List.getElem?_eq_some_iff.1 e;exact pairwise_iff_getElem.1 d i j f g c
theorem byX{j}(h:i+j<=32000000):IntKind.i64.wrap ((IntKind.u64.wrap (IntKind.i64.wrap ((i:Int)+(j:Int)))).fdiv 2)=(((i+j)/2:Nat):Int):=by
 rw[fL (n:=(i:Int)+j) aC aC,Sw aC aC,Int.fdiv_eq_ediv_of_nonneg _ aC];have:((i:Int)+j)/2=(((i+j)/2:Nat):Int):=by omega
 rw[this,fL aC aC]
theorem aiJ:cm 164 cGX:=by
 refine jC func164 ?_;rintro X m h K ⟨s,u,l,r,rfl,E,d,U,Z,B⟩;refine⟨bJX s u m h,rfl,aE E4 aH,TT s u m h K,ax,?_⟩;dsimp only[TT,push_cast];have Y:=bM.slen E;refine⟨λx=>x.1<=x.2/\x.2<=l.length/\(∀j y,j<x.1->l[j]? =some y->fG y r<0)/\∀j y,x.2<=j->l[j]? =some y->¬fG y r<0,λx=>x.2-x.1,⟨(0,l.length),⟨ay,ay,λj y C=>by omega,λj y C D=>bg⟩,?_⟩,?_⟩
 .grind
 rintro⟨i,j⟩ ⟨F,C,f,g⟩;dsimp only at F C f g;refine aF (λn=>?_) (λG=>?_)
 .dsimp only at n⊢
  have n:i<j:=by omega
  rw[byX aC];have H:i<=(i+j)/2:=by omega
  have I:(i+j)/2<j:=by omega
  generalize (i+j)/2=k at H I;have c:l[k]? =some (l[k]'(by omega)):=bn _;generalize l[k]'(by omega)=x at c;obtain⟨b,o,e,J,rd,L⟩:=bM.at E c;refine⟨b,o,J,aC,aC,e,.imm rd,e,u,x,r,rfl,L,U,aF (λM=>⟨(k+1,j),⟨aC,C,λO y P D=>?_,g⟩,aC,?_⟩) (λM=>⟨(i,k),⟨aC,aC,f,λO y P D V=>?_⟩,aC,?_⟩)⟩
  .by_cases Q:O=k
   .grind
   .exact GH (Mj d aC D c) M
  .rw[jK aC];exact MT
  .by_cases Q:O=k
   .grind
   .exact M (GH (Mj d aC c D) V)
  .exact MT
 .dsimp only at G⊢
  have:i=j:=by omega
  subst this;rw[atX d C f g]at B
  have z:(∀y,l[i]? =some y->fG y r≠0)->Gy l r=false:=λV=>by
   rw[Bool.eq_false_iff];intro R;obtain⟨j,S⟩:=getElem?_of_mem (BG.1 R);have hz:fG r r=0:=lG.2 rfl;rcases Nat.lt_trichotomy j i with T|T|T
   .grind
   .grind
   .have A:i<l.length:=bg
    have c:l[i]? =some l[i]:=bn A;have h3:=Mj d T c S
    grind
  refine aF (λn=>?_) (λW=>?_)
  .have A:i<l.length:=by omega
   have c:l[i]? =some l[i]:=bn A;generalize l[i]=x at c;obtain⟨b,o,e,J,rd,L⟩:=bM.at E c;refine⟨b,o,J,aC,aC,e,.imm rd,e,u,x,r,rfl,L,U,?_⟩
   have:Gy l r=(fG x r==0):=by
    cases e2:fG x r==0 with
    |true=>
     have:=lG.1 (by grind:fG x r=0);subst this;exact BG.2 (bo c)
    |false=>grind
   rw[this]at B;exact B
  .rw[z λy D=>by grind]at B;exact B
theorem RG:cm 104 b7Q:=by
 refine jC func104 ?_;rintro d m h K ⟨s,u,l,r,rfl,e,c,f,g,j⟩;refine⟨dK [(164,cGX)] [] [] [] false,rfl,aE aiJ aH,bjQ s u m h K,ax,?_⟩;exact⟨s,u,l,r,rfl,e,c,f,g,j⟩
theorem aq:cm 51 UN:=by
 refine jC func51 ?_;rintro E m h K ⟨s,l,rfl,C,L,F,G⟩;refine⟨f51_ctx s m,rfl,aE ab aH,ak s m h K,ax,?_⟩;dsimp only[ak,push_cast];have z:=bM.slen C;refine⟨aC,aC,aC,aC,λx=>x.1<=l.length/\PH.le h x.2.2/\∃j,j.length=x.1/\x.2.1=j++replicate (l.length-x.1) ⟨none,0,0⟩/\fE x.2.2 j (l.take x.1),λx=>l.length-x.1,⟨(0,replicate l.length ⟨none,0,0⟩,h),⟨ay,.refl _,[],rfl,ay,bk (fE.nil h)⟩,?_⟩,?_⟩
 .dsimp only;rw[map_replicate,show((s.len:Int)).toNat=l.length by omega];exact MT
 rintro⟨i,M,O⟩ ⟨H,le,j,f,D,g⟩;dsimp only at H le f D g;subst D;refine aF (λy=>?_) (λA=>?_)
 .dsimp only at y⊢
  obtain⟨r,c⟩:=fK z y;obtain⟨b,o,u,I,rd,J⟩:=bM.at C c;refine⟨b,o,I,aC,aC,u,.imm (rd.mono le),u,r,rfl,bQ.mono J le,F r (bo c),λn h' d B=>⟨aC,bg,[pF],?_,ay,(i+1,(j++[n])++replicate (l.length-(i+1)) ⟨none,0,0⟩,h'),⟨aC,le.trans d,j++[n],by simp[f],rfl,?_⟩,aC,?_⟩⟩
  .rw[getElem?_map,Int.toNat_natCast,getElem?_append_right aC,getElem?_replicate,if_pos aC];rfl
  .dsimp only;rw[cd,c];exact(g.mono d).snoc B
  .dsimp only
   have e:((j++replicate (l.length-i) (⟨none,0,0⟩:Sl)).map eS).set ((i:Int)).toNat (dW n::List.drop 1 [pF])=((j++[n])++replicate (l.length-(i+1)) (⟨none,0,0⟩:Sl)).map eS:=by
    rw[Int.toNat_natCast,show l.length-i=(l.length-(i+1))+1 by omega,replicate_succ,bu,set_append,if_neg (by simp[f]),bu,bu,append_assoc];simp[f,eS]
   rw[e,jK aC];exact MT
 .dsimp only at A⊢
  have:i=l.length:=by omega
  subst this;rw[Nat.sub_self,replicate_zero,append_nil];rw[take_length]at g;intro n h' d c;exact G n h' (le.trans d) ((g.mono d).rows c aC)
theorem blJ{v}(h:v.text.size<=64):(As v).length<=200:=by
 have c:=iQ [v.kind];have e:=pE v.int;have d:=iQ [(v.text.size:Int)];have f:v.text.data.toList.length=v.text.size:=Array.length_toList;simp only[As,br,ci,length_nil]at c d⊢
 omega
theorem a0Z{r:cz}(h:∀v∈r,v.text.size<=64):(r.flatMap As).length<=200*r.length:=by
 induction r with
 |nil=>simp
 |cons v l c=>
  have d:=blJ (h v (mem_cons_self ..))
  grind
theorem Dq:cm 100 UL:=by
 refine jC func100 ?_;rintro H m h K ⟨s,t,r,d,rfl,D,E,I,y,J,L⟩;refine⟨bRX s t m h,rfl,aE ajX aH,Us s t m h K,ax,?_⟩;dsimp only[Us,push_cast];have M:=bM.slen D;have z:=E.slen;have O:=y.len;have P:(pick r d).length=d.length:=by simp[pick]
 have g:∀v∈pick r d,v.text.size<=64:=λv Q=>(I.val v (Qo y Q)).text;refine⟨λx=>x.1<=d.length/\x.2=((pick r d).take x.1).flatMap As,λx=>d.length-x.1,⟨(0,[]),⟨ay,ay⟩,MT⟩,?_⟩;rintro⟨i,l⟩ ⟨R,F⟩;dsimp only at R F;subst F;refine aF (λf=>?_) (λA=>?_)
 .dsimp only at f;obtain⟨c,j⟩:=fK z f;obtain⟨b,o,e,rd⟩:=E.at j;obtain⟨v,B,n,S,X⟩:=Kt y j;obtain⟨T,U,w,V,C,rfl⟩:=bM.at D B;have Y:=a0Z (r:=(pick r d).take i) (λu W=>g u (mem_of_mem_take W));have G:=g v (bo n);refine⟨b,o,e,aC,f,c,.imm bg,T,U,V,S,aC,v,.imm C,_,v,rfl,J,?_,(i+1,((pick r d).take (i+1)).flatMap As),⟨aC,rfl⟩,bg,?_⟩
  .rw[aZ]
   grind
  .dsimp only;rw[cd,n,flatMap_append,dV];simp only[Option.toList_some,flatMap_cons,flatMap_nil,append_nil];exact MT
 .dsimp only at A⊢
  rw[bt aC];exact⟨_,rfl,L⟩
theorem ajQ:cm 163 aSX:=by
 refine jC func163 ?_;rintro d m h K ⟨n,rfl,f,c⟩;refine⟨dK [] [] [] [] true,rfl,aH,TU n m h K,ax,?_⟩;dsimp only[TU,push_cast];have e:IntKind.i64.wrap ((n:Int)-0)=n:=by rw[fL aC aC];omega
 have g:IntKind.i64.wrap ((n:Int)-IntKind.i64.wrap (0-0))=n:=by rw[show IntKind.i64.wrap (0-0)=0 from by rw[fL aC aC];rfl,e]
 exact aF (λj=>⟨aC,aC,aC,aC,aC,aC,aC,c⟩) (λ_=>c)
theorem arJ:cm 102 UO:=by
 refine jC func102 ?_;rintro V m h K ⟨z,R,S,rfl,G,h1,h2,W⟩;refine⟨bRQ z m h,rfl,aE ajQ aH,Ur z m h K,ax,?_⟩;dsimp only[Ur,push_cast];have X:z.len=2:=bM.slen G
 have g:∀k∈[R,S],k.length<=8000000:=λk e=>by
  grind
 generalize A:[R,S]=ks at G g;have H:ks.length=2:=bg
 have f:∀i,i<=2->((ks.take i).map List.length).sum<=16000000:=λi j=>by
  rw[<-A]
  match i,j with
  |0,_=>simp
  |1,_=>simp;omega
  |2,_=>simp;omega
 refine⟨λx=>x.1<=2/\x.2=((ks.take x.1).map List.length).sum,λx=>2-x.1,⟨(0,0),⟨ay,ay⟩,MT⟩,?_⟩;rintro⟨i,n⟩ ⟨j,T⟩;dsimp only at j T⊢
 subst T;have Y:=f i j;refine aF (λd=>?_) (λB=>?_)
 .obtain⟨k,e⟩:=fK (l:=ks) (n:=z.len) aC d;obtain⟨b,o,y,I,r,u⟩:=bM.at G e;have H:=bM.slen u;have C:=g k (bo e)
  have Z:IntKind.i64.wrap (((((ks.take i).map List.length).sum:Nat):Int)+(y.len:Int))=((((ks.take (i+1)).map List.length).sum:Nat):Int):=by
   rw[Cn e,fL aC aC];omega
  refine⟨b,o,I,aC,d,y,.imm r,?_⟩;rw[Z];exact aF (λU=>by omega) (λ_=>⟨(i+1,((ks.take (i+1)).map List.length).sum),⟨aC,rfl⟩,aC,by rw[jK aC];exact MT⟩)
 .refine⟨((ks.take i).map List.length).sum,rfl,aC,λx=>x.1<=2/\x.2.length<=16000000/\fE h x.2 (ks.take x.1).flatten,λx=>2-x.1,⟨(0,[]),⟨ay,ay,bk (fE.nil h)⟩,MT⟩,?_⟩;clear Y B j;rintro⟨i,us⟩ ⟨j,J,c⟩;dsimp only at j J c⊢
  have L:=c.len;rw[length_flatten]at L;refine aF (λd=>?_) (λB y h' D E=>W y h' D ?_)
  .obtain⟨k,e⟩:=fK (l:=ks) (n:=z.len) aC d;obtain⟨b,o,y,I,r,u⟩:=bM.at G e;obtain⟨⟨F,M,O,P⟩,_⟩:=u;have C:=g k (bo e);have Q:=f (i+1) aC;rw[Cn e]at Q;refine⟨b,o,I,aC,d,y,.imm r,F.map eS,BN _,M,bf,bf,(i+1,us++F),⟨aC,bf,?_⟩,aC,?_⟩
   .dsimp only;rw[cd,e,flatten_append];simp only[Option.toList_some,flatten_cons,flatten_nil,append_nil];exact c.app ⟨O.symm,P⟩
   .rw[jK aC,bu];exact MT
  .rw[bt aC, <-A]at c;simp only[flatten_cons,flatten_nil,append_nil]at c;exact(c.mono D).rows E bf
end Go.Ps
