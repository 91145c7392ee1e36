/- Own work. -/
import Derived.Test.YtafjlhgalgfiaaaGreatDoorCh
set_option linter.unusedVariables false
set_option linter.unusedSimpArgs false
namespace Go.Ps
open Go Go.Vc Go.Proofs List Tryz
variable{K:bo}{m:MH}{h:PH}{s:jQ}{ps:bn}{ts:cg}{cb:Nat}{sc:bZ}{v:QV}{t:Step}{p:Pred}{l:bn}{i:Nat}{N:Nat}{m':MH}{h':PH}{co:bn}{gr:bn}{od:bz}{ta:Int}{li:Int}{xs:List bt}{sz:Nat}{ks:List bn}{rs:bn}{r:Sl}{a:bn}{b:Nat}
theorem Mg:∀(n:Nat){l:cm},l.Nodup->(∀x∈l,x<n)->l.length<=n
 |0,l,_,h=>by
  cases l with
  |nil=>simp
  |cons x l=>have:=h x ay;omega
 |n+1,l,c,h=>by
  by_cases d:n∈l
  .have f:=length_erase_of_mem d
   have g:=Mg n (c.erase n) (λx e=>by
    grind)
   omega
  .have:=Mg n c (λx e=>by
    grind)
   omega
theorem Li{α:Type}{T:List α->α->Prop}{l:List α}{f:α->Int}{n:Nat}(h:Good T l)(e:∀c x,T c x->0<=f x/\f x<n)(o:∀c x,T c x->∀y∈c,f y≠f x):l.length<=n:=by
 have u:(l.map λx=>(f x).toNat).Nodup:=by
  rw[nodup_iff_pairwise_ne,pairwise_iff_getElem];intro i j d g z;simp only[length_map]at d g;simp only[getElem_map];have D:=h i l[i] (getElem?_eq_getElem d);have A:=h j l[j] (getElem?_eq_getElem g);have:=o _ _ A l[i] (mem_take_iff_getElem.2 ⟨i,aC,rfl⟩)
  grind
 have:=Mg n u (λx B=>by
  obtain⟨y,C,rfl⟩:=mem_map.1 B;obtain⟨i,d⟩:=mem_iff_getElem?.1 C;have:=e _ _ (h i y d);omega)
 grind
mutual
def bRZ:Pred->Prop
 |.mk _ _ l r args=>l.value.text.size<=64/\r.value.text.size<=64/\Vz args
def Vz:cn->Prop
 |[]=>True
 |p::ps=>bRZ p/\Vz ps
end
theorem WA(o:OV)(h:o.value.text.size<=64):(Dp o).length<=200:=by
 have e:=iD [o.kind,o.index];have f:=iD [o.value.kind];have g:=iD [(o.value.text.size:Int)];have c:=iD [o.value.int];have d:jH [o.value.int]=mC o.value.int++[32]:=by unfold jH;grind
 rw[d]at c;have j:o.value.text.data.toList.length=o.value.text.size:=by rw[Array.length_toList];rfl
 simp only[Dp,Ad,length_append,length_cons,length_nil]at*
 omega
mutual
theorem Mb:∀p:Pred,bRZ p->((sD p).length:Int)<=1000*Sa p
 |.mk op c l r args,h=>by
  obtain⟨d,e,f⟩:=h;have g:=WA l d;have j:=WA r e;have n:=PY args f;have o:=iD [op,c];have u:=iD [(args.length:Int)];simp only[sD,Sa,length_append,length_cons,length_nil]at*
  omega
theorem PY:∀ps:cn,Vz ps->((pL ps).length:Int)<=1000*Dn ps
 |[],_=>by simp[pL,Dn]
 |p::ps,h=>by
  have:=Mb p h.1;have:=PY ps h.2;simp only[pL,Dn,length_append];omega
end
theorem Yg{v:VV}(h:eqV v zeroV=true):v.text.size<=64:=by
 simp only[eqV,Bool.and_eq_true,beq_iff_eq]at h;exact V2 h.2.2.1
theorem Lq{o:OV}(h:eqO o fS=true):o.value.text.size<=64:=by
 simp only[eqO,Bool.and_eq_true,beq_iff_eq]at h;exact Yg h.2.2.1
theorem N9{o:OV}(h:rX l o≠0):o.value.text.size<=64:=by
 unfold rX at h;split at h
 .omega
 .rename_i c;simp only[Bool.or_eq_true,not_or,Bool.not_eq_true',Bool.not_eq_false]at c;exact Yg c.2
theorem NT{cols params:bn}{o:OV}(h:kindOf cols params o≠0):o.value.text.size<=64:=by
 unfold kindOf at h;split at h
 .split at h
  .omega
  .rename_i c;simp only[Bool.or_eq_true,not_or,Bool.not_eq_true',Bool.not_eq_false,pI,Bool.and_eq_true]at c;exact Nr c.2.1
 .split at h
  .exact N9 h
  .split at h
   .exact N9 h
   omega
mutual
theorem Nt{cols params:bn}:∀p:Pred,kI cols params p=true->bRZ p
 |.mk op c l r args,h=>by
  unfold kI at h;split at h
  .simp only[Bool.and_eq_true,GY,beq_iff_eq]at h;have:args=[]:=eq_nil_of_length_eq_zero h.2;subst this;exact⟨Lq h.1.1.2,Lq h.1.2,trivial⟩
  .split at h
   .simp only[Bool.and_eq_true,beq_iff_eq,bne_iff_ne,ne_eq,decide_eq_true_eq]at h;have:args=[]:=eq_nil_of_length_eq_zero h.1.1.1.1;subst this;exact⟨NT h.1.2,NT (cols:=cols) (params:=params) aC,trivial⟩
   .split at h
    .simp only[Bool.and_eq_true,GY]at h;exact⟨Lq h.1.1.2,Lq h.1.2,JM args h.2⟩
    .cases h
theorem JM{cols params:bn}:∀ps:cn,yJ cols params ps=true->Vz ps
 |[],_=>trivial
 |p::ps,h=>by
  simp only[yJ,Bool.and_eq_true]at h;exact⟨Nt p h.1,JM ps h.2⟩
end
theorem bpQ{cols params:bn}(h:iC cols params p=0):(sD p).length<=1000000000:=by
 unfold iC at h;split at h
 .cases h
 .split at h
  .cases h
  .rename_i c;split at h
   .cases h
   .rename_i e;have d:kI cols params p=true:=bg
    have f:=Mb p (Nt p d);simp only[Bool.or_eq_true,not_or,decide_eq_true_eq]at c;have g:=HH p 0 aC;omega
theorem bkX:(sD fO).length<=1000000000:=by
 have:=Mb fO ⟨az,az,trivial⟩;have e:Sa fO=1:=rfl;omega
theorem Gc{s:jQ}{ps:bn}:∀(c:ce),∀k∈(fL s ps c).1,k.length<=12
 |[],k,h=>by simp[fL]at h
 |q::c,k,h=>by
  simp only[fL]at h;split at h
  .split at h
   .simp only[mem_cons]at h;rcases h with rfl|h
    .exact lM s ps q
    .exact Gc c k h
   .simp at h
  .simp at h
theorem W0(h:∀k∈ks,k.length<=12)(j:Nat):(ks.getD j []).length<=12:=by
 grind
theorem IY{s:jQ}{ps:bn}:∀{c:ce}{ks:List bn},fL s ps c=(ks,0)->ks.length=c.length/\∀q∈c,(aL s ps q).2=0
 |[],ks,h=>by simp[fL]at h;subst h;simp
 |q::c,ks,h=>by
  simp only[fL]at h;split at h
  .rename_i f;split at h
   .rename_i d;have e:fL s ps c=((fL s ps c).1,0):=Prod.ext rfl d;obtain⟨g,j⟩:=IY e
    grind
   grind
  grind
theorem lL{op:Int}{w:Pred}{on:bu}{args:ce}(h:(aL s ps (.mk op ta w co on gr od li args)).2=0):
 (∀a∈args,(aL s ps a).2=0)/\(args.length:Int)=arity op/\∃a b,a.length<=12/\b.length<=12/\(eK s ps (.mk op ta w co on gr od li args) a b).2=0:=by
 simp only[aL]at h;split at h
 .rename_i c;have e:fL s ps args=((fL s ps args).1,0):=Prod.ext rfl c;obtain⟨f,d⟩:=IY e;split at h
  .rename_i g;refine⟨d,aC,_,_,?_,?_,h⟩
   .exact W0 (Gc args) 0
   .exact W0 (Gc args) 1
  .simp[eC]at h
 .rename_i c;simp[eC]at h;omega
theorem brZ{op:Int}{w:Pred}{on:bu}{args:ce}{b:bn}(I:a.length<=12)(h:(eK s ps (.mk op ta w co on gr od li args) a b).2=0):
 Oe ⟨op,ta,w,co,on,gr,od,li,0,0⟩:=by
 unfold eK at h;dsimp only at h;split at h
 .simp[eC]at h
 .rename_i j;rw[not_or]at j;have z:cR (.mk op ta w co on gr od li args):=Classical.not_not.1 j.2;obtain⟨_,A,B,C,D⟩:=z
  have E:∀l:bn,(mX l).2=0->l.length<=12:=λl e=>by
   unfold mX at e
   grind
  have F:(sD w).length<=1000000000:=by
   rcases A with rfl|rfl
   .simp only[show¬((2:Int)=1)by decide,if_false,if_true]at h;split at h
    .rename_i e;exact bpQ e
    .rename_i e;simp[eC]at h;omega
   .exact bkX
  have G:co.length<=1000000000:=by
   rcases B with rfl|rfl
   .simp only[show¬((3:Int)=1)by decide,show¬((3:Int)=2)by decide,if_false,if_true]at h;split at h
    .grind
    .simp[eC]at h
   .simp
  have H:on.length<=1000000000:=by
   have d:Good (nH a b) on->on.length<=1000000000:=λg=>by
    have:=Li (f:=λp=>p.1) (n:=a.length) g (λc x t=>by have:=t.1;rw[eY]at this;exact this) (λc x t y o=>(t.2.2.2 y o).1);omega
   rcases C with rfl|rfl|rfl
   .simp only[show¬((4:Int)=1)by decide,show¬((4:Int)=2)by decide,show¬((4:Int)=3)by decide,if_false,if_true]at h;split at h
    .grind
    .simp[eC]at h
   .simp only[show¬((5:Int)=1)by decide,show¬((5:Int)=2)by decide,show¬((5:Int)=3)by decide,show¬((5:Int)=4)by decide,if_false,if_true]at h;split at h
    .grind
    .simp[eC]at h
   .simp
  have u:gr.length<=1000000000/\od.length<=1000000000:=by
   have d:nA a gr od li->gr.length<=1000000000/\od.length<=1000000000:=λr=>by
    have:=Li (f:=λp=>p) (n:=a.length) r.group_ (λc x t=>by have:=t.1;rw[eY]at this;exact this) (λc x t y o e=>t.2 bg);have:=r.len_;omega
   rcases D with rfl|rfl|⟨rfl,rfl,_⟩
   .simp only[show¬((9:Int)=1)by decide,show¬((9:Int)=2)by decide,show¬((9:Int)=3)by decide,show¬((9:Int)=4)by decide,show¬((9:Int)=5)by decide,if_false,if_true]at h;split at h
    .grind
    .simp[eC]at h
   .simp only[show¬((10:Int)=1)by decide,show¬((10:Int)=2)by decide,show¬((10:Int)=3)by decide,show¬((10:Int)=4)by decide,show¬((10:Int)=5)by decide,show¬((10:Int)=9)by decide,if_false,if_true]at h;split at h
    .grind
    .simp[eC]at h
   .simp
  exact⟨F,G,H,u.1,u.2⟩
theorem Mo{s:jQ}{ps:bn}:∀q:Query,(aL s ps q).2=0->Dk q/\b2J q
 |.mk op ta w co on gr od li args,h=>by
  obtain⟨d,e,a,b,f,_,g⟩:=lL h;rw[Wq,bQQ];exact⟨⟨brZ f g,λq c=>(Mo q (d q c)).1⟩,e,λq c=>(Mo q (d q c)).2⟩
theorem aQZ{q:Query}(h:(fI s ps q).2=0):Dk q:=(Mo q (Bw h).2.2.2).1
theorem Qu{n:Int}(h:uR n){b:UInt8}(c:b∈mC n):b≠32:=by
 intro e;subst e;by_cases f:0<=n
 .rw[CO h f]at c;have:=LB _ _ c;simp at this
 .rw[CP h aC]at c;rcases mem_cons.1 c with d|d
  .cases d
  .have:=LB _ _ d;simp at this
theorem vD(n:Int)(l:bn):jH (n::l)=mC n++32::jH l:=by unfold jH;grind
theorem iW{m n:Int}{r r':ck}(d:uR m)(e:uR n)(h:mC m++32::r=mC n++32::r'):m=n/\r=r':=by
 obtain⟨f,g⟩:=PA (λc=>Qu d c rfl) (λc=>Qu e c rfl) h;exact⟨Sx d e f,g⟩
theorem NK(p:Int×Int)(l:bu):wE (p::l)=mC p.1++32::(mC p.2++32::wE l):=by
 show jH [p.1,p.2]++wE l=_;rw[vD,vD,append_assoc,cons_append,append_assoc];rfl
theorem ND(p:Int×Bool)(l:bz):wC (p::l)=mC p.1++32::(mC (if p.2 then 1 else 0)++32::wC l):=by
 show jH [p.1,if p.2 then 1 else 0]++wC l=_;rw[vD,vD,append_assoc,cons_append,append_assoc];rfl
structure YH(o:OV):Prop where
 kind_:uR o.kind
 index_:uR o.index
 vkind_:uR o.value.kind
 int_:uR o.value.int
 text_:o.value.text.size<=64
mutual
def LP:Pred->Prop
 |.mk op c l r args=>uR op/\uR c/\YH l/\YH r/\args.length<=8000000/\Rx args
def Rx:cn->Prop
 |[]=>True
 |p::ps=>LP p/\Rx ps
end
theorem xM{n:Nat}(h:n<=8000000):uR (n:Int):=⟨aC,aC⟩
theorem Ji{o o':OV}{r r':ck}(d:YH o)(e:YH o')(h:Dp o++r=Dp o'++r'):o=o'/\r=r':=by
 have A:jH []=[]:=rfl;simp only[Dp,Ad,vD,A,append_assoc,cons_append,nil_append]at h;obtain⟨j,h⟩:=iW d.kind_ e.kind_ h;obtain⟨n,h⟩:=iW d.index_ e.index_ h;obtain⟨u,h⟩:=iW d.vkind_ e.vkind_ h;obtain⟨y,h⟩:=iW d.int_ e.int_ h;obtain⟨z,h⟩:=iW (xM (by have:=d.text_;omega)) (xM (by have:=e.text_;omega)) h;have z:o.value.text.size=o'.value.text.size:=by omega
 obtain⟨f,B⟩:=append_inj h (by rw[Array.length_toList,Array.length_toList];exact z);refine⟨?_,B⟩;obtain⟨k,i,⟨E,F,g⟩⟩:=o;obtain⟨G,H,⟨C,D,c⟩⟩:=o';obtain⟨g⟩:=g;obtain⟨c⟩:=c;simp only at j n u y f;have f:g=c:=Array.toList_inj.1 f;subst j n u y f;rfl
mutual
theorem NJ:∀{p c:Pred}{r r':ck},LP p->LP c->sD p++r=sD c++r'->p=c/\r=r'
 |.mk op f l L args,.mk g e M j d,r,r',n,o,h=>by
  obtain⟨u,y,z,A,B,C⟩:=n;obtain⟨D,E,F,G,H,I⟩:=o;have J:jH []=[]:=rfl;simp only[sD,vD,J,append_assoc,cons_append,nil_append]at h;obtain⟨O,h⟩:=iW u D h;obtain⟨P,h⟩:=iW y E h;obtain⟨Q,h⟩:=Ji z F h;obtain⟨R,h⟩:=Ji A G h;obtain⟨S,h⟩:=iW (xM B) (xM H) h;obtain⟨T,U⟩:=J4 C I aC h
  grind
theorem J4:∀{ps c:cn}{r r':ck},Rx ps->Rx c->ps.length=c.length->pL ps++r=pL c++r'->ps=c/\r=r'
 |[],[],r,r',_,_,_,h=>⟨rfl,by simpa[pL]using h⟩
 |[],_::_,_,_,_,_,d,_=>by simp at d
 |_::_,[],_,_,_,_,d,_=>by simp at d
 |p::ps,g::c,r,r',e,f,d,h=>by
  simp only[pL,append_assoc]at h;obtain⟨j,h⟩:=NJ e.1 f.1 h;obtain⟨n,o⟩:=J4 e.2 f.2 bg h
  grind
end
structure bSZ(t:Step):Prop where
 wher:LP t.wher
 cols:∀n∈t.columns,uR n
 on_:∀p∈t.on,uR p.1/\uR p.2
 group_:∀n∈t.group,uR n
 order_:∀p∈t.order,uR p.1
theorem kH{n:Int}(c: -8000000<=n)(d:n<=8000000):uR n:=⟨aC,aC⟩
theorem Hg:uR 0:=⟨by decide,by decide⟩
theorem vC:YH fS:=⟨Hg,Hg,Hg,Hg,az⟩
theorem bfQ{v:VV}(h:eqV v zeroV=true):v=zeroV:=Vj.1 h
theorem Yu{o:OV}(h:rX l o≠0)(f:l.length<=8000000)(d:uR o.kind):YH o:=by
 unfold rX at h;split at h
 .omega
 .rename_i c;simp only[Bool.or_eq_true,not_or,Bool.not_eq_true',Bool.not_eq_false,decide_eq_true_eq]at c;have e:=bfQ c.2;refine⟨d,kH aC aC,?_,?_,?_⟩
  all_goals rw[e]
  .exact vC.vkind_
  .exact vC.int_
  .exact vC.text_
theorem WL{cols params:bn}{o:OV}(h:kindOf cols params o≠0)(j:cols.length<=8000000)(n:params.length<=8000000)(f:Nh o.value):YH o:=by
 unfold kindOf at h;split at h
 .rename_i d;have d:o.kind=3:=bg
  split at h
  .omega
  .rename_i g;simp only[Bool.or_eq_true,not_or,Bool.not_eq_true',Bool.not_eq_false,bne_iff_ne,ne_eq,Classical.not_not,pI,Bool.and_eq_true,decide_eq_true_eq]at g;refine⟨kH aC aC,kH aC aC,?_,f.int_,f.text_⟩;have c:=g.2.1;unfold kA at c;split at c
   .grind
   .split at c
    .rename_i e;simp at e;exact kH aC aC
    .split at c
     .rename_i e;simp at e;exact kH aC aC
     .split at c
      .rename_i e;simp at e;exact kH aC aC
      .cases c
 .split at h
  .rename_i d;simp at d;exact Yu h n (kH aC aC)
  .split at h
   .rename_i d;simp at d;exact Yu h j (kH aC aC)
   omega
theorem GU:∀ps:cn,(ps.length:Int)<=Dn ps
 |[]=>by simp[Dn]
 |p::ps=>by
  have:=GU ps;have:1<=Sa p:=by cases p;rename_i a;have:=GU a;simp only[Sa];omega
  simp only[Dn,length_cons];omega
theorem b3J(p:Pred):1<=Sa p:=by cases p;rename_i a;have:=GU a;simp only[Sa];omega
mutual
theorem V0{cols params:bn}(c:cols.length<=8000000)(d:params.length<=8000000):∀p:Pred,kI cols params p=true->D6 p->Sa p<=1000->LP p
 |.mk op n l r args,h,w,o=>by
  have u:=GU args;simp only[Sa]at o;unfold kI at h;split at h
  .rename_i e;simp only[Bool.and_eq_true,GY,beq_iff_eq]at h;have:args=[]:=eq_nil_of_length_eq_zero h.2;subst this;have f:=uM.1 h.1.1.2;have g:=uM.1 h.1.2;subst f g;have j:op=1\/op=2:=bk e
   exact⟨kH aC aC,by rw[h.1.1.1];exact Hg,vC,vC,ay,trivial⟩
  .split at h
   .rename_i e;simp only[Bool.and_eq_true,beq_iff_eq,bne_iff_ne,ne_eq,decide_eq_true_eq]at h;have:args=[]:=eq_nil_of_length_eq_zero h.1.1.1.1;subst this;have j:op=3:=bk e
    exact⟨kH aC aC,kH aC aC,WL h.1.2 c d w.1,WL (cols:=cols) (params:=params) aC c d w.2.1,ay,trivial⟩
   .split at h
    .rename_i e;simp only[Bool.and_eq_true,GY,beq_iff_eq]at h;have f:=uM.1 h.1.1.2;have g:=uM.1 h.1.2;subst f g
     have j:op=4\/op=5\/op=6:=by
      grind
     exact⟨kH aC aC,by rw[h.1.1.1];exact Hg,vC,vC,aC,R8 c d args h.2 w.2.2 aC⟩
    .cases h
theorem R8{cols params:bn}(c:cols.length<=8000000)(d:params.length<=8000000):∀ps:cn,yJ cols params ps=true->Nj ps->Dn ps<=1000->Rx ps
 |[],_,_,_=>trivial
 |p::ps,h,w,e=>by
  simp only[yJ,Bool.and_eq_true]at h;have f:=b3J p;have g:=GU ps;simp only[Dn]at e;exact⟨V0 c d p h.1 w.1 aC,R8 c d ps h.2 w.2 aC⟩
end
theorem cFZ{cols params:bn}(h:iC cols params p=0)(c:cols.length<=8000000)(d:params.length<=8000000)(w:D6 p):LP p:=by
 unfold iC at h;split at h
 .cases h
 .split at h
  .cases h
  .rename_i e;split at h
   .cases h
   .rename_i g;have f:kI cols params p=true:=bg
    simp only[Bool.or_eq_true,not_or,decide_eq_true_eq]at e;have j:=HH p 0 aC
    have:Sa p<=24:=by
     omega
    exact V0 c d p f w aC
theorem cDZ:LP fO:=⟨Hg,Hg,vC,vC,az,trivial⟩
def bWJ:Query->Prop
 |.mk _ _ w co on gr od _ _=>LP w/\(∀n∈co,uR n)/\(∀p∈on,uR p.1/\uR p.2)/\(∀n∈gr,uR n)/\∀p∈od,uR p.1
def QI(q:Query):Prop:=
 match q with
 |.mk op ta w co on gr od li args=>bWJ (.mk op ta w co on gr od li [])/\∀a∈args,QI a
 termination_by SizeOf.sizeOf q
theorem Jg{op:Int}{w:Pred}{on:bu}{args:ce}:
 QI (.mk op ta w co on gr od li args)↔bWJ (.mk op ta w co on gr od li [])/\∀a∈args,QI a:=by rw[QI.eq_def]
theorem CR{α:Type}{T:List α->α->Prop}{l:List α}{P:α->Prop}(h:Good T l)(d:∀c x,T c x->P x):∀x∈l,P x:=λx e=>by
 obtain⟨j,f⟩:=mem_iff_getElem?.1 e;exact d _ _ (h j x f)
theorem WV{n:Int}(c:l.length<=1000)(h:CQ l n=true):uR n:=by
 have:=eY.1 h;exact kH aC aC
theorem Y4{s:jQ}{ps:bn}{op ta:Int}{w:Pred}{co:bn}{on:bu}{gr:bn}{od:bz}{li:Int}{args:ce}{a b:bn}(G:a.length<=12)(H:b.length<=12)(o:ps.length<=1000)(u:D6 w)(h:(eK s ps (.mk op ta w co on gr od li args) a b).2=0):
 bWJ (.mk op ta w co on gr od li []):=by
 unfold eK at h;dsimp only at h;split at h
 .simp[eC]at h
 .rename_i f;rw[not_or]at f;have y:cR (.mk op ta w co on gr od li args):=Classical.not_not.1 f.2;obtain⟨_,z,A,B,C⟩:=y
  have D:LP w:=by
   rcases z with rfl|rfl
   .simp only[show¬((2:Int)=1)by decide,if_false,if_true]at h;split at h
    .rename_i e;exact cFZ e aC aC u
    .rename_i e;simp[eC]at h;omega
   .exact cDZ
  have E:∀n∈co,uR n:=by
   rcases A with rfl|rfl
   .simp only[show¬((3:Int)=1)by decide,show¬((3:Int)=2)by decide,if_false,if_true]at h;split at h
    .rename_i e;exact CR e.2 λc x t=>WV aC t
    .simp[eC]at h
   grind
  have F:∀p∈on,uR p.1/\uR p.2:=by
   have d:Good (nH a b) on->∀p∈on,uR p.1/\uR p.2:=λg=>CR g λc x t=>⟨WV aC t.1,WV aC t.2.1⟩
   rcases B with rfl|rfl|rfl
   .simp only[show¬((4:Int)=1)by decide,show¬((4:Int)=2)by decide,show¬((4:Int)=3)by decide,if_false,if_true]at h;split at h
    .grind
    .simp[eC]at h
   .simp only[show¬((5:Int)=1)by decide,show¬((5:Int)=2)by decide,show¬((5:Int)=3)by decide,show¬((5:Int)=4)by decide,if_false,if_true]at h;split at h
    .grind
    .simp[eC]at h
   grind
  have j:(∀n∈gr,uR n)/\∀p∈od,uR p.1:=by
   have d:nA a gr od li->(∀n∈gr,uR n)/\∀p∈od,uR p.1:=λr=>⟨CR r.group_ λc x t=>WV aC t.1,CR r.order_ λc x t=>WV aC t⟩
   rcases C with rfl|rfl|⟨rfl,rfl,_⟩
   .simp only[show¬((9:Int)=1)by decide,show¬((9:Int)=2)by decide,show¬((9:Int)=3)by decide,show¬((9:Int)=4)by decide,show¬((9:Int)=5)by decide,if_false,if_true]at h;split at h
    .grind
    .simp[eC]at h
   .simp only[show¬((10:Int)=1)by decide,show¬((10:Int)=2)by decide,show¬((10:Int)=3)by decide,show¬((10:Int)=4)by decide,show¬((10:Int)=5)by decide,show¬((10:Int)=9)by decide,if_false,if_true]at h;split at h
    .grind
    .simp[eC]at h
   grind
  exact⟨D,E,F,j.1,j.2⟩
theorem U1{s:jQ}{ps:bn}(c:ps.length<=1000):∀q:Query,(aL s ps q).2=0->QW q->QI q
 |.mk op ta w co on gr od li args,h,d=>by
  obtain⟨f,o,a,b,g,j,n⟩:=lL h;rw[Ma]at d;rw[Jg];exact⟨Y4 g j c d.1 n,λq e=>U1 c q (f q e) (d.2 q e)⟩
def Ew(a:Int)(n:Bool)(e:Int):Bool:=if n=true then decide (0<=a)&&decide (a<e)else a==0
def b0X:Vc.Spec:=λc m h K=>∃a n e,c=[cI a,cB n,cI e]/\K (cB (Ew a n e)) m h
def bQZ:Vc.Spec:=λc m h K=>∃v p,c=[aP v]/\fH h p v/\∀r:Bool,(r=true↔p=fO)->K (cB r) m h
def YC:Vc.Spec:=λc m h K=>∃v t,c=[aT v]/\uO h t v/\∀r:Bool,(r=true↔cR t.query)->K (cB r) m h
noncomputable def bHZ(v:wQ)(m:MH)(h:PH):Ctx:=
 dE [(197,bQZ)] [] ([3,5,7,9].map λk=>(k,{A:=Unit,st:=λ_=>bU 66 67 [(1,.at (.ptr 1 0))] [(1,.cells 101 (v.enc.map .val))] m h})) [] false
def TD(op:Int)(m:MH)(h:PH)(K:bo):Prop:=
  dR (op==1) (K (iR 0) m h) (op==2) (K (iR 1) m h) (dR (op==3) (K (iR 1) m h) (op==9) (K (iR 1) m h) (dR (op==4) (K (iR 2) m h) (op==5) (K (iR 2) m h) (dR (op==6) (K (iR 2) m h) (op==7) (K (iR 2) m h) (dR (op==8) (K (iR 2) m h) (op==10) (K (iR 2) m h) (K (iR (Int.negSucc 0)) m h)))))
def TC(a:Int)(n:Bool)(e:Int)(m:MH)(h:PH)(K:bo):Prop:=
  branch n (iA a 0 (K (Af (decide (a<e))) m h) (K bH m h)) (K (Af (a==0)) m h)
def Tf(v:PV)(m:MH)(h:PH)(K:bo):Prop:=
  eU v.op 0 (eU v.cmp 0 (∃(r:Bool),hX (FY v.left.enc r) r (∃(c:Bool),hX (FY (zR v) c) c (K (Af (uI v==0)) m h) (K bH m h)) (K bH m h)) (K bH m h)) (K bH m h)
def TB(v:wQ)(m:MH)(h:PH)(K:bo):Prop:=
  ∃(I:Unit->Prop),cV v.op 1 (cV v.table 0 (K bH m h) (∃(x:Unit),aA (I x) eM (aA (nL v) (m=m) (bT h h)))) (∃(x:Unit),aA (I x) eM (aA (nL v) (m=m) (bT h h)))/\∀(x:Unit),I x->∃(I1:Unit->Prop),cV v.op 2 (sP (λf p=>aA (eO (gP v.where_) (gP f)) (fH h p f) (∀(r:Bool),gX (iE r↔p=K6) (!r) (K bH m h) (∃(d:Unit),aA (I1 d) eM (aA (nL v) (m=m) (bT h h)))))) (∃(d:Unit),aA (I1 d) eM (aA (nL v) (m=m) (bT h h)))/\∀(d:Unit),I1 d->∃(I2:Unit->Prop),cV v.op 3 (fR (aH v.columns) 0 (K bH m h) (∃(e:Unit),aA (I2 e) eM (aA (nL v) (m=m) (bT h h)))) (∃(e:Unit),aA (I2 e) eM (aA (nL v) (m=m) (bT h h)))/\∀(e:Unit),I2 e->∃(I3:Unit->Prop),cV v.op 4
 (cV v.op 5 (fR (aH v.on) 0 (K bH m h) (∃(c:Unit),aA (I3 c) eM (aA (nL v) (m=m) (bT h h)))) (∃(c:Unit),aA (I3 c) eM (aA (nL v) (m=m) (bT h h)))) (∃(c:Unit),aA (I3 c) eM (aA (nL v) (m=m) (bT h h)))/\∀(c:Unit),I3 c->cV v.op 9 (cV v.op 10 (eU (aH v.group) 0 (eU (aH v.order) 0 (K (Af (v.limit==0)) m h) (K bH m h)) (K bH m h)) (K iM m h)) (K iM m h)
theorem agJ:bm 147 RL:=by
 refine iQ func147 ?_;rintro d m h K ⟨op,rfl,c⟩;refine⟨dE [] [] [] [] false,rfl,aG,TD op m h K,ax,?_⟩;dsimp only[TD,push_cast]
 repeat' (first|(refine aD (λ_=>?_) (λ_=>?_))|(refine Bu c ?_;simp only[arity];simp only[*,Bool.or_false,Bool.false_or,Bool.or_true,Bool.true_or,Bool.and_true,Bool.true_and,Bool.and_false,Bool.false_and,Bool.not_true,Bool.not_false,Bool.false_eq_true,if_true,if_false, ↓reduceIte];done)|(refine Bu c ?_;simp only[arity];grind))
theorem agZ:bm 148 b0X:=by
 refine iQ func148 ?_;rintro f m h K ⟨a,n,e,rfl,c⟩;refine⟨dE [] [] [] [] false,rfl,aG,TC a n e m h K,ax,?_⟩;dsimp only[TC,push_cast];unfold Ew at c;refine aD (λd=>?_) (λd=>?_)
 .rw[if_pos d]at c;refine aF (λg=>kG c ?_) (λg=>kG c ?_)
  .grind
  grind
 .rw[if_neg (by simp[d])]at c;exact kG c rfl
theorem Z0:bm 197 bQZ:=by
 refine iQ func197 ?_;rintro g m h K ⟨v,p,rfl,j,d⟩;refine⟨dE [] [] [] [] false,rfl,aG,Tf v m h K,ax,?_⟩;dsimp only[Tf,push_cast];obtain⟨op,n,l,r,args⟩:=p;obtain⟨rfl,rfl,rfl,rfl,o⟩:=j.parts;have u:=EL o.slen;have bad:¬(Pred.mk v.op v.cmp v.left v.right args=fO)->K (.val (.bool false)) m h:=λy=>d false ⟨λe=>(by cases e),λe=>(y e).elim⟩;simp only[fO,Pred.mk.injEq]at d bad;refine aD (λz=>aD (λA=>⟨_,Bo v.left fS,aD (λc=>⟨_,Bo v.right fS,aD (λf=>d _ ?_) (λf=>bad ?_)⟩) (λc=>bad ?_)⟩) (λA=>bad ?_)) (λz=>bad ?_)
 .rw[u];exact⟨λe=>⟨bg,bg,uM.1 c,uM.1 f,e⟩,λe=>e.2.2.2.2⟩
 .grind
 .intro e;rw[uM.2 e.2.2.1]at c;cases c
 .grind
 grind
theorem agX:bm 149 YC:=by
 refine iQ func149 ?_;rintro J m h K ⟨v,t,rfl,x,g⟩;refine⟨bHZ v m h,rfl,aE Z0 aG,TB v m h K,ax,?_⟩;dsimp only[TB,push_cast];obtain⟨op,ta,w,co,on,gr,od,li,le,R⟩:=t;obtain⟨u,y,z,A,B,C,xs,D,_,_⟩:=x;simp only at u y z A B C xs D;have S:=EL A.slen;have T:=EL B.slen;have U:=EL C.slen;have V:=EL xs.slen;simp only[Step.query,cR]at g;subst u y D;have bad:∀{P:Prop},¬P->((v.op=1\/v.table=0)/\(v.op=2\/w=fO)/\(v.op=3\/co=[])/\(v.op=4\/v.op=5\/on=[])/\(v.op=9\/v.op=10\/(gr=[]/\od=[]/\v.limit=0))->P)->K (.val (.bool false)) m h:=λj L=>g false ⟨λe=>(by cases e),λe=>(j (L e)).elim⟩;have M:∀{n:Nat}{α:Type}{l:List α},n=l.length->((n:Int)>0↔l≠[]):=fun{n α l} e=>by rw[e,ne_eq, <-length_eq_zero_iff];omega
 refine⟨λ_=>v.op=1\/v.table=0,aD (λd=>aD (λc=>bad (P:=v.op=1\/v.table=0) ?_ λe=>e.1) (λc=>⟨(),.inr bg,MT⟩)) (λd=>⟨(),.inl bg,MT⟩),λ_ E=>?_⟩
 .grind
 refine⟨λ_=>v.op=2\/w=fO,aD (λd=>⟨v.where_,w,rfl,z,λr F=>aD (λc=>bad (P:=v.op=2\/w=fO) ?_ λe=>e.2.1) (λc=>⟨(),.inr (F.1 bg),MT⟩)⟩) (λd=>⟨(),.inl bg,MT⟩),λ_ G=>?_⟩
 .rw[not_or];refine⟨bg,λe=>?_⟩;rw[F.2 e]at c;cases c
 refine⟨λ_=>v.op=3\/co=[],aD (λd=>aF (λc=>bad (P:=v.op=3\/co=[]) ?_ λe=>e.2.2.1) (λc=>⟨(),.inr ?_,MT⟩)) (λd=>⟨(),.inl bg,MT⟩),λ_ H=>?_⟩
 .grind
 .grind
 refine⟨λ_=>v.op=4\/v.op=5\/on=[],aD (λd=>aD (λo=>aF (λc=>bad (P:=v.op=4\/v.op=5\/on=[]) ?_ λe=>e.2.2.2.1) (λc=>⟨(),.inr (.inr ?_),MT⟩)) (λo=>⟨(),.inr (.inl bg),MT⟩)) (λd=>⟨(),.inl bg,MT⟩),λ_ I=>?_⟩
 .grind
 .grind
 refine aD (λd=>aD (λc=>?_) (λc=>g true ⟨λ_=>⟨E,G,H,I,.inr (.inl bg)⟩,λ_=>rfl⟩)) (λd=>g true ⟨λ_=>⟨E,G,H,I,.inl bg⟩,λ_=>rfl⟩);have d:v.op≠9:=bg
 have c:v.op≠10:=bg
 have f:¬(gr=[]/\od=[]/\v.limit=0)->K (.val (.bool false)) m h:=λj=>bad j λe=>(e.2.2.2.2.resolve_left d).resolve_left c;refine aD (λO=>aD (λQ=>g _ ?_) (λQ=>f λe=>?_)) (λO=>f λe=>?_)
 .grind
 .grind
 .grind
open Classical in
noncomputable def Wr(a co:bn):bn×Int:=if co≠[]/\Good (λ_ c=>CQ a c=true) co then mX (co.map λc=>a.getD c.toNat 0)else eC 120
def cxZ:Vc.Spec:=λc m h K=>∃s t a co,c=[cS s,cS t]/\Ints h s a/\Ints h t co/\KR K m h (Wr a co)
def Ue:Vc.Spec:=λc m h K=>∃s t u a b on,c=[cS s,cS t,cS u]/\Ints h s a/\Ints h t b/\jC h u on/\a.length<=1000/\b.length<=1000/\∀r:Bool,(r=true↔Good (nH a b) on)->K (cB r) m h
def RA:Vc.Spec:=λc m h K=>∃s v a t,c=[cS s,aT v]/\Ints h s a/\uO h t v/\a.length<=1000/\∀r:Bool,(r=true↔nA a t.group t.order t.limit)->K (cB r) m h
def eB(b:Bool):bt:=[.bool b]
noncomputable def bHX(s t:Sl)(m:MH)(h:PH):Ctx:=
 dE [] [(4,{A:=Nat,st:=λi=>bU 51 53 [(0,sv s),(1,sv t),(14,sv t),(15,iv t.len),(16,iv i)] [] m h}),
  (13,{A:=Nat×bn,st:=λ⟨i,l⟩=>bU 51 53 [(0,sv s),(8,.at (.lst 34)),(35,sv t),(36,iv t.len),(37,iv i)] [(34,.lst 3 1 (l.map eI))] m h})] [] [] false
noncomputable def bHQ(s t u:Sl)(m:MH)(h:PH):Ctx:=
 dE [] [(4,{A:=Nat×cq×cq,st:=λ⟨i,x,y⟩=>bU 75 78 [(0,sv s),(1,sv t),(7,.at (.lst 15)),(8,.at (.lst 18)),(19,sv u),(20,iv u.len),(21,iv i)] [(15,.lst 4 1 (x.map eB)),(18,.lst 4 1 (y.map eB))] m h})] [(9,{A:=Nat×cq×cq×Int×Int,st:=λ⟨i,x,y,a,b⟩=>bU 75 78 [(0,sv s),(1,sv t),(7,.at (.lst 15)),(8,.at (.lst 18)),(11,iv a),(12,iv b),(19,sv u),(20,iv u.len),(21,iv i)] [(15,.lst 4 1 (x.map eB)),(18,.lst 4 1 (y.map eB))] m h})] [] false
noncomputable def bGJ(s:Sl)(v:wQ)(m:MH)(h:PH):Ctx:=
 dE [] [(3,{A:=Nat×cq,st:=λ⟨i,x⟩=>bU 68 70 [(0,sv s),(3,.at (.ptr 3 0)),(5,.at (.lst 12)),(14,sv v.group),(15,iv v.group.len),(16,iv i)] [(3,.cells 101 (v.enc.map .val)),(12,.lst 4 1 (x.map eB))] m h}),
  (12,{A:=Nat,st:=λi=>bU 68 70 [(0,sv s),(3,.at (.ptr 3 0)),(43,sv v.order),(44,iv v.order.len),(45,iv i)] [(3,.cells 101 (v.enc.map .val))] m h})] [] [] false
def TA(s t:Sl)(m:MH)(h:PH)(K:bo):Prop:=
  eU (aH t) 0 (bW K 120 m h) (pN (λI x=>aA (I x) (aJ s) (aA (aJ t) (aJ t) (aA (bI t) (bA x) (aA (m=m) (h=h) True)))) (λI f x=>I x->aY (↑x:Int) (aH t) (bJ (λb o=>aI (aW t.a b o) (0<=(↑x:Int)) ((↑x:Int)<aH t) (∃(y:Int),aK m h b (o+bM x 1) (bB y)/\aY y 0 (bW K 120 m h) (iA y (aH s) (bW K 120 m h) (∃(c:Nat),aA (I c) (f c<f x) (aA (aJ s) (aJ t) (aA (aJ t) (bI t) (aA (gK (bE x 1)=bO c) (m=m) (bT h h))))))))) (fR (aH t) 12 (bW K 2 m h) (Bc t 8 (KN (λI1 c=>aA (I1 c) (aJ s) (aA (eL 34) (aJ t) (aA (bI t) (bA c.1) (aA (lK (wG (aH t) (oN cL)) c.2) (m=m) (bT h h))))) (λI1 g c=>I1 c->aY (↑c.1:Int) (aH t) (bJ (λb o=>aI (aW t.a b o)
 (0<=(↑c.1:Int)) ((↑c.1:Int)<aH t) (∃(y:Int),aK m h b (o+bM c.1 1) (bB y)/\bJ (λj n=>aI (aW s.a j n) (0<=y) (y<aH s) (∃(u:Int),Cy (aK m h j (n+gY y 1) (bB u)) 0 (↑c.1:Int) (p9 c) (λe=>aA (mI (p9 c) (lD c.1) e) (xB e) (∃(d:Nat×bn),aA (I1 d) (g d<g c) (aA (aJ s) (eL 34) (aA (aJ t) (bI t) (aA (gK (bE c.1 1)=bO d.1) (lK (List.set (p9 c) (lD c.1) (By (fV u) 1 e)) d.2) (dY m m h h))))))))))) (tY h (p9 c) K m)))))))
abbrev mO(a:cq):List bt:=List.map eB a
abbrev Bh(a:Nat×cq×cq×Int×Int):Int:=a.2.2.2.1
abbrev zL(a:Nat×cq×cq×Int×Int):Int:=a.2.2.2.2
abbrev FZ(a:Nat×cq×cq×Int×Int):List bt:=mO a.2.2.1
attribute [push_cast] mO Bh zL FZ
def Tz(s t u:Sl)(m:MH)(h:PH)(K:bo):Prop:=
  aA (cH (aH s)) (aH s<=aH s) (aA (zX s 1) (zU (aH s)) (aA (cH (aH t)) (aH t<=aH t) (aA (zX t 1) (zU (aH t)) (∃(I:Nat×cq×cq->Prop)(j:Nat×cq×cq->Nat),(∃(x:Nat×cq×cq),aA (I x) (aJ s) (aA (aJ t) (eL 15) (aA (eL 18) (aJ u) (aA (bI u) (bA x.1) (aA (bR 4 1 (wG (aH s) (oN wN))=bR 4 1 (mO x.2.1)) (bR 4 1 (wG (aH t) (oN wN))=bR 4 1 (mO x.2.2)) (aA (m=m) (h=h) True))))))/\∀(x:Nat×cq×cq),I x->aY (↑x.1:Int) (aH u) (bJ (λb o=>aI (aW u.a b o) (0<=(↑x.1:Int)) ((↑x.1:Int)<aH u) (∃(y:Int×Int),aA (aK m h b (o+bM x.1 2) (vO y)) (cH 0) (aA ((0:Int)<2) (cH 1) ((1:Int)<2/\∃(I1:Nat×cq×List
 Bool×Int×Int->Prop),aY y.1 0 (K bH m h) (iA y.1 (aH s) (K bH m h) (aY y.2 0 (K bH m h) (iA y.2 (aH t) (K bH m h) (∃(c:Nat×cq×cq×Int×Int),aA (I1 c) (aJ s) (aA (aJ t) (eL 15) (aA (eL 18) (dH y.1 (Bh c)) (aA (dH y.2 (zL c)) (aJ u) (aA (bI u) (cD x.1 c.1) (aA (bR 4 1 (mO x.2.1)=bR 4 1 (mO c.2.1)) (bR 4 1 (mO x.2.2)=bR 4 1 (FZ c)) (dY m m h h))))))))))/\∀(c:Nat×cq×cq×Int×Int),I1 c->bJ (λn z=>aI (aW s.a n z) (0<=Bh c) (Bh c<aH s) (∃(A:Int),aK m h n (z+gY (Bh c) 1) (bB A)/\bJ (λB C=>aI (aW t.a B C) (0<=zL c) (zL c<aH t) (∃(D:Int),aK m h B (C+gY (zL c) 1) (bB D)/\cV A D (K bH m
 h) (pE (Bh c) (mO c.2.1) (λe=>mI (mO c.2.1) (Bh c).toNat e/\∃(E:Bool),hX (tW 1 e (tM E)) E (K bH m h) (pE (zL c) (FZ c) (λF=>mI (FZ c) (zL c).toNat F/\∃(G:Bool),hX (tW 1 F (tM G)) G (K bH m h) (pE (Bh c) (mO c.2.1) (λf=>aA (mI (mO c.2.1) (Bh c).toNat f) (xB f) (aA (cH (zL c)) (zL c<sQ (FZ c)) (∃(g:bt),aA (mI (FZ c) (zL c).toNat g) (xB g) (∃(d:Nat×cq×cq),aA (I d) (j d<j x) (aA (aJ s) (aJ t) (aA (eL 15) (eL 18) (aA (aJ u) (bI u) (aA (gK (bE c.1 1)=bO d.1) (bR 4 1 (List.set (mO c.2.1) (Bh c).toNat (By C9 1 f))=bR 4 1 (mO d.2.1)) (aA (bR 4 1 (List.set
 (FZ c) (zL c).toNat (By C9 1 g))=bR 4 1 (mO d.2.2)) (m=m) (bT h h)))))))))))))))))))))))) (K iM m h)))))
def Ty(s:Sl)(v:wQ)(m:MH)(h:PH)(K:bo):Prop:=
  Bc s 1 (∃(I:Nat×cq->Prop)(g:Nat×cq->Nat),(∃(x:Nat×cq),aA (I x) (aJ s) (aA (eP 3) (eL 12) (aA (aJ v.group) (bI v.group) (aA (bA x.1) (nL v) (cZ (bR 4 1 (wG (aH s) (oN wN))=bR 4 1 (mO x.2)) m m h h)))))/\∀(x:Nat×cq),I x->aY (↑x.1:Int) (aH v.group) (bJ (λb o=>aI (aW v.group.a b o) (0<=(↑x.1:Int)) ((↑x.1:Int)<aH v.group) (∃(y:Int),aK m h b (o+bM x.1 1) (bB y)/\aY y 0 (K bH m h) (iA y (aH s) (K bH m h) (pE y (mO x.2) (λe=>mI (mO x.2) y.toNat e/\∃(j:Bool),hX (tW 1 e (tM j)) j (K bH m h) (pE y (mO x.2) (λd=>aA (mI (mO x.2) y.toNat d) (xB d) (∃(c:Nat×cq),aA (I c) (g c<g x) (aA (aJ s) jR (aA (eL 12)
 (aJ v.group) (aA (bI v.group) (gK (bE x.1 1)=bO c.1) (aA (nL v) (bR 4 1 (List.set (mO x.2) y.toNat (By C9 1 d))=bR 4 1 (mO c.2)) (aA (m=m) (h=h) True)))))))))))))) (fR (aH v.order) 12 (K bH m h) (pN (λI1 c=>aA (I1 c) (aJ s) (aA (eP 3) (aJ v.order) (aA (bI v.order) (bA c) (aA (nL v) (m=m) (bT h h))))) (λI1 n c=>I1 c->aY (↑c:Int) (aH v.order) (bJ (λb o=>aI (aW v.order.a b o) (0<=(↑c:Int)) ((↑c:Int)<aH v.order) (∃(y:Int×Bool),aK m h b (o+bM c 2) (A4 y)/\aY y.1 0 (K bH m h) (iA y.1 (aH s) (K bH m h) (∃(f:Nat),aA (I1 f) (n f<n c) (aA (aJ s) jR (aA (aJ v.order) (bI v.order) (aA (gK (bE c 1)=bO f) (nL v) (dY m m h h))))))))) (iA v.limit 0 (K (Af
 (decide (v.limit<=100))) m h) (K bH m h))))))
theorem KR.bad{r:bn×Int}{e:Int}(c:KR K m h r)(d:r=eC e):K (.tup [.val (.slice none 0 0),.val (.int .i64 e)]) m h:=c.err (.refl _) d
theorem afJ:bm 150 cxZ:=by
 refine iQ func150 ?_;rintro J m h K ⟨s,t,a,co,rfl,F,y,n⟩;refine⟨bHX s t m h,rfl,aG,TA s t m h K,ax,?_⟩;dsimp only[TA,push_cast];have V:=F.slen;have z:=y.slen;have G:=y.len;unfold Wr at n;refine aD (λH=>n.bad (if_neg λe=>e.1 ((EL y.slen).1 H))) (λH=>?_);have A:co≠[]:=λe=>bg
 refine⟨λi=>i<=co.length/\gJ (λ_ c=>CQ a c=true) co i,λi=>co.length-i,⟨0,⟨aC,.zero⟩,MT⟩,λi⟨W,I⟩=>aF (λd=>?_) (λB=>?_)⟩
 .obtain⟨c,j⟩:=eV z d;obtain⟨b,o,e,r⟩:=y.at' j;refine⟨b,o,e,aC,d,c,.imm r,aF (λC=>n.bad (if_neg λg=>?_)) (λC=>aF (λL=>n.bad (if_neg λg=>?_)) (λL=>⟨i+1,⟨aC,I.succ j (eY.2 ⟨aC,aC⟩)⟩,bg,MT⟩))⟩
  .have:=eY.1 (g.2 i c j);omega
  .have:=eY.1 (g.2 i c j);omega
 have f:=I.all aC;rw[if_pos ⟨A,f⟩]at n;refine aF (λC=>n.big (.refl _) rfl bf) (λC=>⟨aC,aC,aC,aC,?_⟩);refine⟨λ⟨i,l⟩=>i<=co.length/\l=((co.take i).map λc=>a.getD c.toNat 0)++replicate (co.length-i) 0,λ⟨i,_⟩=>co.length-i,⟨(0,replicate co.length 0),⟨aC,ay⟩,?_⟩,?_⟩
 .have:List.map eI (replicate co.length (0:Int))=replicate (Int.toNat (t.len:Int)) [fV 0]:=by rw[map_replicate,Int.toNat_natCast,z];rfl
  grind
 rintro⟨i,l⟩ ⟨M,rfl⟩;dsimp only;refine aF (λd=>?_) (λB O h' D X=>n.ok D rfl bf ?_)
 .obtain⟨c,j⟩:=eV z d;obtain⟨b,o,e,r⟩:=y.at' j;have u:=eY.1 (f i c j);obtain⟨P,Q,R,S⟩:=F.inb u.1 u.2;refine⟨b,o,e,aC,d,c,.imm r,P,Q,R,u.1,aC,a.getD c.toNat 0,.imm S,aC,bf,eI 0,?_,by simp[eI],(i+1,((co.take (i+1)).map λc=>a.getD c.toNat 0)++replicate (co.length-(i+1)) 0),⟨aC,rfl⟩,aC,?_⟩
  .grind
  .have T:co.length-i=(co.length-(i+1))+1:=by omega
   have U:(List.map eI (((co.take i).map λc=>a.getD c.toNat 0)++replicate (co.length-i) 0)).set (Int.toNat (i:Int)) (fV (a.getD c.toNat 0)::([]++List.drop 1 (eI 0)))=List.map eI (((co.take (i+1)).map λc=>a.getD c.toNat 0)++replicate (co.length-(i+1)) 0):=by
    have Y:((co.take i).map λc=>a.getD c.toNat 0).length=i:=bf
    rw[T,replicate_succ,take_add_one,j,Int.toNat_natCast];simp only[map_append,map_cons];have E:(List.map eI ((co.take i).map λc=>a.getD c.toNat 0)).length=i:=bg
    rw[set_append_right _ _ aC,E,Nat.sub_self];simp[eI]
   rw[<-U];exact MT
 .have:i=co.length:=by omega
  subst this
  grind
structure Seen(n:Nat)(x:cq)(l:bn):Prop where
 len:x.length=n
 iff:∀k:Nat,k<n->(x[k]? =some true↔(k:Int)∈l)
theorem Seen.zero(n:Nat):Seen n (replicate n false) []:=⟨ay,λk c=>bg⟩
theorem Seen.map0{n:Nat}{s:Sl}(h:s.len=n):List.map eB (replicate n false)=replicate (Int.toNat (s.len:Int)) [Value.bool false]:=by rw[map_replicate,Int.toNat_natCast,h];rfl
theorem Seen.look{n:Nat}{x:cq}(h:Seen n x l){c:Int}(d:0<=c)(e:c<n):∃y,(List.map eB x)[c.toNat]? =some (eB y)/\(y=true↔c∈l):=by
 have f:=h.len;have g:c.toNat<x.length:=by omega
 refine⟨x[c.toNat],bg,?_⟩;have:=h.iff c.toNat aC
 grind
theorem Seen.set{n:Nat}{x:cq}(h:Seen n x l){c:Int}(f:0<=c)(g:c<n):Seen n (x.set c.toNat true) (l++[c]):=by
 refine⟨bk h.len,λk d=>?_⟩;have j:=h.len;rw[getElem?_set,mem_append,mem_singleton];by_cases e:c.toNat=k
 .grind
 .rw[if_neg e,h.iff k d]
  grind
theorem Seen.cells(x:cq)(k:Nat)(y:Bool):(List.map eB x).set k (Value.bool true::([]++List.drop 1 (eB y)))=List.map eB (x.set k true):=by rw[map_set];rfl
theorem afZ:bm 151 Ue:=by
 refine iQ func151 ?_;rintro T m h K ⟨s,t,u,a,b,on,rfl,I,J,F,al,bl,L⟩;refine⟨bHQ s t u m h,rfl,aG,Tz s t u m h K,ax,?_⟩;dsimp only[Tz,push_cast];have U:=I.slen;have V:=J.slen;have W:=F.slen;have G:=F.len;refine⟨aC,aC,aC,aC,aC,aC,aC,aC,?_⟩;refine⟨λ⟨i,x,y⟩=>i<=on.length/\gJ (nH a b) on i/\Seen a.length x ((on.take i).map λp=>p.1)/\Seen b.length y ((on.take i).map λp=>p.2),λ⟨i,_,_⟩=>on.length-i,⟨(0,replicate a.length false,replicate b.length false),⟨aC,.zero,.zero _,.zero _⟩,?_⟩,?_⟩
 .rw[Seen.map0 U,Seen.map0 V];exact MT
 rintro⟨i,x,y⟩ ⟨X,H,A,B⟩;dsimp only at X H A B⊢
 refine aF (λn=>?_) (λY=>L true ⟨λ_=>H.all aC,λ_=>rfl⟩);obtain⟨p,o⟩:=eV W n;obtain⟨Z,o1,e1,r1⟩:=F.at o;have bad:¬nH a b (on.take i) p->K (.val (.bool false)) m h:=λhn=>L false ⟨λe=>(by cases e),λe=>(Good.not o hn e).elim⟩;refine⟨Z,o1,e1,aC,n,p,.imm r1,aC,aC,aC,aC,λ⟨i',x',y',c,d⟩=>i'=i/\x'=x/\y'=y/\c=p.1/\d=p.2/\CQ a p.1=true/\CQ b p.2=true,?_,?_⟩
 .refine aF (λz=>bad λg=>?_) (λz=>aF (λC=>bad λg=>?_) (λC=>aF (λD=>bad λg=>?_) (λD=>aF (λh4=>bad λg=>?_) (λh4=>⟨(i,x,y,p.1,p.2),⟨rfl,rfl,rfl,rfl,rfl,eY.2 ⟨aC,aC⟩,eY.2 ⟨aC,aC⟩⟩,MT⟩))))
  .have:=eY.1 g.1;omega
  .have:=eY.1 g.1;omega
  .have:=eY.1 g.2.1;omega
  .have:=eY.1 g.2.1;omega
 rintro⟨i,x,y,c,d⟩ ⟨rfl,rfl,rfl,rfl,rfl,M,O⟩;dsimp only;have f:=eY.1 M;have j:=eY.1 O;obtain⟨b2,o2,e2,r2⟩:=I.inb f.1 f.2;obtain⟨b3,o3,e3,r3⟩:=J.inb j.1 j.2;obtain⟨P,Q,q1⟩:=A.look f.1 f.2;obtain⟨R,S,q2⟩:=B.look j.1 j.2;have lx:=A.len;have ly:=B.len;refine⟨b2,o2,e2,f.1,aC,_,.imm r2,b3,o3,e3,j.1,aC,_,.imm r3,aD (λz=>bad λg=>?_) (λz=>⟨f.1,bf,_,Q,P,rfl,aD (λC=>bad λg=>?_) (λC=>⟨j.1,bf,_,S,R,rfl,aD (λD=>bad λg=>?_) (λD=>?_)⟩)⟩)⟩
 .rw[g.2.2.1]at z;simp at z
 .obtain⟨q,E,e⟩:=mem_map.1 (q1.1 C);exact(g.2.2.2 q E).1 e
 .obtain⟨q,E,e⟩:=mem_map.1 (q2.1 D);exact(g.2.2.2 q E).2 e
 refine⟨f.1,bf,_,Q,by simp[eB],j.1,bf,_,S,by simp[eB],(i+1,x.set p.1.toNat true,y.set p.2.toNat true),⟨aC,H.succ o ⟨M,O,bg,λq E=>⟨λe=>?_,λe=>?_⟩⟩,?_,?_⟩,aC,?_⟩
 .grind
 .grind
 .rw[take_add_one,o,map_append];exact A.set f.1 f.2
 .rw[take_add_one,o,map_append];exact B.set j.1 j.2
 .rw[<-Seen.cells x p.1.toNat P, <-Seen.cells y p.2.toNat R];exact MT
theorem afX:bm 153 RA:=by
 refine iQ func153 ?_;rintro S m h K ⟨s,v,a,t,rfl,T,x,al,O⟩;refine⟨bGJ s v m h,rfl,aG,Ty s v m h K,ax,?_⟩;dsimp only[Ty,push_cast];have U:=T.slen;have V:=x.group_.slen;have W:=x.order_.slen;have P:=x.group_.len;have Q:=x.order_.len;have X:=x.limit_;have bad:¬nA a t.group t.order t.limit->K (.val (.bool false)) m h:=λA=>O false ⟨λe=>(by cases e),λe=>(A e).elim⟩;refine⟨aC,aC,aC,aC,?_⟩;refine⟨λ⟨i,u⟩=>i<=t.group.length/\gJ (Gv a) t.group i/\Seen a.length u (t.group.take i),λ⟨i,_⟩=>t.group.length-i,⟨(0,replicate a.length false),⟨aC,.zero,.zero _⟩,?_⟩,?_⟩
 .rw[Seen.map0 U];exact MT
 rintro⟨i,u⟩ ⟨G,E,B⟩;dsimp only at G E B⊢
 have Y:=B.len;refine aF (λd=>?_) (λC=>?_)
 .obtain⟨c,j⟩:=eV V d;obtain⟨H,I,J,L⟩:=x.group_.at' j;have f:¬Gv a (t.group.take i) c->K (.val (.bool false)) m h:=λA=>bad λo=>Good.not j A o.group_;refine⟨H,I,J,aC,d,c,.imm L,aF (λM=>f λg=>?_) (λM=>aF (λz=>f λg=>?_) (λz=>?_))⟩
  .have:=eY.1 g.1;omega
  .have:=eY.1 g.1;omega
  obtain⟨y,R,Z⟩:=B.look (c:=c) aC aC;refine⟨aC,bf,_,R,y,rfl,aD (λF=>f λg=>g.2 (Z.1 F)) (λF=>⟨aC,bf,_,R,by simp[eB],(i+1,u.set c.toNat true),⟨aC,E.succ j ⟨eY.2 ⟨aC,aC⟩,λe=>?_⟩,?_⟩,aC,?_⟩)⟩
  .grind
  .rw[take_add_one,j];exact B.set aC aC
  .rw[<-Seen.cells u c.toNat y];exact MT
 have gg:=E.all aC;clear G E C B Y;refine aF (λM=>bad λo=>by have:=o.len_;omega) (λM=>?_);refine⟨λi=>i<=t.order.length/\gJ (JG a) t.order i,λi=>t.order.length-i,⟨0,⟨aC,.zero⟩,MT⟩,λi⟨G,D⟩=>aF (λd=>?_) (λC=>?_)⟩
 .obtain⟨c,j⟩:=eV W d;obtain⟨H,I,J,L⟩:=x.order_.at j;have n:¬JG a (t.order.take i) c->K (.val (.bool false)) m h:=λA=>bad λo=>Good.not j A o.order_;refine⟨H,I,J,aC,d,c,.imm L,aF (λz=>n λg=>?_) (λz=>aF (λF=>n λg=>?_) (λF=>⟨i+1,⟨aC,D.succ j (eY.2 ⟨aC,aC⟩)⟩,bg,MT⟩))⟩
  .have:=eY.1 (show CQ a c.1=true from g);omega
  .have:=eY.1 (show CQ a c.1=true from g);omega
 have oo:=D.all aC;rw[X];refine aF (λz=>O _ ⟨λe=>⟨gg,oo,aC,z,bk e⟩,λe=>decide_eq_true e.high⟩) (λz=>bad λo=>by have:=o.low;omega)
def Ds(ks:List bn)(a:Int)(n:Bool):bn:=if n=true then ks.getD a.toNat []else[]
noncomputable def Dy(s:jQ)(ks:List bn)(t:Step):bn×Int:=
 if arity t.op<0\/Ew t.left (decide (arity t.op>0)) ks.length=false\/Ew t.right (decide (arity t.op>1)) ks.length=false then eC 120
 else if(eK s [] t.query (Ds ks t.left (decide (arity t.op>0))) (Ds ks t.right (decide (arity t.op>1)))).2=100 then eC 120
 else eK s [] t.query (Ds ks t.left (decide (arity t.op>0))) (Ds ks t.right (decide (arity t.op>1)))
def RI:Vc.Spec:=λc m h K=>∃sc d v s e ks t,c=[aS sc,cS d,aT v]/\iF h s sc/\nU s/\uO h t v/\cT m d 36 1 (e.map eS)/\Slices h e ks/\(∀k∈ks,k.length<=12)/\∀r,fin r=Dy s ks t->KR K m h r
noncomputable def caQ(sc:bZ)(kk:Sl)(v:wQ)(m:MH)(h:PH):Ctx:=
 dE [(147,RL),(148,b0X),(149,YC),(69,u7),(138,u6),(150,cxZ),(151,Ue),(152,Dj),(153,RA),(154,LR),(78,Po)] [] [(4,{A:=Int,st:=λn=>bU 132 135 [(1,sv kk),(3,.at (.ptr 3 0)),(5,.at (.ptr 5 0)),(8,iv n)] [(3,.cells 27 (sc.enc.map .val)),(5,.cells 101 (v.enc.map .val))] m h}),
  (9,{A:=Int×Sl,st:=λ⟨n,l⟩=>bU 132 135 [(1,sv kk),(3,.at (.ptr 3 0)),(5,.at (.ptr 5 0)),(8,iv n),(9,sv l),(10,.at (.val (.slice none 0 0)))] [(3,.cells 27 (sc.enc.map .val)),(5,.cells 101 (v.enc.map .val))] m h}),
  (11,{A:=Sl×Sl,st:=λ⟨l,r⟩=>bU 132 135 [(3,.at (.ptr 3 0)),(5,.at (.ptr 5 0)),(9,sv l),(10,sv r)] [(3,.cells 27 (sc.enc.map .val)),(5,.cells 101 (v.enc.map .val))] m h}),
  (34,{A:=Sl×Sl×Bool,st:=λ⟨l,r,b⟩=>bU 132 135 [(5,.at (.ptr 5 0)),(9,sv l),(10,sv r),(11,bv b)] [(5,.cells 101 (v.enc.map .val))] m h})] [] false
abbrev DG(a:Bool)(b:Prop)(c:Sl×Sl×Bool->Prop)(d:Sl×Sl)(e:wQ)(g:MH)(i:PH):Prop:=(iE a↔b)->∃(x:Sl×Sl×Bool),aA (c x) eN (aA (aZ d.1 x.1) (aZ d.2 x.2.1) (aA (kN a x.2.2) (nL e) (aA (g=g) (i=i) True)))
attribute [push_cast] DG
def QG(sc:bZ)(kk:Sl)(v:wQ)(m:MH)(h:PH)(K:bo):Prop:=
  AP v.op (λo=>∃(I:Int->Prop),aY (arity o) 0 (bW K 120 m h) (∃(a:Int)(n:Bool)(e:Int),hX (iR v.left::eZ (Af (decide (arity o>0))) (aH kk)=iR a::eZ (Af n) e) (!(Ew a n e)) (bW K 120 m h) (∃(C:Int)(G:Bool)(H:Int),hX (iR v.right::eZ (Af (decide (arity o>1))) (aH kk)=iR C::eZ (Af G) H) (!(Ew C G H)) (bW K 120 m h) (∃(x:Int),aA (I x) (aJ kk) (aA (eP 3) eN (aA (dH (arity o) x) (cG sc) (aA (nL v) (m=m) (bT h h)))))))/\∀(x:Int),I x->Qf (λJ t=>aA (eO (kQ v.enc) (kQ J.enc)) (uO h t J) (∀(r:Bool),gX (iE r↔cR (Query.mk t.op t.table t.wher t.columns t.on t.group t.order t.limit [])) (!r) (bW K 120 m h) (∃(I1:Int×Sl->Prop),fR x 0 (bJ (λb B=>aI (aW kk.a b B) (0<=v.left)
 (v.left<aH kk) (∃(y:Sl),aK m h b (B+gY v.left 1) (aR y)/\∃(z:Int×Sl),aA (I1 z) (aJ kk) (aA (eP 3) eN (aA (dH x z.1) (aZ y z.2) (aA (eQ sQn) (cG sc) (cZ (nL v) m m h h))))))) (∃(z:Int×Sl),aA (I1 z) (aJ kk) (aA (eP 3) eN (aA (dH x z.1) (sQn=sQs z.2) (aA (eQ sQn) (cG sc) (cZ (nL v) m m h h)))))/\∀(z:Int×Sl),I1 z->∃(I2:Sl×Sl->Prop),fR z.1 1 (bJ (λb B=>aI (aW kk.a b B) (0<=v.right) (v.right<aH kk) (∃(y:Sl),aK m h b (B+gY v.right 1) (aR y)/\∃(d:Sl×Sl),aA (I2 d) jR (aA (eP 5) (aZ z.2 d.1) (aA (aZ y d.2) (cG sc) (aA (nL v) (m=m) (bT h h))))))) (∃(d:Sl×Sl),aA (I2 d) jR (aA (eP 5) (aZ z.2 d.1) (aA (sQn=sQs d.2) (cG sc) (aA (nL v) (m=m) (bT h
 h)))))/\∀(d:Sl×Sl),I2 d->∃(I3:Sl×Sl×Bool->Prop),dR (v.op==1) (aY v.table 0 (bW K 120 m h) (iA v.table (kM sc) (bW K 120 m h) (AQ sc v.table h (λs A=>lI K s 0 m A)))) (v.op==2) (FG (cX d.1 (tO EZ (gP v.where_))) h (λc p L=>cV (iC c p L) 0 (bW K (iC c p L) m h) (∃(f:Sl×Sl×Bool),aA (I3 f) eN (aA (aZ d.1 f.1) (aZ d.2 f.2.1) (aA (yR f.2.2) (nL v) (aA (m=m) (h=h) True)))))) (dR (v.op==3) (∃(s:Sl),Aw (λg a c=>aI (cJ d.1 v.columns=cJ s g) (Ints h s a) (Ints h g c) (∀(D:Sl)(A:PH),bQ h A (Ints A D (Wr a c).1) (K (CV.tup (fZ D (CV.val (fV (Wr a c).2)))) m A)))) (v.op==4) (qP (λs g=>Aw (λu a b=>∃(B:bu),aA (cX d.1 (cJ d.2 v.on)=cX s
 (cJ g u)) (Ints h s a) (aA (Ints h g b) (jC h u B) (aA (gS a) (gS b) (∀(j:Bool),DG j (Good (nH a b) B) I3 d v m h)))))) (dR (v.op==5) (qP (λs g=>Aw (λu a b=>∃(B:bu),aA (cX d.1 (cJ d.2 v.on)=cX s (cJ g u)) (Ints h s a) (aA (Ints h g b) (jC h u B) (aA (gS a) (gS b) (∀(j:Bool),DG j (Good (nH a b) B) I3 d v m h)))))) (v.op==6) (AO d.1 d.2 h (λa b j=>DG j (a=b) I3 d v m h)) (dR (v.op==7) (AO d.1 d.2 h (λa b j=>DG j (a=b) I3 d v m h)) (v.op==8) (AO d.1 d.2 h (λa b j=>DG j (a=b) I3 d v m h)) (dR (v.op==9) (∃(s:Sl)(E:wQ)(a:bn)(g:Step),aA (fZ d.1 (kQ v.enc)=fZ s (kQ E.enc)) (Ints h s a) (aA (uO h g E) (gS a) (∀(j:Bool),DG j
 (nA a g.group g.order g.limit) I3 d v m h))) (v.op==10) (AO d.1 d.2 h (λa b j=>gX (iE j↔a=b) j (∃(s:Sl)(E:wQ)(C:bn)(g:Step),aA (fZ d.1 (kQ v.enc)=fZ s (kQ E.enc)) (Ints h s C) (aA (uO h g E) (gS C) (∀(P:Bool),DG P (nA C g.group g.order g.limit) I3 d v m h))) (∃(f:Sl×Sl×Bool),aA (I3 f) eN (aA (aZ d.1 f.1) (aZ d.2 f.2.1) (aA (El f.2.2) (nL v) (aA (m=m) (h=h) True)))))) (∃(f:Sl×Sl×Bool),aA (I3 f) eN (aA (aZ d.1 f.1) (aZ d.2 f.2.1) (aA (yR f.2.2) (nL v) (aA (m=m) (h=h) True))))))))/\∀(f:Sl×Sl×Bool),I3 f->dR (!f.2.2) (bW K 120 m h) (v.op==4) (bY h 1 (lY (aR f.1) (aR f.2.1)) (λs A=>∃(D:Sl)(k:List bn),aA (vG (mQ s)=vG (mQ D))
 (cMQ A D k) (aA (k.length<=10) (∀(M:bn),List.Mem M k->M.length<=12) (∀(O:Sl)(F:PH),bQ A F (Ints F O k.flatten) (lI K O 0 m F))))) (xC f.1 h (λl=>∀(s:Sl)(A:PH),bQ h A (Ints A s l) (lI K s 0 m A)))))))
theorem cT.rdAt{m:MH}{h:PH}{s:Sl}{E sz:Nat}{xs:List bt}(r:cT m s E sz xs){i:Nat}{e:bt}(d:xs[i]? =some e):∃b o,s.a=some ⟨b,o,none⟩/\aK m h b (o+i*sz) e:=by
 rcases r.ex with⟨_,rfl⟩|⟨b,g,c,rfl,n,_,_,_,u⟩
 .simp at d
 .refine⟨b,0,rfl,.lent c E (0,0) n ?_⟩;apply ext_getElem?;intro j;rw[getElem?_take];by_cases f:j<e.length
  .rw[if_pos f,getElem?_drop,Nat.zero_add];have y:=oK r.rows.len d j e[j] (getElem?_eq_getElem f)
   grind
  grind
theorem ayZ{kk:Sl}{c:bx}(r:cT m kk 36 1 (c.map eS))(g:Slices h c ks){a:Int}(j:0<=a)(n:a<ks.length):∃b o sl,kk.a=some ⟨b,o,none⟩/\aK m h b (o+a.toNat*1) [.slice sl.a sl.len sl.cap]/\Ints h sl (ks.getD a.toNat []):=by
 have d:a.toNat<ks.length:=by omega
 have f:a.toNat<c.length:=by rw[g.1];exact d
 obtain⟨b,o,e,rd⟩:=cT.rdAt (h:=h) r (i:=a.toNat) (e:=eS c[a.toNat]) bg;refine⟨b,o,c[a.toNat],e,rd,?_⟩;rw[getD_eq_getElem?_getD,getElem?_eq_getElem d];exact g.2 a.toNat _ _ (getElem?_eq_getElem f) (getElem?_eq_getElem d)
theorem Yv(h:∀k∈ks,k.length<=12)(a:Int)(n:Bool):(Ds ks a n).length<=12:=by
 unfold Ds
 grind
open Classical in
theorem cIQ{sc:bZ}{kk:Sl}{v:wQ}{s:jQ}{ss:bx}{ks:List bn}{t:Step}{m:MH}{h:PH}{K:bo}(hs:iF h s sc)(h8:nU s)(x:uO h t v)(hr:cT m kk 36 1 (ss.map eS))(U:Slices h ss ks)(Y:∀k∈ks,k.length<=12)
 (Z:∀r,fin r=Dy s ks t->KR K m h r):QG sc kk v m h K:=by
 dsimp only[QG,push_cast];have F:Tst K m h (Dy s ks t):=⟨Z⟩
 clear Z
 have kl:kk.len=ks.length:=by
  have:=cT.slen hr;rw[length_map]at this;rw[this,U.1]
 have ex:=x;have a9:=hs.tables.slen;obtain⟨op,ta,w,co,on,gr,od,li,le,ri⟩:=t;obtain⟨e0,e1,xw,xc,xo,xg,xs,e2,e3,e4⟩:=x;simp only at e0 e1 xw xc xo xg xs e2 e3 e4;subst e0 e1 e2 e3 e4;have a':=Yv Y v.left (decide (arity v.op>0));have a5:=Yv Y v.right (decide (arity v.op>1))
 have d:Dy s ks ⟨v.op,v.table,w,co,on,gr,od,v.limit,v.left,v.right⟩=if arity v.op<0\/Ew v.left (decide (arity v.op>0)) ks.length=false\/Ew v.right (decide (arity v.op>1)) ks.length=false then eC 120
  else if(eK s [] (.mk v.op v.table w co on gr od v.limit []) (Ds ks v.left (decide (arity v.op>0))) (Ds ks v.right (decide (arity v.op>1)))).2=100 then eC 120
  else eK s [] (.mk v.op v.table w co on gr od v.limit []) (Ds ks v.left (decide (arity v.op>0))) (Ds ks v.right (decide (arity v.op>1))):=rfl
 generalize hA:Ds ks v.left (decide (arity v.op>0))=A at d a';generalize hB:Ds ks v.right (decide (arity v.op>1))=B at d a5;generalize Dy s ks ⟨v.op,v.table,w,co,on,gr,od,v.limit,v.left,v.right⟩=R at F d;refine⟨v.op,rfl,λn=>n=arity v.op/\¬(arity v.op<0\/Ew v.left (decide (arity v.op>0)) ks.length=false\/Ew v.right (decide (arity v.op>1)) ks.length=false),aF (λC=>F.err bg az (.refl _)) (λC=>⟨v.left,_,(kk.len:Int),rfl,aD (λh2=>?_) (λh2=>⟨v.right,_,(kk.len:Int),rfl,aD (λh3=>?_) (λh3=>⟨arity v.op,⟨rfl,?_⟩,MT⟩)⟩)⟩),?_⟩
 .rw[kl]at h2;exact F.err bg az (.refl _)
 .rw[kl]at h3;exact F.err bg az (.refl _)
 .grind
 rintro n ⟨rfl,a0⟩;rw[if_neg a0]at d;have P:¬arity v.op<0:=λe=>a0 (.inl e);refine⟨v,_,rfl,ex,λr a1=>aD (λC=>F.err ?_ (e:=120) az (.refl _)) (λC=>?_)⟩
 .have hn:¬cR (.mk v.op v.table w co on gr od v.limit []):=λe=>bg
  have e:eK s [] (.mk v.op v.table w co on gr od v.limit []) A B=eC 100:=by
   unfold eK;exact if_pos (.inr hn)
  rw[d,e];rfl
 have hu:cR (.mk v.op v.table w co on gr od v.limit []):=a1.1 bg;clear a1 C r
 have J:eK s [] (.mk v.op v.table w co on gr od v.limit []) A B=if v.op=1 then(if 0<=v.table/\v.table<s.tables.length then mX (jA s v.table)else eC 100)
  else if v.op=2 then(if iC A [] w=0 then mX A else eC (iC A [] w))
  else if v.op=3 then(if co≠[]/\Good (λ_ c=>CQ A c=true) co then mX (co.map λc=>A.getD c.toNat 0)else eC 100)
  else if v.op=4 then(if Good (nH A B) on then mX (A++B)else eC 100)
  else if v.op=5 then(if Good (nH A B) on then mX A else eC 100)
  else if v.op=9 then(if nA A gr od v.limit then mX A else eC 100)
  else if v.op=10 then(if A=B/\nA A gr od v.limit then mX A else eC 100)
  else(if A=B then mX A else eC 100):=by
  unfold eK;exact if_neg (λe=>e.elim P λe=>e hu)
 have a8:∀l,(mX l).2≠100:=λl=>by unfold mX;grind
 have L:∀{l},eK s [] (.mk v.op v.table w co on gr od v.limit []) A B=mX l->R=mX l:=fun{l} e=>bg
 have D:eK s [] (.mk v.op v.table w co on gr od v.limit []) A B=eC 100->R=eC 120:=λe=>by rw[d,e];rfl
 have a2:∀{e},e≠100->eK s [] (.mk v.op v.table w co on gr od v.limit []) A B=eC e->R=eC e:=fun{e} h0 e1=>by rw[d,e1,if_neg (by simpa[eC]using h0)]
 clear d;refine⟨λ⟨n,l⟩=>n=arity v.op/\Ints h l A,aF (λC=>?_) (λC=>⟨(arity v.op,⟨none,0,0⟩),⟨rfl,?_⟩,MT⟩),?_⟩
 .have G:Ew v.left (decide (arity v.op>0)) ks.length=true:=by
   grind
  unfold Ew at G;rw[if_pos (decide_eq_true C)]at G;simp only[Bool.and_eq_true,decide_eq_true_eq]at G;obtain⟨b,o,Q,e,rd,S⟩:=ayZ hr U G.1 G.2;refine⟨b,o,e,G.1,aC,Q,rd,(arity v.op,Q),⟨rfl,?_⟩,MT⟩;rw[<-hA,Ds,if_pos (decide_eq_true C)];exact S
 .rw[<-hA,Ds,if_neg bg];exact⟨.nil _ _,ay⟩
 rintro⟨n,l⟩ ⟨rfl,u⟩;dsimp only;refine⟨λ⟨l,r⟩=>Ints h l A/\Ints h r B,aF (λC=>?_) (λC=>⟨(l,⟨none,0,0⟩),⟨u,?_⟩,MT⟩),?_⟩
 .have G:Ew v.right (decide (arity v.op>1)) ks.length=true:=by
   grind
  unfold Ew at G;rw[if_pos (decide_eq_true C)]at G;simp only[Bool.and_eq_true,decide_eq_true_eq]at G;obtain⟨b,o,Q,e,rd,S⟩:=ayZ hr U G.1 G.2;refine⟨b,o,e,G.1,aC,Q,rd,(l,Q),⟨u,?_⟩,MT⟩;rw[<-hB,Ds,if_pos (decide_eq_true C)];exact S
 .rw[<-hB,Ds,if_neg bg];exact⟨.nil _ _,ay⟩
 clear u l;rintro⟨l,r⟩ ⟨u,j⟩;dsimp only;have T:∀b:Bool,(b=true->R=mX (if v.op=4 then A++B else A))->(b=false->R=eC 120)->∃x:Sl×Sl×Bool,((λ⟨l,r,b⟩=>Ints h l A/\Ints h r B/\(b=true->R=mX (if v.op=4 then A++B else A))/\(b=false->R=eC 120):Sl×Sl×Bool->Prop)) x/\(l,r,b)=x:=λb g1 g2=>⟨_,⟨u,j,g1,g2⟩,rfl⟩
 refine⟨λ⟨l,r,b⟩=>Ints h l A/\Ints h r B/\(b=true->R=mX (if v.op=4 then A++B else A))/\(b=false->R=eC 120),?_,?_⟩
 .refine aD (λM=>?_) (λM=>aD (λV=>?_) (λV=>aD (λc3=>?_) (λc3=>?_)))
  .have M:v.op=1:=bg
   rw[if_pos M]at J;refine aF (λC=>F.err (D bg) az (.refl _)) (λC=>aF (λh2=>F.err (D bg) az (.refl _)) (λh2=>⟨sc,s,v.table,rfl,hs,h8,λQ h' E S=>F.ok (L bg) E S⟩))
  .have M:¬v.op=1:=bg
   have V:v.op=2:=bg
   rw[if_neg M,if_pos V]at J;have a6:iC A [] w≠100:=by unfold iC;omega
   refine⟨l,⟨none,0,0⟩,v.where_,A,[],w,rfl,u,⟨.nil _ _,ay⟩,xw,aD (λC=>?_) (λC=>⟨(l,r,true),⟨u,j,λ_=>?_,λe=>(by cases e)⟩,MT⟩)⟩
   .have C:iC A [] w≠0:=bg
    exact F.err (a2 a6 bg) C (.refl _)
   grind
  .have M:¬v.op=1:=bg
   have V:¬v.op=2:=bg
   have c3:v.op=3:=bg
   rw[if_neg M,if_neg V,if_pos c3]at J;refine⟨l,v.columns,A,co,rfl,u,xc,?_⟩;unfold Wr;split
   .rename_i e;have hR:R=mX (co.map λc=>A.getD c.toNat 0):=L bg;refine F.all _ ?_;rw[hR];unfold mX;split
    .rename_i C;show fin (_,0)=_;rw[aAJ,mX,if_pos C]
    .exact Vd (e:=2) az
   .rename_i e;refine F.all _ ?_;rw[D bg];exact Vd az
  have M:¬v.op=1:=bg
  have V:¬v.op=2:=bg
  have c3:¬v.op=3:=bg
  rw[if_neg M,if_neg V,if_neg c3]at J;refine aD (λH=>?_) (λH=>aD (λc5=>?_) (λc5=>?_))
  .have H:v.op=4:=bg
   rw[if_pos H]at J;refine⟨l,r,v.on,A,B,on,rfl,u,j,xo,aC,aC,λz I=>⟨(l,r,z),⟨u,j,λe=>?_,λe=>?_⟩,MT⟩⟩
   .grind
   grind
  .have H:¬v.op=4:=bg
   have c5:v.op=5:=bg
   rw[if_neg H,if_pos c5]at J;refine⟨l,r,v.on,A,B,on,rfl,u,j,xo,aC,aC,λz I=>⟨(l,r,z),⟨u,j,λe=>?_,λe=>?_⟩,MT⟩⟩
   .grind
   grind
  have H:¬v.op=4:=bg
  have c5:¬v.op=5:=bg
  rw[if_neg H,if_neg c5]at J;simp only[if_neg H]
  have f:¬v.op=9->¬v.op=10->∀z:Bool,(z=true↔A=B)->∃x:Sl×Sl×Bool,(Ints h x.1 A/\Ints h x.2.1 B/\(x.2.2=true->R=mX A)/\(x.2.2=false->R=eC 120))/\x=(l,r,z):=λn9 a3 z I=>by
   grind
  have W:¬v.op=9->¬v.op=10->∃(s:Sl)(t:Sl)(a:bn)(b:bn),[mQ l,mQ r]=[mQ s,mQ t]/\Ints h s a/\Ints h t b/\∀z:Bool,(z=true↔a=b)->∃x:Sl×Sl×Bool,(Ints h x.1 A/\Ints h x.2.1 B/\(x.2.2=true->R=mX A)/\(x.2.2=false->R=eC 120))/\x=(l,r,z):=λn9 a3=>⟨l,r,A,B,rfl,u,j,f n9 a3⟩
  refine aD (λc6=>?_) (λc6=>aD (λc7=>?_) (λc7=>aD (λc8=>?_) (λc8=>?_)))
  .have c6:v.op=6:=bg
   refine⟨l,r,A,B,rfl,u,j,λz I=>?_⟩;obtain⟨_,g,rfl⟩:=f aC aC z I;exact⟨(l,r,z),g,MT⟩
  .have c7:v.op=7:=bg
   refine⟨l,r,A,B,rfl,u,j,λz I=>?_⟩;obtain⟨_,g,rfl⟩:=f aC aC z I;exact⟨(l,r,z),g,MT⟩
  .have c8:v.op=8:=bg
   refine⟨l,r,A,B,rfl,u,j,λz I=>?_⟩;obtain⟨_,g,rfl⟩:=f aC aC z I;exact⟨(l,r,z),g,MT⟩
  clear f W T;refine aD (λX=>?_) (λX=>aD (λO=>?_) (λO=>?_))
  .have X:v.op=9:=bg
   rw[if_pos X]at J;refine⟨l,v,A,_,rfl,u,ex,aC,λz I=>⟨(l,r,z),⟨u,j,λe=>L bg,λe=>D bg⟩,MT⟩⟩
  .have X:¬v.op=9:=bg
   have O:v.op=10:=bg
   rw[if_neg X,if_pos O]at J;refine⟨l,r,A,B,rfl,u,j,λy hy=>aD (λy1=>⟨l,v,A,_,rfl,u,ex,aC,λz I=>⟨(l,r,z),⟨u,j,λe=>L bg,λe=>D bg⟩,MT⟩⟩) (λy1=>⟨(l,r,false),⟨u,j,(λe=>(by cases e)),λe=>D bg⟩,MT⟩)⟩
  .exfalso;have c6:¬v.op=6:=bg
   have c7:¬v.op=7:=bg
   have c8:¬v.op=8:=bg
   have X:¬v.op=9:=bg
   have O:¬v.op=10:=bg
   refine P ?_;unfold arity
   grind
 clear T u j l r;rintro⟨l,r,b⟩ ⟨u,j,g1,g2⟩;dsimp only at g1 g2⊢
 refine aD (λC=>F.err (g2 bg) az (.refl _)) (λC=>?_);have g:=g1 bg;refine aD (λH=>λQ h' E a4=>?_) (λH=>⟨l,A,rfl,u,λs' h' E S=>?_⟩)
 .rw[if_pos bg]at g;refine⟨Q,[A,B],rfl,⟨⟨[l,r],a4,rfl,λi k e=>?_⟩,ay⟩,ay,λk hk=>?_,λb' h2 a7 S=>F.ok g (E.trans a7) bg⟩
  .match i,e with
   |0,e=>simp at e;subst e;exact⟨l,rfl,u.mono E⟩
   |1,e=>simp at e;subst e;exact⟨r,rfl,j.mono E⟩
   |i+2,e=>simp at e
  .rcases mem_cons.1 hk with rfl|hk
   .exact a'
   grind
 .rw[if_neg bg]at g;exact F.ok g E S
theorem aYJ:bm 89 RI:=by
 refine iQ func89 ?_;rintro f m h K ⟨sc,e,v,s,u,ks,t,rfl,g,j,x,n,c,d,o⟩;refine⟨caQ sc e v m h,rfl,aE agJ (aE agZ (aE agX (aE EU (aE Jx (aE afJ (aE afZ (aE Gm (aE afX (aE Q5 (aE Mt aG)))))))))),QG sc e v m h K,ax,?_⟩;exact cIQ g j x n c d o
noncomputable def C0(s:jQ):List bn->cg->List bn×Int
 |ks,[]=>(ks,0)
 |ks,t::ts=>if(Dy s ks t).2=0 then C0 s (ks++[(Dy s ks t).1]) ts else(ks,(Dy s ks t).2)
noncomputable def jD(s:jQ)(ts:cg)(rs:bn):Int:=
 if eH s≠0 then eH s else if 1024<ts.length\/32<rs.length then 2 else if(C0 s [] ts).2≠0 then(C0 s [] ts).2 else if rs.all (λr=>decide (0<=r)&&decide (r<ts.length))=true then 0 else 120
structure rJ(h:PH)(p r:Sl)(ts:cg)(rs:bn):Prop where
 steps:∃vs,dC h p 22 (vs.map wQ.enc)/\Steps h vs ts
 roots:Ints h r rs
 len:ts.length<=1000000000
def Ry:Vc.Spec:=λc m h K=>∃sc p r s ts rs,c=[aS sc,aPl p r]/\iF h s sc/\rJ h p r ts rs/\∀d,K (.tup [cS d,cI (jD s ts rs)]) m h
noncomputable def cgZ(sc:bZ)(p r:Sl):Ctx:=
 qV [(73,CX),(89,RI)] [(8,{A:=Nat×Sl×MH×PH,st:=λ⟨i,c,m,h⟩=>bU 76 78 [(2,.at (.ptr 2 0)),(3,.at (.ptr 3 0)),(7,sv c),(34,sv p),(35,iv p.len),(36,iv i)] [(2,.cells 27 (sc.enc.map .val)),(3,.cells 45 [.val (.slice p.a p.len p.cap),.val (.slice r.a r.len r.cap)])] m h}),
  (18,{A:=Nat×Sl×MH×PH,st:=λ⟨i,c,m,h⟩=>bU 76 78 [(3,.at (.ptr 3 0)),(7,sv c),(59,sv r),(60,iv r.len),(61,iv i)] [(3,.cells 45 [.val (.slice p.a p.len p.cap),.val (.slice r.a r.len r.cap)])] m h})] [] [] [1108,2108] [] false
abbrev KT(a:(Nat×Sl×MH×PH->Prop)->(Nat×Sl×MH×PH)->Prop)(b:(Nat×Sl×MH×PH->Prop)->(Nat×Sl×MH×PH->Nat)->(Nat×Sl×MH×PH)->Prop):Prop:=∃(x:Nat×Sl×MH×PH->Prop)(d:Nat×Sl×MH×PH->Nat),(∃(c:Nat×Sl×MH×PH),a x c)/\∀(c:Nat×Sl×MH×PH),b x d c
abbrev kK(a:Nat×Sl×MH×PH):Sl:=a.2.1
abbrev jT(a:Nat×Sl×MH×PH):MH×PH:=a.2.2
abbrev qB(a:Nat×Sl×MH×PH):Nat->Option Obj:=(jT a).1
abbrev qC(a:Nat×Sl×MH×PH):Nat->Nat->Option Value:=(jT a).2
attribute [push_cast] KT kK jT qB qC
def QP(sc:bZ)(p r:Sl)(m:MH)(h:PH)(K:bo):Prop:=
  Kx sc h (λs=>pP (eH s !=0) (bW K (eH s) m h) (aH p) 1024 (bW K 2 m h) (fR (aH r) 32 (bW K 2 m h) (aA (cH 0) (cH (aH p)) (aA (zX p 24) (zU (aH p)) (jU (λz A=>sA m A h z 36 1 []->KT (λI x=>aA (I x) iU (aA (eP 3) (aZ z (kK x)) (aA (aJ p) (bI p) (aA (bA x.1) (cG sc) (aI (eQ (oQ 45 (oJ (yG p) (yG r)))) (dJ A (jT x)) (fC h (jT x)) True))))) (λI B x=>I x->aY (↑x.1:Int) (aH p) (bJ (λb o=>aI (aW p.a b o) (0<=(↑x.1:Int)) ((↑x.1:Int)<aH p) (∃(y:wQ),aK (qB x) (qC x) b (o+bM x.1 22) y.enc/\Fp (λC k=>∃(v:wQ)(j:jQ)(D:bx)(n:List bn)(t:Step),aA (cC (cK sc) (fZ (kK x) (kQ y.enc))=cC (cK C) (fZ k (kQ v.enc)))
 (iF (qC x) j C) (aA (nU j) (uO (qC x) t v) (aI (cT (qB x) k 36 1 (gH D)) (Slices (qC x) D n) (∀(E:bn),List.Mem E n->E.length<=12) (∀(g:bn×Int),fin g=Dy j n t->∀(u:Sl)(e:PH),bQ (qC x) e (Ints e u g.1) (pP (g.2 !=0) (bW K g.2 (qB x) e) (aH u) 12 (bW K 2 (qB x) e) (∃(c:List bt),aI (cT (qB x) (dN (kK x)) 36 1 c) (kB c) (dO c) (jU (λF f=>fY (qB x) f (dN (kK x)) F 36 1 (dL c (aR u))->∃(d:Nat×Sl×MH×PH),aA (I d) (B d<B x) (aA iU jR (aA (aZ F (kK d)) (aJ p) (aA (bI p) (gK (bE x.1 1)=bO d.1) (aA (cG sc) (eQ (oQ 45 (oJ (yG p) (yG r)))) (aA (dJ f (jT d)) (fC e (jT d)) True))))))))))))))))
 (KT (λI1 c=>aA (I1 c) jR (aA (aZ (kK x) (kK c)) (aJ r) (aA (bI r) (bA c.1) (aA (eQ (oQ 45 (oJ (yG p) (yG r)))) (fJ (jT x) (jT c)) (kZ (dA (jT x) (jT c))))))) (λI1 f c=>I1 c->aY (↑c.1:Int) (aH r) (bJ (λb o=>aI (aW r.a b o) (0<=(↑c.1:Int)) ((↑c.1:Int)<aH r) (∃(y:Int),aK (qB c) (qC c) b (o+bM c.1 1) (bB y)/\aY y 0 (bW K 120 (qB c) (qC c)) (iA y (aH p) (bW K 120 (qB c) (qC c)) (∃(d:Nat×Sl×MH×PH),aA (I1 d) (f d<f c) (aA jR (aZ (kK c) (kK d)) (aA (aJ r) (bI r) (aA (gK (bE c.1 1)=bO d.1) (eQ (oQ 45 (oJ (yG p) (yG r)))) (aA (fJ (jT c) (jT d)) (dA (jT c) (jT d)) True))))))))) (lI K (kK c) 0 (qB
 c) (qC c)))))))))))
theorem cNQ(h:eH s=0):nU s:=λt c=>by
 obtain⟨i,d⟩:=mem_iff_getElem?.1 c;have e:Ey s:=Classical.byContradiction λf=>by rw[xO f]at h;cases h
 exact(e.2 i t d).1
structure bkQ(m0 m:MH)(h:PH)(kk:Sl)(ks:List bn):Prop where
 sub:Sub m0 m
 fresh:∀b i,kk.a=some ⟨b,i,none⟩->m0 b=none
 ex:∃ss,cT m kk 36 1 (ss.map eS)/\Slices h ss ks
 le12:∀k∈ks,k.length<=12
theorem bkQ.new{s:Sl}(x:sA m m' h s 36 1 []):bkQ m m' h s []:=by
 refine⟨λb o e=>?_,λb i e=>(x.fresh b i e).m_,⟨[],x.row,rfl,λj s k e=>by simp at e⟩,λk c=>by simp at c⟩;rw[x.other b (λi d=>by have:=(x.fresh b i d).m_;grind)];exact e
theorem bkQ.grown{m0:MH}{kk sl:Sl}{k:bn}(r:bkQ m0 m h kk ks)(le:PH.le h h')(u:Ints h' sl k)(C:k.length<=12):
 ∃xs,cT m ⟨kk.a,kk.len,kk.cap⟩ 36 1 xs/\xs.length=ks.length/\∀d m',fY m m' ⟨kk.a,kk.len,kk.cap⟩ d 36 1 (xs++[[.slice sl.a sl.len sl.cap]])->bkQ m0 m' h' d (ks++[k]):=by
 obtain⟨y,z,f⟩:=r.ex;refine⟨_,z,by rw[length_map,f.1],λd m' g=>⟨λb o e=>g.other b o (r.sub b o e) (λi c=>?_),λb i e=>?_,⟨y++[sl],?_,(f.mono le).snoc u⟩,λx A=>?_⟩⟩
 .rw[r.fresh b i c]at e;cases e
 .rcases g.fresh b i e with c|⟨j,c⟩
  .cases B:m0 b with
   |none=>rfl
   |some o=>rw[r.sub b o B]at c;cases c
  .exact r.fresh b j c
 .rw[map_append];exact g.row
 .rcases mem_append.1 A with n|n
  .exact r.le12 x n
  grind
theorem Steps.at'{p:Sl}{vs:List wQ}(r:dC h p 22 (vs.map wQ.enc))(s:Steps h vs ts)(c:ts[i]? =some t):∃b o v,p.a=some ⟨b,o,none⟩/\cO h b (o+i*22) (wQ.enc v)/\uO h t v:=by
 obtain⟨v,d,f⟩:=s.2 i t c;obtain⟨b,o,e,k⟩:=r.get (i:=i) (e:=wQ.enc v) (by simp[d])
 grind
theorem Steps.slen'{p:Sl}{vs:List wQ}(r:dC h p 22 (vs.map wQ.enc))(s:Steps h vs ts):p.len=ts.length:=by
 have:=r.len;simp at this;rw[this,s.1]
theorem rJ.at{p:Sl}(x:rJ h p r ts rs)(c:ts[i]? =some t):∃b o v,p.a=some ⟨b,o,none⟩/\cO h b (o+i*22) (wQ.enc v)/\uO h t v:=by
 obtain⟨f,d,e⟩:=x.steps;exact Steps.at' d e c
theorem rJ.slen{p:Sl}(x:rJ h p r ts rs):p.len=ts.length/\p.len<=p.cap:=by
 obtain⟨e,c,d⟩:=x.steps;exact⟨Steps.slen' c d,c.cap⟩
theorem rJ.mono{p:Sl}(x:rJ h p r ts rs)(le:PH.le h h'):rJ h' p r ts rs:=by
 obtain⟨c,d,f,g⟩:=x.steps;exact⟨⟨c,d.mono le,f,λi t e=>let⟨v,e1,e2⟩:=g i t e;⟨v,e1,e2.mono le⟩⟩,x.roots.mono le,x.len⟩
theorem aWJ(r:bn×Int):(r.2≠0/\fin r=eC r.2)\/(r.2=0/\12<r.1.length/\fin r=eC 2)\/(r.2=0/\r.1.length<=12/\fin r=(r.1,0)):=by
 unfold fin;by_cases h:r.2=0
 .rw[if_pos h];unfold mX;by_cases c:r.1.length<=12
  .grind
  .rw[if_neg c];exact .inr (.inl ⟨h,aC,rfl⟩)
 grind
theorem IS{s:jQ}{ts:cg}{rs:bn}(c:eH s=0)(d:¬(1024<ts.length\/32<rs.length)):jD s ts rs=if(C0 s [] ts).2≠0 then(C0 s [] ts).2 else if rs.all (λr=>decide (0<=r)&&decide (r<ts.length))=true then 0 else 120:=by
 unfold jD;omega
theorem Ny(d:ts[i]? =some t):C0 s ks (ts.drop i)=if(Dy s ks t).2=0 then C0 s (ks++[(Dy s ks t).1]) (ts.drop (i+1))else(ks,(Dy s ks t).2):=by
 have c:=(List.getElem?_eq_some_iff.1 d)
 obtain⟨c,e⟩:=c;rw[drop_eq_getElem_cons c,e];rfl
theorem a4Q:bm 48 Ry:=by
 refine EN func48 ?_;rintro Y m h K ⟨sc,p,r,s,ts,rs,rfl,R,x,hK⟩;refine⟨cgZ sc p r,rfl,aE Mu (aE aYJ aG),QP sc p r m h (lR h K),ax,?_⟩;show QP sc p r m h (lR h K);dsimp only[QP,push_cast];have Z:=x.slen.1;have rl:=x.roots.slen;have S:=x.len;have T:=x.roots.len;have done:∀{y:MH}{n:PH}{e:Int}{kk:Sl},Sub m y->PH.le h n->jD s ts rs=e->lR h K (.tup [cS kk,cI e]) y n:=fun{y n e kk} C J U=>.out C J bg;refine⟨sc,s,rfl,R,aD (λC=>?_) (λC=>?_)⟩
 .have C:eH s≠0:=bg
  exact done (kk:=⟨none,0,0⟩) (Sub.refl m) (.refl _) (by unfold jD;omega)
 have C:eH s=0:=bg
 refine aF (λJ=>?_) (λJ=>aF (λU=>?_) (λU=>⟨aC,aC,aC,aC,λk0 m1 L=>?_⟩))
 .exact done (kk:=⟨none,0,0⟩) (Sub.refl m) (.refl _) (by unfold jD;omega)
 .exact done (kk:=⟨none,0,0⟩) (Sub.refl m) (.refl _) (by unfold jD;omega)
 have z:=IS (s:=s) (ts:=ts) (rs:=rs) C aC;refine⟨λ⟨i,kk,y,n⟩=>i<=ts.length/\PH.le h n/\∃ks,bkQ m y n kk ks/\ks.length=i/\C0 s ks (ts.drop i)=C0 s [] ts,λ⟨i,_⟩=>ts.length-i,⟨(0,k0,m1,h),⟨aC,.refl _,[],.new L,rfl,rfl⟩,MT⟩,?_⟩;rintro⟨i,kk,y,n⟩ ⟨hi,d,ks,f,M,c⟩;dsimp only;refine aF (λu=>?_) (λO=>?_)
 .obtain⟨t,V⟩:=eV Z u;obtain⟨b,o,v,e,rd,rv⟩:=(x.mono d).at V;obtain⟨ss,hm,P⟩:=f.ex;rw[Ny V]at c;refine⟨b,o,e,aC,u,v,.imm rd,sc,kk,v,s,ss,ks,t,rfl,R.mono d,cNQ C,rv,hm,P,f.le12,λq D sl h' A G=>?_⟩;have a':=G.slen;rcases aWJ q with⟨E,H⟩|⟨E,H,I⟩|⟨E,H,I⟩
  .rw[D]at H;rw[H,if_neg (by simpa[eC]using E)]at c;refine aD (λ_=>done (kk:=⟨none,0,0⟩) f.sub (d.trans A) ?_) (λF=>?_)
   .rw[z, <-c,if_pos (by simpa[eC]using E)];rfl
   grind
  .rw[D]at I;rw[I,if_neg (by simp[eC])]at c;refine aD (λF=>absurd E bg) (λ_=>aF (λ_=>done (kk:=⟨none,0,0⟩) f.sub (d.trans A) ?_) (λF=>by omega));rw[z, <-c,if_pos (by simp[eC])];rfl
  .rw[D]at I;rw[I,if_pos rfl]at c;refine aD (λF=>absurd E bg) (λ_=>aF (λF=>by omega) (λ_=>?_));obtain⟨xs,Q,a0,hg⟩:=f.grown A G H;exact⟨xs,Q,aC,aC,λW m' g=>⟨(i+1,W,m',h'),⟨aC,d.trans A,ks++[q.1],hg W m' g,by simp[M],c⟩,aC,MT⟩⟩
 have X:ts.drop i=[]:=drop_of_length_le aC;rw[X]at c;have h0:(C0 s [] ts).2=0:=by rw[<-c];rfl
 rw[h0,if_neg az]at z;clear c X;refine⟨λ⟨j,k',m',h'⟩=>j<=rs.length/\k'=kk/\m'=y/\h'=n/\(rs.take j).all (λr=>decide (0<=r)&&decide (r<ts.length))=true,λ⟨j,_⟩=>rs.length-j,⟨(0,kk,y,n),⟨aC,rfl,rfl,rfl,ay⟩,MT⟩,?_⟩;rintro⟨j,kk,y,n⟩ ⟨hj,rfl,rfl,rfl,B⟩;dsimp only;refine aF (λu=>?_) (λO=>?_)
 .obtain⟨q,D⟩:=eV rl u;obtain⟨b,o,e,rd⟩:=(x.roots.mono d).at' D
  have bad:¬(0<=q/\q<ts.length)->jD s ts rs=120:=λhn=>by
   rw[z,if_neg];intro e2;have:=all_eq_true.1 e2 q (mem_of_getElem? D)
   grind
  refine⟨b,o,e,aC,u,q,.imm rd,aF (λF=>done (kk:=⟨none,0,0⟩) f.sub d (bad aC)) (λF=>aF (λh5=>done (kk:=⟨none,0,0⟩) f.sub d (bad aC)) (λh5=>⟨(j+1,kk,y,n),⟨aC,rfl,rfl,rfl,?_⟩,aC,MT⟩))⟩;rw[BG D,B,Bool.true_and,Bool.and_eq_true]
  grind
 .rw[take_of_length_le aC]at B;exact done f.sub d bg
def BF(t:Step):bn:=[t.left,t.right].take (arity t.op).toNat
def auQ:Query:=.mk 0 0 fO [] [] [] [] 0 []
def CI:Nat->cg->Nat->Query
 |0,_,_=>auQ
 |n+1,ts,i=>match ts[i]? with
  |none=>auQ
  |some t=>.mk t.op t.table t.wher t.columns t.on t.group t.order t.limit ((BF t).map λa=>CI n ts a.toNat)
def aU(ts:cg)(i:Nat):Query:=CI (i+1) ts i
def CJ(ts:cg):Prop:=∀(i:Nat) t,ts[i]? =some t->0<=arity t.op/\∀a∈BF t,0<=a/\a<i
theorem Lo{ts:cg}(ok:CJ ts):∀(n c i:Nat),i<n->i<c->CI n ts i=CI c ts i
 |0,_,_,h,_=>by omega
 |_+1,0,_,_,h=>by omega
 |n+1,c+1,i,f,g=>by
  simp only[CI];cases e:ts[i]? with
  |none=>rfl
  |some t=>
   have:(BF t).map (λa=>CI n ts a.toNat)=(BF t).map (λa=>CI c ts a.toNat):=map_congr_left λa d=>by
    have:=(ok i t e).2 a d;exact Lo ok n c a.toNat aC aC
   grind
def Dh(ts:cg)(t:Step):ce:=(BF t).map λa=>aU ts a.toNat
theorem qT(ok:CJ ts)(c:ts[i]? =some t):aU ts i= .mk t.op t.table t.wher t.columns t.on t.group t.order t.limit (Dh ts t):=by
 unfold aU;simp only[CI,c]
 have:(BF t).map (λa=>CI i ts a.toNat)=Dh ts t:=map_congr_left λa d=>by
  have:=(ok i t c).2 a d;exact Lo ok _ _ _ aC aC
 rw[this]
theorem csZ{op:Int}{w:Pred}{on:bu}{args:ce}(j:(aL s [] (.mk op ta w co on gr od li args)).2=0)(f:gI 4 (.mk op ta w co on gr od li args)<=8000000){a:Query}(d:a∈args):gI 4 a<=8000000:=by
 obtain⟨n,g,o,_⟩:=xY (Prod.ext rfl j);have u:=LK (c:=4) aC g a d;rw[gI]at f;split at f
 .rename_i e;subst e;rw[L5 g o]at d;cases d
 grind
def pW(i:Nat)(t:Step):Prop:=Ew t.left (decide (arity t.op>0)) i=true/\Ew t.right (decide (arity t.op>1)) i=true
theorem Lj(g:0<=arity t.op)(h:pW i t):∀a∈BF t,0<=a/\a<i:=by
 intro a c;have j:=E0 t.op;obtain⟨e,f⟩:=h;unfold BF at c;obtain⟨n,d⟩:∃n:Nat,arity t.op=n:=⟨(arity t.op).toNat,aC⟩
 rw[d,Int.toNat_natCast]at c;unfold Ew at e f
 match n,d,c with
 |0,_,c=>simp at c
 |1,d,c=>
  grind
 |2,d,c=>
  grind
 |n+3,d,_=>omega
theorem fF{c:cg}(g:ts<+:c)(ok:CJ c):∀i,i<ts.length->aU c i=aU ts i:=by
 have d:CJ ts:=λi t e=>ok i t (PU g e);intro i
 induction i using Nat.strongRecOn with
 |_ i o=>
  intro j;have f:ts[i]? =some ts[i]:=getElem?_eq_getElem j;rw[qT d f,qT ok (PU g f)]
  have:Dh c ts[i]=Dh ts ts[i]:=map_congr_left λa n=>by
   have:=(d i _ f).2 a n
   grind
  rw[this]
theorem bwX(h:pW i t):(arity t.op=0->t.left=0)/\(arity t.op<=1->t.right=0):=by
 obtain⟨c,d⟩:=h;unfold Ew at c d
 grind
theorem Jl(s:jQ)(ps:bn)(op ta:Int)(w:Pred)(co:bn)(on:bu)(gr:bn)(od:bz)(li:Int)(args:ce)(a b:bn):eK s ps (.mk op ta w co on gr od li args) a b=eK s ps (.mk op ta w co on gr od li []) a b:=by
 unfold eK;rfl
theorem Hc{op:Int}{w:Pred}{on:bu}{args:ce}(h:(aL s [] (.mk op ta w co on gr od li args)).2=0):
 aL s [] (.mk op ta w co on gr od li args)=eK s [] (.mk op ta w co on gr od li []) ((args.map λq=>(aL s [] q).1).getD 0 []) ((args.map λq=>(aL s [] q).1).getD 1 []):=by
 obtain⟨c,f,_⟩:=lL h
 have e:fL s [] args=(args.map (λq=>(aL s [] q).1),0):=uX (by
  rw[map_map];exact map_congr_left λq d=>Prod.ext rfl (c q d))
 simp only[aL,e,if_true];rw[if_pos bg,Jl]
theorem Rn{n:Nat}{a:Int}(c:0<=a)(d:a<n):Ds ((List.range n).map λj=>(aL s [] (aU ts j)).1) a true=(aL s [] (aU ts a.toNat)).1:=by
 unfold Ds
 grind
def cQQ(c d cb:Nat):Value:=.func (.func 38) #[] #[.pointer (some ⟨c,0,none⟩),.pointer (some ⟨d,0,none⟩),.pointer (some ⟨cb,0,none⟩)]
structure csJ(m0:MH)(h:PH)(s:jQ)(vb sb cb:Nat):Prop where
 v_:m0 vb=some (.cells #[cQQ vb sb cb] 94 (0,0))
 s_:∃sc,iF h s sc/\m0 sb=some (.cells ⟨sc.enc⟩ 27 (0,0))
 tab:eA m0
 small:nU s
def bXX(N:Nat):Vc.Spec:=λc m h K=>∃v q s e f cb g d ts rs,c=[aQ v,cP e,cP f,cP cb]/\dG h q v/\SizeOf.sizeOf q<N/\(aL s [] q).2=0/\Dk q/\csJ d h s e f cb/\gT d m h cb g ts rs/\ts.length+2*lO q<=90000/\
 ∀j m' h',PH.le h h'->pA h' (fP s q ts).1 j->gT d m' h' cb g (fP s q ts).2 rs->K (aPN j) m' h'
noncomputable def ciX(N:Nat)(v:QV)(c d cb:Nat):Ctx:=
 qV [(38,bXX N),(39,bRQ),(40,Uq),(41,aKQ),(42,bUZ)] [(4,{A:=Nat×List iK×bn×bn×MH×PH,st:=λ⟨i,e,rs,f,m,h⟩=>bU 63 67 [(1,pv c),(2,pv d),(3,pv cb),(4,.at (.ptr 4 0)),(5,.at (.ptr 5 0)),(6,.at (.ptr 6 0)),(7,.at (.lst 34)),(8,.at (.lst 39)),(15,sv v.args),(16,iv v.args.len),(17,iv i)] [(4,.cells 41 (v.enc.map .val)),(5,.cells 97 (zQ++[JJ,j9 0,j9 0,j9 0])),(6,.cells 97 (v.enc.map .val++[.lst 28,j9 0,j9 0,j9 0])),(28,.lst 97 25 (e.map iK.enc)),(34,.lst 3 1 (rs.map eI)),(39,.lst 3 1 (f.map eI))] m h})] [] [] [510097,0] [] false
abbrev F0(a:Nat×List iK×bn×bn×MH×PH):List bt:=List.map iK.enc a.2.1
abbrev sX(a:Nat×List iK×bn×bn×MH×PH):MH×PH:=a.2.2.2.2
abbrev Cv(a b:Nat)(c:cr)(d:MH)(e:PH)(g:bt->MH->PH->Prop):Prop:=FAt Proofs.Tryz.prog a b c d e (fun(x:bt)=>fun(f:MH)=>fun(j:PH)=>g x f j)
abbrev H4(a:Nat×List iK×bn×bn×MH×PH):List bt:=gW a.2.2.2.1
attribute [push_cast] F0 sX Cv H4
def QR(N:Nat)(v:QV)(D E cb:Nat)(m:MH)(h:PH)(K:bo):Prop:=
  ∃(I:Nat×List iK×bn×bn×MH×PH->Prop)(H:Nat×List iK×bn×bn×MH×PH->Nat),(∃(x:Nat×List iK×bn×bn×MH×PH),aA (I x) (cQ D) (aA (cQ E) (cQ cb) (aA (eP 4) eN (aA (eP 6) (eL 34) (aA (eL 39) (aJ v.args) (aA (vV v) (bA x.1) (aA (eJ v) (eQ (oQ 97 (gA hU hU (gA (j9 0) hU (OS 0 (gA JJ JJ (gA (j9 0) hU (wA hU)))))))) (aA (eQ (oQ 97 (gA (j9 v.op) (yT v) (BQ v v.on (Ef v) (Eg v) (gA (j9 v.limit) (yG v.args) (gA (At.lst 28) hU (oJ hU hU))))))) (uW 97 25 (F0 x)) (aA (sS x.2.2.1) (sS x.2.2.2.1) (aA (dJ m (sX x)) (fC h (sX x)) True))))))))))/\∀(x:Nat×List iK×bn×bn×MH×PH),I x->aY (↑x.1:Int) (aH v.args) (bJ (λb o=>aI
 (aW v.args.a b o) (0<=(↑x.1:Int)) ((↑x.1:Int)<aH v.args) (∃(y:QV),aK (sX x).1 (sX x).2 b (o+bM x.1 21) y.enc/\∃(f:Nat×Nat×Nat),aK (sX x).1 (sX x).2 D 0 (Qg 38 (Array.mk (bF (R9 f.1 0) (R9 f.2.1 0) (zM f.2.2))))/\∃(R:iK->MH->PH->Prop),Cv 38 97 (cC y.enc (cY f.1 (tX f.2.1 (Oo f.2.2 0)))) (sX x).1 (sX x).2 (λl n d=>∃(u:iK),l=u.enc/\R u n d)/\∀(u:iK),eT (λn d=>R u n d->aA (i7 (jW (F0 x) 1) 328) (dO (F0 x)) (aA (AL (gW x.2.2.1)) (dO (gW x.2.2.1)) (aA (i7 (jW (H4 x) 1) 8) (dO (H4 x)) (∃(j:Nat×List iK×bn×bn×MH×PH),aA (I j) (H j<H x) (aA (cQ D) (cQ E) (aA (cQ cb) (eP 4) (aA eN (eP 6) (aA (eL 34) (eL 39) (aA
 (aJ v.args) (vV v) (aA (gK (bE x.1 1)=bO j.1) (eJ v) (aA (eQ (oQ 97 (gA hU hU (gA (j9 0) hU (OS 0 (gA JJ JJ (gA (j9 0) hU (wA hU)))))))) (eQ (oQ 97 (gA (j9 v.op) (yT v) (BQ v v.on (Ef v) (Eg v) (gA (j9 v.limit) (yG v.args) (gA (At.lst 28) hU (oJ hU hU))))))) (aA (bR 97 25 (dL (F0 x) u.enc)=bR 97 25 (F0 j)) (lK (dL (gW x.2.2.1) (bB u.rows)) j.2.2.1) (aA (lK (dL (gW x.2.2.2.1) (bB u.env)) j.2.2.2.1) (dJ n (sX j)) (kZ (fC d (sX j))))))))))))))))))) (∃(y:bZ),aK (sX x).1 (sX x).2 E 0 (cK y)/\bY (sX x).2 25 (F0 x) (λs d=>∃(J:bZ)(F:iK)(A:jQ),DP (λo t w c o1 g o2 l a=>∃(p:dp)(L:List iK),aA (eF (cK y) (kQ
 (vI v v (vP v (bF (dP v.on) (xW v) (bF (xX v) (uL v) (bF (dP v.args) (dP s) (bF cL cL (oN cL))))))))=eF (cK J) (kQ F.enc)) (iF d A J) (aA (nU A) (dG d (Query.mk o t w c o1 g o2 l a) F.query) (aA (dC d F.args 25 (List.map iK.enc L)) (mA d p L) (aA ((↑p.length:Int)=arity o) (cH (arity o)) ((∀(G:PN),List.Mem G p->cH G.width/\G.width<=1000)/\bY d 1 (gW x.2.2.1) (λs3 B=>∃(M:QV)(O:Sl),DP (λP Q S T U V W X a1=>∃(k:cm),aI (lG v s3=lG M O) (dG B (Query.mk P Q S T U V W X a1) M) (Ints B O (List.map (fun(z:Nat)=>(↑z:Int)) k)) (∀(Y:wQ),uO B (Step.mk P Q S T U V W X (↑(List.getD k 0 0):Int) (↑(List.getD k 1 0):Int)) Y->FH (tX cb (kQ Y.enc)) B (sX x).1
 (λZ t3 n h3=>∃(o6:Int),hX (rR v.op o6) (DB o6) (pE 0 (H4 x) (λe=>mI (H4 x) 0 e/\∃(f:Int),tW 1 e (bB f)/\K (kQ (vI v v (vP v (bF (dP v.on) (xW v) (bF (xX v) (fV v.limit) (bF (dP v.args) (dP s) (bF (fV (↑(bV Z t3).2:Int)) (fV f) (bB (E8 A o t c p))))))))) n h3)) (bY h3 1 (H4 x) (λs5 C=>∃(v5:QV)(s6:Sl),DP (λo7 t4 w2 c2 o8 g2 o9 l2 a2=>∃(z:cm),aI (lG v s5=lG v5 s6) (dG C (Query.mk o7 t4 w2 c2 o8 g2 o9 l2 a2) v5) (Ints C s6 (List.map (fun(k2:Nat)=>(↑k2:Int)) z)) (∀(v6:wQ),uO C (Step.mk o7 t4 w2 c2 o8 g2 o9 l2 (↑(List.getD z 0 0):Int) (↑(List.getD z 1 0):Int)) v6->FH (tX cb (kQ v6.enc)) C n (λt5 t6 m3 h5=>K (kQ (vI v v (vP v (bF (dP v.on) (xW v) (bF (xX v)
 (fV v.limit) (bF (dP v.args) (dP s) (bF (fV (↑(bV Z t3).2:Int)) (fV (↑(bV t5 t6).2:Int)) (bB (E8 A o t c p))))))))) m3 h5))))))))))))))))
theorem HB(s:jQ)(op ta:Int)(w:Pred)(co:bn)(on:bu)(gr:bn)(od:bz)(li:Int)(args:ce)(ts:cg):
 fP s (.mk op ta w co on gr od li args) ts=anQ s op ta w co on gr od li args (eG s args ts).1 (eG s args ts).2:=by rw[fP]
theorem JL(s:jQ)(q:Query):∀(l:ce)(ts:cg),eG s (l++[q]) ts=((eG s l ts).1++[(fP s q (eG s l ts).2).1],(fP s q (eG s l ts).2).2)
 |[],ts=>by simp[eG]
 |p::l,ts=>by
  rw[cons_append,eG,JL s q l,eG];rfl
theorem Np(s:jQ):∀(l:ce)(ts:cg),(eG s l ts).1.length=l.length
 |[],ts=>by simp[eG]
 |p::l,ts=>by rw[eG,length_cons,length_cons,Np s l]
theorem bOX(s:jQ)(op ta:Int)(w:Pred)(co:bn)(on:bu)(gr:bn)(od:bz)(li:Int)(args:ce)(ps:dp)(ts:cg):(anQ s op ta w co on gr od li args ps ts).2.length<=ts.length+2:=by
 unfold anQ;have c:=dV (Ag op ta w co on gr od li (ps.map PN.rows)) ts;have d:=dV (Ag op ta w co on gr od li (ps.map PN.env)) (bV (Ag op ta w co on gr od li (ps.map PN.rows)) ts).1
 grind
mutual
theorem Dw(s:jQ):∀(q:Query)(ts:cg),(fP s q ts).2.length<=ts.length+2*lO q
 |.mk op ta w co on gr od li args,ts=>by
  rw[HB];have c:=bOX s op ta w co on gr od li args (eG s args ts).1 (eG s args ts).2;have d:=yI s args ts;simp only[lO];omega
theorem yI(s:jQ):∀(l:ce)(ts:cg),(eG s l ts).2.length<=ts.length+2*kT l
 |[],ts=>by simp[eG]
 |q::l,ts=>by
  rw[eG];have c:=Dw s q ts;have d:=yI s l (fP s q ts).2;simp only[kT];omega
end
theorem tC(h:(mX l).2=0):(mX l).1=l:=by
 unfold mX at h⊢
 grind
theorem Y1{op:Int}{w:Pred}{on:bu}{args:ce}{b:bn}{ps:dp}(h:(eK s [] (.mk op ta w co on gr od li args) a b).2=0)(o:op≠1->(ps.map PN.width).getD 0 0=(a.length:Int))(u:op=4->(ps.map PN.width).getD 1 0=(b.length:Int)):
 E8 s op ta co ps=((eK s [] (.mk op ta w co on gr od li args) a b).1.length:Int):=by
 unfold E8;unfold eK at h⊢
 by_cases g:arity op<0\/¬cR (.mk op ta w co on gr od li args)
 .rw[if_pos g]at h;simp[eC]at h
 .rw[if_neg g]at h⊢
  dsimp only at h⊢
  by_cases d:op=1
  .simp only[if_pos d]at h⊢
   split
   .rename_i c;rw[if_pos c]at h;rw[tC h]
   .rename_i c;rw[if_neg c]at h;simp[eC]at h
  .have e:=o d;simp only[if_neg d]at h⊢
   by_cases j:op=2
   .subst j;simp only[if_true,show((2:Int)=3)=False by simp,show((2:Int)=4)=False by simp,if_false]at h⊢
    split
    .rename_i c;rw[if_pos c]at h;rw[tC h,e]
    .rename_i c;rw[if_neg c]at h;simp only[eC]at h;omega
   .simp only[if_neg j]at h⊢
    by_cases n:op=3
    .simp only[if_pos n]at h⊢
     split
     .rename_i c;rw[if_pos c]at h;rw[tC h];simp
     .rename_i c;rw[if_neg c]at h;simp[eC]at h
    .simp only[if_neg n]at h⊢
     by_cases f:op=4
     .simp only[if_pos f]at h⊢
      split
      .rename_i c;rw[if_pos c]at h;rw[tC h,e,u f];simp
      .rename_i c;rw[if_neg c]at h;simp[eC]at h
     .simp only[if_neg f]at h⊢
      rw[e]
      suffices x:∀R:bn×Int,(R=mX a\/R=eC 100)->R.2=0->(a.length:Int)=(R.1.length:Int)by
       grind
      rintro R (rfl|rfl) h
      .rw[tC h]
      .simp[eC]at h
mutual
theorem Nq{s:jQ}:∀(q:Query)(ts:cg),(aL s [] q).2=0->(fP s q ts).1.width=((aL s [] q).1.length:Int)
 |.mk op ta w co on gr od li args,ts,h=>by
  have c:=lL h;have f:=E9 args ts c.1
  have e:(fP s (.mk op ta w co on gr od li args) ts).1.width=E8 s op ta co (eG s args ts).1:=by
   rw[HB,anQ];dsimp only;split<;>rfl
  rw[e];have d:=Hc h;rw[d]at h⊢
  refine Y1 h (λg=>?_) (λj=>?_)
  .grind
  grind
theorem E9{s:jQ}:∀(l:ce)(ts:cg),(∀q∈l,(aL s [] q).2=0)->(eG s l ts).1.map PN.width=l.map λq=>((aL s [] q).1.length:Int)
 |[],ts,_=>by simp[eG]
 |q::l,ts,h=>by
  rw[eG,map_cons,map_cons,Nq q ts (h q ay),E9 l _ (λp c=>h p (by simp[c]))]
end
theorem cJJ{q:Query}{S U D:Nat}{m0:MH}(V:bm 38 (bXX N))(O:dG h q v)(hN:SizeOf.sizeOf q<N+1)(hk:(aL s [] q).2=0)(E:Dk q)(F:csJ m0 h s S U cb)(c:gT m0 m h cb D ts rs)(hl:ts.length+2*lO q<=90000)
 (Q:∀B m' h',PH.le h h'->pA h' (fP s q ts).1 B->gT m0 m' h' cb D (fP s q ts).2 rs->K (aPN B) m' h'):QR N v S U cb m h K:=by
 dsimp only[QR,push_cast];have G:=@C3 q;obtain⟨op,ta,w,co,on,gr,od,li,args⟩:=q;simp only[Query.args]at G;have x:=O.parts;have a2:=x.args_.slen;obtain⟨W,b4,_⟩:=lL hk;rw[Wq]at E;obtain⟨o,a3⟩:=E;have b3:=E0 op;rw[HB]at Q;simp only[lO]at hl
 have a4:∀i,kT (args.take i)<=kT args:=λi=>by
  have key:∀(l:ce)(i:Nat),kT (l.take i)<=kT l:=by
   intro l
   induction l with
   |nil=>intro i;simp
   |cons a l ih=>
    intro i;cases i with
    |zero=>simp[kT]
    |succ i=>have:=ih i;simp only[take_succ_cons,kT];omega
  grind
 obtain⟨sc,X,Y⟩:=F.s_;refine⟨λ⟨i,H,rr,es,mx,Z⟩=>i<=args.length/\PH.le h Z/\mA Z (eG s (args.take i) ts).1 H/\rr=(eG s (args.take i) ts).1.map (λp=>(p.rows:Int))/\es=(eG s (args.take i) ts).1.map (λp=>(p.env:Int))/\gT m0 mx Z cb D (eG s (args.take i) ts).2 rs,λ⟨i,_,_,_,_,_⟩=>args.length-i,⟨(0,[],[],[],m,h),⟨aC,.refl _,by simp only[take_zero,eG];rfl,rfl,rfl,by simpa[eG]using c⟩,MT⟩,?_⟩;rintro⟨i,H,rr,es,mx,Z⟩ ⟨hi,g,n,rfl,rfl,cx⟩;dsimp only;have a5:=Np s (args.take i) ts;have b5:(args.take i).length=i:=bf
 have b6:=n.length;refine aF (λa'=>?_) (λb7=>?_)
 .obtain⟨q,I⟩:=eV a2 a';have J:=mem_of_getElem? I;obtain⟨b1,o1,u,e1,r1,a6⟩:=(x.args_.mono g).at I;have tk:args.take (i+1)=args.take i++[q]:=by rw[take_add_one,I];rfl
  have vs:=JL s q (args.take i) ts;have b8:=a4 (i+1)
  have b9:kT (args.take (i+1))=kT (args.take i)+lO q:=by
   rw[tk]
   have key:∀l:ce,kT (l++[q])=kT l+lO q:=by
    intro l
    induction l with
    |nil=>simp[kT]
    |cons a l ih=>simp only[cons_append,kT,ih];omega
   exact key _
  have a7:=yI s (args.take i) ts;have c0:=sizeOf_lt_of_mem J;have a8:SizeOf.sizeOf q<N:=bg
  refine⟨b1,o1,e1,aC,a',u,.imm r1,(S,U,cb),.of_m (cx.sub _ _ F.v_) rfl,λy my R=>PH.le Z R/\pA R (fP s q (eG s (args.take i) ts).2).1 y/\gT m0 my R cb D (fP s q (eG s (args.take i) ts).2).2 rs,?_,λy my R⟨d,ry,cy⟩=>⟨bg,bg,bg,bg,bg,bg,(i+1,H++[y],(eG s (args.take (i+1)) ts).1.map (λp=>(p.rows:Int)),(eG s (args.take (i+1)) ts).1.map (λp=>(p.env:Int)),my,R),⟨aC,g.trans d,?_,rfl,rfl,?_⟩,aC,?_⟩⟩
  .have a0:Ay Tryz.prog 97=true:=ax
   refine Sound.fat (vs:=[.agg ⟨QV.enc u⟩,.pointer (some ⟨S,0,none⟩),.pointer (some ⟨U,0,none⟩),.pointer (some ⟨cb,0,none⟩)]) V ⟨u,q,s,S,U,cb,D,m0,_,rs,rfl,a6,a8,W q J,a3 q J,⟨F.v_,⟨sc,X.mono g,Y⟩,F.tab,F.small⟩,cx,aC,λB m' h' C rp c'=>⟨iK.enc B,?_,B,rfl,C,rp,c'⟩⟩;have e:Vc.valOf Tryz.prog 97 (iK.enc B)= .agg ⟨iK.enc B⟩:=by unfold Vc.valOf;rw[a0]
   rw[e];rfl
  .show mA R (eG s (args.take (i+1)) ts).1 (H++[y]);rw[tk,vs];exact mA.snoc ry (mA.mono d n)
  .grind
  .have e1:=ry.rows_;have e2:=ry.env_;rw[tk,vs,e1,e2];simp only[map_append,map_cons,map_nil];exact MT
 .have a9:args.take i=args:=take_of_length_le aC;rw[a9]at n cx a5⊢
  have a7:=yI s args ts;have b':=E9 args ts W;generalize hP:(eG s args ts).1=P at*
  generalize hT:(eG s args ts).2=T at*
  have eR:((P.map PN.rows).map fun(k:Nat)=>(k:Int)).map eI=(P.map λp=>(p.rows:Int)).map eI:=by simp[map_map,Function.comp_def]
  have eE:((P.map PN.env).map fun(k:Nat)=>(k:Int)).map eI=(P.map λp=>(p.env:Int)).map eI:=by simp[map_map,Function.comp_def]
  have kt:∀l r:Int,Oe ⟨op,ta,w,co,on,gr,od,li,l,r⟩:=λl r=>⟨o.wher,o.columns,o.on,o.group,o.order⟩
  refine⟨sc,.of_m (cx.sub _ _ Y) rfl,λs1 h1 d L=>⟨sc,⟨v,s1,0,0,0⟩,s,op,ta,w,co,on,gr,od,li,args,P,H,rfl,X.mono (g.trans d),F.small,O.mono (g.trans d),L,mA.mono d n,aC,aC,?_,λs2 h2 j c1=>⟨v,s2,op,ta,w,co,on,gr,od,li,args,P.map PN.rows,rfl,O.mono ((g.trans d).trans j),⟨bg,bf⟩,λB b0=>⟨B,_,m0,cb,D,T,rs,rfl,b0,kt _ _,cx.mono (d.trans j),F.tab,aC,λm3 h3 z c3=>⟨op,by rw[x.op_],?_⟩⟩⟩⟩⟩
  .intro p hp;have:p.width∈P.map PN.width:=mem_map.2 ⟨p,hp,rfl⟩;rw[b']at this;obtain⟨q,_,e⟩:=mem_map.1 this;have:=lM s [] q;omega
  .have ha:=dV (Ag op ta w co on gr od li (P.map PN.rows)) T;have c3:gT m0 m3 h3 cb D (bV (Ag op ta w co on gr od li (P.map PN.rows)) T).1 rs:=c3;have le:=((g.trans d).trans j).trans z;unfold anQ at Q;refine aD (λf=>?_) (λf s4 h4 A c2=>⟨v,s4,op,ta,w,co,on,gr,od,li,args,P.map PN.env,rfl,O.mono (le.trans A),⟨bg,bf⟩,λv2 b2=>⟨v2,_,m0,cb,D,_,rs,rfl,b2,kt _ _,c3.mono A,F.tab,aC,λm5 h5 M c5=>?_⟩⟩)
   .rw[if_pos f]at Q
    have a1:0<P.length:=by
     have:1<=arity op:=by
      unfold DB at f;simp only[Bool.or_eq_true,beq_iff_eq]at f;rcases f with(rfl|rfl)|rfl<;>decide
     omega
    refine⟨aC,bg,eI (P[0].env:Int),by simp[a1],(P[0].env:Int),rfl,?_⟩;refine Q ⟨v,s1,_,_,_⟩ m3 h3 le ⟨O.mono le,rfl,?_,rfl,aC,H,L.mono (j.trans z),mA.mono ((d.trans j).trans z) n⟩ c3;simp[a1]
   .rw[if_neg (by simp[f])]at Q;have C:=(le.trans A).trans M;exact Q ⟨v,s1,_,_,_⟩ m5 h5 C ⟨O.mono C,rfl,rfl,rfl,aC,H,L.mono (((j.trans z).trans A).trans M),mA.mono ((((d.trans j).trans z).trans A).trans M) n⟩ c5
theorem Vh:∀N,bm 38 (bXX N)
 |0=>by
  refine fK (fn:=Tryz.f38) (c:=dX Tryz.f38) func38 rfl az ?_;rintro e m h K ⟨v,q,s,f,g,cb,n,o,ts,rs,rfl,_,j,_⟩;omega
 |N+1=>by
  refine iQ func38 ?_;rintro e m h K ⟨v,q,s,f,g,cb,n,o,ts,rs,rfl,u,j,y,d,z,c,A,B⟩;refine⟨ciX N v f g cb,rfl,aE (Vh N) (aE a5X (aE EV (aE a5Q (aE SO aG)))),QR N v f g cb m h K,ax,?_⟩;exact cJJ (Vh N) u j y d z c A B
def cyJ:Vc.Spec:=λc m h K=>∃v q s e f cb g d ts rs,c=[aQ v,cP e,cP f,cP cb]/\dG h q v/\(aL s [] q).2=0/\Dk q/\csJ d h s e f cb/\gT d m h cb g ts rs/\ts.length+2*lO q<=90000/\
 ∀j m' h',PH.le h h'->pA h' (fP s q ts).1 j->gT d m' h' cb g (fP s q ts).2 rs->K (aPN j) m' h'
theorem SP:bm 38 cyJ:=mM Vh λ_ _ _ _⟨v,q,s,c,d,cb,f,g,ts,rs,e,j,n,o,u,y,z,A⟩=>⟨SizeOf.sizeOf q+1,v,q,s,c,d,cb,f,g,ts,rs,e,j,aC,n,o,u,y,z,A⟩
def BI:Vc.Spec:=λc m h K=>∃sc p v s ps q,c=[aS sc,cS p,aQ v]/\iF h s sc/\Ints h p ps/\dG h q v/\nI q=true/\KR K m h (fI s ps q)
noncomputable def byJ(p:Sl)(N:Nat):Ctx:={qV [(73,CX),(74,Vv),(75,Gu N)] [(5,{A:=Nat×Nat×Nat×Nat×Nat×MH×PH,st:=λ⟨i,a,b,c,d,m,h⟩=>bU 53 56 [(1,sv p),(3,vv (.pointer (some ⟨a,0,none⟩))),(5,vv (.pointer (some ⟨b,0,none⟩))),(6,vv (.pointer (some ⟨c,0,none⟩))),(7,vv (.pointer (some ⟨d,0,none⟩))),(18,sv p),(19,iv p.len),(20,iv i)] [] m h})] [] [] [200003,200005,200006,200007,200011,0] [] false with elemT:=[3,41]}
abbrev dZ(a:Nat×Nat×Nat×Nat×Nat×MH×PH):Nat×Nat×Nat×MH×PH:=a.2.2
abbrev OT(a:Sl)(b c:Nat×Nat×Nat×Nat×Nat×MH×PH):Prop:=aA (bI a) (gK (bE b.1 1)=bO c.1) (aA (fJ (iJ (dZ b)) (iJ (dZ c))) (dA (iJ (dZ b)) (iJ (dZ c))) True)
attribute [push_cast] dZ OT
def Mx(sc:bZ)(p:Sl)(v:QV)(N:Nat)(m:MH)(h:PH)(K:bo):Prop:=
  ∀(b:Nat)(P:MH),bG (cF m h b) (bK m P b (cK sc) 27) (∀(Q:Nat)(R:MH),bG (cF P h Q) (bK P R Q v.enc 41) (∀(J:Nat)(T:MH),bG (cF R h J) (bK R T J fW 36) (∀(L:Nat)(O:MH),bG (cF T h L) (bK T O L (oN cL) 46) (∃(y:bZ),aK O h b 0 (cK y)/\Kx y h (λs=>cV (eH s) 0 (jN (λc E=>aA (yA O J (gG c E 0)) (0<c.size) (∀(A:MH),bK O A J (fA oM 1 c) E->jN (λf E1=>aA (yA A L (gG f E1 0)) (0<f.size) (∀(g:MH),bK A g L (fA (fV (eH s)) 1 f) E1->kS g h J 0 (λD=>∃(B:Int),aK g h L 0 (bB B)/\lI K D B g h)))))) (∃(I:Nat×Nat×Nat×Nat×Nat×MH×PH->Prop)(A:Nat×Nat×Nat×Nat×Nat×MH×PH->Nat),(∃(x:Nat×Nat×Nat×Nat×Nat×MH×PH),aA
 (I x) (aJ p) (aA (dM b x.2.1) (dM Q (dZ x).1) (aA (dM J (gR (dZ x))) (dM L (gQ (dZ x))) (aA (aJ p) (bI p) (aI (bA x.1) (dJ O (iJ (dZ x))) (fC h (iJ (dZ x))) True)))))/\∀(x:Nat×Nat×Nat×Nat×Nat×MH×PH),I x->aY (↑x.1:Int) (aH p) (bJ (λj o=>aI (aW p.a j o) (0<=(↑x.1:Int)) ((↑x.1:Int)<aH p) (∃(D:Int),aK (lH (dZ x)) (jS (dZ x)) j (o+bM x.1 1) (bB D)/\cV D 3 (cV D 4 (cV D 5 (jN (λc E=>aA (yA (lH (dZ x)) (gR (dZ x)) (gG c E 0)) (0<c.size) (∀(g:MH),bK (lH (dZ x)) g (gR (dZ x)) (fA oM 1 c) E->jN (λf E1=>aA (yA g (gQ (dZ x)) (gG f E1 0)) (0<f.size) (∀(F:MH),bK g F (gQ (dZ x)) (fA (fV 1) 1 f) E1->
 kS F (jS (dZ x)) (gR (dZ x)) 0 (λB=>∃(G:Int),aK F (jS (dZ x)) (gQ (dZ x)) 0 (bB G)/\lI K B G F (jS (dZ x)))))))) (∃(d:Nat×Nat×Nat×Nat×Nat×MH×PH),aA (I d) (A d<A x) (aA (aJ p) (dM x.2.1 d.2.1) (aA (zB (dZ x) (dZ d)) (dM (gR (dZ x)) (gR (dZ d))) (aA (dM (gQ (dZ x)) (gQ (dZ d))) (aJ p) (OT p x d)))))) (∃(d:Nat×Nat×Nat×Nat×Nat×MH×PH),aA (I d) (A d<A x) (aA (aJ p) (dM x.2.1 d.2.1) (aA (zB (dZ x) (dZ d)) (dM (gR (dZ x)) (gR (dZ d))) (aA (dM (gQ (dZ x)) (gQ (dZ d))) (aJ p) (OT p x d)))))) (∃(d:Nat×Nat×Nat×Nat×Nat×MH×PH),aA (I d) (A d<A x) (aA (aJ p) (dM x.2.1 d.2.1) (aA (zB
 (dZ x) (dZ d)) (dM (gR (dZ x)) (gR (dZ d))) (aA (dM (gQ (dZ x)) (gQ (dZ d))) (aJ p) (OT p x d)))))))) (∀(j:Nat)(g:MH),bG (cF (lH (dZ x)) (jS (dZ x)) j) (bK (lH (dZ x)) g j (oN cL) 3) (jN (λc E=>aA (yA g j (gG c E 0)) (0<c.size) (∀(F:MH),bK g F j (fA cL 1 c) E->∃(D:QV),aK F (jS (dZ x)) (dZ x).1 0 D.enc/\∃(W:QV),kX (eO (cA D) (cA W)) (λX=>∀(M:PH),bQ (jS (dZ x)) M (cO M X 0 W.enc) (∃(S:PH->bt->List bt->Prop)(d:List (Int×QV))(I1:Nat->MH->PH->Prop),aA (Hy Proofs.Tryz.prog 139 S) (S M (zM X) (List.map (fun(Y:Int×QV)=>jX (fV Y.1) (Value.agg (Array.mk Y.2.enc))) d)) (aA (I1 0 F M) (∀(k:Nat)(e:
 Int)(e1:QV),eT (λC n=>bG (d[k]? =Option.some (e,e1)) (PH.le M n) (I1 k C n->∃(B:Int),aK C n j 0 (bB B)/\jN (λf E1=>aA (yA C j (gG f E1 0)) (0<f.size) (∀(u:MH),bK C u j (fA (fV (fG (B+1))) 1 f) E1->∃(G:Int),aK u n j 0 (bB G)/\pP (decide (G>24)) (jN (λz E2=>aA (yA u (gR (dZ x)) (gG z E2 0)) (0<z.size) (∀(a:MH),bK u a (gR (dZ x)) (fA oM 1 z) E2->jN (λH E3=>aA (yA a (gQ (dZ x)) (gG H E3 0)) (0<H.size) (∀(U:MH),bK a U (gQ (dZ x)) (fA (fV 2) 1 H) E3->False))))) e 8 (jN (λz E2=>aA (yA u (gR (dZ x)) (gG z E2 0)) (0<z.size) (∀(a:MH),bK u a (gR (dZ x)) (fA oM 1 z) E2->jN (λH E3=>aA (yA a (gQ (dZ x)) (gG H
 E3 0)) (0<H.size) (∀(U:MH),bK a U (gQ (dZ x)) (fA (fV 2) 1 H) E3->False))))) (I1 (k+1) u n)))))) (eT (λC n=>bQ M n (I1 d.length C n) (∃(B:bZ),aK C n x.2.1 0 (cK B)/\∃(G:QV),aK C n (dZ x).1 0 G.enc/\Ko B p G n N (λs1 p1 q s2 V=>jN (λf E1=>aA (yA C (gR (dZ x)) (gG f E1 0)) (0<f.size) (∀(u:MH),bK C u (gR (dZ x)) (fA (dP s2) 1 f) E1->jN (λz E2=>aA (yA u (gQ (dZ x)) (gG z E2 0)) (0<z.size) (∀(a:MH),bK u a (gQ (dZ x)) (fA (fV (aL s1 p1 q).2) 1 z) E2->kS a V (gR (dZ x)) 0 (λy4=>∃(Z:Int),aK a V (gQ (dZ x)) 0 (bB Z)/\lI K y4 Z a V))))))))))))))))))))))
mutual
theorem Rj:∀(p:Query)(n:Nat),rI p n=false->Dq p<=n
 |.mk _ _ _ _ _ _ _ _ args,0,h=>by simp[rI]at h
 |.mk _ _ _ _ _ _ _ _ args,n+1,h=>by
  simp only[rI]at h;have:=N6 args n h;simp only[Dq];omega
theorem N6:∀(ps:ce)(n:Nat),Aa ps n=false->BE ps<=n
 |[],_,_=>by simp[BE]
 |p::ps,n,h=>by
  simp only[Aa,Bool.or_eq_false_iff]at h;have c:=Rj p n h.1;have d:=N6 ps n h.2;simp only[BE];omega
end
mutual
theorem yH.deep{h:PH}:∀{q:Query}{v:QV}{d:Nat}{es:cv},yH h q v d es->∀e∈es,e.1<d+Dq q
 |.mk op ta _ _ _ _ _ _ args,v,d,es,w,e,c=>by
  rw[yH]at w;obtain⟨j,f,n,g,rfl⟩:=w;simp only[Dq];rcases mem_cons.1 c with rfl|c
  .omega
  .have:=lC.deep g e c;omega
theorem lC.deep{h:PH}:∀{f:ce}{vs:da}{d:Nat}{es:cv},lC h f vs d es->∀e∈es,e.1<d+BE f
 |[],vs,d,es,w,e,c=>by rw[lC]at w;grind
 |q::f,vs,d,es,w,e,c=>by
  rw[lC]at w;obtain⟨v,g,o,u,y,z,j,n,rfl⟩:=w;simp only[BE];rcases mem_append.1 c with c|c
  .have:=yH.deep j e c;omega
  .have:=lC.deep n e c;omega
end
theorem boQ{m f:MH}{h hx:PH}{c d:Nat}{A B:Value}{sl:Sl}{e:Int}{K:bo}(g:c≠d)(H:m c=none)(I:m d=none)(C:f c=some (.cells #[A] 36 (0,0)))(D:f d=some (.cells #[B] 46 (0,0)))(s:Sub m f)(le:PH.le h hx)(F:K (.tup [cS sl,cI e]) m hx):
 ∃(cs:Array Value)(E:TypeId),yA f c (.cells cs E (0,0))/\0<cs.size/\∀m':MH,lF f m' c (.cells (Array.mk (dP sl::cs.toList.drop 1)) E (0,0))->∃(cs:Array Value)(E:TypeId),yA m' d (.cells cs E (0,0))/\0<cs.size/\∀m2:MH,lF m' m2 d (.cells (Array.mk (fV e::cs.toList.drop 1)) E (0,0))->∃y:Sl,aK m2 hx c 0 [dP y]/\∃z:Int,aK m2 hx d 0 [fV z]/\cN h K (.tup [cS y,cI z]) m2 hx:=by
 refine⟨_,_,⟨C⟩,ay,λJ j=>⟨_,_,⟨by rw[j.other d (Ne.symm g)];exact D⟩,ay,λm2 n=>⟨sl,.of_m (by rw[n.other c g];exact j.at_) rfl,e,.of_m n.at_ rfl,λ_=>⟨m,hx,λb o u=>?_,le,λb i v u=>.inl u,F⟩⟩⟩⟩;rw[n.other b (λG=>bg),j.other b (λG=>bg)];exact s b o u
theorem Gi:bm 37 BI:=by
 refine I6 func37 ?_;rintro a8 m h K ⟨sc,p,v,s,ps,q,rfl,hs,X,hq,n,y⟩;refine⟨byJ p (SizeOf.sizeOf q+1),rfl,aE Mu (aE QK (aE (a2Z _) aG)),Mx sc p v (SizeOf.sizeOf q+1) m h (cN h K),ax,?_⟩;show Mx sc p v (SizeOf.sizeOf q+1) m h (cN h K);dsimp only[Mx,push_cast];have hl:=X.slen;have a4:=X.len;have a9:=HE n;have b':Dq q<=8:=Rj q 8 (by simp only[nI,Bool.and_eq_true,Bool.not_eq_true']at n;exact n.2);unfold fI at y;rw[if_pos n]at y;intro E m1 u1 w1 F m2 u2 w2 C m3 u3 Y D A Z P;obtain⟨s1,n3⟩:=iT (Sub.refl m) u1 w1;obtain⟨s2,n5⟩:=iT s1 u2 w2;obtain⟨s3,n6⟩:=iT s2 u3 Y;obtain⟨s4,n7⟩:=iT s3 Z P;have G:∀{ma mb:MH}{b:Nat}{o:Obj}{hh:PH},cF ma hh b->lF ma mb b o->∀{x g},ma x=some g->mb x=some g:=fun{ma mb b o hh} u w{x g} e=>by rw[w.other x (λM=>by rw[M,u.m_]at e;cases e)];exact e
 have a3:=G Z P (G u3 Y (G u2 w2 w1.at_));have a5:=G Z P (G u3 Y w2.at_);have a6:=G Z P Y.at_;have a7:=P.at_;have H:C≠D:=λe=>bg
 refine⟨sc,.of_m a3 rfl,sc,s,rfl,hs,aD (λh1=>?_) (λh1=>?_)⟩
 .rw[if_neg bg]at y;exact boQ (sl:=cE) H n6 n7 a6 a7 s4 (.refl _) (y cE h (.refl _) (mY h))
 have h1:eH s=0:=bg
 rw[if_pos h1]at y;refine⟨λz=>z.2=(E,F,C,D,A,h)/\z.1<=ps.length/\(ps.take z.1).all gM=true,λz=>ps.length-z.1,⟨(0,E,F,C,D,A,h),⟨rfl,ay,ay⟩,MT⟩,?_⟩;rintro⟨i,z⟩ ⟨ez,hi,c⟩;dsimp only at ez hi c;subst ez;dsimp only;refine aF (λQ=>?_) (λb0=>?_)
 .obtain⟨x,O⟩:=eV hl Q;obtain⟨b,o,e,r⟩:=X.at' O;have R:gM x=true->(ps.take (i+1)).all gM=true:=λhc=>by rw[BG O,c,hc];rfl
  have S:IntKind.i64.wrap ((i:Int)+1)=((i+1:Nat):Int):=iS aC;have go:gM x=true->((i+1,E,F,C,D,A,h):Nat×Nat×Nat×Nat×Nat×MH×PH).2=(E,F,C,D,A,h)/\i+1<=ps.length/\(ps.take (i+1)).all gM=true:=λhc=>⟨rfl,aC,R hc⟩
  rw[S];refine⟨b,o,e,aC,Q,x,.imm r,aD (λc1=>aD (λc2=>aD (λc3=>?_) (λc3=>⟨(i+1,E,F,C,D,A,h),go ?_,aC,MT⟩)) (λc2=>⟨(i+1,E,F,C,D,A,h),go ?_,aC,MT⟩)) (λc1=>⟨(i+1,E,F,C,D,A,h),go ?_,aC,MT⟩)⟩
  .have:gM x=false:=by simp_all [gM]
   rw[if_neg (λe=>bg)]at y;exact boQ (sl:=cE) H n6 n7 a6 a7 s4 (.refl _) (y cE h (.refl _) (mY h))
  .simp_all [gM]
  .simp_all [gM]
  .simp_all [gM]
 rw[take_of_length_le aC]at c;rw[if_pos c]at y;intro B m5 u5 w5;refine⟨_,_,⟨w5.at_⟩,ay,λm6 w6=>?_⟩
 have k6:∀{x g},A x=some g->m6 x=some g/\x≠B:=fun{x g} e=>by
  have:x≠B:=λM=>by rw[M,u5.m_]at e;cases e
  exact⟨by rw[w6.other x this];exact G u5 w5 e,this⟩
 refine⟨v,.of_m (k6 a5).1 rfl,v,rfl,λbw a' f a0=>?_⟩;obtain⟨es,S⟩:=yH.of (hq.mono f) 1;have b1:=S.small;have I:=S.deep;refine⟨Pk,es.map λe=>((e.1:Int),e.2),λk T O=>O=a'/\E6 m6 T B/\T B=some (.cells #[fV (k:Nat)] 3 (0,0)),azQ,⟨bw,v,q,es,rfl,a0,S,aC,by rw[map_map];rfl⟩,⟨rfl,λx o e _=>e,w6.at_⟩,?_,?_⟩
 .rintro k d e' T O hk-⟨rfl,J,j⟩
  rw[getElem?_map]at hk;cases L:es[k]? with
  |none=>grind
  |some e=>
   rw[L]at hk;simp only[Option.map_some,Option.some.injEq,Prod.mk.injEq]at hk;obtain⟨rfl,rfl⟩:=hk;have b2:=(List.getElem?_eq_some_iff.1 L).1;have b4:=I e (mem_of_getElem? L);have U:IntKind.i64.wrap ((k:Int)+1)=((k+1:Nat):Int):=iS aC;refine⟨k,.of_m j rfl,_,_,⟨j⟩,ay,λm7 w7=>⟨((k+1:Nat):Int),?_,aF (λa1=>by omega) (λ_=>aF (λa1=>by omega) (λ_=>⟨rfl,λx o e1 M=>by rw[w7.other x M];exact J x o e1 M,?_⟩))⟩⟩
   .rw[<-U];exact .of_m w7.at_ rfl
   .rw[<-U];exact w7.at_
 .rintro T O-⟨rfl,J,j⟩
  have V:∀{x g},A x=some g->T x=some g:=fun{x g} e=>J x g (k6 e).1 (k6 e).2;refine⟨sc,.of_m (V a3) rfl,v,.of_m (V a5) rfl,sc,p,v,s,ps,q,rfl,hs.mono f,Aq h1,X.mono f,hq.mono f,aC,λsl h7 W a2=>?_⟩;exact boQ H n6 n7 (V a6) (V a7) (λx o e=>V (s4 x o e)) (f.trans W) (y sl h7 (f.trans W) a2)
noncomputable def lS(s:jQ)(q:Query):cg×bn:=gC (fP s q []).1 ((fP s q []).1.env:Int) (fP s q []).2 []
def bjJ:Vc.Spec:=λc m h K=>∃sc v s q,c=[aS sc,aQ v]/\iF h s sc/\dG h q v/\nI q=true/\eA m/\((fI s [] q).2=0->Dk q/\IN (fP s q []).1/\kY (fP s q []).1<=100/\lO q<=100)/\
 ((fI s [] q).2≠0->K (.tup [aPl cE cE,cI (fI s [] q).2]) m h)/\((fI s [] q).2=0->∀p r h',PH.le h h'->rJ h' p r (lS s q).1 (lS s q).2->K (.tup [aPl p r,cI 0]) m h')
noncomputable def crQ:Ctx:=qV [(37,BI),(38,cyJ),(43,cUJ)] [] [] [] [93,94,200002,510097] [] false
abbrev KC(a:bZ)(b:QV)(c:PH)(d:jQ->bn->Query->PH->Prop):Prop:=KW (cC (cK a) (tO EZ (cA b))) c (λx g e=>iE (nI e)/\∀(j:Sl)(f:PH),bQ c f (Ints f j (fI x g e).1) (d x g e f))
attribute [push_cast] KC
def Rf(sc:bZ)(v:QV)(m:MH)(h:PH)(K:bo):Prop:=
  ∀(b:Nat)(z:MH),bG (cF m h b) (bK m z b (cK sc) 27) (∃(y:bZ),aK z h b 0 (cK y)/\KC y v h (λs p q f=>cV (yS s p q) 0 (K (CV.tup (eF (jX oM oM) (CV.val (fV (yS s p q))))) z f) (w9 z f (λP J=>∀(e:Nat)(B:MH),bG (cF J f e) (bK J B e (bF oM oM (oN Em)) 93) (jN (λc E=>aA (yA B e (gG c E 0)) (3<=c.size) (∀(C:MH),bK B C e (bF oM oM (fA (C8 P) 3 c)) E->∀(g:Nat)(D:MH),bG (cF C f g) (bK C D g K3 94) (jN (λF E1=>aA (yA D g (gG F E1 0)) (0<F.size) (∀(G:MH),bK D G g (fA (Value.func (Fn.func 38) sF (Array.mk (bF (R9 g 0) (R9 b 0) (zM e)))) 1 F) E1->∃(j:Nat×Nat×Nat),aK G f g 0 (Qg 38 (Array.mk (bF (R9 j.1 0) (R9 j.2.1 0) (zM
 j.2.2))))/\∃(R:iK->MH->PH->Prop),Cv 38 97 (cC v.enc (cY j.1 (tX j.2.1 (Oo j.2.2 0)))) G f (λl A n=>∃(x:iK),l=x.enc/\R x A n)/\∀(x:iK),eT (λA n=>R x A n->∃(L:iK)(o:PN)(d:Int)(H:MH),Js (λI M t r=>aA (Ek e x x.env=Ek I L d) (pA n o L) (aA (IN o) (gT H A n I M t r) (aI (eA H) (t.length+5*kY o<=90000) (r.length+kY o<=90000) (eT (λa u=>bQ n u (gT H a u I M (gC o d t r).1 (gC o d t r).2) (FI a u e 0 (λQ O=>aK a u e 1 (aR O)/\K (CV.tup (eZ (kQ (jX (dP Q) (dP O))) 0)) a u))))))))))))))))))
theorem NF{q:Query}(h:(fI s ps q).2=0):(aL s ps q).2=0/\eH s=0:=by
 unfold fI at h;split at h
 .rename_i e;refine⟨?_,e⟩;split at h
  .split at h
   .exact h
   .simp[eC]at h
  .simp[eC]at h
 .rename_i c;simp[eC]at h;omega
theorem ayQ(m:MH)(E sz:Nat):cT m cE E sz []:=⟨⟨λ_ h=>by simp at h,λ_ h=>by simp at h⟩,.inl ⟨rfl,rfl⟩⟩
theorem bdJ:bm 11 bjJ:=by
 refine RU func11 ?_;rintro b8 m h K ⟨sc,v,s,q,rfl,hs,hq,a6,ht,hv,hE,hK⟩;refine⟨crQ,rfl,aE Gi (aE SP (aE a4J aG)),Rf sc v m h (cN h K),ax,?_⟩;show Rf sc v m h (cN h K);dsimp only[Rf,push_cast];intro f m1 a7 z
 have H:Sub m m1:=λx o e=>by
  rw[z.other x (λL=>by rw[L,a7.m_]at e;cases e)];exact e
 refine⟨sc,.of_m z.at_ rfl,sc,cE,v,s,[],q,rfl,hs,WT h,hq,a6,λsl h1 E _=>aD (λM=>?_) (λM=>?_)⟩
 .have M:(fI s [] q).2≠0:=bg
  exact cN.keep H E (hE M)
 have M:(fI s [] q).2=0:=bg
 obtain⟨S,a8,b9,b6⟩:=hv M;obtain⟨T,U⟩:=NF M;have hK:=hK M;intro c m2 V g cb m3 O C;refine⟨_,_,⟨C.at_⟩,ay,λm4 d B m5 F P=>⟨_,_,⟨P.at_⟩,ay,λD A=>?_⟩⟩;have d:lF m3 m4 cb (.cells #[.slice none 0 0,.slice none 0 0,.map (some c)] 93 (0,0)):=d;have A:lF m5 D B (.cells #[cQQ B f cb] 94 (0,0)):=A;have n1:c≠f:=λe=>by have:=V.m_;rw[e,z.at_]at this;cases this
 have n2:cb≠c:=λe=>by have:=O.m_;rw[e,g.at_]at this;cases this
 have n3:cb≠f:=λe=>by have:=O.m_;rw[e,g.other f (Ne.symm n1),z.at_]at this;cases this
 have n4:B≠cb:=λe=>by have:=F.m_;rw[e,d.at_]at this;cases this
 have n5:B≠c:=λe=>by have:=F.m_;rw[e,d.other c (Ne.symm n2),C.other c (Ne.symm n2),g.at_]at this;cases this
 have n6:B≠f:=λe=>by have:=F.m_;rw[e,d.other f (Ne.symm n3),C.other f (Ne.symm n3),g.other f (Ne.symm n1),z.at_]at this;cases this
 have h6:∀x,x≠B->x≠cb->D x=m2 x:=λx Q G=>by rw[A.other x Q,P.other x Q,d.other x G,C.other x G]
 have W:D cb=some (.cells #[.slice none 0 0,.slice none 0 0,.map (some c)] 93 (0,0)):=by rw[A.other cb (Ne.symm n4),P.other cb (Ne.symm n4)];exact d.at_
 have X:D c=some (.map #[] 0):=by rw[h6 c (Ne.symm n5) (Ne.symm n2)];exact g.at_
 have b7:D f=some (.cells ⟨sc.enc⟩ 27 (0,0)):=by rw[h6 f (Ne.symm n6) (Ne.symm n3),g.other f (Ne.symm n1)];exact z.at_
 obtain⟨n,c1⟩:∃n:MH,n=λx=>if x=cb\/x=c then none else D x:=⟨_,rfl⟩
 have a9:∀x,x≠cb->x≠c->n x=D x:=λx Q G=>bg
 have Y:n cb=none:=bg
 have Z:n c=none:=bg
 have R:Sub n D:=λx o e=>by
  grind
 have j:Sub m n:=λx o e=>by
  have Q:=H x o e;have a1:x≠c:=λL=>by rw[L,V.m_]at Q;cases Q
  have G:m2 x=some o:=by rw[g.other x a1];exact Q
  have a2:x≠cb:=λL=>by rw[L,O.m_]at G;cases G
  have e3:m4 x=some o:=by rw[d.other x a2,C.other x a2];exact G
  have a3:x≠B:=λL=>by rw[L,F.m_]at e3;cases e3
  grind
 have c0:gT n D h1 cb c [] []:=⟨R,Y,Z,⟨#[],0,X,rfl⟩,ay,cE,cE,W,⟨[],ayQ D _ _,rfl,λi t e=>by simp at e⟩,ayQ D _ _,λb i e=>by simp[cE]at e,λb i e=>by simp[cE]at e⟩
 have I:csJ n h1 s B f cb:=⟨by rw[a9 B n4 n5];exact A.at_,⟨sc,hs.mono E,bg⟩,ht.sub j,cNQ U⟩
 have b':=Dw s q [];simp only[length_nil,Nat.zero_add]at b';refine⟨(B,f,cb),.of_m A.at_ rfl,λy my hy=>PH.le h1 hy/\pA hy (fP s q []).1 y/\gT n my hy cb c (fP s q []).2 [],?_,λy m7 h7⟨b0,ry,c7⟩=>?_⟩
 .have a':Ay Tryz.prog 97=true:=ax
  refine Sound.fat (vs:=[.agg ⟨QV.enc v⟩,.pointer (some ⟨B,0,none⟩),.pointer (some ⟨f,0,none⟩),.pointer (some ⟨cb,0,none⟩)]) SP ⟨v,q,s,B,f,cb,c,n,[],[],rfl,hq.mono E,T,S,I,c0,bf,λv' m' h' b1 rp c'=>⟨iK.enc v',?_,v',rfl,b1,rp,c'⟩⟩;have e:Vc.valOf Tryz.prog 97 (iK.enc v')= .agg ⟨iK.enc v'⟩:=by unfold Vc.valOf;rw[a']
  rw[e];rfl
 .refine⟨y,(fP s q []).1,y.env,n,cb,c,(fP s q []).2,[],rfl,ry,a8,c7,I.tab,aC,bf,λm8 h8 b2 c8=>?_⟩;rw[ry.env_]at c8;have c8:gT n m8 h8 cb c (lS s q).1 (lS s q).2:=c8;obtain⟨p,r,a0,⟨vs,hr,a4⟩,b3,b4,b5⟩:=c8.ex;refine⟨p,.of_m a0 rfl,r,.of_m a0 rfl,λa5=>?_⟩;have hd:GM m8 h8:=⟨a5⟩
  have le:=(E.trans b0).trans b2
  have fr:∀b,n b=none->m b=none:=λb e=>by
   cases G:m b with
   |none=>rfl
   |some o=>rw[j b o G]at e;cases e
  have J:=iP (fP s q []).1 ((fP s q []).1.env:Int) (fP s q []).2 [];have J:(lS s q).1.length<=(fP s q []).2.length+5*kY (fP s q []).1/\(lS s q).2.length<=0+kY (fP s q []).1:=J;refine⟨m,CH m m8 h8,λb o e=>c8.sub b o (j b o e),le.trans (Ev hd),λb i w e=>?_,hK p r _ (le.trans (Ev hd)) ⟨⟨vs,vZ.ice ⟨hr,λb i e=>fr b (b4 b i e)⟩,a4.1,λi t e=>let⟨u,k1,k2⟩:=a4.2 i t e;⟨u,k1,k2.mono (Ev hd)⟩⟩,⟨vZ.ice ⟨b3,λb i e=>fr b (b5 b i e)⟩,aC⟩,aC⟩⟩;unfold CH at e
  grind
theorem Jj:∀{l c:bn}{r r':ck},(∀n∈l,uR n)->(∀n∈c,uR n)->l.length=c.length->jH l++r=jH c++r'->l=c/\r=r'
 |[],[],_,_,_,_,_,h=>⟨rfl,h⟩
 |[],_::_,_,_,_,_,d,_=>by simp at d
 |_::_,[],_,_,_,_,d,_=>by simp at d
 |m::l,n::c,r,r',f,g,d,h=>by
  rw[vD,vD,append_assoc,append_assoc,cons_append,cons_append]at h;obtain⟨a,h⟩:=iW (f m ay) (g n ay) h;obtain⟨b,h⟩:=Jj (λx e=>f x (by simp[e])) (λx e=>g x (by simp[e])) bg h
  grind
theorem J7:∀{l c:bu}{r r':ck},(∀p∈l,uR p.1/\uR p.2)->(∀p∈c,uR p.1/\uR p.2)->l.length=c.length->wE l++r=wE c++r'->l=c/\r=r'
 |[],[],_,_,_,_,_,h=>⟨rfl,h⟩
 |[],_::_,_,_,_,_,d,_=>by simp at d
 |_::_,[],_,_,_,_,d,_=>by simp at d
 |m::l,n::c,r,r',e,f,d,h=>by
  rw[NK,NK]at h;simp only[append_assoc,cons_append]at h;obtain⟨a,h⟩:=iW (e m ay).1 (f n ay).1 h;obtain⟨j,h⟩:=iW (e m ay).2 (f n ay).2 h;obtain⟨b,h⟩:=J7 (λx g=>e x (by simp[g])) (λx g=>f x (by simp[g])) bg h
  grind
theorem JU:∀{l c:bz}{r r':ck},(∀p∈l,uR p.1)->(∀p∈c,uR p.1)->l.length=c.length->wC l++r=wC c++r'->l=c/\r=r'
 |[],[],_,_,_,_,_,h=>⟨rfl,h⟩
 |[],_::_,_,_,_,_,d,_=>by simp at d
 |_::_,[],_,_,_,_,d,_=>by simp at d
 |m::l,n::c,r,r',f,g,d,h=>by
  rw[ND,ND]at h;simp only[append_assoc,cons_append]at h;have j:∀b:Bool,uR (if b then 1 else 0):=λb=>by cases b<;>exact⟨az,az⟩
  obtain⟨a,h⟩:=iW (f m ay) (g n ay) h;obtain⟨o,h⟩:=iW (j m.2) (j n.2) h;obtain⟨b,h⟩:=JU (λx e=>f x (by simp[e])) (λx e=>g x (by simp[e])) bg h
  grind
structure bSX(t:Step):Prop where
 op_:uR t.op
 table_:uR t.table
 limit_:uR t.limit
 left_:uR t.left
 right_:uR t.right
 cols:t.columns.length<=8000000
 on_:t.on.length<=8000000
 group_:t.group.length<=8000000
 order_:t.order.length<=8000000
theorem aOJ{x:Step}(hx:bSZ x)(e:bSZ t)(c:bSX x)(d:bSX t)(h:stepB x=stepB t):x=t:=by
 obtain⟨op,ta,w,co,on,gr,od,li,le,S⟩:=x;obtain⟨C,D,T,E,F,G,H,I,J,L⟩:=t;have M:jH []=[]:=rfl;simp only[stepB,vD,M,append_assoc,cons_append,nil_append]at h;obtain⟨g,h⟩:=iW c.op_ d.op_ h;obtain⟨j,h⟩:=iW c.table_ d.table_ h;obtain⟨n,h⟩:=iW c.limit_ d.limit_ h;obtain⟨o,h⟩:=iW c.left_ d.left_ h;obtain⟨u,h⟩:=iW c.right_ d.right_ h;obtain⟨y,h⟩:=NJ hx.wher e.wher h;obtain⟨O,h⟩:=iW (xM c.cols) (xM d.cols) h;obtain⟨z,h⟩:=Jj hx.cols e.cols (by simp only at O⊢;omega) h;obtain⟨P,h⟩:=iW (xM c.on_) (xM d.on_) h;obtain⟨A,h⟩:=J7 hx.on_ e.on_ (by simp only at P⊢;omega) h;obtain⟨Q,h⟩:=iW (xM c.group_) (xM d.group_) h;obtain⟨B,h⟩:=Jj hx.group_ e.group_ (by simp only at Q⊢;omega) h;obtain⟨R,h⟩:=iW (xM c.order_) (xM d.order_) h;obtain⟨f,_⟩:=JU (r:=[]) (r':=[]) hx.order_ e.order_ (by simp only at R⊢;omega) (bk h);simp only at g j n o u y z A B f;subst g j n o u y z A B f;rfl
structure gO(s:jQ)(q:Query):Prop where
 kinds:(aL s [] q).2=0
 ints:QI q
 bnd:gI 4 q<=8000000
theorem gO.arg{op:Int}{w:Pred}{on:bu}{args:ce}(g:gO s (.mk op ta w co on gr od li args)){a:Query}(c:a∈args):gO s a:=
 ⟨(lL g.kinds).1 a c,(Jg.1 g.ints).2 a c,csZ g.kinds g.bnd c⟩
theorem Y2{op:Int}{w:Pred}{on:bu}{args:ce}(u:s.tables.length<=1000)(h:(aL s [] (.mk op ta w co on gr od li args)).2=0):uR op/\uR ta/\uR li:=by
 obtain⟨_,g,a,b,_,_,c⟩:=lL h;unfold eK at c;by_cases d:arity op<0\/¬cR (.mk op ta w co on gr od li args)
 .rw[if_pos d]at c;simp[eC]at c
 .rw[if_neg d]at c;rw[not_or]at d;obtain⟨j,_,_,_,n⟩:cR (.mk op ta w co on gr od li args):=Classical.not_not.1 d.2
  have o:1<=op/\op<=10:=by
   have f:=d.1;unfold arity at f;simp only[beq_iff_eq,Bool.or_eq_true]at f;omega
  refine⟨kH aC aC,?_,?_⟩
  .rcases j with rfl|rfl
   .dsimp only at c;simp only[if_true]at c;split at c
    .rename_i e;exact kH aC aC
    .simp[eC]at c
   .exact Hg
  .rcases n with rfl|rfl|⟨_,_,rfl⟩
   .dsimp only at c;simp only[show¬((9:Int)=1)by decide,show¬((9:Int)=2)by decide,show¬((9:Int)=3)by decide,show¬((9:Int)=4)by decide,show¬((9:Int)=5)by decide,if_false,if_true]at c;split at c
    .rename_i e;exact kH (by have:=e.low;omega) (by have:=e.high;omega)
    .simp[eC]at c
   .dsimp only at c;simp only[show¬((10:Int)=1)by decide,show¬((10:Int)=2)by decide,show¬((10:Int)=3)by decide,show¬((10:Int)=4)by decide,show¬((10:Int)=5)by decide,show¬((10:Int)=9)by decide,if_false,if_true]at c;split at c
    .rename_i e;exact kH (by have:=e.2.low;omega) (by have:=e.2.high;omega)
    .simp[eC]at c
   .exact Hg
structure Ez(s:jQ)(ts:cg):Prop where
 ar:∀(i:Nat) t,ts[i]? =some t->0<=arity t.op
 fit:∀(i:Nat) t,ts[i]? =some t->pW i t
 nodup:(ts.map stepB).Nodup
 good:∀i,i<ts.length->gO s (aU ts i)
 short:∀t∈ts,t.columns.length<=1000/\t.on.length<=1000/\t.group.length<=1000/\t.order.length<=1000
theorem Ez.ok(v:Ez s ts):CJ ts:=λi t e=>⟨v.ar i t e,Lj (v.ar i t e) (v.fit i t e)⟩
theorem Ez.nil(s:jQ):Ez s []:=⟨λi t e=>by simp at e,λi t e=>by simp at e,ay,λi c=>by simp at c,λt d=>by simp at d⟩
theorem Qz{a:Int}{u:Bool}(h:Ew a u i=true)(c:i<=8000000):uR a:=by
 unfold Ew at h;split at h
 .simp only[Bool.and_eq_true,decide_eq_true_eq]at h;exact kH aC aC
 .have:a=0:=bk h
  rw[this];exact Hg
theorem Px{q:Query}{args:ce}(j:s.tables.length<=1000)(g:gO s q)(n:q= .mk t.op t.table t.wher t.columns t.on t.group t.order t.limit args)(d:pW i t)(e:i<=8000000)(E:t.columns.length<=1000/\t.on.length<=1000/\t.group.length<=1000/\t.order.length<=1000):bSZ t/\bSX t:=by
 have c:=g.ints;have f:=g.kinds;rw[n]at c f;rw[Jg]at c;obtain⟨o,u,y,z,A⟩:=c.1;obtain⟨B,C,D⟩:=Y2 j f;exact⟨⟨o,u,y,z,A⟩,⟨B,C,D,Qz d.1 e,Qz d.2 e,aC,aC,aC,aC⟩⟩
theorem buJ{s:jQ}{ts:cg}{t:Step}{q:Query}(H:s.tables.length<=1000)(v:Ez s ts)(I:ts.length<=100000)(J:0<=arity t.op)(D:pW ts.length t)(g:gO s q)(E:q= .mk t.op t.table t.wher t.columns t.on t.group t.order t.limit (Dh ts t))(M:t.columns.length<=1000/\t.on.length<=1000/\t.group.length<=1000/\t.order.length<=1000):
 Ez s (bV t ts).1/\ts<+:(bV t ts).1/\(bV t ts).2<(bV t ts).1.length/\aU (bV t ts).1 (bV t ts).2=q:=by
 obtain⟨O,P⟩:=Px H g E D aC M;by_cases y:∀x∈ts,stepB x≠stepB t
 .rw[YB y];dsimp only
  have c:∀(i:Nat) u,(ts++[t])[i]? =some u->ts[i]? =some u\/(i=ts.length/\u=t):=λi u e=>by
   grind
  have f:∀(i:Nat) u,(ts++[t])[i]? =some u->0<=arity u.op:=λi u e=>by
   rcases c i u e with e|⟨_,rfl⟩
   .exact v.ar i u e
   .exact J
  have d:∀(i:Nat) u,(ts++[t])[i]? =some u->pW i u:=λi u e=>by
   rcases c i u e with e|⟨rfl,rfl⟩
   .exact v.fit i u e
   .exact D
  have j:CJ (ts++[t]):=λi u e=>⟨f i u e,Lj (f i u e) (d i u e)⟩
  have F:ts<+:ts++[t]:=prefix_append _ _
  have n:aU (ts++[t]) ts.length=q:=by
   rw[qT j (t:=t) ay,E]
   have:Dh (ts++[t]) t=Dh ts t:=map_congr_left λa L=>by
    have:=Lj J D a L;exact fF F j a.toNat aC
   rw[this]
  refine⟨⟨f,d,?_,λi o=>?_,λu B=>?_⟩,F,ay,n⟩
  .rw[map_append,nodup_append];refine⟨v.nodup,ay,λa L b T=>?_⟩
   grind
  .by_cases z:i<ts.length
   .rw[fF F j i z];exact v.good i z
   grind
  .rcases mem_append.1 B with B|B
   .exact v.short u B
   grind
 .have:∃x∈ts,stepB x=stepB t:=Classical.byContradiction λQ=>y λx C e=>Q ⟨x,C,e⟩;obtain⟨x,C,e⟩:=this;obtain⟨i,o⟩:=mem_iff_getElem?.1 C;have A:=(List.getElem?_eq_some_iff.1 o).1;obtain⟨R,S⟩:=Px H (v.good i A) (qT v.ok o) (v.fit i x o) aC (v.short x C);have G:x=t:=aOJ R O S P e;subst G;rw[YA v.nodup o rfl];exact⟨v,prefix_refl _,A,by rw[qT v.ok o,E]⟩
theorem V7(v:Ez s ts)(d:ts[i]? =some t):Dy s ((List.range i).map λj=>(aL s [] (aU ts j)).1) t=((aL s [] (aU ts i)).1,0):=by
 have B:=(List.getElem?_eq_some_iff.1 d).1;have g:=(v.good i B).kinds;have C:=qT v.ok d;rw[C]at g⊢
 have D:=Hc g;have F:=v.ar i t d;have G:=E0 t.op;have y:=v.fit i t d;have c:=(v.ok i t d).2;have E:((List.range i).map λj=>(aL s [] (aU ts j)).1).length=i:=ay
 have z:Ds ((List.range i).map λj=>(aL s [] (aU ts j)).1) t.left (decide (arity t.op>0))=((Dh ts t).map λq=>(aL s [] q).1).getD 0 []/\Ds ((List.range i).map λj=>(aL s [] (aU ts j)).1) t.right (decide (arity t.op>1))=((Dh ts t).map λq=>(aL s [] q).1).getD 1 []:=by
  obtain⟨n,f⟩:∃n:Nat,arity t.op=n:=⟨(arity t.op).toNat,aC⟩
  unfold Dh;unfold BF at c⊢
  rw[f,Int.toNat_natCast]at c⊢
  match n,f,c with
  |0,_,_=>exact⟨rfl,rfl⟩
  |1,f,c=>
   have o:=c t.left ay;exact⟨Rn o.1 o.2,rfl⟩
  |2,f,c=>
   have o:=c t.left ay;have A:=c t.right ay;exact⟨Rn o.1 o.2,Rn A.1 A.2⟩
  |n+3,f,_=>omega
 have u:eK s [] t.query (Ds ((List.range i).map λj=>(aL s [] (aU ts j)).1) t.left (decide (arity t.op>0))) (Ds ((List.range i).map λj=>(aL s [] (aU ts j)).1) t.right (decide (arity t.op>1)))=aL s [] (.mk t.op t.table t.wher t.columns t.on t.group t.order t.limit (Dh ts t)):=by
  rw[D,z.1,z.2];rfl
 unfold Dy;rw[u,E,if_neg,if_neg aC]
 .grind
 .rintro(e|e|e)
  .omega
  .rw[y.1]at e;cases e
  .rw[y.2]at e;cases e
theorem JS{s:jQ}{ts:cg}(v:Ez s ts):∀(n i:Nat),i+n=ts.length->(C0 s ((List.range i).map λj=>(aL s [] (aU ts j)).1) (ts.drop i)).2=0
 |0,i,d=>by
  rw[drop_of_length_le aC];rfl
 |n+1,i,d=>by
  have c:ts[i]? =some ts[i]:=getElem?_eq_getElem aC;rw[Ny c,V7 v c,if_pos rfl];have:=JS v n (i+1) aC
  rwa [range_succ,map_append]at this
theorem Wu(v:Ez s ts)(c:eH s=0)(d:ts.length<=1024)(e:rs.length<=32)(f:∀r∈rs,0<=r/\r<ts.length):jD s ts rs=0:=by
 rw[IS c aC,if_neg,if_pos]
 .grind
 .have:=JS v ts.length 0 aC
  grind
mutual
def fX:Query->Query
 |.mk op ta w co on gr od li args=>if DB op=true then(GB args).getD 0 auQ else .mk op ta w co on gr od li (GB args)
def GB:ce->ce
 |[]=>[]
 |q::qs=>fX q::GB qs
end
theorem EW:∀l:ce,GB l=l.map fX
 |[]=>by simp[GB]
 |q::l=>by rw[GB,EW l];rfl
def mR(a b:Query)(on:bu):Query:=.mk 5 0 fO [] on [] [] 0 [a,b]
def kP(a b:Query):Query:=.mk 8 0 fO [] [] [] [] 0 [a,b]
def IQ(a:Query)(co:bn):Query:=.mk 3 0 fO co [] [] [] 0 [a]
def Gy(a b:Query)(gr:bn)(od:bz)(li:Int):Query:=.mk 10 0 fO [] [] gr od li [a,b]
def qU(c:Query->Int)(q D:Query):ce:=
 match q with
 |.mk op _ _ co on gr od li args=>
  match args with
  |[]=>if op=1 then[D]else[]
  |[a]=>
   if op=2 then qU c a D
   else if op=3 then qU c a (mR (fX a) D (pR co))
   else if op=9 then qU c a (Gy (mR (fX a) D (uQ gr)) a gr od li)
   else[]
  |a::b::_=>
   if op=4 then qU c a (IQ (mR D b (BO (c a) (c b))) (iV 0 (c a)))++qU c b (IQ D (iV (c a) (c b)))
   else if op=5 then qU c a (mR D b on)++qU c b (mR (fX b) D (rM on))
   else if op=6 then qU c a (kP (fX a) D)++qU c b (kP (fX b) D)
   else if op=7\/op=8 then qU c a D++qU c b (kP (kP (fX b) D) a)
   else if op=10 then qU c a D++qU c b (Gy (mR (fX b) D (uQ gr)) b gr od li)
   else[]
 termination_by SizeOf.sizeOf q
noncomputable def yF(s:jQ)(q:Query):Int:=((aL s [] q).1.length:Int)
def b5X(s:jQ)(op ta:Int)(co a b:bn):bn:=if op=1 then jA s ta else if op=3 then co.map (λc=>a.getD c.toNat 0)else if op=4 then a++b else a
structure bWZ(s:jQ)(op ta:Int)(co:bn)(on:bu)(gr:bn)(od:bz)(li:Int)(a b:bn)(r:bn):Prop where
 out:r=b5X s op ta co a b
 len:r.length<=12
 tab:op=1->0<=ta/\ta<s.tables.length
 proj:op=3->co≠[]/\Good (λ_ c=>CQ a c=true) co
 pair:op=4\/op=5->Good (nH a b) on
 rank:op=9\/op=10->nA a gr od li
 same:op=6\/op=7\/op=8\/op=10->a=b
theorem tJ(h:(mX l).2=0):l.length<=12:=by
 unfold mX at h
 grind
theorem WE{op:Int}{w:Pred}{on:bu}{args:ce}{b:bn}(h:(eK s [] (.mk op ta w co on gr od li args) a b).2=0):
 bWZ s op ta co on gr od li a b (eK s [] (.mk op ta w co on gr od li args) a b).1/\1<=op/\op<=10:=by
 unfold eK at h⊢
 by_cases d:arity op<0\/¬cR (.mk op ta w co on gr od li args)
 .rw[if_pos d]at h;simp[eC]at h
 rw[if_neg d]at h⊢
 rw[not_or]at d;have f:=d.1
 have e:op=1\/op=2\/op=3\/op=9\/op=4\/op=5\/op=6\/op=7\/op=8\/op=10:=by
  unfold arity at f
  grind
 refine⟨?_,aC,aC⟩;dsimp only at h⊢
 rcases e with rfl|rfl|rfl|rfl|rfl|rfl|rfl|rfl|rfl|rfl
 .simp only[if_true]at h⊢
  split at h
  .rename_i c;rw[if_pos c];rw[tC h];exact⟨rfl,tJ h,λ_=>c,ay,ay,ay,ay⟩
  .simp[eC]at h
 .simp only[show¬((2:Int)=1)by decide,if_true,if_false]at h⊢
  split at h
  .rename_i c;rw[if_pos c];rw[tC h];exact⟨rfl,tJ h,ay,ay,ay,ay,ay⟩
  .rename_i c;simp[eC]at h;omega
 .simp only[show¬((3:Int)=1)by decide,show¬((3:Int)=2)by decide,if_true,if_false]at h⊢
  split at h
  .rename_i c;rw[if_pos c];rw[tC h];exact⟨rfl,tJ h,ay,λ_=>c,ay,ay,ay⟩
  .simp[eC]at h
 .simp only[show¬((9:Int)=1)by decide,show¬((9:Int)=2)by decide,show¬((9:Int)=3)by decide,show¬((9:Int)=4)by decide,show¬((9:Int)=5)by decide,if_true,if_false]at h⊢
  split at h
  .rename_i c;rw[if_pos c];rw[tC h];exact⟨rfl,tJ h,ay,ay,ay,λ_=>c,ay⟩
  .simp[eC]at h
 .simp only[show¬((4:Int)=1)by decide,show¬((4:Int)=2)by decide,show¬((4:Int)=3)by decide,if_true,if_false]at h⊢
  split at h
  .rename_i c;rw[if_pos c];rw[tC h];exact⟨rfl,tJ h,ay,ay,λ_=>c,ay,ay⟩
  .simp[eC]at h
 .simp only[show¬((5:Int)=1)by decide,show¬((5:Int)=2)by decide,show¬((5:Int)=3)by decide,show¬((5:Int)=4)by decide,if_true,if_false]at h⊢
  split at h
  .rename_i c;rw[if_pos c];rw[tC h];exact⟨rfl,tJ h,ay,ay,λ_=>c,ay,ay⟩
  .simp[eC]at h
 .simp only[show¬((6:Int)=1)by decide,show¬((6:Int)=2)by decide,show¬((6:Int)=3)by decide,show¬((6:Int)=4)by decide,show¬((6:Int)=5)by decide,show¬((6:Int)=9)by decide,show¬((6:Int)=10)by decide,if_true,if_false]at h⊢
  split at h
  .rename_i c;rw[if_pos c];rw[tC h];exact⟨rfl,tJ h,ay,ay,ay,ay,λ_=>c⟩
  .simp[eC]at h
 .simp only[show¬((7:Int)=1)by decide,show¬((7:Int)=2)by decide,show¬((7:Int)=3)by decide,show¬((7:Int)=4)by decide,show¬((7:Int)=5)by decide,show¬((7:Int)=9)by decide,show¬((7:Int)=10)by decide,if_true,if_false]at h⊢
  split at h
  .rename_i c;rw[if_pos c];rw[tC h];exact⟨rfl,tJ h,ay,ay,ay,ay,λ_=>c⟩
  .simp[eC]at h
 .simp only[show¬((8:Int)=1)by decide,show¬((8:Int)=2)by decide,show¬((8:Int)=3)by decide,show¬((8:Int)=4)by decide,show¬((8:Int)=5)by decide,show¬((8:Int)=9)by decide,show¬((8:Int)=10)by decide,if_true,if_false]at h⊢
  split at h
  .rename_i c;rw[if_pos c];rw[tC h];exact⟨rfl,tJ h,ay,ay,ay,ay,λ_=>c⟩
  .simp[eC]at h
 .simp only[show¬((10:Int)=1)by decide,show¬((10:Int)=2)by decide,show¬((10:Int)=3)by decide,show¬((10:Int)=4)by decide,show¬((10:Int)=5)by decide,show¬((10:Int)=9)by decide,if_true,if_false]at h⊢
  split at h
  .rename_i c;rw[if_pos c];rw[tC h];exact⟨rfl,tJ h,ay,ay,ay,λ_=>c.2,λ_=>c.1⟩
  .simp[eC]at h
theorem Lb(h:l.length<=12):mX l=(l,0):=by unfold mX;rw[if_pos h]
theorem aSX{on:bu}{args:ce}{b:bn}(h:a.length<=12)(c:Good (nH a b) on):eK s [] (.mk 5 0 fO [] on [] [] 0 args) a b=(a,0):=by
 unfold eK;rw[if_neg (by simp[cR,arity])];simp only[show¬((5:Int)=1)by decide,show¬((5:Int)=2)by decide,show¬((5:Int)=3)by decide,show¬((5:Int)=4)by decide,if_true,if_false,if_pos c,Lb h]
theorem Y3{args:ce}(h:a.length<=12):eK s [] (.mk 8 0 fO [] [] [] [] 0 args) a a=(a,0):=by
 unfold eK;rw[if_neg (by simp[cR,arity])];simp only[show¬((8:Int)=1)by decide,show¬((8:Int)=2)by decide,show¬((8:Int)=3)by decide,show¬((8:Int)=4)by decide,show¬((8:Int)=5)by decide,show¬((8:Int)=9)by decide,show¬((8:Int)=10)by decide,if_true,if_false,Lb h]
theorem aSZ{args:ce}{b:bn}(d:co≠[])(e:Good (λ_ c=>CQ a c=true) co)(h:co.length<=12):eK s [] (.mk 3 0 fO co [] [] [] 0 args) a b=(co.map (λc=>a.getD c.toNat 0),0):=by
 unfold eK;rw[if_neg (by simp[cR,arity])];simp only[show¬((3:Int)=1)by decide,show¬((3:Int)=2)by decide,if_true,if_false];rw[if_pos ⟨d,e⟩,Lb (bk h)]
theorem aSJ{args:ce}(h:a.length<=12)(c:nA a gr od li):eK s [] (.mk 10 0 fO [] [] gr od li args) a a=(a,0):=by
 unfold eK;rw[if_neg (by simp[cR,arity])];simp only[show¬((10:Int)=1)by decide,show¬((10:Int)=2)by decide,show¬((10:Int)=3)by decide,show¬((10:Int)=4)by decide,show¬((10:Int)=5)by decide,show¬((10:Int)=9)by decide,if_true,if_false];rw[if_pos ⟨rfl,c⟩,Lb h]
theorem gO.k{q:Query}(g:gO s q):aL s [] q=((aL s [] q).1,0):=Prod.ext rfl g.kinds
theorem gO.two{op:Int}{w:Pred}{on:bu}{a b:Query}{K:bn}(c:gO s a)(d:gO s b)(g:arity op=2)(j:eK s [] (.mk op ta w co on gr od li [a,b]) (aL s [] a).1 (aL s [] b).1=(K,0))(n:D6 w)(o:gI 4 (.mk op ta w co on gr od li [a,b])<=8000000):
 gO s (.mk op ta w co on gr od li [a,b])/\(aL s [] (.mk op ta w co on gr od li [a,b])).1=K:=by
 have e:aL s [] (.mk op ta w co on gr od li [a,b])=(K,0):=by
  rw[aL,uX (ks:=[(aL s [] a).1,(aL s [] b).1]) (by show[aL s [] a,aL s [] b]=[((aL s [] a).1,0),((aL s [] b).1,0)];rw[<-c.k, <-d.k])]
  grind
 refine⟨⟨by rw[e],Jg.2 ⟨Y4 (s:=s) (ps:=[]) (a:=(aL s [] a).1) (b:=(aL s [] b).1) (lM ..) (lM ..) ay n (by rw[j]),λq f=>?_⟩,o⟩,by rw[e]⟩;simp at f;rcases f with rfl|rfl
 .exact c.ints
 .exact d.ints
theorem gO.one{op:Int}{w:Pred}{on:bu}{a:Query}{K:bn}(c:gO s a)(f:arity op=1)(g:eK s [] (.mk op ta w co on gr od li [a]) (aL s [] a).1 []=(K,0))(j:D6 w)(n:gI 4 (.mk op ta w co on gr od li [a])<=8000000):
 gO s (.mk op ta w co on gr od li [a])/\(aL s [] (.mk op ta w co on gr od li [a])).1=K:=by
 have d:aL s [] (.mk op ta w co on gr od li [a])=(K,0):=by
  rw[aL,uX (ks:=[(aL s [] a).1]) (by show[aL s [] a]=[((aL s [] a).1,0)];rw[<-c.k])]
  grind
 refine⟨⟨by rw[d],Jg.2 ⟨Y4 (s:=s) (ps:=[]) (a:=(aL s [] a).1) (b:=[]) (lM ..) ay ay j (by rw[g]),λq e=>?_⟩,n⟩,by rw[d]⟩;simp at e;subst e;exact c.ints
theorem EE{s:jQ}{a b:Query}{on:bu}(c:gO s a)(d:gO s b)(e:Good (nH (aL s [] a).1 (aL s [] b).1) on)(f:gI 4 a+gI 4 b<=8000000):gO s (mR a b on)/\(aL s [] (mR a b on)).1=(aL s [] a).1:=
 gO.two c d rfl (aSX (lM ..) e) qG (by simpa[gI,v8]using f)
theorem Az{a b:Query}(c:gO s a)(d:gO s b)(e:(aL s [] a).1=(aL s [] b).1)(f:gI 4 a+gI 4 b<=8000000):gO s (kP a b)/\(aL s [] (kP a b)).1=(aL s [] a).1:=
 gO.two c d rfl (by rw[<-e];exact Y3 (lM ..)) qG (by simpa[gI,v8]using f)
theorem Si{s:jQ}{a:Query}{co:bn}(d:gO s a)(e:co≠[])(f:Good (λ_ c=>CQ (aL s [] a).1 c=true) co)(g:co.length<=12)(j:gI 4 a<=8000000):gO s (IQ a co)/\(aL s [] (IQ a co)).1=co.map (λc=>(aL s [] a).1.getD c.toNat 0):=
 gO.one d rfl (aSZ e f g) qG (by simpa[gI,v8]using j)
theorem aQJ{s:jQ}{a b:Query}{gr:bn}{od:bz}{li:Int}(c:gO s a)(d:gO s b)(e:(aL s [] a).1=(aL s [] b).1)(f:nA (aL s [] a).1 gr od li)(g:gI 4 a+gI 4 b<=8000000):gO s (Gy a b gr od li)/\(aL s [] (Gy a b gr od li)).1=(aL s [] a).1:=
 gO.two c d rfl (by rw[<-e];exact aSJ (lM ..) f) qG (by simpa[gI,v8]using g)
theorem gO.node{op:Int}{w:Pred}{on:bu}{args:ce}(g:gO s (.mk op ta w co on gr od li args)):
 bWZ s op ta co on gr od li ((args.map λq=>(aL s [] q).1).getD 0 []) ((args.map λq=>(aL s [] q).1).getD 1 []) (aL s [] (.mk op ta w co on gr od li args)).1/\(1<=op/\op<=10)/\(args.length:Int)=arity op/\∀a∈args,gO s a:=by
 have c:=Hc g.kinds;have h:=g.kinds;rw[c]at h;have:=WE h;rw[<-c]at this;exact⟨this.1,this.2,(lL g.kinds).2.1,λa d=>g.arg d⟩
theorem cvQ{op:Int}{on:bu}{args:ce}{w:Pred}(g:gO s (.mk op ta w co on gr od li args)):co.length<=12/\on.length<=12/\gr.length<=12/\od.length<=12:=by
 obtain⟨_,_,a,b,D,_,h⟩:=lL g.kinds;have n:=(WE h).1
 have u:cR (.mk op ta w co on gr od li args):=by
  unfold eK at h;by_cases z:arity op<0\/¬cR (.mk op ta w co on gr od li args)
  .rw[if_pos z]at h;simp[eC]at h
  grind
 obtain⟨_,_,A,B,C⟩:=u
 have d:Good (nH a b) on->on.length<=12:=λg=>by
  have:=Li (f:=λp=>p.1) (n:=a.length) g (λc x t=>by have:=t.1;rw[eY]at this;exact this) (λc x t y o=>(t.2.2.2 y o).1);omega
 have j:nA a gr od li->gr.length<=12/\od.length<=12:=λr=>by
  have:=Li (f:=λp=>p) (n:=a.length) r.group_ (λc x t=>by have:=t.1;rw[eY]at this;exact this) (λc x t y o e=>t.2 bg);exact⟨aC,r.len_⟩
 refine⟨?_,?_,?_⟩
 .rcases A with rfl|rfl
  .have:=n.len;rw[n.out]at this;simpa[b5X]using this
  .simp
 .rcases B with rfl|rfl|rfl
  .exact d (n.pair (.inl rfl))
  .exact d (n.pair (.inr rfl))
  .simp
 .rcases C with rfl|rfl|⟨rfl,rfl,_⟩
  .exact j (n.rank (.inl rfl))
  .exact j (n.rank (.inr rfl))
  .simp
theorem IZ{s:jQ}:∀{l c:ce},l.map (aL s [])=c.map (aL s [])->fL s [] l=fL s [] c
 |[],[],_=>rfl
 |[],_::_,h=>by simp at h
 |_::_,[],h=>by simp at h
 |q::l,d::c,h=>by
  simp only[map_cons,List.cons.injEq]at h;rw[fL,fL,h.1,IZ h.2]
theorem Ze{op:Int}{w:Pred}{on:bu}{args c:ce}(h:c.map (aL s [])=args.map (aL s [])):aL s [] (.mk op ta w co on gr od li c)=aL s [] (.mk op ta w co on gr od li args):=by
 rw[aL,aL,IZ h];split;rename_i ks e _;rw[Jl s [] op ta w co on gr od li c,Jl s [] op ta w co on gr od li args]
theorem blX{f:Query->Query}:∀{l:ce},(∀a∈l,gI 4 (f a)<=gI 4 a)->v8 4 (l.map f)<=v8 4 l/\xP 4 (l.map f)<=xP 4 l
 |[],_=>⟨Nat.le_refl _,Nat.le_refl _⟩
 |q::l,h=>by
  have c:=h q (by simp);have d:=blX (l:=l) λa e=>h a (by simp[e]);simp only[map_cons,v8,xP];exact⟨aC,Nat.mul_le_mul c d.2⟩
theorem aGX{op:Int}{w:Pred}{on:bu}{args:ce}(g:gO s (.mk op ta w co on gr od li args)){a:Query}(d:a∈args):gI 4 a<=gI 4 (.mk op ta w co on gr od li args):=by
 obtain⟨j,f,n,_⟩:=xY g.k;have o:=LK (c:=4) aC f a d;rw[gI];split
 .rename_i e;subst e;rw[L5 f n]at d;cases d
 grind
theorem UK{op:Int}(h:DB op=true):op=7\/op=9\/op=10:=by
 unfold DB at h
 grind
theorem De{s:jQ}:∀q:Query,gO s q->gO s (fX q)/\(aL s [] (fX q)).1=(aL s [] q).1/\gI 4 (fX q)<=gI 4 q
 |.mk op ta w co on gr od li args,g=>by
  obtain⟨n,A,B,u⟩:=g.node;have j:∀a∈args,gO s (fX a)/\(aL s [] (fX a)).1=(aL s [] a).1/\gI 4 (fX a)<=gI 4 a:=λa d=>De a (u a d);rw[fX];split
  .rename_i C;have D:=UK C
   obtain⟨a,c,rfl⟩:∃a c,args=a::c:=by
    cases args with
    |nil=>
     exfalso;have:(1:Int)<=arity op:=by rcases D with rfl|rfl|rfl<;>decide
     grind
    |cons a c=>grind
   have o:=j a ay;have e:(GB (a::c)).getD 0 auQ=fX a:=by rw[GB];rfl
   rw[e];refine⟨o.1,?_,Nat.le_trans o.2.2 (aGX g ay)⟩;rw[o.2.1,n.out];unfold b5X
   grind
  .rw[EW]
   have y:aL s [] (.mk op ta w co on gr od li (args.map fX))=aL s [] (.mk op ta w co on gr od li args):=Ze (by
    rw[map_map];refine map_congr_left λa d=>?_;show aL s [] (fX a)=aL s [] a;rw[(j a d).1.k,(u a d).k,(j a d).2.1])
   have z:gI 4 (.mk op ta w co on gr od li (args.map fX))<=gI 4 (.mk op ta w co on gr od li args):=by
    have:=blX (l:=args) (f:=fX) λa d=>(j a d).2.2;simp only[gI]
    grind
   refine⟨⟨by rw[y];exact g.kinds,Jg.2 ⟨(Jg.1 g.ints).1,λq E=>?_⟩,Nat.le_trans z g.bnd⟩,by rw[y],z⟩;obtain⟨a,d,rfl⟩:=mem_map.1 E;exact(j a d).1.ints
 termination_by q=>SizeOf.sizeOf q
theorem bnX(h:eH s=0){t:Int}(e:0<=t)(f:t<s.tables.length):0<(jA s t).length:=by
 have c:LO s:=by
  unfold eH at h
  grind
 unfold jA;rw[if_neg aC];have d:t.toNat<s.tables.length:=by omega
 rw[getElem?_eq_getElem d];have:=c.2.2.1 t.toNat _ (getElem?_eq_getElem d);have g:=this.2.1;have j:=this.2.2.1
 grind
theorem Wf(h:eH s=0):s.tables.length<=1000:=by
 unfold eH at h;split at h
 .rename_i e;have:=e.1;omega
 .cases h
theorem Ml{s:jQ}(f:eH s=0):∀q:Query,gO s q->0<(aL s [] q).1.length
 |.mk op ta w co on gr od li args,g=>by
  obtain⟨n,j,d,o⟩:=g.node;rw[n.out]
  have u:op≠1->∃a c,args=a::c:=λA=>by
   cases args with
   |nil=>
    exfalso;simp only[length_nil]at d;unfold arity at d
    grind
   |cons a c=>grind
  unfold b5X;split
  .rename_i e;exact bnX f (n.tab e).1 (n.tab e).2
  .rename_i y;obtain⟨a,c,rfl⟩:=u y;have B:=Ml f a (o a ay);split
   .rename_i z;have:=(n.proj z).1
    grind
   grind
 termination_by q=>SizeOf.sizeOf q
theorem apQ{op:Int}{w:Pred}{on:bu}{ks:cm}(h:(ks.length:Int)=arity op):Dh ts (Ag op ta w co on gr od li ks)=ks.map (aU ts):=by
 have c:=E0 op;unfold Dh BF Ag;dsimp only;rw[<-h,Int.toNat_natCast]
 match ks,h with
 |[],_=>rfl
 |[a],_=>simp
 |[a,b],_=>simp
 |_::_::_::_,h=>grind
theorem bwZ{n:Nat}{op:Int}{w:Pred}{on:bu}{ks:cm}(h:(ks.length:Int)=arity op)(c:∀k∈ks,k<n):pW n (Ag op ta w co on gr od li ks):=by
 have d:=E0 op;unfold pW Ag Ew;dsimp only;rw[<-h]
 match ks,h,c with
 |[],_,_=>simp
 |[a],_,c=>have:=c a ay;simp;omega
 |[a,b],_,c=>have:=c a ay;have:=c b ay;simp;omega
 |_::_::_::_,h,_=>grind
structure BK(s:jQ)(ts ts':cg)(k:Nat)(q:Query):Prop where
 inv:Ez s ts'
 pre:ts<+:ts'
 lt:k<ts'.length
 is:aU ts' k=q
theorem LM{s:jQ}{ts:cg}{op ta:Int}{w:Pred}{co:bn}{on:bu}{gr:bn}{od:bz}{li:Int}{ks:cm}{args:ce}(d:s.tables.length<=1000)(v:Ez s ts)(e:ts.length<=100000)(c:(ks.length:Int)=arity op)(f:∀k∈ks,k<ts.length)(j:ks.map (aU ts)=args)(g:gO s (.mk op ta w co on gr od li args)):
 BK s ts (bV (Ag op ta w co on gr od li ks) ts).1 (bV (Ag op ta w co on gr od li ks) ts).2 (.mk op ta w co on gr od li args):=by
 obtain⟨z,A,B,C⟩:=cvQ g;obtain⟨n,o,u,y⟩:=buJ (t:=Ag op ta w co on gr od li ks) d v e (by show 0<=arity op;omega) (bwZ c f) g (by rw[apQ c,j];rfl) ⟨by show co.length<=1000;omega,by show on.length<=1000;omega,by show gr.length<=1000;omega,by show od.length<=1000;omega⟩;exact⟨n,o,u,y⟩
def Hv(s:jQ)(ts:cg)(p:PN):Prop:=
 match p with
 |.mk q args r e c=>r<ts.length/\e<ts.length/\aU ts r=q/\aU ts e=fX q/\c=yF s q/\gO s q/\q.args=args.map PN.q/\∀a∈args,Hv s ts a
 termination_by SizeOf.sizeOf p
theorem Hv.mono{s:jQ}{ts c:cg}(d:ts<+:c)(ok:CJ c):∀p:PN,Hv s ts p->Hv s c p
 |.mk q args r e B,h=>by
  rw[Hv]at h⊢
  obtain⟨f,g,j,n,o,u,y,z⟩:=h;have C:=d.length_le;exact⟨aC,aC,by rw[fF d ok r f];exact j,by rw[fF d ok e g];exact n,o,u,y,λa A=>Hv.mono d ok a (z a A)⟩
 termination_by p=>SizeOf.sizeOf p
theorem Hv.get{p:PN}(h:Hv s ts p):p.rows<ts.length/\p.env<ts.length/\aU ts p.rows=p.q/\aU ts p.env=fX p.q/\p.width=yF s p.q/\gO s p.q/\p.q.args=p.args.map PN.q/\∀a∈p.args,Hv s ts a:=by
 cases p;rw[Hv]at h;exact h
theorem bpX{s:jQ}{ts:cg}:∀p:PN,Hv s ts p->IN p/\kY p=lO p.q
 |.mk (.mk op ta w co on gr od li c) args r e z,h=>by
  rw[Hv]at h;obtain⟨_,_,_,_,j,f,d,n⟩:=h;have d:c=args.map PN.q:=d;obtain⟨A,B,C,D⟩:=cvQ f;obtain⟨_,_,o,_⟩:=f.node;have g:∀a∈args,IN a/\kY a=lO a.q:=λa u=>bpX a (n a u);have E:=lM s [] (.mk op ta w co on gr od li c);unfold yF at j;refine⟨?_,?_⟩
  .rw[IN]
   grind
  .have key:∀l:dp,(∀a∈l,kY a=lO a.q)->sC l=kT (l.map PN.q):=by
    intro l
    induction l with
    |nil=>intro _;simp[sC,kT]
    |cons a l g=>intro h;simp only[sC,map_cons,kT,h a ay,g λb y=>h b (by simp[y])]
   simp only[kY,PN.q,lO,d]
   grind
 termination_by p=>SizeOf.sizeOf p
mutual
theorem VY{s:jQ}(u:s.tables.length<=1000):∀(q:Query)(ts:cg),gO s q->Ez s ts->ts.length+2*lO q<=100000->Ez s (fP s q ts).2/\ts<+:(fP s q ts).2/\Hv s (fP s q ts).2 (fP s q ts).1/\(fP s q ts).1.q=q
 |.mk op ta w co on gr od li args,ts,g,v,F=>by
  obtain⟨n,G,H,I⟩:=g.node;simp only[lO]at F;have f:=Nq (.mk op ta w co on gr od li args) ts g.kinds;obtain⟨J,B,y,j⟩:=R6 u args ts I v aC;have R:=yI s args ts;rw[HB]at f⊢
  generalize S:(eG s args ts).1=P at*
  generalize U:(eG s args ts).2=T at*
  have C:P.length=args.length:=bg
  have L:(P.map PN.rows).map (aU T)=args:=by
   rw[map_map, <-j];exact map_congr_left λp d=>(y p d).get.2.2.1
  have A:=LM u J aC bg (λk z=>by obtain⟨p,d,rfl⟩:=mem_map.1 z;exact(y p d).get.1) L g;have o:∀p∈P,Hv s (bV (Ag op ta w co on gr od li (P.map PN.rows)) T).1 p:=λp d=>Hv.mono A.pre A.inv.ok p (y p d);have M:=dV (Ag op ta w co on gr od li (P.map PN.rows)) T;unfold anQ at f⊢
  dsimp only at f⊢
  split at f
  .rename_i c;rw[if_pos c];have O:=UK c
   obtain⟨p,e,rfl⟩:∃a e,P=a::e:=by
    cases P with
    |nil=>
     exfalso;have:(1:Int)<=arity op:=by rcases O with rfl|rfl|rfl<;>decide
     grind
    |cons a e=>grind
   have D:=(o p ay).get;refine⟨A.inv,B.trans A.pre,?_,rfl⟩;rw[Hv];refine⟨A.lt,D.2.1,A.is,?_,f,g,j.symm,o⟩;show aU _ p.env=_;rw[D.2.2.2.1,fX,if_pos c, <-j,map_cons,GB];rfl
  .rename_i c;rw[if_neg c]
   have Q:(P.map PN.env).map (aU (bV (Ag op ta w co on gr od li (P.map PN.rows)) T).1)=GB args:=by
    rw[map_map,EW, <-j,map_map];exact map_congr_left λp d=>(o p d).get.2.2.2.1
   have E:=(De _ g).1;rw[fX,if_neg c]at E;have A2:=LM u A.inv aC bg (λk z=>by obtain⟨p,d,rfl⟩:=mem_map.1 z;exact(o p d).get.2.1) Q E;refine⟨A2.inv,(B.trans A.pre).trans A2.pre,?_,rfl⟩;rw[Hv];refine⟨Nat.lt_of_lt_of_le A.lt A2.pre.length_le,A2.lt,by rw[fF A2.pre A2.inv.ok _ A.lt];exact A.is,by rw[A2.is,fX,if_neg c],f,g,j.symm,λp d=>Hv.mono A2.pre A2.inv.ok p (o p d)⟩
theorem R6{s:jQ}(c:s.tables.length<=1000):∀(l:ce)(ts:cg),(∀q∈l,gO s q)->Ez s ts->ts.length+2*kT l<=100000->Ez s (eG s l ts).2/\ts<+:(eG s l ts).2/\(∀p∈(eG s l ts).1,Hv s (eG s l ts).2 p)/\(eG s l ts).1.map PN.q=l
 |[],ts,_,v,_=>by simp only[eG];grind
 |q::l,ts,h,v,g=>by
  simp only[kT]at g;obtain⟨j,n,o,y⟩:=VY c q ts (h q ay) v aC;have z:=Dw s q ts;obtain⟨d,e,A,B⟩:=R6 c l (fP s q ts).2 (λa u=>h a (by simp[u])) j aC;rw[eG];refine⟨d,n.trans e,λp f=>?_,bg⟩;rcases mem_cons.1 f with rfl|f
  .exact Hv.mono e d.ok _ o
  grind
end
theorem OE{b:bn}{l:bu}(h:∀x∈l,CQ a x.1=true/\CQ b x.2=true/\a.getD x.1.toNat 0=b.getD x.2.toNat 0)(d:(l.map Prod.fst).Nodup)(f:(l.map Prod.snd).Nodup):Good (nH a b) l:=by
 intro i x c;obtain⟨g,n,o⟩:=h x (mem_of_getElem? c);refine⟨g,n,o,λq u=>?_⟩;obtain⟨j,A,e⟩:=mem_take_iff_getElem.1 u;obtain⟨y,z⟩:=List.getElem?_eq_some_iff.1 c;rw[nodup_iff_pairwise_ne,pairwise_iff_getElem]at d f
 grind
theorem YW{b:bn}{l:bu}(h:Good (nH a b) l):(l.map Prod.fst).Nodup/\(l.map Prod.snd).Nodup:=by
 rw[nodup_iff_pairwise_ne,pairwise_iff_getElem,nodup_iff_pairwise_ne,pairwise_iff_getElem];refine⟨λi j e c d=>?_,λi j e c d=>?_⟩<;>
 .simp only[length_map]at e c;simp only[getElem_map];have:=(h j l[j] (getElem?_eq_getElem c)).2.2.2 l[i] (mem_take_iff_getElem.2 ⟨i,aC,rfl⟩)
  first|exact this.1|exact this.2
theorem aRZ{b:bn}{on:bu}(h:Good (nH a b) on):Good (nH b a) (rM on):=by
 obtain⟨f,g⟩:=YW h;refine OE (λx c=>?_) ?_ ?_
 .obtain⟨p,d,rfl⟩:=mem_map.1 c;have:=CR (P:=λp=>CQ a p.1=true/\CQ b p.2=true/\a.getD p.1.toNat 0=b.getD p.2.toNat 0) h (λe x t=>⟨t.1,t.2.1,t.2.2.1⟩) p d
  grind
 .unfold rM;grind
 .unfold rM;grind
theorem bpJ(h:Good (Gv a) gr):Good (nH a a) (uQ gr):=by
 have u:gr.Nodup:=by
  rw[nodup_iff_pairwise_ne,pairwise_iff_getElem];intro i j y d f e;exact(h j gr[j] (getElem?_eq_getElem d)).2 (by rw[<-e];exact mem_take_iff_getElem.2 ⟨i,aC,rfl⟩)
 refine OE (λx g=>?_) ?_ ?_
 .obtain⟨c,n,rfl⟩:=mem_map.1 g;have:=CR (P:=λc=>CQ a c=true) h (λo x t=>t.1) c n
  grind
 .unfold uQ;grind
 .unfold uQ;grind
theorem aTZ{α β:Type}{f:α->β}:∀{l:List α},l.Nodup->(∀x∈l,∀y∈l,f x=f y->x=y)->(l.map f).Nodup
 |[],_,_=>ay
 |a::l,h,c=>by
  rw[nodup_cons]at h;rw[map_cons,nodup_cons];refine⟨λg=>?_,aTZ h.2 λx d y e=>c x (by simp[d]) y (by simp[e])⟩
  grind
theorem YX(h:Good (λ_ c=>CQ a c=true) co):Good (nH a (co.map λc=>a.getD c.toNat 0)) (pR co):=by
 have g:((List.range co.length).filter λi=>decide (co.idxOf (co.getD i 0)=i)).Nodup:=List.Nodup.sublist filter_sublist nodup_range;refine OE (λx e=>?_) ?_ ?_
 .obtain⟨i,j,rfl⟩:=mem_map.1 e;have d:i<co.length:=bg
  have f:co.getD i 0=co[i]:=by simp[d]
  have:=h i co[i] (getElem?_eq_getElem d);dsimp only;rw[f];refine⟨this,eY.2 ⟨aC,bf⟩,?_⟩
  grind
 .unfold pR
  grind
 .unfold pR
  grind
theorem YV{b:bn}:Good (nH (a++b) b) (BO (a.length:Int) (b.length:Int)):=by
 have e:(List.range b.length).Nodup:=nodup_range;refine OE (λx c=>?_) ?_ ?_
 .unfold BO at c;rw[Int.toNat_natCast]at c;obtain⟨i,f,rfl⟩:=mem_map.1 c;have d:i<b.length:=bg
  refine⟨eY.2 ⟨aC,bg⟩,eY.2 ⟨aC,aC⟩,?_⟩
  grind
 .unfold BO
  grind
 .unfold BO
  grind
theorem avX{K:bn}{a n:Nat}(h:a+n<=K.length):Good (λ_ c=>CQ K c=true) (iV a n):=by
 intro i x d;have:=mem_of_getElem? d;unfold iV at this;obtain⟨j,e,rfl⟩:=mem_map.1 this;have:j<n:=bg
 exact eY.2 ⟨aC,aC⟩
theorem Wb{K:bn}{a n:Nat}(h:a+n<=K.length):(iV a n).map (λc=>K.getD c.toNat 0)=(K.drop a).take n:=by
 unfold iV;rw[map_map,Int.toNat_natCast];apply ext_getElem?
 grind
theorem aPQ{K:bn}{n:Nat}(h:n<=K.length):(iV 0 n).map (λc=>K.getD c.toNat 0)=K.take n:=by
 have:=Wb (K:=K) (a:=0) (n:=n) aC
 grind
theorem xN{s:jQ}{ts:cg}{op:Int}{on:bu}{gr:bn}{od:bz}{li:Int}{a b:Nat}(c:s.tables.length<=1000)(v:Ez s ts)(d:ts.length<=100000)(e:arity op=2)(f:a<ts.length)(j:b<ts.length)(g:gO s (.mk op 0 fO [] on gr od li [aU ts a,aU ts b])):
 BK s ts (bV ⟨op,0,fO,[],on,gr,od,li,a,b⟩ ts).1 (bV ⟨op,0,fO,[],on,gr,od,li,a,b⟩ ts).2 (.mk op 0 fO [] on gr od li [aU ts a,aU ts b]):=
 LM (ks:=[a,b]) c v d (by rw[e];rfl) (λk n=>bg) rfl g
theorem Yz{s:jQ}{ts:cg}{co:bn}{a:Nat}(c:s.tables.length<=1000)(v:Ez s ts)(d:ts.length<=100000)(e:a<ts.length)(g:gO s (IQ (aU ts a) co)):
 BK s ts (bV (oR a co) ts).1 (bV (oR a co) ts).2 (IQ (aU ts a) co):=
 LM (ks:=[a]) c v d rfl (λk f=>bg) rfl g
theorem BK.keep{c:cg}{k:Nat}{q:Query}(x:BK s ts c k q)(d:i<ts.length):i<c.length/\aU c i=aU ts i:=⟨Nat.lt_of_lt_of_le d x.pre.length_le,fF x.pre x.inv.ok i d⟩
structure Ao(s:jQ)(ts:cg)(rs:bn)(r:cg×bn)(qs:ce):Prop where
 inv:Ez s r.1
 pre:ts<+:r.1
 ex:∃ds:cm,r.2=rs++ds.map (fun(d:Nat)=>(d:Int))/\(∀d∈ds,d<r.1.length)/\ds.map (aU r.1)=qs
theorem Ao.comp{e:cg}{z r:cg×bn}{f g:ce}(x:Ao s ts rs z f)(j:z.1<+:e)(y:Ao s e z.2 r g):Ao s ts rs r (f++g):=by
 obtain⟨o,D,u,A⟩:=x.ex;obtain⟨B,E,F,C⟩:=y.ex;have c:=j.trans y.pre;refine⟨y.inv,(x.pre.trans j).trans y.pre,o++B,bg,λd n=>?_,?_⟩
 .grind
 .rw[map_append,C, <-A];congr 1;exact map_congr_left λd n=>fF c y.inv.ok d (u d n)
theorem Ao.shift{c:cg}{r:cg×bn}{q:ce}(d:ts<+:c)(y:Ao s c rs r q):Ao s ts rs r q:=⟨y.inv,d.trans y.pre,y.ex⟩
theorem Oh{q p:Query}{op:Int}{w:Pred}{on:bu}(c:op≠1)(d:op≠4):gI 4 (.mk op ta w co on gr od li [q,p])=gI 4 q+gI 4 p:=by
 rw[gI,if_neg c,if_neg d];simp[v8]
theorem cMJ{q:Query}{w:Pred}{on:bu}:gI 4 (.mk 3 ta w co on gr od li [q])=gI 4 q:=by
 rw[gI,if_neg az,if_neg az];simp[v8]
theorem awJ{s:jQ}{ts:cg}{p:PN}{gr:bn}{od:bz}{li:Int}{B b k:Nat}(j:s.tables.length<=1000)(v:Ez s ts)(J:ts.length+5<=100000)(n:k<ts.length)(D:Hv s ts p)(e:(aL s [] (aU ts k)).1=(aL s [] p.q).1)(o:nA (aL s [] p.q).1 gr od li)(E:gI 4 p.q<=B)(L:gI 4 (aU ts k)<=b)(F:b+2*B<=8000000):
 BK s ts (Bx p k gr od li ts).1 (Bx p k gr od li ts).2 (Gy (mR (fX p.q) (aU ts k) (uQ gr)) p.q gr od li)/\(aL s [] (Gy (mR (fX p.q) (aU ts k) (uQ gr)) p.q gr od li)).1=(aL s [] p.q).1/\gI 4 (Gy (mR (fX p.q) (aU ts k) (uQ gr)) p.q gr od li)<=b+2*B:=by
 obtain⟨G,u,f,y,_,H,_⟩:=D.get;have ev:=De _ H;have M:gI 4 (fX p.q)<=B:=Nat.le_trans ev.2.2 E;have g:(aL s [] (aU ts p.env)).1=(aL s [] p.q).1:=bg
 have z:=EE (on:=uQ gr) (v.good _ u) (v.good k n) (by rw[g,e];exact bpJ o.group_) bg;have A:=xN (on:=uQ gr) (gr:=[]) (od:=[]) (li:=0) j v aC (show arity 5=2 from rfl) u n z.1;have I:=dV (dU p.env k (uQ gr)) ts;have A:BK s ts (bV (dU p.env k (uQ gr)) ts).1 (bV (dU p.env k (uQ gr)) ts).2 (mR (fX p.q) (aU ts k) (uQ gr)):=by rw[<-y];exact A
 rw[y]at z;have O:gI 4 (mR (fX p.q) (aU ts k) (uQ gr))<=b+B:=by unfold mR;rw[Oh az az];omega
 have c:=A.keep G;have d:(aL s [] (mR (fX p.q) (aU ts k) (uQ gr))).1=(aL s [] p.q).1:=bg
 have C:=aQJ (gr:=gr) (od:=od) (li:=li) (A.inv.good _ A.lt) (A.inv.good _ c.1) (by rw[A.is,c.2,f,d]) (by rw[A.is,d];exact o) (by rw[A.is,c.2,f];omega);have A2:=xN (on:=[]) (gr:=gr) (od:=od) (li:=li) j A.inv aC (show arity 10=2 from rfl) A.lt c.1 C.1;rw[A.is,c.2,f]at C A2;refine⟨⟨A2.inv,A.pre.trans A2.pre,A2.lt,A2.is⟩,bg,?_⟩;unfold Gy;rw[Oh az az];omega
set_option maxHeartbeats 32000000 in
theorem wO{s:jQ}(o:eH s=0):∀(p:PN)(B W b k:Nat)(ts:cg)(rs:bn),Hv s ts p->Ez s ts->k<ts.length->(aL s [] (aU ts k)).1=(aL s [] p.q).1->gI 4 p.q<=B->2*B<=W->gI 4 (aU ts k)<=b->b+W*kY p<=8000000->ts.length+5*kY p<=100000->
 Ao s ts rs (gC p k ts rs) (qU (yF s) p.q (aU ts k))
 |.mk (.mk op ta w co on gr od li a6) args r e wd,B,W,b,k,ts,rs,hp,v,E,f,hB,M,hb,H,hl=>by
  have R:=Wf o;have b5:=hp;rw[Hv]at hp;obtain⟨_,_,_,_,_,g,ha,L⟩:=hp;have ha:a6=args.map PN.q:=ha;subst ha;have hB:gI 4 (.mk op ta w co on gr od li (args.map PN.q))<=B:=hB;have f:(aL s [] (aU ts k)).1=(aL s [] (.mk op ta w co on gr od li (args.map PN.q))).1:=f;show Ao s ts rs _ (qU (yF s) (.mk op ta w co on gr od li (args.map PN.q)) (aU ts k));obtain⟨n,b6,I,ga⟩:=g.node;have gD:=v.good k E;have J:∀a∈args,gI 4 a.q<=B:=λa h=>Nat.le_trans (aGX g (mem_map.2 ⟨a,h,rfl⟩)) hB;have eB:∀a∈args,gI 4 (fX a.q)<=B:=λa h=>Nat.le_trans (De _ (ga _ (mem_map.2 ⟨a,h,rfl⟩))).2.2 (J a h);have eg:∀a∈args,(aL s [] (fX a.q)).1=(aL s [] a.q).1:=λa h=>(De _ (ga _ (mem_map.2 ⟨a,h,rfl⟩))).2.1;have X:∀a∈args,a.rows<ts.length/\a.env<ts.length/\aU ts a.rows=a.q/\aU ts a.env=fX a.q/\a.width=yF s a.q/\gO s a.q:=λa h=>let x:=(L a h).get;⟨x.1,x.2.1,x.2.2.1,x.2.2.2.1,x.2.2.2.2.1,x.2.2.2.2.2.1⟩
  rw[n.out]at f;rw[length_map]at I;rw[gC.eq_def,qU.eq_def];simp only[kY]at H hl;have a9:op=1\/op=2\/op=3\/op=9\/op=4\/op=5\/op=6\/op=7\/op=8\/op=10:=by omega
  rcases a9 with rfl|rfl|rfl|rfl|rfl|rfl|rfl|rfl|rfl|rfl
  .obtain rfl:args=[]:=eq_nil_of_length_eq_zero (by have:arity 1=0:=rfl;omega);exact⟨v,prefix_refl _,[k],rfl,λd hd=>by simp at hd;subst hd;exact E,rfl⟩
  .obtain⟨a,rfl⟩:=Fh (l:=args) (by rw[I];rfl);simp only[sC]at H hl;have e1:W*(1+(kY a+0))=W+W*kY a:=bg
   exact wO o a B W b k ts rs (L a ay) v E f (J a ay) M hb aC aC
  .obtain⟨a,rfl⟩:=Fh (l:=args) (by rw[I];rfl);simp only[sC]at H hl;have e1:W*(1+(kY a+0))=W+W*kY a:=bg
   obtain⟨_,g2,_,g4,_,g6⟩:=X a ay;have g1:=eB a ay;have gE:gO s (aU ts a.env):=v.good _ g2;have O:(aL s [] (aU ts a.env)).1=(aL s [] a.q).1:=bg
   have S:=EE (on:=pR co) gE gD (by rw[O,f];exact YX (n.proj rfl).2) bg;have A:=xN (on:=pR co) (gr:=[]) (od:=[]) (li:=0) R v aC (show arity 5=2 from rfl) g2 E S.1;have a2:=dV (dU a.env k (pR co)) ts;have A:BK s ts (bV (dU a.env k (pR co)) ts).1 (bV (dU a.env k (pR co)) ts).2 (mR (fX a.q) (aU ts k) (pR co)):=by rw[<-g4];exact A
   show Ao s ts rs (gC a (bV (dU a.env k (pR co)) ts).2 (bV (dU a.env k (pR co)) ts).1 rs) (qU (yF s) a.q (mR (fX a.q) (aU ts k) (pR co)));have:=wO o a B W (b+2*B) _ _ rs (Hv.mono A.pre A.inv.ok a (L a ay)) A.inv A.lt (by rw[A.is, <-g4,S.2];exact O) (J a ay) M (by rw[A.is];unfold mR;rw[Oh az az];omega) aC aC;rw[A.is]at this;exact this.shift A.pre
  .obtain⟨a,rfl⟩:=Fh (l:=args) (by rw[I];rfl);simp only[sC]at H hl;have e1:W*(1+(kY a+0))=W+W*kY a:=bg
   obtain⟨g0,g2,T,g4,_,g6⟩:=X a ay;have g1:=eB a ay;have a3:nA (aL s [] a.q).1 gr od li:=n.rank (.inl rfl);have f:(aL s [] (aU ts k)).1=(aL s [] a.q).1:=f;have P:=awJ (gr:=gr) (od:=od) (li:=li) R v aC E (L a ay) f a3 (J a ay) hb aC;show Ao s ts rs (gC a (Bx a k gr od li ts).2 (Bx a k gr od li ts).1 rs) (qU (yF s) a.q (Gy (mR (fX a.q) (aU ts k) (uQ gr)) a.q gr od li));have a2:=CM a k gr od li ts;have:=wO o a B W (b+2*B) _ _ rs (Hv.mono P.1.pre P.1.inv.ok a (L a ay)) P.1.inv P.1.lt (by rw[P.1.is];exact P.2.1) (J a ay) M (by rw[P.1.is];exact P.2.2) aC aC;rw[P.1.is]at this;exact this.shift P.1.pre
  .obtain⟨a,c,rfl⟩:=rL (l:=args) (by rw[I];rfl);simp only[sC]at H hl;have e1:W*(1+(kY a+(kY c+0)))=W+W*kY a+W*kY c:=bg
   obtain⟨g0,g2,T,g4,g5,g6⟩:=X a ay;obtain⟨k0,Y,k3,U,k5,k6⟩:=X c ay;have f:(aL s [] (aU ts k)).1=(aL s [] a.q).1++(aL s [] c.q).1:=f;have pa:=Ml o _ g6;have pb:=Ml o _ k6;have b0:=lM s [] (aU ts k);rw[f,length_append]at b0;have b1:=J c ay;have S:=EE (on:=BO a.width c.width) gD (v.good _ k0) (by rw[f,k3,g5,k5];exact YV) bg;have A:=xN (on:=BO a.width c.width) (gr:=[]) (od:=[]) (li:=0) R v aC (show arity 5=2 from rfl) E k0 S.1;have A:BK s ts (bV (dU k c.rows (BO a.width c.width)) ts).1 (bV (dU k c.rows (BO a.width c.width)) ts).2 (mR (aU ts k) c.q (BO a.width c.width)):=by rw[<-k3];exact A
   have a2:=dV (dU k c.rows (BO a.width c.width)) ts;rw[k3]at S;have b':(aL s [] (mR (aU ts k) c.q (BO a.width c.width))).1=(aL s [] a.q).1++(aL s [] c.q).1:=bg
   have b2:∀(K1 K2:bn),0<K1.length->(iV 0 (K1.length:Int))≠[]:=λK1 K2 h e=>by
    have:=congrArg List.length e;simp[iV]at this
    grind
   have V:a.width=((aL s [] a.q).1.length:Int):=g5;have a4:c.width=((aL s [] c.q).1.length:Int):=k5;have bX:gI 4 (mR (aU ts k) c.q (BO a.width c.width))<=b+B:=by unfold mR;rw[Oh az az];omega
   have pg:=Si (a:=mR (aU ts k) c.q (BO a.width c.width)) (co:=iV 0 a.width) S.1 (by rw[V];exact b2 _ [] pa) (by rw[b',V];exact avX (a:=0) ay) (by rw[V];simp[iV];omega) aC;rw[<-A.is]at pg;have P:=Yz (co:=iV 0 a.width) R A.inv aC A.lt pg.1;have b7:=dV (oR (bV (dU k c.rows (BO a.width c.width)) ts).2 (iV 0 a.width)) (bV (dU k c.rows (BO a.width c.width)) ts).1;have a5:=A.pre.trans P.pre;rw[A.is]at pg P;have R1:=wO o a B W (b+B) _ _ rs (Hv.mono a5 P.inv.ok a (L a ay)) P.inv P.lt (by rw[P.is,pg.2,b',V,aPQ ay];simp) (J a ay) M (by rw[P.is];unfold IQ;rw[cMJ];exact bX) aC aC;rw[P.is]at R1;have R1:=R1.shift a5;have a0:=iP a (bV (oR (bV (dU k c.rows (BO a.width c.width)) ts).2 (iV 0 a.width)) (bV (dU k c.rows (BO a.width c.width)) ts).1).2 (bV (oR (bV (dU k c.rows (BO a.width c.width)) ts).2 (iV 0 a.width)) (bV (dU k c.rows (BO a.width c.width)) ts).1).1 rs;show Ao s ts rs (gC c _ _ _) (qU (yF s) a.q (IQ (mR (aU ts k) c.q (BO (yF s a.q) (yF s c.q))) (iV 0 (yF s a.q)))++qU (yF s) c.q (IQ (aU ts k) (iV (yF s a.q) (yF s c.q))));rw[<-g5, <-k5];generalize hZ:gC a (bV (oR (bV (dU k c.rows (BO a.width c.width)) ts).2 (iV 0 a.width)) (bV (dU k c.rows (BO a.width c.width)) ts).1).2 (bV (oR (bV (dU k c.rows (BO a.width c.width)) ts).2 (iV 0 a.width)) (bV (dU k c.rows (BO a.width c.width)) ts).1).1 rs=Z at*
   have j:k<Z.1.length/\aU Z.1 k=aU ts k:=⟨Nat.lt_of_lt_of_le E R1.pre.length_le,fF R1.pre R1.inv.ok k E⟩
   have a7:=Si (a:=aU Z.1 k) (co:=iV a.width c.width) (R1.inv.good k j.1) (λe=>by
    have:=congrArg List.length e;rw[a4]at this;simp[iV]at this
    grind) (by rw[j.2,f,V,a4];exact avX ay) (by rw[a4];simp[iV];omega) bg
   have P2:=Yz (co:=iV a.width c.width) R R1.inv aC j.1 a7.1;have a1:=dV (oR k (iV a.width c.width)) Z.1;have y:=R1.pre.trans P2.pre;rw[j.2]at a7 P2;have R2:=wO o c B W b _ _ Z.2 (Hv.mono y P2.inv.ok c (L c ay)) P2.inv P2.lt (by rw[P2.is,a7.2,f,V,a4,Wb ay];simp) (J c ay) M (by rw[P2.is];unfold IQ;rw[cMJ];exact hb) aC aC;rw[P2.is]at R2;exact R1.comp P2.pre R2
  .obtain⟨a,c,rfl⟩:=rL (l:=args) (by rw[I];rfl);simp only[sC]at H hl;have e1:W*(1+(kY a+(kY c+0)))=W+W*kY a+W*kY c:=bg
   obtain⟨g0,g2,T,g4,g5,g6⟩:=X a ay;obtain⟨k0,Y,k3,U,k5,k6⟩:=X c ay;have f:(aL s [] (aU ts k)).1=(aL s [] a.q).1:=f;have b3:Good (nH (aL s [] a.q).1 (aL s [] c.q).1) on:=n.pair (.inr rfl);have b1:=J c ay;have a8:=eB c ay;have S:=EE (on:=on) gD (v.good _ k0) bg bg;have A:=xN (on:=on) (gr:=[]) (od:=[]) (li:=0) R v aC (show arity 5=2 from rfl) E k0 S.1;have A:BK s ts (bV (dU k c.rows on) ts).1 (bV (dU k c.rows on) ts).2 (mR (aU ts k) c.q on):=by rw[<-k3];exact A
   have a2:=dV (dU k c.rows on) ts;rw[k3]at S;have bX:gI 4 (mR (aU ts k) c.q on)<=b+B:=by unfold mR;rw[Oh az az];omega
   have R1:=wO o a B W (b+B) _ _ rs (Hv.mono A.pre A.inv.ok a (L a ay)) A.inv A.lt (by rw[A.is,S.2];exact f) (J a ay) M (by rw[A.is];exact bX) aC aC;rw[A.is]at R1;have R1:=R1.shift A.pre;have a0:=iP a (bV (dU k c.rows on) ts).2 (bV (dU k c.rows on) ts).1 rs;show Ao s ts rs (gC c _ _ _) (qU (yF s) a.q (mR (aU ts k) c.q on)++qU (yF s) c.q (mR (fX c.q) (aU ts k) (rM on)));generalize hZ:gC a (bV (dU k c.rows on) ts).2 (bV (dU k c.rows on) ts).1 rs=Z at*
   have j:k<Z.1.length/\aU Z.1 k=aU ts k:=⟨Nat.lt_of_lt_of_le E R1.pre.length_le,fF R1.pre R1.inv.ok k E⟩
   have u:c.env<Z.1.length/\aU Z.1 c.env=aU ts c.env:=⟨Nat.lt_of_lt_of_le Y R1.pre.length_le,fF R1.pre R1.inv.ok _ Y⟩
   have O:(aL s [] (fX c.q)).1=(aL s [] c.q).1:=eg c ay;have z:=EE (on:=rM on) (R1.inv.good _ u.1) (R1.inv.good k j.1) (by rw[u.2,j.2,U,O,f];exact aRZ b3) bg;have P2:=xN (on:=rM on) (gr:=[]) (od:=[]) (li:=0) R R1.inv aC (show arity 5=2 from rfl) u.1 j.1 z.1;have P2:BK s Z.1 (bV (dU c.env k (rM on)) Z.1).1 (bV (dU c.env k (rM on)) Z.1).2 (mR (fX c.q) (aU ts k) (rM on)):=by rw[<-U, <-u.2, <-j.2];exact P2
   have a1:=dV (dU c.env k (rM on)) Z.1;rw[u.2,j.2,U]at z;have y:=R1.pre.trans P2.pre;have R2:=wO o c B W (b+B) _ _ Z.2 (Hv.mono y P2.inv.ok c (L c ay)) P2.inv P2.lt (by rw[P2.is,z.2];exact O) (J c ay) M (by rw[P2.is];unfold mR;rw[Oh az az];omega) aC aC;rw[P2.is]at R2;exact R1.comp P2.pre R2
  .obtain⟨a,c,rfl⟩:=rL (l:=args) (by rw[I];rfl);simp only[sC]at H hl;have e1:W*(1+(kY a+(kY c+0)))=W+W*kY a+W*kY c:=bg
   obtain⟨g0,g2,T,g4,g5,g6⟩:=X a ay;obtain⟨k0,Y,k3,U,k5,k6⟩:=X c ay;have f:(aL s [] (aU ts k)).1=(aL s [] a.q).1:=f;have C:(aL s [] a.q).1=(aL s [] c.q).1:=n.same (.inl rfl);have be:=eB a ay;have a8:=eB c ay;have O:(aL s [] (fX a.q)).1=(aL s [] a.q).1:=eg a ay;have F:(aL s [] (fX c.q)).1=(aL s [] c.q).1:=eg c ay;have S:=Az (v.good _ g2) gD bg bg;have A:=xN (on:=[]) (gr:=[]) (od:=[]) (li:=0) R v aC (show arity 8=2 from rfl) g2 E S.1;have A:BK s ts (bV (cM a.env k) ts).1 (bV (cM a.env k) ts).2 (kP (fX a.q) (aU ts k)):=by rw[<-g4];exact A
   have a2:=dV (cM a.env k) ts;rw[g4]at S;have R1:=wO o a B W (b+B) _ _ rs (Hv.mono A.pre A.inv.ok a (L a ay)) A.inv A.lt (by rw[A.is,S.2];exact O) (J a ay) M (by rw[A.is];unfold kP;rw[Oh az az];omega) aC aC;rw[A.is]at R1;have R1:=R1.shift A.pre;have a0:=iP a (bV (cM a.env k) ts).2 (bV (cM a.env k) ts).1 rs;show Ao s ts rs (gC c _ _ _) (qU (yF s) a.q (kP (fX a.q) (aU ts k))++qU (yF s) c.q (kP (fX c.q) (aU ts k)));generalize hZ:gC a (bV (cM a.env k) ts).2 (bV (cM a.env k) ts).1 rs=Z at*
   have j:k<Z.1.length/\aU Z.1 k=aU ts k:=⟨Nat.lt_of_lt_of_le E R1.pre.length_le,fF R1.pre R1.inv.ok k E⟩
   have u:c.env<Z.1.length/\aU Z.1 c.env=aU ts c.env:=⟨Nat.lt_of_lt_of_le Y R1.pre.length_le,fF R1.pre R1.inv.ok _ Y⟩
   have z:=Az (R1.inv.good _ u.1) (R1.inv.good k j.1) bg bg;have P2:=xN (on:=[]) (gr:=[]) (od:=[]) (li:=0) R R1.inv aC (show arity 8=2 from rfl) u.1 j.1 z.1;have P2:BK s Z.1 (bV (cM c.env k) Z.1).1 (bV (cM c.env k) Z.1).2 (kP (fX c.q) (aU ts k)):=by rw[<-U, <-u.2, <-j.2];exact P2
   have a1:=dV (cM c.env k) Z.1;rw[u.2,j.2,U]at z;have y:=R1.pre.trans P2.pre;have R2:=wO o c B W (b+B) _ _ Z.2 (Hv.mono y P2.inv.ok c (L c ay)) P2.inv P2.lt (by rw[P2.is,z.2];exact F) (J c ay) M (by rw[P2.is];unfold kP;rw[Oh az az];omega) aC aC;rw[P2.is]at R2;exact R1.comp P2.pre R2
  .obtain⟨a,c,rfl⟩:=rL (l:=args) (by rw[I];rfl);simp only[sC]at H hl;have e1:W*(1+(kY a+(kY c+0)))=W+W*kY a+W*kY c:=bg
   obtain⟨g0,g2,T,g4,g5,g6⟩:=X a ay;obtain⟨k0,Y,k3,U,k5,k6⟩:=X c ay;have f:(aL s [] (aU ts k)).1=(aL s [] a.q).1:=f;have C:(aL s [] a.q).1=(aL s [] c.q).1:=n.same (.inr (.inl rfl));have ba:=J a ay;have a8:=eB c ay;have F:(aL s [] (fX c.q)).1=(aL s [] c.q).1:=eg c ay;have R1:=wO o a B W b k ts rs (L a ay) v E f ba M hb aC aC;have a0:=iP a k ts rs;show Ao s ts rs (gC c _ _ _) (qU (yF s) a.q (aU ts k)++qU (yF s) c.q (kP (kP (fX c.q) (aU ts k)) a.q));generalize hZ:gC a k ts rs=Z at*
   have j:k<Z.1.length/\aU Z.1 k=aU ts k:=⟨Nat.lt_of_lt_of_le E R1.pre.length_le,fF R1.pre R1.inv.ok k E⟩
   have u:c.env<Z.1.length/\aU Z.1 c.env=aU ts c.env:=⟨Nat.lt_of_lt_of_le Y R1.pre.length_le,fF R1.pre R1.inv.ok _ Y⟩
   have G:a.rows<Z.1.length/\aU Z.1 a.rows=aU ts a.rows:=⟨Nat.lt_of_lt_of_le g0 R1.pre.length_le,fF R1.pre R1.inv.ok _ g0⟩
   have z:=Az (R1.inv.good _ u.1) (R1.inv.good k j.1) bg bg;have P2:=xN (on:=[]) (gr:=[]) (od:=[]) (li:=0) R R1.inv aC (show arity 8=2 from rfl) u.1 j.1 z.1;have P2:BK s Z.1 (bV (cM c.env k) Z.1).1 (bV (cM c.env k) Z.1).2 (kP (fX c.q) (aU ts k)):=by rw[<-U, <-u.2, <-j.2];exact P2
   have a1:=dV (cM c.env k) Z.1;rw[u.2,j.2,U]at z;have bX:gI 4 (kP (fX c.q) (aU ts k))<=b+B:=by unfold kP;rw[Oh az az];omega
   have D:=P2.keep G.1;have Q:=Az (P2.inv.good _ P2.lt) (P2.inv.good _ D.1) (by rw[P2.is,D.2,G.2,T,z.2,F,C]) (by rw[P2.is,D.2,G.2,T];omega);have P3:=xN (on:=[]) (gr:=[]) (od:=[]) (li:=0) R P2.inv aC (show arity 8=2 from rfl) P2.lt D.1 Q.1;have P3:BK s (bV (cM c.env k) Z.1).1 (bV (cM (bV (cM c.env k) Z.1).2 a.rows) (bV (cM c.env k) Z.1).1).1 (bV (cM (bV (cM c.env k) Z.1).2 a.rows) (bV (cM c.env k) Z.1).1).2 (kP (kP (fX c.q) (aU ts k)) a.q):=by rw[<-P2.is, <-T, <-G.2, <-D.2];exact P3
   have b4:=dV (cM (bV (cM c.env k) Z.1).2 a.rows) (bV (cM c.env k) Z.1).1;rw[P2.is,D.2,G.2,T]at Q;have y:=(R1.pre.trans P2.pre).trans P3.pre;have R2:=wO o c B W (b+2*B) _ _ Z.2 (Hv.mono y P3.inv.ok c (L c ay)) P3.inv P3.lt (by rw[P3.is,Q.2,z.2];exact F) (J c ay) M (by rw[P3.is];unfold kP at bX⊢;rw[Oh az az];omega) aC aC;rw[P3.is]at R2;exact R1.comp (P2.pre.trans P3.pre) R2
  .obtain⟨a,c,rfl⟩:=rL (l:=args) (by rw[I];rfl);simp only[sC]at H hl;have e1:W*(1+(kY a+(kY c+0)))=W+W*kY a+W*kY c:=bg
   obtain⟨g0,g2,T,g4,g5,g6⟩:=X a ay;obtain⟨k0,Y,k3,U,k5,k6⟩:=X c ay;have f:(aL s [] (aU ts k)).1=(aL s [] a.q).1:=f;have C:(aL s [] a.q).1=(aL s [] c.q).1:=n.same (.inr (.inr (.inl rfl)));have ba:=J a ay;have a8:=eB c ay;have F:(aL s [] (fX c.q)).1=(aL s [] c.q).1:=eg c ay;have R1:=wO o a B W b k ts rs (L a ay) v E f ba M hb aC aC;have a0:=iP a k ts rs;show Ao s ts rs (gC c _ _ _) (qU (yF s) a.q (aU ts k)++qU (yF s) c.q (kP (kP (fX c.q) (aU ts k)) a.q));generalize hZ:gC a k ts rs=Z at*
   have j:k<Z.1.length/\aU Z.1 k=aU ts k:=⟨Nat.lt_of_lt_of_le E R1.pre.length_le,fF R1.pre R1.inv.ok k E⟩
   have u:c.env<Z.1.length/\aU Z.1 c.env=aU ts c.env:=⟨Nat.lt_of_lt_of_le Y R1.pre.length_le,fF R1.pre R1.inv.ok _ Y⟩
   have G:a.rows<Z.1.length/\aU Z.1 a.rows=aU ts a.rows:=⟨Nat.lt_of_lt_of_le g0 R1.pre.length_le,fF R1.pre R1.inv.ok _ g0⟩
   have z:=Az (R1.inv.good _ u.1) (R1.inv.good k j.1) bg bg;have P2:=xN (on:=[]) (gr:=[]) (od:=[]) (li:=0) R R1.inv aC (show arity 8=2 from rfl) u.1 j.1 z.1;have P2:BK s Z.1 (bV (cM c.env k) Z.1).1 (bV (cM c.env k) Z.1).2 (kP (fX c.q) (aU ts k)):=by rw[<-U, <-u.2, <-j.2];exact P2
   have a1:=dV (cM c.env k) Z.1;rw[u.2,j.2,U]at z;have bX:gI 4 (kP (fX c.q) (aU ts k))<=b+B:=by unfold kP;rw[Oh az az];omega
   have D:=P2.keep G.1;have Q:=Az (P2.inv.good _ P2.lt) (P2.inv.good _ D.1) (by rw[P2.is,D.2,G.2,T,z.2,F,C]) (by rw[P2.is,D.2,G.2,T];omega);have P3:=xN (on:=[]) (gr:=[]) (od:=[]) (li:=0) R P2.inv aC (show arity 8=2 from rfl) P2.lt D.1 Q.1;have P3:BK s (bV (cM c.env k) Z.1).1 (bV (cM (bV (cM c.env k) Z.1).2 a.rows) (bV (cM c.env k) Z.1).1).1 (bV (cM (bV (cM c.env k) Z.1).2 a.rows) (bV (cM c.env k) Z.1).1).2 (kP (kP (fX c.q) (aU ts k)) a.q):=by rw[<-P2.is, <-T, <-G.2, <-D.2];exact P3
   have b4:=dV (cM (bV (cM c.env k) Z.1).2 a.rows) (bV (cM c.env k) Z.1).1;rw[P2.is,D.2,G.2,T]at Q;have y:=(R1.pre.trans P2.pre).trans P3.pre;have R2:=wO o c B W (b+2*B) _ _ Z.2 (Hv.mono y P3.inv.ok c (L c ay)) P3.inv P3.lt (by rw[P3.is,Q.2,z.2];exact F) (J c ay) M (by rw[P3.is];unfold kP at bX⊢;rw[Oh az az];omega) aC aC;rw[P3.is]at R2;exact R1.comp (P2.pre.trans P3.pre) R2
  .obtain⟨a,c,rfl⟩:=rL (l:=args) (by rw[I];rfl);simp only[sC]at H hl;have e1:W*(1+(kY a+(kY c+0)))=W+W*kY a+W*kY c:=bg
   have f:(aL s [] (aU ts k)).1=(aL s [] a.q).1:=f;have C:(aL s [] a.q).1=(aL s [] c.q).1:=n.same (.inr (.inr (.inr rfl)));have a3:nA (aL s [] a.q).1 gr od li:=n.rank (.inr rfl);rw[C]at a3;have R1:=wO o a B W b k ts rs (L a ay) v E f (J a ay) M hb aC aC;have a0:=iP a k ts rs;show Ao s ts rs (gC c _ _ _) (qU (yF s) a.q (aU ts k)++qU (yF s) c.q (Gy (mR (fX c.q) (aU ts k) (uQ gr)) c.q gr od li));generalize hZ:gC a k ts rs=Z at*
   have j:k<Z.1.length/\aU Z.1 k=aU ts k:=⟨Nat.lt_of_lt_of_le E R1.pre.length_le,fF R1.pre R1.inv.ok k E⟩
   have P:=awJ (gr:=gr) (od:=od) (li:=li) (B:=B) (b:=b) R R1.inv aC j.1 (Hv.mono R1.pre R1.inv.ok c (L c ay)) bg a3 (J c ay) bg aC;rw[j.2]at P;have a1:=CM c k gr od li Z.1;have y:=R1.pre.trans P.1.pre;have R2:=wO o c B W (b+2*B) _ _ Z.2 (Hv.mono y P.1.inv.ok c (L c ay)) P.1.inv P.1.lt (by rw[P.1.is];exact P.2.1) (J c ay) M (by rw[P.1.is];exact P.2.2) aC aC;rw[P.1.is]at R2;exact R1.comp P.1.pre R2
 termination_by p=>SizeOf.sizeOf p
def czZ:Vc.Spec:=λd m h K=>∃(s:Sl)(g:Nat)(c:bt)(l:br)(p:ca->Bool),d=[cS s,.val (.func (.func g) #[] ⟨c⟩)]/\Rows h s l/\l.length<=8000000/\(∀(u:Sl)(r:ca),r∈l->bS h u r->FAt Tryz.prog g 4 (cS u::c.map .val) m h (λx m' h'=>x=[.bool (p r)]/\m'=m/\h'=h))/\
 ∀e h',PH.le h h'->Rows h' e (l.filter p)->K (cS e) m h'
def cAX:Vc.Spec:=λc m h K=>∃s u l r,c=[cS s,cS u,.val (.func (.func 93) #[] #[])]/\Rows h s l/\lN l/\bS h u r/\l.length<=8000000/\K (.tup [cI ((l.countP λy=>decide (eW y r<0):Nat):Int),cB (GO l r)]) m h
def b1Q:Vc.Spec:=λc m h K=>∃s u l r,c=[cS s,cS u]/\Rows h s l/\lN l/\bS h u r/\l.length<=8000000/\K (cB (GO l r)) m h
def Uk:Vc.Spec:=λc m h K=>∃s l,c=[cS s]/\Rows h s l/\l.length<=8000000/\(∀r∈l,r.length<=1000)/\∀d h',PH.le h h'->Rows h' d l->K (cS d) m h'
def qR(r:ca):ByteArray:=⟨(r.flatMap Ad).toArray⟩
def Ui:Vc.Spec:=λd m h K=>∃s t r c,d=[cS s,cS t]/\bS h s r/\Ints h t c/\Ot r/\jM r.length c/\eA m/\K (RY (qR (pick r c))) m h
def aMX:Vc.Spec:=λc m h K=>∃n:Nat,c=[.val (.slice none 0 0),cI n]/\n<=32000000/\K (.lst 65 1 []) m h
def Ul:Vc.Spec:=λc m h K=>∃f d e,c=[cS f]/\Leaves h f [d,e]/\d.length<=8000000/\e.length<=8000000/\∀g h',PH.le h h'->Rows h' g (d++e)->K (cS g) m h'
noncomputable def b9X(s:Sl)(g:Nat)(c:bt)(m:MH)(h:PH):Ctx:=
 qV [] [(3,{A:=Nat×bx,st:=λ⟨i,d⟩=>bU 23 25 [(1,vv (.func (.func g) #[] ⟨c⟩)),(5,.at (.lst 20)),(8,sv s),(9,iv s.len),(10,iv i)] [(20,.lst 65 1 (d.map eS))] m h})] [] [] [510004] [] false
noncomputable def bFJ(s u:Sl)(m:MH)(h:PH):Ctx:=
 dE [(93,I8)] [(3,{A:=Nat×Nat,st:=λ⟨i,j⟩=>bU 49 52 [(0,sv s),(1,sv u),(2,vv (.func (.func 93) #[] #[])),(8,iv s.len),(9,iv i),(10,iv j)] [] m h})] [] [] false
noncomputable def f51_ctx(s:Sl)(m:MH):Ctx:=
 dE [(57,Pn)] [(3,{A:=Nat×bx×PH,st:=λ⟨i,c,h⟩=>bU 23 24 [(3,.at (.lst 8)),(9,sv s),(10,iv s.len),(11,iv i)] [(8,.lst 65 1 (c.map eS))] m h})] [] [] false
noncomputable def bNZ(s t:Sl)(m:MH)(h:PH):Ctx:=
 qV [(162,cDX)] [(3,{A:=Nat×ck,st:=λ⟨i,l⟩=>bU 23 25 [(0,sv s),(5,.at (.lst 19)),(8,sv t),(9,iv t.len),(10,iv i)] [(19,.lst 5 1 (aX l))] m h})] [] [] [] [(162,[0])] false
noncomputable def bNX(c:Sl)(m:MH)(h:PH):Ctx:=
 dE [(163,aMX)] [(3,{A:=Nat×Nat,st:=λ⟨i,n⟩=>bU 36 37 [(0,sv c),(3,iv n),(9,sv c),(10,iv c.len),(11,iv i)] [] m h}),
  (11,{A:=Nat×bx,st:=λ⟨i,l⟩=>bU 36 37 [(6,.at (.lst 24)),(25,sv c),(26,iv c.len),(27,iv i)] [(24,.lst 65 1 (l.map eS))] m h})] [] [] false
abbrev O2(a b:(Nat×bx->Prop)->(Nat×bx)->Prop)(c:(Nat×bx)->Nat×bx)(d:Sl)(e:(Nat×bx->Prop)->(Nat×bx->Nat)->(Nat×bx)->Nat->Nat->Sl->Prop)(g:PH)(i:bo)(j:MH):Prop:=∃(x:Nat×bx->Prop)(u:Nat×bx->Nat),(∃(f:Nat×bx),a x f)/\∀(f:Nat×bx),b x f->aY (↑(c f).1:Int) (aH d) (bJ (λn o=>aI (aW d.a n o) (0<=(↑(c f).1:Int)) ((↑(c f).1:Int)<aH d) (∃(y:Sl),e x u f n o y))) (tZ g (gH (c f).2) i j)
attribute [push_cast] O2
def W6(s:Sl)(g:Nat)(c:bt)(m:MH)(h:PH)(K:bo):Prop:=
  O2 (λI x=>aA (I x) (CE (Fn.func g) (Array.mk c)) (aA (eL 20) (aJ s) (aA (bI s) (bA x.1) (aA (AR x.2) (m=m) (bT h h))))) (λI x=>I x) (λx=>x) s (λI n x b o y=>aK m h b (o+bM x.1 1) (aR y)/\∃(R:Bool->MH->PH->Prop),Cv g 4 (cX y (List.map CV.val c)) m h (λl e f=>∃(j:Bool),l=tM j/\R j e f)/\∀(j:Bool),eT (λe f=>gX (R j e f) j (aA (kB (gH x.2)) (dO (gH x.2)) (∃(d:Nat×bx),aA (I d) (n d<n x) (aA (CE (Fn.func g) (Array.mk c)) (eL 20) (aA (aJ s) (bI s) (aA (gK (bE x.1 1)=bO d.1) (xA (gH x.2) y d.2) (dY e m f h)))))) (∃(d:Nat×bx),aA (I d) (n d<n x) (aA (CE (Fn.func g) (Array.mk c)) (eL 20) (aA (aJ s) (bI s) (aA (gK (bE x.1 1)=bO
 d.1) (rG x.2 d.2) (dY e m f h))))))) h K m
abbrev HK(a:Nat×Nat):Int:=fG (Int.fdiv (Qd (bE a.1 (↑a.2:Int))) 2)
attribute [push_cast] HK
def Tq(s u:Sl)(m:MH)(h:PH)(K:bo):Prop:=
  Ib (λI x=>aA (I x) (aJ s) (aA (aJ u) (A5 93) (aA (bI s) (bA x.1) (aA (bO s.len=bO x.2) (m=m) (bT h h))))) (λI f x=>I x->aY (↑x.1:Int) (↑x.2:Int) (bJ (λb o=>aI (aW s.a b o) (0<=HK x) (HK x<aH s) (∃(y:Sl),aK m h b (o+gY (HK x) 1) (aR y)/\∃(d:Sl),oS (λt a=>∃(e:ca),aI (cJ y u=cJ d t) (bS h d a) (bS h t e) (aY (eW a e) 0 (∃(c:Nat×Nat),aA (I c) (f c<f x) (aA (aJ s) (aJ u) (aA (A5 93) (bI s) (aA (SV.at (At.val (fV (fG (HK x+1))))=bO c.1) (cD x.2 c.2) (dY m m h h))))) (∃(c:Nat×Nat),aA (I c) (f c<f x) (aA (aJ s) (aJ u) (aA (A5 93) (bI s) (aA (cD x.1 c.1) (SV.at (At.val (fV (HK x)))=bO c.2) (dY m m h h)))))))))) (aY
 (↑x.1:Int) (aH s) (bJ (λb o=>aI (aW s.a b o) (0<=(↑x.1:Int)) ((↑x.1:Int)<aH s) (∃(y:Sl),aK m h b (o+bM x.1 1) (aR y)/\∃(d:Sl),oS (λt a=>∃(e:ca),aI (cJ y u=cJ d t) (bS h d a) (bS h t e) (K (CV.tup (fQ (↑x.1:Int) (Af (eW a e==0)))) m h))))) (K (CV.tup (fQ (↑x.1:Int) bH)) m h)))
abbrev Au(a:br):Prop:=a.length<=8000000
attribute [push_cast] Au
def beX(s u:Sl)(m:MH)(h:PH)(K:bo):Prop:=
  Jq (λc d l r=>aA (cX s (fZ u (mJ 93 sF))=cX c (fZ d (mJ 93 sF))) (Rows h c l) (aA (lN l) (bS h d r) (Au l/\K (Af (GO l r)) m h)))
def ak(s:Sl)(m:MH)(h:PH)(K:bo):Prop:=
  Bc s 24 (OU (λI x=>aA (I x) (eL 8) (aA (aJ s) (bI s) (aA (bA x.1) (bR 65 1 (wG (aH s) fW)=mV 65 x.2.1) (aA (m=m) (h=oU x) True)))) (λI d x=>I x->aY (↑x.1:Int) (aH s) (bJ (λb o=>aI (aW s.a b o) (0<=(↑x.1:Int)) ((↑x.1:Int)<aH s) (∃(y:Sl),aK m (oU x) b (o+bM x.1 1) (aR y)/\HV y (oU x) (λf g=>pE (↑x.1:Int) (wH x) (λe=>aA (mI (wH x) (lD x.1) e) (xB e) (∃(c:Nat×bx×PH),aA (I c) (d c<d x) (aA (eL 8) (aJ s) (aA (bI s) (gK (bE x.1 1)=bO c.1) (aA (bR 65 1 (List.set (wH x) (lD x.1) (By (dP f) 1 e))=mV 65 c.2.1) (m=m) (bT g (oU c))))))))))) (tZ (oU x) (wH x) K m)))
def TY(s t:Sl)(m:MH)(h:PH)(K:bo):Prop:=
  OW (λI x=>aA (I x) (aJ s) (aA (eL 19) (aJ t) (aA (bI t) (bA x.1) (aA (uW 5 1 (vQ x)) (m=m) (bT h h))))) (λI e x=>I x->aY (↑x.1:Int) (aH t) (bJ (λb o=>aI (aW t.a b o) (0<=(↑x.1:Int)) ((↑x.1:Int)<aH t) (∃(y:Int),aK m h b (o+bM x.1 1) (bB y)/\bJ (λf g=>aI (aW s.a f g) (0<=y) (y<aH s) (∃(j:VV),aK m h f (g+gY y 3) j.enc/\∃(d:List bt)(v:VV),aI (p7 (vQ x) (j4 j)=p7 d (j4 v)) (eA m) (nT (jW d v.text.size+500)) (∃(c:Nat×ck),aA (I c) (e c<e x) (aA (aJ s) (eL 19) (aA (aJ t) (bI t) (aA (gK (bE x.1 1)=bO c.1) (bR 5 1 (mL d (Ad v))=bR 5 1 (vQ c)) (dY m m h h)))))))))) (Kp (vQ x) (λb=>K (vX b) m h)))
def Tr(n:Nat)(m:MH)(h:PH)(K:bo):Prop:=
  fR (fG ((↑n:Int)-fG ((0:Int)-0))) 0 (aA (cH 0) (cH 0) (aA (0<fG ((↑n:Int)-0)) (Jp (fG ((↑n:Int)-0)*24)) (aI (Jp (fG ((↑n:Int)-0))) ((0:Int)<=0) (cH (sQ (wG (fG ((↑n:Int)-0)) fW))) (K (CV.lst 65 1 []) m h)))) (K (CV.lst 65 1 []) m h)
def TX(d:Sl)(m:MH)(h:PH)(K:bo):Prop:=
  Ib (λI x=>aA (I x) (aJ d) (aA (bA x.2) (aJ d) (aA (bI d) (bA x.1) (aA (m=m) (h=h) True)))) (λI g x=>I x->aY (↑x.1:Int) (aH d) (bJ (λb o=>aI (aW d.a b o) (0<=(↑x.1:Int)) ((↑x.1:Int)<aH d) (∃(y:Sl),aK m h b (o+bM x.1 1) (aR y)/\aY (bE x.2 (aH y)) 0 False (∃(c:Nat×Nat),aA (I c) (g c<g x) (aA (aJ d) (gK (bE x.2 (aH y))=bO c.2) (aA (aJ d) (bI d) (aA (gK (bE x.1 1)=bO c.1) (m=m) (bT h h)))))))) (∃(n:Nat),aA (F1 x.2=F1 n) (n<=32000000) (O2 (λI1 c=>aA (I1 c) (eL 24) (aA (aJ d) (bI d) (aA (bA c.1) (AR c.2) (aA (m=m) (h=h) True)))) (λI1 c=>I1 c) (λc=>c) d (λI1 j c b o y=>G4 m h b o c.1 1 (aR y) (λe=>aA (fN 1 e) (dC h
 (dN y) 1 e) (aA (sL (gH c.2) e 24) (sM (gH c.2) e) (∃(f:Nat×bx),aA (I1 f) (j f<j c) (aA (eL 24) (aJ d) (aA (bI d) (gK (bE c.1 1)=bO f.1) (aA (bR 65 1 (gH c.2++e)=mV 65 f.2) (m=m) (bT h h)))))))) h K m)))
theorem Yo{u v:VV}{r r':ck}(e:YN u)(f:YN v)(h:Ad u++r=Ad v++r'):u=v/\r=r':=by
 have z:uR 0:=⟨az,az⟩
 have c:∀w:VV,YN w->YH ⟨0,0,w⟩:=λw d=>⟨z,z,d.kind,d.int,by have:=d.text;omega⟩
 have:=Ji (o:=⟨0,0,u⟩) (o':=⟨0,0,v⟩) (r:=r) (r':=r') (c u e) (c v f) (by simp only[Dp,append_assoc,h])
 grind
theorem WM:∀{a b:ca},a.length=b.length->(∀v∈a,YN v)->(∀v∈b,YN v)->a.flatMap Ad=b.flatMap Ad->a=b
 |[],[],_,_,_,_=>rfl
 |x::a,y::b,c,e,f,h=>by
  simp only[flatMap_cons]at h;obtain⟨g,j⟩:=Yo (e x (mem_cons_self ..)) (f y (mem_cons_self ..)) h;rw[g,WM bg (λv d=>e v (mem_cons_of_mem _ d)) (λv d=>f v (mem_cons_of_mem _ d)) j]
 |[],_::_,c,_,_,_=>by simp at c
 |_::_,[],c,_,_,_=>by simp at c
theorem Lf:asQ qR:=⟨fun{a b} c d e=>⟨λh=>by
 simp only[qR,ByteArray.mk.injEq]at h;exact WM c d e bg,λh=>by rw[h]⟩⟩
theorem bxQ{P:Program}{f:FuncId}{T:TypeId}{c:cr}{R R':bt->MH->PH->Prop}(x:FAt P f T c m h R)(d:∀l m' h',R l m' h'->R' l m' h'):FAt P f T c m h R':=
 ⟨x.fn,λg w e j=>(x.go g w e j).mono λ_ _⟨l,m',h',n,o,u⟩=>⟨l,m',h',n,d _ _ _ o,u⟩⟩
theorem aXZ:bm 95 czZ:=by
 refine iQ func95 ?_;rintro E m h K ⟨s,g,c,l,p,rfl,B,P,F,G⟩;refine⟨b9X s g c m h,rfl,aG,W6 s g c m h K,ax,?_⟩;dsimp only[W6,push_cast];have n:=bL.slen B;refine⟨λx=>x.1<=l.length/\x.2.length<=x.1/\eX h x.2 ((l.take x.1).filter p),λx=>l.length-x.1,⟨(0,[]),⟨ay,ay,bk (eX.nil h)⟩,MT⟩,?_⟩;rintro⟨i,C⟩ ⟨H,y,d⟩;dsimp only at H y d;refine aF (λf=>?_) (λz=>?_)
 .dsimp only at f⊢
  obtain⟨r,j⟩:=eV n f;obtain⟨b,o,u,I,rd,D⟩:=bL.at B j;refine⟨b,o,I,aC,aC,u,.imm rd,λt m' h'=>t=p r/\m'=m/\h'=h,bxQ (F u r (mem_of_getElem? j) D) (λx m' h'⟨J,L,M⟩=>⟨p r,J,rfl,L,M⟩),?_⟩;rintro t m' h' ⟨rfl,rfl,rfl⟩;refine aD (λe=>⟨bg,bg,(i+1,C++[u]),⟨aC,bf,?_⟩,aC,?_⟩) (λe=>⟨(i+1,C),⟨aC,bg,?_⟩,aC,?_⟩)
  .rw[jF _ j,if_pos e];exact d.snoc D
  .rw[iS aC,map_append];exact MT
  .rw[jF _ j,if_neg (by rw[e];simp),append_nil];exact d
  .rw[iS aC];exact MT
 .dsimp only at z⊢
  rw[take_of_length_le aC]at d;intro O h' le A;exact G O h' le ((d.mono le).rows A bg)
theorem anJ{l:br}{r:ca}(f:lN l)(g:i<=l.length)(n:∀j y,j<i->l[j]? =some y->eW y r<0)(o:∀j y,i<=j->l[j]? =some y->¬eW y r<0):(l.countP λy=>decide (eW y r<0))=i:=by
 have e:l.countP (λy=>decide (eW y r<0))=(l.take i).countP (λy=>decide (eW y r<0))+(l.drop i).countP λy=>decide (eW y r<0):=by
  rw[<-countP_append,take_append_drop]
 have u:(l.take i).countP (λy=>decide (eW y r<0))=(l.take i).length:=countP_eq_length.2 λy c=>by
  obtain⟨j,d⟩:=getElem?_of_mem c
  grind
 have z:(l.drop i).countP (λy=>decide (eW y r<0))=0:=countP_eq_zero.2 λy c=>by
  obtain⟨j,d⟩:=getElem?_of_mem c
  grind
 grind
theorem LZ{l:br}(d:lN l){j:Nat}{x y:ca}(c:i<j)(hx:l[i]? =some x)(e:l[j]? =some y):eW x y<0:=by
 obtain⟨f,rfl⟩:=List.getElem?_eq_some_iff.1 hx;obtain⟨g,rfl⟩:=List.getElem?_eq_some_iff.1 e;exact pairwise_iff_getElem.1 d i j f g c
theorem bvX{j:Nat}(h:i+j<=32000000):IntKind.i64.wrap ((IntKind.u64.wrap (IntKind.i64.wrap ((i:Int)+(j:Int)))).fdiv 2)=(((i+j)/2:Nat):Int):=by
 rw[fB (n:=(i:Int)+j) aC aC,R4 aC aC,Int.fdiv_eq_ediv_of_nonneg _ aC];have:((i:Int)+j)/2=(((i+j)/2:Nat):Int):=by omega
 rw[this,fB aC aC]
theorem adZ:bm 164 cAX:=by
 refine iQ func164 ?_;rintro X m h K ⟨s,u,l,r,rfl,E,d,U,Z,B⟩;refine⟨bFJ s u m h,rfl,aE ES aG,Tq s u m h K,ax,?_⟩;dsimp only[Tq,push_cast];have Y:=bL.slen E;refine⟨λx=>x.1<=x.2/\x.2<=l.length/\(∀j y,j<x.1->l[j]? =some y->eW y r<0)/\∀j y,x.2<=j->l[j]? =some y->¬eW y r<0,λx=>x.2-x.1,⟨(0,l.length),⟨ay,ay,λj y C=>by omega,λj y C D=>bg⟩,?_⟩,?_⟩
 .grind
 rintro⟨i,j⟩ ⟨F,C,f,g⟩;dsimp only at F C f g;refine aF (λn=>?_) (λG=>?_)
 .dsimp only at n⊢
  have n:i<j:=by omega
  rw[bvX aC];have H:i<=(i+j)/2:=by omega
  have I:(i+j)/2<j:=by omega
  generalize (i+j)/2=k at H I;have c:l[k]? =some (l[k]'(by omega)):=getElem?_eq_getElem _;generalize l[k]'(by omega)=x at c;obtain⟨b,o,e,J,rd,L⟩:=bL.at E c;refine⟨b,o,J,aC,aC,e,.imm rd,e,u,x,r,rfl,L,U,aF (λM=>⟨(k+1,j),⟨aC,C,λO y P D=>?_,g⟩,aC,?_⟩) (λM=>⟨(i,k),⟨aC,aC,f,λO y P D V=>?_⟩,aC,?_⟩)⟩
  .by_cases Q:O=k
   .grind
   .exact Gp (LZ d aC D c) M
  .rw[iS aC];exact MT
  .by_cases Q:O=k
   .grind
   .exact M (Gp (LZ d aC c D) V)
  .exact MT
 .dsimp only at G⊢
  have:i=j:=by omega
  subst this;rw[anJ d C f g]at B
  have z:(∀y,l[i]? =some y->eW y r≠0)->GO l r=false:=λV=>by
   rw[Bool.eq_false_iff];intro R;obtain⟨j,S⟩:=getElem?_of_mem (D0.1 R);have hz:eW r r=0:=lB.2 rfl;rcases Nat.lt_trichotomy j i with T|T|T
   .grind
   .grind
   .have A:i<l.length:=bg
    have c:l[i]? =some l[i]:=getElem?_eq_getElem A;have h3:=LZ d T c S
    grind
  refine aF (λn=>?_) (λW=>?_)
  .have A:i<l.length:=by omega
   have c:l[i]? =some l[i]:=getElem?_eq_getElem A;generalize l[i]=x at c;obtain⟨b,o,e,J,rd,L⟩:=bL.at E c;refine⟨b,o,J,aC,aC,e,.imm rd,e,u,x,r,rfl,L,U,?_⟩
   have:GO l r=(eW x r==0):=by
    cases e2:eW x r==0 with
    |true=>
     have:=lB.1 (by grind:eW x r=0);subst this;exact D0.2 (mem_of_getElem? c)
    |false=>grind
   rw[this]at B;exact B
  .rw[z λy D=>by grind]at B;exact B
theorem Rg:bm 104 b1Q:=by
 refine iQ func104 ?_;rintro d m h K ⟨s,u,l,r,rfl,e,c,f,g,j⟩;refine⟨dE [(164,cAX)] [] [] [] false,rfl,aE adZ aG,beX s u m h K,ax,?_⟩;exact⟨s,u,l,r,rfl,e,c,f,g,j⟩
theorem aq:bm 51 Uk:=by
 refine iQ func51 ?_;rintro E m h K ⟨s,l,rfl,C,L,F,G⟩;refine⟨f51_ctx s m,rfl,aE ab aG,ak s m h K,ax,?_⟩;dsimp only[ak,push_cast];have z:=bL.slen C;refine⟨aC,aC,aC,aC,λx=>x.1<=l.length/\PH.le h x.2.2/\∃j,j.length=x.1/\x.2.1=j++replicate (l.length-x.1) ⟨none,0,0⟩/\eX x.2.2 j (l.take x.1),λx=>l.length-x.1,⟨(0,replicate l.length ⟨none,0,0⟩,h),⟨ay,.refl _,[],rfl,ay,bk (eX.nil h)⟩,?_⟩,?_⟩
 .dsimp only;rw[map_replicate,show((s.len:Int)).toNat=l.length by omega];exact MT
 rintro⟨i,M,O⟩ ⟨H,le,j,f,D,g⟩;dsimp only at H le f D g;subst D;refine aF (λy=>?_) (λA=>?_)
 .dsimp only at y⊢
  obtain⟨r,c⟩:=eV z y;obtain⟨b,o,u,I,rd,J⟩:=bL.at C c;refine⟨b,o,I,aC,aC,u,.imm (rd.mono le),u,r,rfl,bS.mono J le,F r (mem_of_getElem? c),λn h' d B=>⟨aC,bg,[oM],?_,ay,(i+1,(j++[n])++replicate (l.length-(i+1)) ⟨none,0,0⟩,h'),⟨aC,le.trans d,j++[n],by simp[f],rfl,?_⟩,aC,?_⟩⟩
  .rw[getElem?_map,Int.toNat_natCast,getElem?_append_right aC,getElem?_replicate,if_pos aC];rfl
  .dsimp only;rw[take_add_one,c];exact(g.mono d).snoc B
  .dsimp only
   have e:((j++replicate (l.length-i) (⟨none,0,0⟩:Sl)).map eS).set ((i:Int)).toNat (dP n::List.drop 1 [oM])=((j++[n])++replicate (l.length-(i+1)) (⟨none,0,0⟩:Sl)).map eS:=by
    rw[Int.toNat_natCast,show l.length-i=(l.length-(i+1))+1 by omega,replicate_succ,map_append,set_append,if_neg (by simp[f]),map_append,map_append,append_assoc];simp[f,eS]
   rw[e,iS aC];exact MT
 .dsimp only at A⊢
  have:i=l.length:=by omega
  subst this;rw[Nat.sub_self,replicate_zero,append_nil];rw[take_length]at g;intro n h' d c;exact G n h' (le.trans d) ((g.mono d).rows c aC)
theorem bhZ{v:VV}(h:v.text.size<=64):(Ad v).length<=200:=by
 have c:=iD [v.kind];have e:=oO v.int;have d:=iD [(v.text.size:Int)];have f:v.text.data.toList.length=v.text.size:=Array.length_toList;simp only[Ad,length_append,length_cons,length_nil]at c d⊢
 omega
theorem aUZ{r:ca}(h:∀v∈r,v.text.size<=64):(r.flatMap Ad).length<=200*r.length:=by
 induction r with
 |nil=>simp
 |cons v l c=>
  have d:=bhZ (h v (mem_cons_self ..))
  grind
theorem Dd:bm 100 Ui:=by
 refine iQ func100 ?_;rintro H m h K ⟨s,t,r,d,rfl,D,E,I,y,J,L⟩;refine⟨bNZ s t m h,rfl,aE aeQ aG,TY s t m h K,ax,?_⟩;dsimp only[TY,push_cast];have M:=bL.slen D;have z:=E.slen;have O:=y.len;have P:(pick r d).length=d.length:=by simp[pick]
 have g:∀v∈pick r d,v.text.size<=64:=λv Q=>(I.val v (P0 y Q)).text;refine⟨λx=>x.1<=d.length/\x.2=((pick r d).take x.1).flatMap Ad,λx=>d.length-x.1,⟨(0,[]),⟨ay,ay⟩,MT⟩,?_⟩;rintro⟨i,l⟩ ⟨R,F⟩;dsimp only at R F;subst F;refine aF (λf=>?_) (λA=>?_)
 .dsimp only at f;obtain⟨c,j⟩:=eV z f;obtain⟨b,o,e,rd⟩:=E.at j;obtain⟨v,B,n,S,X⟩:=J6 y j;obtain⟨T,U,w,V,C,rfl⟩:=bL.at D B;have Y:=aUZ (r:=(pick r d).take i) (λu W=>g u (mem_of_mem_take W));have G:=g v (mem_of_getElem? n);refine⟨b,o,e,aC,f,c,.imm bg,T,U,V,S,aC,v,.imm C,_,v,rfl,J,?_,(i+1,((pick r d).take (i+1)).flatMap Ad),⟨aC,rfl⟩,bg,?_⟩
  .rw[bC]
   grind
  .dsimp only;rw[take_add_one,n,flatMap_append,dT];simp only[Option.toList_some,flatMap_cons,flatMap_nil,append_nil];exact MT
 .dsimp only at A⊢
  rw[take_of_length_le aC];exact⟨_,rfl,L⟩
theorem adJ:bm 163 aMX:=by
 refine iQ func163 ?_;rintro d m h K ⟨n,rfl,f,c⟩;refine⟨dE [] [] [] [] true,rfl,aG,Tr n m h K,ax,?_⟩;dsimp only[Tr,push_cast];have e:IntKind.i64.wrap ((n:Int)-0)=n:=by rw[fB aC aC];omega
 have g:IntKind.i64.wrap ((n:Int)-IntKind.i64.wrap (0-0))=n:=by rw[show IntKind.i64.wrap (0-0)=0 from by rw[fB aC aC];rfl,e]
 exact aF (λj=>⟨aC,aC,aC,aC,aC,aC,aC,c⟩) (λ_=>c)
theorem amX:bm 102 Ul:=by
 refine iQ func102 ?_;rintro V m h K ⟨z,R,S,rfl,G,h1,h2,W⟩;refine⟨bNX z m h,rfl,aE adJ aG,TX z m h K,ax,?_⟩;dsimp only[TX,push_cast];have X:z.len=2:=bL.slen G
 have g:∀k∈[R,S],k.length<=8000000:=λk e=>by
  grind
 generalize A:[R,S]=ks at G g;have H:ks.length=2:=bg
 have f:∀i,i<=2->((ks.take i).map List.length).sum<=16000000:=λi j=>by
  rw[<-A]
  match i,j with
  |0,_=>simp
  |1,_=>simp;omega
  |2,_=>simp;omega
 refine⟨λx=>x.1<=2/\x.2=((ks.take x.1).map List.length).sum,λx=>2-x.1,⟨(0,0),⟨ay,ay⟩,MT⟩,?_⟩;rintro⟨i,n⟩ ⟨j,T⟩;dsimp only at j T⊢
 subst T;have Y:=f i j;refine aF (λd=>?_) (λB=>?_)
 .obtain⟨k,e⟩:=eV (l:=ks) (n:=z.len) aC d;obtain⟨b,o,y,I,r,u⟩:=bL.at G e;have H:=bL.slen u;have C:=g k (mem_of_getElem? e)
  have Z:IntKind.i64.wrap (((((ks.take i).map List.length).sum:Nat):Int)+(y.len:Int))=((((ks.take (i+1)).map List.length).sum:Nat):Int):=by
   rw[Ca e,fB aC aC];omega
  refine⟨b,o,I,aC,d,y,.imm r,?_⟩;rw[Z];exact aF (λU=>by omega) (λ_=>⟨(i+1,((ks.take (i+1)).map List.length).sum),⟨aC,rfl⟩,aC,by rw[iS aC];exact MT⟩)
 .refine⟨((ks.take i).map List.length).sum,rfl,aC,λx=>x.1<=2/\x.2.length<=16000000/\eX h x.2 (ks.take x.1).flatten,λx=>2-x.1,⟨(0,[]),⟨ay,ay,bk (eX.nil h)⟩,MT⟩,?_⟩;clear Y B j;rintro⟨i,us⟩ ⟨j,J,c⟩;dsimp only at j J c⊢
  have L:=c.len;rw[length_flatten]at L;refine aF (λd=>?_) (λB y h' D E=>W y h' D ?_)
  .obtain⟨k,e⟩:=eV (l:=ks) (n:=z.len) aC d;obtain⟨b,o,y,I,r,u⟩:=bL.at G e;obtain⟨⟨F,M,O,P⟩,_⟩:=u;have C:=g k (mem_of_getElem? e);have Q:=f (i+1) aC;rw[Ca e]at Q;refine⟨b,o,I,aC,d,y,.imm r,F.map eS,Bt _,M,bf,bf,(i+1,us++F),⟨aC,bf,?_⟩,aC,?_⟩
   .dsimp only;rw[take_add_one,e,flatten_append];simp only[Option.toList_some,flatten_cons,flatten_nil,append_nil];exact c.app ⟨O.symm,P⟩
   .rw[iS aC,map_append];exact MT
  .rw[take_of_length_le aC, <-A]at c;simp only[flatten_cons,flatten_nil,append_nil]at c;exact(c.mono D).rows E bf
end Go.Ps
