/- Own work. -/
import Derived.Test.YtafjlhgalgfiaaaGreatDoorPf
set_option linter.unusedVariables false
set_option linter.unusedSimpArgs false
namespace Go.Ps
open Go Go.Vc Go.Proofs List Tryz
variable{K:da}{m:MH}{h:PH}{s:jC}{ps:db}{cb:Nat}{sc:cK}{v:QV}{p:Pred}{l:db}{i:Nat}{N:Nat}{m':MH}{h':PH}{co:db}{gr:db}{od:di}{ta:Int}{li:Int}{xs:List dc}{sz:Nat}{ks:List db}{rs:db}{r:Sl}{a:db}{b:Nat}
mutual
def Dp(h:PH):Query->QV->Nat->eh->Prop
 |.mk _ _ _ _ _ _ _ _ args,v,d,f=>∃e c,cO h v.args 21 (e.map QV.enc)/\mV h args e (d+1) c/\f=(d,v)::c
def mV(h:PH):dl->dw->Nat->eh->Prop
 |[],e,_,f=>e=[]/\f=[]
 |q::qs,e,d,f=>∃v c g j,e=v::c/\cY h q v/\Dp h q v d g/\mV h qs c d j/\f=g++j
end
def cCJ(e:Nat×QV):dc:=[.int .i64 (e.1:Nat),.agg e.2.enc.toArray]
def V8(N:Nat):Vc.Spec:=λc m h K=>∃(v:QV)(q:Query)(d l f:Nat)(g xs:eh)(J:Nat->MH->PH->Prop),c=[aQ v,cI d,.val (.func (.yield l) #[] #[])]/\Dp h q v d g/\SizeOf.sizeOf q<N/\d+kF q<=8000000/\(∀j e,g[j]? =some e->xs[f+j]? =some e)/\J f m h/\
 (∀k e m' h',xs[k]? =some e->PH.le h h'->J k m' h'->YDo Tryz.prog l (cCJ e) m' h' (λr o n=>r=true/\PH.le h' n/\J (k+1) o n))/\
 ∀m' h',PH.le h h'->J (f+g.length) m' h'->K (cB true) m' h'
noncomputable def bkQ(N:Nat)(v:QV)(d l:Nat):=
 {cZ [(140,V8 N)] [(4,{A:=Nat×MH×PH,st:=λ⟨i,m,h⟩=>bS 28 31 [(1,iv d),(2,vv (.func (.yield l) #[] #[])),(15,sv v.args),(16,iv v.args.len),(17,iv i)] [] m h})] [] [] false with yield:=some (cXX Tryz.prog)}
def V7:PH->dc->List dc->Prop:=λh c xs=>∃b v q d,c=[.pointer (some ⟨b,0,none⟩)]/\bU h b 0 (QV.enc v)/\Dp h q v 1 d/\kF q<=900000/\xs=d.map cCJ
def aOJ:Vc.Spec:=λc m h K=>∃v,c=[aQ v]/\∀b h',PH.le h h'->bU h' b 0 (QV.enc v)->K (.val (.func (.func 139) #[] #[.pointer (some ⟨b,0,none⟩)])) m h'
noncomputable abbrev Gy a:=CV.val (Value.func (Fn.yield a) tE tE)
noncomputable abbrev EG a b:=a::List.map CV.val b
noncomputable abbrev jI(a:Nat×MH×PH):=a.2.2
noncomputable abbrev oD(a:Nat×MH×PH):=a.2.1
abbrev LU(a:Nat->(Nat×QV)->Prop):=∀(x:Nat)(c:Nat×QV),a x c
abbrev GO(a:eh)(b:Nat)(c:Nat×QV):=a[b]? =Option.some c
attribute [push_cast] Gy EG jI oD LU GO
def Ry(N:Nat)(v:QV)(d l:Nat)(m:MH)(h:PH)(K:da):=
  axJ Proofs.Tryz.prog (cXX Proofs.Tryz.prog)/\∃(C:Nat)(D:dc)(R:Bool->MH->PH->Prop),aA (Gy l::aX (fI (↑d:Int)) (dG v)=EG (Gy C) D) (YDo Proofs.Tryz.prog C D m h R) (∀(u:Bool),iG (λt z=>iB (R u t z) (!u) (K bB t z) (∃(I:Nat×MH×PH->Prop)(E:Nat×MH×PH->Nat),(∃(x:Nat×MH×PH),aA (I x) (eQ (bP d)) (aA (eQ (SV.at (At.val (Value.func (Fn.yield l) tE tE)))) (aJ v.args) (aA (qY v) (bA x.1) (aA (cN t x.2) (z=jI x) True))))/\∀(x:Nat×MH×PH),yS (I x) x.1 v (bF (λb o=>aH (aM (gJ v) b o) (0<=(↑x.1:Int)) ((↑x.1:Int)<aG v.args) (∃(y:QV),aL (oD x) (jI x) b (bK o x.1 21) y.enc/\uR (λF q=>bF (λA G=>∃(k:Nat)(e H:eh)(J:Nat->MH->PH->Prop),aA (dG y::
 aX (fI (bC d 1)) (Gy l)=dG F::aX (fI (↑A:Int)) (Gy G)) (Dp (jI x) q F A e) (aA (rN q N) (A+kF q<=8000000) (aH (LU (λj f=>GO e j f->GO H (k+j) f)) (J k (oD x) (jI x)) (LU (λB f=>iG (λg c=>GO H B f->PH.le (jI x) c->J B g c->YDo Proofs.Tryz.prog G (lE (eH (↑f.1:Int)) (Value.agg (Array.mk f.2.enc))) g c (fun(r:Bool)=>fun(M:MH)=>fun(L:PH)=>aA (AY r) (PH.le c L) (J (B+1) M L))))) (iG (λg c=>bY (jI x) c (J (k+e.length) g c) (∃(n:Nat×MH×PH),aA (I n) (E n<E x) (aA (eQ (bP d)) (eQ (SV.at (At.val (Value.func (Fn.yield l) tE tE)))) (aA (aJ v.args) (bG v.args) (aA (fU (bC x.1 1)=bP n.1) (cN g n.2) (bQ c (jI n))))))))))))))) (K fM (oD x)
 (jI x)))))
abbrev A8(a:da)(b:MH)(c:PH):=a (CV.tup []) b c
attribute [push_cast] A8
def apX N l u m h K:=
  ∃(y:QV),aL m h u 0 y.enc/\uR (λv q=>bF (λd o=>∃(k:Nat)(e x:eh)(J:Nat->MH->PH->Prop),aA (dG y::aX (fI 1) (Gy l)=dG v::aX (fI (↑d:Int)) (Gy o)) (Dp h q v d e) (aA (rN q N) (d+kF q<=8000000) (aH (LU (λj f=>GO e j f->GO x (k+j) f)) (J k m h) (LU (λn f=>iG (λg c=>GO x n f->PH.le h c->J n g c->YDo Proofs.Tryz.prog o (lE (eH (↑f.1:Int)) (Value.agg (Array.mk f.2.enc))) g c (fun(r:Bool)=>fun(z:MH)=>fun(t:PH)=>aA (AY r) (PH.le c t) (J (n+1) z t))))) (iG (λg c=>bY h c (J (k+e.length) g c) (A8 K g c)))))))
mutual
theorem Dp.mono{h h':PH}(le:PH.le h h'):∀{q:Query}{v:QV}{d:Nat}{es:eh},Dp h q v d es->Dp h' q v d es
 |.mk _ _ _ _ _ _ _ _ args,v,d,es,w=>by
  rw[Dp]at w⊢
  obtain⟨e,c,f,g,j⟩:=w;exact⟨e,c,f.mono le,mV.mono le g,j⟩
theorem mV.mono{h h':PH}(le:PH.le h h'):∀{c:dl}{vs:dw}{d:Nat}{es:eh},mV h c vs d es->mV h' c vs d es
 |[],vs,d,es,w=>by rw[mV]at w⊢;exact w
 |q::c,vs,d,es,w=>by
  rw[mV]at w⊢
  obtain⟨v,e,f,g,j,n,o,t,u⟩:=w;exact⟨v,e,f,g,j,n.mono le,Dp.mono le o,mV.mono le t,u⟩
end
theorem mV.len{h:PH}:∀{c:dl}{vs:dw}{d:Nat}{es:eh},mV h c vs d es->vs.length=c.length
 |[],vs,d,es,w=>by rw[mV]at w;grind
 |q::c,vs,d,es,w=>by
  rw[mV]at w;obtain⟨v,e,j,n,f,o,t,g,u⟩:=w;rw[f,cu,cu,mV.len g]
mutual
theorem Dp.of{h:PH}:∀{q:Query}{v:QV},cY h q v->∀d,∃es,Dp h q v d es
 |.mk _ _ _ _ _ _ _ _ args,v,e,d=>by
  obtain⟨_,_,_,_,_,_,_,_,_,g,f,c⟩:=e;obtain⟨es,j⟩:=mV.of c (d+1);exact⟨(d,v)::es,by rw[Dp];grind⟩
theorem mV.of{h:PH}:∀{c:dl}{vs:dw},Ce h c vs->∀d,∃es,mV h c vs d es
 |[],vs,e,d=>⟨[],by rw[mV];exact⟨e,rfl⟩⟩
 |q::c,vs,e,d=>by
  obtain⟨v,f,rfl,g,j⟩:=e;obtain⟨n,t⟩:=Dp.of g d;obtain⟨o,u⟩:=mV.of j d;exact⟨n++o,by rw[mV];grind⟩
end
mutual
def eY:Query->db
 |.mk op ta _ _ _ _ _ _ args=>(if op=1 then[ta]else[])++eN args
def eN:dl->db
 |[]=>[]
 |q::qs=>eY q++eN qs
end
mutual
theorem Dp.small{h:PH}:∀{q:Query}{v:QV}{d:Nat}{es:eh},Dp h q v d es->es.length<=kF q
 |.mk op ta _ _ _ _ _ _ args,v,d,es,w=>by
  rw[Dp]at w;obtain⟨f,c,g,e,rfl⟩:=w;have:=mV.small e;simp only[cu,kF];omega
theorem mV.small{h:PH}:∀{c:dl}{vs:dw}{d:Nat}{es:eh},mV h c vs d es->es.length<=kC c
 |[],vs,d,es,w=>by rw[mV]at w;grind
 |q::c,vs,d,es,w=>by
  rw[mV]at w;obtain⟨v,e,j,n,o,t,f,g,rfl⟩:=w;have u:=Dp.small f;have x:=mV.small g;simp only[cg,kC];omega
end
theorem cDQ:∀q:Query,1<=kF q
 |.mk _ _ _ _ _ _ _ _ _=>by rw[kF];omega
theorem aHX:∀l:dl,l.length<=kC l
 |[]=>bi
 |a::l=>by have:=aHX l;have:=cDQ a;simp only[cu,kC];omega
theorem V0:∀{l:dl}{a:Query},a∈l->kF a<=kC l
 |b::l,a,h=>by
  rw[kC];rcases mem_cons.1 h with rfl|h
  .omega
  .have:=V0 h;omega
theorem Ui:∀N,cz 140 (V8 N)
 |0=>by
  refine eG (fn:=Tryz.f140) (c:=dQ Tryz.f140) func140 rfl bj ?_;rintro T m h K ⟨v,q,d,l,S,es,xs,J,rfl,_,hN,_⟩;omega
 |N+1=>by
  refine gW func140 ?_;rintro T m h K ⟨v,q,d,l,S,es,xs,J,rfl,hw,hN,hd,hx,h0,f,B⟩;refine⟨bkQ N v d l,rfl,aE (Ui N) aI,Ry N v d l m h K,bh,?_⟩;dsimp only[Ry,push_cast];obtain⟨op,ta,w,co,on,gr,od,li,args⟩:=q;rw[Dp]at hw;obtain⟨C,D,x,E,rfl⟩:=hw;simp only[Query.mk.sizeOf_spec]at hN;rw[kF]at hd;have a':=E.len;have U:=x.len;have a0:=aHX args;rw[length_map]at U;refine⟨Zo _,l,cCJ (d,v),_,rfl,f S (d,v) m h (hx 0 _ rfl) (.refl _) h0,?_⟩;rintro u m' h' ⟨rfl,F,hJ⟩;refine aC (λe=>by cases e) (λ_=>?_);refine⟨λz=>z.1<=args.length/\PH.le h z.2.2/\∃A V,D=A++V/\mV z.2.2 (args.drop z.1) (C.drop z.1) (d+1) V/\J (S+1+A.length) z.2.1 z.2.2,λz=>args.length-z.1,⟨(0,m',h'),⟨bi,F,[],D,rfl,E.mono F,hJ⟩,MT⟩,?_⟩;rintro⟨i,mz,hz⟩ ⟨hi,g,A,V,G,n,H⟩;dsimp only at hi g n H⊢
  refine aF (λa1=>?_) (λa2=>?_)
  .have y:i<args.length:=by omega
   rw[drop_eq_getElem_cons y,mV]at n;obtain⟨I,L,M,W,O,a3,X,P,rfl⟩:=n
   have a4:C[i]? =some I:=by
    have:(C.drop i)[0]? =some I:=by rw[O];rfl
    grind
   have Q:L=C.drop (i+1):=by
    have:(C.drop i).drop 1=L:=by rw[O];rfl
    rw[<-this,drop_drop]
   obtain⟨b,o,ea,rd⟩:=x.get (i:=i) (e:=I.enc) bo;have a5:=sizeOf_lt_of_mem (getElem_mem y);have a6:=V0 (getElem_mem y);refine⟨b,o,ea,aD,aD,I,.imm (rd.mono g),I,args[i],d+1,l,S+1+A.length,M,xs,J,by rw[fR aD],X,aD,aD,λj e hj=>?_,H,λk e Y Z hk t R=>f k e Y Z hk (g.trans t) R,λY Z t R=>⟨(i+1,Y,Z),⟨aD,g.trans t,A++M,W,bo,?_,?_⟩,aD,?_⟩⟩
   .have h5:=(bz hj)
    have:=hx (1+A.length+j) e (by
     grind)
    grind
   .dsimp only;rw[<-Q];exact P.mono t
   .grind
   .dsimp only;rw[fR aD];exact MT
  .have:i=args.length:=by omega
   subst this;rw[drop_of_length_le (Nat.le_refl _),mV]at n;obtain⟨_,rfl⟩:=n;rw[append_nil]at G;subst G;exact B mz hz g bo
theorem Yt:cz 139 (cJZ Tryz.prog V7):=by
 refine gW func139 ?_;rintro o m h K ⟨l,f,xs,J,rfl,⟨b,v,q,g,rfl,t,u,y,rfl⟩,x,c,d⟩;refine⟨cZ [(140,V8 (SizeOf.sizeOf q+1))] [] [] [] false,rfl,aE (Ui _) aI,apX (SizeOf.sizeOf q+1) l b m h K,bh,?_⟩;exact⟨v,.imm t,v,q,1,l,0,g,g,J,rfl,u,aD,aD,λj e z=>bo,x,λk e m' h' A le n=>c k (cCJ e) m' h' bo le n,λm' h' le n=>d _ m' h' le bo⟩
theorem chZ:Si Tryz.prog 139 V7:=⟨Yt⟩
theorem VN{f fn}(n:Tryz.prog.funcs[f]? =some fn){S}(j:∀c m h K,S c m h K->∃C:Ctx,C.P=Tryz.prog/\(∀g S,assoc C.specs g=some S->cz g S)/\∃N:Prop,N=yC C fn (dQ fn) (entry fn.ntmps c m h) (fV h K)/\N)(o:fn.body=some (dQ fn):=by rfl)(d:(fn.name== "runtime.NumGoroutine")=false:=by decide):cz f S:=a4Z n o d λc m h K t=>let⟨C,hC,hs,N,e,hn⟩:=j c m h K t;⟨C,hC,hs,e▸hn⟩
theorem ZW:cz 74 aOJ:=by
 refine VN func74 ?_;rintro g m h K ⟨v,rfl,j⟩;refine⟨cZ [] [] [] [] false,rfl,aI,XM v m h (fV h K),bh,?_⟩;dsimp only[XM,push_cast];intro b m' c d _;have sub:Sub m m':=(yH (Sub.refl m) c d).1;refine⟨m,xZ h b (QV.enc v),sub,aIQ c.h_,λn i o e=>?_,j b _ (aIQ c.h_) ciX⟩;by_cases f:n=b
 .subst f;simp only[xZ,if_true]at e;exact .inr ⟨_,_,_,d.at_,bo,c.m_⟩
 .simp only[xZ,if_neg f]at e;exact .inl e
structure Bj(s:jC)(c:Nat)(ls:List de)(k:Nat)(ts:db):Prop where
 at_:∀(j:Nat)(t:Int),ts[j]? =some t->∃l,ls[k+j]? =some l/\iM (jR s t).length l/\l.length<=c
theorem Bj.left{c k ls b}(x:Bj s c ls k (a++b)):Bj s c ls k a:=
 ⟨λj t h=>x.at_ j t bo⟩
theorem Bj.right{c k ls b}(x:Bj s c ls k (a++b)):Bj s c ls (k+a.length) b:=
 ⟨λj t h=>by
  have:=x.at_ (a.length+j) t bo
  grind⟩
theorem zJ{op w on args ks}(h:aK s ps (.mk op ta w co on gr od li args)=(ks,0)):
 ∃c,fH s ps args=(c,0)/\(c.length:Int)=arity op/\eV s ps (.mk op ta w co on gr od li args) (c.getD 0 []) (c.getD 1 [])=(ks,0):=by
 rw[aK]at h;generalize fH s ps args=r at h;obtain⟨c,e⟩:=r;dsimp only at h;split at h
 .rename_i d;subst d;split at h
  .grind
  .simp[eK]at h
 .rename_i d;simp only[eK,Prod.mk.injEq]at h;omega
theorem rB{q e d}(h:fH s ps (q::e)=(d,0)):∃k c,aK s ps q=(k,0)/\fH s ps e=(c,0)/\d=k::c:=by
 rw[fH]at h
 grind
theorem xY{ks}(h:mT l=(ks,0)):ks=l/\l.length<=12:=by
 unfold mT at h
 grind
theorem RV{op}(h:arity op=0):op=1:=by
 unfold arity at h
 grind
mutual
theorem YW{s:jC}{ps:db}{c:Nat}(f:1<=c):∀{q:Query}{ks:db},aK s ps q=(ks,0)->1<=gM c q
 |.mk op ta w co on gr od li args,ks,h=>by
  obtain⟨j,d,g,o⟩:=zJ h;have e:=awZ f d;rw[gM];split
  .exact f
  .rename_i n;split
   .exact e.1
   .match args,d,e with
    |[],d,_=>rw[fH]at d;simp only[Prod.mk.injEq,and_true]at d;rw[<-d]at g;exact absurd (RV g.symm) n
    |q::qs,d,e=>grind
theorem awZ{s:jC}{ps:db}{c:Nat}(f:1<=c):∀{e:dl}{d:List db},fH s ps e=(d,0)->1<=yZ c e/\(e≠[]->1<=vP c e)
 |[],d,h=>by simp[yZ]
 |q::e,d,h=>by
  obtain⟨k,g,j,n,u⟩:=rB h;have o:=YW f j;have t:=awZ f n;rw[yZ,vP];exact⟨Nat.mul_pos o t.1,λ_=>by omega⟩
end
def U6(c:Nat):dl->List db->List de->Prop
 |[],[],[]=>True
 |q::qs,k::ks,l::ls=>iM k.length l/\l.length<=gM c q/\U6 c qs ks ls
 |_,_,_=>False
theorem VF{α:Type}:∀{l:List α},l.length=2->∃a b,l=[a,b]
 |[a,b],_=>⟨a,b,rfl⟩
theorem U6.len{c d ls}(h:U6 c d ks ls):d.length=ks.length/\ls.length=ks.length:=by
 induction d generalizing ks ls with
 |nil=>
  match ks,ls,h with
  |[],[],_=>omega
  |_::_,[],h=>exact h.elim
  |[],_::_,h=>exact h.elim
  |_::_,_::_,h=>exact h.elim
 |cons q d e=>
  match ks,ls,h with
  |[],[],h=>exact h.elim
  |_::_,[],h=>exact h.elim
  |[],_::_,h=>exact h.elim
  |k::ks,l::ls,h=>
   obtain⟨f,g⟩:=e h.2.2
   grind
theorem iM.filter{w l}(x:iM w l) p:iM w (l.filter p):=
 ⟨λr h=>x.row r (mem_filter.1 h).1,λr h=>x.wid r (mem_filter.1 h).1,x.srt.filter p,cv (length_filter_le _ _) x.len⟩
theorem Xl(x:dj):∀l:de,(Nf x l).length<=l.length+1
 |[]=>by simp[Nf]
 |y::l=>by
  have:=Xl x l;simp only[Nf]
  grind
theorem KG:∀l:de,(sK l).length<=l.length
 |[]=>by simp[sK]
 |x::l=>by
  have c:=KG l;have d:=Xl x (sK l);show(Nf x (sK l)).length<=(x::l).length
  grind
theorem iM.set{w l}(c:∀r∈l,Wf r)(d:∀r∈l,r.length=w)(e:l.length<=8000000):iM w (sK l):=
 ⟨λr h=>c r (xX.1 h),λr h=>d r (xX.1 h),sZ l,cv (KG l) e⟩
theorem Mu:∀{x y u v:dj},x.length=y.length->eC (x++u) (y++v)=if eC x y≠0 then eC x y else eC u v
 |[],[],u,v,_=>by simp[eC]
 |a::x,b::y,u,v,h=>by
  simp only[cu,Nat.add_right_cancel_iff]at h;simp only[cons_append,eC];by_cases e:kT a b=0
  .simp only[e,ne_eq,not_true_eq_false,if_false];exact Mu h
  .simp[e]
 |[],_::_,_,_,h=>by simp at h
 |_::_,[],_,_,h=>by simp at h
theorem EL{on b x z}(h:z∈jS on b x):∃y∈b,z=x++y:=by
 unfold jS at h
 grind
theorem iM.join{w w' a b on}(d:iM w a)(g:iM w' b)(t:w+w'<=12)(j:a.length*b.length<=8000000):iM (w+w') (a.flatMap (jS on b)):=by
 refine⟨λr h=>?_,λr h=>?_,?_,cv (zO λx _=>B8) j⟩
 .obtain⟨x,c,h⟩:=mem_flatMap.1 h;obtain⟨y,e,rfl⟩:=EL h;have A:=d.wid x c;have B:=g.wid y e;refine⟨bo,λv f=>?_⟩;rcases mem_append.1 f with f|f
  .exact(d.row x c).val v f
  .exact(g.row y e).val v f
 .obtain⟨x,c,h⟩:=mem_flatMap.1 h;obtain⟨y,e,rfl⟩:=EL h;rw[cg,d.wid x c,g.wid y e]
 .refine pairwise_flatMap.2 ⟨λx c=>?_,?_⟩
  .unfold jS;split
   .refine pairwise_map.2 ((g.srt.filter _).imp fun{y z} h=>?_);rw[Mu rfl,if_neg (by rw[iZ.2 rfl];simp)];exact h
   .exact List.Pairwise.nil
  .refine d.srt.imp_of_mem fun{x y} c e h z n u o=>?_;obtain⟨C,_,rfl⟩:=EL n;obtain⟨D,_,rfl⟩:=EL o;rw[Mu (by rw[d.wid x c,d.wid y e]),if_pos aD];exact h
theorem Q4{c}(h:DZ a c=true):0<=c/\c<a.length:=by
 simp only[DZ,cm,cr]at h;exact h
theorem H7{α}{T:List α->α->Prop}{l}(h:Good T l){x}(d:x∈l):∃c,T c x:=by
 obtain⟨i,f,e⟩:=mem_iff_getElem.1 d;exact⟨_,h i x bo⟩
theorem KV:∀(n:Nat)(l:db),l.Nodup->(∀x∈l,0<=x/\x<n)->l.length<=n
 |0,[],_,_=>bi
 |0,x::l,_,h=>by have:=h x (mem_cons_self ..);omega
 |n+1,l,c,h=>by
  by_cases e:(n:Int)∈l
  .have f:=KV n (l.erase n) (c.erase _) (λx d=>by
    grind)
   grind
  .have:=KV n l c (λx d=>by
    grind)
   omega
theorem Q7{α T l}(f:α->Int)(d:∀c x,T c x->f x∉c.map f)(h:Good T l):(l.map f).Nodup:=by
 rw[nodup_iff_pairwise_ne,pairwise_map,pairwise_iff_getElem];intro i j o g n e;refine d _ _ (h j l[j] (cd g)) (mem_map.2 ⟨l[i],?_,e⟩);rw[mem_take_iff_getElem]
 grind
theorem GZ(h:Good (He a) gr)(j:a.length<=12):fE a.length gr:=by
 have f:∀c∈gr,0<=c/\c<a.length:=λc g=>by obtain⟨_,d⟩:=H7 h g;exact Q4 d.1
 have d:=Q7 id (λe x(h:He a e x)=>bx h.2) h;rw[map_id]at d;exact⟨f,by have:=KV _ _ d f;omega⟩
theorem MX{b on}(h:Good (nH a b) on)(A:a.length<=12)(B:b.length<=12):fE a.length (fY on)/\fE b.length (fK on):=by
 have n:∀c∈fY on,0<=c/\c<a.length:=λc f=>by
  obtain⟨p,g,rfl⟩:=mem_map.1 f;obtain⟨_,d⟩:=H7 h g;exact Q4 d.1
 have d:∀c∈fK on,0<=c/\c<b.length:=λc f=>by
  obtain⟨p,g,rfl⟩:=mem_map.1 f;obtain⟨_,d⟩:=H7 h g;exact Q4 d.2.1
 have o:(fY on).Nodup:=Q7 Prod.fst (λj x(h:nH a b j x) t=>by
  obtain⟨y,u,e⟩:=mem_map.1 t;exact(h.2.2.2 y u).1 e) h
 have z:=KV _ _ o n;exact⟨⟨n,aD⟩,⟨d,by simp only[fY,fK,length_map]at z⊢;omega⟩⟩
theorem W6{w r}(c:Wf r)(e:r.length=w)(f:fE w co)(d:co.length<=12):Wf (pick r co)/\(pick r co).length=co.length:=
 ⟨⟨by simpa[pick]using d,KT c bo⟩,by simp[pick]⟩
theorem KA{c q p}:vP c [q,p]=gM c q+gM c p:=by simp[vP]
theorem Vg{c q}:vP c [q]=gM c q:=by simp[vP]
theorem buZ{c q p}:yZ c [q,p]=gM c q*gM c p:=by simp[yZ]
theorem cgQ{c op w on args ks t L}(O:op≠1)(M:(t.length:Int)=arity op)(F:∀k∈t,k.length<=12)(f:eV s ps (.mk op ta w co on gr od li args) (t.getD 0 []) (t.getD 1 [])=(ks,0))(D:U6 c args t L)(n:gM c (.mk op ta w co on gr od li args)<=8000000):
 OX op (.mk op ta w co on gr od li args) L/\iM ks.length (F0 op (.mk op ta w co on gr od li args) L)/\(F0 op (.mk op ta w co on gr od li args) L).length<=gM c (.mk op ta w co on gr od li args):=by
 rw[gM,if_neg O]at n⊢
 unfold eV at f;dsimp only at f;split at f
 .simp[eK]at f
 have one:arity op=1->∃q k l,args=[q]/\t=[k]/\L=[l]/\iM k.length l/\l.length<=gM c q/\k.length<=12:=λe=>by
  obtain⟨P,Q⟩:=D.len;obtain⟨k,rfl⟩:=length_eq_one_iff.1 (show t.length=1 by omega);obtain⟨q,rfl⟩:=length_eq_one_iff.1 (show args.length=1 by omega);obtain⟨l,rfl⟩:=length_eq_one_iff.1 (show L.length=1 by omega);exact⟨q,k,l,rfl,rfl,rfl,D.1,D.2.1,F k bi⟩
 have two:arity op=2->∃q p k u l A,args=[q,p]/\t=[k,u]/\L=[l,A]/\iM k.length l/\l.length<=gM c q/\iM u.length A/\A.length<=gM c p/\k.length<=12/\u.length<=12:=λe=>by
  obtain⟨P,Q⟩:=D.len;obtain⟨k,u,rfl⟩:=VF (show t.length=2 by omega);obtain⟨q,p,rfl⟩:=VF (show args.length=2 by omega);obtain⟨l,A,rfl⟩:=VF (show L.length=2 by omega);exact⟨q,p,k,u,l,A,rfl,rfl,rfl,D.1,D.2.1,D.2.2.1,D.2.2.2.1,F k bi,F u bi⟩
 have R:op=2\/op=3\/op=9\/op=4\/op=5\/op=6\/op=7\/op=8\/op=10:=by
  have:0<=arity op:=by omega
  unfold arity at this
  grind
 rcases R with rfl|rfl|rfl|rfl|rfl|rfl|rfl|rfl|rfl
 .obtain⟨q,k,l,rfl,rfl,rfl,j,E,B⟩:=one rfl;simp only[show((2:Int)=4)=False by decide,if_false,if_true]at f n⊢
  split at f
  .obtain⟨rfl,_⟩:=xY f;refine⟨⟨bi,λx y=>bo⟩,j.filter _,cv (length_filter_le _ _) ?_⟩;rw[Vg];exact E
  .rename_i e;simp only[eK,Prod.mk.injEq]at f;omega
 .obtain⟨q,k,l,rfl,rfl,rfl,j,E,B⟩:=one rfl;simp only[show((3:Int)=4)=False by decide,show((3:Int)=2)=False by decide,if_false,if_true]at f n⊢
  split at f
  .rename_i g;obtain⟨rfl,d⟩:=xY f;rw[length_map]at d⊢
   have z:fE k.length co:=⟨λc z=>by obtain⟨_,M⟩:=H7 g.2 z;exact Q4 M,aD⟩
   rw[Vg]at n⊢
   refine⟨⟨bi,d,_,j,z⟩,iM.set (λr h=>?_) (λr h=>?_) bo,cv (KG _) bo⟩
   .obtain⟨x,y,rfl⟩:=mem_map.1 h;exact(W6 (j.row x y) (j.wid x y) z d).1
   .obtain⟨x,y,rfl⟩:=mem_map.1 h;exact(W6 (j.row x y) (j.wid x y) z d).2
  .simp[eK]at f
 .obtain⟨q,k,l,rfl,rfl,rfl,j,E,B⟩:=one rfl;simp only[show((9:Int)=4)=False by decide,show((9:Int)=2)=False by decide,show((9:Int)=3)=False by decide,show((9:Int)=5)=False by decide,if_false,if_true]at f n⊢
  split at f
  .rename_i g;obtain⟨rfl,d⟩:=xY f;rw[Vg]at n⊢
   exact⟨⟨bi,⟨_,j,GZ g.group_ B⟩,g.low⟩,j.filter _,cv (length_filter_le _ _) E⟩
  .simp[eK]at f
 .obtain⟨q,p,k,u,l,A,rfl,rfl,rfl,j,E,o,G,B,C⟩:=two rfl;simp only[show((4:Int)=2)=False by decide,show((4:Int)=3)=False by decide,if_false,if_true]at f n⊢
  split at f
  .rename_i g;obtain⟨rfl,d⟩:=xY f;rw[buZ]at n⊢
   have z:=MX g B C;have I:l.length*A.length<=gM c q*gM c p:=Nat.mul_le_mul E G;rw[cg]at d⊢
   exact⟨⟨⟨bi,_,_,j,o,z.1,z.2⟩,cv I n⟩,j.join o d (cv I n),cv (zO λx _=>B8) I⟩
  .simp[eK]at f
 .obtain⟨q,p,k,u,l,A,rfl,rfl,rfl,j,E,o,G,B,C⟩:=two rfl;simp only[show((5:Int)=2)=False by decide,show((5:Int)=3)=False by decide,show((5:Int)=4)=False by decide,if_false,if_true]at f n⊢
  split at f
  .rename_i g;obtain⟨rfl,d⟩:=xY f;rw[KA]at n⊢
   have z:=MX g B C;exact⟨⟨bi,_,_,j,o,z.1,z.2⟩,j.filter _,cv (length_filter_le _ _) bo⟩
  .simp[eK]at f
 all_goals
  obtain⟨q,p,k,u,l,A,rfl,rfl,rfl,j,E,o,G,B,C⟩:=two rfl
 .simp only[show((6:Int)=2)=False by decide,show((6:Int)=3)=False by decide,show((6:Int)=4)=False by decide,show((6:Int)=5)=False by decide,show((6:Int)=9)=False by decide,show((6:Int)=10)=False by decide,if_false,if_true]at f n⊢
  split at f
  .rename_i g;have g:k=u:=g;subst g;obtain⟨rfl,d⟩:=xY f;rw[KA]at n⊢
   have H:(l++A).length<=gM c q+gM c p:=bo
   refine⟨⟨bi,λx y=>bo⟩,iM.set (λr h=>?_) (λr h=>?_) (cv H n),cv (KG _) H⟩
   .rcases mem_append.1 h with h|h
    .exact j.row r h
    .exact o.row r h
   .rcases mem_append.1 h with h|h
    .exact j.wid r h
    .exact o.wid r h
  .simp[eK]at f
 .simp only[show((7:Int)=2)=False by decide,show((7:Int)=3)=False by decide,show((7:Int)=4)=False by decide,show((7:Int)=5)=False by decide,show((7:Int)=9)=False by decide,show((7:Int)=10)=False by decide,if_false,if_true]at f n⊢
  split at f
  .rename_i g;have g:k=u:=g;subst g;obtain⟨rfl,d⟩:=xY f;rw[KA]at n⊢
   exact⟨⟨bi,_,λx y=>by simp at y;rcases y with rfl|rfl;exact j;exact o⟩,j.filter _,cv (length_filter_le _ _) bo⟩
  .simp[eK]at f
 .simp only[show((8:Int)=2)=False by decide,show((8:Int)=3)=False by decide,show((8:Int)=4)=False by decide,show((8:Int)=5)=False by decide,show((8:Int)=9)=False by decide,show((8:Int)=10)=False by decide,if_false,if_true]at f n⊢
  split at f
  .rename_i g;have g:k=u:=g;subst g;obtain⟨rfl,d⟩:=xY f;rw[KA]at n⊢
   exact⟨⟨bi,_,λx y=>by simp at y;rcases y with rfl|rfl;exact j;exact o⟩,j.filter _,cv (length_filter_le _ _) bo⟩
  .simp[eK]at f
 .simp only[show((10:Int)=2)=False by decide,show((10:Int)=3)=False by decide,show((10:Int)=4)=False by decide,show((10:Int)=5)=False by decide,show((10:Int)=9)=False by decide,if_false,if_true]at f n⊢
  split at f
  .rename_i g;obtain⟨g,J⟩:=g;have g:k=u:=g;subst g;obtain⟨rfl,d⟩:=xY f;rw[KA]at n⊢
   exact⟨⟨bi,_,j,o,GZ J.group_ B⟩,j.filter _,cv (length_filter_le _ _) bo⟩
  .simp[eK]at f
theorem Mw{s:jC}{ps:db}{c:Nat}(g:1<=c):∀{d:dl}{e:List db},fH s ps d=(e,0)->∀q∈d,gM c q<=vP c d/\gM c q<=yZ c d
 |[],_,_,q,f=>by simp at f
 |p::d,e,h,q,f=>by
  obtain⟨k,j,o,n,x⟩:=rB h;have t:=YW g o;have u:=(awZ g n).1;rw[vP,yZ];rcases mem_cons.1 f with rfl|f
  .exact⟨aD,Nat.le_mul_of_pos_right _ u⟩
  .have:=Mw g n q f;exact⟨aD,cv this.2 (Nat.le_mul_of_pos_left _ t)⟩
theorem Q1{s:jC}{ps:db}:∀{e:dl}{c:List db},fH s ps e=(c,0)->∀k∈c,k.length<=12
 |[],c,h,k,d=>by rw[fH]at h;grind
 |q::e,c,h,k,d=>by
  obtain⟨j,f,n,g,rfl⟩:=rB h;rcases mem_cons.1 d with rfl|d
  .have:=jB s ps q;grind
  .exact Q1 g k d
structure c9Q(c:Nat)(ls:List de)(q:Query)(k:Nat)(ks:db):Prop where
 ok:okQ ls q k
 rel:iM ks.length (iD ls q k).1
 bnd:(iD ls q k).1.length<=gM c q
 nxt:(iD ls q k).2=k+(eY q).length
mutual
theorem Ib{s:jC}{ps:db}{c:Nat}{ls:List de}(o:1<=c):∀{q:Query}{ks:db}{k:Nat},aK s ps q=(ks,0)->Bj s c ls k (eY q)->gM c q<=8000000->c9Q c ls q k ks
 |.mk op ta w co on gr od li args,ks,k,h,f,t=>by
  obtain⟨z,g,u,d⟩:=zJ h;by_cases e:op=1
  .subst e
   have A:args=[]:=by
    cases args with
    |nil=>rfl
    |cons q E=>obtain⟨_,_,_,_,rfl⟩:=rB g;simp[arity]at u;omega
   subst A;have j:eY (.mk 1 ta w co on gr od li [])=[ta]:=by simp[eY,eN]
   unfold eV at d;dsimp only at d;split at d
   .simp[eK]at d
   try rw[if_pos rfl]at d
   split at d
   .obtain⟨rfl,_⟩:=xY d;rw[j]at f;obtain⟨l,x,F,B⟩:=f.at_ 0 ta rfl;rw[Nat.add_zero]at x;have y:(iD ls (.mk 1 ta w co on gr od li []) k)=(l,k+1):=by rw[iD,if_pos rfl,getD_eq_getElem?_getD,x];rfl
    refine⟨by rw[okQ,if_pos rfl];grind,bo,by rw[y,gM,if_pos rfl];exact B,bo⟩
   .simp[eK]at d
  .have j:eY (.mk op ta w co on gr od li args)=eN args:=by simp[eY,e]
   rw[j]at f
   have n:∀q∈args,gM c q<=8000000:=λq C=>by
    have G:=Mw o g q C;rw[gM,if_neg e]at t
    grind
   obtain⟨H,D,I⟩:=UH o g f n;obtain⟨J,L,M⟩:=cgQ e u (Q1 g) d D t;have y:iD ls (.mk op ta w co on gr od li args) k=(F0 op (.mk op ta w co on gr od li args) (lR ls args k).1,(lR ls args k).2):=by rw[iD,if_neg e]
   exact⟨by rw[okQ,if_neg e];grind,bo,bo,bo⟩
theorem UH{s:jC}{ps:db}{c:Nat}{ls:List de}(n:1<=c):∀{d:dl}{e:List db}{k:Nat},fH s ps d=(e,0)->Bj s c ls k (eN d)->(∀q∈d,gM c q<=8000000)->bxQ ls d k/\U6 c d e (lR ls d k).1/\(lR ls d k).2=k+(eN d).length
 |[],e,k,h,_,_=>by
  rw[fH]at h;simp only[Prod.mk.injEq,and_true]at h;subst h;simp[bxQ,lR,U6,eN]
 |q::d,e,k,h,j,o=>by
  obtain⟨z,t,u,x,rfl⟩:=rB h;rw[eN]at j;have f:=Ib n u j.left (o q (mem_cons_self ..));have g:=UH n x j.right (λp y=>o p (mem_cons_of_mem _ y));rw[<-f.nxt]at g;rw[bxQ,lR,eN];refine⟨⟨f.ok,g.1⟩,⟨f.rel,f.bnd,g.2.1⟩,?_⟩;rw[g.2.2,f.nxt,cg];omega
end
structure Ct(m:MH)(tb:Nat)(ws:List dE):Prop where
 ex:∃cur:Array Value,m tb=some (.cells cur 73 (0,0))/\cur.toList.take (ws.length*5)=(ws.map dE.enc).flatten
def aTQ:Vc.Spec:=λd m h K=>∃e g n f j w c,∃t:Nat,d=[aS ⟨e,⟨some ⟨g,0,none⟩,n,f⟩⟩,cI t]/\t<n/\Ct m g j/\j[t]? =some w/\Hv h w.columns c/\c.length<=8/\
 ∀o h',PH.le h h'->Ints h' o (c.map rG.kind)->K (cS o) m h'
noncomputable def ctZ cb:=
 vO [(19,N1),(25,U4),(72,aVQ),(45,aTQ),(27,Ha)] [] [(5,{A:=Int×Int×MH×PH,st:=λ⟨n,id,m,h⟩=>bS 86 87 [(0,pv cb),(2,.at (.ptr 2 0)),(3,iv n),(4,iv id)] [(2,.cells 27 [.val (.int .i64 0),.val (.slice none 0 0)])] m h}),
  (9,{A:=Int×cK×MH×PH,st:=λ⟨n,s,m,h⟩=>bS 86 87 [(0,pv cb),(2,.at (.ptr 2 0)),(3,iv n),(5,.at (.ptr 5 0))] [(2,.cells 27 [.val (.int .i64 0),.val (.slice none 0 0)]),(5,.cells 27 (s.enc.map .val))] m h}),
  (11,{A:=Int×cK×MH×PH,st:=λ⟨n,s,m,h⟩=>bS 86 87 [(0,pv cb),(2,.at (.ptr 2 0)),(3,iv n),(5,.at (.ptr 5 0))] [(2,.cells 27 [.val (.int .i64 0),.val (.slice none 0 0)]),(5,.cells 27 (s.enc.map .val))] m h}),
  (13,{A:=cK×MH×PH,st:=λ⟨s,m,h⟩=>bS 86 87 [(0,pv cb),(2,.at (.ptr 2 0)),(5,.at (.ptr 5 0))] [(2,.cells 27 [.val (.int .i64 0),.val (.slice none 0 0)]),(5,.cells 27 (s.enc.map .val))] m h}),
  (15,{A:=cK×MH×PH,st:=λ⟨s,m,h⟩=>bS 86 87 [(2,.at (.ptr 2 0)),(5,.at (.ptr 5 0))] [(2,.cells 27 [.val (.int .i64 0),.val (.slice none 0 0)]),(5,.cells 27 (s.enc.map .val))] m h})] [] [25] [] false
def wC(id:Int):List Bi:=
 [⟨⟨⟨[112,114,111,106,101,99,116,115]⟩⟩,[⟨⟨⟨[105,100]⟩⟩,4⟩,⟨⟨⟨[111,119,110,101,114]⟩⟩,4⟩],1,[],[]⟩,
  ⟨⟨⟨[116,97,115,107,115]⟩⟩,[⟨⟨⟨[105,100]⟩⟩,id⟩,⟨⟨⟨[112,114,111,106,101,99,116]⟩⟩,4⟩,⟨⟨⟨[116,105,116,108,101]⟩⟩,5⟩,⟨⟨⟨[100,111,110,101]⟩⟩,3⟩],1,[],[]⟩,
  ⟨⟨⟨[109,101,109,98,101,114,115]⟩⟩,[⟨⟨⟨[112,114,111,106,101,99,116]⟩⟩,4⟩,⟨⟨⟨[112,101,114,115,111,110]⟩⟩,4⟩],2,[],[]⟩,
  ⟨⟨⟨[97,114,99,104,105,118,101,100]⟩⟩,[⟨⟨⟨[116,97,115,107]⟩⟩,id⟩],1,[],[]⟩]
structure PT(h:PH)(t:Bi)(w:dE):Prop where
 name_:w.name=t.name
 key_:w.key=t.key
 cols_:Hv h w.columns t.columns
def ayQ(h:PH)(id:Int)(ws:List dE):=ws.length=4/\∀(i:Nat) t,(wC id)[i]? =some t->∃w,ws[i]? =some w/\PT h t w
structure ER(m0:MH)(h0:PH)(cb:Nat)(tb n:Nat)(id:Int)(ws:List dE)(s:cK)(m:MH)(h:PH):Prop where
 le_:PH.le h0 h
 ver0:0<=s.version
 ver1:s.version<=2
 case_:bE m h cb
 n2:2<=n
 n4:n<=4
 sl_:∃cap,s.tables=⟨some ⟨tb,0,none⟩,n,cap⟩/\n<=cap
 id_:id=4\/id=5
 new_:m0 tb=none
 ne_:tb≠cb
 row_:Ct m tb ws
 ws_:ayQ h id ws
 other_:∀b,b≠cb->b≠tb->m b=m0 b
def aQQ:Vc.Spec:=λc m h K=>∃cb,c=[cP cb]/\bE m h cb/\∀d n id e s m' h',ER m h cb d n id e s m' h'->K (aS s) m' h'
noncomputable def cSJ:=
 vO [(32,aQQ)] [(3,{A:=Nat×cK×MH×PH,st:=λ⟨i,s,m,h⟩=>bS 25 26 [(2,.at (.ptr 2 0)),(3,.at (.ptr 3 0)),(9,iv s.tables.len),(10,iv i)] [(2,.cells 27 [.val (.int .i64 0),.val (.slice none 0 0)]),(3,.cells 27 (s.enc.map .val))] m h})] [] [] [25] [] false
def Nl v t m h K:=
  aZ t 0 (K Dn m h) (gQ t (kI v) (K Dn m h) (Pq v 0 t m h (λb=>b) (λo=>o) 1 (λy=>y) (λy I x=>aA (I x) (eL 32) (aA (aY y (p9 x)) (bZ y (p9 x)) (aA (bA x.1) (tN (tY x)) (aA (m=m) (h=h) True)))) (λI d x=>Pp (I x) x 0 (λb o y=>aL m h b (bK o x.1 2) (tI y.name y.kind)) (λy c=>aA (I c) (d c<d x) (aA (eL 32) (aY (p9 x) (p9 c)) (aA (bZ (p9 x) (p9 c)) (fU (bC x.1 1)=bP c.1) (aA (uZ (tY x) y.kind (tY c)) (m=m) (bQ h h))))) (Gj h (tY x) K m))))
theorem crX v t m h K:Nl v t m h K=(yC (VT m h) Tryz.f45 (dQ Tryz.f45) (entry Tryz.f45.ntmps [aS v,cI t] m h) K):=bh
noncomputable abbrev EY:=j9 gV Ht
abbrev yL:=eQ (oQ 27 EY)
abbrev CS(a:ByteArray)(b:Int)(c:ByteArray)(d:Int)(e:ByteArray->Int->Prop):=cA (lL a) b=cA (lL c) d/\∃(x:ByteArray)(f:Int),e x f
noncomputable abbrev LM:=ByteArray.mk (Array.mk (dX 105 (dX 100 [])))
noncomputable abbrev Lq:=ByteArray.mk (Array.mk (dX 112 (dX 114 (dX 111 (dX 106 (dX 101 (dX 99 (zC 116))))))))
noncomputable abbrev PB a b:=ByteArray.mk (Array.mk (dX 116 (dX a (dX 115 (dX 107 b)))))
noncomputable abbrev lU(a:cK×MH×PH):=a.2.2
abbrev K9(a:Int×cK×MH×PH->Prop)(b:Nat)(c:Int)(d:(Int×cK×MH×PH)->Prop)(e:MH)(g:Nat->Nat->Option Value):=∃(x:Int×cK×MH×PH),aA (a x) (dL b) (aA eD (dV c x.1) (aA dU yL (aA (d x) (cN e x.2.2) (bQ g (lU x.2)))))
noncomputable abbrev Cm a b c:=At.val (Value.slice a b c)
noncomputable abbrev Ag(a:Int×cK×MH×PH):=a.2.1
abbrev tO a b:=oQ 27 (M4 a)=oQ 27 (M4 b)
attribute [push_cast] EY yL CS LM Lq PB lU K9 Cm Ag tO
def X7(cb:Nat)(m:MH)(h:PH)(K:da):=
  kB cb 3 m h (λk O=>∃(I:Int×Int×MH×PH->Prop),pC cb 5 O h (λc r=>∀(E:MH),bT O E c->bE E h c->branch r (∃(x:Int×Int×MH×PH),aA (I x) (dL cb) (aA eD (dV (kE (2+k)) x.1) (aA (dV 5 x.2.1) yL (aA (cN E x.2.2) (h=x.2.2.2) True)))) (∃(x:Int×Int×MH×PH),aA (I x) (dL cb) (aA eD (dV (kE (2+k)) x.1) (aA (dV 4 x.2.1) yL (aA (cN E x.2.2) (h=x.2.2.2) True)))))/\∀(x:Int×Int×MH×PH),I x->kB cb 3 x.2.2.1 x.2.2.2 (λP E=>∃(n:ByteArray)(Q:Int),CS LM 4 n Q (λR S=>CS (ByteArray.mk (Array.mk (dX 111 (dX 119 (dX 110 (dX 101 (zC 114))))))) 4 R S (λT U=>CS LM x.2.1 T U (λV W=>CS Lq 4 V W (λX Y=>CS (ByteArray.mk (Array.mk (dX 116 (dX
 105 (dX 116 (dX 108 (zC 101))))))) 5 X Y (λZ k7=>CS (ByteArray.mk (Array.mk (dX 100 (dX 111 (dX 110 (dX 101 [])))))) 3 Z k7 (λn6 k8=>CS Lq 4 n6 k8 (λn7 k9=>CS (ByteArray.mk (Array.mk (dX 112 (dX 101 (dX 114 (dX 115 (dX 111 (dX 110 [])))))))) 4 n7 k9 (λn8 a=>cA (lL (PB 97 [])) x.2.1=cA (lL n8) a/\bN x.2.2.2 2 (sN (tI n Q) (tI R S)) (λs h1=>bN h1 2 (tI T U::tI V W::sN (tI X Y) (tI Z k7)) (λs1 h2=>bN h2 2 (sN (tI n6 k8) (tI n7 k9)) (λs2 h3=>bN h3 2 (lI (tI n8 a)) (λs3 F=>qC (λD H=>sX E H F D 73 5 (aU (Value.string (ByteArray.mk (Array.mk (dX 112 (dX 114 (dX 111 (dX 106 (dX 101 (dX 99 (dX 116 (dX 115 []))))))))))) (gP s)
 (aU (eH 1) rU j5)::aU (Value.string (PB 97 (zC 115))) (gP s1) (aU (eH 1) rU j5)::sN (aU (Value.string (ByteArray.mk (Array.mk (dX 109 (dX 101 (dX 109 (dX 98 (dX 101 (dX 114 (zC 115)))))))))) (gP s2) (aU (eH 2) rU j5)) (aU (Value.string (ByteArray.mk (Array.mk (dX 97 (dX 114 (dX 99 (dX 104 (dX 105 (dX 118 (dX 101 (dX 100 []))))))))))) (gP s3) (aU (eH 1) rU j5)))->aA (cF x.1) (Da x.1 D) (∃(I1:Int×cK×MH×PH->Prop),pC cb 2 H F (λc r=>∀(g:MH),bT H g c->bE g F c->branch r (bN F 1 (lI (bM 1)) (λA y=>bF (λb o=>aH (aM D.a b o) ((0:Int)<=1) (1<(↑x.1.toNat:Int)) (bN y 2 (lI (lE (gP A) dD)) (λB C=>uY g b (o+5+3) (bH B) (λz=>K9 I1 cb x.1
 (λj=>oQ 27 (j9 (mD P) (Cm D.a x.1.toNat D.cap))=oQ 27 (M4 (Ag j))) z C)))))) (K9 I1 cb x.1 (λj=>oQ 27 (j9 (mD P) (Cm D.a x.1.toNat D.cap))=oQ 27 (M4 (Ag j))) g F))/\∀(j:Int×cK×MH×PH),I1 j->∃(I2:Int×cK×MH×PH->Prop),fX j.1 2 (pC cb 3 j.2.2.1 (lU j.2) (λc r=>∀(g:MH),bT j.2.2.1 g c->bE g (lU j.2) c->branch r (bN (lU j.2) 1 (lI CZ) (λA y=>ID (Ag j) 2 (λb o=>bN y 2 (lI (lE (gP A) dD)) (λB C=>uY g b (o+10+3) (bH B) (λz=>K9 I2 cb j.1 (λf=>tO (Ag j) (Ag f)) z C))))) (K9 I2 cb j.1 (λf=>tO (Ag j) (Ag f)) g (lU j.2)))) (∃(f:Int×cK×MH×PH),aA (I2 f) (dL cb) (aA eD (dV j.1 f.1) (aA dU
 yL (aA (tO (Ag j) (Ag f)) (cN j.2.2.1 f.2.2) (bQ (lU j.2) (lU f.2))))))/\∀(f:Int×cK×MH×PH),I2 f->∃(I3:cK×MH×PH->Prop),fX f.1 3 (pC cb 3 f.2.2.1 (lU f.2) (λc r=>∀(g:MH),bT f.2.2.1 g c->bE g (lU f.2) c->branch r (bN (lU f.2) 1 (lI CZ) (λA y=>ID (Ag f) 3 (λb o=>bN y 2 (lI (lE (gP A) (eH 1))) (λB C=>uY g b (o+15+3) (bH B) (λz=>∃(e:cK×MH×PH),aA (I3 e) (dL cb) (aA eD dU (aA yL (tO (Ag f) e.1) (aA (cN z e.2) (C=lU e) True)))))))) (∃(e:cK×MH×PH),aA (I3 e) (dL cb) (aA eD dU (aA yL (tO (Ag f) e.1) (aA (cN g e.2) (lU f.2=lU e) True)))))) (∃(e:cK×MH×PH),aA (I3 e)
 (dL cb) (aA eD dU (aA yL (tO (Ag f) e.1) (aA (cN f.2.2.1 e.2) (lU f.2=lU e) True))))/\∀(e:cK×MH×PH),I3 e->∃(I4:cK×MH×PH->Prop),pC cb 3 e.2.1 (lU e) (λc r=>∀(g:MH),bT e.2.1 g c->bE g (lU e) c->branch r (∃(v:Int),bF (λt n9=>∃(c1:Nat)(w:List dE)(w1:dE)(J:List rG)(L:Nat),aA (cA (cL e.1) 1=cA (qK (lE (eH v) (Value.slice (pB t) n9 c1))) (↑L:Int)) (L<n9) (aA (Ct g t w) (w[L]? =Option.some w1) (aA (Hv (lU e) w1.columns J) (J.length<=8) (fB (λA y=>bY (lU e) y (Ints y A (List.map rG.kind J)) (∃(G:Nat),gL (λB t2=>tC (λM p=>∃(d:Nat),aA (iA cb (cM A::cA Dn 1)=iA G (cM B::cA (cM t2) (↑d:Int))) (bE g y G) (aA
 (Ints y B M) (Ints y t2 p) (aH (gC M) (gC p) (oV d) (De y (λv1 p1 z C=>Cx M p d p1->bT g z G->qB z C G (ID e.1 1 (λb o=>bN C 13 (lI v1.enc) (λs7 h7=>uY z b (o+5+4) (bH s7) (λm6=>∃(u:cK×MH×PH),aA (I4 u) eD (aA dU yL (aH (tO e.1 u.1) (cN m6 u.2) (h7=lU u) True))))))))))))))))))) (∃(u:cK×MH×PH),aA (I4 u) eD (aA dU yL (aH (tO e.1 u.1) (cN g u.2) (lU e=lU u) True))))/\∀(u:cK×MH×PH),I4 u->K (cL u.1) u.2.1 (lU u)))))))))))))))))
def VS(cb:Nat)(m:MH)(h:PH)(K:da):=
  ∃(c:Nat),aA (pN (dM cb)=pN (dM c)) (bE m h c) (∀(t n:Nat)(i:Int)(w:List dE)(s:cK),iG (λe f=>ER m h c t n i w s e f->∃(I:Nat×cK×MH×PH->Prop)(g:Nat×cK×MH×PH->Nat),(∃(x:Nat×cK×MH×PH),aA (I x) eD (aA cH (bZ s.tables x.2.1.tables) (aA (bA x.1) yL (aA (tO s x.2.1) (cN e x.2.2) (bQ f (lU x.2))))))/\∀(x:Nat×cK×MH×PH),I x->aZ (↑x.1:Int) (aG x.2.1.tables) (bF (λb o=>aH (aM (Ai x.2.1) b o) (0<=(↑x.1:Int)) ((↑x.1:Int)<aG x.2.1.tables) (uY x.2.2.1 b (bK o x.1 5+3) j5 (λy=>bF (λj u=>aH (aM (Ai x.2.1) j u) (0<=(↑x.1:Int)) ((↑x.1:Int)<aG x.2.1.tables) (uY y j (bK u x.1 5+4) j5 (λz=>∃(d:Nat×cK×MH×PH),aA (I d) (g d<g
 x) (aA eD cH (aA (bZ x.2.1.tables d.2.1.tables) (fU (bC x.1 1)=bP d.1) (aA yL (tO x.2.1 d.2.1) (bO (cN z d.2.2) (lU x.2) (lU d.2)))))))))))) (K (cL x.2.1) x.2.2.1 (lU x.2))))
theorem Qc{α}(l:List α) o x(h:o<l.length):splice l o [x]=l.set o x:=by
 rw[set_eq_take_append_cons_drop,if_pos h];simp[splice]
theorem flatten_set:∀(ws:List dE){i k:Nat}{w w':dE}{x:Value},ws[i]? =some w->k<5->w'.enc=w.enc.set k x->((ws.map dE.enc).flatten).set (i*5+k) x=((ws.set i w').map dE.enc).flatten
 |[],i,k,w,w',x,h,_,_=>by simp at h
 |u::ws,0,k,w,w',x,h,c,e=>by
  simp at h;subst h;simp only[map_cons,flatten_cons,set_cons_zero,Nat.zero_mul,Nat.zero_add,e];rw[set_append_left _ _ (by simpa[dE.enc]using c)]
 |u::ws,i+1,k,w,w',x,h,c,e=>by
  simp only[map_cons,flatten_cons,set_cons_succ];have d:u.enc.length=5:=rfl;rw[set_append_right _ _ aD,d,show(i+1)*5+k-5=i*5+k by omega,flatten_set ws (bx h) c e]
theorem bDQ(ws:List dE):((ws.map dE.enc).flatten).length=ws.length*5:=by
 induction ws with
 |nil=>rfl
 |cons w ws c=>simp only[map_cons,flatten_cons,cg,c,cu];show 5+_=_;omega
theorem Ct.big{d ws cs E e}(h:Ct m d ws)(c:m d=some (.cells cs E e)):ws.length*5<=cs.size:=by
 obtain⟨f,g,j⟩:=h.ex;rw[g]at c;simp only[ck,Obj.cells.injEq]at c;obtain⟨rfl,_,_⟩:=c;have:=congrArg List.length j;rw[bDQ]at this
 grind
theorem Ct.store{c:Nat}{ws k w w' x}(h:Ct m c ws)(f:ws[i]? =some w)(g:k<5)(e:w'.enc=w.enc.set k x){cs E j}(d:m c=some (.cells cs E j))(n:m' c=some (.cells (splice cs.toList (i*5+k) [x]).toArray E (0,0))):Ct m' c (ws.set i w'):=by
 have z:=h.big d;have o:=(bz f);obtain⟨t,u,y⟩:=h.ex;rw[u]at d;simp only[ck,Obj.cells.injEq]at d;obtain⟨rfl,rfl,_⟩:=d;refine⟨_,n,?_⟩;rw[Qc _ _ _ bn,length_set,toList_toArray,take_set,y];exact flatten_set ws f g e
theorem Ct.rd{d ws}(r:Ct m d ws){j w x}(f:ws[i]? =some w)(g:w.enc[j]? =some x):aL m h d (i*5+j) [x]:=by
 obtain⟨n,o,t⟩:=r.ex;refine .of_m o ?_;have c:=oO (xs:=ws.map dE.enc) (sz:=5) (λe u=>by obtain⟨x,_,rfl⟩:=mem_map.1 u;rfl) (by rw[getElem?_map,f];rfl) j x g;rw[<-t,getElem?_take]at c;split at c
 .rw[drop_cons c];rfl
 .cases c
theorem crZ{g j n u ws w cols t}(H:t<n)(B:Ct m j ws)(C:ws[t]? =some w)(z:Hv h w.columns cols)(I:cols.length<=8)(D:∀sl h',PH.le h h'->Ints h' sl (cols.map rG.kind)->K (cS sl) m h'):Nl ⟨g,⟨some ⟨j,0,none⟩,n,u⟩⟩ t m h K:=by
 dsimp only[Nl,push_cast];have x:=bI.slen z;refine aF (λE=>by omega) (λE=>aF (λF=>bo) (λF=>?_));refine⟨j,0,rfl,aD,aD,w.columns,?_,λ⟨i,sl,l⟩=>sl=w.columns/\i<=cols.length/\l=(cols.take i).map rG.kind,λ⟨i,_,_⟩=>cols.length-i,⟨(0,w.columns,[]),⟨rfl,bi,bi⟩,MT⟩,?_⟩
 .rw[Nat.zero_add,Int.toNat_natCast];exact B.rd C rfl
 rintro⟨i,_,_⟩ ⟨rfl,J,rfl⟩;dsimp only;refine aF (λf=>?_) (λG sl h' y d=>?_)
 .obtain⟨c,A⟩:=dW x f;obtain⟨b,o,e,r⟩:=Hv.at z A;refine⟨b,o,e,aD,f,c,.imm r,?_,?_,(i+1,w.columns,(cols.take (i+1)).map rG.kind),⟨rfl,aD,rfl⟩,aD,?_⟩
  .simp;omega
  .simp;omega
  .rw[jK A,cj];exact MT
 .rw[ci aD]at d;exact D sl h' y ⟨d,bn⟩
theorem ZX:cz 45 aTQ:=by
 refine eG (fn:=Tryz.f45) (c:=dQ Tryz.f45) func45 rfl bj ?_;rintro e m h K ⟨f,A,n,g,B,w,d,t,rfl,j,o,u,x,y,z⟩;refine⟨VT m h,rfl,aI,?_⟩;rw[<-crX];exact crZ j o u x y z
theorem PT.mono{t w}(x:PT h t w)(le:PH.le h h'):PT h' t w:=⟨x.name_,x.key_,bI.mono x.cols_ le λ_ _ e=>e⟩
theorem ayQ.mono{id ws}(x:ayQ h id ws)(le:PH.le h h'):ayQ h' id ws:=⟨x.1,λi t e=>let⟨w,e1,e2⟩:=x.2 i t e;⟨w,e1,e2.mono le⟩⟩
theorem ayQ.set{id ws w w'}(x:ayQ h id ws)(f:ws[i]? =some w)(g:w'.name=w.name)(n:w'.key=w.key)(o:w'.columns=w.columns):ayQ h id (ws.set i w'):=by
 refine⟨by rw[length_set];exact x.1,λj t e=>?_⟩;obtain⟨u,d,c⟩:=x.2 j t e;by_cases y:i=j
 .subst y;rw[f]at d;cases d;exact⟨w',bo,⟨by rw[g];exact c.name_,by rw[n];exact c.key_,by rw[o];exact c.cols_⟩⟩
 grind
theorem ER.on{m0 c g d e n id ws s}(x:ER m0 g cb e n id ws s m h)(le:PH.le h d)(j:bT m c cb)(t:bE c d cb):ER m0 g cb e n id ws s c d:=by
 refine⟨x.le_.trans le,x.ver0,x.ver1,t,x.n2,x.n4,x.sl_,x.id_,x.new_,x.ne_,?_,x.ws_.mono le,λb o u=>by rw[j.other b o];exact x.other_ b o u⟩;obtain⟨f,y,z⟩:=x.row_.ex;exact⟨f,by rw[j.other e x.ne_];exact y,z⟩
theorem ER.store{m0:MH}{t:PH}{c n:Nat}{id:Int}{ws:List dE}{s:cK}(x:ER m0 t cb c n id ws s m h){k o w w' y}(d:ws[i]? =some w)(z:k<5)(A:o=i*5+k)(e:w'.enc=w.enc.set k y)(B:w'.name=w.name)(C:w'.key=w.key)(D:w'.columns=w.columns){Q:MH->Prop}(F:∀m2,ER m0 t cb c n id (ws.set i w') s m2 h->Q m2):∃(cs:Array Value)(E:TypeId),Ze m c (.cells cs E (0,0))/\o<cs.size/\∀m2:MH,pO m m2 c (.cells (splice cs.toList o [y]).toArray E (0,0))->Q m2:=by
 obtain⟨f,g,L⟩:=x.row_.ex;have G:=(bz d);refine⟨f,73,⟨g⟩,by have:=x.row_.big g;omega,λm2 j=>F m2 ?_⟩;subst A;refine⟨x.le_,x.ver0,x.ver1,?_,x.n2,x.n4,x.sl_,x.id_,x.new_,x.ne_,x.row_.store d z e g j.at_,x.ws_.set d B C D,λb H u=>by rw[j.other b u];exact x.other_ b H u⟩;obtain⟨r,q,cs,k,I,J⟩:=x.case_;exact⟨r,q,cs,k,by rw[j.other cb x.ne_.symm];exact I,J⟩
theorem JF{h s l}(r:cO h s 2 (l.map rG.enc))(c:l.length<=8):Hv h s l:=⟨⟨l,r,rfl,λi x e=>⟨x,e,rfl⟩⟩,aD⟩
theorem sX.tabs{m m' h s w ws}(x:sX m m' h s 73 5 ((w::ws).map dE.enc)):∃f d,s=⟨some ⟨f,0,none⟩,ws.length+1,d⟩/\ws.length+1<=d/\Ct m' f (w::ws)/\rT m h f/\∀b,b≠f->m' b=m b:=by
 rcases x.row.ex with⟨_,e⟩|⟨b,d,g,e,j,n,_,o,t⟩
 .cases e
 .subst e;refine⟨b,d,bi,bo,⟨g,j,bo⟩,x.fresh b 0 rfl,λc u=>x.other c (λi e=>bo)⟩
theorem bfX:cz 32 aQQ:=by
 refine gW func32 ?_;rintro a6 m h K ⟨cb,rfl,hc,hK⟩;refine⟨ctZ cb,rfl,aE O0 (aE FB (aE bbZ (aE ZX (aE No aI)))),X7 cb m h K,bh,?_⟩;dsimp only[X7,push_cast];refine⟨cb,3,rfl,hc,λk m1 k0 k1 R c1=>?_⟩;have a':IntKind.i64.wrap (2+k)=2+k:=eM aD aD;rw[a'];refine⟨λ⟨n,id,D,I⟩=>2<=n/\n<=4/\(id=4\/id=5)/\I=h/\bT m D cb/\bE D h cb,⟨cb,5,rfl,aD,aD,c1,λr m2 o2 c2=>aC (λ_=>⟨(2+k,5,m2,h),⟨aD,aD,.inr rfl,rfl,R.trans o2,c2⟩,MT⟩) (λ_=>⟨(2+k,4,m2,h),⟨aD,aD,.inl rfl,rfl,R.trans o2,c2⟩,MT⟩)⟩,?_⟩;clear R c1 m1 a' k0 k1 k;rintro⟨n,id,m1,I⟩ ⟨n2,n4,a3,rfl,R,c1⟩;dsimp only;refine⟨cb,3,rfl,c1,λk m2 k0 k1 o2 c2=>?_⟩;refine⟨_,_,rfl,_,_,rfl,_,_,rfl,_,_,rfl,_,_,rfl,_,_,rfl,_,_,rfl,_,_,rfl,_,_,rfl,λs1 h1 a0 r1 s2 h2 S r2 s3 h3 E r3 s4 h4 y r4 tl m3 J=>?_⟩;obtain⟨d,f,rfl,L,M,T,O⟩:=sX.tabs (w:=⟨_,s1,1,cG,cG⟩) (ws:=[⟨_,s2,1,cG,cG⟩,⟨_,s3,2,cG,cG⟩,⟨_,s4,1,cG,cG⟩]) J;simp only[cu,length_nil]at L;have U:PH.le I h4:=((a0.trans S).trans E).trans y
 have z:d≠cb:=λe=>by
  obtain⟨r,q,cs,j,q1,_⟩:=c2;have:=T.m_
  grind
 have a1:m d=none:=by rw[<-R.other d z, <-o2.other d z];exact T.m_
 have c3:bE m3 h4 cb:=by
  obtain⟨r,q,cs,j,q1,q2,q3⟩:=c2;exact⟨r,q,cs,j,bo,q2.mono U,q3⟩
 have S0:ER m I cb d n.toNat id _ ⟨k,⟨some ⟨d,0,none⟩,n.toNat,f⟩⟩ m3 h4:=⟨U,k0,bo,c3,aD,aD,⟨f,rfl,aD⟩,a3,a1,z,M,⟨rfl,λi t e=>?_⟩,λb n1 n2=>by rw[O b n2,o2.other b n1,R.other b n1]⟩
 rotate_left
 .match i,e with
  |0,e=>cases e;exact⟨_,rfl,⟨rfl,rfl,JF (l:=[⟨_,_⟩,⟨_,_⟩]) (r1.mono ((S.trans E).trans y)) bj⟩⟩
  |1,e=>cases e;exact⟨_,rfl,⟨rfl,rfl,JF (l:=[⟨_,_⟩,⟨_,_⟩,⟨_,_⟩,⟨_,_⟩]) (r2.mono (E.trans y)) bi⟩⟩
  |2,e=>cases e;exact⟨_,rfl,⟨rfl,rfl,JF (l:=[⟨_,_⟩,⟨_,_⟩]) (r3.mono y) bj⟩⟩
  |3,e=>cases e;exact⟨_,rfl,⟨rfl,rfl,JF (l:=[⟨_,_⟩]) r4 bi⟩⟩
  |i+4,e=>simp[wC]at e
 generalize a4:(dE.mk _ s1 1 cG cG::_)=a7 at S0;clear a4 M J r1 r2 r3 r4;have A:∀{ws:List dE}{i:Nat},ws.length=4->i<4->∃w,ws[i]? =some w:=λhl hi=>⟨_,cd aD⟩
 refine⟨aD,bo,λ⟨V,s,D,W⟩=>V=n/\∃ws,ER m I cb d n.toNat id ws s D W,⟨cb,2,rfl,aD,aD,c3,λr X o4 c4=>aC (λ_ s5 F a2 r5=>⟨d,0,rfl,aD,aD,λs6 h6 B r6=>?_⟩) (λ_=>⟨(n,⟨k,⟨some ⟨d,0,none⟩,n.toNat,f⟩⟩,X,h4),⟨rfl,_,S0.on (.refl _) o4 c4⟩,MT⟩)⟩,?_⟩
 .obtain⟨w,P⟩:=A (i:=1) S0.ws_.1 aD;exact(S0.on (a2.trans B) o4 (c4.mono (a2.trans B))).store (k:=3) (w':={w with references:=s6}) P aD rfl rfl rfl rfl rfl λx Y=>⟨(n,⟨k,⟨some ⟨d,0,none⟩,n.toNat,f⟩⟩,x,h6),⟨rfl,_,Y⟩,MT⟩
 clear S0 c3 O T a1 L U a0 S E y R o2 c1 c2;rintro⟨V,s,X,F⟩ ⟨rfl,ws,S0⟩;dsimp only;obtain⟨f,c,_⟩:=S0.sl_;have o:s.tables.a=some ⟨d,0,none⟩:=by rw[c]
 have G:s.tables.len=V.toNat:=by rw[c]
 refine⟨λ⟨n,s,D,W⟩=>n=V/\∃ws,ER m I cb d n.toNat id ws s D W,aF (λhn=>⟨cb,3,rfl,aD,aD,S0.case_,λr x Q H=>aC (λ_ s7 h7 u r7=>⟨d,0,o,aD,aD,λs8 h8 g r8=>?_⟩) (λ_=>⟨(V,s,x,F),⟨rfl,_,S0.on (.refl _) Q H⟩,MT⟩)⟩) (λ_=>⟨(V,s,X,F),⟨rfl,_,S0⟩,MT⟩),?_⟩
 .obtain⟨w,P⟩:=A (i:=2) S0.ws_.1 aD;exact(S0.on (u.trans g) Q (H.mono (u.trans g))).store (k:=3) (w':={w with references:=s8}) P aD rfl rfl rfl rfl rfl λx Y=>⟨(V,s,x,h8),⟨rfl,_,Y⟩,MT⟩
 clear S0 o G c;rintro⟨C,s,X,F⟩ ⟨rfl,ws,S0⟩;dsimp only;obtain⟨f,c,_⟩:=S0.sl_;have o:s.tables.a=some ⟨d,0,none⟩:=by rw[c]
 have G:s.tables.len=C.toNat:=by rw[c]
 refine⟨λ⟨s,D,W⟩=>∃ws,ER m I cb d C.toNat id ws s D W,aF (λhn=>⟨cb,3,rfl,aD,aD,S0.case_,λr x Q H=>aC (λ_ s7 h7 u r7=>⟨d,0,o,aD,aD,λs8 h8 g r8=>?_⟩) (λ_=>⟨(s,x,F),⟨_,S0.on (.refl _) Q H⟩,MT⟩)⟩) (λ_=>⟨(s,X,F),⟨_,S0⟩,MT⟩),?_⟩
 .obtain⟨w,P⟩:=A (i:=3) S0.ws_.1 aD;exact(S0.on (u.trans g) Q (H.mono (u.trans g))).store (k:=3) (w':={w with references:=s8}) P aD rfl rfl rfl rfl rfl λx Y=>⟨(s,x,h8),⟨_,Y⟩,MT⟩
 clear S0 o G c;rintro⟨s,X,F⟩ ⟨ws,S0⟩;dsimp only;obtain⟨f,c,_⟩:=S0.sl_;have o:s.tables.a=some ⟨d,0,none⟩:=by rw[c]
 have G:s.tables.len=C.toNat:=by rw[c]
 refine⟨λ⟨s,D,W⟩=>∃ws,ER m I cb d C.toNat id ws s D W,⟨cb,3,rfl,aD,aD,S0.case_,λr x Q H=>aC (λ_=>?_) (λ_=>⟨(s,x,F),⟨_,S0.on (.refl _) Q H⟩,MT⟩)⟩,λ⟨s,X,F⟩⟨ws,S0⟩=>hK _ _ _ _ _ _ _ S0⟩;have S1:=S0.on (.refl _) Q H;obtain⟨w,P,Z⟩:=S1.ws_.2 1 _ rfl;refine⟨s.version,d,C.toNat,f,ws,w,_,1,by rw[c];rfl,aD,S1.row_,P,Z.cols_,bi,λsl h6 B a5=>?_⟩;refine⟨cb,sl,cG,_,[],1,rfl,H.mono B,a5,⟨cO.nil _ _,bi⟩,bi,bi,aD,λa8 p m6 h7 u hp a9 o6 c6=>⟨d,0,o,aD,aD,λs8 h8 g r8=>?_⟩⟩;exact(S1.on ((B.trans u).trans g) o6 (c6.mono g)).store (k:=4) (w':={w with checks:=s8}) P aD rfl rfl rfl rfl rfl λx Y=>⟨(s,x,h8),⟨_,Y⟩,MT⟩
structure oZ(s:jC):Prop where
 ex:∃ver n id,0<=ver/\ver<=2/\2<=n/\n<=4/\(id=4\/id=5)/\s=⟨ver,(wC id).take n⟩
def b4J:Vc.Spec:=λc m h K=>∃cb,c=[cP cb]/\bE m h cb/\∀s v m' h',oZ s->iC h' s v->PH.le h h'->bT m m' cb->bE m' h' cb->K (aS v) m' h'
theorem bEX:cz 9 b4J:=by
 refine VN func9 ?_;rintro W m h K ⟨cb,rfl,X,Y⟩;refine⟨cSJ,rfl,aE bfX aI,VS cb m h (fV h K),bh,?_⟩;show VS cb m h (fV h K);dsimp only[VS,push_cast];refine⟨cb,rfl,X,λd n id y s I J S1=>?_⟩;refine⟨λ⟨i,z,Z,A⟩=>z=s/\A=J/\i<=n/\∃y,ER m h cb d n id y s Z J/\∀j w,j<i->y[j]? =some w->w.references=cG/\w.checks=cG,λ⟨i,_,_,_⟩=>n-i,⟨(0,s,I,J),⟨rfl,rfl,aD,y,S1,λj w L=>by omega⟩,MT⟩,?_⟩;clear S1 y I;rintro⟨i,z,I,A⟩ ⟨rfl,rfl,C,y,S1,D⟩;dsimp only;obtain⟨a',E,M⟩:=S1.sl_;have B:z.tables.a=some ⟨d,0,none⟩:=by rw[E]
 have a0:z.tables.len=n:=by rw[E]
 have O:=S1.n4;refine aF (λF=>⟨d,0,B,aD,F,?_⟩) (λa1 f=>?_)
 .obtain⟨w,U⟩:∃w,y[i]? =some w:=⟨_,cd (by have:=S1.ws_.1;omega)⟩
  refine S1.store (i:=i) (k:=3) (w':={w with references:=cG}) U aD aD rfl rfl rfl rfl λm2 S2=>⟨d,0,B,aD,F,?_⟩
  have P:=(bz U);have Q:(y.set i {w with references:=cG})[i]? =some {w with references:=cG}:=getElem?_set_self P;refine S2.store (i:=i) (k:=4) (w':={w with references:=cG,checks:=cG}) Q aD aD rfl rfl rfl rfl λm3 S3=>⟨(i+1,z,m3,A),⟨rfl,rfl,aD,_,S3,λj u L hu=>?_⟩,aD,MT⟩
  grind
 .have f:=f;obtain⟨G,H,R⟩:=S1.row_.ex;have a2:∀i,A d i=none:=f d _ H
  have c:PH.le A (λx i=>if x=d then G[i]? else A x i):=⟨λx i v e=>by
   grind⟩
  refine⟨λb=>if b=d then none else I b,λx i=>if x=d then G[i]? else A x i,λb o e=>?_,S1.le_.trans c,λx i v e=>?_,Y ⟨z.version,(wC id).take n⟩ z _ _ ⟨⟨_,_,_,S1.ver0,S1.ver1,S1.n2,S1.n4,S1.id_,rfl⟩⟩ ⟨rfl,?_⟩ (S1.le_.trans c) ⟨λb hb=>?_⟩ ?_⟩
  .grind
  .grind
  .have V:=S1.ws_.1;have O:=S1.n4;refine⟨⟨y.take n,⟨bo,.inr ⟨d,0,B,λi e C=>⟨λj v L=>?_⟩⟩,bo⟩,by simp[wC];omega,λi t e=>?_⟩,bo⟩
   .rw[map_take,getElem?_take]at C;split at C
    .have J:=oO (xs:=y.map dE.enc) (sz:=5) (λe he=>by obtain⟨x,_,rfl⟩:=mem_map.1 he;rfl) C j v L
     grind
    .cases C
   .rw[getElem?_take]at e;split at e
    .rename_i a3;obtain⟨w,e1,e2⟩:=S1.ws_.2 i t e;obtain⟨z1,z2⟩:=D i w aD e1;have S:=e2.mono c
     have g:t.refs=[]/\t.checks=[]:=by
      match i,e with
      |0,e=>cases e;grind
      |1,e=>cases e;grind
      |2,e=>cases e;grind
      |3,e=>cases e;grind
      |i+4,e=>omega
     refine⟨w,bo,⟨S.name_,S.cols_,S.key_,by rw[z1,g.1];exact bI.nil _ _ _ _,by rw[z2,g.2];exact bI.nil _ _ _ _⟩⟩
    .cases e
  .by_cases T:b=d
   .subst T;simp[S1.new_]
   .simp[T];exact S1.other_ b hb T
  .obtain⟨r,q,cs,k,q1,q2,q3⟩:=S1.case_;exact⟨r,q,cs,k,bo,q2.mono c,q3⟩
def QW(q:Query):Prop:=
 match q with
 |.mk _ _ w _ _ _ _ _ args=>ES w/\∀a∈args,QW a
 termination_by SizeOf.sizeOf q
theorem MU{op w on args}:
 QW (.mk op ta w co on gr od li args)↔ES w/\∀a∈args,QW a:=by rw[QW.eq_def]
def c2J s:=∀t,O6 (jR s t)
structure b2Q(s:jC)(ps ks:db)(q0 q:Query):Prop where
 qw:QW q
 siz:∀d,D5 d q0->Wr d q
 kin:c2J s->O6 ps->O6 ks->ks≠[]->ks.length<=12->aK s ps q0=(ks,0)->aK s ps q=(ks,0)
def KQ(K:da)(m:MH)(h:PH)(cb:Nat)(R:Query->Prop):=∀w q m' h',PH.le h h'->cY h' q w->R q->bT m m' cb->bE m' h' cb->K (aQ w) m' h'
def aPJ:=λc m h K=>∃cb sc p k v s ps ks q,c=[cP cb,aS sc,cS p,cS k,aQ v]/\bE m h cb/\iC h s sc/\nY s/\s.tables.length<=1000/\Ints h p ps/\ps.length<=1000/\Ints h k ks/\ks.length<=1000/\cY h q v/\QW q/\KQ K m h cb (b2Q s ps ks q)
noncomputable def ctQ(cb:Nat)(sc:cK)(p k:Sl)(v:QV):=
 cZ [(19,N1),(45,yG),(33,b2J),(25,U4),(27,Ha)] [(3,{A:=Int×Nat×MH×PH,st:=λ⟨f,n,m,h⟩=>bS 112 117 [(0,pv cb),(2,sv p),(3,sv k),(6,.at (.ptr 6 0)),(9,.at (.ptr 9 0)),(10,.at (.ptr 10 0)),(11,iv f),(12,iv n)] [(6,.cells 27 (sc.enc.map .val)),(9,.cells 41 (v.enc.map .val)),(10,.cells 41 (zY.enc.map .val))] m h}),
  (9,{A:=Int×Nat×Int×Sl×db×Nat×MH×PH,st:=λ⟨f,n,t,c,d,i,m,h⟩=>bS 112 117 [(0,pv cb),(2,sv p),(3,sv k),(6,.at (.ptr 6 0)),(9,.at (.ptr 9 0)),(10,.at (.ptr 10 0)),(11,iv f),(12,iv n),(13,iv t),(14,sv c),(15,.at (.lst 75)),(45,sv k),(46,iv k.len),(47,iv i)] [(6,.cells 27 (sc.enc.map .val)),(9,.cells 41 (v.enc.map .val)),(10,.cells 41 (zY.enc.map .val)),(75,.lst 3 1 (d.map eI))] m h}),
  (13,{A:=Int×Nat×Int×Sl×db×Nat×Int×Int×Nat×MH×PH,st:=λ⟨f,n,t,c,d,i,e,g,j,m,h⟩=>bS 112 117 [(0,pv cb),(2,sv p),(3,sv k),(6,.at (.ptr 6 0)),(9,.at (.ptr 9 0)),(10,.at (.ptr 10 0)),(11,iv f),(12,iv n),(13,iv t),(14,sv c),(15,.at (.lst 75)),(17,iv e),(18,iv g),(45,sv k),(46,iv k.len),(47,iv i),(56,iv c.len),(57,iv j)] [(6,.cells 27 (sc.enc.map .val)),(9,.cells 41 (v.enc.map .val)),(10,.cells 41 (zY.enc.map .val)),(75,.lst 3 1 (d.map eI))] m h})] [] [] false
abbrev oB:=eP 10
noncomputable abbrev CT(a:Int×Nat×Int×Sl×db×Nat×MH×PH):=a.2.2.2.1
noncomputable abbrev tL(a:Int×Nat×Int×Sl×db×Nat×MH×PH):=a.2.2.2.2.2
noncomputable abbrev CU(a:Int×Nat×Int×Sl×db×Nat×MH×PH):=a.2.2.2.2.1
noncomputable abbrev nC a:=jI (tL a)
noncomputable abbrev vF(a:Int×Nat×Int×Sl×db×Nat×Int×Int×Nat×MH×PH):=a.2.2.2.1
noncomputable abbrev LF(a:Int×Nat×Int×Sl×db×Nat×Int×Int×Nat×MH×PH):=a.2.2.2.2.2.2.1
noncomputable abbrev IT(a:Int×Nat×Int×Sl×db×Nat×Int×Int×Nat×MH×PH):=a.2.2.2.2.2.1
noncomputable abbrev pK(a:Int×Nat×Int×Sl×db×Nat×Int×Int×Nat×MH×PH):=a.2.2.2.2.2.2.2.2
noncomputable abbrev GL(a:Int×Nat×Int×Sl×db×Nat×Int×Int×Nat×MH×PH):=a.2.2.2.2.1
noncomputable abbrev LD a:=Int.tmod (kE (a.2.2.2.2.2.2.2.1+(↑(pK a).1:Int))) (aG (vF a))
abbrev IU(a:Prop)(b c d:Nat)(e g:Sl)(i:Prop):=aA a (b<c) (aA (dL d) (aJ e) (aA (aJ g) (eP 6) (aA (eP 9) oB i)))
noncomputable abbrev Px(a:Int)(b:Value)(c:PV)(d:dc):=aU (eH a) b (aU (eH c.op) (eH c.cmp) (aU (i6 c.left) (sQ c.left) (aU (eH (tD c.left)) (mS c.left) d)))
noncomputable abbrev yQ a b:=aU (eH a) dD (aU dD dD (aU dD dD (aU dD dD b)))
attribute [push_cast] oB CT tL CU nC vF LF IT pK GL LD IU Px yQ
def X5(cb:Nat)(sc:cK)(p k:Sl)(v:QV)(m:MH)(h:PH)(K:da):=
  kB cb (kE (kI sc+1)) m h (λV W=>∃(I:Int×Nat×MH×PH->Prop)(M:Int×Nat×MH×PH->Nat),(∃(x:Int×Nat×MH×PH),aA (I x) (dL cb) (aA (aJ p) (aJ k) (aA (eP 6) (eP 9) (aA oB (dV V x.1) (aA (bA x.2.1) (cT sc) (aA (cV v) iV (bO (cN W x.2.2) h (jI x.2))))))))/\∀(x:Int×Nat×MH×PH),I x->aZ (↑x.2.1:Int) (aG sc.tables) (xH (kI sc=0)/\CK (cA (cL sc) (Int.tmod (kE (x.1+(↑x.2.1:Int))) (kI sc))) (jI x.2) (λs E=>∃(I1:Int×Nat×Int×Sl×db×Nat×MH×PH->Prop)(z:Int×Nat×Int×Sl×db×Nat×MH×PH->Nat),(∃(f:Int×Nat×Int×Sl×db×Nat×MH×PH),aA (I1 f) (dL cb) (aA (aJ p) (aJ k) (aA (eP 6) (eP 9) (aA oB (dV x.1 f.1) (aA (bV x.2.1 f.2.1) (dV (Int.tmod
 (kE (x.1+(↑x.2.1:Int))) (kI sc)) f.2.2.1) (aA (aY s (CT f)) (eL 75) (aA (aJ k) (bG k) (aA (bA (tL f).1) (cT sc) (aA (cV v) iV (aA (tN (CU f)) (cN (oD x.2) (tL f).2) (bQ E (nC f))))))))))))/\∀(f:Int×Nat×Int×Sl×db×Nat×MH×PH),I1 f->aZ (↑(tL f).1:Int) (aG k) (bF (λb o=>aH (aM k.a b o) (0<=(↑(tL f).1:Int)) ((↑(tL f).1:Int)<aG k) (∃(y:Int),aL (oD (tL f)) (nC f) b (bK o (tL f).1 1) (bM y)/\kB cb (aG (CT f)) (oD (tL f)) (nC f) (λX D=>∃(I2:Int×Nat×Int×Sl×db×Nat×Int×Int×Nat×MH×PH->Prop)(C:Int×Nat×Int×Sl×db×Nat×Int×Int×Nat×MH×PH->Nat),(∃(e:Int×Nat×Int×Sl×db×Nat×Int×Int×Nat×MH
 ×PH),aA (I2 e) (dL cb) (aA (aJ p) (aJ k) (aA (eP 6) (eP 9) (aA oB (dV f.1 e.1) (aA (bV f.2.1 e.2.1) (dV f.2.2.1 e.2.2.1) (aA (aY (CT f) (vF e)) (eL 75) (aA (dV y (LF e)) (dV X e.2.2.2.2.2.2.2.1) (aA (aJ k) (bG k) (aA (bV (tL f).1 (IT e)) (bZ (CT f) (vF e)) (aA (bA (pK e).1) (cT sc) (aA (cV v) iV (aA (qR (fS (CU f)) (GL e)) (cN D (pK e).2) (bQ (nC f) (jI (pK e)))))))))))))))/\∀(e:Int×Nat×Int×Sl×db×Nat×Int×Int×Nat×MH×PH),I2 e->aZ (↑(pK e).1:Int) (aG (vF e)) (xH (aG (vF e)=0)/\bF (λS T=>aH (aM (vF e).a S T) (0<=LD e) (LD e<aG (vF e)) (∃(U:Int),aL (oD (pK e))
 (jI (pK e)) S (fF T (LD e) 1) (bM U)/\dO U (LF e) (tT (fS (GL e)) 8 (∃(g:Int×Nat×Int×Sl×db×Nat×MH×PH),IU (I1 g) (z g) (z f) cb p k (aA (dV e.1 g.1) (bV e.2.1 g.2.1) (aA (dV e.2.2.1 g.2.2.1) (aY (vF e) (CT g)) (aA (eL 75) (aJ k) (aA (bG k) (fU (bC (IT e) 1)=bP (tL g).1) (aA (cT sc) (cV v) (aA iV (uZ (GL e) (LD e) (CU g)) (bO (cN (oD (pK e)) (tL g).2) (jI (pK e)) (nC g)))))))))) (∃(g:Int×Nat×Int×Sl×db×Nat×Int×Int×Nat×MH×PH),IU (I2 g) (C g) (C e) cb p k (aA (dV e.1 g.1) (bV e.2.1 g.2.1) (aA (dV e.2.2.1 g.2.2.1) (aY (vF e) (vF g)) (aA (eL 75) (dV (LF e) (LF g)) (aA
 (dV e.2.2.2.2.2.2.2.1 g.2.2.2.2.2.2.2.1) (aJ k) (aA (bG k) (bV (IT e) (IT g)) (aA (bZ (vF e) (vF g)) (fU (bC (pK e).1 1)=bP (pK g).1) (aA (cT sc) (cV v) (aA iV (qR (fS (GL e)) (GL g)) (bO (cN (oD (pK e)) (pK g).2) (jI (pK e)) (jI (pK g))))))))))))))) (∃(g:Int×Nat×Int×Sl×db×Nat×MH×PH),IU (I1 g) (z g) (z f) cb p k (aA (dV e.1 g.1) (bV e.2.1 g.2.1) (aA (dV e.2.2.1 g.2.2.1) (aY (vF e) (CT g)) (aA (eL 75) (aJ k) (aA (bG k) (fU (bC (IT e) 1)=bP (tL g).1) (aA (cT sc) (cV v) (aA iV (qR (fS (GL e)) (CU g)) (bO (cN (oD (pK e)) (tL g).2) (jI (pK e)) (nC g))))))))))))) (dO
 f.1 (kI sc) (∃(e:Int×Nat×MH×PH),IU (I e) (M e) (M x) cb p k (aA (dV f.1 e.1) (fU (bC f.2.1 1)=bP e.2.1) (aA (cT sc) (cV v) (aH iV (cN (oD (tL f)) e.2.2) (nC f=jI e.2) True)))) (aZ (↑(fS (CU f)).length:Int) (aG k) (∃(e:Int×Nat×MH×PH),IU (I e) (M e) (M x) cb p k (aA (dV f.1 e.1) (fU (bC f.2.1 1)=bP e.2.1) (aA (cT sc) (cV v) (aH iV (cN (oD (tL f)) e.2.2) (nC f=jI e.2) True)))) (∃(t:Int),vI f.2.2.1 t (pC cb 2 (oD (tL f)) (nC f) (λc r=>∀(D:MH),bT (oD (tL f)) D c->bE D (nC f) c->branch r ((∃(n:Nat),gL (λA H=>tC (λF u=>∃(d:Nat),aA (iA cb (cM (CT f)::cA (cM p) 1)=iA n (cM A::cA (cM
 H) (↑d:Int))) (bE D (nC f) n) (aA (Ints (nC f) A F) (Ints (nC f) H u) (aH (gC F) (gC u) (oV d) (De (nC f) (λj G C B=>Cx F u d G->bT D C n->qB C B n (bN B 21 (lI (Er t)) (λJ L=>bN L 1 (fS (CU f)) (λO P=>bN P 21 (lI (Px 2 dD j (C9 j rU (uM rU (bH J))))) (λQ R=>K (qK (yQ 3 (uN (gP O) (uM rU (bH Q))))) C R)))))))))))/\∃(n:Nat),gL (λA H=>tC (λF u=>∃(d:Nat),aA (iA cb (cM (CT f)::cA (cM p) 1)=iA n (cM A::cA (cM H) (↑d:Int))) (bE D (nC f) n) (aA (Ints (nC f) A F) (Ints (nC f) H u) (aH (gC F) (gC u) (oV d) (De (nC f) (λj G C B=>Cx F u d G->bT D C n->
 qB C B n (bN B 21 (lI (Er t)) (λJ L=>bN L 1 (fS (CU f)) (λO P=>bN P 21 (lI (Px 2 dD j (C9 j rU (uM rU (bH J))))) (λQ R=>K (qK (yQ 3 (uN (gP O) (uM rU (bH Q))))) C R))))))))))) (bN (nC f) 1 (fS (CU f)) (λA B=>bN B 21 (lI (Er t)) (λJ L=>K (qK (yQ 3 (uN (gP A) (uM rU (bH J))))) D L)))))))))) ((∃(c:Nat),gL (λs t=>tC (λn u=>∃(d:Nat),aA (iA cb (cM k::cA (cM p) 1)=iA c (cM s::cA (cM t) (↑d:Int))) (bE (oD x.2) (jI x.2) c) (aA (Ints (jI x.2) s n) (Ints (jI x.2) t u) (aH (gC n) (gC u) (oV d) (De (jI x.2) (λj G z E=>Cx n u d G->bT (oD x.2) z c->qB z E c (bN E 21 (lI v.enc)
 (λA B=>K (qK (aU (eH 2) dD (aU (eH j.op) (eH j.cmp) (aU (i6 j.left) (sQ j.left) (aU (eH (tD j.left)) (mS j.left) (C9 j rU (uM rU (bH A)))))))) z B)))))))))/\∃(c:Nat),gL (λs t=>tC (λn u=>∃(d:Nat),aA (iA cb (cM k::cA (cM p) 1)=iA c (cM s::cA (cM t) (↑d:Int))) (bE (oD x.2) (jI x.2) c) (aA (Ints (jI x.2) s n) (Ints (jI x.2) t u) (aH (gC n) (gC u) (oV d) (De (jI x.2) (λj G z E=>Cx n u d G->bT (oD x.2) z c->qB z E c (bN E 21 (lI v.enc) (λA B=>K (qK (aU (eH 2) dD (aU (eH j.op) (eH j.cmp) (aU (i6 j.left) (sQ j.left) (aU (eH (tD j.left)) (mS j.left) (C9 j rU (uM rU (bH A)))))))) z B))))))))))
theorem oX h:Ints h cG []:=⟨cO.nil _ _,bi⟩
theorem wD h:gS h cG []:=⟨cO.nil _ _,bi⟩
theorem wA h:jW h cG []:=⟨cO.nil _ _,bi⟩
theorem Fj h:fJ h fN iO:=QZ (v:=iO) rfl
theorem Fp{h s v q}(r:cO h s 21 [QV.enc v])(c:cY h q v):FJ h s [q]:=⟨⟨[v],r,rfl,λi x e=>by
 grind⟩,bi⟩
theorem Fo h t:cY h (.mk 1 t fN [] [] [] [] 0 []) ⟨1,t,iO,cG,cG,cG,cG,0,cG⟩:=
 mL.rep ⟨rfl,rfl,Fj h,oX h,wD h,oX h,wA h,rfl,bI.nil _ _ _ _⟩
theorem Ra{v s q}(c:fJ h p v)(d:FJ h s [q]):cY h (.mk 2 0 p [] [] [] [] 0 [q]) ⟨2,0,v,cG,cG,cG,cG,0,s⟩:=
 mL.rep ⟨rfl,rfl,c,oX h,wD h,oX h,wA h,rfl,d⟩
theorem Om{h c s cols q}(d:Ints h c cols)(e:FJ h s [q]):cY h (.mk 3 0 fN cols [] [] [] 0 [q]) ⟨3,0,iO,c,cG,cG,cG,0,s⟩:=
 mL.rep ⟨rfl,rfl,Fj h,d,wD h,oX h,wA h,rfl,e⟩
theorem rH:ES fN:=⟨uH,uH,trivial⟩
theorem Vq{op w on q}(c:ES w)(d:QW q):QW (.mk op ta w co on gr od li [q]):=MU.2 ⟨c,λa e=>bo⟩
theorem KO t:QW (.mk 1 t fN [] [] [] [] 0 []):=MU.2 ⟨rH,λa c=>by simp at c⟩
theorem aDX{a:Int}{n:Nat}(c:0<=a)(d:0<n):0<=a.tmod (n:Int)/\a.tmod (n:Int)<(n:Int):=by
 rw[Int.tmod_eq_emod_of_nonneg c];exact⟨Int.emod_nonneg _ aD,Int.emod_lt_of_pos _ aD⟩
theorem M9{k op w on q}(c:arity op=1)(h:aK s ps q=(k,0)):aK s ps (.mk op ta w co on gr od li [q])=eV s ps (.mk op ta w co on gr od li [q]) k []:=by
 have e:fH s ps [q]=([k],0):=vX (by simp[h]);simp[aK,e,c]
theorem a2Z{k c op w on q p}(d:arity op=2)(h:aK s ps q=(k,0))(h':aK s ps p=(c,0)):aK s ps (.mk op ta w co on gr od li [q,p])=eV s ps (.mk op ta w co on gr od li [q,p]) k c:=by
 have e:fH s ps [q,p]=([k,c],0):=vX (by simp[h,h']);simp[aK,e,d]
theorem L1(h:l.length<=12):mT l=(l,0):=if_pos h
theorem Q0{s ps}{t:Int}(c:0<=t)(d:t<s.tables.length)(e:(jR s t).length<=12):aK s ps (.mk 1 t fN [] [] [] [] 0 [])=(jR s t,0):=by
 have f:aK s ps (.mk 1 t fN [] [] [] [] 0 [])=eV s ps (.mk 1 t fN [] [] [] [] 0 []) [] []:=by simp[aK,fH,arity]
 rw[f];unfold eV;rw[if_neg (by simp[arity,dC])];dsimp only;rw[if_pos rfl,if_pos ⟨c,d⟩,L1 e]
theorem kinds_filter{k w q}(h:aK s ps q=(k,0))(c:gY k ps w=0)(d:k.length<=12):aK s ps (.mk 2 0 w [] [] [] [] 0 [q])=(k,0):=by
 rw[M9 bj h];unfold eV;rw[if_neg (by simp[arity,dC])];dsimp only;rw[if_neg bj,if_pos rfl,if_pos c,L1 d]
theorem SA{k q}(h:aK s ps q=(k,0))(d:co≠[])(e:∀c∈co,DZ k c=true)(g:co.length<=12):aK s ps (.mk 3 0 fN co [] [] [] 0 [q])=(co.map λc=>k.getD c.toNat 0,0):=by
 rw[M9 bj h];unfold eV;rw[if_neg (by simp[arity,dC])];dsimp only;rw[if_neg bj,if_neg bj,if_pos rfl,if_pos ⟨d,λj x f=>e x (ce f)⟩,L1 bo]
structure Kq(kt ks co:db):Prop where
 in_:∀c∈co,DZ kt c=true
 eq_:(co.map λc=>kt.getD c.toNat 0)=ks
theorem Kq.kin{c ks q}(x:Kq c ks co)(h:aK s ps q=(c,0))(d:ks≠[])(f:ks.length<=12):aK s ps (.mk 3 0 fN co [] [] [] 0 [q])=(ks,0):=by
 have g:co.length=ks.length:=by rw[<-x.eq_,length_map]
 rw[SA h (λe=>d (eq_nil_of_length_eq_zero bo)) x.in_ aD,x.eq_]
theorem Kq.snoc{d}{ks:db}{c x}(p:Kq d (ks.take i) co)(g:ks[i]? =some x)(j:DZ d c=true)(e:d.getD c.toNat 0=x):Kq d (ks.take (i+1)) (co++[c]):=
 ⟨λy f=>by
  rcases mem_append.1 f with f|f
  .exact p.in_ y f
  grind,by rw[cj,p.eq_,cq,g,map_cons,map_nil,e];rfl⟩
theorem beJ:cz 35 aPJ:=by
 refine gW func35 ?_;rintro c9 m h K ⟨cb,sc,p,k,v,s,ps,ks,q,rfl,hc,hs,h8,d',hp,a9,hk,a1,hq,b',hK⟩;refine⟨ctQ cb sc p k v,rfl,aE O0 (aE Jp (aE Ts (aE FB (aE No aI)))),X5 cb sc p k v m h K,by kernel_rfl,?_⟩;have d0:=hs.tables.slen;have b0:=hk.slen;have hw:IntKind.i64.wrap ((sc.tables.len:Int)+1)=(sc.tables.len:Int)+1:=eM aD aD;dsimp only[X5,push_cast];rw[hw];refine⟨cb,_,rfl,hc,λf V f0 f1 o1 c1=>?_⟩;refine⟨λ⟨f,n,E,o⟩=>0<=f/\f<=sc.tables.len/\n<=sc.tables.len/\PH.le h o/\bT m E cb/\bE E o cb,λ⟨_,n,_,_⟩=>sc.tables.len-n,⟨(f,0,V,h),⟨f0,aD,aD,.refl _,o1,c1⟩,MT⟩,?_⟩;clear f0 f1 o1 c1 V hw;rintro⟨f,n,V,o⟩ ⟨f0,f1,hn,z,o1,c1⟩;dsimp only
 have C:∀(kk:Sl)(kl:db)(E:MH)(o:PH)(Q:PV->Pred->MH->PH->Prop),Ints o kk kl->kl.length<=1000->PH.le h o->bE E o cb->(∀v p m' h',PH.le o h'->fJ h' p v->Cx kl ps 1 p->bT E m' cb->bE m' h' cb->Q v p m' h')->
  ∃(D:Nat)(s t:Sl)(cols u:db)(deep:Nat),[CV.val (.pointer (some ⟨cb,0,none⟩)),CV.val (.slice kk.a kk.len kk.cap),CV.val (.slice p.a p.len p.cap),CV.val (.int .i64 1)]=[CV.val (.pointer (some ⟨D,0,none⟩)),CV.val (.slice s.a s.len s.cap),CV.val (.slice t.a t.len t.cap),CV.val (.int .i64 deep)]/\bE E o D/\Ints o s cols/\Ints o t u/\cols.length<=1000/\u.length<=1000/\deep<=1000/\
   ∀(v:PV)(p:Pred)(m':MH)(h':PH),PH.le o h'->fJ h' p v->Cx cols u deep p->bT E m' D->bE m' h' D->Q v p m' h':=λkk kl E o Q h1 h2 H h4 h5=>
  ⟨cb,kk,p,kl,ps,1,rfl,h4,h1,hp.mono H,h2,a9,aD,λv p m' h' q1 q2 W q3 q4=>h5 v p m' h' q1 q2 W q3 q4⟩
 refine aF (λd1=>?_) (λd2=>?_)
 rotate_left
 .have fin:∀(w:PV)(p:Pred)(m':MH)(h':PH),PH.le o h'->fJ h' p w->Cx ks ps 1 p->bT V m' cb->bE m' h' cb->∀(s:Sl)(c:PH),PH.le h' c->cO c s 21 [QV.enc v]->K (aQ ⟨2,0,w,cG,cG,cG,cG,0,s⟩) m' c:=λw p m' h' q1 q2 W q3 q4 s h2 S q6=>
   hK _ _ m' h2 ((z.trans q1).trans S) (Ra (q2.mono S) (Fp q6 (hq.mono ((z.trans q1).trans S)))) ⟨Vq W.vals b',λd hf=>hf.filter,λ_ X b3 _ I b4=>kinds_filter b4 (W.valid (by decide) b3 X) I⟩ (o1.trans q3) (q4.mono S)
  exact⟨C k ks V o _ (hk.mono z) a1 z c1 fin,C k ks V o _ (hk.mono z) a1 z c1 fin⟩
 have b5:IntKind.i64.wrap (f+(n:Int))=f+(n:Int):=eM aD aD;rw[b5];refine⟨aD,sc,s,_,rfl,hs.mono z,h8,λA h2 a2 F=>?_⟩;have a3:=F.slen;obtain⟨T,hT⟩:∃T,(f+(n:Int)).tmod (sc.tables.len:Int)=T:=⟨_,rfl⟩
 have a4:=aDX (a:=f+(n:Int)) (n:=sc.tables.len) aD aD;rw[hT]at F a3 a4⊢
 have b6:(jR s T).length<=8:=by
  unfold jR;split
  .simp
  .split
   .simp
   .rename_i t ht;simpa using h8 t (mem_of_getElem? ht)
 obtain⟨R,Y⟩:∃R,jR s T=R:=⟨_,rfl⟩
 have J:aK s ps (.mk 1 T fN [] [] [] [] 0 [])=(R,0):=by rw[Q0 a4.1 aD aD,Y]
 have Z:c2J s->O6 R:=λx=>by rw[<-Y];exact x T
 rw[Y]at F a3 b6;refine⟨λ⟨f',n',t,B,cols,i,E,o⟩=>f'=f/\n'=n/\B=A/\t=T/\i<=ks.length/\cols.length<=i/\(cols.length=i->Kq R (ks.take i) cols)/\PH.le h2 o/\bT m E cb/\bE E o cb,λ⟨_,_,_,_,_,i,_,_⟩=>ks.length-i,⟨(f,n,T,A,[],0,V,h2),⟨rfl,rfl,rfl,rfl,aD,by simp,λ_=>⟨by simp,by simp⟩,.refl _,o1,c1.mono a2⟩,MT⟩,?_⟩;rintro⟨f',n',t,A,cols,i,m2,H⟩ ⟨rfl,rfl,rfl,rfl,hi,d3,b7,G,o2,c2⟩;dsimp only;have g:PH.le h H:=(z.trans a2).trans G;refine aF (λU=>?_) (λc6=>?_)
 .obtain⟨x,o⟩:=dW b0 U;obtain⟨b1,b8,e1,r1⟩:=(hk.mono g).at o;refine⟨b1,b8,e1,aD,U,x,.imm (by grind),cb,_,rfl,c2,λfr m3 d4 d5 o3 c3=>?_⟩;refine⟨λ⟨f2,n2,t2,B,a',i2,L,y,j,E,hy⟩=>f2=f'/\n2=n'/\B=A/\t2=t/\a'=cols/\i2=i/\L=x/\E=m3/\hy=H/\j<=A.len/\y=fr,λ⟨_,_,_,_,_,_,_,_,j,_,_⟩=>A.len-j,⟨(f',n',t,A,cols,i,x,fr,0,m3,H),⟨rfl,rfl,rfl,rfl,rfl,rfl,rfl,rfl,rfl,aD,rfl⟩,MT⟩,?_⟩;rintro⟨f2,n2,t2,A,cols,i,L,y,j,m3,H⟩ ⟨rfl,rfl,rfl,rfl,rfl,rfl,rfl,rfl,rfl,hj,rfl⟩;dsimp only;refine aF (λc7=>?_) (λc8=>⟨(f2,n2,t2,_,_,_,_,_),⟨rfl,rfl,rfl,rfl,by show i+1<=ks.length;omega,by show cols.length<=i+1;omega,λe=>by grind,G,o2.trans o3,c3⟩,by grind,MT⟩);have b9:IntKind.i64.wrap (y+(j:Int))=y+(j:Int):=eM aD aD;rw[b9];have hm:=aDX (a:=y+(j:Int)) (n:=Sl.len _) aD (show 0<A.len by omega);obtain⟨b2,c',e2,r2⟩:=(F.mono G).inb (n:=(y+(j:Int)).tmod (A.len:Int)) hm.1 aD;refine⟨aD,b2,c',e2,hm.1,hm.2,_,.imm (by simpa using r2),aC (λek=>⟨by simp;omega,by simp;omega,(f2,n2,t2,_,cols++[(y+(j:Int)).tmod (A.len:Int)],i+1,_,_),⟨rfl,rfl,rfl,rfl,by grind,by simp;omega,λe=>?_,G,o2.trans o3,c3⟩,by grind,?_⟩) (λ_=>⟨(f2,n2,t2,A,cols,i,L,y,j+1,m3,H),⟨rfl,rfl,rfl,rfl,rfl,rfl,rfl,rfl,rfl,by grind,rfl⟩,by grind,MT⟩)⟩
  .have e:(cols++[(y+(j:Int)).tmod (A.len:Int)]).length=i+1:=e;rw[length_append]at e;exact(b7 (by simpa using e)).snoc o (by simp only[DZ,Bool.and_eq_true,decide_eq_true_eq];omega) (by grind)
  .rw[map_append];exact MT
 .have a5:n'+1<=sc.tables.len:=by omega
  have d6:i=ks.length:=by omega
  refine aC (λ_=>⟨(f',n'+1,m2,H),⟨f0,f1,a5,g,o2,c2⟩,by grind,MT⟩) (λ_=>aF (λ_=>⟨(f',n'+1,m2,H),⟨f0,f1,a5,g,o2,c2⟩,by grind,MT⟩) (λd7=>⟨t,rfl,cb,2,rfl,aD,aD,c2,λr m4 o4 c4=>?_⟩))
  have M:Kq R ks cols:=by
   grind
  refine aC (λ_=>?_) (λ_ s1 h5 a6 r5 s2 h6 a0 r6=>?_)
  .have fin:∀(w:PV)(p:Pred)(m':MH)(h':PH),PH.le H h'->fJ h' p w->Cx R ps 1 p->bT m4 m' cb->bE m' h' cb->∀(s:Sl)(c:PH),PH.le h' c->cO c s 21 [QV.enc ⟨1,t,iO,cG,cG,cG,cG,0,cG⟩]->∀(a7:Sl)(O:PH),PH.le c O->cO O a7 1 (cols.map eI)->∀(a8:Sl)(P:PH),PH.le O P->cO P a8 21 [QV.enc ⟨2,0,w,cG,cG,cG,cG,0,s⟩]->K (aQ ⟨3,0,iO,a7,cG,cG,cG,0,a8⟩) m' P:=λw p m' h' q1 q2 W q3 q4 s h5 S q6 s1 h6 q7 q8 s2 h7 q9 c0=>
    hK _ _ m' h7 ((((g.trans q1).trans S).trans q7).trans q9) (Om (cols:=cols) ⟨q8.mono q9,aD⟩ (Fp c0 (Ra (q2.mono ((S.trans q7).trans q9)) (Fp (q6.mono (q7.trans q9)) (Fo _ t))))) ⟨Vq rH (Vq W.vals (KO t)),λd _=>Wr.three d (uU.one (uU.one uU.scan (by decide)) (by decide)),λc5 X _ hn I _=>M.kin (kinds_filter J (W.valid (by decide) (Z c5) X) aD) hn I⟩ ((o2.trans o4).trans q3) (q4.mono ((S.trans q7).trans q9))
   exact⟨C A R m4 H _ (F.mono G) aD g c4 fin,C A R m4 H _ (F.mono G) aD g c4 fin⟩
  .exact hK _ _ m4 h6 ((g.trans a6).trans a0) (Om (cols:=cols) ⟨r5.mono a0,aD⟩ (Fp (v:=⟨1,t,iO,cG,cG,cG,cG,0,cG⟩) r6 (Fo _ t))) ⟨Vq rH (KO t),λd _=>Wr.three d (uU.mono (uU.one uU.scan (by decide)) (by decide) (by decide) (by decide)),λ_ _ _ hn I _=>M.kin J hn I⟩ (o2.trans o4) (c4.mono (a6.trans a0))
def KQ2(K:da)(m:MH)(h:PH)(cb:Nat)(s:jC)(ps:db)(d:Nat):=∀w q m' h',PH.le h h'->cY h' q w->QW q->D5 d q->(fG s ps q).2=0->bT m m' cb->bE m' h' cb->K (aQ w) m' h'
def aAQ N:=λc m h K=>∃cb sc p s ps deep,c=[cP cb,aS sc,cS p,cI deep]/\bE m h cb/\iC h s sc/\eX s=0/\s.tables≠[]/\Ints h p ps/\ps.length<=1000/\ps.all gI=true/\ -1<=deep/\deep<=1000/\(deep+1).toNat<N/\KQ2 K m h cb s ps deep.toNat
noncomputable def cCX(N cb:Nat)(sc:cK)(p:Sl):=
 vO [(19,N1),(33,b2J),(26,OS),(34,b5X),(35,aPJ),(36,cIQ),(27,Ha),(10,aAQ N)] [(11,{A:=QV×QV×Sl×Int×MH×PH,st:=λ⟨a,q,k,n,m,h⟩=>bS 171 175 [(0,pv cb),(2,sv p),(5,.at (.ptr 5 0)),(8,.at (.ptr 8 0)),(10,.at (.ptr 10 0)),(11,sv k),(13,.at (.ptr 13 0)),(14,iv n)] [(5,.cells 27 (sc.enc.map .val)),(8,.cells 41 (zY.enc.map .val)),(10,.cells 41 (a.enc.map .val)),(13,.cells 41 (q.enc.map .val))] m h})] [(7,{A:=Int×Int×QV×QV×Sl×MH×PH,st:=λ⟨d,op,a,q,k,m,h⟩=>bS 171 175 [(0,pv cb),(2,sv p),(3,iv d),(5,.at (.ptr 5 0)),(8,.at (.ptr 8 0)),(9,iv op),(10,.at (.ptr 10 0)),(11,sv k),(13,.at (.ptr 13 0))] [(5,.cells 27 (sc.enc.map .val)),(8,.cells 41 (zY.enc.map .val)),(10,.cells 41 (a.enc.map .val)),(13,.cells 41 (q.enc.map .val))] m h}),
  (16,{A:=Int×Int×QV×QV×Sl×Bool×MH×PH,st:=λ⟨d,op,a,q,k,t,m,h⟩=>bS 171 175 [(0,pv cb),(2,sv p),(3,iv d),(5,.at (.ptr 5 0)),(8,.at (.ptr 8 0)),(9,iv op),(10,.at (.ptr 10 0)),(11,sv k),(13,.at (.ptr 13 0)),(59,iv op),(84,bv t)] [(5,.cells 27 (sc.enc.map .val)),(8,.cells 41 (zY.enc.map .val)),(10,.cells 41 (a.enc.map .val)),(13,.cells 41 (q.enc.map .val))] m h}),
  (24,{A:=Int×QV×QV×Sl×Bool×MH×PH,st:=λ⟨op,a,q,k,t,m,h⟩=>bS 171 175 [(0,pv cb),(2,sv p),(5,.at (.ptr 5 0)),(8,.at (.ptr 8 0)),(10,.at (.ptr 10 0)),(11,sv k),(13,.at (.ptr 13 0)),(59,iv op),(122,bv t)] [(5,.cells 27 (sc.enc.map .val)),(8,.cells 41 (zY.enc.map .val)),(10,.cells 41 (a.enc.map .val)),(13,.cells 41 (q.enc.map .val))] m h}),
  (20,{A:=QV×QV×QV×Sl×Sl×MH×PH,st:=λ⟨a,b,q,k,l,m,h⟩=>bS 171 175 [(0,pv cb),(2,sv p),(5,.at (.ptr 5 0)),(8,.at (.ptr 8 0)),(10,.at (.ptr 10 0)),(11,sv k),(13,.at (.ptr 13 0)),(15,.at (.ptr 15 0)),(16,sv l)] [(5,.cells 27 (sc.enc.map .val)),(8,.cells 41 (zY.enc.map .val)),(10,.cells 41 (a.enc.map .val)),(13,.cells 41 (q.enc.map .val)),(15,.cells 41 (b.enc.map .val))] m h}),
  (30,{A:=QV×QV×MH×PH,frz:=true,st:=λ⟨a,q,m,h⟩=>bS 171 175 [(2,sv p),(5,.at (.ptr 5 0)),(8,.at (.ptr 8 0)),(10,.at (.ptr 10 0)),(13,.at (.ptr 13 0))] [(5,.cells 27 (sc.enc.map .val)),(8,.cells 41 (zY.enc.map .val)),(10,.cells 41 (a.enc.map .val)),(13,.cells 41 (q.enc.map .val))] m h})] [] [39,1039,1036] [] false
abbrev Jh(a:Nat->cK->Prop):=∃(x:Nat)(c:cK),a x c
abbrev IP(a:PH)(b:QV->Query->MH->PH->Prop):=∀(x:QV)(d:Query),iG (λe c=>bY a c (cY c d x) (b x d e c))
noncomputable abbrev vE(a:Int×Int×QV×QV×Sl×MH×PH):=a.2.2.2.2
abbrev nB:=eP 13
abbrev jG(a b:QV):=qO 41 a.enc=qO 41 b.enc
abbrev Ao(a:dv)(b:QV):=oQ 41 a=qO 41 b.enc
noncomputable abbrev Pz a b:=fC gV gV (fC (mD a) gV (fC aQz gV (fC (mD a) gV (fC gV aQz (fC Ht Ht (fC Ht Ht (fC Ht gV b)))))))
abbrev Es a b c d e g:=aA a (dL b) (aA (aJ c) dU (aA fP oB (aA (aY d e) nB g)))
noncomputable abbrev GM(a:QV×QV×Sl×Int×MH×PH):=a.2.2.2.2.2
noncomputable abbrev PD(a:QV×QV×Sl×Int×MH×PH):=a.2.2.2.2.1
noncomputable abbrev Gz(a:QV×QV×Sl×Int×MH×PH):=a.2.1.columns
noncomputable abbrev Av(a:QV×QV×MH×PH):=a.2.2.1
noncomputable abbrev wO(a:QV×QV×MH×PH):=a.2.2.2
noncomputable abbrev oI(a:Int×QV×QV×Sl×Bool×MH×PH):=a.2.2.2.1
noncomputable abbrev Et(a:Int×QV×QV×Sl×Bool×MH×PH):=a.2.2.2.2.1
noncomputable abbrev qZ(a:Int×QV×QV×Sl×Bool×MH×PH):=a.2.1
noncomputable abbrev sR(a:Int×QV×QV×Sl×Bool×MH×PH):=a.2.2.1
noncomputable abbrev kX(a:Int×QV×QV×Sl×Bool×MH×PH):=a.2.2.2.2.2.2
noncomputable abbrev yN(a:Int×QV×QV×Sl×Bool×MH×PH):=a.2.2.2.2.2.1
noncomputable abbrev nZ(a:QV×QV×QV×Sl×Sl×MH×PH):=a.2.2.2.2
noncomputable abbrev qA(a:QV×QV×QV×Sl×Sl×MH×PH):=a.2.2.1
noncomputable abbrev CW a:=Sl.mk (gJ a) a.args.len a.args.cap
abbrev Pr(a:Int×Int×QV×QV×Sl×Bool×MH×PH)(b:Int×QV×QV×Sl×Bool×MH×PH)(c:Prop)(d:cK):=aA (dV a.2.1 b.1) c (aA (cT d) iV (aA (jG (qZ a.2) (qZ b)) (jG (sR a.2) (sR b)) (aA (cN a.2.2.2.2.2.2.1 b.2.2.2.2.2) (kX a.2=kX b) True)))
abbrev Jf(a:QV->jC->Prop):=∃(x:QV)(c:jC),a x c
attribute [push_cast] Jh IP vE nB jG Ao Pz Es GM PD Gz Av wO oI Et qZ sR kX yN nZ qA CW Pr Jf
def YF(N cb:Nat)(sc:cK)(p:Sl)(deep:Int)(m:MH)(h:PH)(K:da):=
  kB cb 12 m h (λk m1=>aZ deep 1 (kB cb (ite (kI sc>1) (kI sc) 1) m1 h (λH W=>∃(t:Int),vI H t (K (qK (Er t)) W h))) (cW (kE (1+k)==1) (kB cb (ite (kI sc>1) (kI sc) 1) m1 h (λH W=>∃(t:Int),vI H t (K (qK (Er t)) W h))) (kI sc==0) (kB cb (ite (kI sc>1) (kI sc) 1) m1 h (λH W=>∃(t:Int),vI H t (K (qK (Er t)) W h))) (Jh (λc s=>∃(p1:Sl),Cp (λs1 p2=>∃(d:Int),aA (iA cb (cL sc::cA (cM p) (kE (deep-1)))=iA c (cL s::cA (cM p1) d)) (bE m1 h c) (aA (iC h s1 s) (eX s1=0) (aA (xH (s1.tables=[])) (Ints h p1 p2) (aA (gC p2) (AY (Kb p2)) (aH (Int.negSucc 0<=d) (d<=1000) ((d+1).toNat<N) (IP h (λw q W h1=>QW q->D5 d.toNat q->(fG s1 p2 q).2
 =0->bT m1 W c->qB W h1 c (∃(s2:cK),Cn (λp3 v=>Cp (λs3 p4=>∃(q1:Query),aA (cL sc::aX (cM p) (dG w)=cL s2::aX (cM p3) (dG v)) (iC h1 s3 s2) (aA (Ints h1 p3 p4) (cY h1 q1 v) (fB (λs4 h2=>bY h1 h2 (Ints h2 s4 (fG s3 p4 q1).1) (∃(I:Int×Int×QV×QV×Sl×MH×PH->Prop),qC (λC z=>sX W z h2 C 41 21 (lI w.enc)->∃(x:Int×Int×QV×QV×Sl×MH×PH),aA (I x) (dL cb) (aA (aJ p) (dV deep x.1) (aA dU fP (aA (dV (kE (1+k)) x.2.1) oB (aA (aY s4 (vE x).1) nB (aA (cT sc) iV (aA (jG w x.2.2.1) (Ao (fC (mD (kE (1+k))) gV (fC (mD 0) gV (Pz 0 (nR (nX C))))) x.2.2.2.1) (aA (jZ z (vE x)) (h2=dP (vE x)) True))))))))/\∀(x:Int×Int×QV×QV×Sl×MH×
 PH),I x->∃(I1:QV×QV×MH×PH->Prop),dO x.2.1 3 (kB cb 3 (eT (vE x)) (dP (vE x)) (λH z=>∃(I2:QV×QV×Sl×Int×MH×PH->Prop)(B:QV×QV×Sl×Int×MH×PH->Nat),(∃(f:QV×QV×Sl×Int×MH×PH),Es (I2 f) cb p (vE x).1 f.2.2.1 (aA (dV H f.2.2.2.1) (cT sc) (aA iV (jG x.2.2.1 f.1) (aH (jG x.2.2.2.1 f.2.1) (cN z f.2.2.2.2) (dP (vE x)=GM f) True))))/\∀(f:QV×QV×Sl×Int×MH×PH),I2 f->gQ f.2.2.2.1 0 (kB cb (aG f.2.2.1) (PD f) (GM f) (λR E=>∃(e:List dc),aH (fA E (Sl.mk (Gz f).a (Gz f).len (Gz f).cap) 3 1 e) (iK (mO e 1*8)) (mR e) (qC (λC O=>kK E O (Sl.mk (Gz f).a (Gz f).len (Gz f).cap) C 3 1 (iT e (bM R))->∃(j:QV
 ×QV×Sl×Int×MH×PH),aA (I2 j) (B j<B f) (aA (dL cb) (aJ p) (aA dU fP (aA oB (aY f.2.2.1 j.2.2.1) (aA nB (dV (kE (f.2.2.2.1-1)) j.2.2.2.1) (aA (cT sc) iV (aA (jG f.1 j.1) (Ao (fC (mD f.2.1.op) (A9 f.2.1) (pQ f.2.1.where_ (fC (nX C) (nX f.2.1.on) (fC (nX f.2.1.group) (nX f.2.1.order) (j9 (xJ f.2.1) (nX f.2.1.args)))))) j.2.1) (aA (cN O j.2.2.2.2) (GM f=GM j) True))))))))))) (Hf (PD f) (GM f)->∃(e:QV×QV×MH×PH),aA (I1 e) (aJ p) (aA dU fP (aA oB nB (aA (cT sc) iV (aH (jG f.1 e.1) (jG f.2.1 e.2.1) (Hp (PD f) (GM f) (Av e) (wO e)) True))))))) (∃(I2:Int×Int×QV×QV×Sl×Bool×MH×PH->Prop),dO x.2.1 4 (∃(f:Int×Int×QV×QV×Sl×
 Bool×MH×PH),aA (I2 f) (dL cb) (aA (aJ p) (dV x.1 f.1) (aA dU fP (aA (dV x.2.1 f.2.1) oB (aA (aY (vE x).1 (oI f.2)) nB (aA (dV x.2.1 f.2.1) (Ah (Et f.2)) (aA (cT sc) iV (aA (jG x.2.2.1 (qZ f.2)) (jG x.2.2.2.1 (sR f.2)) (bO (cN (eT (vE x)) f.2.2.2.2.2.2) (dP (vE x)) (kX f.2)))))))))) (∃(f:Int×Int×QV×QV×Sl×Bool×MH×PH),aA (I2 f) (dL cb) (aA (aJ p) (dV x.1 f.1) (aA dU fP (aA (dV x.2.1 f.2.1) oB (aA (aY (vE x).1 (oI f.2)) nB (aA (dV x.2.1 f.2.1) (kJ (x.2.1==5) (Et f.2)) (aA (cT sc) iV (aA (jG x.2.2.1 (qZ f.2)) (jG x.2.2.2.1 (sR f.2)) (bO (cN (eT (vE x)) f.2.2.2.2.2.2) (dP (vE x)) (kX
 f.2))))))))))/\∀(f:Int×Int×QV×QV×Sl×Bool×MH×PH),iB (I2 f) (Et f.2) (Jh (λA C=>∃(L:Sl),Cp (λF J=>∃(S:Int),aA (iA cb (cL sc::cA (cM p) (kE (f.1-2)))=iA A (cL C::cA (cM L) S)) (bE (yN f.2) (kX f.2) A) (aA (iC (kX f.2) F C) (eX F=0) (aA (xH (F.tables=[])) (Ints (kX f.2) L J) (aA (gC J) (AY (Kb J)) (aH (Int.negSucc 0<=S) (S<=1000) ((S+1).toNat<N) (IP (kX f.2) (λX M z n=>QW M->D5 S.toNat M->(fG F J M).2=0->bT (yN f.2) z A->qB z n A (∃(P:cK),Cn (λp7 u=>Cp (λV p8=>∃(q3:Query),aA (cL sc::aX (cM p) (dG X)=cL P::aX (cM p7) (dG u)) (iC n V P) (aA (Ints n p7 p8) (cY n q3 u) (fB
 (λY T=>bY n T (Ints T Y (fG V p8 q3).1) (∃(I3:QV×QV×QV×Sl×Sl×MH×PH->Prop),dO f.2.1 4 (fX (kE (aG (oI f.2)+aG Y)) 8 (∃(e:QV×QV×QV×Sl×Sl×MH×PH),Es (I3 e) cb p (oI f.2) e.2.2.2.1 (aA (eP 15) (aY Y (nZ e).1) (aA (cT sc) iV (aA (jG (qZ f.2) e.1) (Ao (fC (mD 5) (A9 (sR f.2)) (pQ (sR f.2).where_ (fC (E3 (sR f.2)) (nX (sR f.2).on) (fC (nX (sR f.2).group) (nX (sR f.2).order) (j9 (xJ (sR f.2)) (nX (sR f.2).args)))))) (qA e)) (aA (jG X e.2.1) (jZ z (nZ e)) (bQ T (dP (nZ e)))))))) (∃(e:QV×QV×QV×Sl×Sl×MH×PH),Es (I3 e) cb p (oI f.2) e.2.2.2.1 (aA (eP 15) (aY Y (nZ e).1) (aA (cT sc) iV (aA (jG (qZ f.2) e.1)
 (jG (sR f.2) (qA e)) (aA (jG X e.2.1) (jZ z (nZ e)) (bQ T (dP (nZ e))))))))) (∃(e:QV×QV×QV×Sl×Sl×MH×PH),Es (I3 e) cb p (oI f.2) e.2.2.2.1 (aA (eP 15) (aY Y (nZ e).1) (aA (cT sc) iV (aA (jG (qZ f.2) e.1) (jG (sR f.2) (qA e)) (aA (jG X e.2.1) (jZ z (nZ e)) (bQ T (dP (nZ e))))))))/\∀(e:QV×QV×QV×Sl×Sl×MH×PH),I3 e->(∃(G:Nat),gL (λa t=>tC (λa1 b=>aA (dM cb::aX (cM e.2.2.2.1) (cM (nZ e).1)=dM G::aX (cM a) (cM t)) (bE (eT (nZ e)) (dP (nZ e)) G) (aA (Ints (dP (nZ e)) a a1) (Ints (dP (nZ e)) t b) (aA (gC a1) (gC b) (∀(o:Sl)(U:dh),iG (λB Q=>bY (dP (nZ e)) Q (gS Q o U)
 (U.length<=10->bT (eT (nZ e)) B G->qB B Q G (qC (λZ E=>E5 (sX B E Q Z 41 21 (lI e.2.1.enc)) (λj=>fA E (CW (qA e)) 41 21 j/\∃(y:List dc),aA (eU 21 y) (sV E Q (Sl.mk Z.a Z.len Z.cap) 21 y) (aA (tJ j y 280) (oL j y) (∀(a3:Sl)(O:MH),kK E O (CW (qA e)) a3 41 21 (j++y)->Hf O Q->∃(D:QV×QV×MH×PH),aA (I1 D) (aJ p) (aA dU fP (aA oB nB (aA (cT sc) iV (aH (jG e.1 D.1) (Ao (fC (mD (qA e).op) (A9 (qA e)) (pQ (qA e).where_ (fC (E3 (qA e)) (nX o) (fC (nX (qA e).group) (nX (qA e).order) (j9 (xJ (qA e)) (nX a3)))))) D.2.1) (Hp O Q (Av D) (wO D)) True)))))))))))))))))/\qC (λa B=>sX (eT (nZ e)) B
 (dP (nZ e)) a 41 21 (lI e.2.1.enc)->∃(G:Nat),gL (λa1 t=>tC (λZ b=>aA (dM cb::aX (cM e.2.2.2.1) (cM (nZ e).1)=dM G::aX (cM a1) (cM t)) (bE B (dP (nZ e)) G) (aA (Ints (dP (nZ e)) a1 Z) (Ints (dP (nZ e)) t b) (aA (gC Z) (gC b) (∀(o:Sl)(U:dh),iG (λE Q=>bY (dP (nZ e)) Q (gS Q o U) (U.length<=10->bT B E G->E5 (bE E Q G) (λj=>fA E (CW (qA e)) 41 21 j/\∃(y:List dc),aA (eU 21 y) (sV E Q (Sl.mk a.a a.len a.cap) 21 y) (aA (tJ j y 280) (oL j y) (∀(a3:Sl)(O:MH),kK E O (CW (qA e)) a3 41 21 (j++y)->Hf O Q->∃(D:QV×QV×MH×PH),aA (I1 D) (aJ p) (aA dU fP (aA oB nB (aA (cT sc) iV
 (aH (jG e.1 D.1) (Ao (fC (mD (qA e).op) (A9 (qA e)) (pQ (qA e).where_ (fC (E3 (qA e)) (nX o) (fC (nX (qA e).group) (nX (qA e).order) (j9 (xJ (qA e)) (nX a3)))))) D.2.1) (Hp O Q (Av D) (wO D)) True))))))))))))))))))))))))))))))) (∃(I3:Int×QV×QV×Sl×Bool×MH×PH->Prop),cW (f.2.1==6) (∃(e:Int×QV×QV×Sl×Bool×MH×PH),Es (I3 e) cb p (oI f.2) (oI e) (Pr f e (Ah (Et e)) sc)) (f.2.1==7) (∃(e:Int×QV×QV×Sl×Bool×MH×PH),Es (I3 e) cb p (oI f.2) (oI e) (Pr f e (Ah (Et e)) sc)) (∃(e:Int×QV×QV×Sl×Bool×MH×PH),Es (I3 e) cb p (oI f.2) (oI e) (Pr f e (kJ (f.2.1==8) (Et e)) sc))/\∀(e:Int×QV×QV×Sl×Bool×MH×PH),I3 e->cW
 (Et e) (Jh (λA C=>gL (λL H=>Jf (λu F=>tC (λJ R=>∃(M:Query),aA (iA cb (cL sc::cM p::aX (cM (oI e)) (dG (qZ e)))=iA A (cL C::cM L::aX (cM H) (dG u))) (bE (yN e) (kX e) A) (aA (iC (kX e) F C) (nY F) (aA (oV F.tables.length) (Ints (kX e) L J) (aA (gC J) (Ints (kX e) H R) (aH (gC R) (cY (kX e) M u) (QW M) (IP (kX e) (λX q3 z n=>b2Q F J R M q3->bT (yN e) z A->qB z n A (qC (λP B=>E5 (sX z B n P 41 21 (lI X.enc)) (λj=>fA B (CW (sR e)) 41 21 j/\∃(y:List dc),aA (eU 21 y) (sV B n (Sl.mk P.a P.len P.cap) 21 y) (aA (tJ j y 280) (oL j y) (∀(V:Sl)(E:MH),kK B E
 (CW (sR e)) V 41 21 (j++y)->Hf E n->∃(D:QV×QV×MH×PH),aA (I1 D) (aJ p) (aA dU fP (aA oB nB (aA (cT sc) iV (aH (jG (qZ e) D.1) (Ao (qQ (sR e) (nX V)) D.2.1) (Hp E n (Av D) (wO D)) True)))))))))))))))))))) (e.1==9) (∃(A:Nat)(u:QV),sP (λC H=>aA (dM cb::aX (dG (sR e)) (cM (oI e))=dM A::aX (yJ u u (yO u (aU (gP u.on) rU (aU rU (y7 u) (bH u.args))))) (cM C)) (bE (yN e) (kX e) A) (aA (Ints (kX e) C H) (gC H) (∀(g o:Sl)(R:Int)(g1:db)(U:di),iG (λz n=>bY (kX e) n (Ints n g g1) (jW n o U->g1.length<=H.length->U.length<=H.length->cF R->R<=3->bT (yN e) z A->bE z n
 A->Hf z n->∃(j:QV×QV×MH×PH),aA (I1 j) (aJ p) (aA dU fP (aA oB nB (aA (cT sc) iV (aH (jG (qZ e) j.1) (Ao (fC (mD u.op) (A9 u) (pQ u.where_ (fC (E3 u) (nX u.on) (fC (nX g) (nX o) (j9 (mD R) (nX u.args)))))) j.2.1) (Hp z n (Av j) (wO j)) True)))))))))) (dO e.1 10 (∃(A:Nat)(u:QV),sP (λC H=>aA (dM cb::aX (dG (sR e)) (cM (oI e))=dM A::aX (yJ u u (yO u (aU (gP u.on) rU (aU rU (y7 u) (bH u.args))))) (cM C)) (bE (yN e) (kX e) A) (aA (Ints (kX e) C H) (gC H) (∀(g o:Sl)(R:Int)(g1:db)(U:di),iG (λz n=>bY (kX e) n (Ints n g g1) (jW n o U->g1.length<=H.length->U.length<=H.length->cF
 R->R<=3->bT (yN e) z A->qB z n A (Jh (λG F=>gL (λL k3=>Jf (λv2 P=>tC (λJ k4=>∃(M:Query),aA (iA cb (cL sc::cM p::aX (cM (oI e)) (dG (qZ e)))=iA G (cL F::cM L::aX (cM k3) (dG v2))) (bE z n G) (aA (iC n P F) (nY P) (aA (oV P.tables.length) (Ints n L J) (aA (gC J) (Ints n k3 k4) (aH (gC k4) (cY n M v2) (QW M) (IP n (λX q3 B T=>b2Q P J k4 M q3->bT z B G->qB B T G (qC (λV E=>E5 (sX B E T V 41 21 (lI X.enc)) (λj=>fA E (CW u) 41 21 j/\∃(y:List dc),aA (eU 21 y) (sV E T (Sl.mk V.a V.len V.cap) 21 y) (aA (tJ j y 280) (oL j y) (∀(Y:Sl)(O:MH),kK E O (CW u) Y 41 21 (j++y)->
 Hf O T->∃(D:QV×QV×MH×PH),aA (I1 D) (aJ p) (aA dU fP (aA oB nB (aA (cT sc) iV (aH (jG (qZ e) D.1) (Ao (fC (mD u.op) (A9 u) (pQ u.where_ (fC (E3 u) (nX u.on) (fC (nX g) (nX o) (j9 (mD R) (nX Y)))))) D.2.1) (Hp O T (Av D) (wO D)) True)))))))))))))))))))))))))) ((∃(A:Nat),gL (λC t=>tC (λG L=>∃(S:Nat),aA (iA cb (cM (oI e)::cA (cM p) 2)=iA A (cM C::cA (cM t) (↑S:Int))) (bE (yN e) (kX e) A) (aA (Ints (kX e) C G) (Ints (kX e) t L) (aH (gC G) (gC L) (oV S) (De (kX e) (λu J z n=>Cx G L S J->bT (yN e) z A->qB z n A (∀(F:Sl)(B:MH),sX z B n F 41 21 (lI (qZ e).enc)->Hf B n->∃(j:QV×QV
 ×MH×PH),aA (I1 j) (aJ p) (aA dU fP (aA oB nB (aA (cT sc) iV (aH (jG (qZ e) j.1) (Ao (fC (mD 2) gV (pQ u (fC Ht Ht (fC Ht Ht (j9 gV (nX F)))))) j.2.1) (Hp B n (Av j) (wO j)) True))))))))))))/\qC (λC z=>sX (yN e) z (kX e) C 41 21 (lI (qZ e).enc)->∃(A:Nat),gL (λF t=>tC (λG L=>∃(S:Nat),aA (iA cb (cM (oI e)::cA (cM p) 2)=iA A (cM F::cA (cM t) (↑S:Int))) (bE z (kX e) A) (aA (Ints (kX e) F G) (Ints (kX e) t L) (aH (gC G) (gC L) (oV S) (De (kX e) (λu J B n=>Cx G L S J->bT z B A->bE B n A->Hf B n->∃(j:QV×QV×MH×PH),aA (I1 j) (aJ p) (aA dU fP (aA oB nB (aA
 (cT sc) iV (aH (jG (qZ e) j.1) (Ao (fC (mD 2) gV (pQ u (fC Ht Ht (fC Ht Ht (j9 gV (nX C)))))) j.2.1) (Hp B n (Av j) (wO j)) True)))))))))))))))/\∀(f:QV×QV×MH×PH),I1 f->∃(C:cK),Cn (λL u=>Cp (λF J=>∃(M:Query),aA (cL sc::aX (cM p) (dG f.2.1)=cL C::aX (cM L) (dG u)) (iC (wO f) F C) (aA (Ints (wO f) L J) (cY (wO f) M u) (fB (λP n=>bY (wO f) n (Ints n P (fG F J M).1) (dH (fG F J M).2 0 (K (dG f.1) (Av f) n) (K (dG f.2.1) (Av f) n)))))))))))))))))))))))))
structure v8(m0 m:MH)(s:Sl)(E:TypeId)(sz:Nat)(xs:List dc):Prop where
 row:fA m s E sz xs
 fresh:∀b i,s.a=some ⟨b,i,none⟩->m0 b=none
def Kept(m0 m:MH)(cb:Nat):=∀b o,m0 b=some o->b≠cb->m b=some o
theorem Kept.of{m0}(h:bT m0 m cb):Kept m0 m cb:=λb o e n=>by rw[h.other b n];exact e
theorem Kept.on{m0}(k:Kept m0 m cb)(h:bT m m' cb):Kept m0 m' cb:=λb o e n=>by rw[h.other b n];exact k b o e n
theorem bE.blk(c:bE m h cb):∃cs,m cb=some (.cells cs 86 (0,0)):=by
 obtain⟨r,q,cs,k,d,_⟩:=c
 grind
theorem bE.keep(c:bE m h cb)(e:m' cb=m cb)(le:PH.le h h'):bE m' h' cb:=by
 obtain⟨r,q,d,k,j,f,g⟩:=c;exact⟨r,q,d,k,bo,f.mono le,g⟩
theorem Kept.free{m0}(k:Kept m0 m cb)(c:bE m h cb)(d:m b=none):m0 b=none:=by
 cases e:m0 b with
 |none=>rfl
 |some o=>
  by_cases f:b=cb
  .obtain⟨g,j⟩:=c.blk
   grind
  .rw[k b o e f]at d;cases d
theorem fA.nil m E sz:fA m cG E sz []:=⟨⟨λ_ h=>by simp at h,λ_ h=>by simp at h⟩,.inl ⟨rfl,rfl⟩⟩
theorem v8.nil m0 m E sz:v8 m0 m cG E sz []:=⟨fA.nil m E sz,λb i e=>by cases e⟩
theorem v8.on{m0 s E}(r:v8 m0 m s E sz xs)(o:bT m m' cb)(c:bE m h cb)(f:E≠86):v8 m0 m' s E sz xs:=by
 refine⟨fA.keep r.row (λb i e=>o.other b (λg=>?_)),r.fresh⟩;obtain⟨d,j⟩:=fA.blk r.row e;obtain⟨n,t⟩:=c.blk
 grind
theorem v8.new{m0 s t E E' c f}(r:v8 m0 m s E sz xs)(x:sX m m' h t E' c f):v8 m0 m' s E sz xs:=by
 refine⟨fA.keep r.row (λb i e=>x.other b (λj g=>?_)),r.fresh⟩;obtain⟨n,d⟩:=fA.blk r.row e;rw[(x.fresh b j g).m_]at d;cases d
theorem sX.frow{m0 s E}(x:sX m m' h s E sz xs)(k:Kept m0 m cb)(c:bE m h cb):v8 m0 m' s E sz xs:=⟨x.row,λb i e=>k.free c (x.fresh b i e).m_⟩
theorem sX.at_cb{s E}(x:sX m m' h s E sz xs)(c:bE m h cb):m' cb=m cb:=x.other cb (λi e=>by
 obtain⟨f,d⟩:=c.blk;rw[(x.fresh cb i e).m_]at d;cases d)
theorem Kept.new{m0 s E}(k:Kept m0 m cb)(x:sX m m' h s E sz xs):Kept m0 m' cb:=λb o e n=>by
 rw[x.other b (λi c=>by have:=(x.fresh b i c).m_;rw[k b o e n]at this;cases this)];exact k b o e n
theorem v8.grown{m0 s f E g}(r:v8 m0 m s E sz xs)(x:kK m m' s f E sz g)(k:Kept m0 m cb)(c:bE m h cb):v8 m0 m' f E sz g:=
 ⟨x.row,λb i e=>by
  rcases x.fresh b i e with d|⟨j,d⟩
  .exact k.free c d
  .exact r.fresh b j d⟩
theorem v8.apart{m0 s t g E E' c n o}(r:v8 m0 m s E sz xs)(q:v8 m0 m t E' c n)(x:kK m m' t g E' c o)(z:E≠E'):v8 m0 m' s E sz xs:=by
 refine⟨fA.keep r.row (λb i e=>?_),r.fresh⟩;obtain⟨u,d⟩:=fA.blk r.row e;rw[d];refine x.other b _ d (λj y=>?_);obtain⟨f,A⟩:=fA.blk q.row y
 grind
theorem Kept.grown{m0 s c E d}(k:Kept m0 m cb)(r:v8 m0 m s E sz xs)(x:kK m m' s c E sz d):Kept m0 m' cb:=λb o e n=>x.other b o (k b o e n) (λi f=>by rw[r.fresh b i f]at e;cases e)
theorem kK.at_cb{m0 s d E f}(x:kK m m' s d E sz f)(r:v8 m0 m s E sz xs)(c:bE m h cb)(n:E≠86):m' cb=m cb:=by
 obtain⟨o,e⟩:=c.blk;rw[e];refine x.other cb _ e (λi g=>?_);obtain⟨j,t⟩:=fA.blk r.row g
 grind
theorem btX{sz:Nat}:∀{xs:List dc},(∀e∈xs,e.length=sz)->xs.flatten.length=xs.length*sz
 |[],_=>bi
 |x::xs,h=>by
  simp only[flatten_cons,cg,cu];rw[btX (λe c=>h e (by simp[c])),h x bi,Nat.add_mul];omega
theorem fA.src{s E x}(r:fA m s E sz (x::xs)):sV m h s sz (x::xs):=by
 rcases r.ex with⟨_,e⟩|⟨b,d,c,rfl,f,_,_,_,g⟩
 .cases e
 .exact .lent b 0 c E (0,0) rfl rfl f bo
def zN(m0 m:MH):=λb=>match m0 b with|some _=>m b|none=>none
def Cq(m0 m:MH)(h:PH):=λb i=>match m0 b,m b with|none,some (.cells c _ _)=>c[i]? |_,_=>h b i
theorem DM{m0 m h}(d:Hf m h):PH.le h (Cq m0 m h):=⟨λb i v e=>by
 unfold Cq;split
 .rename_i f E g j c;rw[d.disj b _ c i]at e;cases e
 .exact e⟩
theorem a3J{m0}(d:Hf m h):Hp m h (zN m0 m) (Cq m0 m h):=by
 refine⟨λb o e=>?_,DM d,λb i v e=>?_⟩
 .unfold zN at e
  grind
 .unfold Cq at e;split at e
  .rename_i c E f g j;exact .inr ⟨c,E,f,j,e,by unfold zN;rw[g]⟩
  grind
theorem FT{p:Prop}(h:p:=by repeat' (first|with_reducible rfl|exact trivial|exact a3J (by assumption)|refine⟨?_,?_⟩|rfl)):p:=h
theorem v8.ice{m0 m h s E sz xs}(r:v8 m0 m s E sz xs):cO (Cq m0 m h) s sz xs:=by
 rcases r.row.ex with⟨rfl,rfl⟩|⟨b,f,g,rfl,u,c,_,_,n⟩
 .exact cO.nil _ _
 .have x:=r.fresh b 0 rfl;refine⟨rfl,.inr ⟨b,0,rfl,λi e o=>⟨λj v t=>?_⟩⟩,c⟩;have d:=oO r.row.rows.len o j v t;rw[<-n,getElem?_take]at d;split at d
  .unfold Cq
   grind
  .cases d
theorem keep_other{m0}(k:Kept m0 m cb):bT m0 (zN m0 m) cb:=⟨λb c=>by
 unfold zN;cases e:m0 b with
 |none=>rfl
 |some o=>exact k b o e c⟩
theorem a3Q{m0}(c:bE m h cb)(e:m0 cb≠none)(d:Hf m h):bE (zN m0 m) (Cq m0 m h) cb:=c.keep (by
 unfold zN
 grind) (DM d)
def QA d q:=QW q/\Wr d q
structure QM(d:Nat)(m0 m:MH)(h:PH)(v:QV)(vs:dw):Prop where
 wher:∃w,fJ h w v.where_/\ES w
 cols:∃co:db,v8 m0 m v.columns 3 1 (co.map eI)/\co.length<=1000
 on_:∃l,gS h v.on l
 group_:∃l,Ints h v.group l
 order_:∃l,jW h v.order l
 args_:v8 m0 m v.args 41 21 (vs.map QV.enc)
 len_:vs.length<=2
 reps:∀v∈vs,∃q,cY h q v/\QA d q
theorem WX{d:Nat}{h:PH}:∀{vs:dw},(∀v∈vs,∃q,cY h q v/\QA d q)->∃c:dl,c.length=vs.length/\(∀q∈c,QA d q)/\∀(i:Nat) q,c[i]? =some q->∃v,vs[i]? =some v/\cY h q v
 |[],_=>⟨[],rfl,λq f=>by simp at f,λi q e=>by simp at e⟩
 |v::vs,g=>by
  obtain⟨q,f,j⟩:=g v bi;obtain⟨c,n,t,y⟩:=WX (vs:=vs) (λu o=>g u (by simp[o]));refine⟨q::c,by simp[n],λx z=>bo,λi x e=>?_⟩
  grind
theorem QM.ice{n m0 vs}(x:QM n m0 m h v vs)(d:Hf m h):∃q,cY (Cq m0 m h) q v/\QW q/\D5 (n+1) q:=by
 obtain⟨w,o,c⟩:=x.wher;obtain⟨co,t,u⟩:=x.cols;obtain⟨on,y⟩:=x.on_;obtain⟨gr,z⟩:=x.group_;obtain⟨od,f⟩:=x.order_;obtain⟨C,A,j,B⟩:=WX x.reps;have le:=DM (m0:=m0) d;have D:=x.len_;exact⟨_,mL.rep ⟨rfl,rfl,o.mono le,⟨t.ice,aD⟩,y.mono le,z.mono le,f.mono le,rfl,⟨⟨vs,x.args_.ice,A,λi q e=>let⟨v,k1,k2⟩:=B i q e;⟨v,k1,k2.mono le⟩⟩,aD⟩⟩,MU.2 ⟨c,λa g=>(j a g).1⟩,D5.node (λa g=>(j a g).2) aD⟩
theorem QM.on{n m0 vs}(x:QM n m0 m h v vs)(o:bT m m' cb)(c:bE m h cb)(le:PH.le h h'):QM n m0 m' h' v vs:=by
 obtain⟨w,j,d⟩:=x.wher;obtain⟨co,t,f⟩:=x.cols;obtain⟨on,u⟩:=x.on_;obtain⟨gr,y⟩:=x.group_;obtain⟨od,g⟩:=x.order_;exact⟨⟨w,j.mono le,d⟩,⟨co,t.on o c bj,f⟩,⟨on,u.mono le⟩,⟨gr,y.mono le⟩,⟨od,g.mono le⟩,x.args_.on o c bj,x.len_,λv z=>let⟨q,e,ew⟩:=x.reps v z;⟨q,e.mono le,ew⟩⟩
theorem QM.new{d m0 vs t E j}(x:QM d m0 m h v vs)(n:sX m m' h' t E sz j)(le:PH.le h h'):QM d m0 m' h' v vs:=by
 obtain⟨w,o,c⟩:=x.wher;obtain⟨co,u,f⟩:=x.cols;obtain⟨on,y⟩:=x.on_;obtain⟨gr,z⟩:=x.group_;obtain⟨od,g⟩:=x.order_;exact⟨⟨w,o.mono le,c⟩,⟨co,u.new n,f⟩,⟨on,y.mono le⟩,⟨gr,z.mono le⟩,⟨od,g.mono le⟩,x.args_.new n,x.len_,λv A=>let⟨q,e,ew⟩:=x.reps v A;⟨q,e.mono le,ew⟩⟩
theorem QM.grow{d:Nat}{m0:MH}{e:QV}{vs:dw}{j u}(x:QM d m0 m h v vs)(g:kK m m' v.args j 41 21 (vs.map QV.enc++[u.enc]))(k:Kept m0 m cb)(c:bE m h cb)(E:∃q,cY h q u/\QA d q)(F:vs.length<=1)(o:e.where_=v.where_)(t:e.columns=v.columns)(y:∃l,gS h e.on l)(z:∃l,Ints h e.group l)(A:∃l,jW h e.order l)(B:e.args=j):QM d m0 m' h e (vs++[u]):=by
 obtain⟨co,C,f⟩:=x.cols;refine⟨by rw[o];exact x.wher,⟨co,by rw[t];exact C.apart x.args_ g bj,f⟩,y,z,A,by rw[B,cj];exact x.args_.grown g k c,bn,λv D=>?_⟩;rcases mem_append.1 D with n|n
 .exact x.reps v n
 grind
theorem aEZ(h:eX s=0):Fg s:=Classical.byContradiction λc=>by rw[yY c]at h;cases h
theorem DF(h:eX s=0):nY s:=λt c=>by
 obtain⟨i,d⟩:=mem_iff_getElem?.1 c;have:=(aEZ h).2 i t d;exact this.1
theorem JX(h:eX s=0):s.tables.length<=8:=(aEZ h).1
theorem Qo s ps q:(fG s ps q).1.length<=12:=by
 unfold fG;split
 .split
  .split
   .exact jB s ps q
   .simp[eK]
  .simp[eK]
 .simp[eK]
theorem aEJ{s ps}{t:Int}(c:eX s=0)(d:ps.all gI=true)(e:0<=t)(f:t<s.tables.length):(fG s ps (.mk 1 t fN [] [] [] [] 0 [])).2=0:=by
 have g:=DF c
 have u:(jR s t).length<=12:=by
  unfold jR;split
  .simp
  .split
   .simp
   .rename_i x j;have:=g x (ce j);simp;omega
 have n:aK s ps (.mk 1 t fN [] [] [] [] 0 [])=eV s ps (.mk 1 t fN [] [] [] [] 0 []) [] []:=by simp[aK,fH,arity]
 have o:sJ (.mk 1 t fN [] [] [] [] 0 [])=true:=by rfl
 unfold fG;rw[if_pos c,if_pos d,if_pos o,n];unfold eV;rw[if_neg (by simp[arity,dC])];simp only[if_true];rw[if_pos ⟨e,f⟩];unfold mT
 grind
structure Mid(m0:MH)(h3:PH)(cb:Nat)(a q:QV)(mx:MH):Prop where
 case_:bE mx h3 cb
 kept:Kept m0 mx cb
 ex:∃o args,q=⟨o,0,iO,cG,cG,cG,cG,0,args⟩/\v8 m0 mx args 41 21 ([a].map QV.enc)
theorem Mid.qm{d m0 e c a q}(x:Mid m0 c cb a q e)(j:∃f,cY c f a/\QA d f):QM d m0 e c q [a]:=by
 obtain⟨o,args,rfl,g⟩:=x.ex;exact⟨⟨_,Fj c,rH⟩,⟨[],v8.nil _ _ _ _,bi⟩,⟨_,wD _⟩,⟨_,oX _⟩,⟨_,wA _⟩,g,bi,λv n=>bo⟩
theorem aNQ:∀N,cz 10 (aAQ N)
 |0=>by
  refine eG (fn:=Tryz.f10) (c:=dQ Tryz.f10) func10 rfl bj ?_;rintro c0 m h K ⟨cb,sc,p,s,ps,deep,rfl,_,_,_,_,_,_,_,_,_,hN,_⟩;omega
 |N+1=>by
  refine gW func10 ?_;rintro c0 m h K ⟨cb,sc,p,s,ps,deep,rfl,hc,hs,he,b',hp,a0,a7,d0,d1,hN,hK⟩;refine⟨cCX N cb sc p,rfl,aE O0 (aE Ts (aE bgQ (aE bfQ (aE beJ (aE beZ (aE No (aE (aNQ N) aI))))))),YF N cb sc p deep m h K,bh,?_⟩;have f3:=hs.tables.slen;have h8:=DF he;have f4:=JX he;have f5:0<s.tables.length:=length_pos_iff.2 b';have d':(if(sc.tables.len:Int)>1 then(sc.tables.len:Int)else 1)=(sc.tables.len:Int):=by omega
  have d2:m cb≠none:=by obtain⟨cs,e⟩:=hc.blk;rw[e];simp
  dsimp only[YF,push_cast];rw[d'];refine⟨cb,12,rfl,hc,λk m1 k0 k1 o1 c1=>?_⟩;refine aF (λhd=>?_) (λhd=>aC (λ_=>?_) (λ_=>aC (λ_=>?_) (λ_=>?_)))
  .exact⟨cb,_,rfl,c1,λG m2 b0 d3 o2 c2=>⟨G,rfl,hK _ _ m2 h (.refl _) (Fo h G) (KO G) (D5.mono (d:=0) uU.scan (Nat.zero_le _)) (aEJ he a7 b0 aD) (o1.trans o2) c2⟩⟩
  .exact⟨cb,_,rfl,c1,λG m2 b0 d3 o2 c2=>⟨G,rfl,hK _ _ m2 h (.refl _) (Fo h G) (KO G) (D5.mono (d:=0) uU.scan (Nat.zero_le _)) (aEJ he a7 b0 aD) (o1.trans o2) c2⟩⟩
  .grind
  have d4:IntKind.i64.wrap (deep-1)=deep-1:=eM aD aD;have d5:IntKind.i64.wrap (deep-2)=deep-2:=eM aD aD;rw[d4];refine⟨cb,sc,p,s,ps,deep-1,rfl,c1,hs,he,b',hp,a0,a7,aD,aD,aD,λa qa m2 h2 b1 ra b6 a3 d6 o2 c2=>⟨sc,p,a,s,ps,qa,rfl,hs.mono b1,hp.mono b1,ra,λkk h3 b3 ik=>?_⟩⟩;have d7:=Qo s ps qa;obtain⟨T,d8⟩:∃T,(deep-1).toNat=T:=⟨_,rfl⟩
  have d9:deep.toNat=T+1:=by omega
  rw[d8]at a3;have U:QA T qa:=⟨b6,a3.arg⟩
  generalize e':(fG s ps qa).fst=ks at ik d7;clear e';have A:PH.le h h3:=b1.trans b3;have V:cY h3 qa a:=ra.mono b3;refine⟨λ⟨d,op,D,q,H,mx,I⟩=>d=deep/\D=a/\H=kk/\I=h3/\Mid m h3 cb a q mx,λM m3 j=>⟨(deep,IntKind.i64.wrap (1+k),a,⟨IntKind.i64.wrap (1+k),0,iO,cG,cG,cG,cG,0,M⟩,kk,m3,h3),⟨rfl,rfl,rfl,rfl,?_⟩,MT⟩,?_⟩
  .have G:=(Kept.of o1).on o2;have c3:=c2.mono b3;exact⟨c3.keep (sX.at_cb j c3) (.refl _),G.new j,_,_,rfl,sX.frow j G c3⟩
  rintro⟨deep,op,D,q,H,mx,I⟩ ⟨rfl,rfl,rfl,rfl,y⟩;dsimp only;have E:∀(q:QV)(vs:dw)(B:MH)(C:PH),PH.le I C->Kept m B cb->bE B C cb->QM T m B C q vs->Hf B C->PH.le I (Cq m B C)/\bT m (zN m B) cb/\bE (zN m B) (Cq m B C) cb/\∃qq,cY (Cq m B C) qq q/\QW qq/\D5 (T+1) qq:=λq vs B C l k c x d=>⟨l.trans (DM d),keep_other k,a3Q c d2 d,x.ice d⟩
  have join:∀(q:QV)(u:QV)(M:Sl)(B:MH)(C:PH)(Q:Sl->MH->Prop),PH.le I C->Kept m B cb->bE B C cb->QM T m B C q [D]->v8 m B M 41 21 [u.enc]->(∃qu,cY C qu u/\QA T qu)->
   (∀J m',(∀q':QV,q'.where_=q.where_->q'.columns=q.columns->(∃l,gS C q'.on l)->(∃l,Ints C q'.group l)->(∃l,jW C q'.order l)->q'.args=J->QM T m m' C q' [D,u])->Kept m m' cb->bE m' C cb->Q J m')->
   ∃xs,fA B ⟨q.args.a,q.args.len,q.args.cap⟩ 41 21 xs/\∃ys,eU 21 ys/\sV B C ⟨M.a,M.len,M.cap⟩ 21 ys/\(xs.length+ys.length)*280<=140737488355328/\xs.length+ys.length<=140737488355328/\∀(J:Sl)(m':MH),kK B m' ⟨q.args.a,q.args.len,q.args.cap⟩ J 41 21 (xs++ys)->Q J m':=
   λq u M B C Q l k c x f hu hQ=>⟨_,x.args_.row,[u.enc],Qk [u],fA.src f.row,bi,bi,λJ m' g=>hQ J m' (λq' e1 e2 e3 e4 e5 e6=>x.grow g k c hu bi e1 e2 e3 e4 e5 e6) (k.grown x.args_ g) (c.keep (kK.at_cb g x.args_ c bj) (.refl _))⟩
  refine⟨λ⟨W,q,B,C⟩=>W=D/\PH.le I C/\bT m B cb/\bE B C cb/\∃qq,cY C qq q/\QW qq/\D5 (T+1) qq,aC (λ_=>?_) (λ_=>?_),?_⟩
  ·
   refine⟨cb,3,rfl,y.case_,λn m3 n0 n1 o3 c3=>?_⟩;refine⟨λ⟨W,q,G,n,B,C⟩=>W=D/\G=H/\C=I/\ -1<=n/\n<=2/\bE B I cb/\Kept m B cb/\QM T m B I q [D]/\∃co:db,v8 m B q.columns 3 1 (co.map eI)/\(co.length:Int)<=2-n,λ⟨_,_,_,n,_,_⟩=>(n+1).toNat,⟨(D,q,H,n,m3,I),⟨rfl,rfl,rfl,aD,aD,c3,y.kept.on o3,(y.qm ⟨qa,V,U⟩).on o3 y.case_ (.refl _),[],?_,bn⟩,MT⟩,?_⟩
   .obtain⟨o,args,rfl,hf⟩:=y.ex;exact v8.nil _ _ _ _
   clear y q c3 o3 m3 n0 n1 n;rintro⟨W,q,G,n,B,C⟩ ⟨rfl,rfl,rfl,n0,n1,cy,ky,qm,co,b7,f2⟩;dsimp only;refine aF (λhn=>⟨cb,_,rfl,cy,λc m4 _ _ o4 c4=>⟨_,(b7.on o4 cy bj).row,bn,bn,λJ X g=>?_⟩⟩) (λhn d=>⟨(W,q,zN m B,Cq m B C),⟨rfl,E q _ B C (.refl _) ky cy qm d⟩,FT⟩);have O:=b7.on o4 cy bj;have q4:=qm.on o4 cy (.refl _);have k4:=ky.on o4;have a4:v8 m X J 3 1 ((co++[c]).map eI):=by rw[cj];exact O.grown g k4 c4
   have e0:IntKind.i64.wrap (n-1)=n-1:=eM aD aD;rw[e0];refine⟨(W,{q with columns:=J},G,n-1,X,C),⟨rfl,rfl,rfl,bo,bo,c4.keep (kK.at_cb g O c4 bj) (.refl _),k4.grown O g,⟨q4.wher,⟨_,a4,bn⟩,q4.on_,q4.group_,q4.order_,q4.args_.apart O g bj,q4.len_,q4.reps⟩,_,a4,bn⟩,bo,MT⟩
  .refine⟨λ⟨d,op,W,q,G,t,B,C⟩=>d=deep/\W=D/\G=H/\C=I/\Mid m I cb D q B,aC (λ_=>⟨(deep,op,D,q,H,true,mx,I),⟨rfl,rfl,rfl,rfl,y⟩,MT⟩) (λ_=>⟨(deep,op,D,q,H,op==5,mx,I),⟨rfl,rfl,rfl,rfl,y⟩,MT⟩),?_⟩;clear y q mx;rintro⟨deep,op,D,q,H,t,mx,I⟩ ⟨rfl,rfl,rfl,rfl,y⟩;dsimp only;refine aC (λ_=>?_) (λ_=>?_)
   ·
    rw[d5];refine⟨cb,sc,p,s,ps,deep-2,rfl,y.case_,hs.mono A,he,b',hp.mono A,a0,a7,aD,aD,aD,λb qb X P z rb b8 e7 _ o5 Y=>⟨sc,p,b,s,ps,qb,rfl,hs.mono (A.trans z),hp.mono (A.trans z),rb,λl h6 L il=>?_⟩⟩;have b9:QA T qb:=⟨b8,(e7.mono aD).arg⟩
    have e8:=Qo s ps qb;generalize f6:(fG s ps qb).fst=ls at il e8;have R:QM T m X h6 q [D]:=(y.qm ⟨qa,V,U⟩).on o5 y.case_ (z.trans L);have k6:=y.kept.on o5;have S:=Y.mono L;refine⟨λ⟨W,b2,q,G,l2,B,C⟩=>W=D/\b2=b/\G=H/\l2=l/\C=h6/\bE B h6 cb/\Kept m B cb/\QM T m B h6 q [D],aC (λ_=>aF (λ_=>⟨(D,b,{q with op:=5},H,l,X,h6),⟨rfl,rfl,rfl,rfl,rfl,S,k6,⟨R.wher,R.cols,R.on_,R.group_,R.order_,R.args_,R.len_,R.reps⟩⟩,MT⟩) (λ_=>⟨(D,b,q,H,l,X,h6),⟨rfl,rfl,rfl,rfl,rfl,S,k6,R⟩,MT⟩)) (λ_=>⟨(D,b,q,H,l,X,h6),⟨rfl,rfl,rfl,rfl,rfl,S,k6,R⟩,MT⟩),?_⟩;have c':=rb.mono L;have a1:PH.le I h6:=z.trans L;clear R k6 S o5 Y rb z y q;rintro⟨W,b,q,G,l,B,h6⟩ ⟨rfl,rfl,rfl,rfl,rfl,S,k6,R⟩;dsimp only;refine⟨⟨cb,G,l,ks,ls,rfl,S,ik.mono a1,il,aD,aD,λo on m7 h7 F b4 _ o7 c7 M m8 j=>?_⟩,λM m7 j=>⟨cb,G,l,ks,ls,rfl,S.keep (sX.at_cb j S) (.refl _),ik.mono a1,il,aD,aD,λo on m8 h7 F b4 _ o8 c8=>?_⟩⟩
    .have k7:=k6.on o7;refine join q b M m8 h7 _ (a1.trans F) (k7.new j) (c7.keep (sX.at_cb j c7) (.refl _)) ((R.on o7 S F).new j (.refl _)) (sX.frow j k7 c7) ⟨qb,c'.mono F,b9⟩ (λJ m9 hq k9 c9 d=>?_);exact⟨(W,{q with on:=o,args:=J},zN m m9,Cq m m9 h7),⟨rfl,E _ _ m9 h7 (a1.trans F) k9 c9 (hq {q with on:=o,args:=J} rfl rfl ⟨on,b4⟩ (let⟨l,e⟩:=R.group_;⟨l,e.mono F⟩) (let⟨l,e⟩:=R.order_;⟨l,e.mono F⟩) rfl) d⟩,FT⟩
    .have k7:=k6.new j;have c7:bE m7 h6 cb:=S.keep (sX.at_cb j S) (.refl _);have k8:=k7.on o8;refine join q b M m8 h7 _ (a1.trans F) k8 c8 ((R.new j (.refl _)).on o8 c7 F) ((sX.frow j k6 S).on o8 c7 bj) ⟨qb,c'.mono F,b9⟩ (λJ m9 hq k9 c9 d=>?_);exact⟨(W,{q with on:=o,args:=J},zN m m9,Cq m m9 h7),⟨rfl,E _ _ m9 h7 (a1.trans F) k9 c9 (hq {q with on:=o,args:=J} rfl rfl ⟨on,b4⟩ (let⟨l,e⟩:=R.group_;⟨l,e.mono F⟩) (let⟨l,e⟩:=R.order_;⟨l,e.mono F⟩) rfl) d⟩,FT⟩
   .refine⟨λ⟨op,W,q,G,t,B,C⟩=>W=D/\G=H/\C=I/\Mid m I cb D q B,aC (λ_=>⟨(op,D,q,H,true,mx,I),⟨rfl,rfl,rfl,y⟩,MT⟩) (λ_=>aC (λ_=>⟨(op,D,q,H,true,mx,I),⟨rfl,rfl,rfl,y⟩,MT⟩) (λ_=>⟨(op,D,q,H,op==8,mx,I),⟨rfl,rfl,rfl,y⟩,MT⟩)),?_⟩;clear y q mx;rintro⟨op,D,q,H,t,mx,I⟩ ⟨rfl,rfl,rfl,y⟩;dsimp only;have q3:=y.qm ⟨qa,V,U⟩;refine aC (λ_=>?_) (λ_=>aC (λ_=>?_) (λ_=>aC (λ_=>?_) (λ_=>?_)))
    ·
     refine⟨cb,sc,p,H,D,s,ps,ks,qa,rfl,y.case_,hs.mono A,h8,aD,hp.mono A,a0,ik,aD,V,U.1,λw qw X P z e9 a5 o5 Y M m6 j=>?_⟩;have k5:=y.kept.on o5;refine join q w M m6 P _ z (k5.new j) (Y.keep (sX.at_cb j Y) (.refl _)) ((q3.on o5 y.case_ z).new j (.refl _)) (sX.frow j k5 Y) ⟨qw,e9,a5.qw,a5.siz T a3⟩ (λJ m9 hq k9 c9 d=>?_);have Z:=q3.on o5 y.case_ z;exact⟨(D,{q with args:=J},zN m m9,Cq m m9 P),⟨rfl,E _ _ m9 P z k9 c9 (hq {q with args:=J} rfl rfl Z.on_ Z.group_ Z.order_ rfl) d⟩,FT⟩
    ·
     obtain⟨o,args,rfl,hf⟩:=y.ex;refine⟨cb,⟨o,0,iO,cG,cG,cG,cG,0,args⟩,H,ks,rfl,y.case_,ik,aD,λg od kk gr a8 X P z hg a9 _ _ _ _ o5 Y d=>?_⟩;have Z:=q3.on o5 y.case_ z;exact⟨(D,⟨o,0,iO,cG,cG,g,od,kk,args⟩,zN m X,Cq m X P),⟨rfl,E _ [D] X P z (y.kept.on o5) Y ⟨Z.wher,Z.cols,Z.on_,⟨gr,hg⟩,⟨a8,a9⟩,Z.args_,Z.len_,Z.reps⟩ d⟩,FT⟩
    ·
     obtain⟨o,args,rfl,hf⟩:=y.ex;refine⟨cb,⟨o,0,iO,cG,cG,cG,cG,0,args⟩,H,ks,rfl,y.case_,ik,aD,λg od kk gr a8 X P z hg a9 _ _ _ _ o5 Y=>?_⟩;have Z:=q3.on o5 y.case_ z;have f':QM T m X P ⟨o,0,iO,cG,cG,g,od,kk,args⟩ [D]:=⟨Z.wher,Z.cols,Z.on_,⟨gr,hg⟩,⟨a8,a9⟩,Z.args_,Z.len_,Z.reps⟩
     refine⟨cb,sc,p,H,D,s,ps,ks,qa,rfl,Y,hs.mono (A.trans z),h8,aD,hp.mono (A.trans z),a0,ik.mono z,aD,V.mono z,U.1,λw qw m6 h6 L f0 a5 o6 S M m7 j=>?_⟩;have k6:=(y.kept.on o5).on o6;refine join ⟨o,0,iO,cG,cG,g,od,kk,args⟩ w M m7 h6 _ (z.trans L) (k6.new j) (S.keep (sX.at_cb j S) (.refl _)) ((f'.on o6 Y L).new j (.refl _)) (sX.frow j k6 S) ⟨qw,f0,a5.qw,a5.siz T a3⟩ (λJ m9 hq k9 c9 d=>?_);exact⟨(D,⟨o,0,iO,cG,cG,g,od,kk,J⟩,zN m m9,Cq m m9 h6),⟨rfl,E _ _ m9 h6 (z.trans L) k9 c9 (hq ⟨o,0,iO,cG,cG,g,od,kk,J⟩ rfl rfl ⟨_,wD _⟩ ⟨gr,hg.mono L⟩ ⟨a8,a9.mono L⟩ rfl) d⟩,FT⟩
    ·
     refine⟨⟨cb,H,p,ks,ps,2,rfl,y.case_,ik,hp.mono A,aD,a0,aD,λpv pp X P z rp b5 o5 Y M m6 j d=>?_⟩,λM X j=>⟨cb,H,p,ks,ps,2,rfl,y.case_.keep (sX.at_cb j y.case_) (.refl _),ik,hp.mono A,aD,a0,aD,λpv pp m6 P z rp b5 o6 S d=>?_⟩⟩
     .have k5:=y.kept.on o5;exact⟨(D,⟨2,0,pv,cG,cG,cG,cG,0,M⟩,zN m m6,Cq m m6 P),⟨rfl,E _ [D] m6 P z (k5.new j) (Y.keep (sX.at_cb j Y) (.refl _)) ⟨⟨pp,rp,b5.vals⟩,⟨[],v8.nil _ _ _ _,bi⟩,⟨_,wD _⟩,⟨_,oX _⟩,⟨_,wA _⟩,sX.frow j k5 Y,bi,λv hv=>by simp at hv;subst hv;exact⟨qa,V.mono z,U⟩⟩ d⟩,FT⟩
     .have k5:=y.kept.new j;have Y:bE X I cb:=y.case_.keep (sX.at_cb j y.case_) (.refl _);exact⟨(D,⟨2,0,pv,cG,cG,cG,cG,0,M⟩,zN m m6,Cq m m6 P),⟨rfl,E _ [D] m6 P z (k5.on o6) S ⟨⟨pp,rp,b5.vals⟩,⟨[],v8.nil _ _ _ _,bi⟩,⟨_,wD _⟩,⟨_,oX _⟩,⟨_,wA _⟩,(sX.frow j y.kept y.case_).on o6 Y bj,bi,λv hv=>by simp at hv;subst hv;exact⟨qa,V.mono z,U⟩⟩ d⟩,FT⟩
  .rintro⟨W,q,B,C⟩ ⟨rfl,a6,oy,cy,qq,rq,f1,f7⟩;dsimp only;refine⟨sc,p,q,s,ps,qq,rfl,hs.mono (A.trans a6),hp.mono (A.trans a6),rq,λsl P z _=>aC (λe=>?_) (λe=>?_)⟩
   .exact hK W qa B P ((A.trans a6).trans z) ((V.mono a6).mono z) U.1 (by rw[d9];exact a3.mono aD) d6 oy (cy.mono z)
   .exact hK q qq B P ((A.trans a6).trans z) (rq.mono z) f1 bo (bx e) oy (cy.mono z)
mutual
def bL(st:List de):Query->de
 |.mk op ta w co on gr od li args=>if op=1 then st.getD ta.toNat []else F0 op (.mk op ta w co on gr od li args) (AU st args)
def AU(st:List de):dl->List de
 |[]=>[]
 |q::qs=>bL st q::AU st qs
end
structure Iq(st ls:List de)(k:Nat)(ts:db):Prop where
 at_:∀(j:Nat)(t:Int),ts[j]? =some t->ls.getD (k+j) []=st.getD t.toNat []
theorem Iq.left{st ls k b}(x:Iq st ls k (a++b)):Iq st ls k a:=
 ⟨λj t h=>x.at_ j t bo⟩
theorem Iq.right{st ls k b}(x:Iq st ls k (a++b)):Iq st ls (k+a.length) b:=
 ⟨λj t h=>by
  have:=x.at_ (a.length+j) t bo
  grind⟩
theorem MQ{args c}(d:fH s ps args=(c,0))(e:(c.length:Int)=arity 1):args=[]:=by
 cases args with
 |nil=>rfl
 |cons q f=>obtain⟨_,_,_,_,rfl⟩:=rB d;simp[arity]at e;omega
mutual
theorem UI{s:jC}{ps:db}{st ls:List de}:∀{q:Query}{ks:db}{k:Nat},aK s ps q=(ks,0)->Iq st ls k (eY q)->iD ls q k=(bL st q,k+(eY q).length)
 |.mk op ta w co on gr od li args,ks,k,h,c=>by
  obtain⟨g,f,j,o⟩:=zJ h;by_cases e:op=1
  .subst e;have n:=MQ f j;subst n;have d:eY (.mk 1 ta w co on gr od li [])=[ta]:=by simp[eY,eN]
   rw[d]at c⊢
   have:=c.at_ 0 ta rfl;rw[Nat.add_zero]at this;rw[iD,bL,if_pos rfl,if_pos rfl,this];rfl
  .have d:eY (.mk op ta w co on gr od li args)=eN args:=by simp[eY,e]
   rw[d]at c⊢
   rw[iD,bL,if_neg e,if_neg e,Kn f c]
theorem Kn{s:jC}{ps:db}{st ls:List de}:∀{d:dl}{c:List db}{k:Nat},fH s ps d=(c,0)->Iq st ls k (eN d)->lR ls d k=(AU st d,k+(eN d).length)
 |[],c,k,h,_=>by simp[lR,AU,eN]
 |q::d,c,k,h,e=>by
  obtain⟨n,f,g,j,rfl⟩:=rB h;rw[eN]at e;rw[lR,AU,eN,UI g e.left,Kn j e.right,cg,Nat.add_assoc]
end
mutual
theorem KH{s:jC}{ps:db}:∀{q:Query}{ks:db},aK s ps q=(ks,0)->∀t∈eY q,0<=t/\t<s.tables.length
 |.mk op ta w co on gr od li args,ks,h,t,f=>by
  obtain⟨g,j,n,c⟩:=zJ h;rw[eY]at f;rcases mem_append.1 f with d|d
  .split at d
   .rename_i e;subst e;simp only[mem_singleton]at d;subst d;unfold eV at c;dsimp only at c;split at c
    .simp[eK]at c
    try rw[if_pos rfl]at c
    split at c
    .omega
    .simp[eK]at c
   .simp at d
  .exact SR j t d
theorem SR{s:jC}{ps:db}:∀{e:dl}{d:List db},fH s ps e=(d,0)->∀t∈eN e,0<=t/\t<s.tables.length
 |[],d,h,t,c=>by rw[eN]at c;simp at c
 |q::e,d,h,t,c=>by
  obtain⟨n,f,g,j,rfl⟩:=rB h;rw[eN]at c;rcases mem_append.1 c with c|c
  .exact KH g t c
  .exact SR j t c
end
def Dl(key k:Int)(i:Nat)(v:VV):=nI v&&(v.kind==k||((v.kind==2||v.kind==1)&&decide (key<=(i:Int))))
def Hs(t:Bi)(r:dj):=decide (r.length=t.columns.length)&&(List.range r.length).all λi=>Dl t.key (t.columns.getD i ⟨⟨#[]⟩,0⟩).kind i (r.getD i zeroV)
def oW(t:Bi)(r:dj):=r.take (max 0 (min t.key r.length)).toNat
def aDZ(t:Bi)(l:de):=(∀r∈l,Hs t r=true)/\∀(i:Nat) r c,l[i]? =some r->l[i+1]? =some c->eC (oW t r) (oW t c)<0
def P8(s:jC)(st:List de):=∀(i:Nat) t l,s.tables[i]? =some t->st[i]? =some l->aDZ t l
open Classical in
noncomputable def lC(s:jC)(st:List de):Int:=
 if eX s≠0 then eX s else if 512<(st.map λl=>(l.length:Int)).sum then 2 else if st.length≠s.tables.length then 80 else if P8 s st then 0 else 80
def StV(st:List de):=∀l∈st,∀r∈l,∀v∈r,xB v.kind/\xB v.int
def DG(t:Bi)(key row:dj):Bool->de->de
 |d,[]=>if d then[]else[row]
 |d,r::l=>(if 0<=eC (oW t r) key/\d=false then[row]else[])++((if eC (oW t r) key≠0 then[r]else[])++DG t key row (d||decide (0<=eC (oW t r) key)) l)
def SG(t:Bi)(l:de):=l.Pairwise λx y=>eC (oW t x) (oW t y)<0
theorem G8{x y z}(c:eC x y<0)(d:eC y z<0):eC x z<0:=by
 have:=Bg x y z aD aD;rcases Int.lt_or_eq_of_le this with h|h
 .exact h
 .rw[iZ]at h;subst h;have:=nG x y;omega
theorem Qp{t:Bi}{key row:dj}:∀{l:de},(∀r∈l,0<eC (oW t r) key)->DG t key row true l=l
 |[],_=>rfl
 |r::l,h=>by
  have d:=h r (mem_cons_self ..);rw[DG,if_neg bi,if_pos aD,Bool.true_or,Qp λx c=>h x (mem_cons_of_mem _ c)];rfl
theorem Pb{t:Bi}{key row z:dj}:∀{l:de}{d:Bool},z∈DG t key row d l->z=row\/z∈l
 |[],d,h=>by
  rw[DG]at h
  grind
 |r::l,d,h=>by
  rw[DG]at h;rcases mem_append.1 h with h|h
  .grind
  .rcases mem_append.1 h with h|h
   .grind
   .exact(Pb h).imp id λh=>mem_cons_of_mem _ h
theorem Pc{t:Bi}{key row:dj}:∀{l:de}{d:Bool},(DG t key row d l).length<=l.length+(if d then 0 else 1)
 |[],d=>by rw[DG];grind
 |r::l,d=>by
  have:=Pc (t:=t) (key:=key) (row:=row) (l:=l) (d:=d||decide (0<=eC (oW t r) key));rw[DG]
  grind
theorem Qq{t:Bi}{row:dj}:∀{l:de},SG t l->SG t (DG t (oW t row) row false l)
 |[],_=>by rw[DG];exact pairwise_singleton _ _
 |r::l,h=>by
  obtain⟨f,n⟩:=pairwise_cons.1 h;rw[DG];by_cases g:0<=eC (oW t r) (oW t row)
  .rw[if_pos ⟨g,rfl⟩,show(false||decide (0<=eC (oW t r) (oW t row)))=true by simp[g]];by_cases j:eC (oW t r) (oW t row)=0
   .rw[if_neg (by simp[j])];have e:=iZ.1 j
    rw[Qp λx c=>by
     have d:=f x c;rw[e]at d;have:=nG (oW t x) (oW t row);omega]
    exact pairwise_cons.2 ⟨λx c=>by rw[<-e];exact f x c,n⟩
   .rw[if_pos j];have d:eC (oW t row) (oW t r)<0:=by have:=nG (oW t row) (oW t r);omega
    rw[Qp λx c=>by
     have o:=G8 d (f x c);have:=nG (oW t x) (oW t row);omega]
    refine pairwise_cons.2 ⟨λx c=>?_,h⟩;rcases mem_cons.1 c with rfl|c
    .exact d
    .exact G8 d (f x c)
  .rw[if_neg (by simp[g]),if_pos aD,show(false||decide (0<=eC (oW t r) (oW t row)))=false by simp[g]];refine pairwise_cons.2 ⟨λx c=>?_,Qq n⟩;rcases Pb c with rfl|c
   .omega
   grind
theorem Qb{st}(h:lC s st=0):eX s=0/\st.length=s.tables.length/\P8 s st/\(st.map λl=>(l.length:Int)).sum<=512:=by
 unfold lC at h
 grind
theorem bBX{t x y}(h:x.length=y.length):(oW t x).length=(oW t y).length:=by simp[oW,h]
theorem bYZ{t x y}(h:x.length=y.length)(c:eC (oW t x) (oW t y)<0):eC x y<0:=by
 have d:x=oW t x++x.drop (max 0 (min t.key x.length)).toNat:=(take_append_drop _ _).symm;have e:y=oW t y++y.drop (max 0 (min t.key y.length)).toNat:=(take_append_drop _ _).symm;rw[d,e,Mu (bBX h),if_pos aD];exact c
theorem SG.of{t:Bi}:∀{l:de},(∀(i:Nat) r r',l[i]? =some r->l[i+1]? =some r'->eC (oW t r) (oW t r')<0)->SG t l
 |[],_=>List.Pairwise.nil
 |[_],_=>pairwise_singleton _ _
 |a::b::l,h=>by
  have d:SG t (b::l):=SG.of λi r r' f g=>h (i+1) r r' f g;refine pairwise_cons.2 ⟨λx c=>?_,d⟩;have e:=h 0 a b rfl rfl;rcases mem_cons.1 c with rfl|c
  .exact e
  .exact G8 e ((pairwise_cons.1 d).1 x c)
theorem SG.adj{t l}(h:SG t l) i r r'(c:l[i]? =some r)(d:l[i+1]? =some r'):eC (oW t r) (oW t r')<0:=by
 obtain⟨e,rfl⟩:=List.getElem?_eq_some_iff.1 c;obtain⟨f,rfl⟩:=List.getElem?_eq_some_iff.1 d;exact pairwise_iff_getElem.1 h i (i+1) e f aD
theorem WB{t:ByteArray}(h:t.toList=(⟨#[]⟩:ByteArray).toList):t.size<=64:=by rw[Dy h];decide
theorem J8{t}(h:HI t=true):t.size<=64:=WB (by simp only[HI,beq_iff_eq]at h;rw[h,ByteArray.toList_eq])
theorem N5{v}(h:nI v=true):v.text.size<=64:=by
 unfold nI at h;split at h
 .simp only[cm]at h;exact J8 h.2
 .split at h
  .simp only[cm]at h;exact J8 h.2
  .split at h
   .exact J8 h
   grind
theorem HF{q}(h:(fG s ps q).2=0):eX s=0/\ps.all gI=true/\sJ q=true/\(aK s ps q).2=0:=by
 unfold fG at h;split at h
 .rename_i c;split at h
  .rename_i d;split at h
   .grind
   .simp[eK]at h
  .simp[eK]at h
 .rename_i c;simp[eK]at h;omega
theorem N6{v}(h:nI v=true):1<=v.kind/\v.kind<=5/\v.text.size<=64:=by
 refine⟨?_,?_,N5 h⟩
 all_goals
  unfold nI at h;split at h
  .rename_i e;simp at e;omega
  .split at h
   .rename_i e;simp at e;omega
   .split at h
    .rename_i e;simp at e;omega
    .split at h
     .rename_i e;simp at e;omega
     .cases h
theorem VP{t r}(h:Hs t r=true):r.length=t.columns.length/\∀v∈r,nI v=true:=by
 simp only[Hs,cm,cr,all_eq_true,mem_range]at h;refine⟨h.1,λv e=>?_⟩;obtain⟨i,c,rfl⟩:=mem_iff_getElem.1 e;have d:=h.2 i c;simp only[Dl,cm,getD_eq_getElem?_getD,cd c,Option.getD_some]at d;exact d.1
theorem cdZ{t l}(u:t.columns.length<=12)(c:aDZ t l)(g:∀r∈l,∀v∈r,xB v.kind/\xB v.int)(j:l.length<=8000000):iM t.columns.length l:=by
 have n:∀r∈l,r.length=t.columns.length:=λr d=>(VP (c.1 r d)).1;refine⟨λr d=>⟨bo,λv e=>?_⟩,n,?_,j⟩
 .have o:=(VP (c.1 r d)).2 v e;have f:=g r d v e;exact⟨f.1,f.2,(N6 o).2.2⟩
 .exact(SG.of c.2).imp_of_mem fun{x y} e z h=>bYZ bo h
def sF(st:List de)(q:Query):=(eY q).map λt=>st.getD t.toNat []
theorem bsQ{s st}{t:Int}(c:lC s st=0)(n:StV st)(o:0<=t)(D:t<s.tables.length):iM (jR s t).length (st.getD t.toNat [])/\st.getD t.toNat []∈st:=by
 obtain⟨u,E,y,F⟩:=Qb c;have f:t.toNat<s.tables.length:=by omega
 have g:t.toNat<st.length:=by omega
 have j:s.tables[t.toNat]? =some s.tables[t.toNat]:=cd f;have z:st[t.toNat]? =some st[t.toNat]:=cd g;have A:st.getD t.toNat []=st[t.toNat]:=bo
 have d:st[t.toNat]∈st:=getElem_mem g;have G:=DF u _ (getElem_mem f);have B:(jR s t).length=s.tables[t.toNat].columns.length:=by rw[jR,if_neg aD,j];simp
 have e:∀{l:List de}{x},x∈l->((x.length:Nat):Int)<=(l.map λl=>(l.length:Int)).sum:=fun{l x}=>by
  induction l with
  |nil=>grind
  |cons a l C=>
   intro h
   have o:∀l:List de,0<=(l.map λl=>(l.length:Int)).sum:=λl=>by
    induction l with
    |nil=>simp
    |cons a l C=>grind
   grind
 have:=e d;rw[A,B];exact⟨cdZ aD (y _ _ _ j z) (n _ d) aD,d⟩
theorem Qg{st q ks c}(d:lC s st=0)(o:StV st)(A:∀l∈st,l.length<=c)(u:1<=c)(e:aK s ps q=(ks,0))(g:gM c q<=8000000):
 okQ (sF st q) q 0/\(iD (sF st q) q 0).1=bL st q/\iM ks.length (bL st q)/\(bL st q).length<=8000000:=by
 have z:∀(j:Nat)(t:Int),(eY q)[j]? =some t->(sF st q)[0+j]? =some (st.getD t.toNat []):=λj t h=>by rw[Nat.zero_add,sF,getElem?_map,h];rfl
 have x:=Ib u (ls:=sF st q) (k:=0) e ⟨λj t h=>⟨_,z j t h,by
  have n:=KH e t (ce h);have:=bsQ d o n.1 n.2
  grind⟩⟩ g
 have y:=UI (st:=st) (ls:=sF st q) (k:=0) e ⟨λj t h=>bo⟩;have f:(iD (sF st q) q 0).1=bL st q:=by rw[y]
 refine⟨x.ok,f,by rw[<-f];exact x.rel,?_⟩;rw[<-f];exact cv x.bnd g
def Zm(s:Sl):CV:=.val (.agg ⟨[.slice s.a s.len s.cap]⟩)
def cJQ:Vc.Spec:=λc m h K=>∃v s,c=[aS v,cI 3]/\iC h s v/\K (cI (eX s)) m h
def AP(st:List de):=(st.map λl=>(l.length:Int)).sum
def aUJ:Vc.Spec:=λc m h K=>∃s d,c=[Zm s]/\Leaves h s d/\d.length<=1000/\K (cI (AP d)) m h
def a4J s t r:=Be s t&&(match s.tables[t.toNat]? with|some c=>Hs c r|none=>false)
def L7 s t r:=match(if Be s t then s.tables[t.toNat]? else none)with|some c=>oW c r|none=>[]
def cKQ:Vc.Spec:=λc m h K=>∃v s t d r,c=[aS v,cI t,cS d,cI 3]/\iC h s v/\bR h d r/\K (cB (a4J s t r)) m h
def aRQ:Vc.Spec:=λc m h K=>∃v s t d r,c=[aS v,cI t,cS d]/\iC h s v/\bR h d r/\∀e,bR h e (L7 s t r)->K (cS e) m h
def OQ:Vc.Spec:=λc m h K=>∃v s e d,c=[aS v,cI 3,Zm e]/\iC h s v/\Leaves h e d/\d.length<=1000/\K (cI (lC s d)) m h
noncomputable def ckQ:=cZ [(132,cYQ),(133,RZ)] [(7,{A:=Nat×dE×Sl×MH×PH,st:=λ⟨i,t,s,m,h⟩=>bS 95 99 [(3,iv 3),(9,.at (.ptr 9 0)),(41,sv s),(42,iv s.len),(43,iv i)] [(9,.cells 73 (t.enc.map .val))] m h})] [(12,{A:=Nat×dE×VV×Sl×Bool×MH×PH,st:=λ⟨i,t,v,s,b,m,h⟩=>bS 95 99 [(3,iv 3),(9,.at (.ptr 9 0)),(10,iv i),(11,.at (.ptr 11 0)),(12,bv b),(41,sv s),(42,iv s.len),(43,iv i)] [(9,.cells 73 (t.enc.map .val)),(11,.cells 30 (v.enc.map .val))] m h}),
 (13,{A:=Nat×dE×VV×Sl×Bool×Bool×MH×PH,st:=λ⟨i,t,v,s,b,c,m,h⟩=>bS 95 99 [(3,iv 3),(9,.at (.ptr 9 0)),(10,iv i),(11,.at (.ptr 11 0)),(12,bv b),(13,bv c),(41,sv s),(42,iv s.len),(43,iv i)] [(9,.cells 73 (t.enc.map .val)),(11,.cells 30 (v.enc.map .val))] m h})] [] false
noncomputable def ckX s m h:=cZ [] [(3,{A:=Nat×Int,st:=λ⟨i,n⟩=>bS 19 20 [(3,iv n),(7,sv s),(8,iv s.len),(9,iv i)] [] m h})] [] [] false
noncomputable def cqZ(v:cK)(s:Sl)(m:MH)(h:PH):=cZ [(90,cJQ),(91,aUJ),(92,cKQ),(94,aRQ),(93,FL)] [(9,{A:=Nat,st:=λi=>bS 69 72 [(1,iv 3),(3,.at (.ptr 3 0)),(29,sv s),(30,iv s.len),(31,iv i)] [(3,.cells 27 (v.enc.map .val))] m h}),
 (12,{A:=Nat×Sl×Nat,st:=λ⟨i,u,j⟩=>bS 69 72 [(1,iv 3),(3,.at (.ptr 3 0)),(8,iv i),(9,sv u),(29,sv s),(30,iv s.len),(31,iv i),(36,sv u),(37,iv u.len),(38,iv j)] [(3,.cells 27 (v.enc.map .val))] m h})] [] [] false
def XC(v:cK)(m:MH)(h:PH)(K:da):=
  Lg v h (λs=>dH (eX s) 0 (K (fI (eX s)) m h) (K (fI 0) m h))
def XB(s:Sl)(m:MH)(h:PH)(K:da):=
  ∃(I:Nat×Int->Prop)(d:Nat×Int->Nat),(∃(x:Nat×Int),aA (I x) (dV 0 x.2) (aA (aJ s) (bG s) (aH (bA x.1) (m=m) (h=h) True)))/\∀(x:Nat×Int),I x->aZ (↑x.1:Int) (aG s) (bF (λb o=>aH (aM s.a b o) (0<=(↑x.1:Int)) ((↑x.1:Int)<aG s) (∃(y:Sl),aL m h b (bK o x.1 1) (bH y)/\∃(c:Nat×Int),aA (I c) (d c<d x) (aA (dV (kE (x.2+aG y)) c.2) (aJ s) (aA (bG s) (fU (bC x.1 1)=bP c.1) (aA (m=m) (h=h) True)))))) (K (fI x.2) m h)
abbrev mY:=iW 3
noncomputable abbrev jM(a:Nat×dE×Sl×MH×PH):=a.2.2
noncomputable abbrev HN(a:Nat×dE×Sl×MH×PH):=a.2.1
noncomputable abbrev LG(a:Nat×dE×VV×Sl×Bool×MH×PH):=a.2.2.2.2.1
noncomputable abbrev CX(a:Nat×dE×VV×Sl×Bool×MH×PH):=a.2.2.2.1
noncomputable abbrev M1(a:Nat×dE×VV×Sl×Bool×MH×PH):=a.2.1
noncomputable abbrev CY(a:Nat×dE×VV×Sl×Bool×MH×PH):=a.2.2.2.2.2
noncomputable abbrev Aw(a:Nat×dE×VV×Sl×Bool×Bool×MH×PH):=a.2.2.2.1
noncomputable abbrev HK(a:Nat×dE×VV×Sl×Bool×Bool×MH×PH):=a.2.1
noncomputable abbrev Eu(a:Nat×dE×VV×Sl×Bool×Bool×MH×PH):=a.2.2.2.2.2.2.2
noncomputable abbrev IV(a:Nat×dE×VV×Sl×Bool×Bool×MH×PH):=a.2.2.2.2.2.2.1
attribute [push_cast] mY jM HN LG CX M1 CY Aw HK Eu IV
def XA(v:cK)(t:Int)(s:Sl)(m:MH)(h:PH)(K:da):=
  uS (λj n=>∃(u:Int),aA (cA (cL v) t=cA (cL j) u) (iC h n j) (branch (!(Be n u)) (K bB m h) (ID v t (λb o=>∃(y:dE),aL m h b (fF o t 5) (BA y)/\dH (aG s) (BS y) (K bB m h) (∃(I:Nat×dE×Sl×MH×PH->Prop)(f:Nat×dE×Sl×MH×PH->Nat),(∃(x:Nat×dE×Sl×MH×PH),aA (I x) mY (aA (eP 9) (aY s (jM x).1) (aA (bZ s (jM x).1) (bA x.1) (aA (oQ 73 (iS y)=oQ 73 (iS (HN x))) (jZ m (jM x)) (bQ h (dP (jM x)))))))/\∀(x:Nat×dE×Sl×MH×PH),I x->aZ (↑x.1:Int) (aG (jM x).1) (bF (λz A=>aH (aM (jM x).1.a z A) (0<=(↑x.1:Int)) ((↑x.1:Int)<aG (jM x).1) (∃(g:VV),aL (eT (jM x)) (dP (jM x)) z (bK A x.1 3) g.enc/\∃(B:VV),fT (rJ g
 =rJ B) (!(nI B)) (K bB (eT (jM x)) (dP (jM x))) (∃(I1:Nat×dE×VV×Sl×Bool×MH×PH->Prop),dO g.kind 2 (∃(d:Nat×dE×VV×Sl×Bool×MH×PH),aA (I1 d) mY (aA (eP 9) (bV x.1 d.1) (aA (eP 11) (kJ (decide ((↑x.1:Int)>=(HN x).key)) (LG d)) (aA (aY (jM x).1 (CX d)) (bZ (jM x).1 (CX d)) (aA (bV x.1 d.1) (oQ 73 (iS (HN x))=oQ 73 (iS (M1 d))) (aA (qO 30 g.enc=qO 30 d.2.2.1.enc) (cN (eT (jM x)) (CY d)) (bQ (dP (jM x)) (CY d).2))))))) (∃(d:Nat×dE×VV×Sl×Bool×MH×PH),aA (I1 d) mY (aA (eP 9) (bV x.1 d.1) (aA (eP 11) (EZ (LG d)) (aA (aY (jM x).1 (CX d)) (bZ (jM x).1 (CX d)) (aA (bV x.1 d.1) (oQ 73 (iS (HN x))=oQ 73
 (iS (M1 d))) (aA (qO 30 g.enc=qO 30 d.2.2.1.enc) (cN (eT (jM x)) (CY d)) (bQ (dP (jM x)) (CY d).2)))))))/\∀(d:Nat×dE×VV×Sl×Bool×MH×PH),I1 d->∃(I2:Nat×dE×VV×Sl×Bool×Bool×MH×PH->Prop),dO d.2.2.1.kind 1 (∃(c:Nat×dE×VV×Sl×Bool×Bool×MH×PH),aA (I2 c) mY (aA (eP 9) (bV d.1 c.1) (aA (eP 11) (kJ (LG d) c.2.2.2.2.1) (aA (kJ (decide ((↑d.1:Int)>=(M1 d).key)) c.2.2.2.2.2.1) (aY (CX d) (Aw c)) (aA (bZ (CX d) (Aw c)) (bV d.1 c.1) (aA (oQ 73 (iS (M1 d))=oQ 73 (iS (HK c))) (qO 30 d.2.2.1.enc=qO 30 c.2.2.1.enc) (bO (cN (CY d).1 c.2.2.2.2.2.2) (CY d).2 (Eu c)))))))) (∃(c:Nat×dE×VV×Sl×Bool×Bool×MH×PH),aA (I2 c)
 mY (aA (eP 9) (bV d.1 c.1) (aA (eP 11) (kJ (LG d) c.2.2.2.2.1) (aA (EZ c.2.2.2.2.2.1) (aY (CX d) (Aw c)) (aA (bZ (CX d) (Aw c)) (bV d.1 c.1) (aA (oQ 73 (iS (M1 d))=oQ 73 (iS (HK c))) (qO 30 d.2.2.1.enc=qO 30 c.2.2.1.enc) (bO (cN (CY d).1 c.2.2.2.2.2.2) (CY d).2 (Eu c))))))))/\∀(c:Nat×dE×VV×Sl×Bool×Bool×MH×PH),I2 c->bF (λC D=>aH (aM (HK c).columns.a C D) (0<=(↑c.1:Int)) ((↑c.1:Int)<aG (HK c).columns) (∃(E:Int),aL (IV c) (Eu c) C (bK D c.1 2+1) (bM E)/\dH c.2.2.1.kind E (branch (!c.2.2.2.2.1) (branch (!c.2.2.2.2.2.1) (K bB (IV c) (Eu c)) (∃(e:Nat×dE×Sl×MH×PH),aA (I e) (f e<f x) (aA mY (eP 9) (aA (aY
 (Aw c) (jM e).1) (bZ (Aw c) (jM e).1) (aA (fU (bC c.1 1)=bP e.1) (oQ 73 (iS (HK c))=oQ 73 (iS (HN e))) (bO (jZ (IV c) (jM e)) (Eu c) (dP (jM e)))))))) (∃(e:Nat×dE×Sl×MH×PH),aA (I e) (f e<f x) (aA mY (eP 9) (aA (aY (Aw c) (jM e).1) (bZ (Aw c) (jM e).1) (aA (fU (bC c.1 1)=bP e.1) (oQ 73 (iS (HK c))=oQ 73 (iS (HN e))) (bO (jZ (IV c) (jM e)) (Eu c) (dP (jM e)))))))) (∃(e:Nat×dE×Sl×MH×PH),aA (I e) (f e<f x) (aA mY (eP 9) (aA (aY (Aw c) (jM e).1) (bZ (Aw c) (jM e).1) (aA (fU (bC c.1 1)=bP e.1) (oQ 73 (iS (HK c))=oQ 73 (iS (HN e))) (bO (jZ (IV c) (jM e)) (Eu c)
 (dP (jM e))))))))))))) (K fM (eT (jM x)) (dP (jM x))))))))
noncomputable abbrev sB a b:=ite (aG a<b) (aG a) b
attribute [push_cast] sB
def Xz(v:cK)(t:Int)(s:Sl)(m:MH)(h:PH)(K:da):=
  aZ t 0 (K Dn m h) (gQ t (kI v) (K Dn m h) (Pu v t (λb o y=>aH (aL m h b (fF o t 5+2) (bM y)) (0<=ite (sB s y>0) (sB s y) 0) (Da (ite (sB s y>0) (sB s y) 0) s) (K (CV.val (Value.slice s.a (ite (sB s y>0) (sB s y) 0).toNat s.cap)) m h))))
abbrev M5(a:Sl->(List de)->Prop):=∃(x:Sl)(c:List de),a x c
noncomputable abbrev rO a:=qK (bH a)
noncomputable abbrev mN(a:Nat×Sl×Nat):=a.2.1
noncomputable abbrev IW(a:Nat×Sl×Nat):=kE ((↑a.2.2:Int)-1)
attribute [push_cast] M5 rO mN IW
def XV(v:cK)(s:Sl)(m:MH)(h:PH)(K:da):=
  uS (λA n=>aA (cA (cL v) 3=cA (cL A) 3) (iC h n A) (dH (eX n) 0 (K (fI (eX n)) m h) (M5 (λB u=>aH (pN (rO s)=pN (rO B)) (Leaves h B u) (oV u.length) (cW (decide (AP u>512)) (K (fI 2) m h) (aG s !=kI v) (K (fI 80) m h) (mP (λI x=>aA (I x) mY (aA cH (aJ s) (aA (bG s) (bA x) (aA (cT v) (m=m) (bQ h h))))) (λI C x=>I x->aZ (↑x:Int) (aG s) (bF (λb o=>aH (aM s.a b o) (0<=(↑x:Int)) ((↑x:Int)<aG s) (∃(y:Sl),aL m h b (bK o x 1) (bH y)/\∃(I1:Nat×Sl×Nat->Prop)(e:Nat×Sl×Nat->Nat),(∃(c:Nat×Sl×Nat),aA (I1 c) mY (aA cH (bV x c.1) (aA (aY y (mN c)) (aJ s) (aA (bG s) (bV x c.1) (aA (aY y (mN c)) (bZ y (mN c)) (aA
 (bA c.2.2) (cT v) (bO (m=m) h h)))))))/\∀(c:Nat×Sl×Nat),I1 c->aZ (↑c.2.2:Int) (aG (mN c)) (bF (λD E=>aH (aM (mN c).a D E) (0<=(↑c.2.2:Int)) ((↑c.2.2:Int)<aG (mN c)) (∃(z:Sl),aL m h D (bK E c.2.2 1) (bH z)/\uS (λF G=>∃(t:Int),Co (λH r=>aH (cL v::fI (↑c.1:Int)::cA (cM z) 3=cL F::fI t::cA (cM H) 3) (iC h G F) (bR h H r) (qE (!(a4J G t r)) (K (fI 80) m h) (↑c.2.2:Int) 0 (bF (λf g=>aH (aM (mN c).a f g) (0<=IW c) (IW c<aG (mN c)) (∃(j:Sl),aL m h f (fF g (IW c) 1) (bH j)/\uS (λJ L=>∃(M:Int),Co (λO P=>aH (cL v::aX (fI (↑c.1:Int)) (cM j)=cL J::aX (fI M) (cM O)) (iC h L J) (bR h
 O P) (∀(Q:Sl),bR h Q (L7 L M P)->bU h f (fF g (IW c) 1) (bH j)/\uS (λR S=>∃(T:Int),Co (λa U=>aH (cL v::aX (fI (↑c.1:Int)) (cM z)=cL R::aX (fI T) (cM a)) (iC h S R) (bR h a U) (∀(V:Sl),bR h V (L7 S T U)->bU h f (fF g (IW c) 1) (bH j)/\wL Q V h (λW X=>gQ (eC W X) 0 (K (fI 80) m h) (∃(d:Nat×Sl×Nat),aA (I1 d) (e d<e c) (aA mY cH (aA (bV c.1 d.1) (aY (mN c) (mN d)) (aA (aJ s) (bG s) (aA (bV c.1 d.1) (aY (mN c) (mN d)) (aA (bZ (mN c) (mN d)) (fU (bC c.2.2 1)=bP d.2.2) (aH (cT v) (m=m) (h=h) True))))))))))))))))) (∃(d:Nat×Sl×Nat),aA (I1 d) (e d<e c) (aA mY cH (aA (bV c.1 d.1)
 (aY (mN c) (mN d)) (aA (aJ s) (bG s) (aA (bV c.1 d.1) (aY (mN c) (mN d)) (aA (bZ (mN c) (mN d)) (fU (bC c.2.2 1)=bP d.2.2) (aH (cT v) (m=m) (h=h) True))))))))))))) (∃(d:Nat),aA (I d) (C d<C x) (aA mY cH (aA (aJ s) (bG s) (aA (fU (bC c.1 1)=bP d) (cT v) (bO (m=m) h h)))))))) (K (fI 0) m h))))))))
theorem bR.cut{a len c r}(x:bR h ⟨a,len,c⟩ r){n}(f:n<=r.length):bR h ⟨a,n,c⟩ (r.take n):=by
 obtain⟨⟨d,e,g,j⟩,o⟩:=x;refine⟨⟨d.take n,by rw[map_take];exact cO.cut e n bo,bo,λi x t=>?_⟩,bo⟩
 grind
theorem cTQ{v}(d:iC h s v)(c:K (cI (eX s)) m h):XC v m h K:=
 ⟨v,s,rfl,d,aC (λ_=>c) (λe=>by rw[show eX s=0 by simpa using e]at c;exact c)⟩
theorem a7X:cz 90 cJQ:=by
 refine gW func90 ?_;rintro c m h K ⟨v,s,rfl,d,e⟩;refine⟨cZ [(73,DA)] [] [] [] false,rfl,aE Nj aI,XC v m h K,bh,?_⟩;exact cTQ d e
theorem Leaves.lens{s st}(c:Leaves h s st){l}(d:l∈st):l.length<=502633886983:=by
 obtain⟨i,e,rfl⟩:=mem_iff_getElem.1 d;obtain⟨_,_,_,_,_,f⟩:=bI.at c (cd e);exact f.len
theorem Ig:∀{l:List de},(∀x∈l,x.length<=502633886983)->0<=AP l/\AP l<=(l.length:Int)*502633886983
 |[],_=>by simp[AP]
 |a::l,h=>by
  have e:=h a (mem_cons_self ..);have c:=Ig (l:=l) λx d=>h x (mem_cons_of_mem _ d);simp only[AP,map_cons,sum_cons,cu]at c⊢
  omega
theorem avQ{st:List de}{l}(h:st[i]? =some l):AP (st.take (i+1))=AP (st.take i)+(l.length:Int):=by
 rw[cq,h];simp[AP]
theorem a7Q:cz 91 aUJ:=by
 refine gW func91 ?_;rintro y m h K ⟨s,c,rfl,f,I,A⟩;refine⟨ckX s m h,rfl,aI,XB s m h K,bh,?_⟩;dsimp only[XB,push_cast];have g:=bI.slen f;refine⟨λz=>z.1<=c.length/\z.2=AP (c.take z.1),λz=>c.length-z.1,⟨(0,0),⟨bi,by simp[AP]⟩,MT⟩,?_⟩;rintro⟨i,n⟩ ⟨B,e⟩;dsimp only at B e⊢
 subst e;refine aF (λj=>?_) (λC=>?_)
 .obtain⟨l,d⟩:=dW g j;obtain⟨b,o,u,D,rd,E⟩:=bI.at f d;have t:=bI.slen E;have F:=Ig (l:=c.take (i+1)) λx d=>f.lens (mem_of_mem_take d);have G:=(Ig (l:=c.take i) λx d=>f.lens (mem_of_mem_take d)).1;have H:=avQ d;rw[length_take]at F;refine⟨b,o,D,aD,aD,u,.imm rd,(i+1,AP (c.take (i+1))),⟨aD,rfl⟩,aD,?_⟩;rw[eM aD aD,t, <-H];exact MT
 .rw[ci aD];exact A
theorem H9{t r}:Hs t r=true↔r.length=t.columns.length/\∀i,i<r.length->Dl t.key (t.columns.getD i ⟨⟨#[]⟩,0⟩).kind i (r.getD i zeroV)=true:=by
 simp only[Hs,cm,cr,all_eq_true,mem_range]
theorem Xv{t r c}(d:s.tables[t.toNat]? =some c)(h:Be s t=true):a4J s t r=Hs c r:=by
 simp only[a4J,h,d,Bool.true_and]
theorem a6J:cz 92 cKQ:=by
 refine gW func92 ?_;rintro a' m h K ⟨v,s,t,L,r,rfl,M,O,C⟩;refine⟨ckQ,rfl,aE RD (aE RC aI),XA v t L m h K,bh,?_⟩;dsimp only[XA,push_cast];have a0:=M.tables.slen;have a1:=bI.slen O;refine⟨v,s,t,rfl,M,aC (λe=>?_) (λe=>?_)⟩
 .have e:Be s t=false:=bx e
  simp only[a4J,e,Bool.false_and]at C;exact C
 have e:Be s t=true:=bx e
 have Z:=e;simp only[Be,cm,cr]at Z;obtain⟨d,E⟩:∃d,s.tables[t.toNat]? =some d:=⟨_,cd aD⟩
 obtain⟨b,o,y,ea,rd,P⟩:=bI.at M.tables E;rw[Xv E e]at C;have a2:=bI.slen P.columns;have hk:=P.key;refine⟨b,o,ea,Z.1,aD,y,.imm rd,aC (λH=>?_) (λH=>?_)⟩
 .have:Hs d r=false:=by
   cases f:Hs d r with
   |false=>rfl
   |true=>
    have:=(H9.1 f).1
    grind
  rw[this]at C;exact C
 have Q:r.length=d.columns.length:=bo
 have bad:∀i,i<r.length->Dl d.key (d.columns.getD i ⟨⟨#[]⟩,0⟩).kind i (r.getD i zeroV)=false->K (cB false) m h:=λi R F=>by
  have:Hs d r=false:=by
   cases f:Hs d r with
   |false=>rfl
   |true=>rw[(H9.1 f).2 i R]at F;cases F
  grind
 refine⟨λz=>z.2.1=y/\z.2.2.1=L/\z.2.2.2.1=m/\z.2.2.2.2=h/\z.1<=r.length/\∀j,j<z.1->Dl d.key (d.columns.getD j ⟨⟨#[]⟩,0⟩).kind j (r.getD j zeroV)=true,λz=>r.length-z.1,⟨(0,y,L,m,h),⟨rfl,rfl,rfl,rfl,bi,λj S=>by simp at S⟩,MT⟩,?_⟩;rintro⟨i,n,A,m',h'⟩ ⟨H,f,I,J,R,B⟩;dsimp only at H f I J R B⊢
 subst H f I J;refine aF (λa3=>?_) (λa4=>?_)
 .have T:i<r.length:=by omega
  have hx:r[i]? =some (r.getD i zeroV):=bo
  obtain⟨b2,o2,x,U,G,V⟩:=bI.at O hx;subst V;have hc:d.columns[i]? =some (d.columns.getD i ⟨⟨#[]⟩,0⟩):=bo
  obtain⟨b3,o3,c,W,X,Y⟩:=bI.at P.columns hc;have g:=bad i T
  have u:Dl d.key (d.columns.getD i ⟨⟨#[]⟩,0⟩).kind i (r.getD i zeroV)=true->∀j,j<i+1->Dl d.key (d.columns.getD j ⟨⟨#[]⟩,0⟩).kind j (r.getD j zeroV)=true:=λF j S=>by
   grind
  generalize r.getD i zeroV=x at g u G hx;rw[Y]at g u;have go:Dl d.key c.kind i x=true->∃z:Nat×dE×Sl×MH×PH,(z.2.1=n/\z.2.2.1=A/\z.2.2.2.1=m'/\z.2.2.2.2=h'/\z.1<=r.length/\∀j,j<z.1->Dl d.key (d.columns.getD j ⟨⟨#[]⟩,0⟩).kind j (r.getD j zeroV)=true)/\r.length-z.1<r.length-i/\z=(i+1,n,A,m',h'):=λF=>⟨_,⟨rfl,rfl,rfl,rfl,aD,u F⟩,aD,rfl⟩
  refine⟨b2,o2,U,aD,aD,x,.imm G,x,rfl,aC (λev=>g ?_) (λev=>?_)⟩
  .have ev:nI x=false:=bo
   simp[Dl,ev]
  have ev:nI x=true:=bo
  refine⟨λz=>z=(i,n,x,A,(x.kind==2&&decide ((i:Int)>=n.key)),m',h'),aC (λf=>⟨_,rfl,by rw[f];exact MT⟩) (λf=>⟨_,rfl,by rw[f];exact MT⟩),?_⟩;rintro _ rfl;dsimp only;refine⟨λz=>z=(i,n,x,A,(x.kind==2&&decide ((i:Int)>=n.key)),(x.kind==1&&decide ((i:Int)>=n.key)),m',h'),aC (λf=>⟨_,rfl,by rw[f];exact MT⟩) (λf=>⟨_,rfl,by rw[f];exact MT⟩),?_⟩;rintro _ rfl;dsimp only
  have D:Dl d.key c.kind i x=(x.kind==c.kind||((x.kind==2&&decide ((i:Int)>=n.key))||(x.kind==1&&decide ((i:Int)>=n.key)))):=by
   rw[hk];simp only[Dl,ev,Bool.true_and,ge_iff_le,Bool.and_or_distrib_right]
  generalize a5:(x.kind==2&&decide ((i:Int)>=n.key))=B1 at D⊢
  generalize a6:(x.kind==1&&decide ((i:Int)>=n.key))=B2 at D⊢
  refine⟨b3,o3,W,aD,aD,c.kind,.imm (bU.part X 1 1),aC (λI=>aC (λJ=>aC (λe5=>g ?_) (λe5=>?_)) (λJ=>?_)) (λI=>?_)⟩
  .grind
  all_goals
   obtain⟨_,g1,g2,rfl⟩:=go (by rw[D];simp_all);refine⟨_,g1,g2,?_⟩;dsimp only;rw[fR (by have:=bI.len O;omega)];exact MT
 .have:Hs d r=true:=H9.2 ⟨Q,λj S=>B j aD⟩;rw[this]at C;exact C
theorem a6Z:cz 94 aRQ:=by
 refine gW func94 ?_;rintro C m h K ⟨v,s,t,x,r,rfl,z,n,A⟩;refine⟨cZ [] [] [] [] false,rfl,aI,Xz v t x m h K,bh,?_⟩;dsimp only[Xz,push_cast];have D:=z.tables.slen;have d:=bI.slen n;have c:Be s t=false->K Dn m h:=λe=>A ⟨none,0,0⟩ (by simp only[L7,e];exact bI.nil _ _ _ _);refine aF (λE=>c (by simp[Be];omega)) (λE=>aF (λF=>c (by simp[Be];omega)) (λF=>?_));have e:Be s t=true:=by simp[Be];omega
 obtain⟨f,g⟩:∃f,s.tables[t.toNat]? =some f:=⟨_,cd aD⟩
 obtain⟨b,o,y,G,rd,H⟩:=bI.at z.tables g;have L:=H.key;obtain⟨a,len,j⟩:=x;have B:len<=j:=by obtain⟨M,I,_⟩:=n.ex;exact I.cap
 have d:len=r.length:=d
 have u:(if(if(len:Int)<y.key then(len:Int)else y.key)>0 then(if(len:Int)<y.key then(len:Int)else y.key)else 0)=max 0 (min f.key r.length):=by
  omega
 refine⟨b,o,G,aD,aD,y.key,.imm (bU.part rd 2 1),?_⟩;dsimp only;rw[u];refine⟨aD,aD,A ⟨a,(max 0 (min f.key r.length)).toNat,j⟩ ?_⟩;have J:L7 s t r=r.take (max 0 (min f.key r.length)).toNat:=by simp only[L7,e,if_true,g];rfl
 rw[J];exact n.cut aD
theorem Jm{t:Nat}{c}(h:s.tables[t]? =some c) r:L7 s t r=oW c r:=by
 have:t<s.tables.length:=(bz h);have e:Be s (t:Int)=true:=by simp[Be];omega
 simp only[L7,e,if_true,Int.toNat_natCast,h]
theorem aIJ{t:Nat}{c}(h:s.tables[t]? =some c) r:a4J s t r=Hs c r:=by
 have:t<s.tables.length:=(bz h);have e:Be s (t:Int)=true:=by simp[Be];omega
 exact Xv (bx h) e
theorem bcJ:cz 49 OQ:=by
 refine gW func49 ?_;rintro a9 m h K ⟨v,s,W,F,rfl,J,X,Y,d⟩;refine⟨cqZ v W m h,rfl,aE a7X (aE a7Q (aE a6J (aE a6Z (aE Fy aI)))),XV v W m h K,bh,?_⟩;dsimp only[XV,push_cast];have b':=J.tables.slen;have Z:=bI.slen X;unfold lC at d;refine⟨v,s,rfl,J,aC (λe=>?_) (λe=>⟨W,F,rfl,X,Y,aF (λG=>?_) (λG=>aC (λe3=>?_) (λe3=>?_))⟩)⟩
 .rw[if_pos (bx e)]at d;exact d
 all_goals rw[if_neg (bx e)]at d
 .rw[if_pos (by unfold AP at G;omega)]at d;exact d
 all_goals rw[if_neg (by unfold AP at G;omega)]at d
 .rw[if_pos bo]at d;exact d
 have L:F.length=s.tables.length:=bo
 rw[if_neg (by simp[L])]at d;have bad:¬P8 s F->K (cI 80) m h:=λhb=>bo
 refine⟨λi=>i<=F.length/\∀(j:Nat) t l,j<i->s.tables[j]? =some t->F[j]? =some l->aDZ t l,λi=>F.length-i,⟨0,⟨bi,λj t l hj=>by omega⟩,MT⟩,?_⟩;rintro i ⟨hi,M⟩;refine aF (λa'=>?_) (λb0=>?_)
 .obtain⟨l,hx⟩:=dW Z a';obtain⟨b,o,u,ea,rd,H⟩:=bI.at X hx;have a0:=bI.slen H;have b1:=bI.len H;obtain⟨x,c⟩:∃x,s.tables[i]? =some x:=⟨_,cd aD⟩
  have y:¬aDZ x l->K (cI 80) m h:=λhb=>bad λf=>hb (f i x l c hx);refine⟨b,o,ea,aD,aD,u,.imm rd,λz=>z.1=i/\z.2.1=u/\z.2.2<=l.length/\(∀k r,k<z.2.2->l[k]? =some r->Hs x r=true)/\∀k r I,k+1<z.2.2->l[k]? =some r->l[k+1]? =some I->eC (oW x r) (oW x I)<0,λz=>l.length-z.2.2,⟨(i,u,0),⟨rfl,rfl,bi,λk r C=>by simp at C,λk r I C=>by simp at C⟩,MT⟩,?_⟩;rintro⟨D,u',j⟩ ⟨e1,G,hj,A,B⟩;dsimp only at e1 G hj A B⊢
  subst e1 G;refine aF (λO=>?_) (λa8=>?_)
  .obtain⟨r,P⟩:=dW a0 O;obtain⟨b2,o2,w,a1,a2,hv⟩:=bI.at H P;refine⟨b2,o2,a1,aD,aD,w,.imm a2,v,s,D,w,r,rfl,J,hv,aC (λU=>y λf=>?_) (λU=>?_)⟩
   .rw[aIJ c,f.1 r (ce P)]at U;cases U
   have hf:Hs x r=true:=by rw[aIJ c]at U;grind
   have g:∀k r,k<j+1->l[k]? =some r->Hs x r=true:=λk I C b4=>by
    grind
   refine aF (λa3=>?_) (λa3=>?_)
   .have hw:IntKind.i64.wrap ((j:Int)-1)=((j-1:Nat):Int):=by rw[eM aD aD];omega
    obtain⟨V,Q⟩:∃V,l[j-1]? =some V:=⟨_,cd aD⟩
    obtain⟨b3,o3,w3,a4,E,a5⟩:=bI.at H Q;rw[hw];refine⟨b3,o3,a4,aD,aD,w3,.imm E,v,s,D,w3,V,rfl,J,a5,λs1 a6=>⟨E,v,s,D,w,r,rfl,J,hv,λs2 a7=>⟨E,s1,s2,_,_,rfl,a6,a7,aF (λhc=>y λf=>?_) (λhc=>?_)⟩⟩⟩
    .rw[Jm c,Jm c]at hc;have:=f.2 (j-1) V r Q bo;omega
    .rw[Jm c,Jm c]at hc;refine⟨(D,u',j+1),⟨rfl,rfl,bo,g,λk r1 r2 C R S=>?_⟩,bo,?_⟩
     .grind
     .dsimp only;rw[fR aD];exact MT
   .refine⟨(D,u',j+1),⟨rfl,rfl,bo,g,λk r1 r2 C R S=>bo⟩,bo,?_⟩;dsimp only;rw[fR aD];exact MT
  .refine⟨D+1,⟨aD,λk t l' C ht T=>?_⟩,aD,?_⟩
   .by_cases e5:k=D
    .subst e5;rw[c]at ht;cases ht;rw[hx]at T;cases T;refine⟨λr H=>?_,λk r I R S=>B k r I ?_ R S⟩
     .obtain⟨n,Y,rfl⟩:=mem_iff_getElem.1 H;exact A n _ aD (cd Y)
     grind
    grind
   .rw[fR aD];exact MT
 .rw[if_pos]at d
  .exact d
  .exactλj t l R S=>M j t l bo R S
def Im:=λc m h K=>∃sc p v s ps q,c=[aS sc,cS p,aQ v]/\iC h s sc/\Ints h p ps/\cY h q v/\sJ q=true/\KR K m h (fG s ps q)
noncomputable def bFJ p N:={vO [(73,DA),(74,aOJ),(75,Hd N)] [(5,{A:=Nat×Nat×Nat×Nat×Nat×MH×PH,st:=λ⟨i,a,b,c,d,m,h⟩=>bS 53 56 [(1,sv p),(3,vv (.pointer (some ⟨a,0,none⟩))),(5,vv (.pointer (some ⟨b,0,none⟩))),(6,vv (.pointer (some ⟨c,0,none⟩))),(7,vv (.pointer (some ⟨d,0,none⟩))),(18,sv p),(19,iv p.len),(20,iv i)] [] m h})] [] [] [200003,200005,200006,200007,200011,0] [] false with elemT:=[3,41]}
abbrev Lh(a:MH)(b:PH)(c:Nat)(d:cK->Prop):=∃(x:cK),aL a b c 0 (lE (pS x) (pR x))/\d x
noncomputable abbrev lK(a:Nat×Nat×Nat×Nat×Nat×MH×PH):=a.2.2
noncomputable abbrev j6(a:Nat×Nat×Nat×MH×PH):=a.2.1
noncomputable abbrev vG a:=j6 (lK a)
noncomputable abbrev qG(a:Nat×Nat×Nat×MH×PH):=a.2.2
noncomputable abbrev kZ a:=(qG a).1
noncomputable abbrev vH a:=kZ (lK a)
noncomputable abbrev gT a:=jI (qG a)
noncomputable abbrev oT a:=oD (qG a)
abbrev Pt a b c:=j4 (bG a) (fU (bC b.1 1)=bP c.1) (cN (oT (lK b)) (qG (lK c)).2) (gT (lK b)) (gT (lK c))
attribute [push_cast] Lh lK j6 vG qG kZ vH gT oT Pt
def Nn(sc:cK)(p:Sl)(v:QV)(N:Nat)(m:MH)(h:PH)(K:da):=
  lG m h (λb G=>iR m G b (lE (pS sc) (pR sc)) 27) (λb G=>lG G h (λL H=>iR G H L v.enc 41) (λL H=>lG H h (λD J=>iR H J D j5 36) (λD J=>lG J h (λE F=>iR J F E CZ 46) (λE F=>Lh F h b (λy=>Lg y h (λs=>dH (eX s) 0 (oG F D rU (λt=>oG t E (eH (eX s)) (λf=>kW f h D 0 (λg=>∃(j:Int),aL f h E 0 (bM j)/\iP K g j f h)))) (∃(I:Nat×Nat×Nat×Nat×Nat×MH×PH->Prop)(t:Nat×Nat×Nat×Nat×Nat×MH×PH->Nat),(∃(x:Nat×Nat×Nat×Nat×Nat×MH×PH),aA (I x) (aJ p) (aA (dK b x.2.1) (dK L (lK x).1) (aA (dK D (vG x)) (dK E (vH x)) (aA (aJ p) (bG p) (aH (bA x.1) (cN F (qG (lK x)).2) (h=gT (lK
 x)) True)))))/\∀(x:Nat×Nat×Nat×Nat×Nat×MH×PH),I x->aZ (↑x.1:Int) (aG p) (bF (λn o=>aH (aM p.a n o) (0<=(↑x.1:Int)) ((↑x.1:Int)<aG p) (∃(g:Int),aL (oT (lK x)) (gT (lK x)) n (bK o x.1 1) (bM g)/\dH g 3 (dH g 4 (dH g 5 (oG (oT (lK x)) (vG x) rU (λf=>oG f (vH x) (eH 1) (λA=>kW A (gT (lK x)) (vG x) 0 (λj=>∃(u:Int),aL A (gT (lK x)) (vH x) 0 (bM u)/\iP K j u A (gT (lK x)))))) (∃(c:Nat×Nat×Nat×Nat×Nat×MH×PH),aA (I c) (t c<t x) (aA (aJ p) (dK x.2.1 c.2.1) (aA (dK (lK x).1 (lK c).1) (dK (vG x) (vG c)) (aA (dK (vH x) (vH c)) (aJ p) (Pt p x c)))))) (∃(c:Nat×Nat×Nat×Nat×Nat×MH×PH),
 aA (I c) (t c<t x) (aA (aJ p) (dK x.2.1 c.2.1) (aA (dK (lK x).1 (lK c).1) (dK (vG x) (vG c)) (aA (dK (vH x) (vH c)) (aJ p) (Pt p x c)))))) (∃(c:Nat×Nat×Nat×Nat×Nat×MH×PH),aA (I c) (t c<t x) (aA (aJ p) (dK x.2.1 c.2.1) (aA (dK (lK x).1 (lK c).1) (dK (vG x) (vG c)) (aA (dK (vH x) (vH c)) (aJ p) (Pt p x c)))))))) (lG (oT (lK x)) (gT (lK x)) (λn f=>iR (oT (lK x)) f n CZ 3) (λn f=>oG f n dD (λA=>∃(g:QV),aL A (gT (lK x)) (lK x).1 0 g.enc/\∃(O:QV),lB (iQ g=iQ O) (λP=>∀(B:PH),bY (gT (lK x)) B (bU B P 0 O.enc) (∃(S:PH->dc->List dc->Prop)(c:List (Int×QV))(I1:Nat
 ->MH->PH->Prop),aA (Si Proofs.Tryz.prog 139 S) (S B (lJ (vQp P 0)) (List.map (fun(Q:Int×QV)=>lE (eH Q.1) (Value.agg (Array.mk Q.2.enc))) c)) (aA (I1 0 A B) (∀(k:Nat)(e:Int)(T:QV),iG (λz d=>c[k]? =Option.some (e,T)->PH.le B d->I1 k z d->∃(j:Int),aL z d n 0 (bM j)/\oG z n (eH (kE (j+1))) (λC=>∃(u:Int),aL C d n 0 (bM u)/\qE (decide (u>24)) (oG C (vG x) rU (λa=>oG a (vH x) (eH 2) (λ_=>False))) e 8 (oG C (vG x) rU (λa=>oG a (vH x) (eH 2) (λ_=>False))) (I1 (k+1) C d)))) (iG (λz d=>bY B d (I1 c.length z d) (Lh z d x.2.1 (λj=>∃(u:QV),aL z d (lK x).1 0 u.enc/\La j p u d N (λU V q W M=>oG z (vG x) (gP W) (λC=>oG C
 (vH x) (eH (aK U V q).2) (λa=>kW a M (vG x) 0 (λX=>∃(R:Int),aL a M (vH x) 0 (bM R)/\iP K X R a M)))))))))))))))))))))
mutual
theorem RP:∀(p:Query)(n:Nat),vM p n=false->Ie p<=n
 |.mk _ _ _ _ _ _ _ _ args,0,h=>by simp[vM]at h
 |.mk _ _ _ _ _ _ _ _ args,n+1,h=>by
  simp only[vM]at h;have:=OJ args n h;simp only[Ie];omega
theorem OJ:∀(ps:dl)(n:Nat),DQ ps n=false->DP ps<=n
 |[],_,_=>by simp[DP]
 |p::ps,n,h=>by
  simp only[DQ,Bool.or_eq_false_iff]at h;have c:=RP p n h.1;have d:=OJ ps n h.2;simp only[DP];omega
end
mutual
theorem Dp.deep{h:PH}:∀{q:Query}{v:QV}{d:Nat}{es:eh},Dp h q v d es->∀e∈es,e.1<d+Ie q
 |.mk op ta _ _ _ _ _ _ args,v,d,es,w,e,c=>by
  rw[Dp]at w;obtain⟨j,f,n,g,rfl⟩:=w;simp only[Ie];rcases mem_cons.1 c with rfl|c
  .omega
  .have:=mV.deep g e c;omega
theorem mV.deep{h:PH}:∀{f:dl}{vs:dw}{d:Nat}{es:eh},mV h f vs d es->∀e∈es,e.1<d+DP f
 |[],vs,d,es,w,e,c=>by rw[mV]at w;grind
 |q::f,vs,d,es,w,e,c=>by
  rw[mV]at w;obtain⟨v,g,o,t,u,x,j,n,rfl⟩:=w;simp only[DP];rcases mem_append.1 c with c|c
  .have:=Dp.deep j e c;omega
  .have:=mV.deep n e c;omega
end
theorem buQ{m g:MH}{h f:PH}{c d z A sl e K}(j:c≠d)(G:m c=none)(H:m d=none)(B:g c=some (.cells #[z] 36 (0,0)))(C:g d=some (.cells #[A] 46 (0,0)))(s:Sub m g)(le:PH.le h f)(D:K (.tup [cS sl,cI e]) m f):
 ∃(cs:Array Value)(E:TypeId),Ze g c (.cells cs E (0,0))/\0<cs.size/\∀m':MH,pO g m' c (.cells (Array.mk (gP sl::cs.toList.drop 1)) E (0,0))->∃(cs:Array Value)(E:TypeId),Ze m' d (.cells cs E (0,0))/\0<cs.size/\∀m2:MH,pO m' m2 d (.cells (Array.mk (eH e::cs.toList.drop 1)) E (0,0))->∃y:Sl,aL m2 f c 0 [gP y]/\∃x:Int,aL m2 f d 0 [eH x]/\fV h K (.tup [cS y,cI x]) m2 f:=by
 refine⟨_,_,⟨B⟩,bi,λI n=>⟨_,_,⟨by rw[n.other d (Ne.symm j)];exact C⟩,bi,λm2 t=>⟨sl,.of_m (by rw[t.other c j];exact n.at_) rfl,e,.of_m t.at_ rfl,λ_=>⟨m,f,λb o u=>?_,le,λb i v u=>.inl u,D⟩⟩⟩⟩;rw[t.other b (λF=>bo),n.other b (λF=>bo)];exact s b o u
theorem c1X{f fn}(n:Tryz.prog.funcs[f]? =some fn){S}(j:∀c m h K,S c m h K->∃C:Ctx,C.P=Tryz.prog/\(∀g S,assoc C.specs g=some S->cz g S)/\∃N:Prop,N=bCJ C fn (dQ fn) (entry fn.ntmps c m h) (fV h K)/\N)(o:fn.body=some (dQ fn):=by rfl)(d:(fn.name== "runtime.NumGoroutine")=false:=by decide):cz f S:=ZV n o d λc m h K t=>let⟨C,hC,hs,N,e,hn⟩:=j c m h K t;⟨C,hC,hs,e▸hn⟩
theorem Rn:cz 37 Im:=by
 refine c1X func37 ?_;rintro a8 m h K ⟨sc,p,v,s,ps,q,rfl,hs,W,hq,n,t⟩;refine⟨bFJ p (SizeOf.sizeOf q+1),rfl,aE Nj (aE ZW (aE (bbX _) aI)),Nn sc p v (SizeOf.sizeOf q+1) m h (fV h K),bh,?_⟩;show Nn sc p v (SizeOf.sizeOf q+1) m h (fV h K);dsimp only[Nn,push_cast];have hl:=W.slen;have a4:=W.len;have a9:=SQ n;have b':Ie q<=8:=RP q 8 (by simp only[sJ,cm,Bool.not_eq_true']at n;exact n.2);unfold fG at t;rw[if_pos n]at t;intro D m1 u1 w1 E m2 u2 w2 B m3 u3 X C y Y O;obtain⟨s1,n3⟩:=yH (Sub.refl m) u1 w1;obtain⟨s2,n5⟩:=yH s1 u2 w2;obtain⟨s3,n6⟩:=yH s2 u3 X;obtain⟨s4,n7⟩:=yH s3 Y O;have F:∀{Z mb:MH}{b:Nat}{o:Obj}{hh:PH},rT Z hh b->pO Z mb b o->∀{x g},Z x=some g->mb x=some g:=fun{Z mb b o hh} u w{x g} e=>by rw[w.other x (λL=>by rw[L,u.m_]at e;cases e)];exact e
 have a3:=F Y O (F u3 X (F u2 w2 w1.at_));have a5:=F Y O (F u3 X w2.at_);have a6:=F Y O X.at_;have a7:=O.at_;have G:B≠C:=λe=>bo
 refine⟨sc,.of_m a3 rfl,sc,s,rfl,hs,aC (λh1=>?_) (λh1=>?_)⟩
 .rw[if_neg bo]at t;exact buQ (sl:=cG) G n6 n7 a6 a7 s4 (.refl _) (t cG h (.refl _) (oX h))
 have h1:eX s=0:=bo
 rw[if_pos h1]at t;refine⟨λz=>z.2=(D,E,B,C,y,h)/\z.1<=ps.length/\(ps.take z.1).all gI=true,λz=>ps.length-z.1,⟨(0,D,E,B,C,y,h),⟨rfl,bi,bi⟩,MT⟩,?_⟩;rintro⟨i,z⟩ ⟨ez,hi,c⟩;dsimp only at ez hi c;subst ez;dsimp only;refine aF (λP=>?_) (λb0=>?_)
 .obtain⟨x,M⟩:=dW hl P;obtain⟨b,o,e,r⟩:=W.at' M;have Q:gI x=true->(ps.take (i+1)).all gI=true:=λhc=>by rw[Cd M,c,hc];rfl
  have R:IntKind.i64.wrap ((i:Int)+1)=((i+1:Nat):Int):=fR aD;have go:gI x=true->((i+1,D,E,B,C,y,h):Nat×Nat×Nat×Nat×Nat×MH×PH).2=(D,E,B,C,y,h)/\i+1<=ps.length/\(ps.take (i+1)).all gI=true:=λhc=>⟨rfl,aD,Q hc⟩
  rw[R];refine⟨b,o,e,aD,P,x,.imm r,aC (λc1=>aC (λc2=>aC (λc3=>?_) (λc3=>⟨(i+1,D,E,B,C,y,h),go ?_,aD,MT⟩)) (λc2=>⟨(i+1,D,E,B,C,y,h),go ?_,aD,MT⟩)) (λc1=>⟨(i+1,D,E,B,C,y,h),go ?_,aD,MT⟩)⟩
  .have:gI x=false:=by simp_all [gI]
   rw[if_neg (λe=>bo)]at t;exact buQ (sl:=cG) G n6 n7 a6 a7 s4 (.refl _) (t cG h (.refl _) (oX h))
  .simp_all [gI]
  .simp_all [gI]
  .simp_all [gI]
 rw[ci aD]at c;rw[if_pos c]at t;intro A m5 u5 w5;refine⟨_,_,⟨w5.at_⟩,bi,λm6 w6=>?_⟩
 have k6:∀{x g},y x=some g->m6 x=some g/\x≠A:=fun{x g} e=>by
  have:x≠A:=λL=>by rw[L,u5.m_]at e;cases e
  exact⟨by rw[w6.other x this];exact F u5 w5 e,this⟩
 refine⟨v,.of_m (k6 a5).1 rfl,v,rfl,λbw a' f a0=>?_⟩;obtain⟨es,R⟩:=Dp.of (hq.mono f) 1;have b1:=R.small;have H:=R.deep;refine⟨V7,es.map λe=>((e.1:Int),e.2),λk S M=>M=a'/\c8Z m6 S A/\S A=some (.cells #[eH (k:Nat)] 3 (0,0)),chZ,⟨bw,v,q,es,rfl,a0,R,aD,by rw[map_map];rfl⟩,⟨rfl,λx o e _=>e,w6.at_⟩,?_,?_⟩
 .rintro k d e' S M hk-⟨rfl,I,j⟩
  rw[getElem?_map]at hk;cases J:es[k]? with
  |none=>grind
  |some e=>
   rw[J]at hk;simp only[Option.map_some,ck,Prod.mk.injEq]at hk;obtain⟨rfl,rfl⟩:=hk;have b2:=(bz J);have b4:=H e (ce J);have T:IntKind.i64.wrap ((k:Int)+1)=((k+1:Nat):Int):=fR aD;refine⟨k,.of_m j rfl,_,_,⟨j⟩,bi,λm7 w7=>⟨((k+1:Nat):Int),?_,aF (λa1=>by omega) (λ_=>aF (λa1=>by omega) (λ_=>⟨rfl,λx o e1 L=>by rw[w7.other x L];exact I x o e1 L,?_⟩))⟩⟩
   .rw[<-T];exact .of_m w7.at_ rfl
   .rw[<-T];exact w7.at_
 .rintro S M-⟨rfl,I,j⟩
  have U:∀{x g},y x=some g->S x=some g:=fun{x g} e=>I x g (k6 e).1 (k6 e).2;refine⟨sc,.of_m (U a3) rfl,v,.of_m (U a5) rfl,sc,p,v,s,ps,q,rfl,hs.mono f,DF h1,W.mono f,hq.mono f,aD,λsl h7 V a2=>?_⟩;exact buQ G n6 n7 (U a6) (U a7) (λx o e=>U (s4 x o e)) (f.trans V) (t sl h7 (f.trans V) a2)
structure Cu(h:PH)(sl:Sl)(st:List de):Prop where
 lea:Leaves h sl st
 len:st.length<=1000
 val:StV st
theorem Cu.mono{sl st}(x:Cu h sl st)(le:PH.le h h'):Cu h' sl st:=⟨bI.mono x.lea le λl s c=>bI.mono c le λr t d=>bR.mono d le,x.len,x.val⟩
mutual
theorem Dt:∀q:Query,(eY q).length<=kF q
 |.mk op ta _ _ _ _ _ _ args=>by
  have:=Qi args;rw[eY,kF,cg]
  grind
theorem Qi:∀c:dl,(eN c).length<=kC c
 |[]=>by simp[eN,kC]
 |q::c=>by
  have:=Dt q;have:=Qi c;rw[eN,kC,cg];omega
end
def Wn:Vc.Spec:=λc m h K=>∃s r,c=[cS s]/\bR h s r/\r.length<=1000/\∀d h',PH.le h h'->bR h' d r->K (cS d) m h'
def b7Z:Vc.Spec:=λc m h K=>∃v s t d r,c=[aS v,cI t,cS d]/\iC h s v/\bR h d r/\r.length<=1000/\∀e h',PH.le h h'->bR h' e (L7 s t r)->K (cS e) m h'
def Wk(key:Int)(ks:db)(r:dj):=r.length=ks.length/\(∀v∈r,NX v)/\∀(i:Nat) v k,r[i]? =some v->ks[i]? =some k->Dl key k i v=true
def c3X:Vc.Spec:=λc m h K=>∃cb s key ks,c=[cP cb,cS s,cI key,cI 3]/\bE m h cb/\Ints h s ks/\ks.length<=1000/\(∀k∈ks,k=3\/k=4\/k=5)/\∀d r m' h',PH.le h h'->bR h' d r->Wk key ks r->bT m m' cb->bE m' h' cb->K (cS d) m' h'
def bpX(m:MH)(d:Nat)(us:dg):=∃c:Array Value,m d=some (.cells c 58 (0,0))/\us.length<=c.size/\c.toList.take us.length=us.map Sl.val
def c3Z:Vc.Spec:=λg m h K=>∃v s c n d f u,∃t:Nat,∃e rs j o x row,g=[aS v,Zm ⟨some ⟨c,0,none⟩,n,d⟩,cI t,cS j,cS x]/\iC h s v/\s.tables[t]? =some e/\bpX m c f/\n=f.length/\f[t]? =some u/\Rows h u rs/\rs.length<=1000/\(∀r∈rs,r.length<=1000)/\bR h j o/\bR h x row/\0<row.length/\row.length<=1000/\
 ∀y m' h',PH.le h h'->Rows h' y (DG e o row false rs)->bpX m' c (f.set t y)->bT m m' c->K (Zm ⟨some ⟨c,0,none⟩,n,d⟩) m' h'
noncomputable def crJ cb key s:=cZ [(25,U4),(88,V9)] [(3,{A:=Nat×dj×MH×PH,st:=λ⟨i,l,m,h⟩=>bS 59 63 [(0,pv cb),(2,iv key),(3,iv 3),(9,.at (.lst 24)),(12,sv s),(13,iv s.len),(14,iv i)] [(24,.lst 30 3 (l.map VV.enc))] m h})] [] [] false
noncomputable def crQ(v:cK)(sl:Sl)(t:Nat)(f g:Sl)(m:MH):=cZ [(47,b7Z),(55,FL),(58,Wn)] [(4,{A:=Nat×dg×Bool×Sl×PH,st:=λ⟨i,e,d,u,h⟩=>bS 66 71 [(2,iv t),(3,sv f),(4,sv g),(5,.at (.ptr 5 0)),(6,.at (.ptr 6 0)),(10,.at (.ptr 10 0)),(11,.at (.lst 45)),(12,bv d),(23,sv u),(24,iv u.len),(25,iv i)] [(5,.cells 27 (v.enc.map .val)),(6,.cells 52 [.val sl.val]),(10,.cells 52 [.val cG.val]),(45,.lst 65 1 (e.map eS))] m h})] [(9,{A:=Nat×dg×Bool×Sl×Sl×Int×PH,st:=λ⟨i,e,d,u,r,c,h⟩=>bS 66 71 [(2,iv t),(3,sv f),(4,sv g),(5,.at (.ptr 5 0)),(6,.at (.ptr 6 0)),(10,.at (.ptr 10 0)),(11,.at (.lst 45)),(12,bv d),(14,sv r),(15,iv c),(23,sv u),(24,iv u.len),(25,iv i)] [(5,.cells 27 (v.enc.map .val)),(6,.cells 52 [.val sl.val]),(10,.cells 52 [.val cG.val]),(45,.lst 65 1 (e.map eS))] m h}),
 (14,{A:=dg×PH,st:=λ⟨e,h⟩=>bS 66 71 [(2,iv t),(6,.at (.ptr 6 0)),(10,.at (.ptr 10 0)),(11,.at (.lst 45))] [(6,.cells 52 [.val sl.val]),(10,.cells 52 [.val cG.val]),(45,.lst 65 1 (e.map eS))] m h})] [] false
def ak(s:Sl)(m:MH)(h:PH)(K:da):=
  ∃(y:List dc),aA (eU 3 y) (cO h (Sl.mk s.a s.len s.cap) 3 y) (aA (y9 y 32) (zA y) (bN h 3 y (λc d=>K (cM c) m d)))
abbrev DJ(a:dj):=oV a.length
attribute [push_cast] DJ
def XW(v:cK)(t:Int)(s:Sl)(m:MH)(h:PH)(K:da):=
  aZ t 0 (K Dn m h) (gQ t (kI v) (K Dn m h) (Pu v t (λb o y=>aH (aL m h b (fF o t 5+2) (bM y)) (0<=ite (sB s y>0) (sB s y) 0) (Da (ite (sB s y>0) (sB s y) 0) s) (Co (λd r=>aH (pN (CV.val (Value.slice s.a (ite (sB s y>0) (sB s y) 0).toNat s.cap))=gK d) (bR h d r) (DJ r) (fB (λe c=>bY h c (bR c e r) (K (cM e) m c))))))))
noncomputable abbrev tH(a:Nat×dj×MH×PH):=uT a.2.1
noncomputable abbrev vW(a:Nat×dj×MH×PH):=a.2.2
noncomputable abbrev lV a:=(vW a).2
abbrev Ej(a:Nat×dj×MH×PH)(b:Nat×dj×MH×PH->Prop)(c:Nat×dj×MH×PH->Nat)(d:Nat)(e:Int)(g:Sl)(i:(Nat×dj×MH×PH)->Prop):=aA (iK (mO (tH a) 1*32)) (mR (tH a)) (∃(x:Nat×dj×MH×PH),aA (b x) (c x<c a) (aA (dL d) (iW e) (aA mY (eL 24) (aA (aJ g) (bG g) (i x)))))
attribute [push_cast] tH vW lV Ej
def XZ(cb:Nat)(s:Sl)(key:Int)(m:MH)(h:PH)(K:da):=
  ∃(I:Nat×dj×MH×PH->Prop)(g:Nat×dj×MH×PH->Nat),(∃(x:Nat×dj×MH×PH),aA (I x) (dL cb) (aA (iW key) mY (aA (eL 24) (aJ s) (aA (bG s) (bA x.1) (aH (oH 30 3 (bW 30 3 (tH x))) (cN m (vW x)) (h=lV x) True)))))/\∀(x:Nat×dj×MH×PH),I x->aZ (↑x.1:Int) (aG s) (bF (λb o=>aH (aM s.a b o) (0<=(↑x.1:Int)) ((↑x.1:Int)<aG s) (∃(y:Int),aL (vW x).1 (lV x) b (bK o x.1 1) (bM y)/\cW (decide ((↑x.1:Int)>=key)) (pC cb 5 (vW x).1 (lV x) (λc r=>∀(e:MH),bT (vW x).1 e c->bE e (lV x) c->cW r (Ej x I g cb key s (λd=>j4 (fU (bC x.1 1)=bP d.1) (bW 30 3 (iT (tH x) (aU (eH 2) dD (lJ Sv)))=bW 30 3 (tH d)) (cN e (vW d)) (lV x)
 (lV d))) (decide ((↑x.1:Int)>=key)) (pC cb 5 e (lV x) (λj n=>∀(f:MH),bT e f j->bE f (lV x) j->branch n (Ej x I g cb key s (λd=>j4 (fU (bC x.1 1)=bP d.1) (bW 30 3 (iT (tH x) (aU (eH 1) dD (lJ Sv)))=bW 30 3 (tH d)) (cN f (vW d)) (lV x) (lV d))) (Ge cb y f (lV x) (λv t=>Ej x I g cb key s (λd=>j4 (fU (bC x.1 1)=bP d.1) (bW 30 3 (iT (tH x) v.enc)=bW 30 3 (tH d)) (cN t (vW d)) (lV x) (lV d)))))) (Ge cb y e (lV x) (λv f=>Ej x I g cb key s (λd=>j4 (fU (bC x.1 1)=bP d.1) (bW 30 3 (iT (tH x) v.enc)=bW 30 3 (tH d)) (cN f (vW d)) (lV x) (lV d)))))) (decide ((↑x.1:Int)>=key)) (pC cb 5 (vW x).1 (lV x)
 (λc r=>∀(e:MH),bT (vW x).1 e c->bE e (lV x) c->branch r (Ej x I g cb key s (λd=>j4 (fU (bC x.1 1)=bP d.1) (bW 30 3 (iT (tH x) (aU (eH 1) dD (lJ Sv)))=bW 30 3 (tH d)) (cN e (vW d)) (lV x) (lV d))) (Ge cb y e (lV x) (λv f=>Ej x I g cb key s (λd=>j4 (fU (bC x.1 1)=bP d.1) (bW 30 3 (iT (tH x) v.enc)=bW 30 3 (tH d)) (cN f (vW d)) (lV x) (lV d)))))) (Ge cb y (vW x).1 (lV x) (λv e=>Ej x I g cb key s (λd=>j4 (fU (bC x.1 1)=bP d.1) (bW 30 3 (iT (tH x) v.enc)=bW 30 3 (tH d)) (cN e (vW d)) (lV x) (lV d))))))) (bN (lV x) 3 (tH x) (λu z=>K (cM u) (vW x).1 z))
noncomputable abbrev Ev(a:Nat×dg×Bool×Sl×PH):=a.2.2.1
noncomputable abbrev rZ(a:Nat×dg×Bool×Sl×PH):=a.2.2.2.1
abbrev BU a:=eQ (oQ 52 (nR a))
abbrev wU:=BU Ht
noncomputable abbrev BM(a:Nat×dg×Bool×Sl×PH):=a.2.2.2.2
abbrev Gi(a:Sl)(b:Nat->Nat->Option Value)(c:Sl->PH->Prop):=Co (λx d=>aH (gK a=gK x) (bR b x d) (DJ d) (fB (λf e=>bY b e (bR e f d) (c f e))))
abbrev Pv(a:(Nat×dg×Bool×Sl×Sl×Int×PH)->Prop)(b:Nat)(c d:Sl)(e:(Nat×dg×Bool×Sl×Sl×Int×PH)->Prop):=∃(x:Nat×dg×Bool×Sl×Sl×Int×PH),aA (a x) (eQ (bP b)) (aA (aJ c) (aJ d) (aA dU (eP 6) (aA oB (eL 45) (e x))))
noncomputable abbrev LI(a:Nat×dg×Bool×Sl×Sl×Int×PH):=a.2.2.2.2.1
noncomputable abbrev LH(a:Nat×dg×Bool×Sl×Sl×Int×PH):=a.2.2.2.2.2.1
noncomputable abbrev Ax(a:Nat×dg×Bool×Sl×Sl×Int×PH):=a.2.2.2.1
noncomputable abbrev IX(a:Nat×dg×Bool×Sl×Sl×Int×PH):=a.2.2.2.2.2.2
attribute [push_cast] Ev rZ BU wU BM Gi Pv LI LH Ax IX
def XX(v:cK)(f n d t:Nat)(u j:Sl)(m:MH)(h:PH)(K:da):=
  bF (λb o=>aH (aM (pB f) b o) (0<=(↑t:Int)) ((↑t:Int)<(↑n:Int)) (∃(y:Sl),aL m h b (bK o t 1) (bH y)/\∃(I:Nat×dg×Bool×Sl×PH->Prop)(C:Nat×dg×Bool×Sl×PH->Nat),(∃(x:Nat×dg×Bool×Sl×PH),aA (I x) (eQ (bP t)) (aA (aJ u) (aJ j) (aA dU (eP 6) (aA oB (eL 45) (aA (kJ (aG j==0) (Ev x)) (aY y (rZ x)) (aA (bZ y (rZ x)) (bA x.1) (aA (cT v) (BU (Cm (pB f) n d)) (aA wU (vA x.2.1) (bO (m=m) h (BM x))))))))))/\∀(x:Nat×dg×Bool×Sl×PH),I x->aZ (↑x.1:Int) (aG (rZ x)) (bF (λz A=>aH (aM (rZ x).a z A) (0<=(↑x.1:Int)) ((↑x.1:Int)<aG (rZ x)) (∃(B:Sl),aL m (BM x) z (bK A x.1 1) (bH B)/\uS (λE s=>∃(F:Int),
 Co (λG r=>aA (cL v::aX (fI (↑t:Int)) (cM B)=cL E::aX (fI F) (cM G)) (iC (BM x) s E) (aA (bR (BM x) G r) (DJ r) (fB (λH g=>bY (BM x) g (bR g H (L7 s F r)) (wL H u g (λa D=>∃(I1:Nat×dg×Bool×Sl×Sl×Int×PH->Prop),gQ (eC a D) 0 (branch (!(Ev x)) (Gi j g (λJ L=>vB x.2.1 (Pv (λc=>I1 c) t u j (λc=>aA (Ah c.2.2.1) (aY B (LI c)) (aA (dV (eC a D) (LH c)) (aY (rZ x) (Ax c)) (aA (bZ (rZ x) (Ax c)) (bV x.1 c.1) (aA (cT v) (BU (Cm (pB f) n d)) (j4 wU (lN x.2.1 J c.2.1) (m=m) L (IX c))))))))) (Pv (λc=>I1 c) t u j (λc=>aA (kJ (Ev x) c.2.2.1) (aY B (LI c)) (aA (dV (eC a
 D) (LH c)) (aY (rZ x) (Ax c)) (aA (bZ (rZ x) (Ax c)) (bV x.1 c.1) (aA (cT v) (BU (Cm (pB f) n d)) (j4 wU (pW x.2.1 c.2.1) (m=m) g (IX c)))))))) (Pv (λc=>I1 c) t u j (λc=>aA (kJ (Ev x) c.2.2.1) (aY B (LI c)) (aA (dV (eC a D) (LH c)) (aY (rZ x) (Ax c)) (aA (bZ (rZ x) (Ax c)) (bV x.1 c.1) (aA (cT v) (BU (Cm (pB f) n d)) (j4 wU (pW x.2.1 c.2.1) (m=m) g (IX c)))))))/\∀(c:Nat×dg×Bool×Sl×Sl×Int×PH),I1 c->dH (LH c) 0 (vB c.2.1 (∃(e:Nat×dg×Bool×Sl×PH),aA (I e) (C e<C x) (aA (eQ (bP t)) (aJ u) (aA (aJ j) dU (aA (eP 6) oB (aA (eL 45) (kJ c.2.2.1 (Ev e)) (aA (aY
 (Ax c) (rZ e)) (bZ (Ax c) (rZ e)) (aA (fU (bC c.1 1)=bP e.1) (cT v) (aA (BU (Cm (pB f) n d)) wU (aH (lN c.2.1 (LI c) e.2.1) (m=m) (IX c=BM e) True)))))))))) (∃(e:Nat×dg×Bool×Sl×PH),aA (I e) (C e<C x) (aA (eQ (bP t)) (aJ u) (aA (aJ j) dU (aA (eP 6) oB (aA (eL 45) (kJ c.2.2.1 (Ev e)) (aA (aY (Ax c) (rZ e)) (bZ (Ax c) (rZ e)) (aA (fU (bC c.1 1)=bP e.1) (cT v) (aA (BU (Cm (pB f) n d)) wU (aH (pW c.2.1 e.2.1) (m=m) (IX c=BM e) True))))))))))))))))))) (∃(I1:dg×PH->Prop),branch (!(Ev x)) (Gi j (BM x) (λs g=>vB x.2.1 (∃(c:dg×PH),aA (I1 c) (eQ (bP t)) (aA (eP 6) oB (aA (eL 45)
 (BU (Cm (pB f) n d)) (aA wU (lN x.2.1 s c.1) (bO (m=m) g c.2))))))) (∃(c:dg×PH),aA (I1 c) (eQ (bP t)) (aA (eP 6) oB (aA (eL 45) (BU (Cm (pB f) n d)) (aA wU (pW x.2.1 c.1) (bO (m=m) (BM x) c.2)))))/\∀(c:dg×PH),I1 c->bF (λz A=>aH (aM (pB f) z A) (0<=(↑t:Int)) ((↑t:Int)<(↑n:Int)) (bN c.2 1 (List.map eS c.1) (λs g=>uY m z (bK A t 1) (bH s) (λM=>K (qK (lJ (Value.slice (pB f) n d))) M g)))))))
theorem ab:cz 58 Wn:=by
 refine gW func58 ?_;rintro e m h K ⟨s,r,rfl,f,x,g⟩;refine⟨cZ [] [] [] [] false,rfl,aI,ak s m h K,bh,?_⟩;dsimp only[ak,push_cast];obtain⟨⟨c,j,n,o⟩,t⟩:=f;exact⟨c.map VV.enc,HE c,j,bo,bo,λu h' le d=>g u h' le ⟨⟨c,d,n,o⟩,t⟩⟩
theorem Tp:cz 47 b7Z:=by
 refine gW func47 ?_;rintro C m h K ⟨v,s,t,z,r,rfl,A,n,L,u⟩;refine⟨cZ [(58,Wn)] [] [] [] false,rfl,aE ab aI,XW v t z m h K,bh,?_⟩;dsimp only[XW,push_cast];have D:=A.tables.slen;have d:=bI.slen n;have c:Be s t=false->K Dn m h:=λe=>u ⟨none,0,0⟩ h (.refl _) (by simp only[L7,e];exact bI.nil _ _ _ _);refine aF (λE=>c (by simp[Be];omega)) (λE=>aF (λF=>c (by simp[Be];omega)) (λF=>?_));have e:Be s t=true:=by simp[Be];omega
 obtain⟨f,g⟩:∃f,s.tables[t.toNat]? =some f:=⟨_,cd aD⟩
 obtain⟨b,o,y,G,rd,H⟩:=bI.at A.tables g;have M:=H.key;obtain⟨a,len,j⟩:=z;have B:len<=j:=by obtain⟨O,I,_⟩:=n.ex;exact I.cap
 have d:len=r.length:=d
 have x:(if(if(len:Int)<y.key then(len:Int)else y.key)>0 then(if(len:Int)<y.key then(len:Int)else y.key)else 0)=max 0 (min f.key r.length):=by
  omega
 refine⟨b,o,G,aD,aD,y.key,.imm (bU.part rd 2 1),?_⟩;dsimp only;rw[x];have J:L7 s t r=r.take (max 0 (min f.key r.length)).toNat:=by simp only[L7,e,if_true,g];rfl
 rw[J]at u;exact⟨aD,aD,⟨a,(max 0 (min f.key r.length)).toNat,j⟩,_,rfl,n.cut aD,bo,u⟩
theorem Wk.snoc{key}{ks:db}{l k v}(x:Wk key (ks.take i) l)(c:ks[i]? =some k)(f:NX v)(g:Dl key k i v=true):Wk key (ks.take (i+1)) (l++[v]):=by
 obtain⟨n,o,t⟩:=x;have y:=(bz c);have z:l.length=i:=bo
 refine⟨bo,λu d=>?_,λj u A d e=>?_⟩
 .grind
 grind
theorem Xu{key k c}(d:c=1\/c=2)(e:(i:Int)>=key):Dl key k i ⟨c,0,⟨#[]⟩⟩=true:=by
 rcases d with rfl|rfl<;>simp[Dl,nI,J7]<;>omega
theorem Ti{key k v}(c:KOk k)(d:aTX k v):Dl key k i v=true:=by
 obtain⟨e,f⟩:=d c;simp[Dl,e,f]
theorem WA c:NX ⟨c,0,⟨#[]⟩⟩:=⟨⟨bi,bi⟩,by show(ByteArray.mk #[]).size<=64;decide⟩
theorem bdZ:cz 44 c3X:=by
 refine gW func44 ?_;rintro X m h K ⟨cb,s,key,ks,rfl,Y,P,hl,Z,hK⟩;refine⟨crJ cb key s,rfl,aE FB (aE Nh aI),XZ cb s key m h K,bh,?_⟩;dsimp only[XZ,push_cast];have H:=P.slen;refine⟨λz=>z.2.2.2=h/\z.1<=ks.length/\Wk key (ks.take z.1) z.2.1/\bT m z.2.2.1 cb/\bE z.2.2.1 h cb,λz=>ks.length-z.1,⟨(0,[],m,h),⟨rfl,bi,⟨bi,bi,λj u k h=>by simp at h⟩,.refl _ _,Y⟩,MT⟩,?_⟩;rintro⟨i,l,Q,h'⟩ ⟨R,hi,d,I,D⟩;dsimp only at R hi d I D⊢
 subst R;have a':l.length=i:=by rw[d.1,length_take];omega
 refine aF (λJ=>?_) (λa0 s' h2 y L=>?_)
 .obtain⟨k,A⟩:=dW H J;obtain⟨b,o,ea,rd⟩:=P.at' A;have B:=Z k (ce A);have E:∀(u:VV)(m':MH),NX u->Dl key k i u=true->bT Q m' cb->bE m' h' cb->h'=h'/\i+1<=ks.length/\Wk key (ks.take (i+1)) (l++[u])/\bT m m' cb/\bE m' h' cb:=λu m' n hf o c=>⟨rfl,aD,d.snoc A n hf,I.trans o,c⟩
  have e:ks.length-(i+1)<ks.length-i:=by omega
  have S:IntKind.i64.wrap ((i:Int)+1)=((i+1:Nat):Int):=fR aD;refine⟨b,o,ea,aD,aD,k,.imm rd,aF (λf=>⟨cb,5,rfl,aD,aD,D,λr T M O=>aC (λ_=>?_) (λ_=>aF (λ_=>⟨cb,5,rfl,aD,aD,O,λr U V W=>aC (λ_=>?_) (λ_=>⟨cb,k,rfl,W,λu t n g F G=>?_⟩)⟩) (λ_=>⟨cb,k,rfl,O,λu t n g F G=>?_⟩))⟩) (λf=>aF (λC=>absurd C f) (λ_=>⟨cb,k,rfl,D,λu t n g F G=>?_⟩))⟩
  .refine⟨bo,bo,(i+1,l++[⟨2,0,⟨#[]⟩⟩],T,h'),E _ T (WA 2) (Xu (.inr rfl) f) M O,e,?_⟩;rw[S,cj];exact MT
  .refine⟨bo,bo,(i+1,l++[⟨1,0,⟨#[]⟩⟩],U,h'),E _ U (WA 1) (Xu (.inl rfl) f) (M.trans V) W,e,?_⟩;rw[S,cj];exact MT
  .refine⟨bo,bo,(i+1,l++[u],t,h'),E _ t n (Ti B g) ((M.trans V).trans F) G,e,?_⟩
   grind
  .omega
  .refine⟨bo,bo,(i+1,l++[u],t,h'),E _ t n (Ti B g) F G,e,?_⟩
   grind
 .rw[ci aD]at d;exact hK s' l Q h2 y ⟨⟨l,L,rfl,λi x A=>⟨x,A,rfl⟩⟩,aD⟩ d I (D.mono y)
theorem dR.at{us rs}(x:dR h us rs){r}(c:rs[i]? =some r):∃u,us[i]? =some u/\bR h u r:=x.at_ i r c
theorem bdX:cz 46 c3Z:=by
 refine gW func46 ?_;rintro b' m h K ⟨v,s,tb,n,S,us,u,t,A,rs,sk,I,T,row,rfl,hs,U,hT,hn,hu,V,b0,a',a0,B,h0,h1,hK⟩;refine⟨crQ v ⟨some ⟨tb,0,none⟩,n,S⟩ t sk T m,rfl,aE Tp (aE aa (aE ab aI)),XX v tb n S t sk T m h K,bh,?_⟩;dsimp only[XX,push_cast];obtain⟨x,J,b1,a1⟩:=hT;have b2:t<us.length:=(bz hu);have a2:=bI.slen V;have a9:=bI.slen B;have b3:((T.len:Int)==0)=false:=bn
 have a3:(x.toList.drop (0+t*1)).take [gP u].length=[gP u]:=by
  have C:x.toList[t]? =some (Sl.val u):=by
   have e:(x.toList.take us.length)[t]? =some (Sl.val u):=bo
   grind
  have M:=(bz C);rw[Nat.zero_add,Nat.mul_one,drop_eq_getElem_cons M,(List.getElem?_eq_some_iff.1 C).2];rfl
 refine⟨tb,0,rfl,aD,aD,u,.lent x 58 (0,0) J a3,λz=>z.2.2.2.1=u/\z.1<=rs.length/\PH.le h z.2.2.2.2/\∃out,dR z.2.2.2.2 z.2.1 out/\out.length<=2*z.1/\out++DG A I row z.2.2.1 (rs.drop z.1)=DG A I row false rs,λz=>rs.length-z.1,⟨(0,[],false,u,h),⟨rfl,bi,.refl _,[],dR.nil _,bi,bi⟩,bo⟩,?_⟩;rintro⟨i,E,d,u',hx⟩ ⟨e1,hi,g,out,j,F,xZ⟩;dsimp only at e1 hi g j F xZ⊢
 subst e1;have W:=j.len;refine aF (λM=>?_) (λb4=>?_)
 .obtain⟨r,G⟩:=dW a2 M;have a4:=(bz G);obtain⟨b,o,w,ea,rd,hv⟩:=bI.at V G;have O:rs.drop i=r::rs.drop (i+1):=by rw[drop_eq_getElem_cons a4,(List.getElem?_eq_some_iff.1 G).2]
  rw[O,DG]at xZ;refine⟨b,o,ea,aD,aD,w,.imm (rd.mono g),v,s,t,w,r,rfl,hs.mono g,bR.mono hv g,a' r (ce G),λs' h2 y a5=>⟨s',sk,_,I,rfl,a5,bR.mono a0 (g.trans y),?_⟩⟩;rw[Jm U];generalize hc:eC (oW A r) I=c at xZ⊢
  refine⟨λz=>z.1=i/\z.2.2.2.1=u'/\z.2.2.2.2.1=w/\z.2.2.2.2.2.1=c/\PH.le hx z.2.2.2.2.2.2/\∃out,dR z.2.2.2.2.2.2 z.2.1 out/\out.length<=2*i+1/\out++((if c≠0 then[r]else[])++DG A I row z.2.2.1 (rs.drop (i+1)))=DG A I row false rs,aF (λP=>aC (λD=>?_) (λD=>?_)) (λP=>?_),?_⟩
  .have D:d=false:=bo
   subst D;rw[if_pos ⟨P,rfl⟩,show(false||decide (0<=c))=true by simp;omega]at xZ;refine⟨T,row,rfl,bR.mono B (g.trans y),h1,λH Q f R=>⟨bo,bo,(i,E++[H],true,u',w,c,Q),⟨rfl,rfl,rfl,rfl,y.trans f,out++[row],(j.mono (y.trans f)).snoc R,bo,?_⟩,?_⟩⟩
   .grind
   .rw[cj];exact MT
  .have D:d=true:=bo
   subst D;rw[if_neg bi,Bool.true_or,nil_append]at xZ;exact⟨(i,E,true,u',w,c,h2),⟨rfl,rfl,rfl,rfl,y,out,j.mono y,aD,xZ⟩,MT⟩
  .rw[if_neg (λh=>P h.1),show(d||decide (0<=c))=d by grind,nil_append]at xZ;exact⟨(i,E,d,u',w,c,h2),⟨rfl,rfl,rfl,rfl,y,out,j.mono y,aD,xZ⟩,MT⟩
  clear xZ j F W out E;rintro⟨i',E,d,u2,w2,c2,Q⟩ ⟨e2,e3,e4,e5,f,out,j,F,xZ⟩;dsimp only at e2 e3 e4 e5 f j F xZ⊢
  subst e2 e3 e4 e5;have W:=j.len;have hw:IntKind.i64.wrap ((i':Int)+1)=((i'+1:Nat):Int):=fR aD;refine aC (λa6=>?_) (λa6=>?_)
  .rw[if_pos bo]at xZ;refine⟨bo,bo,(i'+1,E++[w2],d,u2,Q),⟨rfl,aD,g.trans f,out++[r],j.snoc (bR.mono hv (g.trans f)),bo,bo⟩,aD,?_⟩;rw[hw,cj];exact MT
  .rw[if_neg bo,nil_append]at xZ;refine⟨(i'+1,E,d,u2,Q),⟨rfl,aD,g.trans f,out,j,aD,xZ⟩,aD,?_⟩
   grind
 .have a7:i=rs.length:=by omega
  rw[a7,drop_length,DG]at xZ;refine⟨λz=>PH.le h z.2/\dR z.2 z.1 (DG A I row false rs),aC (λD=>?_) (λD=>?_),?_⟩
  .have D:d=false:=bo
   rw[D,if_neg bi]at xZ;refine⟨T,row,rfl,bR.mono B g,h1,λH Q f R=>⟨bo,bo,(E++[H],Q),⟨g.trans f,by rw[<-xZ];exact(j.mono f).snoc R⟩,?_⟩⟩;rw[cj];exact MT
  .have D:d=true:=bo
   rw[D,if_pos rfl,append_nil]at xZ;exact⟨(E,hx),⟨g,bo⟩,MT⟩
  rintro⟨b5,Q⟩ ⟨f,L⟩;dsimp only at f L⊢
  have b6:=Pc (t:=A) (key:=I) (row:=row) (l:=rs) (d:=false);refine⟨tb,0,rfl,aD,aD,λH h4 X a8=>⟨x,58,⟨J⟩,?_,λm' Y=>hK H m' h4 (f.trans X) ((L.mono X).rows a8 bo) ⟨_,Y.at_,?_,?_⟩ ⟨λb hb=>(Y.other b hb).symm▸rfl⟩⟩⟩
  .omega
  .have Z:splice x.toList (0+((t:Int)).toNat*1) [gP H]=x.toList.set t (Sl.val H):=by
    rw[set_eq_take_append_cons_drop,if_pos bo];simp only[splice,Int.toNat_natCast,Nat.zero_add,Nat.mul_one,length_singleton,append_assoc];rfl
   grind
  .have Z:splice x.toList (0+((t:Int)).toNat*1) [gP H]=x.toList.set t (Sl.val H):=by
    rw[set_eq_take_append_cons_drop,if_pos bo];simp only[splice,Int.toNat_natCast,Nat.zero_add,Nat.mul_one,length_singleton,append_assoc];rfl
   rw[Z,length_set,map_set, <-a1,take_set]
abbrev Rel:=de
def c0Z(a b:Rel):=a.filter λx=>Cg b x==true
theorem ciQ{l x}:Cg l x=false↔x∉l:=by
 rw[<-uA];grind
theorem cgJ{a b x}:x∈c0Z a b↔x∈a/\x∈b:=by simp only[c0Z,mem_filter,beq_iff_eq,uA]
end Go.Ps
