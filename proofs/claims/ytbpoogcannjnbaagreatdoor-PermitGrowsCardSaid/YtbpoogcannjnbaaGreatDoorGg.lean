/- Own work. -/
import Derived.Test.YtbpoogcannjnbaaGreatDoorGf
set_option linter.unusedVariables false
set_option linter.unusedSimpArgs false
namespace Go.Ps
open Go Go.Vc Go.Proofs List Tryz
variable{K:dc}{m:MH}{h:PH}{s:j4}{ps:dd}{cb:Nat}{sc:bJ}{v:QV}{q:Query}{p:Pred}{l:dd}{i:Nat}{N:Nat}{m':MH}{h':PH}{co:dd}{gr:dd}{od:dg}{w:Pred}{ta:Int}{li:Int}{xs:List cv}{sz:Nat}{k:Nat}{ks:List dd}{rs:dd}{r:Sl}{a:dd}{b:Nat}
def nC:dg->de->de->Int
 |[],a,b=>cN a b
 |(c,d)::r,a,b=>if 0<=c/\c<a.length/\c<b.length then(if lQ (a.getD c.toNat zeroV) (b.getD c.toNat zeroV)≠0 then(if d then-lQ (a.getD c.toNat zeroV) (b.getD c.toNat zeroV)else lQ (a.getD c.toNat zeroV) (b.getD c.toNat zeroV))else nC r a b)else nC r a b
def Qy:Vc.Spec:=λc m h K=>∃o s t od a b,c=[cS o,cS s,cS t]/\kC h o od/\bO h s a/\bO h t b/\K (cI (nC od a b)) m h
def S7:Vc.Spec:=λc m h K=>∃s t d v od a b,c=[cS s,cS t,cP d]/\m d=some (.cells ⟨QV.enc v⟩ 68 (0,0))/\kC h v.order od/\bO h s a/\bO h t b/\K (cI (nC od a b)) m h
def bXQ:Vc.Spec:=λc m h K=>∃i:Nat,∃d e f v od g s rs r x,c=[cI i,cP d,cP e,cP f]/\m d=some (.cells ⟨QV.enc v⟩ 68 (0,0))/\m e=some (.cells #[Sl.val g] 95 (0,0))/\m f=some (.cells #[Sl.val s] 75 (0,0))/\kC h v.order od/\Rows h g rs/\bO h s r/\rs[i]? =some x/\
 K (cB (decide (nC od x r>=0))) m h
def bpZ:Vc.Spec:=λd m h K=>∃(s:Sl)(e:Nat)(v:QV)(od:dg)(w:Nat)(ps:dy),d=[cS s,.val (.func (.func 227) #[] #[.pointer (some ⟨e,0,none⟩)])]/\m e=some (.cells ⟨QV.enc v⟩ 68 (0,0))/\(∀i,s.a≠some ⟨e,i,none⟩)/\kC h v.order od/\cT m s 75 1 (ps.map λp=>eS p.1)/\(∀p∈ps,bO h p.1 p.2)/\(∀p∈ps,p.2.length=w)/\ps.length<=140737488355328/\
 ∀(c:dy)(m':MH),c.Perm ps->c.Pairwise (λp q=>¬nC od q.2 p.2<0)->cT m' s 75 1 (c.map λp=>eS p.1)->(∀b,(∀i,s.a≠some ⟨b,i,none⟩)->m' b=m b)->K (.tup []) m' h
noncomputable def a8Z(o s t:Sl)(m:MH)(h:PH):Ctx:=
 dD [(151,S8),(117,FQ)] [(2,{A:=Nat,st:=λi=>bU 55 58 [(1,sv s),(2,sv t),(10,sv o),(11,iv o.len),(12,iv i)] [] m h})] [] [] false
def RM(o s t:Sl)(m:MH)(h:PH)(K:dc):Prop:=
  nG (λI x=>aA (I x) (aH s) (aA (aH t) (aH o) (aA (bI o) (bE x) (aA (m=m) (h=h) True)))) (λI d x=>I x->aY (↑x:Int) (aG o) (bD (λb f=>aI (bF o.a b f) (0<=(↑x:Int)) ((↑x:Int)<aG o) (∃(y:Int×Bool),aJ m h b (bB f x 2) (CY y)/\aY y.1 0 (∃(c:Nat),aA (I c) (d c<d x) (aA (aH s) (aH t) (aA (aH o) (bI o) (aA (fJ (aW x 1)=bY c) (m=m) (dH h h))))) (A7 y.1 (aG s) (∃(c:Nat),aA (I c) (d c<d x) (aA (aH s) (aH t) (aA (aH o) (bI o) (aA (fJ (aW x 1)=bY c) (m=m) (dH h h))))) (A7 y.1 (aG t) (∃(c:Nat),aA (I c) (d c<d x) (aA (aH s) (aH t) (aA (aH o) (bI o) (aA (fJ (aW x 1)=bY c) (m=m) (dH h h))))) (bD (λg j=>aI (bF s.a g j) (0<=y.1) (y.1<
 aG s) (∃(n:VV),aJ m h g (eM j y.1 3) n.enc/\bD (λu z=>aI (bF t.a u z) (0<=y.1) (y.1<aG t) (∃(A:VV),aJ m h u (eM z y.1 3) A.enc/\Aj n A (λa e=>bK (lQ a e) 0 (∃(c:Nat),aA (I c) (d c<d x) (aA (aH s) (aH t) (aA (aH o) (bI o) (aA (fJ (aW x 1)=bY c) (m=m) (dH h h))))) (branch y.2 (K (jA (eE (0-lQ a e))) m h) (K (jA (lQ a e)) m h))))))))))))) (xV s t h (λa b=>K (jA (cN a b)) m h)))
def aMJ(s t:Sl)(f:Nat)(m:MH)(h:PH)(K:dc):Prop:=
  j5 m h f 18 (λy=>qV (λo c d=>∃(e:dg)(a b:de),aA (cQ y (gK s t)=cQ o (gK c d)) (kC h o e) (aA (bO h c a) (bO h d b) (K (jA (nC e a b)) m h))))
def RN(i:Nat)(u d z:Nat)(m:MH)(h:PH)(K:dc):Prop:=
  j5 m h u 18 (λy=>j5 m h d 0 (λc=>dN c.a (↑i:Int) c (λb o e=>aJ m h b (bB o i 1) (aM e)/\∃(f:Sl),aA (aJ m h z 0 (aM f)) (aJ m h d 0 (aM c)) (qV (λg s t=>∃(j:dg)(a n:de),aA (cQ y (gK e f)=cQ g (gK s t)) (kC h g j) (aA (bO h s a) (bO h t n) (aJ m h d 0 (aM c)/\K (Cr (decide (nC j a n>=0))) m h)))))))
theorem ZK(a b:VV): -1<=lQ a b/\lQ a b<=1:=by
 have c:∀x y:Int, -1<=CD x y/\CD x y<=1:=λx y=>by unfold CD;omega
 have d:=(Pc a.text.data.toList b.text.data.toList).2;have e: -1<=QN a.text b.text/\QN a.text b.text<=1:=by unfold QN;omega
 have f:=c a.kind b.kind;have g:=c a.int b.int;unfold lQ;omega
theorem aTQ{c:Int}{d:Bool}{r:dg}{a b:de}(h:¬(0<=c/\c<a.length/\c<b.length)):nC ((c,d)::r) a b=nC r a b:=by
 rw[nC,if_neg h]
theorem bVX{c:Int}{d:Bool}{r:dg}{a b:de}{x y:VV}(e:0<=c)(hx:a[c.toNat]? =some x)(f:b[c.toNat]? =some y):nC ((c,d)::r) a b=if lQ x y≠0 then(if d then-lQ x y else lQ x y)else nC r a b:=by
 have g:=(bt hx);have j:=(bt f);rw[nC,if_pos ⟨e,aC,aC⟩]
 grind
theorem Pz:cu 211 Qy:=by
 refine iB func211 ?_;rintro L m h K ⟨o,s,t,od,a,b,rfl,C,D,E,g⟩;refine⟨a8Z o s t m h,rfl,aD IJ (aD tN aF),RM o s t m h K,be,?_⟩;dsimp only[RM,push_cast];have F:=C.slen;have M:=C.len;have O:=bC.slen D;have P:=bC.slen E;refine⟨λi=>i<=od.length/\nC od a b=nC (od.drop i) a b,λi=>od.length-i,⟨0,⟨aC,bf⟩,MT⟩,λi⟨hi,j⟩=>aE (λn=>?_) (λQ=>?_)⟩
 .obtain⟨⟨c,B⟩,G⟩:=eO F n;obtain⟨R,S,T,U⟩:=C.row.get (i:=i) (e:=CI (c,B)) (by simp[G]);rw[drop_cons G]at j
  have skip:¬(0<=c/\c<a.length/\c<b.length)->∃d:Nat,(λi=>i<=od.length/\nC od a b=nC (od.drop i) a b) d/\(λi=>od.length-i) d<(λi=>od.length-i) i/\eQ (sQs s)/\eQ (sQs t)/\eQ (sQs o)/\eQ (fJ ↑o.len)/\fJ (IntKind.i64.wrap ((i:Int)+1))=fJ ↑d/\m=m/\h=h/\True:=λV=>
   ⟨i+1,⟨aC,by rw[j,aTQ V]⟩,(show od.length-(i+1)<od.length-i by omega),MT⟩
  refine⟨R,S,T,aC,n,(c,B),.imm U,aE (λH=>skip (λe=>by omega)) (λH=>aE (λI=>skip (λe=>by omega)) (λI=>aE (λJ=>skip (λe=>by omega)) (λJ=>?_)))⟩;dsimp only at H I J⊢
  obtain⟨x,z⟩:∃x,a[c.toNat]? =some x:=⟨_,bu aC⟩
  obtain⟨y,A⟩:∃y,b[c.toNat]? =some y:=⟨_,bu aC⟩
  obtain⟨W,X,u,Y,Z,rfl⟩:=bC.at D z;obtain⟨b3,o3,u,e3,r3,rfl⟩:=bC.at E A;rw[bVX aC z A]at j;have a':=ZK x y;refine⟨W,X,Y,aC,aC,x,.imm Z,b3,o3,e3,aC,aC,y,.imm r3,x,y,rfl,aB (λh4=>⟨i+1,⟨aC,?_⟩,(show od.length-(i+1)<od.length-i by omega),MT⟩) (λh4=>aB (λf=>?_) (λf=>?_))⟩
  .grind
  .have f:B=true:=f;rw[j,if_pos bk,if_pos f]at g;rw[dO aC aC,Int.zero_sub];exact g
  .have f:B=false:=f;rw[j,if_pos bk,if_neg (by simp[f])]at g;exact g
 .rw[j,drop_eq_nil_of_le aC,nC]at g;exact⟨s,t,a,b,rfl,D,E,g⟩
theorem Yu:cu 227 S7:=by
 refine iB func227 ?_;rintro c m h K ⟨s,t,d,v,od,a,b,rfl,e,f,g,j,n⟩;refine⟨rT [(211,Qy)] [] [] [] [0] [] false,rfl,aD Pz aF,aMJ s t d m h K,be,?_⟩;exact⟨v.order,.of_m e rfl,v.order,s,t,od,a,b,rfl,f,g,j,n⟩
theorem YC:cu 210 bXQ:=by
 refine iB func210 ?_;rintro j m h K ⟨i,n,e,o,v,od,g,s,rs,r,x,rfl,t,y,z,A,c,B,f,C⟩;refine⟨rT [(211,Qy)] [] [] [] [0] [] false,rfl,aD Pz aF,RN i n e o m h K,be,?_⟩;dsimp only[RN,push_cast];have I:=bC.slen c;have J:=(bt f);obtain⟨D,E,u,F,G,H⟩:=bC.at c f;have d:aJ m h e 0 [eF g]:=.of_m y rfl;exact⟨v.order,.of_m t rfl,g,d,D,E,F,aC,aC,u,.imm G,s,.of_m z rfl,d,v.order,u,s,od,x,r,rfl,A,H,B,d,C⟩
def K1(w:Nat):dg->de->de->Int
 |[],a,b=>cN a b
 |(c,d)::r,a,b=>if 0<=c/\c<w then(if(if d then-lQ (a.getD c.toNat zeroV) (b.getD c.toNat zeroV)else lQ (a.getD c.toNat zeroV) (b.getD c.toNat zeroV))≠0 then(if d then-lQ (a.getD c.toNat zeroV) (b.getD c.toNat zeroV)else lQ (a.getD c.toNat zeroV) (b.getD c.toNat zeroV))else K1 w r a b)else K1 w r a b
theorem Ds{w:Nat}:∀{od:dg}{a b:de},a.length=w->b.length=w->nC od a b=K1 w od a b
 |[],_,_,_,_=>rfl
 |(c,f)::r,a,b,d,e=>by
  rw[nC,K1,d,e,Ds (od:=r) d e];omega
theorem S9.neg{α:Type}{c:α->α->Int}(h:S9 c):S9 (λx y=> -c x y):=by
 refine⟨λx y=>by have:=h.anti x y;omega,λx y z d e=>?_⟩;have f:=h.anti x y;have g:=h.anti y z;have j:=h.anti x z;have:=h.trans z y x aC aC;omega
theorem KZ(w:Nat):∀od,S9 (K1 w od)
 |[]=>GA
 |(c,d)::r=>by
  have f:=KZ w r;have g:S9 (λa b:de=>lQ (a.getD c.toNat zeroV) (b.getD c.toNat zeroV)):=K2.of λa:de=>a.getD c.toNat zeroV;by_cases h:0<=c/\c<w
  .have e:K1 w ((c,d)::r)=λa b=>if(if d then-lQ (a.getD c.toNat zeroV) (b.getD c.toNat zeroV)else lQ (a.getD c.toNat zeroV) (b.getD c.toNat zeroV))≠0 then(if d then-lQ (a.getD c.toNat zeroV) (b.getD c.toNat zeroV)else lQ (a.getD c.toNat zeroV) (b.getD c.toNat zeroV))else K1 w r a b:=by
    funext a b;rw[K1,if_pos h]
   rw[e];cases d
   .exact g.lex f
   .exact g.neg.lex f
  .have e:K1 w ((c,d)::r)=K1 w r:=by funext a b;rw[K1,if_neg h]
   grind
theorem bmJ{w:Nat}(od:dg):Sort.SWO (Go.Proofs.ltOf (fun(x y:GI h (λl=>l.length=w))=>nC od x.l y.l)):=by
 have e:(fun(x y:GI h (λl=>l.length=w))=>nC od x.l y.l)=λx y=>K1 w od x.l y.l:=by
  funext x y;exact Ds x.pr_ y.pr_
 rw[e];exact(KZ w od).swo
theorem WD:cu 223 bpZ:=by
 refine⟨⟨Tryz.f223,func223,rfl,bg⟩,?_⟩;rintro j f m h w K ⟨s,c,v,od,n,ps,rfl,H,t,u,z,A,B,C,D⟩ d
 obtain⟨E,e,rfl⟩:∃v e,f=[v,e]:=by
  have:=(rJ d.args).1
  match f,this with
  |[v,e],_=>grind
 have F:E=s.val:=d.args.1;have G:e= .func (.func 227) #[] #[.pointer (some ⟨c,0,none⟩)]:=d.args.2.1;subst F G;refine Q0 (R:=λl=>l.length=n) (g:=227) (cb:=[.pointer (some ⟨c,0,none⟩)]) (m2:=λb=>if b=c then m c else none) (cf:=nC od) rfl d ⟨Tryz.f227,func227,rfl,bg⟩ z A B C (bmJ od) ⟨S7,Yu,λx y=>⟨x.s,y.s,c,v,od,x.l,y.l,rfl,bk,u,x.ok,y.ok,rfl,rfl,rfl⟩⟩ (λb o I=>?_) D
 grind
noncomputable def bbJ:Ctx:=Ua [(201,Z0),(203,btQ),(202,XB),(204,Xw)] [(13,{A:=Nat×Nat×Sl×Sl×MH×PH,st:=λ⟨i,b,e,g,m,h⟩=>bU 66 68 [(10,vv (.pointer (some ⟨b,0,none⟩))),(11,sv e),(51,sv g),(52,iv g.len),(53,iv i)] [] m h})] [] [200005,200006,200007,200010,1095,400000,0]
abbrev v8(a:Nat->Option Obj)(b:Nat)(c d:(Value->Prop)->Prop)(e:Value)(g:Prop)(i:Sl->Prop):Prop:=∃(x:List (Value×Sl))(j:Value->Prop),aA (tB a b (List.map (fun(f:Value×Sl)=>(f.1,eF f.2)) x)) (c j) (aA (d j) (∀(f:Value×Sl),List.Mem f x->j f.1) (((∀(f:Value×Sl),aR (List.Mem f x) (f.1=e) False)->g)/\∀(f:Sl),List.Mem (e,f) x->i f))
abbrev Gh(a b c d:Prop)(e:(List cv)->Prop):Prop:=aA a b (aA c d (∃(x:List cv),e x))
noncomputable abbrev uD:Sl:=Sl.mk Option.none 0 0
noncomputable abbrev vG(a:Nat×Sl×Sl×MH×PH):Sl×MH×PH:=a.2.2
noncomputable abbrev nP(a:Nat×Nat×Sl×Sl×MH×PH):Sl×MH×PH:=vG a.2
abbrev N5(a:(Nat×Nat×Sl×Sl×MH×PH->Prop)->er->Prop)(b c d e:er->Prop)(g:er->Nat×Nat×Sl×Sl×MH×PH)(i:Nat->Option Obj)(j:PH)(k:(Nat×Nat×Sl×Sl×MH×PH->Prop)->(Nat×Nat×Sl×Sl×MH×PH->Nat)->er->Prop):Prop:=∃(x:Nat×Nat×Sl×Sl×MH×PH->Prop)(n:Nat×Nat×Sl×Sl×MH×PH->Nat),(∃(f:Nat×Nat×Sl×Sl×MH×PH),aA (a x f) (b f) (aA (c f) (d f) (aA (e f) (bE (g f).1) (aA (j8 i (nP (g f))) (fI j (nP (g f)).2) True))))/\∀(f:Nat×Nat×Sl×Sl×MH×PH),k x n f
noncomputable abbrev kR(a:Nat×Nat×Sl×Sl×MH×PH):Nat:=a.2.1
noncomputable abbrev vB(a:Nat×Nat×Sl×Sl×MH×PH):Sl:=a.2.2.1
noncomputable abbrev iR(a:Nat×Nat×Sl×Sl×MH×PH):Sl:=(nP a).1
noncomputable abbrev j7(a:Nat×Nat×Sl×Sl×MH×PH):Nat->Option Obj:=fG (nP a)
noncomputable abbrev oA(a:Nat×Nat×Sl×Sl×MH×PH):Nat->Nat->Option Value:=eV (nP a)
abbrev Al(a:cw)(b:de->Prop):Prop:=∀(x:de),List.Mem x a->b x
attribute [push_cast] v8 Gh uD vG nP N5 kR vB iR j7 oA Al
def L7(v:QV)(t:Sl)(m:MH)(h:PH)(K:dc):Prop:=
  ∃(s:Sl)(o:di),aA (eW (mL v.on) (mL s)) (lF h s o) (∀(a:Sl),lE (λb M=>cR h M (Ints M a (nU o)) (Ints M b (iX o)->∀(R:Nat)(m1:MH),aR (dL m M R) (cL m m1 R iT 31) (∀(Z:Nat)(m2:MH),aR (dL m1 M Z) (cL m1 m2 Z iT 31) (mH (λc E=>aA (CA m2 R (jI c E 0)) (0<c.size) (∀(m3:MH),cL m2 m3 R (jJ (eF a) 1 c) E->mH (λc1 E1=>aA (CA m3 Z (jI c1 E1 0)) (0<c1.size) (∀(m4:MH),cL m3 m4 Z (jJ (eF b) 1 c1) E1->Ah m4 M (λb3 m5=>∀(n:Nat)(m6:MH),aR (dL m5 M n) (cL m5 m6 n (mI Gf) 243) (mH (λc2 E2=>aA (CA m6 n (jI c2 E2 0)) (0<c2.size) (∀(m7:MH),cL m6 m7 n (jJ (FI b3) 1 c2) E2->Kk t.a 0 1 t m7 M (λo1=>o1+1) (λy S=>vY S M y m7 (λI k e j f
 =>I k j f->j5 j f Z 0 (λy1=>G3 e y1 f (λr T=>jB r.length T) (λr T=>branch (List.all (pick r T) mF) (j5 j f Z 0 (λy2=>G3 e y2 f (λu _=>UD u) (λu A=>aA (jB u.length A) (iL j) (∃(g:Nat),aJ j f n 0 (bN g)/\∃(D:Nat),aA (aJ j f n 0 (bN D)) (aJ j f n 0 (bN g)/\v8 j D (λO=>jU 9 O) (λO=>O (dJ u A)) (dJ u A) (Gh (aJ j f n 0 (bN g)) (aJ j f n 0 (bN D)) (aJ j f n 0 (bN g)) (aJ j f n 0 (bN D)) (λx=>aI (cT j uD 75 1 x) (cW (iA x 1*24)) (fN x) (∀(B:Sl)(z:MH),dV j z uD B 75 1 (eK x (aM e))->aA (aJ z f n 0 (bN g)) (aJ z f n 0 (bN D)) (pL z g (λO=>jU 9 O) (λO=>O (dJ u A)) (dJ u A) (fun
 U=>∀(d:MH),aR (iV z d g) (mO d g (fA U (dJ u A) (eF B) [])) (I (k+1) d f)) (λl V F=>fA l (dJ u A) V F) (λl F=>∀(d:MH),aR (iV z d g) (mO d g (fA l (dJ u A) (eF B) F)) (I (k+1) d f)))))) (λH=>Gh (aJ j f n 0 (bN g)) (aJ j f n 0 (bN D)) (aJ j f n 0 (bN g)) (aJ j f n 0 (bN D)) (λx=>aI (cT j (cH H) 75 1 x) (cW (iA x 1*24)) (fN x) (∀(B:Sl)(z:MH),dV j z (cH H) B 75 1 (eK x (aM e))->aA (aJ z f n 0 (bN g)) (aJ z f n 0 (bN D)) (pL z g (λO=>jU 9 O) (λO=>O (dJ u A)) (dJ u A) (λU=>∀(d:MH),aR (iV z d g) (mO d g (fA U (dJ u A) (eF B) [])) (I (k+1) d f)) (λl V F=>fA l (dJ u A) V F) (λl
 F=>∀(d:MH),aR (iV z d g) (mO d g (fA l (dJ u A) (eF B) F)) (I (k+1) d f))))))) (aA (aJ j f n 0 (bN g)) (aJ j f n 0 (bN D)) (aJ j f n 0 (bN g)/\v8 j D (λO=>jU 9 O) (λO=>O (dJ u A)) (dJ u A) (vE (aJ j f n 0 (bN g)) (aJ j f n 0 (bN D)) (λx=>aI (cT j uD 75 1 x) (cW (iA x 1*24)) (fN x) (∀(B:Sl)(z:MH),dV j z uD B 75 1 (eK x (aM e))->aA (aJ z f n 0 (bN g)) (aJ z f n 0 (bN D)) (pL z g (λO=>jU 9 O) (λO=>O (dJ u A)) (dJ u A) (λU=>∀(d:MH),aR (iV z d g) (mO d g (fA U (dJ u A) (eF B) [])) (I (k+1) d f)) (λl V F=>fA l (dJ u A) V F) (λl F=>∀(d:MH),aR (iV z d g) (mO d g (fA l
 (dJ u A) (eF B) F)) (I (k+1) d f)))))) (λH=>vE (aJ j f n 0 (bN g)) (aJ j f n 0 (bN D)) (λx=>aI (cT j (cH H) 75 1 x) (cW (iA x 1*24)) (fN x) (∀(B:Sl)(z:MH),dV j z (cH H) B 75 1 (eK x (aM e))->aA (aJ z f n 0 (bN g)) (aJ z f n 0 (bN D)) (pL z g (λO=>jU 9 O) (λO=>O (dJ u A)) (dJ u A) (λU=>∀(d:MH),aR (iV z d g) (mO d g (fA U (dJ u A) (eF B) [])) (I (k+1) d f)) (λl V F=>fA l (dJ u A) V F) (λl F=>∀(d:MH),aR (iV z d g) (mO d g (fA l (dJ u A) (eF B) F)) (I (k+1) d f)))))))))))) (I (k+1) j f)))) (λj f=>EB j f t (λb5 z y1 S1=>vY S1 f y1 z (λI k e d G=>I k d G->j5 d G R 0 (λy2=>G3 e y2 G
 (λr T=>jB r.length T) (λr T=>branch (!(List.all (pick r T) mF)) (I (k+1) d G) (∃(g:Nat),aJ d G n 0 (bN g)/\∃(D:Sl),aA (aJ d G R 0 (aM D)) (aJ d G n 0 (bN g)) (JK e D G d (aJ d G n 0 (bN g)) (λ_ _=>aJ d G R 0 (aM D)) (λu A=>v8 d g (λO=>jU 9 O) (λO=>O (dJ u A)) (dJ u A) (N5 (λI1 x=>I1 x) (λx=>eU b5 (kR x)) (λx=>aX e (vB x)) (λx=>sQn=sQs (iR x)) (λx=>bE (iR x).len) (λx=>x) d G (λI1 a2 x=>I1 x->aY (↑x.1:Int) (aG (iR x)) (dN (iR x).a (↑x.1:Int) (iR x) (λb6 o1 H=>aJ (j7 x) (oA x) b6 (bB o1 x.1 1) (aM H)/\∃(L:Sl),aI (aJ (j7 x) (oA x) (kR x) 0 (aM L)) (aJ (j7 x) (oA x) (kR x) 0 (aM L)) (aJ
 (j7 x) (oA x) (kR x) 0 (aM L)) (bQ (oA x) 1 (aM (vB x)::fV (aM H)) (λB h4=>∃(s2:Sl)(P:cw),aA (oK B=oK s2) (Rows h4 s2 P) (aA (P.length<=10) (Al P (λr3=>r3.length<=12)) (lE (λs3 J=>cR h4 J (bO J s3 P.flatten) (vE (aJ (j7 x) J (kR x) 0 (aM L)) (aJ (j7 x) J (kR x) 0 (aM L)) (λQ=>aI (cT (j7 x) (cH L) 75 1 Q) (cW (iA Q 1*24)) (fN Q) (∀(s4:Sl)(W:MH),dV (j7 x) W (cH L) s4 75 1 (eK Q (aM s3))->mH (λX E3=>aA (CA W (kR x) (jI X E3 0)) (0<X.size) (∀(a4:MH),cL W a4 (kR x) (jJ (eF s4) 1 X) E3->∃(C:Nat×Nat×Sl×Sl×MH×PH),aA (I1 C) (a2 C<a2 x) (aA (eU (kR x) (kR C)) (aX (vB x) (vB C)) (aA (aX
 (iR x) (iR C)) (cD (iR x) (iR C)) (aA (fJ (aW x.1 1)=bY C.1) (j8 a4 (nP C)) (eA J (nP C).2)))))))))))))))) (I (k+1) (j7 x) (oA x)))) (λH=>N5 (λI1 x=>I1 x) (λx=>eU b5 (kR x)) (λx=>aX e (vB x)) (λx=>aX H (iR x)) (λx=>cD H (iR x)) (λx=>x) d G (λI1 a2 x=>I1 x->aY (↑x.1:Int) (aG (iR x)) (dN (iR x).a (↑x.1:Int) (iR x) (λb6 o1 L=>aJ (j7 x) (oA x) b6 (bB o1 x.1 1) (aM L)/\∃(Y:Sl),aI (aJ (j7 x) (oA x) (kR x) 0 (aM Y)) (aJ (j7 x) (oA x) (kR x) 0 (aM Y)) (aJ (j7 x) (oA x) (kR x) 0 (aM Y)) (bQ (oA x) 1 (aM (vB x)::fV (aM L)) (λB h4=>∃(s2:Sl)(P:cw),aA (oK B=oK s2) (Rows h4 s2 P)
 (aA (P.length<=10) (Al P (λr3=>r3.length<=12)) (lE (λs3 J=>cR h4 J (bO J s3 P.flatten) (vE (aJ (j7 x) J (kR x) 0 (aM Y)) (aJ (j7 x) J (kR x) 0 (aM Y)) (λQ=>aI (cT (j7 x) (cH Y) 75 1 Q) (cW (iA Q 1*24)) (fN Q) (∀(s4:Sl)(W:MH),dV (j7 x) W (cH Y) s4 75 1 (eK Q (aM s3))->mH (λX E3=>aA (CA W (kR x) (jI X E3 0)) (0<X.size) (∀(a4:MH),cL W a4 (kR x) (jJ (eF s4) 1 X) E3->∃(C:Nat×Nat×Sl×Sl×MH×PH),aA (I1 C) (a2 C<a2 x) (aA (eU (kR x) (kR C)) (aX (vB x) (vB C)) (aA (aX (iR x) (iR C)) (cD (iR x) (iR C)) (aA (fJ (aW x.1 1)=bY C.1) (j8 a4 (nP C)) (eA J (nP C).2)))))))))))))))) (I (k+1) (j7 x) (oA x))))))))))
 (λd G=>j5 d G b5 0 (λy2=>K (mL y2) d G))))))))))))))))))
def ceZ(on:di)(ls:List cw):Prop:=2<=ls.length/\∃w c,kD w (ls.getD 0 [])/\kD c (ls.getD 1 [])/\jB w (nU on)/\jB c (iX on)
def OP(q:Query)(ls:List cw):Prop:=match q with|.mk _ _ _ _ on _ _ _ _=>ceZ on ls
def agree(on:di)(x y:de):Bool:=cN (pick x (nU on)) (pick y (iX on))==0
def U2(q:Query)(ls:List cw):cw:=match q with|.mk _ _ _ _ on _ _ _ _=>(ls.getD 0 []).filter λx=>(ls.getD 1 []).any λy=>agree on x y
theorem aTJ{on:di}{x y:de}:agree on x y=true↔pick x (nU on)=pick y (iX on):=by
 simp only[agree,beq_iff_eq,gT]
theorem Jq{r:de}{cols:dd}(c:UD r)(d:jB r.length cols):∀v∈pick r cols,VOk v:=λv e=>c.val v (Vo d e)
theorem LF{κ:de->ByteArray}(c:aUX κ){on:di}{x y:de}(hx:UD x)(d:UD y)(e:jB x.length (nU on))(f:jB y.length (iX on)):κ (pick x (nU on))=κ (pick y (iX on))↔agree on x y=true:=by
 rw[aTJ];exact c.inj (by simp[pick,nU,iX]) (Jq hx e) (Jq d f)
structure Start(m m7:MH)(sa sb:Sl)(T:TypeId)(b1 b2 y b7:Nat):Prop where
 sub:Sub m m7
 a_:m7 b1=some (.cells #[.slice sa.a sa.len sa.cap] 31 (0,0))
 b_:m7 b2=some (.cells #[.slice sb.a sb.len sb.cap] 31 (0,0))
 y_:m7 y=some (.map #[] 0)
 c_:m7 b7=some (.cells #[.map (some y)] T (0,0))
 ya:b1≠y
 yb:b2≠y
 yc:b7≠y
 free:m y=none
theorem UT{R S:Sl}{T:TypeId}{Q:Nat->Nat->Nat->Nat->MH->Prop}(hK:∀c d y n O,Start m O R S T c d y n->Q c d y n O):
 ∀(c:Nat)(Y:MH),dL m h c->gR m Y c (.cells #[tE] 31 (0,0))->∀(d:Nat)(m2:MH),dL Y h d->gR Y m2 d (.cells #[tE] 31 (0,0))->
  ∃(cs:Array Value)(E:TypeId),CA m2 c (.cells cs E (0,0))/\0<cs.size/\∀U:MH,gR m2 U c (.cells (Array.mk (eF R::cs.toList.drop 1)) E (0,0))->
  ∃(cs:Array Value)(E:TypeId),CA U d (.cells cs E (0,0))/\0<cs.size/\∀D:MH,gR U D d (.cells (Array.mk (eF S::cs.toList.drop 1)) E (0,0))->
  ∀(y:Nat)(P:MH),dL D h y->gR D P y (.map (Array.mk []) 0)->∀(n:Nat)(Z:MH),dL P h n->gR P Z n (.cells (Array.mk [.map none]) T (0,0))->
  ∃(cs:Array Value)(E:TypeId),CA Z n (.cells cs E (0,0))/\0<cs.size/\∀O:MH,gR Z O n (.cells (Array.mk (.map (some y)::cs.toList.drop 1)) E (0,0))->Q c d y n O:=by
 intro c Y a' F d m2 V G;obtain⟨s1,n1⟩:=kG (Sub.refl m) a' F;obtain⟨s2,n2⟩:=kG s1 V G;have H:c≠d:=λe=>by have:=V.m_;rw[<-e,F.at_]at this;cases this
 refine⟨_,_,⟨by rw[G.other c H];exact F.at_⟩,bf,λU I=>?_⟩;have s3:Sub m U:=s2.upd n1 I.other;refine⟨_,_,⟨by rw[I.other d (Ne.symm H)];exact G.at_⟩,bf,λD J y P W t n Z X g=>?_⟩;have s4:Sub m D:=s3.upd n2 J.other;have L:D c=some (.cells #[.slice R.a R.len R.cap] 31 (0,0)):=by rw[J.other c H];exact I.at_
 have M:D d=some (.cells #[.slice S.a S.len S.cap] 31 (0,0)):=J.at_;obtain⟨s5,ny⟩:=kG s4 W t;obtain⟨s6,n7⟩:=kG s5 X g;have u:∀{z o},D z=some o->z≠y:=fun{z o} e e2=>by rw[e2,W.m_]at e;cases e
 have f:∀{z o},P z=some o->z≠n:=fun{z o} e e2=>by rw[e2,X.m_]at e;cases e
 have A:=L;rw[<-t.other c (u L)]at A;have B:=M;rw[<-t.other d (u M)]at B;have C:P y=some (.map #[] 0):=t.at_;refine⟨_,_,⟨g.at_⟩,bf,λO j=>hK _ _ _ _ _ ⟨s6.upd n7 j.other,?_,?_,?_,j.at_,u L,u M,Ne.symm (f C),ny⟩⟩
 .rw[j.other c (f A),g.other c (f A)];exact A
 .rw[j.other d (f B),g.other d (f B)];exact B
 .rw[j.other y (f C),g.other y (f C)];exact C
theorem YQ:cu 178 (UE OP U2):=by
 refine KB func178 ?_;rintro c8 m h K ⟨v,t,q,bs,ls,rfl,hq,ha,hT,a9,hK⟩;refine⟨Ua [(201,Z0),(203,btQ)] [] [] [200005,200006,200007,200009,1095,400000,0],rfl,aD PD (aD Fy aF),L6 v t m h (dE h K),be,?_⟩;show L6 v t m h (dE h K);dsimp only[L6,push_cast];obtain⟨op,ta,w,co,on,gr,od,li,args⟩:=q;obtain⟨h2,wa,wb,f,d,b',L⟩:=a9;refine⟨v.on,on,rfl,hq.parts.on_,λsa sb M C b0 b3=>UT λb1 b2 y Y m7 D=>?_⟩;obtain⟨b,b4,x,ea,c9,rd,sq⟩:=ha.get (FW (i:=1) aC);obtain⟨b6,Z,x6,b5,c7,b8,a'⟩:=ha.get (FW (i:=0) aC);obtain⟨a0,O,E⟩:=(sq.mono C).ex;obtain⟨us,a1,P⟩:=(a'.mono C).ex;simp only[U2]at hK;generalize ls.getD 1 []=Q at E d hK sq;generalize ls.getD 0 []=l at P f hK a';have c':=P.len;have d':=f.len;have a2:=E.len;have s7:=D.sub;have ny:=D.free;refine⟨b,b4,ea,aC,aC,x,.imm (rd.mono C),z6,a0,λk I J=>J=M/\(∀z o,m7 z=some o->z≠y->I z=some o)/\tT I y ((Q.take k).map λz=>dZ (pick z (iX on))),yT,⟨x,a0,rfl,O,rfl⟩,⟨rfl,λz o e _=>e,br (tT.new D.y_)⟩,?_,?_⟩
 .rintro k e I J hk-⟨rfl,R,F⟩
  obtain⟨r,X,hv⟩:=E.at' hk;have n:=bx X;have S:aJ I J Y 0 [Value.map (some y)]:=.of_m (R Y _ D.c_ D.yc) rfl;have rb:aJ I J b2 0 [eF sb]:=.of_m (R b2 _ D.b_ D.yb) rfl;refine⟨y,S,sb,rb,S,e,sb,r,iX on,rfl,hv,b3,d.row r n,by rw[d.wid r n];exact L,hT.sub (λz o A=>R z o (s7 z o A) (λe3=>bk)),S,F.put (λm' T a3=>⟨rfl,λz o A c0=>by rw[T.other z c0];grind,?_⟩)⟩;obtain⟨kk,h5,h6⟩:=a3.ex;exact⟨kk,h5,λq=>by rw[h6,cj,X];grind⟩
 .rintro I J-⟨rfl,R,F⟩ b9 m5 a4 G;rw[a2,take_length]at F;have s5:Sub m I:=λz o A=>R z o (s7 z o A) (λe3=>bk);obtain⟨s6,n7⟩:=kG s5 a4 G
  have a5:∀{z o},I z=some o->m5 z=some o/\z≠b9:=fun{z o} A=>by
   have:z≠b9:=λe3=>by rw[e3,a4.m_]at A;cases A
   exact⟨by rw[G.other z this];exact A,this⟩
  obtain⟨c1,na⟩:=a5 (R b1 _ D.a_ D.ya);obtain⟨c2,nc⟩:=a5 (R Y _ D.c_ D.yc)
  have y7:y≠b9:=by
   obtain⟨kk,⟨es,c,M,_⟩,_⟩:=F.ex
   grind
  have a6:=F.keep (G.other y y7);refine⟨b6,Z,b5,aC,aC,x6,.imm (b8.mono C),z6,us,λk U hy=>hy=J/\FD m5 U b9/\∃u,qJ m5 U b9 u/\u.length<=k/\fQ J u ((l.take k).filter λz=>Q.any λy=>agree on z y),yT,⟨x6,us,rfl,a1,rfl⟩,⟨rfl,λz o e _=>e,[],qJ.new G.at_,bf,br (fQ.nil J)⟩,?_,?_⟩
  .rintro k e U hy hk-⟨rfl,g,u,B,c3,H⟩
   obtain⟨r,X,hv⟩:=P.at' hk;have d0:=(bt hk);have n:=bx X;have S:aJ U hy Y 0 [Value.map (some y)]:=.of_m (g Y _ c2 nc) rfl;have r3:aJ U hy b1 0 [eF sa]:=.of_m (g b1 _ c1 na) rfl
   have a7:tT U y (Q.map λz=>dZ (pick z (iX on))):=by
    obtain⟨kk,⟨es,c,M,h2,h3,h4⟩,h5⟩:=a6.ex;exact⟨kk,⟨es,c,g y _ M y7,h2,h3,h4⟩,h5⟩
   have V:jB r.length (nU on):=by rw[f.wid r n];exact b'
   have key:∀t:Bool,(t=true↔dZ (pick r (nU on))∈Q.map λz=>dZ (pick z (iX on)))->t=Q.any λy=>agree on r y:=λt ht=>by
    have M:(dZ (pick r (nU on))∈Q.map λz=>dZ (pick z (iX on)))↔(Q.any λy=>agree on r y)=true:=by
     rw[mem_map,any_eq_true];constructor
     .rintro⟨z,W,A⟩;exact⟨z,W,(LF Pj (f.row r n) (d.row z W) V (by rw[d.wid z W];exact L)).1 A.symm⟩
     .rintro⟨z,W,A⟩;exact⟨z,W,((LF Pj (f.row r n) (d.row z W) V (by rw[d.wid z W];exact L)).2 A).symm⟩
    grind
   refine⟨y,S,sa,r3,S,e,sa,r,nU on,rfl,hv,b0,f.row r n,V,hT.sub (s6.x n7 g),S,r3,a7.get (K:=λt=>branch t _ _) (λt ht=>?_)⟩;have e3:=key t ht;refine aB (λM=>?_) (λM=>?_)
   .refine qJ.app ⟨_,G.at_⟩ g B aC (λm' T c4=>⟨rfl,T,u++[e],c4,bj,?_⟩);rw[lN _ X,if_pos bk];exact H.snoc hv
   .refine⟨rfl,g,u,B,aC,?_⟩;rw[lN _ X,if_neg bk,append_nil];exact H
  .rintro U hy-⟨rfl,g,u,B,c3,H⟩
   rw[c',take_length]at H;obtain⟨s,hb,a8,c5⟩:=B.ex;refine⟨s,.of_m hb rfl,dE.row (s6.x n7 g) C a8 (λj z e=>?_) (λh' le c6=>hK s h' (C.trans le) ((H.mono le).rows c6 bk))⟩;cases A:m z with
   |none=>rfl
   |some o=>have e1:=c5 j z e;rw[s6 z o A]at e1;cases e1
structure rX(m0 m:MH)(y:Nat)(kk:dm)(us:ByteArray->dk):Prop where
 map_:mO m y (kk.map λp=>(Value.string p.1,eF p.2))
 nodup:(kk.map Prod.fst).Nodup
 row:∀p∈kk,cT m p.2 75 1 ((us p.1).map eS)
 fresh:∀p∈kk,∀x i,p.2.a=some ⟨x,i,none⟩->m0 x=none
 apart:∀p∈kk,∀q∈kk,p.1≠q.1->∀x i j,p.2.a=some ⟨x,i,none⟩->q.2.a≠some ⟨x,j,none⟩
 none_:∀k,k∉kk.map Prod.fst->us k=[]
 old:∀x o,m0 x=some o->x≠y->m x=some o
def FP(c:dm)(key:ByteArray)(s:Sl):Prop:=(s=⟨none,0,0⟩/\key∉c.map Prod.fst)\/(key,s)∈c
theorem rX.new{y:Nat}(h:m y=some (.map #[] 0)):rX m m y [] λ_=>[]:=⟨⟨#[],0,h,rfl,bf,bf⟩,bf,bf,bf,bf,λ_ _=>rfl,λ_ _ e _=>e⟩
theorem FP.row{m0:MH}{y:Nat}{c:dm}{us:ByteArray->dk}{key:ByteArray}{s:Sl}(g:rX m0 m y c us)(f:FP c key s):cT m s 75 1 ((us key).map eS)/\∀x i,s.a=some ⟨x,i,none⟩->m0 x=none:=by
 rcases f with⟨rfl,j⟩|d
 .rw[g.none_ key j];exact⟨⟨vN [],.inl ⟨rfl,rfl⟩⟩,λx i e=>by cases e⟩
 .exact⟨g.row _ d,g.fresh _ d⟩
theorem rX.keep{m0:MH}{y:Nat}{f:dm}{us:ByteArray->dk}(g:rX m0 m y f us)(j:∀x o,m x=some o->m' x=some o):rX m0 m' y f us:=by
 obtain⟨n,c,d,e,t,u⟩:=g.map_;refine⟨⟨n,c,j _ _ d,e,t,u⟩,g.nodup,λp z=>?_,g.fresh,g.apart,g.none_,λx o d e=>j x o (g.old x o d e)⟩;obtain⟨A,B⟩:=g.row p z;refine⟨A,B.imp id ?_⟩
 grind
def QC(us:ByteArray->dk)(key:ByteArray)(e:Sl):ByteArray->dk:=λk=>if k=key then us k++[e]else us k
theorem rX.core{m0 T:MH}{y:Nat}{C z:dm}{us:ByteArray->dk}{key:ByteArray}{s s' e:Sl}(g:rX m0 m y C us)(G:∃o,m0 y=some o)(H:FP C key s)(E:dV m T s s' 75 1 ((us key).map eS++[[eF e]]))
 (U:mO m' y (z.map λp=>(Value.string p.1,eF p.2)))(t:iV T m' y)(I:(z.map Prod.fst).Nodup)(u:∀p∈z,p=(key,s')\/(p∈C/\p.1≠key))(F:(key,s')∈z)(J:∀k,k∈C.map Prod.fst->k∈z.map Prod.fst):rX m0 m' y z (QC us key e):=by
 obtain⟨oy,G⟩:=G;obtain⟨V,a'⟩:=H.row g;obtain⟨es,c,h1,_⟩:=g.map_;have a0:∀i,s.a≠some ⟨y,i,none⟩:=λi f=>bk
 have W:∀x,m x=none->m0 x=none:=λx L=>by
  cases M:m0 x with
  |none=>rfl
  |some o=>
   by_cases O:x=y
   .grind
   .rw[g.old x o M O]at L;cases L
 have X:∀x i,s'.a=some ⟨x,i,none⟩->m0 x=none:=λx i f=>by
  rcases E.fresh x i f with h|⟨j,h⟩
  .grind
  grind
 have D:∀p∈C,∀x i,p.2.a=some ⟨x,i,none⟩->∃o,m x=some o:=λp A x i f=>by
  rcases(g.row p A).ex with⟨h,_⟩|⟨b,a1,a2,h,U,_⟩
  .grind
  grind
 have P:∀p∈C,p.1≠key->∀x i j,p.2.a=some ⟨x,i,none⟩->s.a≠some ⟨x,j,none⟩:=λp A d x i j f B=>by
  rcases H with⟨rfl,_⟩|H
  .cases B
  .exact g.apart p A _ H d x i j f B
 refine⟨U,I,λp A=>?_,λp A x i f=>?_,λp A q hq d x i j f B=>?_,λk Y=>?_,λx o M d=>?_⟩
 .rcases u p A with rfl|⟨n,d⟩
  .have Q:(QC us key e key).map eS=(us key).map eS++[[eF e]]:=by simp[QC,eS]
   rw[Q];exact cT.keep E.row λb i f=>t.other b (λB=>bk)
  .have Q:QC us key e p.1=us p.1:=if_neg d;rw[Q];refine cT.keep (g.row p n) λb i f=>?_;obtain⟨o,Z⟩:=D p n b i f;rw[t.other b (λB=>by rw[B]at f;rw[g.fresh p n y i f]at G;cases G),Z];exact E.other b o Z (λj=>P p n d b i j f)
 .rcases u p A with rfl|⟨n,_⟩
  .grind
  .exact g.fresh p n x i f
 .have L:∀p∈C,p.1≠key->∀i j,p.2.a=some ⟨x,i,none⟩->s'.a≠some ⟨x,j,none⟩:=λp A d i j f B=>by
   rcases E.fresh x j B with h|⟨j',h⟩
   .grind
   grind
  rcases u p A with rfl|⟨n,a3⟩<;>rcases u q hq with rfl|⟨R,a4⟩
  .exact d rfl
  .grind
  .grind
  .exact g.apart p n q R d x i j f B
 .have S:k≠key:=λf=>Y (mem_map.2 ⟨_,F,f.symm⟩);simp only[QC,if_neg S];exact g.none_ k λh=>Y (J k h)
 .rw[t.other x d];exact E.other x o (g.old x o M d) (λi f=>bk)
theorem rX.put{m0 A:MH}{y:Nat}{t:dm}{us:ByteArray->dk}{key:ByteArray}{s s' e:Sl}{Q:MH->Prop}(g:rX m0 m y t us)(B:∃o,m0 y=some o)(C:FP t key s)(D:dV m A s s' 75 1 ((us key).map eS++[[eF e]]))
 (J:∀m' E,rX m0 m' y E (QC us key e)->Q m'):
 ∃(j:dh)(Ok:Value->Prop),mO A y j/\KeyLaw Tryz.prog 9 Ok/\Ok (.string key)/\Instr.sameBits 10000 (Value.string key) (Value.string key)=true/\(∀e,List.Mem e j->Ok e.1)/\((∀e,List.Mem e j->e.1=Value.string key->False)->∀m':MH,iV A m' y->mO m' y (j++[(Value.string key,eF s')])->Q m')/\
  ∀(F:dh)(L:Value)(G:dh),j=F++(Value.string key,L)::G->∀m':MH,iV A m' y->mO m' y (F++(Value.string key,eF s')::G)->Q m':=by
 have H:∀i,s.a≠some ⟨y,i,none⟩:=λi n=>by
  obtain⟨o,M⟩:=B;rw[(C.row g).2 y i n]at M;cases M
 obtain⟨R,c,S,T,U,V⟩:=g.map_;refine⟨t.map λp=>(Value.string p.1,eF p.2),_,⟨R,c,D.other _ _ S H,T,U,V⟩,Ee,⟨key,rfl⟩,U5 key,λe W=>?_,λX m' d I=>?_,λF L G Y m' d I=>?_⟩
 .obtain⟨k,_,rfl⟩:=mem_map.1 (show e∈_ from W)
  grind
 .have Z:key∉t.map Prod.fst:=λh=>by
   obtain⟨p,hp,n⟩:=mem_map.1 h;subst n;exact X _ (mem_map_of_mem (f:=λp:ByteArray×Sl=>(Value.string p.1,eF p.2)) hp) rfl
  refine J m' (t++[(key,s')]) (g.core B C D bk d ?_ ?_ bf (λk hk=>bk))
  .rw[cd,nodup_append];refine⟨g.nodup,bf,λa ha b hb n=>?_⟩
   grind
  grind
 .obtain⟨k1,a',e1,n,e3⟩:=map_eq_append_iff.1 Y;obtain⟨p,k2,e4,O,e6⟩:=map_eq_cons_iff.1 e3;subst e1 e4 n e6;simp only[Prod.mk.injEq,Value.string.injEq]at O;have u:=g.nodup;rw[cd,map_cons,O.1]at u;have z:=nodup_append.1 u;have P:=nodup_cons.1 z.2.1;refine J m' (k1++(key,s')::k2) (g.core B C D bk d bk ?_ bf (λk hk=>bk))
  grind
theorem rX.app{m0:MH}{hx:PH}{y c:Nat}{T:TypeId}{t:dm}{us:ByteArray->dk}{key:ByteArray}{s e:Sl}{Q:MH->Prop}(g:rX m0 m y t us)(C:∃o,m0 y=some o)(D:∃o,m0 c=some o)(E:m c=some (.cells #[.map (some y)] T (0,0)))(I:(us key).length<=502633886983)
 (F:∀m' n,rX m0 m' y n (QC us key e)->Q m')(u:FP t key s):
 ∃xs:List cv,cT m (Sl.mk s.a s.len s.cap) 75 1 xs/\(xs.length+1)*24<=140737488355328/\xs.length<140737488355328/\∀(s':Sl)(f:MH),dV m f (Sl.mk s.a s.len s.cap) s' 75 1 (xs++[[eF e]])->
  aJ f hx c 0 [Value.map (some y)]/\aJ f hx c 0 [Value.map (some y)]/\
 ∃(d:dh)(Ok:Value->Prop),mO f y d/\KeyLaw Tryz.prog 9 Ok/\Ok (.string key)/\Instr.sameBits 10000 (Value.string key) (Value.string key)=true/\(∀e,List.Mem e d->Ok e.1)/\((∀e,List.Mem e d->e.1=Value.string key->False)->∀m':MH,iV f m' y->mO m' y (d++[(Value.string key,eF s')])->Q m')/\
  ∀(z:dh)(G:Value)(A:dh),d=z++(Value.string key,G)::A->∀m':MH,iV f m' y->mO m' y (z++(Value.string key,eF s')::A)->Q m':=by
 obtain⟨j,H⟩:=u.row g;refine⟨_,j,bj,bj,λs' f B=>?_⟩
 have r:aJ f hx c 0 [Value.map (some y)]:=.of_m (B.other c _ E λi J=>by
  grind) rfl
 exact⟨r,r,g.put C u B F⟩
theorem rX.get2{m0:MH}{y:Nat}{j:dm}{us:ByteArray->dk}{key:ByteArray}{K0:Prop}{K:Sl->Prop}(g:rX m0 m y j us)(o:FP j key ⟨none,0,0⟩->K0)(u:∀s,FP j key s->K s):
 ∃(d:List (Value×Sl))(Ok:Value->Prop),tB m y (d.map λp=>(p.1,eF p.2))/\KeyLaw Tryz.prog 9 Ok/\Ok (.string key)/\(∀e,List.Mem e d->Ok e.1)/\((∀e,List.Mem e d->e.1=Value.string key->False)->K0)/\∀t,List.Mem (Value.string key,t) d->K t:=by
 obtain⟨z,c,A,B,_,_⟩:=g.map_;refine⟨j.map λp=>(.string p.1,p.2),_,⟨z,c,A,by rw[B];simp⟩,Ee,⟨key,rfl⟩,λe C=>?_,λD=>o (.inl ⟨rfl,λh=>?_⟩),λt E=>u t (.inr ?_)⟩
 .obtain⟨k,_,rfl⟩:=mem_map.1 (show e∈_ from C)
  grind
 .obtain⟨p,n,e⟩:=mem_map.1 h;subst e;exact D (.string p.1,p.2) (mem_map_of_mem (f:=λp:ByteArray×Sl=>(Value.string p.1,p.2)) n) rfl
 .obtain⟨p,n,e⟩:=mem_map.1 (show(Value.string key,t)∈_ from E)
  grind
structure Xu(m0 m:MH)(h:PH)(y:Nat)(f:ByteArray->cw):Prop where
 ex:∃kk us,rX m0 m y kk us/\∀k,fQ h (us k) (f k)
theorem Xu.upd{m0:MH}{y:Nat}{j:dm}{us:ByteArray->dk}{f c:ByteArray->cw}{key:ByteArray}{e:Sl}{r:de}(g:rX m0 m' y j (QC us key e))(n:∀k,fQ h (us k) (f k))(o:bO h e r)(t:c key=f key++[r])(u:∀k,k≠key->c k=f k):Xu m0 m' h y c:=by
 refine⟨j,_,g,λk=>?_⟩;by_cases d:k=key
 .subst d;rw[t];have:QC us k e k=us k++[e]:=if_pos rfl;rw[this];exact(n k).snoc o
 .rw[u k d];have:QC us key e k=us k:=if_neg d
  grind
def Ei(cols:dd)(r:de):Bool:=(pick r cols).all mF
def rH(on:di)(b:cw)(x:de):cw:=
 if Ei (nU on) x then(b.filter λy=>Ei (iX on) y&&agree on x y).map (x++ ·)else[]
def VG(q:Query)(ls:List cw):cw:=match q with|.mk _ _ _ _ on _ _ _ _=>(ls.getD 0 []).flatMap (rH on (ls.getD 1 []))
def OS(q:Query)(ls:List cw):Prop:=match q with|.mk _ _ _ _ on _ _ _ _=>ceZ on ls/\(ls.getD 0 []).length*(ls.getD 1 []).length<=8000000
theorem AS{α β:Type}{f:α->List β}{n:Nat}:∀{l:List α},(∀x∈l,(f x).length<=n)->(l.flatMap f).length<=l.length*n
 |[],_=>bf
 |a::l,h=>by
  have d:=h a (mem_cons_self ..);have e:=AS (l:=l) λx c=>h x (mem_cons_of_mem _ c);simp only[flatMap_cons,bz,cq,Nat.add_mul,Nat.one_mul];omega
theorem BS{α β:Type}{l:List α}{x:α}(f:α->List β)(hx:l[k]? =some x):(l.take (k+1)).flatMap f=(l.take k).flatMap f++f x:=by
 rw[cj,hx];simp
theorem Dm{on:di}{b:cw}{x:de}:(rH on b x).length<=b.length:=by
 unfold rH;grind
def under(κ:de->ByteArray)(cols:dd)(l:cw)(key:ByteArray):cw:=l.filter λz=>Ei cols z&&decide (κ (pick z cols)=key)
theorem Io{κ:de->ByteArray}{cols:dd}{l:cw}{r:de}(c:l[k]? =some r)(key:ByteArray):under κ cols (l.take (k+1)) key=under κ cols (l.take k) key++(if Ei cols r&&decide (κ (pick r cols)=key)then[r]else[]):=lN _ c
theorem YR:cu 177 (UE OS VG):=by
 refine KB func177 ?_;rintro f4 m h K ⟨v,t,q,bs,ls,rfl,hq,ha,hT,d9,hK⟩;refine⟨bbJ,rfl,aD PD (aD Fy (aD YG (aD YF aF))),L7 v t m h (dE h K),be,?_⟩;show L7 v t m h (dE h K);dsimp only[L7,push_cast];obtain⟨op,ta,w,co,on,gr,od,li,args⟩:=q;obtain⟨⟨h2,wa,wb,F,d,e',c4⟩,c5⟩:=d9;refine⟨v.on,on,rfl,hq.parts.on_,λsa sb h1 R c6 c7=>UT λb1 b2 y b7 m7 S=>?_⟩;obtain⟨b,e0,x,ea,f5,rd,sq⟩:=ha.get (FW (i:=1) aC);obtain⟨b6,c8,x6,e4,f1,e5,c9⟩:=ha.get (FW (i:=0) aC);obtain⟨d',b4,a'⟩:=(sq.mono R).ex;obtain⟨us,d0,b5⟩:=(c9.mono R).ex;simp only[VG]at hK;generalize ls.getD 1 []=C at a' d hK sq c5;generalize ls.getD 0 []=l at b5 F hK c9 c5;have e6:=b5.len;have f6:=F.len;have f2:=d.len;have d1:=a'.len;have s7:=S.sub;have ny:=S.free;have b3:∀{Y kk us},rX m7 Y y kk us->Sub m Y:=λg z o D=>g.old z o (s7 z o D) (λe3=>bk);refine⟨b,e0,ea,aC,aC,x,.imm (rd.mono R),z6,d',λk Y hx=>hx=h1/\Xu m7 Y h1 y (under dZ (iX on) (C.take k)),yT,⟨x,d',rfl,b4,rfl⟩,⟨rfl,⟨[],_,rX.new S.y_,λk=>by simpa[under]using fQ.nil h1⟩⟩,?_,?_⟩
 .rintro k e Y hx hk-⟨rfl,⟨kk,uk,g,hg⟩⟩
  obtain⟨r,hr,hv⟩:=a'.at' hk;have L:=bx hr;have T:jB r.length (iX on):=by rw[d.wid r L];exact c4
  have mc:=g.old b7 _ S.c_ S.yc;have E:aJ Y hx b7 0 [Value.map (some y)]:=.of_m mc rfl;have rb:aJ Y hx b2 0 [eF sb]:=.of_m (g.old b2 _ S.b_ S.yb) rfl;refine⟨sb,rb,e,sb,r,iX on,rfl,hv,c7,T,aB (λc=>?_) (λc=>?_)⟩
  .have hl:(uk (dZ (pick r (iX on)))).length<=502633886983:=by
    have h5:=(hg (dZ (pick r (iX on)))).len;have h6:(under dZ (iX on) (C.take k) (dZ (pick r (iX on)))).length<=(C.take k).length:=length_filter_le _ _
    grind
   have app:=fun{s:Sl}=>g.app (hx:=hx) (e:=e) (s:=s) (Q:=λm'=>hx=hx/\Xu m7 m' hx y (under dZ (iX on) (C.take (k+1)))) ⟨_,S.y_⟩ ⟨_,S.c_⟩ mc hl (λm' f7 g'=>⟨rfl,Xu.upd g' hg hv (by rw[Io hr,if_pos];simpa[Ei]using c) (λk2 f8=>by rw[Io hr,if_neg,append_nil];grind)⟩);exact⟨sb,rb,e,sb,r,iX on,rfl,hv,c7,d.row r L,T,hT.sub (b3 g),y,E,y,E,⟨E,g.get2 (λU=>⟨E,E,E,E,app U⟩) (λs U=>⟨E,E,E,E,app U⟩)⟩,E,E,E,g.get2 (λU=>⟨E,E,app U⟩) (λs U=>⟨E,E,app U⟩)⟩
  .refine⟨rfl,⟨kk,uk,g,λk2=>?_⟩⟩;rw[Io hr,if_neg,append_nil]
   .exact hg k2
   .simp[Ei,c]
 .rintro Y hx-⟨rfl,gr⟩ Z m5 d2 a0;rw[d1,take_length]at gr
  have V:∀{z o},Y z=some o->m5 z=some o/\z≠Z:=fun{z o} D=>by
   have:z≠Z:=λe3=>by rw[e3,d2.m_]at D;cases D
   exact⟨by rw[a0.other z this];exact D,this⟩
  have s5:Sub m Y:=by
   obtain⟨kk,uk,g,_⟩:=gr.ex;exact b3 g
  obtain⟨s6,n7⟩:=kG s5 d2 a0;obtain⟨kk,uk,g,hg⟩:=gr.ex;refine⟨b6,c8,e4,aC,aC,x6,.imm (e5.mono R),z6,us,λk my hy=>PH.le hx hy/\FD m5 my Z/\∃M,qJ m5 my Z M/\fQ hy M ((l.take k).flatMap (rH on C)),yT,⟨x6,us,rfl,d0,rfl⟩,⟨.refl _,λz o e _=>e,[],qJ.new a0.at_,br (fQ.nil hx)⟩,?_,?_⟩
  .rintro k e my hy hk-⟨le,O,M,J,a6⟩
   obtain⟨r,hr,hv⟩:=b5.at' hk;have f9:=(bt hk);have L:=bx hr;have d3:∀z o,Y z=some o->my z=some o:=λz o D=>O z o (V D).1 (V D).2;have g7:=g.keep d3;have E:aJ my hy b7 0 [Value.map (some y)]:=.of_m (g7.old b7 _ S.c_ S.yc) rfl;have r3:aJ my hy b1 0 [eF sa]:=.of_m (g7.old b1 _ S.a_ S.ya) rfl;have T:jB r.length (nU on):=by rw[F.wid r L];exact e'
   have c':=bO.mono hv le;refine⟨sa,r3,e,sa,r,nU on,rfl,c',c6.mono le,T,aB (λc=>?_) (λc=>?_)⟩
   .refine⟨le,O,M,J,?_⟩;have:rH on C r=[]:=if_neg (by simpa[Ei]using c);rw[BS _ hr,this,append_nil];exact a6
   .have c:(pick r (nU on)).all mF=true:=bk
    have e9:under dZ (iX on) C (dZ (pick r (nU on)))=C.filter λy=>Ei (iX on) y&&agree on r y:=by
     refine filter_congr λz hz=>?_;congr 1;have h5:=LF Pj (F.row r L) (d.row z hz) T (by rw[d.wid z hz];exact c4)
     grind
    have a7:rH on C r=(under dZ (iX on) C (dZ (pick r (nU on)))).map (r++ ·):=by rw[e9];exact if_pos (by simpa[Ei]using c)
    have d4:((l.take k).flatMap (rH on C)).length+(under dZ (iX on) C (dZ (pick r (nU on)))).length<=8000000:=by
     have h5:((l.take (k+1)).flatMap (rH on C)).length<=(l.take (k+1)).length*C.length:=AS λx _=>Dm;rw[BS _ hr,bz,a7,length_map]at h5;have h6:(l.take (k+1)).length*C.length<=l.length*C.length:=Nat.mul_le_mul_right _ bk;omega
    have f3:∀s,FP kk (dZ (pick r (nU on))) s->cT Y s 75 1 ((uk (dZ (pick r (nU on)))).map eS):=λs U=>(U.row g).1;generalize hG:under dZ (iX on) C (dZ (pick r (nU on)))=G at a7 d4;have a8:=hg (dZ (pick r (nU on)));rw[hG]at a8;have d5:=a8.len;refine⟨y,E,sa,r3,E,e,sa,r,nU on,rfl,c',c6.mono le,F.row r L,T,hT.sub (s6.x n7 O),E,r3,g7.get2 (λU=>?_) (λs U=>?_)⟩
    .refine⟨λz=>z.1<=G.length/\z.2.1=Z/\z.2.2.1=e/\z.2.2.2.1=(⟨none,0,0⟩:Sl)/\PH.le hy z.2.2.2.2.2/\FD m5 z.2.2.2.2.1 Z/\∃n,qJ m5 z.2.2.2.2.1 Z n/\fQ z.2.2.2.2.2 n ((l.take k).flatMap (rH on C)++(G.take z.1).map (r++ ·)),λz=>G.length-z.1,⟨(0,Z,e,(⟨none,0,0⟩:Sl),my,hy),⟨bf,rfl,rfl,rfl,.refl _,O,M,J,bk⟩,MT⟩,?_⟩;rintro⟨i,bb,ee,gg,mz,hz⟩ ⟨hi,e1,D,e3,H,I,n,f,W⟩;dsimp only at hi e1 D e3 H I f W;subst e1 D e3;have gz:=g.keep (λz o D=>I z o (V D).1 (V D).2);have A:=(U.row gz).1;have c0:=A.slen;rw[length_map,d5]at c0;refine aE (λa1=>?_) (λc1=>?_)
     .dsimp only at a1⊢
      have a9:i<G.length:=by omega
      obtain⟨u,hu,d6⟩:=a8.at_ i _ (bu a9);obtain⟨b8,e8,f'⟩:=A.rd (h:=hz) (i:=i) (e:=[eF u]) aC;obtain⟨so,a2,P,a3⟩:=f.ex;have B:∀hh,aJ mz hh bb 0 [eF so]:=λhh=>.of_m a2 rfl;have a4:=W.len;simp only[bz,length_map,length_take]at a4;refine⟨b8,0,e8,aC,aC,u,aC,so,B _,B _,B _,λs2 h3 X b'=>⟨s2,[r,G[i]],rfl,?_,bf,?_,λsl h4 b0 d7=>⟨B _,B _,Jr ⟨_,a0.at_⟩ I a2 P a3 aC (λm' c2 c3=>⟨(i+1,bb,ee,⟨none,0,0⟩,m',h4),⟨aC,rfl,rfl,rfl,H.trans (X.trans b0),c2,n++[sl],c3,?_⟩,aC,?_⟩)⟩⟩⟩
      .omega
      .omega
      .omega
      omega
     .dsimp only at c1⊢
      have:i=G.length:=bk
      subst this;refine⟨le.trans H,I,n,f,?_⟩;rw[BS _ hr,a7]
      grind
    .refine⟨λz=>z.1<=G.length/\z.2.1=Z/\z.2.2.1=e/\z.2.2.2.1=s/\PH.le hy z.2.2.2.2.2/\FD m5 z.2.2.2.2.1 Z/\∃n,qJ m5 z.2.2.2.2.1 Z n/\fQ z.2.2.2.2.2 n ((l.take k).flatMap (rH on C)++(G.take z.1).map (r++ ·)),λz=>G.length-z.1,⟨(0,Z,e,s,my,hy),⟨bf,rfl,rfl,rfl,.refl _,O,M,J,bk⟩,MT⟩,?_⟩;rintro⟨i,bb,ee,gg,mz,hz⟩ ⟨hi,e1,D,e3,H,I,n,f,W⟩;dsimp only at hi e1 D e3 H I f W;subst e1 D e3;have gz:=g.keep (λz o D=>I z o (V D).1 (V D).2);have A:=(U.row gz).1;have c0:=A.slen;rw[length_map,d5]at c0;refine aE (λa1=>?_) (λc1=>?_)
     .dsimp only at a1⊢
      have a9:i<G.length:=by omega
      obtain⟨u,hu,d6⟩:=a8.at_ i _ (bu a9);obtain⟨b8,e8,f'⟩:=A.rd (h:=hz) (i:=i) (e:=[eF u]) (by rw[getElem?_map,hu];rfl);obtain⟨so,a2,P,a3⟩:=f.ex;have B:∀hh,aJ mz hh bb 0 [eF so]:=λhh=>.of_m a2 rfl;have a4:=W.len;simp only[bz,length_map,length_take]at a4;refine⟨b8,0,e8,aC,aC,u,bk,so,B _,B _,B _,λs2 h3 X b'=>⟨s2,[r,G[i]],rfl,?_,bf,?_,λsl h4 b0 d7=>⟨B _,B _,Jr ⟨_,a0.at_⟩ I a2 P a3 aC (λm' c2 c3=>⟨(i+1,bb,ee,gg,m',h4),⟨aC,rfl,rfl,rfl,H.trans (X.trans b0),c2,n++[sl],c3,?_⟩,aC,?_⟩)⟩⟩⟩
      .refine fQ.rows (us:=[ee,u]) ?_ b' bf;refine⟨rfl,λj z hj=>?_⟩
       match j,hj with
       |0,hj=>
        simp at hj;subst hj;exact⟨ee,rfl,bO.mono c' (H.trans X)⟩
       |1,hj=>
        simp at hj;subst hj;exact⟨u,rfl,bO.mono d6 (le.trans (H.trans X))⟩
      .intro z a5;have a5:z∈[r,G[i]]:=a5;rcases mem_cons.1 a5 with rfl|a5
       .exact(F.row _ L).len
       .have e7:=mem_singleton.1 a5
        have:z∈C:=by
         grind
        exact(d.row _ this).len
      .have e7:(G.take (i+1)).map (r++ ·)=(G.take i).map (r++ ·)++[r++G[i]]:=by rw[cj,bu a9,cd];rfl
       rw[e7, <-append_assoc];exact(W.mono (X.trans b0)).snoc bk
      .dsimp only;exact⟨rfl,rfl,rfl,rfl,by rw[jG aC],rfl,rfl,trivial⟩
     .dsimp only at c1⊢
      have:i=G.length:=by omega
      subst this;refine⟨le.trans H,I,n,f,?_⟩;rw[BS _ hr,a7]
      grind
  .rintro my hy g0 ⟨le,O,M,J,a6⟩;rw[e6,take_length]at a6;obtain⟨s,hb,A,f0⟩:=J.ex;refine⟨s,.of_m hb rfl,dE.row (s6.x n7 O) (R.trans le) A (λj z e=>?_) (λh' d8 b'=>hK s h' (R.trans (le.trans d8)) ((a6.mono d8).rows b' ?_))⟩
   .cases D:m z with
    |none=>rfl
    |some o=>have e1:=f0 j z e;rw[s6 z o D]at e1;cases e1
   .have h5:(l.flatMap (rH on C)).length<=l.length*C.length:=AS λx _=>Dm;omega
noncomputable def a8J:Ctx:=Ua [(203,btQ),(223,bpZ)] [(7,{A:=Nat×Nat×Nat×MH×PH,st:=λ⟨b,c,r,m,h⟩=>bU 35 37 [(2,vv (.pointer (some ⟨b,0,none⟩))),(5,vv (.pointer (some ⟨c,0,none⟩))),(26,vv (.pointer (some ⟨r,0,none⟩)))] [] m h})] [] [200002,200005,1095,400000,0]
noncomputable abbrev pC(a:Nat×Nat×Nat×MH×PH):Nat×MH×PH:=a.2.2
abbrev O3(a:dh->dh->Prop):Prop:=∃(x c:dh),a x c
attribute [push_cast] pC O3
def LY(v:QV)(u:Nat)(m:MH)(h:PH)(K:dc):Prop:=
  ∀(b:Nat)(R:MH),aR (dL m h b) (cL m R b v.enc 68) (Ah R h (λZ T=>∀(n:Nat)(L:MH),aR (dL T h n) (cL T L n (mI Gf) 243) (mH (λc E=>aA (CA L n (jI c E 0)) (0<c.size) (∀(U:MH),cL L U n (jJ (FI Z) 1 c) E->∃(S:PH->cv->List cv->Prop),vY S h u U (λI k e g d=>I k g d->j5 g d b 17 (λy=>G3 e y d (λr _=>UD r) (λr z=>aA (jB r.length z) (iL g) (∃(f:Nat),aJ g d n 0 (bN f)/\∃(B:Nat),aA (aJ g d n 0 (bN B)) (aJ g d n 0 (bN f)/\v8 g B (λO=>jU 9 O) (λO=>O (dJ r z)) (dJ r z) (Gh (aJ g d n 0 (bN f)) (aJ g d n 0 (bN B)) (aJ g d n 0 (bN f)) (aJ g d n 0 (bN B)) (λx=>aI (cT g uD 75 1 x) (cW
 (iA x 1*24)) (fN x) (∀(s:Sl)(t:MH),dV g t uD s 75 1 (eK x (aM e))->aA (aJ t d n 0 (bN f)) (aJ t d n 0 (bN B)) (pL t f (λO=>jU 9 O) (λO=>O (dJ r z)) (dJ r z) (λC=>∀(j:MH),aR (iV t j f) (mO j f (fA C (dJ r z) (eF s) [])) (I (k+1) j d)) (λl D A=>fA l (dJ r z) D A) (λl A=>∀(j:MH),aR (iV t j f) (mO j f (fA l (dJ r z) (eF s) A)) (I (k+1) j d)))))) (λJ=>Gh (aJ g d n 0 (bN f)) (aJ g d n 0 (bN B)) (aJ g d n 0 (bN f)) (aJ g d n 0 (bN B)) (λx=>aI (cT g (cH J) 75 1 x) (cW (iA x 1*24)) (fN x) (∀(s:Sl)(t:MH),dV g t (cH J) s 75 1 (eK x (aM e))->aA (aJ t d n 0 (bN f)) (aJ t d n 0 (bN B))
 (pL t f (λO=>jU 9 O) (λO=>O (dJ r z)) (dJ r z) (λC=>∀(j:MH),aR (iV t j f) (mO j f (fA C (dJ r z) (eF s) [])) (I (k+1) j d)) (λl D A=>fA l (dJ r z) D A) (λl A=>∀(j:MH),aR (iV t j f) (mO j f (fA l (dJ r z) (eF s) A)) (I (k+1) j d))))))) (aA (aJ g d n 0 (bN f)) (aJ g d n 0 (bN B)) (aJ g d n 0 (bN f)/\v8 g B (λO=>jU 9 O) (λO=>O (dJ r z)) (dJ r z) (vE (aJ g d n 0 (bN f)) (aJ g d n 0 (bN B)) (λx=>aI (cT g uD 75 1 x) (cW (iA x 1*24)) (fN x) (∀(s:Sl)(t:MH),dV g t uD s 75 1 (eK x (aM e))->aA (aJ t d n 0 (bN f)) (aJ t d n 0 (bN B)) (pL t f (λO=>jU 9 O) (λO=>O (dJ r z)) (dJ r z)
 (λC=>∀(j:MH),aR (iV t j f) (mO j f (fA C (dJ r z) (eF s) [])) (I (k+1) j d)) (λl D A=>fA l (dJ r z) D A) (λl A=>∀(j:MH),aR (iV t j f) (mO j f (fA l (dJ r z) (eF s) A)) (I (k+1) j d)))))) (λJ=>vE (aJ g d n 0 (bN f)) (aJ g d n 0 (bN B)) (λx=>aI (cT g (cH J) 75 1 x) (cW (iA x 1*24)) (fN x) (∀(s:Sl)(t:MH),dV g t (cH J) s 75 1 (eK x (aM e))->aA (aJ t d n 0 (bN f)) (aJ t d n 0 (bN B)) (pL t f (λO=>jU 9 O) (λO=>O (dJ r z)) (dJ r z) (λC=>∀(j:MH),aR (iV t j f) (mO j f (fA C (dJ r z) (eF s) [])) (I (k+1) j d)) (λl D A=>fA l (dJ r z) D A) (λl A=>∀(j:MH),aR (iV t j f) (mO j f (fA l
 (dJ r z) (eF s) A)) (I (k+1) j d)))))))))))) (λg d=>∃(y:Nat),aJ g d n 0 (bN y)/\∃(k:dh),jK (mO g y k) (λr=>∀(t:MH),aR (dL g d r) (iV g t r) (lU t y r k k->∃(I:Nat×Nat×Nat×MH×PH->Prop)(j:Nat×Nat×Nat×MH×PH->Nat),(∃(x:Nat×Nat×Nat×MH×PH),aA (I x) (eU b x.1) (aA (eU n x.2.1) (eU r (pC x).1) (fM t (pC x).2 d)))/\∀(x:Nat×Nat×Nat×MH×PH),I x->∃(V:Nat),O3 (λC l=>aA (lU (cA (pC x)) V (pC x).1 C l) (l=[]->∃(f:Nat),aJ (cA (pC x)) (bW (pC x)) x.2.1 0 (bN f)/\K (CV.val (FI f)) (cA (pC x)) (bW (pC x))) (∀(A:dh)(W:Value×Value)(X:dh),l=A++W::X->∀(H:MH),aR (iV (cA
 (pC x)) H (pC x).1) (FE H V (pC x).1 C (A++X) W) (∃(b4:Nat),O3 (λk2 l3=>∃(Y:Value×Value),FE H b4 (pC x).1 k2 l3 Y/\∃(s:Sl)(M:Nat)(D:QV)(o:dg)(w:Nat)(p:dy),aA (qS (CV.val Y.2) (qU 227 (Eu x.1))=fP s (qU 227 (Eu M))) (H M=Option.some (jI (Array.mk D.enc) 68 0)) (aA (∀(i:Nat),jS (bF s.a M i)) (kC (bW (pC x)) D.order o) (aA (JJ H s 1 p) (∀(F:Sl×de),List.Mem F p->bO (bW (pC x)) F.1 F.2) (aA (∀(F:Sl×de),List.Mem F p->F.2.length=w) (cW p.length) (∀(F:dy)(P:MH),aR (List.Perm F p) (List.Pairwise (fun(p2:Sl×de)=>fun(q:Sl×de)=>¬(nC o q.2 p2.2<0)) F) (aR (JJ P s 1 F) (∀(Q:Nat),(∀(i:Nat),jS
 (bF s.a Q i))->P Q=H Q) (∃(G:Nat×Nat×Nat×MH×PH),aA (I G) (j G<j x) (aA (eU x.1 G.1) (eU x.2.1 G.2.1) (aI (eU (pC x).1 (pC G).1) (iK P (pC G)) (fI (bW (pC x)) (pC G).2) True))))))))))))))))))))
def oS(κ:de->ByteArray)(gr:dd)(l:cw)(k:ByteArray):cw:=l.filter λz=>decide (κ (pick z gr)=k)
def uW(od:dg)(l:cw):Prop:=l.Pairwise λa b=>¬nC od b a<0
structure vJ(κ:de->ByteArray)(m:MH)(h:PH)(y:Nat)(gr:dd)(od:dg)(l:cw)(kk:dm)(g:ByteArray->cw):Prop where
 map_:mO m y (kk.map λp=>(Value.string p.1,eF p.2))
 nodup:(kk.map Prod.fst).Nodup
 rows:∀p∈kk,Rows h p.2 (g p.1)
 none_:∀k,k∉kk.map Prod.fst->g k=[]
 perm:∀k,(g k).Perm (oS κ gr l k)
 sort:∀k,uW od (g k)
def Uv:Vc.Spec:=λc m h K=>∃v u gr od l w,c=[aQ v,.val (.func (.func 174) #[] #[.pointer (some ⟨u,0,none⟩)])]/\Ints h v.group gr/\kC h v.order od/\QP h u l/\kD w l/\jB w gr/\iL m/\
 ∀y d e f g,m y=none->(∀b,b≠y->d b=m b)->PH.le h e->vJ dZ d e y gr od l f g->K (.val (.map (some y))) d e
structure bWX(m:MH)(h:PH)(od:dg)(p:ByteArray×Sl)(f:ByteArray->cw)(st:Prop):Prop where
 ex:∃ps:dy,cT m p.2 75 1 (ps.map λq=>eS q.1)/\(∀q∈ps,bO h q.1 q.2)/\(ps.map Prod.snd).Perm (f p.1)/\(st->uW od (ps.map Prod.snd))
noncomputable def leftOf(m:MH)(r:Nat):Nat:=match m r with
 |some (.mapIter (some b) _ c _)=>(match m b with|some (.map d _)=>(d.toList.filter λe=> !c.contains e.born).length|_=>0)
 |_=>0
theorem lU.left_{r:Nat}{d left:dh}(i:lU m b r d left):leftOf m r=left.length:=by
 obtain⟨n,c,e,f,o,g,_,_,_,j,_,_,_,t⟩:=i.ex;simp only[leftOf,j,g]
 grind
theorem lU.mem{r:Nat}{d left:dh}(i:lU m b r d left){x:Value×Value}(hx:x∈left):x∈d:=by
 obtain⟨g,c,e,f,j,n,o,_,_,t,_,_,_,u⟩:=i.ex
 grind
theorem lU.keep{r:Nat}{e left:dh}(i:lU m b r e left)(n:m' b=m b)(o:m' r=m r):lU m' b r e left:=by
 obtain⟨g,c,d,f,j,t,u⟩:=i.ex;exact⟨g,c,d,f,j,bk,bk⟩
theorem lU.nodup{r:Nat}{d left:dh}(i:lU m b r d left)(g:d.Nodup):left.Nodup:=by
 obtain⟨j,c,e,f,n,o,t,_,_,u,_,_,_,y⟩:=i.ex
 grind
theorem ceQ{us:dk}{rs:cw}(c:fQ h us rs):∃ps:dy,ps.map Prod.fst=us/\ps.map Prod.snd=rs/\∀q∈ps,bO h q.1 q.2:=by
 refine⟨us.zip rs,map_fst_zip (Nat.le_of_eq c.len),map_snd_zip (Nat.le_of_eq c.len.symm),λq e=>?_⟩;obtain⟨i,d⟩:=mem_iff_getElem?.1 e;rw[getElem?_zip_eq_some]at d;obtain⟨u,f,g⟩:=c.at_ i _ d.2
 grind
theorem cT.ice{s:Sl}{us:dk}(n:cT m s 75 1 (us.map eS))(E:∀b c,s.a=some ⟨b,0,none⟩->m b=some (.cells c 75 (0,0))->∀i,h b i=c[i]?):bX h s 1 (us.map eS):=by
 rcases n.ex with⟨rfl,f⟩|⟨b,t,c,rfl,F,y,G,H,I⟩
 .rw[f];exact bX.nil _ _
 .refine⟨bf,?_,y⟩;by_cases z:us.map eS=[]
  .exact .inl z
  .refine .inr ⟨b,0,rfl,λi e d=>⟨λj v o=>?_⟩⟩;have A:=n.rows.len e (bx d);have B:j=0:=bk
   subst B;have C:=(bt d)
   have J:((us.map eS).flatten)[i]? =some v:=by
    rw[getElem?_map]at d;cases g:us[i]? with
    |none=>grind
    |some u=>
     rw[g]at d;simp at d;subst d;simp[eS]at o;subst o
     have:∀l:dk,(l.map eS).flatten=l.map λu=>Value.slice u.a u.len u.cap:=λl=>by
      induction l with
      |nil=>rfl
      |cons a l D=>simp only[map_cons,flatten_cons,D];rfl
     grind
   grind
theorem TY{c:dm}(f:(c.map Prod.fst).Nodup){p q:ByteArray×Sl}(d:p∈c)(g:q∈c)(e:p.1=q.1):p=q:=by
 induction c with
 |nil=>cases d
 |cons a c j=>
  grind
theorem VN{κ:de->ByteArray}{O T C:MH}{A:PH}{y r:Nat}{l:cw}{d:dm}{uk:ByteArray->dk}(U:Sub m O)(ny:m y=none)(m4y:O y=some (.map #[] 0))(g:rX O T y d uk)(hg:∀k,fQ A (uk k) (oS κ gr l k))(le:PH.le h A)(a1:l.length<=8000000)
 (V:∀b o,T b=some o->(∀p∈d,∀i,p.2.a≠some ⟨b,i,none⟩)->C b=some o)(W:lU C y r (d.map λp=>(Value.string p.1,eF p.2)) [])(t:∀p∈d,bWX C A od p (oS κ gr l) ((Value.string p.1,eF p.2)∉([]:dh)))
 (hK:∀y m2 f d g,m y=none->(∀b,b≠y->m2 b=m b)->PH.le h f->vJ κ m2 f y gr od l d g->K (.val (.map (some y))) m2 f):dE h K (.val (.map (some y))) C A:=by
 intro hd;have D:∀b o,O b=some o->∀p∈d,∀i,p.2.a≠some ⟨b,i,none⟩:=λb o e p n i J=>by rw[g.fresh p n b i J]at e;cases e
 have L:Sub m T:=λz o J=>g.old z o (U z o J) (λe3=>bk)
 classical
 let B:Nat->Prop:=λb=>∃p∈d,p.2.a=some ⟨b,0,none⟩
 have hB:∀b,B b->m b=none/\b≠y/\∀i,A b i=none:=by
  rintro b ⟨p,n,e⟩;obtain⟨ps,E,_⟩:=(t p n).ex;refine⟨?_,λJ=>?_,hd b _ (E.blk e).choose_spec⟩
  .cases J:m b with
   |none=>rfl
   |some o=>exact(D b o (U b o J) p n 0 e).elim
  grind
 let f:PH:=λb i=>if B b then(match C b with|some (.cells cs _ _)=>cs[i]? |_=>none)else A b i
 have I:PH.le A f:=⟨λb i v e=>by
  grind⟩
 have a2:∀p∈d,∃G,Rows f p.2 G/\G.Perm (oS κ gr l p.1)/\uW od G:=λp n=>by
  obtain⟨ps,E,h3,h4,F⟩:=(t p n).ex;refine⟨ps.map Prod.snd,?_,h4,F bf⟩;have e5:(ps.map λq=>eS q.1)=(ps.map Prod.fst).map eS:=by rw[map_map];rfl
  rw[e5]at E
  have X:bX f p.2 1 ((ps.map Prod.fst).map eS):=cT.ice E λb M Y P i=>by
   show(if B b then _ else A b i)=_;rw[if_pos ⟨p,n,Y⟩,P]
  refine fQ.rows (us:=ps.map Prod.fst) ⟨bf,λj x Q=>?_⟩ X ?_
  .rw[getElem?_map]at Q;cases R:ps[j]? with
   |none=>grind
   |some q=>
    rw[R]at Q;have Q:q.2=x:=bk
    exact⟨q.1,bk,Q▸bO.mono (h3 q (bx R)) I⟩
  .have:=h4.length_eq;have h6:(oS κ gr l p.1).length<=l.length:=length_filter_le _ _;omega
 let G:ByteArray->cw:=λk=>if e:∃p G,p∈d/\p.1=k/\Rows f p.2 G/\G.Perm (oS κ gr l p.1)/\uW od G then e.choose_spec.choose else[]
 have hG:∀p∈d,Rows f p.2 (G p.1)/\(G p.1).Perm (oS κ gr l p.1)/\uW od (G p.1):=λp n=>by
  have Z:∃u G,u∈d/\u.1=p.1/\Rows f u.2 G/\G.Perm (oS κ gr l u.1)/\uW od G:=by
   grind
  have R:G p.1=Z.choose_spec.choose:=dif_pos Z;rw[R];obtain⟨F,h6,h7⟩:=Z.choose_spec.choose_spec
  have tr:∀u G',u∈d->u.1=p.1->(Rows f u.2 G'/\G'.Perm (oS κ gr l u.1)/\uW od G')->Rows f p.2 G'/\G'.Perm (oS κ gr l p.1)/\uW od G':=λu G' E f h3=>by
   have e7:=TY g.nodup E n f
   grind
  exact tr _ _ F h6 h7
 have hN:∀k,k∉d.map Prod.fst->G k=[]/\oS κ gr l k=[]:=λk H=>by
  refine⟨dif_neg ?_,?_⟩
  .grind
  .have F:=(hg k).len;rw[g.none_ k H]at F
   grind
 obtain⟨es,c,a',a0,c0,i1,i2,i3,i4,_⟩:=W.ex;refine⟨λb=>if b=y then C y else m b,f,λb o e=>?_,le.trans I,λb i v' e=>?_,hK y _ f d G ny (λb S=>if_neg S) (le.trans I) ⟨⟨es,c,(if_pos rfl).trans i1,i2,i3,i4⟩,g.nodup,λp n=>(hG p n).1,λk H=>(hN k H).1,λk=>?_,λk=>?_⟩⟩
 .have e:(if b=y then C y else m b)=some o:=e;split at e
  .grind
  .exact V b o (L b o e) (D b o (U b o e))
 .have e:(if B b then _ else A b i)=some v':=e;split at e
  .rename_i S;have F:=hB b S;obtain⟨p,n,Y⟩:=S;obtain⟨ps,E,_⟩:=(t p n).ex;obtain⟨M,P⟩:=E.blk Y;rw[P]at e;refine .inr ⟨M,75,(0,0),P,e,?_⟩;show(if b=y then C y else m b)=none;rw[if_neg F.2.1];exact F.1
  grind
 .by_cases H:k∈d.map Prod.fst
  .obtain⟨p,n,rfl⟩:=mem_map.1 H
   grind
  grind
 .by_cases H:k∈d.map Prod.fst
  .obtain⟨p,n,rfl⟩:=mem_map.1 H
   grind
  .rw[(hN k H).1];exact List.Pairwise.nil
theorem VM{κ:de->ByteArray}{W L M O:MH}{Y:PH}{y r w:Nat}{gr:dd}{od:dg}{l:cw}{n:dm}{uk:ByteArray->dk}{left Z l2:dh}{x:Value×Value}(m4y:W y=some (.map #[] 0))(g:rX W L y n uk)(P:kD w l)(a5:L r=none)
 (a6:∀b o,L b=some o->(∀p∈n,∀i,p.2.a≠some ⟨b,i,none⟩)->M b=some o)(Q:lU M y r (n.map λp=>(Value.string p.1,eF p.2)) left)(D:∀p∈n,bWX M Y od p (oS κ gr l) ((Value.string p.1,eF p.2)∉left))(a':left=Z++x::l2)(C:iV M O r)(a0:FE O y r (n.map λp=>(Value.string p.1,eF p.2)) (Z++l2) x):
 ∃(c:ByteArray×Sl)(ps:dy),x=(Value.string c.1,eF c.2)/\(∀b o,W b=some o->b≠y->O b=some o/\∀i,c.2.a≠some ⟨b,i,none⟩)/\cT O c.2 75 1 (ps.map λp:Sl×de=>eS p.1)/\(∀p∈ps,bO Y p.1 p.2)/\(∀p∈ps,p.2.length=w)/\ps.length<=l.length/\
  ∀(t:dy)(E:MH),t.Perm ps->t.Pairwise (λp q=>¬nC od q.2 p.2<0)->cT E c.2 75 1 (t.map λp=>eS p.1)->(∀b,(∀i,c.2.a≠some ⟨b,i,none⟩)->E b=O b)->
   (∀b o,L b=some o->(∀p∈n,∀i,p.2.a≠some ⟨b,i,none⟩)->E b=some o)/\(∃left,lU E y r (n.map λp=>(Value.string p.1,eF p.2)) left/\∀p∈n,bWX E Y od p (oS κ gr l) ((Value.string p.1,eF p.2)∉left))/\leftOf E r<leftOf M r:=by
 have G:∀p∈n,∀x i,p.2.a=some ⟨x,i,none⟩->∃o,L x=some o:=λp B x i X=>⟨_,((g.row p B).blk X).choose_spec⟩
 have H:∀{z o},L z=some o->z≠r:=fun{z o} X e3=>bk
 have a1:x∈left:=bk
 obtain⟨c,d,rfl⟩:=mem_map.1 (lU.mem Q a1);obtain⟨ps,h1,h3,h4,h5⟩:=(D c d).ex;have F:∀b o,W b=some o->∀p∈n,∀i,p.2.a≠some ⟨b,i,none⟩:=λb o e p B i X=>by rw[g.fresh p B b i X]at e;cases e
 have u:∀p∈n,∀b i,p.2.a=some ⟨b,i,none⟩->b≠r:=λp B b i e=>H (G p B b i e).choose_spec;have R:=h4.length_eq;have a2:(oS κ gr l c.1).length<=l.length:=length_filter_le _ _;rw[length_map]at R;refine⟨c,ps,rfl,λb o e a3=>⟨?_,F b o e c d⟩,cT.keep h1 λb i e=>C.other b (u c d b i e),h3,λq hq=>?_,aC,λt E A I J f=>?_⟩
 .have mb:=g.old b o e a3;rw[C.other b (H mb)]
  grind
 .have:q.2∈oS κ gr l c.1:=h4.mem_iff.1 (mem_map_of_mem hq);exact P.wid _ (mem_filter.1 this).1
 .have S:∀i,c.2.a≠some ⟨y,i,none⟩:=F y _ m4y c d;have T:∀i,c.2.a≠some ⟨r,i,none⟩:=λi e=>u c d r i e rfl;have U:lU E y r (n.map λp=>(Value.string p.1,eF p.2)) (Z++l2):=lU.keep a0.it (f y S) (f r T);refine⟨λb o e hb=>?_,⟨_,U,λp B=>?_⟩,?_⟩
  .rw[f b (hb c d),C.other b (H e)]
   grind
  .by_cases V:p=c
   .subst V;refine⟨t,J,λq hq=>h3 q (A.mem_iff.1 hq),(A.map _).trans h4,λ_=>?_⟩;rw[uW,pairwise_map];exact I
   .have a4:p.1≠c.1:=λe=>V (TY g.nodup B d e);obtain⟨qs,g1,g3,g4,g5⟩:=(D p B).ex;refine⟨qs,cT.keep g1 λb i e=>?_,g3,g4,λhn=>g5 λhl=>hn ?_⟩
    .rw[f b (λj=>g.apart p B c d a4 b i j e),C.other b (u p B b i e)]
    grind
  .rw[lU.left_ U,lU.left_ Q,a'];simp
theorem PA:cu 208 Uv:=by
 refine KB func208 ?_;rintro c7 m h K ⟨v,u,gr,od,l,w,rfl,b7,b8,sq,d,R,hT,hK⟩;refine⟨a8J,rfl,aD Fy (aD WD aF),LY v u m h (dE h K),be,?_⟩;show LY v u m h (dE h K);dsimp only[LY,push_cast];intro n m1 a2 E y m2 S t O m3 F A;obtain⟨s1,nq⟩:=kG (Sub.refl m) a2 E;obtain⟨s2,ny⟩:=kG s1 S t;obtain⟨s3,nc⟩:=kG s2 F A;have G:n≠y:=λe=>by have:=S.m_;rw[<-e,E.at_]at this;cases this
 have a3:m2 n=some (.cells ⟨QV.enc v⟩ 68 (0,0)):=by rw[t.other n G];exact E.at_
 have a4:n≠O:=λe=>by have:=F.m_;grind
 have H:y≠O:=λe=>by have:=F.m_;rw[<-e,t.at_]at this;cases this
 refine⟨_,_,⟨A.at_⟩,bf,λP B=>?_⟩;have s4:Sub m P:=s3.upd nc B.other;have T:P n=some (.cells ⟨QV.enc v⟩ 68 (0,0)):=by rw[B.other n a4,A.other n a4];exact a3
 have m4y:P y=some (.map #[] 0):=by rw[B.other y H,A.other y H];exact t.at_
 have I:P O=some (.cells #[.map (some y)] 243 (0,0)):=B.at_;obtain⟨us,a5,a6⟩:=sq.ex;have b9:=a6.len;have c':=d.len;clear E t A B a2 S F s1 s2 s3 a3;have a7:∀{j J us},rX P j y J us->Sub m j:=λg z o C=>g.old z o (s4 z o C) (λe3=>bk);refine⟨z6,us,λk j hx=>hx=h/\Xu P j h y (oS dZ gr (l.take k)),yT,⟨u,us,rfl,a5,rfl⟩,⟨rfl,⟨[],_,rX.new m4y,λk=>by simpa[oS]using fQ.nil h⟩⟩,?_,?_⟩
 .rintro k e j hx hk-⟨rfl,⟨J,uk,g,hg⟩⟩
  obtain⟨r,hr,hv⟩:=a6.at' hk;have a8:=bx hr;have mc:=g.old O _ I (Ne.symm H);have c:aJ j hx O 0 [Value.map (some y)]:=.of_m mc rfl;have rq:aJ j hx n 17 [eF v.group]:=.of_m (g.old n _ T G) rfl
  have hl:(uk (dZ (pick r gr))).length<=502633886983:=by
   have h5:=(hg (dZ (pick r gr))).len;have h6:(oS dZ gr (l.take k) (dZ (pick r gr))).length<=(l.take k).length:=length_filter_le _ _
   grind
  have app:=fun{s:Sl}=>g.app (hx:=hx) (e:=e) (s:=s) (Q:=λm'=>hx=hx/\Xu P m' hx y (oS dZ gr (l.take (k+1)))) ⟨_,m4y⟩ ⟨_,I⟩ mc hl (λm' c8 g'=>⟨rfl,Xu.upd g' hg hv (by rw[oS,lN _ hr,if_pos bf];rfl) (λk2 c9=>by rw[oS,lN _ hr,if_neg bk,append_nil];rfl)⟩);exact⟨v.group,rq,e,v.group,r,gr,rfl,hv,b7,d.row r a8,by rw[d.wid r a8];exact R,hT.sub (a7 g),y,c,y,c,⟨c,g.get2 (λU=>⟨c,c,c,c,app U⟩) (λs U=>⟨c,c,c,c,app U⟩)⟩,c,c,c,g.get2 (λU=>⟨c,c,app U⟩) (λs U=>⟨c,c,app U⟩)⟩
 .rintro j hx-⟨rfl,⟨J,uk,g,hg⟩⟩
  rw[b9,take_length]at hg;have mc:=g.old O _ I (Ne.symm H);have mq:=g.old n _ T G;refine⟨y,.of_m mc rfl,_,g.map_,λr m5 c0 c1 it=>?_⟩;have c2:j r=none:=c0.m_
  have a9:∀{z o},j z=some o->m5 z=j z/\z≠r:=fun{z o} C=>by
   have:z≠r:=λe3=>bk
   exact⟨c1.other z this,this⟩
  have V:∀p∈J,∀x i,p.2.a=some ⟨x,i,none⟩->∃o,j x=some o:=λp W x i C=>⟨_,((g.row p W).blk C).choose_spec⟩
  have c3:(J.map λp=>(Value.string p.1,eF p.2)).Nodup:=by
   have h5:=g.nodup
   grind
  refine⟨λz=>z.1=n/\z.2.1=O/\z.2.2.1=r/\z.2.2.2.2=hx/\(∀b o,j b=some o->(∀p∈J,∀i,p.2.a≠some ⟨b,i,none⟩)->z.2.2.2.1 b=some o)/\∃left,lU z.2.2.2.1 y r (J.map λp=>(Value.string p.1,eF p.2)) left/\∀p∈J,bWX z.2.2.2.1 hx od p (oS dZ gr l) ((Value.string p.1,eF p.2)∉left),λz=>leftOf z.2.2.2.1 z.2.2.1,⟨(n,O,r,m5,hx),⟨rfl,rfl,rfl,rfl,λb o e _=>(a9 e).1.trans e,_,it,λp W=>?_⟩,MT⟩,?_⟩
  .obtain⟨ps,e1,C,e3⟩:=ceQ (hg p.1);refine⟨ps,?_,e3,by rw[C],λhn=>(hn (mem_map_of_mem (f:=λp:ByteArray×Sl=>(Value.string p.1,eF p.2)) W)).elim⟩;have e5:(ps.map λq=>eS q.1)=(uk p.1).map eS:=by rw[<-e1,map_map];rfl
   rw[e5];exact cT.keep (g.row p W) λb i e=>(a9 (V p W b i e).choose_spec).1
  .rintro⟨b1,b2,b3,mz,hz⟩ ⟨e1,C,e3,e4,L,left,M,D⟩;dsimp only at e1 C e3 e4 L M D⊢
   subst e1 C e3 e4;refine⟨y,_,left,M,λX=>?_,λl1 x l2 c4 m6 c5 b'=>?_⟩
   .have b0:∀b o,P b=some o->∀p∈J,∀i,p.2.a≠some ⟨b,i,none⟩:=λb o e p W i C=>by rw[g.fresh p W b i C]at e;cases e
    subst X;exact⟨y,.of_m (L b2 _ mc (b0 b2 _ I)) rfl,VN s4 ny m4y g hg (.refl _) c' L M D hK⟩
   .obtain⟨p0,ps,rfl,b4,b5,hv,hw,d',Y⟩:=VM (m4y:=m4y) g d c2 L M D c4 c5 b';have hb:=b4 b1 _ T G;refine⟨y,_,_,_,b',p0.2,b1,v,od,w,ps,rfl,hb.1,hb.2,b8,b5,hv,hw,aC,λc6 m7 Z a' a0 b6=>?_⟩;obtain⟨k1,⟨a1,k2,k3⟩,k4⟩:=Y c6 m7 Z a' a0 b6;exact⟨(b1,b2,b3,m7,hz),⟨rfl,rfl,rfl,rfl,k1,a1,k2,k3⟩,k4,rfl,rfl,rfl,rfl,rfl,trivial⟩
noncomputable def bbZ:Ctx:=Ua [(208,Uv),(200,bVZ)] [(3,{A:=Nat×Sl×Nat×MH×PH,st:=λ⟨b,s,r,m,h⟩=>bU 29 31 [(2,vv (.pointer (some ⟨b,0,none⟩))),(5,sv s),(13,vv (.pointer (some ⟨r,0,none⟩)))] [] m h})] [(5,{A:=Nat×Sl×Sl×Nat×MH×PH,st:=λ⟨b,s,g,r,m,h⟩=>bU 29 31 [(2,vv (.pointer (some ⟨b,0,none⟩))),(5,sv s),(7,sv g),(13,vv (.pointer (some ⟨r,0,none⟩)))] [] m h})] [200002,1095,0]
abbrev NO(a:Nat)(b:cw)(c:dd)(d:MH)(e g:Nat->Nat)(i:MH->MH)(j:Nat->MH->PH->dm->(ByteArray->cw)->Prop):Prop:=aI (kD a b) (jB a c) (iL d) (∀(x:Nat),eZ (λn o=>∀(t:dm)(u:ByteArray->cw),aR (Fb d (e x)) (∀(f:Nat),jS (g f=e x)->(i n) f=d f) (j x n o t u)))
noncomputable abbrev j9(a:Nat×Sl×Nat×MH×PH):Nat×MH×PH:=a.2.2
noncomputable abbrev oL(a:Nat×Sl×Nat×MH×PH):Nat:=(j9 a).1
noncomputable abbrev xY(a:Nat×Sl×Sl×Nat×MH×PH):Sl:=a.2.2.1
noncomputable abbrev wA(a:Nat×Sl×Sl×Nat×MH×PH):Nat×MH×PH:=a.2.2.2
attribute [push_cast] NO j9 oL xY wA
def L4(v:QV)(t:Sl)(m:MH)(h:PH)(K:dc):Prop:=
  ∀(b:Nat)(D:MH),aR (dL m h b) (cL m D b v.enc 68) (∃(y:QV),aJ D h b 0 y.enc/\bD (λE o=>aI (bF t.a E o) ((0:Int)<=0) (0<aG t) (∃(F:Nat),aJ D h E (o+0) (xJ F)/\∃(J:QV)(u:Nat),Lz (λg O=>∃(l:cw)(w:Nat),aA (eC y.enc (sR F)=eC J.enc (sR u)) (Ints h J.group g) (aA (kC h J.order O) (QP h u l) (NO w l g D (λA=>A) (λG=>G) (λe=>e) (λA e f k V=>cR h f (vJ dZ e f A g O l k V) (aA (aJ e f b 0 y.enc) (aJ e f E (o+0) (xJ F)) (∃(L:dh),jK (mO e A L) (λr=>∀(B:MH),aR (dL e f r) (iV e B r) (lU B A r L L->aA (aJ B f b 0 y.enc) (aJ B f E (o+0) (xJ F)) (∃(I:Nat×Sl×Nat×MH×PH->Prop)(P:Nat×Sl×Nat×MH×
 PH->Nat),(∃(x:Nat×Sl×Nat×MH×PH),aA (I x) (eU b x.1) (aA (sQn=sQs x.2.1) (eU r (j9 x).1) (fM B (j9 x).2 f)))/\∀(x:Nat×Sl×Nat×MH×PH),I x->∃(G:Nat),O3 (λQ M=>aA (lU (cA (j9 x)) G (oL x) Q M) (M=[]->HC (λs R=>∃(z:cw),aA (oK x.2.1=oK s) (oW (cA (j9 x)) (bW (j9 x)) s 1 (vD R)) (aA (fQ (bW (j9 x)) R z) (Fm z.length) (mV (bW (j9 x)) (Ef z) (λW X=>K (mL W) (cA (j9 x)) X))))) (∀(z:dh)(S:Value×Value)(T:dh),M=z++S::T->∀(H:MH),aR (iV (cA (j9 x)) H (oL x)) (FE H G (oL x) Q (z++T) S) (∃(I1:Nat×Sl×Sl×Nat×MH×PH->Prop),(∃(Y:Nat),O3 (λZ l4=>∃(c:Value×
 Value),FE H Y (oL x) Z l4 c/\∃(d:Nat×Sl×Sl×Nat×MH×PH),aA (I1 d) (eU x.1 d.1) (aA (aX x.2.1 d.2.1) (SV.at (At.val c.2)=sQs (xY d)) (aI (eU (oL x) (wA d).1) (iK H (wA d)) (fI (bW (j9 x)) (wA d).2) True))))/\∀(c:Nat×Sl×Sl×Nat×MH×PH),I1 c->∃(j:Int),aI (aJ (cA (wA c)) (bW (wA c)) c.1 19 (bG j)) (0<=ite (aG (xY c)<j) (aG (xY c)) j) (uN (ite (aG (xY c)<j) (aG (xY c)) j) (xY c)) (∃(d:List cv),zR (cT (cA (wA c)) (cH c.2.1) 75 1 d) (λC=>aA (dQ 1 C) (oW (cA (wA c)) (bW (wA c)) (Sl.mk (xY c).a (ite (aG (xY c)<j) (aG (xY c)) j).toNat (xY c).cap) 1 C) (aA (u6 d C 24) (cW
 (u7 d C)) (Cc (λs U=>dV (cA (wA c)) U (cH c.2.1) s 75 1 (d++C)->∃(n:Nat×Sl×Nat×MH×PH),aA (I n) (P n<P x) (aA (eU c.1 n.1) (aX s n.2.1) (aI (eU (wA c).1 (j9 n).1) (iK U (j9 n)) (fI (bW (wA c)) (j9 n).2) True))))))))))))))))))))))
theorem Mq{w:Nat}:∀{od:dg}{a b:de},K1 w od a b=0->a=b
 |[],_,_,h=>gT.1 h
 |(c,d)::r,a,b,h=>by
  rw[K1]at h;generalize (if d then-lQ (a.getD c.toNat zeroV) (b.getD c.toNat zeroV)else lQ (a.getD c.toNat zeroV) (b.getD c.toNat zeroV))=x at h;split at h
  .split at h
   .omega
   .exact Mq h
  .exact Mq h
theorem D0{w:Nat}{od:dg}{a b:de}(c:a.length=w)(d:b.length=w):nC od a b= -nC od b a:=by
 rw[Ds c d,Ds d c];exact(KZ w od).anti a b
theorem aSJ{w:Nat}{a b:de}(c:a.length=w)(d:b.length=w)(h:nC od a b=0):a=b:=by
 rw[Ds c d]at h;exact Mq h
theorem MG{w:Nat}{od:dg}{x:de}:∀{G:cw}{n:Nat},uW od G->(∀r∈G,r.length=w)->G.Nodup->(x∈G.take n↔x∈G/\(G.countP λy=>decide (nC od y x<0))<n)
 |[],n,_,_,_=>bf
 |a::G,0,_,_,_=>bf
 |a::G,n+1,g,j,o=>by
  have g:=pairwise_cons.1 g;have o:=nodup_cons.1 o;have u:=MG (x:=x) (G:=G) (n:=n) g.2 (λr z=>j r (mem_cons_of_mem _ z)) o.2;have c:=j a (mem_cons_self ..);rw[take_succ_cons,mem_cons,u,mem_cons,countP_cons];by_cases t:x=a
  .subst t;have A:¬nC od x x<0:=by have:=D0 (od:=od) c c;omega
   have B:(G.countP λy=>decide (nC od y x<0))=0:=countP_eq_zero.2 λy C=>bk
   grind
  .by_cases d:x∈G
   .have f:=j x (mem_cons_of_mem _ d);have A:=g.1 x d;have B:=D0 (od:=od) c f;have D:nC od a x≠0:=λe=>t (aSJ c f e).symm
    grind
   grind
theorem QF{l:cw}(h:nA l):l.Nodup:=by
 rw[nodup_iff_pairwise_ne];exact h.imp fun{a b} c e=>by subst e;have:=GA.anti a a;omega
def Q5(gr:dd)(x y:de):Bool:=cN (pick x gr) (pick y gr)==0
theorem awJ{x y:de}:Q5 gr x y=true↔pick x gr=pick y gr:=by
 simp only[Q5,beq_iff_eq,gT]
def Fw(gr:dd)(od:dg)(li:Int)(a b:cw):cw:=a.filter λx=>decide (((b.countP λy=>Q5 gr x y&&decide (nC od y x<0):Nat):Int)<li)
def Vg(q:Query)(ls:List cw):cw:=match q with|.mk _ _ _ _ _ gr od li _=>Fw gr od li (ls.getD 0 []) (ls.getD 0 [])
def OQ(q:Query)(ls:List cw):Prop:=match q with|.mk _ _ _ _ _ gr _ li _=>1<=ls.length/\(∃w,kD w (ls.getD 0 [])/\jB w gr)/\0<=li
theorem a1Z{κ:de->ByteArray}(e:aUX κ){w:Nat}{l:cw}(c:kD w l)(f:jB w gr){x y:de}(hx:UD x)(g:x.length=w)(d:y∈l):κ (pick y gr)=κ (pick x gr)↔Q5 gr x y=true:=by
 rw[awJ];have:=e.inj (a:=pick y gr) (b:=pick x gr) (by simp[pick]) (Jq (c.row y d) (by rw[c.wid y d];exact f)) (Jq hx bk)
 grind
theorem M3{κ:de->ByteArray}(c:aUX κ){w:Nat}{l:cw}(d:kD w l)(e:jB w gr){x:de}(hx:UD x)(f:x.length=w):
 ((oS κ gr l (κ (pick x gr))).countP λy=>decide (nC od y x<0))=l.countP λy=>Q5 gr x y&&decide (nC od y x<0):=by
 rw[oS,countP_filter];refine countP_congr λy g=>?_;have j:=a1Z c d e hx f g
 grind
theorem Xa{α:Type}{p q:α->Bool}:∀{l:List α},(∀x∈l,¬(p x=true/\q x=true))->l.countP p+l.countP q=l.countP λx=>p x||q x
 |[],_=>rfl
 |a::l,h=>by
  have d:=Xa (l:=l) λx c=>h x (mem_cons_of_mem _ c)
  grind
theorem aBX{κ:de->ByteArray}(z:aUX κ){y w:Nat}{l:cw}{j:dm}{g:ByteArray->cw}(e:vJ κ m h y gr od l j g)(c:kD w l)(d:jB w gr)(A:0<=li)(x:de):
 x∈Fw gr od li l l↔∃p∈j,x∈(g p.1).take li.toNat:=by
 have B:∀k r,r∈g k->r∈l/\κ (pick r gr)=k:=λk r o=>by
  have:=(e.perm k).mem_iff.1 o;simpa[oS]using this
 have C:∀k,(g k).Nodup:=λk=>(e.perm k).nodup_iff.2 ((QF c.srt).sublist filter_sublist);have D:∀k,x∈(g k).take li.toNat↔x∈g k/\((g k).countP λy=>decide (nC od y x<0))<li.toNat:=λk=>MG (e.sort k) (λr o=>c.wid r (B k r o).1) (C k)
 have E:x∈l->((g (κ (pick x gr))).countP λy=>decide (nC od y x<0))=l.countP λy=>Q5 gr x y&&decide (nC od y x<0):=λn=>by
  rw[(e.perm _).countP_eq];exact M3 z c d (c.row x n) (c.wid x n)
 rw[Fw,mem_filter];constructor
 .rintro⟨n,u⟩;have u:=of_decide_eq_true u;have f:x∈g (κ (pick x gr)):=(e.perm _).mem_iff.2 (by simp[oS,n])
  have t:κ (pick x gr)∈j.map Prod.fst:=by
   by_cases t:κ (pick x gr)∈j.map Prod.fst
   .exact t
   .rw[e.none_ _ t]at f;cases f
  grind
 grind
open Classical in
structure GH(κ:de->ByteArray)(gr:dd)(li:Int)(l:cw)(kk:dm)(g:ByteArray->cw)(left:dh)(acc:cw):Prop where
 mem:∀x,x∈acc↔∃p∈kk,(Value.string p.1,eF p.2)∉left/\x∈(g p.1).take li.toNat
 cnt:acc.length+(l.countP λz=>decide (Value.string (κ (pick z gr))∈left.map Prod.fst))<=l.length
open Classical in
theorem GH.start{κ:de->ByteArray}{gr:dd}{li:Int}{l:cw}{c:dm}{g:ByteArray->cw}:GH κ gr li l c g (c.map λp=>(Value.string p.1,eF p.2)) []:=by
 refine⟨λx=>⟨λe=>(by cases e),?_⟩,?_⟩
 .grind
 grind
theorem azQ{c:dm}(d:(c.map Prod.fst).Nodup):(c.map λp=>(Value.string p.1,eF p.2)).Nodup:=by
 grind
open Classical in
theorem GH.step{κ:de->ByteArray}{m F:MH}{h:PH}{y G r:Nat}{gr:dd}{od:dg}{li:Int}{l f:cw}{j:dm}{g:ByteArray->cw}{left d e:dh}{c:ByteArray×Sl}(st:GH κ gr li l j g left f)(t:vJ κ m h y gr od l j g)(n:lU F G r (j.map λp=>(Value.string p.1,eF p.2)) left)(u:c∈j)(A:left=d++(Value.string c.1,eF c.2)::e):
 GH κ gr li l j g (d++e) (f++(g c.1).take li.toNat):=by
 have B:=lU.nodup n (azQ t.nodup);rw[A]at B
 have E:(Value.string c.1,eF c.2)∉d++e:=λh=>by
  grind
 have C:∀x∈d++e,x∈left:=λx h=>bk
 refine⟨λx=>?_,?_⟩
 .rw[mem_append,st.mem]
  grind
 .have H:Value.string c.1∉(d++e).map Prod.fst:=λh=>by
   obtain⟨z,D,o⟩:=mem_map.1 h;obtain⟨p,I,rfl⟩:=mem_map.1 (lU.mem n (C _ D));simp only[Value.string.injEq]at o;have:=TY t.nodup I u o
   grind
  have L:=Xa (l:=l) (p:=λz=>decide (Value.string (κ (pick z gr))∈(d++e).map Prod.fst)) (q:=λz=>decide (κ (pick z gr)=c.1)) (λz _⟨M,O⟩=>by
   grind)
  have P:(l.countP λz=>decide (Value.string (κ (pick z gr))∈(d++e).map Prod.fst)||decide (κ (pick z gr)=c.1))=l.countP λz=>decide (Value.string (κ (pick z gr))∈left.map Prod.fst):=by
   grind
  have Q:(oS κ gr l c.1).length=l.countP λz=>decide (κ (pick z gr)=c.1):=by rw[oS,countP_eq_length_filter]
  have J:=(t.perm c.1).length_eq;have:=st.cnt;rw[bz,length_take];omega
theorem GH.done{κ:de->ByteArray}(n:aUX κ){y w:Nat}{l e:cw}{j:dm}{g:ByteArray->cw}(st:GH κ gr li l j g [] e)(o:vJ κ m h y gr od l j g)(c:kD w l)(d:jB w gr)(f:0<=li):Fw gr od li l l=Ef e:=
 aaJ (c.srt.sublist filter_sublist) λx=>by rw[aBX n o c d f,st.mem];simp
theorem aYQ{h:PH}{s:Sl}{l:cw}{li:Int}(f:Rows h s l)(g:0<=li):(0<=if(s.len:Int)<li then(s.len:Int)else li)/\(if(s.len:Int)<li then(s.len:Int)else li)<=s.cap/\∃us:dk,bX h ⟨s.a,(if(s.len:Int)<li then(s.len:Int)else li).toNat,s.cap⟩ 1 (us.map eS)/\fQ h us (l.take li.toNat)/\us.length<=l.length:=by
 obtain⟨⟨c,d,n,o⟩,_⟩:=f;have t:s.len=c.length:=by have:=d.len;grind
 have u:((if(s.len:Int)<li then(s.len:Int)else li).toNat)=min c.length li.toNat:=by omega
 have e:=d.cap;refine⟨aC,aC,c.take (min c.length li.toNat),?_,⟨bk,λj x y=>?_⟩,bj⟩
 .rw[u,map_take];exact bX.cut d _ bj
 grind
theorem YM:cu 182 (UE OQ Vg):=by
 refine KB func182 ?_;rintro c7 m h K ⟨v,t,q,bs,ls,rfl,hq,ha,hT,a9,hK⟩;refine⟨bbZ,rfl,aD PA (aD II aF),L4 v t m h (dE h K),be,?_⟩;show L4 v t m h (dE h K);dsimp only[L4,push_cast];obtain⟨op,ta,w,co,on,gr,od,li,args⟩:=q;obtain⟨c8,⟨wd,f,A⟩,W⟩:=a9;intro b m1 b0 X;obtain⟨s1,n1⟩:=kG (Sub.refl m) b0 X;have b2:m1 b=some (.cells ⟨v.enc⟩ 68 (0,0)):=X.at_;obtain⟨b1,b3,x,ea,c9,rd,sq⟩:=ha.get (FW (i:=0) aC);simp only[Vg]at hK;generalize ls.getD 0 []=l at hK f sq;have d':=f.len;refine⟨v,.of_m b2 (take_length ..),b1,b3,ea,aC,aC,x,.imm rd,v,x,gr,od,l,wd,rfl,hq.parts.group_,hq.parts.order_,sq,f,A,hT.sub s1,λy m2 h2 kk g hy Y G U=>?_⟩;have yb:b≠y:=λe=>bk
 have Z:m2 b=some (.cells ⟨v.enc⟩ 68 (0,0)):=bk
 have s2:Sub m m2:=λz o e=>by rw[Y z (λH=>by have:=s1 z o e;grind)];exact s1 z o e
 refine⟨.of_m Z (take_length ..),.imm (rd.mono G),_,U.map_,λr F I a' it=>?_⟩;have rb:b≠r:=λe=>by have:=I.m_;grind
 have b4:F b=some (.cells ⟨v.enc⟩ 68 (0,0)):=by rw[a'.other b rb];exact Z
 have s3:Sub m F:=λz o e=>by
  have:=s2 z o e;rw[a'.other z (λH=>by rw[H,I.m_]at this;cases this)];exact this
 classical
 have b5:∃o,F y=some o:=by obtain⟨es,c,d,B,c0,P,_⟩:=it.ex;grind
 have a0:∃o,F r=some o:=by obtain⟨es,c,d,B,c0,P,i2,i3,i4,i5,_⟩:=it.ex;grind
 have yr:y≠r:=λe=>by
  obtain⟨es,c,P,_⟩:=U.map_;rw[e,I.m_]at P;cases P
 refine⟨.of_m b4 (take_length ..),.imm (rd.mono G),λz=>z.1=b/\z.2.2.1=r/\z.2.2.2.2=h2/\(∀x o,F x=some o->x≠r->z.2.2.2.1 x=some o)/\∃left Q u,lU z.2.2.2.1 y r (kk.map λp=>(Value.string p.1,eF p.2)) left/\cT z.2.2.2.1 z.2.1 75 1 (Q.map eS)/\(∀x i,z.2.1.a=some ⟨x,i,none⟩->F x=none)/\fQ h2 Q u/\GH dZ gr li l kk g left u,λz=>leftOf z.2.2.2.1 z.2.2.1,⟨(b,⟨none,0,0⟩,r,F,h2),⟨rfl,rfl,rfl,λx o e _=>e,_,[],[],it,⟨vN [],.inl ⟨rfl,rfl⟩⟩,(λx i e=>by cases e),fQ.nil _,.start⟩,MT⟩,?_⟩
 .rintro⟨b',s,J,mz,hz⟩ ⟨e1,H,e3,R,left,Q,u,C,D,b6,L,rk⟩;dsimp only at e1 H e3 R C D b6 L rk⊢
  subst e1 H e3;have c5:u.length<=l.length:=by have:=rk.cnt;omega
  have d0:=L.len;refine⟨y,_,left,C,λS=>?_,λl1 x1 l2 a1 m4 M O=>?_⟩
  .subst S;refine⟨s,Q,u,rfl,D.src,L,aC,λs' h' a2 b7=>dE.sub (λz o e=>R z o (s3 z o e) (λH=>?_)) (G.trans a2) (hK s' h' (G.trans a2) ?_)⟩
   .have:=s2 z o e;rw[H,I.m_]at this;cases this
   .rw[rk.done Pj U f A W];exact b7
  .have b8:x1∈left:=bk
   obtain⟨V,a3,rfl⟩:=mem_map.1 (lU.mem C b8);have n:∀{x},(∃o,F x=some o)->∀i,s.a≠some ⟨x,i,none⟩:=fun{x}⟨o,ho⟩ i e=>bk
   have b9:m4 b'=some (.cells ⟨v.enc⟩ 68 (0,0)):=by rw[M.other b' rb];grind
   have T:cT m4 s 75 1 (Q.map eS):=cT.keep D λx i e=>M.other x λH=>n a0 i (H▸e);refine⟨λc=>c=(b',s,V.2,J,m4,hz),⟨y,_,_,_,O,⟨(b',s,V.2,J,m4,hz),rfl,rfl,rfl,rfl,rfl,rfl,rfl,trivial⟩⟩,?_⟩;rintro c rfl;dsimp only;have a4:v.limit=li:=hq.parts.limit_;obtain⟨c1,c2,a5,c',c3,d1⟩:=aYQ (li:=li) (U.rows V a3) W;have d2:=(U.perm V.1).length_eq;have c6:(oS dZ gr l V.1).length<=l.length:=length_filter_le _ _;refine⟨li,.of_m b9 (by rw[<-a4];rfl),c1,c2,Q.map eS,T,a5.map eS,vN _,.imm c',bj,bj,λs' m5 E=>?_⟩
   .have a6:∀x o,F x=some o->x≠J->m5 x=some o:=λx o e c4=>E.other x o (by rw[M.other x c4];grind) (n ⟨o,e⟩)
    have a7:lU m5 y J (kk.map λp=>(Value.string p.1,eF p.2)) (l1++l2):=by
     obtain⟨es,c,d,B,c0,P,i2,i3,i4,i5,_⟩:=O.it.ex;exact lU.keep O.it (by rw[P];exact E.other y _ P (n b5)) (by rw[i5];exact E.other J _ i5 (n a0))
    refine⟨(b',s',J,m5,hz),⟨rfl,rfl,rfl,a6,_,Q++a5,u++(g V.1).take li.toNat,a7,?_,λx i e=>?_,L.app c3,rk.step U C a3 a1⟩,?_,rfl,rfl,rfl,rfl,rfl,trivial⟩
    .rw[cd];exact E.row
    .rcases E.fresh x i e with h5|⟨j,h5⟩
     .cases e6:F x with
      |none=>rfl
      |some o=>
       by_cases a8:x=J
       .obtain⟨es,c,d,B,c0,P,i2,i3,i4,i5,_⟩:=O.it.ex
        grind
       .rw[M.other x a8,R x o e6 a8]at h5;cases h5
     grind
    .show leftOf m5 J<leftOf mz J;rw[lU.left_ a7,lU.left_ C,a1];simp
def anQ:Vc.Spec:=λc m h K=>∃(n d e f:Nat)(v:QV)(od:dg)(g s:Sl)(rs:cw)(r:de)(w:Nat),c=[cI n,.val (.func (.func 210) #[] #[.pointer (some ⟨d,0,none⟩),.pointer (some ⟨e,0,none⟩),.pointer (some ⟨f,0,none⟩)])]/\
 m d=some (.cells ⟨QV.enc v⟩ 68 (0,0))/\m e=some (.cells #[Sl.val g] 95 (0,0))/\m f=some (.cells #[Sl.val s] 75 (0,0))/\kC h v.order od/\Rows h g rs/\bO h s r/\rs.length=n/\uW od rs/\(∀x∈rs,x.length=w)/\r.length=w/\
 K (cI ((rs.countP λy=>decide (nC od y r<0):Nat):Int)) m h
noncomputable def bbX:Ctx:=Ua [(208,Uv),(203,btQ),(209,anQ)] [] [(2,{A:=Sl×Nat×Nat×MH×PH,st:=λ⟨t,b,c,m,h⟩=>bU 38 40 [(1,sv t),(2,vv (.pointer (some ⟨b,0,none⟩))),(5,vv (.pointer (some ⟨c,0,none⟩)))] [] m h}),
 (6,{A:=Nat×Nat×Nat×Nat×MH×PH,st:=λ⟨b,o,e,g,m,h⟩=>bU 38 40 [(2,vv (.pointer (some ⟨b,0,none⟩))),(6,vv (.pointer (some ⟨o,0,none⟩))),(7,vv (.pointer (some ⟨e,0,none⟩))),(8,vv (.pointer (some ⟨g,0,none⟩)))] [] m h})] [200002,200005,200006,200007,200008,1095,400000,0]
noncomputable abbrev kJ(a:Sl×Nat×Nat×MH×PH):Nat:=a.2.1
noncomputable abbrev sI(a:Sl×Nat×Nat×MH×PH):Nat×MH×PH:=a.2.2
abbrev EA(a:MH)(b:Nat)(c:Value)(d:MH->(Nat×Nat×Nat×Nat×MH×PH)->Prop):Prop:=mH (λx e=>aA (CA a b (jI x e 0)) (0<x.size) (∀(f:MH),cL a f b (jJ c 1 x) e->∃(g:Nat×Nat×Nat×Nat×MH×PH),d f g))
noncomputable abbrev mA(a:Nat×Nat×Nat×Nat×MH×PH):Nat×MH×PH:=pC a.2
abbrev EH(a:Nat×Nat×Nat×Nat×MH×PH->Prop)(b:Nat×Nat×Nat×Nat×MH×PH)(c:Sl×Nat×Nat×MH×PH)(d e g:Nat)(i:MH)(j:PH):Prop:=aA (a b) (eU (kJ c) b.1) (aA (eU d b.2.1) (eU e b.2.2.1) (aI (eU g (mA b).1) (iK i (mA b)) (fI j (mA b).2) True))
abbrev N7(a:cw->de->Prop):Prop:=∃(x:cw)(c:de),a x c
attribute [push_cast] kJ sI EA mA EH N7
def L1(v:QV)(t:Sl)(m:MH)(h:PH)(K:dc):Prop:=
  ∀(b:Nat)(R:MH),aR (dL m h b) (cL m R b v.enc 68) (∃(I:Sl×Nat×Nat×MH×PH->Prop),(∃(y:QV),aJ R h b 0 y.enc/\bD (λJ o=>aI (bF t.a J o) ((0:Int)<=1) (1<aG t) (∃(C:Nat),aA (aJ R h J (o+1) (xJ C)) (∃(P:QV)(u:Nat),Lz (λg V=>∃(l:cw)(w:Nat),aA (eC y.enc (sR C)=eC P.enc (sR u)) (Ints h P.group g) (aA (kC h P.order V) (QP h u l) (NO w l g R (λD=>D) (λj=>j) (λL=>L) (λD L d k W=>cR h d (vJ dZ L d D g V l k W) (aA (aJ L d b 0 y.enc) (aJ L d J (o+1) (xJ C)) (∀(j:Nat)(F:MH),aR (dL L d j) (cL L F j (mI Gf) 243) (mH (λc E=>aA (CA F j (jI c E 0)) (0<c.size) (∀(Q:MH),cL F Q j (jJ (FI D) 1 c) E->∃(x:Sl×Nat×
 Nat×MH×PH),aA (I x) (aX t x.1) (aA (eU b (kJ x)) (eU j (sI x).1) (fM Q (sI x).2 d)))))))))))) (aA (aJ R h b 0 y.enc) (aJ R h J (o+1) (xJ C)) (∀(j:Nat)(L:MH),aR (dL R h j) (cL R L j (mI Gf) 243) (∃(P:QV)(u:Nat),Lz (λg V=>∃(l:cw)(w:Nat),aA (eC y.enc (sR C)=eC P.enc (sR u)) (Ints h P.group g) (aA (kC h P.order V) (QP h u l) (NO w l g L (λD=>D) (λA=>A) (λF=>F) (λD F d k W=>cR h d (vJ dZ F d D g V l k W) (mH (λc E=>aA (CA F j (jI c E 0)) (0<c.size) (∀(Q:MH),cL F Q j (jJ (FI D) 1 c) E->∃(x:Sl×Nat×Nat×MH×PH),aA (I x) (aX t x.1) (aA (eU b (kJ x)) (eU j (sI x).1) (fM Q (sI x).2 d)))))))))))))))/\∀(x:
 Sl×Nat×Nat×MH×PH),I x->EB (cA (sI x)) (bW (sI x)) x.1 (λJ L y S=>vY S (bW (sI x)) y L (λI1 k e F d=>I1 k F d->∀(j:Nat)(Q:MH),aR (dL F d j) (cL F Q j iT 75) (mH (λc E=>aA (CA Q j (jI c E 0)) (0<c.size) (∀(z:MH),cL Q z j (jJ (eF e) 1 c) E->∃(I2:Nat×Nat×Nat×Nat×MH×PH->Prop),(∃(C:Nat),aJ z d (sI x).1 0 (bN C)/\j5 z d j 0 (λD=>∃(G:Sl),aA (aJ z d (kJ x) 17 (aM G)) (aJ z d (sI x).1 0 (bN C)/\JK D G d z (aJ z d (sI x).1 0 (bN C)) (λr M=>aA (aJ z d j 0 (aM D)) (aJ z d (kJ x) 17 (aM G)) (v8 z C (λO=>jU 9 O) (λO=>O (dJ r M)) (dJ r M) (aI (aJ z d (sI x).1 0 (bN C)) (aJ z d j 0 (aM D))
 (aJ z d (kJ x) 17 (aM G)) (∀(A:Nat)(B:MH),aR (dL z d A) (cL z B A iT 95) (EA B A tE (λH f=>EH I2 f x J j A H d)))) (λT=>aI (aJ z d (sI x).1 0 (bN C)) (aJ z d j 0 (aM D)) (aJ z d (kJ x) 17 (aM G)) (∀(A:Nat)(B:MH),aR (dL z d A) (cL z B A iT 95) (EA B A (eF T) (λH f=>EH I2 f x J j A H d)))))) (λr M=>aI (aJ z d (sI x).1 0 (bN C)) (aJ z d j 0 (aM D)) (aJ z d (kJ x) 17 (aM G)) (∀(A:Nat)(B:MH),aR (dL z d A) (cL z B A iT 95) (aA (aJ B d j 0 (aM D)) (aJ B d (kJ x) 17 (aM G)) (v8 B C (λO=>jU 9 O) (λO=>O (dJ r M)) (dJ r M) (EA B A tE (λH f=>EH I2 f x J j A H d)) (λT=>EA B
 A (eF T) (λH f=>EH I2 f x J j A H d))))))) (aA (aJ z d (sI x).1 0 (bN C)) (aJ z d j 0 (aM D)) (aJ z d (kJ x) 17 (aM G)/\∀(A:Nat)(B:MH),aR (dL z d A) (cL z B A iT 95) (aJ B d (sI x).1 0 (bN C)/\JK D G d B (aJ B d (sI x).1 0 (bN C)) (λ_ _=>aJ B d j 0 (aM D)) (λr M=>aJ B d (kJ x) 17 (aM G)/\v8 B C (λO=>jU 9 O) (λO=>O (dJ r M)) (dJ r M) (EA B A tE (λH f=>EH I2 f x J j A H d)) (λT=>EA B A (eF T) (λH f=>EH I2 f x J j A H d))))))))/\∀(f:Nat×Nat×Nat×Nat×MH×PH),I2 f->j5 (cA (mA f)) (bW (mA f)) (mA f).1 0 (λC=>bD (λn A=>bD (λY Z=>∃(P:QV)(o:dg),jE (λg s
 =>N7 (λr X=>∃(w:Nat),aA (fT (aG C) (qU 210 (Array.mk (bH (vQp f.1 0) (vQp (mA f).1 0) (mI (vQp f.2.2.1 0)))))=fT (↑n:Int) (qU 210 (Array.mk (bH (vQp A 0) (vQp Y 0) (mI (vQp Z 0)))))) ((mA f).2.1 A=Option.some (jI (Array.mk P.enc) 68 0)) (aA ((mA f).2.1 Y=Option.some (jI (Array.mk (aM g)) 95 0)) ((mA f).2.1 Z=Option.some (jI (Array.mk (aM s)) 75 0)) (aA (kC (bW (mA f)) P.order o) (Rows (bW (mA f)) g r) (aA (bO (bW (mA f)) s X) (r.length=n) (aI (uW o r) (Al r (λU=>U.length=w)) (X.length=w) (sO (cA (mA f)) (bW (mA f)) f.1 19 (λD=>aY (↑(countP (fun(G:de)=>decide (nC o G X<0)) r):Int) D (j5 (cA (mA f)) (bW (mA f)) f.2.1 0 (λG=>∃(T:Sl),
 aJ (cA (mA f)) (bW (mA f)) f.2.2.1 0 (aM T)/\∃(U:List cv),aI (cT (cA (mA f)) (cH G) 75 1 U) (cW (iA U 1*24)) (fN U) (∀(s1:Sl)(B:MH),dV (cA (mA f)) B (cH G) s1 75 1 (eK U (aM T))->mH (λM E1=>aA (CA B f.2.1 (jI M E1 0)) (0<M.size) (∀(H:MH),cL B H f.2.1 (jJ (eF s1) 1 M) E1->I1 (k+1) H (bW (mA f))))))) (I1 (k+1) (cA (mA f)) (bW (mA f)))))))))))))))))) (λF d=>j5 F d J 0 (λC=>K (mL C) F d))))
theorem Kz{w:World}{q:Nat}{c:Array Obj}(d:b<w.heap.size):(Sort.grow (w.drewN q) c).heap[b]? =w.heap[b]? :=by
 show((w.drewN q).heap++c)[b]? =_;rw[Array.getElem?_append_left (show b<(w.drewN q).heap.size from d)];rfl
theorem Xe{P:Program}{g:Nat}{cs:cv}{m:MH}{h:PH}{S:Vc.Spec}{r:CV}{u:Value}(M:Sound P g S)(O:S (cs.map .val) m h λI m' h'=>I=r/\m'=m/\h'=h)(Q:∀w C,Ea w r C->C=u){w:World}
 (R:∀b o v,h b o=some v->w.cell? ⟨b,o,none⟩=some v)(Y:∀b o,m b=some o->w.heap[b]? =some o)(T:∀b o,m b=some o->∀i,h b i=none)(D:Nat)(E:Array Obj):
 Calls P g cs.toArray (Sort.grow (w.drewN D) E) λe w'=>e= .returned u/\∃q F,w'=Sort.grow ((Sort.grow (w.drewN D) E).drewN q) F:=by
 obtain⟨W,J⟩:∃W,Sort.grow (w.drewN D) E=W:=⟨_,rfl⟩
 rw[J];have G:∀b,b<w.heap.size->W.heap[b]? =w.heap[b]? :=λb f=>by rw[<-J];exact Kz f
 have t:∀(l:cv)(w:World),Cy w (l.map .val) l:=λl w=>by
  induction l with
  |nil=>trivial
  |cons a l U=>exact⟨rfl,U⟩
 have z:∀(l:cv)(i:Nat)(c:CV)(u:Value)(b:Nat),(l.map CV.val)[i]? =some c->gA c u=some b->False:=λl i c u b n f=>by
  rw[getElem?_map]at n;cases e:l[i]? with
  |none=>grind
  |some v=>rw[e]at n;simp at n;subst n;simp[gA]at f
 have A:AK W m h (cs.map .val) cs:=by
  refine⟨t _ _,?_,?_,T,λi j c d u v b n _ _ _ f _=>(z _ i c u b n f).elim,λi c u b n _ f=>(z _ i c u b n f).elim⟩
  .intro b o v V;have B:=R b o v V;rw[World.cell?_of_block (w:=w) (w':=W) (a:=⟨b,o,none⟩) (G b (World.block_lt_of_cell? w ⟨b,o,none⟩ B))];exact B
  grind
 refine(M.2 _ _ m h W _ O A).mono ?_;rintro e w' ⟨I,C,m',h',rfl,⟨rfl,rfl,rfl⟩,H,y,_⟩;have X:=Q _ _ H;subst X;refine⟨rfl,MC y.tape y.os y.output y.drawn y.size (λb f=>?_)⟩;cases L:m' b with
 |none=>
  refine y.frame b f ?_;rintro(B|⟨i,c,u,n,_,Z⟩)
  .exact B L
  grind
 |some o=>rw[y.msat b o L];grind
theorem XJ{g:Nat}{S R:Vc.Spec}(U:cu g S)(hR:∀A m h K,R A m h K->∃(n D E F G:Nat)(od:dg)(rs:cw)(r:de),A=[cI n,.val (.func (.func g) #[] #[.pointer (some ⟨D,0,none⟩),.pointer (some ⟨E,0,none⟩),.pointer (some ⟨F,0,none⟩)])]/\rs.length<=502633886983/\rs.length=n/\uW od rs/\(∀x∈rs,x.length=G)/\r.length=G/\
 (∀(i:Nat) x,rs[i]? =some x->S ([.int .i64 i,.pointer (some ⟨D,0,none⟩),.pointer (some ⟨E,0,none⟩),.pointer (some ⟨F,0,none⟩)].map .val) m h λr' m' h'=>r'=cB (decide (nC od x r>=0))/\m'=m/\h'=h)/\K (cI ((rs.countP λy=>decide (nC od y r<0):Nat):Int)) m h):cu 209 R:=by
 refine⟨⟨Tryz.f209,func209,rfl,bg⟩,?_⟩;intro A V m h w K h0 f;obtain⟨n,D,E,F,G,od,rs,r,rfl,W,rfl,I,X,j,hS,hK⟩:=hR _ _ _ _ h0
 obtain⟨v1,H,rfl⟩:∃v H,V=[v,H]:=by
  have:=(rJ f.args).1
  match V,this with
  |[v,H],_=>grind
 have B:v1= .int .i64 rs.length:=f.args.1;have h2:H= .func (.func g) #[] #[.pointer (some ⟨D,0,none⟩),.pointer (some ⟨E,0,none⟩),.pointer (some ⟨F,0,none⟩)]:=f.args.2.1;subst B h2
 have eg:∀args w,(callFunc g args).run Tryz.prog w= .ok (.enter g args) w:=λargs w=>by
  obtain⟨Y,J,d,hn⟩:=U.1;have L:¬Y.body=none:=bk
  have M:¬Y.name= "runtime.NumGoroutine" :=bk
  simp[callFunc,program,Sem.run,J,M,L]
 have C:=Any.sort_Search Tryz.searchO g #[.pointer (some ⟨D,0,none⟩),.pointer (some ⟨E,0,none⟩),.pointer (some ⟨F,0,none⟩)] rs.length (λi=>decide (nC od (rs.toArray[i]!) r>=0)) w eg aC
  (λmm O i hi=>Xe (cs:=[.int .i64 i,.pointer (some ⟨D,0,none⟩),.pointer (some ⟨E,0,none⟩),.pointer (some ⟨F,0,none⟩)]) U
   (hS i _ bk) (λw u' hu=>hu) f.hsat f.msat f.disj mm O)
  (λa b P d c=>?_)
 .refine Calls.mono C ?_;rintro e w' ⟨rfl,q,O,rfl⟩
  have t:((List.range rs.length).countP λi=> !decide (nC od (rs.toArray[i]!) r>=0))=rs.countP λy=>decide (nC od y r<0):=by
   have:=Go.Lib.countP_range rs.toArray (λy=> !decide (nC od y r>=0))
   grind
  rw[t];refine⟨_,_,m,h,rfl,hK,rfl,⟨rfl,rfl,rfl,Nat.le_add_right _ _,?_,λb d _=>Kz d,λb o v Q=>?_,λb o d=>?_,f.disj,λ_ _ _ e=>e,λ_ _ _=>rfl,λb o d=>.inr (.inl bk)⟩,λb d=>by cases d⟩
  .show w.heap.size<=((w.drewN q).heap++O).size;rw[Array.size_append];exact Nat.le_add_right _ _
  .have B:=f.hsat b o v Q;rw[World.cell?_of_block (w:=w) (a:=⟨b,o,none⟩) (Kz (World.block_lt_of_cell? w ⟨b,o,none⟩ B))];exact B
  .have B:=f.msat b o d;rw[Kz (Array.getElem?_eq_some_iff.1 B).1];exact B
 .have c:=of_decide_eq_true c;refine decide_eq_true ?_;rcases Nat.lt_or_eq_of_le P with T|rfl
  .have Z:a<rs.length:=by omega
   rw[getElem!_pos _ a aC]at c;rw[getElem!_pos _ b aC];simp only[getElem_toArray]at c⊢
   have u:=X _ (getElem_mem Z);have z:=X _ (getElem_mem d);have h5:=(pairwise_iff_getElem.1 I) a b Z d T;have h6:=D0 (od:=od) u z;have h7:=D0 (od:=od) u j;have h8:=D0 (od:=od) z j;rw[Ds u z]at h6;have:=(KZ G od).trans r rs[a] rs[b] (by rw[<-Ds j u];omega) aC;rw[<-Ds j z]at this;omega
  .exact c
theorem YD:cu 209 anQ:=XJ YC λu m h K⟨n,j,o,t,v,od,g,s,rs,r,y,e,z,A,B,C,c,D,E,d,F,f,G⟩=>⟨n,j,o,t,y,od,rs,r,e,by have:=c.len;omega,E,d,F,f,λi x H=>⟨i,j,o,t,v,od,g,s,rs,r,x,rfl,z,A,B,C,c,D,H,rfl,rfl,rfl⟩,G⟩
theorem vJ.get2{κ:de->ByteArray}{y:Nat}{l:cw}{j:dm}{G:ByteArray->cw}{key:ByteArray}{K0:Prop}{K:Sl->Prop}(g:vJ κ m h y gr od l j G)(o:FP j key ⟨none,0,0⟩->K0)(u:∀s,FP j key s->K s):
 ∃(d:List (Value×Sl))(Ok:Value->Prop),tB m y (d.map λp=>(p.1,eF p.2))/\KeyLaw Tryz.prog 9 Ok/\Ok (.string key)/\(∀e,List.Mem e d->Ok e.1)/\((∀e,List.Mem e d->e.1=Value.string key->False)->K0)/\∀t,List.Mem (Value.string key,t) d->K t:=by
 obtain⟨z,c,A,B,_,_⟩:=g.map_;refine⟨j.map λp=>(.string p.1,p.2),_,⟨z,c,A,by rw[B];simp⟩,Ee,⟨key,rfl⟩,λe C=>?_,λD=>o (.inl ⟨rfl,λh=>?_⟩),λt E=>u t (.inr ?_)⟩
 .obtain⟨k,_,rfl⟩:=mem_map.1 (show e∈_ from C)
  grind
 .obtain⟨p,n,e⟩:=mem_map.1 h;subst e;exact D (.string p.1,p.2) (mem_map_of_mem (f:=λp:ByteArray×Sl=>(Value.string p.1,p.2)) n) rfl
 .obtain⟨p,n,e⟩:=mem_map.1 (show(Value.string key,t)∈_ from E)
  grind
theorem vJ.keep{κ:de->ByteArray}{y:Nat}{l:cw}{d:dm}{G:ByteArray->cw}(g:vJ κ m h y gr od l d G)(e:∀o,m y=some o->m' y=some o)(le:PH.le h h'):vJ κ m' h' y gr od l d G:=by
 obtain⟨f,c,j,n,u,z⟩:=g.map_;exact⟨⟨f,c,e _ j,n,u,z⟩,g.nodup,λp A=>bC.mono (g.rows p A) le (λr t B=>bO.mono B le),g.none_,g.perm,g.sort⟩
theorem vJ.at_{κ:de->ByteArray}{y:Nat}{l:cw}{c:dm}{G:ByteArray->cw}{key:ByteArray}{s:Sl}(g:vJ κ m h y gr od l c G)(d:FP c key s):Rows h s (G key):=by
 rcases d with⟨rfl,e⟩|f
 .rw[g.none_ key e];exact(fQ.nil h).rows (bX.nil _ _) bf
 .exact g.rows _ f
structure b0J(m5:MH)(hh:PH)(bq b9 b2:Nat)(e:Sl)(us2:dk)(Gk:cw)(c:Nat×Nat×Nat×Nat×MH×PH):Prop where
 q:c.1=bq
 o:c.2.1=b9
 b:c.2.2.1=b2
 h:c.2.2.2.2.2=hh
 sub:FD m5 c.2.2.2.2.1 b9
 out:qJ m5 c.2.2.2.2.1 b9 us2
 e_:c.2.2.2.2.1 b2=some (.cells #[eF e] 75 (0,0))
 g_:∃s,c.2.2.2.2.1 c.2.2.2.1=some (.cells #[eF s] 95 (0,0))/\Rows hh s Gk
def Jp(q:Query)(ls:List cw):cw:=match q with|.mk _ _ _ _ _ gr od li _=>Fw gr od li (ls.getD 0 []) (ls.getD 1 [])
def Gc(q:Query)(ls:List cw):Prop:=match q with|.mk _ _ _ _ _ gr _ _ _=>2<=ls.length/\∃w,kD w (ls.getD 0 [])/\kD w (ls.getD 1 [])/\jB w gr
theorem YL:cu 183 (UE Gc Jp):=by
 refine KB func183 ?_;rintro g2 m h K ⟨v,t,q,bs,ls,rfl,hq,ha,hT,f0,hK⟩;refine⟨bbX,rfl,aD PA (aD Fy (aD YD aF)),L1 v t m h (dE h K),be,?_⟩;show L1 v t m h (dE h K);dsimp only[L1,push_cast];obtain⟨op,ta,w,co,on,gr,od,li,args⟩:=q;obtain⟨g3,wd,B,n,I⟩:=f0;intro b m1 f1 c8;obtain⟨s1,n1⟩:=kG (Sub.refl m) f1 c8;have a8:m1 b=some (.cells ⟨v.enc⟩ 68 (0,0)):=c8.at_;obtain⟨b1,f2,x,ea,g4,rd,sq⟩:=ha.get (FW (i:=1) aC);obtain⟨b6,c9,x6,f3,g1,f4,d'⟩:=ha.get (FW (i:=0) aC);simp only[Jp]at hK;generalize ls.getD 1 []=l' at hK n sq;generalize ls.getD 0 []=l at hK B d';have g5:=B.len;have a9:=hq.parts.group_;have b0:=hq.parts.order_
 refine⟨λz=>z.1=t/\z.2.1=b/\PH.le h z.2.2.2.2/\Sub m z.2.2.2.1/\z.2.2.2.1 b=some (.cells ⟨v.enc⟩ 68 (0,0))/\∃y kk G,z.2.2.2.1 z.2.2.1=some (.cells #[.map (some y)] 243 (0,0))/\vJ dZ z.2.2.2.1 z.2.2.2.2 y gr od l' kk G,
  ⟨v,.of_m a8 (take_length ..),b1,f2,ea,aC,aC,x,.imm rd,⟨v,x,gr,od,l',wd,rfl,a9,b0,sq,n,I,hT.sub s1,λy m2 h2 kk G F H Z Y=>?_⟩,.of_m a8 (take_length ..),.imm rd,λU m2 d0 a'=>?_⟩,?_⟩
 .have yb:b≠y:=λe=>bk
  have a0:m2 b=some (.cells ⟨v.enc⟩ 68 (0,0)):=bk
  have s2:Sub m m2:=λz o e=>by rw[H z (λd=>by have:=s1 z o e;grind)];exact s1 z o e
  refine⟨.of_m a0 (take_length ..),.imm (rd.mono Z),λU m3 b4 a1=>⟨_,_,⟨a1.at_⟩,bf,λV D=>⟨(t,b,U,V,h2),⟨rfl,rfl,Z,?_,?_,y,kk,G,D.at_,?_⟩,MT⟩⟩⟩
  .obtain⟨s3,n3⟩:=kG s2 b4 a1;exact s3.upd n3 D.other
  .have:b≠U:=λe=>by have:=b4.m_;grind
   show V b=_;rw[D.other b this,a1.other b this];exact a0
  .refine Y.keep (λo e=>?_) (.refl _);have:y≠U:=λd=>by rw[d,b4.m_]at e;cases e
   show V y=_;rw[D.other y this,a1.other y this];exact e
 .obtain⟨s2,n2⟩:=kG s1 d0 a';have d1:b≠U:=λe=>by have:=d0.m_;grind
  have a0:m2 b=some (.cells ⟨v.enc⟩ 68 (0,0)):=by rw[a'.other b d1];exact a8
  refine⟨v,x,gr,od,l',wd,rfl,a9,b0,sq,n,I,hT.sub s2,λy m3 h2 kk G F H Z Y=>?_⟩;have yb:b≠y:=λe=>bk
  have yc:U≠y:=λe=>by rw[<-e,a'.at_]at F;cases F
  have s3:Sub m m3:=λz o e=>by rw[H z (λd=>by have:=s2 z o e;grind)];exact s2 z o e
  refine⟨#[.map none],243,⟨by rw[H U yc];exact a'.at_⟩,bf,λV D=>⟨(t,b,U,V,h2),⟨rfl,rfl,Z,s3.upd n2 D.other,?_,y,kk,G,D.at_,?_⟩,MT⟩⟩
  .show V b=_;rw[D.other b d1,H b yb];exact a0
  .refine Y.keep (λo e=>?_) (.refl _);show V y=_;rw[D.other y (Ne.symm yc)];exact e
 .rintro⟨t',b',U,V,hh⟩ ⟨e1,d,J,s4,P,y,kk,G,b5,Y⟩;dsimp only at e1 d J s4 P b5 Y⊢
  subst e1 d;intro S m5 d2 a2;obtain⟨s5,n9⟩:=kG s4 d2 a2
  have a3:∀{z o},V z=some o->m5 z=some o/\z≠S:=fun{z o} d=>by
   have:z≠S:=λT=>by rw[T,d2.m_]at d;cases d
   exact⟨by rw[a2.other z this];exact d,this⟩
  obtain⟨us,d3,d4⟩:=(d'.mono J).ex;have f5:=d4.len;refine⟨b6,c9,f3,aC,aC,x6,.imm (f4.mono J),z6,us,λk my F=>F=hh/\FD m5 my S/\∃f,qJ m5 my S f/\f.length<=k/\fQ hh f (Fw gr od li (l.take k) l'),yT,⟨x6,us,rfl,d3,rfl⟩,⟨rfl,λz o e _=>e,[],qJ.new a2.at_,bf,by simpa[Fw]using fQ.nil hh⟩,?_,?_⟩
  .rintro k e my F hk-⟨rfl,a4,f,W,b7,Q⟩ b2 m6 f6 d5;obtain⟨r,hr,hv⟩:=d4.at' hk;have g6:=(bt hk);have a5:=bx hr;have d6:=B.wid r a5;have d7:jB r.length gr:=bk
   refine⟨_,_,⟨d5.at_⟩,bf,λL d8=>?_⟩
   have b8:∀{z o},my z=some o->L z=some o/\z≠b2:=fun{z o} d=>by
    have:z≠b2:=λT=>by rw[T,f6.m_]at d;cases d
    exact⟨by rw[d8.other z this,d5.other z this];exact d,this⟩
   have up:∀{z o},V z=some o->L z=some o:=fun{z o} d=>(b8 (a4 z o (a3 d).1 (a3 d).2)).1;have s7:FD m5 L S:=λz o d c'=>(b8 (a4 z o d c')).1
   have C:∀{ma mb:MH},qJ m5 ma S f->(∀z o,ma z=some o->mb z=some o)->qJ m5 mb S f:=fun{ma mb} ho hk=>by
    obtain⟨s,h1,h2,h3⟩:=ho.ex;refine⟨s,hk _ _ h1,cT.keep h2 λz i T=>?_,h3⟩;obtain⟨g8,h4⟩:=h2.blk T
    grind
   have o7:qJ m5 L S f:=C W λz o d=>(b8 d).1;have a6:L b2=some (.cells #[eF e] 75 (0,0)):=d8.at_;have g7:=Y.keep (λo d=>up d) (.refl _);have rc:aJ L F U 0 [Value.map (some y)]:=.of_m (up b5) rfl;have re:aJ L F b2 0 [eF e]:=.of_m a6 rfl;have rg:aJ L F b' 17 [eF v.group]:=.of_m (up P) rfl;have d9:Ints F v.group gr:=a9.mono J;have T7:iL L:=hT.sub λz o d=>up (s4 z o d)
   have fin:∀s,FP kk (dZ (pick r gr)) s->∀A M,dL L F A->gR L M A (.cells #[tE] 95 (0,0))->∃(cs:Array Value)(E:TypeId),CA M A (.cells cs E (0,0))/\0<cs.size/\∀m9,gR M m9 A (.cells (Array.mk (eF s::cs.toList.drop 1)) E (0,0))->
    ∃c:Nat×Nat×Nat×Nat×MH×PH,b0J m5 F b' S b2 e f (G (dZ (pick r gr))) c/\sQo b' 0=sQo c.1 0/\sQo S 0=sQo c.2.1 0/\sQo b2 0=sQo c.2.2.1 0/\sQo A 0=sQo c.2.2.2.1 0/\m9=c.2.2.2.2.1/\F=c.2.2.2.2.2/\True:=λs R A M u g=>by
    refine⟨_,_,⟨g.at_⟩,bf,λm9 e'=>⟨(b',S,b2,A,m9,F),?_,MT⟩⟩
    have c0:∀z o,L z=some o->m9 z=some o:=λz o d=>by
     have:z≠A:=λT=>by rw[T,u.m_]at d;cases d
     rw[e'.other z this,g.other z this];exact d
    exact⟨rfl,rfl,rfl,rfl,λz o d c'=>c0 z o (s7 z o d c'),C o7 c0,c0 _ _ a6,s,e'.at_,Y.at_ R⟩
   have e0:∀{A M},dL L F A->gR L M A (.cells #[tE] 95 (0,0))->∀z o,L z=some o->M z=some o:=fun{A M} u g z o d=>by
    have:z≠A:=λT=>by rw[T,u.m_]at d;cases d
    rw[g.other z this];exact d
   refine⟨b0J m5 F b' S b2 e f (G (dZ (pick r gr))),⟨y,rc,e,re,v.group,rg,⟨rc,e,v.group,r,gr,rfl,hv,d9,B.row r a5,d7,T7,rc,⟨re,rg,g7.get2 (λR=>⟨rc,re,rg,fin _ R⟩) (λs R=>⟨rc,re,rg,fin _ R⟩)⟩,rc,re,rg,λA M u g=>?_⟩,rc,re,rg,λA M u g=>?_⟩,?_⟩
   .have u8:=e0 u g;exact⟨.of_m (u8 _ _ a6) rfl,.of_m (u8 _ _ (up P)) rfl,(g7.keep (u8 y) (.refl _)).get2 (λR=>fin _ R A M u g) (λs R=>fin _ R A M u g)⟩
   .have u8:=e0 u g;have e5:aJ M F U 0 [Value.map (some y)]:=.of_m (u8 _ _ (up b5)) rfl;exact⟨e5,e,v.group,r,gr,rfl,hv,d9,B.row r a5,d7,T7.sub u8,e5,.of_m (u8 _ _ a6) rfl,.of_m (u8 _ _ (up P)) rfl,(g7.keep (u8 y) (.refl _)).get2 (λR=>fin _ R A M u g) (λs R=>fin _ R A M u g)⟩
   .rintro⟨c1,c2,c3,A,mz,hz⟩ ⟨e1,d,T,e4,a7,c4,c5,s,c6,X⟩;dsimp only at e1 d T e4 a7 c4 c5 c6⊢
    subst e1 d T e4;have e6:∀{z o},V z=some o->mz z=some o:=fun{z o} d=>a7 z o (a3 d).1 (a3 d).2;have O:=M3 Pj (od:=od) n I (B.row r a5) d6;rw[<-(Y.perm _).countP_eq]at O;refine⟨s,.of_m c6 rfl,s.len,c1,A,c3,v,od,s,e,G (dZ (pick r gr)),r,wd,rfl,e6 P,c6,c5,b0.mono J,X,hv,X.slen.symm,Y.sort _,λz f7=>?_,d6,v.limit,.of_m (e6 P) rfl,?_⟩
    .have:=(Y.perm _).mem_iff.1 (show z∈_ from f7);exact n.wid z (mem_filter.1 this).1
    .rw[O];have e7:v.limit=li:=hq.parts.limit_;rw[e7];refine aE (λh1=>?_) (λh1=>?_)
     .obtain⟨so,e8,c7,e9⟩:=c4.ex;refine⟨so,.of_m e8 rfl,e,.of_m c5 rfl,Jr ⟨_,a2.at_⟩ a7 e8 c7 e9 aC λm' f8 f9=>⟨rfl,f8,f++[e],f9,bj,?_⟩⟩;rw[Fw,lN _ hr,if_pos (decide_eq_true h1)];exact Q.snoc hv
     .refine⟨rfl,a7,f,c4,aC,?_⟩;rw[Fw,lN _ hr,if_neg bk,append_nil];exact Q
  .rintro my F-⟨rfl,a4,f,W,b7,Q⟩
   rw[f5,take_length]at Q;obtain⟨s,hb,f',g'⟩:=W.ex;refine⟨s,.of_m hb rfl,dE.row (s5.x n9 a4) J f' (λj z e=>?_) (λh' le g0=>hK s h' (J.trans le) ((Q.mono le).rows g0 (by have:=Q.len;omega)))⟩;cases d:m z with
   |none=>rfl
   |some o=>have e1:=g' j z e;rw[s5 z o d]at e1;cases e1
def opF(op:Int)(q:Query)(ls:List cw):cw:=
 if op=2 then KF q ls else if op=3 then Vk q ls else if op=4 then VG q ls else if op=5 then U2 q ls else if op=6 then Tg q ls else if op=7 then TI q ls else if op=8 then TR q ls else if op=9 then Vg q ls else Jp q ls
def b7J(op:Int)(q:Query)(ls:List cw):Prop:=
 if op=2 then H9 1 q ls else if op=3 then OR q ls else if op=4 then OS q ls else if op=5 then OP q ls else if op=6 then H9 2 q ls else if op=7 then Dz q ls else if op=8 then Dz q ls else if op=9 then OQ q ls else Gc q ls
mutual
def lT(ls:List cw):Query->Nat->cw×Nat
 |.mk op ta w co on gr od li args,k=>if op=1 then(ls.getD k [],k+1)else(opF op (.mk op ta w co on gr od li args) (gM ls args k).1,(gM ls args k).2)
def gM(ls:List cw):dl->Nat->List cw×Nat
 |[],k=>([],k)
 |q::qs,k=>((lT ls q k).1::(gM ls qs (lT ls q k).2).1,(gM ls qs (lT ls q k).2).2)
end
mutual
def okQ(ls:List cw):Query->Nat->Prop
 |.mk op ta w co on gr od li args,k=>if op=1 then k<ls.length else b7J op (.mk op ta w co on gr od li args) (gM ls args k).1/\Vs ls args k
def Vs(ls:List cw):dl->Nat->Prop
 |[],_=>True
 |q::qs,k=>okQ ls q k/\Vs ls qs (lT ls q k).2
end
def b1Q:Vc.Spec:=λc m h K=>∃op,c=[cI op]/\(op=2->K (.val (.agg #[.func (.func 175) #[] #[]])) m h)/\(op=3->K (.val (.agg #[.func (.func 176) #[] #[]])) m h)/\(op=4->K (.val (.agg #[.func (.func 177) #[] #[]])) m h)/\(op=5->K (.val (.agg #[.func (.func 178) #[] #[]])) m h)/\(op=6->K (.val (.agg #[.func (.func 179) #[] #[]])) m h)/\
 (op=7->K (.val (.agg #[.func (.func 180) #[] #[]])) m h)/\(op=8->K (.val (.agg #[.func (.func 181) #[] #[]])) m h)/\(op=9->K (.val (.agg #[.func (.func 182) #[] #[]])) m h)/\((op≠2/\op≠3/\op≠4/\op≠5/\op≠6/\op≠7/\op≠8/\op≠9)->K (.val (.agg #[.func (.func 183) #[] #[]])) m h)
def Leaves(h:PH)(s:Sl)(ls:List cw):Prop:=bC h 1 eS (λl t=>Rows h t l) s ls
def Uw(N:Nat):Vc.Spec:=λe m h K=>∃c v q f d k,e=[cP c,aQ v]/\dR h q v/\SizeOf.sizeOf q<N/\c≠1/\m c=some (.cells #[Sl.val f,.int .i64 (k:Nat)] 181 (0,0))/\Leaves h f d/\iL m/\okQ d q k/\
 ∀g m' h',PH.le h h'->Rows h' g (lT d q k).1->gR m m' c (.cells #[Sl.val f,.int .i64 ((lT d q k).2:Nat)] 181 (0,0))->K (cS g) m' h'
noncomputable def bhX(N:Nat)(c:Nat)(v:QV):Ctx:=rT [(124,Uw N),(152,SR),(153,b1Q),(175,UE (H9 1) KF),(176,UE OR Vk),(177,UE OS VG),(178,UE OP U2),(179,UE (H9 2) Tg),(180,UE Dz TI),(181,UE Dz TR),(182,UE OQ Vg),(183,UE Gc Jp)] [(7,{A:=Nat×cv×MH×PH,st:=λ⟨i,l,m,h⟩=>bU 57 59 [(0,pv c),(3,.at (.ptr 3 0)),(6,.at (.lst 33)),(35,sv v.args),(36,iv v.args.len),(37,iv i)] [(3,.cells 68 (v.enc.map .val)),(33,.lst 214 1 (l.map λx=>[x]))] m h})] [] [] [] [] false
noncomputable abbrev Av(a:Nat):CV:=CV.val (Value.agg (Array.mk (mI (Value.func (Fn.func a) uX uX))))
attribute [push_cast] Av
def aPQ(op:Int)(m:MH)(h:PH)(K:dc):Prop:=
  branch (op==2) (K (Av 175) m h) (branch (op==3) (K (Av 176) m h) (branch (op==4) (K (Av 177) m h) (branch (op==5) (K (Av 178) m h) (branch (op==6) (K (Av 179) m h) (branch (op==7) (K (Av 180) m h) (branch (op==8) (K (Av 181) m h) (branch (op==9) (K (Av 182) m h) (K (Av 183) m h))))))))
abbrev J8(a:Sl)(b:Int)(c:Prop):Prop:=aA (dG (aG a)) (aG a<=aG a) (aA (Cg (aG a*b)) (Cg (aG a)) c)
noncomputable abbrev yE:Value->cv:=fun(x:Value)=>mI x
noncomputable abbrev He(a:Nat×cv×MH×PH):List cv:=List.map yE a.2.1
noncomputable abbrev nX(a:Nat×cv×MH×PH):Nat->Option Obj:=a.2.2.1
noncomputable abbrev sS(a:Nat×cv×MH×PH):Nat->Nat->Option Value:=a.2.2.2
abbrev Ch(a:Sl->(List cw)->Prop):Prop:=∃(x:Sl)(c:List cw),a x c
attribute [push_cast] J8 yE He nX sS Ch
def Sm(N:Nat)(j:Nat)(v:QV)(m:MH)(h:PH)(K:dc):Prop:=
  bK v.op 1 (j5 m h j 0 (λy=>sO m h j 1 (λB=>dN y.a B y (λb o C=>aJ m h b (eM o B 1) (aM C)/\sO m h j 1 (λF=>pK m j 1 (bG (eE (F+1))) (λu=>K (mL C) u h)))))) (J8 v.args 8 (∃(I:Nat×cv×MH×PH->Prop)(u:Nat×cv×MH×PH->Nat),(∃(x:Nat×cv×MH×PH),aA (I x) (bZ j) (aA (eP 3) (eL 33) (aA (aH v.args) (uT v) (aA (bE x.1) (fE v) (aI (Option.some (Own.lst 214 1 (replicate (wC v.args) N6))=Option.some (Own.lst 214 1 (He x))) (iD m x.2.2) (fI h x.2.2) True)))))/\∀(x:Nat×cv×MH×PH),I x->aY (↑x.1:Int) (aG v.args) (bD (λb o=>aI (bF v.args.a b o) (0<=(↑x.1:Int)) ((↑x.1:Int)<aG v.args) (∃(y:QV),aJ (nX x) (sS x) b (bB o x.1 21) y.enc/\∃
 (z:Nat),sG (λd q=>Ch (λl A=>∃(k:Nat),aA (qS (F1 j 0) (eH y)=qS (F1 z 0) (eH d)) (dR (sS x) q d) (aA (sD q N) (jS (z=1)) (aA (x.2.2.1 z=Option.some (jI (Array.mk (Cb l (↑k:Int))) 181 0)) (Leaves (sS x) l A) (aA (iL (nX x)) (okQ A q k) (∀(s:Sl),eZ (λD c=>cR (sS x) c (Rows c s (lT A q k).1) (cL (nX x) D z (Cb l (↑(lT A q k).2:Int)) 181->∃(g:Sl),jK (eW (mL s) (mL g)) (λE=>∀(f:PH),cR c f (bA f E 0 (aM g)) (aA (sC x.1) ((↑x.1:Int)<oE (He x)) (∃(e:cv),aA (pW (He x) (nL x.1) e) (0<e.length) (∃(n:Nat×cv×MH×PH),aA (I n) (u n<u x) (aA (bZ j) fW (aA (eL 33) (aH v.args) (aA (uT v) (fJ (aW x.1 1)=bY n.1)
 (nO (fE v) (Option.some (Own.lst 214 1 (List.set (He x) (nL x.1) (Value.func (Fn.func 174) uX (Eu E)::List.drop 1 e)))=Option.some (Own.lst 214 1 (He n))) (iD D n.2.2) (fI f n.2.2)))))))))))))))))))) (∃(o:Int),aA (eN v.op o) (o=2->bQ (sS x) 1 (List.map yE x.2.1) (λs c=>∃(d:QV),A8 (λt q=>Ba (λb l=>aA (kI v s=kI d t) (dR c q d) (aA (vK c t b l) (iL (nX x)) (H9 1 q l/\mV c (KF q l) (λg f=>K (mL g) (nX x) f))))))) (aA (o=3->bQ (sS x) 1 (List.map yE x.2.1) (λs c=>∃(d:QV),A8 (λt q=>Ba (λb l=>aA (kI v s=kI d t) (dR c q d) (aA (vK c t b l) (iL (nX x)) (OR q l/\mV c (Vk q l) (λg f=>K (mL g) (nX x) f))))))) (o=4->bQ (sS
 x) 1 (List.map yE x.2.1) (λs c=>∃(d:QV),A8 (λt q=>Ba (λb l=>aA (kI v s=kI d t) (dR c q d) (aA (vK c t b l) (iL (nX x)) (OS q l/\mV c (VG q l) (λg f=>K (mL g) (nX x) f))))))) (aA (o=5->bQ (sS x) 1 (List.map yE x.2.1) (λs c=>∃(d:QV),A8 (λt q=>Ba (λb l=>aA (kI v s=kI d t) (dR c q d) (aA (vK c t b l) (iL (nX x)) (OP q l/\mV c (U2 q l) (λg f=>K (mL g) (nX x) f))))))) (o=6->bQ (sS x) 1 (List.map yE x.2.1) (λs c=>∃(d:QV),A8 (λt q=>Ba (λb l=>aA (kI v s=kI d t) (dR c q d) (aA (vK c t b l) (iL (nX x)) (H9 2 q l/\mV c (Tg q l) (λg f=>K (mL g) (nX x) f))))))) (aA (o=7->bQ (sS x) 1
 (List.map yE x.2.1) (λs c=>∃(d:QV),A8 (λt q=>Ba (λb l=>aA (kI v s=kI d t) (dR c q d) (aA (vK c t b l) (iL (nX x)) (Dz q l/\mV c (TI q l) (λg f=>K (mL g) (nX x) f))))))) (o=8->bQ (sS x) 1 (List.map yE x.2.1) (λs c=>∃(d:QV),A8 (λt q=>Ba (λb l=>aA (kI v s=kI d t) (dR c q d) (aA (vK c t b l) (iL (nX x)) (Dz q l/\mV c (TR q l) (λg f=>K (mL g) (nX x) f))))))) ((o=9->bQ (sS x) 1 (List.map yE x.2.1) (λs c=>∃(d:QV),A8 (λt q=>Ba (λb l=>aA (kI v s=kI d t) (dR c q d) (aA (vK c t b l) (iL (nX x)) (OQ q l/\mV c (Vg q l) (λg f=>K (mL g) (nX x) f)))))))/\(aA (jS (o=2)) (jS (o=3)) (aA
 (jS (o=4)) (jS (o=5)) (aI (jS (o=6)) (jS (o=7)) (jS (o=8)) (jS (o=9))))->bQ (sS x) 1 (List.map yE x.2.1) (λs c=>∃(d:QV),A8 (λt q=>Ba (λb l=>aA (kI v s=kI d t) (dR c q d) (aA (vK c t b l) (iL (nX x)) (Gc q l/\mV c (Jp q l) (λg f=>K (mL g) (nX x) f))))))))))))))
theorem Zd:cu 153 b1Q:=by
 refine iB func153 ?_;rintro c m h K ⟨op,rfl,d,f,g,j,n,o,t,u,y⟩;refine⟨dD [] [] [] [] false,rfl,aF,aPQ op m h K,be,?_⟩;exact(aB (λe=>d (br e)) λz=>aB (λe=>f (br e)) λA=>aB (λe=>g (br e)) λB=>aB (λe=>j (br e)) λC=>aB (λe=>n (br e)) λD=>aB (λe=>o (br e)) λE=>aB (λe=>t (br e)) λF=>aB (λe=>u (br e)) λG=>y ⟨bk,bk,bk,bk,bk,bk,bk,bk⟩)
theorem Nd{ls:List cw}{q:Query}:∀{a:dl}{k:Nat},gM ls (a++[q]) k=((gM ls a k).1++[(lT ls q (gM ls a k).2).1],(lT ls q (gM ls a k).2).2)
 |[],k=>by simp[gM]
 |p::a,k=>by
  rw[cons_append,gM,Nd];simp[gM]
theorem adQ{ls:List cw}{q:Query}{b:dl}:∀{a:dl}{k:Nat},Vs ls (a++q::b) k->okQ ls q (gM ls a k).2
 |[],k,h=>by rw[nil_append,Vs]at h;simpa[gM]using h.1
 |p::a,k,h=>by
  rw[cons_append,Vs]at h;rw[gM];exact adQ h.2
theorem IP{ls:List cw}:∀{a:dl}{k:Nat},(gM ls a k).1.length=a.length
 |[],k=>by simp[gM]
 |p::a,k=>by rw[gM];simp[IP]
theorem WU:∀N,cu 124 (Uw N)
 |0=>by
  refine eR (fn:=Tryz.f124) (c:=cK Tryz.f124) func124 rfl bg ?_;rintro a9 m h K ⟨P,v,q,W,d,k,rfl,_,hN,_⟩;omega
 |N+1=>by
  refine iB func124 ?_;rintro a9 m h K ⟨P,v,q,W,d,k,rfl,hq,hN,X,H,I,hT,C,Y⟩;refine⟨bhX N P v,rfl,aD (WU N) (aD Ze (aD Zd (aD YU (aD YT (aD YR (aD YQ (aD YP (aD YO (aD YN (aD YM (aD YL aF))))))))))),Sm N P v m h K,be,?_⟩;dsimp only[Sm,push_cast];obtain⟨op,ta,w,co,on,gr,od,li,args⟩:=q;have xq:=hq.parts;rw[lT]at Y;rw[okQ]at C;have Z:v.op=op:=xq.op_;refine aB (λe=>?_) (λe=>?_)
  .have e:op=1:=bk
   rw[if_pos e]at C;simp only[if_pos e]at Y;have c0:=bC.slen I;obtain⟨b,o,s,ea,rd,hr⟩:=bC.at I (bu C);have r0:aJ m h P 0 [eF W]:=.of_m H rfl;have r1:aJ m h P 1 [cV (k:Nat)]:=.of_m H rfl;have c4:=I.len;refine⟨W,r0,k,r1,b,o,ea,aC,aC,s,.imm rd,k,r1,_,_,⟨H⟩,bf,λm' J=>Y s m' h (.refl _) ?_ ?_⟩
   .grind
   .have e5:IntKind.i64.wrap ((k:Int)+1)=((k+1:Nat):Int):=by rw[jG aC]
    rw[e5]at J;exact J
  .have e:op≠1:=bk
   rw[if_neg e]at C;simp only[if_neg e]at Y;obtain⟨L,c1⟩:=C;have n:=xq.args_;have b':=bC.slen n;have c2:=bC.len n
   refine⟨aC,aC,aC,aC,λz=>z.1<=args.length/\PH.le h z.2.2.2/\gR m z.2.2.1 P (.cells #[Sl.val W,.int .i64 ((gM d (args.take z.1) k).2:Nat)] 181 (0,0))/\∃D:dq,D.length=z.1/\z.2.1=D.map QG++replicate (args.length-z.1) .nilFunc/\∀j b l,D[j]? =some b->(gM d (args.take z.1) k).1[j]? =some l->QP z.2.2.2 b l,λz=>args.length-z.1,
    ⟨(0,replicate args.length .nilFunc,m,h),⟨bf,.refl _,⟨by dsimp only;rw[take_zero,gM];exact H,λ_ _=>rfl⟩,[],rfl,bf,λj b l h1 _=>by rw[getElem?_nil]at h1;cases h1⟩,?_⟩,?_⟩
   .rw[show((v.args.len:Int)).toNat=args.length by omega];dsimp only;rw[map_replicate];exact MT
   .rintro⟨i,l,zm,zh⟩ ⟨hi,g,J,D,Q,hl,y⟩;dsimp only at hi g J Q hl y⊢
    have a':iL zm:=by
     obtain⟨T,fz,e1⟩:=hT;exact⟨T,fz,by rw[J.other 1 (Ne.symm X)];exact e1⟩
    refine aE (λb0=>?_) (λc5=>?_)
    .obtain⟨p,hp⟩:=eO b' b0;obtain⟨b,o,u,ea,b1,b3⟩:=bC.at (D8.mono n g) hp;have b4:=(bt hp)
     have b6:SizeOf.sizeOf p<N:=by
      have:=sizeOf_lt_of_mem (bx hp)
      grind
     have a8:args=args.take i++p::args.drop (i+1):=by
      have A:args[i]=p:=(List.getElem?_eq_some_iff.1 hp).2;rw[<-A,getElem_cons_drop b4,take_append_drop]
     have a0:okQ d p (gM d (args.take i) k).2:=adQ (b:=args.drop (i+1)) bk
     have a1:gM d (args.take (i+1)) k=((gM d (args.take i) k).1++[(lT d p (gM d (args.take i) k).2).1],(lT d p (gM d (args.take i) k).2).2):=by
      rw[cj,hp,Option.toList_some,Nd]
     refine⟨b,o,ea,aC,aC,u,.imm b1,P,u,p,W,d,(gM d (args.take i) k).2,rfl,b3,b6,X,J.at_,bC.mono I g (λl s hr=>bC.mono hr g λr t hv=>bO.mono hv g),a',a0,λO m' h' B a2 a3=>⟨O,rfl,λb2 h2 M a4=>?_⟩⟩;have c6:l.length=args.length:=bk
     have b7:l[i]? =some .nilFunc:=by
      grind
     refine⟨aC,bj,[.nilFunc],by simp[b7],bf,(i+1,l.set i (QG b2),m',h2),⟨aC,g.trans (B.trans M),?_,D++[b2],by simp[Q],?_,?_⟩,aC,?_⟩
     .dsimp only;rw[a1];exact⟨a3.at_,λb5 a5=>by rw[a3.other b5 a5,J.other b5 a5]⟩
     .grind
     .dsimp only;rw[a1];intro j b5 l5 A E;have b8:(gM d (args.take i) k).1.length=D.length:=by rw[IP,length_take];omega
      by_cases hj:j<D.length
      .rw[getElem?_append_left hj]at A;rw[getElem?_append_left aC]at E;exact(y j b5 l5 A E).mono (B.trans M)
      .rw[getElem?_append_right aC]at A;rw[getElem?_append_right aC]at E;have:j-D.length=0:=bk
       rw[this]at A;rw[b8,this]at E;simp at A E;subst A E
       obtain⟨S,U,R⟩:=(show∃S,bX h' O 1 (S.map eS)/\fQ h' S _ from by
        obtain⟨S,U,R,V⟩:=a2.ex;exact⟨S,U,R.symm,V⟩)
       exact⟨S,⟨O,a4,U.mono M,by have V:=a2.len;rw[R.len];exact V⟩,R.mono M⟩
     .dsimp only;rw[jG aC]
      have e9:((l.map λx=>[x]).set ((i:Int)).toNat (QG b2::List.drop 1 [.nilFunc]))=(l.set i (QG b2)).map λx=>[x]:=by
       rw[map_set];rfl
      exact⟨MT,rfl,rfl,rfl,rfl,rfl,rfl,by rw[<-e9];rfl,rfl,rfl,trivial⟩
    .have b9:i=args.length:=by omega
     subst b9;rw[take_length]at J y;rw[Nat.sub_self,replicate_zero,append_nil]at hl
     have fin:∀{okF:Query->List cw->Prop}{f:Query->List cw->cw},okF (.mk op ta w co on gr od li args) (gM d args k).1->opF op (.mk op ta w co on gr od li args) (gM d args k).1=f (.mk op ta w co on gr od li args) (gM d args k).1->∀(s:Sl)(h':PH),zh.le h'->bX h' s 1 (l.map λx=>[x])->
      ∃(v1:QV)(t:Sl)(q:Query)(D:dq)(d:List cw),[aQ v,cS s]=[aQ v1,cS t]/\dR h' q v1/\vK h' t D d/\iL zm/\okF q d/\∀(O:Sl)(F:PH),h'.le F->Rows F O (f q d)->K (cS O) zm F:=fun{okF f} h1 h2 s h' B a6=>by
      refine⟨v,s,_,D,_,rfl,hq.mono (g.trans B),⟨?_,by rw[IP];exact Q,λj b l5 A E=>(y j b l5 A E).mono B⟩,a',h1,λO c' a7 hr=>Y O zm c' (g.trans (B.trans a7)) bk J⟩;rw[hl,map_map]at a6;exact a6
     have c3:=L;refine⟨op,by rw[Z],λG=>fin (okF:=H9 1) ?_ ?_,λG=>fin (okF:=OR) ?_ ?_,λG=>fin (okF:=OS) ?_ ?_,λG=>fin (okF:=OP) ?_ ?_,λG=>fin (okF:=H9 2) ?_ ?_,λG=>fin (okF:=Dz) ?_ ?_,λG=>fin (okF:=Dz) ?_ ?_,λG=>fin (okF:=OQ) ?_ ?_,λG=>fin (okF:=Gc) ?_ ?_⟩
     all_goals first
      |(subst G;exact L)
      |(subst G;rfl)
      |(obtain⟨h2,h3,h4,A,E,U,R,V⟩:=G;first|(rw[b7J,if_neg h2,if_neg h3,if_neg h4,if_neg A,if_neg E,if_neg U,if_neg R,if_neg V]at L;exact L)|(rw[opF,if_neg h2,if_neg h3,if_neg h4,if_neg A,if_neg E,if_neg U,if_neg R,if_neg V]))
def UA:Vc.Spec:=λc m h K=>∃s r,c=[cS s]/\bO h s r/\r.length<=1000/\∀d h',PH.le h h'->bO h' d r->K (cS d) m h'
def anJ:Vc.Spec:=λd m h K=>∃e v c q,d=[cS e,aQ v]/\Leaves h e c/\dR h q v/\okQ c q 0/\iL m/\(lT c q 0).1.length<=8000000/\(∀r∈(lT c q 0).1,r.length<=1000)/\∀f h',PH.le h h'->Rows h' f (lT c q 0).1->K (cS f) m h'
noncomputable def bFX(N:Nat):Ctx:=rT [(124,Uw N),(125,UA)] [(5,{A:=Nat×dk×Sl×MH×PH,st:=λ⟨i,c,s,m,h⟩=>bU 31 33 [(7,.at (.lst 16)),(17,sv s),(18,iv s.len),(19,iv i)] [(16,.lst 75 1 (c.map eS))] m h})] [] [] [200005] [] false
def Sk(a:Addr)(n c:Nat)(m:MH)(h:PH)(K:dc):Prop:=
  ∃(y:List cv),aA (dQ 3 y) (bX h (Sl.mk (Option.some a) n c) 3 y) (aA (cW (qW y*32)) (cW (qW y)) (bQ h 3 (Dd y) (λs d=>K (mL s) m d)))
theorem bSJ(a:Addr)(n c:Nat)(m:MH)(h:PH)(K:dc):Sk a n c m h K=(tM (dD [] [] [] [] false) Tryz.f125 (cK Tryz.f125) (entry Tryz.f125.ntmps [.val (.slice (some a) n c)] m h) K):=be
def PM(n c:Nat)(m:MH)(h:PH)(K:dc):Prop:=
  K CE m h
theorem bhQ(n c:Nat)(m:MH)(h:PH)(K:dc):PM n c m h K=(tM (dD [] [] [] [] false) Tryz.f125 (cK Tryz.f125) (entry Tryz.f125.ntmps [.val (.slice none n c)] m h) K):=be
abbrev jT(a:de):Prop:=jV a.length
abbrev Bw(a:Sl)(b:Nat->Nat->Option Value)(c:Sl->PH->Prop):Prop:=tH (λx d=>aI (eW (mL a) (mL x)) (bO b x d) (jT d) (lE (λf e=>cR b e (bO e f d) (c f e))))
attribute [push_cast] jT Bw
def V6(N:Nat)(C:Sl)(v:QV)(m:MH)(h:PH)(K:dc):Prop:=
  GR m h (bH tE (cV 0) []) 181 2 (λc=>bH (eF C) (cV 0) (List.drop 2 c.toList)) (λb j=>∃(f:Nat),sG (λz q=>Ch (λl g=>∃(k:Nat),aA (qS (F1 b 0) (eH v)=qS (F1 f 0) (eH z)) (dR h q z) (aA (sD q N) (jS (f=1)) (aA (j f=Option.some (jI (Array.mk (Cb l (↑k:Int))) 181 0)) (Leaves h l g) (aA (iL j) (okQ g q k) (∀(s:Sl),eZ (λA n=>cR h n (Rows n s (lT g q k).1) (cL j A f (Cb l (↑(lT g q k).2:Int)) 181->J8 s 24 (NW (λI x=>aA (I x) (eL 16) (aA (aX s (fK x)) (cD s (fK x)) (aA (bE x.1) (Option.some (Own.lst 75 1 (replicate (wC s) iT))=Option.some (Own.lst 75 1 (lY x))) (aA (j8 A (tL x)) (fI n (tL x).2) True)))) (λI B x=>I x->aY (↑x.1:Int) (aG (fK x)) (dN
 (fK x).a (↑x.1:Int) (fK x) (λD o y=>aJ (qZ x) (oP x) D (bB o x.1 1) (aM y)/\Bw y (oP x) (λt u=>aA (sC x.1) ((↑x.1:Int)<oE (lY x)) (∃(e:cv),O5 (pW (lY x) (nL x.1) e) (0<e.length) (λd=>aA (I d) (B d<B x) (aA (eL 16) (aX (fK x) (fK d)) (aA (cD (fK x) (fK d)) (fJ (aW x.1 1)=bY d.1) (aA (Option.some (Own.lst 75 1 (List.set (lY x) (nL x.1) (eF t::List.drop 1 e)))=Option.some (Own.lst 75 1 (lY d))) (j8 (qZ x) (tL d)) (eA u (tL d).2))))))))) (bQ (oP x) 1 (lY x) (λt u=>K (mL t) (qZ x) u)))))))))))))
theorem PN:cu 125 UA:=by
 refine eR (fn:=Tryz.f125) (c:=cK Tryz.f125) func125 rfl bg ?_;rintro y m h K ⟨⟨a,n,c⟩,r,rfl,f,F,g⟩;refine⟨dD [] [] [] [] false,rfl,aF,?_⟩;cases a with
 |none=>
  show tM _ Tryz.f125 (cK Tryz.f125) (entry Tryz.f125.ntmps [.val (.slice none n c)] m h) K;rw[<-bhQ n c m h K];dsimp only[PM,push_cast];refine g ⟨none,0,0⟩ h (.refl _) ?_;cases r with
  |nil=>exact⟨⟨[],bX.nil _ _,rfl,λi x z=>by simp at z⟩,bf⟩
  |cons x r=>
   obtain⟨b,o,v,e,_⟩:=bC.at f (i:=0) (x:=x) rfl;cases e
 |some a=>
  show tM _ Tryz.f125 (cK Tryz.f125) (entry Tryz.f125.ntmps [.val (.slice (some a) n c)] m h) K;rw[<-bSJ a n c m h K];dsimp only[Sk,push_cast];obtain⟨⟨j,A,B,C⟩,D⟩:=f;refine⟨j.map VV.enc,?_,A,bk,bk,λs h' le E=>g s h' le ⟨⟨j,bk,B,C⟩,D⟩⟩;constructor
  .intro e d;obtain⟨x,_,rfl⟩:=mem_map.1 d;rfl
  .intro e d u t;obtain⟨x,_,rfl⟩:=mem_map.1 d;simp[VV.enc]at t;rcases t with rfl|rfl|rfl<;>rfl
theorem aDX:cu 82 anJ:=by
 refine KC func82 ?_;rintro a0 m h K ⟨S,v,U,q,rfl,E,hq,F,V,hl,W,X⟩;refine⟨bFX (SizeOf.sizeOf q+1),rfl,aD (WU _) (aD PN aF),V6 (SizeOf.sizeOf q+1) S v m h (oG h K),be,?_⟩;dsimp only[V6,push_cast];intro b m1 G n;obtain⟨s1,Y⟩:=kG (Sub.refl m) G n;refine⟨_,_,⟨n.at_⟩,bf,λm2 t=>?_⟩;have Z:Sub m m2:=s1.upd Y t.other
 have y:b≠1:=λe=>by
  obtain⟨T,fz,H⟩:=V
  grind
 refine⟨b,v,q,S,U,0,rfl,hq,aC,y,t.at_,E,V.sub Z,F,λs I J A L M=>?_⟩;have s3:Sub m I:=Z.upd Y M.other;generalize (lT U q 0).1=rs at hl W X L;have a1:=bC.slen L;refine⟨aC,aC,aC,aC,λz=>z.1<=rs.length/\z.2.2.1=s/\z.2.2.2.1=I/\PH.le J z.2.2.2.2/\∃B,z.2.1=B++replicate (rs.length-z.1) ⟨none,0,0⟩/\fQ z.2.2.2.2 B (rs.take z.1),λz=>rs.length-z.1,⟨(0,replicate rs.length ⟨none,0,0⟩,s,I,J),⟨bf,rfl,rfl,.refl _,[],bf,br (fQ.nil J)⟩,?_⟩,?_⟩
 .rw[show((s.len:Int)).toNat=rs.length by omega];dsimp only;rw[map_replicate];exact MT
 .rintro⟨i,d,s',m',hz⟩ ⟨hi,H,e2,c,B,g,f⟩;dsimp only at hi H e2 c g f⊢
  subst H e2;have O:=f.len;rw[length_take]at O;refine aE (λa2=>?_) (λa3=>?_)
  .have C:i<rs.length:=by omega
   obtain⟨b2,o,u,ea,rd,hv⟩:=bC.at L (bu C);have a':d.length=rs.length:=bk
   have P:d[i]? =some ⟨none,0,0⟩:=by
    grind
   refine⟨b2,o,ea,aC,aC,u,.imm ((rd.mono c)),u,rs[i],rfl,bO.mono hv c,W _ (getElem_mem _),λsc h5 D Q=>⟨aC,bk,[tE],by rw[getElem?_map,show((i:Int)).toNat=i from rfl,P];rfl,bf,(i+1,d.set i sc,s',m',h5),⟨aC,rfl,rfl,c.trans D,B++[sc],?_,?_⟩,aC,?_⟩⟩
   .dsimp only;rw[g,set_append,if_neg aC,append_assoc];congr 1;rw[show rs.length-i=(rs.length-(i+1))+1 by omega,replicate_succ,show i-B.length=0 by omega];rfl
   .dsimp only;rw[cj,bu C];exact(f.mono D).snoc Q
   .dsimp only
    have e9:((d.map eS).set ((i:Int)).toNat (eF sc::List.drop 1 [tE]))=(d.set i sc).map eS:=by
     rw[map_set];rfl
    exact⟨MT,rfl,rfl,by rw[jG aC],by rw[<-e9],rfl,rfl,trivial⟩
  .have:i=rs.length:=by omega
   subst this;rw[Nat.sub_self,replicate_zero,append_nil]at g;subst g;rw[take_length]at f;intro s6 h6 j R;exact⟨m,h6,s3,A.trans (c.trans j),.refl _,X s6 h6 (A.trans (c.trans j)) ((f.mono j).rows R aC)⟩
mutual
def Be(h:PH):Query->QV->Nat->dz->Prop
 |.mk _ _ _ _ _ _ _ _ args,v,d,f=>∃e c,bX h v.args 21 (e.map QV.enc)/\lP h args e (d+1) c/\f=(d,v)::c
def lP(h:PH):dl->ef->Nat->dz->Prop
 |[],e,_,f=>e=[]/\f=[]
 |q::qs,e,d,f=>∃v c g j,e=v::c/\dR h q v/\Be h q v d g/\lP h qs c d j/\f=g++j
end
def bUJ(e:Nat×QV):cv:=[.int .i64 (e.1:Nat),.agg e.2.enc.toArray]
def Um(N:Nat):Vc.Spec:=λc m h K=>∃(v:QV)(q:Query)(d l f:Nat)(g xs:dz)(J:Nat->MH->PH->Prop),c=[aQ v,cI d,.val (.func (.yield l) #[] #[])]/\Be h q v d g/\SizeOf.sizeOf q<N/\d+BT q<=8000000/\(∀j e,g[j]? =some e->xs[f+j]? =some e)/\J f m h/\
 (∀k e m' h',xs[k]? =some e->PH.le h h'->J k m' h'->YDo Tryz.prog l (bUJ e) m' h' (λr o n=>r=true/\PH.le h' n/\J (k+1) o n))/\
 ∀m' h',PH.le h h'->J (f+g.length) m' h'->K (cB true) m' h'
noncomputable def aPX(N:Nat)(v:QV)(d l:Nat):Ctx:=
 {dD [(148,Um N)] [(4,{A:=Nat×MH×PH,st:=λ⟨i,m,h⟩=>bU 28 31 [(1,iv d),(2,vv (.func (.yield l) #[] #[])),(15,sv v.args),(16,iv v.args.len),(17,iv i)] [] m h})] [] [] false with yield:=some (boQ Tryz.prog)}
def Ul:PH->cv->List cv->Prop:=λh c xs=>∃b v q d,c=[.pointer (some ⟨b,0,none⟩)]/\bA h b 0 (QV.enc v)/\Be h q v 1 d/\BT q<=900000/\xs=d.map bUJ
def alJ:Vc.Spec:=λc m h K=>∃v,c=[aQ v]/\∀b h',PH.le h h'->bA h' b 0 (QV.enc v)->K (.val (.func (.func 147) #[] #[.pointer (some ⟨b,0,none⟩)])) m h'
abbrev Kq(a:Nat->(Nat×QV)->Prop):Prop:=∀(x:Nat)(c:Nat×QV),a x c
abbrev Fh(a:dz)(b:Nat)(c:Nat×QV):Prop:=a[b]? =Option.some c
attribute [push_cast] Kq Fh
def PK(N:Nat)(v:QV)(d l:Nat)(m:MH)(h:PH)(K:dc):Prop:=
  N8 (boQ Proofs.Tryz.prog)/\Ks (λC D=>∃(R:Bool->MH->PH->Prop),aA (Db l::fT (↑d:Int) (eH v)=Db C::List.map CV.val D) (YDo Proofs.Tryz.prog C D m h R) (∀(u:Bool),eZ (λt z=>R u t z->branch (!u) (K aZ t z) (E5 (λI x=>aA (I x) (nM d) (aA (Fi l) (aH v.args) (aA (uT v) (bE x.1) (aA (iK t x) (fI z x.2) True)))) (λI E x=>I x->aY (↑x.1:Int) (aG v.args) (bD (λb o=>aI (bF v.args.a b o) (0<=(↑x.1:Int)) ((↑x.1:Int)<aG v.args) (∃(y:QV),aJ (cA x) (bW x) b (bB o x.1 21) y.enc/\sG (λF q=>bD (λA G=>∃(k:Nat)(e H:dz)(J:Nat->MH->PH->Prop),aA (BE y (aW d 1) l=BE F (↑A:Int) G) (Be (bW x) q F A e) (aA (sD q N) (A+BT q<=8000000) (aI
 (Kq (λj f=>Fh e j f->Fh H (k+j) f)) (J k (cA x) (bW x)) (Kq (λB f=>eZ (λg c=>aR (Fh H B f) (PH.le (bW x) c) (J B g c->YDo Proofs.Tryz.prog G (zE (↑f.1:Int) (Value.agg (Array.mk f.2.enc))) g c (fun(r:Bool)=>fun(M:MH)=>fun(L:PH)=>aA (gO r) (PH.le c L) (J (B+1) M L)))))) (eZ (λg c=>cR (bW x) c (J (k+e.length) g c) (∃(n:Nat×MH×PH),aA (I n) (E n<E x) (aA (nM d) (Fi l) (aA (aH v.args) (bI v.args) (aA (fJ (aW x.1 1)=bY n.1) (iK g n) (eA c n.2)))))))))))))) (K fB (cA x) (bW x)))))))
def Zh(N:Nat)(l u:Nat)(m:MH)(h:PH)(K:dc):Prop:=
  ∃(y:QV),aJ m h u 0 y.enc/\sG (λv q=>bD (λd o=>∃(k:Nat)(e x:dz)(J:Nat->MH->PH->Prop),aA (BE y 1 l=BE v (↑d:Int) o) (Be h q v d e) (aA (sD q N) (d+BT q<=8000000) (aI (Kq (λj f=>Fh e j f->Fh x (k+j) f)) (J k m h) (Kq (λn f=>eZ (λg c=>aR (Fh x n f) (PH.le h c) (J n g c->YDo Proofs.Tryz.prog o (zE (↑f.1:Int) (Value.agg (Array.mk f.2.enc))) g c (fun(r:Bool)=>fun(z:MH)=>fun(t:PH)=>aA (gO r) (PH.le c t) (J (n+1) z t)))))) (eZ (λg c=>cR h c (J (k+e.length) g c) (K A3 g c)))))))
def Pp(v:QV)(m:MH)(h:PH)(K:dc):Prop:=
  ∀(b:Nat)(u:MH),aR (dL m h b) (cL m u b iT 31) (∃(z:QV),jK (eW (eH v) (eH z)) (λA=>∀(j:PH),cR h j (bA j A 0 z.enc) (∃(S:PH->cv->List cv->Prop)(x:List (Int×QV))(I:Nat->MH->PH->Prop),aA (IY Proofs.Tryz.prog 147 S) (S j (mI (vQp A 0)) (List.map (fun(g:Int×QV)=>zE g.1 (Value.agg (Array.mk g.2.enc))) x)) (aA (I 0 u j) (∀(k:Nat)(e:Int)(f:QV),eZ (λn d=>aR (x[k]? =Option.some (e,f)) (PH.le j d) (I k n d->GR n d zV 68 21 (λc=>G5 f f (Hi f (bH (eF f.on) (eF f.group) (bH (eF f.order) (cV f.limit) (jJ (eF f.args) 21 c))))) (λB o=>sO o d B 0 (λy=>bK y 1 (j5 o d b 0 (λC=>sO o d B 1 (λF=>∃(g:List cv),aI (cT o (cH C) 3 1 g)
 (cW (iA g 1*8)) (fN g) (∀(s:Sl)(t:MH),dV o t (cH C) s 3 1 (eK g (bG F))->mH (λc E=>aA (CA t b (jI c E 0)) (0<c.size) (∀(D:MH),cL t D b (jJ (eF s) 1 c) E->I (k+1) D d)))))) (I (k+1) o d)))))) (eZ (λn d=>cR j d (I x.length n d) (j5 n d b 0 (λy=>K (mL y) n d))))))))
mutual
theorem Be.mono{h h':PH}(le:PH.le h h'):∀{q:Query}{v:QV}{d:Nat}{es:dz},Be h q v d es->Be h' q v d es
 |.mk _ _ _ _ _ _ _ _ args,v,d,es,w=>by
  rw[Be]at w⊢
  obtain⟨e,c,f,g,j⟩:=w;exact⟨e,c,f.mono le,lP.mono le g,j⟩
theorem lP.mono{h h':PH}(le:PH.le h h'):∀{c:dl}{vs:ef}{d:Nat}{es:dz},lP h c vs d es->lP h' c vs d es
 |[],vs,d,es,w=>by rw[lP]at w⊢;exact w
 |q::c,vs,d,es,w=>by
  rw[lP]at w⊢
  obtain⟨v,e,f,g,j,n,o,t,u⟩:=w;exact⟨v,e,f,g,j,n.mono le,Be.mono le o,lP.mono le t,u⟩
end
theorem lP.len{h:PH}:∀{c:dl}{vs:ef}{d:Nat}{es:dz},lP h c vs d es->vs.length=c.length
 |[],vs,d,es,w=>by rw[lP]at w;grind
 |q::c,vs,d,es,w=>by
  rw[lP]at w;obtain⟨v,e,j,n,f,o,t,g,u⟩:=w;rw[f,cq,cq,lP.len g]
mutual
theorem Be.of{h:PH}:∀{q:Query}{v:QV},dR h q v->∀d,∃es,Be h q v d es
 |.mk _ _ _ _ _ _ _ _ args,v,e,d=>by
  obtain⟨_,_,_,_,_,_,_,_,_,g,f,c⟩:=e;obtain⟨es,j⟩:=lP.of c (d+1);exact⟨(d,v)::es,by rw[Be];grind⟩
theorem lP.of{h:PH}:∀{c:dl}{vs:ef},A0 h c vs->∀d,∃es,lP h c vs d es
 |[],vs,e,d=>⟨[],by rw[lP];exact⟨e,rfl⟩⟩
 |q::c,vs,e,d=>by
  obtain⟨v,f,rfl,g,j⟩:=e;obtain⟨n,t⟩:=Be.of g d;obtain⟨o,u⟩:=lP.of j d;exact⟨n++o,by rw[lP];grind⟩
end
mutual
def lV:Query->dd
 |.mk op ta _ _ _ _ _ _ args=>(if op=1 then[ta]else[])++jY args
def jY:dl->dd
 |[]=>[]
 |q::qs=>lV q++jY qs
end
def B7(es:dz):dd:=(es.filter λe=>e.2.op==1).map λe=>e.2.table
theorem Lr{a b:dz}:B7 (a++b)=B7 a++B7 b:=by simp[B7]
mutual
theorem Be.scans{h:PH}:∀{q:Query}{v:QV}{d:Nat}{es:dz},dR h q v->Be h q v d es->B7 es=lV q
 |.mk op ta _ _ _ _ _ _ args,v,d,es,e,w=>by
  rw[Be]at w;obtain⟨j,c,n,f,rfl⟩:=w;obtain⟨g,o,_⟩:=e;rw[lV, <-lP.scans f,show((d,v)::c)=[(d,v)]++c from rfl,Lr];congr 1;simp only[B7,filter_cons,filter_nil,g]
  grind
theorem lP.scans{h:PH}:∀{c:dl}{vs:ef}{d:Nat}{es:dz},lP h c vs d es->B7 es=jY c
 |[],vs,d,es,w=>by rw[lP]at w;rw[w.2];rfl
 |q::c,vs,d,es,w=>by
  rw[lP]at w;obtain⟨v,e,n,o,t,f,g,j,rfl⟩:=w;rw[Lr,jY,Be.scans f g,lP.scans j]
end
mutual
theorem Be.small{h:PH}:∀{q:Query}{v:QV}{d:Nat}{es:dz},Be h q v d es->es.length<=BT q
 |.mk op ta _ _ _ _ _ _ args,v,d,es,w=>by
  rw[Be]at w;obtain⟨f,c,g,e,rfl⟩:=w;have:=lP.small e;simp only[cq,BT];omega
theorem lP.small{h:PH}:∀{c:dl}{vs:ef}{d:Nat}{es:dz},lP h c vs d es->es.length<=yW c
 |[],vs,d,es,w=>by rw[lP]at w;grind
 |q::c,vs,d,es,w=>by
  rw[lP]at w;obtain⟨v,e,j,n,o,t,f,g,rfl⟩:=w;have u:=Be.small f;have y:=lP.small g;simp only[bz,yW];omega
end
theorem bVQ:∀q:Query,1<=BT q
 |.mk _ _ _ _ _ _ _ _ _=>by rw[BT];omega
theorem adZ:∀l:dl,l.length<=yW l
 |[]=>bf
 |a::l=>by have:=adZ l;have:=bVQ a;simp only[cq,yW];omega
theorem akX:∀{l:dl}{a:Query},a∈l->BT a<=yW l
 |b::l,a,h=>by
  rw[yW];rcases mem_cons.1 h with rfl|h
  .omega
  .have:=akX h;omega
theorem R4:∀N,cu 148 (Um N)
 |0=>by
  refine eR (fn:=Tryz.f148) (c:=cK Tryz.f148) func148 rfl bg ?_;rintro U m h K ⟨v,q,d,l,T,es,xs,J,rfl,_,hN,_⟩;omega
 |N+1=>by
  refine iB func148 ?_;rintro U m h K ⟨v,q,d,l,T,es,xs,J,rfl,hw,hN,hd,hx,h0,f,C⟩;refine⟨aPX N v d l,rfl,aD (R4 N) aF,PK N v d l m h K,be,?_⟩;dsimp only[PK,push_cast];obtain⟨op,ta,w,co,on,gr,od,li,args⟩:=q;rw[Be]at hw;obtain⟨D,E,y,F,rfl⟩:=hw;simp only[Query.mk.sizeOf_spec]at hN;rw[BT]at hd;have a':=F.len;have V:=y.len;have a0:=adZ args;rw[length_map]at V;refine⟨On _,l,bUJ (d,v),_,rfl,f T (d,v) m h (hx 0 _ rfl) (.refl _) h0,?_⟩;rintro u m' h' ⟨rfl,G,hJ⟩;refine aB (λe=>by cases e) (λ_=>?_);refine⟨λz=>z.1<=args.length/\PH.le h z.2.2/\∃B W,E=B++W/\lP z.2.2 (args.drop z.1) (D.drop z.1) (d+1) W/\J (T+1+B.length) z.2.1 z.2.2,λz=>args.length-z.1,⟨(0,m',h'),⟨bf,G,[],E,rfl,F.mono G,hJ⟩,MT⟩,?_⟩;rintro⟨i,mz,hz⟩ ⟨hi,g,B,W,H,n,I⟩;dsimp only at hi g n I⊢
  refine aE (λa1=>?_) (λa2=>?_)
  .have A:i<args.length:=by omega
   rw[drop_eq_getElem_cons A,lP]at n;obtain⟨L,M,O,X,P,a3,Y,Q,rfl⟩:=n
   have a4:D[i]? =some L:=by
    have:(D.drop i)[0]? =some L:=by rw[P];rfl
    grind
   have R:M=D.drop (i+1):=by
    have:(D.drop i).drop 1=M:=by rw[P];rfl
    rw[<-this,drop_drop]
   obtain⟨b,o,ea,rd⟩:=y.get (i:=i) (e:=L.enc) bk;have a5:=sizeOf_lt_of_mem (getElem_mem A);have a6:=akX (getElem_mem A);refine⟨b,o,ea,aC,aC,L,.imm (rd.mono g),L,args[i],d+1,l,T+1+B.length,O,xs,J,by rw[jG aC],Y,aC,aC,λj e hj=>?_,I,λk e Z h2 hk t S=>f k e Z h2 hk (g.trans t) S,λZ h2 t S=>⟨(i+1,Z,h2),⟨aC,g.trans t,B++O,X,bk,?_,?_⟩,aC,?_⟩⟩
   .have h5:=(bt hj)
    have:=hx (1+B.length+j) e (by
     grind)
    grind
   .dsimp only;rw[<-R];exact Q.mono t
   .grind
   .dsimp only;rw[jG aC];exact MT
  .have:i=args.length:=by omega
   subst this;rw[drop_of_length_le (Nat.le_refl _),lP]at n;obtain⟨_,rfl⟩:=n;rw[append_nil]at H;subst H;exact C mz hz g bk
theorem WL:cu 147 (btZ Tryz.prog Ul):=by
 refine iB func147 ?_;rintro o m h K ⟨l,f,xs,J,rfl,⟨b,v,q,g,rfl,t,u,z,rfl⟩,y,c,d⟩;refine⟨dD [(148,Um (SizeOf.sizeOf q+1))] [] [] [] false,rfl,aD (R4 _) aF,Zh (SizeOf.sizeOf q+1) l b m h K,be,?_⟩;exact⟨v,.imm t,v,q,1,l,0,g,g,J,rfl,u,aC,aC,λj e A=>bk,y,λk e m' h' B le n=>c k (bUJ e) m' h' bk le n,λm' h' le n=>d _ m' h' le bk⟩
theorem bBX:IY Tryz.prog 147 Ul:=⟨WL⟩
theorem WY:cu 111 alJ:=by
 refine X7 func111 ?_;rintro g m h K ⟨v,rfl,j⟩;refine⟨dD [] [] [] [] false,rfl,aF,Mh v m h (dE h K),be,?_⟩;dsimp only[Mh,push_cast];intro b m' c d _;have sub:Sub m m':=(kG (Sub.refl m) c d).1;refine⟨m,qE h b (QV.enc v),sub,Dn c.h_,λn i o e=>?_,j b _ (Dn c.h_) aeQ⟩;by_cases f:n=b
 .subst f;simp only[qE,if_true]at e;exact .inr ⟨_,_,_,d.at_,bk,c.m_⟩
 .simp only[qE,if_neg f]at e;exact .inl e
structure aUQ(T E:TypeId)(m mx:MH)(b:Nat)(vs:cv):Prop where
 ex:∃s:Sl,mx b=some (.cells #[.slice s.a s.len s.cap] T (0,0))/\cT mx s E 1 (vs.map λv=>[v])/\∀i x,s.a=some ⟨x,i,none⟩->m x=none
theorem aUQ.new{T E:TypeId}(d:m' b=some (.cells #[tE] T (0,0))):aUQ T E m m' b []:=⟨⟨none,0,0⟩,d,⟨⟨λe c=>by simp at c,λe c=>by simp at c⟩,.inl ⟨rfl,rfl⟩⟩,λi x e=>by cases e⟩
theorem aZJ{T E:TypeId}{t:MH}{s:Sl}{vs:cv}{e:Value}{Q:MH->Prop}(c:∃o,m b=some o)(z:FD m t b)(B:t b=some (.cells #[.slice s.a s.len s.cap] T (0,0)))(A:cT t s E 1 (vs.map λv=>[v]))(C:∀i x,s.a=some ⟨x,i,none⟩->m x=none)(D:∀m',FD m m' b->aUQ T E m m' b (vs++[e])->Q m'):
 ∀(s':Sl)(m':MH),dV t m' (Sl.mk s.a s.len s.cap) s' E 1 ((vs.map λv=>[v])++[[e]])->
  ∃(cs:Array Value)(E:TypeId),CA m' b (.cells cs E (0,0))/\0<cs.size/\∀m2:MH,gR m' m2 b (.cells (Array.mk (eF s'::cs.toList.drop 1)) E (0,0))->Q m2:=by
 obtain⟨L,c⟩:=c;have u:∀i,s.a≠some ⟨b,i,none⟩:=λi d=>bk
 refineλs' m' f=>⟨_,_,⟨f.other b _ B u⟩,bf,λm2 y=>D m2 ?_ ⟨s',y.at_,?_,?_⟩⟩
 .intro x o F g;rw[y.other x g];exact f.other x o (z x o F g) (λi d=>bk)
 .have G:(vs++[e]).map (λv=>[v])=vs.map (λv=>[v])++[[e]]:=bf
  rw[G];refine cT.keep f.row (λx i d=>y.other x (λH=>?_));subst H;rcases f.fresh x i d with n|⟨j,n⟩
  .grind
  grind
 .intro i x d;rcases f.fresh x i d with n|⟨j,n⟩
  .cases I:m x with
   |none=>rfl
   |some o=>
    by_cases J:x=b
    .grind
    .rw[z x o I J]at n;cases n
  grind
theorem dE.rowG{E:TypeId}{hx:PH}{s:Sl}{vs:cv}(sub:Sub m m')(le:PH.le h hx)(B:cT m' s E 1 (vs.map λv=>[v]))(L:∀i b,s.a=some ⟨b,i,none⟩->m b=none)(o:∀h',PH.le hx h'->bX h' s 1 (vs.map λv=>[v])->K (cS s) m h'):dE h K (cS s) m' hx:=by
 intro C;rcases B.ex with⟨rfl,f⟩|⟨b,D,g,rfl,F,M,O,P,t⟩
 .refine⟨m,hx,sub,le,λb i v e=>.inl e,o hx (.refl _) ?_⟩;rw[f];exact bX.nil _ _
 .have y:∀i,hx b i=none:=C b _ F;refine⟨m,qE hx b g.toList,sub,le.trans (Dn y),λG i v e=>?_,o _ (Dn y) ⟨?_,?_,?_⟩⟩
  .by_cases z:G=b
   .subst z;simp only[qE,if_true]at e
    grind
   .simp only[qE,if_neg z]at e;exact .inl e
  .simp
  .by_cases H:vs.map (λv=>[v])=[]
   .exact .inl H
   .refine .inr ⟨b,0,rfl,λi e d=>⟨λj v A=>?_⟩⟩;rw[getElem?_map]at d;cases c:vs[i]? with
    |none=>grind
    |some u=>
     rw[c]at d;simp at d;subst d;have I:j=0:=bk
     subst I;have A:u=v:=bk
     subst A;have J:=(bt c)
     have n:∀l:cv,(l.map λv=>[v]).flatten=l:=λl=>by
      induction l with
      |nil=>rfl
      |cons a l Q=>grind
     rw[n]at t;rw[<-t,getElem?_take,length_map,if_pos aC]at c;simp only[qE,if_true]
     grind
  omega
def bpJ:Vc.Spec:=λc m h K=>∃v q,c=[aQ v]/\dR h q v/\BT q<=900000/\∀d h',PH.le h h'->Ints h' d (lV q)->K (cS d) m h'
theorem aDZ:cu 81 bpJ:=by
 refine KB func81 ?_;rintro a0 m h K ⟨v,q,rfl,hq,hs,hK⟩;refine⟨{rT [(111,alJ)] [] [] [] [200003,200005,1031,0] [] false with elemT:=[3,68]},rfl,aD WY aF,Pp v m h (dE h K),be,?_⟩;show Pp v m h (dE h K);dsimp only[Pp,push_cast];intro b P S y;obtain⟨s1,n1⟩:=kG (Sub.refl m) S y;refine⟨v,rfl,λbw h1 t T=>?_⟩;obtain⟨g,U⟩:=Be.of (hq.mono t) 1;have a1:=U.small;have E:=Be.scans (hq.mono t) U;refine⟨Ul,g.map λe=>((e.1:Int),e.2),λk F V=>V=h1/\FD P F b/\aUQ 31 3 P F b ((B7 (g.take k)).map λn=>.int .i64 n),bBX,⟨bw,v,q,g,rfl,T,U,hs,?_⟩,⟨rfl,λx o e _=>e,aUQ.new y.at_⟩,?_,?_⟩
 .rw[map_map];rfl
 .rintro k d e' F V Q-⟨rfl,A,c⟩ W m2 X G;rw[getElem?_map]at Q;cases H:g[k]? with
  |none=>grind
  |some e=>
   rw[H]at Q;simp only[Option.map_some,ce,Prod.mk.injEq]at Q;obtain⟨rfl,rfl⟩:=Q;refine⟨_,_,⟨G.at_⟩,bf,λR I=>?_⟩
   have up:∀{z o},F z=some o->R z=some o/\z≠W:=fun{z o} B=>by
    have:z≠W:=λY=>by rw[Y,X.m_]at B;cases B
    exact⟨by rw[I.other z this,G.other z this];exact B,this⟩
   have J:R W=some (.cells ⟨e.2.enc⟩ 68 (0,0)):=I.at_;have L:FD P R b:=λx o B Z=>(up (A x o B Z)).1
   have C:aUQ 31 3 P R b ((B7 (g.take k)).map λn=>.int .i64 n):=by
    obtain⟨s,h5,h6,h7⟩:=c.ex;refine⟨s,(up h5).1,cT.keep h6 λz i Y=>?_,h7⟩;obtain⟨a2,h8⟩:=h6.blk Y
    grind
   have a3:B7 (g.take (k+1))=B7 (g.take k)++(if e.2.op==1 then[e.2.table]else[]):=by
    rw[cj,H,Option.toList_some,Lr];congr 1;simp only[B7,filter_cons,filter_nil];split<;>rfl
   refine⟨e.2.op,.of_m J rfl,aB (λh5=>?_) (λh5=>⟨rfl,L,bk⟩)⟩;obtain⟨s,u,f,D⟩:=C.ex
   have M:(B7 (g.take k)).length<=g.length:=by
    simp only[B7,length_map]
    grind
   refine⟨s,.of_m u rfl,e.2.table,.of_m J rfl,_,f,bj,bj,aZJ ⟨_,y.at_⟩ L u f D λm' a' a4=>⟨rfl,a',?_⟩⟩
   grind
 .rintro F V-⟨rfl,A,c⟩
  rw[length_map,take_length,E]at c;obtain⟨s,u,f,D⟩:=c.ex
  have M:(lV q).length<=g.length:=by
   rw[<-E];simp only[B7,length_map]
   grind
  refine⟨s,.of_m u rfl,dE.rowG (s1.x n1 A) t f (λj z e=>?_) (λh' le O=>hK s h' (t.trans le) ⟨by rw[map_map]at O;exact O,aC⟩)⟩;cases B:m z with
  |none=>rfl
  |some o=>have e1:=D j z e;rw[s1 z o B]at e1;cases e1
structure GJ(s:j4)(c:Nat)(ls:List cw)(k:Nat)(ts:dd):Prop where
 at_:∀(j:Nat)(t:Int),ts[j]? =some t->∃l,ls[k+j]? =some l/\kD (dT s t).length l/\l.length<=c
theorem GJ.left{c:Nat}{ls:List cw}{b:dd}(x:GJ s c ls k (a++b)):GJ s c ls k a:=
 ⟨λj t h=>x.at_ j t bk⟩
theorem GJ.right{c:Nat}{ls:List cw}{b:dd}(x:GJ s c ls k (a++b)):GJ s c ls (k+a.length) b:=
 ⟨λj t h=>by
  have:=x.at_ (a.length+j) t bk
  grind⟩
theorem Fp{op:Int}{on:di}{args:dl}{ks:dd}(h:cJ s ps (.mk op ta w co on gr od li args)=(ks,0)):
 ∃c,fX s ps args=(c,0)/\(c.length:Int)=arity op/\kB s ps (.mk op ta w co on gr od li args) (c.getD 0 []) (c.getD 1 [])=(ks,0):=by
 rw[cJ]at h;generalize fX s ps args=r at h;obtain⟨c,e⟩:=r;dsimp only at h;split at h
 .rename_i d;subst d;split at h
  .grind
  .simp[kV]at h
 .rename_i d;simp only[kV,Prod.mk.injEq]at h;omega
theorem oR{e:dl}{d:List dd}(h:fX s ps (q::e)=(d,0)):∃k c,cJ s ps q=(k,0)/\fX s ps e=(c,0)/\d=k::c:=by
 rw[fX]at h
 grind
theorem vR{ks:dd}(h:DK l=(ks,0)):ks=l/\l.length<=12:=by
 unfold DK at h
 grind
theorem ZS{op:Int}(h:arity op=0):op=1:=by
 unfold arity at h
 grind
mutual
theorem Xi{s:j4}{ps:dd}{c:Nat}(f:1<=c):∀{q:Query}{ks:dd},cJ s ps q=(ks,0)->1<=rW c q
 |.mk op ta w co on gr od li args,ks,h=>by
  obtain⟨j,d,g,o⟩:=Fp h;have e:=ZT f d;rw[rW];split
  .exact f
  .rename_i n;split
   .exact e.1
   .match args,d,e with
    |[],d,_=>rw[fX]at d;simp only[Prod.mk.injEq,and_true]at d;rw[<-d]at g;exact absurd (ZS g.symm) n
    |q::qs,d,e=>grind
theorem ZT{s:j4}{ps:dd}{c:Nat}(f:1<=c):∀{e:dl}{d:List dd},fX s ps e=(d,0)->1<=wN c e/\(e≠[]->1<=AM c e)
 |[],d,h=>by simp[wN]
 |q::e,d,h=>by
  obtain⟨k,g,j,n,u⟩:=oR h;have o:=Xi f j;have t:=ZT f n;rw[wN,AM];exact⟨Nat.mul_pos o t.1,λ_=>by omega⟩
end
def Ta(c:Nat):dl->List dd->List cw->Prop
 |[],[],[]=>True
 |q::qs,k::ks,l::ls=>kD k.length l/\l.length<=rW c q/\Ta c qs ks ls
 |_,_,_=>False
theorem TO{α:Type}:∀{l:List α},l.length=2->∃a b,l=[a,b]
 |[a,b],_=>⟨a,b,rfl⟩
theorem Ta.len{c:Nat}{d:dl}{ls:List cw}(h:Ta c d ks ls):d.length=ks.length/\ls.length=ks.length:=by
 induction d generalizing ks ls with
 |nil=>
  match ks,ls,h with
  |[],[],_=>omega
  |_::_,[],h=>exact h.elim
  |[],_::_,h=>exact h.elim
  |_::_,_::_,h=>exact h.elim
 |cons q d e=>
  match ks,ls,h with
  |[],[],h=>exact h.elim
  |_::_,[],h=>exact h.elim
  |[],_::_,h=>exact h.elim
  |k::ks,l::ls,h=>
   obtain⟨f,g⟩:=e h.2.2
   grind
theorem kD.filter{w:Nat}{l:cw}(x:kD w l)(p:de->Bool):kD w (l.filter p):=
 ⟨λr h=>x.row r (mem_filter.1 h).1,λr h=>x.wid r (mem_filter.1 h).1,x.srt.filter p,cr (length_filter_le _ _) x.len⟩
theorem VI(x:de):∀l:cw,(LG x l).length<=l.length+1
 |[]=>by simp[LG]
 |y::l=>by
  have:=VI x l;simp only[LG]
  grind
theorem Ji:∀l:cw,(Ef l).length<=l.length
 |[]=>by simp[Ef]
 |x::l=>by
  have c:=Ji l;have d:=VI x (Ef l);show(LG x (Ef l)).length<=(x::l).length
  grind
theorem kD.set{w:Nat}{l:cw}(c:∀r∈l,UD r)(d:∀r∈l,r.length=w)(e:l.length<=8000000):kD w (Ef l):=
 ⟨λr h=>c r (Jh.1 h),λr h=>d r (Jh.1 h),F7 l,cr (Ji l) e⟩
theorem K3:∀{x y u v:de},x.length=y.length->cN (x++u) (y++v)=if cN x y≠0 then cN x y else cN u v
 |[],[],u,v,_=>by simp[cN]
 |a::x,b::y,u,v,h=>by
  simp only[cq,Nat.add_right_cancel_iff]at h;simp only[cons_append,cN];by_cases e:lQ a b=0
  .simp only[e,ne_eq,not_true_eq_false,if_false];exact K3 h
  .simp[e]
 |[],_::_,_,_,h=>by simp at h
 |_::_,[],_,_,h=>by simp at h
theorem Dl{on:di}{b:cw}{x z:de}(h:z∈rH on b x):∃y∈b,z=x++y:=by
 unfold rH at h
 grind
theorem kD.join{w w':Nat}{a b:cw}{on:di}(d:kD w a)(g:kD w' b)(t:w+w'<=12)(j:a.length*b.length<=8000000):kD (w+w') (a.flatMap (rH on b)):=by
 refine⟨λr h=>?_,λr h=>?_,?_,cr (AS λx _=>Dm) j⟩
 .obtain⟨x,c,h⟩:=mem_flatMap.1 h;obtain⟨y,e,rfl⟩:=Dl h;have A:=d.wid x c;have B:=g.wid y e;refine⟨bk,λv f=>?_⟩;rcases mem_append.1 f with f|f
  .exact(d.row x c).val v f
  .exact(g.row y e).val v f
 .obtain⟨x,c,h⟩:=mem_flatMap.1 h;obtain⟨y,e,rfl⟩:=Dl h;rw[bz,d.wid x c,g.wid y e]
 .refine pairwise_flatMap.2 ⟨λx c=>?_,?_⟩
  .unfold rH;split
   .refine pairwise_map.2 ((g.srt.filter _).imp fun{y z} h=>?_);rw[K3 rfl,if_neg (by rw[gT.2 rfl];simp)];exact h
   .exact List.Pairwise.nil
  .refine d.srt.imp_of_mem fun{x y} c e h z n u o=>?_;obtain⟨C,_,rfl⟩:=Dl n;obtain⟨D,_,rfl⟩:=Dl o;rw[K3 (by rw[d.wid x c,d.wid y e]),if_pos aC];exact h
theorem TU{c:Int}(h:Gt a c=true):0<=c/\c<a.length:=by
 simp only[Gt,cg,cm]at h;exact h
theorem KA{α:Type}{T:List α->α->Prop}{l:List α}(h:Good T l){x:α}(hx:x∈l):∃c,T c x:=by
 obtain⟨i,d,e⟩:=mem_iff_getElem.1 hx;exact⟨_,h i x bk⟩
theorem Js:∀(n:Nat)(l:dd),l.Nodup->(∀x∈l,0<=x/\x<n)->l.length<=n
 |0,[],_,_=>bf
 |0,x::l,_,h=>by have:=h x (mem_cons_self ..);omega
 |n+1,l,c,h=>by
  by_cases e:(n:Int)∈l
  .have f:=Js n (l.erase n) (c.erase _) (λx d=>by
    grind)
   grind
  .have:=Js n l c (λx d=>by
    grind)
   omega
theorem Pn{α:Type}{T:List α->α->Prop}{l:List α}(f:α->Int)(d:∀c x,T c x->f x∉c.map f)(h:Good T l):(l.map f).Nodup:=by
 rw[nodup_iff_pairwise_ne,pairwise_map,pairwise_iff_getElem];intro i j o g n e;refine d _ _ (h j l[j] (bu g)) (mem_map.2 ⟨l[i],?_,e⟩);rw[mem_take_iff_getElem]
 grind
theorem Pm(h:Good (MB a) gr)(j:a.length<=12):jB a.length gr:=by
 have f:∀c∈gr,0<=c/\c<a.length:=λc g=>by obtain⟨_,d⟩:=KA h g;exact TU d.1
 have d:=Pn id (λe x(h:MB a e x)=>br h.2) h;rw[map_id]at d;exact⟨f,by have:=Js _ _ d f;omega⟩
theorem Q9{b:dd}{on:di}(h:Good (zA a b) on)(A:a.length<=12)(B:b.length<=12):jB a.length (nU on)/\jB b.length (iX on):=by
 have n:∀c∈nU on,0<=c/\c<a.length:=λc f=>by
  obtain⟨p,g,rfl⟩:=mem_map.1 f;obtain⟨_,d⟩:=KA h g;exact TU d.1
 have d:∀c∈iX on,0<=c/\c<b.length:=λc f=>by
  obtain⟨p,g,rfl⟩:=mem_map.1 f;obtain⟨_,d⟩:=KA h g;exact TU d.2.1
 have o:(nU on).Nodup:=Pn Prod.fst (λj x(h:zA a b j x) t=>by
  obtain⟨y,u,e⟩:=mem_map.1 t;exact(h.2.2.2 y u).1 e) h
 have z:=Js _ _ o n;exact⟨⟨n,aC⟩,⟨d,by simp only[nU,iX,length_map]at z⊢;omega⟩⟩
theorem Vn{w:Nat}{r:de}(c:UD r)(e:r.length=w)(f:jB w co)(d:co.length<=12):UD (pick r co)/\(pick r co).length=co.length:=
 ⟨⟨by simpa[pick]using d,Jq c bk⟩,by simp[pick]⟩
theorem Jc{c:Nat}{p:Query}:AM c [q,p]=rW c q+rW c p:=by simp[AM]
theorem To{c:Nat}:AM c [q]=rW c q:=by simp[AM]
theorem aZQ{c:Nat}{p:Query}:wN c [q,p]=rW c q*rW c p:=by simp[wN]
theorem bzZ{c:Nat}{op:Int}{on:di}{args:dl}{ks:dd}{t:List dd}{L:List cw}(O:op≠1)
 (M:(t.length:Int)=arity op)(F:∀k∈t,k.length<=12)(f:kB s ps (.mk op ta w co on gr od li args) (t.getD 0 []) (t.getD 1 [])=(ks,0))(D:Ta c args t L)(n:rW c (.mk op ta w co on gr od li args)<=8000000):
 b7J op (.mk op ta w co on gr od li args) L/\kD ks.length (opF op (.mk op ta w co on gr od li args) L)/\(opF op (.mk op ta w co on gr od li args) L).length<=rW c (.mk op ta w co on gr od li args):=by
 rw[rW,if_neg O]at n⊢
 unfold kB at f;dsimp only at f;split at f
 .simp[kV]at f
 have one:arity op=1->∃q k l,args=[q]/\t=[k]/\L=[l]/\kD k.length l/\l.length<=rW c q/\k.length<=12:=λe=>by
  obtain⟨P,Q⟩:=D.len;obtain⟨k,rfl⟩:=length_eq_one_iff.1 (show t.length=1 by omega);obtain⟨q,rfl⟩:=length_eq_one_iff.1 (show args.length=1 by omega);obtain⟨l,rfl⟩:=length_eq_one_iff.1 (show L.length=1 by omega);exact⟨q,k,l,rfl,rfl,rfl,D.1,D.2.1,F k bf⟩
 have two:arity op=2->∃q p k u l A,args=[q,p]/\t=[k,u]/\L=[l,A]/\kD k.length l/\l.length<=rW c q/\kD u.length A/\A.length<=rW c p/\k.length<=12/\u.length<=12:=λe=>by
  obtain⟨P,Q⟩:=D.len;obtain⟨k,u,rfl⟩:=TO (show t.length=2 by omega);obtain⟨q,p,rfl⟩:=TO (show args.length=2 by omega);obtain⟨l,A,rfl⟩:=TO (show L.length=2 by omega);exact⟨q,p,k,u,l,A,rfl,rfl,rfl,D.1,D.2.1,D.2.2.1,D.2.2.2.1,F k bf,F u bf⟩
 have R:op=2\/op=3\/op=9\/op=4\/op=5\/op=6\/op=7\/op=8\/op=10:=by
  have:0<=arity op:=by omega
  unfold arity at this
  grind
 rcases R with rfl|rfl|rfl|rfl|rfl|rfl|rfl|rfl|rfl
 .obtain⟨q,k,l,rfl,rfl,rfl,j,E,B⟩:=one rfl;simp only[show((2:Int)=4)=False by decide,if_false,if_true]at f n⊢
  split at f
  .obtain⟨rfl,_⟩:=vR f;refine⟨⟨bf,λx y=>bk⟩,j.filter _,cr (length_filter_le _ _) ?_⟩;rw[To];exact E
  .rename_i e;simp only[kV,Prod.mk.injEq]at f;omega
 .obtain⟨q,k,l,rfl,rfl,rfl,j,E,B⟩:=one rfl;simp only[show((3:Int)=4)=False by decide,show((3:Int)=2)=False by decide,if_false,if_true]at f n⊢
  split at f
  .rename_i g;obtain⟨rfl,d⟩:=vR f;rw[length_map]at d⊢
   have z:jB k.length co:=⟨λc z=>by obtain⟨_,M⟩:=KA g.2 z;exact TU M,aC⟩
   rw[To]at n⊢
   refine⟨⟨bf,d,_,j,z⟩,kD.set (λr h=>?_) (λr h=>?_) bk,cr (Ji _) bk⟩
   .obtain⟨x,y,rfl⟩:=mem_map.1 h;exact(Vn (j.row x y) (j.wid x y) z d).1
   .obtain⟨x,y,rfl⟩:=mem_map.1 h;exact(Vn (j.row x y) (j.wid x y) z d).2
  .simp[kV]at f
 .obtain⟨q,k,l,rfl,rfl,rfl,j,E,B⟩:=one rfl;simp only[show((9:Int)=4)=False by decide,show((9:Int)=2)=False by decide,show((9:Int)=3)=False by decide,show((9:Int)=5)=False by decide,if_false,if_true]at f n⊢
  split at f
  .rename_i g;obtain⟨rfl,d⟩:=vR f;rw[To]at n⊢
   exact⟨⟨bf,⟨_,j,Pm g.group_ B⟩,g.low⟩,j.filter _,cr (length_filter_le _ _) E⟩
  .simp[kV]at f
 .obtain⟨q,p,k,u,l,A,rfl,rfl,rfl,j,E,o,G,B,C⟩:=two rfl;simp only[show((4:Int)=2)=False by decide,show((4:Int)=3)=False by decide,if_false,if_true]at f n⊢
  split at f
  .rename_i g;obtain⟨rfl,d⟩:=vR f;rw[aZQ]at n⊢
   have z:=Q9 g B C;have I:l.length*A.length<=rW c q*rW c p:=Nat.mul_le_mul E G;rw[bz]at d⊢
   exact⟨⟨⟨bf,_,_,j,o,z.1,z.2⟩,cr I n⟩,j.join o d (cr I n),cr (AS λx _=>Dm) I⟩
  .simp[kV]at f
 .obtain⟨q,p,k,u,l,A,rfl,rfl,rfl,j,E,o,G,B,C⟩:=two rfl;simp only[show((5:Int)=2)=False by decide,show((5:Int)=3)=False by decide,show((5:Int)=4)=False by decide,if_false,if_true]at f n⊢
  split at f
  .rename_i g;obtain⟨rfl,d⟩:=vR f;rw[Jc]at n⊢
   have z:=Q9 g B C;exact⟨⟨bf,_,_,j,o,z.1,z.2⟩,j.filter _,cr (length_filter_le _ _) bk⟩
  .simp[kV]at f
 all_goals
  obtain⟨q,p,k,u,l,A,rfl,rfl,rfl,j,E,o,G,B,C⟩:=two rfl
 .simp only[show((6:Int)=2)=False by decide,show((6:Int)=3)=False by decide,show((6:Int)=4)=False by decide,show((6:Int)=5)=False by decide,show((6:Int)=9)=False by decide,show((6:Int)=10)=False by decide,if_false,if_true]at f n⊢
  split at f
  .rename_i g;have g:k=u:=g;subst g;obtain⟨rfl,d⟩:=vR f;rw[Jc]at n⊢
   have H:(l++A).length<=rW c q+rW c p:=bk
   refine⟨⟨bf,λx y=>bk⟩,kD.set (λr h=>?_) (λr h=>?_) (cr H n),cr (Ji _) H⟩
   .rcases mem_append.1 h with h|h
    .exact j.row r h
    .exact o.row r h
   .rcases mem_append.1 h with h|h
    .exact j.wid r h
    .exact o.wid r h
  .simp[kV]at f
 .simp only[show((7:Int)=2)=False by decide,show((7:Int)=3)=False by decide,show((7:Int)=4)=False by decide,show((7:Int)=5)=False by decide,show((7:Int)=9)=False by decide,show((7:Int)=10)=False by decide,if_false,if_true]at f n⊢
  split at f
  .rename_i g;have g:k=u:=g;subst g;obtain⟨rfl,d⟩:=vR f;rw[Jc]at n⊢
   exact⟨⟨bf,_,λx y=>by simp at y;rcases y with rfl|rfl;exact j;exact o⟩,j.filter _,cr (length_filter_le _ _) bk⟩
  .simp[kV]at f
 .simp only[show((8:Int)=2)=False by decide,show((8:Int)=3)=False by decide,show((8:Int)=4)=False by decide,show((8:Int)=5)=False by decide,show((8:Int)=9)=False by decide,show((8:Int)=10)=False by decide,if_false,if_true]at f n⊢
  split at f
  .rename_i g;have g:k=u:=g;subst g;obtain⟨rfl,d⟩:=vR f;rw[Jc]at n⊢
   exact⟨⟨bf,_,λx y=>by simp at y;rcases y with rfl|rfl;exact j;exact o⟩,j.filter _,cr (length_filter_le _ _) bk⟩
  .simp[kV]at f
 .simp only[show((10:Int)=2)=False by decide,show((10:Int)=3)=False by decide,show((10:Int)=4)=False by decide,show((10:Int)=5)=False by decide,show((10:Int)=9)=False by decide,if_false,if_true]at f n⊢
  split at f
  .rename_i g;obtain⟨g,J⟩:=g;have g:k=u:=g;subst g;obtain⟨rfl,d⟩:=vR f;rw[Jc]at n⊢
   exact⟨⟨bf,_,j,o,Pm J.group_ B⟩,j.filter _,cr (length_filter_le _ _) bk⟩
  .simp[kV]at f
theorem Xh{s:j4}{ps:dd}{c:Nat}(g:1<=c):∀{d:dl}{e:List dd},fX s ps d=(e,0)->∀q∈d,rW c q<=AM c d/\rW c q<=wN c d
 |[],_,_,q,f=>by simp at f
 |p::d,e,h,q,f=>by
  obtain⟨k,j,o,n,y⟩:=oR h;have t:=Xi g o;have u:=(ZT g n).1;rw[AM,wN];rcases mem_cons.1 f with rfl|f
  .exact⟨aC,Nat.le_mul_of_pos_right _ u⟩
  .have:=Xh g n q f;exact⟨aC,cr this.2 (Nat.le_mul_of_pos_left _ t)⟩
theorem Pg{s:j4}{ps:dd}:∀{e:dl}{c:List dd},fX s ps e=(c,0)->∀k∈c,k.length<=12
 |[],c,h,k,d=>by rw[fX]at h;grind
 |q::e,c,h,k,d=>by
  obtain⟨j,f,n,g,rfl⟩:=oR h;rcases mem_cons.1 d with rfl|d
  .have:=Fo s ps q;grind
  .exact Pg g k d
structure cnQ(c:Nat)(ls:List cw)(q:Query)(k:Nat)(ks:dd):Prop where
 ok:okQ ls q k
 rel:kD ks.length (lT ls q k).1
 bnd:(lT ls q k).1.length<=rW c q
 nxt:(lT ls q k).2=k+(lV q).length
mutual
theorem W2{s:j4}{ps:dd}{c:Nat}{ls:List cw}(o:1<=c):∀{q:Query}{ks:dd}{k:Nat},cJ s ps q=(ks,0)->GJ s c ls k (lV q)->rW c q<=8000000->cnQ c ls q k ks
 |.mk op ta w co on gr od li args,ks,k,h,f,t=>by
  obtain⟨A,g,u,d⟩:=Fp h;by_cases e:op=1
  .subst e
   have B:args=[]:=by
    cases args with
    |nil=>rfl
    |cons q F=>obtain⟨_,_,_,_,rfl⟩:=oR g;simp[arity]at u;omega
   subst B;have j:lV (.mk 1 ta w co on gr od li [])=[ta]:=by simp[lV,jY]
   unfold kB at d;dsimp only at d;split at d
   .simp[kV]at d
   try rw[if_pos rfl]at d
   split at d
   .obtain⟨rfl,_⟩:=vR d;rw[j]at f;obtain⟨l,y,G,C⟩:=f.at_ 0 ta rfl;rw[Nat.add_zero]at y;have z:(lT ls (.mk 1 ta w co on gr od li []) k)=(l,k+1):=by rw[lT,if_pos rfl,getD_eq_getElem?_getD,y];rfl
    refine⟨by rw[okQ,if_pos rfl];grind,bk,by rw[z,rW,if_pos rfl];exact C,bk⟩
   .simp[kV]at d
  .have j:lV (.mk op ta w co on gr od li args)=jY args:=by simp[lV,e]
   rw[j]at f
   have n:∀q∈args,rW c q<=8000000:=λq D=>by
    have H:=Xh o g q D;rw[rW,if_neg e]at t
    grind
   obtain⟨I,E,J⟩:=SF o g f n;obtain⟨L,M,O⟩:=bzZ e u (Pg g) d E t;have z:lT ls (.mk op ta w co on gr od li args) k=(opF op (.mk op ta w co on gr od li args) (gM ls args k).1,(gM ls args k).2):=by rw[lT,if_neg e]
   exact⟨by rw[okQ,if_neg e];grind,bk,bk,bk⟩
theorem SF{s:j4}{ps:dd}{c:Nat}{ls:List cw}(n:1<=c):∀{d:dl}{e:List dd}{k:Nat},fX s ps d=(e,0)->GJ s c ls k (jY d)->(∀q∈d,rW c q<=8000000)->Vs ls d k/\Ta c d e (gM ls d k).1/\(gM ls d k).2=k+(jY d).length
 |[],e,k,h,_,_=>by
  rw[fX]at h;simp only[Prod.mk.injEq,and_true]at h;subst h;simp[Vs,gM,Ta,jY]
 |q::d,e,k,h,j,o=>by
  obtain⟨A,t,u,y,rfl⟩:=oR h;rw[jY]at j;have f:=W2 n u j.left (o q (mem_cons_self ..));have g:=SF n y j.right (λp z=>o p (mem_cons_of_mem _ z));rw[<-f.nxt]at g;rw[Vs,gM,jY];refine⟨⟨f.ok,g.1⟩,⟨f.rel,f.bnd,g.2.1⟩,?_⟩;rw[g.2.2,f.nxt,bz];omega
end
structure Bf(m:MH)(tb:Nat)(ws:List bR):Prop where
 ex:∃cur:Array Value,m tb=some (.cells cur 74 (0,0))/\cur.toList.take (ws.length*5)=(ws.map bR.enc).flatten
def aqZ:Vc.Spec:=λd m h K=>∃e g n f j w c,∃t:Nat,d=[aS ⟨e,⟨some ⟨g,0,none⟩,n,f⟩⟩,cI t]/\t<n/\Bf m g j/\j[t]? =some w/\FZ h w.columns c/\c.length<=8/\
 ∀o h',PH.le h h'->Ints h' o (c.map lD.kind)->K (cS o) m h'
noncomputable def bNX(cb:Nat):Ctx:=
 rT [(13,FY),(20,Il),(51,arJ),(29,aqZ),(52,Cx)] [] [(5,{A:=Int×Int×MH×PH,st:=λ⟨n,id,m,h⟩=>bU 86 87 [(0,pv cb),(2,.at (.ptr 2 0)),(3,iv n),(4,iv id)] [(2,.cells 29 [.val (.int .i64 0),.val (.slice none 0 0)])] m h}),
  (9,{A:=Int×bJ×MH×PH,st:=λ⟨n,s,m,h⟩=>bU 86 87 [(0,pv cb),(2,.at (.ptr 2 0)),(3,iv n),(5,.at (.ptr 5 0))] [(2,.cells 29 [.val (.int .i64 0),.val (.slice none 0 0)]),(5,.cells 29 (s.enc.map .val))] m h}),
  (11,{A:=Int×bJ×MH×PH,st:=λ⟨n,s,m,h⟩=>bU 86 87 [(0,pv cb),(2,.at (.ptr 2 0)),(3,iv n),(5,.at (.ptr 5 0))] [(2,.cells 29 [.val (.int .i64 0),.val (.slice none 0 0)]),(5,.cells 29 (s.enc.map .val))] m h}),
  (13,{A:=bJ×MH×PH,st:=λ⟨s,m,h⟩=>bU 86 87 [(0,pv cb),(2,.at (.ptr 2 0)),(5,.at (.ptr 5 0))] [(2,.cells 29 [.val (.int .i64 0),.val (.slice none 0 0)]),(5,.cells 29 (s.enc.map .val))] m h}),
  (15,{A:=bJ×MH×PH,st:=λ⟨s,m,h⟩=>bU 86 87 [(2,.at (.ptr 2 0)),(5,.at (.ptr 5 0))] [(2,.cells 29 [.val (.int .i64 0),.val (.slice none 0 0)]),(5,.cells 29 (s.enc.map .val))] m h})] [] [27] [] false
def tZ(id:Int):List sZ:=
 [⟨⟨⟨[112,114,111,106,101,99,116,115]⟩⟩,[⟨⟨⟨[105,100]⟩⟩,4⟩,⟨⟨⟨[111,119,110,101,114]⟩⟩,4⟩],1,[],[]⟩,
  ⟨⟨⟨[116,97,115,107,115]⟩⟩,[⟨⟨⟨[105,100]⟩⟩,id⟩,⟨⟨⟨[112,114,111,106,101,99,116]⟩⟩,4⟩,⟨⟨⟨[116,105,116,108,101]⟩⟩,5⟩,⟨⟨⟨[100,111,110,101]⟩⟩,3⟩],1,[],[]⟩,
  ⟨⟨⟨[109,101,109,98,101,114,115]⟩⟩,[⟨⟨⟨[112,114,111,106,101,99,116]⟩⟩,4⟩,⟨⟨⟨[112,101,114,115,111,110]⟩⟩,4⟩],2,[],[]⟩,
  ⟨⟨⟨[97,114,99,104,105,118,101,100]⟩⟩,[⟨⟨⟨[116,97,115,107]⟩⟩,id⟩],1,[],[]⟩]
structure Oj(h:PH)(t:sZ)(w:bR):Prop where
 name_:w.name=t.name
 key_:w.key=t.key
 cols_:FZ h w.columns t.columns
def ZW(h:PH)(id:Int)(ws:List bR):Prop:=ws.length=4/\∀(i:Nat) t,(tZ id)[i]? =some t->∃w,ws[i]? =some w/\Oj h t w
structure Du(m0:MH)(h0:PH)(cb:Nat)(tb n:Nat)(id:Int)(ws:List bR)(s:bJ)(m:MH)(h:PH):Prop where
 le_:PH.le h0 h
 ver0:0<=s.version
 ver1:s.version<=2
 case_:aL m h cb
 n2:2<=n
 n4:n<=4
 sl_:∃cap,s.tables=⟨some ⟨tb,0,none⟩,n,cap⟩/\n<=cap
 id_:id=4\/id=5
 new_:m0 tb=none
 ne_:tb≠cb
 row_:Bf m tb ws
 ws_:ZW h id ws
 other_:∀b,b≠cb->b≠tb->m b=m0 b
def anX:Vc.Spec:=λc m h K=>∃cb,c=[cP cb]/\aL m h cb/\∀d n id e s m' h',Du m h cb d n id e s m' h'->K (aS s) m' h'
noncomputable def caZ:Ctx:=
 rT [(25,anX)] [(3,{A:=Nat×bJ×MH×PH,st:=λ⟨i,s,m,h⟩=>bU 25 26 [(2,.at (.ptr 2 0)),(3,.at (.ptr 3 0)),(9,iv s.tables.len),(10,iv i)] [(2,.cells 29 [.val (.int .i64 0),.val (.slice none 0 0)]),(3,.cells 29 (s.enc.map .val))] m h})] [] [] [27] [] false
def LP(v:bJ)(t:Int)(m:MH)(h:PH)(K:dc):Prop:=
  aY t 0 (K CE m h) (mE t (gY v) K CE m h (NQ v t m h (λo=>o) (λy I x=>aA (I x) (eL 32) (aA (aX y (oB x)) (cD y (oB x)) (aA (bE x.1) (uE (rF x)) (aA (m=m) (h=h) True)))) (λI d x=>NP (I x) x (λb o y=>aJ m h b (bB o x.1 2) (qT y.name y.kind)) (λy c=>aA (I c) (d c<d x) (aA (eL 32) (aX (oB x) (oB c)) (aA (cD (oB x) (oB c)) (fJ (aW x.1 1)=bY c.1) (aA (uF (rF x) y.kind (rF c)) (m=m) (dH h h))))) (bQ h 1 (rF x) (λs e=>K (mL s) m e)))))
theorem bMX(v:bJ)(t:Int)(m:MH)(h:PH)(K:dc):LP v t m h K=(tM (T5 m h) Tryz.f29 (cK Tryz.f29) (entry Tryz.f29.ntmps [aS v,cI t] m h) K):=be
abbrev qX:Prop:=eQ (oQ 29 (fZ dA BV))
noncomputable abbrev NY:ByteArray:=ByteArray.mk (Array.mk (dW 105 (dW 100 [])))
noncomputable abbrev TE(a:Sl)(b:Int):cv:=bH (Value.string (ByteArray.mk (Array.mk (dW 116 (dW 97 (dW 115 (dW 107 (Cf 115)))))))) (eF a) (bH (cV b) tE iT)
noncomputable abbrev u0(a:Int×bJ×MH×PH):bJ:=a.2.1
noncomputable abbrev kW(a:Int×bJ×MH×PH):MH×PH:=a.2.2
attribute [push_cast] qX NY TE u0 kW
def Wy(cb:Nat)(m:MH)(h:PH)(K:dc):Prop:=
  fU cb 3 m h (λk O=>∃(I:Int×Int×MH×PH->Prop),kT cb 5 O h (λc r=>∀(E:MH),aR (aT O E c) (aL E h c) (branch r (∃(x:Int×Int×MH×PH),aA (I x) (bZ cb) (aA (eP 2) (bV (eE (2+k)) x.1) (aA (bV 5 x.2.1) qX (aA (iD E x.2.2) (fI h x.2.2) True)))) (∃(x:Int×Int×MH×PH),aA (I x) (bZ cb) (aA (eP 2) (bV (eE (2+k)) x.1) (aA (bV 4 x.2.1) qX (aA (iD E x.2.2) (fI h x.2.2) True))))))/\∀(x:Int×Int×MH×PH),I x->fU cb 3 x.2.2.1 x.2.2.2 (λP E=>∃(n:ByteArray)(Q:Int),cO (gZ NY) 4=cO (gZ n) Q/\∃(R:ByteArray)(S:Int),cO (gZ (ByteArray.mk (Array.mk (dW 111 (dW 119 (dW 110 (dW 101 (Cf 114)))))))) 4=cO (gZ R) S/\∃(T:ByteArray)(U:Int),cO (gZ NY) x.2.1=cO
 (gZ T) U/\∃(V:ByteArray)(W:Int),cO (gZ (ByteArray.mk (Array.mk (dW 112 (dW 114 (dW 111 (dW 106 (dW 101 (dW 99 (Cf 116)))))))))) 4=cO (gZ V) W/\∃(X:ByteArray)(Y:Int),cO (gZ (ByteArray.mk (Array.mk (dW 116 (dW 105 (dW 116 (dW 108 (Cf 101)))))))) 5=cO (gZ X) Y/\∃(Z:ByteArray)(k7:Int),cO (gZ (ByteArray.mk (Array.mk (dW 100 (dW 111 (dW 110 (dW 101 []))))))) 3=cO (gZ Z) k7/\∃(n6:ByteArray)(k8:Int),cO (gZ (ByteArray.mk (Array.mk (dW 112 (dW 114 (dW 111 (dW 106 (dW 101 (dW 99 (Cf 116)))))))))) 4=cO (gZ n6) k8/\∃(n7:ByteArray)(k9:Int),cO (gZ (ByteArray.mk (Array.mk (dW 112 (dW 101 (dW 114 (dW 115 (dW 111 (dW 110 []))))))))) 4=cO (gZ n7) k9/\∃(n8:ByteArray)(a:
 Int),cO (gZ (ByteArray.mk (Array.mk (dW 116 (dW 97 (dW 115 (dW 107 []))))))) x.2.1=cO (gZ n8) a/\bQ x.2.2.2 2 (qT n Q::fV (qT R S)) (λs h1=>bQ h1 2 (qT T U::qT V W::qT X Y::fV (qT Z k7)) (λs1 h2=>bQ h2 2 (qT n6 k8::fV (qT n7 k9)) (λs2 h3=>bQ h3 2 (fV (qT n8 a)) (λs3 F=>Cc (λD H=>rK E H F D 74 5 (bH (Value.string (ByteArray.mk (Array.mk (dW 112 (dW 114 (dW 111 (dW 106 (dW 101 (dW 99 (dW 116 (dW 115 []))))))))))) (eF s) (bH (cV 1) tE iT)::TE s1 1::bH (Value.string (ByteArray.mk (Array.mk (dW 109 (dW 101 (dW 109 (dW 98 (dW 101 (dW 114 (Cf 115)))))))))) (eF s2) (bH (cV 2) tE iT)::fV (bH (Value.string (ByteArray.mk (Array.mk (dW 97 (dW 114 (dW 99
 (dW 104 (dW 105 (dW 118 (dW 101 (dW 100 []))))))))))) (eF s3) (bH (cV 1) tE iT)))->aA (dG x.1) (uN x.1 D) (∃(I1:Int×bJ×MH×PH->Prop),kT cb 2 H F (λc r=>∀(j:MH),aR (aT H j c) (aL j F c) (branch r (bQ F 1 (fV (bG 1)) (λB y=>bD (λb o=>aI (bF D.a b o) ((0:Int)<=1) (1<(↑x.1.toNat:Int)) (bQ y 2 (fV (Cb B 0)) (λC z=>pK j b (o+5+3) (aM C) (λA=>∃(f:Int×bJ×MH×PH),aA (I1 f) (bZ cb) (aA (eP 2) (bV x.1 f.1) (aA bS qX (aA (oQ 29 (fZ (iN P) (At.val (Value.slice D.a x.1.toNat D.cap)))=iP (u0 f)) (iD A (kW f)) (eA z (kW f))))))))))) (∃(f:Int×bJ×MH×PH),aA (I1 f) (bZ cb) (aA (eP 2) (bV x.1 f.1) (aA bS qX (aA (oQ 29 (fZ (iN P)
 (At.val (Value.slice D.a x.1.toNat D.cap)))=iP (u0 f)) (iD j (kW f)) (eA F (kW f))))))))/\∀(f:Int×bJ×MH×PH),I1 f->∃(I2:Int×bJ×MH×PH->Prop),kK f.1 2 (kT cb 3 (kW f).1 (kW f).2 (λc r=>∀(j:MH),aR (aT (kW f).1 j c) (aL j (kW f).2 c) (branch r (bQ (kW f).2 1 (fV (bG 0)) (λB y=>bD (λb o=>aI (bF (mD (u0 f)) b o) ((0:Int)<=2) (2<aG (u0 f).tables) (bQ y 2 (fV (Cb B 0)) (λC z=>pK j b (o+10+3) (aM C) (λA=>∃(e:Int×bJ×MH×PH),aA (I2 e) (bZ cb) (aA (eP 2) (bV f.1 e.1) (aA bS qX (aA (iP (u0 f)=iP (u0 e)) (iD A (kW e)) (eA z (kW e))))))))))) (∃(e:Int×bJ×MH×PH),aA (I2 e) (bZ cb) (aA (eP 2)
 (bV f.1 e.1) (aA bS qX (aA (iP (u0 f)=iP (u0 e)) (iD j (kW e)) (eA (kW f).2 (kW e))))))))) (∃(e:Int×bJ×MH×PH),aA (I2 e) (bZ cb) (aA (eP 2) (bV f.1 e.1) (aA bS qX (aA (iP (u0 f)=iP (u0 e)) (iD (kW f).1 (kW e)) (eA (kW f).2 (kW e))))))/\∀(e:Int×bJ×MH×PH),I2 e->∃(I3:bJ×MH×PH->Prop),kK e.1 3 (kT cb 3 (kW e).1 (kW e).2 (λc r=>∀(j:MH),aR (aT (kW e).1 j c) (aL j (kW e).2 c) (branch r (bQ (kW e).2 1 (fV (bG 0)) (λB y=>bD (λb o=>aI (bF (mD (u0 e)) b o) ((0:Int)<=3) (3<aG (u0 e).tables) (bQ y 2 (fV (Cb B 1)) (λC z=>pK j b (o+15+3) (aM C) (λA=>∃(g:bJ×MH×PH),aA (I3
 g) (bZ cb) (aA (eP 2) bS (aA qX (iP (u0 e)=iP g.1) (aA (iD A g.2) (fI z g.2) True))))))))) (∃(g:bJ×MH×PH),aA (I3 g) (bZ cb) (aA (eP 2) bS (aA qX (iP (u0 e)=iP g.1) (aA (iD j g.2) (fI (kW e).2 g.2) True))))))) (∃(g:bJ×MH×PH),aA (I3 g) (bZ cb) (aA (eP 2) bS (aA qX (iP (u0 e)=iP g.1) (aA (iD (kW e).1 g.2) (fI (kW e).2 g.2) True))))/\∀(g:bJ×MH×PH),I3 g->∃(I4:bJ×MH×PH->Prop),kT cb 3 g.2.1 g.2.2 (λc r=>∀(j:MH),aR (aT g.2.1 j c) (aL j g.2.2 c) (branch r (∃(v:Int),bD (λt n9=>∃(c1:Nat)(w:List bR)(w1:bR)(J:List lD)(L:Nat),aA (cO (gL g.1) 1=cO (nS (zE v (Value.slice (sT t) n9 c1))) (↑L:Int)) (L<n9) (aA
 (Bf j t w) (w[L]? =Option.some w1) (aA (FZ g.2.2 w1.columns J) (J.length<=8) (lE (λB y=>cR g.2.2 y (Ints y B (List.map lD.kind J)) (∃(G:Nat),yH (λC t2 M p d=>aA (cZ cb (cQ B (cO CE 1))=cZ G (cQ C (eJ t2 (↑d:Int)))) (aL j y G) (aA (Ints y C M) (Ints y t2 p) (aI (gJ M) (gJ p) (jV d) (Cd (λv1 p1=>eZ (λA z=>cR y z (eX z p1 v1) (aR (wX M p d p1) (aT j A G) (iS A z G (bD (λb o=>aI (bF (mD g.1) b o) ((0:Int)<=1) (1<aG g.1.tables) (bQ z 13 (fV v1.enc) (λs7 h7=>pK A b (o+5+4) (aM s7) (λm6=>∃(u:bJ×MH×PH),aA (I4 u) gV (aA bS qX (aI (iP g.1=iP u.1) (iD m6 u.2) (fI h7 u.2) True)))))))))))))))))))))) (∃(u:bJ×MH×PH),aA
 (I4 u) gV (aA bS qX (aI (iP g.1=iP u.1) (iD j u.2) (fI g.2.2 u.2) True)))))/\∀(u:bJ×MH×PH),I4 u->K (gL u.1) u.2.1 u.2.2))))))))
def T4(cb:Nat)(m:MH)(h:PH)(K:dc):Prop:=
  ∃(c:Nat),aA (eW (F1 cb 0) (F1 c 0)) (aL m h c) (∀(t n:Nat)(i:Int)(w:List bR)(s:bJ),eZ (λe f=>Du m h c t n i w s e f->∃(I:Nat×bJ×MH×PH->Prop)(g:Nat×bJ×MH×PH->Nat),(∃(x:Nat×bJ×MH×PH),aA (I x) gV (aA (eP 3) (cD s.tables x.2.1.tables) (aA (bE x.1) qX (aA (iP s=iP x.2.1) (iD e x.2.2) (eA f x.2.2)))))/\∀(x:Nat×bJ×MH×PH),I x->aY (↑x.1:Int) (aG x.2.1.tables) (bD (λb o=>aI (bF (mD x.2.1) b o) (0<=(↑x.1:Int)) ((↑x.1:Int)<aG x.2.1.tables) (pK x.2.2.1 b (bB o x.1 5+3) iT (λy=>bD (λj u=>aI (bF (mD x.2.1) j u) (0<=(↑x.1:Int)) ((↑x.1:Int)<aG x.2.1.tables) (pK y j (bB u x.1 5+4) iT (λz=>∃(d:Nat×bJ×MH×PH),aA (I d) (g d<g x)
 (aA gV fW (aA (cD x.2.1.tables d.2.1.tables) (fJ (aW x.1 1)=bY d.1) (aA qX (iP x.2.1=iP d.2.1) (fM z d.2.2 x.2.2.2))))))))))) (K (gL x.2.1) x.2.2.1 x.2.2.2)))
theorem XI{α:Type}(l:List α)(o:Nat)(x:α)(h:o<l.length):splice l o [x]=l.set o x:=by
 rw[set_eq_take_append_cons_drop,if_pos h];simp[splice]
theorem flatten_set:∀(ws:List bR){i k:Nat}{w w':bR}{x:Value},ws[i]? =some w->k<5->w'.enc=w.enc.set k x->((ws.map bR.enc).flatten).set (i*5+k) x=((ws.set i w').map bR.enc).flatten
 |[],i,k,w,w',x,h,_,_=>by simp at h
 |u::ws,0,k,w,w',x,h,c,e=>by
  simp at h;subst h;simp only[map_cons,flatten_cons,set_cons_zero,Nat.zero_mul,Nat.zero_add,e];rw[set_append_left _ _ (by simpa[bR.enc]using c)]
 |u::ws,i+1,k,w,w',x,h,c,e=>by
  simp only[map_cons,flatten_cons,set_cons_succ];have d:u.enc.length=5:=rfl;rw[set_append_right _ _ aC,d,show(i+1)*5+k-5=i*5+k by omega,flatten_set ws (br h) c e]
theorem a4X(ws:List bR):((ws.map bR.enc).flatten).length=ws.length*5:=by
 induction ws with
 |nil=>rfl
 |cons w ws c=>simp only[map_cons,flatten_cons,bz,c,cq];show 5+_=_;omega
theorem Bf.big{tb:Nat}{ws:List bR}{cs:Array Value}{E:TypeId}{d:Nat×Nat}(h:Bf m tb ws)(c:m tb=some (.cells cs E d)):ws.length*5<=cs.size:=by
 obtain⟨e,f,g⟩:=h.ex;rw[f]at c;simp only[ce,Obj.cells.injEq]at c;obtain⟨rfl,_,_⟩:=c;have:=congrArg List.length g;rw[a4X]at this
 grind
theorem Bf.store{tb:Nat}{ws:List bR}{w w':bR}{x:Value}(h:Bf m tb ws)(d:ws[i]? =some w)(f:k<5)(e:w'.enc=w.enc.set k x){cs:Array Value}{E:TypeId}{g:Nat×Nat}(c:m tb=some (.cells cs E g))
 (j:m' tb=some (.cells (splice cs.toList (i*5+k) [x]).toArray E (0,0))):Bf m' tb (ws.set i w'):=by
 have y:=h.big c;have n:=(bt d);obtain⟨o,t,u⟩:=h.ex;rw[t]at c;simp only[ce,Obj.cells.injEq]at c;obtain⟨rfl,rfl,_⟩:=c;refine⟨_,j,?_⟩;rw[XI _ _ _ bj,length_set,toList_toArray,take_set,u];exact flatten_set ws d f e
theorem Bf.rd{tb:Nat}{ws:List bR}(r:Bf m tb ws){j:Nat}{w:bR}{x:Value}(d:ws[i]? =some w)(f:w.enc[j]? =some x):aJ m h tb (i*5+j) [x]:=by
 obtain⟨g,n,o⟩:=r.ex;refine .of_m n ?_;have c:=oU (xs:=ws.map bR.enc) (sz:=5) (λe t=>by obtain⟨x,_,rfl⟩:=mem_map.1 t;rfl) (by rw[getElem?_map,d];rfl) j x f;rw[<-o,getElem?_take]at c;split at c
 .rw[drop_cons c];rfl
 .cases c
theorem bMZ{g:Int}{tb n cap:Nat}{ws:List bR}{w:bR}{cols:List lD}{t:Nat}(G:t<n)(A:Bf m tb ws)(B:ws[t]? =some w)(y:FZ h w.columns cols)(H:cols.length<=8)
 (C:∀sl h',PH.le h h'->Ints h' sl (cols.map lD.kind)->K (cS sl) m h'):LP ⟨g,⟨some ⟨tb,0,none⟩,n,cap⟩⟩ t m h K:=by
 dsimp only[LP,push_cast];have j:=bC.slen y;refine aE (λD=>by omega) (λD=>aE (λE=>bk) (λE=>?_));refine⟨tb,0,rfl,aC,aC,w.columns,?_,λ⟨i,sl,l⟩=>sl=w.columns/\i<=cols.length/\l=(cols.take i).map lD.kind,λ⟨i,_,_⟩=>cols.length-i,⟨(0,w.columns,[]),⟨rfl,bf,bf⟩,MT⟩,?_⟩
 .rw[Nat.zero_add,Int.toNat_natCast];exact A.rd B rfl
 rintro⟨i,_,_⟩ ⟨rfl,I,rfl⟩;dsimp only;refine aE (λf=>?_) (λF sl h' u d=>?_)
 .obtain⟨c,z⟩:=eO j f;obtain⟨b,o,e,r⟩:=FZ.at y z;refine⟨b,o,e,aC,f,c,.imm r,?_,?_,(i+1,w.columns,(cols.take (i+1)).map lD.kind),⟨rfl,aC,rfl⟩,aC,?_⟩
  .simp;omega
  .simp;omega
  .rw[iE z,cd];exact MT
 .rw[ca aC]at d;exact C sl h' u ⟨d,bj⟩
theorem Yb:cu 29 aqZ:=by
 refine eR (fn:=Tryz.f29) (c:=cK Tryz.f29) func29 rfl bg ?_;rintro e m h K ⟨f,B,n,g,C,w,d,t,rfl,j,o,u,y,z,A⟩;refine⟨T5 m h,rfl,aF,?_⟩;rw[<-bMX];exact bMZ j o u y z A
theorem Oj.mono{t:sZ}{w:bR}(x:Oj h t w)(le:PH.le h h'):Oj h' t w:=⟨x.name_,x.key_,bC.mono x.cols_ le λ_ _ e=>e⟩
theorem ZW.mono{id:Int}{ws:List bR}(x:ZW h id ws)(le:PH.le h h'):ZW h' id ws:=⟨x.1,λi t e=>let⟨w,e1,e2⟩:=x.2 i t e;⟨w,e1,e2.mono le⟩⟩
theorem ZW.set{id:Int}{ws:List bR}{w w':bR}(x:ZW h id ws)(f:ws[i]? =some w)(g:w'.name=w.name)(n:w'.key=w.key)(o:w'.columns=w.columns):ZW h id (ws.set i w'):=by
 refine⟨by rw[length_set];exact x.1,λj t e=>?_⟩;obtain⟨u,d,c⟩:=x.2 j t e;by_cases y:i=j
 .subst y;rw[f]at d;cases d;exact⟨w',bk,⟨by rw[g];exact c.name_,by rw[n];exact c.key_,by rw[o];exact c.cols_⟩⟩
 grind
theorem Du.on{m0 c:MH}{f d:PH}{tb n:Nat}{id:Int}{ws:List bR}{s:bJ}(x:Du m0 f cb tb n id ws s m h)(le:PH.le h d)(g:aT m c cb)(o:aL c d cb):Du m0 f cb tb n id ws s c d:=by
 refine⟨x.le_.trans le,x.ver0,x.ver1,o,x.n2,x.n4,x.sl_,x.id_,x.new_,x.ne_,?_,x.ws_.mono le,λb j t=>by rw[g.other b j];exact x.other_ b j t⟩;obtain⟨e,u,y⟩:=x.row_.ex;exact⟨e,by rw[g.other tb x.ne_];exact u,y⟩
theorem Du.store{m0:MH}{j:PH}{tb n:Nat}{id:Int}{ws:List bR}{s:bJ}(x:Du m0 j cb tb n id ws s m h){o:Nat}{w w':bR}{y:Value}(c:ws[i]? =some w)(u:k<5)(z:o=i*5+k)(e:w'.enc=w.enc.set k y)(A:w'.name=w.name)(B:w'.key=w.key)(C:w'.columns=w.columns){Q:MH->Prop}
 (D:∀m2,Du m0 j cb tb n id (ws.set i w') s m2 h->Q m2):∃(cs:Array Value)(E:TypeId),CA m tb (.cells cs E (0,0))/\o<cs.size/\∀m2:MH,gR m m2 tb (.cells (splice cs.toList o [y]).toArray E (0,0))->Q m2:=by
 obtain⟨d,f,J⟩:=x.row_.ex;have F:=(bt c);refine⟨d,74,⟨f⟩,by have:=x.row_.big f;omega,λm2 g=>D m2 ?_⟩;subst z;refine⟨x.le_,x.ver0,x.ver1,?_,x.n2,x.n4,x.sl_,x.id_,x.new_,x.ne_,x.row_.store c u e f g.at_,x.ws_.set c A B C,λb G t=>by rw[g.other b t];exact x.other_ b G t⟩;obtain⟨r,q,cs,k,H,I⟩:=x.case_;exact⟨r,q,cs,k,by rw[g.other cb x.ne_.symm];exact H,I⟩
theorem KX{h:PH}{s:Sl}{l:List lD}(r:bX h s 2 (l.map lD.enc))(c:l.length<=8):FZ h s l:=⟨⟨l,r,rfl,λi x e=>⟨x,e,rfl⟩⟩,aC⟩
theorem rK.tabs{m m':MH}{h:PH}{s:Sl}{w:bR}{ws:List bR}(x:rK m m' h s 74 5 ((w::ws).map bR.enc)):∃tb cap,s=⟨some ⟨tb,0,none⟩,ws.length+1,cap⟩/\ws.length+1<=cap/\Bf m' tb (w::ws)/\dL m h tb/\∀b,b≠tb->m' b=m b:=by
 rcases x.row.ex with⟨_,e⟩|⟨b,cap,d,e,f,g,_,j,n⟩
 .cases e
 .subst e;refine⟨b,cap,bf,bk,⟨d,f,bk⟩,x.fresh b 0 rfl,λc o=>x.other c (λi e=>bk)⟩
theorem aKX:cu 25 anX:=by
 refine iB func25 ?_;rintro a7 m h K ⟨cb,rfl,hc,hK⟩;refine⟨bNX cb,rfl,aD FU (aD uU (aD aw (aD Yb (aD aa aF)))),Wy cb m h K,be,?_⟩;dsimp only[Wy,push_cast];refine⟨cb,3,rfl,hc,λk m1 k0 k1 S c1=>?_⟩;have a0:IntKind.i64.wrap (2+k)=2+k:=dO aC aC;rw[a0];refine⟨λ⟨n,id,E,J⟩=>2<=n/\n<=4/\(id=4\/id=5)/\J=h/\aT m E cb/\aL E h cb,⟨cb,5,rfl,aC,aC,c1,λr m2 o2 c2=>aB (λ_=>⟨(2+k,5,m2,h),⟨aC,aC,.inr rfl,rfl,S.trans o2,c2⟩,MT⟩) (λ_=>⟨(2+k,4,m2,h),⟨aC,aC,.inl rfl,rfl,S.trans o2,c2⟩,MT⟩)⟩,?_⟩;clear S c1 m1 a0 k0 k1 k;rintro⟨n,id,m1,J⟩ ⟨n2,n4,a4,rfl,S,c1⟩;dsimp only;refine⟨cb,3,rfl,c1,λk m2 k0 k1 o2 c2=>?_⟩;refine⟨_,_,rfl,_,_,rfl,_,_,rfl,_,_,rfl,_,_,rfl,_,_,rfl,_,_,rfl,_,_,rfl,_,_,rfl,λs1 h1 a1 r1 s2 h2 T r2 s3 h3 F r3 s4 h4 z r4 tl m3 L=>?_⟩;obtain⟨d,f,rfl,M,O,U,P⟩:=rK.tabs (w:=⟨_,s1,1,bT,bT⟩) (ws:=[⟨_,s2,1,bT,bT⟩,⟨_,s3,2,bT,bT⟩,⟨_,s4,1,bT,bT⟩]) L;simp only[cq,length_nil]at M;have V:PH.le J h4:=((a1.trans T).trans F).trans z
 have A:d≠cb:=λe=>by
  obtain⟨r,q,cs,j,q1,_⟩:=c2;have:=U.m_
  grind
 have a2:m d=none:=by rw[<-S.other d A, <-o2.other d A];exact U.m_
 have c3:aL m3 h4 cb:=by
  obtain⟨r,q,cs,j,q1,q2,q3⟩:=c2;exact⟨r,q,cs,j,bk,q2.mono V,q3⟩
 have S0:Du m J cb d n.toNat id _ ⟨k,⟨some ⟨d,0,none⟩,n.toNat,f⟩⟩ m3 h4:=⟨V,k0,bk,c3,aC,aC,⟨f,rfl,aC⟩,a4,a2,A,O,⟨rfl,λi t e=>?_⟩,λb n1 n2=>by rw[P b n2,o2.other b n1,S.other b n1]⟩
 rotate_left
 .match i,e with
  |0,e=>cases e;exact⟨_,rfl,⟨rfl,rfl,KX (l:=[⟨_,_⟩,⟨_,_⟩]) (r1.mono ((T.trans F).trans z)) bg⟩⟩
  |1,e=>cases e;exact⟨_,rfl,⟨rfl,rfl,KX (l:=[⟨_,_⟩,⟨_,_⟩,⟨_,_⟩,⟨_,_⟩]) (r2.mono (F.trans z)) bf⟩⟩
  |2,e=>cases e;exact⟨_,rfl,⟨rfl,rfl,KX (l:=[⟨_,_⟩,⟨_,_⟩]) (r3.mono z) bg⟩⟩
  |3,e=>cases e;exact⟨_,rfl,⟨rfl,rfl,KX (l:=[⟨_,_⟩]) r4 bf⟩⟩
  |i+4,e=>simp[tZ]at e
 generalize a5:(bR.mk _ s1 1 bT bT::_)=a8 at S0;clear a5 O L r1 r2 r3 r4;have B:∀{ws:List bR}{i:Nat},ws.length=4->i<4->∃w,ws[i]? =some w:=λhl hi=>⟨_,bu aC⟩
 refine⟨aC,bk,λ⟨W,s,E,X⟩=>W=n/\∃ws,Du m J cb d n.toNat id ws s E X,⟨cb,2,rfl,aC,aC,c3,λr Y o4 c4=>aB (λ_ s5 G a3 r5=>⟨d,0,rfl,aC,aC,λs6 h6 C r6=>?_⟩) (λ_=>⟨(n,⟨k,⟨some ⟨d,0,none⟩,n.toNat,f⟩⟩,Y,h4),⟨rfl,_,S0.on (.refl _) o4 c4⟩,MT⟩)⟩,?_⟩
 .obtain⟨w,Q⟩:=B (i:=1) S0.ws_.1 aC;exact(S0.on (a3.trans C) o4 (c4.mono (a3.trans C))).store (k:=3) (w':={w with references:=s6}) Q aC rfl rfl rfl rfl rfl λy Z=>⟨(n,⟨k,⟨some ⟨d,0,none⟩,n.toNat,f⟩⟩,y,h6),⟨rfl,_,Z⟩,MT⟩
 clear S0 c3 P U a2 M V a1 T F z S o2 c1 c2;rintro⟨W,s,Y,G⟩ ⟨rfl,ws,S0⟩;dsimp only;obtain⟨f,c,_⟩:=S0.sl_;have o:s.tables.a=some ⟨d,0,none⟩:=by rw[c]
 have H:s.tables.len=W.toNat:=by rw[c]
 refine⟨λ⟨n,s,E,X⟩=>n=W/\∃ws,Du m J cb d n.toNat id ws s E X,aE (λhn=>⟨cb,3,rfl,aC,aC,S0.case_,λr y R I=>aB (λ_ s7 h7 u r7=>⟨d,0,o,aC,aC,λs8 h8 g r8=>?_⟩) (λ_=>⟨(W,s,y,G),⟨rfl,_,S0.on (.refl _) R I⟩,MT⟩)⟩) (λ_=>⟨(W,s,Y,G),⟨rfl,_,S0⟩,MT⟩),?_⟩
 .obtain⟨w,Q⟩:=B (i:=2) S0.ws_.1 aC;exact(S0.on (u.trans g) R (I.mono (u.trans g))).store (k:=3) (w':={w with references:=s8}) Q aC rfl rfl rfl rfl rfl λy Z=>⟨(W,s,y,h8),⟨rfl,_,Z⟩,MT⟩
 clear S0 o H c;rintro⟨D,s,Y,G⟩ ⟨rfl,ws,S0⟩;dsimp only;obtain⟨f,c,_⟩:=S0.sl_;have o:s.tables.a=some ⟨d,0,none⟩:=by rw[c]
 have H:s.tables.len=D.toNat:=by rw[c]
 refine⟨λ⟨s,E,X⟩=>∃ws,Du m J cb d D.toNat id ws s E X,aE (λhn=>⟨cb,3,rfl,aC,aC,S0.case_,λr y R I=>aB (λ_ s7 h7 u r7=>⟨d,0,o,aC,aC,λs8 h8 g r8=>?_⟩) (λ_=>⟨(s,y,G),⟨_,S0.on (.refl _) R I⟩,MT⟩)⟩) (λ_=>⟨(s,Y,G),⟨_,S0⟩,MT⟩),?_⟩
 .obtain⟨w,Q⟩:=B (i:=3) S0.ws_.1 aC;exact(S0.on (u.trans g) R (I.mono (u.trans g))).store (k:=3) (w':={w with references:=s8}) Q aC rfl rfl rfl rfl rfl λy Z=>⟨(s,y,h8),⟨_,Z⟩,MT⟩
 clear S0 o H c;rintro⟨s,Y,G⟩ ⟨ws,S0⟩;dsimp only;obtain⟨f,c,_⟩:=S0.sl_;have o:s.tables.a=some ⟨d,0,none⟩:=by rw[c]
 have H:s.tables.len=D.toNat:=by rw[c]
 refine⟨λ⟨s,E,X⟩=>∃ws,Du m J cb d D.toNat id ws s E X,⟨cb,3,rfl,aC,aC,S0.case_,λr y R I=>aB (λ_=>?_) (λ_=>⟨(s,y,G),⟨_,S0.on (.refl _) R I⟩,MT⟩)⟩,λ⟨s,Y,G⟩⟨ws,S0⟩=>hK _ _ _ _ _ _ _ S0⟩;have S1:=S0.on (.refl _) R I;obtain⟨w,Q,a'⟩:=S1.ws_.2 1 _ rfl;refine⟨s.version,d,D.toNat,f,ws,w,_,1,by rw[c];rfl,aC,S1.row_,Q,a'.cols_,bf,λsl h6 C a6=>?_⟩;refine⟨cb,sl,bT,_,[],1,rfl,I.mono C,a6,⟨bX.nil _ _,bf⟩,bf,bf,aC,λa9 p m6 h7 u hp b' o6 c6=>⟨d,0,o,aC,aC,λs8 h8 g r8=>?_⟩⟩;exact(S1.on ((C.trans u).trans g) o6 (c6.mono g)).store (k:=4) (w':={w with checks:=s8}) Q aC rfl rfl rfl rfl rfl λy Z=>⟨(s,y,h8),⟨_,Z⟩,MT⟩
structure mN(s:j4):Prop where
 ex:∃ver n id,0<=ver/\ver<=2/\2<=n/\n<=4/\(id=4\/id=5)/\s=⟨ver,(tZ id).take n⟩
def bqJ:Vc.Spec:=λc m h K=>∃cb,c=[cP cb]/\aL m h cb/\∀s v m' h',mN s->dM h' s v->PH.le h h'->aT m m' cb->aL m' h' cb->K (aS v) m' h'
theorem a5Q:cu 8 bqJ:=by
 refine X7 func8 ?_;rintro W m h K ⟨cb,rfl,X,Y⟩;refine⟨caZ,rfl,aD aKX aF,T4 cb m h (dE h K),be,?_⟩;show T4 cb m h (dE h K);dsimp only[T4,push_cast];refine⟨cb,rfl,X,λd n id y s J L S1=>?_⟩;refine⟨λ⟨i,A,Z,B⟩=>A=s/\B=L/\i<=n/\∃y,Du m h cb d n id y s Z L/\∀j w,j<i->y[j]? =some w->w.references=bT/\w.checks=bT,λ⟨i,_,_,_⟩=>n-i,⟨(0,s,J,L),⟨rfl,rfl,aC,y,S1,λj w M=>by omega⟩,MT⟩,?_⟩;clear S1 y J;rintro⟨i,A,J,B⟩ ⟨rfl,rfl,F,y,S1,G⟩;dsimp only;obtain⟨a',H,O⟩:=S1.sl_;have C:A.tables.a=some ⟨d,0,none⟩:=by rw[H]
 have a0:A.tables.len=n:=by rw[H]
 have P:=S1.n4;refine aE (λI=>⟨d,0,C,aC,I,?_⟩) (λa1 f=>?_)
 .obtain⟨w,U⟩:∃w,y[i]? =some w:=⟨_,bu (by have:=S1.ws_.1;omega)⟩
  refine S1.store (i:=i) (k:=3) (w':={w with references:=bT}) U aC aC rfl rfl rfl rfl λm2 S2=>⟨d,0,C,aC,I,?_⟩
  have Q:=(bt U);have R:(y.set i {w with references:=bT})[i]? =some {w with references:=bT}:=getElem?_set_self Q;refine S2.store (i:=i) (k:=4) (w':={w with references:=bT,checks:=bT}) R aC aC rfl rfl rfl rfl λm3 S3=>⟨(i+1,A,m3,B),⟨rfl,rfl,aC,_,S3,λj u M hu=>?_⟩,aC,MT⟩
  grind
 .have f:=f;obtain⟨D,z,S⟩:=S1.row_.ex;have a2:∀i,B d i=none:=f d _ z
  have c:PH.le B (λx i=>if x=d then D[i]? else B x i):=⟨λx i v e=>by
   grind⟩
  refine⟨λb=>if b=d then none else J b,λx i=>if x=d then D[i]? else B x i,λb o e=>?_,S1.le_.trans c,λx i v e=>?_,Y ⟨A.version,(tZ id).take n⟩ A _ _ ⟨⟨_,_,_,S1.ver0,S1.ver1,S1.n2,S1.n4,S1.id_,rfl⟩⟩ ⟨rfl,?_⟩ (S1.le_.trans c) ⟨λb hb=>?_⟩ ?_⟩
  .grind
  .by_cases E:x=d
   .subst E;simp at e;exact .inr ⟨D,74,(0,0),z,e,bf⟩
   .simp[E]at e;exact .inl e
  .have V:=S1.ws_.1;have P:=S1.n4;refine⟨⟨y.take n,⟨bk,.inr ⟨d,0,C,λi e F=>⟨λj v M=>?_⟩⟩,bk⟩,by simp[tZ];omega,λi t e=>?_⟩,bk⟩
   .rw[map_take,getElem?_take]at F;split at F
    .have L:=oU (xs:=y.map bR.enc) (sz:=5) (λe he=>by obtain⟨x,_,rfl⟩:=mem_map.1 he;rfl) F j v M
     grind
    .cases F
   .rw[getElem?_take]at e;split at e
    .rename_i a3;obtain⟨w,e1,e2⟩:=S1.ws_.2 i t e;obtain⟨z1,z2⟩:=G i w aC e1;have T:=e2.mono c
     have g:t.refs=[]/\t.checks=[]:=by
      match i,e with
      |0,e=>cases e;grind
      |1,e=>cases e;grind
      |2,e=>cases e;grind
      |3,e=>cases e;grind
      |i+4,e=>omega
     refine⟨w,bk,⟨T.name_,T.cols_,T.key_,by rw[z1,g.1];exact bC.nil _ _ _ _,by rw[z2,g.2];exact bC.nil _ _ _ _⟩⟩
    .cases e
  .by_cases E:b=d
   .subst E;simp[S1.new_]
   .simp[E];exact S1.other_ b hb E
  .obtain⟨r,q,cs,k,q1,q2,q3⟩:=S1.case_;exact⟨r,q,cs,k,bk,q2.mono c,q3⟩
end Go.Ps
