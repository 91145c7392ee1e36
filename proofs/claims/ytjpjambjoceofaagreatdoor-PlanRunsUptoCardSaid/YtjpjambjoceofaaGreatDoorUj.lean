/- Own work. -/
import Derived.ChangeArms
import Derived.OpenShut
import Derived.ChangeOld
import Derived.WideShapes
import Derived.Test.YtjpjambjoceofaaGreatDoorRows
import Derived.Test.YtjpjambjoceofaaGreatDoorUi
set_option linter.unusedVariables false
set_option linter.unusedSimpArgs false
namespace Go.Ps
open Go Go.Vc Go.Proofs List Tryz
variable{K:dk}{m:MH}{h:PH}{s:lL}{ps:dl}{ts:dv}{cb:Nat}{sc:bX}{v:QV}{q:Query}{t:Step}{p:Pred}{l:dl}{i:Nat}{N:Nat}{m':MH}{h':PH}{co:dl}{gr:dl}{od:dr}{w:Pred}{ta:Int}{li:Int}{xs:List dj}{sz:Nat}{k:Nat}{ks:List dl}{rs:dl}{r:Sl}{a:dl}{b:Nat}
def bOX:Vc.Spec:=λc m h K=>∃s r,c=[cS s]/\bT h s r/\r.length<=1000/\K (.lst 27 3 (r.map VV.enc)) m h
def cjZ:Vc.Spec:=λc m h K=>∃o s r,c=[aO o,cS s,iO]/\bT h s r/\∀ok:Bool,(ok=false->Ab r o=zeroV)->K (.tup [aV (Ab r o),cB ok]) m h
def bOJ:Vc.Spec:=λd m h K=>∃c a b,d=[cI c,aV a,aV b]/\K (cB (rA c a b)) m h
noncomputable def bpX(N:Nat)(v:PV)(s:Sl)(m:MH)(h:PH):Ctx:=
 cT [(257,cjZ),(258,bOJ),(201,Va N)] [(10,{A:=Nat,st:=λi=>bO 97 100 [(1,sv s),(2,vv sC),(3,.at (.ptr 3 0)),(50,iv v.args.len),(51,iv i)] [(3,.cells 32 (v.enc.map .val))] m h}),
  (18,{A:=Nat,st:=λi=>bO 97 100 [(1,sv s),(2,vv sC),(3,.at (.ptr 3 0)),(68,iv v.args.len),(69,iv i)] [(3,.cells 32 (v.enc.map .val))] m h})] [] [] false
def ao(s:Sl)(m:MH)(h:PH)(K:dk):Prop:=
  Ka 3 h s 32 (λy=>K (CV.lst 27 3 y) m h)
abbrev AK(a:dk)(b:MH)(c:PH):Prop:=a (CV.tup (nO (gV yP) aX)) b c
attribute [push_cast] AK
def Ss(o:OV)(s:Sl)(m:MH)(h:PH)(K:dk):Prop:=
  cO (o.kind==1) (cO (decide (o.index>=0)) (aW o.index (aF s) (aJ (λb c=>aI (aK s.a b c) (0<=o.index) (o.index<aF s) (∃(y:VV),aR m h b (cC c o.index 3) y.enc/\K (CV.tup (nO (gV y.enc) dR)) m h))) (cO (o.kind==2) (cO (decide (o.index>=0)) (aW o.index 0 (Kb 0 o m h 3 (λy=>K (CV.tup (nO (gV y.enc) dR)) m h)) (dD o.kind 3 (K (CV.tup (nO (gV (xG o)) dR)) m h) (AK K m h))) (o.kind==3) (K (CV.tup (nO (gV (xG o)) dR)) m h) (AK K m h)) (o.kind==3) (K (CV.tup (nO (gV (xG o)) dR)) m h) (AK K m h))) (o.kind==2) (cO (decide (o.index>=0)) (aW o.index 0 (Kb 0 o m h 3 (λy=>K (CV.tup (nO (gV y.enc) dR)) m h)) (dD o.kind 3 (K (CV.tup (nO (gV (xG o)) dR)) m h) (AK K m h))) (o.kind==3) (K (CV.tup (nO (gV (xG o))
 dR)) m h) (AK K m h)) (dD o.kind 3 (K (CV.tup (nO (gV (xG o)) dR)) m h) (AK K m h))) (o.kind==2) (cO (decide (o.index>=0)) (aW o.index 0 (Kb 0 o m h 3 (λy=>K (CV.tup (nO (gV y.enc) dR)) m h)) (dD o.kind 3 (K (CV.tup (nO (gV (xG o)) dR)) m h) (AK K m h))) (o.kind==3) (K (CV.tup (nO (gV (xG o)) dR)) m h) (AK K m h)) (dD o.kind 3 (K (CV.tup (nO (gV (xG o)) dR)) m h) (AK K m h))
def Sr(c:Int)(a b:VV)(m:MH)(h:PH)(K:dk):Prop:=
  ∃(v:VV),hZ (mW a=mW v) (!(jH v)) (K aX m h) (∃(f:VV),mW b=mW f/\cO (!(jH f)) (K aX m h) (a.kind !=b.kind) (K aX m h) (∃(d e:VV),xK a b=xK d e/\cO (c==1) (K (vD (jO d e==0)) m h) (c==2) (K (vD (jO d e !=0)) m h) (cO (c==3) (K (vD (decide (jO d e<0))) m h) (c==4) (K (vD (decide (jO d e<=0))) m h) (cO (c==5) (K (vD (decide (jO d e>0))) m h) (c==6) (K (vD (decide (jO d e>=0))) m h) (K aX m h)))))
def SL(N:Nat)(v:PV)(s:Sl)(m:MH)(h:PH)(K:dk):Prop:=
  cO (v.op==1) (K dR m h) (v.op==3) (Kc (zN v.left s) h (λo r=>∀(j:Bool),(H8 j->Ab r o=Kw 0)->Kc (cV (sZ v) (fP s iO)) h (λf g=>∀(n:Bool),eT (H8 n->Ab g f=Kw 0) j (branch n (∃(c:Int)(a b:VV),fN v.cmp::fY (bC (fE (Ab r o).kind) (fE (Ab r o).int) (AQ (Ab r o).text)) (bC (fE (Ab g f).kind) (fE (Ab g f).int) (AQ (Ab g f).text))=fN c::xK a b/\K (vD (rA c a b)) m h) (K aX m h)) (K aX m h)))) (cO (v.op==4) (j6 (λI x=>aA (I x) (aH s) (aA tX bJ (aA (pY v) (aZ x) (aA (fM v) (m=m) (bR h h))))) (λI e x=>I x->aW (↑x:Int) (aF v.args) (aJ (λb o=>aI (aK v.args.a b o) (0<=(↑x:Int)) ((↑x:Int)<aF v.args) (∃(y:PV),aR m h b (bE o x 13)
 y.enc/\EI y s h N (λp r=>mB (iB r p) (K aX m h) (∃(d:Nat),aA (I d) (e d<e x) (aA (aH s) tX (aA bJ (pY v) (aA (eR (bF ((↑x:Int)+1))=bL d) (fM v) (bG m m h h))))))))) (K dR m h))) (v.op==5) (j6 (λI x=>aA (I x) (aH s) (aA tX bJ (aA (pY v) (aZ x) (aA (fM v) (m=m) (bR h h))))) (λI e x=>I x->aW (↑x:Int) (aF v.args) (aJ (λb o=>aI (aK v.args.a b o) (0<=(↑x:Int)) ((↑x:Int)<aF v.args) (∃(y:PV),aR m h b (bE o x 13) y.enc/\EI y s h N (λp r=>branch (iB r p) (K dR m h) (∃(d:Nat),aA (I d) (e d<e x) (aA (aH s) tX (aA bJ (pY v) (aA (eR (bF ((↑x:Int)+1))=bL d) (fM v) (bG m m h h))))))))) (K aX m h))) (dD v.op 6 (fA (mG v) 0 (aJ (λb o
 =>aI (aK v.args.a b o) ((0:Int)<=0) (0<aF v.args) (∃(y:PV),aR m h b (o+0) y.enc/\EI y s h N (λp r=>K (CV.val (Value.bool (!(iB r p)))) m h)))) (K aX m h)) (K aX m h)))
theorem bm:di 55 bOX:=by
 refine fU func55 ?_;rintro d m h K ⟨s,r,rfl,f,n,g⟩;refine⟨cT [] [] [] [] true,rfl,aG,ao s m h K,bu,?_⟩;dsimp only[ao,push_cast];obtain⟨⟨c,j,o,u⟩,x⟩:=f
 have e:c=r:=ext_getElem? λi=>by
  grind
 subst e;exact⟨c.map VV.enc,Cf c,j,cg,cg,g⟩
theorem YR:di 257 cjZ:=by
 refine fU func257 ?_;rintro x m h K ⟨o,s,r,rfl,u,f⟩;refine⟨cT [] [] [] [] false,rfl,aG,Ss o s m h K,bu,?_⟩;dsimp only[Ss,push_cast];have y:=bI.slen u
 have c:¬(o.kind=1/\0<=o.index/\o.index<r.length)->branch (o.kind==3) (K (CV.tup [aV o.value,cB true]) m h) (K (CV.tup [aV zeroV,cB false]) m h):=λg=>by
  unfold Ab at f;refine aB (λe=>?_) (λe=>?_)
  .grind
  grind
 have d:∀X,¬(o.kind=1/\0<=o.index/\o.index<r.length)->branch (o.kind==2) (branch (decide (o.index>=0)) (branch (decide (o.index<((0:Nat):Int))) X (branch (o.kind==3) (K (CV.tup [aV o.value,cB true]) m h) (K (CV.tup [aV zeroV,cB false]) m h))) (branch (o.kind==3) (K (CV.tup [aV o.value,cB true]) m h) (K (CV.tup [aV zeroV,cB false]) m h))) (branch (o.kind==3) (K (CV.tup [aV o.value,cB true]) m h) (K (CV.tup [aV zeroV,cB false]) m h)):=λX g=>
  aB (λ_=>aD (λj=>aD (λn=>absurd n aC) (λ_=>c g)) (λ_=>c g)) (λ_=>c g)
 refine aB (λj=>aD (λn=>aD (λz=>?_) (λz=>d _ aC)) (λn=>d _ aC)) (λj=>d _ (λe=>cg));have j:o.kind=1:=cg
 have A:r[o.index.toNat]? =some (r.getD o.index.toNat zeroV):=by
  grind
 obtain⟨b,off,v,e,rd,ev⟩:=bI.at u A;have f:=f true (λe=>by cases e);unfold Ab at f;rw[if_neg aC,if_pos ⟨j,aC,aC⟩,ev]at f;exact⟨b,off,e,aC,aC,_,.imm rd,f⟩
theorem YQ:di 258 bOJ:=by
 refine fU func258 ?_;rintro B m h K ⟨c,a,b,rfl,d⟩;refine⟨cT [(259,NA),(109,NB)] [] [] [] false,rfl,aE Jb (aE Jj aG),Sr c a b m h K,bu,?_⟩;dsimp only[Sr,push_cast];have z:rA c a b=false->K (cB false) m h:=λe=>cg
 refine⟨a,rfl,aB (λn=>z ?_) (λn=>⟨b,rfl,aB (λo=>z ?_) (λo=>aB (λu=>z ?_) (λu=>⟨a,b,rfl,?_⟩))⟩)⟩
 .have n:jH a=false:=cg
  simp[rA,n]
 .have o:jH b=false:=cg
  simp[rA,o]
 .have u:a.kind≠b.kind:=cg
  simp[rA,u]
 .have n:jH a=true:=cg
  have o:jH b=true:=cg
  have u:a.kind=b.kind:=cg
  have C:rA c a b=Vt c (jO a b):=by simp[rA,n,o,u]
  rw[C]at d;unfold Vt at d;refine aB (λf=>?_) (λf=>aB (λg=>?_) (λg=>aB (λj=>?_) (λj=>aB (λx=>?_) (λx=>aB (λy=>?_) (λy=>aB (λA=>?_) (λA=>?_))))))
  all_goals simp only[beq_iff_eq,beq_eq_false_iff_ne]at*
  .rw[if_pos f]at d;exact d
  .rw[if_neg f,if_pos g]at d;exact d
  .rw[if_neg f,if_neg g,if_pos j]at d;exact d
  .rw[if_neg f,if_neg g,if_neg j,if_pos x]at d;exact d
  .rw[if_neg f,if_neg g,if_neg j,if_neg x,if_pos y]at d;exact d
  .rw[if_neg f,if_neg g,if_neg j,if_neg x,if_neg y,if_pos A]at d;exact d
  .rw[if_neg f,if_neg g,if_neg j,if_neg x,if_neg y,if_neg A]at d;exact d
theorem W3:∀N,di 201 (Va N)
 |0=>by
  refine eA (fn:=Tryz.f201) (c:=cM Tryz.f201) func201 rfl bz ?_;rintro I m h K ⟨v,s,p,r,rfl,_,_,W,_⟩;omega
 |N+1=>by
  refine fU func201 ?_;rintro I m h K ⟨v,s,p,r,rfl,X,o,W,d⟩;refine⟨bpX N v s m h,rfl,aE YR (aE YQ (aE (W3 N) aG)),SL N v s m h K,bu,?_⟩;dsimp only[SL,push_cast];have g:=@uK p;obtain⟨op,Y,l,q,ps⟩:=p;obtain⟨rfl,rfl,rfl,rfl,z⟩:=X.parts;have J:=z.slen;have O:=z.len;simp only[Pred.args]at g;simp only[iB]at d;refine aB (λP=>?_) (λP=>aB (λQ=>?_) (λQ=>aB (λR=>?_) (λR=>aB (λS=>?_) (λS=>aB (λZ=>?_) (λZ=>?_)))))
  .rw[if_pos cg]at d;exact d
  all_goals have T:v.op≠1:=cm P
  .rw[if_neg T,if_pos cg]at d;have z1:rA v.cmp zeroV (Ab r v.right)=false:=by simp[rA,show jH zeroV=false from rfl]
   have z2:rA v.cmp (Ab r v.left) zeroV=false:=by simp[rA,show jH zeroV=false from rfl]
   refine⟨v.left,s,r,rfl,o,λok n=>⟨v.right,s,r,rfl,o,λa' e2=>aB (λG=>aB (λU=>⟨_,_,_,rfl,d⟩) (λU=>?_)) (λG=>?_)⟩⟩
   .rw[show Ab r v.right=zeroV from e2 U,z2]at d;exact d
   .rw[show Ab r v.left=zeroV from n G,z1]at d;exact d
  all_goals have n3:v.op≠3:=cm Q
  all_goals rw[if_neg T,if_neg n3]at d
  .rw[if_pos cg,GI]at d;refine⟨λi=>i<=ps.length/\∀j:Nat,j<i->∀x,ps[j]? =some x->iB r x=true,λi=>ps.length-i,⟨0,⟨aC,λj A=>by omega⟩,MT⟩,λi⟨hi,B⟩=>aD (λe=>?_) (λL=>?_)⟩
   .obtain⟨x,f⟩:=dO J e;obtain⟨C,D,u,n,H,E⟩:=z.at f;have:=g (cr f);refine⟨C,D,n,aC,e,u,.imm H,u,s,x,r,rfl,E,o,aC,aB (λM=>?_) (λV=>⟨i+1,⟨aC,λj A y F=>?_⟩,(show ps.length-(i+1)<ps.length-i by omega),MT⟩)⟩
    .have:ps.all (iB r)=false:=by
      grind
     rw[this]at d;exact d
    grind
   .have:ps.all (iB r)=true:=by
     rw[all_eq_true];intro y F;obtain⟨j,A⟩:=getElem?_of_mem F
     grind
    rw[this]at d;exact d
  all_goals have n4:v.op≠4:=cm R
  all_goals rw[if_neg n4]at d
  .rw[if_pos cg,GG]at d;refine⟨λi=>i<=ps.length/\∀j:Nat,j<i->∀x,ps[j]? =some x->iB r x=false,λi=>ps.length-i,⟨0,⟨aC,λj A=>by omega⟩,MT⟩,λi⟨hi,B⟩=>aD (λe=>?_) (λL=>?_)⟩
   .obtain⟨x,f⟩:=dO J e;obtain⟨C,D,u,n,H,E⟩:=z.at f;have:=g (cr f);refine⟨C,D,n,aC,e,u,.imm H,u,s,x,r,rfl,E,o,aC,aB (λV=>?_) (λM=>⟨i+1,⟨aC,λj A y F=>?_⟩,(show ps.length-(i+1)<ps.length-i by omega),MT⟩)⟩
    .have:ps.any (iB r)=true:=any_eq_true.2 ⟨x,cr f,V⟩;rw[this]at d;exact d
    grind
   .have:ps.any (iB r)=false:=by
     rw[any_eq_false];intro y F;obtain⟨j,A⟩:=getElem?_of_mem F
     grind
    rw[this]at d;exact d
  all_goals have n5:v.op≠5:=cm S
  all_goals rw[if_neg n5]at d
  .rw[if_pos cg]at d;refine aD (λG=>?_) (λG=>?_)
   .obtain⟨x,f⟩:=dO (i:=0) J aC;obtain⟨C,D,u,n,H,E⟩:=z.at f;have:=g (cr f)
    have e7:PK r ps= !iB r x:=by
     cases ps with
     |nil=>simp at f
     |cons y _=>simp at f;subst f;rfl
    rw[e7]at d;exact⟨C,D,n,aC,aC,u,.imm aC,u,s,x,r,rfl,E,o,aC,d⟩
   .have:ps=[]:=length_eq_zero_iff.1 aC;subst this;exact d
  .rw[if_neg cg]at d;exact d
theorem Zp:di 201 Vb:=iQ W3 λ_ _ _ _⟨v,s,p,r,e,c,d,f⟩=>⟨SizeOf.sizeOf p+1,v,s,p,r,e,c,d,aC,f⟩
theorem gS.new(c:gS m)(f:m cb=none)(o:bK m m' cb):gS m':=by
 obtain⟨T,d,e⟩:=c;refine⟨T,d,?_⟩;rw[o.other 1 (λg=>cg)];exact e
variable{cN:Nat}
def bKJ:Vc.Spec:=λc m h K=>∃v s t q l w,c=[aQ v,cS s,cS t]/\dZ h q v/\Rows h s (l.getD 0 [])/\Rows h t (l.getD 1 [])/\2<=v.op/\v.op<=10/\LM v.op q l/\gT w (Q8 v.op q l)/\(v.op=6->(l.getD 0 []).length+(l.getD 1 []).length<=8000000)/\∀d h',PH.le h h'->Rows h' d (Q8 v.op q l)->K (cS d) m h'
noncomputable def byX(v:QV)(s t:Sl)(m:MH)(h:PH):Ctx:=cT [(201,Vb),(202,TU),(203,Vh),(55,bOX),(204,bHJ),(205,bPJ),(206,XP),(132,ayQ)] [(5,{A:=Nat×dn,st:=λ⟨i,c⟩=>bO 105 108 [(3,.at (.ptr 3 0)),(7,.at (.lst 31)),(18,sv s),(19,iv s.len),(20,iv i)] [(3,.cells 38 (v.enc.map .val)),(31,.lst 94 1 (c.map eS))] m h}),
 (14,{A:=Nat×dn×PH,st:=λ⟨i,c,h⟩=>bO 105 108 [(2,sv t),(3,.at (.ptr 3 0)),(7,.at (.lst 64)),(41,sv s),(42,iv s.len),(43,iv i)] [(3,.cells 38 (v.enc.map .val)),(64,.lst 94 1 (c.map eS))] m h}),
 (17,{A:=Nat×Sl×Nat×dn×PH,st:=λ⟨j,x,i,c,h⟩=>bO 105 108 [(2,sv t),(3,.at (.ptr 3 0)),(7,.at (.lst 64)),(11,sv x),(41,sv s),(42,iv s.len),(43,iv i),(47,sv t),(48,iv t.len),(49,iv j)] [(3,.cells 38 (v.enc.map .val)),(64,.lst 94 1 (c.map eS))] m h})] [] [] false
noncomputable abbrev HO(a:Nat×Sl×Nat×dn×PH):dn:=a.2.2.2.1
noncomputable abbrev tY(a:Nat×Sl×Nat×dn×PH):Nat->Nat->Option Value:=gC a.2.2
abbrev LU(a:dm->dm->Prop):Prop:=∃(x c:dm),a x c
attribute [push_cast] HO tY LU
def Tr(v:QV)(s t:Sl)(m:MH)(h:PH)(K:dk):Prop:=
  cO (v.op==2) (Fg (λI x=>aA (I x) bJ (aA (eL 31) (aH s) (aA (aY s) (aZ x.1) (aA (dJ v) (pE x.2) (bG m m h h))))) (λI B x=>I x->aW (↑x.1:Int) (aF s) (aJ (λb o=>aI (aK s.a b o) (0<=(↑x.1:Int)) ((↑x.1:Int)<aF s) (∃(y:Sl),aR m h b (bE o x.1 1) (aM y)/\H3 (λz e p r=>aI (Fw v.where_ y=Fw z e) (dX h p z) (bT h e r) (branch (iB r p) (Hz x (λd=>aA (I d) (B d<B x) (aA bJ (eL 31) (aA (aH s) (aY s) (aA (eR (bF ((↑x.1:Int)+1))=bL d.1) (dJ v) (bS (jS (uV x) y d.2) m m h h)))))) (∃(d:Nat×dn),aA (I d) (B d<B x) (aA bJ (eL 31) (aA (aH s) (aY s) (aA (eR (bF ((↑x.1:Int)+1))=bL d.1) (dJ v) (bS (AP x d) m m h h)))))))))) (bU h 1 (uV
 x) (λe f=>Am e f K m)))) (v.op==3) (gQ (λe n=>∃(l:dm)(c:dl),aA (dK s v.columns=dK e n) (Rows h e l) (aA (Ints h n c) (tR l (λr=>mH r c)) (aA (eX c) (mZ l) (Fp h (List.map (fun(r:dp)=>pick r c) l) K m))))) (cO (v.op==4) (HP (λI x=>aA (I x) (aH t) (aA bJ (eL 64) (aA (aH s) (aY s) (aA (aZ x.1) (dJ v) (bS (pE x.2.1) m m h (gC x)))))) (λI B x=>I x->aW (↑x.1:Int) (aF s) (aJ (λb o=>aI (aK s.a b o) (0<=(↑x.1:Int)) ((↑x.1:Int)<aF s) (∃(y:Sl),aR m (gC x) b (bE o x.1 1) (aM y)/\∃(I1:Nat×Sl×Nat×dn×PH->Prop)(F:Nat×Sl×Nat×dn×PH->Nat),(∃(d:Nat×Sl×Nat×dn×PH),aA (I1 d) (aH t) (aA bJ (eL 64) (aA (bA y d.2.1) (aH
 s) (aA (aY s) (bV x.1 d.2.2.1) (aA (aH t) (aY t) (aA (aZ d.1) (dJ v) (bS (rY x.2.1 (HO d)) m m (gC x) (tY d))))))))/\∀(d:Nat×Sl×Nat×dn×PH),I1 d->aW (↑d.1:Int) (aF t) (aJ (λJ C=>aI (aK t.a J C) (0<=(↑d.1:Int)) ((↑d.1:Int)<aF t) (∃(A:Sl),aR m (tY d) J (bE C d.1 1) (aM A)/\gQ (λL e=>EN (λn D=>I9 (λa G=>∃(r:Bool),aA (cA v.on (cA d.2.1 (fP A dR))=cA L (cA e (fP n (vD r)))) (jA (tY d) L D) (aA (bT (tY d) e a) (bT (tY d) n G) (aA (mH a (gH D)) (mH G (fV D)) (branch (Bool.and (agree D a G) (Bool.or (!r) (kE (gH D) a))) (EJ d.2.1 (tY d) (λH=>∃(E:List dj),aA (cZ 3 E) (cE (tY d)
 (cX A) 3 E) (aA (mI (kR H) E 32) (mC (kR H) E) (bU (tY d) 3 (kR H++E) (λu f=>iY (p8 d.2.2) 24 (∃(j:Nat×Sl×Nat×dn×PH),aA (I1 j) (F j<F d) (aA (aH t) bJ (aA (eL 64) (bA d.2.1 j.2.1) (aA (aH s) (aY s) (aA (bV d.2.2.1 j.2.2.1) (aH t) (aA (aY t) (eR (bF ((↑d.1:Int)+1))=bL j.1) (aA (dJ v) (jS (p8 d.2.2) u (HO j)) (aA (m=m) (f=tY j) True))))))))))))) (∃(j:Nat×Sl×Nat×dn×PH),aA (I1 j) (F j<F d) (aA (aH t) bJ (aA (eL 64) (bA d.2.1 j.2.1) (aA (aH s) (aY s) (aA (bV d.2.2.1 j.2.2.1) (aH t) (aA (aY t) (eR (bF ((↑d.1:Int)+1))=bL j.1) (aA (dJ v) (rY (HO d) (HO j)) (aA (m=m) (tY d=tY j) True))))))))))))))))) (∃
 (j:Nat×dn×PH),aA (I j) (B j<B x) (aA (aH t) bJ (aA (eL 64) (aH s) (aA (aY s) (eR (bF ((↑d.2.2.1:Int)+1))=bL j.1) (rZ (dJ v) (rY (HO d) j.2.1) m m (tY d) (gC j))))))))) (bU (gC x) 1 (p8 x) (λe f=>Am e f K m)))) (v.op==5) (gQ (λo e=>EN (λn C=>LU (λa b=>aA (cA v.on (dK s t)=cA o (dK e n)) (jA h o C) (aA (Rows h e a) (Rows h n b) (aA (tR a (λx=>mH x (gH C))) (tR b (λy=>mH y (fV C))) (aA (mZ a) (mZ b) (fT (λu f=>dN h f (Rows f u (filter (fun(x:dp)=>List.any b (fun(y:dp)=>agree C x y)) a)) (Am u f K m)))))))))) (cO (v.op==6) (∃(y:List dj),aA (cZ 1 y) (cE h (cX s) 1 y) (aA (Ci y 24) (Cj y)
 (∃(A:List dj),aA (cZ 1 A) (cE h (cX t) 1 A) (aA (mI y A 24) (mC y A) (bU h 1 (y++A) (λe f=>Am e f K m)))))) (v.op==7) (gQ (λe n=>∃(i:Bool),LU (λl k=>aA (cA s (fP t aX)=cA e (fP n (vD i))) (Rows h e l) (aA (Rows h n k) (jU k) (mZ l/\fT (λu f=>dN h f (Rows f u (filter (fun(x:dp)=>Lu k x==i) l)) (Am u f K m))))))) (cO (v.op==8) (gQ (λe n=>∃(i:Bool),LU (λl k=>aA (cA s (fP t dR)=cA e (fP n (vD i))) (Rows h e l) (aA (Rows h n k) (jU k) (mZ l/\fT (λu f=>dN h f (Rows f u (filter (fun(x:dp)=>Lu k x==i) l)) (Am u f K m))))))) (v.op==9) (∃(z:QV),gQ (λe n=>Pt (λg o=>LU (λa b=>aA (cV v.enc
 (dK s s)=cV z.enc (dK e n)) (Ints h z.group g) (aA (iV h z.order o) (Rows h e a) (aA (Rows h n b) (tR a (λx=>mH x g)) (aA (tR b (λy=>mH y g)) (mZ a) (mZ b/\fT (λu f=>dN h f (Rows f u (z8 g o z.limit a b)) (Am u f K m)))))))))) (dD v.op 10 (∃(z:QV),gQ (λe n=>Pt (λg o=>LU (λa b=>aA (cV v.enc (dK s t)=cV z.enc (dK e n)) (Ints h z.group g) (aA (iV h z.order o) (Rows h e a) (aA (Rows h n b) (tR a (λx=>mH x g)) (aA (tR b (λy=>mH y g)) (mZ a) (mZ b/\fT (λu f=>dN h f (Rows f u (z8 g o z.limit a b)) (Am u f K m)))))))))) (Fq (λe l=>aA (w6 iO=eY e) (Rows h e l) (aA (mZ l) (∀(r:dp),List.Mem r l->Co r) (Fp h l K m))))))))
theorem a5J{s:Sl}{r:dp}(c:bT h s r):cE h s 3 (r.map VV.enc):=by
 obtain⟨⟨d,f,g,j⟩,n⟩:=c
 have e:d=r:=ext_getElem? λi=>by
  grind
 grind
theorem aIJ{on:dq}{x y:dp}(h:agree on x y=true):kE (fV on) y=kE (gH on) x:=by
 rw[Cc]at h;unfold kE;rw[h]
theorem Yx{on:dq}{b:dm}{x:dp}:jG on b x=(b.filter λy=>agree on x y&&kE (gH on) x).map (x++ ·):=by
 unfold jG;by_cases h:kE (gH on) x=true
 .rw[if_pos h];congr 1;refine filter_congr λy _=>?_;rw[h,Bool.and_true];by_cases e:agree on x y=true
  .rw[e,aIJ e,h];rfl
  grind
 .have h:kE (gH on) x=false:=cg
  rw[if_neg aC];rw[filter_eq_nil_iff.2 (λy _=>cg),map_nil]
theorem Z4:di 133 bKJ:=by
 refine fU func133 ?_;rintro d0 m h K ⟨v,s,t,q,l,w,rfl,hq,I,Z,o2,b7,o,H,h6,hK⟩;refine⟨byX v s t m h,rfl,aE Zp (aE Zo (aE Qg (aE bm (aE Zn (aE Zm (aE Zl (aE Jg aG))))))),Tr v s t m h K,bu,?_⟩;dsimp only[Tr,push_cast];obtain⟨op,ta,pw,co,on,gr,od,li,args⟩:=q;have x:=hq.parts;have b8:v.op=op:=x.op_;rw[b8]at o2 b7 o H hK h6;have S:=bI.slen I;have a5:=bI.slen Z
 have fin:∀(A:Sl)(n:PH)(l1:dm),PH.le h n->Rows n A l1->Bb l1=Q8 op (.mk op ta pw co on gr od li args) l->l1.length<=8000000->(∀r∈l1,r.length<=1000)->∃(O:Sl)(T:dm),[cS A]=[cS O]/\Rows n O T/\T.length<=8000000/\(∀r∈T,r.length<=1000)/\∀(s':Sl)(D:PH),PH.le n D->Rows D s' (Bb T)->K (cS s') m D:=
  λA n l1 le u e hl hw=>⟨A,l1,rfl,u,hl,hw,λs' D B a6=>hK s' D (le.trans B) cg⟩
 have d:∀(A:Sl)(n:PH),PH.le h n->Rows n A (Q8 op (.mk op ta pw co on gr od li args) l)->∃(O:Sl)(T:dm),[cS A]=[cS O]/\Rows n O T/\T.length<=8000000/\(∀r∈T,r.length<=1000)/\∀(s':Sl)(D:PH),PH.le n D->Rows D s' (Bb T)->K (cS s') m D:=
  λA n le u=>fin A n _ le u (RG H.srt) H.len (λr u=>by have:=(H.row r u).len;omega)
 refine aB (λe=>?_) (λn2=>aB (λe=>?_) (λn3=>aB (λe=>?_) (λn4=>aB (λe=>?_) (λn5=>aB (λe=>?_) (λn6=>aB (λe=>?_) (λn7=>aB (λe=>?_) (λn8=>aB (λe=>?_) (λn9=>aB (λe=>?_) (λd1=>?_)))))))))
 .have e:op=2:=cg
  subst e;obtain⟨n,D⟩:=(o:aoZ 1 _ l)
  obtain⟨w0,f⟩:=D _ (cr (afJ n));generalize ha:l.getD 0 []=a at I S f;have hf:Q8 2 (.mk 2 ta pw co on gr od li args) l=a.filter λr=>iB r pw:=by rw[<-ha];rfl
  rw[hf]at d;refine⟨λz=>z.1<=a.length/\eD h z.2 ((a.take z.1).filter λr=>iB r pw),λz=>a.length-z.1,⟨(0,[]),⟨bx,cm (eD.nil h)⟩,MT⟩,?_⟩;rintro⟨i,U⟩ ⟨hi,J⟩;dsimp only at hi J;dsimp only;have a7:=J.len;have V:=length_filter_le (λr=>iB r pw) (a.take i);rw[length_take]at V;have b9:=f.len;refine aD (λP=>?_) (λc'=>?_)
  .obtain⟨r,E⟩:=dO S P;obtain⟨b1,o1,Q,e1,a3,W⟩:=bI.at I E;have X:a.take (i+1)=a.take i++[r]:=by rw[db,E];rfl
   rw[fD aC];refine⟨b1,o1,e1,aC,P,Q,.imm a3,v.where_,Q,pw,r,rfl,x.where_,W,aB (λe=>?_) (λe=>?_)⟩
   .exact⟨cg,cg,(i+1,U++[Q]),⟨aC,by dsimp only;rw[X,filter_append,filter_cons_of_pos (by exact e),filter_nil];exact J.snoc W⟩,aC,by rw[cv];exact MT⟩
   .exact⟨(i+1,U),⟨aC,cg⟩,aC,MT⟩
  .rw[cu aC]at J
   exactλA n c F=>d A n c ((J.mono c).rows F cg)
 .have e:op=3:=cg
  subst e;obtain⟨n,d2,w0,f,hc⟩:=(o:Ym (.mk 3 ta pw co on gr od li args) l)
  exact⟨s,v.columns,_,co,rfl,I,x.columns_,λr u=>by rw[f.wid r u];exact hc,aC,f.len,hK⟩
 .have e:op=4:=cg
  subst e;obtain⟨⟨D,w0,w1,f,M,Y,c1⟩,R⟩:=(o:Yn (.mk 4 ta pw co on gr od li args) l)
  generalize ha:l.getD 0 []=a at I S f R;generalize hb:l.getD 1 []=b at Z a5 M R;have hf:Q8 4 (.mk 4 ta pw co on gr od li args) l=a.flatMap (jG on b):=by rw[<-ha, <-hb];rfl
  rw[hf]at d;have b9:=f.len;have d3:=M.len;refine⟨λz=>z.1<=a.length/\PH.le h z.2.2/\eD z.2.2 z.2.1 ((a.take z.1).flatMap (jG on b)),λz=>a.length-z.1,⟨(0,[],h),⟨bx,.refl _,cm (eD.nil h)⟩,MT⟩,?_⟩;rintro⟨i,U,g1⟩ ⟨hi,c,J⟩;dsimp only at hi c J;dsimp only;have a7:=J.len;have V:((a.take i).flatMap (jG on b)).length<=(a.take i).length*b.length:=wT λx _=>A1;have c9:(a.take i).length*b.length<=a.length*b.length:=Nat.mul_le_mul_right _ cg;refine aD (λP=>?_) (λc'=>?_)
  .obtain⟨r,E⟩:=dO S P;have a8:=cr E;obtain⟨b1,o1,Q,e1,a3,W⟩:=bI.at I E
   have X:(a.take (i+1)).flatMap (jG on b)=(a.take i).flatMap (jG on b)++jG on b r:=by
    rw[db,E,Option.toList_some,flatMap_append,flatMap_singleton]
   generalize c2:(a.take i).flatMap (jG on b)=a9 at J a7 V X;refine⟨b1,o1,e1,aC,P,Q,.imm (a3.mono c),λz=>z.1<=b.length/\∃C g,z.2=(Q,i,C,g)/\PH.le g1 g/\eD g C (a9++((b.take z.1).filter λy=>agree on r y&&kE (gH on) r).map (r++ ·)),λz=>b.length-z.1,⟨(0,Q,i,U,g1),⟨bx,U,g1,rfl,.refl _,cg⟩,MT⟩,?_⟩;rintro⟨j,z⟩ ⟨hj,C,g,e,B,G⟩;dsimp only at hj e G;subst e;dsimp only;have b':=G.len;rw[ct,length_map]at b';have b0:=length_filter_le (λy=>agree on r y&&kE (gH on) r) (b.take j);rw[length_take]at b0;refine aD (λa'=>?_) (λd'=>?_)
   .obtain⟨y,hy⟩:=dO a5 a';have b3:=cr hy;obtain⟨b2,c3,uy,e2,c4,c5⟩:=bI.at Z hy;have L:=c.trans B;have a0:=bT.mono W L;have a1:=bT.mono c5 L;have lx:=(f.row r a8).len;have ly:=(M.row y b3).len;have b4:b.take (j+1)=b.take j++[y]:=by rw[db,hy];rfl
    have mu:b.length-(j+1)<b.length-j:=by omega
    rw[fD aC];refine⟨b2,c3,e2,aC,a',uy,.imm (c4.mono L),v.on,Q,uy,on,r,y,true,rfl,x.on_.mono L,a0,a1,by rw[f.wid r a8];exact Y,by rw[M.wid y b3];exact c1,aB (λe=>?_) (λe=>?_)⟩
    .have e:(agree on r y&&kE (gH on) r)=true:=e;refine⟨Q,r,rfl,a0,aC,y.map VV.enc,Cf y,a5J a1,cg,cg,λs3 g3 b5 F=>⟨cg,cg,(j+1,Q,i,C++[s3],g3),⟨aC,C++[s3],g3,rfl,B.trans b5,?_⟩,mu,by rw[cv];exact MT⟩⟩;dsimp only;rw[b4,filter_append,filter_cons_of_pos (by exact e),filter_nil,cv,map_singleton, <-append_assoc];exact(G.mono b5).snoc (Rw cg cg)
    .have e:(agree on r y&&kE (gH on) r)=false:=e;exact⟨(j+1,Q,i,C,g),⟨aC,C,g,rfl,B,cg⟩,mu,MT⟩
   .rw[cu aC, <-Yx, <-X]at G;rw[fD aC];exact⟨(i+1,C,g),⟨aC,c.trans B,G⟩,aC,MT⟩
  .rw[cu aC]at J V
   exactλA n B F=>d A n (c.trans B) ((J.mono B).rows F aC)
 .have e:op=5:=cg
  subst e;obtain⟨D,w0,w1,f,M,Y,c1⟩:=(o:bbZ on l)
  exact⟨v.on,s,t,on,_,_,rfl,x.on_,I,Z,λx E=>by rw[f.wid x E];exact Y,λy hy=>by rw[M.wid y hy];exact c1,f.len,M.len,d⟩
 .have e:op=6:=cg
  subst e;obtain⟨D,a2⟩:=(o:aoZ 2 _ l)
  obtain⟨w0,f⟩:=a2 _ (cr (afJ (show 0<l.length by omega)));obtain⟨w1,M⟩:=a2 _ (cr (afJ (show 1<l.length by omega)));have h6:=h6 rfl;obtain⟨⟨U,u,c6,c7⟩,hn⟩:=I;obtain⟨⟨a4,a6,c8,b6⟩,d4⟩:=Z;have J:eD h U (l.getD 0 []):=⟨c6.symm,c7⟩
  have G:eD h a4 (l.getD 1 []):=⟨c8.symm,b6⟩
  refine⟨U.map eS,vE U,u,cg,cg,a4.map eS,vE a4,a6,cg,cg,λA n c F=>?_⟩;rw[<-cv]at F
  exact fin A n _ c (((J.app G).mono c).rows F cg) rfl cg λr u=>by
   rcases mem_append.1 u with u|u
   .have:=(f.row r u).len;omega
   .have:=(M.row r u).len;omega
 .have e:op=7:=cg
  subst e;obtain⟨D,w0,f⟩:=(o:LL (.mk 7 ta pw co on gr od li args) l)
  have ra:=f _ (cr (afJ (show 0<l.length by omega)));have rb:=f _ (cr (afJ (show 1<l.length by omega)));exact⟨s,t,false,_,_,rfl,I,Z,rb.srt,ra.len,d⟩
 .have e:op=8:=cg
  subst e;obtain⟨D,w0,f⟩:=(o:LL (.mk 8 ta pw co on gr od li args) l)
  have ra:=f _ (cr (afJ (show 0<l.length by omega)));have rb:=f _ (cr (afJ (show 1<l.length by omega)));exact⟨s,t,true,_,_,rfl,I,Z,rb.srt,ra.len,d⟩
 .have e:op=9:=cg
  subst e;obtain⟨n,⟨w0,f,Y⟩,_⟩:=(o:Yl (.mk 9 ta pw co on gr od li args) l)
  refine⟨v,s,s,gr,od,_,_,rfl,x.group_,x.order_,I,I,λx E=>by rw[f.wid x E];exact Y,λx E=>by rw[f.wid x E];exact Y,f.len,f.len,λA n c u=>d A n c ?_⟩;rw[x.limit_]at u;exact u
 .have e:op=10:=cg
  subst e;obtain⟨n,w0,f,M,Y⟩:=(o:Pe (.mk 10 ta pw co on gr od li args) l)
  refine⟨v,s,t,gr,od,_,_,rfl,x.group_,x.order_,I,Z,λx E=>by rw[f.wid x E];exact Y,λx E=>by rw[M.wid x E];exact Y,f.len,M.len,λA n c u=>d A n c ?_⟩;rw[x.limit_]at u;exact u
 grind
def ciZ:Vc.Spec:=λc m h K=>∃v s t d r,c=[aS v,cI t,cS d,cI 3]/\fR h s v/\bT h d r/\vC s t=true/\K (cB (UG s t r)) m h
def awJ:Vc.Spec:=λc m h K=>∃v s e d,c=[aS v,cI 3,XJ e]/\fR h s v/\Leaves h e d/\d.length<=1000/\K (cI (jP s d)) m h
noncomputable def bBX(t:Int)(v:bX)(s:Sl)(m:MH)(h:PH):Ctx:=cT [(180,ML)] [(4,{A:=Nat,st:=λi=>bO 102 106 [(1,iv t),(3,iv 3),(4,.at (.ptr 4 0)),(40,sv s),(41,iv s.len),(42,iv i)] [(4,.cells 43 (v.enc.map .val))] m h})] [] [] false
noncomputable def b0J(v:bX)(s:Sl)(m:MH):Ctx:=cT [(86,uP),(105,ciZ),(48,aCX),(65,DF)]
 [(8,{A:=Nat×Int×PH,st:=λ⟨i,n,h⟩=>bO 91 94 [(1,iv 3),(3,.at (.ptr 3 0)),(5,.at (.ptr 5 0)),(8,iv n),(27,sv s),(28,iv s.len),(29,iv i)] [(3,.cells 43 (v.enc.map .val)),(5,.cells 25 [.val (.slice s.a s.len s.cap)])] m h}),
  (17,{A:=Nat×PH,st:=λ⟨i,h⟩=>bO 91 94 [(1,iv 3),(3,.at (.ptr 3 0)),(51,sv s),(52,iv s.len),(53,iv i)] [(3,.cells 43 (v.enc.map .val))] m h}),
  (20,{A:=Nat×Sl×Nat×PH,st:=λ⟨j,u,i,h⟩=>bO 91 94 [(1,iv 3),(3,.at (.ptr 3 0)),(11,iv i),(12,sv u),(51,sv s),(52,iv s.len),(53,iv i),(58,sv u),(59,iv u.len),(60,iv j)] [(3,.cells 43 (v.enc.map .val))] m h})] [] [] false
abbrev Kd(a:Nat->Prop)(b:Nat->Nat)(c:Nat)(d:Int)(e:Sl)(g:bX)(i:MH)(j:PH):Prop:=∃(x:Nat),aA (a x) (b x<b c) (aA (iF d) j9 (aA fI (aH e) (aA (aY e) (eR (bF ((↑c:Int)+1))=bL x) (bS (bP g) i i j j))))
attribute [push_cast] Kd
def Mx(v:bX)(t:Int)(s:Sl)(m:MH)(h:PH)(K:dk):Prop:=
  aW t 0 (K aX m h) (eK t (gE v) (K aX m h) (aJ (λb o=>aI (aK (lW v) b o) (0<=t) (t<aF v.tables) (∃(y:Sl),aR m h b (cC o t 5+1) (aM y)/\cK (aF s) (aF y) (K aX m h) (j6 (λI x=>aA (I x) (iF t) (aA j9 fI (aA (aH s) (aY s) (aA (aZ x) (bP v) (bG m m h h))))) (λI g x=>I x->aW (↑x:Int) (aF s) (aJ (λn u=>aI (aK s.a n u) (0<=(↑x:Int)) ((↑x:Int)<aF s) (∃(c:VV),aR m h n (bE u x 3) c.enc/\∃(z:VV),hZ (mW c=mW z) (!(jW z)) (K aX m h) (aJ (λA B=>aI (aK (lW v) A B) (0<=t) (t<aF v.tables) (∃(j:Sl),aR m h A (cC B t 5+1) (aM j)/\aJ (λC D=>aI (aK j.a C D) (0<=(↑x:Int)) ((↑x:Int)<aF j) (∃(E:Int),aR m h C (bE D x 2
 +1) (bQ E)/\cO (c.kind==E) (Kd I g x t s v m h) (c.kind==2) (aJ (λd e=>aI (aK (lW v) d e) (0<=t) (t<aF v.tables) (∃(f:Int),aR m h d (cC e t 5+2) (bQ f)/\cO (decide ((↑x:Int)>=f)) (Kd I g x t s v m h) (c.kind==1) (aJ (λF G=>aI (aK (lW v) F G) (0<=t) (t<aF v.tables) (∃(H:Int),aR m h F (cC G t 5+2) (bQ H)/\eK (↑x:Int) H (Kd I g x t s v m h) (K aX m h)))) (K aX m h)))) (dD c.kind 1 (aJ (λd e=>aI (aK (lW v) d e) (0<=t) (t<aF v.tables) (∃(f:Int),aR m h d (cC e t 5+2) (bQ f)/\eK (↑x:Int) f (Kd I g x t s v m h) (K aX m h)))) (K aX m h)))))))))) (K dR m h)))))))
noncomputable abbrev qY(a:Nat×Sl×Nat×PH):Nat:=a.2.2.1
noncomputable abbrev oU(a:Nat×Sl×Nat×PH):Sl:=a.2.1
noncomputable abbrev wA(a:Nat×Sl×Nat×PH):Nat->Nat->Option Value:=a.2.2.2
noncomputable abbrev HQ(a:Nat×Sl×Nat×PH):Int:=bF ((↑a.1:Int)-1)
attribute [push_cast] qY oU wA HQ
def P4(v:bX)(s:Sl)(m:MH)(h:PH)(K:dk):Prop:=
  An v h (λB=>cK (cQ B) 0 (K (fN (cQ B)) m h) (∃(I:Nat×Int×PH->Prop)(C:Nat×Int×PH->Nat),(∃(x:Nat×Int×PH),aA (I x) j9 (aA bJ dM (aA (dA 0 x.2.1) (aH s) (aA (aY s) (aZ x.1) (aA (bP v) (mK s) (aA (m=m) (h=x.2.2) True))))))/\∀(x:Nat×Int×PH),I x->aW (↑x.1:Int) (aF s) (aJ (λb o=>aI (aK s.a b o) (0<=(↑x.1:Int)) ((↑x.1:Int)<aF s) (∃(y:Sl),aR m x.2.2 b (bE o x.1 1) (aM y)/\fA (aF y) (bF (512-x.2.1)) (K (fN 2) m x.2.2) (∃(e:Nat×Int×PH),aA (I e) (C e<C x) (aA j9 bJ (aA dM (dA (bF (x.2.1+aF y)) e.2.1) (aA (aH s) (aY s) (aA (eR (bF ((↑x.1:Int)+1))=bL e.1) (bP v) (aA (mK s) (m=m) (bR x.2.2 e.2.2)))))))))) (cK (aF s) (gE v) (K (fN 80) m
 x.2.2) (HR (λI1 e=>aA (I1 e) j9 (aA bJ (aH s) (aA (aY s) (aZ e.1) (aA (bP v) (m=m) (bR x.2.2 e.2))))) (λI1 D e=>I1 e->aW (↑e.1:Int) (aF s) (aJ (λb o=>aI (aK s.a b o) (0<=(↑e.1:Int)) ((↑e.1:Int)<aF s) (∃(y:Sl),aR m e.2 b (bE o e.1 1) (aM y)/\∃(I2:Nat×Sl×Nat×PH->Prop)(f:Nat×Sl×Nat×PH->Nat),(∃(c:Nat×Sl×Nat×PH),aA (I2 c) j9 (aA bJ (bV e.1 (qY c)) (aA (bA y (oU c)) (aH s) (aA (aY s) (bV e.1 (qY c)) (aA (bA y (oU c)) (cJ y (oU c)) (aA (aZ c.1) (bP v) (bG m m e.2 (wA c))))))))/\∀(c:Nat×Sl×Nat×PH),I2 c->aW (↑c.1:Int) (aF (oU c)) (aJ (λE F=>aI (aK (oU c).a E F) (0<=(↑c.1:Int)) ((↑c.1:Int)<aF
 (oU c)) (∃(z:Sl),aR m (wA c) E (bE F c.1 1) (aM z)/\qS (λG A=>∃(t:Int),nB (λH r=>aA (cV (cD v) (fN (↑(qY c):Int)::fW z 3)=cV (cD G) (fN t::fW H 3)) (fR (wA c) A G) (aA (bT (wA c) H r) (eZ (vC A t)) (mY (!(UG A t r)) (K (fN 80) m (wA c)) (↑c.1:Int) 0 (aJ (λg j=>aI (aK (oU c).a g j) (0<=HQ c) (HQ c<aF (oU c)) (∃(n:Sl),aR m (wA c) g (cC j (HQ c) 1) (aM n)/\Kh v (qY c) n (wA c) (λL J=>bZ J g (cC j (HQ c) 1) (aM n)/\Kh v (qY c) z J (λM u=>bZ u g (cC j (HQ c) 1) (aM n)/\sF L M u (λa O=>eK (dQ a O) 0 (K (fN 80) m u) (∃(d:Nat×Sl×Nat×PH),aA (I2 d) (f d<
 f c) (aA j9 bJ (aA (bV (qY c) (qY d)) (bA (oU c) (oU d)) (aA (aH s) (aY s) (aA (bV (qY c) (qY d)) (bA (oU c) (oU d)) (aA (cJ (oU c) (oU d)) (eR (bF ((↑c.1:Int)+1))=bL d.1) (bS (bP v) m m u (wA d)))))))))))))) (∃(d:Nat×Sl×Nat×PH),aA (I2 d) (f d<f c) (aA j9 bJ (aA (bV (qY c) (qY d)) (bA (oU c) (oU d)) (aA (aH s) (aY s) (aA (bV (qY c) (qY d)) (bA (oU c) (oU d)) (aA (cJ (oU c) (oU d)) (eR (bF ((↑c.1:Int)+1))=bL d.1) (bS (bP v) m m (wA c) (wA d))))))))))))))) (∃(d:Nat×PH),aA (I1 d) (D d<D e) (aA j9 bJ (aA (aH s) (aY s) (aA (eR (bF ((↑(qY c):Int)+1))=bL d.1) (bP
 v) (bG m m (wA c) d.2)))))))) (K (fN 0) m e.2))))))
theorem cbQ{v:bX}{t:Int}{sl:Sl}{r:dp}(hs:fR h s v)(P:bT h sl r)(e:vC s t=true)(z:K (cB (UG s t r)) m h):Mx v t sl m h K:=by
 dsimp only[Mx,push_cast];have a':=hs.tables.slen;have a0:=bI.slen P;have a1:=bI.len P;have B:=e;simp only[vC,cz,dc]at B;obtain⟨f,F⟩:∃f,s.tables[t.toNat]? =some f:=⟨_,cq aC⟩
 obtain⟨b,o,y,G,rd,Q⟩:=bI.at hs.tables F;rw[PR F e]at z;have a2:=bI.slen Q.columns;have hk:=Q.key;refine aD (λh1=>by omega) (λ_=>aD (λh1=>by omega) (λ_=>⟨b,o,G,B.1,aC,y.columns,.imm (bZ.part rd 1 1),aB (λR=>?_) (λR=>?_)⟩))
 .have:Bh f r=false:=by
   cases S:Bh f r with
   |false=>rfl
   |true=>
    have:=(Cv.1 S).1;simp at R;omega
  rw[this]at z;exact z
 have T:r.length=f.columns.length:=by simp at R;omega
 have bad:∀i,i<r.length->w7 f.key (f.columns.getD i ⟨⟨#[]⟩,0⟩).kind i (r.getD i zeroV)=false->K (cB false) m h:=λi hi C=>by
  have:Bh f r=false:=by
   cases S:Bh f r with
   |false=>rfl
   |true=>rw[(Cv.1 S).2 i hi]at C;cases C
  rw[this]at z;exact z
 refine⟨λi=>i<=r.length/\∀j,j<i->w7 f.key (f.columns.getD j ⟨⟨#[]⟩,0⟩).kind j (r.getD j zeroV)=true,λi=>r.length-i,⟨0,⟨bx,λj U=>by simp at U⟩,MT⟩,?_⟩;rintro i ⟨hi,u⟩;refine aD (λa3=>?_) (λa4=>?_)
 .have H:i<r.length:=by omega
  have hx:r[i]? =some (r.getD i zeroV):=by rw[getD_eq_getElem?_getD,cq H];rfl
  obtain⟨b2,o2,x,V,I,W⟩:=bI.at P hx;subst W;have hc:f.columns[i]? =some (f.columns.getD i ⟨⟨#[]⟩,0⟩):=by rw[getD_eq_getElem?_getD,cq aC];rfl
  obtain⟨b3,o3,c,X,Y,Z⟩:=bI.at Q.columns hc;have d:=bad i H
  have n:w7 f.key (f.columns.getD i ⟨⟨#[]⟩,0⟩).kind i (r.getD i zeroV)=true->∀j,j<i+1->w7 f.key (f.columns.getD j ⟨⟨#[]⟩,0⟩).kind j (r.getD j zeroV)=true:=λC j U=>by
   by_cases A:j=i
   .rw[A];exact C
   .exact u j aC
  generalize r.getD i zeroV=x at d n I hx;rw[Z]at d n;refine⟨b2,o2,V,aC,aC,x,.imm I,x,rfl,aB (λev=>d ?_) (λev=>?_)⟩
  .have ev:jW x=false:=cm ev
   simp[w7,ev]
  have ev:jW x=true:=cm ev
  have g:w7 f.key c.kind i x=(x.kind==c.kind||((x.kind==2||x.kind==1)&&decide (y.key<=(i:Int)))):=by
   rw[hk];simp only[w7,ev,Bool.true_and]
  refine⟨b,o,G,B.1,aC,y.columns,.imm (bZ.part rd 1 1),b3,o3,X,aC,aC,c.kind,.imm (bZ.part Y 1 1),?_⟩;have fin:w7 f.key c.kind i x=true->∃k:Nat,(k<=r.length/\∀j,j<k->w7 f.key (f.columns.getD j ⟨⟨#[]⟩,0⟩).kind j (r.getD j zeroV)=true)/\r.length-k<r.length-i/\IntKind.i64.wrap ((i:Int)+1)=(k:Int):=λC=>⟨i+1,⟨aC,n C⟩,aC,fD aC⟩
  refine aB (λD=>?_) (λD=>aB (λe4=>⟨b,o,G,B.1,aC,y.key,.imm (bZ.part rd 2 1),aD (λJ=>?_) (λJ=>aB (λA=>⟨b,o,G,B.1,aC,y.key,.imm (bZ.part rd 2 1),aD (λE=>(J E).elim) (λE=>d ?_)⟩) (λA=>d ?_))⟩) (λe4=>aB (λA=>⟨b,o,G,B.1,aC,y.key,.imm (bZ.part rd 2 1),aD (λE=>?_) (λE=>d ?_)⟩) (λA=>d ?_)))
  .obtain⟨k,L,M,O⟩:=fin (by rw[g,D];rfl);exact⟨k,L,M,by rw[O];exact MT⟩
  .obtain⟨k,L,M,O⟩:=fin (by rw[g,e4,decide_eq_true J];simp);exact⟨k,L,M,by rw[O];exact MT⟩
  .rw[g,D,decide_eq_false J];simp
  .rw[g,D,decide_eq_false J];simp
  .obtain⟨k,L,M,O⟩:=fin (by rw[g,A,decide_eq_true E];simp);exact⟨k,L,M,by rw[O];exact MT⟩
  .rw[g,D,decide_eq_false E];simp
  .rw[g,D,e4,A];rfl
 .have:Bh f r=true:=Cv.2 ⟨T,λj U=>u j aC⟩;rw[this]at z;exact z
theorem acJ:di 105 ciZ:=by
 refine fU func105 ?_;rintro d m h K ⟨v,s,t,c,r,rfl,e,f,g,j⟩;refine⟨bBX t v c m h,rfl,aE Qk aG,Mx v t c m h K,bu,?_⟩;exact cbQ e f g j
theorem aeX(st:List dm)(i:Nat):mQ (st.take i)<=mQ st:=by
 induction st generalizing i with
 |nil=>simp[mQ]
 |cons a l c=>
  cases i with
  |zero=>
   have:=c 0;simp only[mQ,take_zero,map_nil,sum_nil,map_cons,sum_cons]at this⊢
   omega
  |succ i=>
   have:=c i;simp only[mQ,take_succ_cons,map_cons,sum_cons]at this⊢
   omega
theorem aRZ:di 61 awJ:=by
 refine DS func61 ?_;rintro b8 m h K ⟨v,s,sl,c,rfl,hs,hl,hn,hK⟩;refine⟨b0J v sl m,rfl,aE L5 (aE acJ (aE L6 (aE Aa aG))),P4 v sl m h (jF h K),bu,?_⟩;show P4 v sl m h (jF h K);dsimp only[P4,push_cast];have b9:=hs.tables.slen;have a3:=bI.slen hl;have out:∀(g:PH)(x:Int),PH.le h g->jP s c=x->jF h K (.val (.int .i64 x)) m g:=λg x V e=>.out (Sub.refl m) V (by rw[<-e];exact hK);refine⟨v,s,rfl,hs,aB (λe=>out h _ (.refl _) (by unfold jP;rw[if_pos (cm e)])) (λe=>?_)⟩;have e:cQ s=0:=cm e
 have h8:=zH e;refine⟨λz=>h=z.2.2/\z.1<=c.length/\z.2.1=mQ (c.take z.1)/\0<=z.2.1/\z.2.1<=512,λz=>c.length-z.1,⟨(0,0,h),⟨rfl,bx,by simp[mQ],bx,bx⟩,MT⟩,?_⟩;rintro⟨i,n,_⟩ ⟨rfl,hi,O,n0,n5⟩;dsimp only at hi O n0 n5⊢
 refine aD (λW=>?_) (λa4=>?_)
 .obtain⟨l,g⟩:=dO a3 W;obtain⟨b,o,u,ea,rd,J⟩:=bI.at hl g;have X:=bI.slen J;have c':=bI.len J;have a7:=Qx g;refine⟨b,o,ea,aC,aC,u,.imm rd,?_⟩;rw[dL aC aC];refine aD (λY=>out _ _ (.refl _) ?_) (λY=>⟨(i+1,n+u.len,_),⟨rfl,?_,?_,?_,?_⟩,?_,?_⟩)
  .unfold jP;rw[if_neg aC,if_pos];have:=aeX c (i+1);unfold mQ at*
   omega
  .have:=(cn g);exact this
  .show n+(u.len:Int)=mQ (c.take (i+1));rw[a7,O,X]
  .show 0<=n+(u.len:Int);omega
  .show n+(u.len:Int)<=512;omega
  .show c.length-(i+1)<c.length-i;omega
  .rw[dL aC aC,fD aC];exact MT
 have Z:¬512<(c.map λl=>(l.length:Int)).sum:=by
  rw[cu aC]at O;unfold mQ at O;omega
 refine aB (λe3=>out _ _ (.refl _) ?_) (λe3=>?_)
 .unfold jP;rw[if_neg aC,if_neg Z,if_pos (by simp at e3;omega)]
 have S:c.length=s.tables.length:=by simp at e3;omega
 have ok:IN s c->jP s c=0:=λY=>by
  unfold jP;rw[if_neg aC,if_neg Z,if_neg (by simp[S]),if_pos Y]
 have bad:∀(g:PH),PH.le h g->¬IN s c->jF h K (cI 80) m g:=λg V Y=>out g 80 V (by
  unfold jP;rw[if_neg aC,if_neg Z,if_neg (by simp[S]),if_neg Y])
 clear O n0 n5 a4 hi i n;refine⟨λz=>PH.le h z.2/\z.1<=c.length/\∀(j:Nat) t l,j<z.1->s.tables[j]? =some t->c[j]? =some l->Ry t l,λz=>c.length-z.1,⟨(0,_),⟨.refl _,bx,λj t l hj=>by simp at hj⟩,MT⟩,?_⟩;rintro⟨i,g⟩ ⟨le,hi,C⟩;dsimp only at le hi C⊢
 refine aD (λW=>?_) (λa4=>?_)
 .obtain⟨l,a'⟩:=dO a3 W;have a8:Leaves g sl c:=bI.mono hl le λl s J=>bI.mono J le λr t hv=>bT.mono hv le;obtain⟨b,o,u,ea,rd,J⟩:=bI.at a8 a';have X:=bI.slen J;have c0:=bI.len J;obtain⟨L,d⟩:∃L,s.tables[i]? =some L:=⟨_,cq aC⟩
  have c1:=h8 L (cr d);have P:vC s (i:Int)=true:=by simp[vC];omega
  have T:∀f,PH.le h f->¬Ry L l->jF h K (cI 80) m f:=λf le Y=>bad f le λD=>Y (D i L l d a');refine⟨b,o,ea,aC,aC,u,.imm rd,λz=>z.2.2.1=i/\z.2.1=u/\PH.le g z.2.2.2/\z.1<=l.length/\(∀k r,k<z.1->l[k]? =some r->Bh L r=true)/\∀k r r',k+1<z.1->l[k]? =some r->l[k+1]? =some r'->dQ (mP L r) (mP L r')<0,λz=>l.length-z.1,⟨(0,u,i,g),⟨rfl,rfl,.refl _,bx,λk r M=>by simp at M,λk r r' M=>by simp at M⟩,MT⟩,?_⟩;rintro⟨j,u',E,f⟩ ⟨e1,e2,y,hj,A,F⟩;dsimp only at e1 e2 y hj A F⊢
  subst e1 e2;refine aD (λa5=>?_) (λb7=>?_)
  .obtain⟨r,G⟩:=dO X a5;have a6:Go.Ps.Rows f u' l:=bI.mono J y λr t hv=>bT.mono hv y;obtain⟨b2,o2,w,a9,b',hv⟩:=bI.at a6 G;have H:=le.trans y;refine⟨b2,o2,a9,aC,aC,w,.imm b',v,s,E,w,r,rfl,hs.mono H,hv,P,aB (λef=>T _ H λD=>?_) (λef=>?_)⟩
   .rw[Oz d,D.1 r (cr G)]at ef;cases ef
   have hf:Bh L r=true:=by rw[Oz d]at ef;simpa using ef
   have I:∀k r,k<j+1->l[k]? =some r->Bh L r=true:=λk r' M a0=>by
    by_cases e5:k=j
    .subst e5;rw[G]at a0;cases a0;exact hf
    .exact A k r' aC a0
   have c2:=(Ie hf).1;refine aD (λb0=>?_) (λb0=>?_)
   .have hw:IntKind.i64.wrap ((j:Int)-1)=((j-1:Nat):Int):=by rw[dL aC aC];omega
    obtain⟨r0,Q⟩:∃r0,l[j-1]? =some r0:=⟨_,cq aC⟩
    obtain⟨b3,o3,w3,b1,a1,b4⟩:=bI.at a6 Q;have c3:=(Ie (A (j-1) r0 aC Q)).1;rw[hw];refine⟨b3,o3,b1,aC,aC,w3,.imm a1,v,s,E,w3,r0,rfl,hs.mono H,b4,aC,λs1 h3 B b5=>⟨a1.mono B,v,s,E,w,r,rfl,hs.mono (H.trans B),bT.mono hv B,aC,λs2 h4 R b6=>⟨(a1.mono B).mono R,s1,s2,_,_,rfl,bT.mono b5 R,b6,aD (λO=>T _ ((H.trans B).trans R) λD=>?_) (λO=>?_)⟩⟩⟩
    .rw[AT d,AT d]at O;have:=D.2 (j-1) r0 r Q (by rw[show j-1+1=j by omega];exact G);omega
    .rw[AT d,AT d]at O;refine⟨(j+1,u',E,h4),⟨rfl,rfl,(y.trans B).trans R,ck,I,λk r1 r2 M U f=>?_⟩,cj,?_⟩
     .by_cases e5:k+1=j
      .have:k=j-1:=by omega
       subst this;rw[Q]at U;rw[e5,G]at f;cases U;cases f;omega
      .exact F k r1 r2 (by have:k+1<j+1:=M;omega) U f
     .dsimp only;rw[fD aC];exact MT
   .refine⟨(j+1,u',E,f),⟨rfl,rfl,y,ck,I,λk r1 r2 M U f=>by have:k+1<j+1:=M;omega⟩,cj,?_⟩;dsimp only;rw[fD aC];exact MT
  .refine⟨(E+1,f),⟨le.trans y,ck,λk t l' M ht a2=>?_⟩,cj,?_⟩
   .by_cases e5:k=E
    .subst e5;rw[d]at ht;cases ht;rw[a']at a2;cases a2;refine⟨λr J=>?_,λk r r' U f=>F k r r' ?_ U f⟩
     .obtain⟨n,hn,rfl⟩:=mem_iff_getElem.1 J;exact A n _ aC (cq hn)
     .have:=(cn f);omega
    .exact C k t l' (by have:k<E+1:=M;omega) ht a2
   .rw[fD aC];exact MT
 .exact out g 0 le (ok λj t l U f=>C j t l (by have:=(cn f);omega) U f)
def azQ:Vc.Spec:=λd m h K=>∃e p r s c ts rs,d=[XJ e,aPl p r]/\GW h e c/\jV h p r ts rs/\jP s c=0/\ts.length<=1024/\AZ s c ts/\∀f h',PH.le h h'->Leaves h' f (sT c ts)->K (cS f) m h'
noncomputable def Re(s:lL)(ts:dv)(rs:dl)(st:List dm):List dm:=if wC s ts rs st=0 then sT st ts else[]
def ayJ:Vc.Spec:=λd m h K=>∃sc e p r s c ts rs,d=[aS sc,XJ e,aPl p r]/\fR h s sc/\GW h e c/\jV h p r ts rs/\(eE s ts rs=0->jP s c=0->AZ s c ts)/\
 ∀f h',PH.le h h'->Leaves h' f (Re s ts rs c)->K (.tup [cS f,cI (wC s ts rs c)]) m h'
def XM:Vc.Spec:=λc m h K=>∃s t l,c=[cS s,cS t]/\Leaves h s l/\Leaves h t l/\K (cB true) m h
noncomputable def bZQ(sl p:Sl):Ctx:=rI [(132,ayQ),(131,U8),(133,bKJ)] [(3,{A:=Nat×Sl×MH×PH,st:=λ⟨i,w,m,h⟩=>bO 46 48 [(2,.at (.ptr 2 0)),(5,sv w),(9,sv p),(10,iv p.len),(11,iv i)] [(2,.cells 25 [.val (.slice sl.a sl.len sl.cap)])] m h})] [] [] [0,1023] [] false
noncomputable def b4Q(s t:Sl)(m:MH)(h:PH):Ctx:=cT [(21,cgZ)] [(4,{A:=Nat,st:=λi=>bO 27 29 [(0,sv s),(1,sv t),(12,iv s.len),(13,iv i)] [] m h})] [] [] false
def P0(sl p r:Sl)(m:MH)(h:PH)(K:dk):Prop:=
  Fh (λI x=>aA (I x) cW (aA (sQn=Ye (gR x)) (aH p) (aA (aY p) (aZ x.1) (aA (mK sl) (m=eJ x) (bR h (fB x)))))) (λI E x=>I x->aW (↑x.1:Int) (aF p) (aJ (λb o=>aI (aK p.a b o) (0<=(↑x.1:Int)) ((↑x.1:Int)<aF p) (∃(y:gA),aR (eJ x) (fB x) b (bE o x.1 22) y.enc/\dD y.op 1 (aJ (λd e=>aI (aK sl.a d e) (0<=y.table) (y.table<aF sl) (∃(f:Sl),aR (eJ x) (fB x) d (cC e y.table 1) (aM f)/\Fq (λs l=>aA (eY f=eY s) (Rows (fB x) s l) (aA (mZ l) (∀(G:dp),List.Mem G l->Co G) (fT (λC g=>dN (fB x) g (Rows g C (Bb l)) (C0 (eJ x) (gR x) 53 1 (λF=>jN (λD u=>dY (eJ x) u (cX (gR x)) D 53 1 (eG F (aM C))->∃(c:Nat×
 Sl×MH×PH),aA (I c) (E c<E x) (aA cW (bA D (gR c)) (aA (aH p) (aY p) (aA (eR (bF ((↑x.1:Int)+1))=bL c.1) (mK sl) (bG u (eJ c) g (fB c))))))))))))))) (aJ (λd e=>aI (aK (gR x).a d e) (0<=y.left) (y.left<aF (gR x)) (∃(f:Sl),aR (eJ x) (fB x) d (cC e y.left 1) (aM f)/\aJ (λz A=>aI (aK (gR x).a z A) (0<=y.right) (y.right<aF (gR x)) (∃(B:Sl),aI (aR (eJ x) (fB x) z (cC A y.right 1) (aM B)) (aR (eJ x) (fB x) d (cC e y.left 1) (aM f)) (aR (eJ x) (fB x) z (cC A y.right 1) (aM B)) (Ke y (fB x) (λv g=>aA (aR (eJ x) g d (cC e y.left 1) (aM f)) (aR (eJ x) g z (cC A y.right 1) (aM B)) (∃(n:QV),gQ (λs t=>∃(q:Query)(l
 :List dm)(w:Nat),aA (cV v.enc (dK f B)=cV n.enc (dK s t)) (dZ g q n) (aA (Rows g s (List.getD l 0 [])) (Rows g t (List.getD l 1 [])) (aA (2<=n.op) (n.op<=10) (aA (LM n.op q l) (gT w (Q8 n.op q l)) ((n.op=6->(List.getD l 0 []).length+(List.getD l 1 []).length<=8000000)/\fT (λC j=>dN g j (Rows j C (Q8 n.op q l)) (aA (aR (eJ x) j d (cC e y.left 1) (aM f)) (aR (eJ x) j z (cC A y.right 1) (aM B)) (aA (aR (eJ x) j d (cC e y.left 1) (aM f)) (aR (eJ x) j z (cC A y.right 1) (aM B)) (C0 (eJ x) (gR x) 53 1 (λF=>jN (λD u=>dY (eJ x) u (cX (gR x)) D 53 1 (eG F (aM C))->aA (aR u j d (cC e y.left 1) (aM f)) (aR u j z (cC A y.right 1) (aM B)) (∃(c:Nat×
 Sl×MH×PH),aA (I c) (E c<E x) (aA cW (bA D (gR c)) (aA (aH p) (aY p) (aA (eR (bF ((↑x.1:Int)+1))=bL c.1) (mK sl) (bG u (eJ c) j (fB c)))))))))))))))))))))))))))) (K (F9 (gR x)) (eJ x) (fB x)))
abbrev Oh(a:Sl->Sl->Sl->lL->(List dm)->dv->dl->Prop):Prop:=gQ (λx c=>∃(d:Sl)(e:lL)(f:List dm),Pq (λg j=>a x c d e f g j))
attribute [push_cast] Oh
def WT(sc:bX)(sl p r:Sl)(m:MH)(h:PH)(K:dk):Prop:=
  ∃(s:bX),gQ (λo u=>∃(f:lL),Pq (λt g=>aI (fY (cD sc) (kP p r)=fY (cD s) (kP o u)) (fR h f s) (jV h o u t g) (∀(_:Sl),cK (eE f t g) 0 (K (CV.tup (bD iO (eE f t g))) m h) (qS (λv j=>Ja (λx c=>aA (cV (cD sc) (fO 3 (gV (aM sl)))=cV (cD v) (fO 3 (gV (aM x)))) (fR h j v) (aA (Leaves h x c) (nA c.length) (cK (jP j c) 0 (K (CV.tup (bD iO (jP j c))) m h) (Oh (λy z A B d e D=>aA (fY (aM sl) (kP p r)=fY (aM y) (kP z A)) (GW h y d) (aA (jV h z A e D) (jP B d=0) (aA (e.length<=1024) (AZ B d e) (fT (λC n=>dN h n (Leaves n C (sT d e)) (hJ K C m n)))))))))))))))
def WS(s t:Sl)(m:MH)(h:PH)(K:dk):Prop:=
  cK (aF s) (aF t) (K aX m h) (j6 (λI x=>aA (I x) (aH s) (aA (aH t) (aY s) (bS (aZ x) m m h h))) (λI d x=>I x->aW (↑x:Int) (aF s) (aJ (λb o=>aI (aK s.a b o) (0<=(↑x:Int)) ((↑x:Int)<aF s) (∃(y:Sl),aR m h b (bE o x 1) (aM y)/\aJ (λe f=>aI (aK t.a e f) (0<=(↑x:Int)) ((↑x:Int)<aF t) (∃(g:Sl),aR m h e (bE f x 1) (aM g)/\gQ (λj n=>∃(a u:dm),aI (dK y g=dK j n) (Rows h j a) (Rows h n u) (∀(r:Bool),eT (eZ r↔a=u) (!r) (K aX m h) (∃(c:Nat),aA (I c) (d c<d x) (aA (aH s) (aH t) (aA (aY s) (eR (bF ((↑x:Int)+1))=bL c) (aA (m=m) (h=h) True))))))))))) (K dR m h)))
theorem amJ{st:List dm}{ks:dl}{c:Nat}(d:jP s st=0)(n:Vj st)(o:∀l∈st,l.length<=c)(u:1<=c)(e:bM s ps q=(ks,0))(z:gW c q<=8000000):(nX st q).length<=gW c q:=by
 have f:∀(j:Nat)(t:Int),(nN q)[j]? =some t->(sQ st q)[0+j]? =some (st.getD t.toNat []):=λj t h=>by rw[Nat.zero_add,sQ,getElem?_map,h];rfl
 have x:=Qt u (ls:=sQ st q) (k:=0) e ⟨λj t h=>⟨_,f j t h,by
  have g:=Gn e t (cr h);have:=a6J d n g.1 g.2;exact⟨this.1,o _ this.2⟩⟩⟩ z
 have y:=Mz (st:=st) (ls:=sQ st q) (k:=0) e ⟨λj t h=>by rw[getD_eq_getElem?_getD,f j t h];rfl⟩;rw[show nX st q=(A3 (sQ st q) q 0).1 by rw[y]];exact x.bnd
theorem NC{m:MH}{h:PH}{s:Sl}{E sz:Nat}{xs:List dj}(r:dC m s E sz xs){i:Nat}{e:dj}(d:xs[i]? =some e){b o:Nat}(f:s.a=some ⟨b,o,none⟩):aR m h b (o+i*sz) e:=by
 obtain⟨g,j,c,rd⟩:=dC.rdAt (h:=h) r d;rw[f]at c;cases c;exact rd
theorem bfX{s j:Sl}{E:Nat}{n:List dj}(r:dC m s E sz xs)(g:dY m m' s j E sz (xs++n)){e:dj}(c:xs[i]? =some e){o:Nat}(f:s.a=some ⟨b,o,none⟩):aR m' h b (o+i*sz) e:=by
 rcases g.old with d|d
 .exact NC g.row (by rw[getElem?_append_left (cn c)];exact c) (by rw[d];exact f)
 .rcases NC (h:=h) r c f with hr|⟨cs,E,fz,hm,hl⟩
  .exact .imm hr
  .exact .lent cs E fz (d _ _ hm) hl
theorem aQX:di 71 azQ:=by
 refine Wm func71 ?_;rintro b8 m h K ⟨sl,p,r,s,st,ts,rs,rfl,C,x,Z,hn,B,hK⟩;refine⟨bZQ sl p,rfl,aE Jg (aE Jh (aE Z4 aG)),P0 sl p r m h (fJ h K),bu,?_⟩;show P0 sl p r m h (fJ h K);dsimp only[P0,push_cast];obtain⟨a4,_⟩:=x.slen;obtain⟨c,L,M,D⟩:=B.bnd;have ok:nH ts:=λi t e=>⟨B.ar i t e,GM (B.ar i t e) (B.fit i t e)⟩
 have kq:∀j,j<ts.length->bM s [] (bB ts j)=((bM s [] (bB ts j)).1,0):=λj O=>Prod.ext rfl (B.kinds j O);have R:∀j,j<ts.length->gT (bM s [] (bB ts j)).1.length (nX st (bB ts j)):=λj O=>(Ya Z C.val M L (kq j O) (D j O)).2.2.1;refine⟨λx=>x.1<=ts.length/\PH.le h x.2.2.2/\Sub m x.2.2.1/\(∀i b,x.2.1.a=some ⟨b,i,none⟩->m b=none)/\∃I:dn,I.length=x.1/\dC x.2.2.1 x.2.1 53 1 (I.map eS)/\∀j,j<x.1->∃u,I[j]? =some u/\Rows x.2.2.2 u (nX st (bB ts j)),λx=>ts.length-x.1,⟨(0,cG,m,h),⟨Nat.zero_le _,.refl _,Sub.refl m,(λi b e=>by cases e),[],rfl,dC.nil _ _ _,λj O=>by omega⟩,MT⟩,?_⟩;rintro⟨i,w,mx,hx⟩ ⟨hi,le,sub,fr,I,P,d,E⟩;dsimp only at hi le sub fr P d E⊢
 have a5:=dC.slen d;rw[length_map]at a5;refine aD (λa6=>?_) (λb9=>?_)
 .obtain⟨t,f⟩:=dO a4 a6;obtain⟨b,o,y,ea,rd,W⟩:=x.at f;have Q:i<ts.length:=(cn f)
  have nx:∀(F:Sl)(G:PH),PH.le hx G->Rows G F (nX st (bB ts i))->∀(J:Sl)(m':MH),dY mx m' w J 53 1 (I.map eS++[[.slice F.a F.len F.cap]])->i+1<=ts.length/\PH.le h G/\Sub m m'/\(∀i b,J.a=some ⟨b,i,none⟩->m b=none)/\∃T:dn,T.length=i+1/\dC m' J 53 1 (T.map eS)/\∀j,j<i+1->∃u,T[j]? =some u/\Rows G u (nX st (bB ts j)):=λF G n U J m' g=>by
   refine⟨aC,le.trans n,λb o e=>?_,λi b e=>?_,I++[F],by simp[P],by rw[cv];exact g.row,λj O=>?_⟩
   .exact g.other b o (sub b o e) λk X=>by rw[fr k b X]at e;cases e
   .rcases g.fresh b i e with X|⟨k,X⟩
    .cases e4:m b with
     |none=>rfl
     |some o=>rw[sub b o e4]at X;cases X
    .exact fr k b X
   .by_cases a7:j<i
    .obtain⟨u,h1,h2⟩:=E j a7;exact⟨u,by rw[getElem?_append_left aC];exact h1,bI.mono h2 n (λ_ _ h=>bT.mono h n)⟩
    .have:j=i:=by omega
     subst this;exact⟨F,by rw[getElem?_append_right aC,P,Nat.sub_self];rfl,U⟩
  have Ri:=R i Q;have hq:=kq i Q;rw[fD aC];refine⟨b,o,ea,aC,aC,y,.imm (rd.mono le),aB (λe=>?_) (λe=>?_)⟩
  .have z:t.op=1:=by rw[<-W.op_];exact eq_of_beq e
   rw[iC ok f]at hq;have a8:=Gn hq t.table (by rw[nN,if_pos z];simp);have c':=bI.slen C.lea;have b7:=(OO Z).2.1;have a':st[t.table.toNat]? =some (st.getD t.table.toNat []):=by rw[getD_eq_getElem?_getD,cq aC];rfl
   obtain⟨b2,o2,u,a9,b',hu⟩:=bI.at C.lea a';have hF:nX st (bB ts i)=st.getD t.table.toNat []:=by rw[iC ok f,nX,if_pos z]
   rw[hF]at Ri;rw[W.table_];exact⟨b2,o2,a9,a8.1,aC,u,.imm (b'.mono le),u,_,rfl,bI.mono hu le (λ_ _ h=>bT.mono h le),Ri.len,(λr U=>by have:=(Ri.row r U).len;omega),λF G n U=>⟨_,d,cd,cd,λJ m' g=>⟨(i+1,J,m',G),nx F G n (by rw[hF, <-RG Ri.srt];exact U) J m' g,cj,MT⟩⟩⟩
  .have z:t.op≠1:=by rw[<-W.op_];exact ne_of_beq_false e
   have h0:=B.ar i t f;have h2:=vO t.op;have c0:arity t.op≠0:=λe=>z (wM e);have S:=VZ (op:=t.op) aC;have a0:=(ok i t f).2;have hA:arity t.op=1\/arity t.op=2:=by omega
   have hL:0<=t.left/\t.left<i:=a0 _ (by rcases hA with e|e<;>simp[kV,e])
   have hR:0<=t.right/\t.right<i:=by
    rcases hA with e|e
    .have:=(PQ (B.fit i t f)).2 aC;omega
    .exact a0 _ (by simp[kV,e])
   obtain⟨u1,b0,b1⟩:=E t.left.toNat aC;obtain⟨u2,b3,b4⟩:=E t.right.toNat aC;have V:(I.map eS)[t.left.toNat]? =some [.slice u1.a u1.len u1.cap]:=by rw[getElem?_map,b0];rfl
   have Y:(I.map eS)[t.right.toNat]? =some [.slice u2.a u2.len u2.cap]:=by rw[getElem?_map,b3];rfl
   obtain⟨bw,ow,A,_⟩:=dC.rdAt (h:=hx) d V;have a1:=D i Q;have bn:=vM (c:=c) ok f;rw[iC ok f]at hq a1;have x1:=V2 Z C.val M L hq a1 z;rw[Ha,rJ,map_map]at x1;have x2:=Vy (st:=st) ok f z
   have x3:LM t.op t.query [nX st (bB ts t.left.toNat),nX st (bB ts t.right.toNat)]/\nX st (bB ts i)=Q8 t.op t.query [nX st (bB ts t.left.toNat),nX st (bB ts t.right.toNat)]:=by
    rcases hA with e|e
    .rw[show kV t=[t.left]by simp[kV,e]]at x1 x2;exact⟨V1 e (Hd▸x1) ⟨_,R _ aC⟩,by rw[x2,aoX e];rfl⟩
    .rw[show kV t=[t.left,t.right]by simp[kV,e]]at x1 x2;exact⟨Hd▸x1,x2⟩
   have x6:t.op=6->(nX st (bB ts t.left.toNat)).length+(nX st (bB ts t.right.toNat)).length<=8000000:=λe=>by
    have l1:=amJ Z C.val M L (kq t.left.toNat aC) (D _ aC);have l2:=amJ Z C.val M L (kq t.right.toNat aC) (D _ aC)
    have b6:bN c t (λj=>gW c (bB ts j))=gW c (bB ts t.left.toNat)+gW c (bB ts t.right.toNat):=by
     unfold bN;rw[if_neg z,if_neg aC,if_neg (by rw[e];decide)]
    have:=D i Q;omega
   rw[W.left_,W.right_];refine⟨bw,ow,A,hL.1,aC,u1,NC d V A,bw,ow,A,hR.1,aC,u2,NC d Y A,NC d V A,NC d Y A,y,t,rfl,W.mono le,λv' h' H a2=>⟨NC d V A,NC d Y A,v',u1,u2,t.query,[nX st (bB ts t.left.toNat),nX st (bB ts t.right.toNat)],(bM s [] (bB ts i)).1.length,rfl,a2,bI.mono b1 H (λ_ _ h=>bT.mono h H),bI.mono b4 H (λ_ _ h=>bT.mono h H),?_⟩⟩;have hv:v'.op=t.op:=a2.parts.op_;rw[hv];refine⟨S.1,S.2,x3.1,by rw[<-x3.2];exact Ri,x6,λF G b5 U=>⟨NC d V A,NC d Y A,NC d V A,NC d Y A,_,d,cd,cd,λJ m' g=>⟨bfX d g V A,bfX d g Y A,(i+1,J,m',G),nx F G (H.trans b5) (by rw[x3.2];exact U) J m' g,cj,MT⟩⟩⟩
 .have:i=ts.length:=by omega
  subst this
  exact fJ.rowG (vs:=I.map λu=>.slice u.a u.len u.cap) sub le (by rw[map_map];exact d) fr λh' n a3=>hK w h' (le.trans n) ⟨⟨I,by rw[map_map]at a3;exact a3,by simp[sT,P],λj l hl=>by
   unfold sT at hl;rw[getElem?_map,Option.map_eq_some_iff]at hl;obtain⟨k,hk,rfl⟩:=hl;have O:=(cn hk);rw[length_range]at O;rw[getElem?_range O]at hk;cases hk;obtain⟨u,h1,h2⟩:=E j aC;exact⟨u,h1,bI.mono h2 n (λ_ _ h=>bT.mono h n)⟩⟩,by simp[sT];omega⟩
theorem aUQ:di 26 ayJ:=by
 refine fU func26 ?_;rintro z m h K ⟨sc,n,p,r,s,d,ts,rs,rfl,y,f,x,A,g⟩;refine⟨cT [(70,FU),(61,awJ),(71,azQ)] [] [] [] false,rfl,aE aQZ (aE aRZ (aE aQX aG)),WT sc n p r m h K,bu,?_⟩;dsimp only[WT,push_cast];have c:Leaves h cG []:=bI.nil _ _ _ _;refine⟨sc,p,r,s,ts,rs,rfl,y,x,λD=>aB (λe=>?_) (λe=>?_)⟩
 .have e:eE s ts rs≠0:=cm e
  have j:wC s ts rs d=eE s ts rs:=by unfold wC;rw[if_pos e]
  have:=g cG h (.refl _) (by unfold Re;rw[j,if_neg e];exact c);rw[j]at this;exact this
 have o:eE s ts rs=0:=cm e
 have j:wC s ts rs d=jP s d:=by unfold wC;rw[if_neg (by simp[o])]
 unfold Re at g;rw[j]at g;refine⟨sc,s,n,d,rfl,y,f.lea,f.len,aB (λe=>?_) (λe=>?_)⟩
 .have e:jP s d≠0:=cm e
  rw[if_neg e]at g;exact g cG h (.refl _) c
 have u:jP s d=0:=cm e
 rw[u,if_pos rfl]at g;exact⟨n,p,r,s,d,ts,rs,rfl,f,x,u,(Ei o).2.1,A o u,λB h' le C=>g B h' le C⟩
theorem aTZ:di 28 XM:=by
 refine fU func28 ?_;rintro C m h K ⟨s,t,l,rfl,d,A,D⟩;refine⟨b4Q s t m h,rfl,aE aXZ aG,WS s t m h K,bu,?_⟩;dsimp only[WS,push_cast];have c:=bI.slen d;have f:=bI.slen A;refine aB (λe=>by rw[c,f]at e;simp at e) (λ_=>⟨λi=>i<=l.length,λi=>l.length-i,⟨0,Nat.zero_le _,MT⟩,λi M=>aD (λg=>?_) (λ_=>D)⟩);obtain⟨x,j⟩:=dO c g;obtain⟨b,o,u,E,rd,F⟩:=bI.at d j;obtain⟨G,H,B,n,y,z⟩:=bI.at A j;have I:=(cn j);have J:=d.len;rw[fD aC];exact⟨b,o,E,aC,aC,u,.imm rd,G,H,n,aC,aC,B,.imm y,u,B,x,x,rfl,F,z,λr L=>aB (λe=>by rw[L.2 rfl]at e;cases e) (λ_=>⟨i+1,aC,cj,MT⟩)⟩
def cgJ:Vc.Spec:=λd m h K=>∃sc e p r s c ts rs,d=[aS sc,XJ e,aPl p r]/\fR h s sc/\GW h e c/\jV h p r ts rs/\gS m/\(eE s ts rs=0->jP s c=0->AZ s c ts)/\
 ∀f h',PH.le h h'->Leaves h' f (Re s ts rs c)->K (.tup [cS f,cI (wC s ts rs c)]) m h'
theorem YP:di 25 cgJ:=aHQ aUX λ_ m h K⟨sc,o,p,r,s,g,ts,rs,e,u,j,x,y,z,n⟩=>⟨sc,o,p,r,s,g,ts,rs,e,u,j,x,y,z,
 λf=>by
  have c:wC s ts rs g=eE s ts rs:=by unfold wC;rw[if_pos f]
  have:=n cG h (.refl _) (by unfold Re;rw[c,if_neg f];exact bI.nil _ _ _ _);rw[c]at this;exact this,
 λf d=>by
  have c:wC s ts rs g=jP s g:=by unfold wC;rw[if_neg (by simp[f])]
  have:=n cG h (.refl _) (by unfold Re;rw[c,if_neg d];exact bI.nil _ _ _ _);rw[c]at this;exact this,
 λf d A h' le B=>by
  have c:wC s ts rs g=0:=by unfold wC;rw[if_neg (by simp[f])];exact d
  have:=n A h' le (by unfold Re;rw[if_pos c];exact B);rw[c]at this;exact this⟩
theorem eC.off{m0:MH}{s t t':Sl}{E E':TypeId}{c:Nat}{g:List dj}(r:eC m0 m s E sz xs)(x:dY m m' t t' E' c g)(d:∀b i j,s.a=some ⟨b,i,none⟩->t.a≠some ⟨b,j,none⟩):eC m0 m' s E sz xs:=by
 refine⟨dC.keep r.row (λb i e=>?_),r.fresh⟩;obtain⟨n,f⟩:=dC.blk r.row e;rw[f];exact x.other b _ f (λj=>d b i j e)
theorem eC.ne{m0:MH}{s t:Sl}{E E':TypeId}{c:Nat}{g:List dj}(r:eC m0 m s E sz xs)(q:eC m0 m t E' c g)(n:E≠E'):∀b i j,s.a=some ⟨b,i,none⟩->t.a≠some ⟨b,j,none⟩:=λb i j e o=>by
 obtain⟨u,x⟩:=dC.blk r.row e;obtain⟨f,d⟩:=dC.blk q.row o;rw[x]at d;simp only[cw,Obj.cells.injEq]at d;exact n d.2.1
theorem eC.up{m0:MH}{s d:Sl}{E:TypeId}{f:List dj}(r:eC m0 m s E sz xs)(x:dY m m' s d E sz f)(k:∀b o,m0 b=some o->m b=some o\/∃o',m b=some o'):eC m0 m' d E sz f:=
 ⟨x.row,λb i e=>by
  rcases x.fresh b i e with c|⟨j,c⟩
  .cases g:m0 b with
   |none=>rfl
   |some o=>rcases k b o g with h|⟨_,h⟩<;>(rw[c]at h;cases h)
  .exact r.fresh b j c⟩
def cGQ(m0 m:MH):Prop:=∀b o,m0 b=some o->∃c,m b=some c
theorem Kept.held{m0:MH}(k:Kept m0 m cb)(c:aU m h cb):cGQ m0 m:=λb o e=>by
 by_cases d:b=cb
 .obtain⟨g,f⟩:=c.blk;exact⟨_,by rw[d];exact f⟩
 .exact⟨o,k b o e d⟩
theorem eC.upd{m0:MH}{s:Sl}{E E':TypeId}{c:Array Value}{o:Obj}(r:eC m0 m s E sz xs)(g:m b=some (.cells c E' (0,0)))(j:iD m m' b o)(n:E≠E'):eC m0 m' s E sz xs:=
 ⟨dC.keep r.row λu i e=>j.other u λx=>by
  obtain⟨f,d⟩:=dC.blk r.row e;rw[x,g]at d;simp only[cw,Obj.cells.injEq]at d;exact n d.2.1.symm,r.fresh⟩
section
variable{m0 m m':MH}{h h':PH}{cb:Nat}{w:Pred}{co gr:dl}{on:dq}{od:dr}{args:ds}{v:QV}{us:eh}
end
def Kp(m m':MH):Prop:=∀b o,m b=some o->m' b=some o
theorem Kp.held(k:Kp m m'):cGQ m m':=λb o e=>⟨o,k b o e⟩
theorem Kp.grown{c:MH}{s d:Sl}{E:TypeId}{f:List dj}(k:Kp m c)(x:dY c m' s d E sz f)(r:eC m c s E sz xs):Kp m m':=λb o e=>x.other b o (k b o e) λi g=>by rw[r.fresh b i g]at e;cases e
def zD(s t:Sl):Prop:=∀b i j,s.a=some ⟨b,i,none⟩->t.a≠some ⟨b,j,none⟩
structure Lq(m0 m:MH)(t:Sl)(us:dn)(l:dm):Prop where
 row:eC m0 m t 94 1 (us.map eS)
 len:us.length=l.length
 at_:∀(j:Nat) u r,us[j]? =some u->l[j]? =some r->eC m0 m u 27 3 (r.map VV.enc)
structure Ra(m0 m:MH)(w:Sl)(ts:dn)(uss:List dn)(st:List dm):Prop where
 row:eC m0 m w 53 1 (ts.map eS)
 len:ts.length=st.length
 ulen:uss.length=st.length
 at_:∀(i:Nat) t us l,ts[i]? =some t->uss[i]? =some us->st[i]? =some l->Lq m0 m t us l
 apT:ts.Pairwise zD
 apR:uss.flatten.Pairwise zD
def alQ:Vc.Spec:=λc m h K=>∃(s:Sl)(r:dp),c=[cS s]/\nC m h s 3 (r.map VV.enc)/\r.length<=1000000/\∀d m',dY m m' cG d 27 3 (r.map VV.enc)->K (cS d) m' h
def aDQ:Vc.Spec:=λd m h K=>∃f c,d=[XJ f]/\Leaves h f c/\c.length<=1000/\(∀l∈c,l.length<=1000000/\∀r∈l,r.length<=1000000)/\∀w ts e m',Ra m m' w ts e c->Kp m m'->K (XJ w) m' h
noncomputable def f52w_ctx(sl:Sl)(h:PH):Ctx:=
 rI [(55,alQ)] [(3,{A:=Nat×Sl×MH,st:=λ⟨i,w,m⟩=>bO 36 37 [(2,.at (.ptr 2 0)),(3,.at (.ptr 3 0)),(10,sv sl),(11,iv sl.len),(12,iv i)] [(2,.cells 25 [.val (.slice none 0 0)]),(3,.cells 25 [.val (.slice w.a w.len w.cap)])] m h}),
  (7,{A:=Nat×Sl×Sl×Nat×Sl×MH,st:=λ⟨j,t,u,i,w,m⟩=>bO 36 37 [(2,.at (.ptr 2 0)),(3,.at (.ptr 3 0)),(6,sv t),(10,sv sl),(11,iv sl.len),(12,iv i),(16,sv u),(17,iv u.len),(18,iv j)] [(2,.cells 25 [.val (.slice none 0 0)]),(3,.cells 25 [.val (.slice w.a w.len w.cap)])] m h})] [] [] [1053,1023] [] false
def af(s:Sl)(m:MH)(h:PH)(K:dk):Prop:=
  ∃(x:List dj),Cp (dC m xR 27 3 x) (λy=>aA (cZ 3 y) (nC m h (cX s) 3 y) (aA (mI x y 32) (mC x y) (jN (λc d=>dY m d xR c 27 3 (x++y)->K (F9 c) d h))))
noncomputable abbrev AL(a:Nat×Sl×Sl×Nat×Sl×MH):Sl:=a.2.2.1
abbrev rU(a b:Sl):Prop:=oQ 25 (kM (jR a))=oQ 25 (kM (jR b))
noncomputable abbrev H2(a:Nat×Sl×Sl×Nat×Sl×MH):Sl:=a.2.2.2.2.1
noncomputable abbrev Dn(a:Nat×Sl×Sl×Nat×Sl×MH):Nat->Option Obj:=a.2.2.2.2.2
abbrev KH(a:dp):Prop:=a.length<=1000000
attribute [push_cast] AL rU H2 Dn KH
def aq(sl:Sl)(m:MH)(h:PH)(K:dk):Prop:=
  ∃(I:Nat×Sl×MH->Prop)(g:Nat×Sl×MH->Nat),(∃(x:Nat×Sl×MH),aA (I x) cW (aA bJ (aH sl) (aA (aY sl) (aZ x.1) (aA pW (oQ 25 BV=oQ 25 (kM (jR x.2.1))) (bG m x.2.2 h h)))))/\∀(x:Nat×Sl×MH),I x->aW (↑x.1:Int) (aF sl) (aJ (λb o=>aI (aK sl.a b o) (0<=(↑x.1:Int)) ((↑x.1:Int)<aF sl) (∃(y:Sl),aR x.2.2 h b (bE o x.1 1) (aM y)/\∃(I1:Nat×Sl×Sl×Nat×Sl×MH->Prop)(j:Nat×Sl×Sl×Nat×Sl×MH->Nat),(∃(c:Nat×Sl×Sl×Nat×Sl×MH),aA (I1 c) cW (aA bJ (sQn=Ye c.2.1) (aA (aH sl) (aY sl) (aA (bV x.1 c.2.2.2.1) (bA y (AL c)) (aA (cJ y (AL c)) (aZ c.1) (aA pW (rU x.2.1 (H2 c)) (bG x.2.2 (Dn c) h h)))))))/\∀(c:Nat×Sl×Sl×Nat×Sl×MH),I1 c->aW (↑c.1:
 Int) (aF (AL c)) (aJ (λn u=>aI (aK (AL c).a n u) (0<=(↑c.1:Int)) ((↑c.1:Int)<aF (AL c)) (∃(z:Sl),aR (Dn c) h n (bE u c.1 1) (aM z)/\nB (λs r=>aI (eY z=eY s) (nC (Dn c) h s 3 (kR r)) (KH r) (jN (λA e=>Cq (dY (Dn c) e xR A 27 3 (kR r)) (λf=>nQ (dC e (cX c.2.1) 94 1 f) f 24 (jN (λB C=>dY e C (cX c.2.1) B 94 1 (eG f (aM A))->∃(d:Nat×Sl×Sl×Nat×Sl×MH),aA (I1 d) (j d<j c) (aA cW bJ (aA (bA B d.2.1) (aH sl) (aA (aY sl) (bV c.2.2.2.1 d.2.2.2.1) (aA (bA (AL c) (AL d)) (cJ (AL c) (AL d)) (aA (eR (bF ((↑c.1:Int)+1))=bL d.1) pW (bS (rU (H2 c) (H2 d)) C (Dn d) h
 h))))))))))))))) (C0 (Dn c) (H2 c) 53 1 (λf=>jN (λs e=>dY (Dn c) e (cX (H2 c)) s 53 1 (eG f (aM c.2.1))->∃(d:Nat×Sl×MH),aA (I d) (g d<g x) (aA cW bJ (aA (aH sl) (aY sl) (aA (eR (bF ((↑c.2.2.2.1:Int)+1))=bL d.1) pW (bS (rU s d.2.1) e d.2.2 h h)))))))))) (K (gV (aM x.2.1)) x.2.2 h)
theorem eC.nilg{m0:MH}{s t':Sl}{E E':TypeId}{c:Nat}{d:List dj}(r:eC m0 m s E sz xs)(x:dY m m' cG t' E' c d):eC m0 m' s E sz xs:=r.off x λ_ _ _ _ e=>by cases e
theorem Lq.imp{m0:MH}{t:Sl}{us:dn}{l:dm}(x:Lq m0 m t us l)(d:eC m0 m t 94 1 (us.map eS)->eC m0 m' t 94 1 (us.map eS))(e:∀u r,u∈us->eC m0 m u 27 3 r->eC m0 m' u 27 3 r):Lq m0 m' t us l:=
 ⟨d x.row,x.len,λj u r c f=>e u _ (cr c) (x.at_ j u r c f)⟩
theorem Ra.imp{m0:MH}{w:Sl}{ts:dn}{c:List dn}{st:List dm}(x:Ra m0 m w ts c st)(f:eC m0 m w 53 1 (ts.map eS)->eC m0 m' w 53 1 (ts.map eS))(g:∀t xs,t∈ts->eC m0 m t 94 1 xs->eC m0 m' t 94 1 xs)(j:∀u r,u∈c.flatten->eC m0 m u 27 3 r->eC m0 m' u 27 3 r):Ra m0 m' w ts c st:=
 ⟨f x.row,x.len,x.ulen,λi t us l d e n=>(x.at_ i t us l d e n).imp (g t _ (cr d)) (λu r o=>j u r (mem_flatten.2 ⟨us,cr e,o⟩)),x.apT,x.apR⟩
theorem Lq.of{m0:MH}{t:Sl}{us:dn}{l:dm}(x:Lq m0 m t us l){u:Sl}(d:u∈us):∃xs,eC m0 m u 27 3 xs:=by
 obtain⟨j,c⟩:=mem_iff_getElem?.1 d;have e:=(cn c);have f:=x.len;exact⟨_,x.at_ j u _ c (cq aC)⟩
theorem Ra.tab{m0:MH}{w:Sl}{ts:dn}{c:List dn}{st:List dm}(x:Ra m0 m w ts c st){t:Sl}(e:t∈ts):∃xs,eC m0 m t 94 1 xs:=by
 obtain⟨j,d⟩:=mem_iff_getElem?.1 e;have f:=(cn d);have g:=x.len;have n:=x.ulen;exact⟨_,(x.at_ j t _ _ d (cq aC) (cq aC)).row⟩
theorem Ra.of{m0:MH}{w:Sl}{ts:dn}{c:List dn}{st:List dm}(x:Ra m0 m w ts c st){u:Sl}(e:u∈c.flatten):∃xs,eC m0 m u 27 3 xs:=by
 obtain⟨us,f,g⟩:=mem_flatten.1 e;obtain⟨j,d⟩:=mem_iff_getElem?.1 f;have n:=(cn d);have o:=x.len;have y:=x.ulen;exact(x.at_ j _ us _ (cq aC) d (cq aC)).of g
theorem eC.apartN{m0:MH}{u f:Sl}{E E':TypeId}{d:Nat}{g:List dj}(r:eC m0 m u E sz xs)(x:dY m m' cG f E' d g):zD u f:=λb i j e n=>by
 obtain⟨o,h⟩:=dC.blk r.row e;rcases x.fresh b j n with c|⟨_,c⟩
 .rw[h]at c;cases c
 .cases c
theorem eC.apartG{m0:MH}{u t t':Sl}{E E':TypeId}{d:Nat}{f:List dj}(r:eC m0 m u E sz xs)(g:zD u t)(x:dY m m' t t' E' d f):zD u t':=λb i j e n=>by
 obtain⟨o,h⟩:=dC.blk r.row e;rcases x.fresh b j n with c|⟨k,c⟩
 .rw[h]at c;cases c
 .exact g b i k e c
theorem Ra.nil(m0 m:MH):Ra m0 m cG [] [] []:=⟨eC.nil m0 m 53 1,rfl,rfl,λi t us l e=>by simp at e,.nil,.nil⟩
theorem Lq.nil(m0 m:MH):Lq m0 m cG [] []:=⟨eC.nil m0 m 94 1,rfl,λj u r e=>by simp at e⟩
theorem bT.src{s:Sl}{r:dp}(d:bT h s r):nC m h s 3 (r.map VV.enc):=by
 obtain⟨f,g,c,j⟩:=d.ex
 have e:f=r:=by
  refine ext_getElem? λi=>?_;cases e:r[i]? with
  |none=>rw[getElem?_eq_none_iff]at e⊢;omega
  |some x=>obtain⟨v,n,rfl⟩:=j i x e;exact n
 subst e;exact .imm g
theorem bo{s:Sl}{r:dp}(d:nC m h s 3 (r.map VV.enc))(f:r.length<=1000000)(e:∀c m',dY m m' cG c 27 3 (r.map VV.enc)->K (cS c) m' h):af s m h K:=by dsimp only[af,push_cast];exact ⟨[],dC.nil _ _ _,_,Cf r,d,ce,ce,λc m' g=>e c m' (by rw[nil_append]at g;exact g)⟩
theorem au:di 55 alQ:=by
 refine fU func55 ?_;rintro c m h K ⟨s,r,rfl,d,e,f⟩;refine⟨rI [] [] [] [] [1094] [] false,rfl,aG,af s m h K,bu,?_⟩;exact bo d e f
theorem br:di 52 aDQ:=by
 refine fU func52 ?_;rintro a9 m h K ⟨sl,C,rfl,hl,n1,n2,hK⟩;refine⟨f52w_ctx sl h,rfl,aE au aG,aq sl m h K,bu,?_⟩;dsimp only[aq,push_cast];have a':=bI.slen hl;refine⟨λx=>x.1<=C.length/\∃ts c,Ra m x.2.2 x.2.1 ts c (C.take x.1)/\Kp m x.2.2,λx=>C.length-x.1,⟨(0,cG,m),⟨bx,[],[],Ra.nil m m,λ_ _ e=>e⟩,MT⟩,?_⟩;rintro⟨i,w,mx⟩ ⟨hi,ts,c,d,kx⟩;dsimp only at hi d kx⊢
 refine aD (λS=>?_) (λb'=>?_)
 .obtain⟨l,D⟩:=dO a' S;have b0:=(cn D);obtain⟨nl,nr⟩:=n2 l (cr D);obtain⟨b1,o1,y,ey,rd,hy⟩:=bI.at hl D;have a0:=bI.slen hy;refine⟨b1,o1,ey,aC,S,y,.imm rd,λz=>y=z.2.2.1/\i=z.2.2.2.1/\w=z.2.2.2.2.1/\z.1<=l.length/\∃us,Ra m z.2.2.2.2.2 w ts c (C.take i)/\Lq m z.2.2.2.2.2 z.2.1 us (l.take z.1)/\Kp m z.2.2.2.2.2/\(∀t∈ts,zD t z.2.1)/\(c.flatten++us).Pairwise zD,λz=>l.length-z.1,⟨(0,cG,y,i,w,mx),⟨rfl,rfl,rfl,bx,[],d,Lq.nil m mx,kx,(λ_ _ _ _ _ _ e=>by cases e),(by rw[append_nil];exact d.apR)⟩,MT⟩,?_⟩;rintro⟨j,t,_,_,_,my⟩ ⟨rfl,rfl,rfl,hj,us,d,R,T,E,M⟩;dsimp only at hj d R T E M⊢
  have a1:=R.len;have a2:=d.len;rw[length_take]at a1 a2;refine aD (λH=>?_) (λa8=>?_)
  .obtain⟨r,Y⟩:=dO a0 H;have U:=(cn Y);obtain⟨b2,o2,v,ev,a3,hv⟩:=bI.at hy Y;refine⟨b2,o2,ev,aC,H,v,.imm a3,v,r,rfl,hv.src,nr r (cr Y),λs' m1 F=>?_⟩;have V:=d.imp (λr=>r.nilg F) (λ_ _ _ r=>r.nilg F) (λ_ _ _ r=>r.nilg F);have n:=R.imp (λr=>r.nilg F) (λ_ _ _ r=>r.nilg F);have k1:=T.grown F (eC.nil m my 27 3);have W:=(eC.nil m my 27 3).up F (λb o e=>.inr (T.held b o e))
   have a4:∀u∈c.flatten++us,zD u s':=λu hu=>by
    rcases mem_append.1 hu with h|h
    .obtain⟨_,f⟩:=d.of h;exact f.apartN F
    .obtain⟨_,f⟩:=R.of h;exact f.apartN F
   refine⟨us.map eS,n.row.row,cd,cd,λt' Z I=>?_⟩;have a5:=V.imp (λr=>r.off I (r.ne n.row bz)) (λJ _ h0 r=>r.off I (E J h0)) (λ_ _ _ r=>r.off I (r.ne n.row bz));rw[fD aC];refine⟨(j+1,t',y,i,w,Z),⟨rfl,rfl,rfl,ck,us++[s'],a5,⟨?_,?_,λk u r' A B=>?_⟩,k1.grown I n.row,λJ h0=>?_,?_⟩,cj,MT⟩
   .rw[cv];exact n.row.up I (λb o e=>.inr (k1.held b o e))
   .show(us++[s']).length=(l.take (j+1)).length;rw[length_take];simp;omega
   .have B:(l.take j++[r])[k]? =some r':=by rw[show l.take j++[r]=l.take (j+1)by rw[db,Y];rfl];exact B
    rcases Nat.lt_or_ge k us.length with O|O
    .rw[getElem?_append_left O]at A;rw[getElem?_append_left (by rw[length_take];omega)]at B;have f:=n.at_ k u r' A B;exact f.off I (f.ne n.row bz)
    .rw[getElem?_append_right O]at A;rw[getElem?_append_right (by rw[length_take];omega)]at B;have P:k-us.length=0:=by have:=(cn A);simp at this;omega
     rw[P]at A;rw[length_take,show k-min j l.length=0 by omega]at B;simp only[getElem?_cons_zero,cw]at A B;subst A B;exact W.off I (W.ne n.row bz)
   .obtain⟨_,f⟩:=V.tab h0;exact f.apartG (E J h0) I
   .rw[<-append_assoc,pairwise_append];exact⟨M,bx,λa ha b hb=>by rw[mem_singleton.1 hb];exact a4 a ha⟩
  .have U:j=l.length:=by omega
   subst U;rw[take_length]at R;refine⟨ts.map eS,d.row.row,cd,cd,λw' Z g=>?_⟩;have a6:=d.ulen;rw[length_take]at a6;have L:∀{J:Sl}{G:dn}{X:dm},Lq m my J G X->Lq m Z J G X:=λx=>x.imp (λr=>r.off g (r.ne d.row bz)) (λ_ _ _ r=>r.off g (r.ne d.row bz));have a7:C.take (i+1)=C.take i++[l]:=by rw[db,D];rfl
   rw[fD aC];refine⟨(i+1,w',Z),⟨ck,ts++[t],c++[us],⟨?_,?_,?_,λk J G X A B Q=>?_,?_,?_⟩,T.grown g d.row⟩,cj,MT⟩
   .rw[cv];exact d.row.up g (λb o e=>.inr (T.held b o e))
   .show(ts++[t]).length=(C.take (i+1)).length;rw[length_take];simp;omega
   .show(c++[us]).length=(C.take (i+1)).length;rw[length_take];simp;omega
   .have Q:(C.take i++[l])[k]? =some X:=by rw[<-a7];exact Q
    rcases Nat.lt_or_ge k ts.length with O|O
    .rw[getElem?_append_left O]at A;rw[getElem?_append_left aC]at B;rw[getElem?_append_left (by rw[length_take];omega)]at Q;exact L (d.at_ k J G X A B Q)
    .rw[getElem?_append_right O]at A;have P:k-ts.length=0:=by have:=(cn A);simp at this;omega
     rw[getElem?_append_right aC,show k-c.length=0 by omega]at B;rw[getElem?_append_right (by rw[length_take];omega),length_take,show k-min i C.length=0 by omega]at Q;rw[P]at A;simp only[getElem?_cons_zero,cw]at A B Q;subst A B Q;exact L R
   .exact pairwise_append.2 ⟨d.apT,bx,λa ha b hb=>by rw[mem_singleton.1 hb];exact E a ha⟩
   .show(c++[us]).flatten.Pairwise zD;rw[flatten_append,flatten_cons,flatten_nil,append_nil];exact M
 .rw[cu aC]at d;exact hK w ts c mx d kx
def bQZ:Vc.Spec:=λc m h K=>∃cb,c=[cP cb]/\aU m h cb/\∀v m',l8 v.kind->l8 v.int->bK m m' cb->aU m' h cb->K (aV v) m' h
def bPX:Vc.Spec:=λc m h K=>∃cb n,c=[cP cb,cI n]/\aU m h cb/\0<=n/\n<=1000/\∀l s m' h',PH.le h h'->bT h' s l->(∀v∈l,l8 v.kind/\l8 v.int)->l.length<=1000->bK m m' cb->aU m' h' cb->K (cS s) m' h'
noncomputable def f53_ctx(cb:Nat)(h:PH):Ctx:=
 cT [(54,bQZ)] [(2,{A:=Nat×dp×MH,st:=λ⟨i,l,m⟩=>bO 16 18 [(0,pv cb),(1,iv i),(5,.at (.lst 14))] [(14,.lst 27 3 (l.map VV.enc))] m h})] [] [] false
def cgX:Vc.Spec:=λf m h K=>∃cb g d,f=[cP cb,XJ g]/\aU m h cb/\Leaves h g d/\Vj d/\d.length<=900/\(∀l∈d,l.length<=900000/\∀r∈l,0<r.length/\r.length<=900000)/\
 ∀e c m' h',PH.le h h'->Leaves h' e c->Vj c->c.length<=d.length+1->(∀n,(∀l∈d,l.length<=n)->∀l∈c,l.length<=n+1)->(∀l∈c,∀r∈l,r.length<=1000000)->bK m m' cb->aU m' h' cb->K (XJ e) m' h'
noncomputable def b9X(cb:Nat):Ctx:=
 rI [(12,Ea),(13,G6),(52,aDQ),(53,bPX),(54,bQZ),(55,alQ)] []
  [(5,{A:=Sl×MH×PH,st:=λ⟨w,m,h⟩=>bO 118 120 [(0,pv cb),(3,.at (.ptr 3 0)),(4,.at (.ptr 4 0))] [(3,.cells 25 [.val (.slice w.a w.len w.cap)]),(4,.cells 25 [.val (.slice none 0 0)])] m h}),
   (10,{A:=Nat×Sl×Sl×MH×PH,st:=λ⟨i,t,w,m,h⟩=>bO 118 120 [(0,pv cb),(3,.at (.ptr 3 0)),(4,.at (.ptr 4 0)),(5,iv i),(6,sv t)] [(3,.cells 25 [.val (.slice w.a w.len w.cap)]),(4,.cells 25 [.val (.slice none 0 0)])] m h}),
   (4,{A:=Sl×MH×PH,frz:=true,st:=λ⟨w,m,h⟩=>bO 118 120 [(3,.at (.ptr 3 0)),(4,.at (.ptr 4 0))] [(3,.cells 25 [.val (.slice w.a w.len w.cap)]),(4,.cells 25 [.val (.slice none 0 0)])] m h}),
   (9,{A:=Sl×MH×PH,frz:=true,st:=λ⟨w,m,h⟩=>bO 118 120 [(3,.at (.ptr 3 0)),(4,.at (.ptr 4 0))] [(3,.cells 25 [.val (.slice w.a w.len w.cap)]),(4,.cells 25 [.val (.slice none 0 0)])] m h}),
   (21,{A:=Sl×MH×PH,frz:=true,st:=λ⟨w,m,h⟩=>bO 118 120 [(3,.at (.ptr 3 0)),(4,.at (.ptr 4 0))] [(3,.cells 25 [.val (.slice w.a w.len w.cap)]),(4,.cells 25 [.val (.slice none 0 0)])] m h})] [] [0,1023,1053,1094] [] false
def av(cb:Nat)(m:MH)(h:PH)(K:dk):Prop:=
  eW cb 5 m h (λk c=>aW (bF (1+k)) 3 (K (gV (Kx (bF (1+k)))) c h) (HA cb (bF (1+k)) c h (λv d=>K (gV v.enc) d h)))
def aw(cb:Nat)(n:Int)(m:MH)(h:PH)(K:dk):Prop:=
  ∃(I:Nat×dp×MH->Prop)(e:Nat×dp×MH->Nat),(∃(x:Nat×dp×MH),aA (I x) (dE cb) (aA (eR n=bL x.1) (eL 14) (bS (u9 27 3 (kR x.2.1)) m x.2.2 h h)))/\∀(x:Nat×dp×MH),I x->fA (↑x.1:Int) 0 (Kf cb x.2.2 h (λc v=>∀(f:MH),l8 v.kind->l8 v.int->lC x.2.2 f c h (iY (kR x.2.1) 32 (∃(d:Nat×dp×MH),aA (I d) (e d<e x) (aA (dE cb) (eR (bF ((↑x.1:Int)-1))=bL d.1) (aA (eL 14) (bW 27 3 (eG (kR x.2.1) v.enc)=bW 27 3 (kR d.2.1)) (aA (f=d.2.2) (h=h) True))))))) (bU h 3 (kR x.2.1) (λs g=>K (F9 s) x.2.2 g))
abbrev EL(a:List dm)(b:dm->Prop):Prop:=∀(x:dm),List.Mem x a->b x
abbrev Kg(a:(Sl×MH×PH->Prop)->Prop)(b:dk):Prop:=∃(x:Sl×MH×PH->Prop),a x/\∀(c:Sl×MH×PH),x c->b (gV (aM c.1)) (sV c) (uQ c)
abbrev BB(a:MH->Prop)(b:Nat->Nat->Option Value)(c:Sl×MH×PH->Prop)(d:Sl):Prop:=∀(x:MH),a x->Bn x b->∃(e:Sl×MH×PH),aA (c e) bJ (aA fI (rU d e.1) (aA pW (CG x b (sV e) (uQ e)) True))
noncomputable abbrev lG(a:Nat×Sl×Sl×MH×PH):Sl:=a.2.1
noncomputable abbrev BW(a:Nat×Sl×Sl×MH×PH):Sl:=a.2.2.1
noncomputable abbrev iK(a:Nat×Sl×Sl×MH×PH):Nat->Nat->Option Value:=uQ a.2.2
noncomputable abbrev Dp(a:Nat×Sl×Sl×MH×PH):Int:=kY (aF (lG a))
attribute [push_cast] EL Kg BB lG BW iK Dp
def Xc(cb:Nat)(sl:Sl)(m:MH)(h:PH)(K:dk):Prop:=
  Ja (λs S=>aA (gK (aM sl)=gK (aM s)) (Leaves h s S) (aA (nA S.length) (EL S (λl=>Bf l 1000000/\tR l (λr=>KH r))) (∀(w:Sl)(t:dn)(u:List dn)(P:MH),Ra m P w t u S->Kp m P->∃(I:Sl×MH×PH->Prop),dD (aF w) 0 (Kg (λI1=>C0 P w 53 1 (λx=>∀(G:Sl),BB (λH=>dY P H (cX w) G 53 1 (eG x lV)) h I1 G)) K) (jT cb 6 P h (λc r H=>lC P H c h (branch r (Kg (λI1=>C0 H w 53 1 (λx=>∀(G:Sl),BB (λQ=>dY H Q (cX w) G 53 1 (eG x lV)) h I1 G)) K) (∃(x:Sl×MH×PH),aA (I x) (dE cb) (aA bJ fI (aA (rU w x.1) pW (aA (H=sV x) (h=uQ x) True)))))))/\∀(x:Sl×MH×PH),I x->eW cb (aF x.1) (sV x) (uQ x) (λk H=>aJ
 (λb o=>aI (aK x.1.a b o) (0<=k) (k<aF x.1) (∃(y:Sl),aR H (uQ x) b (cC o k 1) (aM y)/\∃(I1:Nat×Sl×Sl×MH×PH->Prop),dD (aF y) 0 (Kg (λI2=>eW cb 4 H (uQ x) (λe Q=>RV (λc n=>aA (bD (uR cb 0) e=bD (uR c 0) n) (aU Q (uQ x) c) (aA (bY n) (n<=1000) (∀(l:dp)(G:Sl),iM (λA T=>dN (uQ x) T (bT T G l) ((∀(v:VV),List.Mem v l->l8 v.kind/\l8 v.int)->Co l->lC Q A c T (aJ (λf g=>aI (aK x.1.a f g) (0<=k) (k<aF x.1) (bU T 1 (gL (aM G)) (λU h2=>kS (λF E=>aA (Gc A f (lF F E 0)) (nR (cC g k 1) F) (BB (λj=>oX A j f F (cC g k 1) (aM U) E) h2 I2 x.1))))))))))))) K) (∃(d:Nat×Sl×Sl×MH×PH),aA (I1 d) (dE cb) (aA bJ fI
 (aA (eR k=bL d.1) (bA y (lG d)) (aA (rU x.1 (BW d)) pW (bG H (sV d.2.2) (uQ x) (iK d))))))/\∀(d:Nat×Sl×Sl×MH×PH),I1 d->eW cb (aF (lG d)) (sV d.2.2) (iK d) (λe Q=>Kg (λI2=>eW cb 5 Q (iK d) (λV A=>cO (V==0) (aJ (λf g=>aI (aK (lG d).a f g) (0<=e) (e<aF (lG d)) (∃(z:Sl),aA (aR A (iK d) f (cC g e 1) (aM z)) (aR A (iK d) f (cC g e 1) (aM z)) (Kf cb A (iK d) (λc v=>∀(j:MH),l8 v.kind->l8 v.int->lC A j c (iK d) (Cr (aR j (iK d) f (cC g e 1) (aM z)) (aR j (iK d) f (cC g e 1) (aM z)) (λL=>nQ (dC j (cX z) 27 3 L) L 32 (jN (λG D=>dY j D (cX z) G 27 3 (eG L v.enc)->aJ
 (λB C=>aI (aK (lG d).a B C) (0<=e) (e<aF (lG d)) (kS (λF E=>aA (Gc D B (lF F E 0)) (nR (cC C e 1) F) (BB (λR=>oX D R B F (cC C e 1) (aM G) E) (iK d) I2 (BW d)))))))))))))) (V==1) (aJ (λf g=>aI (aK (lG d).a f g) (0<=e) (e<aF (lG d)) (∃(z:Sl),aR A (iK d) f (cC g e 1) (aM z)/\aJ (λB C=>aI (aK (lG d).a B C) (0<=e) (e<aF (lG d)) (∃(J:Sl),aI (aR A (iK d) B (cC C e 1) (aM J)) (aR A (iK d) f (cC g e 1) (aM z)) (aR A (iK d) B (cC C e 1) (aM J)) (eW cb (aF J) A (iK d) (λW j=>aA (aR j (iK d) f (cC g e 1) (aM z)) (aR j (iK d) B (cC C e 1) (aM J)) (aA (aR j (iK d) f
 (cC g e 1) (aM z)) (aR j (iK d) B (cC C e 1) (aM J)) (Kf cb j (iK d) (λc v=>∀(D:MH),l8 v.kind->l8 v.int->lC j D c (iK d) (aA (aR D (iK d) f (cC g e 1) (aM z)) (aR D (iK d) B (cC C e 1) (aM J)) (aJ (λM O=>aI (aK z.a M O) (0<=W) (W<aF z) (kS (λF E=>aA (Gc D M (lF F E 0)) (cC O W 3+3<=F.size) (BB (λR=>oX D R M F (cC O W 3) v.enc E) (iK d) I2 (BW d))))))))))))))))) (cO (V==2) (aJ (λf g=>aI (aK (lG d).a f g) (0<=e) (e<aF (lG d)) (∃(z:Sl),aR A (iK d) f (cC g e 1) (aM z)/\nB (λG r=>aI (eY z=eY G) (nC A (iK d) G 3 (kR r)) (KH r) (jN (λU j=>dY A j xR U 27 3 (kR r)->
 Cr (aR j (iK d) f (cC g e 1) (aM z)) (aR j (iK d) f (cC g e 1) (aM z)) (λL=>nQ (dC j (cX (lG d)) 94 1 L) L 24 (jN (λZ D=>dY j D (cX (lG d)) Z 94 1 (eG L (aM U))->aR D (iK d) f (cC g e 1) (aM z)/\aJ (λB C=>aI (aK (BW d).a B C) (0<=(↑d.1:Int)) ((↑d.1:Int)<aF (BW d)) (kS (λc E=>aA (Gc D B (lF c E 0)) (nR (bE C d.1 1) c) (BB (λR=>oX D R B c (bE C d.1 1) (aM Z) E) (iK d) I2 (BW d)))))))))))))) (V==3) (aJ (λf g=>aI (aK (lG d).a f g) (0<=Dp d) (Dp d<aF (lG d)) (∃(z:Sl),aR A (iK d) f (cC g (Dp d) 1) (aM z)/\aJ (λB C=>aI (aK (lG d).a B C) ((0:Int)<=0) (0<aF
 (lG d)) (∃(J:Sl),aR A (iK d) B (C+0) (aM J)/\aJ (λM O=>aI (aK (lG d).a M O) ((0:Int)<=0) (0<aF (lG d)) (kS (λc E=>aA (Gc A M (lF c E 0)) (nR (O+0) c) (∀(j:MH),oX A j M c (O+0) (aM z) E->aJ (λX Y=>aI (aK (lG d).a X Y) (0<=Dp d) (Dp d<aF (lG d)) (kS (λF E1=>aA (Gc j X (lF F E1 0)) (nR (cC Y (Dp d) 1) F) (BB (λD=>oX j D X F (cC Y (Dp d) 1) (aM J) E1) (iK d) I2 (BW d)))))))))))))) (aJ (λf g=>aI (aK (lG d).a f g) (0<=e) (e<aF (lG d)) (kS (λc E=>aA (Gc A f (lF c E 0)) (nR (cC g e 1) c) (BB (λj=>oX A j f c (cC g e 1) lV E) (iK d) I2 (BW d))))))))) K)))))))
theorem ax:di 54 bQZ:=by
 refine fU func54 ?_;rintro f m h K ⟨cb,rfl,g,c⟩;refine⟨cT [(12,Ea),(95,MK)] [] [] [] false,rfl,aE FD (aE D3 aG),av cb m h K,bu,?_⟩;dsimp only[av,push_cast];refine⟨cb,5,rfl,g,λk C D E d e=>?_⟩;have j:IntKind.i64.wrap (1+k)=1+k:=dL aC aC;rw[j];refine aD (λn=>c ⟨_,0,⟨⟨[]⟩⟩⟩ _ (kT (by show-8000000<=1+k;omega) (by show 1+k<=8000000;omega)) Bs d e) (λo=>⟨cb,_,rfl,e,λv u x y z A=>?_⟩);have B:=(y (by unfold KOk;omega)).2;exact c v u (by rw[B];exact kT aC aC) x.int_ (d.trans z) A
theorem bt:di 53 bPX:=by
 refine fU func53 ?_;rintro g m h K ⟨cb,n,rfl,j,L,M,y⟩;refine⟨f53_ctx cb h,rfl,aE ax aG,aw cb n m h K,bu,?_⟩;dsimp only[aw,push_cast];refine⟨λx=>x.1+x.2.1.length=n.toNat/\(∀v∈x.2.1,l8 v.kind/\l8 v.int)/\bK m x.2.2 cb/\aU x.2.2 h cb,λx=>x.1,⟨(n.toNat,[],m),⟨bx,bx,.refl _ _,j⟩,by rw[show n=(n.toNat:Int)by omega];exact MT⟩,?_⟩;rintro⟨i,l,z⟩ ⟨A,f,o,c⟩;dsimp only at A f o c⊢
 refine aD (λB=>⟨cb,rfl,c,λv C D E F G=>?_⟩) (λ_ s H d rs=>y l s z H d ⟨⟨l,rs,rfl,λi x e=>⟨x,e,rfl⟩⟩,aC⟩ f aC o (c.mono d))
 have I:IntKind.i64.wrap ((i:Int)-1)=((i-1:Nat):Int):=by
  rw[show(i:Int)-1=((i-1:Nat):Int)by omega];exact dL aC aC
 rw[I];refine⟨cd,cd,(i-1,l++[v],C),⟨ce,λu J=>?_,o.trans F,G⟩,ck,by rw[cv];exact MT⟩;rcases mem_append.1 J with h|h
 .exact f u h
 .rw[mem_singleton.1 h];exact⟨D,E⟩
theorem zD.symm{s t:Sl}(h:zD s t):zD t s:=λb i j e c=>h b j i c e
theorem PO{g:List dn}(h:g.flatten.Pairwise zD){j n o:Nat}{us x:dn}{u u':Sl}(y:g[i]? =some us)(z:us[j]? =some u)(A:g[n]? =some x)(B:x[o]? =some u')(H:i≠n\/j≠o):zD u u':=by
 rw[pairwise_flatten]at h;obtain⟨I,F⟩:=h;have c:=List.getElem?_eq_some_iff.1 y;have d:=List.getElem?_eq_some_iff.1 A;have e:=List.getElem?_eq_some_iff.1 z;have f:=List.getElem?_eq_some_iff.1 B;rcases Nat.lt_trichotomy i n with C|D|E
 .have:=(pairwise_iff_getElem.1 F) i n c.1 d.1 C;rw[c.2,d.2]at this;exact this u (cr z) u' (cr B)
 .subst D;rw[y]at A;cases A;have G:=pairwise_iff_getElem.1 (I us (cr y));rcases Nat.lt_trichotomy j o with J|M|L
  .have:=G j o e.1 f.1 J;rw[e.2,f.2]at this;exact this
  .omega
  .have:=G o j f.1 e.1 L;rw[e.2,f.2]at this;exact this.symm
 .have:=(pairwise_iff_getElem.1 F) n i d.1 c.1 E;rw[c.2,d.2]at this;exact(this u' (cr B) u (cr z)).symm
theorem eC.putG{m0 n:MH}{w:Sl}{E:TypeId}{t:Nat}(x:eC m0 n w E sz xs)(g:t<xs.length):∃b,w.a=some ⟨b,0,none⟩/\t<w.len/\(∃c,n b=some (.cells c E (0,0)))/\∃(cs:Array Value)(F:TypeId),Gc n b (.cells cs F (0,0))/\0+t*sz+sz<=cs.size/\∀e m',cZ sz (xs.set t e)->e.length=sz->iD n m' b (.cells ⟨splice cs.toList (0+t*sz) e⟩ F (0,0))->eC m0 m' w E sz (xs.set t e):=by
 rcases x.row.ex with⟨rfl,e⟩|⟨b,d,c,rfl,G,u,y,z,A⟩
 .rw[e]at g;simp at g
 .have B:c.toList.length=d*sz:=by rw[Array.length_toList];exact z
  have H:t*sz+sz<=d*sz:=by
   have:=Nat.mul_le_mul_right sz (show t+1<=d by omega);rw[Nat.succ_mul]at this;exact this
  have f:∀e∈xs,e.length=sz:=x.row.rows.len;refine⟨b,rfl,g,⟨c,G⟩,c,E,⟨G⟩,aC,λe m' C o I=>⟨⟨C,.inr ⟨b,d,⟨splice c.toList (0+t*sz) e⟩,bx,I.at_,ce,y,?_,?_⟩⟩,x.fresh⟩⟩
  .show(splice c.toList (0+t*sz) e).length=d*sz;rw[DG _ _ _ (by rw[o];omega)];exact B
  .show(splice c.toList (0+t*sz) e).take _=_;have J:xs.length*sz<=d*sz:=Nat.mul_le_mul_right sz u
   have L:t*sz+sz<=xs.length*sz:=by
    have:=Nat.mul_le_mul_right sz (show t+1<=xs.length by omega);rw[Nat.succ_mul]at this;exact this
   rw[length_set,MY _ _ _ _ (by rw[o];omega) aC];have M:xs[t]? =some xs[t]:=cq g;have j:=Go.Vc.flatten_set (off:=0) (l:=e) f M (by rw[o,f _ (getElem_mem g)];omega)
   have D:splice xs[t] 0 e=e:=by
    unfold splice;simp[o,f _ (getElem_mem g)]
   rw[Nat.add_zero,D]at j;rw[A,Nat.zero_add];exact j
def U3(m0 m:MH)(h:PH)(u:Sl)(r:dp):Prop:=eC m0 m u 27 3 (r.map VV.enc)\/bT h u r
def FQ(m0 m:MH)(h:PH)(t:Sl)(l:dm):Prop:=∃us:dn,(eC m0 m t 94 1 (us.map eS)\/cE h t 1 (us.map eS))/\us.length=l.length/\∀(j:Nat) u r,us[j]? =some u->l[j]? =some r->U3 m0 m h u r
def NI(m0 m:MH)(h:PH)(w:Sl)(st:List dm):Prop:=∃ts:dn,eC m0 m w 53 1 (ts.map eS)/\ts.length=st.length/\∀(i:Nat) t l,ts[i]? =some t->st[i]? =some l->FQ m0 m h t l
section
variable{m0 m m':MH}{h h':PH}{w t u:Sl}{r:dp}{l:dm}{st:List dm}{i:Nat}
theorem U3.ice(x:U3 m0 m h u r)(d:Bn m h)(c:r.length<=2000000):bT (uI m0 m h) u r:=by
 rcases x with x|x
 .exact⟨⟨r,x.ice,rfl,λi v e=>⟨v,e,rfl⟩⟩,aC⟩
 .exact bT.mono x (FE d)
theorem FQ.ice(x:FQ m0 m h t l)(d:Bn m h)(z:l.length<=2000000)(f:∀r∈l,r.length<=2000000):Rows (uI m0 m h) t l:=by
 obtain⟨us,g,n,o⟩:=x;refine⟨⟨us,g.elim (λx=>x.ice) (λx=>x.mono (FE d)),n.symm,λj r c=>?_⟩,aC⟩;have y:=(cn c);have e:us[j]? =some us[j]:=cq aC;exact⟨us[j],e,(o j _ r e c).ice d (f r (cr c))⟩
theorem NI.ice(x:NI m0 m h w st)(d:Bn m h)(z:st.length<=2000000)(f:∀l∈st,l.length<=2000000/\∀r∈l,r.length<=2000000):Leaves (uI m0 m h) w st:=by
 obtain⟨ts,g,n,o⟩:=x;refine⟨⟨ts,g.ice,n.symm,λj l c=>?_⟩,aC⟩;have y:=(cn c);have e:ts[j]? =some ts[j]:=cq aC;exact⟨ts[j],e,(o j _ l e c).ice d (f l (cr c)).1 (f l (cr c)).2⟩
theorem Lq.any{us:dn}(x:Lq m0 m t us l):FQ m0 m h t l:=⟨us,.inl x.row,x.len,λj u r c d=>.inl (x.at_ j u r c d)⟩
theorem FQ.nil(m0 m:MH)(h:PH):FQ m0 m h cG []:=⟨[],.inl (eC.nil m0 m 94 1),rfl,λj u r e=>by simp at e⟩
theorem NI.set{ts:dn}(n:eC m0 m' w 53 1 ((ts.set i t).map eS))(c:ts.length=st.length)(y:i<st.length)(o:∀(k:Nat) d e,k≠i->ts[k]? =some d->st[k]? =some e->FQ m0 m' h d e)(x:FQ m0 m' h t l):NI m0 m' h w (st.set i l):=by
 refine⟨ts.set i t,n,by simp[c],λk d e f g=>?_⟩;by_cases j:k=i
 .subst j;rw[getElem?_set_self aC]at f g;cases f;cases g;exact x
 .rw[getElem?_set_ne (Ne.symm j)]at f g;exact o k d e j f g
end
theorem eC.updA{m0:MH}{s t:Sl}{E:TypeId}{o:Obj}(r:eC m0 m s E sz xs)(d:zD s t)(f:t.a=some ⟨b,0,none⟩)(g:iD m m' b o):eC m0 m' s E sz xs:=
 ⟨dC.keep r.row λc i e=>g.other c λj=>d c i 0 e (by rw[f,j]),r.fresh⟩
theorem Ct{m0:MH}{o:Obj}(k:Kept m0 m cb)(d:m0 b=none)(f:iD m m' b o):Kept m0 m' cb:=λc g e ne=>by
 rw[f.other c λj=>by rw[j,d]at e;cases e];exact k c g e ne
theorem Cz{m0:MH}{o:Obj}(c:aU m h cb)(d:m0 cb≠none)(f:m0 b=none)(g:iD m m' b o):aU m' h cb:=c.keep (g.other cb λe=>d (by rw[e];exact f)) (.refl _)
theorem bTJ{st:List dm}{l:dm}(d:∀n,(∀l∈st,l.length<=n)->l.length<=n+1):∀n,(∀l∈st,l.length<=n)->∀l'∈st.set i l,l'.length<=n+1:=λn c l' h=>by
 rcases mem_or_eq_of_mem_set h with h|rfl
 .have:=c l' h;omega
 .exact d n c
theorem IZ{ts:dn}(h:ts.Pairwise zD){t t':Sl}(g:ts[i]? =some t)(j:ts[k]? =some t')(n:k≠i):zD t' t:=by
 have c:=List.getElem?_eq_some_iff.1 g;have d:=List.getElem?_eq_some_iff.1 j;have e:=pairwise_iff_getElem.1 h;rcases Nat.lt_or_ge k i with f|f
 .have:=e k i d.1 c.1 f;rw[c.2,d.2]at this;exact this
 .have:=e i k c.1 d.1 aC;rw[c.2,d.2]at this;exact this.symm
theorem Ra.rowSet{m0 B g:MH}{w T u':Sl}{ts us:dn}{c:List dn}{st:List dm}{l:dm}{r':dp}{j:Nat}(x:Ra m0 B w ts c st)(A:ts[i]? =some T)(E:c[i]? =some us)(F:st[i]? =some l)(O:eC m0 g w 53 1 (ts.map eS))(P:eC m0 g T 94 1 ((us.set j u').map eS))(Q:U3 m0 g h u' r')
 (R:∀n xs,zD n T->eC m0 B n 94 1 xs->eC m0 g n 94 1 xs)(G:∀(k d:Nat) o C xs,c[k]? =some o->o[d]? =some C->(k≠i\/d≠j)->eC m0 B C 27 3 xs->eC m0 g C 27 3 xs):NI m0 g h w (st.set i (l.set j r')):=by
 have S:=(cn F)
 have self:ts.set i T=ts:=by
  refine ext_getElem? λk=>?_;by_cases z:k=i
  .subst z;rw[getElem?_set_self (cn A),A]
  .rw[getElem?_set_ne (Ne.symm z)]
 refine NI.set (ts:=ts) (t:=T) (by rw[self];exact O) x.len S (λk n U z H I=>?_) ?_
 .have V:=x.ulen;have W:=(cn I);have J:c[k]? =some c[k]:=cq aC;have y:=x.at_ k n _ U H J I;exact⟨_,.inl (R n _ (IZ x.apT A H z) y.row),y.len,λd u r e f=>.inl (G k d _ u _ J e (.inl z) (y.at_ d u r e f))⟩
 .have y:=x.at_ i T us l A E F;refine⟨_,.inl P,by simp[y.len],λd u r e f=>?_⟩;by_cases D:d=j
  .subst D;have L:=(cn e);have M:=(cn f);rw[length_set]at L M;rw[getElem?_set_self L]at e;rw[getElem?_set_self M]at f;cases e;cases f;exact Q
  .rw[getElem?_set_ne (Ne.symm D)]at e f;exact .inl (G i d us u _ E e (.inr D) (y.at_ d u r e f))
theorem Cg{us:dn}{j:Nat}{u:Sl}:cZ 1 ((us.map eS).set j (eS u)):=by
 rw[<-map_set];exact vE _
theorem eC.rdk{m0:MH}{w T:Sl}{E:TypeId}{ts:dn}(r:eC m0 m w E 1 (ts.map eS))(e:ts[i]? =some T)(d:w.a=some ⟨b,0,none⟩):aR m h b (0+(i:Int).toNat*1) [iI T]:=by
 obtain⟨f,c,rd⟩:=dC.rd (h:=h) (i:=i) (e:=eS T) r.row (by rw[getElem?_map,e];rfl);rw[d]at c;simp only[cw,Addr.mk.injEq]at c;rw[Nat.zero_add];show aR m h b (i*1) (eS T);rw[c.1];exact rd
theorem eC.sget{m0:MH}{w T:Sl}{E:TypeId}{ts:dn}(r:eC m0 m w E 1 (ts.map eS))(e:ts[i]? =some T):∃b,w.a=some ⟨b,0,none⟩/\(i:Int)<(w.len:Int):=by
 obtain⟨c,d,_⟩:=dC.rd (h:=λ_ _=>none) (i:=i) (e:=eS T) r.row (by rw[getElem?_map,e];rfl);have f:=dC.slen r.row;have g:=(cn e);rw[length_map]at f;exact⟨c,d,aC⟩
theorem coJ{m0:MH}{t t' u:Sl}{us:dn}{f:Sl}{j:Nat}(r:eC m0 m t 94 1 (us.map eS))(g:dY m m' t t' 94 1 (us.map eS++[[iI f]]))(e:us[j]? =some u)(n:t.a=some ⟨b,0,none⟩):aR m' h b (0+(j:Int).toNat*1) [iI u]:=by
 rcases g.old with c|c
 .have d:eC (λ_=>none) m' t' 94 1 ((us++[f]).map eS):=⟨by rw[cv];exact g.row,λ_ _ _=>rfl⟩
  exact d.rdk (by rw[getElem?_append_left (cn e)];exact e) (by rw[c];exact n)
 .have d:eC m0 m' t 94 1 (us.map eS):=⟨r.row.keep λx i y=>by
   obtain⟨z,o⟩:=dC.blk r.row y;rw[o,c x _ o],r.fresh⟩
  exact d.rdk e n
theorem Ra.rowPut{m0 B n:MH}{w T:Sl}{ts us:dn}{g:List dn}{st:List dm}{l:dm}{j:Nat}(x:Ra m0 B w ts g st)(G:ts[i]? =some T)(H:g[i]? =some us)(I:st[i]? =some l)(M:j<us.length)
 (O:eC m0 n w 53 1 (ts.map eS))(J:∀y xs,eC m0 B y 94 1 xs->eC m0 n y 94 1 xs)(P:∀(k z:Nat) e o xs,g[k]? =some e->e[z]? =some o->(k≠i\/z≠j)->eC m0 B o 27 3 xs->eC m0 n o 27 3 xs):
 ∃b,T.a=some ⟨b,0,none⟩/\j<T.len/\m0 b=none/\∃(cs:Array Value)(F:TypeId),Gc n b (.cells cs F (0,0))/\0+j*1<cs.size/\∀(u':Sl)(r':dp)(A:MH)(h:PH),(eC m0 n u' 27 3 (r'.map VV.enc)\/bT h u' r')->iD n A b (.cells ⟨splice cs.toList (0+j*1) [iI u']⟩ F (0,0))->NI m0 A h w (st.set i (l.set j r')):=by
 have L:=J T _ (x.at_ i T us l G H I).row;obtain⟨b,C,D,⟨Q,c⟩,cs,F,E,R,oZ⟩:=L.putG (t:=j) (cm M);refine⟨b,C,D,L.fresh b 0 C,cs,F,E,aC,λu' r' A h S d=>x.rowSet (u':=u') (j:=j) G H I (O.upd c d bz) ?_ ?_ (λy xs U f=>(J y xs f).updA U C d) (λk z e o xs V W X f=>(P k z e o xs V W X f).upd c d bz)⟩
 .rw[map_set];exact oZ [iI u'] A Cg rfl d
 .exact S.elim (λf=>.inl (f.upd c d bz)) .inr
theorem RF{α:Type}{l:List α}{a:α}(e:l[i]? =some a):l.set i a=l:=by
 refine ext_getElem? λk=>?_;by_cases c:k=i
 .subst c;rw[getElem?_set_self (cn e),e]
 .rw[getElem?_set_ne (Ne.symm c)]
theorem aYJ:di 15 cgX:=by
 refine fU func15 ?_;rintro i5 m h K ⟨cb,sl,st,rfl,hc,hl,hv,n1,n2,hK⟩;refine⟨b9X cb,rfl,aE FD (aE rP (aE br (aE bt (aE ax (aE au aG))))),Xc cb sl m h K,by kernel_rfl,?_⟩;dsimp only[Xc,push_cast];refine⟨sl,st,rfl,hl,aC,λl hm=>⟨by have:=(n2 l hm).1;omega,λr U=>by have:=((n2 l hm).2 r U).2;omega⟩,λw ts a0 m1 hw kp=>?_⟩;obtain⟨i8,d3⟩:=hc.blk;have L:m cb≠none:=by rw[d3];simp
 have c1:aU m1 h cb:=hc.keep (by rw[d3];exact kp cb _ d3) (.refl _);have k1:Kept m m1 cb:=λb o e _=>kp b o e;have c8:=hw.len;have i9:=hw.ulen;have f8:w.len=st.length:=by have:=dC.slen hw.row.row;simp at this;omega
 obtain⟨Q,hQ⟩:∃Q:Sl×MH×PH->Prop,Q=λz=>∃st',Leaves z.2.2 z.1 st'/\Vj st'/\st'.length<=st.length+1/\(∀n,(∀l∈st,l.length<=n)->∀l∈st',l.length<=n+1)/\(∀l∈st',∀r∈l,r.length<=1000000)/\bK m z.2.1 cb/\aU z.2.1 z.2.2 cb/\PH.le h z.2.2:=⟨_,rfl⟩
 have done:∀z,Q z->K (XJ z.1) z.2.1 z.2.2:=λz hz=>by
  rw[hQ]at hz;obtain⟨st',h1,h2,h3,h4,h8,h5,h6,h7⟩:=hz;exact hK z.1 st' z.2.1 z.2.2 h7 h1 h2 h3 h4 h8 h5 h6
 have fin:∀{R:MH}{hx:PH}{u:Sl}{st':List dm},NI m R hx u st'->Vj st'->st'.length<=st.length+1->(∀n,(∀l∈st,l.length<=n)->∀l∈st',l.length<=n+1)->(∀l∈st',∀r∈l,r.length<=1000000)->Kept m R cb->aU R hx cb->PH.le h hx->Bn R hx->Q (u,oF m R,uI m R hx):=λx sv q1 q2 q3 k c le d=>by
  rw[hQ];exact⟨_,x.ice d aC (λl hm=>⟨by have:=q2 900000 (λl hl=>(n2 l hl).1) l hm;omega,λr U=>by have:=q3 l hm r U;omega⟩),sv,q1,q2,q3,keep_other k,L2 c L d,le.trans (FE d)⟩
 have d0:∀{R mz:MH}{s':Sl},Ra m R w ts a0 st->Kept m R cb->aU R h cb->dY R mz w s' 53 1 (ts.map eS++[[sC]])->Bn mz h->Q (s',oF m mz,uI m mz h):=λx k c g d=>by
  refine fin (st':=st++[[]]) ⟨ts++[cG],by rw[map_append];exact x.row.up g (λb o e=>.inr ((k.held c) b o e)),by simp[c8],λi t l P W=>?_⟩ (λl hm=>?_) (by simp) (λn hn l hm=>?_) (λl hm r U=>?_) (k.grown x.row g) (c.keep (dY.at_cb g x.row c (by decide)) (.refl _)) (.refl _) d
  .rcases Nat.lt_or_ge i ts.length with hi|hi
   .rw[getElem?_append_left hi]at P;rw[getElem?_append_left aC]at W;have e3:a0[i]? =some a0[i]:=getElem?_eq_getElem aC;exact((x.at_ i t _ l P e3 W).imp (m':=_) (λr=>r.off g (r.ne x.row (by decide))) (λ_ _ _ r=>r.off g (r.ne x.row (by decide)))).any
   .rw[getElem?_append_right hi]at P;rw[getElem?_append_right aC]at W;have M:i-ts.length=0:=by have:=(List.getElem?_eq_some_iff.1 P).1;simp at this;omega
    rw[M]at P;rw[show i-st.length=0 by omega]at W;simp only[getElem?_cons_zero,Option.some.injEq]at P W;subst P W;exact FQ.nil _ _ _
  .rcases mem_append.1 hm with h|h
   .exact hv l h
   .rw[mem_singleton.1 h];intro r U;cases U
  .rcases mem_append.1 hm with h|h
   .have:=hn l h;omega
   .rw[mem_singleton.1 h];simp
  .rcases mem_append.1 hm with h|h
   .have:=((n2 l h).2 r U).2;omega
   .rw[mem_singleton.1 h]at U;cases U
 refine⟨λz=>w=z.1/\h=z.2.2/\Ra m z.2.1 w ts a0 st/\Kept m z.2.1 cb/\aU z.2.1 h cb/\0<st.length,aB (λ_=>?_) (λhe=>⟨cb,6,rfl,aC,aC,c1,λr m2 o2 c2=>?_⟩),?_⟩
 .exact⟨Q,⟨ts.map eS,hw.row.row,by rw[length_map];omega,by rw[length_map];omega,λs' m2 g d=>⟨(s',oF m m2,uI m m2 h),d0 hw k1 c1 g d,FT⟩⟩,done⟩
 .have d1:0<st.length:=by rw[f8]at he;simp at he;exact length_pos_iff.2 he
  have kf:∀{s:Sl}{E:TypeId}{sz:Nat}{xs:List dj},E≠83->eC m m1 s E sz xs->eC m m2 s E sz xs:=λhE r=>r.on o2 c1 hE;have b0:=hw.imp (m':=m2) (kf (by decide)) (λ_ _ _=>kf (by decide)) (λ_ _ _=>kf (by decide));refine aB (λ_=>?_) (λ_=>⟨(w,m2,h),⟨rfl,rfl,b0,k1.on o2,c2,d1⟩,MT⟩);exact⟨Q,⟨ts.map eS,b0.row.row,by rw[length_map];omega,by rw[length_map];omega,λs' m3 g d=>⟨(s',oF m m3,uI m m3 h),d0 b0 (k1.on o2) c2 g d,FT⟩⟩,done⟩
 .rintro⟨_,m2,_⟩ ⟨rfl,rfl,b0,k2,c2,d1⟩;dsimp only at b0 k2 c2⊢
  have mv:∀{ma mb:MH}{hx:PH},bK ma mb cb->aU ma hx cb->Ra m ma w ts a0 st->Ra m mb w ts a0 st:=λo c x=>x.imp (λr=>r.on o c (by decide)) (λ_ _ _ r=>r.on o c (by decide)) (λ_ _ _ r=>r.on o c (by decide));refine⟨cb,_,rfl,c2,λk m3 k0 kn o3 c3=>?_⟩;obtain⟨i,rfl⟩:∃i:Nat,k=i:=⟨k.toNat,aC⟩
  have hi:i<st.length:=by omega
  have b7:=mv o3 c2 b0;have k3:=k2.on o3;obtain⟨T,P⟩:∃T,ts[i]? =some T:=⟨_,getElem?_eq_getElem aC⟩
  obtain⟨us,W⟩:∃us,a0[i]? =some us:=⟨_,getElem?_eq_getElem aC⟩
  obtain⟨l,e3⟩:∃l,st[i]? =some l:=⟨_,getElem?_eq_getElem hi⟩
  have a5:l∈st:=mem_of_getElem? e3;have e8:=b7.at_ i T us l P W e3;have e9:us.length=l.length:=e8.len;have f':T.len=l.length:=by have:=dC.slen e8.row.row;rw[length_map]at this;omega
  obtain⟨b,hb,f9⟩:=b7.row.sget P;have nl:=(n2 l a5).1
  have S:∀{R:MH}{hx:PH}{l':dm},NI m R hx w (st.set i l')->(∀r∈l',r.length<=900001/\∀v∈r,l8 v.kind/\l8 v.int)->l'.length<=l.length+1->Kept m R cb->aU R hx cb->PH.le h hx->Bn R hx->Q (w,oF m R,uI m R hx):=λx q1 q2 k c le d=>by
   refine fin x (λl0 M=>?_) (by simp) (bTJ λn hn=>by have:=hn l a5;omega) (λl0 M r U=>?_) k c le d
   .rcases mem_or_eq_of_mem_set M with h|rfl
    .exact hv l0 h
    .exactλr U=>(q1 r U).2
   .rcases mem_or_eq_of_mem_set M with h|rfl
    .have:=((n2 l0 h).2 r U).2;omega
    .have:=(q1 r U).1;omega
  have Y:∀r∈l,r.length<=900001/\∀v∈r,l8 v.kind/\l8 v.int:=λr U=>⟨by have:=((n2 l a5).2 r U).2;omega,hv l a5 r U⟩
  have a7:∀{j:Nat}{r':dp},(r'.length<=900001/\∀v∈r',l8 v.kind/\l8 v.int)->∀r∈l.set j r',r.length<=900001/\∀v∈r,l8 v.kind/\l8 v.int:=λU r h=>by
   rcases mem_or_eq_of_mem_set h with h|rfl
   .exact Y r h
   .exact U
  refine⟨b,0,hb,aC,f9,T,b7.row.rdk P hb,λz=>z=(i,T,w,m3,h)/\l≠[],aB (λhe=>?_) (λL=>⟨(i,T,w,m3,h),⟨rfl,λe=>?_⟩,MT⟩),?_⟩
  .refine⟨Q,⟨cb,4,rfl,c3,λn m4 n0 nn o4 c4=>⟨cb,n,rfl,c4,n0,aC,λr s m5 h5 g' g0 g3 i' o5 c5=>?_⟩⟩,done⟩;have I:=mv o5 c4 (mv o4 c3 b7);obtain⟨b',f0,i0,⟨d4,A⟩,cs,F,O,Z,oZ⟩:=I.row.putG (t:=i) (by rw[length_map];omega);refine⟨b',0,f0,aC,aC,λs1 h6 d5 g4=>⟨cs,F,O,by show 0+i*1<cs.size;omega,λm6 u6 d6=>⟨(w,oF m m6,uI m m6 h6),?_,FT⟩⟩⟩;have M:=I.row.fresh b' 0 f0;refine S (l':=[r]) (NI.set (ts:=ts) (t:=s1) (by rw[map_set];exact oZ [iI s1] m6 Cg rfl u6) c8 hi (λk0 t0 l0 hk g1 g2=>?_) ⟨[s],.inr g4,rfl,λj u r' V a2=>?_⟩) (λr' b8=>?_) (by simp) (Ct ((k3.on o4).on o5) M u6) (Cz (c5.mono d5) L M u6) (g'.trans d5) d6
   .have f1:=(List.getElem?_eq_some_iff.1 g2).1;have y:=I.at_ k0 t0 _ l0 g1 (getElem?_eq_getElem aC) g2;exact(y.imp (m':=m6) (λf=>f.upd A u6 (by decide)) (λ_ _ _ f=>f.upd A u6 (by decide))).any
   .have b9:j=0:=by have:=(List.getElem?_eq_some_iff.1 V).1;simp at this;omega
    subst b9;simp only[getElem?_cons_zero,Option.some.injEq]at V a2;subst V a2;exact .inr (bT.mono g0 d5)
   .rw[mem_singleton.1 b8];exact⟨aC,g3⟩
  .rw[f',e]at L;simp at L
  .rintro _ ⟨rfl,g5⟩;dsimp only;have j1:0<l.length:=length_pos_iff.2 g5;refine⟨cb,_,rfl,c3,λk m4 j0 jn o4 c4=>⟨Q,?_,done⟩⟩;obtain⟨j,rfl⟩:∃j:Nat,k=j:=⟨k.toNat,aC⟩
   have hj:j<l.length:=by omega
   refine⟨cb,5,rfl,c4,λq m5 q0 qn o5 c5=>?_⟩;have I:=mv o5 c4 (mv o4 c3 b7);have k5:=(k3.on o4).on o5;have C:=I.at_ i T us l P W e3;obtain⟨u,J⟩:∃u,us[j]? =some u:=⟨_,getElem?_eq_getElem aC⟩
   obtain⟨r,e5⟩:∃r,l[j]? =some r:=⟨_,getElem?_eq_getElem hj⟩
   have c9:r∈l:=mem_of_getElem? e5;obtain⟨g8,nr⟩:=(n2 l a5).2 r c9;have f2:=C.at_ j u r J e5;have i1:u.len=r.length:=by have:=dC.slen f2.row;rw[length_map]at this;omega
   obtain⟨b2,a',a8⟩:=C.row.sget J;have rd:∀{R:MH}{hx:PH}{c':dn}{u':Sl}{j':Nat},eC m R T 94 1 (c'.map eS)->c'[j']? =some u'->aR R hx b2 (0+(j':Int).toNat*1) [iI u']:=λf e=>f.rdk e a';refine aB (λ_=>?_) (λ_=>aB (λ_=>?_) (λ_=>aB (λ_=>?_) (λ_=>aB (λ_=>?_) (λ_=>?_))))
   .refine⟨b2,0,a',aC,a8,u,rd C.row J,rd C.row J,cb,rfl,c5,λv m6 v1 v2 o6 c6=>?_⟩;have D:=mv o6 c5 I;have B:=D.at_ i T us l P W e3;have b5:=B.at_ j u r J e5;have k6:=k5.on o6;refine⟨rd B.row J,rd B.row J,_,b5.row,by rw[length_map];omega,by rw[length_map];omega,λs' m7 g7=>?_⟩;have c7:aU m7 h cb:=c6.keep (dY.at_cb g7 b5 c6 (by decide)) (.refl _);obtain⟨b3,G,a9,M,cs,F,O,Z,oZ⟩:=D.rowPut P W e3 (j:=j) aC (D.row.off g7 (D.row.ne b5 (by decide))) (λt0 xs f=>f.off g7 (f.ne b5 (by decide))) (λk j' c' u0 xs V a2 a3 f=>f.off g7 (PO D.apR V a2 W J a3));have f7:eC m m7 s' 27 3 ((r++[v]).map VV.enc):=by rw[map_append];exact b5.up g7 (λb o e=>.inr ((k6.held c6) b o e))
    exact⟨b3,0,G,aC,aC,cs,F,O,Z,λX H d8=>⟨(w,oF m X,uI m X h),S (oZ s' (r++[v]) X h (.inl f7) H) (a7 ⟨by simp;omega,λv' d7=>(mem_append.1 d7).elim (λh=>hv l a5 r c9 v' h) (λh=>by rw[mem_singleton.1 h];exact⟨v1,v2⟩)⟩) (by simp) (Ct (k6.grown b5 g7) M H) (Cz c7 L M H) (.refl _) d8,FT⟩⟩
   .refine⟨b2,0,a',aC,a8,u,rd C.row J,b2,0,a',aC,a8,u,rd C.row J,rd C.row J,rd C.row J,cb,_,rfl,c5,λp m6 p0 pn o6 c6=>?_⟩;obtain⟨p,rfl⟩:∃p':Nat,p=p':=⟨p.toNat,aC⟩
    have D:=mv o6 c5 I;have B:=(D.at_ i T us l P W e3).row;refine⟨rd B J,rd B J,rd B J,rd B J,cb,rfl,c6,λv m7 v1 v2 o7 c7=>?_⟩;have d':=mv o7 c6 D;have b6:=d'.at_ i T us l P W e3;have f3:=b6.at_ j u r J e5;have k7:=(k5.on o6).on o7;refine⟨rd b6.row J,rd b6.row J,?_⟩;obtain⟨b3,G,a9,⟨d4,A⟩,cs,F,O,Z,oZ⟩:=f3.putG (t:=p) (by rw[length_map];omega);have M:=f3.fresh b3 0 G;refine⟨b3,0,G,aC,aC,cs,F,O,Z,λX H d8=>⟨(w,oF m X,uI m X h),S (d'.rowSet (u':=u) (j:=j) (r':=r.set p v) P W e3 (d'.row.upd A H (by decide)) (by rw[RF J];exact b6.row.upd A H (by decide)) (.inl ?_) (λt0 xs _ f=>f.upd A H (by decide)) (λk j' c' u0 xs V a2 a3 f=>f.updA (PO d'.apR V a2 W J a3) G H)) (a7 ⟨by simp;omega,λv' d7=>?_⟩) (by simp) (Ct k7 M H) (Cz c7 L M H) (.refl _) d8,FT⟩⟩
    .rw[map_set];exact oZ (VV.enc v) X (by rw[<-map_set];exact Cf _) rfl H
    .rcases mem_or_eq_of_mem_set d7 with h|rfl
     .exact hv l a5 r c9 v' h
     .exact⟨v1,v2⟩
   .refine⟨b2,0,a',aC,a8,u,rd C.row J,u,r,rfl,(by cases r with
     |nil=>simp at g8
     |cons a r=>exact dC.src f2.row),aC,λs' m6 g6=>?_⟩
    have D:=I.imp (m':=m6) (λf=>f.nilg g6) (λ_ _ _ f=>f.nilg g6) (λ_ _ _ f=>f.nilg g6);have B:=D.at_ i T us l P W e3;have s6:=(eC.nil m m5 27 3).up g6 (λb o e=>.inr ((k5.held c5) b o e));have k6:=k5.grown (eC.nil m m5 27 3) g6;have c6:aU m6 h cb:=c5.keep (dY.at_cb g6 (eC.nil m m5 27 3) c5 (by decide)) (.refl _);refine⟨rd B.row J,rd B.row J,_,B.row.row,by rw[length_map];omega,by rw[length_map];omega,λt' m7 g7=>⟨coJ B.row g7 J a',?_⟩⟩;have b6:eC m m7 t' 94 1 ((us++[s']).map eS):=by rw[map_append];exact B.row.up g7 (λb o e=>.inr ((k6.held c6) b o e))
    have k7:=k6.grown B.row g7;have c7:aU m7 h cb:=c6.keep (dY.at_cb g7 B.row c6 (by decide)) (.refl _);have d2:=D.row.off g7 (D.row.ne B.row (by decide));obtain⟨b3,G,a9,⟨d4,A⟩,cs,F,O,Z,oZ⟩:=d2.putG (t:=i) (by rw[length_map];omega);have M:=d2.fresh b3 0 G;refine⟨b3,0,G,aC,aC,cs,F,O,by show 0+i*1<cs.size;omega,λX H d8=>⟨(w,oF m X,uI m X h),S (l':=l++[r]) (NI.set (ts:=ts) (t:=t') (by rw[map_set];exact oZ [iI t'] X Cg rfl H) c8 hi (λk0 t0 l0 hk g1 g2=>?_) ⟨us++[s'],.inl (b6.upd A H (by decide)),by simp[e9],λj' u' r' V a2=>.inl ?_⟩) (λr' b8=>?_) (by simp) (Ct k7 M H) (Cz c7 L M H) (.refl _) d8,FT⟩⟩
    .have f1:=(List.getElem?_eq_some_iff.1 g2).1;have y:=D.at_ k0 t0 _ l0 g1 (getElem?_eq_getElem aC) g2;exact(y.imp (m':=X) (λf=>(f.off g7 (IZ D.apT P g1 hk)).upd A H (by decide)) (λ_ _ _ f=>(f.off g7 (f.ne B.row (by decide))).upd A H (by decide))).any
    .rcases Nat.lt_or_ge j' us.length with d9|d9
     .rw[getElem?_append_left d9]at V;rw[getElem?_append_left aC]at a2;have f:=B.at_ j' u' r' V a2;exact(f.off g7 (f.ne B.row (by decide))).upd A H (by decide)
     .rw[getElem?_append_right d9]at V;rw[getElem?_append_right aC]at a2;have z0:j'-us.length=0:=by have:=(List.getElem?_eq_some_iff.1 V).1;simp at this;omega
      rw[z0]at V;rw[show j'-l.length=0 by omega]at a2;simp only[getElem?_cons_zero,Option.some.injEq]at V a2;subst V a2;exact(s6.off g7 (s6.ne B.row (by decide))).upd A H (by decide)
    .rcases mem_append.1 b8 with h|h
     .exact Y r' h
     .rw[mem_singleton.1 h];exact Y r c9
   .have g9:IntKind.i64.wrap ((T.len:Int)-1)=((l.length-1:Nat):Int):=by
     rw[f',show(l.length:Int)-1=((l.length-1:Nat):Int)by omega];exact dL aC aC
    rw[g9];obtain⟨uL,V⟩:∃u,us[l.length-1]? =some u:=⟨_,getElem?_eq_getElem aC⟩
    obtain⟨u0,a2⟩:∃u,us[0]? =some u:=⟨_,getElem?_eq_getElem aC⟩
    obtain⟨rL,a3⟩:∃r,l[l.length-1]? =some r:=⟨_,getElem?_eq_getElem aC⟩
    obtain⟨r0,a4⟩:∃r,l[0]? =some r:=⟨_,getElem?_eq_getElem aC⟩
    obtain⟨b3,G,a9,⟨d4,A⟩,cs,F,O,Z,oZ⟩:=C.row.putG (t:=0) (by rw[length_map];omega);have M:=C.row.fresh b3 0 G;refine⟨b2,0,a',aC,aC,uL,rd C.row V,b2,0,a',aC,aC,u0,rd C.row a2,b3,0,G,aC,aC,cs,F,O,aC,λm6 u6=>?_⟩;have B:eC m m6 T 94 1 ((us.set 0 uL).map eS):=by rw[map_set];exact oZ [iI uL] m6 Cg rfl u6
    obtain⟨b4,e0,i2,⟨i3,a6⟩,f4,F4,f5,i4,e6⟩:=B.putG (t:=l.length-1) (by rw[length_map,length_set];omega);have f6:=B.fresh b4 0 e0;refine⟨b4,0,e0,aC,aC,f4,F4,f5,by show 0+(l.length-1)*1<f4.size;omega,λX H d8=>⟨(w,oF m X,uI m X h),S (l':=(l.set 0 rL).set (l.length-1) r0) (NI.set (ts:=ts) (t:=T) (by rw[RF P];exact(I.row.upd A u6 (by decide)).upd a6 H (by decide)) c8 hi (λk0 t0 l0 hk g1 g2=>?_) ⟨(us.set 0 uL).set (l.length-1) u0,.inl ?_,by simp[e9],λj' u' r' c1 c2=>.inl ?_⟩) (λr' b8=>?_) (by simp) (Ct (Ct k5 M u6) f6 H) (Cz (Cz c5 L M u6) L f6 H) (.refl _) d8,FT⟩⟩
    .have f1:=(List.getElem?_eq_some_iff.1 g2).1;have y:=I.at_ k0 t0 _ l0 g1 (getElem?_eq_getElem aC) g2;have ap:=IZ I.apT P g1 hk;exact(y.imp (m':=X) (λf=>(f.updA ap G u6).updA ap e0 H) (λ_ _ _ f=>(f.upd A u6 (by decide)).upd a6 H (by decide))).any
    .rw[map_set];exact e6 [iI u0] X Cg rfl H
    .have b1:=(List.getElem?_eq_some_iff.1 c1).1;have h9:=(List.getElem?_eq_some_iff.1 c2).1;rw[length_set,length_set]at b1 h9;have c0:∀{j0:Nat},us[j0]? =some u'->l[j0]? =some r'->eC m X u' 27 3 (r'.map VV.enc):=λe e'=>((C.at_ _ u' r' e e').upd A u6 (by decide)).upd a6 H (by decide);by_cases e7:j'=l.length-1
     .rw[e7,getElem?_set_self (by rw[length_set];omega)]at c1;rw[e7,getElem?_set_self (by rw[length_set];omega)]at c2;cases c1;cases c2;exact c0 a2 a4
     .rw[getElem?_set_ne (Ne.symm e7)]at c1 c2;by_cases b9:j'=0
      .rw[b9,getElem?_set_self aC]at c1;rw[b9,getElem?_set_self aC]at c2;cases c1;cases c2;exact c0 V a3
      .rw[getElem?_set_ne (Ne.symm b9)]at c1 c2;exact c0 c1 c2
    .rcases mem_or_eq_of_mem_set b8 with h|rfl
     .exact a7 (Y rL (mem_of_getElem? a3)) r' h
     .exact Y _ (mem_of_getElem? a4)
   .obtain⟨b3,G,a9,M,cs,F,O,Z,oZ⟩:=I.rowPut P W e3 (j:=j) aC I.row (λt0 xs f=>f) (λk j' c' u0 xs V a2 a3 f=>f);exact⟨b3,0,G,aC,aC,cs,F,O,Z,λm6 u6 d6=>⟨(w,oF m m6,uI m m6 h),S (oZ cG [] m6 h (.inl (eC.nil _ _ _ _)) u6) (a7 ⟨by simp,λv hv=>by cases hv⟩) (by simp) (Ct k5 M u6) (Cz c5 L M u6) (.refl _) d6,FT⟩⟩
def cGZ:Vc.Spec:=λc m h K=>∃d st,c=[XJ d]/\Leaves h d st/\∀b:Bool,(b=true->st.length<=8/\∀l∈st,l.length<=6)->K (cB b) m h
noncomputable def b8J(sl:Sl)(m:MH)(h:PH):Ctx:=cT [] [(4,{A:=Nat,st:=λi=>bO 20 21 [(1,.at (.ptr 1 0)),(10,sv sl),(11,iv sl.len),(12,iv i)] [(1,.cells 25 [.val (.slice sl.a sl.len sl.cap)])] m h})] [] [] false
def W8(sl:Sl)(m:MH)(h:PH)(K:dk):Prop:=
  fA (aF sl) 8 (K aX m h) (j6 (λI x=>aA (I x) dW (aA (aH sl) (aY sl) (aA (aZ x) (mK sl) (aA (m=m) (h=h) True)))) (λI d x=>I x->aW (↑x:Int) (aF sl) (aJ (λb o=>aI (aK sl.a b o) (0<=(↑x:Int)) ((↑x:Int)<aF sl) (∃(y:Sl),aR m h b (bE o x 1) (aM y)/\fA (aF y) 6 (K aX m h) (∃(c:Nat),aA (I c) (d c<d x) (aA dW (aH sl) (aA (aY sl) (eR (bF ((↑x:Int)+1))=bL c) (aA (mK sl) (m=m) (bR h h)))))))) (K dR m h)))
theorem aYZ:di 16 cGZ:=by
 refine fU func16 ?_;rintro z m h K ⟨x,st,rfl,y,f⟩;refine⟨b8J x m h,rfl,aG,W8 x m h K,bu,?_⟩;dsimp only[W8,push_cast];have g:=bI.slen y;refine aD (λ_=>f false (λe=>by cases e)) (λF=>⟨λi=>i<=st.length/\∀l∈st.take i,l.length<=6,λi=>st.length-i,⟨0,⟨aC,bx⟩,MT⟩,?_⟩);rintro i ⟨G,c⟩;refine aD (λj=>?_) (λA=>f true λ_=>⟨aC,by rw[cu aC]at c;exact c⟩);obtain⟨l,n⟩:=dO g j;obtain⟨b,o,u,B,rd,C⟩:=bI.at y n;have D:=bI.slen C;refine⟨b,o,B,aC,aC,u,.imm rd,aD (λ_=>f false (λe=>by cases e)) (λH=>⟨i+1,⟨by have:=(cn n);omega,λE d=>?_⟩,cj,?_⟩)⟩
 .rw[db,n]at d;rcases mem_append.1 d with h|h
  .exact c E h
  .simp at h;subst h;omega
 .rw[fD aC];exact MT
def cEJ:Vc.Spec:=λc m h K=>∃cb s key ks e,c=[cP cb,cS s,cI key,cI e]/\aU m h cb/\Ints h s ks/\ks.length<=1000/\(∀k∈ks,k=3\/k=4\/k=5)/\∀d r m' h',PH.le h h'->bT h' d r->Vd key ks r->bK m m' cb->aU m' h' cb->K (cS d) m' h'
def StateM:Vc.Spec:=λc m h K=>∃cb v s e,c=[cP cb,aS v,cI e]/\aU m h cb/\fR h s v/\D8 s/\∀st d m' h',PH.le h h'->GW h' d st->ahJ s st->bK m m' cb->aU m' h' cb->K (XJ d) m' h'
noncomputable def biQ(cb:Nat)(key c:Int)(s:Sl):Ctx:=cT [(13,G6),(95,MK)] [(3,{A:=Nat×dp×MH×PH,st:=λ⟨i,l,m,h⟩=>bO 59 63 [(0,pv cb),(2,iv key),(3,iv c),(9,.at (.lst 24)),(12,sv s),(13,iv s.len),(14,iv i)] [(24,.lst 27 3 (l.map VV.enc))] m h})]
 [(7,{A:=Nat×Int×dp×Bool×MH×PH,st:=λ⟨i,k,l,b,m,h⟩=>bO 59 63 [(0,pv cb),(2,iv key),(3,iv c),(9,.at (.lst 24)),(10,iv i),(11,iv k),(12,sv s),(13,iv s.len),(14,iv i),(25,bv b)] [(24,.lst 27 3 (l.map VV.enc))] m h}),
  (9,{A:=Nat×Int×dp×Bool×MH×PH,st:=λ⟨i,k,l,b,m,h⟩=>bO 59 63 [(0,pv cb),(2,iv key),(3,iv c),(9,.at (.lst 24)),(10,iv i),(11,iv k),(12,sv s),(13,iv s.len),(14,iv i),(41,bv b)] [(24,.lst 27 3 (l.map VV.enc))] m h})] [] false
noncomputable def bzJ(cb:Nat)(c:Int)(v:bX):Ctx:=rI [(12,Ea),(46,y8),(45,cEJ),(48,aCX),(47,cFX)] [(3,{A:=Nat×Sl×MH×PH,st:=λ⟨i,s,m,h⟩=>bO 51 54 [(0,pv cb),(2,iv c),(4,.at (.ptr 4 0)),(6,.at (.ptr 6 0)),(7,.at (.ptr 7 0)),(18,iv v.tables.len),(19,iv i)] [(4,.cells 43 (v.enc.map .val)),(6,.cells 25 [.val cG.val]),(7,.cells 25 [.val (.slice s.a s.len s.cap)])] m h}),
 (6,{A:=Nat×Int×Sl×MH×PH,st:=λ⟨i,n,s,m,h⟩=>bO 51 54 [(0,pv cb),(2,iv c),(4,.at (.ptr 4 0)),(6,.at (.ptr 6 0)),(7,.at (.ptr 7 0)),(8,iv i),(9,iv n),(18,iv v.tables.len),(19,iv i)] [(4,.cells 43 (v.enc.map .val)),(6,.cells 25 [.val cG.val]),(7,.cells 25 [.val (.slice s.a s.len s.cap)])] m h})] [] [] [2023] [] false
noncomputable abbrev BY(a:Nat×dp×MH×PH):List dj:=kR a.2.1
noncomputable abbrev yH(a:Nat×dp×MH×PH):Nat->Option Obj:=a.2.2.1
noncomputable abbrev vX(a:Nat×dp×MH×PH):Nat->Nat->Option Value:=a.2.2.2
abbrev EK(a:Nat×Int×dp×Bool×MH×PH->Prop)(b:Nat)(c d:Int)(e:Nat)(g:Int)(i:Sl)(j k l:(Nat×Int×dp×Bool×MH×PH)->Prop):Prop:=∃(x:Nat×Int×dp×Bool×MH×PH),aA (a x) (dE b) (aA (iF c) (iF d) (aA (eL 24) (bV e x.1) (aA (dA g x.2.1) (aH i) (aA (aY i) (bV e x.1) (aA (j x) (k x) (l x))))))
noncomputable abbrev BX(a:Nat×Int×dp×Bool×MH×PH):Bool:=a.2.2.2.1
noncomputable abbrev pN(a:Nat×Int×dp×Bool×MH×PH):List dj:=kR a.2.2.1
noncomputable abbrev sN(a:Nat×Int×dp×Bool×MH×PH):Nat->Option Obj:=a.2.2.2.2.1
noncomputable abbrev pM(a:Nat×Int×dp×Bool×MH×PH):Nat->Nat->Option Value:=a.2.2.2.2.2
attribute [push_cast] BY yH vX EK BX pN sN pM
def Sd(cb:Nat)(s:Sl)(key g:Int)(m:MH)(h:PH)(K:dk):Prop:=
  ∃(I:Nat×dp×MH×PH->Prop)(n:Nat×dp×MH×PH->Nat),(∃(x:Nat×dp×MH×PH),aA (I x) (dE cb) (aA (iF key) (iF g) (aA (eL 24) (aH s) (aA (aY s) (aZ x.1) (bS (u9 27 3 (BY x)) m (yH x) h (vX x))))))/\∀(x:Nat×dp×MH×PH),I x->aW (↑x.1:Int) (aF s) (aJ (λb o=>aI (aK s.a b o) (0<=(↑x.1:Int)) ((↑x.1:Int)<aF s) (∃(y:Int),aR (yH x) (vX x) b (bE o x.1 1) (bQ y)/\∃(I1:Nat×Int×dp×Bool×MH×PH->Prop),eK (↑x.1:Int) key (cK g 1 (jT cb 5 (yH x) (vX x) (λc r j=>lC (yH x) j c (vX x) (EK I1 cb key g x.1 y s (λd=>iL r (BX d)) (λd=>bW 27 3 (BY x)=bW 27 3 (pN d)) (λd=>bG j (sN d) (vX x) (pM d))))) (EK I1 cb
 key g x.1 y s (λd=>wH (BX d)) (λd=>bW 27 3 (BY x)=bW 27 3 (pN d)) (λd=>bG (yH x) (sN d) (vX x) (pM d)))) (EK I1 cb key g x.1 y s (λd=>wH (BX d)) (λd=>bW 27 3 (BY x)=bW 27 3 (pN d)) (λd=>bG (yH x) (sN d) (vX x) (pM d)))/\∀(d:Nat×Int×dp×Bool×MH×PH),eT (I1 d) (BX d) (iY (pN d) 32 (∃(e:Nat×dp×MH×PH),aA (I e) (n e<n x) (aA (dE cb) (iF key) (aA (iF g) (eL 24) (aA (aH s) (aY s) (rZ (eR (bF ((↑d.1:Int)+1))=bL e.1) (bW 27 3 (eG (pN d) (Kx 2))=bW 27 3 (BY e)) (sN d) (yH e) (pM d) (vX e))))))) (∃(I2:Nat×Int×dp×Bool×MH×PH->Prop),eK (↑d.1:Int) key (dD g 3
 (jT cb 5 (sN d) (pM d) (λc r j=>lC (sN d) j c (pM d) (EK I2 cb key g d.1 d.2.1 s (λe=>iL r (BX e)) (λe=>bW 27 3 (pN d)=bW 27 3 (pN e)) (λe=>bG j (sN e) (pM d) (pM e))))) (EK I2 cb key g d.1 d.2.1 s (λe=>wH (BX e)) (λe=>bW 27 3 (pN d)=bW 27 3 (pN e)) (λe=>bG (sN d) (sN e) (pM d) (pM e)))) (EK I2 cb key g d.1 d.2.1 s (λe=>wH (BX e)) (λe=>bW 27 3 (pN d)=bW 27 3 (pN e)) (λe=>bG (sN d) (sN e) (pM d) (pM e)))/\∀(e:Nat×Int×dp×Bool×MH×PH),eT (I2 e) (BX e) (iY (pN e) 32 (∃(f:Nat×dp×MH×PH),aA (I f) (n f<n x) (aA (dE cb) (iF key) (aA
 (iF g) (eL 24) (aA (aH s) (aY s) (rZ (eR (bF ((↑e.1:Int)+1))=bL f.1) (bW 27 3 (eG (pN e) (Kx 1))=bW 27 3 (BY f)) (sN e) (yH f) (pM e) (vX f))))))) (HA cb e.2.1 (sN e) (pM e) (λv j=>iY (pN e) 32 (∃(f:Nat×dp×MH×PH),aA (I f) (n f<n x) (aA (dE cb) (iF key) (aA (iF g) (eL 24) (aA (aH s) (aY s) (rZ (eR (bF ((↑e.1:Int)+1))=bL f.1) (bW 27 3 (eG (pN e) v.enc)=bW 27 3 (BY f)) j (yH f) (pM e) (vX f)))))))))))) (bU (vX x) 3 (BY x) (λz A=>K (F9 z) (yH x) A))
noncomputable abbrev Fm(a:Nat×Int×Sl×MH×PH):Nat->Nat->Option Value:=uQ a.2.2
attribute [push_cast] Fm
def Mt(cb:Nat)(g:Int)(v:bX)(m:MH)(h:PH)(K:dk):Prop:=
  aA (bY (gE v)) (gE v<=gE v) (aA (qU (gE v*24)) (qU (gE v)) (jN (λs L=>qE m L h s 53 1 (xH (gE v) lV)->Fh (λI x=>aA (I x) (dE cb) (aA (iF g) fI (aA gO gI (aA (iZ v) (aZ x.1) (aA (bP v) pW (aA (rU s (gR x)) (L=eJ x) (bR h (fB x)))))))) (λI M x=>I x->aW (↑x.1:Int) (aF v.tables) (eW cb 5 (eJ x) (fB x) (λk Z=>∃(I1:Nat×Int×Sl×MH×PH->Prop)(O:Nat×Int×Sl×MH×PH->Nat),(∃(d:Nat×Int×Sl×MH×PH),aA (I1 d) (dE cb) (aA (iF g) fI (aA gO gI (aA (bV x.1 d.1) (dA k d.2.1) (aA (iZ v) (bV x.1 d.1) (aA (bP v) pW (bS (rU (gR x) d.2.2.1) Z (sV d.2.2) (fB x) (Fm d))))))))/\∀(d:Nat×Int×Sl×MH×PH),
 I1 d->fA d.2.1 0 (aJ (λb o=>aI (aK (lW v) b o) (0<=(↑d.1:Int)) ((↑d.1:Int)<aF v.tables) (∃(y:Int),aA (aR (sV d.2.2) (Fm d) b (bE o d.1 5+2) (bQ y)) (bZ (Fm d) b (bE o d.1 5+2) (bQ y)) (C1 (bD (gV (cD v)) (↑d.1:Int)) (Fm d) (λs1 F=>∃(c:Nat)(P:Sl)(Q:Int)(z:dl)(m5:Int),aA (uR cb 0::cA s1 (bD (fN y) g)=uR c 0::cA P (bD (fN Q) m5)) (aU (sV d.2.2) F c) (aA (Ints F P z) (eX z) ((∀(f:Int),List.Mem f z->f=3\/f=4\/f=5)/\∀(G:Sl)(r:dp),iM (λA B=>dN F B (bT B G r) (Vd Q z r->bK (sV d.2.2) A c->kI A B c (Kh v d.1 G B (λs4 j=>qS (λR S=>aJ (λt n=>∃(T:Nat)(u:dn)(U:Sl)(C:Nat)(V:A8)(D:
 dm),nB (λW f=>nB (λX E=>aA (cV (cD v) (cV (aM d.2.2.1) (fN (↑d.1:Int)::dK s4 G))=cV (cD R) (cV (kH (Value.slice (xW t) n T)) (fN (↑C:Int)::dK W X))) (fR j S R) (aA (Oj S C V) (a4Z A t u) (aA (n=u.length) (u[C]? =Option.some U) (aA (Rows j U D) (nA D.length) (aA (tR D (λr3=>Co r3)) (bT j W f) (aA (bT j X E) (0<E.length) (Co E/\∀(Y:Sl),iM (λH J=>dN j J (Rows J Y (Ch V f E false D)) (a4Z H t (List.set u C Y)->bK A H t->∃(e:Nat×Int×Sl×MH×PH),aA (I1 e) (O e<O d) (aA (dE cb) (iF g) (aA fI gO (aA gI (bV d.1 e.1) (aA (dA (kY d.2.1) e.2.1) (iZ v) (aA (bV d.1 e.1) (bP v) (aA pW (oQ 25 (kM (At.val
 (Value.slice (xW t) n T)))=oQ 25 (kM (jR e.2.2.1))) (aA (H=sV e.2.2) (J=Fm e) True)))))))))))))))))))))))))))))) (∃(e:Nat×Sl×MH×PH),aA (I e) (M e<M x) (aA (dE cb) (iF g) (aA fI gO (aA gI (iZ v) (aA (eR (bF ((↑d.1:Int)+1))=bL e.1) (bP v) (aA pW (rU d.2.2.1 (gR e)) (bG (sV d.2.2) (eJ e) (Fm d) (fB e)))))))))) (K (gV (aM (gR x))) (eJ x) (fB x))))))
theorem YA:di 45 cEJ:=by
 refine fU func45 ?_;rintro Z m h K ⟨cb,s,key,ks,V,rfl,hc,W,hl,hk,hK⟩;refine⟨biQ cb key V s,rfl,aE rP (aE D3 aG),Sd cb s key V m h K,bu,?_⟩;dsimp only[Sd,push_cast];have I:=W.slen;refine⟨λz=>z.2.2.2=h/\z.1<=ks.length/\Vd key (ks.take z.1) z.2.1/\bK m z.2.2.1 cb/\aU z.2.2.1 h cb,λz=>ks.length-z.1,⟨(0,[],m,h),⟨rfl,bx,⟨bx,bx,λj u k h=>by simp at h⟩,.refl _ _,hc⟩,MT⟩,?_⟩;rintro⟨i,l,n,h'⟩ ⟨X,hi,d,J,C⟩;dsimp only at X hi d J C⊢
 subst X;have a':l.length=i:=by rw[d.1,length_take];omega
 refine aD (λL=>?_) (λa0 s' h2 D M=>?_)
 .obtain⟨k,E⟩:=dO I L;obtain⟨b,o,ea,rd⟩:=W.at' E;have O:=hk k (cr E);have P:∀(u:VV)(m':MH),NJ u->w7 key k i u=true->bK n m' cb->aU m' h' cb->h'=h'/\i+1<=ks.length/\Vd key (ks.take (i+1)) (l++[u])/\bK m m' cb/\aU m' h' cb:=λu m' Q hf o c=>⟨rfl,aC,d.snoc E Q hf,J.trans o,c⟩
  have f:ks.length-(i+1)<ks.length-i:=by omega
  have R:IntKind.i64.wrap ((i:Int)+1)=((i+1:Nat):Int):=fD aC;refine⟨b,o,ea,aC,aC,k,.imm rd,λz=>∃b m',z=(i,k,l,b,m',h')/\(b=true->key<=(i:Int))/\bK n m' cb/\aU m' h' cb,aD (λg=>aB (λ_=>⟨cb,5,rfl,aC,aC,C,λr y A B=>⟨_,⟨r,y,rfl,λ_=>g,A,B⟩,MT⟩⟩) (λ_=>⟨_,⟨false,n,rfl,(λe=>by cases e),.refl _ _,C⟩,MT⟩)) (λ_=>⟨_,⟨false,n,rfl,(λe=>by cases e),.refl _ _,C⟩,MT⟩),?_⟩;rintro _ ⟨b1,y,rfl,S,A,B⟩;dsimp only;refine aB (λe=>⟨cd,cd,(i+1,l++[⟨2,0,⟨#[]⟩⟩],y,h'),P _ y (Vr 2) (Wn (.inr rfl) (S e)) A B,f,by rw[R,cv];exact MT⟩) (λ_=>?_);refine⟨λz=>∃b m',z=(i,k,l,b,m',h')/\(b=true->key<=(i:Int))/\bK n m' cb/\aU m' h' cb,aD (λg=>aB (λ_=>⟨cb,5,rfl,aC,aC,B,λr F G H=>⟨_,⟨r,F,rfl,λ_=>g,A.trans G,H⟩,MT⟩⟩) (λ_=>⟨_,⟨false,y,rfl,(λe=>by cases e),A,B⟩,MT⟩)) (λ_=>⟨_,⟨false,y,rfl,(λe=>by cases e),A,B⟩,MT⟩),?_⟩;rintro _ ⟨b2,F,rfl,T,G,H⟩;dsimp only;refine aB (λe=>⟨cd,cd,(i+1,l++[⟨1,0,⟨#[]⟩⟩],F,h'),P _ F (Vr 1) (Wn (.inl rfl) (T e)) G H,f,by rw[R,cv];exact MT⟩) (λ_=>⟨cb,k,rfl,H,λu Y Q U o4 c4=>?_⟩);refine⟨cd,cd,(i+1,l++[u],Y,h'),P _ Y Q (aNX O U) (G.trans o4) c4,f,?_⟩;rw[R,cv];exact MT
 .rw[cu aC]at d;exact hK s' l n h2 D ⟨⟨l,M,rfl,λi x E=>⟨x,E,rfl⟩⟩,aC⟩ d J (C.mono D)
theorem aaZ:di 11 StateM:=by
 refine Wm func11 ?_;rintro c8 m h K ⟨cb,v,s,mo,rfl,hc,hs,hp,hK⟩;refine⟨bzJ cb mo v,rfl,aE FD (aE Ii (aE YA (aE L6 (aE aRJ aG)))),Mt cb mo v m h (fJ h K),bu,?_⟩;show Mt cb mo v m h (fJ h K);dsimp only[Mt,push_cast];have b2:=hs.tables.slen;obtain⟨a5,b3⟩:=VO hp;have h8:=IU a5;have b4:=zH a5;have c9:0<s.tables.length:=length_pos_iff.2 b3;refine⟨aC,aC,aC,aC,λV m1 H=>?_⟩;rw[show((v.tables.len:Int)).toNat=s.tables.length by omega]at H
 obtain⟨I,D,C,G,J,_,_,a6,R⟩:∃b D C,V=⟨some ⟨b,0,none⟩,s.tables.length,D⟩/\m1 b=some (.cells C 53 (0,0))/\s.tables.length<=D/\D<=maxLen/\C.size=D*1/\C.toList.take (s.tables.length*1)=(replicate s.tables.length [sC]).flatten:=by
  rcases H.row.ex with⟨_,e⟩|⟨b,D,C,L,S,e3,e4,e5,e6⟩
  .have:=congrArg List.length e;rw[length_replicate,length_nil]at this;omega
  .rw[length_replicate]at L e3 e6;exact⟨b,D,C,L,S,e3,e4,e5,e6⟩
 have a0:s.tables.length<=D:=by assumption
 have W:lZ m h I:=H.fresh I 0 (by rw[G])
 have F:I≠cb:=λe=>by
  obtain⟨cs,S⟩:=hc.blk;rw[<-e,W.m_]at S;cases S
 have X:∀b,b≠I->m1 b=m b:=λb hb=>H.other b λi e=>by
  rw[G]at e;injection e with e;injection e with L S;exact hb L.symm
 have a7:aU m1 h cb:=hc.keep (X cb (Ne.symm F)) (.refl _)
 have a8:TSt h s m1 I (replicate s.tables.length ⟨none,0,0⟩) (replicate s.tables.length []):=by
  refine⟨⟨C,J,by rw[length_replicate];omega,?_⟩,bx,bx,λj u l M E=>?_,λj t l ht E=>?_,λl E=>?_,λl E=>?_⟩
  .rw[length_replicate, <-Nat.mul_one s.tables.length,R,Nat.mul_one,map_replicate];generalize s.tables.length=k
   induction k with
   |zero=>rfl
   |succ k ih=>rw[replicate_succ,flatten_cons,ih,replicate_succ];rfl
  .have M:=cr M;have E:=cr E;rw[eq_of_mem_replicate M,eq_of_mem_replicate E];exact bI.nil _ _ _ _
  .rw[eq_of_mem_replicate (cr E)];exact⟨λr hr=>by simp at hr,λi r r' e=>by simp at e⟩
  .rw[eq_of_mem_replicate E];intro r hr;simp at hr
  .rw[eq_of_mem_replicate E];simp
 clear R a6 J C;refine⟨λz=>z.1<=s.tables.length/\z.2.1=V/\PH.le h z.2.2.2/\aU z.2.2.1 z.2.2.2 cb/\(∀b,b≠I->b≠cb->z.2.2.1 b=m b)/\∃us st,TSt z.2.2.2 s z.2.2.1 I us st/\∀j l,z.1<=j->st[j]? =some l->l=[],λz=>s.tables.length-z.1,⟨(0,V,m1,h),⟨bx,rfl,.refl _,a7,λb h1 _=>X b h1,_,_,a8,λj l _ e=>eq_of_mem_replicate (cr e)⟩,MT⟩,?_⟩;clear a8 a7;rintro⟨i,a1,m2,h2⟩ ⟨hi,L,T,c2,o2,us,st,f,g⟩;dsimp only at hi L T c2 o2 f g⊢
 rw[L];clear L a1;refine aD (λb5=>?_) (λd'=>?_)
 .obtain⟨tab,A⟩:=dO b2 b5;have a2:=cr A;obtain⟨tk,tc,d0,b6⟩:=RP hp a2;have a9:=(cn A)
  have O:st[i]? =some []:=by
   have:=getElem?_eq_getElem (l:=st) (i:=i) (by rw[f.slen];exact a9);rw[this,g i _ (Nat.le_refl _) this]
  refine⟨cb,5,rfl,c2,λk m3 k0 k1 o3 c3=>?_⟩;refine⟨λz=>z.1=i/\z.2.2.1=V/\z.2.1<=4/\PH.le h z.2.2.2.2/\aU z.2.2.2.1 z.2.2.2.2 cb/\(∀b,b≠I->b≠cb->z.2.2.2.1 b=m b)/\∃us st l,TSt z.2.2.2.2 s z.2.2.2.1 I us st/\st[i]? =some l/\((l.length:Int)<=4-z.2.1)/\0<=z.2.1/\∀j l,i+1<=j->st[j]? =some l->l=[],λz=>z.2.1.toNat,⟨(i,k,V,m3,h2),⟨rfl,rfl,ck,T,c3,λb h1 h2=>by show m3 b=m b;rw[o3.other b h2];exact o2 b h1 h2,us,st,[],f.mono (.refl _) (o3.other I F),O,ce,k0,λj l hj=>g j l aC⟩,MT⟩,?_⟩;clear o3 c3 m3 k0 k1 f g O us st k o2 c2 m2;rintro⟨i',n,a1,m3,h3⟩ ⟨L,S,b7,B,c3,o3,us,st,l,f,E,b8,b',g⟩;dsimp only at L S b7 B c3 o3 f E b8 b' g⊢
  rw[L,S];clear L S i' a1;refine aD (λhn=>?_) (λhn=>?_)
  .obtain⟨b,o,y,ea,rd,hy⟩:=bI.at (hs.mono B).tables A;have b9:kA s (i:Int)=tab.columns.map pB.kind:=by rw[kA,if_neg aC,Int.toNat_natCast,A]
   refine⟨b,o,ea,aC,aC,tab.key,.imm (by rw[<-hy.key];exact bZ.part rd 2 1),by rw[<-hy.key];exact bZ.part rd 2 1,v,s,i,rfl,hs.mono B,b4,λks h4 P b0=>?_⟩;rw[b9]at b0;refine⟨cb,ks,tab.key,_,mo,rfl,c3.mono P,b0,cd,λk hk=>?_,λsr row m5 h5 U Y Z o5 c5=>?_⟩
   .obtain⟨c,hc,rfl⟩:=mem_map.1 hk;exact b6 c hc
   have d1:row.length=tab.columns.length:=by rw[Z.1,length_map]
   refine⟨v,s,i,sr,row,rfl,hs.mono ((B.trans P).trans U),Y,aC,λsk h6 Q a'=>?_⟩;rw[AT A]at a';have a3:=f.mono ((P.trans U).trans Q) (o5.other I F);obtain⟨u,M⟩:∃u,us[i]? =some u:=⟨_,cq (by rw[f.ulen];exact a9)⟩
   have c':=cr E;refine⟨v,s,I,s.tables.length,D,us,u,i,tab,l,sk,mP tab row,sr,row,by rw[G],hs.mono (((B.trans P).trans U).trans Q),A,a3.tbl,f.ulen.symm,M,a3.rows i u l M E,by have:=f.few l c';omega,λr hr=>?_,a',bT.mono Y Q,aC,aC,λu' m7 h7 a4 c0 c1 o7=>?_⟩
   .have:=(Ie ((f.ok i tab l A E).1 r hr)).1;omega
   have hw:IntKind.i64.wrap (n-1)=n-1:=dL aC aC;have c4:=NU (t:=tab) (key:=mP tab row) (row:=row) (l:=l) (d:=false);simp at c4;refine⟨(i,n-1,V,m7,h7),⟨rfl,rfl,ck,(((B.trans P).trans U).trans Q).trans a4,(c5.mono (Q.trans a4)).keep (o7.other cb (Ne.symm F)) (.refl _),λb h1 h2=>by show m7 b=m b;rw[o7.other b h1,o5.other b h2];exact o3 b h1 h2,us.set i u',st.set i _,_,a3.put a4 A E c1 c0 Z aC,getElem?_set_self (cn E),by show(_:Int)<=4-(n-1);omega,ck,λj l' hj e=>?_⟩,by show(n-1).toNat<n.toNat;omega,?_⟩
   .rw[getElem?_set_ne aC]at e;exact g j l' hj e
   .rw[hw,G];exact MT
  .refine⟨(i+1,V,m3,h3),⟨ck,rfl,B,c3,o3,us,st,f,g⟩,cj,?_⟩;rw[fD aC];exact MT
 .obtain⟨C,J,a6,R⟩:=f.tbl;refine fJ.iceB J T λh3 B b1=>hK st V _ h3 (T.trans B) ⟨⟨⟨us,⟨by rw[G,length_map];exact f.ulen.symm,.inr ⟨I,0,by rw[G],λj e hj=>⟨λn x hx=>?_⟩⟩,by rw[G];exact a0⟩,by rw[f.slen,f.ulen],λj l E=>?_⟩,by rw[f.slen];omega⟩,by rw[f.slen];omega,f.val⟩ ⟨f.slen,f.few,f.ok,f.val⟩ ⟨λb hb=>?_⟩ ?_
  .rw[getElem?_map,Option.map_eq_some_iff]at hj;obtain⟨u,M,rfl⟩:=hj;have hn:n=0:=by have:=(cn hx);simp[eS]at this;omega
   subst hn
   have hx:u.val=x:=by
    simp[eS]at hx;exact hx
   subst hx;have e:(C.toList.take us.length)[j]? =some u.val:=by rw[R,getElem?_map,M];rfl
   rw[getElem?_take,if_pos (cn M),dd]at e;rw[b1,show 0+j*1+0=j by omega];exact e
  .have c6:=(cn E);have c7:j<us.length:=by rw[f.ulen, <-f.slen];exact c6
   have M:us[j]? =some us[j]:=cq c7;exact⟨_,M,bI.mono (f.rows j _ l M E) B λr t hv=>bT.mono hv B⟩
  .by_cases e:b=I
   .subst e;simp[W.m_]
   .simp only[e,if_false];exact o2 b e hb
  .refine aU.keep c2 ?_ B;simp[Ne.symm F]
noncomputable def shR(c:Sl):vQ:={A:=Nat×bX×Sl×Sl×Sl×MH×PH,st:=λ⟨cb,sc,p,r,w,m,h⟩=>bO 71 73 [(3,.at (.ptr 3 0)),(5,pv cb),(6,.at (.ptr 6 0)),(7,.at (.ptr 7 0)),(9,.at (.ptr 9 0))] [(3,.cells 25 [.val (.slice c.a c.len c.cap)]),(6,.cells 43 (sc.enc.map .val)),(7,.cells 62 [.val (.slice p.a p.len p.cap),.val (.slice r.a r.len r.cap)]),(9,.cells 25 [.val (.slice w.a w.len w.cap)])] m h}
noncomputable def cuQ(c:Sl):Ctx:=
 cT [(8,cFZ),(9,bJZ),(23,XO),(22,Nz),(11,StateM),(13,G6),(24,axQ),(15,cgX),(16,cGZ),(25,cgJ),(26,ayJ),(27,aFQ),(28,XM)] []
  [(4,{A:=Nat×bX×Sl×Sl×MH×PH,frz:=true,st:=λ⟨cb,sc,p,r,m,h⟩=>bO 71 73 [(3,.at (.ptr 3 0)),(5,pv cb),(6,.at (.ptr 6 0)),(7,.at (.ptr 7 0))] [(3,.cells 25 [.val (.slice c.a c.len c.cap)]),(6,.cells 43 (sc.enc.map .val)),(7,.cells 62 [.val (.slice p.a p.len p.cap),.val (.slice r.a r.len r.cap)])] m h}),
   (5,shR c),(7,shR c),(9,shR c),
   (11,{A:=bX×Sl×Sl×Sl×MH×PH,st:=λ⟨sc,p,r,w,m,h⟩=>bO 71 73 [(6,.at (.ptr 6 0)),(7,.at (.ptr 7 0)),(9,.at (.ptr 9 0))] [(6,.cells 43 (sc.enc.map .val)),(7,.cells 62 [.val (.slice p.a p.len p.cap),.val (.slice r.a r.len r.cap)]),(9,.cells 25 [.val (.slice w.a w.len w.cap)])] m h})] [] false
noncomputable abbrev Og(a:Nat×bX×Sl×Sl×MH×PH):dz:=iU (jR a.2.2.1) (jR a.2.2.2.1)
noncomputable abbrev HT(a:Nat×bX×Sl×Sl×MH×PH):Nat->Option Obj:=sV a.2.2.2
noncomputable abbrev Fi(a:Nat×bX×Sl×Sl×MH×PH):Nat->Nat->Option Value:=uQ a.2.2.2
abbrev Oi(a:Prop)(b:(Nat×bX×Sl×Sl×Sl×MH×PH->Prop)->Prop)(c:(Nat×bX×Sl×Sl×Sl×MH×PH->Prop)->(Nat×bX×Sl×Sl×Sl×MH×PH)->Prop):Prop:=a->∃(x:Nat×bX×Sl×Sl×Sl×MH×PH->Prop),b x/\∀(d:Nat×bX×Sl×Sl×Sl×MH×PH),c x d
noncomputable abbrev zO(a:Nat×bX×Sl×Sl×Sl×MH×PH):bX:=a.2.1
noncomputable abbrev KK(a:Sl×Sl×Sl×MH×PH):dz:=iU (jR a.1) (jR a.2.1)
noncomputable abbrev vZ(a:Nat×bX×Sl×Sl×Sl×MH×PH):dz:=KK a.2.2
noncomputable abbrev v7(a:Nat×bX×Sl×Sl×Sl×MH×PH):Sl:=a.2.2.2.2.1
noncomputable abbrev vY(a:Nat×bX×Sl×Sl×Sl×MH×PH):Nat->Option Obj:=sV a.2.2.2.2
noncomputable abbrev mD(a:Nat×bX×Sl×Sl×Sl×MH×PH):Nat->Nat->Option Value:=uQ a.2.2.2.2
noncomputable abbrev HU(a:bX×Sl×Sl×Sl×MH×PH):Sl:=a.2.2.2.1
noncomputable abbrev Dr(a:bX×Sl×Sl×Sl×MH×PH):Nat->Option Obj:=sV a.2.2.2
noncomputable abbrev Dq(a:bX×Sl×Sl×Sl×MH×PH):Nat->Nat->Option Value:=uQ a.2.2.2
attribute [push_cast] Og HT Fi Oi zO KK vZ v7 vY mD HU Dr Dq
def UL(s A:Sl)(m:MH)(h:PH)(K:dk):Prop:=
  ∃(s1:Sl)(c:dw)(m1:Nat),aA (fW s 240=fW s1 (↑m1:Int)) (cE h s1 1 (bH c)) (aA (BZ s1) (nA m1) (∀(T:Nat),iM (λm2 h1=>dN h h1 (m T=Option.none) (lC m m2 T h1 (∃(c2:Nat),aA (uD T=uD c2) (aU m2 h1 c2) (∀(s2:lL)(v:bX),iM (λY Q=>D8 s2->fR Q s2 v->dN h1 Q (bK m2 Y c2) (kI Y Q c2 (∃(I:Nat×bX×Sl×Sl×MH×PH->Prop),(Ky (λD E p y H z=>∃(d:Int),aA (uR T 0::cV (cD v) (iO::bD (fN 3) 2)=uR D 0::cV (cD E) (cA p (bD (fN z) d))) (aU Y Q D) (aA (fR Q y E) (cQ y=0) (aA (HS y) (Ints Q p H) (aA (eX H) (eZ (Bd H)) (aA (bY z) (z<=30) (aA (bY d) (d<=900) (∀(x:eh)(q:ds),iM (λB o=>dN Q o (Ro o
 x q) (ccJ y H d.toNat q->(↑q.length:Int)<=z->lC Y B D o (bU o 21 (wJ x) (λF G=>KA (λC R J L=>aA (iS (cD v) F=iS (cD C) R) (fR G J C) (aA (wV G R L) (∀(U:Query),Kz U L J (QI U)) (oK J L=0/\∀(V:Sl),KL (λr t k=>iM (λM O=>dN G O (Sub B M) (y9 L [] t k->aAQ B M O V r t k->Bn M O->∃(e:Nat×bX×Sl×Sl×MH×PH),aA (I e) bJ (aA (dP T e.1) gO (aA gI (mK A) (aA (kK v e.2.1) (oQ 62 (iU (jR V) (jR r))=oQ 62 (Og e)) (CG M O (HT e) (Fi e)/\True)))))))))))/\bU o 21 (wJ x) (λF G=>KA (λC R J L=>aA (iS (cD v) F=iS (cD C) R) (fR G J C) (aA (wV G R L) (∀(U:Query),Kz U L J (QI U))
 (oK J L=0/\∀(V:Sl),KL (λr t k=>iM (λM O=>dN G O (Sub B M) (y9 L [] t k->aAQ B M O V r t k->Bn M O->∃(e:Nat×bX×Sl×Sl×MH×PH),aA (I e) bJ (aA (dP T e.1) gO (aA gI (mK A) (aA (kK v e.2.1) (oQ 62 (iU (jR V) (jR r))=oQ 62 (Og e)) (CG M O (HT e) (Fi e)/\True)))))))))))))))))))))/\∃(D:Nat),EM (λE p=>Gx (λy H=>∃(z d:Int),aA (uR T 0::cV (cD v) (iO::bD (fN 3) 2)=uR D 0::cV (cD E) (cA p (bD (fN z) d))) (aU Y Q D) (aA (fR Q y E) (cQ y=0) (aA (HS y) (Ints Q p H) (aA (eX H) (eZ (Bd H)) (aA (bY z) (z<=30) (aA (bY d) (d<=900) (∀(x:eh)(q:ds),iM (λB o=>dN Q o (Ro o x q) (ccJ y
 H d.toNat q->(↑q.length:Int)<=z->lC Y B D o (bU o 21 (wJ x) (λF G=>KA (λC R J L=>aA (iS (cD v) F=iS (cD C) R) (fR G J C) (aA (wV G R L) (∀(U:Query),Kz U L J (QI U)) (oK J L=0/\∀(V:Sl),KL (λr t k=>iM (λM O=>dN G O (Sub B M) (y9 L [] t k->aAQ B M O V r t k->Bn M O->∃(e:Nat×bX×Sl×Sl×MH×PH),aA (I e) bJ (aA (dP T e.1) gO (aA gI (mK A) (aA (kK v e.2.1) (oQ 62 (iU (jR V) (jR r))=oQ 62 (Og e)) (CG M O (HT e) (Fi e)/\True)))))))))))))))))))))))/\∀(x:Nat×bX×Sl×Sl×MH×PH),Oi (I x) (λI1=>∃(D:Nat),qS (λv1 E=>∃(z:Int),aA (uR x.1 0::bD (gV (cD x.2.1)) 3=uR D 0::bD (gV (cD v1)) z)
 (aU (HT x) (Fi x) D) (aA (fR (Fi x) E v1) (D8 E) (∀(y:List dm)(F:Sl),iM (λB o=>dN (Fi x) o (GW o F y) (ahJ E y->bK (HT x) B D->kI B o D (∃(e:Nat×bX×Sl×Sl×Sl×MH×PH),aA (I1 e) bJ (aA (dP x.1 e.1) gO (aA gI (eP 9) (aA (mK A) (kK x.2.1 (zO e)) (aA (oQ 62 (iU (jR x.2.2.1) (jR x.2.2.2.1))=oQ 62 (vZ e)) (rU F (v7 e)) (aA (B=vY e) (o=mD e) True)))))))))))) (λI1 e=>Oi (I1 e) (λI2=>jT e.1 6 (vY e) (mD e) (λD r z=>lC (vY e) z D (mD e) (branch r (uH (λW p P=>Pq (λt Z=>aA (mJ e.1 (gV (kP e.2.2.1 e.2.2.2.1))=mJ W (gV (kP p P))) (aU z (mD e) W) (aA (jV (mD e) p P
 t Z) (t.length<=8000000) (aA (Z.length<=8000000) (∀(S:Step),List.Mem S t->bGZ S) (∀(H X:Sl)(S:dv)(r4:dl),iM (λB o=>dN (mD e) o (jV o H X S r4) (aiQ t S->bK z B W->kI B o W (∃(g:Nat×bX×Sl×Sl×Sl×MH×PH),aA (I2 g) bJ (aA (dP e.1 g.1) gO (aA gI (eP 9) (aA (mK A) (kK (zO e) (zO g)) (aA (oQ 62 (iU (jR H) (jR X))=oQ 62 (vZ g)) (rU (v7 e) (v7 g)) (aA (B=vY g) (o=mD g) True)))))))))))))) (∃(g:Nat×bX×Sl×Sl×Sl×MH×PH),aA (I2 g) bJ (aA (dP e.1 g.1) gO (aA gI (eP 9) (aA (mK A) (kK (zO e) (zO g)) (aA (oQ 62 (vZ e)=oQ 62 (vZ g)) (rU (v7 e) (v7 g)) (aA (z=vY g) (mD e=mD g)
 True))))))))) (λI2 g=>Oi (I2 g) (λI3=>jT g.1 6 (vY g) (mD g) (λD r z=>lC (vY g) z D (mD g) (branch r (∃(W:Nat),Ja (λE y=>aA (mJ g.1 (gV (aM (v7 g)))=mJ W (gV (aM E))) (aU z (mD g) W) (aA (Leaves (mD g) E y) (Vj y) (aA (y.length<=900) (EL y (λl=>Bf l 900000/\tR l (λP=>0<P.length/\P.length<=900000))) (∀(F:Sl)(C:List dm),iM (λB o=>dN (mD g) o (Leaves o F C) (Vj C->C.length<=y.length+1->(∀(n:Nat),EL y (λl=>Bf l n)->EL C (λl=>Bf l (n+1)))->EL C (λl=>tR l (λP=>KH P))->lC z B W o (∃(j:Nat×bX×Sl×Sl×Sl×MH×PH),aA (I3 j) bJ (aA (dP g.1 j.1) gO (aA gI (eP 9)
 (aA (mK A) (kK (zO g) (zO j)) (aA (oQ 62 (vZ g)=oQ 62 (vZ j)) (rU F (v7 j)) (aA (B=vY j) (o=mD j) True))))))))))))) (∃(j:Nat×bX×Sl×Sl×Sl×MH×PH),aA (I3 j) bJ (aA (dP g.1 j.1) gO (aA gI (eP 9) (aA (mK A) (kK (zO g) (zO j)) (aA (oQ 62 (vZ g)=oQ 62 (vZ j)) (rU (v7 g) (v7 j)) (aA (z=vY j) (mD g=mD j) True))))))))) (λI3 j=>I3 j->∃(I4:bX×Sl×Sl×Sl×MH×PH->Prop),jT j.1 10 (vY j) (mD j) (λD r z=>lC (vY j) z D (mD j) (branch r (Ja (λE y=>sX (aM A) (aM E) (Leaves (mD j) E y) (∀(b:Bool),eT (eZ b->y.length<=8/\EL y (λl=>Bf l 6)) b (∃(f:bX×Sl×Sl×Sl×MH×PH),aA (I4 f)
 gO (aA gI (eP 9) (aA (kK (zO j) f.1) (oQ 62 (vZ j)=oQ 62 (KK f.2)) (aA (rU A (HU f)) (z=Dr f) (bR (mD j) (Dq f)))))) (∃(f:bX×Sl×Sl×Sl×MH×PH),aA (I4 f) gO (aA gI (eP 9) (aA (kK (zO j) f.1) (oQ 62 (vZ j)=oQ 62 (KK f.2)) (aA (rU (v7 j) (HU f)) (z=Dr f) (bR (mD j) (Dq f))))))))) (∃(f:bX×Sl×Sl×Sl×MH×PH),aA (I4 f) gO (aA gI (eP 9) (aA (kK (zO j) f.1) (oQ 62 (vZ j)=oQ 62 (KK f.2)) (aA (rU (v7 j) (HU f)) (z=Dr f) (bR (mD j) (Dq f))))))))/\∀(f:bX×Sl×Sl×Sl×MH×PH),I4 f->∃(E:bX),Oh (λy p r F C t P=>aA (cV (cD f.1) (fY (aM (HU f)) (kP f.2.1 f.2.2.1))=cV
 (cD E) (fY (aM y) (kP p r))) (fR (Dq f) F E) (aA (GW (Dq f) y C) (jV (Dq f) p r t P) (aA (gS (Dr f)) (eE F t P=0->jP F C=0->AZ F C t) (fT (λR o=>dN (Dq f) o (Leaves o R (Re F t P C)) (∃(J:bX),Oh (λs9 H Z a a1 S X=>aA (cV (cD f.1) (fY (aM (HU f)) (kP f.2.1 f.2.2.1))=cV (cD J) (fY (aM s9) (kP H Z))) (fR o a J) (aA (GW o s9 a1) (jV o H Z S X) ((eE a S X=0->jP a a1=0->AZ a a1 S)/\fT (λa2 G=>dN o G (Leaves G a2 (Re a S X a1)) (aA (([]:eb)=[]) (gS (Dr f)) (dD (wC F t P C) (wC a S X a1) (gQ (λa3 t2=>∃(l:List dm),aI (dK R a2=dK a3 t2) (Leaves G a3 l) (Leaves G t2 l) (K
 dR (Dr f) G))) (K aX (Dr f) G)))))))))))))))))))))))))
def cJQ:Vc.Spec:=λc m h K=>∃s d r st,c=[cS s,XJ r]/\cE h s 1 (bH d)/\s.len<=s.cap/\Leaves h r st/\Vj st/\gS m/\∀m' h',Sub m m'->K (cB true) m' h'
mutual
theorem RO:∀p:Pred,IK p->wX p
 |.mk _ _ _ _ args,h=>⟨h.2.2.1.int_,h.2.2.2.1.int_,O5 args h.2.2.2.2.2⟩
theorem O5:∀ps:dx,MN ps->GZ ps
 |[],_=>trivial
 |p::ps,h=>⟨RO p h.1,O5 ps h.2⟩
end
theorem Jt.stepW(v:Jt s ts):∀t∈ts,bGZ t:=λt e=>by
 obtain⟨i,c⟩:=mem_iff_getElem?.1 e;have d:=(DY _ (v.good i (cn c)).kinds).1;rw[iC v.ok c,O0]at d;exact⟨d.1.wher,RO _ (RC v c).wher,d.1.columns⟩
theorem cCX{s D:Sl}{cs:dw}{E:List dm}(hr:cE h s 1 (bH cs))(a8:s.len<=s.cap)(b9:Leaves h D E)(c':Vj E)(ht:gS m)(hK:∀m' h',Sub m m'->K (cB true) m' h'):UL s D m h K:=by
 dsimp only[UL,push_cast];refine⟨s,cs,240,rfl,hr,a8,aC,λcb m1 h1 c0 a9 o1 c1=>⟨cb,rfl,c1,λsc v m2 h2 a2 rS d' o2 c2=>?_⟩⟩;obtain⟨F,b'⟩:=VO a2;have h8:=IU F;have sub:∀{d},bK m d cb->Sub m d:=fun{d} om b o e=>by rw[om.other b (λY=>by rw[Y,a9]at e;cases e)];exact e
 refine⟨λz=>∃p r ts rs d g,z=(cb,v,p,r,d,g)/\bK m2 d cb/\aU d g cb/\PH.le h2 g/\Jt sc ts/\jV g p r ts rs/\ts.length<=1000/\rs.length<=1000,⟨⟨cb,v,cG,sc,[],3,2,rfl,c2,rS,F,b',cAZ _,bx,bx,aC,aC,aC,aC,λxs qs m3 h3 a3 rp n ql o3 c3=>⟨?_,?_⟩⟩,cb,v,cG,sc,[],3,2,rfl,c2,rS,F,b',cAZ _,bx,bx,aC,aC,aC,aC,λxs qs m3 h3 a3 rp n ql o3 c3=>?_⟩,?_⟩
 rotate_left 3
 .rintro _ ⟨p,r,ts,rs,m4,h4,rfl,o4,c4,y,b0,P,tl,rl⟩;dsimp only;refine⟨λz=>∃w st d g,z=(cb,v,p,r,w,d,g)/\GW g w st/\ahJ sc st/\bK m2 d cb/\aU d g cb/\PH.le h4 g,⟨cb,v,sc,_,rfl,c4,rS.mono y,a2,λst sl m5 h5 A a4 B o5 c5=>⟨_,⟨sl,st,m5,h5,rfl,a4,B,o4.trans o5,c5,A⟩,MT⟩⟩,?_⟩;rintro _ ⟨w,st,m5,h5,rfl,a4,B,o5,c5,A⟩;dsimp only;have P5:=P.mono A;refine⟨λz=>∃p' r' S a5 d g,z=(cb,v,p',r',w,d,g)/\jV g p' r' S a5/\aiQ ts S/\bK m2 d cb/\aU d g cb/\PH.le h5 g,⟨cb,6,rfl,aC,aC,c5,λb m6 o6 c6=>aB (λ_=>⟨cb,p,r,ts,rs,rfl,c6,P5,aC,aC,b0.stepW,λp' r' S a5 m7 h7 T P7 d0 o7 c7=>⟨_,⟨p',r',S,a5,m7,h7,rfl,P7,d0,(o5.trans o6).trans o7,c7,T⟩,MT⟩⟩) (λ_=>⟨_,⟨p,r,ts,rs,m6,h5,rfl,P5,.inl rfl,o5.trans o6,c6,.refl _⟩,MT⟩)⟩,?_⟩;rintro _ ⟨p1,r1,G,U,m7,h7,rfl,P7,sp,o7,c7,T⟩;dsimp only;have H:=a4.mono T;have d9:=B.len
  have b1:∀l∈st,∀r∈l,0<r.length/\r.length<=900000:=λl Z r hr=>by
   obtain⟨j,hj⟩:=mem_iff_getElem?.1 Z;have e':=(cn hj);have ht:sc.tables[j]? =some sc.tables[j]:=cq aC;have b2:=cr ht;have:=(Ie ((B.ok j _ l ht hj).1 r hr)).1;have:=RP a2 b2;have:=zH F _ b2;omega
  refine⟨λz=>∃f R d g,z=(cb,v,p1,r1,R,d,g)/\GW g R f/\(∀l∈f,l.length<=6)/\bK m2 d cb/\aU d g cb/\PH.le h7 g,⟨cb,6,rfl,aC,aC,c7,λb m8 o8 c8=>aB (λ_=>⟨cb,w,st,rfl,c8,H.lea,H.val,aC,λl Z=>⟨by have:=B.few l Z;omega,b1 l Z⟩,λR f m9 h9 V d1 d2 n9 I _ o9 c9=>⟨_,⟨f,R,m9,h9,rfl,⟨d1,aC,d2⟩,λl Z=>by have:=I 4 B.few l Z;omega,(o7.trans o8).trans o9,c9,V⟩,MT⟩⟩) (λ_=>⟨_,⟨st,w,m8,h7,rfl,H,λl Z=>by have:=B.few l Z;omega,o7.trans o8,c8,.refl _⟩,MT⟩)⟩,?_⟩;rintro _ ⟨d3,w1,m9,h9,rfl,b3,I,o9,c9,V⟩;dsimp only;have b4:=A.trans (T.trans V);have a6:=(c0.trans d').trans (y.trans b4);have a':Leaves h9 D E:=bI.mono b9 a6 λl s hr=>bI.mono hr a6 λr t hv=>bT.mono hv a6;refine⟨λz=>∃f R d,z=(v,p1,r1,R,d,h9)/\GW h9 R f/\(∀l∈f,l.length<=6)/\bK m2 d cb,⟨cb,10,rfl,aC,aC,c9,λb J W e0=>?_⟩,?_⟩
  .have keep:∃z:bX×Sl×Sl×Sl×MH×PH,(∃f R d,z=(v,p1,r1,R,d,h9)/\GW h9 R f/\(∀l∈f,l.length<=6)/\bK m2 d cb)/\z=(v,p1,r1,w1,J,h9):=⟨_,⟨d3,w1,J,rfl,b3,I,o9.trans W⟩,rfl⟩
   refine aB (λ_=>⟨D,E,rfl,a',λb hb=>aB (λe=>⟨_,⟨E,D,J,rfl,⟨a',by have:=(hb e).1;omega,c'⟩,(hb e).2,o9.trans W⟩,MT⟩) (λ_=>?_)⟩) (λ_=>?_)
   all_goals
    obtain⟨_,k1,rfl⟩:=keep;exact⟨_,k1,MT⟩
  rintro _ ⟨L,w2,J,rfl,M,a7,W⟩;dsimp only;have om:=(o1.trans o2).trans W;have hT:=ht.new a9 om;have b5:=rS.mono (y.trans b4);have Pf:=P7.mono V;have hb:eE sc G U=0->jP sc L=0->AZ sc L G:=λe _=>b0.bnd sp e a7;refine⟨v,w2,p1,r1,sc,L,G,U,rfl,b5,M,Pf,hT,hb,λs1 e3 O d4=>⟨v,w2,p1,r1,sc,L,G,U,rfl,b5.mono O,M.mono O,Pf.mono O,hb,λs2 b6 Q d5=>⟨rfl,hT,?_⟩⟩⟩;have b7:Leaves b6 s1 (Re sc G U L):=bI.mono d4 Q λl s hr=>bI.mono hr Q λr t hv=>bT.mono hv Q;exact aB (λ_=>⟨s1,s2,_,rfl,b7,d5,hK J b6 (sub om)⟩) (λe=>by simp at e)
 all_goals
  intro sl h4 y r4;have rl:wV h4 sl qs:=⟨⟨xs,r4,rp.1,λi x e=>let⟨v,e1,Y⟩:=rp.2 i x e;⟨v,e1,Y.mono y⟩⟩,aC⟩
  have C:∀q∈qs,Ls sc q:=λq X=>VL (n.1 q X).1.2 (n.1 q X).1.1 (n.1 q X).2
  have d6:oK sc qs=0:=by
   rw[avX aC F];refine vJ _ λe he=>?_;obtain⟨q,X,rfl⟩:=mem_map.1 he;exact(n.1 q X).1.2
  refine⟨v,sl,sc,qs,rfl,rS.mono (a3.trans y),rl,λq X _=>(C q X).ints,d6,λp r ts ks m4 h5 A a0 a1 hp hd=>?_⟩;obtain⟨b8,_,e4,d7⟩:=Wc C (beJ sc) a1;have d8:=QL a1 (λq X=>(LA.1 (C q X).small).1);simp only[length_nil,Nat.zero_add]at d8;have hM:m3 cb≠none:=λe=>by obtain⟨c,Y⟩:=c3.blk;rw[Y]at e;cases e
  have c4:aU m4 h5 cb:=c3.keep (by obtain⟨c,Y⟩:=c3.blk;rw[Y];exact a0 cb _ Y) (y.trans A);obtain⟨vs,a,b⟩:=hp.steps;have kp:Kept m3 m4 cb:=λb o e _=>a0 b o e;exact⟨(cb,v,p,r,oF m3 m4,uI m3 m4 h5),⟨p,r,ts,ks.map fun(k:Nat)=>(k:Int),_,_,rfl,o3.trans (keep_other kp),L2 c4 hM hd,(a3.trans (y.trans A)).trans (FE hd),b8,⟨⟨vs,a.ice,b.mono (FE hd)⟩,⟨by rw[map_map];exact hp.roots.ice,ce⟩,aC⟩,aC,ce⟩,FT⟩
theorem bhJ:di 4 cJQ:=by
 refine fU func4 ?_;rintro f m h K ⟨s,o,r,st,rfl,g,c,d,e,j,n⟩;refine⟨cuQ r,rfl,aE bhX (aE bgZ (aE aXQ (aE aXX (aE aaZ (aE rP (aE aVX (aE aYJ (aE aYZ (aE YP (aE aUQ (aE aTJ (aE aTZ aG)))))))))))),UL s r m h K,bu,?_⟩;exact cCX g c d e j n
open Go.Proofs.YtjpjambjoceofaaGreatDoor.Rows (uptoBulk uptoBulkAll)
def hW(w:World):PH:=λb o=>match w.cell? ⟨b,o,none⟩with|some (.int .u64 _)=>none|x=>x
def noU(v:Value):Prop:=∀n,v≠ .int .u64 n
theorem csQ{w:World}{o:Nat}{v:Value}(h:hW w b o=some v):w.cell? ⟨b,o,none⟩=some v:=by
 unfold hW at h;split at h
 .cases h
 .exact h
theorem cBQ{w:World}{o:Nat}{v:Value}(h:w.cell? ⟨b,o,none⟩=some v)(c:noU v):hW w b o=some v:=by
 unfold hW;split
 .rename_i n e;rw[h]at e;exact(c _ (Option.some.inj e)).elim
 .exact h
theorem Xv{w:World}{d n:Nat}{a:Addr}{cs:dj}(h:w.cells? d a n=some cs)(B:∀v∈cs,noU v)(C:0<n):
 ∃b o,a=⟨b,o,none⟩/\cs.length=n/\bZ (hW w) b o cs:=by
 unfold World.cells? at h;split at h
 .have f:=mapM_some_length h;have y:=λi(g:i<n)=>mapM_some_get h i i (by simp[g]);obtain⟨b,off,e⟩:=a;have z:=y 0 C;have j:0<cs.length:=by simp at f;omega
  rw[cq j]at z;have c:e=none:=by simpa[Addr.add]using World.cell?_spot z
  subst c;refine⟨b,off,rfl,cm f,⟨λi v x=>?_⟩⟩;have g:i<n:=by have:=(cn x);simp at f;omega
  have A:=y i g;rw[x,Go.WideShapes.add_plain]at A;exact cBQ A (B v (cr x))
 .cases h
theorem QE{H:Type}{d:DataW H}:∀{l:List (DataW H)},d∈l->uptoBulk d<=uptoBulkAll l
 |[],h=>by cases h
 |x::r,h=>by
  simp only[uptoBulkAll];rcases mem_cons.1 h with rfl|h
  .omega
  .have:=QE (l:=r) h;omega
theorem bDJ{H:Type}:∀(d:DataW H),1<=uptoBulk d
 |.lit (.string _)=>by simp[uptoBulk]
 |.lit (.bool _)=>by simp[uptoBulk]
 |.lit (.int ..)=>by simp[uptoBulk]
 |.lit (.float ..)=>by simp[uptoBulk]
 |.lit .nil=>by simp[uptoBulk]
 |.nil=>by simp[uptoBulk]
 |.ptr _=>by simp[uptoBulk]
 |.slice .. =>by simp[uptoBulk]
 |.agg _=>by simp[uptoBulk]
 |.iface .. =>by simp[uptoBulk]
 |.map _=>by simp[uptoBulk]
 |.held _=>by simp[uptoBulk]
theorem XA{H:Type}:∀(l:List (DataW H)),l.length<=uptoBulkAll l
 |[]=>bx
 |x::r=>by
  simp only[uptoBulkAll,de];have:=bDJ x;have:=XA r;omega
section
variable{H:Type}{enc:TypeId×Value->H}{w:World}{base:Nat}{sp:Nat->Bool}{held:Bool}
theorem Pd{α β:Type}{T e:TypeId}{sz:Nat}(ht:Tryz.prog.underlying T=some (.slice e))(I:Tryz.prog.cellsOf e=sz)(W:0<sz)(B:β->dj)(C:∀v,∀u∈B v,noU u)(Q:α->β->Prop)
 {f:Nat}{cs:dj}{x:DataW H×List MemPlace}(h:DataW.trod enc Tryz.prog w base sp held f T cs=some x)
 (J:∀(n:Nat)(c:dj)(y:DataW H×List MemPlace),n<f->uptoBulk y.1<=uptoBulk x.1->DataW.trod enc Tryz.prog w base sp held n e c=some y->∃a v,c=B v/\Q a v):
 ∃(s:Sl)(ps:List α)(vs:List β),cs=[.slice s.a s.len s.cap]/\cE (hW w) s sz (vs.map B)/\ps.length=vs.length/\ps.length<=uptoBulk x.1/\∀(i:Nat)(a:α)(v:β),ps[i]? =some a->vs[i]? =some v->Q a v:=by
 rcases DataW.trod_slice ht h with⟨rfl,rfl⟩|⟨a,len,L,d,X,n,rfl,rfl,rfl, -,M, -,Y,Z, -, -⟩
 .exact⟨⟨none,0,0⟩,[],[],rfl,cE.nil _ _,rfl,bx,bx⟩
 .rw[I]at Z
  have key:∀i,i<len->∃(c:dj)(p:α×β),w.cells? base (a.add (i*sz)) sz=some c/\c=B p.2/\Q p.1 p.2:=λi O=>by
   have j:=Z i O;rw[cq aC,Option.bind_eq_some_iff]at j;obtain⟨c,P,z⟩:=j
   obtain⟨p,v,R,h4⟩:=J n c _ (Nat.lt_succ_self n) (by
    simp only[uptoBulk];have:=QE (l:=d.map (·.1)) (mem_map.2 ⟨d[i],getElem_mem aC,rfl⟩);omega) z
   exact⟨c,(p,v),P,R,h4⟩
  have D:∀k,k<=len->∃l:List (α×β),l.length=k/\∀i p,l[i]? =some p->∃c,w.cells? base (a.add (i*sz)) sz=some c/\c=B p.2/\Q p.1 p.2:=by
   intro k
   induction k with
   |zero=>exactλ_=>⟨[],rfl,bx⟩
   |succ k ih=>
    intro hk;obtain⟨l,A,E⟩:=ih aC;obtain⟨c,p,j,z,R⟩:=key k aC;refine⟨l++[p],by simp[A],λi q g=>?_⟩;by_cases O:i<l.length
    .rw[getElem?_append_left O]at g;exact E i q g
    .have:i=l.length:=by have:=(cn g);simp at this;omega
     subst this;simp at g;subst g;rw[A];exact⟨c,j,z,R⟩
  obtain⟨l,A,E⟩:=D len (Nat.le_refl _);refine⟨⟨some a,len,L⟩,l.map (·.1),l.map (·.2),rfl,⟨by simp[A],?_,M⟩,bx,?_,λi p v j z=>?_⟩
  .by_cases h0:len=0
   .rw[h0]at A;exact .inl (by simp[length_eq_zero_iff.1 A])
   .obtain⟨c0,S,e0, -⟩:=E 0 l[0] (cq aC);obtain⟨b,o,ha, -, -⟩:=Xv S (by rw[e0];exact C _) W
    have U:a=⟨b,o,none⟩:=by
     obtain⟨b1,o1,s1⟩:=a;simp only[Addr.add]at ha;simpa using ha
    subst U;refine .inr ⟨b,o,rfl,λi x hx=>?_⟩;simp only[map_map,getElem?_map,Option.map_eq_some_iff]at hx;obtain⟨p,hj,rfl⟩:=hx;obtain⟨c,P,e, -⟩:=E i p hj;obtain⟨b',o',F, -,G⟩:=Xv P (by rw[e];exact C _) W;rw[Go.WideShapes.add_plain]at F;cases F;simp only[Function.comp];rw[<-e];exact G
  .simp only[length_map,uptoBulk];have:=XA (d.map (·.1));simp only[length_map]at this;omega
  .simp only[getElem?_map,Option.map_eq_some_iff]at j z;obtain⟨q,g,rfl⟩:=j;obtain⟨r,G,rfl⟩:=z;rw[g]at G;cases G;obtain⟨c, -, -,V⟩:=E i q g;exact V
end
open Go.Proofs.YtjpjambjoceofaaGreatDoor.Rows (uptoBulk uptoBulkAll)
section
variable{H:Type}{enc:TypeId×Value->H}{w:World}{base:Nat}{sp:Nat->Bool}{held:Bool}
theorem Nf{T:TypeId}{d:Array Field}(L:List (TypeId×Nat))(z:Tryz.prog.underlying T=some (.struct d))(A:d.toList.map (λg=>(g.type,g.offset))=L){f:Nat}{cs:dj}{x:DataW H×List MemPlace}(h:DataW.trod enc Tryz.prog w base sp held f T cs=some x):
 ∃n,f=n+1/\cs.length=Tryz.prog.cellsOf T/\∀(i:Nat)(t:TypeId)(o:Nat),L[i]? =some (t,o)->∃y,uptoBulk y.1<=uptoBulk x.1/\DataW.trod enc Tryz.prog w base sp held n t ((cs.drop o).take (Tryz.prog.cellsOf t))=some y:=by
 obtain⟨xs,n,rfl,rfl,B,C,D⟩:=DataW.trod_struct z h;refine⟨n,rfl,B,λi t o c=>?_⟩;rw[<-A,getElem?_map,Option.map_eq_some_iff]at c;obtain⟨g,c,e⟩:=c;simp only[Prod.mk.injEq]at e;obtain⟨rfl,rfl⟩:=e;rw[dd]at c;have j:i<xs.length:=by rw[C];exact(Array.getElem?_eq_some_iff.1 c).1
 refine⟨xs[i],?_,by rw[D i g c,cq j]⟩;simp only[uptoBulk];have:=QE (l:=xs.map (·.1)) (mem_map.2 ⟨xs[i],getElem_mem j,rfl⟩);omega
theorem cwJ:Tryz.prog.cellsOf 2=1:=bu
theorem cwZ:Tryz.prog.cellsOf 3=1:=bu
theorem cwX:Tryz.prog.cellsOf 9=1:=bu
theorem avJ:Tryz.prog.cellsOf 27=3:=bu
theorem cqQ{f:Nat}{c:Value}{y:DataW H×List MemPlace}(h:DataW.trod enc Tryz.prog w base sp held f 2 [c]=some y):∃k,c= .int .i64 k/\l8 k:=by
 obtain⟨k,e, -,d⟩:=DataW.trod_int Tryz.underlying2 h;exact⟨k,cm e,bounds_i64 d⟩
theorem cpJ{f:Nat}{c:Value}{y:DataW H×List MemPlace}(h:DataW.trod enc Tryz.prog w base sp held f 9 [c]=some y):∃k,c= .string k:=by
 obtain⟨k,e, -⟩:=DataW.trod_string Tryz.underlying9 h;exact⟨k,cm e⟩
theorem czZ{l:dj}(h:l.length=3):∃a b c,l=[a,b,c]:=by
 match l,h with|[a,b,c],_=>exact⟨a,b,c,rfl⟩
end
open Go.Proofs.YtjpjambjoceofaaGreatDoor.Rows (uptoBulk uptoBulkAll)
section
variable{H:Type}{enc:TypeId×Value->H}{w:World}{base:Nat}{sp:Nat->Bool}{held:Bool}
theorem LK{α β:Type}{T e:TypeId}{sz:Nat}(D:Tryz.prog.underlying T=some (.slice e))(z:Tryz.prog.cellsOf e=sz)(E:0<sz)(j:β->dj)(A:∀v,∀u∈j v,noU u)(Q:α->β->Prop)
 {f:Nat}{cs:dj}{x:DataW H×List MemPlace}(h:DataW.trod enc Tryz.prog w base sp held f T cs=some x)(M:uptoBulk x.1<=1048576)
 (B:∀(n:Nat)(c:dj)(y:DataW H×List MemPlace),uptoBulk y.1<=1048576->DataW.trod enc Tryz.prog w base sp held n e c=some y->∃a v,c=j v/\Q a v):
 ∃(s:Sl)(ps:List α),cs=[.slice s.a s.len s.cap]/\bI (hW w) sz j Q s ps/\ps.length<=1048576:=by
 obtain⟨s,ps,o,F,d,g,G,I⟩:=Pd D z E j A Q h (λn c y _ O J=>B n c y aC J);refine⟨s,ps,F,⟨⟨o,d,g,λi a C=>?_⟩,aC⟩,aC⟩;have L:=(cn C);have e:o[i]? =some o[i]:=cq aC;exact⟨o[i],e,I i a _ C e⟩
theorem cqZ(v:VV):∀u∈VV.enc v,noU u:=by
 intro u c n e;simp[VV.enc]at c;rcases c with h|h|h<;>(rw[h]at e;cases e)
theorem bcQ(s:Sl):∀u∈eS s,noU u:=by
 intro u c n e;simp[eS]at c;rw[c]at e;cases e
theorem cbZ:Tryz.prog.cellsOf 94=1:=bu
theorem cbJ:Tryz.prog.cellsOf 53=1:=bu
theorem ccX:Tryz.prog.cellsOf 23=1:=bu
theorem ccQ:Tryz.prog.cellsOf 25=1:=bu
theorem bTQ{f:Nat}{c:Value}{y:DataW H×List MemPlace}(h:DataW.trod enc Tryz.prog w base sp held f 3 [c]=some y):∃k,c= .int .i64 k/\l8 k:=by
 obtain⟨k,e, -,d⟩:=DataW.trod_int Tryz.underlying3 h;exact⟨k,cm e,bounds_i64 d⟩
theorem VT{f:Nat}{cs:dj}{y:DataW H×List MemPlace}(h:DataW.trod enc Tryz.prog w base sp held f 27 cs=some y):∃v:VV,cs=v.enc/\l8 v.kind/\l8 v.int:=by
 obtain⟨n, -,o,d⟩:=Nf [(3,0),(2,1),(9,2)] Tryz.underlying27 rfl h;obtain⟨a,b,c,rfl⟩:=czZ (o.trans avJ);obtain⟨_, -,e⟩:=d 0 3 0 rfl;obtain⟨_, -,g⟩:=d 1 2 1 rfl;obtain⟨_, -,j⟩:=d 2 9 2 rfl;simp only[cwJ,cwZ,cwX,List.drop,List.take]at e g j;obtain⟨k,rfl,x⟩:=bTQ e;obtain⟨i,rfl,z⟩:=cqQ g;obtain⟨s,rfl⟩:=cpJ j;exact⟨⟨k,i,s⟩,rfl,x,z⟩
theorem LI{α β:Type}{d:β->dj}{Q:α->β->Prop}{P:α->Prop}{s:Sl}{l:List α}(x:bI h sz d (λa b=>Q a b/\P a) s l):bI h sz d Q s l/\∀a∈l,P a:=by
 obtain⟨⟨j,n,o,f⟩,y⟩:=x;refine⟨⟨⟨j,n,o,λi a e=>?_⟩,y⟩,λa z=>?_⟩
 .obtain⟨v,g,c⟩:=f i a e;exact⟨v,g,c.1⟩
 .obtain⟨i,e⟩:=mem_iff_getElem?.1 z;obtain⟨v,g,c⟩:=f i a e;exact c.2
theorem baX{f:Nat}{cs:dj}{x:DataW H×List MemPlace}(h:DataW.trod enc Tryz.prog w base sp held f 94 cs=some x)(d:uptoBulk x.1<=1048576):∃(r:dp)(s:Sl),cs=eS s/\bT (hW w) s r/\∀v∈r,l8 v.kind/\l8 v.int:=by
 obtain⟨s,ps,g,j, -⟩:=LK (w:=w) Tryz.underlying94 avJ aC VV.enc cqZ (λa v=>a=v/\(l8 a.kind/\l8 a.int)) h d (λn c y _ o=>by
  obtain⟨v,e,z⟩:=VT o;exact⟨v,v,e,rfl,z⟩)
 obtain⟨A,B⟩:=LI j;exact⟨ps,s,g,A,B⟩
theorem aKX{f:Nat}{cs:dj}{x:DataW H×List MemPlace}(h:DataW.trod enc Tryz.prog w base sp held f 53 cs=some x)(d:uptoBulk x.1<=1048576):∃(l:dm)(s:Sl),cs=eS s/\Go.Ps.Rows (hW w) s l/\∀r∈l,∀v∈r,l8 v.kind/\l8 v.int:=by
 obtain⟨s,ps,e,g, -⟩:=LK (w:=w) Tryz.underlying53 cbZ aC eS bcQ (λr t=>bT (hW w) t r/\∀v∈r,l8 v.kind/\l8 v.int) h d (λn c y j o=>baX o j);obtain⟨z,A⟩:=LI g;exact⟨ps,s,e,z,A⟩
theorem Yj{f:Nat}{cs:dj}{x:DataW H×List MemPlace}(h:DataW.trod enc Tryz.prog w base sp held f 25 cs=some x)(D:uptoBulk x.1<=1048576):∃(st:List dm)(s:Sl),cs=eS s/\Leaves (hW w) s st/\Vj st/\st.length<=1048576:=by
 obtain⟨n, -,d,j⟩:=Nf [(23,0)] Tryz.underlying25 rfl h;obtain⟨c,rfl⟩:=length_eq_one_iff.1 (d.trans ccQ);obtain⟨y,e,g⟩:=j 0 23 0 rfl;simp only[ccX,List.drop,List.take]at g;obtain⟨s,ps,o,z,d⟩:=LK (w:=w) Tryz.underlying23 cbJ aC eS bcQ (λl t=>Go.Ps.Rows (hW w) t l/\∀r∈l,∀v∈r,l8 v.kind/\l8 v.int) g aC (λn c y e A=>aKX A e);obtain⟨B,C⟩:=LI z;exact⟨ps,s,o,B,C,d⟩
end
end Go.Ps
