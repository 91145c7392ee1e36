/- Own work. -/
import Derived.Test.YtafjlhgalgfiaaaGreatDoorOg
set_option linter.unusedVariables false
set_option linter.unusedSimpArgs false
namespace Go.Ps
open Go Go.Vc Go.Proofs List Tryz
variable{K:cq}{m:MH}{h:PH}{s:jZ}{ps:cn}{ts:de}{cb:Nat}{sc:bT}{v:QV}{t:Step}{p:Pred}{l:cn}{i:Nat}{N:Nat}{m':MH}{h':PH}{co:cn}{gr:cn}{od:cv}{ta:Int}{li:Int}{xs:List cr}{sz:Nat}{ks:List cn}{rs:cn}{r:Sl}{a:cn}{b:Nat}
noncomputable def bFJ:=VO [(252,V8),(71,bYZ)] [(3,{A:=Nat×Sl×Nat×MH×PH,st:=λ⟨b,s,r,m,h⟩=>bY 29 31 [(2,vv (.pointer (some ⟨b,0,none⟩))),(5,sv s),(13,vv (.pointer (some ⟨r,0,none⟩)))] [] m h})] [(5,{A:=Nat×Sl×Sl×Nat×MH×PH,st:=λ⟨b,s,g,r,m,h⟩=>bY 29 31 [(2,vv (.pointer (some ⟨b,0,none⟩))),(5,sv s),(7,sv g),(13,vv (.pointer (some ⟨r,0,none⟩)))] [] m h})] [200002,1058,0]
abbrev Iv(a b:dk)(c:PH)(d:Sl)(e:cn)(g i:Prop)(j:Nat)(k:ct)(l:MH)(n:Nat->MH->PH->dt->(ByteArray->ct)->Prop):=aA (a=b) (Ints c d e) (aA g i (aA (iV j k) (jY j e) (eK l/\∀(x:Nat),fD (λf o=>∀(u:dt)(y:ByteArray->ct),n x f o u y))))
abbrev Ig(a:MH)(b:Nat)(c:MH)(d:Prop):=bH (Gr a b) (∀(x:Nat),mW (x=b)->c x=a x) d
abbrev IB(a:Nat×Sl×Nat×MH×PH):=a.2.2.1
abbrev D5(a:Nat×Sl×Sl×Nat×MH×PH):=a.2.2.1
abbrev xU(a:Nat×Sl×Sl×Nat×MH×PH):=a.2.2.2
abbrev oX a b:=ite (aG a<b) (aG a) b
attribute [push_cast] Iv Ig IB D5 xU oX
def M7(v:QV)(t:Sl)(m:MH)(h:PH)(K:cq):=
  ∀(b:Nat)(j:MH),bH (cW m h b) (bJ m j b v.enc 41) (∃(y:QV),aK j h b 0 y.enc/\bK (λA o=>aA (aR t.a A o) ((0:Int)<=0) (0<aG t/\∃(B:Nat),aK j h A (o+0) (zH B)/\∃(D:QV)(u:Nat),QG (λg G=>∃(l:ct)(w:Nat),Iv (tN (cM y) (uM B)) (tN (cM D) (uM u)) h D.group g (jP h D.order G) (Su h u l) w l j (λE n e k M=>Ig j E n (bS h e (sF fN n e E g G l k M) (aA (aK n e b 0 y.enc) (aK n e A (o+0) (zH B)) (KX n E e (λr F=>aA (aK F e b 0 y.enc) (aK F e A (o+0) (zH B)) (∃(I:Nat×Sl×Nat×MH×PH->Prop)(H:Nat×Sl×Nat×MH×PH->Nat),(∃(x:Nat×Sl×Nat×MH×PH),aA (I x) (cA b x.1) (aA (sQn=sQs x.2.1) (cA r (IB x)) (aA (bO F x.2.2.2) (cF
 e x.2.2.2) True)))/\∀(x:Nat×Sl×Nat×MH×PH),KW (I x) (qB x.2.2) (IB x) (∃(s:Sl),FO x.2.1 s (qB x.2.2) (lO x.2.2) K) (λJ=>∃(I1:Nat×Sl×Sl×Nat×MH×PH->Prop),Lt (λO P Q c=>Ej J O (IB x) P Q c/\∃(d:Nat×Sl×Sl×Nat×MH×PH),aA (I1 d) (cA x.1 d.1) (aA (aW x.2.1 d.2.1) (SV.at (At.val c.2)=sQs (D5 d)) (aA (cA (IB x) (xU d).1) (bO J (xU d).2) (eO x.2.2.2 (xU d).2/\True))))/\∀(c:Nat×Sl×Sl×Nat×MH×PH),I1 c->∃(C:Int),aA (aK (qB (xU c)) (lO (xU c)) c.1 19 (bC C)) (0<=oX (D5 c) C) (oX (D5 c) C<=(↑(D5 c).cap:Int)/\∃(d:List cr),FF (cL (qB (xU c)) (dL c.2.1) 65 1 d) (λz=>aA (gC 1 z) (vI (qB
 (xU c)) (lO (xU c)) (Sl.mk (D5 c).a (oX (D5 c) C).toNat (D5 c).cap) 1 z) (aA (sQ d z 24) (sR d z) (jW (λs L=>gK (qB (xU c)) L (dL c.2.1) s 65 1 (d++z)->∃(f:Nat×Sl×Nat×MH×PH),aA (I f) (H f<H x) (aA (cA c.1 f.1) (aW s f.2.1) (aA (cA (xU c).1 (IB f)) (bO L f.2.2.2) (eO (xU c).2 f.2.2.2/\True)))))))))))))))))))
theorem NA{w:Nat}:∀{od:cv}{a b:cz},LZ w od a b=0->a=b
 |[],_,_,h=>lG.1 h
 |(c,d)::r,a,b,h=>by
  rw[LZ]at h;generalize (if d then-pN (a.getD c.toNat zeroV) (b.getD c.toNat zeroV)else pN (a.getD c.toNat zeroV) (b.getD c.toNat zeroV))=x at h;split at h
  .split at h
   .omega
   .exact NA h
  .exact NA h
theorem AR{w od a b}(c:a.length=w)(d:b.length=w):j5 od a b= -j5 od b a:=by
 rw[Aq c d,Aq d c];exact(HJ w od).anti a b
theorem Ux{w a b}(c:a.length=w)(d:b.length=w)(h:j5 od a b=0):a=b:=by
 rw[Aq c d]at h;exact NA h
theorem NU{w:Nat}{od:cv}{x:cz}:∀{G:ct}{n:Nat},tM od G->(∀r∈G,r.length=w)->G.Nodup->(x∈G.take n↔x∈G/\(G.countP λy=>decide (j5 od y x<0))<n)
 |[],n,_,_,_=>ay
 |a::G,0,_,_,_=>ay
 |a::G,n+1,g,j,o=>by
  have g:=pairwise_cons.1 g;have o:=nodup_cons.1 o;have z:=NU (x:=x) (G:=G) (n:=n) g.2 (λr A=>j r (mem_cons_of_mem _ A)) o.2;have c:=j a (mem_cons_self ..);rw[take_succ_cons,mem_cons,z,mem_cons,countP_cons];by_cases u:x=a
  .subst u;have B:¬j5 od x x<0:=by have:=AR (od:=od) c c;omega
   have C:(G.countP λy=>decide (j5 od y x<0))=0:=countP_eq_zero.2 λy D=>bg
   grind
  .by_cases d:x∈G
   .have f:=j x (mem_cons_of_mem _ d);have B:=g.1 x d;have C:=AR (od:=od) c f;have E:j5 od a x≠0:=λe=>u (Ux c f e).symm
    grind
   grind
theorem El{l}(h:lJ l):l.Nodup:=by
 rw[nodup_iff_pairwise_ne];exact h.imp fun{a b} c e=>by subst e;have:=HK.anti a a;omega
def uF gr x y:=fG (pick x gr) (pick y gr)==0
theorem EP{gr x y}:uF gr x y=true↔pick x gr=pick y gr:=by
 simp only[uF,beq_iff_eq,lG]
def yS(gr:cn)(od:cv)(li:Int)(a b:ct):=a.filter λx=>decide (((b.countP λy=>uF gr x y&&decide (j5 od y x<0):Nat):Int)<li)
def WN(q:Query)(ls:List ct):=match q with|.mk _ _ _ _ _ gr od li _=>yS gr od li (ls.getD 0 []) (ls.getD 0 [])
def My(q:Query)(ls:List ct):=match q with|.mk _ _ _ _ _ gr _ li _=>1<=ls.length/\(∃w,iV w (ls.getD 0 [])/\jY w gr)/\0<=li
theorem bxX{κ}(e:ayQ κ){w l}(c:iV w l)(f:jY w gr){x y}(hx:OS x)(g:x.length=w)(d:y∈l):κ (pick y gr)=κ (pick x gr)↔uF gr x y=true:=by
 rw[EP];have:=e.inj (a:=pick y gr) (b:=pick x gr) (by simp[pick]) (Ks (c.row y d) (by rw[c.wid y d];exact f)) (Ks hx bg)
 grind
theorem Hw{κ}(c:ayQ κ){w l}(d:iV w l)(e:jY w gr){x}(hx:OS x)(f:x.length=w):
 ((mQ κ gr l (κ (pick x gr))).countP λy=>decide (j5 od y x<0))=l.countP λy=>uF gr x y&&decide (j5 od y x<0):=by
 rw[mQ,countP_filter];refine countP_congr λy g=>?_;have j:=bxX c d e hx f g
 grind
theorem YC{α:Type}{p q:α->Bool}:∀{l:List α},(∀x∈l,¬(p x=true/\q x=true))->l.countP p+l.countP q=l.countP λx=>p x||q x
 |[],_=>rfl
 |a::l,h=>by
  have d:=YC (l:=l) λx c=>h x (mem_cons_of_mem _ c)
  grind
theorem a2X{κ}(z:ayQ κ){y w l kk g}(e:sF κ m h y gr od l kk g)(c:iV w l)(d:jY w gr)(A:0<=li) x:
 x∈yS gr od li l l↔∃p∈kk,x∈(g p.1).take li.toNat:=by
 have B:∀k r,r∈g k->r∈l/\κ (pick r gr)=k:=λk r n=>by
  have:=(e.perm k).mem_iff.1 n;simpa[mQ]using this
 have C:∀k,(g k).Nodup:=λk=>(e.perm k).nodup_iff.2 ((El c.srt).sublist filter_sublist);have D:∀k,x∈(g k).take li.toNat↔x∈g k/\((g k).countP λy=>decide (j5 od y x<0))<li.toNat:=λk=>NU (e.sort k) (λr n=>c.wid r (B k r n).1) (C k)
 have E:x∈l->((g (κ (pick x gr))).countP λy=>decide (j5 od y x<0))=l.countP λy=>uF gr x y&&decide (j5 od y x<0):=λj=>by
  rw[(e.perm _).countP_eq];exact Hw z c d (c.row x j) (c.wid x j)
 rw[yS,mem_filter];constructor
 .rintro⟨j,u⟩;have u:=of_decide_eq_true u;have f:x∈g (κ (pick x gr)):=(e.perm _).mem_iff.2 (by simp[mQ,j])
  have o:κ (pick x gr)∈kk.map Prod.fst:=by
   by_cases o:κ (pick x gr)∈kk.map Prod.fst
   .exact o
   .rw[e.none_ _ o]at f;cases f
  grind
 grind
open Classical in
structure GJ(κ:cz->ByteArray)(gr:cn)(li:Int)(l:ct)(kk:dt)(g:ByteArray->ct)(left:da)(acc:ct):Prop where
 mem:∀x,x∈acc↔∃p∈kk,(Value.string p.1,dW p.2)∉left/\x∈(g p.1).take li.toNat
 cnt:acc.length+(l.countP λz=>decide (Value.string (κ (pick z gr))∈left.map Prod.fst))<=l.length
open Classical in
theorem GJ.start{κ gr li l kk g}:GJ κ gr li l kk g (kk.map λp=>(Value.string p.1,dW p.2)) []:=by
 refine⟨λx=>⟨λe=>(by cases e),?_⟩,?_⟩
 .grind
 grind
theorem a0Q{kk:dt}(c:(kk.map Prod.fst).Nodup):(kk.map λp=>(Value.string p.1,dW p.2)).Nodup:=by
 grind
open Classical in
theorem GJ.step{κ:cz->ByteArray}{m F:MH}{h:PH}{y G r:Nat}{gr:cn}{od li l f kk g left d e c}(st:GJ κ gr li l kk g left f)(o:sF κ m h y gr od l kk g)(j:mR F G r (kk.map λp=>(Value.string p.1,dW p.2)) left)(u:c∈kk)(A:left=d++(Value.string c.1,dW c.2)::e):
 GJ κ gr li l kk g (d++e) (f++(g c.1).take li.toNat):=by
 have B:=mR.nodup j (a0Q o.nodup);rw[A]at B
 have E:(Value.string c.1,dW c.2)∉d++e:=λh=>by
  grind
 have C:∀x∈d++e,x∈left:=λx h=>bg
 refine⟨λx=>?_,?_⟩
 .rw[mem_append,st.mem]
  grind
 .have H:Value.string c.1∉(d++e).map Prod.fst:=λh=>by
   obtain⟨z,D,n⟩:=mem_map.1 h;obtain⟨p,I,rfl⟩:=mem_map.1 (mR.mem j (C _ D));simp only[Value.string.injEq]at n;have:=VE o.nodup I u n
   grind
  have L:=YC (l:=l) (p:=λz=>decide (Value.string (κ (pick z gr))∈(d++e).map Prod.fst)) (q:=λz=>decide (κ (pick z gr)=c.1)) (λz _⟨M,O⟩=>by
   grind)
  have P:(l.countP λz=>decide (Value.string (κ (pick z gr))∈(d++e).map Prod.fst)||decide (κ (pick z gr)=c.1))=l.countP λz=>decide (Value.string (κ (pick z gr))∈left.map Prod.fst):=by
   grind
  have Q:(mQ κ gr l c.1).length=l.countP λz=>decide (κ (pick z gr)=c.1):=by rw[mQ,countP_eq_length_filter]
  have J:=(o.perm c.1).length_eq;have:=st.cnt;rw[br,length_take];omega
theorem GJ.done{κ}(j:ayQ κ){y w l e kk g}(st:GJ κ gr li l kk g [] e)(n:sF κ m h y gr od l kk g)(c:iV w l)(d:jY w gr)(f:0<=li):yS gr od li l l=Fp e:=
 aBQ (c.srt.sublist filter_sublist) λx=>by rw[a2X j n c d f,st.mem];simp
theorem WJ{h s l li}(f:Rows h s l)(g:0<=li):(0<=if(s.len:Int)<li then(s.len:Int)else li)/\(if(s.len:Int)<li then(s.len:Int)else li)<=s.cap/\∃us:cw,dH h ⟨s.a,(if(s.len:Int)<li then(s.len:Int)else li).toNat,s.cap⟩ 1 (us.map eS)/\fE h us (l.take li.toNat)/\us.length<=l.length:=by
 obtain⟨⟨c,d,n,o⟩,_⟩:=f;have u:s.len=c.length:=by have:=d.len;grind
 have y:((if(s.len:Int)<li then(s.len:Int)else li).toNat)=min c.length li.toNat:=by omega
 have e:=d.cap;refine⟨aC,aC,c.take (min c.length li.toNat),?_,⟨bg,λj x z=>?_⟩,bf⟩
 .rw[y,map_take];exact dH.cut d _ bf
 grind
theorem Z0:cm 222 (Wj My WN):=by
 refine Jr func222 ?_;rintro c7 m h K ⟨v,t,q,bs,ls,rfl,hq,ha,hT,a9,hK⟩;refine⟨bFJ,rfl,aE Rl (aE IL aH),M7 v t m h (cR h K),ax,?_⟩;show M7 v t m h (cR h K);dsimp only[M7,push_cast];obtain⟨op,ta,w,co,on,gr,od,li,args⟩:=q;obtain⟨c8,⟨wd,f,A⟩,W⟩:=a9;intro b m1 b0 X;obtain⟨s1,n1⟩:=jB (Sub.refl m) b0 X;have b2:m1 b=some (.cells ⟨v.enc⟩ 41 (0,0)):=X.at_;obtain⟨b1,b3,x,ea,c9,rd,sq⟩:=ha.get (G4 (i:=0) aC);simp only[WN]at hK;generalize ls.getD 0 []=l at hK f sq;have d':=f.len;refine⟨v,.of_m b2 (take_length ..),b1,b3,ea,aC,aC,x,.imm rd,v,x,gr,od,l,wd,rfl,hq.parts.group_,hq.parts.order_,sq,f,A,hT.sub s1,λy m2 h2 kk g hy Y G U=>?_⟩;have yb:b≠y:=λe=>bg
 have Z:m2 b=some (.cells ⟨v.enc⟩ 41 (0,0)):=bg
 have s2:Sub m m2:=λz o e=>by rw[Y z (λH=>by have:=s1 z o e;grind)];exact s1 z o e
 refine⟨.of_m Z (take_length ..),.imm (rd.mono G),_,U.map_,λr F I a' it=>?_⟩;have rb:b≠r:=λe=>by have:=I.m_;grind
 have b4:F b=some (.cells ⟨v.enc⟩ 41 (0,0)):=by rw[a'.other b rb];exact Z
 have s3:Sub m F:=λz o e=>by
  have:=s2 z o e;rw[a'.other z (λH=>by rw[H,I.m_]at this;cases this)];exact this
 classical
 have b5:∃o,F y=some o:=by obtain⟨es,c,d,B,c0,P,_⟩:=it.ex;grind
 have a0:∃o,F r=some o:=by obtain⟨es,c,d,B,c0,P,i2,i3,i4,i5,_⟩:=it.ex;grind
 have yr:y≠r:=λe=>by
  obtain⟨es,c,P,_⟩:=U.map_;rw[e,I.m_]at P;cases P
 refine⟨.of_m b4 (take_length ..),.imm (rd.mono G),λz=>z.1=b/\z.2.2.1=r/\z.2.2.2.2=h2/\(∀x o,F x=some o->x≠r->z.2.2.2.1 x=some o)/\∃left Q u,mR z.2.2.2.1 y r (kk.map λp=>(Value.string p.1,dW p.2)) left/\cL z.2.2.2.1 z.2.1 65 1 (Q.map eS)/\(∀x i,z.2.1.a=some ⟨x,i,none⟩->F x=none)/\fE h2 Q u/\GJ fN gr li l kk g left u,λz=>leftOf z.2.2.2.1 z.2.2.1,⟨(b,⟨none,0,0⟩,r,F,h2),⟨rfl,rfl,rfl,λx o e _=>e,_,[],[],it,⟨BN [],.inl ⟨rfl,rfl⟩⟩,(λx i e=>by cases e),fE.nil _,.start⟩,MT⟩,?_⟩
 .rintro⟨b',s,J,mz,hz⟩ ⟨e1,H,e3,R,left,Q,u,C,D,b6,L,rk⟩;dsimp only at e1 H e3 R C D b6 L rk⊢
  subst e1 H e3;have c5:u.length<=l.length:=by have:=rk.cnt;omega
  have d0:=L.len;refine⟨y,_,left,C,λS=>?_,λl1 x1 l2 a1 m4 M O=>?_⟩
  .subst S;refine⟨s,Q,u,rfl,D.src,L,aC,λs' h' a2 b7=>cR.sub (λz o e=>R z o (s3 z o e) (λH=>?_)) (G.trans a2) (hK s' h' (G.trans a2) ?_)⟩
   .have:=s2 z o e;rw[H,I.m_]at this;cases this
   .rw[rk.done QU U f A W];exact b7
  .have b8:x1∈left:=bg
   obtain⟨V,a3,rfl⟩:=mem_map.1 (mR.mem C b8);have n:∀{x},(∃o,F x=some o)->∀i,s.a≠some ⟨x,i,none⟩:=fun{x}⟨o,ho⟩ i e=>bg
   have b9:m4 b'=some (.cells ⟨v.enc⟩ 41 (0,0)):=by rw[M.other b' rb];grind
   have T:cL m4 s 65 1 (Q.map eS):=cL.keep D λx i e=>M.other x λH=>n a0 i (H▸e);refine⟨λc=>c=(b',s,V.2,J,m4,hz),⟨y,_,_,_,O,⟨(b',s,V.2,J,m4,hz),rfl,rfl,rfl,rfl,rfl,rfl,rfl,trivial⟩⟩,?_⟩;rintro c rfl;dsimp only;have a4:v.limit=li:=hq.parts.limit_;obtain⟨c1,c2,a5,c',c3,d1⟩:=WJ (li:=li) (U.rows V a3) W;have d2:=(U.perm V.1).length_eq;have c6:(mQ fN gr l V.1).length<=l.length:=length_filter_le _ _;refine⟨li,.of_m b9 (by rw[<-a4];rfl),c1,c2,Q.map eS,T,a5.map eS,BN _,.imm c',bf,bf,λs' m5 E=>?_⟩
   .have a6:∀x o,F x=some o->x≠J->m5 x=some o:=λx o e c4=>E.other x o (by rw[M.other x c4];grind) (n ⟨o,e⟩)
    have a7:mR m5 y J (kk.map λp=>(Value.string p.1,dW p.2)) (l1++l2):=by
     obtain⟨es,c,d,B,c0,P,i2,i3,i4,i5,_⟩:=O.it.ex;exact mR.keep O.it (by rw[P];exact E.other y _ P (n b5)) (by rw[i5];exact E.other J _ i5 (n a0))
    refine⟨(b',s',J,m5,hz),⟨rfl,rfl,rfl,a6,_,Q++a5,u++(g V.1).take li.toNat,a7,?_,λx i e=>?_,L.app c3,rk.step U C a3 a1⟩,?_,rfl,rfl,rfl,rfl,rfl,trivial⟩
    .rw[bu];exact E.row
    .rcases E.fresh x i e with h5|⟨j,h5⟩
     .cases e6:F x with
      |none=>rfl
      |some o=>
       by_cases a8:x=J
       .obtain⟨es,c,d,B,c0,P,i2,i3,i4,i5,_⟩:=O.it.ex
        grind
       .rw[M.other x a8,R x o e6 a8]at h5;cases h5
     grind
    .show leftOf m5 J<leftOf mz J;rw[mR.left_ a7,mR.left_ C,a1];simp
def aNJ:Vc.Spec:=λc m h K=>∃(n d e f:Nat)(v:QV)(od:cv)(g s:Sl)(rs:ct)(r:cz)(w:Nat),c=[cI n,.val (.func (.func 253) #[] #[.pointer (some ⟨d,0,none⟩),.pointer (some ⟨e,0,none⟩),.pointer (some ⟨f,0,none⟩)])]/\
 m d=some (.cells ⟨QV.enc v⟩ 41 (0,0))/\m e=some (.cells #[Sl.val g] 58 (0,0))/\m f=some (.cells #[Sl.val s] 65 (0,0))/\jP h v.order od/\Rows h g rs/\bQ h s r/\rs.length=n/\tM od rs/\(∀x∈rs,x.length=w)/\r.length=w/\
 K (cI ((rs.countP λy=>decide (j5 od y r<0):Nat):Int)) m h
noncomputable def bFZ:=VO [(252,V8),(248,b3J),(108,aNJ)] [] [(2,{A:=Sl×Nat×Nat×MH×PH,st:=λ⟨t,b,c,m,h⟩=>bY 38 40 [(1,sv t),(2,vv (.pointer (some ⟨b,0,none⟩))),(5,vv (.pointer (some ⟨c,0,none⟩)))] [] m h}),
 (6,{A:=Nat×Nat×Nat×Nat×MH×PH,st:=λ⟨b,o,e,g,m,h⟩=>bY 38 40 [(2,vv (.pointer (some ⟨b,0,none⟩))),(6,vv (.pointer (some ⟨o,0,none⟩))),(7,vv (.pointer (some ⟨e,0,none⟩))),(8,vv (.pointer (some ⟨g,0,none⟩)))] [] m h})] [200002,200005,200006,200007,200008,1058,400000,0]
abbrev xW(a:Sl×Nat×Nat×MH×PH):=a.2.2.1
abbrev FJ(a:MH)(b:Nat)(c:Value)(d:MH->(Nat×Nat×Nat×Nat×MH×PH)->Prop):=gT (λx e=>aA (sL a b (fA x e 0)) (0<x.size) (∀(f:MH),bJ a f b (iC c 1 x) e->∃(g:Nat×Nat×Nat×Nat×MH×PH),d f g))
abbrev FU(a:Nat×Nat×Nat×Nat×MH×PH->Prop)(b:Nat×Nat×Nat×Nat×MH×PH)(c:Sl×Nat×Nat×MH×PH)(d e g:Nat)(i:MH)(j:PH):=aA (a b) (cA c.2.1 b.1) (aA (cA d b.2.1) (cA e (fZ b.2)) (aA (cA g (fY b.2)) (bO i (fQ b.2)) (cF j (fQ b.2)/\True)))
abbrev Hj(a:Sl->ct->cz->Prop):=QH (λx c=>∃(d:cz),a x c d)
abbrev Ij(a:ct)(b:cz->Prop):=∀(x:cz),List.Mem x a->b x
attribute [push_cast] xW FJ FU Hj Ij
def M6(v:QV)(t:Sl)(m:MH)(h:PH)(K:cq):=
  ∀(b:Nat)(Q:MH),bH (cW m h b) (bJ m Q b v.enc 41) (∃(I:Sl×Nat×Nat×MH×PH->Prop),(∃(y:QV),aK Q h b 0 y.enc/\bK (λH o=>aA (aR t.a H o) ((0:Int)<=1) (1<aG t/\∃(C:Nat),aA (aK Q h H (o+1) (zH C)) (∃(P:QV)(u:Nat),QG (λg V=>∃(l:ct)(w:Nat),Iv (tN (cM y) (uM C)) (tN (cM P) (uM u)) h P.group g (jP h P.order V) (Su h u l) w l Q (λD J d k W=>Ig Q D J (bS h d (sF fN J d D g V l k W) (aA (aK J d b 0 y.enc) (aK J d H (o+1) (zH C)) (∀(j:Nat)(L:MH),bH (cW J d j) (bJ J L j (pD Eu) 160) (gT (λc E=>aA (sL L j (fA c E 0)) (0<c.size) (∀(R:MH),bJ L R j (iC (Dj D) 1 c) E->∃(x:Sl×Nat×Nat×MH×PH),aA (I x) (aW t x.1)
 (aA (cA b x.2.1) (cA j (xW x)) (aA (bO R x.2.2.2) (cF d x.2.2.2) True))))))))))) (aA (aK Q h b 0 y.enc) (aK Q h H (o+1) (zH C)) (∀(j:Nat)(J:MH),bH (cW Q h j) (bJ Q J j (pD Eu) 160) (∃(P:QV)(u:Nat),QG (λg V=>∃(l:ct)(w:Nat),Iv (tN (cM y) (uM C)) (tN (cM P) (uM u)) h P.group g (jP h P.order V) (Su h u l) w l J (λD L d k W=>Ig J D L (bS h d (sF fN L d D g V l k W) (gT (λc E=>aA (sL L j (fA c E 0)) (0<c.size) (∀(R:MH),bJ L R j (iC (Dj D) 1 c) E->∃(x:Sl×Nat×Nat×MH×PH),aA (I x) (aW t x.1) (aA (cA b x.2.1) (cA j (xW x)) (aA (bO R x.2.2.2) (cF d x.2.2.2) True))))))))))))))/\∀(x:Sl×Nat×Nat×MH×PH),I x->FK (qB
 x.2.2) (lO x.2.2) x.1 (λH J y S=>xM S (lO x.2.2) y J (λI1 k e L d=>I1 k L d->∀(j:Nat)(R:MH),bH (cW L d j) (bJ L R j gW 65) (gT (λc E=>aA (sL R j (fA c E 0)) (0<c.size) (∀(z:MH),bJ R z j (iC (dW e) 1 c) E->∃(I2:Nat×Nat×Nat×Nat×MH×PH->Prop),(∃(C:Nat),aK z d (xW x) 0 (oP C)/\∃(D:Sl),aK z d j 0 (aL D)/\∃(F:Sl),aA (aK z d x.2.1 17 (aL F)) (aK z d (xW x) 0 (oP C)/\∃(s:Sl),DV D F s d z (xW x) C (λr M=>aA (aK z d j 0 (aL D)) (aK z d x.2.1 17 (aL F)) (sX z C (λO=>O (dT r M)) (dT r M) (aA (dM z d (xW x) C) (aK z d j 0 (aL D)) (aK z d x.2.1 17 (aL F)/\∀(A:Nat)(B:MH),bH (cW z d A) (bJ z B A gW
 58) (FJ B A pF (λG f=>FU I2 f x H j A G d)))) (λT=>aA (dM z d (xW x) C) (aK z d j 0 (aL D)) (aK z d x.2.1 17 (aL F)/\∀(A:Nat)(B:MH),bH (cW z d A) (bJ z B A gW 58) (FJ B A (dW T) (λG f=>FU I2 f x H j A G d)))))) (λr M=>aA (dM z d (xW x) C) (aK z d j 0 (aL D)) (aK z d x.2.1 17 (aL F)/\∀(A:Nat)(B:MH),bH (cW z d A) (bJ z B A gW 58) (aA (aK B d j 0 (aL D)) (aK B d x.2.1 17 (aL F)) (sX B C (λO=>O (dT r M)) (dT r M) (FJ B A pF (λG f=>FU I2 f x H j A G d)) (λT=>FJ B A (dW T) (λG f=>FU I2 f x H j A G d))))))) (aA (dM z d (xW x) C) (aK z d j 0 (aL D)) (aK z d x.2.1 17 (aL F)/\∀
 (A:Nat)(B:MH),bH (cW z d A) (bJ z B A gW 58) (aK B d (xW x) 0 (oP C)/\∃(s:Sl),DV D F s d B (xW x) C (λ_ _=>aK B d j 0 (aL D)) (λr M=>aK B d x.2.1 17 (aL F)/\sX B C (λO=>O (dT r M)) (dT r M) (FJ B A pF (λG f=>FU I2 f x H j A G d)) (λT=>FJ B A (dW T) (λG f=>FU I2 f x H j A G d)))))))/\∀(f:Nat×Nat×Nat×Nat×MH×PH),I2 f->∃(C:Sl),aK (lU f.2) (j9 f.2) (fY f.2) 0 (aL C)/\bK (λn A=>bK (λY Z=>∃(P:QV)(o:cv)(g:Sl),Hj (λs r X=>∃(w:Nat),aA (gJ (aG C) (mV 253 (Array.mk (bG (SB f.1 0) (SB (fY f.2) 0) (Aa (fZ f.2)))))=gJ (↑n:Int) (mV 253 (Array.mk (bG (SB A 0) (SB Y 0) (Aa
 Z))))) ((fQ f.2).1 A=Option.some (fA (Array.mk P.enc) 41 0)) (aA ((fQ f.2).1 Y=Option.some (fA (Array.mk (aL g)) 58 0)) ((fQ f.2).1 Z=Option.some (fA (Array.mk (aL s)) 65 0)) (aA (jP (j9 f.2) P.order o) (Rows (j9 f.2) g r) (aA (bQ (j9 f.2) s X) (r.length=n) (aA (tM o r) (Ij r (λU=>U.length=w)) (X.length=w/\zO (lU f.2) (j9 f.2) f.1 19 (λD=>aY (↑(countP (fun(F:cz)=>decide (j5 o F X<0)) r):Int) D (xP (lU f.2) (j9 f.2) f.2.1 0 (λF T=>aK (lU f.2) (j9 f.2) (fZ f.2) 0 (aL T)/\∃(U:List cr),aA (cL (lU f.2) (dL F) 65 1 U) (lL U) (eA U/\jW (λs1 B=>gK (lU f.2) B (dL F) s1 65 1 (dP U (aL T))->gT (λM E1=>aA (sL B f.2.1
 (fA M E1 0)) (0<M.size) (∀(G:MH),bJ B G f.2.1 (iC (dW s1) 1 M) E1->I1 (k+1) G (j9 f.2))))))) (I1 (k+1) (lU f.2) (j9 f.2))))))))))))))) (λf I1=>FV (lO x.2.2) I1 f H K)))
theorem LC{w:World}{q c}(d:b<w.heap.size):(Sort.grow (w.drewN q) c).heap[b]? =w.heap[b]? :=by
 show((w.drewN q).heap++c)[b]? =_;rw[Array.getElem?_append_left (show b<(w.drewN q).heap.size from d)];rfl
theorem YI{P g}{cs:cr}{m h S r u}(M:Sound P g S)(O:S (cs.map .val) m h λr' m' h'=>r'=r/\m'=m/\h'=h)(Q:∀w D,Jh w r D->D=u){w:World}(R:∀b o v,h b o=some v->w.cell? ⟨b,o,none⟩=some v)(Y:∀b o,m b=some o->w.heap[b]? =some o)(T:∀b o,m b=some o->∀i,h b i=none) E F:
 Calls P g cs.toArray (Sort.grow (w.drewN E) F) λe w'=>e= .returned u/\∃q G,w'=Sort.grow ((Sort.grow (w.drewN E) F).drewN q) G:=by
 obtain⟨W,J⟩:∃W,Sort.grow (w.drewN E) F=W:=⟨_,rfl⟩
 rw[J];have H:∀b,b<w.heap.size->W.heap[b]? =w.heap[b]? :=λb f=>by rw[<-J];exact LC f
 have y:∀(l:cr)(w:World),DA w (l.map .val) l:=λl w=>by
  induction l with
  |nil=>trivial
  |cons a l U=>exact⟨rfl,U⟩
 have A:∀(l:cr)(i:Nat)(c:CV)(u:Value)(b:Nat),(l.map CV.val)[i]? =some c->j6 c u=some b->False:=λl i c u b n f=>by
  rw[getElem?_map]at n;cases e:l[i]? with
  |none=>grind
  |some v=>rw[e]at n;simp at n;subst n;simp[j6]at f
 have B:CS W m h (cs.map .val) cs:=by
  refine⟨y _ _,?_,?_,T,λi j c d u v b n _ _ _ f _=>(A _ i c u b n f).elim,λi c u b n _ f=>(A _ i c u b n f).elim⟩
  .intro b o v V;have C:=R b o v V;rw[World.cell?_of_block (w:=w) (w':=W) (a:=⟨b,o,none⟩) (H b (World.block_lt_of_cell? w ⟨b,o,none⟩ C))];exact C
  grind
 refine(M.2 _ _ m h W _ O B).mono ?_;rintro e w' ⟨r',D,m',h',rfl,⟨rfl,rfl,rfl⟩,I,z,_⟩;have X:=Q _ _ I;subst X;refine⟨rfl,NN z.tape z.os z.output z.drawn z.size (λb f=>?_)⟩;cases L:m' b with
 |none=>
  refine z.frame b f ?_;rintro(C|⟨i,c,u,n,_,Z⟩)
  .exact C L
  grind
 |some o=>rw[z.msat b o L];grind
theorem Qa{g S R}(U:cm g S)(hR:∀B m h K,R B m h K->∃(n E F G wd:Nat)(od:cv)(rs:ct)(r:cz),B=[cI n,.val (.func (.func g) #[] #[.pointer (some ⟨E,0,none⟩),.pointer (some ⟨F,0,none⟩),.pointer (some ⟨G,0,none⟩)])]/\rs.length<=502633886983/\rs.length=n/\tM od rs/\(∀x∈rs,x.length=wd)/\r.length=wd/\
 (∀(i:Nat) x,rs[i]? =some x->S ([.int .i64 i,.pointer (some ⟨E,0,none⟩),.pointer (some ⟨F,0,none⟩),.pointer (some ⟨G,0,none⟩)].map .val) m h λr' m' h'=>r'=cB (decide (j5 od x r>=0))/\m'=m/\h'=h)/\K (cI ((rs.countP λy=>decide (j5 od y r<0):Nat):Int)) m h):cm 108 R:=by
 refine⟨⟨Tryz.f108,func108,rfl,az⟩,?_⟩;intro B V m h w K h0 f;obtain⟨n,E,F,G,wd,od,rs,r,rfl,W,rfl,I,X,j,hS,hK⟩:=hR _ _ _ _ h0
 obtain⟨v1,H,rfl⟩:∃v H,V=[v,H]:=by
  have:=(rH f.args).1
  match V,this with
  |[v,H],_=>grind
 have C:v1= .int .i64 rs.length:=f.args.1;have h2:H= .func (.func g) #[] #[.pointer (some ⟨E,0,none⟩),.pointer (some ⟨F,0,none⟩),.pointer (some ⟨G,0,none⟩)]:=f.args.2.1;subst C h2
 have eg:∀args w,(callFunc g args).run Tryz.prog w= .ok (.enter g args) w:=λargs w=>by
  obtain⟨Y,J,d,hn⟩:=U.1;have L:¬Y.body=none:=bg
  have M:¬Y.name= "runtime.NumGoroutine" :=bg
  simp[callFunc,program,Sem.run,J,M,L]
 have D:=Any.sort_Search Tryz.searchO g #[.pointer (some ⟨E,0,none⟩),.pointer (some ⟨F,0,none⟩),.pointer (some ⟨G,0,none⟩)] rs.length (λi=>decide (j5 od (rs.toArray[i]!) r>=0)) w eg aC
  (λmm O i hi=>YI (cs:=[.int .i64 i,.pointer (some ⟨E,0,none⟩),.pointer (some ⟨F,0,none⟩),.pointer (some ⟨G,0,none⟩)]) U
   (hS i _ bg) (λw u' hu=>hu) f.hsat f.msat f.disj mm O)
  (λa b P d c=>?_)
 .refine Calls.mono D ?_;rintro e w' ⟨rfl,q,O,rfl⟩
  have u:((List.range rs.length).countP λi=> !decide (j5 od (rs.toArray[i]!) r>=0))=rs.countP λy=>decide (j5 od y r<0):=by
   have:=Go.Lib.countP_range rs.toArray (λy=> !decide (j5 od y r>=0))
   grind
  rw[u];refine⟨_,_,m,h,rfl,hK,rfl,⟨rfl,rfl,rfl,Nat.le_add_right _ _,?_,λb d _=>LC d,λb o v Q=>?_,λb o d=>?_,f.disj,λ_ _ _ e=>e,λ_ _ _=>rfl,λb o d=>.inr (.inl bg)⟩,λb d=>by cases d⟩
  .show w.heap.size<=((w.drewN q).heap++O).size;rw[Array.size_append];exact Nat.le_add_right _ _
  .have C:=f.hsat b o v Q;rw[World.cell?_of_block (w:=w) (a:=⟨b,o,none⟩) (LC (World.block_lt_of_cell? w ⟨b,o,none⟩ C))];exact C
  .have C:=f.msat b o d;rw[LC (Array.getElem?_eq_some_iff.1 C).1];exact C
 .have c:=of_decide_eq_true c;refine decide_eq_true ?_;rcases Nat.lt_or_eq_of_le P with T|rfl
  .have Z:a<rs.length:=by omega
   rw[getElem!_pos _ a aC]at c;rw[getElem!_pos _ b aC];simp only[getElem_toArray]at c⊢
   have z:=X _ (getElem_mem Z);have A:=X _ (getElem_mem d);have h5:=(pairwise_iff_getElem.1 I) a b Z d T;have h6:=AR (od:=od) z A;have h7:=AR (od:=od) z j;have h8:=AR (od:=od) A j;rw[Aq z A]at h6;have:=(HJ wd od).trans r rs[a] rs[b] (by rw[<-Aq j z];omega) aC;rw[<-Aq j A]at this;omega
  .exact c
theorem aqZ:cm 108 aNJ:=Qa ZR λy m h K⟨n,j,o,u,v,od,g,s,rs,r,z,e,A,B,C,D,c,E,F,d,G,f,H⟩=>⟨n,j,o,u,z,od,rs,r,e,by have:=c.len;omega,F,d,G,f,λi x I=>⟨i,j,o,u,v,od,g,s,rs,r,x,rfl,A,B,C,D,c,E,I,rfl,rfl,rfl⟩,H⟩
theorem sF.get2{κ y l kk G key K0}{K:Sl->Prop}(g:sF κ m h y gr od l kk G)(n:Dz kk key ⟨none,0,0⟩->K0)(o:∀s,Dz kk key s->K s):
 ∃(d:List (Value×Sl))(Ok:Value->Prop),uX m y (d.map λp=>(p.1,dW p.2))/\KeyLaw Tryz.prog 9 Ok/\Ok (.string key)/\(∀e,List.Mem e d->Ok e.1)/\((∀e,List.Mem e d->e.1=Value.string key->False)->K0)/\∀t,List.Mem (Value.string key,t) d->K t:=by
 obtain⟨u,c,z,A,_,_⟩:=g.map_;refine⟨kk.map λp=>(.string p.1,p.2),_,⟨u,c,z,by rw[A];simp⟩,C7,⟨key,rfl⟩,λe B=>?_,λC=>n (.inl ⟨rfl,λh=>?_⟩),λt D=>o t (.inr ?_)⟩
 .obtain⟨k,_,rfl⟩:=mem_map.1 (show e∈_ from B)
  grind
 .obtain⟨p,j,e⟩:=mem_map.1 h;subst e;exact C (.string p.1,p.2) (mem_map_of_mem (f:=λp:ByteArray×Sl=>(Value.string p.1,p.2)) j) rfl
 .obtain⟨p,j,e⟩:=mem_map.1 (show(Value.string key,t)∈_ from D)
  grind
theorem sF.keep{κ y l kk G}(g:sF κ m h y gr od l kk G)(d:∀o,m y=some o->m' y=some o)(le:PH.le h h'):sF κ m' h' y gr od l kk G:=by
 obtain⟨e,c,f,j,n,u⟩:=g.map_;exact⟨⟨e,c,d _ f,j,n,u⟩,g.nodup,λp z=>bM.mono (g.rows p z) le (λr t A=>bQ.mono A le),g.none_,g.perm,g.sort⟩
theorem sF.at_{κ y l kk G key s}(g:sF κ m h y gr od l kk G)(c:Dz kk key s):Rows h s (G key):=by
 rcases c with⟨rfl,d⟩|e
 .rw[g.none_ key d];exact(fE.nil h).rows (dH.nil _ _) ay
 .exact g.rows _ e
structure cEQ(m5:MH)(hh:PH)(bq b9 b2:Nat)(e:Sl)(us2:cw)(Gk:ct)(c:Nat×Nat×Nat×Nat×MH×PH):Prop where
 q:c.1=bq
 o:c.2.1=b9
 b:c.2.2.1=b2
 h:c.2.2.2.2.2=hh
 sub:Ff m5 c.2.2.2.2.1 b9
 out:sD m5 c.2.2.2.2.1 b9 us2
 e_:c.2.2.2.2.1 b2=some (.cells #[dW e] 65 (0,0))
 g_:∃s,c.2.2.2.2.1 c.2.2.2.1=some (.cells #[dW s] 58 (0,0))/\Rows hh s Gk
def HW(q:Query)(ls:List ct):=match q with|.mk _ _ _ _ _ gr od li _=>yS gr od li (ls.getD 0 []) (ls.getD 1 [])
def EU(q:Query)(ls:List ct):=match q with|.mk _ _ _ _ _ gr _ _ _=>2<=ls.length/\∃w,iV w (ls.getD 0 [])/\iV w (ls.getD 1 [])/\jY w gr
theorem ZZ:cm 223 (Wj EU HW):=by
 refine Jr func223 ?_;rintro g2 m h K ⟨v,t,q,bs,ls,rfl,hq,ha,hT,f0,hK⟩;refine⟨bFZ,rfl,aE Rl (aE GC (aE aqZ aH)),M6 v t m h (cR h K),ax,?_⟩;show M6 v t m h (cR h K);dsimp only[M6,push_cast];obtain⟨op,ta,w,co,on,gr,od,li,args⟩:=q;obtain⟨g3,wd,B,n,I⟩:=f0;intro b m1 f1 c8;obtain⟨s1,n1⟩:=jB (Sub.refl m) f1 c8;have a8:m1 b=some (.cells ⟨v.enc⟩ 41 (0,0)):=c8.at_;obtain⟨b1,f2,x,ea,g4,rd,sq⟩:=ha.get (G4 (i:=1) aC);obtain⟨b6,c9,x6,f3,g1,f4,d'⟩:=ha.get (G4 (i:=0) aC);simp only[HW]at hK;generalize ls.getD 1 []=l' at hK n sq;generalize ls.getD 0 []=l at hK B d';have g5:=B.len;have a9:=hq.parts.group_;have b0:=hq.parts.order_
 refine⟨λz=>z.1=t/\z.2.1=b/\PH.le h z.2.2.2.2/\Sub m z.2.2.2.1/\z.2.2.2.1 b=some (.cells ⟨v.enc⟩ 41 (0,0))/\∃y kk G,z.2.2.2.1 z.2.2.1=some (.cells #[.map (some y)] 160 (0,0))/\sF fN z.2.2.2.1 z.2.2.2.2 y gr od l' kk G,
  ⟨v,.of_m a8 (take_length ..),b1,f2,ea,aC,aC,x,.imm rd,⟨v,x,gr,od,l',wd,rfl,a9,b0,sq,n,I,hT.sub s1,λy m2 h2 kk G F H Z Y=>?_⟩,.of_m a8 (take_length ..),.imm rd,λU m2 d0 a'=>?_⟩,?_⟩
 .have yb:b≠y:=λe=>bg
  have a0:m2 b=some (.cells ⟨v.enc⟩ 41 (0,0)):=bg
  have s2:Sub m m2:=λz o e=>by rw[H z (λd=>by have:=s1 z o e;grind)];exact s1 z o e
  refine⟨.of_m a0 (take_length ..),.imm (rd.mono Z),λU m3 b4 a1=>⟨_,_,⟨a1.at_⟩,ay,λV D=>⟨(t,b,U,V,h2),⟨rfl,rfl,Z,?_,?_,y,kk,G,D.at_,?_⟩,MT⟩⟩⟩
  .obtain⟨s3,n3⟩:=jB s2 b4 a1;exact s3.upd n3 D.other
  .have:b≠U:=λe=>by have:=b4.m_;grind
   show V b=_;rw[D.other b this,a1.other b this];exact a0
  .refine Y.keep (λo e=>?_) (.refl _);have:y≠U:=λd=>by rw[d,b4.m_]at e;cases e
   show V y=_;rw[D.other y this,a1.other y this];exact e
 .obtain⟨s2,n2⟩:=jB s1 d0 a';have d1:b≠U:=λe=>by have:=d0.m_;grind
  have a0:m2 b=some (.cells ⟨v.enc⟩ 41 (0,0)):=by rw[a'.other b d1];exact a8
  refine⟨v,x,gr,od,l',wd,rfl,a9,b0,sq,n,I,hT.sub s2,λy m3 h2 kk G F H Z Y=>?_⟩;have yb:b≠y:=λe=>bg
  have yc:U≠y:=λe=>by rw[<-e,a'.at_]at F;cases F
  have s3:Sub m m3:=λz o e=>by rw[H z (λd=>by have:=s2 z o e;grind)];exact s2 z o e
  refine⟨#[.map none],160,⟨by rw[H U yc];exact a'.at_⟩,ay,λV D=>⟨(t,b,U,V,h2),⟨rfl,rfl,Z,s3.upd n2 D.other,?_,y,kk,G,D.at_,?_⟩,MT⟩⟩
  .show V b=_;rw[D.other b d1,H b yb];exact a0
  .refine Y.keep (λo e=>?_) (.refl _);show V y=_;rw[D.other y (Ne.symm yc)];exact e
 .rintro⟨t',b',U,V,hh⟩ ⟨e1,d,J,s4,P,y,kk,G,b5,Y⟩;dsimp only at e1 d J s4 P b5 Y⊢
  subst e1 d;intro S m5 d2 a2;obtain⟨s5,n9⟩:=jB s4 d2 a2
  have a3:∀{z o},V z=some o->m5 z=some o/\z≠S:=fun{z o} d=>by
   have:z≠S:=λT=>by rw[T,d2.m_]at d;cases d
   exact⟨by rw[a2.other z this];exact d,this⟩
  obtain⟨us,d3,d4⟩:=(d'.mono J).ex;have f5:=d4.len;refine⟨b6,c9,f3,aC,aC,x6,.imm (f4.mono J),AT,us,λk my F=>F=hh/\Ff m5 my S/\∃f,sD m5 my S f/\f.length<=k/\fE hh f (yS gr od li (l.take k) l'),Al,⟨x6,us,rfl,d3,rfl⟩,⟨rfl,λz o e _=>e,[],sD.new a2.at_,ay,by simpa[yS]using fE.nil hh⟩,?_,?_⟩
  .rintro k e my F hk-⟨rfl,a4,f,W,b7,Q⟩ b2 m6 f6 d5;obtain⟨r,hr,hv⟩:=d4.at' hk;have g6:=(bm hk);have a5:=bo hr;have d6:=B.wid r a5;have d7:jY r.length gr:=bg
   refine⟨_,_,⟨d5.at_⟩,ay,λL d8=>?_⟩
   have b8:∀{z o},my z=some o->L z=some o/\z≠b2:=fun{z o} d=>by
    have:z≠b2:=λT=>by rw[T,f6.m_]at d;cases d
    exact⟨by rw[d8.other z this,d5.other z this];exact d,this⟩
   have up:∀{z o},V z=some o->L z=some o:=fun{z o} d=>(b8 (a4 z o (a3 d).1 (a3 d).2)).1;have s7:Ff m5 L S:=λz o d c'=>(b8 (a4 z o d c')).1
   have C:∀{ma mb:MH},sD m5 ma S f->(∀z o,ma z=some o->mb z=some o)->sD m5 mb S f:=fun{ma mb} ho hk=>by
    obtain⟨s,h1,h2,h3⟩:=ho.ex;refine⟨s,hk _ _ h1,cL.keep h2 λz i T=>?_,h3⟩;obtain⟨g8,h4⟩:=h2.blk T
    grind
   have o7:sD m5 L S f:=C W λz o d=>(b8 d).1;have a6:L b2=some (.cells #[dW e] 65 (0,0)):=d8.at_;have g7:=Y.keep (λo d=>up d) (.refl _);have rc:aK L F U 0 [Value.map (some y)]:=.of_m (up b5) rfl;have re:aK L F b2 0 [dW e]:=.of_m a6 rfl;have rg:aK L F b' 17 [dW v.group]:=.of_m (up P) rfl;have d9:Ints F v.group gr:=a9.mono J;have T7:eK L:=hT.sub λz o d=>up (s4 z o d)
   have fin:∀s,Dz kk (fN (pick r gr)) s->∀A M,cW L F A->lI L M A (.cells #[pF] 58 (0,0))->∃(cs:Array Value)(E:TypeId),sL M A (.cells cs E (0,0))/\0<cs.size/\∀m9,lI M m9 A (.cells (Array.mk (dW s::cs.toList.drop 1)) E (0,0))->
    ∃c:Nat×Nat×Nat×Nat×MH×PH,cEQ m5 F b' S b2 e f (G (fN (pick r gr))) c/\WG b' 0=WG c.1 0/\WG S 0=WG c.2.1 0/\WG b2 0=WG c.2.2.1 0/\WG A 0=WG c.2.2.2.1 0/\m9=c.2.2.2.2.1/\F=c.2.2.2.2.2/\True:=λs R A M u g=>by
    refine⟨_,_,⟨g.at_⟩,ay,λm9 e'=>⟨(b',S,b2,A,m9,F),?_,MT⟩⟩
    have c0:∀z o,L z=some o->m9 z=some o:=λz o d=>by
     have:z≠A:=λT=>by rw[T,u.m_]at d;cases d
     rw[e'.other z this,g.other z this];exact d
    exact⟨rfl,rfl,rfl,rfl,λz o d c'=>c0 z o (s7 z o d c'),C o7 c0,c0 _ _ a6,s,e'.at_,Y.at_ R⟩
   have e0:∀{A M},cW L F A->lI L M A (.cells #[pF] 58 (0,0))->∀z o,L z=some o->M z=some o:=fun{A M} u g z o d=>by
    have:z≠A:=λT=>by rw[T,u.m_]at d;cases d
    rw[g.other z this];exact d
   refine⟨cEQ m5 F b' S b2 e f (G (fN (pick r gr))),⟨y,rc,e,re,v.group,rg,⟨rc,e,v.group,r,gr,rfl,hv,d9,B.row r a5,d7,T7,rc,⟨re,rg,g7.get2 (λR=>⟨rc,re,rg,fin _ R⟩) (λs R=>⟨rc,re,rg,fin _ R⟩)⟩,rc,re,rg,λA M u g=>?_⟩,rc,re,rg,λA M u g=>?_⟩,?_⟩
   .have u8:=e0 u g;exact⟨.of_m (u8 _ _ a6) rfl,.of_m (u8 _ _ (up P)) rfl,(g7.keep (u8 y) (.refl _)).get2 (λR=>fin _ R A M u g) (λs R=>fin _ R A M u g)⟩
   .have u8:=e0 u g;have e5:aK M F U 0 [Value.map (some y)]:=.of_m (u8 _ _ (up b5)) rfl;exact⟨e5,e,v.group,r,gr,rfl,hv,d9,B.row r a5,d7,T7.sub u8,e5,.of_m (u8 _ _ a6) rfl,.of_m (u8 _ _ (up P)) rfl,(g7.keep (u8 y) (.refl _)).get2 (λR=>fin _ R A M u g) (λs R=>fin _ R A M u g)⟩
   .rintro⟨c1,c2,c3,A,mz,hz⟩ ⟨e1,d,T,e4,a7,c4,c5,s,c6,X⟩;dsimp only at e1 d T e4 a7 c4 c5 c6⊢
    subst e1 d T e4;have e6:∀{z o},V z=some o->mz z=some o:=fun{z o} d=>a7 z o (a3 d).1 (a3 d).2;have O:=Hw QU (od:=od) n I (B.row r a5) d6;rw[<-(Y.perm _).countP_eq]at O;refine⟨s,.of_m c6 rfl,s.len,c1,A,c3,v,od,s,e,G (fN (pick r gr)),r,wd,rfl,e6 P,c6,c5,b0.mono J,X,hv,X.slen.symm,Y.sort _,λz f7=>?_,d6,v.limit,.of_m (e6 P) rfl,?_⟩
    .have:=(Y.perm _).mem_iff.1 (show z∈_ from f7);exact n.wid z (mem_filter.1 this).1
    .rw[O];have e7:v.limit=li:=hq.parts.limit_;rw[e7];refine aF (λh1=>?_) (λh1=>?_)
     .obtain⟨so,e8,c7,e9⟩:=c4.ex;refine⟨so,.of_m e8 rfl,e,.of_m c5 rfl,Kv ⟨_,a2.at_⟩ a7 e8 c7 e9 aC λm' f8 f9=>⟨rfl,f8,f++[e],f9,bf,?_⟩⟩;rw[yS,jS _ hr,if_pos (decide_eq_true h1)];exact Q.snoc hv
     .refine⟨rfl,a7,f,c4,aC,?_⟩;rw[yS,jS _ hr,if_neg bg,append_nil];exact Q
  .rintro my F-⟨rfl,a4,f,W,b7,Q⟩
   rw[f5,take_length]at Q;obtain⟨s,hb,f',g'⟩:=W.ex;refine⟨s,.of_m hb rfl,cR.row (s5.x n9 a4) J f' (λj z e=>?_) (λh' le g0=>hK s h' (J.trans le) ((Q.mono le).rows g0 (by have:=Q.len;omega)))⟩;cases d:m z with
   |none=>rfl
   |some o=>have e1:=g' j z e;rw[s5 z o d]at e1;cases e1
def ET(op:Int)(q:Query)(ls:List ct):=
 if op=2 then LH q ls else if op=3 then SL q ls else if op=4 then Xe q ls else if op=5 then SF q ls else if op=6 then U0 q ls else if op=7 then Vq q ls else if op=8 then QY q ls else if op=9 then WN q ls else HW q ls
def Qr(op:Int)(q:Query)(ls:List ct):=
 if op=2 then Jj 1 q ls else if op=3 then Mz q ls else if op=4 then MA q ls else if op=5 then Mx q ls else if op=6 then Jj 2 q ls else if op=7 then B4 q ls else if op=8 then B4 q ls else if op=9 then My q ls else EU q ls
mutual
def gQ(ls:List ct):Query->Nat->ct×Nat
 |.mk op ta w co on gr od li args,k=>if op=1 then(ls.getD k [],k+1)else(ET op (.mk op ta w co on gr od li args) (gM ls args k).1,(gM ls args k).2)
def gM(ls:List ct):db->Nat->List ct×Nat
 |[],k=>([],k)
 |q::qs,k=>((gQ ls q k).1::(gM ls qs (gQ ls q k).2).1,(gM ls qs (gQ ls q k).2).2)
end
mutual
def okQ(ls:List ct):Query->Nat->Prop
 |.mk op ta w co on gr od li args,k=>if op=1 then k<ls.length else Qr op (.mk op ta w co on gr od li args) (gM ls args k).1/\W4 ls args k
def W4(ls:List ct):db->Nat->Prop
 |[],_=>True
 |q::qs,k=>okQ ls q k/\W4 ls qs (gQ ls q k).2
end
def cEX:Vc.Spec:=λc m h K=>∃op,c=[cI op]/\(op=2->K (.val (.agg #[.func (.func 215) #[] #[]])) m h)/\(op=3->K (.val (.agg #[.func (.func 216) #[] #[]])) m h)/\(op=4->K (.val (.agg #[.func (.func 217) #[] #[]])) m h)/\(op=5->K (.val (.agg #[.func (.func 218) #[] #[]])) m h)/\(op=6->K (.val (.agg #[.func (.func 219) #[] #[]])) m h)/\
 (op=7->K (.val (.agg #[.func (.func 220) #[] #[]])) m h)/\(op=8->K (.val (.agg #[.func (.func 221) #[] #[]])) m h)/\(op=9->K (.val (.agg #[.func (.func 222) #[] #[]])) m h)/\((op≠2/\op≠3/\op≠4/\op≠5/\op≠6/\op≠7/\op≠8/\op≠9)->K (.val (.agg #[.func (.func 223) #[] #[]])) m h)
def Leaves h s ls:=bM h 1 eS (λl t=>Rows h t l) s ls
def Wb(N:Nat):Vc.Spec:=λe m h K=>∃c v q f d k,e=[cP c,aQ v]/\dO h q v/\SizeOf.sizeOf q<N/\c≠1/\m c=some (.cells #[Sl.val f,.int .i64 (k:Nat)] 174 (0,0))/\Leaves h f d/\eK m/\okQ d q k/\
 ∀g m' h',PH.le h h'->Rows h' g (gQ d q k).1->lI m m' c (.cells #[Sl.val f,.int .i64 ((gQ d q k).2:Nat)] 174 (0,0))->K (cS g) m' h'
noncomputable def bQQ(N c:Nat)(v:QV):=qD [(120,Wb N),(171,UD),(172,cEX),(215,Wj (Jj 1) LH),(216,Wj Mz SL),(217,Wj MA Xe),(218,Wj Mx SF),(219,Wj (Jj 2) U0),(220,Wj B4 Vq),(221,Wj B4 QY),(222,Wj My WN),(223,Wj EU HW)] [(7,{A:=Nat×cr×MH×PH,st:=λ⟨i,l,m,h⟩=>bY 57 59 [(0,pv c),(3,.at (.ptr 3 0)),(6,.at (.lst 33)),(35,sv v.args),(36,iv v.args.len),(37,iv i)] [(3,.cells 41 (v.enc.map .val)),(33,.lst 221 1 (l.map λx=>[x]))] m h})] [] [] [] [] false
abbrev Bh(a:cq)(b:Nat)(c:MH)(d:PH):=a (CV.val (Value.agg (Array.mk (QE b sJ)))) c d
attribute [push_cast] Bh
def bhX(op:Int)(m:MH)(h:PH)(K:cq):=
  dQ (op==2) (Bh K 215 m h) (op==3) (Bh K 216 m h) (dQ (op==4) (Bh K 217 m h) (op==5) (Bh K 218 m h) (dQ (op==6) (Bh K 219 m h) (op==7) (Bh K 220 m h) (dQ (op==8) (Bh K 221 m h) (op==9) (Bh K 222 m h) (Bh K 223 m h))))
abbrev CH a b c:=aA (cN (aG a)) (aG a<=aG a) (aA (Ah a b) (Ae (aG a)) c)
abbrev z7:=fun(x:Value)=>pD x
abbrev Io(a:Nat×cr×MH×PH):=List.map z7 a.2.1
abbrev p9(a:Nat×cr×MH×PH):=a.2.2.1
abbrev uN(a:Nat×cr×MH×PH):=a.2.2.2
abbrev FP(a:Sl->(List ct)->Prop):=∃(x:Sl)(c:List ct),a x c
abbrev wJ(a:Nat)(b:cr):=a<b.length
attribute [push_cast] CH z7 Io p9 uN FP wJ
def Un N g v m h K:=
  fC v.op 1 (∃(y:Sl),aK m h g 0 (aL y)/\∃(u:Int),aK m h g 1 (bC u)/\bK (λb o=>aA (aR y.a b o) (0<=u) (u<aG y/\∃(C:Sl),aK m h b (gH o u 1) (aL C)/\zO m h g 1 (λH=>gT (λc E=>aA (sL m g (fA c E 0)) (1<c.size) (∀(n:MH),bJ m n g (splice c.toList 1 (bC (iF (H+1)))) E->K (nW C) n h)))))) (CH v.args 8 (∃(I:Nat×cr×MH×PH->Prop)(n:Nat×cr×MH×PH->Nat),(∃(x:Nat×cr×MH×PH),aA (I x) (cX g) (aA (eP 3) (eL 33) (aA (aI v.args) (wG v) (aA (bA x.1) (fU v) (aA (bW 221 1 (tW (aG v.args) Lo)=bW 221 1 (Io x)) (bO m x.2.2) (cF h x.2.2/\True))))))/\∀(x:Nat×cr×MH×PH),I x->aY (↑x.1:Int) (aG v.args) (bK (λb o=>aA (aR v.args.a b
 o) (0<=(↑x.1:Int)) ((↑x.1:Int)<aG v.args/\∃(y:QV),aK (p9 x) (uN x) b (bL o x.1 21) y.enc/\∃(z:Nat),rB (λf q=>FP (λl A=>∃(k:Nat),aA (uJ g (cM y)=uJ z (cM f)) (dO (uN x) q f) (aA (yI q N) (mW (z=1)) (aA (x.2.2.1 z=Option.some (fA (Array.mk (kC (dW l) (gZ (↑k:Int)))) 174 0)) (Leaves (uN x) l A) (aA (eK (p9 x)) (okQ A q k) (∀(s:Sl),fD (λD d=>bS (uN x) d (Rows d s (gQ A q k).1) (bJ (p9 x) D z (kC (dW l) (gZ (↑(gQ A q k).2:Int))) 174->∃(F:Sl),lD (eY (nW s) (nW F)) (λG=>∀(B:PH),bS d B (cO B G 0 (aL F)) (qS (↑x.1:Int) (Io x) (λe=>aA (mH (Io x) (nL x.1) e) (wJ 0 e) (∃(j:Nat×cr×MH×PH),aA (I j) (n j<n x)
 (aA (cX g) j8 (aA (eL 33) (aI v.args) (aA (wG v) (iH (bE x.1 1)=bP j.1) (aA (fU v) (bW 221 1 (List.set (Io x) (nL x.1) (GS (Value.func (Fn.func 214) sJ (B5 G)) 1 e))=bW 221 1 (Io j)) (aA (bO D j.2.2) (cF B j.2.2) True)))))))))))))))))))) (∃(o:Int),aA (mG v.op o) (o=2->cK (uN x) 1 (List.map z7 x.2.1) (λs d=>∃(f:QV)(t:Sl)(q:Query),Cb (λb l=>aA (lT v s=lT f t) (dO d q f) (aA (w9 d t b l) (eK (p9 x)) (Jj 1 q l/\yA d (LH q l) K (p9 x)))))) (aA (o=3->cK (uN x) 1 (List.map z7 x.2.1) (λs d=>∃(f:QV)(t:Sl)(q:Query),Cb (λb l=>aA (lT v s=lT f t) (dO d q f) (aA (w9 d t b l) (eK (p9 x)) (Mz q l/\yA d (SL q l) K (p9
 x)))))) (o=4->cK (uN x) 1 (List.map z7 x.2.1) (λs d=>∃(f:QV)(t:Sl)(q:Query),Cb (λb l=>aA (lT v s=lT f t) (dO d q f) (aA (w9 d t b l) (eK (p9 x)) (MA q l/\yA d (Xe q l) K (p9 x)))))) (aA (o=5->cK (uN x) 1 (List.map z7 x.2.1) (λs d=>∃(f:QV)(t:Sl)(q:Query),Cb (λb l=>aA (lT v s=lT f t) (dO d q f) (aA (w9 d t b l) (eK (p9 x)) (Mx q l/\yA d (SF q l) K (p9 x)))))) (o=6->cK (uN x) 1 (List.map z7 x.2.1) (λs d=>∃(f:QV)(t:Sl)(q:Query),Cb (λb l=>aA (lT v s=lT f t) (dO d q f) (aA (w9 d t b l) (eK (p9 x)) (Jj 2 q l/\yA d (U0 q l) K (p9 x)))))) (aA (o=7->cK (uN x) 1 (List.map z7 x.2.1) (λs d=>∃(f:
 QV)(t:Sl)(q:Query),Cb (λb l=>aA (lT v s=lT f t) (dO d q f) (aA (w9 d t b l) (eK (p9 x)) (B4 q l/\yA d (Vq q l) K (p9 x)))))) (o=8->cK (uN x) 1 (List.map z7 x.2.1) (λs d=>∃(f:QV)(t:Sl)(q:Query),Cb (λb l=>aA (lT v s=lT f t) (dO d q f) (aA (w9 d t b l) (eK (p9 x)) (B4 q l/\yA d (QY q l) K (p9 x)))))) ((o=9->cK (uN x) 1 (List.map z7 x.2.1) (λs d=>∃(f:QV)(t:Sl)(q:Query),Cb (λb l=>aA (lT v s=lT f t) (dO d q f) (aA (w9 d t b l) (eK (p9 x)) (My q l/\yA d (WN q l) K (p9 x))))))/\(aA (mW (o=2)) (mW (o=3)) (aA (mW (o=4)) (mW (o=5)) (aA (mW (o=6)) (mW (o=7)) (mW (o=8)/\mW (o=9))))->cK
 (uN x) 1 (List.map z7 x.2.1) (λs d=>∃(f:QV)(t:Sl)(q:Query),Cb (λb l=>aA (lT v s=lT f t) (dO d q f) (aA (w9 d t b l) (eK (p9 x)) (EU q l/\yA d (HW q l) K (p9 x)))))))))))))
theorem ahJ:cm 172 cEX:=by
 refine jC func172 ?_;rintro c m h K ⟨op,rfl,d,f,g,j,n,o,u,y,z⟩;refine⟨dK [] [] [] [] false,rfl,aH,bhX op m h K,ax,?_⟩;exact(aD (λe=>d (bk e)) λA=>aD (λe=>f (bk e)) λB=>aD (λe=>g (bk e)) λC=>aD (λe=>j (bk e)) λD=>aD (λe=>n (bk e)) λE=>aD (λe=>o (bk e)) λF=>aD (λe=>u (bk e)) λG=>aD (λe=>y (bk e)) λH=>z ⟨bg,bg,bg,bg,bg,bg,bg,bg⟩)
theorem Ov{ls:List ct}{q:Query}:∀{a:db}{k:Nat},gM ls (a++[q]) k=((gM ls a k).1++[(gQ ls q (gM ls a k).2).1],(gQ ls q (gM ls a k).2).2)
 |[],k=>by simp[gM]
 |p::a,k=>by
  rw[cons_append,gM,Ov];simp[gM]
theorem aDJ{ls:List ct}{q:Query}{b:db}:∀{a:db}{k:Nat},W4 ls (a++q::b) k->okQ ls q (gM ls a k).2
 |[],k,h=>by rw[nil_append,W4]at h;simpa[gM]using h.1
 |p::a,k,h=>by
  rw[cons_append,W4]at h;rw[gM];exact aDJ h.2
theorem JY{ls:List ct}:∀{a:db}{k:Nat},(gM ls a k).1.length=a.length
 |[],k=>by simp[gM]
 |p::a,k=>by rw[gM];simp[JY]
theorem Yu:∀N,cm 120 (Wb N)
 |0=>by
  refine fW (fn:=Tryz.f120) (c:=eD Tryz.f120) func120 rfl az ?_;rintro a9 m h K ⟨P,v,q,W,d,k,rfl,_,hN,_⟩;omega
 |N+1=>by
  refine jC func120 ?_;rintro a9 m h K ⟨P,v,q,W,d,k,rfl,hq,hN,X,H,I,hT,C,Y⟩;refine⟨bQQ N P v,rfl,aE (Yu N) (aE aiQ (aE ahJ (aE Z7 (aE Z6 (aE Z5 (aE Z4 (aE Z3 (aE Z2 (aE Z1 (aE Z0 (aE ZZ aH))))))))))),Un N P v m h K,ax,?_⟩;dsimp only[Un,push_cast];obtain⟨op,ta,w,co,on,gr,od,li,args⟩:=q;have xq:=hq.parts;rw[gQ]at Y;rw[okQ]at C;have Z:v.op=op:=xq.op_;refine aD (λe=>?_) (λe=>?_)
  .have e:op=1:=bg
   rw[if_pos e]at C;simp only[if_pos e]at Y;have c0:=bM.slen I;obtain⟨b,o,s,ea,rd,hr⟩:=bM.at I (bn C);have r0:aK m h P 0 [dW W]:=.of_m H rfl;have r1:aK m h P 1 [gZ (k:Nat)]:=.of_m H rfl;have c4:=I.len;refine⟨W,r0,k,r1,b,o,ea,aC,aC,s,.imm rd,k,r1,_,_,⟨H⟩,ay,λm' J=>Y s m' h (.refl _) ?_ ?_⟩
   .grind
   .have e5:IntKind.i64.wrap ((k:Int)+1)=((k+1:Nat):Int):=by rw[jK aC]
    rw[e5]at J;exact J
  .have e:op≠1:=bg
   rw[if_neg e]at C;simp only[if_neg e]at Y;obtain⟨L,c1⟩:=C;have n:=xq.args_;have b':=bM.slen n;have c2:=bM.len n
   refine⟨aC,aC,aC,aC,λz=>z.1<=args.length/\PH.le h z.2.2.2/\lI m z.2.2.1 P (.cells #[Sl.val W,.int .i64 ((gM d (args.take z.1) k).2:Nat)] 174 (0,0))/\∃D:di,D.length=z.1/\z.2.1=D.map Sh++replicate (args.length-z.1) .nilFunc/\∀j b l,D[j]? =some b->(gM d (args.take z.1) k).1[j]? =some l->Su z.2.2.2 b l,λz=>args.length-z.1,
    ⟨(0,replicate args.length .nilFunc,m,h),⟨ay,.refl _,⟨by dsimp only;rw[take_zero,gM];exact H,λ_ _=>rfl⟩,[],rfl,ay,λj b l h1 _=>by rw[getElem?_nil]at h1;cases h1⟩,?_⟩,?_⟩
   .rw[show((v.args.len:Int)).toNat=args.length by omega];dsimp only;rw[map_replicate];exact MT
   .rintro⟨i,l,zm,zh⟩ ⟨hi,g,J,D,Q,hl,y⟩;dsimp only at hi g J Q hl y⊢
    have a':eK zm:=by
     obtain⟨T,fz,e1⟩:=hT;exact⟨T,fz,by rw[J.other 1 (Ne.symm X)];exact e1⟩
    refine aF (λb0=>?_) (λc5=>?_)
    .obtain⟨p,hp⟩:=fK b' b0;obtain⟨b,o,u,ea,b1,b3⟩:=bM.at (Ef.mono n g) hp;have b4:=(bm hp)
     have b6:SizeOf.sizeOf p<N:=by
      have:=sizeOf_lt_of_mem (bo hp)
      grind
     have a8:args=args.take i++p::args.drop (i+1):=by
      have A:args[i]=p:=(List.getElem?_eq_some_iff.1 hp).2;rw[<-A,getElem_cons_drop b4,take_append_drop]
     have a0:okQ d p (gM d (args.take i) k).2:=aDJ (b:=args.drop (i+1)) bg
     have a1:gM d (args.take (i+1)) k=((gM d (args.take i) k).1++[(gQ d p (gM d (args.take i) k).2).1],(gQ d p (gM d (args.take i) k).2).2):=by
      rw[cd,hp,Option.toList_some,Ov]
     refine⟨b,o,ea,aC,aC,u,.imm b1,P,u,p,W,d,(gM d (args.take i) k).2,rfl,b3,b6,X,J.at_,bM.mono I g (λl s hr=>bM.mono hr g λr t hv=>bQ.mono hv g),a',a0,λO m' h' B a2 a3=>⟨O,rfl,λb2 h2 M a4=>?_⟩⟩;have c6:l.length=args.length:=bg
     have b7:l[i]? =some .nilFunc:=by
      grind
     refine⟨aC,bf,[.nilFunc],by simp[b7],ay,(i+1,l.set i (Sh b2),m',h2),⟨aC,g.trans (B.trans M),?_,D++[b2],by simp[Q],?_,?_⟩,aC,?_⟩
     .dsimp only;rw[a1];exact⟨a3.at_,λb5 a5=>by rw[a3.other b5 a5,J.other b5 a5]⟩
     .grind
     .dsimp only;rw[a1];intro j b5 l5 A E;have b8:(gM d (args.take i) k).1.length=D.length:=by rw[JY,length_take];omega
      by_cases hj:j<D.length
      .rw[getElem?_append_left hj]at A;rw[getElem?_append_left aC]at E;exact(y j b5 l5 A E).mono (B.trans M)
      .rw[getElem?_append_right aC]at A;rw[getElem?_append_right aC]at E;have:j-D.length=0:=bg
       rw[this]at A;rw[b8,this]at E;simp at A E;subst A E
       obtain⟨S,U,R⟩:=(show∃S,dH h' O 1 (S.map eS)/\fE h' S _ from by
        obtain⟨S,U,R,V⟩:=a2.ex;exact⟨S,U,R.symm,V⟩)
       exact⟨S,⟨O,a4,U.mono M,by have V:=a2.len;rw[R.len];exact V⟩,R.mono M⟩
     .dsimp only;rw[jK aC]
      have e9:((l.map λx=>[x]).set ((i:Int)).toNat (Sh b2::List.drop 1 [.nilFunc]))=(l.set i (Sh b2)).map λx=>[x]:=by
       rw[map_set];rfl
      exact⟨MT,rfl,rfl,rfl,rfl,rfl,rfl,by rw[<-e9];rfl,rfl,rfl,trivial⟩
    .have b9:i=args.length:=by omega
     subst b9;rw[take_length]at J y;rw[Nat.sub_self,replicate_zero,append_nil]at hl
     have fin:∀{okF:Query->List ct->Prop}{f:Query->List ct->ct},okF (.mk op ta w co on gr od li args) (gM d args k).1->ET op (.mk op ta w co on gr od li args) (gM d args k).1=f (.mk op ta w co on gr od li args) (gM d args k).1->∀(s:Sl)(h':PH),zh.le h'->dH h' s 1 (l.map λx=>[x])->
      ∃(v1:QV)(t:Sl)(q:Query)(D:di)(d:List ct),[aQ v,cS s]=[aQ v1,cS t]/\dO h' q v1/\w9 h' t D d/\eK zm/\okF q d/\∀(O:Sl)(F:PH),h'.le F->Rows F O (f q d)->K (cS O) zm F:=fun{okF f} h1 h2 s h' B a6=>by
      refine⟨v,s,_,D,_,rfl,hq.mono (g.trans B),⟨?_,by rw[JY];exact Q,λj b l5 A E=>(y j b l5 A E).mono B⟩,a',h1,λO c' a7 hr=>Y O zm c' (g.trans (B.trans a7)) bg J⟩;rw[hl,map_map]at a6;exact a6
     have c3:=L;refine⟨op,by rw[Z],λG=>fin (okF:=Jj 1) ?_ ?_,λG=>fin (okF:=Mz) ?_ ?_,λG=>fin (okF:=MA) ?_ ?_,λG=>fin (okF:=Mx) ?_ ?_,λG=>fin (okF:=Jj 2) ?_ ?_,λG=>fin (okF:=B4) ?_ ?_,λG=>fin (okF:=B4) ?_ ?_,λG=>fin (okF:=My) ?_ ?_,λG=>fin (okF:=EU) ?_ ?_⟩
     all_goals first
      |(subst G;exact L)
      |(subst G;rfl)
      |(obtain⟨h2,h3,h4,A,E,U,R,V⟩:=G;first|(rw[Qr,if_neg h2,if_neg h3,if_neg h4,if_neg A,if_neg E,if_neg U,if_neg R,if_neg V]at L;exact L)|(rw[ET,if_neg h2,if_neg h3,if_neg h4,if_neg A,if_neg E,if_neg U,if_neg R,if_neg V]))
def PO:Vc.Spec:=λc m h K=>∃s r,c=[cS s]/\bQ h s r/\r.length<=1000/\∀d h',PH.le h h'->bQ h' d r->K (cS d) m h'
def aOJ:Vc.Spec:=λd m h K=>∃e v c q,d=[cS e,aQ v]/\Leaves h e c/\dO h q v/\okQ c q 0/\eK m/\(gQ c q 0).1.length<=8000000/\(∀r∈(gQ c q 0).1,r.length<=1000)/\∀f h',PH.le h h'->Rows h' f (gQ c q 0).1->K (cS f) m h'
noncomputable def cmJ N:=qD [(120,Wb N),(57,PO)] [(5,{A:=Nat×cw×Sl×MH×PH,st:=λ⟨i,c,s,m,h⟩=>bY 31 33 [(7,.at (.lst 16)),(17,sv s),(18,iv s.len),(19,iv i)] [(16,.lst 65 1 (c.map eS))] m h})] [] [] [200005] [] false
def ai(a:Addr)(n c:Nat)(m:MH)(h:PH)(K:cq):=
  ∃(y:List cr),aA (gC 3 y) (dH h (Sl.mk (Option.some a) n c) 3 y) (aA (jN (0+y.length) 32) (oK (0+y.length)) (cK h 3 (Gu y) (λs d=>K (nW s) m d)))
theorem an a n c m h K:ai a n c m h K=(xH (dK [] [] [] [] false) Tryz.f57 (eD Tryz.f57) (entry Tryz.f57.ntmps [.val (.slice (some a) n c)] m h) K):=ax
def aj(n c:Nat)(m:MH)(h:PH)(K:cq):=
  K EH m h
theorem ao n c m h K:aj n c m h K=(xH (dK [] [] [] [] false) Tryz.f57 (eD Tryz.f57) (entry Tryz.f57.ntmps [.val (.slice none n c)] m h) K):=ax
abbrev Et(a:cz):=mY a.length
abbrev FZ(a:Sl)(b:Nat->Nat->Option Value)(c:Sl->PH->Prop):=pX (λx d=>aA (eY (nW a) (nW x)) (bQ b x d) (Et d/\∀(f:Sl)(e:PH),bS b e (bQ e f d) (c f e)))
attribute [push_cast] Et FZ
def XN N D v m h K:=
  ∀(b:Nat)(n:MH),bH (cW m h b) (bJ m n b (kC pF bF) 174) (gT (λc E=>aA (sL n b (fA c E 0)) (2<=c.size) (∀(f:MH),bJ n f b (bG (dW D) bF (List.drop 2 c.toList)) E->∃(g:Nat),rB (λz q=>FP (λl j=>∃(k:Nat),aA (uJ b (cM v)=uJ g (cM z)) (dO h q z) (aA (yI q N) (mW (g=1)) (aA (f g=Option.some (fA (Array.mk (kC (dW l) (gZ (↑k:Int)))) 174 0)) (Leaves h l j) (aA (eK f) (okQ j q k) (∀(s:Sl),fD (λA u=>bS h u (Rows u s (gQ j q k).1) (bJ f A g (kC (dW l) (gZ (↑(gQ j q k).2:Int))) 174->CH s 24 (Pq (λI x=>aA (I x) (eL 16) (aA (aW s (iI x)) (bN s (iI x)) (aA (bA x.1) (bW 65 1 (tW (aG s) gW)=oI 65 1 x.2.1) (aA (bO A (kF x)) (cF u (kF
 x)) True)))) (λI B x=>I x->aY (↑x.1:Int) (aG (iI x)) (bK (λC o=>aA (aR (iI x).a C o) (0<=(↑x.1:Int)) ((↑x.1:Int)<aG (iI x)/\∃(y:Sl),aK (kF x).1 (rQ x) C (bL o x.1 1) (aL y)/\FZ y (rQ x) (λF G=>qS (↑x.1:Int) (rO x) (λe=>QF (mH (rO x) (nL x.1) e) (wJ 0 e) (λd=>aA (I d) (B d<B x) (aA (eL 16) (aW (iI x) (iI d)) (aA (bN (iI x) (iI d)) (iH (bE x.1 1)=bP d.1) (aA (bW 65 1 (List.set (rO x) (nL x.1) (GS (dW F) 1 e))=oI 65 1 d.2.1) (iJ (kF x) (kF d)) (kY (cF G (kF d)))))))))))) (vU (rQ x) (rO x) K (kF x).1))))))))))))))
theorem ab:cm 57 PO:=by
 refine fW (fn:=Tryz.f57) (c:=eD Tryz.f57) func57 rfl az ?_;rintro z m h K ⟨⟨a,n,c⟩,r,rfl,f,G,g⟩;refine⟨dK [] [] [] [] false,rfl,aH,?_⟩;cases a with
 |none=>
  show xH _ Tryz.f57 (eD Tryz.f57) (entry Tryz.f57.ntmps [.val (.slice none n c)] m h) K;rw[<-ao n c m h K];dsimp only[aj,push_cast];refine g ⟨none,0,0⟩ h (.refl _) ?_;cases r with
  |nil=>exact⟨⟨[],dH.nil _ _,rfl,λi x A=>by simp at A⟩,ay⟩
  |cons x r=>
   obtain⟨b,o,v,e,_⟩:=bM.at f (i:=0) (x:=x) rfl;cases e
 |some a=>
  show xH _ Tryz.f57 (eD Tryz.f57) (entry Tryz.f57.ntmps [.val (.slice (some a) n c)] m h) K;rw[<-an a n c m h K];dsimp only[ai,push_cast];obtain⟨⟨j,B,C,D⟩,E⟩:=f;refine⟨j.map VV.enc,?_,B,bg,bg,λs h' le F=>g s h' le ⟨⟨j,bg,C,D⟩,E⟩⟩;constructor
  .intro e d;obtain⟨x,_,rfl⟩:=mem_map.1 d;rfl
  .intro e d u y;obtain⟨x,_,rfl⟩:=mem_map.1 d;simp[VV.enc]at y;rcases y with rfl|rfl|rfl<;>rfl
theorem a9Z:cm 60 aOJ:=by
 refine EY func60 ?_;rintro a0 m h K ⟨U,v,V,q,rfl,F,hq,G,W,hl,X,Y⟩;refine⟨cmJ (SizeOf.sizeOf q+1),rfl,aE (Yu _) (aE ab aH),XN (SizeOf.sizeOf q+1) U v m h (lZ h K),ax,?_⟩;dsimp only[XN,push_cast];intro b m1 H n;obtain⟨s1,Z⟩:=jB (Sub.refl m) H n;refine⟨_,_,⟨n.at_⟩,ay,λm2 y=>?_⟩;have s2:Sub m m2:=s1.upd Z y.other
 have A:b≠1:=λe=>by
  obtain⟨T,fz,I⟩:=W
  grind
 refine⟨b,v,q,U,V,0,rfl,hq,aC,A,y.at_,F,W.sub s2,G,λs J L B M O=>?_⟩;have s3:Sub m J:=s2.upd Z O.other;generalize (gQ V q 0).1=rs at hl X Y M;have a1:=bM.slen M;refine⟨aC,aC,aC,aC,λz=>z.1<=rs.length/\z.2.2.1=s/\z.2.2.2.1=J/\PH.le L z.2.2.2.2/\∃C,z.2.1=C++replicate (rs.length-z.1) ⟨none,0,0⟩/\fE z.2.2.2.2 C (rs.take z.1),λz=>rs.length-z.1,⟨(0,replicate rs.length ⟨none,0,0⟩,s,J,L),⟨ay,rfl,rfl,.refl _,[],ay,bk (fE.nil L)⟩,?_⟩,?_⟩
 .rw[show((s.len:Int)).toNat=rs.length by omega];dsimp only;rw[map_replicate];exact MT
 .rintro⟨i,d,s',m',hz⟩ ⟨hi,I,e2,c,C,g,f⟩;dsimp only at hi I e2 c g f⊢
  subst I e2;have P:=f.len;rw[length_take]at P;refine aF (λa2=>?_) (λa3=>?_)
  .have D:i<rs.length:=by omega
   obtain⟨b2,o,u,ea,rd,hv⟩:=bM.at M (bn D);have a':d.length=rs.length:=bg
   have Q:d[i]? =some ⟨none,0,0⟩:=by
    grind
   refine⟨b2,o,ea,aC,aC,u,.imm ((rd.mono c)),u,rs[i],rfl,bQ.mono hv c,X _ (getElem_mem _),λsc h5 E R=>⟨aC,bg,[pF],by rw[getElem?_map,show((i:Int)).toNat=i from rfl,Q];rfl,ay,(i+1,d.set i sc,s',m',h5),⟨aC,rfl,rfl,c.trans E,C++[sc],?_,?_⟩,aC,?_⟩⟩
   .dsimp only;rw[g,set_append,if_neg aC,append_assoc];congr 1;rw[show rs.length-i=(rs.length-(i+1))+1 by omega,replicate_succ,show i-C.length=0 by omega];rfl
   .dsimp only;rw[cd,bn D];exact(f.mono E).snoc R
   .dsimp only
    have e9:((d.map eS).set ((i:Int)).toNat (dW sc::List.drop 1 [pF]))=(d.set i sc).map eS:=by
     rw[map_set];rfl
    exact⟨MT,rfl,rfl,by rw[jK aC],by rw[<-e9],rfl,rfl,trivial⟩
  .have:i=rs.length:=by omega
   subst this;rw[Nat.sub_self,replicate_zero,append_nil]at g;subst g;rw[take_length]at f;intro s6 h6 j S;exact⟨m,h6,s3,B.trans (c.trans j),.refl _,Y s6 h6 (B.trans (c.trans j)) ((f.mono j).rows S aC)⟩
mutual
def y8(h:PH):Query->QV->Nat->dp->Prop
 |.mk _ _ _ _ _ _ _ _ args,v,d,f=>∃e c,dH h v.args 21 (e.map QV.enc)/\lH h args e (d+1) c/\f=(d,v)::c
def lH(h:PH):db->du->Nat->dp->Prop
 |[],e,_,f=>e=[]/\f=[]
 |q::qs,e,d,f=>∃v c g j,e=v::c/\dO h q v/\y8 h q v d g/\lH h qs c d j/\f=g++j
end
def cxJ(e:Nat×QV):cr:=[.int .i64 (e.1:Nat),.agg e.2.enc.toArray]
def V0(N:Nat):Vc.Spec:=λc m h K=>∃(v:QV)(q:Query)(d l f:Nat)(g xs:dp)(J:Nat->MH->PH->Prop),c=[aQ v,cI d,.val (.func (.yield l) #[] #[])]/\y8 h q v d g/\SizeOf.sizeOf q<N/\d+oZ q<=8000000/\(∀j e,g[j]? =some e->xs[f+j]? =some e)/\J f m h/\
 (∀k e m' h',xs[k]? =some e->PH.le h h'->J k m' h'->YDo Tryz.prog l (cxJ e) m' h' (λr o n=>r=true/\PH.le h' n/\J (k+1) o n))/\
 ∀m' h',PH.le h h'->J (f+g.length) m' h'->K (cB true) m' h'
noncomputable def biQ(N:Nat)(v:QV)(d l:Nat):=
 {dK [(140,V0 N)] [(4,{A:=Nat×MH×PH,st:=λ⟨i,m,h⟩=>bY 28 31 [(1,iv d),(2,vv (.func (.yield l) #[] #[])),(15,sv v.args),(16,iv v.args.len),(17,iv i)] [] m h})] [] [] false with yield:=some (bVJ Tryz.prog)}
def PK:PH->cr->List cr->Prop:=λh c xs=>∃b v q d,c=[.pointer (some ⟨b,0,none⟩)]/\cO h b 0 (QV.enc v)/\y8 h q v 1 d/\oZ q<=900000/\xs=d.map cxJ
def VZ:Vc.Spec:=λc m h K=>∃v,c=[aQ v]/\∀b h',PH.le h h'->cO h' b 0 (QV.enc v)->K (.val (.func (.func 139) #[] #[.pointer (some ⟨b,0,none⟩)])) m h'
abbrev Lp(a:Nat->(Nat×QV)->Prop):=∀(x:Nat)(c:Nat×QV),a x c
abbrev Gq(a:dp)(b:Nat)(c:Nat×QV):=a[b]? =Option.some c
attribute [push_cast] Lp Gq
def Ry(N:Nat)(v:QV)(d l:Nat)(m:MH)(h:PH)(K:cq):=
  VY Proofs.Tryz.prog (bVJ Proofs.Tryz.prog)/\Vm (λD E=>∃(R:Bool->MH->PH->Prop),aA (Cw l::gJ (↑d:Int) (cM v)=Cw D::List.map CV.val E) (YDo Proofs.Tryz.prog D E m h R) (∀(u:Bool),fD (λz A=>gS (R u z A) (!u) (K bD z A) (∃(I:Nat×MH×PH->Prop)(F:Nat×MH×PH->Nat),(∃(x:Nat×MH×PH),aA (I x) (eQ (bP d)) (aA (CM (Fn.yield l) sJ) (aI v.args) (aA (wG v) (bA x.1) (aA (bO z x.2) (cF A x.2) True))))/\∀(x:Nat×MH×PH),I x->aY (↑x.1:Int) (aG v.args) (bK (λb o=>aA (aR v.args.a b o) (0<=(↑x.1:Int)) ((↑x.1:Int)<aG v.args/\∃(y:QV),aK (qB x) (lO x) b (bL o x.1 21) y.enc/\rB (λG q=>bK (λB H=>∃(k:Nat)(e L:dp)(J:Nat->MH->PH->Prop),aA (cE y.enc (gJ (bE
 d 1) (Cw l))=cE G.enc (gJ (↑B:Int) (Cw H))) (y8 (lO x) q G B e) (aA (yI q N) (B+oZ q<=8000000) (aA (Lp (λj f=>Gq e j f->Gq L (k+j) f)) (J k (qB x) (lO x)) (Lp (λC f=>fD (λg c=>bH (Gq L C f) (PH.le (lO x) c) (J C g c->YDo Proofs.Tryz.prog H (kC (gZ (↑f.1:Int)) (Value.agg (Array.mk f.2.enc))) g c (fun(r:Bool)=>fun(O:MH)=>fun(M:PH)=>aA (iX r) (PH.le c M) (J (C+1) O M)))))/\fD (λg c=>bS (lO x) c (J (k+e.length) g c) (∃(n:Nat×MH×PH),aA (I n) (F n<F x) (aA (eQ (bP d)) (CM (Fn.yield l) sJ) (aA (aI v.args) (bI v.args) (aA (iH (bE x.1 1)=bP n.1) (bO g n.2) (kY (cF c n.2))))))))))))))) (K jF (qB x) (lO x))))))
def anJ N l z m h K:=
  ∃(y:QV),aK m h z 0 y.enc/\rB (λv q=>bK (λd o=>∃(k:Nat)(e x:dp)(J:Nat->MH->PH->Prop),aA (cE y.enc (gJ 1 (Cw l))=cE v.enc (gJ (↑d:Int) (Cw o))) (y8 h q v d e) (aA (yI q N) (d+oZ q<=8000000) (aA (Lp (λj f=>Gq e j f->Gq x (k+j) f)) (J k m h) (Lp (λn f=>fD (λg c=>bH (Gq x n f) (PH.le h c) (J n g c->YDo Proofs.Tryz.prog o (kC (gZ (↑f.1:Int)) (Value.agg (Array.mk f.2.enc))) g c (fun(r:Bool)=>fun(A:MH)=>fun(u:PH)=>aA (iX r) (PH.le c u) (J (n+1) A u)))))/\fD (λg c=>bS h c (J (k+e.length) g c) (yK K g c)))))))
def ae(v:QV)(m:MH)(h:PH)(K:cq):=
  ∀(b:Nat)(D:MH),bH (cW m h b) (bJ m D b gW 36) (∃(F:QV),lD (eY (cM v) (cM F)) (λG=>∀(o:PH),bS h o (cO o G 0 F.enc) (∃(S:PH->cr->List cr->Prop)(x:List (Int×QV))(I:Nat->MH->PH->Prop),aA (HQ Proofs.Tryz.prog 139 S) (S o (Aa G) (List.map (fun(g:Int×QV)=>kC (gZ g.1) (Value.agg (Array.mk g.2.enc))) x)) (aA (I 0 D o) (∀(k:Nat)(e:Int)(f:QV),fD (λj d=>bH (x[k]? =Option.some (e,f)) (PH.le o d) (I k j d->∀(u:Nat)(z:MH),bH (cW j d u) (bJ j z u zV 41) (gT (λc E=>aA (sL z u (fA c E 0)) (21<=c.size) (∀(n:MH),bJ z n u (vT f f (v7 f (bG (dW f.on) (yO f) (bG (yP f) (uT f) (iC (dW f.args) 21 c))))) E->zO n d u 0 (λy=>fC y 1 (∃
 (A:Sl),aK n d b 0 (aL A)/\∃(H:Int),aK n d u 1 (bC H)/\∃(g:List cr),aA (cL n (dL A) 3 1 g) (A5 g) (eA g/\jW (λs B=>gK n B (dL A) s 3 1 (dP g (bC H))->gT (λC E1=>aA (sL B b (fA C E1 0)) (0<C.size) (∀(J:MH),bJ B J b (iC (dW s) 1 C) E1->I (k+1) J d))))) (I (k+1) n d)))))))) (fD (λj d=>bS o d (I x.length j d) (∃(y:Sl),aK j d b 0 (aL y)/\K (nW y) j d)))))))
mutual
theorem y8.mono{h h':PH}(le:PH.le h h'):∀{q:Query}{v:QV}{d:Nat}{es:dp},y8 h q v d es->y8 h' q v d es
 |.mk _ _ _ _ _ _ _ _ args,v,d,es,w=>by
  rw[y8]at w⊢
  obtain⟨e,c,f,g,j⟩:=w;exact⟨e,c,f.mono le,lH.mono le g,j⟩
theorem lH.mono{h h':PH}(le:PH.le h h'):∀{c:db}{vs:du}{d:Nat}{es:dp},lH h c vs d es->lH h' c vs d es
 |[],vs,d,es,w=>by rw[lH]at w⊢;exact w
 |q::c,vs,d,es,w=>by
  rw[lH]at w⊢
  obtain⟨v,e,f,g,j,n,o,u,y⟩:=w;exact⟨v,e,f,g,j,n.mono le,y8.mono le o,lH.mono le u,y⟩
end
theorem lH.len{h:PH}:∀{c:db}{vs:du}{d:Nat}{es:dp},lH h c vs d es->vs.length=c.length
 |[],vs,d,es,w=>by rw[lH]at w;grind
 |q::c,vs,d,es,w=>by
  rw[lH]at w;obtain⟨v,e,j,n,f,o,u,g,y⟩:=w;rw[f,ci,ci,lH.len g]
mutual
theorem y8.of{h:PH}:∀{q:Query}{v:QV},dO h q v->∀d,∃es,y8 h q v d es
 |.mk _ _ _ _ _ _ _ _ args,v,e,d=>by
  obtain⟨_,_,_,_,_,_,_,_,_,g,f,c⟩:=e;obtain⟨es,j⟩:=lH.of c (d+1);exact⟨(d,v)::es,by rw[y8];grind⟩
theorem lH.of{h:PH}:∀{c:db}{vs:du},BX h c vs->∀d,∃es,lH h c vs d es
 |[],vs,e,d=>⟨[],by rw[lH];exact⟨e,rfl⟩⟩
 |q::c,vs,e,d=>by
  obtain⟨v,f,rfl,g,j⟩:=e;obtain⟨n,u⟩:=y8.of g d;obtain⟨o,y⟩:=lH.of j d;exact⟨n++o,by rw[lH];grind⟩
end
mutual
def bR:Query->cn
 |.mk op ta _ _ _ _ _ _ args=>(if op=1 then[ta]else[])++dU args
def dU:db->cn
 |[]=>[]
 |q::qs=>bR q++dU qs
end
def Df(es:dp):=(es.filter λe=>e.2.op==1).map λe=>e.2.table
theorem Mr{a b}:Df (a++b)=Df a++Df b:=by simp[Df]
mutual
theorem y8.scans{h:PH}:∀{q:Query}{v:QV}{d:Nat}{es:dp},dO h q v->y8 h q v d es->Df es=bR q
 |.mk op ta _ _ _ _ _ _ args,v,d,es,e,w=>by
  rw[y8]at w;obtain⟨j,c,n,f,rfl⟩:=w;obtain⟨g,o,_⟩:=e;rw[bR, <-lH.scans f,show((d,v)::c)=[(d,v)]++c from rfl,Mr];congr 1;simp only[Df,filter_cons,filter_nil,g]
  grind
theorem lH.scans{h:PH}:∀{c:db}{vs:du}{d:Nat}{es:dp},lH h c vs d es->Df es=dU c
 |[],vs,d,es,w=>by rw[lH]at w;rw[w.2];rfl
 |q::c,vs,d,es,w=>by
  rw[lH]at w;obtain⟨v,e,n,o,u,f,g,j,rfl⟩:=w;rw[Mr,dU,y8.scans f g,lH.scans j]
end
mutual
theorem y8.small{h:PH}:∀{q:Query}{v:QV}{d:Nat}{es:dp},y8 h q v d es->es.length<=oZ q
 |.mk op ta _ _ _ _ _ _ args,v,d,es,w=>by
  rw[y8]at w;obtain⟨f,c,g,e,rfl⟩:=w;have:=lH.small e;simp only[ci,oZ];omega
theorem lH.small{h:PH}:∀{c:db}{vs:du}{d:Nat}{es:dp},lH h c vs d es->es.length<=mD c
 |[],vs,d,es,w=>by rw[lH]at w;grind
 |q::c,vs,d,es,w=>by
  rw[lH]at w;obtain⟨v,e,j,n,o,u,f,g,rfl⟩:=w;have y:=y8.small f;have z:=lH.small g;simp only[br,mD];omega
end
theorem cyQ:∀q:Query,1<=oZ q
 |.mk _ _ _ _ _ _ _ _ _=>by rw[oZ];omega
theorem aEX:∀l:db,l.length<=mD l
 |[]=>ay
 |a::l=>by have:=aEX l;have:=cyQ a;simp only[ci,mD];omega
theorem VR:∀{l:db}{a:Query},a∈l->oZ a<=mD l
 |b::l,a,h=>by
  rw[mD];rcases mem_cons.1 h with rfl|h
  .omega
  .have:=VR h;omega
theorem Ub:∀N,cm 140 (V0 N)
 |0=>by
  refine fW (fn:=Tryz.f140) (c:=eD Tryz.f140) func140 rfl az ?_;rintro V m h K ⟨v,q,d,l,U,es,xs,J,rfl,_,hN,_⟩;omega
 |N+1=>by
  refine jC func140 ?_;rintro V m h K ⟨v,q,d,l,U,es,xs,J,rfl,hw,hN,hd,hx,h0,f,D⟩;refine⟨biQ N v d l,rfl,aE (Ub N) aH,Ry N v d l m h K,ax,?_⟩;dsimp only[Ry,push_cast];obtain⟨op,ta,w,co,on,gr,od,li,args⟩:=q;rw[y8]at hw;obtain⟨E,F,A,G,rfl⟩:=hw;simp only[Query.mk.sizeOf_spec]at hN;rw[oZ]at hd;have a':=G.len;have W:=A.len;have a0:=aEX args;rw[length_map]at W;refine⟨PR _,l,cxJ (d,v),_,rfl,f U (d,v) m h (hx 0 _ rfl) (.refl _) h0,?_⟩;rintro u m' h' ⟨rfl,H,hJ⟩;refine aD (λe=>by cases e) (λ_=>?_);refine⟨λz=>z.1<=args.length/\PH.le h z.2.2/\∃C X,F=C++X/\lH z.2.2 (args.drop z.1) (E.drop z.1) (d+1) X/\J (U+1+C.length) z.2.1 z.2.2,λz=>args.length-z.1,⟨(0,m',h'),⟨ay,H,[],F,rfl,G.mono H,hJ⟩,MT⟩,?_⟩;rintro⟨i,mz,hz⟩ ⟨hi,g,C,X,I,n,L⟩;dsimp only at hi g n L⊢
  refine aF (λa1=>?_) (λa2=>?_)
  .have B:i<args.length:=by omega
   rw[drop_eq_getElem_cons B,lH]at n;obtain⟨M,O,P,Y,Q,a3,Z,R,rfl⟩:=n
   have a4:E[i]? =some M:=by
    have:(E.drop i)[0]? =some M:=by rw[Q];rfl
    grind
   have S:O=E.drop (i+1):=by
    have:(E.drop i).drop 1=O:=by rw[Q];rfl
    rw[<-this,drop_drop]
   obtain⟨b,o,ea,rd⟩:=A.get (i:=i) (e:=M.enc) bg;have a5:=sizeOf_lt_of_mem (getElem_mem B);have a6:=VR (getElem_mem B);refine⟨b,o,ea,aC,aC,M,.imm (rd.mono g),M,args[i],d+1,l,U+1+C.length,P,xs,J,by rw[jK aC],Z,aC,aC,λj e hj=>?_,L,λk e m2 h2 hk y T=>f k e m2 h2 hk (g.trans y) T,λm2 h2 y T=>⟨(i+1,m2,h2),⟨aC,g.trans y,C++P,Y,bg,?_,?_⟩,aC,?_⟩⟩
   .have h5:=(bm hj)
    have:=hx (1+C.length+j) e (by
     grind)
    grind
   .dsimp only;rw[<-S];exact R.mono y
   .grind
   .dsimp only;rw[jK aC];exact MT
  .have:i=args.length:=by omega
   subst this;rw[drop_of_length_le (Nat.le_refl _),lH]at n;obtain⟨_,rfl⟩:=n;rw[append_nil]at I;subst I;exact D mz hz g bg
theorem Yk:cm 139 (b4J Tryz.prog PK):=by
 refine jC func139 ?_;rintro o m h K ⟨l,f,xs,J,rfl,⟨b,v,q,g,rfl,u,y,A,rfl⟩,z,c,d⟩;refine⟨dK [(140,V0 (SizeOf.sizeOf q+1))] [] [] [] false,rfl,aE (Ub _) aH,anJ (SizeOf.sizeOf q+1) l b m h K,ax,?_⟩;exact⟨v,.imm u,v,q,1,l,0,g,g,J,rfl,y,aC,aC,λj e B=>bg,z,λk e m' h' C le n=>c k (cxJ e) m' h' bg le n,λm' h' le n=>d _ m' h' le bg⟩
theorem aFQ:HQ Tryz.prog 139 PK:=⟨Yk⟩
theorem Rc:cm 74 VZ:=by
 refine Sn func74 ?_;rintro g m h K ⟨v,rfl,j⟩;refine⟨dK [] [] [] [] false,rfl,aH,XF v m h (cR h K),ax,?_⟩;dsimp only[XF,push_cast];intro b m' c d _;have sub:Sub m m':=(jB (Sub.refl m) c d).1;refine⟨m,rF h b (QV.enc v),sub,Eb c.h_,λn i o e=>?_,j b _ (Eb c.h_) aFZ⟩;by_cases f:n=b
 .subst f;simp only[rF,if_true]at e;exact .inr ⟨_,_,_,d.at_,bg,c.m_⟩
 .simp only[rF,if_neg f]at e;exact .inl e
structure bnQ(T E:TypeId)(m mx:MH)(b:Nat)(vs:cr):Prop where
 ex:∃s:Sl,mx b=some (.cells #[.slice s.a s.len s.cap] T (0,0))/\cL mx s E 1 (vs.map λv=>[v])/\∀i x,s.a=some ⟨x,i,none⟩->m x=none
theorem bnQ.new{T E}(d:m' b=some (.cells #[pF] T (0,0))):bnQ T E m m' b []:=⟨⟨none,0,0⟩,d,⟨⟨λe c=>by simp at c,λe c=>by simp at c⟩,.inl ⟨rfl,rfl⟩⟩,λi x e=>by cases e⟩
theorem btQ{T E u s vs e}{Q:MH->Prop}(c:∃o,m b=some o)(B:Ff m u b)(D:u b=some (.cells #[.slice s.a s.len s.cap] T (0,0)))(C:cL u s E 1 (vs.map λv=>[v]))(F:∀i x,s.a=some ⟨x,i,none⟩->m x=none)(G:∀m',Ff m m' b->bnQ T E m m' b (vs++[e])->Q m'):
 ∀(y:Sl)(m':MH),gK u m' (Sl.mk s.a s.len s.cap) y E 1 ((vs.map λv=>[v])++[[e]])->
  ∃(cs:Array Value)(E:TypeId),sL m' b (.cells cs E (0,0))/\0<cs.size/\∀m2:MH,lI m' m2 b (.cells (Array.mk (dW y::cs.toList.drop 1)) E (0,0))->Q m2:=by
 obtain⟨O,c⟩:=c;have z:∀i,s.a≠some ⟨b,i,none⟩:=λi d=>bg
 refineλy m' f=>⟨_,_,⟨f.other b _ D z⟩,ay,λm2 A=>G m2 ?_ ⟨y,A.at_,?_,?_⟩⟩
 .intro x o H g;rw[A.other x g];exact f.other x o (B x o H g) (λi d=>bg)
 .have I:(vs++[e]).map (λv=>[v])=vs.map (λv=>[v])++[[e]]:=ay
  rw[I];refine cL.keep f.row (λx i d=>A.other x (λJ=>?_));subst J;rcases f.fresh x i d with n|⟨j,n⟩
  .grind
  grind
 .intro i x d;rcases f.fresh x i d with n|⟨j,n⟩
  .cases L:m x with
   |none=>rfl
   |some o=>
    by_cases M:x=b
    .grind
    .rw[B x o L M]at n;cases n
  grind
theorem cR.rowG{E hx s}{vs:cr}(sub:Sub m m')(le:PH.le h hx)(C:cL m' s E 1 (vs.map λv=>[v]))(M:∀i b,s.a=some ⟨b,i,none⟩->m b=none)(o:∀h',PH.le hx h'->dH h' s 1 (vs.map λv=>[v])->K (cS s) m h'):cR h K (cS s) m' hx:=by
 intro D;rcases C.ex with⟨rfl,f⟩|⟨b,F,g,rfl,G,O,P,Q,y⟩
 .refine⟨m,hx,sub,le,λb i v e=>.inl e,o hx (.refl _) ?_⟩;rw[f];exact dH.nil _ _
 .have z:∀i,hx b i=none:=D b _ G;refine⟨m,rF hx b g.toList,sub,le.trans (Eb z),λH i v e=>?_,o _ (Eb z) ⟨?_,?_,?_⟩⟩
  .by_cases A:H=b
   .subst A;simp only[rF,if_true]at e
    grind
   .simp only[rF,if_neg A]at e;exact .inl e
  .simp
  .by_cases I:vs.map (λv=>[v])=[]
   .exact .inl I
   .refine .inr ⟨b,0,rfl,λi e d=>⟨λj v B=>?_⟩⟩;rw[getElem?_map]at d;cases c:vs[i]? with
    |none=>grind
    |some u=>
     rw[c]at d;simp at d;subst d;have J:j=0:=bg
     subst J;have B:u=v:=bg
     subst B;have L:=(bm c)
     have n:∀l:cr,(l.map λv=>[v]).flatten=l:=λl=>by
      induction l with
      |nil=>rfl
      |cons a l R=>grind
     rw[n]at y;rw[<-y,getElem?_take,length_map,if_pos aC]at c;simp only[rF,if_true]
     grind
  omega
def bZX:Vc.Spec:=λc m h K=>∃v q,c=[aQ v]/\dO h q v/\oZ q<=900000/\∀d h',PH.le h h'->Ints h' d (bR q)->K (cS d) m h'
theorem ap:cm 59 bZX:=by
 refine Jr func59 ?_;rintro a1 m h K ⟨v,q,rfl,hq,hs,hK⟩;refine⟨{qD [(74,VZ)] [] [] [] [200003,200005,1036,0] [] false with elemT:=[3,41]},rfl,aE Rc aH,ae v m h (cR h K),ax,?_⟩;show ae v m h (cR h K);dsimp only[ae,push_cast];intro b Q T A;obtain⟨s1,n1⟩:=jB (Sub.refl m) T A;refine⟨v,rfl,λbw h1 u U=>?_⟩;obtain⟨g,V⟩:=y8.of (hq.mono u) 1;have a2:=V.small;have F:=y8.scans (hq.mono u) V;refine⟨PK,g.map λe=>((e.1:Int),e.2),λk G W=>W=h1/\Ff Q G b/\bnQ 36 3 Q G b ((Df (g.take k)).map λn=>.int .i64 n),aFQ,⟨bw,v,q,g,rfl,U,V,hs,?_⟩,⟨rfl,λx o e _=>e,bnQ.new A.at_⟩,?_,?_⟩
 .rw[map_map];rfl
 .rintro k d e' G W R-⟨rfl,B,c⟩ X m2 Y H;rw[getElem?_map]at R;cases I:g[k]? with
  |none=>grind
  |some e=>
   rw[I]at R;simp only[Option.map_some,bx,Prod.mk.injEq]at R;obtain⟨rfl,rfl⟩:=R;refine⟨_,_,⟨H.at_⟩,ay,λS J=>?_⟩
   have up:∀{z o},G z=some o->S z=some o/\z≠X:=fun{z o} C=>by
    have:z≠X:=λZ=>by rw[Z,Y.m_]at C;cases C
    exact⟨by rw[J.other z this,H.other z this];exact C,this⟩
   have L:S X=some (.cells ⟨e.2.enc⟩ 41 (0,0)):=J.at_;have M:Ff Q S b:=λx o C a'=>(up (B x o C a')).1
   have D:bnQ 36 3 Q S b ((Df (g.take k)).map λn=>.int .i64 n):=by
    obtain⟨s,h5,h6,h7⟩:=c.ex;refine⟨s,(up h5).1,cL.keep h6 λz i Z=>?_,h7⟩;obtain⟨a3,h8⟩:=h6.blk Z
    grind
   have a4:Df (g.take (k+1))=Df (g.take k)++(if e.2.op==1 then[e.2.table]else[]):=by
    rw[cd,I,Option.toList_some,Mr];congr 1;simp only[Df,filter_cons,filter_nil];split<;>rfl
   refine⟨e.2.op,.of_m L rfl,aD (λh5=>?_) (λh5=>⟨rfl,M,bg⟩)⟩;obtain⟨s,y,f,E⟩:=D.ex
   have O:(Df (g.take k)).length<=g.length:=by
    simp only[Df,length_map]
    grind
   refine⟨s,.of_m y rfl,e.2.table,.of_m L rfl,_,f,bf,bf,btQ ⟨_,A.at_⟩ M y f E λm' a0 a5=>⟨rfl,a0,?_⟩⟩
   grind
 .rintro G W-⟨rfl,B,c⟩
  rw[length_map,take_length,F]at c;obtain⟨s,y,f,E⟩:=c.ex
  have O:(bR q).length<=g.length:=by
   rw[<-F];simp only[Df,length_map]
   grind
  refine⟨s,.of_m y rfl,cR.rowG (s1.x n1 B) u f (λj z e=>?_) (λh' le P=>hK s h' (u.trans le) ⟨by rw[map_map]at P;exact P,aC⟩)⟩;cases C:m z with
  |none=>rfl
  |some o=>have e1:=E j z e;rw[s1 z o C]at e1;cases e1
structure Ci(s:jZ)(c:Nat)(ls:List ct)(k:Nat)(ts:cn):Prop where
 at_:∀(j:Nat)(t:Int),ts[j]? =some t->∃l,ls[k+j]? =some l/\iV (kH s t).length l/\l.length<=c
theorem Ci.left{c k ls b}(x:Ci s c ls k (a++b)):Ci s c ls k a:=
 ⟨λj t h=>x.at_ j t bg⟩
theorem Ci.right{c k ls b}(x:Ci s c ls k (a++b)):Ci s c ls (k+a.length) b:=
 ⟨λj t h=>by
  have:=x.at_ (a.length+j) t bg
  grind⟩
theorem yR{op w on args ks}(h:aJ s ps (.mk op ta w co on gr od li args)=(ks,0)):
 ∃c,fX s ps args=(c,0)/\(c.length:Int)=arity op/\eZ s ps (.mk op ta w co on gr od li args) (c.getD 0 []) (c.getD 1 [])=(ks,0):=by
 rw[aJ]at h;generalize fX s ps args=r at h;obtain⟨c,e⟩:=r;dsimp only at h;split at h
 .rename_i d;subst d;split at h
  .grind
  .simp[eJ]at h
 .rename_i d;simp only[eJ,Prod.mk.injEq]at h;omega
theorem qW{q e d}(h:fX s ps (q::e)=(d,0)):∃k c,aJ s ps q=(k,0)/\fX s ps e=(c,0)/\d=k::c:=by
 rw[fX]at h
 grind
theorem xE{ks}(h:nO l=(ks,0)):ks=l/\l.length<=12:=by
 unfold nO at h
 grind
theorem RO{op}(h:arity op=0):op=1:=by
 unfold arity at h
 grind
mutual
theorem YL{s:jZ}{ps:cn}{c:Nat}(f:1<=c):∀{q:Query}{ks:cn},aJ s ps q=(ks,0)->1<=iD c q
 |.mk op ta w co on gr od li args,ks,h=>by
  obtain⟨j,d,g,o⟩:=yR h;have e:=avX f d;rw[iD];split
  .exact f
  .rename_i n;split
   .exact e.1
   .match args,d,e with
    |[],d,_=>rw[fX]at d;simp only[Prod.mk.injEq,and_true]at d;rw[<-d]at g;exact absurd (RO g.symm) n
    |q::qs,d,e=>grind
theorem avX{s:jZ}{ps:cn}{c:Nat}(f:1<=c):∀{e:db}{d:List cn},fX s ps e=(d,0)->1<=yG c e/\(e≠[]->1<=wM c e)
 |[],d,h=>by simp[yG]
 |q::e,d,h=>by
  obtain⟨k,g,j,n,y⟩:=qW h;have o:=YL f j;have u:=avX f n;rw[yG,wM];exact⟨Nat.mul_pos o u.1,λ_=>by omega⟩
end
def UT(c:Nat):db->List cn->List ct->Prop
 |[],[],[]=>True
 |q::qs,k::ks,l::ls=>iV k.length l/\l.length<=iD c q/\UT c qs ks ls
 |_,_,_=>False
theorem Vv{α:Type}:∀{l:List α},l.length=2->∃a b,l=[a,b]
 |[a,b],_=>⟨a,b,rfl⟩
theorem UT.len{c d ls}(h:UT c d ks ls):d.length=ks.length/\ls.length=ks.length:=by
 induction d generalizing ks ls with
 |nil=>
  match ks,ls,h with
  |[],[],_=>omega
  |_::_,[],h=>exact h.elim
  |[],_::_,h=>exact h.elim
  |_::_,_::_,h=>exact h.elim
 |cons q d e=>
  match ks,ls,h with
  |[],[],h=>exact h.elim
  |_::_,[],h=>exact h.elim
  |[],_::_,h=>exact h.elim
  |k::ks,l::ls,h=>
   obtain⟨f,g⟩:=e h.2.2
   grind
theorem iV.filter{w l}(x:iV w l) p:iV w (l.filter p):=
 ⟨λr h=>x.row r (mem_filter.1 h).1,λr h=>x.wid r (mem_filter.1 h).1,x.srt.filter p,cj (length_filter_le _ _) x.len⟩
theorem Xg(x:cz):∀l:ct,(MP x l).length<=l.length+1
 |[]=>by simp[MP]
 |y::l=>by
  have:=Xg x l;simp only[MP]
  grind
theorem Kk:∀l:ct,(Fp l).length<=l.length
 |[]=>by simp[Fp]
 |x::l=>by
  have c:=Kk l;have d:=Xg x (Fp l);show(MP x (Fp l)).length<=(x::l).length
  grind
theorem iV.set{w l}(c:∀r∈l,OS r)(d:∀r∈l,r.length=w)(e:l.length<=8000000):iV w (Fp l):=
 ⟨λr h=>c r (Da.1 h),λr h=>d r (Da.1 h),Hd l,cj (Kk l) e⟩
theorem L1:∀{x y u v:cz},x.length=y.length->fG (x++u) (y++v)=if fG x y≠0 then fG x y else fG u v
 |[],[],u,v,_=>by simp[fG]
 |a::x,b::y,u,v,h=>by
  simp only[ci,Nat.add_right_cancel_iff]at h;simp only[cons_append,fG];by_cases e:pN a b=0
  .simp only[e,ne_eq,not_true_eq_false,if_false];exact L1 h
  .simp[e]
 |[],_::_,_,_,h=>by simp at h
 |_::_,[],_,_,h=>by simp at h
theorem Ea{on b x z}(h:z∈kQ on b x):∃y∈b,z=x++y:=by
 unfold kQ at h
 grind
theorem iV.join{w w' a b on}(d:iV w a)(g:iV w' b)(A:w+w'<=12)(j:a.length*b.length<=8000000):iV (w+w') (a.flatMap (kQ on b)):=by
 refine⟨λr h=>?_,λr h=>?_,?_,cj (vE λx _=>yW) j⟩
 .obtain⟨x,c,h⟩:=mem_flatMap.1 h;obtain⟨y,e,rfl⟩:=Ea h;have B:=d.wid x c;have C:=g.wid y e;refine⟨bg,λv f=>?_⟩;rcases mem_append.1 f with f|f
  .exact(d.row x c).val v f
  .exact(g.row y e).val v f
 .obtain⟨x,c,h⟩:=mem_flatMap.1 h;obtain⟨y,e,rfl⟩:=Ea h;rw[br,d.wid x c,g.wid y e]
 .refine pairwise_flatMap.2 ⟨λx c=>?_,?_⟩
  .unfold kQ;split
   .refine pairwise_map.2 ((g.srt.filter _).imp fun{y z} h=>?_);rw[L1 rfl,if_neg (by rw[lG.2 rfl];simp)];exact h
   .exact List.Pairwise.nil
  .refine d.srt.imp_of_mem fun{x y} c e h z n u o=>?_;obtain⟨D,_,rfl⟩:=Ea n;obtain⟨E,_,rfl⟩:=Ea o;rw[L1 (by rw[d.wid x c,d.wid y e]),if_pos aC];exact h
theorem Vz{c}(h:C0 a c=true):0<=c/\c<a.length:=by
 simp only[C0,bz,ce]at h;exact h
theorem LD{α}{T:List α->α->Prop}{l}(h:Good T l){x}(hx:x∈l):∃c,T c x:=by
 obtain⟨i,d,e⟩:=mem_iff_getElem.1 hx;exact⟨_,h i x bg⟩
theorem Kw:∀(n:Nat)(l:cn),l.Nodup->(∀x∈l,0<=x/\x<n)->l.length<=n
 |0,[],_,_=>ay
 |0,x::l,_,h=>by have:=h x (mem_cons_self ..);omega
 |n+1,l,c,h=>by
  by_cases e:(n:Int)∈l
  .have f:=Kw n (l.erase n) (c.erase _) (λx d=>by
    grind)
   grind
  .have:=Kw n l c (λx d=>by
    grind)
   omega
theorem Q3{α T l}(f:α->Int)(d:∀c x,T c x->f x∉c.map f)(h:Good T l):(l.map f).Nodup:=by
 rw[nodup_iff_pairwise_ne,pairwise_map,pairwise_iff_getElem];intro i j o g n e;refine d _ _ (h j l[j] (bn g)) (mem_map.2 ⟨l[i],?_,e⟩);rw[mem_take_iff_getElem]
 grind
theorem Q1(h:Good (GN a) gr)(j:a.length<=12):jY a.length gr:=by
 have f:∀c∈gr,0<=c/\c<a.length:=λc g=>by obtain⟨_,d⟩:=LD h g;exact Vz d.1
 have d:=Q3 id (λe x(h:GN a e x)=>bk h.2) h;rw[map_id]at d;exact⟨f,by have:=Kw _ _ d f;omega⟩
theorem SO{b on}(h:Good (oB a b) on)(B:a.length<=12)(C:b.length<=12):jY a.length (jG on)/\jY b.length (eG on):=by
 have n:∀c∈jG on,0<=c/\c<a.length:=λc f=>by
  obtain⟨p,g,rfl⟩:=mem_map.1 f;obtain⟨_,d⟩:=LD h g;exact Vz d.1
 have d:∀c∈eG on,0<=c/\c<b.length:=λc f=>by
  obtain⟨p,g,rfl⟩:=mem_map.1 f;obtain⟨_,d⟩:=LD h g;exact Vz d.2.1
 have o:(jG on).Nodup:=Q3 Prod.fst (λj x(h:oB a b j x) u=>by
  obtain⟨y,z,e⟩:=mem_map.1 u;exact(h.2.2.2 y z).1 e) h
 have A:=Kw _ _ o n;exact⟨⟨n,aC⟩,⟨d,by simp only[jG,eG,length_map]at A⊢;omega⟩⟩
theorem WX{w r}(c:OS r)(e:r.length=w)(f:jY w co)(d:co.length<=12):OS (pick r co)/\(pick r co).length=co.length:=
 ⟨⟨by simpa[pick]using d,Ks c bg⟩,by simp[pick]⟩
theorem Ke{c q p}:wM c [q,p]=iD c q+iD c p:=by simp[wM]
theorem U4{c q}:wM c [q]=iD c q:=by simp[wM]
theorem bsQ{c q p}:yG c [q,p]=iD c q*iD c p:=by simp[yG]
theorem ccJ{c op w on args ks u L}(P:op≠1)(O:(u.length:Int)=arity op)(G:∀k∈u,k.length<=12)(f:eZ s ps (.mk op ta w co on gr od li args) (u.getD 0 []) (u.getD 1 [])=(ks,0))(E:UT c args u L)(n:iD c (.mk op ta w co on gr od li args)<=8000000):
 Qr op (.mk op ta w co on gr od li args) L/\iV ks.length (ET op (.mk op ta w co on gr od li args) L)/\(ET op (.mk op ta w co on gr od li args) L).length<=iD c (.mk op ta w co on gr od li args):=by
 rw[iD,if_neg P]at n⊢
 unfold eZ at f;dsimp only at f;split at f
 .simp[eJ]at f
 have one:arity op=1->∃q k l,args=[q]/\u=[k]/\L=[l]/\iV k.length l/\l.length<=iD c q/\k.length<=12:=λe=>by
  obtain⟨Q,R⟩:=E.len;obtain⟨k,rfl⟩:=length_eq_one_iff.1 (show u.length=1 by omega);obtain⟨q,rfl⟩:=length_eq_one_iff.1 (show args.length=1 by omega);obtain⟨l,rfl⟩:=length_eq_one_iff.1 (show L.length=1 by omega);exact⟨q,k,l,rfl,rfl,rfl,E.1,E.2.1,G k ay⟩
 have two:arity op=2->∃q p k y l B,args=[q,p]/\u=[k,y]/\L=[l,B]/\iV k.length l/\l.length<=iD c q/\iV y.length B/\B.length<=iD c p/\k.length<=12/\y.length<=12:=λe=>by
  obtain⟨Q,R⟩:=E.len;obtain⟨k,y,rfl⟩:=Vv (show u.length=2 by omega);obtain⟨q,p,rfl⟩:=Vv (show args.length=2 by omega);obtain⟨l,B,rfl⟩:=Vv (show L.length=2 by omega);exact⟨q,p,k,y,l,B,rfl,rfl,rfl,E.1,E.2.1,E.2.2.1,E.2.2.2.1,G k ay,G y ay⟩
 have S:op=2\/op=3\/op=9\/op=4\/op=5\/op=6\/op=7\/op=8\/op=10:=by
  have:0<=arity op:=by omega
  unfold arity at this
  grind
 rcases S with rfl|rfl|rfl|rfl|rfl|rfl|rfl|rfl|rfl
 .obtain⟨q,k,l,rfl,rfl,rfl,j,F,C⟩:=one rfl;simp only[show((2:Int)=4)=False by decide,if_false,if_true]at f n⊢
  split at f
  .obtain⟨rfl,_⟩:=xE f;refine⟨⟨ay,λx z=>bg⟩,j.filter _,cj (length_filter_le _ _) ?_⟩;rw[U4];exact F
  .rename_i e;simp only[eJ,Prod.mk.injEq]at f;omega
 .obtain⟨q,k,l,rfl,rfl,rfl,j,F,C⟩:=one rfl;simp only[show((3:Int)=4)=False by decide,show((3:Int)=2)=False by decide,if_false,if_true]at f n⊢
  split at f
  .rename_i g;obtain⟨rfl,d⟩:=xE f;rw[length_map]at d⊢
   have A:jY k.length co:=⟨λc A=>by obtain⟨_,O⟩:=LD g.2 A;exact Vz O,aC⟩
   rw[U4]at n⊢
   refine⟨⟨ay,d,_,j,A⟩,iV.set (λr h=>?_) (λr h=>?_) bg,cj (Kk _) bg⟩
   .obtain⟨x,z,rfl⟩:=mem_map.1 h;exact(WX (j.row x z) (j.wid x z) A d).1
   .obtain⟨x,z,rfl⟩:=mem_map.1 h;exact(WX (j.row x z) (j.wid x z) A d).2
  .simp[eJ]at f
 .obtain⟨q,k,l,rfl,rfl,rfl,j,F,C⟩:=one rfl;simp only[show((9:Int)=4)=False by decide,show((9:Int)=2)=False by decide,show((9:Int)=3)=False by decide,show((9:Int)=5)=False by decide,if_false,if_true]at f n⊢
  split at f
  .rename_i g;obtain⟨rfl,d⟩:=xE f;rw[U4]at n⊢
   exact⟨⟨ay,⟨_,j,Q1 g.group_ C⟩,g.low⟩,j.filter _,cj (length_filter_le _ _) F⟩
  .simp[eJ]at f
 .obtain⟨q,p,k,y,l,B,rfl,rfl,rfl,j,F,o,H,C,D⟩:=two rfl;simp only[show((4:Int)=2)=False by decide,show((4:Int)=3)=False by decide,if_false,if_true]at f n⊢
  split at f
  .rename_i g;obtain⟨rfl,d⟩:=xE f;rw[bsQ]at n⊢
   have A:=SO g C D;have J:l.length*B.length<=iD c q*iD c p:=Nat.mul_le_mul F H;rw[br]at d⊢
   exact⟨⟨⟨ay,_,_,j,o,A.1,A.2⟩,cj J n⟩,j.join o d (cj J n),cj (vE λx _=>yW) J⟩
  .simp[eJ]at f
 .obtain⟨q,p,k,y,l,B,rfl,rfl,rfl,j,F,o,H,C,D⟩:=two rfl;simp only[show((5:Int)=2)=False by decide,show((5:Int)=3)=False by decide,show((5:Int)=4)=False by decide,if_false,if_true]at f n⊢
  split at f
  .rename_i g;obtain⟨rfl,d⟩:=xE f;rw[Ke]at n⊢
   have A:=SO g C D;exact⟨⟨ay,_,_,j,o,A.1,A.2⟩,j.filter _,cj (length_filter_le _ _) bg⟩
  .simp[eJ]at f
 all_goals
  obtain⟨q,p,k,y,l,B,rfl,rfl,rfl,j,F,o,H,C,D⟩:=two rfl
 .simp only[show((6:Int)=2)=False by decide,show((6:Int)=3)=False by decide,show((6:Int)=4)=False by decide,show((6:Int)=5)=False by decide,show((6:Int)=9)=False by decide,show((6:Int)=10)=False by decide,if_false,if_true]at f n⊢
  split at f
  .rename_i g;have g:k=y:=g;subst g;obtain⟨rfl,d⟩:=xE f;rw[Ke]at n⊢
   have I:(l++B).length<=iD c q+iD c p:=bg
   refine⟨⟨ay,λx z=>bg⟩,iV.set (λr h=>?_) (λr h=>?_) (cj I n),cj (Kk _) I⟩
   .rcases mem_append.1 h with h|h
    .exact j.row r h
    .exact o.row r h
   .rcases mem_append.1 h with h|h
    .exact j.wid r h
    .exact o.wid r h
  .simp[eJ]at f
 .simp only[show((7:Int)=2)=False by decide,show((7:Int)=3)=False by decide,show((7:Int)=4)=False by decide,show((7:Int)=5)=False by decide,show((7:Int)=9)=False by decide,show((7:Int)=10)=False by decide,if_false,if_true]at f n⊢
  split at f
  .rename_i g;have g:k=y:=g;subst g;obtain⟨rfl,d⟩:=xE f;rw[Ke]at n⊢
   exact⟨⟨ay,_,λx z=>by simp at z;rcases z with rfl|rfl;exact j;exact o⟩,j.filter _,cj (length_filter_le _ _) bg⟩
  .simp[eJ]at f
 .simp only[show((8:Int)=2)=False by decide,show((8:Int)=3)=False by decide,show((8:Int)=4)=False by decide,show((8:Int)=5)=False by decide,show((8:Int)=9)=False by decide,show((8:Int)=10)=False by decide,if_false,if_true]at f n⊢
  split at f
  .rename_i g;have g:k=y:=g;subst g;obtain⟨rfl,d⟩:=xE f;rw[Ke]at n⊢
   exact⟨⟨ay,_,λx z=>by simp at z;rcases z with rfl|rfl;exact j;exact o⟩,j.filter _,cj (length_filter_le _ _) bg⟩
  .simp[eJ]at f
 .simp only[show((10:Int)=2)=False by decide,show((10:Int)=3)=False by decide,show((10:Int)=4)=False by decide,show((10:Int)=5)=False by decide,show((10:Int)=9)=False by decide,if_false,if_true]at f n⊢
  split at f
  .rename_i g;obtain⟨g,M⟩:=g;have g:k=y:=g;subst g;obtain⟨rfl,d⟩:=xE f;rw[Ke]at n⊢
   exact⟨⟨ay,_,j,o,Q1 M.group_ C⟩,j.filter _,cj (length_filter_le _ _) bg⟩
  .simp[eJ]at f
theorem L4{s:jZ}{ps:cn}{c:Nat}(g:1<=c):∀{d:db}{e:List cn},fX s ps d=(e,0)->∀q∈d,iD c q<=wM c d/\iD c q<=yG c d
 |[],_,_,q,f=>by simp at f
 |p::d,e,h,q,f=>by
  obtain⟨k,j,o,n,z⟩:=qW h;have u:=YL g o;have y:=(avX g n).1;rw[wM,yG];rcases mem_cons.1 f with rfl|f
  .exact⟨aC,Nat.le_mul_of_pos_right _ y⟩
  .have:=L4 g n q f;exact⟨aC,cj this.2 (Nat.le_mul_of_pos_left _ u)⟩
theorem QS{s:jZ}{ps:cn}:∀{e:db}{c:List cn},fX s ps e=(c,0)->∀k∈c,k.length<=12
 |[],c,h,k,d=>by rw[fX]at h;grind
 |q::e,c,h,k,d=>by
  obtain⟨j,f,n,g,rfl⟩:=qW h;rcases mem_cons.1 d with rfl|d
  .have:=lY s ps q;grind
  .exact QS g k d
structure c2X(c:Nat)(ls:List ct)(q:Query)(k:Nat)(ks:cn):Prop where
 ok:okQ ls q k
 rel:iV ks.length (gQ ls q k).1
 bnd:(gQ ls q k).1.length<=iD c q
 nxt:(gQ ls q k).2=k+(bR q).length
mutual
theorem LM{s:jZ}{ps:cn}{c:Nat}{ls:List ct}(o:1<=c):∀{q:Query}{ks:cn}{k:Nat},aJ s ps q=(ks,0)->Ci s c ls k (bR q)->iD c q<=8000000->c2X c ls q k ks
 |.mk op ta w co on gr od li args,ks,k,h,f,u=>by
  obtain⟨B,g,y,d⟩:=yR h;by_cases e:op=1
  .subst e
   have C:args=[]:=by
    cases args with
    |nil=>rfl
    |cons q G=>obtain⟨_,_,_,_,rfl⟩:=qW g;simp[arity]at y;omega
   subst C;have j:bR (.mk 1 ta w co on gr od li [])=[ta]:=by simp[bR,dU]
   unfold eZ at d;dsimp only at d;split at d
   .simp[eJ]at d
   try rw[if_pos rfl]at d
   split at d
   .obtain⟨rfl,_⟩:=xE d;rw[j]at f;obtain⟨l,z,H,D⟩:=f.at_ 0 ta rfl;rw[Nat.add_zero]at z;have A:(gQ ls (.mk 1 ta w co on gr od li []) k)=(l,k+1):=by rw[gQ,if_pos rfl,getD_eq_getElem?_getD,z];rfl
    refine⟨by rw[okQ,if_pos rfl];grind,bg,by rw[A,iD,if_pos rfl];exact D,bg⟩
   .simp[eJ]at d
  .have j:bR (.mk op ta w co on gr od li args)=dU args:=by simp[bR,e]
   rw[j]at f
   have n:∀q∈args,iD c q<=8000000:=λq E=>by
    have I:=L4 o g q E;rw[iD,if_neg e]at u
    grind
   obtain⟨J,F,L⟩:=Ut o g f n;obtain⟨M,O,P⟩:=ccJ e y (QS g) d F u;have A:gQ ls (.mk op ta w co on gr od li args) k=(ET op (.mk op ta w co on gr od li args) (gM ls args k).1,(gM ls args k).2):=by rw[gQ,if_neg e]
   exact⟨by rw[okQ,if_neg e];grind,bg,bg,bg⟩
theorem Ut{s:jZ}{ps:cn}{c:Nat}{ls:List ct}(n:1<=c):∀{d:db}{e:List cn}{k:Nat},fX s ps d=(e,0)->Ci s c ls k (dU d)->(∀q∈d,iD c q<=8000000)->W4 ls d k/\UT c d e (gM ls d k).1/\(gM ls d k).2=k+(dU d).length
 |[],e,k,h,_,_=>by
  rw[fX]at h;simp only[Prod.mk.injEq,and_true]at h;subst h;simp[W4,gM,UT,dU]
 |q::d,e,k,h,j,o=>by
  obtain⟨B,u,y,z,rfl⟩:=qW h;rw[dU]at j;have f:=LM n y j.left (o q (mem_cons_self ..));have g:=Ut n z j.right (λp A=>o p (mem_cons_of_mem _ A));rw[<-f.nxt]at g;rw[W4,gM,dU];refine⟨⟨f.ok,g.1⟩,⟨f.rel,f.bnd,g.2.1⟩,?_⟩;rw[g.2.2,f.nxt,br];omega
end
structure Cf(m:MH)(tb:Nat)(ws:List cZ):Prop where
 ex:∃cur:Array Value,m tb=some (.cells cur 73 (0,0))/\cur.toList.take (ws.length*5)=(ws.map cZ.enc).flatten
def aRQ:Vc.Spec:=λd m h K=>∃e g n f j w c,∃t:Nat,d=[aS ⟨e,⟨some ⟨g,0,none⟩,n,f⟩⟩,cI t]/\t<n/\Cf m g j/\j[t]? =some w/\G6 h w.columns c/\c.length<=8/\
 ∀o h',PH.le h h'->Ints h' o (c.map qE.kind)->K (cS o) m h'
noncomputable def cpJ cb:=
 qD [(19,Mb),(25,UR),(72,aTX),(45,aRQ),(27,GK)] [] [(5,{A:=Int×Int×MH×PH,st:=λ⟨n,id,m,h⟩=>bY 86 87 [(0,pv cb),(2,.at (.ptr 2 0)),(3,iv n),(4,iv id)] [(2,.cells 27 [.val (.int .i64 0),.val (.slice none 0 0)])] m h}),
  (9,{A:=Int×bT×MH×PH,st:=λ⟨n,s,m,h⟩=>bY 86 87 [(0,pv cb),(2,.at (.ptr 2 0)),(3,iv n),(5,.at (.ptr 5 0))] [(2,.cells 27 [.val (.int .i64 0),.val (.slice none 0 0)]),(5,.cells 27 (s.enc.map .val))] m h}),
  (11,{A:=Int×bT×MH×PH,st:=λ⟨n,s,m,h⟩=>bY 86 87 [(0,pv cb),(2,.at (.ptr 2 0)),(3,iv n),(5,.at (.ptr 5 0))] [(2,.cells 27 [.val (.int .i64 0),.val (.slice none 0 0)]),(5,.cells 27 (s.enc.map .val))] m h}),
  (13,{A:=bT×MH×PH,st:=λ⟨s,m,h⟩=>bY 86 87 [(0,pv cb),(2,.at (.ptr 2 0)),(5,.at (.ptr 5 0))] [(2,.cells 27 [.val (.int .i64 0),.val (.slice none 0 0)]),(5,.cells 27 (s.enc.map .val))] m h}),
  (15,{A:=bT×MH×PH,st:=λ⟨s,m,h⟩=>bY 86 87 [(2,.at (.ptr 2 0)),(5,.at (.ptr 5 0))] [(2,.cells 27 [.val (.int .i64 0),.val (.slice none 0 0)]),(5,.cells 27 (s.enc.map .val))] m h})] [] [25] [] false
def vL(id:Int):List AE:=
 [⟨⟨⟨[112,114,111,106,101,99,116,115]⟩⟩,[⟨⟨⟨[105,100]⟩⟩,4⟩,⟨⟨⟨[111,119,110,101,114]⟩⟩,4⟩],1,[],[]⟩,
  ⟨⟨⟨[116,97,115,107,115]⟩⟩,[⟨⟨⟨[105,100]⟩⟩,id⟩,⟨⟨⟨[112,114,111,106,101,99,116]⟩⟩,4⟩,⟨⟨⟨[116,105,116,108,101]⟩⟩,5⟩,⟨⟨⟨[100,111,110,101]⟩⟩,3⟩],1,[],[]⟩,
  ⟨⟨⟨[109,101,109,98,101,114,115]⟩⟩,[⟨⟨⟨[112,114,111,106,101,99,116]⟩⟩,4⟩,⟨⟨⟨[112,101,114,115,111,110]⟩⟩,4⟩],2,[],[]⟩,
  ⟨⟨⟨[97,114,99,104,105,118,101,100]⟩⟩,[⟨⟨⟨[116,97,115,107]⟩⟩,id⟩],1,[],[]⟩]
structure PL(h:PH)(t:AE)(w:cZ):Prop where
 name_:w.name=t.name
 key_:w.key=t.key
 cols_:G6 h w.columns t.columns
def awQ(h:PH)(id:Int)(ws:List cZ):=ws.length=4/\∀(i:Nat) t,(vL id)[i]? =some t->∃w,ws[i]? =some w/\PL h t w
structure Ee(m0:MH)(h0:PH)(cb:Nat)(tb n:Nat)(id:Int)(ws:List cZ)(s:bT)(m:MH)(h:PH):Prop where
 le_:PH.le h0 h
 ver0:0<=s.version
 ver1:s.version<=2
 case_:bB m h cb
 n2:2<=n
 n4:n<=4
 sl_:∃cap,s.tables=⟨some ⟨tb,0,none⟩,n,cap⟩/\n<=cap
 id_:id=4\/id=5
 new_:m0 tb=none
 ne_:tb≠cb
 row_:Cf m tb ws
 ws_:awQ h id ws
 other_:∀b,b≠cb->b≠tb->m b=m0 b
def aOQ:Vc.Spec:=λc m h K=>∃cb,c=[cP cb]/\bB m h cb/\∀d n id e s m' h',Ee m h cb d n id e s m' h'->K (aS s) m' h'
noncomputable def cNJ:=
 qD [(32,aOQ)] [(3,{A:=Nat×bT×MH×PH,st:=λ⟨i,s,m,h⟩=>bY 25 26 [(2,.at (.ptr 2 0)),(3,.at (.ptr 3 0)),(9,iv s.tables.len),(10,iv i)] [(2,.cells 27 [.val (.int .i64 0),.val (.slice none 0 0)]),(3,.cells 27 (s.enc.map .val))] m h})] [] [] [25] [] false
def MW v t m h K:=
  aY t 0 (K EH m h) (iO t (kM v) (K EH m h) (Pj v 0 t m h (λb=>b) (λo=>o) 5 (λy=>y) (λy I x=>aA (I x) (eL 32) (aA (aW y (qA x)) (bN y (qA x)) (aA (bA x.1) (sU x.2.2) (aA (m=m) (h=h) True)))) (λI d x=>Pg (I x) x 0 (λb o y=>aK m h b (bL o x.1 2) (rX y.name y.kind)) (λy c=>aA (I c) (d c<d x) (aA (eL 32) (aW (qA x) (qA c)) (aA (bN (qA x) (qA c)) (iH (bE x.1 1)=bP c.1) (aA (Ph x y c) (m=m) (bU h h))))) (vU h (iL x.2.2) K m))))
theorem cnJ v t m h K:MW v t m h K=(xH (VJ m h) Tryz.f45 (eD Tryz.f45) (entry Tryz.f45.ntmps [aS v,cI t] m h) K):=ax
abbrev Er:=pA iN J1
abbrev sW:=eQ (oQ 27 Er)
abbrev Cx(a:dg)(b:Int)(c:ByteArray)(d:Int)(e:ByteArray->Int->Prop):=cT (wI a) b=cT (rZ c) d/\∃(x:ByteArray)(f:Int),e x f
abbrev Lh:=dN 105 (dN 100 [])
abbrev K4:=dN 101 (dN 99 (yM 116))
abbrev IE a b c d:=dN a (dN b (dN c (dN d [])))
abbrev B8 a b c:=At.val (Value.slice a b c)
abbrev wR(a:Int×bT×MH×PH):=a.2.1
abbrev mU(a:Int×bT×MH×PH):=a.2.2
abbrev mM a b:=oQ 27 (pA (KA a) (Kz a))=oQ 27 (pA (KA b) (Kz b))
attribute [push_cast] Er sW Cx Lh K4 IE B8 wR mU mM
def XZ(cb:Nat)(m:MH)(h:PH)(K:cq):=
  mS cb 3 m h (λk R=>∃(I:Int×Int×MH×PH->Prop),rL cb 5 R h (λc r=>∀(G:MH),bH (bV R G c) (bB G h c) (branch r (∃(x:Int×Int×MH×PH),aA (I x) (cX cb) (aA iS (dA (iF (2+k)) x.1) (aA (dA 5 x.2.1) sW (aA (bO G x.2.2) (cF h x.2.2) True)))) (∃(x:Int×Int×MH×PH),aA (I x) (cX cb) (aA iS (dA (iF (2+k)) x.1) (aA (dA 4 x.2.1) sW (aA (bO G x.2.2) (cF h x.2.2) True))))))/\∀(x:Int×Int×MH×PH),I x->mS cb 3 x.2.2.1 x.2.2.2 (λS G=>∃(n:ByteArray)(T:Int),Cx Lh 4 n T (λU V=>Cx (dN 111 (dN 119 (dN 110 (dN 101 (yM 114))))) 4 U V (λW X=>Cx Lh x.2.1 W X (λY Z=>Cx (dN 112 (dN 114 (dN 111 (dN 106 K4)))) 4 Y Z (λn4 k6=>Cx
 (dN 116 (dN 105 (dN 116 (dN 108 (yM 101))))) 5 n4 k6 (λn5 k7=>Cx (IE 100 111 110 101) 3 n5 k7 (λn6 k8=>Cx (dN 112 (dN 114 (dN 111 (dN 106 K4)))) 4 n6 k8 (λn7 k9=>Cx (dN 112 (dN 101 (dN 114 (dN 115 (dN 111 (dN 110 [])))))) 4 n7 k9 (λn8 a=>cT (wI (IE 116 97 115 107)) x.2.1=cT (rZ n8) a/\cK x.2.2.2 2 (mJ (rX n T) (rX U V)) (λs h1=>cK h1 2 (rX W X::rX Y Z::mJ (rX n4 k6) (rX n5 k7)) (λs1 h2=>cK h2 2 (mJ (rX n6 k8) (rX n7 k9)) (λs2 h3=>cK h3 2 (mC (rX n8 a)) (λs3 H=>jW (λF L=>sE G L H F 73 5 (bG (Value.string (ByteArray.mk (Array.mk (dN 112 (dN 114 (dN 111 (dN 106 (IE 101 99 116 115)))))))) (dW s) (bG (gZ 1) pF gW)::
 bG (Value.string (ByteArray.mk (Array.mk (dN 116 (dN 97 (dN 115 (dN 107 (yM 115)))))))) (dW s1) (bG (gZ 1) pF gW)::mJ (bG (Value.string (ByteArray.mk (Array.mk (dN 109 (dN 101 (dN 109 (dN 98 (dN 101 (dN 114 (yM 115)))))))))) (dW s2) (bG (gZ 2) pF gW)) (bG (Value.string (ByteArray.mk (Array.mk (dN 97 (dN 114 (dN 99 (dN 104 (IE 105 118 101 100)))))))) (dW s3) (bG (gZ 1) pF gW)))->aA (cN x.1) (x.1<=(↑F.cap:Int)) (∃(I1:Int×bT×MH×PH->Prop),rL cb 2 L H (λc r=>∀(j:MH),bH (bV L j c) (bB j H c) (branch r (cK H 1 (mC (bC 1)) (λC A=>bK (λb o=>aA (aR F.a b o) ((0:Int)<=1) (1<(↑x.1.toNat:Int)/\cK A 2 (mC (kC (dW C) bF)) (λD B=>gT (λy E=>aA (sL j b (fA y E
 0)) (o+5+3<y.size) (∀(z:MH),bJ j z b (splice y.toList (o+5+3) (aL D)) E->∃(f:Int×bT×MH×PH),aA (I1 f) (cX cb) (aA (eP 2) (dA x.1 f.1) (aA fT sW (aA (oQ 27 (pA (kL S) (B8 F.a x.1.toNat F.cap))=oQ 27 (pA (KA (wR f)) (Kz (wR f)))) (bO z (mU f)) (kY (cF B (mU f))))))))))))) (∃(f:Int×bT×MH×PH),aA (I1 f) (cX cb) (aA (eP 2) (dA x.1 f.1) (aA fT sW (aA (oQ 27 (pA (kL S) (B8 F.a x.1.toNat F.cap))=oQ 27 (pA (KA (wR f)) (Kz (wR f)))) (bO j (mU f)) (kY (cF H (mU f)))))))))/\∀(f:Int×bT×MH×PH),I1 f->∃(I2:Int×bT×MH×PH->Prop),gA f.1 2 (rL cb 3 (mU f).1 (mU f).2 (λc r=>∀(j:MH),bH (bV (mU f).1 j c) (bB j (mU
 f).2 c) (branch r (cK (mU f).2 1 (mC (pD bF)) (λC A=>H5 (wR f) 2 (λb o=>cK A 2 (mC (kC (dW C) bF)) (λD B=>gT (λy E=>aA (sL j b (fA y E 0)) (o+10+3<y.size) (∀(z:MH),bJ j z b (splice y.toList (o+10+3) (aL D)) E->∃(e:Int×bT×MH×PH),aA (I2 e) (cX cb) (aA (eP 2) (dA f.1 e.1) (aA fT sW (aA (mM (wR f) (wR e)) (bO z (mU e)) (kY (cF B (mU e)))))))))))) (∃(e:Int×bT×MH×PH),aA (I2 e) (cX cb) (aA (eP 2) (dA f.1 e.1) (aA fT sW (aA (mM (wR f) (wR e)) (bO j (mU e)) (kY (eO (mU f) (mU e)))))))))) (∃(e:Int×bT×MH×PH),aA (I2 e) (cX cb) (aA (eP 2) (dA f.1 e.1) (aA fT sW (aA (mM (wR f) (wR
 e)) (iJ (mU f) (mU e)) (kY (eO (mU f) (mU e)))))))/\∀(e:Int×bT×MH×PH),I2 e->∃(I3:bT×MH×PH->Prop),gA e.1 3 (rL cb 3 (mU e).1 (mU e).2 (λc r=>∀(j:MH),bH (bV (mU e).1 j c) (bB j (mU e).2 c) (branch r (cK (mU e).2 1 (mC (pD bF)) (λC A=>H5 (wR e) 3 (λb o=>cK A 2 (mC (kC (dW C) (gZ 1))) (λD B=>gT (λy E=>aA (sL j b (fA y E 0)) (o+15+3<y.size) (∀(z:MH),bJ j z b (splice y.toList (o+15+3) (aL D)) E->∃(g:bT×MH×PH),aA (I3 g) (cX cb) (aA iS fT (aA sW (mM (wR e) g.1) (aA (bO z g.2) (cF B g.2) True))))))))) (∃(g:bT×MH×PH),aA (I3 g) (cX cb) (aA iS fT (aA sW (mM (wR e) g.1) (aA
 (bO j g.2) (eO (mU e) g.2) True))))))) (∃(g:bT×MH×PH),aA (I3 g) (cX cb) (aA iS fT (aA sW (mM (wR e) g.1) (aA (iJ (mU e) g.2) (eO (mU e) g.2) True))))/\∀(g:bT×MH×PH),I3 g->∃(I4:bT×MH×PH->Prop),rL cb 3 g.2.1 g.2.2 (λc r=>∀(j:MH),bH (bV g.2.1 j c) (bB j g.2.2 c) (branch r (∃(v:Int),bK (λt n9=>∃(y:Nat)(w:List cZ)(w1:cZ)(M:List qE)(O:Nat),aA (cT (jO (cC g.1)) 1=cT (jO (kC (gZ v) (Value.slice (pP t) n9 y))) (↑O:Int)) (O<n9) (aA (Cf j t w) (w[O]? =Option.some w1) (aA (G6 g.2.2 w1.columns M) (M.length<=8) (∀(C:Sl)(A:PH),bS g.2.2 A (Ints A C (List.map qE.kind M)) (CI (λJ D t2 P p d=>aA (dE cb (dC C (cT EH 1))=dE J
 (dC D (j3 t2 (↑d:Int)))) (bB j A J) (aA (Ints A D P) (Ints A t2 p) (aA (iB P) (iB p) (mY d/\FD (λv1 p1=>fD (λz B=>bS A B (fP B p1 v1) (bH (Ch P p d p1) (bV j z J) (pK z B J (H5 g.1 1 (λb o=>cK B 13 (mC v1.enc) (λs7 h7=>gT (λQ E=>aA (sL z b (fA Q E 0)) (o+5+4<Q.size) (∀(m6:MH),bJ z m6 b (splice Q.toList (o+5+4) (aL s7)) E->∃(u:bT×MH×PH),aA (I4 u) iS (aA fT sW (aA (mM g.1 u.1) (bO m6 u.2) (cF h7 u.2/\True)))))))))))))))))))))) (∃(u:bT×MH×PH),aA (I4 u) iS (aA fT sW (aA (mM g.1 u.1) (bO j u.2) (eO g.2 u.2/\True))))))/\∀(u:bT×MH×PH),I4 u->K (jO (cC u.1)) u.2.1 u.2.2))))))))))))))))
abbrev Gc(a:Nat×bT×MH×PH):=a.2.1.tables
attribute [push_cast] Gc
def VI(cb:Nat)(m:MH)(h:PH)(K:cq):=
  ∃(c:Nat),aA (eY (OP cb 0) (OP c 0)) (bB m h c) (∀(t n:Nat)(i:Int)(w:List cZ)(s:bT),fD (λy z=>Ee m h c t n i w s y z->∃(I:Nat×bT×MH×PH->Prop)(A:Nat×bT×MH×PH->Nat),(∃(x:Nat×bT×MH×PH),aA (I x) iS (aA (eP 3) (bN s.tables (Gc x)) (aA (bA x.1) sW (aA (mM s x.2.1) (bO y x.2.2) (kY (cF z x.2.2))))))/\∀(x:Nat×bT×MH×PH),I x->aY (↑x.1:Int) (aG (Gc x)) (bK (λb o=>aA (aR (wY x.2.1) b o) (0<=(↑x.1:Int)) ((↑x.1:Int)<aG (Gc x)/\gT (λe E=>aA (sL x.2.2.1 b (fA e E 0)) (bL o x.1 5+3<e.size) (∀(f:MH),bJ x.2.2.1 f b (splice e.toList (bL o x.1 5+3) gW) E->bK (λg j=>aA (aR (wY x.2.1) g j) (0<=(↑x.1:Int)) ((↑x.1:Int)<aG (Gc x)/\
 gT (λu E1=>aA (sL f g (fA u E1 0)) (bL j x.1 5+4<u.size) (∀(B:MH),bJ f B g (splice u.toList (bL j x.1 5+4) gW) E1->∃(d:Nat×bT×MH×PH),aA (I d) (A d<A x) (aA iS j8 (aA (bN (Gc x) (Gc d)) (iH (bE x.1 1)=bP d.1) (aA sW (mM x.2.1 d.2.1) (aA (bO B d.2.2) (eO x.2.2 d.2.2) True))))))))))))) (K (jO (cC x.2.1)) x.2.2.1 x.2.2.2)))
theorem Jy{α}(l:List α) o x(h:o<l.length):splice l o [x]=l.set o x:=by
 rw[set_eq_take_append_cons_drop,if_pos h];simp[splice]
theorem flatten_set:∀(ws:List cZ){i k:Nat}{w w':cZ}{x:Value},ws[i]? =some w->k<5->w'.enc=w.enc.set k x->((ws.map cZ.enc).flatten).set (i*5+k) x=((ws.set i w').map cZ.enc).flatten
 |[],i,k,w,w',x,h,_,_=>by simp at h
 |u::ws,0,k,w,w',x,h,c,e=>by
  simp at h;subst h;simp only[map_cons,flatten_cons,set_cons_zero,Nat.zero_mul,Nat.zero_add,e];rw[set_append_left _ _ (by simpa[cZ.enc]using c)]
 |u::ws,i+1,k,w,w',x,h,c,e=>by
  simp only[map_cons,flatten_cons,set_cons_succ];have d:u.enc.length=5:=rfl;rw[set_append_right _ _ aC,d,show(i+1)*5+k-5=i*5+k by omega,flatten_set ws (bk h) c e]
theorem bzQ(ws:List cZ):((ws.map cZ.enc).flatten).length=ws.length*5:=by
 induction ws with
 |nil=>rfl
 |cons w ws c=>simp only[map_cons,flatten_cons,br,c,ci];show 5+_=_;omega
theorem Cf.big{d ws cs E e}(h:Cf m d ws)(c:m d=some (.cells cs E e)):ws.length*5<=cs.size:=by
 obtain⟨f,g,j⟩:=h.ex;rw[g]at c;simp only[bx,Obj.cells.injEq]at c;obtain⟨rfl,_,_⟩:=c;have:=congrArg List.length j;rw[bzQ]at this
 grind
theorem Cf.store{c:Nat}{ws k w w' x}(h:Cf m c ws)(f:ws[i]? =some w)(g:k<5)(e:w'.enc=w.enc.set k x){cs E j}(d:m c=some (.cells cs E j))(n:m' c=some (.cells (splice cs.toList (i*5+k) [x]).toArray E (0,0))):Cf m' c (ws.set i w'):=by
 have A:=h.big d;have o:=(bm f);obtain⟨u,y,z⟩:=h.ex;rw[y]at d;simp only[bx,Obj.cells.injEq]at d;obtain⟨rfl,rfl,_⟩:=d;refine⟨_,n,?_⟩;rw[Jy _ _ _ bf,length_set,toList_toArray,take_set,z];exact flatten_set ws f g e
theorem Cf.rd{d ws}(r:Cf m d ws){j w x}(f:ws[i]? =some w)(g:w.enc[j]? =some x):aK m h d (i*5+j) [x]:=by
 obtain⟨n,o,u⟩:=r.ex;refine .of_m o ?_;have c:=pB (xs:=ws.map cZ.enc) (sz:=5) (λe y=>by obtain⟨x,_,rfl⟩:=mem_map.1 y;rfl) (by rw[getElem?_map,f];rfl) j x g;rw[<-u,getElem?_take]at c;split at c
 .rw[drop_cons c];rfl
 .cases c
theorem coQ{g j n u ws w cols t}(I:t<n)(C:Cf m j ws)(D:ws[t]? =some w)(A:G6 h w.columns cols)(J:cols.length<=8)(E:∀sl h',PH.le h h'->Ints h' sl (cols.map qE.kind)->K (cS sl) m h'):MW ⟨g,⟨some ⟨j,0,none⟩,n,u⟩⟩ t m h K:=by
 dsimp only[MW,push_cast];have y:=bM.slen A;refine aF (λF=>by omega) (λF=>aF (λG=>bg) (λG=>?_));refine⟨j,0,rfl,aC,aC,w.columns,?_,λ⟨i,sl,l⟩=>sl=w.columns/\i<=cols.length/\l=(cols.take i).map qE.kind,λ⟨i,_,_⟩=>cols.length-i,⟨(0,w.columns,[]),⟨rfl,ay,ay⟩,MT⟩,?_⟩
 .rw[Nat.zero_add,Int.toNat_natCast];exact C.rd D rfl
 rintro⟨i,_,_⟩ ⟨rfl,L,rfl⟩;dsimp only;refine aF (λf=>?_) (λH sl h' z d=>?_)
 .obtain⟨c,B⟩:=fK y f;obtain⟨b,o,e,r⟩:=G6.at A B;refine⟨b,o,e,aC,f,c,.imm r,?_,?_,(i+1,w.columns,(cols.take (i+1)).map qE.kind),⟨rfl,aC,rfl⟩,aC,?_⟩
  .simp;omega
  .simp;omega
  .rw[kA B,bu];exact MT
 .rw[bt aC]at d;exact E sl h' z ⟨d,bf⟩
theorem ZF:cm 45 aRQ:=by
 refine fW (fn:=Tryz.f45) (c:=eD Tryz.f45) func45 rfl az ?_;rintro e m h K ⟨f,B,n,g,C,w,d,t,rfl,j,o,u,y,z,A⟩;refine⟨VJ m h,rfl,aH,?_⟩;rw[<-cnJ];exact coQ j o u y z A
theorem PL.mono{t w}(x:PL h t w)(le:PH.le h h'):PL h' t w:=⟨x.name_,x.key_,bM.mono x.cols_ le λ_ _ e=>e⟩
theorem awQ.mono{id ws}(x:awQ h id ws)(le:PH.le h h'):awQ h' id ws:=⟨x.1,λi t e=>let⟨w,e1,e2⟩:=x.2 i t e;⟨w,e1,e2.mono le⟩⟩
theorem awQ.set{id ws w w'}(x:awQ h id ws)(f:ws[i]? =some w)(g:w'.name=w.name)(n:w'.key=w.key)(o:w'.columns=w.columns):awQ h id (ws.set i w'):=by
 refine⟨by rw[length_set];exact x.1,λj t e=>?_⟩;obtain⟨u,d,c⟩:=x.2 j t e;by_cases y:i=j
 .subst y;rw[f]at d;cases d;exact⟨w',bg,⟨by rw[g];exact c.name_,by rw[n];exact c.key_,by rw[o];exact c.cols_⟩⟩
 grind
theorem Ee.on{m0 c g d e n id ws s}(x:Ee m0 g cb e n id ws s m h)(le:PH.le h d)(j:bV m c cb)(u:bB c d cb):Ee m0 g cb e n id ws s c d:=by
 refine⟨x.le_.trans le,x.ver0,x.ver1,u,x.n2,x.n4,x.sl_,x.id_,x.new_,x.ne_,?_,x.ws_.mono le,λb o y=>by rw[j.other b o];exact x.other_ b o y⟩;obtain⟨f,z,A⟩:=x.row_.ex;exact⟨f,by rw[j.other e x.ne_];exact z,A⟩
theorem Ee.store{m0:MH}{u:PH}{c n:Nat}{id:Int}{ws:List cZ}{s:bT}(x:Ee m0 u cb c n id ws s m h){k o w w' y}(d:ws[i]? =some w)(A:k<5)(B:o=i*5+k)(e:w'.enc=w.enc.set k y)(C:w'.name=w.name)(D:w'.key=w.key)(F:w'.columns=w.columns){Q:MH->Prop}(G:∀m2,Ee m0 u cb c n id (ws.set i w') s m2 h->Q m2):∃(cs:Array Value)(E:TypeId),sL m c (.cells cs E (0,0))/\o<cs.size/\∀m2:MH,lI m m2 c (.cells (splice cs.toList o [y]).toArray E (0,0))->Q m2:=by
 obtain⟨f,g,M⟩:=x.row_.ex;have H:=(bm d);refine⟨f,73,⟨g⟩,by have:=x.row_.big g;omega,λm2 j=>G m2 ?_⟩;subst B;refine⟨x.le_,x.ver0,x.ver1,?_,x.n2,x.n4,x.sl_,x.id_,x.new_,x.ne_,x.row_.store d A e g j.at_,x.ws_.set d C D F,λb I z=>by rw[j.other b z];exact x.other_ b I z⟩;obtain⟨r,q,cs,k,J,L⟩:=x.case_;exact⟨r,q,cs,k,by rw[j.other cb x.ne_.symm];exact J,L⟩
theorem Jb{h s l}(r:dH h s 2 (l.map qE.enc))(c:l.length<=8):G6 h s l:=⟨⟨l,r,rfl,λi x e=>⟨x,e,rfl⟩⟩,aC⟩
theorem sE.tabs{m m' h s w ws}(x:sE m m' h s 73 5 ((w::ws).map cZ.enc)):∃f d,s=⟨some ⟨f,0,none⟩,ws.length+1,d⟩/\ws.length+1<=d/\Cf m' f (w::ws)/\cW m h f/\∀b,b≠f->m' b=m b:=by
 rcases x.row.ex with⟨_,e⟩|⟨b,d,g,e,j,n,_,o,u⟩
 .cases e
 .subst e;refine⟨b,d,ay,bg,⟨g,j,bg⟩,x.fresh b 0 rfl,λc y=>x.other c (λi e=>bg)⟩
theorem bbJ:cm 32 aOQ:=by
 refine jC func32 ?_;rintro a7 m h K ⟨cb,rfl,hc,hK⟩;refine⟨cpJ cb,rfl,aE MO (aE E6 (aE a8Z (aE ZF (aE MY aH)))),XZ cb m h K,ax,?_⟩;dsimp only[XZ,push_cast];refine⟨cb,3,rfl,hc,λk m1 k0 k1 S c1=>?_⟩;have a0:IntKind.i64.wrap (2+k)=2+k:=fL aC aC;rw[a0];refine⟨λ⟨n,id,E,J⟩=>2<=n/\n<=4/\(id=4\/id=5)/\J=h/\bV m E cb/\bB E h cb,⟨cb,5,rfl,aC,aC,c1,λr m2 o2 c2=>aD (λ_=>⟨(2+k,5,m2,h),⟨aC,aC,.inr rfl,rfl,S.trans o2,c2⟩,MT⟩) (λ_=>⟨(2+k,4,m2,h),⟨aC,aC,.inl rfl,rfl,S.trans o2,c2⟩,MT⟩)⟩,?_⟩;clear S c1 m1 a0 k0 k1 k;rintro⟨n,id,m1,J⟩ ⟨n2,n4,a4,rfl,S,c1⟩;dsimp only;refine⟨cb,3,rfl,c1,λk m2 k0 k1 o2 c2=>?_⟩;refine⟨_,_,rfl,_,_,rfl,_,_,rfl,_,_,rfl,_,_,rfl,_,_,rfl,_,_,rfl,_,_,rfl,_,_,rfl,λs1 h1 a1 r1 s2 h2 T r2 s3 h3 F r3 s4 h4 z r4 tl m3 L=>?_⟩;obtain⟨d,f,rfl,M,O,U,P⟩:=sE.tabs (w:=⟨_,s1,1,cH,cH⟩) (ws:=[⟨_,s2,1,cH,cH⟩,⟨_,s3,2,cH,cH⟩,⟨_,s4,1,cH,cH⟩]) L;simp only[ci,length_nil]at M;have V:PH.le J h4:=((a1.trans T).trans F).trans z
 have A:d≠cb:=λe=>by
  obtain⟨r,q,cs,j,q1,_⟩:=c2;have:=U.m_
  grind
 have a2:m d=none:=by rw[<-S.other d A, <-o2.other d A];exact U.m_
 have c3:bB m3 h4 cb:=by
  obtain⟨r,q,cs,j,q1,q2,q3⟩:=c2;exact⟨r,q,cs,j,bg,q2.mono V,q3⟩
 have S0:Ee m J cb d n.toNat id _ ⟨k,⟨some ⟨d,0,none⟩,n.toNat,f⟩⟩ m3 h4:=⟨V,k0,bg,c3,aC,aC,⟨f,rfl,aC⟩,a4,a2,A,O,⟨rfl,λi t e=>?_⟩,λb n1 n2=>by rw[P b n2,o2.other b n1,S.other b n1]⟩
 rotate_left
 .match i,e with
  |0,e=>cases e;exact⟨_,rfl,⟨rfl,rfl,Jb (l:=[⟨_,_⟩,⟨_,_⟩]) (r1.mono ((T.trans F).trans z)) az⟩⟩
  |1,e=>cases e;exact⟨_,rfl,⟨rfl,rfl,Jb (l:=[⟨_,_⟩,⟨_,_⟩,⟨_,_⟩,⟨_,_⟩]) (r2.mono (F.trans z)) ay⟩⟩
  |2,e=>cases e;exact⟨_,rfl,⟨rfl,rfl,Jb (l:=[⟨_,_⟩,⟨_,_⟩]) (r3.mono z) az⟩⟩
  |3,e=>cases e;exact⟨_,rfl,⟨rfl,rfl,Jb (l:=[⟨_,_⟩]) r4 ay⟩⟩
  |i+4,e=>simp[vL]at e
 generalize a5:(cZ.mk _ s1 1 cH cH::_)=a8 at S0;clear a5 O L r1 r2 r3 r4;have B:∀{ws:List cZ}{i:Nat},ws.length=4->i<4->∃w,ws[i]? =some w:=λhl hi=>⟨_,bn aC⟩
 refine⟨aC,bg,λ⟨W,s,E,X⟩=>W=n/\∃ws,Ee m J cb d n.toNat id ws s E X,⟨cb,2,rfl,aC,aC,c3,λr Y o4 c4=>aD (λ_ s5 G a3 r5=>⟨d,0,rfl,aC,aC,λs6 h6 C r6=>?_⟩) (λ_=>⟨(n,⟨k,⟨some ⟨d,0,none⟩,n.toNat,f⟩⟩,Y,h4),⟨rfl,_,S0.on (.refl _) o4 c4⟩,MT⟩)⟩,?_⟩
 .obtain⟨w,Q⟩:=B (i:=1) S0.ws_.1 aC;exact(S0.on (a3.trans C) o4 (c4.mono (a3.trans C))).store (k:=3) (w':={w with references:=s6}) Q aC rfl rfl rfl rfl rfl λy Z=>⟨(n,⟨k,⟨some ⟨d,0,none⟩,n.toNat,f⟩⟩,y,h6),⟨rfl,_,Z⟩,MT⟩
 clear S0 c3 P U a2 M V a1 T F z S o2 c1 c2;rintro⟨W,s,Y,G⟩ ⟨rfl,ws,S0⟩;dsimp only;obtain⟨f,c,_⟩:=S0.sl_;have o:s.tables.a=some ⟨d,0,none⟩:=by rw[c]
 have H:s.tables.len=W.toNat:=by rw[c]
 refine⟨λ⟨n,s,E,X⟩=>n=W/\∃ws,Ee m J cb d n.toNat id ws s E X,aF (λhn=>⟨cb,3,rfl,aC,aC,S0.case_,λr y R I=>aD (λ_ s7 h7 u r7=>⟨d,0,o,aC,aC,λs8 h8 g r8=>?_⟩) (λ_=>⟨(W,s,y,G),⟨rfl,_,S0.on (.refl _) R I⟩,MT⟩)⟩) (λ_=>⟨(W,s,Y,G),⟨rfl,_,S0⟩,MT⟩),?_⟩
 .obtain⟨w,Q⟩:=B (i:=2) S0.ws_.1 aC;exact(S0.on (u.trans g) R (I.mono (u.trans g))).store (k:=3) (w':={w with references:=s8}) Q aC rfl rfl rfl rfl rfl λy Z=>⟨(W,s,y,h8),⟨rfl,_,Z⟩,MT⟩
 clear S0 o H c;rintro⟨D,s,Y,G⟩ ⟨rfl,ws,S0⟩;dsimp only;obtain⟨f,c,_⟩:=S0.sl_;have o:s.tables.a=some ⟨d,0,none⟩:=by rw[c]
 have H:s.tables.len=D.toNat:=by rw[c]
 refine⟨λ⟨s,E,X⟩=>∃ws,Ee m J cb d D.toNat id ws s E X,aF (λhn=>⟨cb,3,rfl,aC,aC,S0.case_,λr y R I=>aD (λ_ s7 h7 u r7=>⟨d,0,o,aC,aC,λs8 h8 g r8=>?_⟩) (λ_=>⟨(s,y,G),⟨_,S0.on (.refl _) R I⟩,MT⟩)⟩) (λ_=>⟨(s,Y,G),⟨_,S0⟩,MT⟩),?_⟩
 .obtain⟨w,Q⟩:=B (i:=3) S0.ws_.1 aC;exact(S0.on (u.trans g) R (I.mono (u.trans g))).store (k:=3) (w':={w with references:=s8}) Q aC rfl rfl rfl rfl rfl λy Z=>⟨(s,y,h8),⟨_,Z⟩,MT⟩
 clear S0 o H c;rintro⟨s,Y,G⟩ ⟨ws,S0⟩;dsimp only;obtain⟨f,c,_⟩:=S0.sl_;have o:s.tables.a=some ⟨d,0,none⟩:=by rw[c]
 have H:s.tables.len=D.toNat:=by rw[c]
 refine⟨λ⟨s,E,X⟩=>∃ws,Ee m J cb d D.toNat id ws s E X,⟨cb,3,rfl,aC,aC,S0.case_,λr y R I=>aD (λ_=>?_) (λ_=>⟨(s,y,G),⟨_,S0.on (.refl _) R I⟩,MT⟩)⟩,λ⟨s,Y,G⟩⟨ws,S0⟩=>hK _ _ _ _ _ _ _ S0⟩;have S1:=S0.on (.refl _) R I;obtain⟨w,Q,a'⟩:=S1.ws_.2 1 _ rfl;refine⟨s.version,d,D.toNat,f,ws,w,_,1,by rw[c];rfl,aC,S1.row_,Q,a'.cols_,ay,λsl h6 C a6=>?_⟩;refine⟨cb,sl,cH,_,[],1,rfl,I.mono C,a6,⟨dH.nil _ _,ay⟩,ay,ay,aC,λa9 p m6 h7 u hp b' o6 c6=>⟨d,0,o,aC,aC,λs8 h8 g r8=>?_⟩⟩;exact(S1.on ((C.trans u).trans g) o6 (c6.mono g)).store (k:=4) (w':={w with checks:=s8}) Q aC rfl rfl rfl rfl rfl λy Z=>⟨(s,y,h8),⟨_,Z⟩,MT⟩
structure Au(s:jZ):Prop where
 ex:∃ver n id,0<=ver/\ver<=2/\2<=n/\n<=4/\(id=4\/id=5)/\s=⟨ver,(vL id).take n⟩
def b1X:Vc.Spec:=λc m h K=>∃cb,c=[cP cb]/\bB m h cb/\∀s v m' h',Au s->iU h' s v->PH.le h h'->bV m m' cb->bB m' h' cb->K (aS v) m' h'
theorem bAZ:cm 9 b1X:=by
 refine Sn func9 ?_;rintro W m h K ⟨cb,rfl,X,Y⟩;refine⟨cNJ,rfl,aE bbJ aH,VI cb m h (cR h K),ax,?_⟩;show VI cb m h (cR h K);dsimp only[VI,push_cast];refine⟨cb,rfl,X,λd n id y s I J S1=>?_⟩;refine⟨λ⟨i,z,Z,A⟩=>z=s/\A=J/\i<=n/\∃y,Ee m h cb d n id y s Z J/\∀j w,j<i->y[j]? =some w->w.references=cH/\w.checks=cH,λ⟨i,_,_,_⟩=>n-i,⟨(0,s,I,J),⟨rfl,rfl,aC,y,S1,λj w L=>by omega⟩,MT⟩,?_⟩;clear S1 y I;rintro⟨i,z,I,A⟩ ⟨rfl,rfl,C,y,S1,D⟩;dsimp only;obtain⟨a',E,M⟩:=S1.sl_;have B:z.tables.a=some ⟨d,0,none⟩:=by rw[E]
 have a0:z.tables.len=n:=by rw[E]
 have O:=S1.n4;refine aF (λF=>⟨d,0,B,aC,F,?_⟩) (λa1 f=>?_)
 .obtain⟨w,U⟩:∃w,y[i]? =some w:=⟨_,bn (by have:=S1.ws_.1;omega)⟩
  refine S1.store (i:=i) (k:=3) (w':={w with references:=cH}) U aC aC rfl rfl rfl rfl λm2 S2=>⟨d,0,B,aC,F,?_⟩
  have P:=(bm U);have Q:(y.set i {w with references:=cH})[i]? =some {w with references:=cH}:=getElem?_set_self P;refine S2.store (i:=i) (k:=4) (w':={w with references:=cH,checks:=cH}) Q aC aC rfl rfl rfl rfl λm3 S3=>⟨(i+1,z,m3,A),⟨rfl,rfl,aC,_,S3,λj u L hu=>?_⟩,aC,MT⟩
  grind
 .have f:=f;obtain⟨G,H,R⟩:=S1.row_.ex;have a2:∀i,A d i=none:=f d _ H
  have c:PH.le A (λx i=>if x=d then G[i]? else A x i):=⟨λx i v e=>by
   grind⟩
  refine⟨λb=>if b=d then none else I b,λx i=>if x=d then G[i]? else A x i,λb o e=>?_,S1.le_.trans c,λx i v e=>?_,Y ⟨z.version,(vL id).take n⟩ z _ _ ⟨⟨_,_,_,S1.ver0,S1.ver1,S1.n2,S1.n4,S1.id_,rfl⟩⟩ ⟨rfl,?_⟩ (S1.le_.trans c) ⟨λb hb=>?_⟩ ?_⟩
  .grind
  .grind
  .have V:=S1.ws_.1;have O:=S1.n4;refine⟨⟨y.take n,⟨bg,.inr ⟨d,0,B,λi e C=>⟨λj v L=>?_⟩⟩,bg⟩,by simp[vL];omega,λi t e=>?_⟩,bg⟩
   .rw[map_take,getElem?_take]at C;split at C
    .have J:=pB (xs:=y.map cZ.enc) (sz:=5) (λe he=>by obtain⟨x,_,rfl⟩:=mem_map.1 he;rfl) C j v L
     grind
    .cases C
   .rw[getElem?_take]at e;split at e
    .rename_i a3;obtain⟨w,e1,e2⟩:=S1.ws_.2 i t e;obtain⟨z1,z2⟩:=D i w aC e1;have S:=e2.mono c
     have g:t.refs=[]/\t.checks=[]:=by
      match i,e with
      |0,e=>cases e;grind
      |1,e=>cases e;grind
      |2,e=>cases e;grind
      |3,e=>cases e;grind
      |i+4,e=>omega
     refine⟨w,bg,⟨S.name_,S.cols_,S.key_,by rw[z1,g.1];exact bM.nil _ _ _ _,by rw[z2,g.2];exact bM.nil _ _ _ _⟩⟩
    .cases e
  .by_cases T:b=d
   .subst T;simp[S1.new_]
   .simp[T];exact S1.other_ b hb T
  .obtain⟨r,q,cs,k,q1,q2,q3⟩:=S1.case_;exact⟨r,q,cs,k,bg,q2.mono c,q3⟩
def QW(q:Query):Prop:=
 match q with
 |.mk _ _ w _ _ _ _ _ args=>Eh w/\∀a∈args,QW a
 termination_by SizeOf.sizeOf q
theorem Mv{op w on args}:
 QW (.mk op ta w co on gr od li args)↔Eh w/\∀a∈args,QW a:=by rw[QW.eq_def]
def cWJ s:=∀t,OU (kH s t)
structure bYX(s:jZ)(ps ks:cn)(q0 q:Query):Prop where
 qw:QW q
 siz:∀d,DH d q0->Wg d q
 kin:cWJ s->OU ps->OU ks->ks≠[]->ks.length<=12->aJ s ps q0=(ks,0)->aJ s ps q=(ks,0)
def KQ(K:cq)(m:MH)(h:PH)(cb:Nat)(R:Query->Prop):=∀w q m' h',PH.le h h'->dO h' q w->R q->bV m m' cb->bB m' h' cb->K (aQ w) m' h'
def aNZ:=λc m h K=>∃cb sc p k v s ps ks q,c=[cP cb,aS sc,cS p,cS k,aQ v]/\bB m h cb/\iU h s sc/\oM s/\s.tables.length<=1000/\Ints h p ps/\ps.length<=1000/\Ints h k ks/\ks.length<=1000/\dO h q v/\QW q/\KQ K m h cb (bYX s ps ks q)
noncomputable def cpX(cb:Nat)(sc:bT)(p k:Sl)(v:QV):=
 dK [(19,Mb),(45,xL),(33,bZZ),(25,UR),(27,GK)] [(3,{A:=Int×Nat×MH×PH,st:=λ⟨f,n,m,h⟩=>bY 112 117 [(0,pv cb),(2,sv p),(3,sv k),(6,.at (.ptr 6 0)),(9,.at (.ptr 9 0)),(10,.at (.ptr 10 0)),(11,iv f),(12,iv n)] [(6,.cells 27 (sc.enc.map .val)),(9,.cells 41 (v.enc.map .val)),(10,.cells 41 (Ek.enc.map .val))] m h}),
  (9,{A:=Int×Nat×Int×Sl×cn×Nat×MH×PH,st:=λ⟨f,n,t,c,d,i,m,h⟩=>bY 112 117 [(0,pv cb),(2,sv p),(3,sv k),(6,.at (.ptr 6 0)),(9,.at (.ptr 9 0)),(10,.at (.ptr 10 0)),(11,iv f),(12,iv n),(13,iv t),(14,sv c),(15,.at (.lst 75)),(45,sv k),(46,iv k.len),(47,iv i)] [(6,.cells 27 (sc.enc.map .val)),(9,.cells 41 (v.enc.map .val)),(10,.cells 41 (Ek.enc.map .val)),(75,.lst 3 1 (d.map eI))] m h}),
  (13,{A:=Int×Nat×Int×Sl×cn×Nat×Int×Int×Nat×MH×PH,st:=λ⟨f,n,t,c,d,i,e,g,j,m,h⟩=>bY 112 117 [(0,pv cb),(2,sv p),(3,sv k),(6,.at (.ptr 6 0)),(9,.at (.ptr 9 0)),(10,.at (.ptr 10 0)),(11,iv f),(12,iv n),(13,iv t),(14,sv c),(15,.at (.lst 75)),(17,iv e),(18,iv g),(45,sv k),(46,iv k.len),(47,iv i),(56,iv c.len),(57,iv j)] [(6,.cells 27 (sc.enc.map .val)),(9,.cells 41 (v.enc.map .val)),(10,.cells 41 (Ek.enc.map .val)),(75,.lst 3 1 (d.map eI))] m h})] [] [] false
abbrev oO:=eP 10
abbrev Cz(a:Int×Nat×Int×Sl×cn×Nat×MH×PH):=a.2.2.2.1
abbrev Cy(a:Int×Nat×Int×Sl×cn×Nat×MH×PH):=a.2.2.2.2.2.1
abbrev CA(a:Int×Nat×Int×Sl×cn×Nat×MH×PH):=a.2.2.2.2.1
abbrev xX(a:Int×Nat×Int×Sl×cn×Nat×MH×PH):=a.2.2.2.2.2.2
abbrev Li(a:Int×Nat×Int×Sl×cn×Nat×MH×PH):=qB a.2.2.2.2.2
abbrev uQ(a:Int×Nat×Int×Sl×cn×Nat×MH×PH):=lO a.2.2.2.2.2
abbrev uR(a:Int×Nat×Int×Sl×cn×Nat×Int×Int×Nat×MH×PH):=a.2.2.2.1
abbrev Lc(a:Int×Nat×Int×Sl×cn×Nat×Int×Int×Nat×MH×PH):=a.2.2.2.2.2.2.1
abbrev Ip(a:Int×Nat×Int×Sl×cn×Nat×Int×Int×Nat×MH×PH):=a.2.2.2.2.2.1
abbrev ID(a:Int×Nat×Int×Sl×cn×Nat×Int×Int×Nat×MH×PH):=a.2.2.2.2.2.2.2.2.1
abbrev DZ(a:Int×Nat×Int×Sl×cn×Nat×Int×Int×Nat×MH×PH):=a.2.2.2.2.1
abbrev zU(a:Int×Nat×Int×Sl×cn×Nat×Int×Int×Nat×MH×PH):=a.2.2.2.2.2.2.2.2.2
abbrev Lb a:=Int.tmod (iF (a.2.2.2.2.2.2.2.1+(↑(ID a):Int))) (aG (uR a))
abbrev Iq(a:Prop)(b c d:Nat)(e g:Sl)(i:Prop):=aA a (b<c) (aA (cX d) (aI e) (aA (aI g) lK (aA (eP 9) oO i)))
attribute [push_cast] oO Cz Cy CA xX Li uQ uR Lc Ip ID DZ zU Lb Iq
def XX(cb:Nat)(sc:bT)(p k:Sl)(v:QV)(m:MH)(h:PH)(K:cq):=
  mS cb (iF (kM sc+1)) m h (λV W=>∃(I:Int×Nat×MH×PH->Prop)(M:Int×Nat×MH×PH->Nat),(∃(x:Int×Nat×MH×PH),aA (I x) (cX cb) (aA (aI p) (aI k) (aA lK (eP 9) (aA oO (dA V x.1) (aA (bA x.2.1) (cV sc) (aA (fU v) kE (aA (bO W x.2.2) (cF h x.2.2) True)))))))/\∀(x:Int×Nat×MH×PH),I x->aY (↑x.2.1:Int) (aG sc.tables) (mW (kM sc=0)/\Cr (cT (jO (cC sc)) (Int.tmod (iF (x.1+(↑x.2.1:Int))) (kM sc))) (lO x.2) (λs B=>∃(I1:Int×Nat×Int×Sl×cn×Nat×MH×PH->Prop)(A:Int×Nat×Int×Sl×cn×Nat×MH×PH->Nat),(∃(f:Int×Nat×Int×Sl×cn×Nat×MH×PH),aA (I1 f) (cX cb) (aA (aI p) (aI k) (aA lK (eP 9) (aA oO (dA x.1 f.1) (aA (cJ x.2.1 f.2.1)
 (dA (Int.tmod (iF (x.1+(↑x.2.1:Int))) (kM sc)) f.2.2.1) (aA (aW s (Cz f)) (eL 75) (aA (aI k) (bI k) (aA (bA (Cy f)) (cV sc) (aA (fU v) kE (aA (sU (CA f)) (iJ x.2.2 (xX f)) (kY (cF B (xX f)))))))))))))/\∀(f:Int×Nat×Int×Sl×cn×Nat×MH×PH),I1 f->aY (↑(Cy f):Int) (aG k) (bK (λb o=>aA (aR k.a b o) (0<=(↑(Cy f):Int)) ((↑(Cy f):Int)<aG k/\∃(y:Int),aK (Li f) (uQ f) b (bL o (Cy f) 1) (bC y)/\mS cb (aG (Cz f)) (Li f) (uQ f) (λX F=>∃(I2:Int×Nat×Int×Sl×cn×Nat×Int×Int×Nat×MH×PH->Prop)(E:Int×Nat×Int×Sl×cn×Nat×Int×Int×Nat×MH×PH->Nat),(∃(e:Int×Nat×Int×Sl×cn×Nat×Int×Int×Nat×MH×
 PH),aA (I2 e) (cX cb) (aA (aI p) (aI k) (aA lK (eP 9) (aA oO (dA f.1 e.1) (aA (cJ f.2.1 e.2.1) (dA f.2.2.1 e.2.2.1) (aA (aW (Cz f) (uR e)) (eL 75) (aA (dA y (Lc e)) (dA X e.2.2.2.2.2.2.2.1) (aA (aI k) (bI k) (aA (cJ (Cy f) (Ip e)) (bN (Cz f) (uR e)) (aA (bA (ID e)) (cV sc) (aA (fU v) kE (aA (lW (iL (CA f)) (DZ e)) (bO F (zU e)) (kY (eO (xX f) (zU e)))))))))))))))/\∀(e:Int×Nat×Int×Sl×cn×Nat×Int×Int×Nat×MH×PH),I2 e->aY (↑(ID e):Int) (aG (uR e)) (mW (aG (uR e)=0)/\bK (λS T=>aA (aR (uR e).a S T) (0<=Lb e) (Lb e<aG (uR e)/\∃(U:Int),aK (qB e.2.2.2.2.2.2.2.2)
 (lO e.2.2.2.2.2.2.2.2) S (gH T (Lb e) 1) (bC U)/\fC U (Lc e) (aA (jN (kB (iL (DZ e)) 1) 8) (eA (iL (DZ e))) (∃(g:Int×Nat×Int×Sl×cn×Nat×MH×PH),Iq (I1 g) (A g) (A f) cb p k (aA (dA e.1 g.1) (cJ e.2.1 g.2.1) (aA (dA e.2.2.1 g.2.2.1) (aW (uR e) (Cz g)) (aA (eL 75) (aI k) (aA (bI k) (iH (bE (Ip e) 1)=bP (Cy g)) (aA (cV sc) (fU v) (aA kE (lW (dP (iL (DZ e)) (bC (Lb e))) (CA g)) (aA (iJ (zU e) (xX g)) (eO (zU e) (xX g)) True))))))))) (∃(g:Int×Nat×Int×Sl×cn×Nat×Int×Int×Nat×MH×PH),Iq (I2 g) (E g) (E e) cb p k (aA (dA e.1 g.1) (cJ e.2.1 g.2.1) (aA (dA e.2.2.1 g.2.2.1) (aW (uR
 e) (uR g)) (aA (eL 75) (dA (Lc e) (Lc g)) (aA (dA e.2.2.2.2.2.2.2.1 g.2.2.2.2.2.2.2.1) (aI k) (aA (bI k) (cJ (Ip e) (Ip g)) (aA (bN (uR e) (uR g)) (iH (bE (ID e) 1)=bP (ID g)) (aA (cV sc) (fU v) (aA kE (lW (iL (DZ e)) (DZ g)) (aA (iJ (zU e) (zU g)) (eO (zU e) (zU g)) True))))))))))))) (∃(g:Int×Nat×Int×Sl×cn×Nat×MH×PH),Iq (I1 g) (A g) (A f) cb p k (aA (dA e.1 g.1) (cJ e.2.1 g.2.1) (aA (dA e.2.2.1 g.2.2.1) (aW (uR e) (Cz g)) (aA (eL 75) (aI k) (aA (bI k) (iH (bE (Ip e) 1)=bP (Cy g)) (aA (cV sc) (fU v) (aA kE (lW (iL (DZ e)) (CA g)) (aA (iJ (zU e) (xX g)) (eO (zU
 e) (xX g)) True)))))))))))) (fC f.1 (kM sc) (∃(e:Int×Nat×MH×PH),Iq (I e) (M e) (M x) cb p k (aA (dA f.1 e.1) (iH (bE f.2.1 1)=bP e.2.1) (aA (cV sc) (fU v) (aA kE (iJ (xX f) e.2.2) (eO (xX f) e.2.2/\True))))) (aY (↑(iL (CA f)).length:Int) (aG k) (∃(e:Int×Nat×MH×PH),Iq (I e) (M e) (M x) cb p k (aA (dA f.1 e.1) (iH (bE f.2.1 1)=bP e.2.1) (aA (cV sc) (fU v) (aA kE (iJ (xX f) e.2.2) (eO (xX f) e.2.2/\True))))) (∃(t:Int),mG f.2.2.1 t/\rL cb 2 (Li f) (uQ f) (λc r=>∀(F:MH),bH (bV (Li f) F c) (bB F (uQ f) c) (branch r (CI (λn C H G u d=>aA (dE cb (dC (Cz f) (j3 p 1))=dE n (dC C (j3 H (↑d:Int))))
 (bB F (uQ f) n) (aA (Ints (uQ f) C G) (Ints (uQ f) H u) (aA (iB G) (iB u) (mY d/\FD (λj D=>fD (λE z=>bS (uQ f) z (fP z D j) (bH (Ch G u d D) (bV F E n) (pK E z n (cK z 21 (mC (Cq t)) (λJ L=>cK L 1 (iL (CA f)) (λO P=>cK P 21 (mC (bG (gZ 2) bF (bG (gZ j.op) (gZ j.cmp) (bG (zG j.left) (zI j.left) (bG (gZ (qL j.left)) (uC j.left) (Gm j pF (tX pF (aL J)))))))) (λQ R=>K (jO (bG (gZ 3) bF (bG bF bF (bG bF bF (bG bF bF (tY (dW O) (tX pF (aL Q)))))))) E R))))))))))))/\CI (λn C H G u d=>aA (dE cb (dC (Cz f) (j3 p 1))=dE n (dC C (j3 H (↑d:Int)))) (bB F (uQ f) n) (aA (Ints
 (uQ f) C G) (Ints (uQ f) H u) (aA (iB G) (iB u) (mY d/\FD (λj D=>fD (λE z=>bS (uQ f) z (fP z D j) (bH (Ch G u d D) (bV F E n) (pK E z n (cK z 21 (mC (Cq t)) (λJ L=>cK L 1 (iL (CA f)) (λO P=>cK P 21 (mC (bG (gZ 2) bF (bG (gZ j.op) (gZ j.cmp) (bG (zG j.left) (zI j.left) (bG (gZ (qL j.left)) (uC j.left) (Gm j pF (tX pF (aL J)))))))) (λQ R=>K (jO (bG (gZ 3) bF (bG bF bF (bG bF bF (bG bF bF (tY (dW O) (tX pF (aL Q)))))))) E R))))))))))))) (cK (uQ f) 1 (iL (CA f)) (λC z=>cK z 21 (mC (Cq t)) (λJ L=>K (jO (bG (gZ 3) bF (bG bF bF (bG bF bF (bG bF bF (tY (dW C) (tX
 pF (aL J)))))))) F L)))))))))) (CI (λc s t n u d=>aA (dE cb (dC k (j3 p 1))=dE c (dC s (j3 t (↑d:Int)))) (bB (qB x.2) (lO x.2) c) (aA (Ints (lO x.2) s n) (Ints (lO x.2) t u) (aA (iB n) (iB u) (mY d/\FD (λj D=>fD (λA B=>bS (lO x.2) B (fP B D j) (bH (Ch n u d D) (bV (qB x.2) A c) (pK A B c (cK B 21 (mC v.enc) (λC z=>K (jO (bG (gZ 2) bF (bG (gZ j.op) (gZ j.cmp) (bG (zG j.left) (zI j.left) (bG (gZ (qL j.left)) (uC j.left) (Gm j pF (tX pF (aL C)))))))) A z))))))))))/\CI (λc s t n u d=>aA (dE cb (dC k (j3 p 1))=dE c (dC s (j3 t (↑d:Int)))) (bB (qB x.2) (lO x.2) c) (aA (Ints (lO x.2) s n) (Ints (lO x.2) t u) (aA
 (iB n) (iB u) (mY d/\FD (λj D=>fD (λA B=>bS (lO x.2) B (fP B D j) (bH (Ch n u d D) (bV (qB x.2) A c) (pK A B c (cK B 21 (mC v.enc) (λC z=>K (jO (bG (gZ 2) bF (bG (gZ j.op) (gZ j.cmp) (bG (zG j.left) (zI j.left) (bG (gZ (qL j.left)) (uC j.left) (Gm j pF (tX pF (aL C)))))))) A z))))))))))))
theorem oL h:Ints h cH []:=⟨dH.nil _ _,ay⟩
theorem vM h:jD h cH []:=⟨dH.nil _ _,ay⟩
theorem vK h:jP h cH []:=⟨dH.nil _ _,ay⟩
theorem EI h:fP h gG jT:=QQ (v:=jT) rfl
theorem ER{h s v q}(r:dH h s 21 [QV.enc v])(c:dO h q v):Ef h s [q]:=⟨⟨[v],r,rfl,λi x e=>by
 grind⟩,ay⟩
theorem EO h t:dO h (.mk 1 t gG [] [] [] [] 0 []) ⟨1,t,jT,cH,cH,cH,cH,0,cH⟩:=
 uE.rep ⟨rfl,rfl,EI h,oL h,vM h,oL h,vK h,rfl,bM.nil _ _ _ _⟩
theorem Q6{v s q}(c:fP h p v)(d:Ef h s [q]):dO h (.mk 2 0 p [] [] [] [] 0 [q]) ⟨2,0,v,cH,cH,cH,cH,0,s⟩:=
 uE.rep ⟨rfl,rfl,c,oL h,vM h,oL h,vK h,rfl,d⟩
theorem N6{h c s cols q}(d:Ints h c cols)(e:Ef h s [q]):dO h (.mk 3 0 gG cols [] [] [] 0 [q]) ⟨3,0,jT,c,cH,cH,cH,0,s⟩:=
 uE.rep ⟨rfl,rfl,EI h,d,vM h,oL h,vK h,rfl,e⟩
theorem qY:Eh gG:=⟨tP,tP,trivial⟩
theorem Vh{op w on q}(c:Eh w)(d:QW q):QW (.mk op ta w co on gr od li [q]):=Mv.2 ⟨c,λa e=>bg⟩
theorem Kq t:QW (.mk 1 t gG [] [] [] [] 0 []):=Mv.2 ⟨qY,λa c=>by simp at c⟩
theorem aAX{a:Int}{n:Nat}(c:0<=a)(d:0<n):0<=a.tmod (n:Int)/\a.tmod (n:Int)<(n:Int):=by
 rw[Int.tmod_eq_emod_of_nonneg c];exact⟨Int.emod_nonneg _ aC,Int.emod_lt_of_pos _ aC⟩
theorem MJ{k op w on q}(c:arity op=1)(h:aJ s ps q=(k,0)):aJ s ps (.mk op ta w co on gr od li [q])=eZ s ps (.mk op ta w co on gr od li [q]) k []:=by
 have e:fX s ps [q]=([k],0):=vD (by simp[h]);simp[aJ,e,c]
theorem a0X{k c op w on q p}(d:arity op=2)(h:aJ s ps q=(k,0))(h':aJ s ps p=(c,0)):aJ s ps (.mk op ta w co on gr od li [q,p])=eZ s ps (.mk op ta w co on gr od li [q,p]) k c:=by
 have e:fX s ps [q,p]=([k,c],0):=vD (by simp[h,h']);simp[aJ,e,d]
theorem Lz(h:l.length<=12):nO l=(l,0):=if_pos h
theorem QR{s ps}{t:Int}(c:0<=t)(d:t<s.tables.length)(e:(kH s t).length<=12):aJ s ps (.mk 1 t gG [] [] [] [] 0 [])=(kH s t,0):=by
 have f:aJ s ps (.mk 1 t gG [] [] [] [] 0 [])=eZ s ps (.mk 1 t gG [] [] [] [] 0 []) [] []:=by simp[aJ,fX,arity]
 rw[f];unfold eZ;rw[if_neg (by simp[arity,cY])];dsimp only;rw[if_pos rfl,if_pos ⟨c,d⟩,Lz e]
theorem kinds_filter{k w q}(h:aJ s ps q=(k,0))(c:iP k ps w=0)(d:k.length<=12):aJ s ps (.mk 2 0 w [] [] [] [] 0 [q])=(k,0):=by
 rw[MJ az h];unfold eZ;rw[if_neg (by simp[arity,cY])];dsimp only;rw[if_neg az,if_pos rfl,if_pos c,Lz d]
theorem Sk{k q}(h:aJ s ps q=(k,0))(d:co≠[])(e:∀c∈co,C0 k c=true)(g:co.length<=12):aJ s ps (.mk 3 0 gG co [] [] [] 0 [q])=(co.map λc=>k.getD c.toNat 0,0):=by
 rw[MJ az h];unfold eZ;rw[if_neg (by simp[arity,cY])];dsimp only;rw[if_neg az,if_neg az,if_pos rfl,if_pos ⟨d,λj x f=>e x (bo f)⟩,Lz bg]
structure J3(kt ks co:cn):Prop where
 in_:∀c∈co,C0 kt c=true
 eq_:(co.map λc=>kt.getD c.toNat 0)=ks
theorem J3.kin{c ks q}(x:J3 c ks co)(h:aJ s ps q=(c,0))(d:ks≠[])(f:ks.length<=12):aJ s ps (.mk 3 0 gG co [] [] [] 0 [q])=(ks,0):=by
 have g:co.length=ks.length:=by rw[<-x.eq_,length_map]
 rw[Sk h (λe=>d (eq_nil_of_length_eq_zero bg)) x.in_ aC,x.eq_]
theorem J3.snoc{d}{ks:cn}{c x}(p:J3 d (ks.take i) co)(hx:ks[i]? =some x)(g:C0 d c=true)(e:d.getD c.toNat 0=x):J3 d (ks.take (i+1)) (co++[c]):=
 ⟨λy f=>by
  rcases mem_append.1 f with f|f
  .exact p.in_ y f
  grind,by rw[bu,p.eq_,cd,hx,map_cons,map_nil,e];rfl⟩
theorem bbX:cm 35 aNZ:=by
 refine jC func35 ?_;rintro c9 m h K ⟨cb,sc,p,k,v,s,ps,ks,q,rfl,hc,hs,h8,d',hp,a9,hk,a1,hq,b',hK⟩;refine⟨cpX cb sc p k v,rfl,aE MO (aE IN (aE Tp (aE E6 (aE MY aH)))),XX cb sc p k v m h K,by kernel_rfl,?_⟩;have d0:=hs.tables.slen;have b0:=hk.slen;have hw:IntKind.i64.wrap ((sc.tables.len:Int)+1)=(sc.tables.len:Int)+1:=fL aC aC;dsimp only[XX,push_cast];rw[hw];refine⟨cb,_,rfl,hc,λf V f0 f1 o1 c1=>?_⟩;refine⟨λ⟨f,n,E,o⟩=>0<=f/\f<=sc.tables.len/\n<=sc.tables.len/\PH.le h o/\bV m E cb/\bB E o cb,λ⟨_,n,_,_⟩=>sc.tables.len-n,⟨(f,0,V,h),⟨f0,aC,aC,.refl _,o1,c1⟩,MT⟩,?_⟩;clear f0 f1 o1 c1 V hw;rintro⟨f,n,V,o⟩ ⟨f0,f1,hn,z,o1,c1⟩;dsimp only
 have C:∀(kk:Sl)(kl:cn)(E:MH)(o:PH)(Q:PV->Pred->MH->PH->Prop),Ints o kk kl->kl.length<=1000->PH.le h o->bB E o cb->(∀v p m' h',PH.le o h'->fP h' p v->Ch kl ps 1 p->bV E m' cb->bB m' h' cb->Q v p m' h')->
  ∃(D:Nat)(s t:Sl)(cols u:cn)(deep:Nat),[CV.val (.pointer (some ⟨cb,0,none⟩)),CV.val (.slice kk.a kk.len kk.cap),CV.val (.slice p.a p.len p.cap),CV.val (.int .i64 1)]=[CV.val (.pointer (some ⟨D,0,none⟩)),CV.val (.slice s.a s.len s.cap),CV.val (.slice t.a t.len t.cap),CV.val (.int .i64 deep)]/\bB E o D/\Ints o s cols/\Ints o t u/\cols.length<=1000/\u.length<=1000/\deep<=1000/\
   ∀(v:PV)(p:Pred)(m':MH)(h':PH),PH.le o h'->fP h' p v->Ch cols u deep p->bV E m' D->bB m' h' D->Q v p m' h':=λkk kl E o Q h1 h2 H h4 h5=>
  ⟨cb,kk,p,kl,ps,1,rfl,h4,h1,hp.mono H,h2,a9,aC,λv p m' h' q1 q2 W q3 q4=>h5 v p m' h' q1 q2 W q3 q4⟩
 refine aF (λd1=>?_) (λd2=>?_)
 rotate_left
 .have fin:∀(w:PV)(p:Pred)(m':MH)(h':PH),PH.le o h'->fP h' p w->Ch ks ps 1 p->bV V m' cb->bB m' h' cb->∀(s:Sl)(c:PH),PH.le h' c->dH c s 21 [QV.enc v]->K (aQ ⟨2,0,w,cH,cH,cH,cH,0,s⟩) m' c:=λw p m' h' q1 q2 W q3 q4 s h2 S q6=>
   hK _ _ m' h2 ((z.trans q1).trans S) (Q6 (q2.mono S) (ER q6 (hq.mono ((z.trans q1).trans S)))) ⟨Vh W.vals b',λd hf=>hf.filter,λ_ X b3 _ I b4=>kinds_filter b4 (W.valid (by decide) b3 X) I⟩ (o1.trans q3) (q4.mono S)
  exact⟨C k ks V o _ (hk.mono z) a1 z c1 fin,C k ks V o _ (hk.mono z) a1 z c1 fin⟩
 have b5:IntKind.i64.wrap (f+(n:Int))=f+(n:Int):=fL aC aC;rw[b5];refine⟨aC,sc,s,_,rfl,hs.mono z,h8,λA h2 a2 F=>?_⟩;have a3:=F.slen;obtain⟨T,hT⟩:∃T,(f+(n:Int)).tmod (sc.tables.len:Int)=T:=⟨_,rfl⟩
 have a4:=aAX (a:=f+(n:Int)) (n:=sc.tables.len) aC aC;rw[hT]at F a3 a4⊢
 have b6:(kH s T).length<=8:=by
  unfold kH;split
  .simp
  .split
   .simp
   .rename_i t ht;simpa using h8 t (mem_of_getElem? ht)
 obtain⟨R,Y⟩:∃R,kH s T=R:=⟨_,rfl⟩
 have J:aJ s ps (.mk 1 T gG [] [] [] [] 0 [])=(R,0):=by rw[QR a4.1 aC aC,Y]
 have Z:cWJ s->OU R:=λx=>by rw[<-Y];exact x T
 rw[Y]at F a3 b6;refine⟨λ⟨f',n',t,B,cols,i,E,o⟩=>f'=f/\n'=n/\B=A/\t=T/\i<=ks.length/\cols.length<=i/\(cols.length=i->J3 R (ks.take i) cols)/\PH.le h2 o/\bV m E cb/\bB E o cb,λ⟨_,_,_,_,_,i,_,_⟩=>ks.length-i,⟨(f,n,T,A,[],0,V,h2),⟨rfl,rfl,rfl,rfl,aC,by simp,λ_=>⟨by simp,by simp⟩,.refl _,o1,c1.mono a2⟩,MT⟩,?_⟩;rintro⟨f',n',t,A,cols,i,m2,H⟩ ⟨rfl,rfl,rfl,rfl,hi,d3,b7,G,o2,c2⟩;dsimp only;have g:PH.le h H:=(z.trans a2).trans G;refine aF (λU=>?_) (λc6=>?_)
 .obtain⟨x,o⟩:=fK b0 U;obtain⟨b1,b8,e1,r1⟩:=(hk.mono g).at o;refine⟨b1,b8,e1,aC,U,x,.imm (by grind),cb,_,rfl,c2,λfr m3 d4 d5 o3 c3=>?_⟩;refine⟨λ⟨f2,n2,t2,B,a',i2,L,y,j,E,hy⟩=>f2=f'/\n2=n'/\B=A/\t2=t/\a'=cols/\i2=i/\L=x/\E=m3/\hy=H/\j<=A.len/\y=fr,λ⟨_,_,_,_,_,_,_,_,j,_,_⟩=>A.len-j,⟨(f',n',t,A,cols,i,x,fr,0,m3,H),⟨rfl,rfl,rfl,rfl,rfl,rfl,rfl,rfl,rfl,aC,rfl⟩,MT⟩,?_⟩;rintro⟨f2,n2,t2,A,cols,i,L,y,j,m3,H⟩ ⟨rfl,rfl,rfl,rfl,rfl,rfl,rfl,rfl,rfl,hj,rfl⟩;dsimp only;refine aF (λc7=>?_) (λc8=>⟨(f2,n2,t2,_,_,_,_,_),⟨rfl,rfl,rfl,rfl,by show i+1<=ks.length;omega,by show cols.length<=i+1;omega,λe=>by grind,G,o2.trans o3,c3⟩,by grind,MT⟩);have b9:IntKind.i64.wrap (y+(j:Int))=y+(j:Int):=fL aC aC;rw[b9];have hm:=aAX (a:=y+(j:Int)) (n:=Sl.len _) aC (show 0<A.len by omega);obtain⟨b2,c',e2,r2⟩:=(F.mono G).inb (n:=(y+(j:Int)).tmod (A.len:Int)) hm.1 aC;refine⟨aC,b2,c',e2,hm.1,hm.2,_,.imm (by simpa using r2),aD (λek=>⟨by simp;omega,by simp;omega,(f2,n2,t2,_,cols++[(y+(j:Int)).tmod (A.len:Int)],i+1,_,_),⟨rfl,rfl,rfl,rfl,by grind,by simp;omega,λe=>?_,G,o2.trans o3,c3⟩,by grind,?_⟩) (λ_=>⟨(f2,n2,t2,A,cols,i,L,y,j+1,m3,H),⟨rfl,rfl,rfl,rfl,rfl,rfl,rfl,rfl,rfl,by grind,rfl⟩,by grind,MT⟩)⟩
  .have e:(cols++[(y+(j:Int)).tmod (A.len:Int)]).length=i+1:=e;rw[length_append]at e;exact(b7 (by simpa using e)).snoc o (by simp only[C0,Bool.and_eq_true,decide_eq_true_eq];omega) (by grind)
  .rw[map_append];exact MT
 .have a5:n'+1<=sc.tables.len:=by omega
  have d6:i=ks.length:=by omega
  refine aD (λ_=>⟨(f',n'+1,m2,H),⟨f0,f1,a5,g,o2,c2⟩,by grind,MT⟩) (λ_=>aF (λ_=>⟨(f',n'+1,m2,H),⟨f0,f1,a5,g,o2,c2⟩,by grind,MT⟩) (λd7=>⟨t,rfl,cb,2,rfl,aC,aC,c2,λr m4 o4 c4=>?_⟩))
  have M:J3 R ks cols:=by
   grind
  refine aD (λ_=>?_) (λ_ s1 h5 a6 r5 s2 h6 a0 r6=>?_)
  .have fin:∀(w:PV)(p:Pred)(m':MH)(h':PH),PH.le H h'->fP h' p w->Ch R ps 1 p->bV m4 m' cb->bB m' h' cb->∀(s:Sl)(c:PH),PH.le h' c->dH c s 21 [QV.enc ⟨1,t,jT,cH,cH,cH,cH,0,cH⟩]->∀(a7:Sl)(O:PH),PH.le c O->dH O a7 1 (cols.map eI)->∀(a8:Sl)(P:PH),PH.le O P->dH P a8 21 [QV.enc ⟨2,0,w,cH,cH,cH,cH,0,s⟩]->K (aQ ⟨3,0,jT,a7,cH,cH,cH,0,a8⟩) m' P:=λw p m' h' q1 q2 W q3 q4 s h5 S q6 s1 h6 q7 q8 s2 h7 q9 c0=>
    hK _ _ m' h7 ((((g.trans q1).trans S).trans q7).trans q9) (N6 (cols:=cols) ⟨q8.mono q9,aC⟩ (ER c0 (Q6 (q2.mono ((S.trans q7).trans q9)) (ER (q6.mono (q7.trans q9)) (EO _ t))))) ⟨Vh qY (Vh W.vals (Kq t)),λd _=>Wg.three d (uD.one (uD.one uD.scan (by decide)) (by decide)),λc5 X _ hn I _=>M.kin (kinds_filter J (W.valid (by decide) (Z c5) X) aC) hn I⟩ ((o2.trans o4).trans q3) (q4.mono ((S.trans q7).trans q9))
   exact⟨C A R m4 H _ (F.mono G) aC g c4 fin,C A R m4 H _ (F.mono G) aC g c4 fin⟩
  .exact hK _ _ m4 h6 ((g.trans a6).trans a0) (N6 (cols:=cols) ⟨r5.mono a0,aC⟩ (ER (v:=⟨1,t,jT,cH,cH,cH,cH,0,cH⟩) r6 (EO _ t))) ⟨Vh qY (Kq t),λd _=>Wg.three d (uD.mono (uD.one uD.scan (by decide)) (by decide) (by decide) (by decide)),λ_ _ _ hn I _=>M.kin J hn I⟩ (o2.trans o4) (c4.mono (a6.trans a0))
def KQ2(K:cq)(m:MH)(h:PH)(cb:Nat)(s:jZ)(ps:cn)(d:Nat):=∀w q m' h',PH.le h h'->dO h' q w->QW q->DH d q->(eH s ps q).2=0->bV m m' cb->bB m' h' cb->K (aQ w) m' h'
def axX N:=λc m h K=>∃cb sc p s ps deep,c=[cP cb,aS sc,cS p,cI deep]/\bB m h cb/\iU h s sc/\eX s=0/\s.tables≠[]/\Ints h p ps/\ps.length<=1000/\ps.all iA=true/\ -1<=deep/\deep<=1000/\(deep+1).toNat<N/\KQ2 K m h cb s ps deep.toNat
noncomputable def cxX(N cb:Nat)(sc:bT)(p:Sl):=
 qD [(19,Mb),(33,bZZ),(26,OE),(34,b1J),(35,aNZ),(36,cDZ),(27,GK),(10,axX N)] [(11,{A:=QV×QV×Sl×Int×MH×PH,st:=λ⟨a,q,k,n,m,h⟩=>bY 171 175 [(0,pv cb),(2,sv p),(5,.at (.ptr 5 0)),(8,.at (.ptr 8 0)),(10,.at (.ptr 10 0)),(11,sv k),(13,.at (.ptr 13 0)),(14,iv n)] [(5,.cells 27 (sc.enc.map .val)),(8,.cells 41 (Ek.enc.map .val)),(10,.cells 41 (a.enc.map .val)),(13,.cells 41 (q.enc.map .val))] m h})] [(7,{A:=Int×Int×QV×QV×Sl×MH×PH,st:=λ⟨d,op,a,q,k,m,h⟩=>bY 171 175 [(0,pv cb),(2,sv p),(3,iv d),(5,.at (.ptr 5 0)),(8,.at (.ptr 8 0)),(9,iv op),(10,.at (.ptr 10 0)),(11,sv k),(13,.at (.ptr 13 0))] [(5,.cells 27 (sc.enc.map .val)),(8,.cells 41 (Ek.enc.map .val)),(10,.cells 41 (a.enc.map .val)),(13,.cells 41 (q.enc.map .val))] m h}),
  (16,{A:=Int×Int×QV×QV×Sl×Bool×MH×PH,st:=λ⟨d,op,a,q,k,t,m,h⟩=>bY 171 175 [(0,pv cb),(2,sv p),(3,iv d),(5,.at (.ptr 5 0)),(8,.at (.ptr 8 0)),(9,iv op),(10,.at (.ptr 10 0)),(11,sv k),(13,.at (.ptr 13 0)),(59,iv op),(84,bv t)] [(5,.cells 27 (sc.enc.map .val)),(8,.cells 41 (Ek.enc.map .val)),(10,.cells 41 (a.enc.map .val)),(13,.cells 41 (q.enc.map .val))] m h}),
  (24,{A:=Int×QV×QV×Sl×Bool×MH×PH,st:=λ⟨op,a,q,k,t,m,h⟩=>bY 171 175 [(0,pv cb),(2,sv p),(5,.at (.ptr 5 0)),(8,.at (.ptr 8 0)),(10,.at (.ptr 10 0)),(11,sv k),(13,.at (.ptr 13 0)),(59,iv op),(122,bv t)] [(5,.cells 27 (sc.enc.map .val)),(8,.cells 41 (Ek.enc.map .val)),(10,.cells 41 (a.enc.map .val)),(13,.cells 41 (q.enc.map .val))] m h}),
  (20,{A:=QV×QV×QV×Sl×Sl×MH×PH,st:=λ⟨a,b,q,k,l,m,h⟩=>bY 171 175 [(0,pv cb),(2,sv p),(5,.at (.ptr 5 0)),(8,.at (.ptr 8 0)),(10,.at (.ptr 10 0)),(11,sv k),(13,.at (.ptr 13 0)),(15,.at (.ptr 15 0)),(16,sv l)] [(5,.cells 27 (sc.enc.map .val)),(8,.cells 41 (Ek.enc.map .val)),(10,.cells 41 (a.enc.map .val)),(13,.cells 41 (q.enc.map .val)),(15,.cells 41 (b.enc.map .val))] m h}),
  (30,{A:=QV×QV×MH×PH,frz:=true,st:=λ⟨a,q,m,h⟩=>bY 171 175 [(2,sv p),(5,.at (.ptr 5 0)),(8,.at (.ptr 8 0)),(10,.at (.ptr 10 0)),(13,.at (.ptr 13 0))] [(5,.cells 27 (sc.enc.map .val)),(8,.cells 41 (Ek.enc.map .val)),(10,.cells 41 (a.enc.map .val)),(13,.cells 41 (q.enc.map .val))] m h})] [] [39,1039,1036] [] false
abbrev IF(a:QV->Query->Prop):=∀(x:QV)(c:Query),a x c
abbrev FY(a:dk)(b:PH)(c:jZ->cn->Query->Prop):=Ex (λx d=>∃(e:QV),EA (λf g=>∃(j:Query),aA (a=cE (cC x) (gO d (cM e))) (iU b f x) (aA (Ints b d g) (dO b j e) (c f g j))))
abbrev Le(a:Int×Int×QV×QV×Sl×MH×PH):=a.2.2.2.2.1
abbrev jI(a b:QV):=qM 41 a.enc=qM 41 b.enc
abbrev zN(a:dm)(b:QV):=oQ 41 a=qM 41 b.enc
abbrev Pl a b:=gU iN iN (gU (kL a) iN (gU aQz iN (gU (kL a) iN (gU iN aQz (gU J1 J1 (gU J1 J1 (gU J1 iN b)))))))
abbrev Bw(a:Int×Int×QV×QV×Sl×MH×PH):=a.2.2.2.2.2
abbrev D0 a b c d e:=aA a (cX b) (aA (aI c) fT (aA iT oO (aA d nZ e)))
abbrev yB(a:QV×QV×Sl×Int×MH×PH):=a.2.2.2.2
abbrev Vn(a:QV×QV×Sl×Int×MH×PH):=a.2.1.columns
abbrev zW(a:QV×QV×MH×PH):=a.2.2.1
abbrev Ab(a:QV×QV×MH×PH):=a.2.2.2
abbrev oU(a:Int×QV×QV×Sl×Bool×MH×PH):=a.2.2.2.1
abbrev D1(a:Int×QV×QV×Sl×Bool×MH×PH):=a.2.2.2.2.1
abbrev qU(a:Int×QV×QV×Sl×Bool×MH×PH):=a.2.1
abbrev sO(a:Int×QV×QV×Sl×Bool×MH×PH):=a.2.2.1
abbrev rA(a:Int×QV×QV×Sl×Bool×MH×PH):=a.2.2.2.2.2
abbrev nJ a:=(rA a).2
abbrev lS(a:QV×QV×QV×Sl×Sl×MH×PH):=a.2.2.2
abbrev u6(a:QV×QV×QV×Sl×Sl×MH×PH):=a.2.2.1
abbrev Ln a:=(u6 a).args
abbrev Pk(a:Int×Int×QV×QV×Sl×Bool×MH×PH)(b:Int×QV×QV×Sl×Bool×MH×PH)(c:Prop)(d:bT):=aA (dA a.2.1 b.1) c (aA (cV d) kE (aA (jI (qU a.2) (qU b)) (jI (sO a.2) (sO b)) (aA (iJ (rA a.2) (rA b)) (eO (rA a.2) (rA b)) True)))
attribute [push_cast] IF FY Le jI zN Pl Bw D0 yB Vn zW Ab oU D1 qU sO rA nJ lS u6 Ln Pk
def Yv(N cb:Nat)(sc:bT)(p:Sl)(deep:Int)(m:MH)(h:PH)(K:cq):=
  mS cb 12 m h (λk Z=>aY deep 1 (mS cb (ite (kM sc>1) (kM sc) 1) Z h (λF V=>∃(t:Int),mG F t/\K (jO (Cq t)) V h)) (dQ (iF (1+k)==1) (mS cb (ite (kM sc>1) (kM sc) 1) Z h (λF V=>∃(t:Int),mG F t/\K (jO (Cq t)) V h)) (kM sc==0) (mS cb (ite (kM sc>1) (kM sc) 1) Z h (λF V=>∃(t:Int),mG F t/\K (jO (Cq t)) V h)) (∃(c:Nat),Ex (λs p1=>EA (λs1 p2=>∃(d:Int),aA (dE cb (cE (cC sc) (j3 p (iF (deep-1))))=dE c (cE (cC s) (j3 p1 d))) (bB Z h c) (aA (iU h s1 s) (eX s1=0) (aA (mW (s1.tables=[])) (Ints h p1 p2) (aA (iB p2) (iX (Ev p2)) (aA (Int.negSucc 0<=d) (d<=1000) ((d+1).toNat<N/\IF (λw q=>fD (λV h1=>bS h h1 (dO h1 q w)
 (bH (QW q) (DH d.toNat q) (bH ((eH s1 p2 q).2=0) (bV Z V c) (pK V h1 c (FY (cE (cC sc) (gO p (cM w))) h1 (λs2 p3 q1=>∀(s3:Sl)(h2:PH),bS h1 h2 (Ints h2 s3 (eH s2 p3 q1).1) (∃(I:Int×Int×QV×QV×Sl×MH×PH->Prop),jW (λB u=>sE V u h2 B 41 21 (mC w.enc)->∃(x:Int×Int×QV×QV×Sl×MH×PH),aA (I x) (cX cb) (aA (aI p) (dA deep x.1) (aA fT iT (aA (dA (iF (1+k)) x.2.1) oO (aA (aW s3 (Le x)) nZ (aA (cV sc) kE (aA (jI w x.2.2.1) (zN (gU (kL (iF (1+k))) iN (gU (kL 0) iN (Pl 0 (uH (yY B))))) x.2.2.2.1) (aA (bO u (Bw x)) (cF h2 (Bw x)) True))))))))/\∀(x:Int×Int×QV×QV×Sl×MH×PH),I x->∃(I1:QV×QV×MH×PH->Prop),fC x.2.1 3 (mS cb 3 (Bw
 x).1 (Bw x).2 (λF u=>∃(I2:QV×QV×Sl×Int×MH×PH->Prop)(A:QV×QV×Sl×Int×MH×PH->Nat),(∃(f:QV×QV×Sl×Int×MH×PH),D0 (I2 f) cb p (aW (Le x) f.2.2.1) (aA (dA F f.2.2.2.1) (cV sc) (aA kE (jI x.2.2.1 f.1) (aA (jI x.2.2.2.1 f.2.1) (bO u (yB f)) (eO (Bw x) (yB f)/\True)))))/\∀(f:QV×QV×Sl×Int×MH×PH),I2 f->iO f.2.2.2.1 0 (mS cb (aG f.2.2.1) (yB f).1 (yB f).2 (λP D=>∃(e:List cr),aA (cL D (dL (Vn f)) 3 1 e) (A5 e) (eA e/\jW (λB M=>gK D M (dL (Vn f)) B 3 1 (dP e (bC P))->∃(n:QV×QV×Sl×Int×MH×PH),aA (I2 n) (A n<A f) (aA (cX cb) (aI p) (aA fT iT (aA oO (aW f.2.2.1 n.2.2.1) (aA nZ (dA
 (iF (f.2.2.2.1-1)) n.2.2.2.1) (aA (cV sc) kE (aA (jI f.1 n.1) (zN (gU (kL f.2.1.op) (zJ f.2.1) (pQ f.2.1.where_ (gU (yY B) (yY f.2.1.on) (gU (En f.2.1) (Eo f.2.1) (pA (kL f.2.1.limit) (yY f.2.1.args)))))) n.2.1) (aA (bO M (yB n)) (eO (yB f) (yB n)) True))))))))))) (Fi (yB f).1 (yB f).2->∃(e:QV×QV×MH×PH),aA (I1 e) (aI p) (aA (eP 5) iT (aA oO nZ (aA (cV sc) kE (aA (jI f.1 e.1) (jI f.2.1 e.2.1) (G1 (yB f).1 (yB f).2 (zW e) (Ab e)/\True)))))))) (∃(I2:Int×Int×QV×QV×Sl×Bool×MH×PH->Prop),fC x.2.1 4 (∃(f:Int×Int×QV×QV×Sl×Bool×MH×PH),aA (I2 f) (cX cb) (aA (aI p) (dA x.1 f.1) (aA fT iT (aA (dA x.2.1 f.2.1) oO (aA (aW
 (Le x) (oU f.2)) nZ (aA (dA x.2.1 f.2.1) (yL (D1 f.2)) (aA (cV sc) kE (aA (jI x.2.2.1 (qU f.2)) (jI x.2.2.2.1 (sO f.2)) (aA (iJ (Bw x) (rA f.2)) (eO (Bw x) (rA f.2)) True))))))))) (∃(f:Int×Int×QV×QV×Sl×Bool×MH×PH),aA (I2 f) (cX cb) (aA (aI p) (dA x.1 f.1) (aA fT iT (aA (dA x.2.1 f.2.1) oO (aA (aW (Le x) (oU f.2)) nZ (aA (dA x.2.1 f.2.1) (kN (x.2.1==5) (D1 f.2)) (aA (cV sc) kE (aA (jI x.2.2.1 (qU f.2)) (jI x.2.2.2.1 (sO f.2)) (aA (iJ (Bw x) (rA f.2)) (eO (Bw x) (rA f.2)) True)))))))))/\∀(f:Int×Int×QV×QV×Sl×Bool×MH×PH),gS (I2 f) (D1 f.2) (∃(z:Nat),Ex (λB H=>EA (λG J=>∃(Q:Int),
 aA (dE cb (cE (cC sc) (j3 p (iF (f.1-2))))=dE z (cE (cC B) (j3 H Q))) (bB (rA f.2).1 (nJ f.2) z) (aA (iU (nJ f.2) G B) (eX G=0) (aA (mW (G.tables=[])) (Ints (nJ f.2) H J) (aA (iB J) (iX (Ev J)) (aA (Int.negSucc 0<=Q) (Q<=1000) ((Q+1).toNat<N/\IF (λS L=>fD (λu j=>bS (nJ f.2) j (dO j L S) (bH (QW L) (DH Q.toNat L) (bH ((eH G J L).2=0) (bV (rA f.2).1 u z) (pK u j z (FY (cE (cC sc) (gO p (cM S))) j (λW p6 Y=>∀(T:Sl)(R:PH),bS j R (Ints R T (eH W p6 Y).1) (∃(I3:QV×QV×QV×Sl×Sl×MH×PH->Prop),fC f.2.1 4 (gA (iF (aG (oU f.2)+aG T)) 8 (∃(e:QV×QV×QV×Sl×Sl×MH×PH),D0 (I3 e) cb p (aW
 (oU f.2) (lS e).1) (aA (eP 15) (aW T (fF (lS e))) (aA (cV sc) kE (aA (jI (qU f.2) e.1) (zN (gU (kL 5) (zJ (sO f.2)) (yC (sO f.2) (sO f.2).on (En (sO f.2)) (Eo (sO f.2)) (pA (kL (sO f.2).limit) (yY (sO f.2).args)))) (u6 e)) (aA (jI S e.2.1) (bO u (iW (lS e))) (kY (cF R (iW (lS e))))))))) (∃(e:QV×QV×QV×Sl×Sl×MH×PH),D0 (I3 e) cb p (aW (oU f.2) (lS e).1) (aA (eP 15) (aW T (fF (lS e))) (aA (cV sc) kE (aA (jI (qU f.2) e.1) (jI (sO f.2) (u6 e)) (aA (jI S e.2.1) (bO u (iW (lS e))) (kY (cF R (iW (lS e)))))))))) (∃(e:QV×QV×QV×Sl×Sl×MH×PH),D0 (I3 e) cb p (aW (oU f.2) (lS e).1) (aA
 (eP 15) (aW T (fF (lS e))) (aA (cV sc) kE (aA (jI (qU f.2) e.1) (jI (sO f.2) (u6 e)) (aA (jI S e.2.1) (bO u (iW (lS e))) (kY (cF R (iW (lS e)))))))))/\∀(e:QV×QV×QV×Sl×Sl×MH×PH),I3 e->(∃(E:Nat)(X:Sl),yQ (λt a b=>aA (dE cb (cD (lS e).1 (fF (lS e)))=dE E (cD X t)) (bB (fM (lS e)) (dD (lS e)) E) (aA (Ints (dD (lS e)) X a) (Ints (dD (lS e)) t b) (aA (iB a) (iB b) (∀(o:Sl)(U:cu),fD (λA O=>bS (dD (lS e)) O (jD O o U) (bH (U.length<=10) (bV (fM (lS e)) A E) (pK A O E (jW (λs9 D=>sE A D O s9 41 21 (mC e.2.1.enc)->∃(n:List cr),FF (cL D (dL (Ln e)) 41 21
 n) (λy=>aA (gC 21 y) (vI D O (dL s9) 21 y) (aA (sQ n y 280) (sR n y) (∀(a1:Sl)(M:MH),bH (gK D M (dL (Ln e)) a1 41 21 (n++y)) (Fi M O) (∃(C:QV×QV×MH×PH),aA (I1 C) (aI p) (aA (eP 5) iT (aA oO nZ (aA (cV sc) kE (aA (jI e.1 C.1) (zN (gU (kL (u6 e).op) (zJ (u6 e)) (yC (u6 e) o (En (u6 e)) (Eo (u6 e)) (pA (kL (u6 e).limit) (yY a1)))) C.2.1) (G1 M O (zW C) (Ab C)/\True)))))))))))))))))))/\jW (λX A=>sE (fM (lS e)) A (dD (lS e)) X 41 21 (mC e.2.1.enc)->∃(E:Nat)(s9:Sl),yQ (λt a b=>aA (dE cb (cD (lS e).1 (fF (lS e)))=dE E (cD s9 t)) (bB A (dD (lS e)) E) (aA (Ints (dD (lS e)) s9 a) (Ints
 (dD (lS e)) t b) (aA (iB a) (iB b) (∀(o:Sl)(U:cu),fD (λD O=>bS (dD (lS e)) O (jD O o U) (bH (U.length<=10) (bV A D E) (pK D O E (∃(n:List cr),FF (cL D (dL (Ln e)) 41 21 n) (λy=>aA (gC 21 y) (vI D O (dL X) 21 y) (aA (sQ n y 280) (sR n y) (∀(a1:Sl)(M:MH),bH (gK D M (dL (Ln e)) a1 41 21 (n++y)) (Fi M O) (∃(C:QV×QV×MH×PH),aA (I1 C) (aI p) (aA (eP 5) iT (aA oO nZ (aA (cV sc) kE (aA (jI e.1 C.1) (zN (gU (kL (u6 e).op) (zJ (u6 e)) (yC (u6 e) o (En (u6 e)) (Eo (u6 e)) (pA (kL (u6 e).limit) (yY a1)))) C.2.1) (G1 M O (zW C) (Ab C)/\True)))))))))))))))))))))))))))))))))) (∃(I3:Int
 ×QV×QV×Sl×Bool×MH×PH->Prop),dQ (f.2.1==6) (∃(e:Int×QV×QV×Sl×Bool×MH×PH),D0 (I3 e) cb p (aW (oU f.2) (oU e)) (Pk f e (yL (D1 e)) sc)) (f.2.1==7) (∃(e:Int×QV×QV×Sl×Bool×MH×PH),D0 (I3 e) cb p (aW (oU f.2) (oU e)) (Pk f e (yL (D1 e)) sc)) (∃(e:Int×QV×QV×Sl×Bool×MH×PH),D0 (I3 e) cb p (aW (oU f.2) (oU e)) (Pk f e (kN (f.2.1==8) (D1 e)) sc))/\∀(e:Int×QV×QV×Sl×Bool×MH×PH),I3 e->dQ (D1 e) (∃(z:Nat)(B:bT),rC (λH F=>∃(v:QV),EA (λG J=>∃(P:cn)(L:Query),aA (dE cb (cE (cC sc) (dC p (gO (oU e) (cM (qU e)))))=dE z (cE (cC B) (dC H (gO F (cM v))))) (bB (rA e).1
 (nJ e) z) (aA (iU (nJ e) G B) (oM G) (aA (mY G.tables.length) (Ints (nJ e) H J) (aA (iB J) (Ints (nJ e) F P) (aA (iB P) (dO (nJ e) L v) (QW L/\IF (λS Y=>fD (λu j=>bS (nJ e) j (dO j Y S) (bH (bYX G J P L Y) (bV (rA e).1 u z) (pK u j z (jW (λW A=>sE u A j W 41 21 (mC S.enc)->∃(n:List cr),FF (cL A (dL (sO e).args) 41 21 n) (λy=>aA (gC 21 y) (vI A j (dL W) 21 y) (aA (sQ n y 280) (sR n y) (∀(T:Sl)(D:MH),bH (gK A D (dL (sO e).args) T 41 21 (n++y)) (Fi D j) (∃(C:QV×QV×MH×PH),aA (I1 C) (aI p) (aA (eP 5) iT (aA oO nZ (aA (cV sc) kE (aA (jI (qU e) C.1) (zN (qQ (sO e) (yY T))
 C.2.1) (G1 D j (zW C) (Ab C)/\True))))))))))))))))))))))) (e.1==9) (∃(z:Nat)(v:QV),rY (λB F=>aA (dE cb (lT (sO e) (oU e))=dE z (eU (vT v v (v7 v (bG (dW v.on) pF (bG pF (uT v) (aL v.args))))) (nW B))) (bB (rA e).1 (nJ e) z) (aA (Ints (nJ e) B F) (iB F) (∀(g o:Sl)(P:Int)(g1:cn)(U:cv),fD (λu j=>bS (nJ e) j (Ints j g g1) (bH (jP j o U) (g1.length<=F.length) (bH (U.length<=F.length) (cN P) (bH (P<=3) (bV (rA e).1 u z) (bH (bB u j z) (Fi u j) (∃(n:QV×QV×MH×PH),aA (I1 n) (aI p) (aA (eP 5) iT (aA oO nZ (aA (cV sc) kE (aA (jI (qU e) n.1) (zN (gU (kL v.op) (zJ v) (yC v v.on (yY g) (yY o)
 (pA (kL P) (yY v.args)))) n.2.1) (G1 u j (zW n) (Ab n)/\True))))))))))))))) (fC e.1 10 (∃(z:Nat)(v:QV),rY (λB F=>aA (dE cb (lT (sO e) (oU e))=dE z (eU (vT v v (v7 v (bG (dW v.on) pF (bG pF (uT v) (aL v.args))))) (nW B))) (bB (rA e).1 (nJ e) z) (aA (Ints (nJ e) B F) (iB F) (∀(g o:Sl)(P:Int)(g1:cn)(U:cv),fD (λu j=>bS (nJ e) j (Ints j g g1) (bH (jP j o U) (g1.length<=F.length) (bH (U.length<=F.length) (cN P) (bH (P<=3) (bV (rA e).1 u z) (pK u j z (∃(E:Nat)(G:bT),rC (λH k3=>∃(v1:QV),EA (λW J=>∃(k4:cn)(L:Query),aA (dE cb (cE (cC sc) (dC p (gO (oU e) (cM (qU e)))))=
 dE E (cE (cC G) (dC H (gO k3 (cM v1))))) (bB u j E) (aA (iU j W G) (oM W) (aA (mY W.tables.length) (Ints j H J) (aA (iB J) (Ints j k3 k4) (aA (iB k4) (dO j L v1) (QW L/\IF (λS Y=>fD (λA R=>bS j R (dO R Y S) (bH (bYX W J k4 L Y) (bV u A E) (pK A R E (jW (λT D=>sE A D R T 41 21 (mC S.enc)->∃(n:List cr),FF (cL D (dL v.args) 41 21 n) (λy=>aA (gC 21 y) (vI D R (dL T) 21 y) (aA (sQ n y 280) (sR n y) (∀(X:Sl)(M:MH),bH (gK D M (dL v.args) X 41 21 (n++y)) (Fi M R) (∃(C:QV×QV×MH×PH),aA (I1 C) (aI p) (aA (eP 5) iT (aA oO nZ (aA (cV sc) kE (aA (jI (qU e) C.1) (zN (gU (kL v.op) (zJ v) (yC
 v v.on (yY g) (yY o) (pA (kL P) (yY X)))) C.2.1) (G1 M R (zW C) (Ab C)/\True)))))))))))))))))))))))))))))))) (CI (λz B t E H Q=>aA (dE cb (dC (oU e) (j3 p 2))=dE z (dC B (j3 t (↑Q:Int)))) (bB (rA e).1 (nJ e) z) (aA (Ints (nJ e) B E) (Ints (nJ e) t H) (aA (iB E) (iB H) (mY Q/\FD (λv J=>fD (λu j=>bS (nJ e) j (fP j J v) (bH (Ch E H Q J) (bV (rA e).1 u z) (pK u j z (∀(G:Sl)(A:MH),bH (sE u A j G 41 21 (mC (qU e).enc)) (Fi A j) (∃(n:QV×QV×MH×PH),aA (I1 n) (aI p) (aA (eP 5) iT (aA oO nZ (aA (cV sc) kE (aA (jI (qU e) n.1) (zN (gU (kL 2) iN (pQ v (gU J1 J1 (gU J1 J1 (pA iN (yY G))))))
 n.2.1) (G1 A j (zW n) (Ab n)/\True)))))))))))))))/\jW (λB u=>sE (rA e).1 u (nJ e) B 41 21 (mC (qU e).enc)->CI (λz G t E H Q=>aA (dE cb (dC (oU e) (j3 p 2))=dE z (dC G (j3 t (↑Q:Int)))) (bB u (nJ e) z) (aA (Ints (nJ e) G E) (Ints (nJ e) t H) (aA (iB E) (iB H) (mY Q/\FD (λv J=>fD (λA j=>bS (nJ e) j (fP j J v) (bH (Ch E H Q J) (bV u A z) (bH (bB A j z) (Fi A j) (∃(n:QV×QV×MH×PH),aA (I1 n) (aI p) (aA (eP 5) iT (aA oO nZ (aA (cV sc) kE (aA (jI (qU e) n.1) (zN (gU (kL 2) iN (pQ v (gU J1 J1 (gU J1 J1 (pA iN (yY B)))))) n.2.1) (G1 A j (zW n) (Ab n)/\True)))))))))))))))))))
 /\∀(f:QV×QV×MH×PH),I1 f->FY (cE (cC sc) (gO p (cM f.2.1))) (Ab f) (λB H L=>∀(G:Sl)(j:PH),bS (Ab f) j (Ints j G (eH B H L).1) (dR (eH B H L).2 0 (K (cM f.1) (zW f) j) (K (cM f.2.1) (zW f) j)))))))))))))))))))))
structure uZ(m0 m:MH)(s:Sl)(E:TypeId)(sz:Nat)(xs:List cr):Prop where
 row:cL m s E sz xs
 fresh:∀b i,s.a=some ⟨b,i,none⟩->m0 b=none
def Kept(m0 m:MH)(cb:Nat):=∀b o,m0 b=some o->b≠cb->m b=some o
theorem Kept.of{m0}(h:bV m0 m cb):Kept m0 m cb:=λb o e n=>by rw[h.other b n];exact e
theorem Kept.on{m0}(k:Kept m0 m cb)(h:bV m m' cb):Kept m0 m' cb:=λb o e n=>by rw[h.other b n];exact k b o e n
theorem bB.blk(c:bB m h cb):∃cs,m cb=some (.cells cs 86 (0,0)):=by
 obtain⟨r,q,cs,k,d,_⟩:=c
 grind
theorem bB.keep(c:bB m h cb)(e:m' cb=m cb)(le:PH.le h h'):bB m' h' cb:=by
 obtain⟨r,q,d,k,j,f,g⟩:=c;exact⟨r,q,d,k,bg,f.mono le,g⟩
theorem Kept.free{m0}(k:Kept m0 m cb)(c:bB m h cb)(d:m b=none):m0 b=none:=by
 cases e:m0 b with
 |none=>rfl
 |some o=>
  by_cases f:b=cb
  .obtain⟨g,j⟩:=c.blk
   grind
  .rw[k b o e f]at d;cases d
theorem cL.nil m E sz:cL m cH E sz []:=⟨⟨λ_ h=>by simp at h,λ_ h=>by simp at h⟩,.inl ⟨rfl,rfl⟩⟩
theorem uZ.nil m0 m E sz:uZ m0 m cH E sz []:=⟨cL.nil m E sz,λb i e=>by cases e⟩
theorem uZ.on{m0 s E}(r:uZ m0 m s E sz xs)(o:bV m m' cb)(c:bB m h cb)(f:E≠86):uZ m0 m' s E sz xs:=by
 refine⟨cL.keep r.row (λb i e=>o.other b (λg=>?_)),r.fresh⟩;obtain⟨d,j⟩:=cL.blk r.row e;obtain⟨n,u⟩:=c.blk
 grind
theorem uZ.new{m0 s t E E' c f}(r:uZ m0 m s E sz xs)(x:sE m m' h t E' c f):uZ m0 m' s E sz xs:=by
 refine⟨cL.keep r.row (λb i e=>x.other b (λj g=>?_)),r.fresh⟩;obtain⟨n,d⟩:=cL.blk r.row e;rw[(x.fresh b j g).m_]at d;cases d
theorem sE.frow{m0 s E}(x:sE m m' h s E sz xs)(k:Kept m0 m cb)(c:bB m h cb):uZ m0 m' s E sz xs:=⟨x.row,λb i e=>k.free c (x.fresh b i e).m_⟩
theorem sE.at_cb{s E}(x:sE m m' h s E sz xs)(c:bB m h cb):m' cb=m cb:=x.other cb (λi e=>by
 obtain⟨f,d⟩:=c.blk;rw[(x.fresh cb i e).m_]at d;cases d)
theorem Kept.new{m0 s E}(k:Kept m0 m cb)(x:sE m m' h s E sz xs):Kept m0 m' cb:=λb o e n=>by
 rw[x.other b (λi c=>by have:=(x.fresh b i c).m_;rw[k b o e n]at this;cases this)];exact k b o e n
theorem uZ.grown{m0 s f E g}(r:uZ m0 m s E sz xs)(x:gK m m' s f E sz g)(k:Kept m0 m cb)(c:bB m h cb):uZ m0 m' f E sz g:=
 ⟨x.row,λb i e=>by
  rcases x.fresh b i e with d|⟨j,d⟩
  .exact k.free c d
  .exact r.fresh b j d⟩
theorem uZ.apart{m0 s t g E E' c n o}(r:uZ m0 m s E sz xs)(q:uZ m0 m t E' c n)(x:gK m m' t g E' c o)(z:E≠E'):uZ m0 m' s E sz xs:=by
 refine⟨cL.keep r.row (λb i e=>?_),r.fresh⟩;obtain⟨u,d⟩:=cL.blk r.row e;rw[d];refine x.other b _ d (λj y=>?_);obtain⟨f,A⟩:=cL.blk q.row y
 grind
theorem Kept.grown{m0 s c E d}(k:Kept m0 m cb)(r:uZ m0 m s E sz xs)(x:gK m m' s c E sz d):Kept m0 m' cb:=λb o e n=>x.other b o (k b o e n) (λi f=>by rw[r.fresh b i f]at e;cases e)
theorem gK.at_cb{m0 s d E f}(x:gK m m' s d E sz f)(r:uZ m0 m s E sz xs)(c:bB m h cb)(n:E≠86):m' cb=m cb:=by
 obtain⟨o,e⟩:=c.blk;rw[e];refine x.other cb _ e (λi g=>?_);obtain⟨j,u⟩:=cL.blk r.row g
 grind
theorem brQ{sz:Nat}:∀{xs:List cr},(∀e∈xs,e.length=sz)->xs.flatten.length=xs.length*sz
 |[],_=>ay
 |x::xs,h=>by
  simp only[flatten_cons,br,ci];rw[brQ (λe c=>h e (by simp[c])),h x ay,Nat.add_mul];omega
theorem cL.src{s E x}(r:cL m s E sz (x::xs)):vI m h s sz (x::xs):=by
 rcases r.ex with⟨_,e⟩|⟨b,d,c,rfl,f,_,_,_,g⟩
 .cases e
 .exact .lent b 0 c E (0,0) rfl rfl f bg
def yV(m0 m:MH):=λb=>match m0 b with|some _=>m b|none=>none
def AP(m0 m:MH)(h:PH):=λb i=>match m0 b,m b with|none,some (.cells c _ _)=>c[i]? |_,_=>h b i
theorem Am{m0 m h}(d:Fi m h):PH.le h (AP m0 m h):=⟨λb i v e=>by
 unfold AP;split
 .rename_i f E g j c;rw[d.disj b _ c i]at e;cases e
 .exact e⟩
theorem a1X{m0}(d:Fi m h):G1 m h (yV m0 m) (AP m0 m h):=by
 refine⟨λb o e=>?_,Am d,λb i v e=>?_⟩
 .unfold yV at e
  grind
 .unfold AP at e;split at e
  .rename_i c E f g j;exact .inr ⟨c,E,f,j,e,by unfold yV;rw[g]⟩
  grind
theorem FT{p:Prop}(h:p:=by repeat' (first|with_reducible rfl|exact trivial|exact a1X (by assumption)|refine⟨?_,?_⟩|rfl)):p:=h
theorem uZ.ice{m0 m h s E sz xs}(r:uZ m0 m s E sz xs):dH (AP m0 m h) s sz xs:=by
 rcases r.row.ex with⟨rfl,rfl⟩|⟨b,f,g,rfl,y,c,_,_,n⟩
 .exact dH.nil _ _
 .have z:=r.fresh b 0 rfl;refine⟨rfl,.inr ⟨b,0,rfl,λi e o=>⟨λj v u=>?_⟩⟩,c⟩;have d:=pB r.row.rows.len o j v u;rw[<-n,getElem?_take]at d;split at d
  .unfold AP
   grind
  .cases d
theorem keep_other{m0}(k:Kept m0 m cb):bV m0 (yV m0 m) cb:=⟨λb c=>by
 unfold yV;cases e:m0 b with
 |none=>rfl
 |some o=>exact k b o e c⟩
theorem a0J{m0}(c:bB m h cb)(e:m0 cb≠none)(d:Fi m h):bB (yV m0 m) (AP m0 m h) cb:=c.keep (by
 unfold yV
 grind) (Am d)
def QA d q:=QW q/\Wg d q
structure QM(d:Nat)(m0 m:MH)(h:PH)(v:QV)(vs:du):Prop where
 wher:∃w,fP h w v.where_/\Eh w
 cols:∃co:cn,uZ m0 m v.columns 3 1 (co.map eI)/\co.length<=1000
 on_:∃l,jD h v.on l
 group_:∃l,Ints h v.group l
 order_:∃l,jP h v.order l
 args_:uZ m0 m v.args 41 21 (vs.map QV.enc)
 len_:vs.length<=2
 reps:∀v∈vs,∃q,dO h q v/\QA d q
theorem WM{d:Nat}{h:PH}:∀{vs:du},(∀v∈vs,∃q,dO h q v/\QA d q)->∃c:db,c.length=vs.length/\(∀q∈c,QA d q)/\∀(i:Nat) q,c[i]? =some q->∃v,vs[i]? =some v/\dO h q v
 |[],_=>⟨[],rfl,λq f=>by simp at f,λi q e=>by simp at e⟩
 |v::vs,g=>by
  obtain⟨q,f,j⟩:=g v ay;obtain⟨c,n,y,z⟩:=WM (vs:=vs) (λu o=>g u (by simp[o]));refine⟨q::c,by simp[n],λx A=>bg,λi x e=>?_⟩
  grind
theorem QM.ice{n m0 vs}(x:QM n m0 m h v vs)(d:Fi m h):∃q,dO (AP m0 m h) q v/\QW q/\DH (n+1) q:=by
 obtain⟨w,o,c⟩:=x.wher;obtain⟨co,u,y⟩:=x.cols;obtain⟨on,z⟩:=x.on_;obtain⟨gr,A⟩:=x.group_;obtain⟨od,f⟩:=x.order_;obtain⟨D,B,j,C⟩:=WM x.reps;have le:=Am (m0:=m0) d;have E:=x.len_;exact⟨_,uE.rep ⟨rfl,rfl,o.mono le,⟨u.ice,aC⟩,z.mono le,A.mono le,f.mono le,rfl,⟨⟨vs,x.args_.ice,B,λi q e=>let⟨v,k1,k2⟩:=C i q e;⟨v,k1,k2.mono le⟩⟩,aC⟩⟩,Mv.2 ⟨c,λa g=>(j a g).1⟩,DH.node (λa g=>(j a g).2) aC⟩
theorem QM.on{n m0 vs}(x:QM n m0 m h v vs)(o:bV m m' cb)(c:bB m h cb)(le:PH.le h h'):QM n m0 m' h' v vs:=by
 obtain⟨w,j,d⟩:=x.wher;obtain⟨co,u,f⟩:=x.cols;obtain⟨on,y⟩:=x.on_;obtain⟨gr,z⟩:=x.group_;obtain⟨od,g⟩:=x.order_;exact⟨⟨w,j.mono le,d⟩,⟨co,u.on o c az,f⟩,⟨on,y.mono le⟩,⟨gr,z.mono le⟩,⟨od,g.mono le⟩,x.args_.on o c az,x.len_,λv A=>let⟨q,e,ew⟩:=x.reps v A;⟨q,e.mono le,ew⟩⟩
theorem QM.new{d m0 vs t E j}(x:QM d m0 m h v vs)(n:sE m m' h' t E sz j)(le:PH.le h h'):QM d m0 m' h' v vs:=by
 obtain⟨w,o,c⟩:=x.wher;obtain⟨co,u,f⟩:=x.cols;obtain⟨on,y⟩:=x.on_;obtain⟨gr,z⟩:=x.group_;obtain⟨od,g⟩:=x.order_;exact⟨⟨w,o.mono le,c⟩,⟨co,u.new n,f⟩,⟨on,y.mono le⟩,⟨gr,z.mono le⟩,⟨od,g.mono le⟩,x.args_.new n,x.len_,λv A=>let⟨q,e,ew⟩:=x.reps v A;⟨q,e.mono le,ew⟩⟩
theorem QM.grow{d:Nat}{m0:MH}{e:QV}{vs:du}{j u}(x:QM d m0 m h v vs)(g:gK m m' v.args j 41 21 (vs.map QV.enc++[u.enc]))(k:Kept m0 m cb)(c:bB m h cb)(F:∃q,dO h q u/\QA d q)(G:vs.length<=1)(o:e.where_=v.where_)(y:e.columns=v.columns)(z:∃l,jD h e.on l)(A:∃l,Ints h e.group l)(B:∃l,jP h e.order l)(C:e.args=j):QM d m0 m' h e (vs++[u]):=by
 obtain⟨co,D,f⟩:=x.cols;refine⟨by rw[o];exact x.wher,⟨co,by rw[y];exact D.apart x.args_ g az,f⟩,z,A,B,by rw[C,bu];exact x.args_.grown g k c,bf,λv E=>?_⟩;rcases mem_append.1 E with n|n
 .exact x.reps v n
 grind
theorem aBJ(h:eX s=0):EF s:=Classical.byContradiction λc=>by rw[yF c]at h;cases h
theorem Dd(h:eX s=0):oM s:=λt c=>by
 obtain⟨i,d⟩:=mem_iff_getElem?.1 c;have:=(aBJ h).2 i t d;exact this.1
theorem JC(h:eX s=0):s.tables.length<=8:=(aBJ h).1
theorem Qh s ps q:(eH s ps q).1.length<=12:=by
 unfold eH;split
 .split
  .split
   .exact lY s ps q
   .simp[eJ]
  .simp[eJ]
 .simp[eJ]
theorem aCQ{s ps}{t:Int}(c:eX s=0)(d:ps.all iA=true)(e:0<=t)(f:t<s.tables.length):(eH s ps (.mk 1 t gG [] [] [] [] 0 [])).2=0:=by
 have g:=Dd c
 have u:(kH s t).length<=12:=by
  unfold kH;split
  .simp
  .split
   .simp
   .rename_i x j;have:=g x (bo j);simp;omega
 have n:aJ s ps (.mk 1 t gG [] [] [] [] 0 [])=eZ s ps (.mk 1 t gG [] [] [] [] 0 []) [] []:=by simp[aJ,fX,arity]
 have o:tT (.mk 1 t gG [] [] [] [] 0 [])=true:=by rfl
 unfold eH;rw[if_pos c,if_pos d,if_pos o,n];unfold eZ;rw[if_neg (by simp[arity,cY])];simp only[if_true];rw[if_pos ⟨e,f⟩];unfold nO
 grind
structure Mid(m0:MH)(h3:PH)(cb:Nat)(a q:QV)(mx:MH):Prop where
 case_:bB mx h3 cb
 kept:Kept m0 mx cb
 ex:∃o args,q=⟨o,0,jT,cH,cH,cH,cH,0,args⟩/\uZ m0 mx args 41 21 ([a].map QV.enc)
theorem Mid.qm{d m0 e c a q}(x:Mid m0 c cb a q e)(j:∃f,dO c f a/\QA d f):QM d m0 e c q [a]:=by
 obtain⟨o,args,rfl,g⟩:=x.ex;exact⟨⟨_,EI c,qY⟩,⟨[],uZ.nil _ _ _ _,ay⟩,⟨_,vM _⟩,⟨_,oL _⟩,⟨_,vK _⟩,g,ay,λv n=>bg⟩
theorem aLQ:∀N,cm 10 (axX N)
 |0=>by
  refine fW (fn:=Tryz.f10) (c:=eD Tryz.f10) func10 rfl az ?_;rintro c0 m h K ⟨cb,sc,p,s,ps,deep,rfl,_,_,_,_,_,_,_,_,_,hN,_⟩;omega
 |N+1=>by
  refine jC func10 ?_;rintro c0 m h K ⟨cb,sc,p,s,ps,deep,rfl,hc,hs,he,b',hp,a0,a7,d0,d1,hN,hK⟩;refine⟨cxX N cb sc p,rfl,aE MO (aE Tp (aE bcX (aE bbZ (aE bbX (aE bbQ (aE MY (aE (aLQ N) aH))))))),Yv N cb sc p deep m h K,ax,?_⟩;have f3:=hs.tables.slen;have h8:=Dd he;have f4:=JC he;have f5:0<s.tables.length:=length_pos_iff.2 b';have d':(if(sc.tables.len:Int)>1 then(sc.tables.len:Int)else 1)=(sc.tables.len:Int):=by omega
  have d2:m cb≠none:=by obtain⟨cs,e⟩:=hc.blk;rw[e];simp
  dsimp only[Yv,push_cast];rw[d'];refine⟨cb,12,rfl,hc,λk m1 k0 k1 o1 c1=>?_⟩;refine aF (λhd=>?_) (λhd=>aD (λ_=>?_) (λ_=>aD (λ_=>?_) (λ_=>?_)))
  .exact⟨cb,_,rfl,c1,λG m2 b0 d3 o2 c2=>⟨G,rfl,hK _ _ m2 h (.refl _) (EO h G) (Kq G) (DH.mono (d:=0) uD.scan (Nat.zero_le _)) (aCQ he a7 b0 aC) (o1.trans o2) c2⟩⟩
  .exact⟨cb,_,rfl,c1,λG m2 b0 d3 o2 c2=>⟨G,rfl,hK _ _ m2 h (.refl _) (EO h G) (Kq G) (DH.mono (d:=0) uD.scan (Nat.zero_le _)) (aCQ he a7 b0 aC) (o1.trans o2) c2⟩⟩
  .grind
  have d4:IntKind.i64.wrap (deep-1)=deep-1:=fL aC aC;have d5:IntKind.i64.wrap (deep-2)=deep-2:=fL aC aC;rw[d4];refine⟨cb,sc,p,s,ps,deep-1,rfl,c1,hs,he,b',hp,a0,a7,aC,aC,aC,λa qa m2 h2 b1 ra b6 a3 d6 o2 c2=>⟨sc,p,a,s,ps,qa,rfl,hs.mono b1,hp.mono b1,ra,λkk h3 b3 ik=>?_⟩⟩;have d7:=Qh s ps qa;obtain⟨T,d8⟩:∃T,(deep-1).toNat=T:=⟨_,rfl⟩
  have d9:deep.toNat=T+1:=by omega
  rw[d8]at a3;have U:QA T qa:=⟨b6,a3.arg⟩
  generalize e':(eH s ps qa).fst=ks at ik d7;clear e';have A:PH.le h h3:=b1.trans b3;have V:dO h3 qa a:=ra.mono b3;refine⟨λ⟨d,op,D,q,H,mx,I⟩=>d=deep/\D=a/\H=kk/\I=h3/\Mid m h3 cb a q mx,λM m3 j=>⟨(deep,IntKind.i64.wrap (1+k),a,⟨IntKind.i64.wrap (1+k),0,jT,cH,cH,cH,cH,0,M⟩,kk,m3,h3),⟨rfl,rfl,rfl,rfl,?_⟩,MT⟩,?_⟩
  .have G:=(Kept.of o1).on o2;have c3:=c2.mono b3;exact⟨c3.keep (sE.at_cb j c3) (.refl _),G.new j,_,_,rfl,sE.frow j G c3⟩
  rintro⟨deep,op,D,q,H,mx,I⟩ ⟨rfl,rfl,rfl,rfl,y⟩;dsimp only;have E:∀(q:QV)(vs:du)(B:MH)(C:PH),PH.le I C->Kept m B cb->bB B C cb->QM T m B C q vs->Fi B C->PH.le I (AP m B C)/\bV m (yV m B) cb/\bB (yV m B) (AP m B C) cb/\∃qq,dO (AP m B C) qq q/\QW qq/\DH (T+1) qq:=λq vs B C l k c x d=>⟨l.trans (Am d),keep_other k,a0J c d2 d,x.ice d⟩
  have join:∀(q:QV)(u:QV)(M:Sl)(B:MH)(C:PH)(Q:Sl->MH->Prop),PH.le I C->Kept m B cb->bB B C cb->QM T m B C q [D]->uZ m B M 41 21 [u.enc]->(∃qu,dO C qu u/\QA T qu)->
   (∀J m',(∀q':QV,q'.where_=q.where_->q'.columns=q.columns->(∃l,jD C q'.on l)->(∃l,Ints C q'.group l)->(∃l,jP C q'.order l)->q'.args=J->QM T m m' C q' [D,u])->Kept m m' cb->bB m' C cb->Q J m')->
   ∃xs,cL B ⟨q.args.a,q.args.len,q.args.cap⟩ 41 21 xs/\∃ys,gC 21 ys/\vI B C ⟨M.a,M.len,M.cap⟩ 21 ys/\(xs.length+ys.length)*280<=140737488355328/\xs.length+ys.length<=140737488355328/\∀(J:Sl)(m':MH),gK B m' ⟨q.args.a,q.args.len,q.args.cap⟩ J 41 21 (xs++ys)->Q J m':=
   λq u M B C Q l k c x f hu hQ=>⟨_,x.args_.row,[u.enc],brX [u],cL.src f.row,ay,ay,λJ m' g=>hQ J m' (λq' e1 e2 e3 e4 e5 e6=>x.grow g k c hu ay e1 e2 e3 e4 e5 e6) (k.grown x.args_ g) (c.keep (gK.at_cb g x.args_ c az) (.refl _))⟩
  refine⟨λ⟨W,q,B,C⟩=>W=D/\PH.le I C/\bV m B cb/\bB B C cb/\∃qq,dO C qq q/\QW qq/\DH (T+1) qq,aD (λ_=>?_) (λ_=>?_),?_⟩
  ·
   refine⟨cb,3,rfl,y.case_,λn m3 n0 n1 o3 c3=>?_⟩;refine⟨λ⟨W,q,G,n,B,C⟩=>W=D/\G=H/\C=I/\ -1<=n/\n<=2/\bB B I cb/\Kept m B cb/\QM T m B I q [D]/\∃co:cn,uZ m B q.columns 3 1 (co.map eI)/\(co.length:Int)<=2-n,λ⟨_,_,_,n,_,_⟩=>(n+1).toNat,⟨(D,q,H,n,m3,I),⟨rfl,rfl,rfl,aC,aC,c3,y.kept.on o3,(y.qm ⟨qa,V,U⟩).on o3 y.case_ (.refl _),[],?_,bf⟩,MT⟩,?_⟩
   .obtain⟨o,args,rfl,hf⟩:=y.ex;exact uZ.nil _ _ _ _
   clear y q c3 o3 m3 n0 n1 n;rintro⟨W,q,G,n,B,C⟩ ⟨rfl,rfl,rfl,n0,n1,cy,ky,qm,co,b7,f2⟩;dsimp only;refine aF (λhn=>⟨cb,_,rfl,cy,λc m4 _ _ o4 c4=>⟨_,(b7.on o4 cy az).row,bf,bf,λJ X g=>?_⟩⟩) (λhn d=>⟨(W,q,yV m B,AP m B C),⟨rfl,E q _ B C (.refl _) ky cy qm d⟩,FT⟩);have O:=b7.on o4 cy az;have q4:=qm.on o4 cy (.refl _);have k4:=ky.on o4;have a4:uZ m X J 3 1 ((co++[c]).map eI):=by rw[bu];exact O.grown g k4 c4
   have e0:IntKind.i64.wrap (n-1)=n-1:=fL aC aC;rw[e0];refine⟨(W,{q with columns:=J},G,n-1,X,C),⟨rfl,rfl,rfl,bg,bg,c4.keep (gK.at_cb g O c4 az) (.refl _),k4.grown O g,⟨q4.wher,⟨_,a4,bf⟩,q4.on_,q4.group_,q4.order_,q4.args_.apart O g az,q4.len_,q4.reps⟩,_,a4,bf⟩,bg,MT⟩
  .refine⟨λ⟨d,op,W,q,G,t,B,C⟩=>d=deep/\W=D/\G=H/\C=I/\Mid m I cb D q B,aD (λ_=>⟨(deep,op,D,q,H,true,mx,I),⟨rfl,rfl,rfl,rfl,y⟩,MT⟩) (λ_=>⟨(deep,op,D,q,H,op==5,mx,I),⟨rfl,rfl,rfl,rfl,y⟩,MT⟩),?_⟩;clear y q mx;rintro⟨deep,op,D,q,H,t,mx,I⟩ ⟨rfl,rfl,rfl,rfl,y⟩;dsimp only;refine aD (λ_=>?_) (λ_=>?_)
   ·
    rw[d5];refine⟨cb,sc,p,s,ps,deep-2,rfl,y.case_,hs.mono A,he,b',hp.mono A,a0,a7,aC,aC,aC,λb qb X P z rb b8 e7 _ o5 Y=>⟨sc,p,b,s,ps,qb,rfl,hs.mono (A.trans z),hp.mono (A.trans z),rb,λl h6 L il=>?_⟩⟩;have b9:QA T qb:=⟨b8,(e7.mono aC).arg⟩
    have e8:=Qh s ps qb;generalize f6:(eH s ps qb).fst=ls at il e8;have R:QM T m X h6 q [D]:=(y.qm ⟨qa,V,U⟩).on o5 y.case_ (z.trans L);have k6:=y.kept.on o5;have S:=Y.mono L;refine⟨λ⟨W,b2,q,G,l2,B,C⟩=>W=D/\b2=b/\G=H/\l2=l/\C=h6/\bB B h6 cb/\Kept m B cb/\QM T m B h6 q [D],aD (λ_=>aF (λ_=>⟨(D,b,{q with op:=5},H,l,X,h6),⟨rfl,rfl,rfl,rfl,rfl,S,k6,⟨R.wher,R.cols,R.on_,R.group_,R.order_,R.args_,R.len_,R.reps⟩⟩,MT⟩) (λ_=>⟨(D,b,q,H,l,X,h6),⟨rfl,rfl,rfl,rfl,rfl,S,k6,R⟩,MT⟩)) (λ_=>⟨(D,b,q,H,l,X,h6),⟨rfl,rfl,rfl,rfl,rfl,S,k6,R⟩,MT⟩),?_⟩;have c':=rb.mono L;have a1:PH.le I h6:=z.trans L;clear R k6 S o5 Y rb z y q;rintro⟨W,b,q,G,l,B,h6⟩ ⟨rfl,rfl,rfl,rfl,rfl,S,k6,R⟩;dsimp only;refine⟨⟨cb,G,l,ks,ls,rfl,S,ik.mono a1,il,aC,aC,λo on m7 h7 F b4 _ o7 c7 M m8 j=>?_⟩,λM m7 j=>⟨cb,G,l,ks,ls,rfl,S.keep (sE.at_cb j S) (.refl _),ik.mono a1,il,aC,aC,λo on m8 h7 F b4 _ o8 c8=>?_⟩⟩
    .have k7:=k6.on o7;refine join q b M m8 h7 _ (a1.trans F) (k7.new j) (c7.keep (sE.at_cb j c7) (.refl _)) ((R.on o7 S F).new j (.refl _)) (sE.frow j k7 c7) ⟨qb,c'.mono F,b9⟩ (λJ m9 hq k9 c9 d=>?_);exact⟨(W,{q with on:=o,args:=J},yV m m9,AP m m9 h7),⟨rfl,E _ _ m9 h7 (a1.trans F) k9 c9 (hq {q with on:=o,args:=J} rfl rfl ⟨on,b4⟩ (let⟨l,e⟩:=R.group_;⟨l,e.mono F⟩) (let⟨l,e⟩:=R.order_;⟨l,e.mono F⟩) rfl) d⟩,FT⟩
    .have k7:=k6.new j;have c7:bB m7 h6 cb:=S.keep (sE.at_cb j S) (.refl _);have k8:=k7.on o8;refine join q b M m8 h7 _ (a1.trans F) k8 c8 ((R.new j (.refl _)).on o8 c7 F) ((sE.frow j k6 S).on o8 c7 az) ⟨qb,c'.mono F,b9⟩ (λJ m9 hq k9 c9 d=>?_);exact⟨(W,{q with on:=o,args:=J},yV m m9,AP m m9 h7),⟨rfl,E _ _ m9 h7 (a1.trans F) k9 c9 (hq {q with on:=o,args:=J} rfl rfl ⟨on,b4⟩ (let⟨l,e⟩:=R.group_;⟨l,e.mono F⟩) (let⟨l,e⟩:=R.order_;⟨l,e.mono F⟩) rfl) d⟩,FT⟩
   .refine⟨λ⟨op,W,q,G,t,B,C⟩=>W=D/\G=H/\C=I/\Mid m I cb D q B,aD (λ_=>⟨(op,D,q,H,true,mx,I),⟨rfl,rfl,rfl,y⟩,MT⟩) (λ_=>aD (λ_=>⟨(op,D,q,H,true,mx,I),⟨rfl,rfl,rfl,y⟩,MT⟩) (λ_=>⟨(op,D,q,H,op==8,mx,I),⟨rfl,rfl,rfl,y⟩,MT⟩)),?_⟩;clear y q mx;rintro⟨op,D,q,H,t,mx,I⟩ ⟨rfl,rfl,rfl,y⟩;dsimp only;have q3:=y.qm ⟨qa,V,U⟩;refine aD (λ_=>?_) (λ_=>aD (λ_=>?_) (λ_=>aD (λ_=>?_) (λ_=>?_)))
    ·
     refine⟨cb,sc,p,H,D,s,ps,ks,qa,rfl,y.case_,hs.mono A,h8,aC,hp.mono A,a0,ik,aC,V,U.1,λw qw X P z e9 a5 o5 Y M m6 j=>?_⟩;have k5:=y.kept.on o5;refine join q w M m6 P _ z (k5.new j) (Y.keep (sE.at_cb j Y) (.refl _)) ((q3.on o5 y.case_ z).new j (.refl _)) (sE.frow j k5 Y) ⟨qw,e9,a5.qw,a5.siz T a3⟩ (λJ m9 hq k9 c9 d=>?_);have Z:=q3.on o5 y.case_ z;exact⟨(D,{q with args:=J},yV m m9,AP m m9 P),⟨rfl,E _ _ m9 P z k9 c9 (hq {q with args:=J} rfl rfl Z.on_ Z.group_ Z.order_ rfl) d⟩,FT⟩
    ·
     obtain⟨o,args,rfl,hf⟩:=y.ex;refine⟨cb,⟨o,0,jT,cH,cH,cH,cH,0,args⟩,H,ks,rfl,y.case_,ik,aC,λg od kk gr a8 X P z hg a9 _ _ _ _ o5 Y d=>?_⟩;have Z:=q3.on o5 y.case_ z;exact⟨(D,⟨o,0,jT,cH,cH,g,od,kk,args⟩,yV m X,AP m X P),⟨rfl,E _ [D] X P z (y.kept.on o5) Y ⟨Z.wher,Z.cols,Z.on_,⟨gr,hg⟩,⟨a8,a9⟩,Z.args_,Z.len_,Z.reps⟩ d⟩,FT⟩
    ·
     obtain⟨o,args,rfl,hf⟩:=y.ex;refine⟨cb,⟨o,0,jT,cH,cH,cH,cH,0,args⟩,H,ks,rfl,y.case_,ik,aC,λg od kk gr a8 X P z hg a9 _ _ _ _ o5 Y=>?_⟩;have Z:=q3.on o5 y.case_ z;have f':QM T m X P ⟨o,0,jT,cH,cH,g,od,kk,args⟩ [D]:=⟨Z.wher,Z.cols,Z.on_,⟨gr,hg⟩,⟨a8,a9⟩,Z.args_,Z.len_,Z.reps⟩
     refine⟨cb,sc,p,H,D,s,ps,ks,qa,rfl,Y,hs.mono (A.trans z),h8,aC,hp.mono (A.trans z),a0,ik.mono z,aC,V.mono z,U.1,λw qw m6 h6 L f0 a5 o6 S M m7 j=>?_⟩;have k6:=(y.kept.on o5).on o6;refine join ⟨o,0,jT,cH,cH,g,od,kk,args⟩ w M m7 h6 _ (z.trans L) (k6.new j) (S.keep (sE.at_cb j S) (.refl _)) ((f'.on o6 Y L).new j (.refl _)) (sE.frow j k6 S) ⟨qw,f0,a5.qw,a5.siz T a3⟩ (λJ m9 hq k9 c9 d=>?_);exact⟨(D,⟨o,0,jT,cH,cH,g,od,kk,J⟩,yV m m9,AP m m9 h6),⟨rfl,E _ _ m9 h6 (z.trans L) k9 c9 (hq ⟨o,0,jT,cH,cH,g,od,kk,J⟩ rfl rfl ⟨_,vM _⟩ ⟨gr,hg.mono L⟩ ⟨a8,a9.mono L⟩ rfl) d⟩,FT⟩
    ·
     refine⟨⟨cb,H,p,ks,ps,2,rfl,y.case_,ik,hp.mono A,aC,a0,aC,λpv pp X P z rp b5 o5 Y M m6 j d=>?_⟩,λM X j=>⟨cb,H,p,ks,ps,2,rfl,y.case_.keep (sE.at_cb j y.case_) (.refl _),ik,hp.mono A,aC,a0,aC,λpv pp m6 P z rp b5 o6 S d=>?_⟩⟩
     .have k5:=y.kept.on o5;exact⟨(D,⟨2,0,pv,cH,cH,cH,cH,0,M⟩,yV m m6,AP m m6 P),⟨rfl,E _ [D] m6 P z (k5.new j) (Y.keep (sE.at_cb j Y) (.refl _)) ⟨⟨pp,rp,b5.vals⟩,⟨[],uZ.nil _ _ _ _,ay⟩,⟨_,vM _⟩,⟨_,oL _⟩,⟨_,vK _⟩,sE.frow j k5 Y,ay,λv hv=>by simp at hv;subst hv;exact⟨qa,V.mono z,U⟩⟩ d⟩,FT⟩
     .have k5:=y.kept.new j;have Y:bB X I cb:=y.case_.keep (sE.at_cb j y.case_) (.refl _);exact⟨(D,⟨2,0,pv,cH,cH,cH,cH,0,M⟩,yV m m6,AP m m6 P),⟨rfl,E _ [D] m6 P z (k5.on o6) S ⟨⟨pp,rp,b5.vals⟩,⟨[],uZ.nil _ _ _ _,ay⟩,⟨_,vM _⟩,⟨_,oL _⟩,⟨_,vK _⟩,(sE.frow j y.kept y.case_).on o6 Y az,ay,λv hv=>by simp at hv;subst hv;exact⟨qa,V.mono z,U⟩⟩ d⟩,FT⟩
  .rintro⟨W,q,B,C⟩ ⟨rfl,a6,oy,cy,qq,rq,f1,f7⟩;dsimp only;refine⟨sc,p,q,s,ps,qq,rfl,hs.mono (A.trans a6),hp.mono (A.trans a6),rq,λsl P z _=>aD (λe=>?_) (λe=>?_)⟩
   .exact hK W qa B P ((A.trans a6).trans z) ((V.mono a6).mono z) U.1 (by rw[d9];exact a3.mono aC) d6 oy (cy.mono z)
   .exact hK q qq B P ((A.trans a6).trans z) (rq.mono z) f1 bg (bk e) oy (cy.mono z)
mutual
def dY(st:List ct):Query->ct
 |.mk op ta w co on gr od li args=>if op=1 then st.getD ta.toNat []else ET op (.mk op ta w co on gr od li args) (Ax st args)
def Ax(st:List ct):db->List ct
 |[]=>[]
 |q::qs=>dY st q::Ax st qs
end
structure GL(st ls:List ct)(k:Nat)(ts:cn):Prop where
 at_:∀(j:Nat)(t:Int),ts[j]? =some t->ls.getD (k+j) []=st.getD t.toNat []
theorem GL.left{st ls k b}(x:GL st ls k (a++b)):GL st ls k a:=
 ⟨λj t h=>x.at_ j t bg⟩
theorem GL.right{st ls k b}(x:GL st ls k (a++b)):GL st ls (k+a.length) b:=
 ⟨λj t h=>by
  have:=x.at_ (a.length+j) t bg
  grind⟩
theorem Mq{args c}(d:fX s ps args=(c,0))(e:(c.length:Int)=arity 1):args=[]:=by
 cases args with
 |nil=>rfl
 |cons q f=>obtain⟨_,_,_,_,rfl⟩:=qW d;simp[arity]at e;omega
mutual
theorem Nx{s:jZ}{ps:cn}{st ls:List ct}:∀{q:Query}{ks:cn}{k:Nat},aJ s ps q=(ks,0)->GL st ls k (bR q)->gQ ls q k=(dY st q,k+(bR q).length)
 |.mk op ta w co on gr od li args,ks,k,h,c=>by
  obtain⟨g,f,j,o⟩:=yR h;by_cases e:op=1
  .subst e;have n:=Mq f j;subst n;have d:bR (.mk 1 ta w co on gr od li [])=[ta]:=by simp[bR,dU]
   rw[d]at c⊢
   have:=c.at_ 0 ta rfl;rw[Nat.add_zero]at this;rw[gQ,dY,if_pos rfl,if_pos rfl,this];rfl
  .have d:bR (.mk op ta w co on gr od li args)=dU args:=by simp[bR,e]
   rw[d]at c⊢
   rw[gQ,dY,if_neg e,if_neg e,JX f c]
theorem JX{s:jZ}{ps:cn}{st ls:List ct}:∀{d:db}{c:List cn}{k:Nat},fX s ps d=(c,0)->GL st ls k (dU d)->gM ls d k=(Ax st d,k+(dU d).length)
 |[],c,k,h,_=>by simp[gM,Ax,dU]
 |q::d,c,k,h,e=>by
  obtain⟨n,f,g,j,rfl⟩:=qW h;rw[dU]at e;rw[gM,Ax,dU,Nx g e.left,JX j e.right,br,Nat.add_assoc]
end
mutual
theorem De{s:jZ}{ps:cn}:∀{q:Query}{ks:cn},aJ s ps q=(ks,0)->∀t∈bR q,0<=t/\t<s.tables.length
 |.mk op ta w co on gr od li args,ks,h,t,f=>by
  obtain⟨g,j,n,c⟩:=yR h;rw[bR]at f;rcases mem_append.1 f with d|d
  .split at d
   .rename_i e;subst e;simp only[mem_singleton]at d;subst d;unfold eZ at c;dsimp only at c;split at c
    .simp[eJ]at c
    try rw[if_pos rfl]at c
    split at c
    .omega
    .simp[eJ]at c
   .simp at d
  .exact SG j t d
theorem SG{s:jZ}{ps:cn}:∀{e:db}{d:List cn},fX s ps e=(d,0)->∀t∈dU e,0<=t/\t<s.tables.length
 |[],d,h,t,c=>by rw[dU]at c;simp at c
 |q::e,d,h,t,c=>by
  obtain⟨n,f,g,j,rfl⟩:=qW h;rw[dU]at c;rcases mem_append.1 c with c|c
  .exact De g t c
  .exact SG j t c
end
def CP(key k:Int)(i:Nat)(v:VV):=oC v&&(v.kind==k||((v.kind==2||v.kind==1)&&decide (key<=(i:Int))))
def G3(t:AE)(r:cz):=decide (r.length=t.columns.length)&&(List.range r.length).all λi=>CP t.key (t.columns.getD i ⟨⟨#[]⟩,0⟩).kind i (r.getD i zeroV)
def pM(t:AE)(r:cz):=r.take (max 0 (min t.key r.length)).toNat
def SC(t:AE)(l:ct):=(∀r∈l,G3 t r=true)/\∀(i:Nat) r c,l[i]? =some r->l[i+1]? =some c->fG (pM t r) (pM t c)<0
def PZ(s:jZ)(st:List ct):=∀(i:Nat) t l,s.tables[i]? =some t->st[i]? =some l->SC t l
open Classical in
noncomputable def jL(s:jZ)(st:List ct):Int:=
 if eX s≠0 then eX s else if 512<(st.map λl=>(l.length:Int)).sum then 2 else if st.length≠s.tables.length then 80 else if PZ s st then 0 else 80
def StV(st:List ct):=∀l∈st,∀r∈l,∀v∈r,uY v.kind/\uY v.int
def Dh(t:AE)(key row:cz):Bool->ct->ct
 |d,[]=>if d then[]else[row]
 |d,r::l=>(if 0<=fG (pM t r) key/\d=false then[row]else[])++((if fG (pM t r) key≠0 then[r]else[])++Dh t key row (d||decide (0<=fG (pM t r) key)) l)
def OW(t:AE)(l:ct):=l.Pairwise λx y=>fG (pM t x) (pM t y)<0
theorem GH{x y z}(c:fG x y<0)(d:fG y z<0):fG x z<0:=by
 have:=Ds x y z aC aC;rcases Int.lt_or_eq_of_le this with h|h
 .exact h
 .rw[lG]at h;subst h;have:=qH x y;omega
theorem Qi{t:AE}{key row:cz}:∀{l:ct},(∀r∈l,0<fG (pM t r) key)->Dh t key row true l=l
 |[],_=>rfl
 |r::l,h=>by
  have d:=h r (mem_cons_self ..);rw[Dh,if_neg ay,if_pos aC,Bool.true_or,Qi λx c=>h x (mem_cons_of_mem _ c)];rfl
theorem O0{t:AE}{key row z:cz}:∀{l:ct}{d:Bool},z∈Dh t key row d l->z=row\/z∈l
 |[],d,h=>by
  rw[Dh]at h
  grind
 |r::l,d,h=>by
  rw[Dh]at h;rcases mem_append.1 h with h|h
  .grind
  .rcases mem_append.1 h with h|h
   .grind
   .exact(O0 h).imp id λh=>mem_cons_of_mem _ h
theorem O2{t:AE}{key row:cz}:∀{l:ct}{d:Bool},(Dh t key row d l).length<=l.length+(if d then 0 else 1)
 |[],d=>by rw[Dh];grind
 |r::l,d=>by
  have:=O2 (t:=t) (key:=key) (row:=row) (l:=l) (d:=d||decide (0<=fG (pM t r) key));rw[Dh]
  grind
theorem Qj{t:AE}{row:cz}:∀{l:ct},OW t l->OW t (Dh t (pM t row) row false l)
 |[],_=>by rw[Dh];exact pairwise_singleton _ _
 |r::l,h=>by
  obtain⟨f,n⟩:=pairwise_cons.1 h;rw[Dh];by_cases g:0<=fG (pM t r) (pM t row)
  .rw[if_pos ⟨g,rfl⟩,show(false||decide (0<=fG (pM t r) (pM t row)))=true by simp[g]];by_cases j:fG (pM t r) (pM t row)=0
   .rw[if_neg (by simp[j])];have e:=lG.1 j
    rw[Qi λx c=>by
     have d:=f x c;rw[e]at d;have:=qH (pM t x) (pM t row);omega]
    exact pairwise_cons.2 ⟨λx c=>by rw[<-e];exact f x c,n⟩
   .rw[if_pos j];have d:fG (pM t row) (pM t r)<0:=by have:=qH (pM t row) (pM t r);omega
    rw[Qi λx c=>by
     have o:=GH d (f x c);have:=qH (pM t x) (pM t row);omega]
    refine pairwise_cons.2 ⟨λx c=>?_,h⟩;rcases mem_cons.1 c with rfl|c
    .exact d
    .exact GH d (f x c)
  .rw[if_neg (by simp[g]),if_pos aC,show(false||decide (0<=fG (pM t r) (pM t row)))=false by simp[g]];refine pairwise_cons.2 ⟨λx c=>?_,Qj n⟩;rcases O0 c with rfl|c
   .omega
   grind
theorem P4{st}(h:jL s st=0):eX s=0/\st.length=s.tables.length/\PZ s st/\(st.map λl=>(l.length:Int)).sum<=512:=by
 unfold jL at h
 grind
theorem bxZ{t x y}(h:x.length=y.length):(pM t x).length=(pM t y).length:=by simp[pM,h]
theorem bUZ{t x y}(h:x.length=y.length)(c:fG (pM t x) (pM t y)<0):fG x y<0:=by
 have d:x=pM t x++x.drop (max 0 (min t.key x.length)).toNat:=(take_append_drop _ _).symm;have e:y=pM t y++y.drop (max 0 (min t.key y.length)).toNat:=(take_append_drop _ _).symm;rw[d,e,L1 (bxZ h),if_pos aC];exact c
theorem OW.of{t:AE}:∀{l:ct},(∀(i:Nat) r r',l[i]? =some r->l[i+1]? =some r'->fG (pM t r) (pM t r')<0)->OW t l
 |[],_=>List.Pairwise.nil
 |[_],_=>pairwise_singleton _ _
 |a::b::l,h=>by
  have d:OW t (b::l):=OW.of λi r r' f g=>h (i+1) r r' f g;refine pairwise_cons.2 ⟨λx c=>?_,d⟩;have e:=h 0 a b rfl rfl;rcases mem_cons.1 c with rfl|c
  .exact e
  .exact GH e ((pairwise_cons.1 d).1 x c)
theorem OW.adj{t l}(h:OW t l) i r r'(c:l[i]? =some r)(d:l[i+1]? =some r'):fG (pM t r) (pM t r')<0:=by
 obtain⟨e,rfl⟩:=List.getElem?_eq_some_iff.1 c;obtain⟨f,rfl⟩:=List.getElem?_eq_some_iff.1 d;exact pairwise_iff_getElem.1 h i (i+1) e f aC
theorem Wr{t:ByteArray}(h:t.toList=(⟨#[]⟩:ByteArray).toList):t.size<=64:=by rw[C3 h];decide
theorem JL{t}(h:Hi t=true):t.size<=64:=Wr (by simp only[Hi,beq_iff_eq]at h;rw[h,ByteArray.toList_eq])
theorem NQ{v}(h:oC v=true):v.text.size<=64:=by
 unfold oC at h;split at h
 .simp only[bz]at h;exact JL h.2
 .split at h
  .simp only[bz]at h;exact JL h.2
  .split at h
   .exact JL h
   grind
theorem DN{q}(h:(eH s ps q).2=0):eX s=0/\ps.all iA=true/\tT q=true/\(aJ s ps q).2=0:=by
 unfold eH at h;split at h
 .rename_i c;split at h
  .rename_i d;split at h
   .grind
   .simp[eJ]at h
  .simp[eJ]at h
 .rename_i c;simp[eJ]at h;omega
theorem NR{v}(h:oC v=true):1<=v.kind/\v.kind<=5/\v.text.size<=64:=by
 refine⟨?_,?_,NQ h⟩
 all_goals
  unfold oC at h;split at h
  .rename_i e;simp at e;omega
  .split at h
   .rename_i e;simp at e;omega
   .split at h
    .rename_i e;simp at e;omega
    .split at h
     .rename_i e;simp at e;omega
     .cases h
theorem VF{t r}(h:G3 t r=true):r.length=t.columns.length/\∀v∈r,oC v=true:=by
 simp only[G3,bz,ce,all_eq_true,mem_range]at h;refine⟨h.1,λv e=>?_⟩;obtain⟨i,c,rfl⟩:=mem_iff_getElem.1 e;have d:=h.2 i c;simp only[CP,bz,getD_eq_getElem?_getD,bn c,Option.getD_some]at d;exact d.1
theorem b9Z{t l}(u:t.columns.length<=12)(c:SC t l)(g:∀r∈l,∀v∈r,uY v.kind/\uY v.int)(j:l.length<=8000000):iV t.columns.length l:=by
 have n:∀r∈l,r.length=t.columns.length:=λr d=>(VF (c.1 r d)).1;refine⟨λr d=>⟨bg,λv e=>?_⟩,n,?_,j⟩
 .have o:=(VF (c.1 r d)).2 v e;have f:=g r d v e;exact⟨f.1,f.2,(NR o).2.2⟩
 .exact(OW.of c.2).imp_of_mem fun{x y} e z h=>bUZ bg h
def kP(st:List ct)(q:Query):=(bR q).map λt=>st.getD t.toNat []
theorem U6{s st}{t:Int}(c:jL s st=0)(n:StV st)(o:0<=t)(D:t<s.tables.length):iV (kH s t).length (st.getD t.toNat [])/\st.getD t.toNat []∈st:=by
 obtain⟨u,E,y,F⟩:=P4 c;have f:t.toNat<s.tables.length:=by omega
 have g:t.toNat<st.length:=by omega
 have j:s.tables[t.toNat]? =some s.tables[t.toNat]:=bn f;have z:st[t.toNat]? =some st[t.toNat]:=bn g;have A:st.getD t.toNat []=st[t.toNat]:=bg
 have d:st[t.toNat]∈st:=getElem_mem g;have G:=Dd u _ (getElem_mem f);have B:(kH s t).length=s.tables[t.toNat].columns.length:=by rw[kH,if_neg aC,j];simp
 have e:∀{l:List ct}{x},x∈l->((x.length:Nat):Int)<=(l.map λl=>(l.length:Int)).sum:=fun{l x}=>by
  induction l with
  |nil=>grind
  |cons a l C=>
   intro h
   have o:∀l:List ct,0<=(l.map λl=>(l.length:Int)).sum:=λl=>by
    induction l with
    |nil=>simp
    |cons a l C=>grind
   grind
 have:=e d;rw[A,B];exact⟨b9Z aC (y _ _ _ j z) (n _ d) aC,d⟩
theorem Db{st q ks c}(d:jL s st=0)(o:StV st)(A:∀l∈st,l.length<=c)(u:1<=c)(e:aJ s ps q=(ks,0))(g:iD c q<=8000000):
 okQ (kP st q) q 0/\(gQ (kP st q) q 0).1=dY st q/\iV ks.length (dY st q)/\(dY st q).length<=8000000:=by
 have z:∀(j:Nat)(t:Int),(bR q)[j]? =some t->(kP st q)[0+j]? =some (st.getD t.toNat []):=λj t h=>by rw[Nat.zero_add,kP,getElem?_map,h];rfl
 have x:=LM u (ls:=kP st q) (k:=0) e ⟨λj t h=>⟨_,z j t h,by
  have n:=De e t (bo h);have:=U6 d o n.1 n.2
  grind⟩⟩ g
 have y:=Nx (st:=st) (ls:=kP st q) (k:=0) e ⟨λj t h=>bg⟩;have f:(gQ (kP st q) q 0).1=dY st q:=by rw[y]
 refine⟨x.ok,f,by rw[<-f];exact x.rel,?_⟩;rw[<-f];exact cj x.bnd g
def aPl(p r:Sl):CV:=.val (.agg ⟨[.slice p.a p.len p.cap,.slice r.a r.len r.cap]⟩)
theorem cR.keep{r}(c:Sub m m')(le:PH.le h h')(d:K r m h):cR h K r m' h':=
 λ_=>⟨m,h,c,.refl _,λb i v e=>.inl (le.le b i v e),d⟩
def b8Z(q:Query):Prop:=
 match q with
 |.mk op _ _ _ _ _ _ _ args=>(args.length:Int)=arity op/\∀a∈args,b8Z a
 termination_by SizeOf.sizeOf q
theorem bVQ{op w on args}:
 b8Z (.mk op ta w co on gr od li args)↔(args.length:Int)=arity op/\∀a∈args,b8Z a:=by rw[b8Z.eq_def]
theorem Fa op:arity op<=2:=by
 unfold arity;omega
theorem Qk{α}{l:List α}{c}(h:l<+:c){x}(hx:l[i]? =some x):c[i]? =some x:=by
 obtain⟨r,rfl⟩:=h
 grind
end Go.Ps
