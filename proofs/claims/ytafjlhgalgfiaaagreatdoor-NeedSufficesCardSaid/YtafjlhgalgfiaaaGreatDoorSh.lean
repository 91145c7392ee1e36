/- Own work. -/
import Derived.Test.YtafjlhgalgfiaaaGreatDoorSg
set_option linter.unusedVariables false
set_option linter.unusedSimpArgs false
namespace Go.Ps
open Go Go.Vc Go.Proofs List Tryz
variable{K:cn}{m:MH}{h:PH}{s:jP}{ps:cq}{ts:dg}{cb:Nat}{sc:cA}{v:QV}{t:Step}{p:Pred}{l:cq}{i:Nat}{N:Nat}{m':MH}{h':PH}{co:cq}{gr:cq}{od:cv}{ta:Int}{li:Int}{xs:List cr}{sz:Nat}{ks:List cq}{rs:cq}{r:Sl}{a:cq}{b:Nat}
noncomputable def bLX:=V5 [(252,Wq),(71,bsZ)] [(3,{A:=Nat×Sl×Nat×MH×PH,st:=λ⟨b,s,r,m,h⟩=>bZ 29 31 [(2,vv (.pointer (some ⟨b,0,none⟩))),(5,sv s),(13,vv (.pointer (some ⟨r,0,none⟩)))] [] m h})] [(5,{A:=Nat×Sl×Sl×Nat×MH×PH,st:=λ⟨b,s,g,r,m,h⟩=>bZ 29 31 [(2,vv (.pointer (some ⟨b,0,none⟩))),(5,sv s),(7,sv g),(13,vv (.pointer (some ⟨r,0,none⟩)))] [] m h})] [200002,1058,0]
abbrev IL(a b:dl)(c:PH)(d:Sl)(e:cq)(g i:Prop)(j:Nat)(k:ct)(l:MH)(n:Nat->MH->PH->dr->(ByteArray->ct)->Prop):=aA (a=b) (Ints c d e) (aA g i (aI (iL j k) (jM j e) (eD l) (∀(x:Nat),eX (λf o=>∀(u:dr)(y:ByteArray->ct),n x f o u y))))
abbrev Iz(a:MH)(b:Nat)(c:MH)(d:Prop):=bF (GG a b) (∀(x:Nat),mS (x=b)->c x=a x) d
noncomputable abbrev IS(a:Nat×Sl×Nat×MH×PH):=a.2.2.1
noncomputable abbrev Ec(a:Nat×Sl×Sl×Nat×MH×PH):=a.2.2.1
noncomputable abbrev xW(a:Nat×Sl×Sl×Nat×MH×PH):=a.2.2.2
noncomputable abbrev oP a b:=ite (aG a<b) (aG a) b
attribute [push_cast] IL Iz IS Ec xW oP
def No(v:QV)(t:Sl)(m:MH)(h:PH)(K:cn):=
  ∀(b:Nat)(j:MH),bF (cK m h b) (bL m j b v.enc 41) (∃(y:QV),aL j h b 0 y.enc/\bK (λA o=>aI (aW t.a A o) ((0:Int)<=0) (0<aG t) (∃(B:Nat),aL j h A (o+0) (zA B)/\∃(D:QV)(u:Nat),Q1 (λg G=>∃(l:ct)(w:Nat),IL (gC (cZ y) (uO B)) (gC (cZ D) (uO u)) h D.group g (jC h D.order G) (SK h u l) w l j (λE n e k M=>Iz j E n (bR h e (sM fI n e E g G l k M) (aA (aL n e b 0 y.enc) (aL n e A (o+0) (zA B)) (Lf n E e (λr F=>aA (aL F e b 0 y.enc) (aL F e A (o+0) (zA B)) (∃(I:Nat×Sl×Nat×MH×PH->Prop)(H:Nat×Sl×Nat×MH×PH->Nat),(∃(x:Nat×Sl×Nat×MH×PH),aA (I x) (bY b x.1) (aA (sQn=sQs x.2.1) (bY r (IS x)) (aA (bW F x.2.2.2) (eH
 e x.2.2.2) True)))/\∀(x:Nat×Sl×Nat×MH×PH),Le (I x) (pC x.2.2) (IS x) (∃(s:Sl),F5 x.2.1 s (pC x.2.2) (kY x.2.2) K) (λJ=>∃(I1:Nat×Sl×Sl×Nat×MH×PH->Prop),QT (λO P Q c=>Es J O (IS x) P Q c/\∃(d:Nat×Sl×Sl×Nat×MH×PH),aA (I1 d) (bY x.1 d.1) (aA (aZ x.2.1 d.2.1) (SV.at (At.val c.2)=sQs (Ec d)) (aI (bY (IS x) (xW d).1) (bW J (xW d).2) (dC x.2.2.2 (xW d).2) True)))/\∀(c:Nat×Sl×Sl×Nat×MH×PH),I1 c->∃(C:Int),aI (aL (pC (xW c)) (kY (xW c)) c.1 19 (bC C)) (0<=oP (Ec c) C) (oP (Ec c) C<=(↑(Ec c).cap:Int)) (∃(d:List cr),FX (cW (pC (xW c)) (dO c.2.1) 65 1 d) (λz=>aA (fU 1 z) (uZ (pC
 (xW c)) (kY (xW c)) (Sl.mk (Ec c).a (oP (Ec c) C).toNat (Ec c).cap) 1 z) (aA (sY d z 24) (sZ d z) (jY (λs L=>gK (pC (xW c)) L (dO c.2.1) s 65 1 (d++z)->∃(f:Nat×Sl×Nat×MH×PH),aA (I f) (H f<H x) (aA (bY c.1 f.1) (aZ s f.2.1) (aI (bY (xW c).1 (IS f)) (bW L f.2.2.2) (dC (xW c).2 f.2.2.2) True))))))))))))))))))
theorem NQ{w:Nat}:∀{od:cv}{a b:da},Mi w od a b=0->a=b
 |[],_,_,h=>lH.1 h
 |(c,d)::r,a,b,h=>by
  rw[Mi]at h;generalize (if d then-pI (a.getD c.toNat zeroV) (b.getD c.toNat zeroV)else pI (a.getD c.toNat zeroV) (b.getD c.toNat zeroV))=x at h;split at h
  .split at h
   .omega
   .exact NQ h
  .exact NQ h
theorem AT{w od a b}(c:a.length=w)(d:b.length=w):jR od a b= -jR od b a:=by
 rw[Ao c d,Ao d c];exact(HX w od).anti a b
theorem UN{w a b}(c:a.length=w)(d:b.length=w)(h:jR od a b=0):a=b:=by
 rw[Ao c d]at h;exact NQ h
theorem Oc{w:Nat}{od:cv}{x:da}:∀{G:ct}{n:Nat},tU od G->(∀r∈G,r.length=w)->G.Nodup->(x∈G.take n↔x∈G/\(G.countP λy=>decide (jR od y x<0))<n)
 |[],n,_,_,_=>ay
 |a::G,0,_,_,_=>ay
 |a::G,n+1,g,j,o=>by
  have g:=pairwise_cons.1 g;have o:=nodup_cons.1 o;have z:=Oc (x:=x) (G:=G) (n:=n) g.2 (λr A=>j r (mem_cons_of_mem _ A)) o.2;have c:=j a (mem_cons_self ..);rw[take_succ_cons,mem_cons,z,mem_cons,countP_cons];by_cases u:x=a
  .subst u;have B:¬jR od x x<0:=by have:=AT (od:=od) c c;omega
   have C:(G.countP λy=>decide (jR od y x<0))=0:=countP_eq_zero.2 λy D=>bg
   grind
  .by_cases d:x∈G
   .have f:=j x (mem_cons_of_mem _ d);have B:=g.1 x d;have C:=AT (od:=od) c f;have E:jR od a x≠0:=λe=>u (UN c f e).symm
    grind
   grind
theorem Ev{l}(h:mG l):l.Nodup:=by
 rw[nodup_iff_pairwise_ne];exact h.imp fun{a b} c e=>by subst e;have:=HY.anti a a;omega
def uI gr x y:=eZ (pick x gr) (pick y gr)==0
theorem E8{gr x y}:uI gr x y=true↔pick x gr=pick y gr:=by
 simp only[uI,beq_iff_eq,lH]
def yN(gr:cq)(od:cv)(li:Int)(a b:ct):=a.filter λx=>decide (((b.countP λy=>uI gr x y&&decide (jR od y x<0):Nat):Int)<li)
def W6(q:Query)(ls:List ct):=match q with|.mk _ _ _ _ _ gr od li _=>yN gr od li (ls.getD 0 []) (ls.getD 0 [])
def MQ(q:Query)(ls:List ct):=match q with|.mk _ _ _ _ _ gr _ li _=>1<=ls.length/\(∃w,iL w (ls.getD 0 [])/\jM w gr)/\0<=li
theorem bCJ{κ}(e:aDX κ){w l}(c:iL w l)(f:jM w gr){x y}(hx:Pb x)(g:x.length=w)(d:y∈l):κ (pick y gr)=κ (pick x gr)↔uI gr x y=true:=by
 rw[E8];have:=e.inj (a:=pick y gr) (b:=pick x gr) (by simp[pick]) (KH (c.row y d) (by rw[c.wid y d];exact f)) (KH hx bg)
 grind
theorem HK{κ}(c:aDX κ){w l}(d:iL w l)(e:jM w gr){x}(hx:Pb x)(f:x.length=w):
 ((mK κ gr l (κ (pick x gr))).countP λy=>decide (jR od y x<0))=l.countP λy=>uI gr x y&&decide (jR od y x<0):=by
 rw[mK,countP_filter];refine countP_congr λy g=>?_;have j:=bCJ c d e hx f g
 grind
theorem YU{α:Type}{p q:α->Bool}:∀{l:List α},(∀x∈l,¬(p x=true/\q x=true))->l.countP p+l.countP q=l.countP λx=>p x||q x
 |[],_=>rfl
 |a::l,h=>by
  have d:=YU (l:=l) λx c=>h x (mem_cons_of_mem _ c)
  grind
theorem a7J{κ}(z:aDX κ){y w l kk g}(e:sM κ m h y gr od l kk g)(c:iL w l)(d:jM w gr)(A:0<=li) x:
 x∈yN gr od li l l↔∃p∈kk,x∈(g p.1).take li.toNat:=by
 have B:∀k r,r∈g k->r∈l/\κ (pick r gr)=k:=λk r n=>by
  have:=(e.perm k).mem_iff.1 n;simpa[mK]using this
 have C:∀k,(g k).Nodup:=λk=>(e.perm k).nodup_iff.2 ((Ev c.srt).sublist filter_sublist);have D:∀k,x∈(g k).take li.toNat↔x∈g k/\((g k).countP λy=>decide (jR od y x<0))<li.toNat:=λk=>Oc (e.sort k) (λr n=>c.wid r (B k r n).1) (C k)
 have E:x∈l->((g (κ (pick x gr))).countP λy=>decide (jR od y x<0))=l.countP λy=>uI gr x y&&decide (jR od y x<0):=λj=>by
  rw[(e.perm _).countP_eq];exact HK z c d (c.row x j) (c.wid x j)
 rw[yN,mem_filter];constructor
 .rintro⟨j,u⟩;have u:=of_decide_eq_true u;have f:x∈g (κ (pick x gr)):=(e.perm _).mem_iff.2 (by simp[mK,j])
  have o:κ (pick x gr)∈kk.map Prod.fst:=by
   by_cases o:κ (pick x gr)∈kk.map Prod.fst
   .exact o
   .rw[e.none_ _ o]at f;cases f
  grind
 grind
open Classical in
structure GY(κ:da->ByteArray)(gr:cq)(li:Int)(l:ct)(kk:dr)(g:ByteArray->ct)(left:db)(acc:ct):Prop where
 mem:∀x,x∈acc↔∃p∈kk,(Value.string p.1,dX p.2)∉left/\x∈(g p.1).take li.toNat
 cnt:acc.length+(l.countP λz=>decide (Value.string (κ (pick z gr))∈left.map Prod.fst))<=l.length
open Classical in
theorem GY.start{κ gr li l kk g}:GY κ gr li l kk g (kk.map λp=>(Value.string p.1,dX p.2)) []:=by
 refine⟨λx=>⟨λe=>(by cases e),?_⟩,?_⟩
 .grind
 grind
theorem a5X{kk:dr}(c:(kk.map Prod.fst).Nodup):(kk.map λp=>(Value.string p.1,dX p.2)).Nodup:=by
 grind
open Classical in
theorem GY.step{κ:da->ByteArray}{m F:MH}{h:PH}{y G r:Nat}{gr:cq}{od li l f kk g left d e c}(st:GY κ gr li l kk g left f)(o:sM κ m h y gr od l kk g)(j:mL F G r (kk.map λp=>(Value.string p.1,dX p.2)) left)(u:c∈kk)(A:left=d++(Value.string c.1,dX c.2)::e):
 GY κ gr li l kk g (d++e) (f++(g c.1).take li.toNat):=by
 have B:=mL.nodup j (a5X o.nodup);rw[A]at B
 have E:(Value.string c.1,dX c.2)∉d++e:=λh=>by
  grind
 have C:∀x∈d++e,x∈left:=λx h=>bg
 refine⟨λx=>?_,?_⟩
 .rw[mem_append,st.mem]
  grind
 .have H:Value.string c.1∉(d++e).map Prod.fst:=λh=>by
   obtain⟨z,D,n⟩:=mem_map.1 h;obtain⟨p,I,rfl⟩:=mem_map.1 (mL.mem j (C _ D));simp only[Value.string.injEq]at n;have:=VT o.nodup I u n
   grind
  have L:=YU (l:=l) (p:=λz=>decide (Value.string (κ (pick z gr))∈(d++e).map Prod.fst)) (q:=λz=>decide (κ (pick z gr)=c.1)) (λz _⟨M,O⟩=>by
   grind)
  have P:(l.countP λz=>decide (Value.string (κ (pick z gr))∈(d++e).map Prod.fst)||decide (κ (pick z gr)=c.1))=l.countP λz=>decide (Value.string (κ (pick z gr))∈left.map Prod.fst):=by
   grind
  have Q:(mK κ gr l c.1).length=l.countP λz=>decide (κ (pick z gr)=c.1):=by rw[mK,countP_eq_length_filter]
  have J:=(o.perm c.1).length_eq;have:=st.cnt;rw[br,length_take];omega
theorem GY.done{κ}(j:aDX κ){y w l e kk g}(st:GY κ gr li l kk g [] e)(n:sM κ m h y gr od l kk g)(c:iL w l)(d:jM w gr)(f:0<=li):yN gr od li l l=Ew e:=
 Vp (c.srt.sublist filter_sublist) λx=>by rw[a7J j n c d f,st.mem];simp
theorem W2{h s l li}(f:Rows h s l)(g:0<=li):(0<=if(s.len:Int)<li then(s.len:Int)else li)/\(if(s.len:Int)<li then(s.len:Int)else li)<=s.cap/\∃us:cu,dD h ⟨s.a,(if(s.len:Int)<li then(s.len:Int)else li).toNat,s.cap⟩ 1 (us.map eS)/\fA h us (l.take li.toNat)/\us.length<=l.length:=by
 obtain⟨⟨c,d,n,o⟩,_⟩:=f;have u:s.len=c.length:=by have:=d.len;grind
 have y:((if(s.len:Int)<li then(s.len:Int)else li).toNat)=min c.length li.toNat:=by omega
 have e:=d.cap;refine⟨aC,aC,c.take (min c.length li.toNat),?_,⟨bg,λj x z=>?_⟩,bf⟩
 .rw[y,map_take];exact dD.cut d _ bf
 grind
theorem acZ:cm 222 (WA MQ W6):=by
 refine JG func222 ?_;rintro c7 m h K ⟨v,t,q,bs,ls,rfl,hq,ha,hT,a9,hK⟩;refine⟨bLX,rfl,aE RA (aE Fm aH),No v t m h (cQ h K),ax,?_⟩;show No v t m h (cQ h K);dsimp only[No,push_cast];obtain⟨op,ta,w,co,on,gr,od,li,args⟩:=q;obtain⟨c8,⟨wd,f,A⟩,W⟩:=a9;intro b m1 b0 X;obtain⟨s1,n1⟩:=iT (Sub.refl m) b0 X;have b2:m1 b=some (.cells ⟨v.enc⟩ 41 (0,0)):=X.at_;obtain⟨b1,b3,x,ea,c9,rd,sq⟩:=ha.get (Hf (i:=0) aC);simp only[W6]at hK;generalize ls.getD 0 []=l at hK f sq;have d':=f.len;refine⟨v,.of_m b2 (take_length ..),b1,b3,ea,aC,aC,x,.imm rd,v,x,gr,od,l,wd,rfl,hq.parts.group_,hq.parts.order_,sq,f,A,hT.sub s1,λy m2 h2 kk g hy Y G U=>?_⟩;have yb:b≠y:=λe=>bg
 have Z:m2 b=some (.cells ⟨v.enc⟩ 41 (0,0)):=bg
 have s2:Sub m m2:=λz o e=>by rw[Y z (λH=>by have:=s1 z o e;grind)];exact s1 z o e
 refine⟨.of_m Z (take_length ..),.imm (rd.mono G),_,U.map_,λr F I a' it=>?_⟩;have rb:b≠r:=λe=>by have:=I.m_;grind
 have b4:F b=some (.cells ⟨v.enc⟩ 41 (0,0)):=by rw[a'.other b rb];exact Z
 have s3:Sub m F:=λz o e=>by
  have:=s2 z o e;rw[a'.other z (λH=>by rw[H,I.m_]at this;cases this)];exact this
 classical
 have b5:∃o,F y=some o:=by obtain⟨es,c,d,B,c0,P,_⟩:=it.ex;grind
 have a0:∃o,F r=some o:=by obtain⟨es,c,d,B,c0,P,i2,i3,i4,i5,_⟩:=it.ex;grind
 have yr:y≠r:=λe=>by
  obtain⟨es,c,P,_⟩:=U.map_;rw[e,I.m_]at P;cases P
 refine⟨.of_m b4 (take_length ..),.imm (rd.mono G),λz=>z.1=b/\z.2.2.1=r/\z.2.2.2.2=h2/\(∀x o,F x=some o->x≠r->z.2.2.2.1 x=some o)/\∃left Q u,mL z.2.2.2.1 y r (kk.map λp=>(Value.string p.1,dX p.2)) left/\cW z.2.2.2.1 z.2.1 65 1 (Q.map eS)/\(∀x i,z.2.1.a=some ⟨x,i,none⟩->F x=none)/\fA h2 Q u/\GY fI gr li l kk g left u,λz=>leftOf z.2.2.2.1 z.2.2.1,⟨(b,⟨none,0,0⟩,r,F,h2),⟨rfl,rfl,rfl,λx o e _=>e,_,[],[],it,⟨BM [],.inl ⟨rfl,rfl⟩⟩,(λx i e=>by cases e),fA.nil _,.start⟩,MT⟩,?_⟩
 .rintro⟨b',s,J,mz,hz⟩ ⟨e1,H,e3,R,left,Q,u,C,D,b6,L,rk⟩;dsimp only at e1 H e3 R C D b6 L rk⊢
  subst e1 H e3;have c5:u.length<=l.length:=by have:=rk.cnt;omega
  have d0:=L.len;refine⟨y,_,left,C,λS=>?_,λl1 x1 l2 a1 m4 M O=>?_⟩
  .subst S;refine⟨s,Q,u,rfl,D.src,L,aC,λs' h' a2 b7=>cQ.sub (λz o e=>R z o (s3 z o e) (λH=>?_)) (G.trans a2) (hK s' h' (G.trans a2) ?_)⟩
   .have:=s2 z o e;rw[H,I.m_]at this;cases this
   .rw[rk.done Rc U f A W];exact b7
  .have b8:x1∈left:=bg
   obtain⟨V,a3,rfl⟩:=mem_map.1 (mL.mem C b8);have n:∀{x},(∃o,F x=some o)->∀i,s.a≠some ⟨x,i,none⟩:=fun{x}⟨o,ho⟩ i e=>bg
   have b9:m4 b'=some (.cells ⟨v.enc⟩ 41 (0,0)):=by rw[M.other b' rb];grind
   have T:cW m4 s 65 1 (Q.map eS):=cW.keep D λx i e=>M.other x λH=>n a0 i (H▸e);refine⟨λc=>c=(b',s,V.2,J,m4,hz),⟨y,_,_,_,O,⟨(b',s,V.2,J,m4,hz),rfl,rfl,rfl,rfl,rfl,rfl,rfl,trivial⟩⟩,?_⟩;rintro c rfl;dsimp only;have a4:v.limit=li:=hq.parts.limit_;obtain⟨c1,c2,a5,c',c3,d1⟩:=W2 (li:=li) (U.rows V a3) W;have d2:=(U.perm V.1).length_eq;have c6:(mK fI gr l V.1).length<=l.length:=length_filter_le _ _;refine⟨li,.of_m b9 (by rw[<-a4];rfl),c1,c2,Q.map eS,T,a5.map eS,BM _,.imm c',bf,bf,λs' m5 E=>?_⟩
   .have a6:∀x o,F x=some o->x≠J->m5 x=some o:=λx o e c4=>E.other x o (by rw[M.other x c4];grind) (n ⟨o,e⟩)
    have a7:mL m5 y J (kk.map λp=>(Value.string p.1,dX p.2)) (l1++l2):=by
     obtain⟨es,c,d,B,c0,P,i2,i3,i4,i5,_⟩:=O.it.ex;exact mL.keep O.it (by rw[P];exact E.other y _ P (n b5)) (by rw[i5];exact E.other J _ i5 (n a0))
    refine⟨(b',s',J,m5,hz),⟨rfl,rfl,rfl,a6,_,Q++a5,u++(g V.1).take li.toNat,a7,?_,λx i e=>?_,L.app c3,rk.step U C a3 a1⟩,?_,rfl,rfl,rfl,rfl,rfl,trivial⟩
    .rw[bu];exact E.row
    .rcases E.fresh x i e with h5|⟨j,h5⟩
     .cases e6:F x with
      |none=>rfl
      |some o=>
       by_cases a8:x=J
       .obtain⟨es,c,d,B,c0,P,i2,i3,i4,i5,_⟩:=O.it.ex
        grind
       .rw[M.other x a8,R x o e6 a8]at h5;cases h5
     grind
    .show leftOf m5 J<leftOf mz J;rw[mL.left_ a7,mL.left_ C,a1];simp
def aTQ:Vc.Spec:=λc m h K=>∃(n d e f:Nat)(v:QV)(od:cv)(g s:Sl)(rs:ct)(r:da)(w:Nat),c=[cI n,.val (.func (.func 253) #[] #[.pointer (some ⟨d,0,none⟩),.pointer (some ⟨e,0,none⟩),.pointer (some ⟨f,0,none⟩)])]/\
 m d=some (.cells ⟨QV.enc v⟩ 41 (0,0))/\m e=some (.cells #[Sl.val g] 58 (0,0))/\m f=some (.cells #[Sl.val s] 65 (0,0))/\jC h v.order od/\Rows h g rs/\bS h s r/\rs.length=n/\tU od rs/\(∀x∈rs,x.length=w)/\r.length=w/\
 K (cI ((rs.countP λy=>decide (jR od y r<0):Nat):Int)) m h
noncomputable def bLQ:=V5 [(252,Wq),(248,b8Z),(108,aTQ)] [] [(2,{A:=Sl×Nat×Nat×MH×PH,st:=λ⟨t,b,c,m,h⟩=>bZ 38 40 [(1,sv t),(2,vv (.pointer (some ⟨b,0,none⟩))),(5,vv (.pointer (some ⟨c,0,none⟩)))] [] m h}),
 (6,{A:=Nat×Nat×Nat×Nat×MH×PH,st:=λ⟨b,o,e,g,m,h⟩=>bZ 38 40 [(2,vv (.pointer (some ⟨b,0,none⟩))),(6,vv (.pointer (some ⟨o,0,none⟩))),(7,vv (.pointer (some ⟨e,0,none⟩))),(8,vv (.pointer (some ⟨g,0,none⟩)))] [] m h})] [200002,200005,200006,200007,200008,1058,400000,0]
noncomputable abbrev xX(a:Sl×Nat×Nat×MH×PH):=a.2.2.1
abbrev F1(a:MH)(b:Nat)(c:(Array Value)->cr)(d:MH->(Nat×Nat×Nat×Nat×MH×PH)->Prop):=jN (λx e=>aA (yP a b (gO x e 0)) (0<x.size) (∀(f:MH),bL a f b (c x) e->∃(g:Nat×Nat×Nat×Nat×MH×PH),d f g))
abbrev F9(a:Nat×Nat×Nat×Nat×MH×PH->Prop)(b:Nat×Nat×Nat×Nat×MH×PH)(c:Sl×Nat×Nat×MH×PH)(d e g:Nat)(i:MH)(j:PH):=aA (a b) (bY c.2.1 b.1) (aA (bY d b.2.1) (bY e (fT b.2)) (aI (bY g (fS b.2)) (bW i (fK b.2)) (eH j (fK b.2)) True))
abbrev J0(a:Sl->Sl->ct->da->Prop):=sG (λx c=>∃(d:ct)(e:da),a x c d e)
abbrev IB(a:ct)(b:da->Prop):=∀(x:da),List.Mem x a->b x
attribute [push_cast] xX F1 F9 J0 IB
def Nn(v:QV)(t:Sl)(m:MH)(h:PH)(K:cn):=
  ∀(b:Nat)(R:MH),bF (cK m h b) (bL m R b v.enc 41) (∃(I:Sl×Nat×Nat×MH×PH->Prop),(∃(y:QV),aL R h b 0 y.enc/\bK (λH o=>aI (aW t.a H o) ((0:Int)<=1) (1<aG t) (∃(C:Nat),aA (aL R h H (o+1) (zA C)) (∃(Q:QV)(u:Nat),Q1 (λg W=>∃(l:ct)(w:Nat),IL (gC (cZ y) (uO C)) (gC (cZ Q) (uO u)) h Q.group g (jC h Q.order W) (SK h u l) w l R (λD J d k X=>Iz R D J (bR h d (sM fI J d D g W l k X) (aA (aL J d b 0 y.enc) (aL J d H (o+1) (zA C)) (∀(j:Nat)(F:MH),bF (cK J d j) (bL J F j (oW EI) 160) (jN (λc E=>aA (yP F j (gO c E 0)) (0<c.size) (∀(T:MH),bL F T j (fE (Dt D) 1 c) E->∃(x:Sl×Nat×Nat×MH×PH),aA (I x) (aZ t x.1)
 (aA (bY b x.2.1) (bY j (xX x)) (aA (bW T x.2.2.2) (eH d x.2.2.2) True))))))))))) (aA (aL R h b 0 y.enc) (aL R h H (o+1) (zA C)) (∀(j:Nat)(J:MH),bF (cK R h j) (bL R J j (oW EI) 160) (∃(Q:QV)(u:Nat),Q1 (λg W=>∃(l:ct)(w:Nat),IL (gC (cZ y) (uO C)) (gC (cZ Q) (uO u)) h Q.group g (jC h Q.order W) (SK h u l) w l J (λD F d k X=>Iz J D F (bR h d (sM fI F d D g W l k X) (jN (λc E=>aA (yP F j (gO c E 0)) (0<c.size) (∀(T:MH),bL F T j (fE (Dt D) 1 c) E->∃(x:Sl×Nat×Nat×MH×PH),aA (I x) (aZ t x.1) (aA (bY b x.2.1) (bY j (xX x)) (aA (bW T x.2.2.2) (eH d x.2.2.2) True))))))))))))))/\∀(x:Sl×Nat×Nat×MH×PH),I x->∀(H:Nat)(J:
 MH),bF (cK (pC x.2.2) (kY x.2.2) H) (bL (pC x.2.2) J H iP 58) (A6 x.1.a 0 0 x.1 J (kY x.2.2) 0 (λy S=>xN S (kY x.2.2) y J (λx1 I1 k e=>eX (λF d=>bF (CU x1 k e) (PH.le (kY x.2.2) d) (I1 k F d->∀(j:Nat)(T:MH),bF (cK F d j) (bL F T j iP 65) (jN (λc E=>aA (yP T j (gO c E 0)) (0<c.size) (∀(z:MH),bL T z j (fE (dX e) 1 c) E->∃(I2:Nat×Nat×Nat×Nat×MH×PH->Prop),(∃(C:Nat),aL z d (xX x) 0 (oI C)/\∃(D:Sl),aL z d j 0 (aM D)/\∃(G:Sl),aA (aL z d x.2.1 17 (aM G)) (aL z d (xX x) 0 (oI C)/\∃(s:Sl),D1 D G s d z (xX x) C (λr M=>aA (aL z d j 0 (aM D)) (aL z d x.2.1 17 (aM G)) (tJ z C (λO=>O (dQ r M)) (dQ r M)
 (aI (dM z d (xX x) C) (aL z d j 0 (aM D)) (aL z d x.2.1 17 (aM G)) (∀(A:Nat)(B:MH),bF (cK z d A) (bL z B A iP 58) (F1 B A (λP=>fE pV 1 P) (λL f=>F9 I2 f x H j A L d)))) (λU=>aI (dM z d (xX x) C) (aL z d j 0 (aM D)) (aL z d x.2.1 17 (aM G)) (∀(A:Nat)(B:MH),bF (cK z d A) (bL z B A iP 58) (F1 B A (λP=>fE (dX U) 1 P) (λL f=>F9 I2 f x H j A L d)))))) (λr M=>aI (dM z d (xX x) C) (aL z d j 0 (aM D)) (aL z d x.2.1 17 (aM G)) (∀(A:Nat)(B:MH),bF (cK z d A) (bL z B A iP 58) (aA (aL B d j 0 (aM D)) (aL B d x.2.1 17 (aM G)) (tJ B C (λO=>O (dQ r M)) (dQ r M) (F1 B A (λP=>fE
 pV 1 P) (λL f=>F9 I2 f x H j A L d)) (λU=>F1 B A (λP=>fE (dX U) 1 P) (λL f=>F9 I2 f x H j A L d))))))) (aA (dM z d (xX x) C) (aL z d j 0 (aM D)) (aL z d x.2.1 17 (aM G)/\∀(A:Nat)(B:MH),bF (cK z d A) (bL z B A iP 58) (aL B d (xX x) 0 (oI C)/\∃(s:Sl),D1 D G s d B (xX x) C (λ_ _=>aL B d j 0 (aM D)) (λr M=>aL B d x.2.1 17 (aM G)/\tJ B C (λO=>O (dQ r M)) (dQ r M) (F1 B A (λP=>fE pV 1 P) (λL f=>F9 I2 f x H j A L d)) (λU=>F1 B A (λP=>fE (dX U) 1 P) (λL f=>F9 I2 f x H j A L d)))))))/\∀(f:Nat×Nat×Nat×Nat×MH×PH),I2 f->kW (lM f.2) (jV f.2) (fS f.2) 0 (λC=>bK
 (λn A=>bK (λZ b5=>∃(Q:QV)(o:cv),J0 (λg s r Y=>∃(w:Nat),aA (gC (gG (aG C)) (mR 253 (Array.mk (aX (SS f.1 0) (SS (fS f.2) 0) (z8 (fT f.2)))))=gC (gG (↑n:Int)) (mR 253 (Array.mk (aX (SS A 0) (SS Z 0) (z8 b5))))) ((fK f.2).1 A=Option.some (gO (Array.mk Q.enc) 41 0)) (aA ((fK f.2).1 Z=Option.some (gO (Array.mk (aM g)) 58 0)) ((fK f.2).1 b5=Option.some (gO (Array.mk (aM s)) 65 0)) (aA (jC (jV f.2) Q.order o) (Rows (jV f.2) g r) (aA (bS (jV f.2) s Y) (r.length=n) (aI (tU o r) (IB r (λV=>V.length=w)) (Y.length=w) (∃(D:Int),aL (lM f.2) (jV f.2) f.1 19 (bC D)/\bA (↑(countP (fun(G:da)=>decide (jR o G Y<0)) r):Int) D (Gc (lM f.2) (jV
 f.2) f.2.1 0 (λG U=>FW (lM f.2) (jV f.2) (fT f.2) 0 (aM U) (λV=>aI (cW (lM f.2) (dO G) 65 1 V) (kP V) (dR V) (jY (λs1 B=>gK (lM f.2) B (dO G) s1 65 1 (dN V (aM U))->jN (λM E1=>aA (yP B f.2.1 (gO M E1 0)) (0<M.size) (∀(L:MH),bL B L f.2.1 (fE (dX s1) 1 M) E1->I1 (k+1) L (jV f.2)))))))) (I1 (k+1) (lM f.2) (jV f.2))))))))))))))))) (λF d=>kW F d H 0 (λC=>K (qW C) F d)))))
theorem LY{w:World}{q c}(d:b<w.heap.size):(Sort.grow (w.drewN q) c).heap[b]? =w.heap[b]? :=by
 show((w.drewN q).heap++c)[b]? =_;rw[Array.getElem?_append_left (show b<(w.drewN q).heap.size from d)];rfl
theorem Y0{P g}{cs:cr}{m h S r u}(M:Sound P g S)(O:S (cs.map .val) m h λr' m' h'=>r'=r/\m'=m/\h'=h)(Q:∀w D,Ju w r D->D=u){w:World}(R:∀b o v,h b o=some v->w.cell? ⟨b,o,none⟩=some v)(Y:∀b o,m b=some o->w.heap[b]? =some o)(T:∀b o,m b=some o->∀i,h b i=none) E F:
 Calls P g cs.toArray (Sort.grow (w.drewN E) F) λe w'=>e= .returned u/\∃q G,w'=Sort.grow ((Sort.grow (w.drewN E) F).drewN q) G:=by
 obtain⟨W,J⟩:∃W,Sort.grow (w.drewN E) F=W:=⟨_,rfl⟩
 rw[J];have H:∀b,b<w.heap.size->W.heap[b]? =w.heap[b]? :=λb f=>by rw[<-J];exact LY f
 have y:∀(l:cr)(w:World),DI w (l.map .val) l:=λl w=>by
  induction l with
  |nil=>trivial
  |cons a l U=>exact⟨rfl,U⟩
 have A:∀(l:cr)(i:Nat)(c:CV)(u:Value)(b:Nat),(l.map CV.val)[i]? =some c->jS c u=some b->False:=λl i c u b n f=>by
  rw[getElem?_map]at n;cases e:l[i]? with
  |none=>grind
  |some v=>rw[e]at n;simp at n;subst n;simp[jS]at f
 have B:C2 W m h (cs.map .val) cs:=by
  refine⟨y _ _,?_,?_,T,λi j c d u v b n _ _ _ f _=>(A _ i c u b n f).elim,λi c u b n _ f=>(A _ i c u b n f).elim⟩
  .intro b o v V;have C:=R b o v V;rw[World.cell?_of_block (w:=w) (w':=W) (a:=⟨b,o,none⟩) (H b (World.block_lt_of_cell? w ⟨b,o,none⟩ C))];exact C
  grind
 refine(M.2 _ _ m h W _ O B).mono ?_;rintro e w' ⟨r',D,m',h',rfl,⟨rfl,rfl,rfl⟩,I,z,_⟩;have X:=Q _ _ I;subst X;refine⟨rfl,N5 z.tape z.os z.output z.drawn z.size (λb f=>?_)⟩;cases L:m' b with
 |none=>
  refine z.frame b f ?_;rintro(C|⟨i,c,u,n,_,Z⟩)
  .exact C L
  grind
 |some o=>rw[z.msat b o L];grind
theorem Qq{g S R}(U:cm g S)(hR:∀B m h K,R B m h K->∃(n E F G wd:Nat)(od:cv)(rs:ct)(r:da),B=[cI n,.val (.func (.func g) #[] #[.pointer (some ⟨E,0,none⟩),.pointer (some ⟨F,0,none⟩),.pointer (some ⟨G,0,none⟩)])]/\rs.length<=502633886983/\rs.length=n/\tU od rs/\(∀x∈rs,x.length=wd)/\r.length=wd/\
 (∀(i:Nat) x,rs[i]? =some x->S ([.int .i64 i,.pointer (some ⟨E,0,none⟩),.pointer (some ⟨F,0,none⟩),.pointer (some ⟨G,0,none⟩)].map .val) m h λr' m' h'=>r'=cB (decide (jR od x r>=0))/\m'=m/\h'=h)/\K (cI ((rs.countP λy=>decide (jR od y r<0):Nat):Int)) m h):cm 108 R:=by
 refine⟨⟨Tryz.f108,func108,rfl,az⟩,?_⟩;intro B V m h w K h0 f;obtain⟨n,E,F,G,wd,od,rs,r,rfl,W,rfl,I,X,j,hS,hK⟩:=hR _ _ _ _ h0
 obtain⟨v1,H,rfl⟩:∃v H,V=[v,H]:=by
  have:=(rJ f.args).1
  match V,this with
  |[v,H],_=>grind
 have C:v1= .int .i64 rs.length:=f.args.1;have h2:H= .func (.func g) #[] #[.pointer (some ⟨E,0,none⟩),.pointer (some ⟨F,0,none⟩),.pointer (some ⟨G,0,none⟩)]:=f.args.2.1;subst C h2
 have eg:∀args w,(callFunc g args).run Tryz.prog w= .ok (.enter g args) w:=λargs w=>by
  obtain⟨Y,J,d,hn⟩:=U.1;have L:¬Y.body=none:=bg
  have M:¬Y.name= "runtime.NumGoroutine" :=bg
  simp[callFunc,program,Sem.run,J,M,L]
 have D:=Any.sort_Search Tryz.searchO g #[.pointer (some ⟨E,0,none⟩),.pointer (some ⟨F,0,none⟩),.pointer (some ⟨G,0,none⟩)] rs.length (λi=>decide (jR od (rs.toArray[i]!) r>=0)) w eg aC
  (λmm O i hi=>Y0 (cs:=[.int .i64 i,.pointer (some ⟨E,0,none⟩),.pointer (some ⟨F,0,none⟩),.pointer (some ⟨G,0,none⟩)]) U
   (hS i _ bg) (λw u' hu=>hu) f.hsat f.msat f.disj mm O)
  (λa b P d c=>?_)
 .refine Calls.mono D ?_;rintro e w' ⟨rfl,q,O,rfl⟩
  have u:((List.range rs.length).countP λi=> !decide (jR od (rs.toArray[i]!) r>=0))=rs.countP λy=>decide (jR od y r<0):=by
   have:=Go.Lib.countP_range rs.toArray (λy=> !decide (jR od y r>=0))
   grind
  rw[u];refine⟨_,_,m,h,rfl,hK,rfl,⟨rfl,rfl,rfl,Nat.le_add_right _ _,?_,λb d _=>LY d,λb o v Q=>?_,λb o d=>?_,f.disj,λ_ _ _ e=>e,λ_ _ _=>rfl,λb o d=>.inr (.inl bg)⟩,λb d=>by cases d⟩
  .show w.heap.size<=((w.drewN q).heap++O).size;rw[Array.size_append];exact Nat.le_add_right _ _
  .have C:=f.hsat b o v Q;rw[World.cell?_of_block (w:=w) (a:=⟨b,o,none⟩) (LY (World.block_lt_of_cell? w ⟨b,o,none⟩ C))];exact C
  .have C:=f.msat b o d;rw[LY (Array.getElem?_eq_some_iff.1 C).1];exact C
 .have c:=of_decide_eq_true c;refine decide_eq_true ?_;rcases Nat.lt_or_eq_of_le P with T|rfl
  .have Z:a<rs.length:=by omega
   rw[getElem!_pos _ a aC]at c;rw[getElem!_pos _ b aC];simp only[getElem_toArray]at c⊢
   have z:=X _ (getElem_mem Z);have A:=X _ (getElem_mem d);have h5:=(pairwise_iff_getElem.1 I) a b Z d T;have h6:=AT (od:=od) z A;have h7:=AT (od:=od) z j;have h8:=AT (od:=od) A j;rw[Ao z A]at h6;have:=(HX wd od).trans r rs[a] rs[b] (by rw[<-Ao j z];omega) aC;rw[<-Ao j A]at this;omega
  .exact c
theorem avZ:cm 108 aTQ:=Qq aaX λy m h K⟨n,j,o,u,v,od,g,s,rs,r,z,e,A,B,C,D,c,E,F,d,G,f,H⟩=>⟨n,j,o,u,z,od,rs,r,e,by have:=c.len;omega,F,d,G,f,λi x I=>⟨i,j,o,u,v,od,g,s,rs,r,x,rfl,A,B,C,D,c,E,I,rfl,rfl,rfl⟩,H⟩
theorem sM.get2{κ y l kk G key K0}{K:Sl->Prop}(g:sM κ m h y gr od l kk G)(n:DH kk key ⟨none,0,0⟩->K0)(o:∀s,DH kk key s->K s):
 ∃(d:List (Value×Sl))(Ok:Value->Prop),u6 m y (d.map λp=>(p.1,dX p.2))/\KeyLaw Tryz.prog 9 Ok/\Ok (.string key)/\(∀e,List.Mem e d->Ok e.1)/\((∀e,List.Mem e d->e.1=Value.string key->False)->K0)/\∀t,List.Mem (Value.string key,t) d->K t:=by
 obtain⟨u,c,z,A,_,_⟩:=g.map_;refine⟨kk.map λp=>(.string p.1,p.2),_,⟨u,c,z,by rw[A];simp⟩,Dh,⟨key,rfl⟩,λe B=>?_,λC=>n (.inl ⟨rfl,λh=>?_⟩),λt D=>o t (.inr ?_)⟩
 .obtain⟨k,_,rfl⟩:=mem_map.1 (show e∈_ from B)
  grind
 .obtain⟨p,j,e⟩:=mem_map.1 h;subst e;exact C (.string p.1,p.2) (mem_map_of_mem (f:=λp:ByteArray×Sl=>(Value.string p.1,p.2)) j) rfl
 .obtain⟨p,j,e⟩:=mem_map.1 (show(Value.string key,t)∈_ from D)
  grind
theorem sM.keep{κ y l kk G}(g:sM κ m h y gr od l kk G)(d:∀o,m y=some o->m' y=some o)(le:PH.le h h'):sM κ m' h' y gr od l kk G:=by
 obtain⟨e,c,f,j,n,u⟩:=g.map_;exact⟨⟨e,c,d _ f,j,n,u⟩,g.nodup,λp z=>bN.mono (g.rows p z) le (λr t A=>bS.mono A le),g.none_,g.perm,g.sort⟩
theorem sM.at_{κ y l kk G key s}(g:sM κ m h y gr od l kk G)(c:DH kk key s):Rows h s (G key):=by
 rcases c with⟨rfl,d⟩|e
 .rw[g.none_ key d];exact(fA.nil h).rows (dD.nil _ _) ay
 .exact g.rows _ e
structure cIQ(m5:MH)(hh:PH)(bq b9 b2:Nat)(e:Sl)(us2:cu)(Gk:ct)(c:Nat×Nat×Nat×Nat×MH×PH):Prop where
 q:c.1=bq
 o:c.2.1=b9
 b:c.2.2.1=b2
 h:c.2.2.2.2.2=hh
 sub:FA m5 c.2.2.2.2.1 b9
 out:sK m5 c.2.2.2.2.1 b9 us2
 e_:c.2.2.2.2.1 b2=some (.cells #[dX e] 65 (0,0))
 g_:∃s,c.2.2.2.2.1 c.2.2.2.1=some (.cells #[dX s] 58 (0,0))/\Rows hh s Gk
def Ig(q:Query)(ls:List ct):=match q with|.mk _ _ _ _ _ gr od li _=>yN gr od li (ls.getD 0 []) (ls.getD 1 [])
def Fc(q:Query)(ls:List ct):=match q with|.mk _ _ _ _ _ gr _ _ _=>2<=ls.length/\∃w,iL w (ls.getD 0 [])/\iL w (ls.getD 1 [])/\jM w gr
theorem acX:cm 223 (WA Fc Ig):=by
 refine JG func223 ?_;rintro g2 m h K ⟨v,t,q,bs,ls,rfl,hq,ha,hT,f0,hK⟩;refine⟨bLQ,rfl,aE RA (aE GR (aE avZ aH)),Nn v t m h (cQ h K),ax,?_⟩;show Nn v t m h (cQ h K);dsimp only[Nn,push_cast];obtain⟨op,ta,w,co,on,gr,od,li,args⟩:=q;obtain⟨g3,wd,B,n,I⟩:=f0;intro b m1 f1 c8;obtain⟨s1,n1⟩:=iT (Sub.refl m) f1 c8;have a8:m1 b=some (.cells ⟨v.enc⟩ 41 (0,0)):=c8.at_;obtain⟨b1,f2,x,ea,g4,rd,sq⟩:=ha.get (Hf (i:=1) aC);obtain⟨b6,c9,x6,f3,g1,f4,d'⟩:=ha.get (Hf (i:=0) aC);simp only[Ig]at hK;generalize ls.getD 1 []=l' at hK n sq;generalize ls.getD 0 []=l at hK B d';have g5:=B.len;have a9:=hq.parts.group_;have b0:=hq.parts.order_
 refine⟨λz=>z.1=t/\z.2.1=b/\PH.le h z.2.2.2.2/\Sub m z.2.2.2.1/\z.2.2.2.1 b=some (.cells ⟨v.enc⟩ 41 (0,0))/\∃y kk G,z.2.2.2.1 z.2.2.1=some (.cells #[.map (some y)] 160 (0,0))/\sM fI z.2.2.2.1 z.2.2.2.2 y gr od l' kk G,
  ⟨v,.of_m a8 (take_length ..),b1,f2,ea,aC,aC,x,.imm rd,⟨v,x,gr,od,l',wd,rfl,a9,b0,sq,n,I,hT.sub s1,λy m2 h2 kk G F H Z Y=>?_⟩,.of_m a8 (take_length ..),.imm rd,λU m2 d0 a'=>?_⟩,?_⟩
 .have yb:b≠y:=λe=>bg
  have a0:m2 b=some (.cells ⟨v.enc⟩ 41 (0,0)):=bg
  have s2:Sub m m2:=λz o e=>by rw[H z (λd=>by have:=s1 z o e;grind)];exact s1 z o e
  refine⟨.of_m a0 (take_length ..),.imm (rd.mono Z),λU m3 b4 a1=>⟨_,_,⟨a1.at_⟩,ay,λV D=>⟨(t,b,U,V,h2),⟨rfl,rfl,Z,?_,?_,y,kk,G,D.at_,?_⟩,MT⟩⟩⟩
  .obtain⟨s3,n3⟩:=iT s2 b4 a1;exact s3.upd n3 D.other
  .have:b≠U:=λe=>by have:=b4.m_;grind
   show V b=_;rw[D.other b this,a1.other b this];exact a0
  .refine Y.keep (λo e=>?_) (.refl _);have:y≠U:=λd=>by rw[d,b4.m_]at e;cases e
   show V y=_;rw[D.other y this,a1.other y this];exact e
 .obtain⟨s2,n2⟩:=iT s1 d0 a';have d1:b≠U:=λe=>by have:=d0.m_;grind
  have a0:m2 b=some (.cells ⟨v.enc⟩ 41 (0,0)):=by rw[a'.other b d1];exact a8
  refine⟨v,x,gr,od,l',wd,rfl,a9,b0,sq,n,I,hT.sub s2,λy m3 h2 kk G F H Z Y=>?_⟩;have yb:b≠y:=λe=>bg
  have yc:U≠y:=λe=>by rw[<-e,a'.at_]at F;cases F
  have s3:Sub m m3:=λz o e=>by rw[H z (λd=>by have:=s2 z o e;grind)];exact s2 z o e
  refine⟨#[.map none],160,⟨by rw[H U yc];exact a'.at_⟩,ay,λV D=>⟨(t,b,U,V,h2),⟨rfl,rfl,Z,s3.upd n2 D.other,?_,y,kk,G,D.at_,?_⟩,MT⟩⟩
  .show V b=_;rw[D.other b d1,H b yb];exact a0
  .refine Y.keep (λo e=>?_) (.refl _);show V y=_;rw[D.other y (Ne.symm yc)];exact e
 .rintro⟨t',b',U,V,hh⟩ ⟨e1,d,J,s4,P,y,kk,G,b5,Y⟩;dsimp only at e1 d J s4 P b5 Y⊢
  subst e1 d;intro S m5 d2 a2;obtain⟨s5,n9⟩:=iT s4 d2 a2
  have a3:∀{z o},V z=some o->m5 z=some o/\z≠S:=fun{z o} d=>by
   have:z≠S:=λT=>by rw[T,d2.m_]at d;cases d
   exact⟨by rw[a2.other z this];exact d,this⟩
  obtain⟨us,d3,d4⟩:=(d'.mono J).ex;have f5:=d4.len;refine⟨b6,c9,f3,aC,aC,x6,.imm (f4.mono J),AV,us,λk my F=>F=hh/\FA m5 my S/\∃f,sK m5 my S f/\f.length<=k/\fA hh f (yN gr od li (l.take k) l'),Ak,⟨x6,us,rfl,d3,rfl⟩,⟨rfl,λz o e _=>e,[],sK.new a2.at_,ay,by simpa[yN]using fA.nil hh⟩,?_,?_⟩
  .rintro k e my F hk-⟨rfl,a4,f,W,b7,Q⟩ b2 m6 f6 d5;obtain⟨r,hr,hv⟩:=d4.at' hk;have g6:=(bm hk);have a5:=bo hr;have d6:=B.wid r a5;have d7:jM r.length gr:=bg
   refine⟨_,_,⟨d5.at_⟩,ay,λL d8=>?_⟩
   have b8:∀{z o},my z=some o->L z=some o/\z≠b2:=fun{z o} d=>by
    have:z≠b2:=λT=>by rw[T,f6.m_]at d;cases d
    exact⟨by rw[d8.other z this,d5.other z this];exact d,this⟩
   have up:∀{z o},V z=some o->L z=some o:=fun{z o} d=>(b8 (a4 z o (a3 d).1 (a3 d).2)).1;have s7:FA m5 L S:=λz o d c'=>(b8 (a4 z o d c')).1
   have C:∀{ma mb:MH},sK m5 ma S f->(∀z o,ma z=some o->mb z=some o)->sK m5 mb S f:=fun{ma mb} ho hk=>by
    obtain⟨s,h1,h2,h3⟩:=ho.ex;refine⟨s,hk _ _ h1,cW.keep h2 λz i T=>?_,h3⟩;obtain⟨g8,h4⟩:=h2.blk T
    grind
   have o7:sK m5 L S f:=C W λz o d=>(b8 d).1;have a6:L b2=some (.cells #[dX e] 65 (0,0)):=d8.at_;have g7:=Y.keep (λo d=>up d) (.refl _);have rc:aL L F U 0 [Value.map (some y)]:=.of_m (up b5) rfl;have re:aL L F b2 0 [dX e]:=.of_m a6 rfl;have rg:aL L F b' 17 [dX v.group]:=.of_m (up P) rfl;have d9:Ints F v.group gr:=a9.mono J;have T7:eD L:=hT.sub λz o d=>up (s4 z o d)
   have fin:∀s,DH kk (fI (pick r gr)) s->∀A M,cK L F A->lK L M A (.cells #[pV] 58 (0,0))->∃(cs:Array Value)(E:TypeId),yP M A (.cells cs E (0,0))/\0<cs.size/\∀m9,lK M m9 A (.cells (Array.mk (dX s::cs.toList.drop 1)) E (0,0))->
    ∃c:Nat×Nat×Nat×Nat×MH×PH,cIQ m5 F b' S b2 e f (G (fI (pick r gr))) c/\WY b' 0=WY c.1 0/\WY S 0=WY c.2.1 0/\WY b2 0=WY c.2.2.1 0/\WY A 0=WY c.2.2.2.1 0/\m9=c.2.2.2.2.1/\F=c.2.2.2.2.2/\True:=λs R A M u g=>by
    refine⟨_,_,⟨g.at_⟩,ay,λm9 e'=>⟨(b',S,b2,A,m9,F),?_,MT⟩⟩
    have c0:∀z o,L z=some o->m9 z=some o:=λz o d=>by
     have:z≠A:=λT=>by rw[T,u.m_]at d;cases d
     rw[e'.other z this,g.other z this];exact d
    exact⟨rfl,rfl,rfl,rfl,λz o d c'=>c0 z o (s7 z o d c'),C o7 c0,c0 _ _ a6,s,e'.at_,Y.at_ R⟩
   have e0:∀{A M},cK L F A->lK L M A (.cells #[pV] 58 (0,0))->∀z o,L z=some o->M z=some o:=fun{A M} u g z o d=>by
    have:z≠A:=λT=>by rw[T,u.m_]at d;cases d
    rw[g.other z this];exact d
   refine⟨cIQ m5 F b' S b2 e f (G (fI (pick r gr))),⟨y,rc,e,re,v.group,rg,⟨rc,e,v.group,r,gr,rfl,hv,d9,B.row r a5,d7,T7,rc,⟨re,rg,g7.get2 (λR=>⟨rc,re,rg,fin _ R⟩) (λs R=>⟨rc,re,rg,fin _ R⟩)⟩,rc,re,rg,λA M u g=>?_⟩,rc,re,rg,λA M u g=>?_⟩,?_⟩
   .have u8:=e0 u g;exact⟨.of_m (u8 _ _ a6) rfl,.of_m (u8 _ _ (up P)) rfl,(g7.keep (u8 y) (.refl _)).get2 (λR=>fin _ R A M u g) (λs R=>fin _ R A M u g)⟩
   .have u8:=e0 u g;have e5:aL M F U 0 [Value.map (some y)]:=.of_m (u8 _ _ (up b5)) rfl;exact⟨e5,e,v.group,r,gr,rfl,hv,d9,B.row r a5,d7,T7.sub u8,e5,.of_m (u8 _ _ a6) rfl,.of_m (u8 _ _ (up P)) rfl,(g7.keep (u8 y) (.refl _)).get2 (λR=>fin _ R A M u g) (λs R=>fin _ R A M u g)⟩
   .rintro⟨c1,c2,c3,A,mz,hz⟩ ⟨e1,d,T,e4,a7,c4,c5,s,c6,X⟩;dsimp only at e1 d T e4 a7 c4 c5 c6⊢
    subst e1 d T e4;have e6:∀{z o},V z=some o->mz z=some o:=fun{z o} d=>a7 z o (a3 d).1 (a3 d).2;have O:=HK Rc (od:=od) n I (B.row r a5) d6;rw[<-(Y.perm _).countP_eq]at O;refine⟨s,.of_m c6 rfl,s.len,c1,A,c3,v,od,s,e,G (fI (pick r gr)),r,wd,rfl,e6 P,c6,c5,b0.mono J,X,hv,X.slen.symm,Y.sort _,λz f7=>?_,d6,v.limit,.of_m (e6 P) rfl,?_⟩
    .have:=(Y.perm _).mem_iff.1 (show z∈_ from f7);exact n.wid z (mem_filter.1 this).1
    .rw[O];have e7:v.limit=li:=hq.parts.limit_;rw[e7];refine aF (λh1=>?_) (λh1=>?_)
     .obtain⟨so,e8,c7,e9⟩:=c4.ex;refine⟨so,.of_m e8 rfl,e,.of_m c5 rfl,KL ⟨_,a2.at_⟩ a7 e8 c7 e9 aC λm' f8 f9=>⟨rfl,f8,f++[e],f9,bf,?_⟩⟩;rw[yN,jZ _ hr,if_pos (decide_eq_true h1)];exact Q.snoc hv
     .refine⟨rfl,a7,f,c4,aC,?_⟩;rw[yN,jZ _ hr,if_neg bg,append_nil];exact Q
  .rintro my F-⟨rfl,a4,f,W,b7,Q⟩
   rw[f5,take_length]at Q;obtain⟨s,hb,f',g'⟩:=W.ex;refine⟨s,.of_m hb rfl,cQ.row (s5.x n9 a4) J f' (λj z e=>?_) (λh' le g0=>hK s h' (J.trans le) ((Q.mono le).rows g0 (by have:=Q.len;omega)))⟩;cases d:m z with
   |none=>rfl
   |some o=>have e1:=g' j z e;rw[s5 z o d]at e1;cases e1
def Fb(op:Int)(q:Query)(ls:List ct):=
 if op=2 then L2 q ls else if op=3 then S8 q ls else if op=4 then Xv q ls else if op=5 then SY q ls else if op=6 then Vg q ls else if op=7 then VG q ls else if op=8 then Rf q ls else if op=9 then W6 q ls else Ig q ls
def QK(op:Int)(q:Query)(ls:List ct):=
 if op=2 then Jw 1 q ls else if op=3 then MR q ls else if op=4 then MS q ls else if op=5 then MP q ls else if op=6 then Jw 2 q ls else if op=7 then B8 q ls else if op=8 then B8 q ls else if op=9 then MQ q ls else Fc q ls
mutual
def fN(ls:List ct):Query->Nat->ct×Nat
 |.mk op ta w co on gr od li args,k=>if op=1 then(ls.getD k [],k+1)else(Fb op (.mk op ta w co on gr od li args) (gI ls args k).1,(gI ls args k).2)
def gI(ls:List ct):dc->Nat->List ct×Nat
 |[],k=>([],k)
 |q::qs,k=>((fN ls q k).1::(gI ls qs (fN ls q k).2).1,(gI ls qs (fN ls q k).2).2)
end
mutual
def ZG(ls:List ct):Query->Nat->Prop
 |.mk op ta w co on gr od li args,k=>if op=1 then k<ls.length else QK op (.mk op ta w co on gr od li args) (gI ls args k).1/\Xl ls args k
def Xl(ls:List ct):dc->Nat->Prop
 |[],_=>True
 |q::qs,k=>ZG ls q k/\Xl ls qs (fN ls q k).2
end
def cIZ:Vc.Spec:=λc m h K=>∃op,c=[cI op]/\(op=2->K (.val (.agg #[.func (.func 215) #[] #[]])) m h)/\(op=3->K (.val (.agg #[.func (.func 216) #[] #[]])) m h)/\(op=4->K (.val (.agg #[.func (.func 217) #[] #[]])) m h)/\(op=5->K (.val (.agg #[.func (.func 218) #[] #[]])) m h)/\(op=6->K (.val (.agg #[.func (.func 219) #[] #[]])) m h)/\
 (op=7->K (.val (.agg #[.func (.func 220) #[] #[]])) m h)/\(op=8->K (.val (.agg #[.func (.func 221) #[] #[]])) m h)/\(op=9->K (.val (.agg #[.func (.func 222) #[] #[]])) m h)/\((op≠2/\op≠3/\op≠4/\op≠5/\op≠6/\op≠7/\op≠8/\op≠9)->K (.val (.agg #[.func (.func 223) #[] #[]])) m h)
def Leaves h s ls:=bN h 1 eS (λl t=>Rows h t l) s ls
def Wt(N:Nat):Vc.Spec:=λe m h K=>∃c v q f d k,e=[cP c,aQ v]/\dK h q v/\SizeOf.sizeOf q<N/\c≠1/\m c=some (.cells #[Sl.val f,.int .i64 (k:Nat)] 174 (0,0))/\Leaves h f d/\eD m/\ZG d q k/\
 ∀g m' h',PH.le h h'->Rows h' g (fN d q k).1->lK m m' c (.cells #[Sl.val f,.int .i64 ((fN d q k).2:Nat)] 174 (0,0))->K (cS g) m' h'
noncomputable def bVZ(N c:Nat)(v:QV):=rI [(120,Wt N),(171,UT),(172,cIZ),(215,WA (Jw 1) L2),(216,WA MR S8),(217,WA MS Xv),(218,WA MP SY),(219,WA (Jw 2) Vg),(220,WA B8 VG),(221,WA B8 Rf),(222,WA MQ W6),(223,WA Fc Ig)] [(7,{A:=Nat×cr×MH×PH,st:=λ⟨i,l,m,h⟩=>bZ 57 59 [(0,pv c),(3,.at (.ptr 3 0)),(6,.at (.lst 33)),(35,sv v.args),(36,iv v.args.len),(37,iv i)] [(3,.cells 41 (v.enc.map .val)),(33,.lst 221 1 (l.map λx=>[x]))] m h})] [] [] [] [] false
abbrev Bj(a:cn)(b:Nat)(c:MH)(d:PH):=a (CV.val (Value.agg (Array.mk (QZ b sR)))) c d
attribute [push_cast] Bj
def bmJ(op:Int)(m:MH)(h:PH)(K:cn):=
  dP (op==2) (Bj K 215 m h) (op==3) (Bj K 216 m h) (dP (op==4) (Bj K 217 m h) (op==5) (Bj K 218 m h) (dP (op==6) (Bj K 219 m h) (op==7) (Bj K 220 m h) (dP (op==8) (Bj K 221 m h) (op==9) (Bj K 222 m h) (Bj K 223 m h))))
abbrev Bt a b c:=aA (cM (aG a)) (aG a<=aG a) (aA (Ah a b) (Af (aG a)) c)
noncomputable abbrev zZ:=fun(x:Value)=>oW x
noncomputable abbrev IF(a:Nat×cr×MH×PH):=List.map zZ a.2.1
noncomputable abbrev p8(a:Nat×cr×MH×PH):=a.2.2.1
noncomputable abbrev uP(a:Nat×cr×MH×PH):=a.2.2.2
abbrev Hy(a:Sl->(List ct)->Prop):=∃(x:Sl)(c:List ct),a x c
abbrev xP(a:cr):=0<a.length
attribute [push_cast] Bt zZ IF p8 uP Hy xP
def UD(N j:Nat)(v:QV)(m:MH)(h:PH)(K:cn):=
  eY v.op 1 (kW m h j 0 (λy=>∃(u:Int),aL m h j 1 (bC u)/\bK (λb o=>aI (aW y.a b o) (0<=u) (u<aG y) (∃(C:Sl),aL m h b (o+iA u 1) (aM C)/\∃(D:Int),aL m h j 1 (bC D)/\tF m j 1 (bC (fM (D+1))) (λz=>K (qW C) z h))))) (Bt v.args 8 (∃(I:Nat×cr×MH×PH->Prop)(z:Nat×cr×MH×PH->Nat),(∃(x:Nat×cr×MH×PH),aA (I x) (cT j) (aA (eP 3) (eL 33) (aA (aJ v.args) (wF v) (aA (bE x.1) (eO v) (aI (bV 221 1 (AK (aG v.args) LL)=bV 221 1 (IF x)) (bW m x.2.2) (eH h x.2.2) True)))))/\∀(x:Nat×cr×MH×PH),I x->bA (↑x.1:Int) (aG v.args) (bK (λb o=>aI (aW v.args.a b o) (0<=(↑x.1:Int)) ((↑x.1:Int)<aG v.args) (∃(y:QV),aL (p8 x)
 (uP x) b (o+bM x.1 21) y.enc/\∃(A:Nat),qC (λf q=>Hy (λl B=>∃(k:Nat),aA (gC (jO j) (cZ y)=gC (jO A) (cZ f)) (dK (uP x) q f) (aA (yH q N) (mS (A=1)) (aA (x.2.2.1 A=Option.some (gO (Array.mk (j5 (dX l) (fV (↑k:Int)))) 174 0)) (Leaves (uP x) l B) (aA (eD (p8 x)) (ZG B q k) (∀(s:Sl),eX (λE c=>bR (uP x) c (Rows c s (fN B q k).1) (bL (p8 x) E A (j5 (dX l) (fV (↑(fN B q k).2:Int))) 174->∃(g:Sl),lC (fY (qW s) (qW g)) (λF=>∀(d:PH),bR c d (cR d F 0 (aM g)) (pP (↑x.1:Int) (IF x) (λe=>aA (mQ (IF x) (pD x.1) e) (xP e) (∃(n:Nat×cr×MH×PH),aA (I n) (z n<z x) (aA (cT j) jU (aA (eL 33) (aJ v.args) (aA (wF v)
 (gX (bH x.1 1)=bP n.1) (aA (eO v) (bV 221 1 (List.set (IF x) (pD x.1) (JA (Value.func (Fn.func 214) sR (Ca F)) 1 e))=bV 221 1 (IF n)) (aA (bW E n.2.2) (eH d n.2.2) True)))))))))))))))))))) (∃(o:Int),aA (sB v.op o) (o=2->cF (uP x) 1 (List.map zZ x.2.1) (λs c=>∃(f:QV)(t:Sl)(q:Query),Ce (λb l=>aA (lL v s=lL f t) (dK c q f) (aA (xD c t b l) (eD (p8 x)) (Jw 1 q l/\∀(g:Sl)(d:PH),bR c d (Rows d g (L2 q l)) (K (qW g) (p8 x) d)))))) (aA (o=3->cF (uP x) 1 (List.map zZ x.2.1) (λs c=>∃(f:QV)(t:Sl)(q:Query),Ce (λb l=>aA (lL v s=lL f t) (dK c q f) (aA (xD c t b l) (eD (p8 x)) (MR q l/\∀(g:Sl)(d:PH),bR c d (Rows d g (S8 q l))
 (K (qW g) (p8 x) d)))))) (o=4->cF (uP x) 1 (List.map zZ x.2.1) (λs c=>∃(f:QV)(t:Sl)(q:Query),Ce (λb l=>aA (lL v s=lL f t) (dK c q f) (aA (xD c t b l) (eD (p8 x)) (MS q l/\∀(g:Sl)(d:PH),bR c d (Rows d g (Xv q l)) (K (qW g) (p8 x) d)))))) (aA (o=5->cF (uP x) 1 (List.map zZ x.2.1) (λs c=>∃(f:QV)(t:Sl)(q:Query),Ce (λb l=>aA (lL v s=lL f t) (dK c q f) (aA (xD c t b l) (eD (p8 x)) (MP q l/\∀(g:Sl)(d:PH),bR c d (Rows d g (SY q l)) (K (qW g) (p8 x) d)))))) (o=6->cF (uP x) 1 (List.map zZ x.2.1) (λs c=>∃(f:QV)(t:Sl)(q:Query),Ce (λb l=>aA (lL v s=lL f t) (dK c q f) (aA (xD c t b l) (eD (p8 x)) (Jw 2 q l/\
 ∀(g:Sl)(d:PH),bR c d (Rows d g (Vg q l)) (K (qW g) (p8 x) d)))))) (aA (o=7->cF (uP x) 1 (List.map zZ x.2.1) (λs c=>∃(f:QV)(t:Sl)(q:Query),Ce (λb l=>aA (lL v s=lL f t) (dK c q f) (aA (xD c t b l) (eD (p8 x)) (B8 q l/\∀(g:Sl)(d:PH),bR c d (Rows d g (VG q l)) (K (qW g) (p8 x) d)))))) (o=8->cF (uP x) 1 (List.map zZ x.2.1) (λs c=>∃(f:QV)(t:Sl)(q:Query),Ce (λb l=>aA (lL v s=lL f t) (dK c q f) (aA (xD c t b l) (eD (p8 x)) (B8 q l/\∀(g:Sl)(d:PH),bR c d (Rows d g (Rf q l)) (K (qW g) (p8 x) d)))))) ((o=9->cF (uP x) 1 (List.map zZ x.2.1) (λs c=>∃(f:QV)(t:Sl)(q:Query),Ce (λb l=>aA (lL v s=lL f t) (dK c
 q f) (aA (xD c t b l) (eD (p8 x)) (MQ q l/\∀(g:Sl)(d:PH),bR c d (Rows d g (W6 q l)) (K (qW g) (p8 x) d))))))/\(aA (mS (o=2)) (mS (o=3)) (aA (mS (o=4)) (mS (o=5)) (aI (mS (o=6)) (mS (o=7)) (mS (o=8)) (mS (o=9))))->cF (uP x) 1 (List.map zZ x.2.1) (λs c=>∃(f:QV)(t:Sl)(q:Query),Ce (λb l=>aA (lL v s=lL f t) (dK c q f) (aA (xD c t b l) (eD (p8 x)) (Fc q l/\∀(g:Sl)(d:PH),bR c d (Rows d g (Ig q l)) (K (qW g) (p8 x) d)))))))))))))
theorem amJ:cm 172 cIZ:=by
 refine iU func172 ?_;rintro c m h K ⟨op,rfl,d,f,g,j,n,o,u,y,z⟩;refine⟨dJ [] [] [] [] false,rfl,aH,bmJ op m h K,ax,?_⟩;exact(aD (λe=>d (bk e)) λA=>aD (λe=>f (bk e)) λB=>aD (λe=>g (bk e)) λC=>aD (λe=>j (bk e)) λD=>aD (λe=>n (bk e)) λE=>aD (λe=>o (bk e)) λF=>aD (λe=>u (bk e)) λG=>aD (λe=>y (bk e)) λH=>z ⟨bg,bg,bg,bg,bg,bg,bg,bg⟩)
theorem ON{ls:List ct}{q:Query}:∀{a:dc}{k:Nat},gI ls (a++[q]) k=((gI ls a k).1++[(fN ls q (gI ls a k).2).1],(fN ls q (gI ls a k).2).2)
 |[],k=>by simp[gI]
 |p::a,k=>by
  rw[cons_append,gI,ON];simp[gI]
theorem aJX{ls:List ct}{q:Query}{b:dc}:∀{a:dc}{k:Nat},Xl ls (a++q::b) k->ZG ls q (gI ls a k).2
 |[],k,h=>by rw[nil_append,Xl]at h;simpa[gI]using h.1
 |p::a,k,h=>by
  rw[cons_append,Xl]at h;rw[gI];exact aJX h.2
theorem Kf{ls:List ct}:∀{a:dc}{k:Nat},(gI ls a k).1.length=a.length
 |[],k=>by simp[gI]
 |p::a,k=>by rw[gI];simp[Kf]
theorem YM:∀N,cm 120 (Wt N)
 |0=>by
  refine fP (fn:=Tryz.f120) (c:=dY Tryz.f120) func120 rfl az ?_;rintro a9 m h K ⟨P,v,q,W,d,k,rfl,_,hN,_⟩;omega
 |N+1=>by
  refine iU func120 ?_;rintro a9 m h K ⟨P,v,q,W,d,k,rfl,hq,hN,X,H,I,hT,C,Y⟩;refine⟨bVZ N P v,rfl,aE (YM N) (aE anQ (aE amJ (aE aeX (aE aeQ (aE adJ (aE adZ (aE adX (aE adQ (aE acJ (aE acZ (aE acX aH))))))))))),UD N P v m h K,ax,?_⟩;dsimp only[UD,push_cast];obtain⟨op,ta,w,co,on,gr,od,li,args⟩:=q;have xq:=hq.parts;rw[fN]at Y;rw[ZG]at C;have Z:v.op=op:=xq.op_;refine aD (λe=>?_) (λe=>?_)
  .have e:op=1:=bg
   rw[if_pos e]at C;simp only[if_pos e]at Y;have c0:=bN.slen I;obtain⟨b,o,s,ea,rd,hr⟩:=bN.at I (bn C);have r0:aL m h P 0 [dX W]:=.of_m H rfl;have r1:aL m h P 1 [fV (k:Nat)]:=.of_m H rfl;have c4:=I.len;refine⟨W,r0,k,r1,b,o,ea,aC,aC,s,.imm rd,k,r1,_,_,⟨H⟩,ay,λm' J=>Y s m' h (.refl _) ?_ ?_⟩
   .grind
   .have e5:IntKind.i64.wrap ((k:Int)+1)=((k+1:Nat):Int):=by rw[iY aC]
    rw[e5]at J;exact J
  .have e:op≠1:=bg
   rw[if_neg e]at C;simp only[if_neg e]at Y;obtain⟨L,c1⟩:=C;have n:=xq.args_;have b':=bN.slen n;have c2:=bN.len n
   refine⟨aC,aC,aC,aC,λz=>z.1<=args.length/\PH.le h z.2.2.2/\lK m z.2.2.1 P (.cells #[Sl.val W,.int .i64 ((gI d (args.take z.1) k).2:Nat)] 174 (0,0))/\∃D:dj,D.length=z.1/\z.2.1=D.map SA++replicate (args.length-z.1) .nilFunc/\∀j b l,D[j]? =some b->(gI d (args.take z.1) k).1[j]? =some l->SK z.2.2.2 b l,λz=>args.length-z.1,
    ⟨(0,replicate args.length .nilFunc,m,h),⟨ay,.refl _,⟨by dsimp only;rw[take_zero,gI];exact H,λ_ _=>rfl⟩,[],rfl,ay,λj b l h1 _=>by rw[getElem?_nil]at h1;cases h1⟩,?_⟩,?_⟩
   .rw[show((v.args.len:Int)).toNat=args.length by omega];dsimp only;rw[map_replicate];exact MT
   .rintro⟨i,l,zm,zh⟩ ⟨hi,g,J,D,Q,hl,y⟩;dsimp only at hi g J Q hl y⊢
    have a':eD zm:=by
     obtain⟨T,fz,e1⟩:=hT;exact⟨T,fz,by rw[J.other 1 (Ne.symm X)];exact e1⟩
    refine aF (λb0=>?_) (λc5=>?_)
    .obtain⟨p,hp⟩:=fF b' b0;obtain⟨b,o,u,ea,b1,b3⟩:=bN.at (En.mono n g) hp;have b4:=(bm hp)
     have b6:SizeOf.sizeOf p<N:=by
      have:=sizeOf_lt_of_mem (bo hp)
      grind
     have a8:args=args.take i++p::args.drop (i+1):=by
      have A:args[i]=p:=(List.getElem?_eq_some_iff.1 hp).2;rw[<-A,getElem_cons_drop b4,take_append_drop]
     have a0:ZG d p (gI d (args.take i) k).2:=aJX (b:=args.drop (i+1)) bg
     have a1:gI d (args.take (i+1)) k=((gI d (args.take i) k).1++[(fN d p (gI d (args.take i) k).2).1],(fN d p (gI d (args.take i) k).2).2):=by
      rw[cd,hp,Option.toList_some,ON]
     refine⟨b,o,ea,aC,aC,u,.imm b1,P,u,p,W,d,(gI d (args.take i) k).2,rfl,b3,b6,X,J.at_,bN.mono I g (λl s hr=>bN.mono hr g λr t hv=>bS.mono hv g),a',a0,λO m' h' B a2 a3=>⟨O,rfl,λb2 h2 M a4=>?_⟩⟩;have c6:l.length=args.length:=bg
     have b7:l[i]? =some .nilFunc:=by
      grind
     refine⟨aC,bf,[.nilFunc],by simp[b7],ay,(i+1,l.set i (SA b2),m',h2),⟨aC,g.trans (B.trans M),?_,D++[b2],by simp[Q],?_,?_⟩,aC,?_⟩
     .dsimp only;rw[a1];exact⟨a3.at_,λb5 a5=>by rw[a3.other b5 a5,J.other b5 a5]⟩
     .grind
     .dsimp only;rw[a1];intro j b5 l5 A E;have b8:(gI d (args.take i) k).1.length=D.length:=by rw[Kf,length_take];omega
      by_cases hj:j<D.length
      .rw[getElem?_append_left hj]at A;rw[getElem?_append_left aC]at E;exact(y j b5 l5 A E).mono (B.trans M)
      .rw[getElem?_append_right aC]at A;rw[getElem?_append_right aC]at E;have:j-D.length=0:=bg
       rw[this]at A;rw[b8,this]at E;simp at A E;subst A E
       obtain⟨S,U,R⟩:=(show∃S,dD h' O 1 (S.map eS)/\fA h' S _ from by
        obtain⟨S,U,R,V⟩:=a2.ex;exact⟨S,U,R.symm,V⟩)
       exact⟨S,⟨O,a4,U.mono M,by have V:=a2.len;rw[R.len];exact V⟩,R.mono M⟩
     .dsimp only;rw[iY aC]
      have e9:((l.map λx=>[x]).set ((i:Int)).toNat (SA b2::List.drop 1 [.nilFunc]))=(l.set i (SA b2)).map λx=>[x]:=by
       rw[map_set];rfl
      exact⟨MT,rfl,rfl,rfl,rfl,rfl,rfl,by rw[<-e9];rfl,rfl,rfl,trivial⟩
    .have b9:i=args.length:=by omega
     subst b9;rw[take_length]at J y;rw[Nat.sub_self,replicate_zero,append_nil]at hl
     have fin:∀{okF:Query->List ct->Prop}{f:Query->List ct->ct},okF (.mk op ta w co on gr od li args) (gI d args k).1->Fb op (.mk op ta w co on gr od li args) (gI d args k).1=f (.mk op ta w co on gr od li args) (gI d args k).1->∀(s:Sl)(h':PH),zh.le h'->dD h' s 1 (l.map λx=>[x])->
      ∃(v1:QV)(t:Sl)(q:Query)(D:dj)(d:List ct),[aQ v,cS s]=[aQ v1,cS t]/\dK h' q v1/\xD h' t D d/\eD zm/\okF q d/\∀(O:Sl)(F:PH),h'.le F->Rows F O (f q d)->K (cS O) zm F:=fun{okF f} h1 h2 s h' B a6=>by
      refine⟨v,s,_,D,_,rfl,hq.mono (g.trans B),⟨?_,by rw[Kf];exact Q,λj b l5 A E=>(y j b l5 A E).mono B⟩,a',h1,λO c' a7 hr=>Y O zm c' (g.trans (B.trans a7)) bg J⟩;rw[hl,map_map]at a6;exact a6
     have c3:=L;refine⟨op,by rw[Z],λG=>fin (okF:=Jw 1) ?_ ?_,λG=>fin (okF:=MR) ?_ ?_,λG=>fin (okF:=MS) ?_ ?_,λG=>fin (okF:=MP) ?_ ?_,λG=>fin (okF:=Jw 2) ?_ ?_,λG=>fin (okF:=B8) ?_ ?_,λG=>fin (okF:=B8) ?_ ?_,λG=>fin (okF:=MQ) ?_ ?_,λG=>fin (okF:=Fc) ?_ ?_⟩
     all_goals first
      |(subst G;exact L)
      |(subst G;rfl)
      |(obtain⟨h2,h3,h4,A,E,U,R,V⟩:=G;first|(rw[QK,if_neg h2,if_neg h3,if_neg h4,if_neg A,if_neg E,if_neg U,if_neg R,if_neg V]at L;exact L)|(rw[Fb,if_neg h2,if_neg h3,if_neg h4,if_neg A,if_neg E,if_neg U,if_neg R,if_neg V]))
def P8:Vc.Spec:=λc m h K=>∃s r,c=[cS s]/\bS h s r/\r.length<=1000/\∀d h',PH.le h h'->bS h' d r->K (cS d) m h'
def Wl:Vc.Spec:=λd m h K=>∃e v c q,d=[cS e,aQ v]/\Leaves h e c/\dK h q v/\ZG c q 0/\eD m/\(fN c q 0).1.length<=8000000/\(∀r∈(fN c q 0).1,r.length<=1000)/\∀f h',PH.le h h'->Rows h' f (fN c q 0).1->K (cS f) m h'
noncomputable def crQ N:=rI [(120,Wt N),(57,P8)] [(5,{A:=Nat×cu×Sl×MH×PH,st:=λ⟨i,c,s,m,h⟩=>bZ 31 33 [(7,.at (.lst 16)),(17,sv s),(18,iv s.len),(19,iv i)] [(16,.lst 65 1 (c.map eS))] m h})] [] [] [200005] [] false
def ah(a:Addr)(n c:Nat)(m:MH)(h:PH)(K:cn):=
  ∃(y:List cr),aA (fU 3 y) (dD h (Sl.mk (Option.some a) n c) 3 y) (aA (jA (0+y.length) 32) (oC (0+y.length)) (cF h 3 (GJ y) (λs d=>K (qW s) m d)))
theorem ao a n c m h K:ah a n c m h K=(xK (dJ [] [] [] [] false) Tryz.f57 (dY Tryz.f57) (entry Tryz.f57.ntmps [.val (.slice (some a) n c)] m h) K):=ax
def ai(n c:Nat)(m:MH)(h:PH)(K:cn):=
  K Ft m h
theorem ap n c m h K:ai n c m h K=(xK (dJ [] [] [] [] false) Tryz.f57 (dY Tryz.f57) (entry Tryz.f57.ntmps [.val (.slice none n c)] m h) K):=ax
noncomputable abbrev Ea a:=AK (aG a) iP
abbrev ED(a:da):=nZ a.length
abbrev IA(a:Sl)(b:Nat->Nat->Option Value)(c:Sl->PH->Prop):=pB (λx d=>aI (fY (qW a) (qW x)) (bS b x d) (ED d) (∀(f:Sl)(e:PH),bR b e (bS e f d) (c f e)))
abbrev CQ a b c d e g i:=bV a b (List.set c (pD d) (JA (dX e) b g))=i
attribute [push_cast] Ea ED IA CQ
def X6 N D v m h K:=
  ∀(b:Nat)(n:MH),bF (cK m h b) (bL m n b (j5 pV bI) 174) (jN (λc E=>aA (yP n b (gO c E 0)) (2<=c.size) (∀(f:MH),bL n f b (aX (dX D) bI (List.drop 2 c.toList)) E->∃(g:Nat),qC (λz q=>Hy (λl j=>∃(k:Nat),aA (gC (jO b) (cZ v)=gC (jO g) (cZ z)) (dK h q z) (aA (yH q N) (mS (g=1)) (aA (f g=Option.some (gO (Array.mk (j5 (dX l) (fV (↑k:Int)))) 174 0)) (Leaves h l j) (aA (eD f) (ZG j q k) (∀(s:Sl),eX (λA u=>bR h u (Rows u s (fN j q k).1) (bL f A g (j5 (dX l) (fV (↑(fN j q k).2:Int))) 174->Bt s 24 (PI (λI x=>aA (I x) (eL 16) (aA (aZ s (gY x)) (bQ s (gY x)) (aA (bE x.1) (bV 65 1 (Ea s)=nX 65 x.2.1) (aA (bW A (j9 x)) (eH u (j9 x))
 True)))) (λI B x=>I x->bA (↑x.1:Int) (aG (gY x)) (bK (λC o=>aI (aW (gY x).a C o) (0<=(↑x.1:Int)) ((↑x.1:Int)<aG (gY x)) (∃(y:Sl),aL (j9 x).1 (rT x) C (o+bM x.1 1) (aM y)/\IA y (rT x) (λF G=>pP (↑x.1:Int) (rP x) (λe=>Q0 (mQ (rP x) (pD x.1) e) (xP e) (λd=>aA (I d) (B d<B x) (aA (eL 16) (aZ (gY x) (gY d)) (aA (bQ (gY x) (gY d)) (gX (bH x.1 1)=bP d.1) (aA (CQ 65 1 (rP x) x.1 F e (nX 65 d.2.1)) (fH (j9 x) (j9 d)) (lF (eH G (j9 d)))))))))))) (uM (rT x) (rP x) K (j9 x).1))))))))))))))
theorem ab:cm 57 P8:=by
 refine fP (fn:=Tryz.f57) (c:=dY Tryz.f57) func57 rfl az ?_;rintro z m h K ⟨⟨a,n,c⟩,r,rfl,f,G,g⟩;refine⟨dJ [] [] [] [] false,rfl,aH,?_⟩;cases a with
 |none=>
  show xK _ Tryz.f57 (dY Tryz.f57) (entry Tryz.f57.ntmps [.val (.slice none n c)] m h) K;rw[<-ap n c m h K];dsimp only[ai,push_cast];refine g ⟨none,0,0⟩ h (.refl _) ?_;cases r with
  |nil=>exact⟨⟨[],dD.nil _ _,rfl,λi x A=>by simp at A⟩,ay⟩
  |cons x r=>
   obtain⟨b,o,v,e,_⟩:=bN.at f (i:=0) (x:=x) rfl;cases e
 |some a=>
  show xK _ Tryz.f57 (dY Tryz.f57) (entry Tryz.f57.ntmps [.val (.slice (some a) n c)] m h) K;rw[<-ao a n c m h K];dsimp only[ah,push_cast];obtain⟨⟨j,B,C,D⟩,E⟩:=f;refine⟨j.map VV.enc,?_,B,bg,bg,λs h' le F=>g s h' le ⟨⟨j,bg,C,D⟩,E⟩⟩;constructor
  .intro e d;obtain⟨x,_,rfl⟩:=mem_map.1 d;rfl
  .intro e d u y;obtain⟨x,_,rfl⟩:=mem_map.1 d;simp[VV.enc]at y;rcases y with rfl|rfl|rfl<;>rfl
theorem TA:cm 60 Wl:=by
 refine Fh func60 ?_;rintro a0 m h K ⟨U,v,V,q,rfl,F,hq,G,W,hl,X,Y⟩;refine⟨crQ (SizeOf.sizeOf q+1),rfl,aE (YM _) (aE ab aH),X6 (SizeOf.sizeOf q+1) U v m h (lW h K),ax,?_⟩;dsimp only[X6,push_cast];intro b m1 H n;obtain⟨s1,Z⟩:=iT (Sub.refl m) H n;refine⟨_,_,⟨n.at_⟩,ay,λm2 y=>?_⟩;have s2:Sub m m2:=s1.upd Z y.other
 have A:b≠1:=λe=>by
  obtain⟨T,fz,I⟩:=W
  grind
 refine⟨b,v,q,U,V,0,rfl,hq,aC,A,y.at_,F,W.sub s2,G,λs J L B M O=>?_⟩;have s3:Sub m J:=s2.upd Z O.other;generalize (fN V q 0).1=rs at hl X Y M;have a1:=bN.slen M;refine⟨aC,aC,aC,aC,λz=>z.1<=rs.length/\z.2.2.1=s/\z.2.2.2.1=J/\PH.le L z.2.2.2.2/\∃C,z.2.1=C++replicate (rs.length-z.1) ⟨none,0,0⟩/\fA z.2.2.2.2 C (rs.take z.1),λz=>rs.length-z.1,⟨(0,replicate rs.length ⟨none,0,0⟩,s,J,L),⟨ay,rfl,rfl,.refl _,[],ay,bk (fA.nil L)⟩,?_⟩,?_⟩
 .rw[show((s.len:Int)).toNat=rs.length by omega];dsimp only;rw[map_replicate];exact MT
 .rintro⟨i,d,s',m',hz⟩ ⟨hi,I,e2,c,C,g,f⟩;dsimp only at hi I e2 c g f⊢
  subst I e2;have P:=f.len;rw[length_take]at P;refine aF (λa2=>?_) (λa3=>?_)
  .have D:i<rs.length:=by omega
   obtain⟨b2,o,u,ea,rd,hv⟩:=bN.at M (bn D);have a':d.length=rs.length:=bg
   have Q:d[i]? =some ⟨none,0,0⟩:=by
    grind
   refine⟨b2,o,ea,aC,aC,u,.imm ((rd.mono c)),u,rs[i],rfl,bS.mono hv c,X _ (getElem_mem _),λsc h5 E R=>⟨aC,bg,[pV],by rw[getElem?_map,show((i:Int)).toNat=i from rfl,Q];rfl,ay,(i+1,d.set i sc,s',m',h5),⟨aC,rfl,rfl,c.trans E,C++[sc],?_,?_⟩,aC,?_⟩⟩
   .dsimp only;rw[g,set_append,if_neg aC,append_assoc];congr 1;rw[show rs.length-i=(rs.length-(i+1))+1 by omega,replicate_succ,show i-C.length=0 by omega];rfl
   .dsimp only;rw[cd,bn D];exact(f.mono E).snoc R
   .dsimp only
    have e9:((d.map eS).set ((i:Int)).toNat (dX sc::List.drop 1 [pV]))=(d.set i sc).map eS:=by
     rw[map_set];rfl
    exact⟨MT,rfl,rfl,by rw[iY aC],by rw[<-e9],rfl,rfl,trivial⟩
  .have:i=rs.length:=by omega
   subst this;rw[Nat.sub_self,replicate_zero,append_nil]at g;subst g;rw[take_length]at f;intro s6 h6 j S;exact⟨m,h6,s3,B.trans (c.trans j),.refl _,Y s6 h6 (B.trans (c.trans j)) ((f.mono j).rows S aC)⟩
mutual
def yU(h:PH):Query->QV->Nat->dq->Prop
 |.mk _ _ _ _ _ _ _ _ args,v,d,f=>∃e c,dD h v.args 21 (e.map QV.enc)/\lI h args e (d+1) c/\f=(d,v)::c
def lI(h:PH):dc->dt->Nat->dq->Prop
 |[],e,_,f=>e=[]/\f=[]
 |q::qs,e,d,f=>∃v c g j,e=v::c/\dK h q v/\yU h q v d g/\lI h qs c d j/\f=g++j
end
def cBJ(e:Nat×QV):cr:=[.int .i64 (e.1:Nat),.agg e.2.enc.toArray]
def Wg(N:Nat):Vc.Spec:=λc m h K=>∃(v:QV)(q:Query)(d l f:Nat)(g xs:dq)(J:Nat->MH->PH->Prop),c=[aQ v,cI d,.val (.func (.yield l) #[] #[])]/\yU h q v d g/\SizeOf.sizeOf q<N/\d+oD q<=8000000/\(∀j e,g[j]? =some e->xs[f+j]? =some e)/\J f m h/\
 (∀k e m' h',xs[k]? =some e->PH.le h h'->J k m' h'->YDo Tryz.prog l (cBJ e) m' h' (λr o n=>r=true/\PH.le h' n/\J (k+1) o n))/\
 ∀m' h',PH.le h h'->J (f+g.length) m' h'->K (cB true) m' h'
noncomputable def bnZ(N:Nat)(v:QV)(d l:Nat):=
 {dJ [(140,Wg N)] [(4,{A:=Nat×MH×PH,st:=λ⟨i,m,h⟩=>bZ 28 31 [(1,iv d),(2,vv (.func (.yield l) #[] #[])),(15,sv v.args),(16,iv v.args.len),(17,iv i)] [] m h})] [] [] false with yield:=some (b1X Tryz.prog)}
def P5:PH->cr->List cr->Prop:=λh c xs=>∃b v q d,c=[.pointer (some ⟨b,0,none⟩)]/\cR h b 0 (QV.enc v)/\yU h q v 1 d/\oD q<=900000/\xs=d.map cBJ
def Wf:Vc.Spec:=λc m h K=>∃v,c=[aQ v]/\∀b h',PH.le h h'->cR h' b 0 (QV.enc v)->K (.val (.func (.func 139) #[] #[.pointer (some ⟨b,0,none⟩)])) m h'
abbrev LM(a:Nat->(Nat×QV)->Prop):=∀(x:Nat)(c:Nat×QV),a x c
abbrev GF(a:dq)(b:Nat)(c:Nat×QV):=a[b]? =Option.some c
attribute [push_cast] LM GF
def RO(N:Nat)(v:QV)(d l:Nat)(m:MH)(h:PH)(K:cn):=
  We Proofs.Tryz.prog (b1X Proofs.Tryz.prog)/\VB (λD E=>∃(R:Bool->MH->PH->Prop),aA (CA l::vX (↑d:Int) v=CA D::List.map CV.val E) (YDo Proofs.Tryz.prog D E m h R) (∀(u:Bool),eX (λz A=>hX (R u z A) (!u) (K bG z A) (∃(I:Nat×MH×PH->Prop)(F:Nat×MH×PH->Nat),(∃(x:Nat×MH×PH),aA (I x) (eQ (bP d)) (aA (CW (Fn.yield l) sR) (aJ v.args) (aA (wF v) (bE x.1) (aA (bW z x.2) (eH A x.2) True))))/\∀(x:Nat×MH×PH),I x->bA (↑x.1:Int) (aG v.args) (bK (λb o=>aI (aW v.args.a b o) (0<=(↑x.1:Int)) ((↑x.1:Int)<aG v.args) (∃(y:QV),aL (pC x) (kY x) b (o+bM x.1 21) y.enc/\qC (λG q=>bK (λB H=>∃(k:Nat)(e L:dq)(J:Nat->MH->PH->Prop),aA (cE y.enc (gC (gG (bH d
 1)) (CA l))=cE G.enc (gC (gG (↑B:Int)) (CA H))) (yU (kY x) q G B e) (aA (yH q N) (B+oD q<=8000000) (aI (LM (λj f=>GF e j f->GF L (k+j) f)) (J k (pC x) (kY x)) (LM (λC f=>eX (λg c=>bF (GF L C f) (PH.le (kY x) c) (J C g c->YDo Proofs.Tryz.prog H (j5 (rB f.1) (Value.agg (Array.mk f.2.enc))) g c (fun(r:Bool)=>fun(O:MH)=>fun(M:PH)=>aA (Az r) (PH.le c M) (J (C+1) O M)))))) (eX (λg c=>bR (kY x) c (J (k+e.length) g c) (∃(n:Nat×MH×PH),aA (I n) (F n<F x) (aA (eQ (bP d)) (CW (Fn.yield l) sR) (aA (aJ v.args) (bJ v.args) (aA (gX (bH x.1 1)=bP n.1) (bW g n.2) (lF (eH c n.2))))))))))))))) (K iQ (pC x) (kY x))))))
def asJ N l z m h K:=
  ∃(y:QV),aL m h z 0 y.enc/\qC (λv q=>bK (λd o=>∃(k:Nat)(e x:dq)(J:Nat->MH->PH->Prop),aA (cE y.enc (gC (gG 1) (CA l))=cE v.enc (gC (gG (↑d:Int)) (CA o))) (yU h q v d e) (aA (yH q N) (d+oD q<=8000000) (aI (LM (λj f=>GF e j f->GF x (k+j) f)) (J k m h) (LM (λn f=>eX (λg c=>bF (GF x n f) (PH.le h c) (J n g c->YDo Proofs.Tryz.prog o (j5 (rB f.1) (Value.agg (Array.mk f.2.enc))) g c (fun(r:Bool)=>fun(A:MH)=>fun(u:PH)=>aA (Az r) (PH.le c u) (J (n+1) A u)))))) (eX (λg c=>bR h c (J (k+e.length) g c) (yJ K g c)))))))
def ae(v:QV)(m:MH)(h:PH)(K:cn):=
  ∀(b:Nat)(C:MH),bF (cK m h b) (bL m C b iP 36) (∃(D:QV),lC (fY (cZ v) (cZ D)) (λF=>∀(o:PH),bR h o (cR o F 0 D.enc) (∃(S:PH->cr->List cr->Prop)(x:List (Int×QV))(I:Nat->MH->PH->Prop),aA (H7 Proofs.Tryz.prog 139 S) (S o (z8 F) (List.map (fun(f:Int×QV)=>j5 (fV f.1) (Value.agg (Array.mk f.2.enc))) x)) (aA (I 0 C o) (∀(k:Nat)(e:Int)(g:QV),eX (λj d=>bF (x[k]? =Option.some (e,g)) (PH.le o d) (I k j d->∀(u:Nat)(z:MH),bF (cK j d u) (bL j z u zV 41) (jN (λc E=>aA (yP z u (gO c E 0)) (21<=c.size) (∀(n:MH),bL z n u (vS g g (vZ g (zN (dX g.on) g (fE (wX g) 21 c)))) E->∃(y:Int),aL n d u 0 (bC y)/\eY y 1 (kW n d b 0 (λG
 =>∃(H:Int),FW n d u 1 (bC H) (λf=>aI (cW n (dO G) 3 1 f) (A4 f) (dR f) (jY (λs A=>gK n A (dO G) s 3 1 (dN f (bC H))->jN (λB E1=>aA (yP A b (gO B E1 0)) (0<B.size) (∀(J:MH),bL A J b (fE (dX s) 1 B) E1->I (k+1) J d))))))) (I (k+1) n d))))))) (eX (λj d=>bR o d (I x.length j d) (kW j d b 0 (λy=>K (qW y) j d))))))))
mutual
theorem yU.mono{h h':PH}(le:PH.le h h'):∀{q:Query}{v:QV}{d:Nat}{es:dq},yU h q v d es->yU h' q v d es
 |.mk _ _ _ _ _ _ _ _ args,v,d,es,w=>by
  rw[yU]at w⊢
  obtain⟨e,c,f,g,j⟩:=w;exact⟨e,c,f.mono le,lI.mono le g,j⟩
theorem lI.mono{h h':PH}(le:PH.le h h'):∀{c:dc}{vs:dt}{d:Nat}{es:dq},lI h c vs d es->lI h' c vs d es
 |[],vs,d,es,w=>by rw[lI]at w⊢;exact w
 |q::c,vs,d,es,w=>by
  rw[lI]at w⊢
  obtain⟨v,e,f,g,j,n,o,u,y⟩:=w;exact⟨v,e,f,g,j,n.mono le,yU.mono le o,lI.mono le u,y⟩
end
theorem lI.len{h:PH}:∀{c:dc}{vs:dt}{d:Nat}{es:dq},lI h c vs d es->vs.length=c.length
 |[],vs,d,es,w=>by rw[lI]at w;grind
 |q::c,vs,d,es,w=>by
  rw[lI]at w;obtain⟨v,e,j,n,f,o,u,g,y⟩:=w;rw[f,ci,ci,lI.len g]
mutual
theorem yU.of{h:PH}:∀{q:Query}{v:QV},dK h q v->∀d,∃es,yU h q v d es
 |.mk _ _ _ _ _ _ _ _ args,v,e,d=>by
  obtain⟨_,_,_,_,_,_,_,_,_,g,f,c⟩:=e;obtain⟨es,j⟩:=lI.of c (d+1);exact⟨(d,v)::es,by rw[yU];grind⟩
theorem lI.of{h:PH}:∀{c:dc}{vs:dt},BZ h c vs->∀d,∃es,lI h c vs d es
 |[],vs,e,d=>⟨[],by rw[lI];exact⟨e,rfl⟩⟩
 |q::c,vs,e,d=>by
  obtain⟨v,f,rfl,g,j⟩:=e;obtain⟨n,u⟩:=yU.of g d;obtain⟨o,y⟩:=lI.of j d;exact⟨n++o,by rw[lI];grind⟩
end
mutual
def cD:Query->cq
 |.mk op ta _ _ _ _ _ _ args=>(if op=1 then[ta]else[])++dT args
def dT:dc->cq
 |[]=>[]
 |q::qs=>cD q++dT qs
end
def Dn(es:dq):=(es.filter λe=>e.2.op==1).map λe=>e.2.table
theorem MI{a b}:Dn (a++b)=Dn a++Dn b:=by simp[Dn]
mutual
theorem yU.scans{h:PH}:∀{q:Query}{v:QV}{d:Nat}{es:dq},dK h q v->yU h q v d es->Dn es=cD q
 |.mk op ta _ _ _ _ _ _ args,v,d,es,e,w=>by
  rw[yU]at w;obtain⟨j,c,n,f,rfl⟩:=w;obtain⟨g,o,_⟩:=e;rw[cD, <-lI.scans f,show((d,v)::c)=[(d,v)]++c from rfl,MI];congr 1;simp only[Dn,filter_cons,filter_nil,g]
  grind
theorem lI.scans{h:PH}:∀{c:dc}{vs:dt}{d:Nat}{es:dq},lI h c vs d es->Dn es=dT c
 |[],vs,d,es,w=>by rw[lI]at w;rw[w.2];rfl
 |q::c,vs,d,es,w=>by
  rw[lI]at w;obtain⟨v,e,n,o,u,f,g,j,rfl⟩:=w;rw[MI,dT,yU.scans f g,lI.scans j]
end
mutual
theorem yU.small{h:PH}:∀{q:Query}{v:QV}{d:Nat}{es:dq},yU h q v d es->es.length<=oD q
 |.mk op ta _ _ _ _ _ _ args,v,d,es,w=>by
  rw[yU]at w;obtain⟨f,c,g,e,rfl⟩:=w;have:=lI.small e;simp only[ci,oD];omega
theorem lI.small{h:PH}:∀{c:dc}{vs:dt}{d:Nat}{es:dq},lI h c vs d es->es.length<=lZ c
 |[],vs,d,es,w=>by rw[lI]at w;grind
 |q::c,vs,d,es,w=>by
  rw[lI]at w;obtain⟨v,e,j,n,o,u,f,g,rfl⟩:=w;have y:=yU.small f;have z:=lI.small g;simp only[br,lZ];omega
end
theorem cCQ:∀q:Query,1<=oD q
 |.mk _ _ _ _ _ _ _ _ _=>by rw[oD];omega
theorem aJJ:∀l:dc,l.length<=lZ l
 |[]=>ay
 |a::l=>by have:=aJJ l;have:=cCQ a;simp only[ci,lZ];omega
theorem V8:∀{l:dc}{a:Query},a∈l->oD a<=lZ l
 |b::l,a,h=>by
  rw[lZ];rcases mem_cons.1 h with rfl|h
  .omega
  .have:=V8 h;omega
theorem Ur:∀N,cm 140 (Wg N)
 |0=>by
  refine fP (fn:=Tryz.f140) (c:=dY Tryz.f140) func140 rfl az ?_;rintro V m h K ⟨v,q,d,l,U,es,xs,J,rfl,_,hN,_⟩;omega
 |N+1=>by
  refine iU func140 ?_;rintro V m h K ⟨v,q,d,l,U,es,xs,J,rfl,hw,hN,hd,hx,h0,f,D⟩;refine⟨bnZ N v d l,rfl,aE (Ur N) aH,RO N v d l m h K,ax,?_⟩;dsimp only[RO,push_cast];obtain⟨op,ta,w,co,on,gr,od,li,args⟩:=q;rw[yU]at hw;obtain⟨E,F,A,G,rfl⟩:=hw;simp only[Query.mk.sizeOf_spec]at hN;rw[oD]at hd;have a':=G.len;have W:=A.len;have a0:=aJJ args;rw[length_map]at W;refine⟨Qa _,l,cBJ (d,v),_,rfl,f U (d,v) m h (hx 0 _ rfl) (.refl _) h0,?_⟩;rintro u m' h' ⟨rfl,H,hJ⟩;refine aD (λe=>by cases e) (λ_=>?_);refine⟨λz=>z.1<=args.length/\PH.le h z.2.2/\∃C X,F=C++X/\lI z.2.2 (args.drop z.1) (E.drop z.1) (d+1) X/\J (U+1+C.length) z.2.1 z.2.2,λz=>args.length-z.1,⟨(0,m',h'),⟨ay,H,[],F,rfl,G.mono H,hJ⟩,MT⟩,?_⟩;rintro⟨i,mz,hz⟩ ⟨hi,g,C,X,I,n,L⟩;dsimp only at hi g n L⊢
  refine aF (λa1=>?_) (λa2=>?_)
  .have B:i<args.length:=by omega
   rw[drop_eq_getElem_cons B,lI]at n;obtain⟨M,O,P,Y,Q,a3,Z,R,rfl⟩:=n
   have a4:E[i]? =some M:=by
    have:(E.drop i)[0]? =some M:=by rw[Q];rfl
    grind
   have S:O=E.drop (i+1):=by
    have:(E.drop i).drop 1=O:=by rw[Q];rfl
    rw[<-this,drop_drop]
   obtain⟨b,o,ea,rd⟩:=A.get (i:=i) (e:=M.enc) bg;have a5:=sizeOf_lt_of_mem (getElem_mem B);have a6:=V8 (getElem_mem B);refine⟨b,o,ea,aC,aC,M,.imm (rd.mono g),M,args[i],d+1,l,U+1+C.length,P,xs,J,by rw[iY aC],Z,aC,aC,λj e hj=>?_,L,λk e m2 h2 hk y T=>f k e m2 h2 hk (g.trans y) T,λm2 h2 y T=>⟨(i+1,m2,h2),⟨aC,g.trans y,C++P,Y,bg,?_,?_⟩,aC,?_⟩⟩
   .have h5:=(bm hj)
    have:=hx (1+C.length+j) e (by
     grind)
    grind
   .dsimp only;rw[<-S];exact R.mono y
   .grind
   .dsimp only;rw[iY aC];exact MT
  .have:i=args.length:=by omega
   subst this;rw[drop_of_length_le (Nat.le_refl _),lI]at n;obtain⟨_,rfl⟩:=n;rw[append_nil]at I;subst I;exact D mz hz g bg
theorem YC:cm 139 (b9Z Tryz.prog P5):=by
 refine iU func139 ?_;rintro o m h K ⟨l,f,xs,J,rfl,⟨b,v,q,g,rfl,u,y,A,rfl⟩,z,c,d⟩;refine⟨dJ [(140,Wg (SizeOf.sizeOf q+1))] [] [] [] false,rfl,aE (Ur _) aH,asJ (SizeOf.sizeOf q+1) l b m h K,ax,?_⟩;exact⟨v,.imm u,v,q,1,l,0,g,g,J,rfl,y,aC,aC,λj e B=>bg,z,λk e m' h' C le n=>c k (cBJ e) m' h' bg le n,λm' h' le n=>d _ m' h' le bg⟩
theorem aKZ:H7 Tryz.prog 139 P5:=⟨YC⟩
theorem Rs:cm 74 Wf:=by
 refine SF func74 ?_;rintro g m h K ⟨v,rfl,j⟩;refine⟨dJ [] [] [] [] false,rfl,aH,XX v m h (cQ h K),ax,?_⟩;dsimp only[XX,push_cast];intro b m' c d _;have sub:Sub m m':=(iT (Sub.refl m) c d).1;refine⟨m,rG h b (QV.enc v),sub,Ej c.h_,λn i o e=>?_,j b _ (Ej c.h_) aKJ⟩;by_cases f:n=b
 .subst f;simp only[rG,if_true]at e;exact .inr ⟨_,_,_,d.at_,bg,c.m_⟩
 .simp only[rG,if_neg f]at e;exact .inl e
structure bsJ(T E:TypeId)(m mx:MH)(b:Nat)(vs:cr):Prop where
 ex:∃s:Sl,mx b=some (.cells #[.slice s.a s.len s.cap] T (0,0))/\cW mx s E 1 (vs.map λv=>[v])/\∀i x,s.a=some ⟨x,i,none⟩->m x=none
theorem bsJ.new{T E}(d:m' b=some (.cells #[pV] T (0,0))):bsJ T E m m' b []:=⟨⟨none,0,0⟩,d,⟨⟨λe c=>by simp at c,λe c=>by simp at c⟩,.inl ⟨rfl,rfl⟩⟩,λi x e=>by cases e⟩
theorem byZ{T E u s vs e}{Q:MH->Prop}(c:∃o,m b=some o)(B:FA m u b)(D:u b=some (.cells #[.slice s.a s.len s.cap] T (0,0)))(C:cW u s E 1 (vs.map λv=>[v]))(F:∀i x,s.a=some ⟨x,i,none⟩->m x=none)(G:∀m',FA m m' b->bsJ T E m m' b (vs++[e])->Q m'):
 ∀(y:Sl)(m':MH),gK u m' (Sl.mk s.a s.len s.cap) y E 1 ((vs.map λv=>[v])++[[e]])->
  ∃(cs:Array Value)(E:TypeId),yP m' b (.cells cs E (0,0))/\0<cs.size/\∀m2:MH,lK m' m2 b (.cells (Array.mk (dX y::cs.toList.drop 1)) E (0,0))->Q m2:=by
 obtain⟨O,c⟩:=c;have z:∀i,s.a≠some ⟨b,i,none⟩:=λi d=>bg
 refineλy m' f=>⟨_,_,⟨f.other b _ D z⟩,ay,λm2 A=>G m2 ?_ ⟨y,A.at_,?_,?_⟩⟩
 .intro x o H g;rw[A.other x g];exact f.other x o (B x o H g) (λi d=>bg)
 .have I:(vs++[e]).map (λv=>[v])=vs.map (λv=>[v])++[[e]]:=ay
  rw[I];refine cW.keep f.row (λx i d=>A.other x (λJ=>?_));subst J;rcases f.fresh x i d with n|⟨j,n⟩
  .grind
  grind
 .intro i x d;rcases f.fresh x i d with n|⟨j,n⟩
  .cases L:m x with
   |none=>rfl
   |some o=>
    by_cases M:x=b
    .grind
    .rw[B x o L M]at n;cases n
  grind
theorem cQ.rowG{E hx s}{vs:cr}(sub:Sub m m')(le:PH.le h hx)(C:cW m' s E 1 (vs.map λv=>[v]))(M:∀i b,s.a=some ⟨b,i,none⟩->m b=none)(o:∀h',PH.le hx h'->dD h' s 1 (vs.map λv=>[v])->K (cS s) m h'):cQ h K (cS s) m' hx:=by
 intro D;rcases C.ex with⟨rfl,f⟩|⟨b,F,g,rfl,G,O,P,Q,y⟩
 .refine⟨m,hx,sub,le,λb i v e=>.inl e,o hx (.refl _) ?_⟩;rw[f];exact dD.nil _ _
 .have z:∀i,hx b i=none:=D b _ G;refine⟨m,rG hx b g.toList,sub,le.trans (Ej z),λH i v e=>?_,o _ (Ej z) ⟨?_,?_,?_⟩⟩
  .by_cases A:H=b
   .subst A;simp only[rG,if_true]at e
    grind
   .simp only[rG,if_neg A]at e;exact .inl e
  .simp
  .by_cases I:vs.map (λv=>[v])=[]
   .exact .inl I
   .refine .inr ⟨b,0,rfl,λi e d=>⟨λj v B=>?_⟩⟩;rw[getElem?_map]at d;cases c:vs[i]? with
    |none=>grind
    |some u=>
     rw[c]at d;simp at d;subst d;have J:j=0:=bg
     subst J;have B:u=v:=bg
     subst B;have L:=(bm c)
     have n:∀l:cr,(l.map λv=>[v]).flatten=l:=λl=>by
      induction l with
      |nil=>rfl
      |cons a l R=>grind
     rw[n]at y;rw[<-y,getElem?_take,length_map,if_pos aC]at c;simp only[rG,if_true]
     grind
  omega
def aCX:Vc.Spec:=λc m h K=>∃v q,c=[aQ v]/\dK h q v/\oD q<=900000/\∀d h',PH.le h h'->Ints h' d (cD q)->K (cS d) m h'
theorem aj:cm 59 aCX:=by
 refine JG func59 ?_;rintro a1 m h K ⟨v,q,rfl,hq,hs,hK⟩;refine⟨{rI [(74,Wf)] [] [] [] [200003,200005,1036,0] [] false with elemT:=[3,41]},rfl,aE Rs aH,ae v m h (cQ h K),ax,?_⟩;show ae v m h (cQ h K);dsimp only[ae,push_cast];intro b Q T A;obtain⟨s1,n1⟩:=iT (Sub.refl m) T A;refine⟨v,rfl,λbw h1 u U=>?_⟩;obtain⟨g,V⟩:=yU.of (hq.mono u) 1;have a2:=V.small;have F:=yU.scans (hq.mono u) V;refine⟨P5,g.map λe=>((e.1:Int),e.2),λk G W=>W=h1/\FA Q G b/\bsJ 36 3 Q G b ((Dn (g.take k)).map λn=>.int .i64 n),aKZ,⟨bw,v,q,g,rfl,U,V,hs,?_⟩,⟨rfl,λx o e _=>e,bsJ.new A.at_⟩,?_,?_⟩
 .rw[map_map];rfl
 .rintro k d e' G W R-⟨rfl,B,c⟩ X m2 Y H;rw[getElem?_map]at R;cases I:g[k]? with
  |none=>grind
  |some e=>
   rw[I]at R;simp only[Option.map_some,bx,Prod.mk.injEq]at R;obtain⟨rfl,rfl⟩:=R;refine⟨_,_,⟨H.at_⟩,ay,λS J=>?_⟩
   have up:∀{z o},G z=some o->S z=some o/\z≠X:=fun{z o} C=>by
    have:z≠X:=λZ=>by rw[Z,Y.m_]at C;cases C
    exact⟨by rw[J.other z this,H.other z this];exact C,this⟩
   have L:S X=some (.cells ⟨e.2.enc⟩ 41 (0,0)):=J.at_;have M:FA Q S b:=λx o C a'=>(up (B x o C a')).1
   have D:bsJ 36 3 Q S b ((Dn (g.take k)).map λn=>.int .i64 n):=by
    obtain⟨s,h5,h6,h7⟩:=c.ex;refine⟨s,(up h5).1,cW.keep h6 λz i Z=>?_,h7⟩;obtain⟨a3,h8⟩:=h6.blk Z
    grind
   have a4:Dn (g.take (k+1))=Dn (g.take k)++(if e.2.op==1 then[e.2.table]else[]):=by
    rw[cd,I,Option.toList_some,MI];congr 1;simp only[Dn,filter_cons,filter_nil];split<;>rfl
   refine⟨e.2.op,.of_m L rfl,aD (λh5=>?_) (λh5=>⟨rfl,M,bg⟩)⟩;obtain⟨s,y,f,E⟩:=D.ex
   have O:(Dn (g.take k)).length<=g.length:=by
    simp only[Dn,length_map]
    grind
   refine⟨s,.of_m y rfl,e.2.table,.of_m L rfl,_,f,bf,bf,byZ ⟨_,A.at_⟩ M y f E λm' a0 a5=>⟨rfl,a0,?_⟩⟩
   grind
 .rintro G W-⟨rfl,B,c⟩
  rw[length_map,take_length,F]at c;obtain⟨s,y,f,E⟩:=c.ex
  have O:(cD q).length<=g.length:=by
   rw[<-F];simp only[Dn,length_map]
   grind
  refine⟨s,.of_m y rfl,cQ.rowG (s1.x n1 B) u f (λj z e=>?_) (λh' le P=>hK s h' (u.trans le) ⟨by rw[map_map]at P;exact P,aC⟩)⟩;cases C:m z with
  |none=>rfl
  |some o=>have e1:=E j z e;rw[s1 z o C]at e1;cases e1
structure Cm(s:jP)(c:Nat)(ls:List ct)(k:Nat)(ts:cq):Prop where
 at_:∀(j:Nat)(t:Int),ts[j]? =some t->∃l,ls[k+j]? =some l/\iL (jB s t).length l/\l.length<=c
theorem Cm.left{c k ls b}(x:Cm s c ls k (a++b)):Cm s c ls k a:=
 ⟨λj t h=>x.at_ j t bg⟩
theorem Cm.right{c k ls b}(x:Cm s c ls k (a++b)):Cm s c ls (k+a.length) b:=
 ⟨λj t h=>by
  have:=x.at_ (a.length+j) t bg
  grind⟩
theorem yM{op w on args ks}(h:aK s ps (.mk op ta w co on gr od li args)=(ks,0)):
 ∃c,fQ s ps args=(c,0)/\(c.length:Int)=arity op/\eT s ps (.mk op ta w co on gr od li args) (c.getD 0 []) (c.getD 1 [])=(ks,0):=by
 rw[aK]at h;generalize fQ s ps args=r at h;obtain⟨c,e⟩:=r;dsimp only at h;split at h
 .rename_i d;subst d;split at h
  .grind
  .simp[eF]at h
 .rename_i d;simp only[eF,Prod.mk.injEq]at h;omega
theorem qU{q e d}(h:fQ s ps (q::e)=(d,0)):∃k c,aK s ps q=(k,0)/\fQ s ps e=(c,0)/\d=k::c:=by
 rw[fQ]at h
 grind
theorem xG{ks}(h:nF l=(ks,0)):ks=l/\l.length<=12:=by
 unfold nF at h
 grind
theorem R4{op}(h:arity op=0):op=1:=by
 unfold arity at h
 grind
mutual
theorem Y3{s:jP}{ps:cq}{c:Nat}(f:1<=c):∀{q:Query}{ks:cq},aK s ps q=(ks,0)->1<=gP c q
 |.mk op ta w co on gr od li args,ks,h=>by
  obtain⟨j,d,g,o⟩:=yM h;have e:=aAX f d;rw[gP];split
  .exact f
  .rename_i n;split
   .exact e.1
   .match args,d,e with
    |[],d,_=>rw[fQ]at d;simp only[Prod.mk.injEq,and_true]at d;rw[<-d]at g;exact absurd (R4 g.symm) n
    |q::qs,d,e=>grind
theorem aAX{s:jP}{ps:cq}{c:Nat}(f:1<=c):∀{e:dc}{d:List cq},fQ s ps e=(d,0)->1<=yF c e/\(e≠[]->1<=wK c e)
 |[],d,h=>by simp[yF]
 |q::e,d,h=>by
  obtain⟨k,g,j,n,y⟩:=qU h;have o:=Y3 f j;have u:=aAX f n;rw[yF,wK];exact⟨Nat.mul_pos o u.1,λ_=>by omega⟩
end
def U9(c:Nat):dc->List cq->List ct->Prop
 |[],[],[]=>True
 |q::qs,k::ks,l::ls=>iL k.length l/\l.length<=gP c q/\U9 c qs ks ls
 |_,_,_=>False
theorem VL{α:Type}:∀{l:List α},l.length=2->∃a b,l=[a,b]
 |[a,b],_=>⟨a,b,rfl⟩
theorem U9.len{c d ls}(h:U9 c d ks ls):d.length=ks.length/\ls.length=ks.length:=by
 induction d generalizing ks ls with
 |nil=>
  match ks,ls,h with
  |[],[],_=>omega
  |_::_,[],h=>exact h.elim
  |[],_::_,h=>exact h.elim
  |_::_,_::_,h=>exact h.elim
 |cons q d e=>
  match ks,ls,h with
  |[],[],h=>exact h.elim
  |_::_,[],h=>exact h.elim
  |[],_::_,h=>exact h.elim
  |k::ks,l::ls,h=>
   obtain⟨f,g⟩:=e h.2.2
   grind
theorem iL.filter{w l}(x:iL w l) p:iL w (l.filter p):=
 ⟨λr h=>x.row r (mem_filter.1 h).1,λr h=>x.wid r (mem_filter.1 h).1,x.srt.filter p,cj (length_filter_le _ _) x.len⟩
theorem Xx(x:da):∀l:ct,(M6 x l).length<=l.length+1
 |[]=>by simp[M6]
 |y::l=>by
  have:=Xx x l;simp only[M6]
  grind
theorem Kz:∀l:ct,(Ew l).length<=l.length
 |[]=>by simp[Ew]
 |x::l=>by
  have c:=Kz l;have d:=Xx x (Ew l);show(M6 x (Ew l)).length<=(x::l).length
  grind
theorem iL.set{w l}(c:∀r∈l,Pb r)(d:∀r∈l,r.length=w)(e:l.length<=8000000):iL w (Ew l):=
 ⟨λr h=>c r (Dk.1 h),λr h=>d r (Dk.1 h),Hp l,cj (Kz l) e⟩
theorem Mk:∀{x y u v:da},x.length=y.length->eZ (x++u) (y++v)=if eZ x y≠0 then eZ x y else eZ u v
 |[],[],u,v,_=>by simp[eZ]
 |a::x,b::y,u,v,h=>by
  simp only[ci,Nat.add_right_cancel_iff]at h;simp only[cons_append,eZ];by_cases e:pI a b=0
  .simp only[e,ne_eq,not_true_eq_false,if_false];exact Mk h
  .simp[e]
 |[],_::_,_,_,h=>by simp at h
 |_::_,[],_,_,h=>by simp at h
theorem Eh{on b x z}(h:z∈kL on b x):∃y∈b,z=x++y:=by
 unfold kL at h
 grind
theorem iL.join{w w' a b on}(d:iL w a)(g:iL w' b)(A:w+w'<=12)(j:a.length*b.length<=8000000):iL (w+w') (a.flatMap (kL on b)):=by
 refine⟨λr h=>?_,λr h=>?_,?_,cj (vF λx _=>yR) j⟩
 .obtain⟨x,c,h⟩:=mem_flatMap.1 h;obtain⟨y,e,rfl⟩:=Eh h;have B:=d.wid x c;have C:=g.wid y e;refine⟨bg,λv f=>?_⟩;rcases mem_append.1 f with f|f
  .exact(d.row x c).val v f
  .exact(g.row y e).val v f
 .obtain⟨x,c,h⟩:=mem_flatMap.1 h;obtain⟨y,e,rfl⟩:=Eh h;rw[br,d.wid x c,g.wid y e]
 .refine pairwise_flatMap.2 ⟨λx c=>?_,?_⟩
  .unfold kL;split
   .refine pairwise_map.2 ((g.srt.filter _).imp fun{y z} h=>?_);rw[Mk rfl,if_neg (by rw[lH.2 rfl];simp)];exact h
   .exact List.Pairwise.nil
  .refine d.srt.imp_of_mem fun{x y} c e h z n u o=>?_;obtain⟨D,_,rfl⟩:=Eh n;obtain⟨E,_,rfl⟩:=Eh o;rw[Mk (by rw[d.wid x c,d.wid y e]),if_pos aC];exact h
theorem VP{c}(h:C9 a c=true):0<=c/\c<a.length:=by
 simp only[C9,bz,ce]at h;exact h
theorem LZ{α}{T:List α->α->Prop}{l}(h:Good T l){x}(hx:x∈l):∃c,T c x:=by
 obtain⟨i,d,e⟩:=mem_iff_getElem.1 hx;exact⟨_,h i x bg⟩
theorem KM:∀(n:Nat)(l:cq),l.Nodup->(∀x∈l,0<=x/\x<n)->l.length<=n
 |0,[],_,_=>ay
 |0,x::l,_,h=>by have:=h x (mem_cons_self ..);omega
 |n+1,l,c,h=>by
  by_cases e:(n:Int)∈l
  .have f:=KM n (l.erase n) (c.erase _) (λx d=>by
    grind)
   grind
  .have:=KM n l c (λx d=>by
    grind)
   omega
theorem Rj{α T l}(f:α->Int)(d:∀c x,T c x->f x∉c.map f)(h:Good T l):(l.map f).Nodup:=by
 rw[nodup_iff_pairwise_ne,pairwise_map,pairwise_iff_getElem];intro i j o g n e;refine d _ _ (h j l[j] (bn g)) (mem_map.2 ⟨l[i],?_,e⟩);rw[mem_take_iff_getElem]
 grind
theorem Ri(h:Good (G2 a) gr)(j:a.length<=12):jM a.length gr:=by
 have f:∀c∈gr,0<=c/\c<a.length:=λc g=>by obtain⟨_,d⟩:=LZ h g;exact VP d.1
 have d:=Rj id (λe x(h:G2 a e x)=>bk h.2) h;rw[map_id]at d;exact⟨f,by have:=KM _ _ d f;omega⟩
theorem Tb{b on}(h:Good (nT a b) on)(B:a.length<=12)(C:b.length<=12):jM a.length (jH on)/\jM b.length (eU on):=by
 have n:∀c∈jH on,0<=c/\c<a.length:=λc f=>by
  obtain⟨p,g,rfl⟩:=mem_map.1 f;obtain⟨_,d⟩:=LZ h g;exact VP d.1
 have d:∀c∈eU on,0<=c/\c<b.length:=λc f=>by
  obtain⟨p,g,rfl⟩:=mem_map.1 f;obtain⟨_,d⟩:=LZ h g;exact VP d.2.1
 have o:(jH on).Nodup:=Rj Prod.fst (λj x(h:nT a b j x) u=>by
  obtain⟨y,z,e⟩:=mem_map.1 u;exact(h.2.2.2 y z).1 e) h
 have A:=KM _ _ o n;exact⟨⟨n,aC⟩,⟨d,by simp only[jH,eU,length_map]at A⊢;omega⟩⟩
theorem Xf{w r}(c:Pb r)(e:r.length=w)(f:jM w co)(d:co.length<=12):Pb (pick r co)/\(pick r co).length=co.length:=
 ⟨⟨by simpa[pick]using d,KH c bg⟩,by simp[pick]⟩
theorem Kt{c q p}:wK c [q,p]=gP c q+gP c p:=by simp[wK]
theorem Vk{c q}:wK c [q]=gP c q:=by simp[wK]
theorem bxZ{c q p}:yF c [q,p]=gP c q*gP c p:=by simp[yF]
theorem chQ{c op w on args ks u L}(P:op≠1)(O:(u.length:Int)=arity op)(G:∀k∈u,k.length<=12)(f:eT s ps (.mk op ta w co on gr od li args) (u.getD 0 []) (u.getD 1 [])=(ks,0))(E:U9 c args u L)(n:gP c (.mk op ta w co on gr od li args)<=8000000):
 QK op (.mk op ta w co on gr od li args) L/\iL ks.length (Fb op (.mk op ta w co on gr od li args) L)/\(Fb op (.mk op ta w co on gr od li args) L).length<=gP c (.mk op ta w co on gr od li args):=by
 rw[gP,if_neg P]at n⊢
 unfold eT at f;dsimp only at f;split at f
 .simp[eF]at f
 have one:arity op=1->∃q k l,args=[q]/\u=[k]/\L=[l]/\iL k.length l/\l.length<=gP c q/\k.length<=12:=λe=>by
  obtain⟨Q,R⟩:=E.len;obtain⟨k,rfl⟩:=length_eq_one_iff.1 (show u.length=1 by omega);obtain⟨q,rfl⟩:=length_eq_one_iff.1 (show args.length=1 by omega);obtain⟨l,rfl⟩:=length_eq_one_iff.1 (show L.length=1 by omega);exact⟨q,k,l,rfl,rfl,rfl,E.1,E.2.1,G k ay⟩
 have two:arity op=2->∃q p k y l B,args=[q,p]/\u=[k,y]/\L=[l,B]/\iL k.length l/\l.length<=gP c q/\iL y.length B/\B.length<=gP c p/\k.length<=12/\y.length<=12:=λe=>by
  obtain⟨Q,R⟩:=E.len;obtain⟨k,y,rfl⟩:=VL (show u.length=2 by omega);obtain⟨q,p,rfl⟩:=VL (show args.length=2 by omega);obtain⟨l,B,rfl⟩:=VL (show L.length=2 by omega);exact⟨q,p,k,y,l,B,rfl,rfl,rfl,E.1,E.2.1,E.2.2.1,E.2.2.2.1,G k ay,G y ay⟩
 have S:op=2\/op=3\/op=9\/op=4\/op=5\/op=6\/op=7\/op=8\/op=10:=by
  have:0<=arity op:=by omega
  unfold arity at this
  grind
 rcases S with rfl|rfl|rfl|rfl|rfl|rfl|rfl|rfl|rfl
 .obtain⟨q,k,l,rfl,rfl,rfl,j,F,C⟩:=one rfl;simp only[show((2:Int)=4)=False by decide,if_false,if_true]at f n⊢
  split at f
  .obtain⟨rfl,_⟩:=xG f;refine⟨⟨ay,λx z=>bg⟩,j.filter _,cj (length_filter_le _ _) ?_⟩;rw[Vk];exact F
  .rename_i e;simp only[eF,Prod.mk.injEq]at f;omega
 .obtain⟨q,k,l,rfl,rfl,rfl,j,F,C⟩:=one rfl;simp only[show((3:Int)=4)=False by decide,show((3:Int)=2)=False by decide,if_false,if_true]at f n⊢
  split at f
  .rename_i g;obtain⟨rfl,d⟩:=xG f;rw[length_map]at d⊢
   have A:jM k.length co:=⟨λc A=>by obtain⟨_,O⟩:=LZ g.2 A;exact VP O,aC⟩
   rw[Vk]at n⊢
   refine⟨⟨ay,d,_,j,A⟩,iL.set (λr h=>?_) (λr h=>?_) bg,cj (Kz _) bg⟩
   .obtain⟨x,z,rfl⟩:=mem_map.1 h;exact(Xf (j.row x z) (j.wid x z) A d).1
   .obtain⟨x,z,rfl⟩:=mem_map.1 h;exact(Xf (j.row x z) (j.wid x z) A d).2
  .simp[eF]at f
 .obtain⟨q,k,l,rfl,rfl,rfl,j,F,C⟩:=one rfl;simp only[show((9:Int)=4)=False by decide,show((9:Int)=2)=False by decide,show((9:Int)=3)=False by decide,show((9:Int)=5)=False by decide,if_false,if_true]at f n⊢
  split at f
  .rename_i g;obtain⟨rfl,d⟩:=xG f;rw[Vk]at n⊢
   exact⟨⟨ay,⟨_,j,Ri g.group_ C⟩,g.low⟩,j.filter _,cj (length_filter_le _ _) F⟩
  .simp[eF]at f
 .obtain⟨q,p,k,y,l,B,rfl,rfl,rfl,j,F,o,H,C,D⟩:=two rfl;simp only[show((4:Int)=2)=False by decide,show((4:Int)=3)=False by decide,if_false,if_true]at f n⊢
  split at f
  .rename_i g;obtain⟨rfl,d⟩:=xG f;rw[bxZ]at n⊢
   have A:=Tb g C D;have J:l.length*B.length<=gP c q*gP c p:=Nat.mul_le_mul F H;rw[br]at d⊢
   exact⟨⟨⟨ay,_,_,j,o,A.1,A.2⟩,cj J n⟩,j.join o d (cj J n),cj (vF λx _=>yR) J⟩
  .simp[eF]at f
 .obtain⟨q,p,k,y,l,B,rfl,rfl,rfl,j,F,o,H,C,D⟩:=two rfl;simp only[show((5:Int)=2)=False by decide,show((5:Int)=3)=False by decide,show((5:Int)=4)=False by decide,if_false,if_true]at f n⊢
  split at f
  .rename_i g;obtain⟨rfl,d⟩:=xG f;rw[Kt]at n⊢
   have A:=Tb g C D;exact⟨⟨ay,_,_,j,o,A.1,A.2⟩,j.filter _,cj (length_filter_le _ _) bg⟩
  .simp[eF]at f
 all_goals
  obtain⟨q,p,k,y,l,B,rfl,rfl,rfl,j,F,o,H,C,D⟩:=two rfl
 .simp only[show((6:Int)=2)=False by decide,show((6:Int)=3)=False by decide,show((6:Int)=4)=False by decide,show((6:Int)=5)=False by decide,show((6:Int)=9)=False by decide,show((6:Int)=10)=False by decide,if_false,if_true]at f n⊢
  split at f
  .rename_i g;have g:k=y:=g;subst g;obtain⟨rfl,d⟩:=xG f;rw[Kt]at n⊢
   have I:(l++B).length<=gP c q+gP c p:=bg
   refine⟨⟨ay,λx z=>bg⟩,iL.set (λr h=>?_) (λr h=>?_) (cj I n),cj (Kz _) I⟩
   .rcases mem_append.1 h with h|h
    .exact j.row r h
    .exact o.row r h
   .rcases mem_append.1 h with h|h
    .exact j.wid r h
    .exact o.wid r h
  .simp[eF]at f
 .simp only[show((7:Int)=2)=False by decide,show((7:Int)=3)=False by decide,show((7:Int)=4)=False by decide,show((7:Int)=5)=False by decide,show((7:Int)=9)=False by decide,show((7:Int)=10)=False by decide,if_false,if_true]at f n⊢
  split at f
  .rename_i g;have g:k=y:=g;subst g;obtain⟨rfl,d⟩:=xG f;rw[Kt]at n⊢
   exact⟨⟨ay,_,λx z=>by simp at z;rcases z with rfl|rfl;exact j;exact o⟩,j.filter _,cj (length_filter_le _ _) bg⟩
  .simp[eF]at f
 .simp only[show((8:Int)=2)=False by decide,show((8:Int)=3)=False by decide,show((8:Int)=4)=False by decide,show((8:Int)=5)=False by decide,show((8:Int)=9)=False by decide,show((8:Int)=10)=False by decide,if_false,if_true]at f n⊢
  split at f
  .rename_i g;have g:k=y:=g;subst g;obtain⟨rfl,d⟩:=xG f;rw[Kt]at n⊢
   exact⟨⟨ay,_,λx z=>by simp at z;rcases z with rfl|rfl;exact j;exact o⟩,j.filter _,cj (length_filter_le _ _) bg⟩
  .simp[eF]at f
 .simp only[show((10:Int)=2)=False by decide,show((10:Int)=3)=False by decide,show((10:Int)=4)=False by decide,show((10:Int)=5)=False by decide,show((10:Int)=9)=False by decide,if_false,if_true]at f n⊢
  split at f
  .rename_i g;obtain⟨g,M⟩:=g;have g:k=y:=g;subst g;obtain⟨rfl,d⟩:=xG f;rw[Kt]at n⊢
   exact⟨⟨ay,_,j,o,Ri M.group_ C⟩,j.filter _,cj (length_filter_le _ _) bg⟩
  .simp[eF]at f
theorem Mn{s:jP}{ps:cq}{c:Nat}(g:1<=c):∀{d:dc}{e:List cq},fQ s ps d=(e,0)->∀q∈d,gP c q<=wK c d/\gP c q<=yF c d
 |[],_,_,q,f=>by simp at f
 |p::d,e,h,q,f=>by
  obtain⟨k,j,o,n,z⟩:=qU h;have u:=Y3 g o;have y:=(aAX g n).1;rw[wK,yF];rcases mem_cons.1 f with rfl|f
  .exact⟨aC,Nat.le_mul_of_pos_right _ y⟩
  .have:=Mn g n q f;exact⟨aC,cj this.2 (Nat.le_mul_of_pos_left _ u)⟩
theorem Ra{s:jP}{ps:cq}:∀{e:dc}{c:List cq},fQ s ps e=(c,0)->∀k∈c,k.length<=12
 |[],c,h,k,d=>by rw[fQ]at h;grind
 |q::e,c,h,k,d=>by
  obtain⟨j,f,n,g,rfl⟩:=qU h;rcases mem_cons.1 d with rfl|d
  .have:=lV s ps q;grind
  .exact Ra g k d
structure c6Z(c:Nat)(ls:List ct)(q:Query)(k:Nat)(ks:cq):Prop where
 ok:ZG ls q k
 rel:iL ks.length (fN ls q k).1
 bnd:(fN ls q k).1.length<=gP c q
 nxt:(fN ls q k).2=k+(cD q).length
mutual
theorem HT{s:jP}{ps:cq}{c:Nat}{ls:List ct}(o:1<=c):∀{q:Query}{ks:cq}{k:Nat},aK s ps q=(ks,0)->Cm s c ls k (cD q)->gP c q<=8000000->c6Z c ls q k ks
 |.mk op ta w co on gr od li args,ks,k,h,f,u=>by
  obtain⟨B,g,y,d⟩:=yM h;by_cases e:op=1
  .subst e
   have C:args=[]:=by
    cases args with
    |nil=>rfl
    |cons q G=>obtain⟨_,_,_,_,rfl⟩:=qU g;simp[arity]at y;omega
   subst C;have j:cD (.mk 1 ta w co on gr od li [])=[ta]:=by simp[cD,dT]
   unfold eT at d;dsimp only at d;split at d
   .simp[eF]at d
   try rw[if_pos rfl]at d
   split at d
   .obtain⟨rfl,_⟩:=xG d;rw[j]at f;obtain⟨l,z,H,D⟩:=f.at_ 0 ta rfl;rw[Nat.add_zero]at z;have A:(fN ls (.mk 1 ta w co on gr od li []) k)=(l,k+1):=by rw[fN,if_pos rfl,getD_eq_getElem?_getD,z];rfl
    refine⟨by rw[ZG,if_pos rfl];grind,bg,by rw[A,gP,if_pos rfl];exact D,bg⟩
   .simp[eF]at d
  .have j:cD (.mk op ta w co on gr od li args)=dT args:=by simp[cD,e]
   rw[j]at f
   have n:∀q∈args,gP c q<=8000000:=λq E=>by
    have I:=Mn o g q E;rw[gP,if_neg e]at u
    grind
   obtain⟨J,F,L⟩:=UJ o g f n;obtain⟨M,O,P⟩:=chQ e y (Ra g) d F u;have A:fN ls (.mk op ta w co on gr od li args) k=(Fb op (.mk op ta w co on gr od li args) (gI ls args k).1,(gI ls args k).2):=by rw[fN,if_neg e]
   exact⟨by rw[ZG,if_neg e];grind,bg,bg,bg⟩
theorem UJ{s:jP}{ps:cq}{c:Nat}{ls:List ct}(n:1<=c):∀{d:dc}{e:List cq}{k:Nat},fQ s ps d=(e,0)->Cm s c ls k (dT d)->(∀q∈d,gP c q<=8000000)->Xl ls d k/\U9 c d e (gI ls d k).1/\(gI ls d k).2=k+(dT d).length
 |[],e,k,h,_,_=>by
  rw[fQ]at h;simp only[Prod.mk.injEq,and_true]at h;subst h;simp[Xl,gI,U9,dT]
 |q::d,e,k,h,j,o=>by
  obtain⟨B,u,y,z,rfl⟩:=qU h;rw[dT]at j;have f:=HT n y j.left (o q (mem_cons_self ..));have g:=UJ n z j.right (λp A=>o p (mem_cons_of_mem _ A));rw[<-f.nxt]at g;rw[Xl,gI,dT];refine⟨⟨f.ok,g.1⟩,⟨f.rel,f.bnd,g.2.1⟩,?_⟩;rw[g.2.2,f.nxt,br];omega
end
structure Ci(m:MH)(tb:Nat)(ws:List cY):Prop where
 ex:∃cur:Array Value,m tb=some (.cells cur 73 (0,0))/\cur.toList.take (ws.length*5)=(ws.map cY.enc).flatten
def aWX:Vc.Spec:=λd m h K=>∃e g n f j w c,∃t:Nat,d=[aS ⟨e,⟨some ⟨g,0,none⟩,n,f⟩⟩,cI t]/\t<n/\Ci m g j/\j[t]? =some w/\Hi h w.columns c/\c.length<=8/\
 ∀o h',PH.le h h'->Ints h' o (c.map qE.kind)->K (cS o) m h'
noncomputable def cuQ cb:=
 rI [(19,N3),(25,Sw),(72,aYZ),(45,aWX),(27,GZ)] [] [(5,{A:=Int×Int×MH×PH,st:=λ⟨n,id,m,h⟩=>bZ 86 87 [(0,pv cb),(2,.at (.ptr 2 0)),(3,iv n),(4,iv id)] [(2,.cells 27 [.val (.int .i64 0),.val (.slice none 0 0)])] m h}),
  (9,{A:=Int×cA×MH×PH,st:=λ⟨n,s,m,h⟩=>bZ 86 87 [(0,pv cb),(2,.at (.ptr 2 0)),(3,iv n),(5,.at (.ptr 5 0))] [(2,.cells 27 [.val (.int .i64 0),.val (.slice none 0 0)]),(5,.cells 27 (s.enc.map .val))] m h}),
  (11,{A:=Int×cA×MH×PH,st:=λ⟨n,s,m,h⟩=>bZ 86 87 [(0,pv cb),(2,.at (.ptr 2 0)),(3,iv n),(5,.at (.ptr 5 0))] [(2,.cells 27 [.val (.int .i64 0),.val (.slice none 0 0)]),(5,.cells 27 (s.enc.map .val))] m h}),
  (13,{A:=cA×MH×PH,st:=λ⟨s,m,h⟩=>bZ 86 87 [(0,pv cb),(2,.at (.ptr 2 0)),(5,.at (.ptr 5 0))] [(2,.cells 27 [.val (.int .i64 0),.val (.slice none 0 0)]),(5,.cells 27 (s.enc.map .val))] m h}),
  (15,{A:=cA×MH×PH,st:=λ⟨s,m,h⟩=>bZ 86 87 [(2,.at (.ptr 2 0)),(5,.at (.ptr 5 0))] [(2,.cells 27 [.val (.int .i64 0),.val (.slice none 0 0)]),(5,.cells 27 (s.enc.map .val))] m h})] [] [25] [] false
def vL(id:Int):List AE:=
 [⟨⟨⟨[112,114,111,106,101,99,116,115]⟩⟩,[⟨⟨⟨[105,100]⟩⟩,4⟩,⟨⟨⟨[111,119,110,101,114]⟩⟩,4⟩],1,[],[]⟩,
  ⟨⟨⟨[116,97,115,107,115]⟩⟩,[⟨⟨⟨[105,100]⟩⟩,id⟩,⟨⟨⟨[112,114,111,106,101,99,116]⟩⟩,4⟩,⟨⟨⟨[116,105,116,108,101]⟩⟩,5⟩,⟨⟨⟨[100,111,110,101]⟩⟩,3⟩],1,[],[]⟩,
  ⟨⟨⟨[109,101,109,98,101,114,115]⟩⟩,[⟨⟨⟨[112,114,111,106,101,99,116]⟩⟩,4⟩,⟨⟨⟨[112,101,114,115,111,110]⟩⟩,4⟩],2,[],[]⟩,
  ⟨⟨⟨[97,114,99,104,105,118,101,100]⟩⟩,[⟨⟨⟨[116,97,115,107]⟩⟩,id⟩],1,[],[]⟩]
structure P6(h:PH)(t:AE)(w:cY):Prop where
 name_:w.name=t.name
 key_:w.key=t.key
 cols_:Hi h w.columns t.columns
def aBQ(h:PH)(id:Int)(ws:List cY):=ws.length=4/\∀(i:Nat) t,(vL id)[i]? =some t->∃w,ws[i]? =some w/\P6 h t w
structure Em(m0:MH)(h0:PH)(cb:Nat)(tb n:Nat)(id:Int)(ws:List cY)(s:cA)(m:MH)(h:PH):Prop where
 le_:PH.le h0 h
 ver0:0<=s.version
 ver1:s.version<=2
 case_:bB m h cb
 n2:2<=n
 n4:n<=4
 sl_:∃cap,s.tables=⟨some ⟨tb,0,none⟩,n,cap⟩/\n<=cap
 id_:id=4\/id=5
 new_:m0 tb=none
 ne_:tb≠cb
 row_:Ci m tb ws
 ws_:aBQ h id ws
 other_:∀b,b≠cb->b≠tb->m b=m0 b
def aTX:Vc.Spec:=λc m h K=>∃cb,c=[cP cb]/\bB m h cb/\∀d n id e s m' h',Em m h cb d n id e s m' h'->K (aS s) m' h'
noncomputable def cSQ:=
 rI [(32,aTX)] [(3,{A:=Nat×cA×MH×PH,st:=λ⟨i,s,m,h⟩=>bZ 25 26 [(2,.at (.ptr 2 0)),(3,.at (.ptr 3 0)),(9,iv s.tables.len),(10,iv i)] [(2,.cells 27 [.val (.int .i64 0),.val (.slice none 0 0)]),(3,.cells 27 (s.enc.map .val))] m h})] [] [] [25] [] false
def Nc v t m h K:=
  bA t 0 (K Ft m h) (iG t (kT v) (K Ft m h) (PA v t m h (λb=>b) (λo=>o) 1 (λy=>y) (λy I x=>aA (I x) (eL 32) (aA (aZ y (qA x)) (bQ y (qA x)) (aA (bE x.1) (tG x.2.2) (aA (m=m) (h=h) True)))) (λI d x=>Py (I x) x 0 (λb o y=>aL m h b (o+bM x.1 2) (sA y.name y.kind)) (λy c=>aA (I c) (d c<d x) (aA (eL 32) (aZ (qA x) (qA c)) (aA (bQ (qA x) (qA c)) (gX (bH x.1 1)=bP c.1) (aA (Pz x y c) (m=m) (bU h h))))) (uM h (hU x.2.2) K m))))
theorem csQ v t m h K:Nc v t m h K=(xK (V0 m h) Tryz.f45 (dY Tryz.f45) (entry Tryz.f45.ntmps [aS v,cI t] m h) K):=ax
noncomputable abbrev EF:=oT iE Km
abbrev tI:=eQ (oQ 27 EF)
abbrev CB(a:dh)(b:Int)(c:ByteArray)(d:Int)(e:ByteArray->Int->Prop):=fC (wG a) b=fC (sE c) d/\∃(x:ByteArray)(f:Int),e x f
noncomputable abbrev LB:=gJ 105 (gJ 100 [])
noncomputable abbrev Lj:=gJ 101 (gJ 99 (yK 116))
noncomputable abbrev IW a b c d:=gJ a (gJ b (gJ c (gJ d [])))
noncomputable abbrev GC a b c d e g i:=aX (Value.string (ByteArray.mk (Array.mk (gJ a (gJ b (gJ c (gJ d e))))))) (dX g) (aX (fV i) pV iP)
noncomputable abbrev Cc a b c:=At.val (Value.slice a b c)
noncomputable abbrev wP(a:Int×cA×MH×PH):=a.2.1
noncomputable abbrev mM(a:Int×cA×MH×PH):=a.2.2
abbrev pL a b:=oQ 27 (oT (KT a) (KS a))=oQ 27 (oT (KT b) (KS b))
attribute [push_cast] EF tI CB LB Lj IW GC Cc wP mM pL
def Yj(cb:Nat)(m:MH)(h:PH)(K:cn):=
  kK cb 3 m h (λk O=>∃(I:Int×Int×MH×PH->Prop),pM cb 5 O h (λc r=>∀(E:MH),bF (bO O E c) (bB E h c) (branch r (∃(x:Int×Int×MH×PH),aA (I x) (cT cb) (aA iZ (dH (fM (2+k)) x.1) (aA (dH 5 x.2.1) tI (aA (bW E x.2.2) (eH h x.2.2) True)))) (∃(x:Int×Int×MH×PH),aA (I x) (cT cb) (aA iZ (dH (fM (2+k)) x.1) (aA (dH 4 x.2.1) tI (aA (bW E x.2.2) (eH h x.2.2) True))))))/\∀(x:Int×Int×MH×PH),I x->kK cb 3 x.2.2.1 x.2.2.2 (λP E=>∃(n:ByteArray)(Q:Int),CB LB 4 n Q (λR S=>CB (gJ 111 (gJ 119 (gJ 110 (gJ 101 (yK 114))))) 4 R S (λT U=>CB LB x.2.1 T U (λV W=>CB (gJ 112 (gJ 114 (gJ 111 (gJ 106 Lj)))) 4 V W (λX Y=>CB
 (gJ 116 (gJ 105 (gJ 116 (gJ 108 (yK 101))))) 5 X Y (λZ k7=>CB (IW 100 111 110 101) 3 Z k7 (λn6 k8=>CB (gJ 112 (gJ 114 (gJ 111 (gJ 106 Lj)))) 4 n6 k8 (λn7 k9=>CB (gJ 112 (gJ 101 (gJ 114 (gJ 115 (gJ 111 (gJ 110 [])))))) 4 n7 k9 (λn8 a=>fC (wG (IW 116 97 115 107)) x.2.1=fC (sE n8) a/\cF x.2.2.2 2 (mE (sA n Q) (sA R S)) (λs h1=>cF h1 2 (sA T U::sA V W::mE (sA X Y) (sA Z k7)) (λs1 h2=>cF h2 2 (mE (sA n6 k8) (sA n7 k9)) (λs2 h3=>cF h3 2 (lY (sA n8 a)) (λs3 F=>jY (λD H=>sL E H F D 73 5 (GC 112 114 111 106 (IW 101 99 116 115) s 1::GC 116 97 115 107 (yK 115) s1 1::mE (GC 109 101 109 98 (gJ 101 (gJ 114 (yK
 115))) s2 2) (GC 97 114 99 104 (IW 105 118 101 100) s3 1))->aA (cM x.1) (x.1<=(↑D.cap:Int)) (∃(I1:Int×cA×MH×PH->Prop),pM cb 2 H F (λc r=>∀(j:MH),bF (bO H j c) (bB j F c) (branch r (cF F 1 (lY (bC 1)) (λB y=>bK (λb o=>aI (aW D.a b o) ((0:Int)<=1) (1<(↑x.1.toNat:Int)) (cF y 2 (lY (j5 (dX B) bI)) (λC z=>tF j b (o+5+3) (aM C) (λA=>∃(f:Int×cA×MH×PH),aA (I1 f) (cT cb) (aA (eP 2) (dH x.1 f.1) (aA eM tI (aA (oQ 27 (oT (kF P) (Cc D.a x.1.toNat D.cap))=oQ 27 (oT (KT (wP f)) (KS (wP f)))) (bW A (mM f)) (lF (eH z (mM f)))))))))))) (∃(f:Int×cA×MH×PH),aA (I1 f) (cT cb) (aA (eP 2) (dH x.1 f.1) (aA eM tI (aA (oQ 27 (oT
 (kF P) (Cc D.a x.1.toNat D.cap))=oQ 27 (oT (KT (wP f)) (KS (wP f)))) (bW j (mM f)) (lF (eH F (mM f)))))))))/\∀(f:Int×cA×MH×PH),I1 f->∃(I2:Int×cA×MH×PH->Prop),fZ f.1 2 (pM cb 3 (mM f).1 (mM f).2 (λc r=>∀(j:MH),bF (bO (mM f).1 j c) (bB j (mM f).2 c) (branch r (cF (mM f).2 1 (lY (oW bI)) (λB y=>Ip (wP f) 2 (λb o=>cF y 2 (lY (j5 (dX B) bI)) (λC z=>tF j b (o+10+3) (aM C) (λA=>∃(e:Int×cA×MH×PH),aA (I2 e) (cT cb) (aA (eP 2) (dH f.1 e.1) (aA eM tI (aA (pL (wP f) (wP e)) (bW A (mM e)) (lF (eH z (mM e))))))))))) (∃(e:Int×cA×MH×PH),aA (I2 e) (cT cb) (aA (eP 2) (dH f.1 e.1) (aA
 eM tI (aA (pL (wP f) (wP e)) (bW j (mM e)) (lF (dC (mM f) (mM e)))))))))) (∃(e:Int×cA×MH×PH),aA (I2 e) (cT cb) (aA (eP 2) (dH f.1 e.1) (aA eM tI (aA (pL (wP f) (wP e)) (fH (mM f) (mM e)) (lF (dC (mM f) (mM e)))))))/\∀(e:Int×cA×MH×PH),I2 e->∃(I3:cA×MH×PH->Prop),fZ e.1 3 (pM cb 3 (mM e).1 (mM e).2 (λc r=>∀(j:MH),bF (bO (mM e).1 j c) (bB j (mM e).2 c) (branch r (cF (mM e).2 1 (lY (oW bI)) (λB y=>Ip (wP e) 3 (λb o=>cF y 2 (lY (j5 (dX B) (fV 1))) (λC z=>tF j b (o+15+3) (aM C) (λA=>∃(g:cA×MH×PH),aA (I3 g) (cT cb) (aA iZ eM (aA tI (pL (wP e) g.1) (aA
 (bW A g.2) (eH z g.2) True)))))))) (∃(g:cA×MH×PH),aA (I3 g) (cT cb) (aA iZ eM (aA tI (pL (wP e) g.1) (aA (bW j g.2) (dC (mM e) g.2) True))))))) (∃(g:cA×MH×PH),aA (I3 g) (cT cb) (aA iZ eM (aA tI (pL (wP e) g.1) (aA (fH (mM e) g.2) (dC (mM e) g.2) True))))/\∀(g:cA×MH×PH),I3 g->∃(I4:cA×MH×PH->Prop),pM cb 3 g.2.1 g.2.2 (λc r=>∀(j:MH),bF (bO g.2.1 j c) (bB j g.2.2 c) (branch r (∃(v:Int),bK (λt n9=>∃(c1:Nat)(w:List cY)(w1:cY)(J:List qE)(L:Nat),aA (fC (kE (cN g.1)) 1=fC (kE (j5 (fV v) (Value.slice (pK t) n9 c1))) (↑L:Int)) (L<n9) (aA (Ci j t w) (w[L]? =Option.some w1) (aA (Hi g.2.2 w1.columns J) (J.length<=8) (∀
 (B:Sl)(y:PH),bR g.2.2 y (Ints y B (List.map qE.kind J)) (CR (λG C t2 M p d=>aA (dA cb (dE B (fC Ft 1))=dA G (dE C (i6 t2 (↑d:Int)))) (bB j y G) (aA (Ints y C M) (Ints y t2 p) (aI (gU M) (gU p) (nZ d) (FV (λv1 p1=>eX (λA z=>bR y z (fO z p1 v1) (bF (Ck M p d p1) (bO j A G) (pF A z G (Ip g.1 1 (λb o=>cF z 13 (lY v1.enc) (λs7 h7=>tF A b (o+5+4) (aM s7) (λm6=>∃(u:cA×MH×PH),aA (I4 u) iZ (aA eM tI (aI (pL g.1 u.1) (bW m6 u.2) (eH h7 u.2) True)))))))))))))))))))) (∃(u:cA×MH×PH),aA (I4 u) iZ (aA eM tI (aI (pL g.1 u.1) (bW j u.2) (dC g.2 u.2) True)))))/\∀(u:cA×MH×PH),I4 u->K (kE (cN u.1)) u.2.1
 u.2.2))))))))))))))))
noncomputable abbrev Gr(a:Nat×cA×MH×PH):=a.2.1.tables
attribute [push_cast] Gr
def VZ(cb:Nat)(m:MH)(h:PH)(K:cn):=
  ∃(c:Nat),aA (fY (jO cb) (jO c)) (bB m h c) (∀(t n:Nat)(i:Int)(w:List cY)(s:cA),eX (λe f=>Em m h c t n i w s e f->∃(I:Nat×cA×MH×PH->Prop)(g:Nat×cA×MH×PH->Nat),(∃(x:Nat×cA×MH×PH),aA (I x) iZ (aA (eP 3) (bQ s.tables (Gr x)) (aA (bE x.1) tI (aA (pL s x.2.1) (bW e x.2.2) (lF (eH f x.2.2))))))/\∀(x:Nat×cA×MH×PH),I x->bA (↑x.1:Int) (aG (Gr x)) (bK (λb o=>aI (aW (Cd x.2.1) b o) (0<=(↑x.1:Int)) ((↑x.1:Int)<aG (Gr x)) (tF x.2.2.1 b (o+bM x.1 5+3) iP (λy=>bK (λj u=>aI (aW (Cd x.2.1) j u) (0<=(↑x.1:Int)) ((↑x.1:Int)<aG (Gr x)) (tF y j (u+bM x.1 5+4) iP (λz=>∃(d:Nat×cA×MH×PH),aA (I d) (g d<g x)
 (aA iZ jU (aA (bQ (Gr x) (Gr d)) (gX (bH x.1 1)=bP d.1) (aA tI (pL x.2.1 d.2.1) (aA (bW z d.2.2) (dC x.2.2 d.2.2) True))))))))))) (K (kE (cN x.2.1)) x.2.2.1 x.2.2.2)))
theorem Ql{α}(l:List α) o x(h:o<l.length):splice l o [x]=l.set o x:=by
 rw[set_eq_take_append_cons_drop,if_pos h];simp[splice]
theorem flatten_set:∀(ws:List cY){i k:Nat}{w w':cY}{x:Value},ws[i]? =some w->k<5->w'.enc=w.enc.set k x->((ws.map cY.enc).flatten).set (i*5+k) x=((ws.set i w').map cY.enc).flatten
 |[],i,k,w,w',x,h,_,_=>by simp at h
 |u::ws,0,k,w,w',x,h,c,e=>by
  simp at h;subst h;simp only[map_cons,flatten_cons,set_cons_zero,Nat.zero_mul,Nat.zero_add,e];rw[set_append_left _ _ (by simpa[cY.enc]using c)]
 |u::ws,i+1,k,w,w',x,h,c,e=>by
  simp only[map_cons,flatten_cons,set_cons_succ];have d:u.enc.length=5:=rfl;rw[set_append_right _ _ aC,d,show(i+1)*5+k-5=i*5+k by omega,flatten_set ws (bk h) c e]
theorem bEZ(ws:List cY):((ws.map cY.enc).flatten).length=ws.length*5:=by
 induction ws with
 |nil=>rfl
 |cons w ws c=>simp only[map_cons,flatten_cons,br,c,ci];show 5+_=_;omega
theorem Ci.big{d ws cs E e}(h:Ci m d ws)(c:m d=some (.cells cs E e)):ws.length*5<=cs.size:=by
 obtain⟨f,g,j⟩:=h.ex;rw[g]at c;simp only[bx,Obj.cells.injEq]at c;obtain⟨rfl,_,_⟩:=c;have:=congrArg List.length j;rw[bEZ]at this
 grind
theorem Ci.store{c:Nat}{ws k w w' x}(h:Ci m c ws)(f:ws[i]? =some w)(g:k<5)(e:w'.enc=w.enc.set k x){cs E j}(d:m c=some (.cells cs E j))(n:m' c=some (.cells (splice cs.toList (i*5+k) [x]).toArray E (0,0))):Ci m' c (ws.set i w'):=by
 have A:=h.big d;have o:=(bm f);obtain⟨u,y,z⟩:=h.ex;rw[y]at d;simp only[bx,Obj.cells.injEq]at d;obtain⟨rfl,rfl,_⟩:=d;refine⟨_,n,?_⟩;rw[Ql _ _ _ bf,length_set,toList_toArray,take_set,z];exact flatten_set ws f g e
theorem Ci.rd{d ws}(r:Ci m d ws){j w x}(f:ws[i]? =some w)(g:w.enc[j]? =some x):aL m h d (i*5+j) [x]:=by
 obtain⟨n,o,u⟩:=r.ex;refine .of_m o ?_;have c:=oU (xs:=ws.map cY.enc) (sz:=5) (λe y=>by obtain⟨x,_,rfl⟩:=mem_map.1 y;rfl) (by rw[getElem?_map,f];rfl) j x g;rw[<-u,getElem?_take]at c;split at c
 .rw[drop_cons c];rfl
 .cases c
theorem csX{g j n u ws w cols t}(I:t<n)(C:Ci m j ws)(D:ws[t]? =some w)(A:Hi h w.columns cols)(J:cols.length<=8)(E:∀sl h',PH.le h h'->Ints h' sl (cols.map qE.kind)->K (cS sl) m h'):Nc ⟨g,⟨some ⟨j,0,none⟩,n,u⟩⟩ t m h K:=by
 dsimp only[Nc,push_cast];have y:=bN.slen A;refine aF (λF=>by omega) (λF=>aF (λG=>bg) (λG=>?_));refine⟨j,0,rfl,aC,aC,w.columns,?_,λ⟨i,sl,l⟩=>sl=w.columns/\i<=cols.length/\l=(cols.take i).map qE.kind,λ⟨i,_,_⟩=>cols.length-i,⟨(0,w.columns,[]),⟨rfl,ay,ay⟩,MT⟩,?_⟩
 .rw[Nat.zero_add,Int.toNat_natCast];exact C.rd D rfl
 rintro⟨i,_,_⟩ ⟨rfl,L,rfl⟩;dsimp only;refine aF (λf=>?_) (λH sl h' z d=>?_)
 .obtain⟨c,B⟩:=fF y f;obtain⟨b,o,e,r⟩:=Hi.at A B;refine⟨b,o,e,aC,f,c,.imm r,?_,?_,(i+1,w.columns,(cols.take (i+1)).map qE.kind),⟨rfl,aC,rfl⟩,aC,?_⟩
  .simp;omega
  .simp;omega
  .rw[j3 B,bu];exact MT
 .rw[bt aC]at d;exact E sl h' z ⟨d,bf⟩
theorem ZZ:cm 45 aWX:=by
 refine fP (fn:=Tryz.f45) (c:=dY Tryz.f45) func45 rfl az ?_;rintro e m h K ⟨f,B,n,g,C,w,d,t,rfl,j,o,u,y,z,A⟩;refine⟨V0 m h,rfl,aH,?_⟩;rw[<-csQ];exact csX j o u y z A
theorem P6.mono{t w}(x:P6 h t w)(le:PH.le h h'):P6 h' t w:=⟨x.name_,x.key_,bN.mono x.cols_ le λ_ _ e=>e⟩
theorem aBQ.mono{id ws}(x:aBQ h id ws)(le:PH.le h h'):aBQ h' id ws:=⟨x.1,λi t e=>let⟨w,e1,e2⟩:=x.2 i t e;⟨w,e1,e2.mono le⟩⟩
theorem aBQ.set{id ws w w'}(x:aBQ h id ws)(f:ws[i]? =some w)(g:w'.name=w.name)(n:w'.key=w.key)(o:w'.columns=w.columns):aBQ h id (ws.set i w'):=by
 refine⟨by rw[length_set];exact x.1,λj t e=>?_⟩;obtain⟨u,d,c⟩:=x.2 j t e;by_cases y:i=j
 .subst y;rw[f]at d;cases d;exact⟨w',bg,⟨by rw[g];exact c.name_,by rw[n];exact c.key_,by rw[o];exact c.cols_⟩⟩
 grind
theorem Em.on{m0 c g d e n id ws s}(x:Em m0 g cb e n id ws s m h)(le:PH.le h d)(j:bO m c cb)(u:bB c d cb):Em m0 g cb e n id ws s c d:=by
 refine⟨x.le_.trans le,x.ver0,x.ver1,u,x.n2,x.n4,x.sl_,x.id_,x.new_,x.ne_,?_,x.ws_.mono le,λb o y=>by rw[j.other b o];exact x.other_ b o y⟩;obtain⟨f,z,A⟩:=x.row_.ex;exact⟨f,by rw[j.other e x.ne_];exact z,A⟩
theorem Em.store{m0:MH}{u:PH}{c n:Nat}{id:Int}{ws:List cY}{s:cA}(x:Em m0 u cb c n id ws s m h){k o w w' y}(d:ws[i]? =some w)(A:k<5)(B:o=i*5+k)(e:w'.enc=w.enc.set k y)(C:w'.name=w.name)(D:w'.key=w.key)(F:w'.columns=w.columns){Q:MH->Prop}(G:∀m2,Em m0 u cb c n id (ws.set i w') s m2 h->Q m2):∃(cs:Array Value)(E:TypeId),yP m c (.cells cs E (0,0))/\o<cs.size/\∀m2:MH,lK m m2 c (.cells (splice cs.toList o [y]).toArray E (0,0))->Q m2:=by
 obtain⟨f,g,M⟩:=x.row_.ex;have H:=(bm d);refine⟨f,73,⟨g⟩,by have:=x.row_.big g;omega,λm2 j=>G m2 ?_⟩;subst B;refine⟨x.le_,x.ver0,x.ver1,?_,x.n2,x.n4,x.sl_,x.id_,x.new_,x.ne_,x.row_.store d A e g j.at_,x.ws_.set d C D F,λb I z=>by rw[j.other b z];exact x.other_ b I z⟩;obtain⟨r,q,cs,k,J,L⟩:=x.case_;exact⟨r,q,cs,k,by rw[j.other cb x.ne_.symm];exact J,L⟩
theorem Jo{h s l}(r:dD h s 2 (l.map qE.enc))(c:l.length<=8):Hi h s l:=⟨⟨l,r,rfl,λi x e=>⟨x,e,rfl⟩⟩,aC⟩
theorem sL.tabs{m m' h s w ws}(x:sL m m' h s 73 5 ((w::ws).map cY.enc)):∃f d,s=⟨some ⟨f,0,none⟩,ws.length+1,d⟩/\ws.length+1<=d/\Ci m' f (w::ws)/\cK m h f/\∀b,b≠f->m' b=m b:=by
 rcases x.row.ex with⟨_,e⟩|⟨b,d,g,e,j,n,_,o,u⟩
 .cases e
 .subst e;refine⟨b,d,ay,bg,⟨g,j,bg⟩,x.fresh b 0 rfl,λc y=>x.other c (λi e=>bg)⟩
theorem bhX:cm 32 aTX:=by
 refine iU func32 ?_;rintro a7 m h K ⟨cb,rfl,hc,hK⟩;refine⟨cuQ cb,rfl,aE O7 (aE Db (aE beQ (aE ZZ (aE Nf aH)))),Yj cb m h K,ax,?_⟩;dsimp only[Yj,push_cast];refine⟨cb,3,rfl,hc,λk m1 k0 k1 S c1=>?_⟩;have a0:IntKind.i64.wrap (2+k)=2+k:=fG aC aC;rw[a0];refine⟨λ⟨n,id,E,J⟩=>2<=n/\n<=4/\(id=4\/id=5)/\J=h/\bO m E cb/\bB E h cb,⟨cb,5,rfl,aC,aC,c1,λr m2 o2 c2=>aD (λ_=>⟨(2+k,5,m2,h),⟨aC,aC,.inr rfl,rfl,S.trans o2,c2⟩,MT⟩) (λ_=>⟨(2+k,4,m2,h),⟨aC,aC,.inl rfl,rfl,S.trans o2,c2⟩,MT⟩)⟩,?_⟩;clear S c1 m1 a0 k0 k1 k;rintro⟨n,id,m1,J⟩ ⟨n2,n4,a4,rfl,S,c1⟩;dsimp only;refine⟨cb,3,rfl,c1,λk m2 k0 k1 o2 c2=>?_⟩;refine⟨_,_,rfl,_,_,rfl,_,_,rfl,_,_,rfl,_,_,rfl,_,_,rfl,_,_,rfl,_,_,rfl,_,_,rfl,λs1 h1 a1 r1 s2 h2 T r2 s3 h3 F r3 s4 h4 z r4 tl m3 L=>?_⟩;obtain⟨d,f,rfl,M,O,U,P⟩:=sL.tabs (w:=⟨_,s1,1,cH,cH⟩) (ws:=[⟨_,s2,1,cH,cH⟩,⟨_,s3,2,cH,cH⟩,⟨_,s4,1,cH,cH⟩]) L;simp only[ci,length_nil]at M;have V:PH.le J h4:=((a1.trans T).trans F).trans z
 have A:d≠cb:=λe=>by
  obtain⟨r,q,cs,j,q1,_⟩:=c2;have:=U.m_
  grind
 have a2:m d=none:=by rw[<-S.other d A, <-o2.other d A];exact U.m_
 have c3:bB m3 h4 cb:=by
  obtain⟨r,q,cs,j,q1,q2,q3⟩:=c2;exact⟨r,q,cs,j,bg,q2.mono V,q3⟩
 have S0:Em m J cb d n.toNat id _ ⟨k,⟨some ⟨d,0,none⟩,n.toNat,f⟩⟩ m3 h4:=⟨V,k0,bg,c3,aC,aC,⟨f,rfl,aC⟩,a4,a2,A,O,⟨rfl,λi t e=>?_⟩,λb n1 n2=>by rw[P b n2,o2.other b n1,S.other b n1]⟩
 rotate_left
 .match i,e with
  |0,e=>cases e;exact⟨_,rfl,⟨rfl,rfl,Jo (l:=[⟨_,_⟩,⟨_,_⟩]) (r1.mono ((T.trans F).trans z)) az⟩⟩
  |1,e=>cases e;exact⟨_,rfl,⟨rfl,rfl,Jo (l:=[⟨_,_⟩,⟨_,_⟩,⟨_,_⟩,⟨_,_⟩]) (r2.mono (F.trans z)) ay⟩⟩
  |2,e=>cases e;exact⟨_,rfl,⟨rfl,rfl,Jo (l:=[⟨_,_⟩,⟨_,_⟩]) (r3.mono z) az⟩⟩
  |3,e=>cases e;exact⟨_,rfl,⟨rfl,rfl,Jo (l:=[⟨_,_⟩]) r4 ay⟩⟩
  |i+4,e=>simp[vL]at e
 generalize a5:(cY.mk _ s1 1 cH cH::_)=a8 at S0;clear a5 O L r1 r2 r3 r4;have B:∀{ws:List cY}{i:Nat},ws.length=4->i<4->∃w,ws[i]? =some w:=λhl hi=>⟨_,bn aC⟩
 refine⟨aC,bg,λ⟨W,s,E,X⟩=>W=n/\∃ws,Em m J cb d n.toNat id ws s E X,⟨cb,2,rfl,aC,aC,c3,λr Y o4 c4=>aD (λ_ s5 G a3 r5=>⟨d,0,rfl,aC,aC,λs6 h6 C r6=>?_⟩) (λ_=>⟨(n,⟨k,⟨some ⟨d,0,none⟩,n.toNat,f⟩⟩,Y,h4),⟨rfl,_,S0.on (.refl _) o4 c4⟩,MT⟩)⟩,?_⟩
 .obtain⟨w,Q⟩:=B (i:=1) S0.ws_.1 aC;exact(S0.on (a3.trans C) o4 (c4.mono (a3.trans C))).store (k:=3) (w':={w with references:=s6}) Q aC rfl rfl rfl rfl rfl λy Z=>⟨(n,⟨k,⟨some ⟨d,0,none⟩,n.toNat,f⟩⟩,y,h6),⟨rfl,_,Z⟩,MT⟩
 clear S0 c3 P U a2 M V a1 T F z S o2 c1 c2;rintro⟨W,s,Y,G⟩ ⟨rfl,ws,S0⟩;dsimp only;obtain⟨f,c,_⟩:=S0.sl_;have o:s.tables.a=some ⟨d,0,none⟩:=by rw[c]
 have H:s.tables.len=W.toNat:=by rw[c]
 refine⟨λ⟨n,s,E,X⟩=>n=W/\∃ws,Em m J cb d n.toNat id ws s E X,aF (λhn=>⟨cb,3,rfl,aC,aC,S0.case_,λr y R I=>aD (λ_ s7 h7 u r7=>⟨d,0,o,aC,aC,λs8 h8 g r8=>?_⟩) (λ_=>⟨(W,s,y,G),⟨rfl,_,S0.on (.refl _) R I⟩,MT⟩)⟩) (λ_=>⟨(W,s,Y,G),⟨rfl,_,S0⟩,MT⟩),?_⟩
 .obtain⟨w,Q⟩:=B (i:=2) S0.ws_.1 aC;exact(S0.on (u.trans g) R (I.mono (u.trans g))).store (k:=3) (w':={w with references:=s8}) Q aC rfl rfl rfl rfl rfl λy Z=>⟨(W,s,y,h8),⟨rfl,_,Z⟩,MT⟩
 clear S0 o H c;rintro⟨D,s,Y,G⟩ ⟨rfl,ws,S0⟩;dsimp only;obtain⟨f,c,_⟩:=S0.sl_;have o:s.tables.a=some ⟨d,0,none⟩:=by rw[c]
 have H:s.tables.len=D.toNat:=by rw[c]
 refine⟨λ⟨s,E,X⟩=>∃ws,Em m J cb d D.toNat id ws s E X,aF (λhn=>⟨cb,3,rfl,aC,aC,S0.case_,λr y R I=>aD (λ_ s7 h7 u r7=>⟨d,0,o,aC,aC,λs8 h8 g r8=>?_⟩) (λ_=>⟨(s,y,G),⟨_,S0.on (.refl _) R I⟩,MT⟩)⟩) (λ_=>⟨(s,Y,G),⟨_,S0⟩,MT⟩),?_⟩
 .obtain⟨w,Q⟩:=B (i:=3) S0.ws_.1 aC;exact(S0.on (u.trans g) R (I.mono (u.trans g))).store (k:=3) (w':={w with references:=s8}) Q aC rfl rfl rfl rfl rfl λy Z=>⟨(s,y,h8),⟨_,Z⟩,MT⟩
 clear S0 o H c;rintro⟨s,Y,G⟩ ⟨ws,S0⟩;dsimp only;obtain⟨f,c,_⟩:=S0.sl_;have o:s.tables.a=some ⟨d,0,none⟩:=by rw[c]
 have H:s.tables.len=D.toNat:=by rw[c]
 refine⟨λ⟨s,E,X⟩=>∃ws,Em m J cb d D.toNat id ws s E X,⟨cb,3,rfl,aC,aC,S0.case_,λr y R I=>aD (λ_=>?_) (λ_=>⟨(s,y,G),⟨_,S0.on (.refl _) R I⟩,MT⟩)⟩,λ⟨s,Y,G⟩⟨ws,S0⟩=>hK _ _ _ _ _ _ _ S0⟩;have S1:=S0.on (.refl _) R I;obtain⟨w,Q,a'⟩:=S1.ws_.2 1 _ rfl;refine⟨s.version,d,D.toNat,f,ws,w,_,1,by rw[c];rfl,aC,S1.row_,Q,a'.cols_,ay,λsl h6 C a6=>?_⟩;refine⟨cb,sl,cH,_,[],1,rfl,I.mono C,a6,⟨dD.nil _ _,ay⟩,ay,ay,aC,λa9 p m6 h7 u hp b' o6 c6=>⟨d,0,o,aC,aC,λs8 h8 g r8=>?_⟩⟩;exact(S1.on ((C.trans u).trans g) o6 (c6.mono g)).store (k:=4) (w':={w with checks:=s8}) Q aC rfl rfl rfl rfl rfl λy Z=>⟨(s,y,h8),⟨_,Z⟩,MT⟩
structure B3(s:jP):Prop where
 ex:∃ver n id,0<=ver/\ver<=2/\2<=n/\n<=4/\(id=4\/id=5)/\s=⟨ver,(vL id).take n⟩
def b6X:Vc.Spec:=λc m h K=>∃cb,c=[cP cb]/\bB m h cb/\∀s v m' h',B3 s->iK h' s v->PH.le h h'->bO m m' cb->bB m' h' cb->K (aS v) m' h'
theorem bGQ:cm 9 b6X:=by
 refine SF func9 ?_;rintro W m h K ⟨cb,rfl,X,Y⟩;refine⟨cSQ,rfl,aE bhX aH,VZ cb m h (cQ h K),ax,?_⟩;show VZ cb m h (cQ h K);dsimp only[VZ,push_cast];refine⟨cb,rfl,X,λd n id y s I J S1=>?_⟩;refine⟨λ⟨i,z,Z,A⟩=>z=s/\A=J/\i<=n/\∃y,Em m h cb d n id y s Z J/\∀j w,j<i->y[j]? =some w->w.references=cH/\w.checks=cH,λ⟨i,_,_,_⟩=>n-i,⟨(0,s,I,J),⟨rfl,rfl,aC,y,S1,λj w L=>by omega⟩,MT⟩,?_⟩;clear S1 y I;rintro⟨i,z,I,A⟩ ⟨rfl,rfl,C,y,S1,D⟩;dsimp only;obtain⟨a',E,M⟩:=S1.sl_;have B:z.tables.a=some ⟨d,0,none⟩:=by rw[E]
 have a0:z.tables.len=n:=by rw[E]
 have O:=S1.n4;refine aF (λF=>⟨d,0,B,aC,F,?_⟩) (λa1 f=>?_)
 .obtain⟨w,U⟩:∃w,y[i]? =some w:=⟨_,bn (by have:=S1.ws_.1;omega)⟩
  refine S1.store (i:=i) (k:=3) (w':={w with references:=cH}) U aC aC rfl rfl rfl rfl λm2 S2=>⟨d,0,B,aC,F,?_⟩
  have P:=(bm U);have Q:(y.set i {w with references:=cH})[i]? =some {w with references:=cH}:=getElem?_set_self P;refine S2.store (i:=i) (k:=4) (w':={w with references:=cH,checks:=cH}) Q aC aC rfl rfl rfl rfl λm3 S3=>⟨(i+1,z,m3,A),⟨rfl,rfl,aC,_,S3,λj u L hu=>?_⟩,aC,MT⟩
  grind
 .have f:=f;obtain⟨G,H,R⟩:=S1.row_.ex;have a2:∀i,A d i=none:=f d _ H
  have c:PH.le A (λx i=>if x=d then G[i]? else A x i):=⟨λx i v e=>by
   grind⟩
  refine⟨λb=>if b=d then none else I b,λx i=>if x=d then G[i]? else A x i,λb o e=>?_,S1.le_.trans c,λx i v e=>?_,Y ⟨z.version,(vL id).take n⟩ z _ _ ⟨⟨_,_,_,S1.ver0,S1.ver1,S1.n2,S1.n4,S1.id_,rfl⟩⟩ ⟨rfl,?_⟩ (S1.le_.trans c) ⟨λb hb=>?_⟩ ?_⟩
  .grind
  .grind
  .have V:=S1.ws_.1;have O:=S1.n4;refine⟨⟨y.take n,⟨bg,.inr ⟨d,0,B,λi e C=>⟨λj v L=>?_⟩⟩,bg⟩,by simp[vL];omega,λi t e=>?_⟩,bg⟩
   .rw[map_take,getElem?_take]at C;split at C
    .have J:=oU (xs:=y.map cY.enc) (sz:=5) (λe he=>by obtain⟨x,_,rfl⟩:=mem_map.1 he;rfl) C j v L
     grind
    .cases C
   .rw[getElem?_take]at e;split at e
    .rename_i a3;obtain⟨w,e1,e2⟩:=S1.ws_.2 i t e;obtain⟨z1,z2⟩:=D i w aC e1;have S:=e2.mono c
     have g:t.refs=[]/\t.checks=[]:=by
      match i,e with
      |0,e=>cases e;grind
      |1,e=>cases e;grind
      |2,e=>cases e;grind
      |3,e=>cases e;grind
      |i+4,e=>omega
     refine⟨w,bg,⟨S.name_,S.cols_,S.key_,by rw[z1,g.1];exact bN.nil _ _ _ _,by rw[z2,g.2];exact bN.nil _ _ _ _⟩⟩
    .cases e
  .by_cases T:b=d
   .subst T;simp[S1.new_]
   .simp[T];exact S1.other_ b hb T
  .obtain⟨r,q,cs,k,q1,q2,q3⟩:=S1.case_;exact⟨r,q,cs,k,bg,q2.mono c,q3⟩
def QW(q:Query):Prop:=
 match q with
 |.mk _ _ w _ _ _ _ _ args=>Ep w/\∀a∈args,QW a
 termination_by SizeOf.sizeOf q
theorem MN{op w on args}:
 QW (.mk op ta w co on gr od li args)↔Ep w/\∀a∈args,QW a:=by rw[QW.eq_def]
def c0J s:=∀t,Pd (jB s t)
structure b3J(s:jP)(ps ks:cq)(q0 q:Query):Prop where
 qw:QW q
 siz:∀d,DO d q0->Wx d q
 kin:c0J s->Pd ps->Pd ks->ks≠[]->ks.length<=12->aK s ps q0=(ks,0)->aK s ps q=(ks,0)
def KQ(K:cn)(m:MH)(h:PH)(cb:Nat)(R:Query->Prop):=∀w q m' h',PH.le h h'->dK h' q w->R q->bO m m' cb->bB m' h' cb->K (aQ w) m' h'
def aSJ:=λc m h K=>∃cb sc p k v s ps ks q,c=[cP cb,aS sc,cS p,cS k,aQ v]/\bB m h cb/\iK h s sc/\oE s/\s.tables.length<=1000/\Ints h p ps/\ps.length<=1000/\Ints h k ks/\ks.length<=1000/\dK h q v/\QW q/\KQ K m h cb (b3J s ps ks q)
noncomputable def ctZ(cb:Nat)(sc:cA)(p k:Sl)(v:QV):=
 dJ [(19,N3),(45,vJ),(33,b4Z),(25,Sw),(27,GZ)] [(3,{A:=Int×Nat×MH×PH,st:=λ⟨f,n,m,h⟩=>bZ 112 117 [(0,pv cb),(2,sv p),(3,sv k),(6,.at (.ptr 6 0)),(9,.at (.ptr 9 0)),(10,.at (.ptr 10 0)),(11,iv f),(12,iv n)] [(6,.cells 27 (sc.enc.map .val)),(9,.cells 41 (v.enc.map .val)),(10,.cells 41 (Et.enc.map .val))] m h}),
  (9,{A:=Int×Nat×Int×Sl×cq×Nat×MH×PH,st:=λ⟨f,n,t,c,d,i,m,h⟩=>bZ 112 117 [(0,pv cb),(2,sv p),(3,sv k),(6,.at (.ptr 6 0)),(9,.at (.ptr 9 0)),(10,.at (.ptr 10 0)),(11,iv f),(12,iv n),(13,iv t),(14,sv c),(15,.at (.lst 75)),(45,sv k),(46,iv k.len),(47,iv i)] [(6,.cells 27 (sc.enc.map .val)),(9,.cells 41 (v.enc.map .val)),(10,.cells 41 (Et.enc.map .val)),(75,.lst 3 1 (d.map eI))] m h}),
  (13,{A:=Int×Nat×Int×Sl×cq×Nat×Int×Int×Nat×MH×PH,st:=λ⟨f,n,t,c,d,i,e,g,j,m,h⟩=>bZ 112 117 [(0,pv cb),(2,sv p),(3,sv k),(6,.at (.ptr 6 0)),(9,.at (.ptr 9 0)),(10,.at (.ptr 10 0)),(11,iv f),(12,iv n),(13,iv t),(14,sv c),(15,.at (.lst 75)),(17,iv e),(18,iv g),(45,sv k),(46,iv k.len),(47,iv i),(56,iv c.len),(57,iv j)] [(6,.cells 27 (sc.enc.map .val)),(9,.cells 41 (v.enc.map .val)),(10,.cells 41 (Et.enc.map .val)),(75,.lst 3 1 (d.map eI))] m h})] [] [] false
abbrev oH:=eP 10
noncomputable abbrev CD(a:Int×Nat×Int×Sl×cq×Nat×MH×PH):=a.2.2.2.1
noncomputable abbrev CC(a:Int×Nat×Int×Sl×cq×Nat×MH×PH):=a.2.2.2.2.2.1
noncomputable abbrev CE(a:Int×Nat×Int×Sl×cq×Nat×MH×PH):=a.2.2.2.2.1
noncomputable abbrev xY(a:Int×Nat×Int×Sl×cq×Nat×MH×PH):=a.2.2.2.2.2.2
noncomputable abbrev LF(a:Int×Nat×Int×Sl×cq×Nat×MH×PH):=pC a.2.2.2.2.2
noncomputable abbrev uT(a:Int×Nat×Int×Sl×cq×Nat×MH×PH):=kY a.2.2.2.2.2
noncomputable abbrev uV(a:Int×Nat×Int×Sl×cq×Nat×Int×Int×Nat×MH×PH):=a.2.2.2.1
noncomputable abbrev Lv(a:Int×Nat×Int×Sl×cq×Nat×Int×Int×Nat×MH×PH):=a.2.2.2.2.2.2.1
noncomputable abbrev IG(a:Int×Nat×Int×Sl×cq×Nat×Int×Int×Nat×MH×PH):=a.2.2.2.2.2.1
noncomputable abbrev IU(a:Int×Nat×Int×Sl×cq×Nat×Int×Int×Nat×MH×PH):=a.2.2.2.2.2.2.2.2.1
noncomputable abbrev D4(a:Int×Nat×Int×Sl×cq×Nat×Int×Int×Nat×MH×PH):=a.2.2.2.2.1
noncomputable abbrev zO(a:Int×Nat×Int×Sl×cq×Nat×Int×Int×Nat×MH×PH):=a.2.2.2.2.2.2.2.2.2
noncomputable abbrev Lu a:=Int.tmod (fM (a.2.2.2.2.2.2.2.1+(↑(IU a):Int))) (aG (uV a))
abbrev IH(a:Prop)(b c d:Nat)(e g:Sl)(i:Prop):=aA a (b<c) (aA (cT d) (aJ e) (aA (aJ g) (eP 6) (aA (eP 9) oH i)))
attribute [push_cast] oH CD CC CE xY LF uT uV Lv IG IU D4 zO Lu IH
def Yh(cb:Nat)(sc:cA)(p k:Sl)(v:QV)(m:MH)(h:PH)(K:cn):=
  kK cb (fM (kT sc+1)) m h (λV W=>∃(I:Int×Nat×MH×PH->Prop)(M:Int×Nat×MH×PH->Nat),(∃(x:Int×Nat×MH×PH),aA (I x) (cT cb) (aA (aJ p) (aJ k) (aA (eP 6) (eP 9) (aA oH (dH V x.1) (aA (bE x.2.1) (cL sc) (aA (eO v) j7 (aA (bW W x.2.2) (eH h x.2.2) True)))))))/\∀(x:Int×Nat×MH×PH),I x->bA (↑x.2.1:Int) (aG sc.tables) (mS (kT sc=0)/\A9 sc (Int.tmod (fM (x.1+(↑x.2.1:Int))) (kT sc)) (kY x.2) (λs B=>∃(I1:Int×Nat×Int×Sl×cq×Nat×MH×PH->Prop)(A:Int×Nat×Int×Sl×cq×Nat×MH×PH->Nat),(∃(f:Int×Nat×Int×Sl×cq×Nat×MH×PH),aA (I1 f) (cT cb) (aA (aJ p) (aJ k) (aA (eP 6) (eP 9) (aA oH (dH x.1 f.1) (aA (cG x.2.1 f.2.1) (dH (Int.tmod (fM (x.1
 +(↑x.2.1:Int))) (kT sc)) f.2.2.1) (aA (aZ s (CD f)) (eL 75) (aA (aJ k) (bJ k) (aA (bE (CC f)) (cL sc) (aA (eO v) j7 (aA (tG (CE f)) (fH x.2.2 (xY f)) (lF (eH B (xY f)))))))))))))/\∀(f:Int×Nat×Int×Sl×cq×Nat×MH×PH),I1 f->bA (↑(CC f):Int) (aG k) (bK (λb o=>aI (aW k.a b o) (0<=(↑(CC f):Int)) ((↑(CC f):Int)<aG k) (∃(y:Int),aL (LF f) (uT f) b (o+bM (CC f) 1) (bC y)/\kK cb (aG (CD f)) (LF f) (uT f) (λX F=>∃(I2:Int×Nat×Int×Sl×cq×Nat×Int×Int×Nat×MH×PH->Prop)(E:Int×Nat×Int×Sl×cq×Nat×Int×Int×Nat×MH×PH->Nat),(∃(e:Int×Nat×Int×Sl×cq×Nat×Int×Int×Nat×MH×PH),aA (I2 e) (cT
 cb) (aA (aJ p) (aJ k) (aA (eP 6) (eP 9) (aA oH (dH f.1 e.1) (aA (cG f.2.1 e.2.1) (dH f.2.2.1 e.2.2.1) (aA (aZ (CD f) (uV e)) (eL 75) (aA (dH y (Lv e)) (dH X e.2.2.2.2.2.2.2.1) (aA (aJ k) (bJ k) (aA (cG (CC f) (IG e)) (bQ (CD f) (uV e)) (aA (bE (IU e)) (cL sc) (aA (eO v) j7 (aA (lS (hU (CE f)) (D4 e)) (bW F (zO e)) (lF (dC (xY f) (zO e)))))))))))))))/\∀(e:Int×Nat×Int×Sl×cq×Nat×Int×Int×Nat×MH×PH),I2 e->bA (↑(IU e):Int) (aG (uV e)) (mS (aG (uV e)=0)/\bK (λS T=>aI (aW (uV e).a S T) (0<=Lu e) (Lu e<aG (uV e)) (∃(U:Int),aL (pC e.2.2.2.2.2.2.2.2) (kY e.2.2.2.2.2.2.2.2)
 S (T+iA (Lu e) 1) (bC U)/\eY U (Lv e) (aA (jA (j4 (hU (D4 e)) 1) 8) (dR (hU (D4 e))) (∃(g:Int×Nat×Int×Sl×cq×Nat×MH×PH),IH (I1 g) (A g) (A f) cb p k (aA (dH e.1 g.1) (cG e.2.1 g.2.1) (aA (dH e.2.2.1 g.2.2.1) (aZ (uV e) (CD g)) (aA (eL 75) (aJ k) (aA (bJ k) (gX (bH (IG e) 1)=bP (CC g)) (aA (cL sc) (eO v) (aA j7 (lS (dN (hU (D4 e)) (bC (Lu e))) (CE g)) (aA (fH (zO e) (xY g)) (dC (zO e) (xY g)) True))))))))) (∃(g:Int×Nat×Int×Sl×cq×Nat×Int×Int×Nat×MH×PH),IH (I2 g) (E g) (E e) cb p k (aA (dH e.1 g.1) (cG e.2.1 g.2.1) (aA (dH e.2.2.1 g.2.2.1) (aZ (uV e) (uV g)) (aA (eL
 75) (dH (Lv e) (Lv g)) (aA (dH e.2.2.2.2.2.2.2.1 g.2.2.2.2.2.2.2.1) (aJ k) (aA (bJ k) (cG (IG e) (IG g)) (aA (bQ (uV e) (uV g)) (gX (bH (IU e) 1)=bP (IU g)) (aA (cL sc) (eO v) (aA j7 (lS (hU (D4 e)) (D4 g)) (aA (fH (zO e) (zO g)) (dC (zO e) (zO g)) True))))))))))))) (∃(g:Int×Nat×Int×Sl×cq×Nat×MH×PH),IH (I1 g) (A g) (A f) cb p k (aA (dH e.1 g.1) (cG e.2.1 g.2.1) (aA (dH e.2.2.1 g.2.2.1) (aZ (uV e) (CD g)) (aA (eL 75) (aJ k) (aA (bJ k) (gX (bH (IG e) 1)=bP (CC g)) (aA (cL sc) (eO v) (aA j7 (lS (hU (D4 e)) (CE g)) (aA (fH (zO e) (xY g)) (dC (zO e) (xY g))
 True)))))))))))) (eY f.1 (kT sc) (∃(e:Int×Nat×MH×PH),IH (I e) (M e) (M x) cb p k (aA (dH f.1 e.1) (gX (bH f.2.1 1)=bP e.2.1) (aA (cL sc) (eO v) (aI j7 (fH (xY f) e.2.2) (dC (xY f) e.2.2) True)))) (bA (↑(hU (CE f)).length:Int) (aG k) (∃(e:Int×Nat×MH×PH),IH (I e) (M e) (M x) cb p k (aA (dH f.1 e.1) (gX (bH f.2.1 1)=bP e.2.1) (aA (cL sc) (eO v) (aI j7 (fH (xY f) e.2.2) (dC (xY f) e.2.2) True)))) (A8 f.2.2.1 (λt=>pM cb 2 (LF f) (uT f) (λc r=>∀(F:MH),bF (bO (LF f) F c) (bB F (uT f) c) (branch r (CR (λn C H G u d=>aA (dA cb (dE (CD f) (i6 p 1))=dA n (dE C (i6 H (↑d:Int)))) (bB F (uT f) n)
 (aA (Ints (uT f) C G) (Ints (uT f) H u) (aI (gU G) (gU u) (nZ d) (FV (λj D=>eX (λE z=>bR (uT f) z (fO z D j) (bF (Ck G u d D) (bO F E n) (pF E z n (cF z 21 (lY (Ct t)) (λJ L=>cF L 1 (hU (CE f)) (λO P=>cF P 21 (lY (aX (fV 2) bI (aX (fV j.op) (fV j.cmp) (aX (oB j.left) (zB j.left) (aX (fV (qL j.left)) (uF j.left) (GB j pV (uC pV (aM J)))))))) (λQ R=>K (kE (aX (fV 3) bI (aX bI bI (aX bI bI (aX bI bI (uD (dX O) (uC pV (aM Q)))))))) E R))))))))))))/\CR (λn C H G u d=>aA (dA cb (dE (CD f) (i6 p 1))=dA n (dE C (i6 H (↑d:Int)))) (bB F (uT f) n) (aA (Ints (uT f) C G) (Ints
 (uT f) H u) (aI (gU G) (gU u) (nZ d) (FV (λj D=>eX (λE z=>bR (uT f) z (fO z D j) (bF (Ck G u d D) (bO F E n) (pF E z n (cF z 21 (lY (Ct t)) (λJ L=>cF L 1 (hU (CE f)) (λO P=>cF P 21 (lY (aX (fV 2) bI (aX (fV j.op) (fV j.cmp) (aX (oB j.left) (zB j.left) (aX (fV (qL j.left)) (uF j.left) (GB j pV (uC pV (aM J)))))))) (λQ R=>K (kE (aX (fV 3) bI (aX bI bI (aX bI bI (aX bI bI (uD (dX O) (uC pV (aM Q)))))))) E R))))))))))))) (cF (uT f) 1 (hU (CE f)) (λC z=>cF z 21 (lY (Ct t)) (λJ L=>K (kE (aX (fV 3) bI (aX bI bI (aX bI bI (aX bI bI (uD (dX C) (uC pV (aM J)))))))) F
 L))))))))))) (CR (λc s t n u d=>aA (dA cb (dE k (i6 p 1))=dA c (dE s (i6 t (↑d:Int)))) (bB (pC x.2) (kY x.2) c) (aA (Ints (kY x.2) s n) (Ints (kY x.2) t u) (aI (gU n) (gU u) (nZ d) (FV (λj D=>eX (λA B=>bR (kY x.2) B (fO B D j) (bF (Ck n u d D) (bO (pC x.2) A c) (pF A B c (cF B 21 (lY v.enc) (λC z=>K (kE (aX (fV 2) bI (aX (fV j.op) (fV j.cmp) (aX (oB j.left) (zB j.left) (aX (fV (qL j.left)) (uF j.left) (GB j pV (uC pV (aM C)))))))) A z))))))))))/\CR (λc s t n u d=>aA (dA cb (dE k (i6 p 1))=dA c (dE s (i6 t (↑d:Int)))) (bB (pC x.2) (kY x.2) c) (aA (Ints (kY x.2) s n) (Ints (kY x.2) t u) (aI (gU n) (gU
 u) (nZ d) (FV (λj D=>eX (λA B=>bR (kY x.2) B (fO B D j) (bF (Ck n u d D) (bO (pC x.2) A c) (pF A B c (cF B 21 (lY v.enc) (λC z=>K (kE (aX (fV 2) bI (aX (fV j.op) (fV j.cmp) (aX (oB j.left) (zB j.left) (aX (fV (qL j.left)) (uF j.left) (GB j pV (uC pV (aM C)))))))) A z))))))))))))
theorem nG h:Ints h cH []:=⟨dD.nil _ _,ay⟩
theorem vM h:jD h cH []:=⟨dD.nil _ _,ay⟩
theorem vK h:jC h cH []:=⟨dD.nil _ _,ay⟩
theorem EX h:fO h fW jI:=Q8 (v:=jI) rfl
theorem E9{h s v q}(r:dD h s 21 [QV.enc v])(c:dK h q v):En h s [q]:=⟨⟨[v],r,rfl,λi x e=>by
 grind⟩,ay⟩
theorem E7 h t:dK h (.mk 1 t fW [] [] [] [] 0 []) ⟨1,t,jI,cH,cH,cH,cH,0,cH⟩:=
 uH.rep ⟨rfl,rfl,EX h,nG h,vM h,nG h,vK h,rfl,bN.nil _ _ _ _⟩
theorem Rm{v s q}(c:fO h p v)(d:En h s [q]):dK h (.mk 2 0 p [] [] [] [] 0 [q]) ⟨2,0,v,cH,cH,cH,cH,0,s⟩:=
 uH.rep ⟨rfl,rfl,c,nG h,vM h,nG h,vK h,rfl,d⟩
theorem Oo{h c s cols q}(d:Ints h c cols)(e:En h s [q]):dK h (.mk 3 0 fW cols [] [] [] 0 [q]) ⟨3,0,jI,c,cH,cH,cH,0,s⟩:=
 uH.rep ⟨rfl,rfl,EX h,d,vM h,nG h,vK h,rfl,e⟩
theorem qY:Ep fW:=⟨tW,tW,trivial⟩
theorem Vw{op w on q}(c:Ep w)(d:QW q):QW (.mk op ta w co on gr od li [q]):=MN.2 ⟨c,λa e=>bg⟩
theorem KF t:QW (.mk 1 t fW [] [] [] [] 0 []):=MN.2 ⟨qY,λa c=>by simp at c⟩
theorem aFJ{a:Int}{n:Nat}(c:0<=a)(d:0<n):0<=a.tmod (n:Int)/\a.tmod (n:Int)<(n:Int):=by
 rw[Int.tmod_eq_emod_of_nonneg c];exact⟨Int.emod_nonneg _ aC,Int.emod_lt_of_pos _ aC⟩
theorem M1{k op w on q}(c:arity op=1)(h:aK s ps q=(k,0)):aK s ps (.mk op ta w co on gr od li [q])=eT s ps (.mk op ta w co on gr od li [q]) k []:=by
 have e:fQ s ps [q]=([k],0):=vE (by simp[h]);simp[aK,e,c]
theorem a5Z{k c op w on q p}(d:arity op=2)(h:aK s ps q=(k,0))(h':aK s ps p=(c,0)):aK s ps (.mk op ta w co on gr od li [q,p])=eT s ps (.mk op ta w co on gr od li [q,p]) k c:=by
 have e:fQ s ps [q,p]=([k,c],0):=vE (by simp[h,h']);simp[aK,e,d]
theorem LV(h:l.length<=12):nF l=(l,0):=if_pos h
theorem Q9{s ps}{t:Int}(c:0<=t)(d:t<s.tables.length)(e:(jB s t).length<=12):aK s ps (.mk 1 t fW [] [] [] [] 0 [])=(jB s t,0):=by
 have f:aK s ps (.mk 1 t fW [] [] [] [] 0 [])=eT s ps (.mk 1 t fW [] [] [] [] 0 []) [] []:=by simp[aK,fQ,arity]
 rw[f];unfold eT;rw[if_neg (by simp[arity,cV])];dsimp only;rw[if_pos rfl,if_pos ⟨c,d⟩,LV e]
theorem kinds_filter{k w q}(h:aK s ps q=(k,0))(c:iI k ps w=0)(d:k.length<=12):aK s ps (.mk 2 0 w [] [] [] [] 0 [q])=(k,0):=by
 rw[M1 az h];unfold eT;rw[if_neg (by simp[arity,cV])];dsimp only;rw[if_neg az,if_pos rfl,if_pos c,LV d]
theorem SD{k q}(h:aK s ps q=(k,0))(d:co≠[])(e:∀c∈co,C9 k c=true)(g:co.length<=12):aK s ps (.mk 3 0 fW co [] [] [] 0 [q])=(co.map λc=>k.getD c.toNat 0,0):=by
 rw[M1 az h];unfold eT;rw[if_neg (by simp[arity,cV])];dsimp only;rw[if_neg az,if_neg az,if_pos rfl,if_pos ⟨d,λj x f=>e x (bo f)⟩,LV bg]
structure Ki(kt ks co:cq):Prop where
 in_:∀c∈co,C9 kt c=true
 eq_:(co.map λc=>kt.getD c.toNat 0)=ks
theorem Ki.kin{c ks q}(x:Ki c ks co)(h:aK s ps q=(c,0))(d:ks≠[])(f:ks.length<=12):aK s ps (.mk 3 0 fW co [] [] [] 0 [q])=(ks,0):=by
 have g:co.length=ks.length:=by rw[<-x.eq_,length_map]
 rw[SD h (λe=>d (eq_nil_of_length_eq_zero bg)) x.in_ aC,x.eq_]
theorem Ki.snoc{d}{ks:cq}{c x}(p:Ki d (ks.take i) co)(hx:ks[i]? =some x)(g:C9 d c=true)(e:d.getD c.toNat 0=x):Ki d (ks.take (i+1)) (co++[c]):=
 ⟨λy f=>by
  rcases mem_append.1 f with f|f
  .exact p.in_ y f
  grind,by rw[bu,p.eq_,cd,hx,map_cons,map_nil,e];rfl⟩
theorem bgJ:cm 35 aSJ:=by
 refine iU func35 ?_;rintro c9 m h K ⟨cb,sc,p,k,v,s,ps,ks,q,rfl,hc,hs,h8,d',hp,a9,hk,a1,hq,b',hK⟩;refine⟨ctZ cb sc p k v,rfl,aE O7 (aE I7 (aE TG (aE Db (aE Nf aH)))),Yh cb sc p k v m h K,by kernel_rfl,?_⟩;have d0:=hs.tables.slen;have b0:=hk.slen;have hw:IntKind.i64.wrap ((sc.tables.len:Int)+1)=(sc.tables.len:Int)+1:=fG aC aC;dsimp only[Yh,push_cast];rw[hw];refine⟨cb,_,rfl,hc,λf V f0 f1 o1 c1=>?_⟩;refine⟨λ⟨f,n,E,o⟩=>0<=f/\f<=sc.tables.len/\n<=sc.tables.len/\PH.le h o/\bO m E cb/\bB E o cb,λ⟨_,n,_,_⟩=>sc.tables.len-n,⟨(f,0,V,h),⟨f0,aC,aC,.refl _,o1,c1⟩,MT⟩,?_⟩;clear f0 f1 o1 c1 V hw;rintro⟨f,n,V,o⟩ ⟨f0,f1,hn,z,o1,c1⟩;dsimp only
 have C:∀(kk:Sl)(kl:cq)(E:MH)(o:PH)(Q:PV->Pred->MH->PH->Prop),Ints o kk kl->kl.length<=1000->PH.le h o->bB E o cb->(∀v p m' h',PH.le o h'->fO h' p v->Ck kl ps 1 p->bO E m' cb->bB m' h' cb->Q v p m' h')->
  ∃(D:Nat)(s t:Sl)(cols u:cq)(deep:Nat),[CV.val (.pointer (some ⟨cb,0,none⟩)),CV.val (.slice kk.a kk.len kk.cap),CV.val (.slice p.a p.len p.cap),CV.val (.int .i64 1)]=[CV.val (.pointer (some ⟨D,0,none⟩)),CV.val (.slice s.a s.len s.cap),CV.val (.slice t.a t.len t.cap),CV.val (.int .i64 deep)]/\bB E o D/\Ints o s cols/\Ints o t u/\cols.length<=1000/\u.length<=1000/\deep<=1000/\
   ∀(v:PV)(p:Pred)(m':MH)(h':PH),PH.le o h'->fO h' p v->Ck cols u deep p->bO E m' D->bB m' h' D->Q v p m' h':=λkk kl E o Q h1 h2 H h4 h5=>
  ⟨cb,kk,p,kl,ps,1,rfl,h4,h1,hp.mono H,h2,a9,aC,λv p m' h' q1 q2 W q3 q4=>h5 v p m' h' q1 q2 W q3 q4⟩
 refine aF (λd1=>?_) (λd2=>?_)
 rotate_left
 .have fin:∀(w:PV)(p:Pred)(m':MH)(h':PH),PH.le o h'->fO h' p w->Ck ks ps 1 p->bO V m' cb->bB m' h' cb->∀(s:Sl)(c:PH),PH.le h' c->dD c s 21 [QV.enc v]->K (aQ ⟨2,0,w,cH,cH,cH,cH,0,s⟩) m' c:=λw p m' h' q1 q2 W q3 q4 s h2 S q6=>
   hK _ _ m' h2 ((z.trans q1).trans S) (Rm (q2.mono S) (E9 q6 (hq.mono ((z.trans q1).trans S)))) ⟨Vw W.vals b',λd hf=>hf.filter,λ_ X b3 _ I b4=>kinds_filter b4 (W.valid (by decide) b3 X) I⟩ (o1.trans q3) (q4.mono S)
  exact⟨C k ks V o _ (hk.mono z) a1 z c1 fin,C k ks V o _ (hk.mono z) a1 z c1 fin⟩
 have b5:IntKind.i64.wrap (f+(n:Int))=f+(n:Int):=fG aC aC;rw[b5];refine⟨aC,sc,s,_,rfl,hs.mono z,h8,λA h2 a2 F=>?_⟩;have a3:=F.slen;obtain⟨T,hT⟩:∃T,(f+(n:Int)).tmod (sc.tables.len:Int)=T:=⟨_,rfl⟩
 have a4:=aFJ (a:=f+(n:Int)) (n:=sc.tables.len) aC aC;rw[hT]at F a3 a4⊢
 have b6:(jB s T).length<=8:=by
  unfold jB;split
  .simp
  .split
   .simp
   .rename_i t ht;simpa using h8 t (mem_of_getElem? ht)
 obtain⟨R,Y⟩:∃R,jB s T=R:=⟨_,rfl⟩
 have J:aK s ps (.mk 1 T fW [] [] [] [] 0 [])=(R,0):=by rw[Q9 a4.1 aC aC,Y]
 have Z:c0J s->Pd R:=λx=>by rw[<-Y];exact x T
 rw[Y]at F a3 b6;refine⟨λ⟨f',n',t,B,cols,i,E,o⟩=>f'=f/\n'=n/\B=A/\t=T/\i<=ks.length/\cols.length<=i/\(cols.length=i->Ki R (ks.take i) cols)/\PH.le h2 o/\bO m E cb/\bB E o cb,λ⟨_,_,_,_,_,i,_,_⟩=>ks.length-i,⟨(f,n,T,A,[],0,V,h2),⟨rfl,rfl,rfl,rfl,aC,by simp,λ_=>⟨by simp,by simp⟩,.refl _,o1,c1.mono a2⟩,MT⟩,?_⟩;rintro⟨f',n',t,A,cols,i,m2,H⟩ ⟨rfl,rfl,rfl,rfl,hi,d3,b7,G,o2,c2⟩;dsimp only;have g:PH.le h H:=(z.trans a2).trans G;refine aF (λU=>?_) (λc6=>?_)
 .obtain⟨x,o⟩:=fF b0 U;obtain⟨b1,b8,e1,r1⟩:=(hk.mono g).at o;refine⟨b1,b8,e1,aC,U,x,.imm (by grind),cb,_,rfl,c2,λfr m3 d4 d5 o3 c3=>?_⟩;refine⟨λ⟨f2,n2,t2,B,a',i2,L,y,j,E,hy⟩=>f2=f'/\n2=n'/\B=A/\t2=t/\a'=cols/\i2=i/\L=x/\E=m3/\hy=H/\j<=A.len/\y=fr,λ⟨_,_,_,_,_,_,_,_,j,_,_⟩=>A.len-j,⟨(f',n',t,A,cols,i,x,fr,0,m3,H),⟨rfl,rfl,rfl,rfl,rfl,rfl,rfl,rfl,rfl,aC,rfl⟩,MT⟩,?_⟩;rintro⟨f2,n2,t2,A,cols,i,L,y,j,m3,H⟩ ⟨rfl,rfl,rfl,rfl,rfl,rfl,rfl,rfl,rfl,hj,rfl⟩;dsimp only;refine aF (λc7=>?_) (λc8=>⟨(f2,n2,t2,_,_,_,_,_),⟨rfl,rfl,rfl,rfl,by show i+1<=ks.length;omega,by show cols.length<=i+1;omega,λe=>by grind,G,o2.trans o3,c3⟩,by grind,MT⟩);have b9:IntKind.i64.wrap (y+(j:Int))=y+(j:Int):=fG aC aC;rw[b9];have hm:=aFJ (a:=y+(j:Int)) (n:=Sl.len _) aC (show 0<A.len by omega);obtain⟨b2,c',e2,r2⟩:=(F.mono G).inb (n:=(y+(j:Int)).tmod (A.len:Int)) hm.1 aC;refine⟨aC,b2,c',e2,hm.1,hm.2,_,.imm (by simpa using r2),aD (λek=>⟨by simp;omega,by simp;omega,(f2,n2,t2,_,cols++[(y+(j:Int)).tmod (A.len:Int)],i+1,_,_),⟨rfl,rfl,rfl,rfl,by grind,by simp;omega,λe=>?_,G,o2.trans o3,c3⟩,by grind,?_⟩) (λ_=>⟨(f2,n2,t2,A,cols,i,L,y,j+1,m3,H),⟨rfl,rfl,rfl,rfl,rfl,rfl,rfl,rfl,rfl,by grind,rfl⟩,by grind,MT⟩)⟩
  .have e:(cols++[(y+(j:Int)).tmod (A.len:Int)]).length=i+1:=e;rw[length_append]at e;exact(b7 (by simpa using e)).snoc o (by simp only[C9,Bool.and_eq_true,decide_eq_true_eq];omega) (by grind)
  .rw[map_append];exact MT
 .have a5:n'+1<=sc.tables.len:=by omega
  have d6:i=ks.length:=by omega
  refine aD (λ_=>⟨(f',n'+1,m2,H),⟨f0,f1,a5,g,o2,c2⟩,by grind,MT⟩) (λ_=>aF (λ_=>⟨(f',n'+1,m2,H),⟨f0,f1,a5,g,o2,c2⟩,by grind,MT⟩) (λd7=>⟨t,rfl,cb,2,rfl,aC,aC,c2,λr m4 o4 c4=>?_⟩))
  have M:Ki R ks cols:=by
   grind
  refine aD (λ_=>?_) (λ_ s1 h5 a6 r5 s2 h6 a0 r6=>?_)
  .have fin:∀(w:PV)(p:Pred)(m':MH)(h':PH),PH.le H h'->fO h' p w->Ck R ps 1 p->bO m4 m' cb->bB m' h' cb->∀(s:Sl)(c:PH),PH.le h' c->dD c s 21 [QV.enc ⟨1,t,jI,cH,cH,cH,cH,0,cH⟩]->∀(a7:Sl)(O:PH),PH.le c O->dD O a7 1 (cols.map eI)->∀(a8:Sl)(P:PH),PH.le O P->dD P a8 21 [QV.enc ⟨2,0,w,cH,cH,cH,cH,0,s⟩]->K (aQ ⟨3,0,jI,a7,cH,cH,cH,0,a8⟩) m' P:=λw p m' h' q1 q2 W q3 q4 s h5 S q6 s1 h6 q7 q8 s2 h7 q9 c0=>
    hK _ _ m' h7 ((((g.trans q1).trans S).trans q7).trans q9) (Oo (cols:=cols) ⟨q8.mono q9,aC⟩ (E9 c0 (Rm (q2.mono ((S.trans q7).trans q9)) (E9 (q6.mono (q7.trans q9)) (E7 _ t))))) ⟨Vw qY (Vw W.vals (KF t)),λd _=>Wx.three d (uG.one (uG.one uG.scan (by decide)) (by decide)),λc5 X _ hn I _=>M.kin (kinds_filter J (W.valid (by decide) (Z c5) X) aC) hn I⟩ ((o2.trans o4).trans q3) (q4.mono ((S.trans q7).trans q9))
   exact⟨C A R m4 H _ (F.mono G) aC g c4 fin,C A R m4 H _ (F.mono G) aC g c4 fin⟩
  .exact hK _ _ m4 h6 ((g.trans a6).trans a0) (Oo (cols:=cols) ⟨r5.mono a0,aC⟩ (E9 (v:=⟨1,t,jI,cH,cH,cH,cH,0,cH⟩) r6 (E7 _ t))) ⟨Vw qY (KF t),λd _=>Wx.three d (uG.mono (uG.one uG.scan (by decide)) (by decide) (by decide) (by decide)),λ_ _ _ hn I _=>M.kin J hn I⟩ (o2.trans o4) (c4.mono (a6.trans a0))
def KQ2(K:cn)(m:MH)(h:PH)(cb:Nat)(s:jP)(ps:cq)(d:Nat):=∀w q m' h',PH.le h h'->dK h' q w->QW q->DO d q->(gH s ps q).2=0->bO m m' cb->bB m' h' cb->K (aQ w) m' h'
def aCZ N:=λc m h K=>∃cb sc p s ps deep,c=[cP cb,aS sc,cS p,cI deep]/\bB m h cb/\iK h s sc/\eK s=0/\s.tables≠[]/\Ints h p ps/\ps.length<=1000/\ps.all gS=true/\ -1<=deep/\deep<=1000/\(deep+1).toNat<N/\KQ2 K m h cb s ps deep.toNat
noncomputable def cBX(N cb:Nat)(sc:cA)(p:Sl):=
 rI [(19,N3),(33,b4Z),(26,OX),(34,b6J),(35,aSJ),(36,cHZ),(27,GZ),(10,aCZ N)] [(11,{A:=QV×QV×Sl×Int×MH×PH,st:=λ⟨a,q,k,n,m,h⟩=>bZ 171 175 [(0,pv cb),(2,sv p),(5,.at (.ptr 5 0)),(8,.at (.ptr 8 0)),(10,.at (.ptr 10 0)),(11,sv k),(13,.at (.ptr 13 0)),(14,iv n)] [(5,.cells 27 (sc.enc.map .val)),(8,.cells 41 (Et.enc.map .val)),(10,.cells 41 (a.enc.map .val)),(13,.cells 41 (q.enc.map .val))] m h})] [(7,{A:=Int×Int×QV×QV×Sl×MH×PH,st:=λ⟨d,op,a,q,k,m,h⟩=>bZ 171 175 [(0,pv cb),(2,sv p),(3,iv d),(5,.at (.ptr 5 0)),(8,.at (.ptr 8 0)),(9,iv op),(10,.at (.ptr 10 0)),(11,sv k),(13,.at (.ptr 13 0))] [(5,.cells 27 (sc.enc.map .val)),(8,.cells 41 (Et.enc.map .val)),(10,.cells 41 (a.enc.map .val)),(13,.cells 41 (q.enc.map .val))] m h}),
  (16,{A:=Int×Int×QV×QV×Sl×Bool×MH×PH,st:=λ⟨d,op,a,q,k,t,m,h⟩=>bZ 171 175 [(0,pv cb),(2,sv p),(3,iv d),(5,.at (.ptr 5 0)),(8,.at (.ptr 8 0)),(9,iv op),(10,.at (.ptr 10 0)),(11,sv k),(13,.at (.ptr 13 0)),(59,iv op),(84,bv t)] [(5,.cells 27 (sc.enc.map .val)),(8,.cells 41 (Et.enc.map .val)),(10,.cells 41 (a.enc.map .val)),(13,.cells 41 (q.enc.map .val))] m h}),
  (24,{A:=Int×QV×QV×Sl×Bool×MH×PH,st:=λ⟨op,a,q,k,t,m,h⟩=>bZ 171 175 [(0,pv cb),(2,sv p),(5,.at (.ptr 5 0)),(8,.at (.ptr 8 0)),(10,.at (.ptr 10 0)),(11,sv k),(13,.at (.ptr 13 0)),(59,iv op),(122,bv t)] [(5,.cells 27 (sc.enc.map .val)),(8,.cells 41 (Et.enc.map .val)),(10,.cells 41 (a.enc.map .val)),(13,.cells 41 (q.enc.map .val))] m h}),
  (20,{A:=QV×QV×QV×Sl×Sl×MH×PH,st:=λ⟨a,b,q,k,l,m,h⟩=>bZ 171 175 [(0,pv cb),(2,sv p),(5,.at (.ptr 5 0)),(8,.at (.ptr 8 0)),(10,.at (.ptr 10 0)),(11,sv k),(13,.at (.ptr 13 0)),(15,.at (.ptr 15 0)),(16,sv l)] [(5,.cells 27 (sc.enc.map .val)),(8,.cells 41 (Et.enc.map .val)),(10,.cells 41 (a.enc.map .val)),(13,.cells 41 (q.enc.map .val)),(15,.cells 41 (b.enc.map .val))] m h}),
  (30,{A:=QV×QV×MH×PH,frz:=true,st:=λ⟨a,q,m,h⟩=>bZ 171 175 [(2,sv p),(5,.at (.ptr 5 0)),(8,.at (.ptr 8 0)),(10,.at (.ptr 10 0)),(13,.at (.ptr 13 0))] [(5,.cells 27 (sc.enc.map .val)),(8,.cells 41 (Et.enc.map .val)),(10,.cells 41 (a.enc.map .val)),(13,.cells 41 (q.enc.map .val))] m h})] [] [39,1039,1036] [] false
abbrev IX(a:QV->Query->Prop):=∀(x:QV)(c:Query),a x c
noncomputable abbrev zD a b c:=(gH a b c).2
abbrev LH(a:dl)(b:PH)(c:jP->cq->Query->Prop):=EL (λx d=>∃(e:QV),EO (λf g=>∃(j:Query),aA (a=cE (cN x) (gT d (cZ e))) (iK b f x) (aA (Ints b d g) (dK b j e) (c f g j))))
noncomputable abbrev Lw(a:Int×Int×QV×QV×Sl×MH×PH):=a.2.2.2.2.1
abbrev jW(a b:QV):=sS 41 a.enc=sS 41 b.enc
abbrev zJ(a:dn)(b:QV):=oQ 41 a=sS 41 b.enc
noncomputable abbrev PC a b:=gL iE iE (gL (kF a) iE (gL aQz iE (gL (kF a) iE (gL iE aQz (gL Km Km (gL Km Km (gL Km iE b)))))))
noncomputable abbrev By(a:Int×Int×QV×QV×Sl×MH×PH):=a.2.2.2.2.2
abbrev D5 a b c d e g:=aA a (cT b) (aA (aJ c) eM (aA iM oH (aA (aZ d e) nP g)))
noncomputable abbrev yB(a:QV×QV×Sl×Int×MH×PH):=a.2.2.2.2
noncomputable abbrev VD(a:QV×QV×Sl×Int×MH×PH):=a.2.1.columns
noncomputable abbrev zR(a:QV×QV×MH×PH):=a.2.2.1
noncomputable abbrev Aa(a:QV×QV×MH×PH):=a.2.2.2
noncomputable abbrev oM(a:Int×QV×QV×Sl×Bool×MH×PH):=a.2.2.2.1
noncomputable abbrev D6(a:Int×QV×QV×Sl×Bool×MH×PH):=a.2.2.2.2.1
noncomputable abbrev vA(a:Int×QV×QV×Sl×Bool×MH×PH):=a.2.1
noncomputable abbrev sW(a:Int×QV×QV×Sl×Bool×MH×PH):=a.2.2.1
noncomputable abbrev rD(a:Int×QV×QV×Sl×Bool×MH×PH):=a.2.2.2.2.2
noncomputable abbrev nB a:=(rD a).2
noncomputable abbrev rC(a:QV×QV×QV×Sl×Sl×MH×PH):=a.2.2.2
noncomputable abbrev vB(a:QV×QV×QV×Sl×Sl×MH×PH):=a.2.2.1
noncomputable abbrev Bk a:=(iH (rC a)).2
noncomputable abbrev LK a:=(vB a).args
abbrev PB(a:Int×Int×QV×QV×Sl×Bool×MH×PH)(b:Int×QV×QV×Sl×Bool×MH×PH)(c:Prop)(d:cA):=aA (dH a.2.1 b.1) c (aA (cL d) j7 (aA (jW (vA a.2) (vA b)) (jW (sW a.2) (sW b)) (aA (fH (rD a.2) (rD b)) (dC (rD a.2) (rD b)) True)))
attribute [push_cast] IX zD LH Lw jW zJ PC By D5 yB VD zR Aa oM D6 vA sW rD nB rC vB Bk LK PB
def YN(N cb:Nat)(sc:cA)(p:Sl)(deep:Int)(m:MH)(h:PH)(K:cn):=
  kK cb 12 m h (λk Z=>bA deep 1 (kK cb (ite (kT sc>1) (kT sc) 1) Z h (λF V=>A8 F (λt=>K (kE (Ct t)) V h))) (dP (fM (1+k)==1) (kK cb (ite (kT sc>1) (kT sc) 1) Z h (λF V=>A8 F (λt=>K (kE (Ct t)) V h))) (kT sc==0) (kK cb (ite (kT sc>1) (kT sc) 1) Z h (λF V=>A8 F (λt=>K (kE (Ct t)) V h))) (∃(c:Nat),EL (λs p1=>EO (λs1 p2=>∃(d:Int),aA (dA cb (cE (cN sc) (i6 p (fM (deep-1))))=dA c (cE (cN s) (i6 p1 d))) (bB Z h c) (aA (iK h s1 s) (eK s1=0) (aA (mS (s1.tables=[])) (Ints h p1 p2) (aA (gU p2) (Az (EJ p2)) (aI (Int.negSucc 0<=d) (d<=1000) ((d+1).toNat<N) (IX (λw q=>eX (λV h1=>bR h h1 (dK h1 q w) (bF (QW q)
 (DO d.toNat q) (bF (zD s1 p2 q=0) (bO Z V c) (pF V h1 c (LH (cE (cN sc) (gT p (cZ w))) h1 (λs2 p3 q1=>∀(s3:Sl)(h2:PH),bR h1 h2 (Ints h2 s3 (gH s2 p3 q1).1) (∃(I:Int×Int×QV×QV×Sl×MH×PH->Prop),jY (λB u=>sL V u h2 B 41 21 (lY w.enc)->∃(x:Int×Int×QV×QV×Sl×MH×PH),aA (I x) (cT cb) (aA (aJ p) (dH deep x.1) (aA eM iM (aA (dH (fM (1+k)) x.2.1) oH (aA (aZ s3 (Lw x)) nP (aA (cL sc) j7 (aA (jW w x.2.2.1) (zJ (gL (kF (fM (1+k))) iE (gL (kF 0) iE (PC 0 (pG B)))) x.2.2.2.1) (aA (bW u (By x)) (eH h2 (By x)) True))))))))/\∀(x:Int×Int×QV×QV×Sl×MH×PH),I x->∃(I1:QV×QV×MH×PH->Prop),eY x.2.1 3 (kK cb 3 (By x).1 (By x).2 (fun
 F u=>∃(I2:QV×QV×Sl×Int×MH×PH->Prop)(A:QV×QV×Sl×Int×MH×PH->Nat),(∃(f:QV×QV×Sl×Int×MH×PH),D5 (I2 f) cb p (Lw x) f.2.2.1 (aA (dH F f.2.2.2.1) (cL sc) (aA j7 (jW x.2.2.1 f.1) (aI (jW x.2.2.2.1 f.2.1) (bW u (yB f)) (dC (By x) (yB f)) True))))/\∀(f:QV×QV×Sl×Int×MH×PH),I2 f->iG f.2.2.2.1 0 (kK cb (aG f.2.2.1) (yB f).1 (yB f).2 (λP D=>∃(e:List cr),aI (cW D (dO (VD f)) 3 1 e) (A4 e) (dR e) (jY (λB M=>gK D M (dO (VD f)) B 3 1 (dN e (bC P))->∃(n:QV×QV×Sl×Int×MH×PH),aA (I2 n) (A n<A f) (aA (cT cb) (aJ p) (aA eM iM (aA oH (aZ f.2.2.1 n.2.2.1) (aA nP (dH (fM (f.2.2.2.1-1))
 n.2.2.2.1) (aA (cL sc) j7 (aA (jW f.1 n.1) (zJ (gL (kF f.2.1.op) (zE f.2.1) (pQ f.2.1.where_ (gL (BY B) (BY f.2.1.on) (gL (EA f.2.1) (EB f.2.1) (oT (kF f.2.1.limit) (BY f.2.1.args)))))) n.2.1) (aA (bW M (yB n)) (dC (yB f) (yB n)) True))))))))))) (Hh (yB f).1 (yB f).2->∃(e:QV×QV×MH×PH),aA (I1 e) (aJ p) (aA (eP 5) iM (aA oH nP (aA (cL sc) j7 (aI (jW f.1 e.1) (jW f.2.1 e.2.1) (H8 (yB f).1 (yB f).2 (zR e) (Aa e)) True))))))) (∃(I2:Int×Int×QV×QV×Sl×Bool×MH×PH->Prop),eY x.2.1 4 (∃(f:Int×Int×QV×QV×Sl×Bool×MH×PH),aA (I2 f) (cT cb) (aA (aJ p) (dH x.1 f.1) (aA eM iM (aA (dH x.2.1 f.2.1) oH (aA (aZ (Lw x) (oM f.2))
 nP (aA (dH x.2.1 f.2.1) (zC (D6 f.2)) (aA (cL sc) j7 (aA (jW x.2.2.1 (vA f.2)) (jW x.2.2.2.1 (sW f.2)) (aA (fH (By x) (rD f.2)) (dC (By x) (rD f.2)) True))))))))) (∃(f:Int×Int×QV×QV×Sl×Bool×MH×PH),aA (I2 f) (cT cb) (aA (aJ p) (dH x.1 f.1) (aA eM iM (aA (dH x.2.1 f.2.1) oH (aA (aZ (Lw x) (oM f.2)) nP (aA (dH x.2.1 f.2.1) (jQ (x.2.1==5) (D6 f.2)) (aA (cL sc) j7 (aA (jW x.2.2.1 (vA f.2)) (jW x.2.2.2.1 (sW f.2)) (aA (fH (By x) (rD f.2)) (dC (By x) (rD f.2)) True)))))))))/\∀(f:Int×Int×QV×QV×Sl×Bool×MH×PH),hX (I2 f) (D6 f.2) (∃(z:Nat),EL (λB H=>EO (λG J=>∃(Q:Int),aA (dA cb (cE (cN
 sc) (i6 p (fM (f.1-2))))=dA z (cE (cN B) (i6 H Q))) (bB (rD f.2).1 (nB f.2) z) (aA (iK (nB f.2) G B) (eK G=0) (aA (mS (G.tables=[])) (Ints (nB f.2) H J) (aA (gU J) (Az (EJ J)) (aI (Int.negSucc 0<=Q) (Q<=1000) ((Q+1).toNat<N) (IX (λS L=>eX (λu j=>bR (nB f.2) j (dK j L S) (bF (QW L) (DO Q.toNat L) (bF (zD G J L=0) (bO (rD f.2).1 u z) (pF u j z (LH (cE (cN sc) (gT p (cZ S))) j (λW p6 Y=>∀(T:Sl)(R:PH),bR j R (Ints R T (gH W p6 Y).1) (∃(I3:QV×QV×QV×Sl×Sl×MH×PH->Prop),eY f.2.1 4 (fZ (fM (aG (oM f.2)+aG T)) 8 (∃(e:QV×QV×QV×Sl×Sl×MH×PH),D5 (I3 e) cb p (oM f.2) (rC e).1 (aA (eP 15)
 (aZ T (rC e).2.1) (aA (cL sc) j7 (aA (jW (vA f.2) e.1) (zJ (gL (kF 5) (zE (sW f.2)) (B9 (sW f.2) (sW f.2).on (EA (sW f.2)) (EB (sW f.2)) (oT (kF (sW f.2).limit) (BY (sW f.2).args)))) (vB e)) (aA (jW S e.2.1) (bW u (iH (rC e))) (lF (eH R (iH (rC e))))))))) (∃(e:QV×QV×QV×Sl×Sl×MH×PH),D5 (I3 e) cb p (oM f.2) (rC e).1 (aA (eP 15) (aZ T (rC e).2.1) (aA (cL sc) j7 (aA (jW (vA f.2) e.1) (jW (sW f.2) (vB e)) (aA (jW S e.2.1) (bW u (iH (rC e))) (lF (eH R (iH (rC e)))))))))) (∃(e:QV×QV×QV×Sl×Sl×MH×PH),D5 (I3 e) cb p (oM f.2) (rC e).1 (aA (eP 15) (aZ T (rC e).2.1) (aA (cL sc) j7 (aA (jW
 (vA f.2) e.1) (jW (sW f.2) (vB e)) (aA (jW S e.2.1) (bW u (iH (rC e))) (lF (eH R (iH (rC e)))))))))/\∀(e:QV×QV×QV×Sl×Sl×MH×PH),I3 e->(∃(E:Nat)(X:Sl),AO (λt a b=>aA (dA cb (cJ (rC e).1 (rC e).2.1)=dA E (cJ X t)) (bB (iH (rC e)).1 (Bk e) E) (aA (Ints (Bk e) X a) (Ints (Bk e) t b) (aA (gU a) (gU b) (∀(o:Sl)(U:cw),eX (λA O=>bR (Bk e) O (jD O o U) (bF (U.length<=10) (bO (iH (rC e)).1 A E) (pF A O E (jY (λs9 D=>sL A D O s9 41 21 (lY e.2.1.enc)->∃(n:List cr),FX (cW D (dO (LK e)) 41 21 n) (λy=>aA (fU 21 y) (uZ D O (dO s9) 21 y) (aA (sY n y 280) (sZ n y) (∀(a1:Sl)
 (M:MH),bF (gK D M (dO (LK e)) a1 41 21 (n++y)) (Hh M O) (∃(C:QV×QV×MH×PH),aA (I1 C) (aJ p) (aA (eP 5) iM (aA oH nP (aA (cL sc) j7 (aI (jW e.1 C.1) (zJ (gL (kF (vB e).op) (zE (vB e)) (B9 (vB e) o (EA (vB e)) (EB (vB e)) (oT (kF (vB e).limit) (BY a1)))) C.2.1) (H8 M O (zR C) (Aa C)) True))))))))))))))))))/\jY (λX A=>sL (iH (rC e)).1 A (Bk e) X 41 21 (lY e.2.1.enc)->∃(E:Nat)(s9:Sl),AO (λt a b=>aA (dA cb (cJ (rC e).1 (rC e).2.1)=dA E (cJ s9 t)) (bB A (Bk e) E) (aA (Ints (Bk e) s9 a) (Ints (Bk e) t b) (aA (gU a) (gU b) (∀(o:Sl)(U:cw),eX (λD O=>bR (Bk e) O (jD O o U)
 (bF (U.length<=10) (bO A D E) (pF D O E (∃(n:List cr),FX (cW D (dO (LK e)) 41 21 n) (λy=>aA (fU 21 y) (uZ D O (dO X) 21 y) (aA (sY n y 280) (sZ n y) (∀(a1:Sl)(M:MH),bF (gK D M (dO (LK e)) a1 41 21 (n++y)) (Hh M O) (∃(C:QV×QV×MH×PH),aA (I1 C) (aJ p) (aA (eP 5) iM (aA oH nP (aA (cL sc) j7 (aI (jW e.1 C.1) (zJ (gL (kF (vB e).op) (zE (vB e)) (B9 (vB e) o (EA (vB e)) (EB (vB e)) (oT (kF (vB e).limit) (BY a1)))) C.2.1) (H8 M O (zR C) (Aa C)) True))))))))))))))))))))))))))))))))) (∃(I3:Int×QV×QV×Sl×Bool×MH×PH->Prop),dP (f.2.1==6) (∃(e:Int×QV×QV×Sl×Bool×MH×PH),D5 (I3 e) cb p (oM f.2) (oM e)
 (PB f e (zC (D6 e)) sc)) (f.2.1==7) (∃(e:Int×QV×QV×Sl×Bool×MH×PH),D5 (I3 e) cb p (oM f.2) (oM e) (PB f e (zC (D6 e)) sc)) (∃(e:Int×QV×QV×Sl×Bool×MH×PH),D5 (I3 e) cb p (oM f.2) (oM e) (PB f e (jQ (f.2.1==8) (D6 e)) sc))/\∀(e:Int×QV×QV×Sl×Bool×MH×PH),I3 e->dP (D6 e) (∃(z:Nat)(B:cA),sG (λH F=>∃(v:QV),EO (λG J=>∃(P:cq)(L:Query),aA (dA cb (cE (cN sc) (dE p (gT (oM e) (cZ (vA e)))))=dA z (cE (cN B) (dE H (gT F (cZ v))))) (bB (rD e).1 (nB e) z) (aA (iK (nB e) G B) (oE G) (aA (nZ G.tables.length) (Ints (nB e) H J) (aA (gU J) (Ints (nB e) F P) (aI (gU P) (dK
 (nB e) L v) (QW L) (IX (λS Y=>eX (λu j=>bR (nB e) j (dK j Y S) (bF (b3J G J P L Y) (bO (rD e).1 u z) (pF u j z (jY (λW A=>sL u A j W 41 21 (lY S.enc)->∃(n:List cr),FX (cW A (dO (sW e).args) 41 21 n) (λy=>aA (fU 21 y) (uZ A j (dO W) 21 y) (aA (sY n y 280) (sZ n y) (∀(T:Sl)(D:MH),bF (gK A D (dO (sW e).args) T 41 21 (n++y)) (Hh D j) (∃(C:QV×QV×MH×PH),aA (I1 C) (aJ p) (aA (eP 5) iM (aA oH nP (aA (cL sc) j7 (aI (jW (vA e) C.1) (zJ (qQ (sW e) (BY T)) C.2.1) (H8 D j (zR C) (Aa C)) True)))))))))))))))))))))) (e.1==9) (∃(z:Nat)(v:QV),sC (λB F=>aA (dA cb (lL (sW e) (oM e))=
 dA z (gC (kE (vS v v (vZ v (aX (dX v.on) pV (aX pV (fV v.limit) (aM v.args)))))) (qW B))) (bB (rD e).1 (nB e) z) (aA (Ints (nB e) B F) (gU F) (∀(g o:Sl)(P:Int)(g1:cq)(U:cv),eX (λu j=>bR (nB e) j (Ints j g g1) (bF (jC j o U) (g1.length<=F.length) (bF (U.length<=F.length) (cM P) (bF (P<=3) (bO (rD e).1 u z) (bF (bB u j z) (Hh u j) (∃(n:QV×QV×MH×PH),aA (I1 n) (aJ p) (aA (eP 5) iM (aA oH nP (aA (cL sc) j7 (aI (jW (vA e) n.1) (zJ (gL (kF v.op) (zE v) (B9 v v.on (BY g) (BY o) (oT (kF P) (BY v.args)))) n.2.1) (H8 u j (zR n) (Aa n)) True)))))))))))))) (eY e.1 10 (∃(z:Nat)(v:QV),sC (λB F=>aA (dA cb
 (lL (sW e) (oM e))=dA z (gC (kE (vS v v (vZ v (aX (dX v.on) pV (aX pV (fV v.limit) (aM v.args)))))) (qW B))) (bB (rD e).1 (nB e) z) (aA (Ints (nB e) B F) (gU F) (∀(g o:Sl)(P:Int)(g1:cq)(U:cv),eX (λu j=>bR (nB e) j (Ints j g g1) (bF (jC j o U) (g1.length<=F.length) (bF (U.length<=F.length) (cM P) (bF (P<=3) (bO (rD e).1 u z) (pF u j z (∃(E:Nat)(G:cA),sG (λH k3=>∃(v1:QV),EO (λW J=>∃(k4:cq)(L:Query),aA (dA cb (cE (cN sc) (dE p (gT (oM e) (cZ (vA e)))))=dA E (cE (cN G) (dE H (gT k3 (cZ v1))))) (bB u j E) (aA (iK j W G) (oE W) (aA (nZ W.tables.length) (Ints j H J) (aA
 (gU J) (Ints j k3 k4) (aI (gU k4) (dK j L v1) (QW L) (IX (λS Y=>eX (λA R=>bR j R (dK R Y S) (bF (b3J W J k4 L Y) (bO u A E) (pF A R E (jY (λT D=>sL A D R T 41 21 (lY S.enc)->∃(n:List cr),FX (cW D (dO v.args) 41 21 n) (λy=>aA (fU 21 y) (uZ D R (dO T) 21 y) (aA (sY n y 280) (sZ n y) (∀(X:Sl)(M:MH),bF (gK D M (dO v.args) X 41 21 (n++y)) (Hh M R) (∃(C:QV×QV×MH×PH),aA (I1 C) (aJ p) (aA (eP 5) iM (aA oH nP (aA (cL sc) j7 (aI (jW (vA e) C.1) (zJ (gL (kF v.op) (zE v) (B9 v v.on (BY g) (BY o) (oT (kF P) (BY X)))) C.2.1) (H8 M R (zR C) (Aa C)) True))))))))))))))))))))))))))))))) (CR (λz B t E H Q=>aA
 (dA cb (dE (oM e) (i6 p 2))=dA z (dE B (i6 t (↑Q:Int)))) (bB (rD e).1 (nB e) z) (aA (Ints (nB e) B E) (Ints (nB e) t H) (aI (gU E) (gU H) (nZ Q) (FV (λv J=>eX (λu j=>bR (nB e) j (fO j J v) (bF (Ck E H Q J) (bO (rD e).1 u z) (pF u j z (∀(G:Sl)(A:MH),bF (sL u A j G 41 21 (lY (vA e).enc)) (Hh A j) (∃(n:QV×QV×MH×PH),aA (I1 n) (aJ p) (aA (eP 5) iM (aA oH nP (aA (cL sc) j7 (aI (jW (vA e) n.1) (zJ (gL (kF 2) iE (pQ v (gL Km Km (gL Km Km (oT iE (BY G)))))) n.2.1) (H8 A j (zR n) (Aa n)) True))))))))))))))/\jY (λB u=>sL (rD e).1 u (nB e) B 41 21 (lY (vA e).enc)->CR (λz G t E
 H Q=>aA (dA cb (dE (oM e) (i6 p 2))=dA z (dE G (i6 t (↑Q:Int)))) (bB u (nB e) z) (aA (Ints (nB e) G E) (Ints (nB e) t H) (aI (gU E) (gU H) (nZ Q) (FV (λv J=>eX (λA j=>bR (nB e) j (fO j J v) (bF (Ck E H Q J) (bO u A z) (bF (bB A j z) (Hh A j) (∃(n:QV×QV×MH×PH),aA (I1 n) (aJ p) (aA (eP 5) iM (aA oH nP (aA (cL sc) j7 (aI (jW (vA e) n.1) (zJ (gL (kF 2) iE (pQ v (gL Km Km (gL Km Km (oT iE (BY B)))))) n.2.1) (H8 A j (zR n) (Aa n)) True))))))))))))))))))/\∀(f:QV×QV×MH×PH),I1 f->LH (cE (cN sc) (gT p (cZ f.2.1))) (Aa f) (λB H L=>∀(G:Sl)(j:PH),bR (Aa f) j (Ints j G (gH B
 H L).1) (cX (zD B H L) 0 (K (cZ f.1) (zR f) j) (K (cZ f.2.1) (zR f) j)))))))))))))))))))))
structure wI(m0 m:MH)(s:Sl)(E:TypeId)(sz:Nat)(xs:List cr):Prop where
 row:cW m s E sz xs
 fresh:∀b i,s.a=some ⟨b,i,none⟩->m0 b=none
def Kept(m0 m:MH)(cb:Nat):=∀b o,m0 b=some o->b≠cb->m b=some o
theorem Kept.of{m0}(h:bO m0 m cb):Kept m0 m cb:=λb o e n=>by rw[h.other b n];exact e
theorem Kept.on{m0}(k:Kept m0 m cb)(h:bO m m' cb):Kept m0 m' cb:=λb o e n=>by rw[h.other b n];exact k b o e n
theorem bB.blk(c:bB m h cb):∃cs,m cb=some (.cells cs 86 (0,0)):=by
 obtain⟨r,q,cs,k,d,_⟩:=c
 grind
theorem bB.keep(c:bB m h cb)(e:m' cb=m cb)(le:PH.le h h'):bB m' h' cb:=by
 obtain⟨r,q,d,k,j,f,g⟩:=c;exact⟨r,q,d,k,bg,f.mono le,g⟩
theorem Kept.free{m0}(k:Kept m0 m cb)(c:bB m h cb)(d:m b=none):m0 b=none:=by
 cases e:m0 b with
 |none=>rfl
 |some o=>
  by_cases f:b=cb
  .obtain⟨g,j⟩:=c.blk
   grind
  .rw[k b o e f]at d;cases d
theorem cW.nil m E sz:cW m cH E sz []:=⟨⟨λ_ h=>by simp at h,λ_ h=>by simp at h⟩,.inl ⟨rfl,rfl⟩⟩
theorem wI.nil m0 m E sz:wI m0 m cH E sz []:=⟨cW.nil m E sz,λb i e=>by cases e⟩
theorem wI.on{m0 s E}(r:wI m0 m s E sz xs)(o:bO m m' cb)(c:bB m h cb)(f:E≠86):wI m0 m' s E sz xs:=by
 refine⟨cW.keep r.row (λb i e=>o.other b (λg=>?_)),r.fresh⟩;obtain⟨d,j⟩:=cW.blk r.row e;obtain⟨n,u⟩:=c.blk
 grind
theorem wI.new{m0 s t E E' c f}(r:wI m0 m s E sz xs)(x:sL m m' h t E' c f):wI m0 m' s E sz xs:=by
 refine⟨cW.keep r.row (λb i e=>x.other b (λj g=>?_)),r.fresh⟩;obtain⟨n,d⟩:=cW.blk r.row e;rw[(x.fresh b j g).m_]at d;cases d
theorem sL.frow{m0 s E}(x:sL m m' h s E sz xs)(k:Kept m0 m cb)(c:bB m h cb):wI m0 m' s E sz xs:=⟨x.row,λb i e=>k.free c (x.fresh b i e).m_⟩
theorem sL.at_cb{s E}(x:sL m m' h s E sz xs)(c:bB m h cb):m' cb=m cb:=x.other cb (λi e=>by
 obtain⟨f,d⟩:=c.blk;rw[(x.fresh cb i e).m_]at d;cases d)
theorem Kept.new{m0 s E}(k:Kept m0 m cb)(x:sL m m' h s E sz xs):Kept m0 m' cb:=λb o e n=>by
 rw[x.other b (λi c=>by have:=(x.fresh b i c).m_;rw[k b o e n]at this;cases this)];exact k b o e n
theorem wI.grown{m0 s f E g}(r:wI m0 m s E sz xs)(x:gK m m' s f E sz g)(k:Kept m0 m cb)(c:bB m h cb):wI m0 m' f E sz g:=
 ⟨x.row,λb i e=>by
  rcases x.fresh b i e with d|⟨j,d⟩
  .exact k.free c d
  .exact r.fresh b j d⟩
theorem wI.apart{m0 s t g E E' c n o}(r:wI m0 m s E sz xs)(q:wI m0 m t E' c n)(x:gK m m' t g E' c o)(z:E≠E'):wI m0 m' s E sz xs:=by
 refine⟨cW.keep r.row (λb i e=>?_),r.fresh⟩;obtain⟨u,d⟩:=cW.blk r.row e;rw[d];refine x.other b _ d (λj y=>?_);obtain⟨f,A⟩:=cW.blk q.row y
 grind
theorem Kept.grown{m0 s c E d}(k:Kept m0 m cb)(r:wI m0 m s E sz xs)(x:gK m m' s c E sz d):Kept m0 m' cb:=λb o e n=>x.other b o (k b o e n) (λi f=>by rw[r.fresh b i f]at e;cases e)
theorem gK.at_cb{m0 s d E f}(x:gK m m' s d E sz f)(r:wI m0 m s E sz xs)(c:bB m h cb)(n:E≠86):m' cb=m cb:=by
 obtain⟨o,e⟩:=c.blk;rw[e];refine x.other cb _ e (λi g=>?_);obtain⟨j,u⟩:=cW.blk r.row g
 grind
theorem bwZ{sz:Nat}:∀{xs:List cr},(∀e∈xs,e.length=sz)->xs.flatten.length=xs.length*sz
 |[],_=>ay
 |x::xs,h=>by
  simp only[flatten_cons,br,ci];rw[bwZ (λe c=>h e (by simp[c])),h x ay,Nat.add_mul];omega
theorem cW.src{s E x}(r:cW m s E sz (x::xs)):uZ m h s sz (x::xs):=by
 rcases r.ex with⟨_,e⟩|⟨b,d,c,rfl,f,_,_,_,g⟩
 .cases e
 .exact .lent b 0 c E (0,0) rfl rfl f bg
def BS(m0 m:MH):=λb=>match m0 b with|some _=>m b|none=>none
def CZ(m0 m:MH)(h:PH):=λb i=>match m0 b,m b with|none,some (.cells c _ _)=>c[i]? |_,_=>h b i
theorem ES{m0 m h}(d:Hh m h):PH.le h (CZ m0 m h):=⟨λb i v e=>by
 unfold CZ;split
 .rename_i f E g j c;rw[d.disj b _ c i]at e;cases e
 .exact e⟩
theorem a6Z{m0}(d:Hh m h):H8 m h (BS m0 m) (CZ m0 m h):=by
 refine⟨λb o e=>?_,ES d,λb i v e=>?_⟩
 .unfold BS at e
  grind
 .unfold CZ at e;split at e
  .rename_i c E f g j;exact .inr ⟨c,E,f,j,e,by unfold BS;rw[g]⟩
  grind
theorem FT{p:Prop}(h:p:=by repeat' (first|with_reducible rfl|exact trivial|exact a6Z (by assumption)|refine⟨?_,?_⟩|rfl)):p:=h
theorem wI.ice{m0 m h s E sz xs}(r:wI m0 m s E sz xs):dD (CZ m0 m h) s sz xs:=by
 rcases r.row.ex with⟨rfl,rfl⟩|⟨b,f,g,rfl,y,c,_,_,n⟩
 .exact dD.nil _ _
 .have z:=r.fresh b 0 rfl;refine⟨rfl,.inr ⟨b,0,rfl,λi e o=>⟨λj v u=>?_⟩⟩,c⟩;have d:=oU r.row.rows.len o j v u;rw[<-n,getElem?_take]at d;split at d
  .unfold CZ
   grind
  .cases d
theorem keep_other{m0}(k:Kept m0 m cb):bO m0 (BS m0 m) cb:=⟨λb c=>by
 unfold BS;cases e:m0 b with
 |none=>rfl
 |some o=>exact k b o e c⟩
theorem a6Q{m0}(c:bB m h cb)(e:m0 cb≠none)(d:Hh m h):bB (BS m0 m) (CZ m0 m h) cb:=c.keep (by
 unfold BS
 grind) (ES d)
def QA d q:=QW q/\Wx d q
structure QM(d:Nat)(m0 m:MH)(h:PH)(v:QV)(vs:dt):Prop where
 wher:∃w,fO h w v.where_/\Ep w
 cols:∃co:cq,wI m0 m v.columns 3 1 (co.map eI)/\co.length<=1000
 on_:∃l,jD h v.on l
 group_:∃l,Ints h v.group l
 order_:∃l,jC h v.order l
 args_:wI m0 m v.args 41 21 (vs.map QV.enc)
 len_:vs.length<=2
 reps:∀v∈vs,∃q,dK h q v/\QA d q
theorem W5{d:Nat}{h:PH}:∀{vs:dt},(∀v∈vs,∃q,dK h q v/\QA d q)->∃c:dc,c.length=vs.length/\(∀q∈c,QA d q)/\∀(i:Nat) q,c[i]? =some q->∃v,vs[i]? =some v/\dK h q v
 |[],_=>⟨[],rfl,λq f=>by simp at f,λi q e=>by simp at e⟩
 |v::vs,g=>by
  obtain⟨q,f,j⟩:=g v ay;obtain⟨c,n,y,z⟩:=W5 (vs:=vs) (λu o=>g u (by simp[o]));refine⟨q::c,by simp[n],λx A=>bg,λi x e=>?_⟩
  grind
theorem QM.ice{n m0 vs}(x:QM n m0 m h v vs)(d:Hh m h):∃q,dK (CZ m0 m h) q v/\QW q/\DO (n+1) q:=by
 obtain⟨w,o,c⟩:=x.wher;obtain⟨co,u,y⟩:=x.cols;obtain⟨on,z⟩:=x.on_;obtain⟨gr,A⟩:=x.group_;obtain⟨od,f⟩:=x.order_;obtain⟨D,B,j,C⟩:=W5 x.reps;have le:=ES (m0:=m0) d;have E:=x.len_;exact⟨_,uH.rep ⟨rfl,rfl,o.mono le,⟨u.ice,aC⟩,z.mono le,A.mono le,f.mono le,rfl,⟨⟨vs,x.args_.ice,B,λi q e=>let⟨v,k1,k2⟩:=C i q e;⟨v,k1,k2.mono le⟩⟩,aC⟩⟩,MN.2 ⟨c,λa g=>(j a g).1⟩,DO.node (λa g=>(j a g).2) aC⟩
theorem QM.on{n m0 vs}(x:QM n m0 m h v vs)(o:bO m m' cb)(c:bB m h cb)(le:PH.le h h'):QM n m0 m' h' v vs:=by
 obtain⟨w,j,d⟩:=x.wher;obtain⟨co,u,f⟩:=x.cols;obtain⟨on,y⟩:=x.on_;obtain⟨gr,z⟩:=x.group_;obtain⟨od,g⟩:=x.order_;exact⟨⟨w,j.mono le,d⟩,⟨co,u.on o c az,f⟩,⟨on,y.mono le⟩,⟨gr,z.mono le⟩,⟨od,g.mono le⟩,x.args_.on o c az,x.len_,λv A=>let⟨q,e,ew⟩:=x.reps v A;⟨q,e.mono le,ew⟩⟩
theorem QM.new{d m0 vs t E j}(x:QM d m0 m h v vs)(n:sL m m' h' t E sz j)(le:PH.le h h'):QM d m0 m' h' v vs:=by
 obtain⟨w,o,c⟩:=x.wher;obtain⟨co,u,f⟩:=x.cols;obtain⟨on,y⟩:=x.on_;obtain⟨gr,z⟩:=x.group_;obtain⟨od,g⟩:=x.order_;exact⟨⟨w,o.mono le,c⟩,⟨co,u.new n,f⟩,⟨on,y.mono le⟩,⟨gr,z.mono le⟩,⟨od,g.mono le⟩,x.args_.new n,x.len_,λv A=>let⟨q,e,ew⟩:=x.reps v A;⟨q,e.mono le,ew⟩⟩
theorem QM.grow{d:Nat}{m0:MH}{e:QV}{vs:dt}{j u}(x:QM d m0 m h v vs)(g:gK m m' v.args j 41 21 (vs.map QV.enc++[u.enc]))(k:Kept m0 m cb)(c:bB m h cb)(F:∃q,dK h q u/\QA d q)(G:vs.length<=1)(o:e.where_=v.where_)(y:e.columns=v.columns)(z:∃l,jD h e.on l)(A:∃l,Ints h e.group l)(B:∃l,jC h e.order l)(C:e.args=j):QM d m0 m' h e (vs++[u]):=by
 obtain⟨co,D,f⟩:=x.cols;refine⟨by rw[o];exact x.wher,⟨co,by rw[y];exact D.apart x.args_ g az,f⟩,z,A,B,by rw[C,bu];exact x.args_.grown g k c,bf,λv E=>?_⟩;rcases mem_append.1 E with n|n
 .exact x.reps v n
 grind
theorem aHX(h:eK s=0):EV s:=Classical.byContradiction λc=>by rw[yE c]at h;cases h
theorem AI(h:eK s=0):oE s:=λt c=>by
 obtain⟨i,d⟩:=mem_iff_getElem?.1 c;have:=(aHX h).2 i t d;exact this.1
theorem JO(h:eK s=0):s.tables.length<=8:=(aHX h).1
theorem Qx s ps q:(gH s ps q).1.length<=12:=by
 unfold gH;split
 .split
  .split
   .exact lV s ps q
   .simp[eF]
  .simp[eF]
 .simp[eF]
theorem aHZ{s ps}{t:Int}(c:eK s=0)(d:ps.all gS=true)(e:0<=t)(f:t<s.tables.length):(gH s ps (.mk 1 t fW [] [] [] [] 0 [])).2=0:=by
 have g:=AI c
 have u:(jB s t).length<=12:=by
  unfold jB;split
  .simp
  .split
   .simp
   .rename_i x j;have:=g x (bo j);simp;omega
 have n:aK s ps (.mk 1 t fW [] [] [] [] 0 [])=eT s ps (.mk 1 t fW [] [] [] [] 0 []) [] []:=by simp[aK,fQ,arity]
 have o:pY (.mk 1 t fW [] [] [] [] 0 [])=true:=by rfl
 unfold gH;rw[if_pos c,if_pos d,if_pos o,n];unfold eT;rw[if_neg (by simp[arity,cV])];simp only[if_true];rw[if_pos ⟨e,f⟩];unfold nF
 grind
structure Mid(m0:MH)(h3:PH)(cb:Nat)(a q:QV)(mx:MH):Prop where
 case_:bB mx h3 cb
 kept:Kept m0 mx cb
 ex:∃o args,q=⟨o,0,jI,cH,cH,cH,cH,0,args⟩/\wI m0 mx args 41 21 ([a].map QV.enc)
theorem Mid.qm{d m0 e c a q}(x:Mid m0 c cb a q e)(j:∃f,dK c f a/\QA d f):QM d m0 e c q [a]:=by
 obtain⟨o,args,rfl,g⟩:=x.ex;exact⟨⟨_,EX c,qY⟩,⟨[],wI.nil _ _ _ _,ay⟩,⟨_,vM _⟩,⟨_,nG _⟩,⟨_,vK _⟩,g,ay,λv n=>bg⟩
theorem aQX:∀N,cm 10 (aCZ N)
 |0=>by
  refine fP (fn:=Tryz.f10) (c:=dY Tryz.f10) func10 rfl az ?_;rintro c0 m h K ⟨cb,sc,p,s,ps,deep,rfl,_,_,_,_,_,_,_,_,_,hN,_⟩;omega
 |N+1=>by
  refine iU func10 ?_;rintro c0 m h K ⟨cb,sc,p,s,ps,deep,rfl,hc,hs,he,b',hp,a0,a7,d0,d1,hN,hK⟩;refine⟨cBX N cb sc p,rfl,aE O7 (aE TG (aE biQ (aE bhQ (aE bgJ (aE bgZ (aE Nf (aE (aQX N) aH))))))),YN N cb sc p deep m h K,ax,?_⟩;have f3:=hs.tables.slen;have h8:=AI he;have f4:=JO he;have f5:0<s.tables.length:=length_pos_iff.2 b';have d':(if(sc.tables.len:Int)>1 then(sc.tables.len:Int)else 1)=(sc.tables.len:Int):=by omega
  have d2:m cb≠none:=by obtain⟨cs,e⟩:=hc.blk;rw[e];simp
  dsimp only[YN,push_cast];rw[d'];refine⟨cb,12,rfl,hc,λk m1 k0 k1 o1 c1=>?_⟩;refine aF (λhd=>?_) (λhd=>aD (λ_=>?_) (λ_=>aD (λ_=>?_) (λ_=>?_)))
  .exact⟨cb,_,rfl,c1,λG m2 b0 d3 o2 c2=>⟨G,rfl,hK _ _ m2 h (.refl _) (E7 h G) (KF G) (DO.mono (d:=0) uG.scan (Nat.zero_le _)) (aHZ he a7 b0 aC) (o1.trans o2) c2⟩⟩
  .exact⟨cb,_,rfl,c1,λG m2 b0 d3 o2 c2=>⟨G,rfl,hK _ _ m2 h (.refl _) (E7 h G) (KF G) (DO.mono (d:=0) uG.scan (Nat.zero_le _)) (aHZ he a7 b0 aC) (o1.trans o2) c2⟩⟩
  .grind
  have d4:IntKind.i64.wrap (deep-1)=deep-1:=fG aC aC;have d5:IntKind.i64.wrap (deep-2)=deep-2:=fG aC aC;rw[d4];refine⟨cb,sc,p,s,ps,deep-1,rfl,c1,hs,he,b',hp,a0,a7,aC,aC,aC,λa qa m2 h2 b1 ra b6 a3 d6 o2 c2=>⟨sc,p,a,s,ps,qa,rfl,hs.mono b1,hp.mono b1,ra,λkk h3 b3 ik=>?_⟩⟩;have d7:=Qx s ps qa;obtain⟨T,d8⟩:∃T,(deep-1).toNat=T:=⟨_,rfl⟩
  have d9:deep.toNat=T+1:=by omega
  rw[d8]at a3;have U:QA T qa:=⟨b6,a3.arg⟩
  generalize e':(gH s ps qa).fst=ks at ik d7;clear e';have A:PH.le h h3:=b1.trans b3;have V:dK h3 qa a:=ra.mono b3;refine⟨λ⟨d,op,D,q,H,mx,I⟩=>d=deep/\D=a/\H=kk/\I=h3/\Mid m h3 cb a q mx,λM m3 j=>⟨(deep,IntKind.i64.wrap (1+k),a,⟨IntKind.i64.wrap (1+k),0,jI,cH,cH,cH,cH,0,M⟩,kk,m3,h3),⟨rfl,rfl,rfl,rfl,?_⟩,MT⟩,?_⟩
  .have G:=(Kept.of o1).on o2;have c3:=c2.mono b3;exact⟨c3.keep (sL.at_cb j c3) (.refl _),G.new j,_,_,rfl,sL.frow j G c3⟩
  rintro⟨deep,op,D,q,H,mx,I⟩ ⟨rfl,rfl,rfl,rfl,y⟩;dsimp only;have E:∀(q:QV)(vs:dt)(B:MH)(C:PH),PH.le I C->Kept m B cb->bB B C cb->QM T m B C q vs->Hh B C->PH.le I (CZ m B C)/\bO m (BS m B) cb/\bB (BS m B) (CZ m B C) cb/\∃qq,dK (CZ m B C) qq q/\QW qq/\DO (T+1) qq:=λq vs B C l k c x d=>⟨l.trans (ES d),keep_other k,a6Q c d2 d,x.ice d⟩
  have join:∀(q:QV)(u:QV)(M:Sl)(B:MH)(C:PH)(Q:Sl->MH->Prop),PH.le I C->Kept m B cb->bB B C cb->QM T m B C q [D]->wI m B M 41 21 [u.enc]->(∃qu,dK C qu u/\QA T qu)->
   (∀J m',(∀q':QV,q'.where_=q.where_->q'.columns=q.columns->(∃l,jD C q'.on l)->(∃l,Ints C q'.group l)->(∃l,jC C q'.order l)->q'.args=J->QM T m m' C q' [D,u])->Kept m m' cb->bB m' C cb->Q J m')->
   ∃xs,cW B ⟨q.args.a,q.args.len,q.args.cap⟩ 41 21 xs/\∃ys,fU 21 ys/\uZ B C ⟨M.a,M.len,M.cap⟩ 21 ys/\(xs.length+ys.length)*280<=140737488355328/\xs.length+ys.length<=140737488355328/\∀(J:Sl)(m':MH),gK B m' ⟨q.args.a,q.args.len,q.args.cap⟩ J 41 21 (xs++ys)->Q J m':=
   λq u M B C Q l k c x f hu hQ=>⟨_,x.args_.row,[u.enc],bwJ [u],cW.src f.row,ay,ay,λJ m' g=>hQ J m' (λq' e1 e2 e3 e4 e5 e6=>x.grow g k c hu ay e1 e2 e3 e4 e5 e6) (k.grown x.args_ g) (c.keep (gK.at_cb g x.args_ c az) (.refl _))⟩
  refine⟨λ⟨W,q,B,C⟩=>W=D/\PH.le I C/\bO m B cb/\bB B C cb/\∃qq,dK C qq q/\QW qq/\DO (T+1) qq,aD (λ_=>?_) (λ_=>?_),?_⟩
  ·
   refine⟨cb,3,rfl,y.case_,λn m3 n0 n1 o3 c3=>?_⟩;refine⟨λ⟨W,q,G,n,B,C⟩=>W=D/\G=H/\C=I/\ -1<=n/\n<=2/\bB B I cb/\Kept m B cb/\QM T m B I q [D]/\∃co:cq,wI m B q.columns 3 1 (co.map eI)/\(co.length:Int)<=2-n,λ⟨_,_,_,n,_,_⟩=>(n+1).toNat,⟨(D,q,H,n,m3,I),⟨rfl,rfl,rfl,aC,aC,c3,y.kept.on o3,(y.qm ⟨qa,V,U⟩).on o3 y.case_ (.refl _),[],?_,bf⟩,MT⟩,?_⟩
   .obtain⟨o,args,rfl,hf⟩:=y.ex;exact wI.nil _ _ _ _
   clear y q c3 o3 m3 n0 n1 n;rintro⟨W,q,G,n,B,C⟩ ⟨rfl,rfl,rfl,n0,n1,cy,ky,qm,co,b7,f2⟩;dsimp only;refine aF (λhn=>⟨cb,_,rfl,cy,λc m4 _ _ o4 c4=>⟨_,(b7.on o4 cy az).row,bf,bf,λJ X g=>?_⟩⟩) (λhn d=>⟨(W,q,BS m B,CZ m B C),⟨rfl,E q _ B C (.refl _) ky cy qm d⟩,FT⟩);have O:=b7.on o4 cy az;have q4:=qm.on o4 cy (.refl _);have k4:=ky.on o4;have a4:wI m X J 3 1 ((co++[c]).map eI):=by rw[bu];exact O.grown g k4 c4
   have e0:IntKind.i64.wrap (n-1)=n-1:=fG aC aC;rw[e0];refine⟨(W,{q with columns:=J},G,n-1,X,C),⟨rfl,rfl,rfl,bg,bg,c4.keep (gK.at_cb g O c4 az) (.refl _),k4.grown O g,⟨q4.wher,⟨_,a4,bf⟩,q4.on_,q4.group_,q4.order_,q4.args_.apart O g az,q4.len_,q4.reps⟩,_,a4,bf⟩,bg,MT⟩
  .refine⟨λ⟨d,op,W,q,G,t,B,C⟩=>d=deep/\W=D/\G=H/\C=I/\Mid m I cb D q B,aD (λ_=>⟨(deep,op,D,q,H,true,mx,I),⟨rfl,rfl,rfl,rfl,y⟩,MT⟩) (λ_=>⟨(deep,op,D,q,H,op==5,mx,I),⟨rfl,rfl,rfl,rfl,y⟩,MT⟩),?_⟩;clear y q mx;rintro⟨deep,op,D,q,H,t,mx,I⟩ ⟨rfl,rfl,rfl,rfl,y⟩;dsimp only;refine aD (λ_=>?_) (λ_=>?_)
   ·
    rw[d5];refine⟨cb,sc,p,s,ps,deep-2,rfl,y.case_,hs.mono A,he,b',hp.mono A,a0,a7,aC,aC,aC,λb qb X P z rb b8 e7 _ o5 Y=>⟨sc,p,b,s,ps,qb,rfl,hs.mono (A.trans z),hp.mono (A.trans z),rb,λl h6 L il=>?_⟩⟩;have b9:QA T qb:=⟨b8,(e7.mono aC).arg⟩
    have e8:=Qx s ps qb;generalize f6:(gH s ps qb).fst=ls at il e8;have R:QM T m X h6 q [D]:=(y.qm ⟨qa,V,U⟩).on o5 y.case_ (z.trans L);have k6:=y.kept.on o5;have S:=Y.mono L;refine⟨λ⟨W,b2,q,G,l2,B,C⟩=>W=D/\b2=b/\G=H/\l2=l/\C=h6/\bB B h6 cb/\Kept m B cb/\QM T m B h6 q [D],aD (λ_=>aF (λ_=>⟨(D,b,{q with op:=5},H,l,X,h6),⟨rfl,rfl,rfl,rfl,rfl,S,k6,⟨R.wher,R.cols,R.on_,R.group_,R.order_,R.args_,R.len_,R.reps⟩⟩,MT⟩) (λ_=>⟨(D,b,q,H,l,X,h6),⟨rfl,rfl,rfl,rfl,rfl,S,k6,R⟩,MT⟩)) (λ_=>⟨(D,b,q,H,l,X,h6),⟨rfl,rfl,rfl,rfl,rfl,S,k6,R⟩,MT⟩),?_⟩;have c':=rb.mono L;have a1:PH.le I h6:=z.trans L;clear R k6 S o5 Y rb z y q;rintro⟨W,b,q,G,l,B,h6⟩ ⟨rfl,rfl,rfl,rfl,rfl,S,k6,R⟩;dsimp only;refine⟨⟨cb,G,l,ks,ls,rfl,S,ik.mono a1,il,aC,aC,λo on m7 h7 F b4 _ o7 c7 M m8 j=>?_⟩,λM m7 j=>⟨cb,G,l,ks,ls,rfl,S.keep (sL.at_cb j S) (.refl _),ik.mono a1,il,aC,aC,λo on m8 h7 F b4 _ o8 c8=>?_⟩⟩
    .have k7:=k6.on o7;refine join q b M m8 h7 _ (a1.trans F) (k7.new j) (c7.keep (sL.at_cb j c7) (.refl _)) ((R.on o7 S F).new j (.refl _)) (sL.frow j k7 c7) ⟨qb,c'.mono F,b9⟩ (λJ m9 hq k9 c9 d=>?_);exact⟨(W,{q with on:=o,args:=J},BS m m9,CZ m m9 h7),⟨rfl,E _ _ m9 h7 (a1.trans F) k9 c9 (hq {q with on:=o,args:=J} rfl rfl ⟨on,b4⟩ (let⟨l,e⟩:=R.group_;⟨l,e.mono F⟩) (let⟨l,e⟩:=R.order_;⟨l,e.mono F⟩) rfl) d⟩,FT⟩
    .have k7:=k6.new j;have c7:bB m7 h6 cb:=S.keep (sL.at_cb j S) (.refl _);have k8:=k7.on o8;refine join q b M m8 h7 _ (a1.trans F) k8 c8 ((R.new j (.refl _)).on o8 c7 F) ((sL.frow j k6 S).on o8 c7 az) ⟨qb,c'.mono F,b9⟩ (λJ m9 hq k9 c9 d=>?_);exact⟨(W,{q with on:=o,args:=J},BS m m9,CZ m m9 h7),⟨rfl,E _ _ m9 h7 (a1.trans F) k9 c9 (hq {q with on:=o,args:=J} rfl rfl ⟨on,b4⟩ (let⟨l,e⟩:=R.group_;⟨l,e.mono F⟩) (let⟨l,e⟩:=R.order_;⟨l,e.mono F⟩) rfl) d⟩,FT⟩
   .refine⟨λ⟨op,W,q,G,t,B,C⟩=>W=D/\G=H/\C=I/\Mid m I cb D q B,aD (λ_=>⟨(op,D,q,H,true,mx,I),⟨rfl,rfl,rfl,y⟩,MT⟩) (λ_=>aD (λ_=>⟨(op,D,q,H,true,mx,I),⟨rfl,rfl,rfl,y⟩,MT⟩) (λ_=>⟨(op,D,q,H,op==8,mx,I),⟨rfl,rfl,rfl,y⟩,MT⟩)),?_⟩;clear y q mx;rintro⟨op,D,q,H,t,mx,I⟩ ⟨rfl,rfl,rfl,y⟩;dsimp only;have q3:=y.qm ⟨qa,V,U⟩;refine aD (λ_=>?_) (λ_=>aD (λ_=>?_) (λ_=>aD (λ_=>?_) (λ_=>?_)))
    ·
     refine⟨cb,sc,p,H,D,s,ps,ks,qa,rfl,y.case_,hs.mono A,h8,aC,hp.mono A,a0,ik,aC,V,U.1,λw qw X P z e9 a5 o5 Y M m6 j=>?_⟩;have k5:=y.kept.on o5;refine join q w M m6 P _ z (k5.new j) (Y.keep (sL.at_cb j Y) (.refl _)) ((q3.on o5 y.case_ z).new j (.refl _)) (sL.frow j k5 Y) ⟨qw,e9,a5.qw,a5.siz T a3⟩ (λJ m9 hq k9 c9 d=>?_);have Z:=q3.on o5 y.case_ z;exact⟨(D,{q with args:=J},BS m m9,CZ m m9 P),⟨rfl,E _ _ m9 P z k9 c9 (hq {q with args:=J} rfl rfl Z.on_ Z.group_ Z.order_ rfl) d⟩,FT⟩
    ·
     obtain⟨o,args,rfl,hf⟩:=y.ex;refine⟨cb,⟨o,0,jI,cH,cH,cH,cH,0,args⟩,H,ks,rfl,y.case_,ik,aC,λg od kk gr a8 X P z hg a9 _ _ _ _ o5 Y d=>?_⟩;have Z:=q3.on o5 y.case_ z;exact⟨(D,⟨o,0,jI,cH,cH,g,od,kk,args⟩,BS m X,CZ m X P),⟨rfl,E _ [D] X P z (y.kept.on o5) Y ⟨Z.wher,Z.cols,Z.on_,⟨gr,hg⟩,⟨a8,a9⟩,Z.args_,Z.len_,Z.reps⟩ d⟩,FT⟩
    ·
     obtain⟨o,args,rfl,hf⟩:=y.ex;refine⟨cb,⟨o,0,jI,cH,cH,cH,cH,0,args⟩,H,ks,rfl,y.case_,ik,aC,λg od kk gr a8 X P z hg a9 _ _ _ _ o5 Y=>?_⟩;have Z:=q3.on o5 y.case_ z;have f':QM T m X P ⟨o,0,jI,cH,cH,g,od,kk,args⟩ [D]:=⟨Z.wher,Z.cols,Z.on_,⟨gr,hg⟩,⟨a8,a9⟩,Z.args_,Z.len_,Z.reps⟩
     refine⟨cb,sc,p,H,D,s,ps,ks,qa,rfl,Y,hs.mono (A.trans z),h8,aC,hp.mono (A.trans z),a0,ik.mono z,aC,V.mono z,U.1,λw qw m6 h6 L f0 a5 o6 S M m7 j=>?_⟩;have k6:=(y.kept.on o5).on o6;refine join ⟨o,0,jI,cH,cH,g,od,kk,args⟩ w M m7 h6 _ (z.trans L) (k6.new j) (S.keep (sL.at_cb j S) (.refl _)) ((f'.on o6 Y L).new j (.refl _)) (sL.frow j k6 S) ⟨qw,f0,a5.qw,a5.siz T a3⟩ (λJ m9 hq k9 c9 d=>?_);exact⟨(D,⟨o,0,jI,cH,cH,g,od,kk,J⟩,BS m m9,CZ m m9 h6),⟨rfl,E _ _ m9 h6 (z.trans L) k9 c9 (hq ⟨o,0,jI,cH,cH,g,od,kk,J⟩ rfl rfl ⟨_,vM _⟩ ⟨gr,hg.mono L⟩ ⟨a8,a9.mono L⟩ rfl) d⟩,FT⟩
    ·
     refine⟨⟨cb,H,p,ks,ps,2,rfl,y.case_,ik,hp.mono A,aC,a0,aC,λpv pp X P z rp b5 o5 Y M m6 j d=>?_⟩,λM X j=>⟨cb,H,p,ks,ps,2,rfl,y.case_.keep (sL.at_cb j y.case_) (.refl _),ik,hp.mono A,aC,a0,aC,λpv pp m6 P z rp b5 o6 S d=>?_⟩⟩
     .have k5:=y.kept.on o5;exact⟨(D,⟨2,0,pv,cH,cH,cH,cH,0,M⟩,BS m m6,CZ m m6 P),⟨rfl,E _ [D] m6 P z (k5.new j) (Y.keep (sL.at_cb j Y) (.refl _)) ⟨⟨pp,rp,b5.vals⟩,⟨[],wI.nil _ _ _ _,ay⟩,⟨_,vM _⟩,⟨_,nG _⟩,⟨_,vK _⟩,sL.frow j k5 Y,ay,λv hv=>by simp at hv;subst hv;exact⟨qa,V.mono z,U⟩⟩ d⟩,FT⟩
     .have k5:=y.kept.new j;have Y:bB X I cb:=y.case_.keep (sL.at_cb j y.case_) (.refl _);exact⟨(D,⟨2,0,pv,cH,cH,cH,cH,0,M⟩,BS m m6,CZ m m6 P),⟨rfl,E _ [D] m6 P z (k5.on o6) S ⟨⟨pp,rp,b5.vals⟩,⟨[],wI.nil _ _ _ _,ay⟩,⟨_,vM _⟩,⟨_,nG _⟩,⟨_,vK _⟩,(sL.frow j y.kept y.case_).on o6 Y az,ay,λv hv=>by simp at hv;subst hv;exact⟨qa,V.mono z,U⟩⟩ d⟩,FT⟩
  .rintro⟨W,q,B,C⟩ ⟨rfl,a6,oy,cy,qq,rq,f1,f7⟩;dsimp only;refine⟨sc,p,q,s,ps,qq,rfl,hs.mono (A.trans a6),hp.mono (A.trans a6),rq,λsl P z _=>aD (λe=>?_) (λe=>?_)⟩
   .exact hK W qa B P ((A.trans a6).trans z) ((V.mono a6).mono z) U.1 (by rw[d9];exact a3.mono aC) d6 oy (cy.mono z)
   .exact hK q qq B P ((A.trans a6).trans z) (rq.mono z) f1 bg (bk e) oy (cy.mono z)
mutual
def eA(st:List ct):Query->ct
 |.mk op ta w co on gr od li args=>if op=1 then st.getD ta.toNat []else Fb op (.mk op ta w co on gr od li args) (Au st args)
def Au(st:List ct):dc->List ct
 |[]=>[]
 |q::qs=>eA st q::Au st qs
end
structure G0(st ls:List ct)(k:Nat)(ts:cq):Prop where
 at_:∀(j:Nat)(t:Int),ts[j]? =some t->ls.getD (k+j) []=st.getD t.toNat []
theorem G0.left{st ls k b}(x:G0 st ls k (a++b)):G0 st ls k a:=
 ⟨λj t h=>x.at_ j t bg⟩
theorem G0.right{st ls k b}(x:G0 st ls k (a++b)):G0 st ls (k+a.length) b:=
 ⟨λj t h=>by
  have:=x.at_ (a.length+j) t bg
  grind⟩
theorem MG{args c}(d:fQ s ps args=(c,0))(e:(c.length:Int)=arity 1):args=[]:=by
 cases args with
 |nil=>rfl
 |cons q f=>obtain⟨_,_,_,_,rfl⟩:=qU d;simp[arity]at e;omega
mutual
theorem NN{s:jP}{ps:cq}{st ls:List ct}:∀{q:Query}{ks:cq}{k:Nat},aK s ps q=(ks,0)->G0 st ls k (cD q)->fN ls q k=(eA st q,k+(cD q).length)
 |.mk op ta w co on gr od li args,ks,k,h,c=>by
  obtain⟨g,f,j,o⟩:=yM h;by_cases e:op=1
  .subst e;have n:=MG f j;subst n;have d:cD (.mk 1 ta w co on gr od li [])=[ta]:=by simp[cD,dT]
   rw[d]at c⊢
   have:=c.at_ 0 ta rfl;rw[Nat.add_zero]at this;rw[fN,eA,if_pos rfl,if_pos rfl,this];rfl
  .have d:cD (.mk op ta w co on gr od li args)=dT args:=by simp[cD,e]
   rw[d]at c⊢
   rw[fN,eA,if_neg e,if_neg e,Ke f c]
theorem Ke{s:jP}{ps:cq}{st ls:List ct}:∀{d:dc}{c:List cq}{k:Nat},fQ s ps d=(c,0)->G0 st ls k (dT d)->gI ls d k=(Au st d,k+(dT d).length)
 |[],c,k,h,_=>by simp[gI,Au,dT]
 |q::d,c,k,h,e=>by
  obtain⟨n,f,g,j,rfl⟩:=qU h;rw[dT]at e;rw[gI,Au,dT,NN g e.left,Ke j e.right,br,Nat.add_assoc]
end
mutual
theorem Dm{s:jP}{ps:cq}:∀{q:Query}{ks:cq},aK s ps q=(ks,0)->∀t∈cD q,0<=t/\t<s.tables.length
 |.mk op ta w co on gr od li args,ks,h,t,f=>by
  obtain⟨g,j,n,c⟩:=yM h;rw[cD]at f;rcases mem_append.1 f with d|d
  .split at d
   .rename_i e;subst e;simp only[mem_singleton]at d;subst d;unfold eT at c;dsimp only at c;split at c
    .simp[eF]at c
    try rw[if_pos rfl]at c
    split at c
    .omega
    .simp[eF]at c
   .simp at d
  .exact SZ j t d
theorem SZ{s:jP}{ps:cq}:∀{e:dc}{d:List cq},fQ s ps e=(d,0)->∀t∈dT e,0<=t/\t<s.tables.length
 |[],d,h,t,c=>by rw[dT]at c;simp at c
 |q::e,d,h,t,c=>by
  obtain⟨n,f,g,j,rfl⟩:=qU h;rw[dT]at c;rcases mem_append.1 c with c|c
  .exact Dm g t c
  .exact SZ j t c
end
def Cf(key k:Int)(i:Nat)(v:VV):=kG v&&(v.kind==k||((v.kind==2||v.kind==1)&&decide (key<=(i:Int))))
def Fi(t:AE)(r:da):=decide (r.length=t.columns.length)&&(List.range r.length).all λi=>Cf t.key (t.columns.getD i ⟨⟨#[]⟩,0⟩).kind i (r.getD i zeroV)
def pH(t:AE)(r:da):=r.take (max 0 (min t.key r.length)).toNat
def aGQ(t:AE)(l:ct):=(∀r∈l,Fi t r=true)/\∀(i:Nat) r c,l[i]? =some r->l[i+1]? =some c->eZ (pH t r) (pH t c)<0
def Qg(s:jP)(st:List ct):=∀(i:Nat) t l,s.tables[i]? =some t->st[i]? =some l->aGQ t l
open Classical in
noncomputable def jG(s:jP)(st:List ct):Int:=
 if eK s≠0 then eK s else if 512<(st.map λl=>(l.length:Int)).sum then 2 else if st.length≠s.tables.length then 80 else if Qg s st then 0 else 80
def StV(st:List ct):=∀l∈st,∀r∈l,∀v∈r,u7 v.kind/\u7 v.int
def Dq(t:AE)(key row:da):Bool->ct->ct
 |d,[]=>if d then[]else[row]
 |d,r::l=>(if 0<=eZ (pH t r) key/\d=false then[row]else[])++((if eZ (pH t r) key≠0 then[r]else[])++Dq t key row (d||decide (0<=eZ (pH t r) key)) l)
def SL(t:AE)(l:ct):=l.Pairwise λx y=>eZ (pH t x) (pH t y)<0
theorem GW{x y z}(c:eZ x y<0)(d:eZ y z<0):eZ x z<0:=by
 have:=DA x y z aC aC;rcases Int.lt_or_eq_of_le this with h|h
 .exact h
 .rw[lH]at h;subst h;have:=qH x y;omega
theorem Qy{t:AE}{key row:da}:∀{l:ct},(∀r∈l,0<eZ (pH t r) key)->Dq t key row true l=l
 |[],_=>rfl
 |r::l,h=>by
  have d:=h r (mem_cons_self ..);rw[Dq,if_neg ay,if_pos aC,Bool.true_or,Qy λx c=>h x (mem_cons_of_mem _ c)];rfl
theorem Ph{t:AE}{key row z:da}:∀{l:ct}{d:Bool},z∈Dq t key row d l->z=row\/z∈l
 |[],d,h=>by
  rw[Dq]at h
  grind
 |r::l,d,h=>by
  rw[Dq]at h;rcases mem_append.1 h with h|h
  .grind
  .rcases mem_append.1 h with h|h
   .grind
   .exact(Ph h).imp id λh=>mem_cons_of_mem _ h
theorem Pj{t:AE}{key row:da}:∀{l:ct}{d:Bool},(Dq t key row d l).length<=l.length+(if d then 0 else 1)
 |[],d=>by rw[Dq];grind
 |r::l,d=>by
  have:=Pj (t:=t) (key:=key) (row:=row) (l:=l) (d:=d||decide (0<=eZ (pH t r) key));rw[Dq]
  grind
theorem Qz{t:AE}{row:da}:∀{l:ct},SL t l->SL t (Dq t (pH t row) row false l)
 |[],_=>by rw[Dq];exact pairwise_singleton _ _
 |r::l,h=>by
  obtain⟨f,n⟩:=pairwise_cons.1 h;rw[Dq];by_cases g:0<=eZ (pH t r) (pH t row)
  .rw[if_pos ⟨g,rfl⟩,show(false||decide (0<=eZ (pH t r) (pH t row)))=true by simp[g]];by_cases j:eZ (pH t r) (pH t row)=0
   .rw[if_neg (by simp[j])];have e:=lH.1 j
    rw[Qy λx c=>by
     have d:=f x c;rw[e]at d;have:=qH (pH t x) (pH t row);omega]
    exact pairwise_cons.2 ⟨λx c=>by rw[<-e];exact f x c,n⟩
   .rw[if_pos j];have d:eZ (pH t row) (pH t r)<0:=by have:=qH (pH t row) (pH t r);omega
    rw[Qy λx c=>by
     have o:=GW d (f x c);have:=qH (pH t x) (pH t row);omega]
    refine pairwise_cons.2 ⟨λx c=>?_,h⟩;rcases mem_cons.1 c with rfl|c
    .exact d
    .exact GW d (f x c)
  .rw[if_neg (by simp[g]),if_pos aC,show(false||decide (0<=eZ (pH t r) (pH t row)))=false by simp[g]];refine pairwise_cons.2 ⟨λx c=>?_,Qz n⟩;rcases Ph c with rfl|c
   .omega
   grind
theorem Qj{st}(h:jG s st=0):eK s=0/\st.length=s.tables.length/\Qg s st/\(st.map λl=>(l.length:Int)).sum<=512:=by
 unfold jG at h
 grind
theorem bDQ{t x y}(h:x.length=y.length):(pH t x).length=(pH t y).length:=by simp[pH,h]
theorem b0Q{t x y}(h:x.length=y.length)(c:eZ (pH t x) (pH t y)<0):eZ x y<0:=by
 have d:x=pH t x++x.drop (max 0 (min t.key x.length)).toNat:=(take_append_drop _ _).symm;have e:y=pH t y++y.drop (max 0 (min t.key y.length)).toNat:=(take_append_drop _ _).symm;rw[d,e,Mk (bDQ h),if_pos aC];exact c
theorem SL.of{t:AE}:∀{l:ct},(∀(i:Nat) r r',l[i]? =some r->l[i+1]? =some r'->eZ (pH t r) (pH t r')<0)->SL t l
 |[],_=>List.Pairwise.nil
 |[_],_=>pairwise_singleton _ _
 |a::b::l,h=>by
  have d:SL t (b::l):=SL.of λi r r' f g=>h (i+1) r r' f g;refine pairwise_cons.2 ⟨λx c=>?_,d⟩;have e:=h 0 a b rfl rfl;rcases mem_cons.1 c with rfl|c
  .exact e
  .exact GW e ((pairwise_cons.1 d).1 x c)
theorem SL.adj{t l}(h:SL t l) i r r'(c:l[i]? =some r)(d:l[i+1]? =some r'):eZ (pH t r) (pH t r')<0:=by
 obtain⟨e,rfl⟩:=List.getElem?_eq_some_iff.1 c;obtain⟨f,rfl⟩:=List.getElem?_eq_some_iff.1 d;exact pairwise_iff_getElem.1 h i (i+1) e f aC
theorem WJ{t:ByteArray}(h:t.toList=(⟨#[]⟩:ByteArray).toList):t.size<=64:=by rw[Dd h];decide
theorem JX{t}(h:Hu t=true):t.size<=64:=WJ (by simp only[Hu,beq_iff_eq]at h;rw[h,ByteArray.toList_eq])
theorem N8{v}(h:kG v=true):v.text.size<=64:=by
 unfold kG at h;split at h
 .simp only[bz]at h;exact JX h.2
 .split at h
  .simp only[bz]at h;exact JX h.2
  .split at h
   .exact JX h
   grind
theorem BP{q}(h:(gH s ps q).2=0):eK s=0/\ps.all gS=true/\pY q=true/\(aK s ps q).2=0:=by
 unfold gH at h;split at h
 .rename_i c;split at h
  .rename_i d;split at h
   .grind
   .simp[eF]at h
  .simp[eF]at h
 .rename_i c;simp[eF]at h;omega
theorem N9{v}(h:kG v=true):1<=v.kind/\v.kind<=5/\v.text.size<=64:=by
 refine⟨?_,?_,N8 h⟩
 all_goals
  unfold kG at h;split at h
  .rename_i e;simp at e;omega
  .split at h
   .rename_i e;simp at e;omega
   .split at h
    .rename_i e;simp at e;omega
    .split at h
     .rename_i e;simp at e;omega
     .cases h
theorem VW{t r}(h:Fi t r=true):r.length=t.columns.length/\∀v∈r,kG v=true:=by
 simp only[Fi,bz,ce,all_eq_true,mem_range]at h;refine⟨h.1,λv e=>?_⟩;obtain⟨i,c,rfl⟩:=mem_iff_getElem.1 e;have d:=h.2 i c;simp only[Cf,bz,getD_eq_getElem?_getD,bn c,Option.getD_some]at d;exact d.1
theorem ceQ{t l}(u:t.columns.length<=12)(c:aGQ t l)(g:∀r∈l,∀v∈r,u7 v.kind/\u7 v.int)(j:l.length<=8000000):iL t.columns.length l:=by
 have n:∀r∈l,r.length=t.columns.length:=λr d=>(VW (c.1 r d)).1;refine⟨λr d=>⟨bg,λv e=>?_⟩,n,?_,j⟩
 .have o:=(VW (c.1 r d)).2 v e;have f:=g r d v e;exact⟨f.1,f.2,(N9 o).2.2⟩
 .exact(SL.of c.2).imp_of_mem fun{x y} e z h=>b0Q bg h
def iX(st:List ct)(q:Query):=(cD q).map λt=>st.getD t.toNat []
theorem Zv{s st}{t:Int}(c:jG s st=0)(n:StV st)(o:0<=t)(D:t<s.tables.length):iL (jB s t).length (st.getD t.toNat [])/\st.getD t.toNat []∈st:=by
 obtain⟨u,E,y,F⟩:=Qj c;have f:t.toNat<s.tables.length:=by omega
 have g:t.toNat<st.length:=by omega
 have j:s.tables[t.toNat]? =some s.tables[t.toNat]:=bn f;have z:st[t.toNat]? =some st[t.toNat]:=bn g;have A:st.getD t.toNat []=st[t.toNat]:=bg
 have d:st[t.toNat]∈st:=getElem_mem g;have G:=AI u _ (getElem_mem f);have B:(jB s t).length=s.tables[t.toNat].columns.length:=by rw[jB,if_neg aC,j];simp
 have e:∀{l:List ct}{x},x∈l->((x.length:Nat):Int)<=(l.map λl=>(l.length:Int)).sum:=fun{l x}=>by
  induction l with
  |nil=>grind
  |cons a l C=>
   intro h
   have o:∀l:List ct,0<=(l.map λl=>(l.length:Int)).sum:=λl=>by
    induction l with
    |nil=>simp
    |cons a l C=>grind
   grind
 have:=e d;rw[A,B];exact⟨ceQ aC (y _ _ _ j z) (n _ d) aC,d⟩
theorem Ex{st q ks c}(d:jG s st=0)(o:StV st)(A:∀l∈st,l.length<=c)(u:1<=c)(e:aK s ps q=(ks,0))(g:gP c q<=8000000):
 ZG (iX st q) q 0/\(fN (iX st q) q 0).1=eA st q/\iL ks.length (eA st q)/\(eA st q).length<=8000000:=by
 have z:∀(j:Nat)(t:Int),(cD q)[j]? =some t->(iX st q)[0+j]? =some (st.getD t.toNat []):=λj t h=>by rw[Nat.zero_add,iX,getElem?_map,h];rfl
 have x:=HT u (ls:=iX st q) (k:=0) e ⟨λj t h=>⟨_,z j t h,by
  have n:=Dm e t (bo h);have:=Zv d o n.1 n.2
  grind⟩⟩ g
 have y:=NN (st:=st) (ls:=iX st q) (k:=0) e ⟨λj t h=>bg⟩;have f:(fN (iX st q) q 0).1=eA st q:=by rw[y]
 refine⟨x.ok,f,by rw[<-f];exact x.rel,?_⟩;rw[<-f];exact cj x.bnd g
def aPl(p r:Sl):CV:=.val (.agg ⟨[.slice p.a p.len p.cap,.slice r.a r.len r.cap]⟩)
theorem cQ.keep{r}(c:Sub m m')(le:PH.le h h')(d:K r m h):cQ h K r m' h':=
 λ_=>⟨m,h,c,.refl _,λb i v e=>.inl (le.le b i v e),d⟩
def cdX(q:Query):Prop:=
 match q with
 |.mk op _ _ _ _ _ _ _ args=>(args.length:Int)=arity op/\∀a∈args,cdX a
 termination_by SizeOf.sizeOf q
theorem b0Z{op w on args}:
 cdX (.mk op ta w co on gr od li args)↔(args.length:Int)=arity op/\∀a∈args,cdX a:=by rw[cdX.eq_def]
theorem Fv op:arity op<=2:=by
 unfold arity;omega
theorem QB{α}{l:List α}{c}(h:l<+:c){x}(hx:l[i]? =some x):c[i]? =some x:=by
 obtain⟨r,rfl⟩:=h
 grind
end Go.Ps
