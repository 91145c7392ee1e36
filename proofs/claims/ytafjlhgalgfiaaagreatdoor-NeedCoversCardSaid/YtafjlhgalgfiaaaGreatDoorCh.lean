/- Own work. -/
import Derived.Test.YtafjlhgalgfiaaaGreatDoorCg
set_option linter.unusedVariables false
set_option linter.unusedSimpArgs false
namespace Go.Ps
open Go Go.Vc Go.Proofs List Tryz
variable{K:bo}{m:MH}{h:PH}{s:jQ}{ps:bn}{ts:cg}{cb:Nat}{sc:bZ}{v:QV}{t:Step}{p:Pred}{l:bn}{i:Nat}{N:Nat}{m':MH}{h':PH}{co:bn}{gr:bn}{od:bz}{ta:Int}{li:Int}{xs:List bt}{sz:Nat}{ks:List bn}{rs:bn}{r:Sl}{a:bn}{b:Nat}
noncomputable def bCX:Ctx:=Vl [(252,VH),(71,bjQ)] [(3,{A:=Nat×Sl×Nat×MH×PH,st:=λ⟨b,s,r,m,h⟩=>bU 29 31 [(2,vv (.pointer (some ⟨b,0,none⟩))),(5,sv s),(13,vv (.pointer (some ⟨r,0,none⟩)))] [] m h})] [(5,{A:=Nat×Sl×Sl×Nat×MH×PH,st:=λ⟨b,s,g,r,m,h⟩=>bU 29 31 [(2,vv (.pointer (some ⟨b,0,none⟩))),(5,sv s),(7,sv g),(13,vv (.pointer (some ⟨r,0,none⟩)))] [] m h})] [200002,1058,0]
abbrev H8(a b:cr)(c:PH)(d:Sl)(e:bn)(g i:Prop)(j:Nat)(k:br)(l:MH)(n:Nat->MH->PH->cj->(ByteArray->br)->Prop):Prop:=aA (a=b) (Ints c d e) (aA g i (aI (iG j k) (jM j e) (eA l) (∀(x:Nat),eT (λf o=>∀(u:cj)(y:ByteArray->br),n x f o u y))))
abbrev HU(a:MH)(b:Nat)(c:MH)(d:Prop):Prop:=bG (F9 a b) (∀(x:Nat),mK (x=b)->c x=a x) d
abbrev Ig(a:Nat×Sl×Nat×MH×PH):Nat:=a.2.2.1
abbrev DU(a:Nat×Sl×Sl×Nat×MH×PH):Sl:=a.2.2.1
abbrev xF(a:Nat×Sl×Sl×Nat×MH×PH):Nat×MH×PH:=a.2.2.2
abbrev oI(a:Sl)(b:Int):Int:=ite (aH a<b) (aH a) b
attribute [push_cast] H8 HU Ig DU xF oI
def MG(v:QV)(t:Sl)(m:MH)(h:PH)(K:bo):Prop:=
  ∀(b:Nat)(j:MH),bG (cF m h b) (bK m j b v.enc 41) (∃(y:QV),aK j h b 0 y.enc/\bJ (λA o=>aI (aW t.a A o) ((0:Int)<=0) (0<aH t) (∃(B:Nat),aK j h A (o+0) (yP B)/\∃(D:QV)(u:Nat),Qi (λg G=>∃(l:br)(w:Nat),H8 (tO (cA y) (uB B)) (tO (cA D) (uB u)) h D.group g (jB h D.order G) (RZ h u l) w l j (λE n e k M=>HU j E n (bQ h e (sB fD n e E g G l k M) (aA (aK n e b 0 y.enc) (aK n e A (o+0) (yP B)) (Kw n E e (λr F=>aA (aK F e b 0 y.enc) (aK F e A (o+0) (yP B)) (∃(I:Nat×Sl×Nat×MH×PH->Prop)(H:Nat×Sl×Nat×MH×PH->Nat),(∃(x:Nat×Sl×Nat×MH×PH),aA (I x) (dM b x.1) (aA (sQn=sQs x.2.1) (dM r (Ig x)) (aA (dJ F x.2.2.2) (fC
 e x.2.2.2) True)))/\∀(x:Nat×Sl×Nat×MH×PH),Kv (I x) (oT x.2.2) (Ig x) (∃(s:Sl),FB x.2.1 s (oT x.2.2) (kV x.2.2) K) (λJ=>∃(I1:Nat×Sl×Sl×Nat×MH×PH->Prop),Qb (λO P Q c=>D8 J O (Ig x) P Q c/\∃(d:Nat×Sl×Sl×Nat×MH×PH),aA (I1 d) (dM x.1 d.1) (aA (aZ x.2.1 d.2.1) (SV.at (At.val c.2)=sQs (DU d)) (aI (dM (Ig x) (xF d).1) (dJ J (xF d).2) (dA x.2.2.2 (xF d).2) True)))/\∀(c:Nat×Sl×Sl×Nat×MH×PH),I1 c->∃(C:Int),aI (aK (oT (xF c)) (kV (xF c)) c.1 19 (bB C)) (0<=oI (DU c) C) (oI (DU c) C<=(↑(DU c).cap:Int)) (∃(d:List bt),Fs (cT (oT (xF c)) (dN c.2.1) 65 1 d) (λz=>aA (fN 1 z) (uN (oT
 (xF c)) (kV (xF c)) (Sl.mk (DU c).a (oI (DU c) C).toNat (DU c).cap) 1 z) (aA (sL d z 24) (sM d z) (jU (λs L=>fY (oT (xF c)) L (dN c.2.1) s 65 1 (d++z)->∃(f:Nat×Sl×Nat×MH×PH),aA (I f) (H f<H x) (aA (dM c.1 f.1) (aZ s f.2.1) (aI (dM (xF c).1 (Ig f)) (dJ L f.2.2.2) (dA (xF c).2 f.2.2.2) True))))))))))))))))))
theorem M9{w:Nat}:∀{od:bz}{a b:ca},LF w od a b=0->a=b
 |[],_,_,h=>lB.1 h
 |(c,d)::r,a,b,h=>by
  rw[LF]at h;generalize (if d then-oZ (a.getD c.toNat zeroV) (b.getD c.toNat zeroV)else oZ (a.getD c.toNat zeroV) (b.getD c.toNat zeroV))=x at h;split at h
  .split at h
   .omega
   .exact M9 h
  .exact M9 h
theorem EX{w:Nat}{od:bz}{a b:ca}(c:a.length=w)(d:b.length=w):lE od a b= -lE od b a:=by
 rw[D2 c d,D2 d c];exact(LD w od).anti a b
theorem bhQ{w:Nat}{a b:ca}(c:a.length=w)(d:b.length=w)(h:lE od a b=0):a=b:=by
 rw[D2 c d]at h;exact M9 h
theorem Nv{w:Nat}{od:bz}{x:ca}:∀{G:br}{n:Nat},tF od G->(∀r∈G,r.length=w)->G.Nodup->(x∈G.take n↔x∈G/\(G.countP λy=>decide (lE od y x<0))<n)
 |[],n,_,_,_=>ay
 |a::G,0,_,_,_=>ay
 |a::G,n+1,g,j,o=>by
  have g:=pairwise_cons.1 g;have o:=nodup_cons.1 o;have z:=Nv (x:=x) (G:=G) (n:=n) g.2 (λr A=>j r (mem_cons_of_mem _ A)) o.2;have c:=j a (mem_cons_self ..);rw[take_succ_cons,mem_cons,z,mem_cons,countP_cons];by_cases u:x=a
  .subst u;have B:¬lE od x x<0:=by have:=EX (od:=od) c c;omega
   have C:(G.countP λy=>decide (lE od y x<0))=0:=countP_eq_zero.2 λy D=>bg
   grind
  .by_cases d:x∈G
   .have f:=j x (mem_cons_of_mem _ d);have B:=g.1 x d;have C:=EX (od:=od) c f;have E:lE od a x≠0:=λe=>u (bhQ c f e).symm
    grind
   grind
theorem RO{l:br}(h:lN l):l.Nodup:=by
 rw[nodup_iff_pairwise_ne];exact h.imp fun{a b} c e=>by subst e;have:=Hq.anti a a;omega
def JX(gr:bn)(x y:ca):Bool:=eW (pick x gr) (pick y gr)==0
theorem aQQ{gr:bn}{x y:ca}:JX gr x y=true↔pick x gr=pick y gr:=by
 simp only[JX,beq_iff_eq,lB]
def z8(gr:bn)(od:bz)(li:Int)(a b:br):br:=a.filter λx=>decide (((b.countP λy=>JX gr x y&&decide (lE od y x<0):Nat):Int)<li)
def Wo(q:Query)(ls:List br):br:=match q with|.mk _ _ _ _ _ gr od li _=>z8 gr od li (ls.getD 0 []) (ls.getD 0 [])
def Md(q:Query)(ls:List br):Prop:=match q with|.mk _ _ _ _ _ gr _ li _=>1<=ls.length/\(∃w,iG w (ls.getD 0 [])/\jM w gr)/\0<=li
theorem buX{κ:ca->ByteArray}(e:asQ κ){w:Nat}{l:br}(c:iG w l)(f:jM w gr){x y:ca}(hx:Ot x)(g:x.length=w)(d:y∈l):κ (pick y gr)=κ (pick x gr)↔JX gr x y=true:=by
 rw[aQQ];have:=e.inj (a:=pick y gr) (b:=pick x gr) (by simp[pick]) (J5 (c.row y d) (by rw[c.wid y d];exact f)) (J5 hx bg)
 grind
theorem Hf{κ:ca->ByteArray}(c:asQ κ){w:Nat}{l:br}(d:iG w l)(e:jM w gr){x:ca}(hx:Ot x)(f:x.length=w):
 ((mD κ gr l (κ (pick x gr))).countP λy=>decide (lE od y x<0))=l.countP λy=>JX gr x y&&decide (lE od y x<0):=by
 rw[mD,countP_filter];refine countP_congr λy g=>?_;have j:=buX c d e hx f g
 grind
theorem Yk{α:Type}{p q:α->Bool}:∀{l:List α},(∀x∈l,¬(p x=true/\q x=true))->l.countP p+l.countP q=l.countP λx=>p x||q x
 |[],_=>rfl
 |a::l,h=>by
  have d:=Yk (l:=l) λx c=>h x (mem_cons_of_mem _ c)
  grind
theorem aWZ{κ:ca->ByteArray}(z:asQ κ){y w:Nat}{l:br}{kk:cj}{g:ByteArray->br}(e:sB κ m h y gr od l kk g)(c:iG w l)(d:jM w gr)(A:0<=li)(x:ca):
 x∈z8 gr od li l l↔∃p∈kk,x∈(g p.1).take li.toNat:=by
 have B:∀k r,r∈g k->r∈l/\κ (pick r gr)=k:=λk r n=>by
  have:=(e.perm k).mem_iff.1 n;simpa[mD]using this
 have C:∀k,(g k).Nodup:=λk=>(e.perm k).nodup_iff.2 ((RO c.srt).sublist filter_sublist);have D:∀k,x∈(g k).take li.toNat↔x∈g k/\((g k).countP λy=>decide (lE od y x<0))<li.toNat:=λk=>Nv (e.sort k) (λr n=>c.wid r (B k r n).1) (C k)
 have E:x∈l->((g (κ (pick x gr))).countP λy=>decide (lE od y x<0))=l.countP λy=>JX gr x y&&decide (lE od y x<0):=λj=>by
  rw[(e.perm _).countP_eq];exact Hf z c d (c.row x j) (c.wid x j)
 rw[z8,mem_filter];constructor
 .rintro⟨j,u⟩;have u:=of_decide_eq_true u;have f:x∈g (κ (pick x gr)):=(e.perm _).mem_iff.2 (by simp[mD,j])
  have o:κ (pick x gr)∈kk.map Prod.fst:=by
   by_cases o:κ (pick x gr)∈kk.map Prod.fst
   .exact o
   .rw[e.none_ _ o]at f;cases f
  grind
 grind
open Classical in
structure Gr(κ:ca->ByteArray)(gr:bn)(li:Int)(l:br)(kk:cj)(g:ByteArray->br)(left:cd)(acc:br):Prop where
 mem:∀x,x∈acc↔∃p∈kk,(Value.string p.1,dP p.2)∉left/\x∈(g p.1).take li.toNat
 cnt:acc.length+(l.countP λz=>decide (Value.string (κ (pick z gr))∈left.map Prod.fst))<=l.length
open Classical in
theorem Gr.start{κ:ca->ByteArray}{gr:bn}{li:Int}{l:br}{kk:cj}{g:ByteArray->br}:Gr κ gr li l kk g (kk.map λp=>(Value.string p.1,dP p.2)) []:=by
 refine⟨λx=>⟨λe=>(by cases e),?_⟩,?_⟩
 .grind
 grind
theorem aUQ{kk:cj}(c:(kk.map Prod.fst).Nodup):(kk.map λp=>(Value.string p.1,dP p.2)).Nodup:=by
 grind
open Classical in
theorem Gr.step{κ:ca->ByteArray}{m F:MH}{h:PH}{y G r:Nat}{gr:bn}{od:bz}{li:Int}{l f:br}{kk:cj}{g:ByteArray->br}{left d e:cd}{c:ByteArray×Sl}(st:Gr κ gr li l kk g left f)(o:sB κ m h y gr od l kk g)(j:mE F G r (kk.map λp=>(Value.string p.1,dP p.2)) left)(u:c∈kk)(A:left=d++(Value.string c.1,dP c.2)::e):
 Gr κ gr li l kk g (d++e) (f++(g c.1).take li.toNat):=by
 have B:=mE.nodup j (aUQ o.nodup);rw[A]at B
 have E:(Value.string c.1,dP c.2)∉d++e:=λh=>by
  grind
 have C:∀x∈d++e,x∈left:=λx h=>bg
 refine⟨λx=>?_,?_⟩
 .rw[mem_append,st.mem]
  grind
 .have H:Value.string c.1∉(d++e).map Prod.fst:=λh=>by
   obtain⟨z,D,n⟩:=mem_map.1 h;obtain⟨p,I,rfl⟩:=mem_map.1 (mE.mem j (C _ D));simp only[Value.string.injEq]at n;have:=U9 o.nodup I u n
   grind
  have L:=Yk (l:=l) (p:=λz=>decide (Value.string (κ (pick z gr))∈(d++e).map Prod.fst)) (q:=λz=>decide (κ (pick z gr)=c.1)) (λz _⟨M,O⟩=>by
   grind)
  have P:(l.countP λz=>decide (Value.string (κ (pick z gr))∈(d++e).map Prod.fst)||decide (κ (pick z gr)=c.1))=l.countP λz=>decide (Value.string (κ (pick z gr))∈left.map Prod.fst):=by
   grind
  have Q:(mD κ gr l c.1).length=l.countP λz=>decide (κ (pick z gr)=c.1):=by rw[mD,countP_eq_length_filter]
  have J:=(o.perm c.1).length_eq;have:=st.cnt;rw[length_append,length_take];omega
theorem Gr.done{κ:ca->ByteArray}(j:asQ κ){y w:Nat}{l e:br}{kk:cj}{g:ByteArray->br}(st:Gr κ gr li l kk g [] e)(n:sB κ m h y gr od l kk g)(c:iG w l)(d:jM w gr)(f:0<=li):z8 gr od li l l=Eb e:=
 UF (c.srt.sublist filter_sublist) λx=>by rw[aWZ j n c d f,st.mem];simp
theorem Wk{h:PH}{s:Sl}{l:br}{li:Int}(f:Rows h s l)(g:0<=li):(0<=if(s.len:Int)<li then(s.len:Int)else li)/\(if(s.len:Int)<li then(s.len:Int)else li)<=s.cap/\∃us:bx,dC h ⟨s.a,(if(s.len:Int)<li then(s.len:Int)else li).toNat,s.cap⟩ 1 (us.map eS)/\eX h us (l.take li.toNat)/\us.length<=l.length:=by
 obtain⟨⟨c,d,n,o⟩,_⟩:=f;have u:s.len=c.length:=by have:=d.len;grind
 have y:((if(s.len:Int)<li then(s.len:Int)else li).toNat)=min c.length li.toNat:=by omega
 have e:=d.cap;refine⟨aC,aC,c.take (min c.length li.toNat),?_,⟨bg,λj x z=>?_⟩,bf⟩
 .rw[y,map_take];exact dC.cut d _ bf
 grind
theorem ZE:bm 222 (VS Md Wo):=by
 refine I6 func222 ?_;rintro c7 m h K ⟨v,t,q,bs,ls,rfl,hq,ha,hT,a9,hK⟩;refine⟨bCX,rfl,aE QT (aE ET aG),MG v t m h (cN h K),ax,?_⟩;show MG v t m h (cN h K);dsimp only[MG,push_cast];obtain⟨op,ta,w,co,on,gr,od,li,args⟩:=q;obtain⟨c8,⟨wd,f,A⟩,W⟩:=a9;intro b m1 b0 X;obtain⟨s1,n1⟩:=iT (Sub.refl m) b0 X;have b2:m1 b=some (.cells ⟨v.enc⟩ 41 (0,0)):=X.at_;obtain⟨b1,b3,x,ea,c9,rd,sq⟩:=ha.get (GJ (i:=0) aC);simp only[Wo]at hK;generalize ls.getD 0 []=l at hK f sq;have d':=f.len;refine⟨v,.of_m b2 (take_length ..),b1,b3,ea,aC,aC,x,.imm rd,v,x,gr,od,l,wd,rfl,hq.parts.group_,hq.parts.order_,sq,f,A,hT.sub s1,λy m2 h2 kk g hy Y G U=>?_⟩;have yb:b≠y:=λe=>bg
 have Z:m2 b=some (.cells ⟨v.enc⟩ 41 (0,0)):=bg
 have s2:Sub m m2:=λz o e=>by rw[Y z (λH=>by have:=s1 z o e;grind)];exact s1 z o e
 refine⟨.of_m Z (take_length ..),.imm (rd.mono G),_,U.map_,λr F I a' it=>?_⟩;have rb:b≠r:=λe=>by have:=I.m_;grind
 have b4:F b=some (.cells ⟨v.enc⟩ 41 (0,0)):=by rw[a'.other b rb];exact Z
 have s3:Sub m F:=λz o e=>by
  have:=s2 z o e;rw[a'.other z (λH=>by rw[H,I.m_]at this;cases this)];exact this
 classical
 have b5:∃o,F y=some o:=by obtain⟨es,c,d,B,c0,P,_⟩:=it.ex;grind
 have a0:∃o,F r=some o:=by obtain⟨es,c,d,B,c0,P,i2,i3,i4,i5,_⟩:=it.ex;grind
 have yr:y≠r:=λe=>by
  obtain⟨es,c,P,_⟩:=U.map_;rw[e,I.m_]at P;cases P
 refine⟨.of_m b4 (take_length ..),.imm (rd.mono G),λz=>z.1=b/\z.2.2.1=r/\z.2.2.2.2=h2/\(∀x o,F x=some o->x≠r->z.2.2.2.1 x=some o)/\∃left Q u,mE z.2.2.2.1 y r (kk.map λp=>(Value.string p.1,dP p.2)) left/\cT z.2.2.2.1 z.2.1 65 1 (Q.map eS)/\(∀x i,z.2.1.a=some ⟨x,i,none⟩->F x=none)/\eX h2 Q u/\Gr fD gr li l kk g left u,λz=>leftOf z.2.2.2.1 z.2.2.1,⟨(b,⟨none,0,0⟩,r,F,h2),⟨rfl,rfl,rfl,λx o e _=>e,_,[],[],it,⟨Bt [],.inl ⟨rfl,rfl⟩⟩,(λx i e=>by cases e),eX.nil _,.start⟩,MT⟩,?_⟩
 .rintro⟨b',s,J,mz,hz⟩ ⟨e1,H,e3,R,left,Q,u,C,D,b6,L,rk⟩;dsimp only at e1 H e3 R C D b6 L rk⊢
  subst e1 H e3;have c5:u.length<=l.length:=by have:=rk.cnt;omega
  have d0:=L.len;refine⟨y,_,left,C,λS=>?_,λl1 x1 l2 a1 m4 M O=>?_⟩
  .subst S;refine⟨s,Q,u,rfl,D.src,L,aC,λs' h' a2 b7=>cN.sub (λz o e=>R z o (s3 z o e) (λH=>?_)) (G.trans a2) (hK s' h' (G.trans a2) ?_)⟩
   .have:=s2 z o e;rw[H,I.m_]at this;cases this
   .rw[rk.done Qt U f A W];exact b7
  .have b8:x1∈left:=bg
   obtain⟨V,a3,rfl⟩:=mem_map.1 (mE.mem C b8);have n:∀{x},(∃o,F x=some o)->∀i,s.a≠some ⟨x,i,none⟩:=fun{x}⟨o,ho⟩ i e=>bg
   have b9:m4 b'=some (.cells ⟨v.enc⟩ 41 (0,0)):=by rw[M.other b' rb];grind
   have T:cT m4 s 65 1 (Q.map eS):=cT.keep D λx i e=>M.other x λH=>n a0 i (H▸e);refine⟨λc=>c=(b',s,V.2,J,m4,hz),⟨y,_,_,_,O,⟨(b',s,V.2,J,m4,hz),rfl,rfl,rfl,rfl,rfl,rfl,rfl,trivial⟩⟩,?_⟩;rintro c rfl;dsimp only;have a4:v.limit=li:=hq.parts.limit_;obtain⟨c1,c2,a5,c',c3,d1⟩:=Wk (li:=li) (U.rows V a3) W;have d2:=(U.perm V.1).length_eq;have c6:(mD fD gr l V.1).length<=l.length:=length_filter_le _ _;refine⟨li,.of_m b9 (by rw[<-a4];rfl),c1,c2,Q.map eS,T,a5.map eS,Bt _,.imm c',bf,bf,λs' m5 E=>?_⟩
   .have a6:∀x o,F x=some o->x≠J->m5 x=some o:=λx o e c4=>E.other x o (by rw[M.other x c4];grind) (n ⟨o,e⟩)
    have a7:mE m5 y J (kk.map λp=>(Value.string p.1,dP p.2)) (l1++l2):=by
     obtain⟨es,c,d,B,c0,P,i2,i3,i4,i5,_⟩:=O.it.ex;exact mE.keep O.it (by rw[P];exact E.other y _ P (n b5)) (by rw[i5];exact E.other J _ i5 (n a0))
    refine⟨(b',s',J,m5,hz),⟨rfl,rfl,rfl,a6,_,Q++a5,u++(g V.1).take li.toNat,a7,?_,λx i e=>?_,L.app c3,rk.step U C a3 a1⟩,?_,rfl,rfl,rfl,rfl,rfl,trivial⟩
    .rw[map_append];exact E.row
    .rcases E.fresh x i e with h5|⟨j,h5⟩
     .cases e6:F x with
      |none=>rfl
      |some o=>
       by_cases a8:x=J
       .obtain⟨es,c,d,B,c0,P,i2,i3,i4,i5,_⟩:=O.it.ex
        grind
       .rw[M.other x a8,R x o e6 a8]at h5;cases h5
     grind
    .show leftOf m5 J<leftOf mz J;rw[mE.left_ a7,mE.left_ C,a1];simp
def aHZ:Vc.Spec:=λc m h K=>∃(n d e f:Nat)(v:QV)(od:bz)(g s:Sl)(rs:br)(r:ca)(w:Nat),c=[cI n,.val (.func (.func 253) #[] #[.pointer (some ⟨d,0,none⟩),.pointer (some ⟨e,0,none⟩),.pointer (some ⟨f,0,none⟩)])]/\
 m d=some (.cells ⟨QV.enc v⟩ 41 (0,0))/\m e=some (.cells #[Sl.val g] 58 (0,0))/\m f=some (.cells #[Sl.val s] 65 (0,0))/\jB h v.order od/\Rows h g rs/\bS h s r/\rs.length=n/\tF od rs/\(∀x∈rs,x.length=w)/\r.length=w/\
 K (cI ((rs.countP λy=>decide (lE od y r<0):Nat):Int)) m h
noncomputable def bCQ:Ctx:=Vl [(252,VH),(248,bYQ),(108,aHZ)] [] [(2,{A:=Sl×Nat×Nat×MH×PH,st:=λ⟨t,b,c,m,h⟩=>bU 38 40 [(1,sv t),(2,vv (.pointer (some ⟨b,0,none⟩))),(5,vv (.pointer (some ⟨c,0,none⟩)))] [] m h}),
 (6,{A:=Nat×Nat×Nat×Nat×MH×PH,st:=λ⟨b,o,e,g,m,h⟩=>bU 38 40 [(2,vv (.pointer (some ⟨b,0,none⟩))),(6,vv (.pointer (some ⟨o,0,none⟩))),(7,vv (.pointer (some ⟨e,0,none⟩))),(8,vv (.pointer (some ⟨g,0,none⟩)))] [] m h})] [200002,200005,200006,200007,200008,1058,400000,0]
abbrev xG(a:Sl×Nat×Nat×MH×PH):Nat:=a.2.2.1
abbrev Fw(a:MH)(b:Nat)(c:(Array Value)->bt)(d:MH->(Nat×Nat×Nat×Nat×MH×PH)->Prop):Prop:=jN (λx e=>aA (yA a b (gG x e 0)) (0<x.size) (∀(f:MH),bK a f b (c x) e->∃(g:Nat×Nat×Nat×Nat×MH×PH),d f g))
abbrev FF(a:Nat×Nat×Nat×Nat×MH×PH->Prop)(b:Nat×Nat×Nat×Nat×MH×PH)(c:Sl×Nat×Nat×MH×PH)(d e g:Nat)(i:MH)(j:PH):Prop:=aA (a b) (dM c.2.1 b.1) (aA (dM d b.2.1) (dM e (gR b.2)) (aI (dM g (gQ b.2)) (dJ i (iJ b.2)) (fC j (iJ b.2)) True))
abbrev Jq(a:Sl->Sl->br->ca->Prop):Prop:=qP (λx c=>∃(d:br)(e:ca),a x c d e)
abbrev HW(a:br)(b:ca->Prop):Prop:=∀(x:ca),List.Mem x a->b x
attribute [push_cast] xG Fw FF Jq HW
def MF(v:QV)(t:Sl)(m:MH)(h:PH)(K:bo):Prop:=
  ∀(b:Nat)(R:MH),bG (cF m h b) (bK m R b v.enc 41) (∃(I:Sl×Nat×Nat×MH×PH->Prop),(∃(y:QV),aK R h b 0 y.enc/\bJ (λH o=>aI (aW t.a H o) ((0:Int)<=1) (1<aH t) (∃(C:Nat),aA (aK R h H (o+1) (yP C)) (∃(Q:QV)(u:Nat),Qi (λg W=>∃(l:br)(w:Nat),H8 (tO (cA y) (uB C)) (tO (cA Q) (uB u)) h Q.group g (jB h Q.order W) (RZ h u l) w l R (λD J d k X=>HU R D J (bQ h d (sB fD J d D g W l k X) (aA (aK J d b 0 y.enc) (aK J d H (o+1) (yP C)) (∀(j:Nat)(F:MH),bG (cF J d j) (bK J F j (oN Em) 160) (jN (λc E=>aA (yA F j (gG c E 0)) (0<c.size) (∀(T:MH),bK F T j (fA (C8 D) 1 c) E->∃(x:Sl×Nat×Nat×MH×PH),aA (I x) (aZ t x.1)
 (aA (dM b x.2.1) (dM j (xG x)) (aA (dJ T x.2.2.2) (fC d x.2.2.2) True))))))))))) (aA (aK R h b 0 y.enc) (aK R h H (o+1) (yP C)) (∀(j:Nat)(J:MH),bG (cF R h j) (bK R J j (oN Em) 160) (∃(Q:QV)(u:Nat),Qi (λg W=>∃(l:br)(w:Nat),H8 (tO (cA y) (uB C)) (tO (cA Q) (uB u)) h Q.group g (jB h Q.order W) (RZ h u l) w l J (λD F d k X=>HU J D F (bQ h d (sB fD F d D g W l k X) (jN (λc E=>aA (yA F j (gG c E 0)) (0<c.size) (∀(T:MH),bK F T j (fA (C8 D) 1 c) E->∃(x:Sl×Nat×Nat×MH×PH),aA (I x) (aZ t x.1) (aA (dM b x.2.1) (dM j (xG x)) (aA (dJ T x.2.2.2) (fC d x.2.2.2) True))))))))))))))/\∀(x:Sl×Nat×Nat×MH×PH),I x->∀(H:Nat)(J:
 MH),bG (cF (oT x.2.2) (kV x.2.2) H) (bK (oT x.2.2) J H fW 58) (AN x.1.a 0 0 x.1 J (kV x.2.2) 0 (λy S=>w8 S (kV x.2.2) y J (λx1 I1 k e=>eT (λF d=>bG (CD x1 k e) (PH.le (kV x.2.2) d) (I1 k F d->∀(j:Nat)(T:MH),bG (cF F d j) (bK F T j fW 65) (jN (λc E=>aA (yA T j (gG c E 0)) (0<c.size) (∀(z:MH),bK T z j (fA (dP e) 1 c) E->∃(I2:Nat×Nat×Nat×Nat×MH×PH->Prop),(∃(C:Nat),aK z d (xG x) 0 (oA C)/\∃(D:Sl),aK z d j 0 (aR D)/\∃(G:Sl),aA (aK z d x.2.1 17 (aR G)) (aK z d (xG x) 0 (oA C)/\∃(s:Sl),DI D G s d z (xG x) C (λr M=>aA (aK z d j 0 (aR D)) (aK z d x.2.1 17 (aR G)) (sV z C (λO=>O (dQ r M)) (dQ r M)
 (aI (dK z d (xG x) C) (aK z d j 0 (aR D)) (aK z d x.2.1 17 (aR G)) (∀(A:Nat)(B:MH),bG (cF z d A) (bK z B A fW 58) (Fw B A (λP=>fA oM 1 P) (λL f=>FF I2 f x H j A L d)))) (λU=>aI (dK z d (xG x) C) (aK z d j 0 (aR D)) (aK z d x.2.1 17 (aR G)) (∀(A:Nat)(B:MH),bG (cF z d A) (bK z B A fW 58) (Fw B A (λP=>fA (dP U) 1 P) (λL f=>FF I2 f x H j A L d)))))) (λr M=>aI (dK z d (xG x) C) (aK z d j 0 (aR D)) (aK z d x.2.1 17 (aR G)) (∀(A:Nat)(B:MH),bG (cF z d A) (bK z B A fW 58) (aA (aK B d j 0 (aR D)) (aK B d x.2.1 17 (aR G)) (sV B C (λO=>O (dQ r M)) (dQ r M) (Fw B A (λP=>fA
 oM 1 P) (λL f=>FF I2 f x H j A L d)) (λU=>Fw B A (λP=>fA (dP U) 1 P) (λL f=>FF I2 f x H j A L d))))))) (aA (dK z d (xG x) C) (aK z d j 0 (aR D)) (aK z d x.2.1 17 (aR G)/\∀(A:Nat)(B:MH),bG (cF z d A) (bK z B A fW 58) (aK B d (xG x) 0 (oA C)/\∃(s:Sl),DI D G s d B (xG x) C (λ_ _=>aK B d j 0 (aR D)) (λr M=>aK B d x.2.1 17 (aR G)/\sV B C (λO=>O (dQ r M)) (dQ r M) (Fw B A (λP=>fA oM 1 P) (λL f=>FF I2 f x H j A L d)) (λU=>Fw B A (λP=>fA (dP U) 1 P) (λL f=>FF I2 f x H j A L d)))))))/\∀(f:Nat×Nat×Nat×Nat×MH×PH),I2 f->kS (lH f.2) (jS f.2) (gQ f.2) 0 (λC=>bJ
 (λn A=>bJ (λZ b5=>∃(Q:QV)(o:bz),Jq (λg s r Y=>∃(w:Nat),aA (fQ (aH C) (mJ 253 (Array.mk (bF (R9 f.1 0) (R9 (gQ f.2) 0) (zM (gR f.2)))))=fQ (↑n:Int) (mJ 253 (Array.mk (bF (R9 A 0) (R9 Z 0) (zM b5))))) ((iJ f.2).1 A=Option.some (gG (Array.mk Q.enc) 41 0)) (aA ((iJ f.2).1 Z=Option.some (gG (Array.mk (aR g)) 58 0)) ((iJ f.2).1 b5=Option.some (gG (Array.mk (aR s)) 65 0)) (aA (jB (jS f.2) Q.order o) (Rows (jS f.2) g r) (aA (bS (jS f.2) s Y) (r.length=n) (aI (tF o r) (HW r (λV=>V.length=w)) (Y.length=w) (∃(D:Int),aK (lH f.2) (jS f.2) f.1 19 (bB D)/\aY (↑(countP (fun(G:ca)=>decide (lE o G Y<0)) r):Int) D (FI (lH f.2) (jS f.2)
 f.2.1 0 (λG U=>Fq (lH f.2) (jS f.2) (gR f.2) 0 (aR U) (λV=>aI (cT (lH f.2) (dN G) 65 1 V) (kB V) (dO V) (jU (λs1 B=>fY (lH f.2) B (dN G) s1 65 1 (dL V (aR U))->jN (λM E1=>aA (yA B f.2.1 (gG M E1 0)) (0<M.size) (∀(L:MH),bK B L f.2.1 (fA (dP s1) 1 M) E1->I1 (k+1) L (jS f.2)))))))) (I1 (k+1) (lH f.2) (jS f.2))))))))))))))))) (λF d=>kS F d H 0 (λC=>K (mQ C) F d)))))
theorem Lg{w:World}{q:Nat}{c:Array Obj}(d:b<w.heap.size):(Sort.grow (w.drewN q) c).heap[b]? =w.heap[b]? :=by
 show((w.drewN q).heap++c)[b]? =_;rw[Array.getElem?_append_left (show b<(w.drewN q).heap.size from d)];rfl
theorem Yq{P:Program}{g:Nat}{cs:bt}{m:MH}{h:PH}{S:Vc.Spec}{r:CV}{u:Value}(M:Sound P g S)(O:S (cs.map .val) m h λr' m' h'=>r'=r/\m'=m/\h'=h)(Q:∀w D,IP w r D->D=u){w:World}
 (R:∀b o v,h b o=some v->w.cell? ⟨b,o,none⟩=some v)(Y:∀b o,m b=some o->w.heap[b]? =some o)(T:∀b o,m b=some o->∀i,h b i=none)(E:Nat)(F:Array Obj):
 Calls P g cs.toArray (Sort.grow (w.drewN E) F) λe w'=>e= .returned u/\∃q G,w'=Sort.grow ((Sort.grow (w.drewN E) F).drewN q) G:=by
 obtain⟨W,J⟩:∃W,Sort.grow (w.drewN E) F=W:=⟨_,rfl⟩
 rw[J];have H:∀b,b<w.heap.size->W.heap[b]? =w.heap[b]? :=λb f=>by rw[<-J];exact Lg f
 have y:∀(l:bt)(w:World),Dm w (l.map .val) l:=λl w=>by
  induction l with
  |nil=>trivial
  |cons a l U=>exact⟨rfl,U⟩
 have A:∀(l:bt)(i:Nat)(c:CV)(u:Value)(b:Nat),(l.map CV.val)[i]? =some c->jP c u=some b->False:=λl i c u b n f=>by
  rw[getElem?_map]at n;cases e:l[i]? with
  |none=>grind
  |some v=>rw[e]at n;simp at n;subst n;simp[jP]at f
 have B:CK W m h (cs.map .val) cs:=by
  refine⟨y _ _,?_,?_,T,λi j c d u v b n _ _ _ f _=>(A _ i c u b n f).elim,λi c u b n _ f=>(A _ i c u b n f).elim⟩
  .intro b o v V;have C:=R b o v V;rw[World.cell?_of_block (w:=w) (w':=W) (a:=⟨b,o,none⟩) (H b (World.block_lt_of_cell? w ⟨b,o,none⟩ C))];exact C
  grind
 refine(M.2 _ _ m h W _ O B).mono ?_;rintro e w' ⟨r',D,m',h',rfl,⟨rfl,rfl,rfl⟩,I,z,_⟩;have X:=Q _ _ I;subst X;refine⟨rfl,No z.tape z.os z.output z.drawn z.size (λb f=>?_)⟩;cases L:m' b with
 |none=>
  refine z.frame b f ?_;rintro(C|⟨i,c,u,n,_,Z⟩)
  .exact C L
  grind
 |some o=>rw[z.msat b o L];grind
theorem PI{g:Nat}{S R:Vc.Spec}(V:bm g S)(hR:∀B m h K,R B m h K->∃(n E F G H:Nat)(od:bz)(rs:br)(r:ca),B=[cI n,.val (.func (.func g) #[] #[.pointer (some ⟨E,0,none⟩),.pointer (some ⟨F,0,none⟩),.pointer (some ⟨G,0,none⟩)])]/\rs.length<=502633886983/\rs.length=n/\tF od rs/\(∀x∈rs,x.length=H)/\r.length=H/\
 (∀(i:Nat) x,rs[i]? =some x->S ([.int .i64 i,.pointer (some ⟨E,0,none⟩),.pointer (some ⟨F,0,none⟩),.pointer (some ⟨G,0,none⟩)].map .val) m h λr' m' h'=>r'=cB (decide (lE od x r>=0))/\m'=m/\h'=h)/\K (cI ((rs.countP λy=>decide (lE od y r<0):Nat):Int)) m h):bm 108 R:=by
 refine⟨⟨Tryz.f108,func108,rfl,az⟩,?_⟩;intro B W m h w K h0 f;obtain⟨n,E,F,G,H,od,rs,r,rfl,X,rfl,J,Y,j,hS,hK⟩:=hR _ _ _ _ h0
 obtain⟨v1,I,rfl⟩:∃v I,W=[v,I]:=by
  have:=(qW f.args).1
  match W,this with
  |[v,I],_=>grind
 have C:v1= .int .i64 rs.length:=f.args.1;have h2:I= .func (.func g) #[] #[.pointer (some ⟨E,0,none⟩),.pointer (some ⟨F,0,none⟩),.pointer (some ⟨G,0,none⟩)]:=f.args.2.1;subst C h2
 have eg:∀args w,(callFunc g args).run Tryz.prog w= .ok (.enter g args) w:=λargs w=>by
  obtain⟨Z,L,d,hn⟩:=V.1;have M:¬Z.body=none:=bg
  have O:¬Z.name= "runtime.NumGoroutine" :=bg
  simp[callFunc,program,Sem.run,L,O,M]
 have D:=Any.sort_Search Tryz.searchO g #[.pointer (some ⟨E,0,none⟩),.pointer (some ⟨F,0,none⟩),.pointer (some ⟨G,0,none⟩)] rs.length (λi=>decide (lE od (rs.toArray[i]!) r>=0)) w eg aC
  (λmm P i hi=>Yq (cs:=[.int .i64 i,.pointer (some ⟨E,0,none⟩),.pointer (some ⟨F,0,none⟩),.pointer (some ⟨G,0,none⟩)]) V
   (hS i _ bg) (λw u' hu=>hu) f.hsat f.msat f.disj mm P)
  (λa b Q d c=>?_)
 .refine Calls.mono D ?_;rintro e w' ⟨rfl,q,P,rfl⟩
  have u:((List.range rs.length).countP λi=> !decide (lE od (rs.toArray[i]!) r>=0))=rs.countP λy=>decide (lE od y r<0):=by
   have:=Go.Lib.countP_range rs.toArray (λy=> !decide (lE od y r>=0))
   grind
  rw[u];refine⟨_,_,m,h,rfl,hK,rfl,⟨rfl,rfl,rfl,Nat.le_add_right _ _,?_,λb d _=>Lg d,λb o v T=>?_,λb o d=>?_,f.disj,λ_ _ _ e=>e,λ_ _ _=>rfl,λb o d=>.inr (.inl bg)⟩,λb d=>by cases d⟩
  .show w.heap.size<=((w.drewN q).heap++P).size;rw[Array.size_append];exact Nat.le_add_right _ _
  .have C:=f.hsat b o v T;rw[World.cell?_of_block (w:=w) (a:=⟨b,o,none⟩) (Lg (World.block_lt_of_cell? w ⟨b,o,none⟩ C))];exact C
  .have C:=f.msat b o d;rw[Lg (Array.getElem?_eq_some_iff.1 C).1];exact C
 .have c:=of_decide_eq_true c;refine decide_eq_true ?_;rcases Nat.lt_or_eq_of_le Q with U|rfl
  .have ha:a<rs.length:=by omega
   rw[getElem!_pos _ a aC]at c;rw[getElem!_pos _ b aC];simp only[getElem_toArray]at c⊢
   have z:=Y _ (getElem_mem ha);have A:=Y _ (getElem_mem d);have h5:=(pairwise_iff_getElem.1 J) a b ha d U;have h6:=EX (od:=od) z A;have h7:=EX (od:=od) z j;have h8:=EX (od:=od) A j;rw[D2 z A]at h6;have:=(LD H od).trans r rs[a] rs[b] (by rw[<-D2 j z];omega) aC;rw[<-D2 j A]at this;omega
  .exact c
theorem alQ:bm 108 aHZ:=PI Zv λy m h K⟨n,j,o,u,v,od,g,s,rs,r,z,e,A,B,C,D,c,E,F,d,G,f,H⟩=>⟨n,j,o,u,z,od,rs,r,e,by have:=c.len;omega,F,d,G,f,λi x I=>⟨i,j,o,u,v,od,g,s,rs,r,x,rfl,A,B,C,D,c,E,I,rfl,rfl,rfl⟩,H⟩
theorem sB.get2{κ:ca->ByteArray}{y:Nat}{l:br}{kk:cj}{G:ByteArray->br}{key:ByteArray}{K0:Prop}{K:Sl->Prop}(g:sB κ m h y gr od l kk G)(n:Dl kk key ⟨none,0,0⟩->K0)(o:∀s,Dl kk key s->K s):
 ∃(d:List (Value×Sl))(Ok:Value->Prop),uP m y (d.map λp=>(p.1,dP p.2))/\KeyLaw Tryz.prog 9 Ok/\Ok (.string key)/\(∀e,List.Mem e d->Ok e.1)/\((∀e,List.Mem e d->e.1=Value.string key->False)->K0)/\∀t,List.Mem (Value.string key,t) d->K t:=by
 obtain⟨u,c,z,A,_,_⟩:=g.map_;refine⟨kk.map λp=>(.string p.1,p.2),_,⟨u,c,z,by rw[A];simp⟩,CZ,⟨key,rfl⟩,λe B=>?_,λC=>n (.inl ⟨rfl,λh=>?_⟩),λt D=>o t (.inr ?_)⟩
 .obtain⟨k,_,rfl⟩:=mem_map.1 (show e∈_ from B)
  grind
 .obtain⟨p,j,e⟩:=mem_map.1 h;subst e;exact C (.string p.1,p.2) (mem_map_of_mem (f:=λp:ByteArray×Sl=>(Value.string p.1,p.2)) j) rfl
 .obtain⟨p,j,e⟩:=mem_map.1 (show(Value.string key,t)∈_ from D)
  grind
theorem sB.keep{κ:ca->ByteArray}{y:Nat}{l:br}{kk:cj}{G:ByteArray->br}(g:sB κ m h y gr od l kk G)(d:∀o,m y=some o->m' y=some o)(le:PH.le h h'):sB κ m' h' y gr od l kk G:=by
 obtain⟨e,c,f,j,n,u⟩:=g.map_;exact⟨⟨e,c,d _ f,j,n,u⟩,g.nodup,λp z=>bL.mono (g.rows p z) le (λr t A=>bS.mono A le),g.none_,g.perm,g.sort⟩
theorem sB.at_{κ:ca->ByteArray}{y:Nat}{l:br}{kk:cj}{G:ByteArray->br}{key:ByteArray}{s:Sl}(g:sB κ m h y gr od l kk G)(c:Dl kk key s):Rows h s (G key):=by
 rcases c with⟨rfl,d⟩|e
 .rw[g.none_ key d];exact(eX.nil h).rows (dC.nil _ _) ay
 .exact g.rows _ e
structure cxJ(m5:MH)(hh:PH)(bq b9 b2:Nat)(e:Sl)(us2:bx)(Gk:br)(c:Nat×Nat×Nat×Nat×MH×PH):Prop where
 q:c.1=bq
 o:c.2.1=b9
 b:c.2.2.1=b2
 h:c.2.2.2.2.2=hh
 sub:E6 m5 c.2.2.2.2.1 b9
 out:rZ m5 c.2.2.2.2.1 b9 us2
 e_:c.2.2.2.2.1 b2=some (.cells #[dP e] 65 (0,0))
 g_:∃s,c.2.2.2.2.1 c.2.2.2.1=some (.cells #[dP s] 58 (0,0))/\Rows hh s Gk
def J3(q:Query)(ls:List br):br:=match q with|.mk _ _ _ _ _ gr od li _=>z8 gr od li (ls.getD 0 []) (ls.getD 1 [])
def EJ(q:Query)(ls:List br):Prop:=match q with|.mk _ _ _ _ _ gr _ _ _=>2<=ls.length/\∃w,iG w (ls.getD 0 [])/\iG w (ls.getD 1 [])/\jM w gr
theorem ZD:bm 223 (VS EJ J3):=by
 refine I6 func223 ?_;rintro g2 m h K ⟨v,t,q,bs,ls,rfl,hq,ha,hT,f0,hK⟩;refine⟨bCQ,rfl,aE QT (aE Gj (aE alQ aG)),MF v t m h (cN h K),ax,?_⟩;show MF v t m h (cN h K);dsimp only[MF,push_cast];obtain⟨op,ta,w,co,on,gr,od,li,args⟩:=q;obtain⟨g3,wd,B,n,I⟩:=f0;intro b m1 f1 c8;obtain⟨s1,n1⟩:=iT (Sub.refl m) f1 c8;have a8:m1 b=some (.cells ⟨v.enc⟩ 41 (0,0)):=c8.at_;obtain⟨b1,f2,x,ea,g4,rd,sq⟩:=ha.get (GJ (i:=1) aC);obtain⟨b6,c9,x6,f3,g1,f4,d'⟩:=ha.get (GJ (i:=0) aC);simp only[J3]at hK;generalize ls.getD 1 []=l' at hK n sq;generalize ls.getD 0 []=l at hK B d';have g5:=B.len;have a9:=hq.parts.group_;have b0:=hq.parts.order_
 refine⟨λz=>z.1=t/\z.2.1=b/\PH.le h z.2.2.2.2/\Sub m z.2.2.2.1/\z.2.2.2.1 b=some (.cells ⟨v.enc⟩ 41 (0,0))/\∃y kk G,z.2.2.2.1 z.2.2.1=some (.cells #[.map (some y)] 160 (0,0))/\sB fD z.2.2.2.1 z.2.2.2.2 y gr od l' kk G,
  ⟨v,.of_m a8 (take_length ..),b1,f2,ea,aC,aC,x,.imm rd,⟨v,x,gr,od,l',wd,rfl,a9,b0,sq,n,I,hT.sub s1,λy m2 h2 kk G F H Z Y=>?_⟩,.of_m a8 (take_length ..),.imm rd,λU m2 d0 a'=>?_⟩,?_⟩
 .have yb:b≠y:=λe=>bg
  have a0:m2 b=some (.cells ⟨v.enc⟩ 41 (0,0)):=bg
  have s2:Sub m m2:=λz o e=>by rw[H z (λd=>by have:=s1 z o e;grind)];exact s1 z o e
  refine⟨.of_m a0 (take_length ..),.imm (rd.mono Z),λU m3 b4 a1=>⟨_,_,⟨a1.at_⟩,ay,λV D=>⟨(t,b,U,V,h2),⟨rfl,rfl,Z,?_,?_,y,kk,G,D.at_,?_⟩,MT⟩⟩⟩
  .obtain⟨s3,n3⟩:=iT s2 b4 a1;exact s3.upd n3 D.other
  .have:b≠U:=λe=>by have:=b4.m_;grind
   show V b=_;rw[D.other b this,a1.other b this];exact a0
  .refine Y.keep (λo e=>?_) (.refl _);have:y≠U:=λd=>by rw[d,b4.m_]at e;cases e
   show V y=_;rw[D.other y this,a1.other y this];exact e
 .obtain⟨s2,n2⟩:=iT s1 d0 a';have d1:b≠U:=λe=>by have:=d0.m_;grind
  have a0:m2 b=some (.cells ⟨v.enc⟩ 41 (0,0)):=by rw[a'.other b d1];exact a8
  refine⟨v,x,gr,od,l',wd,rfl,a9,b0,sq,n,I,hT.sub s2,λy m3 h2 kk G F H Z Y=>?_⟩;have yb:b≠y:=λe=>bg
  have yc:U≠y:=λe=>by rw[<-e,a'.at_]at F;cases F
  have s3:Sub m m3:=λz o e=>by rw[H z (λd=>by have:=s2 z o e;grind)];exact s2 z o e
  refine⟨#[.map none],160,⟨by rw[H U yc];exact a'.at_⟩,ay,λV D=>⟨(t,b,U,V,h2),⟨rfl,rfl,Z,s3.upd n2 D.other,?_,y,kk,G,D.at_,?_⟩,MT⟩⟩
  .show V b=_;rw[D.other b d1,H b yb];exact a0
  .refine Y.keep (λo e=>?_) (.refl _);show V y=_;rw[D.other y (Ne.symm yc)];exact e
 .rintro⟨t',b',U,V,hh⟩ ⟨e1,d,J,s4,P,y,kk,G,b5,Y⟩;dsimp only at e1 d J s4 P b5 Y⊢
  subst e1 d;intro S m5 d2 a2;obtain⟨s5,n9⟩:=iT s4 d2 a2
  have a3:∀{z o},V z=some o->m5 z=some o/\z≠S:=fun{z o} d=>by
   have:z≠S:=λT=>by rw[T,d2.m_]at d;cases d
   exact⟨by rw[a2.other z this];exact d,this⟩
  obtain⟨us,d3,d4⟩:=(d'.mono J).ex;have f5:=d4.len;refine⟨b6,c9,f3,aC,aC,x6,.imm (f4.mono J),AD,us,λk my F=>F=hh/\E6 m5 my S/\∃f,rZ m5 my S f/\f.length<=k/\eX hh f (z8 gr od li (l.take k) l'),z6,⟨x6,us,rfl,d3,rfl⟩,⟨rfl,λz o e _=>e,[],rZ.new a2.at_,ay,by simpa[z8]using eX.nil hh⟩,?_,?_⟩
  .rintro k e my F hk-⟨rfl,a4,f,W,b7,Q⟩ b2 m6 f6 d5;obtain⟨r,hr,hv⟩:=d4.at' hk;have g6:=(List.getElem?_eq_some_iff.1 hk).1;have a5:=mem_of_getElem? hr;have d6:=B.wid r a5;have d7:jM r.length gr:=bg
   refine⟨_,_,⟨d5.at_⟩,ay,λL d8=>?_⟩
   have b8:∀{z o},my z=some o->L z=some o/\z≠b2:=fun{z o} d=>by
    have:z≠b2:=λT=>by rw[T,f6.m_]at d;cases d
    exact⟨by rw[d8.other z this,d5.other z this];exact d,this⟩
   have up:∀{z o},V z=some o->L z=some o:=fun{z o} d=>(b8 (a4 z o (a3 d).1 (a3 d).2)).1;have s7:E6 m5 L S:=λz o d c'=>(b8 (a4 z o d c')).1
   have C:∀{ma mb:MH},rZ m5 ma S f->(∀z o,ma z=some o->mb z=some o)->rZ m5 mb S f:=fun{ma mb} ho hk=>by
    obtain⟨s,h1,h2,h3⟩:=ho.ex;refine⟨s,hk _ _ h1,cT.keep h2 λz i T=>?_,h3⟩;obtain⟨g8,h4⟩:=h2.blk T
    grind
   have o7:rZ m5 L S f:=C W λz o d=>(b8 d).1;have a6:L b2=some (.cells #[dP e] 65 (0,0)):=d8.at_;have g7:=Y.keep (λo d=>up d) (.refl _);have rc:aK L F U 0 [Value.map (some y)]:=.of_m (up b5) rfl;have re:aK L F b2 0 [dP e]:=.of_m a6 rfl;have rg:aK L F b' 17 [dP v.group]:=.of_m (up P) rfl;have d9:Ints F v.group gr:=a9.mono J;have T7:eA L:=hT.sub λz o d=>up (s4 z o d)
   have fin:∀s,Dl kk (fD (pick r gr)) s->∀A M,cF L F A->lF L M A (.cells #[oM] 58 (0,0))->∃(cs:Array Value)(E:TypeId),yA M A (.cells cs E (0,0))/\0<cs.size/\∀m9,lF M m9 A (.cells (Array.mk (dP s::cs.toList.drop 1)) E (0,0))->
    ∃c:Nat×Nat×Nat×Nat×MH×PH,cxJ m5 F b' S b2 e f (G (fD (pick r gr))) c/\Wh b' 0=Wh c.1 0/\Wh S 0=Wh c.2.1 0/\Wh b2 0=Wh c.2.2.1 0/\Wh A 0=Wh c.2.2.2.1 0/\m9=c.2.2.2.2.1/\F=c.2.2.2.2.2/\True:=λs R A M u g=>by
    refine⟨_,_,⟨g.at_⟩,ay,λm9 e'=>⟨(b',S,b2,A,m9,F),?_,MT⟩⟩
    have c0:∀z o,L z=some o->m9 z=some o:=λz o d=>by
     have:z≠A:=λT=>by rw[T,u.m_]at d;cases d
     rw[e'.other z this,g.other z this];exact d
    exact⟨rfl,rfl,rfl,rfl,λz o d c'=>c0 z o (s7 z o d c'),C o7 c0,c0 _ _ a6,s,e'.at_,Y.at_ R⟩
   have e0:∀{A M},cF L F A->lF L M A (.cells #[oM] 58 (0,0))->∀z o,L z=some o->M z=some o:=fun{A M} u g z o d=>by
    have:z≠A:=λT=>by rw[T,u.m_]at d;cases d
    rw[g.other z this];exact d
   refine⟨cxJ m5 F b' S b2 e f (G (fD (pick r gr))),⟨y,rc,e,re,v.group,rg,⟨rc,e,v.group,r,gr,rfl,hv,d9,B.row r a5,d7,T7,rc,⟨re,rg,g7.get2 (λR=>⟨rc,re,rg,fin _ R⟩) (λs R=>⟨rc,re,rg,fin _ R⟩)⟩,rc,re,rg,λA M u g=>?_⟩,rc,re,rg,λA M u g=>?_⟩,?_⟩
   .have u8:=e0 u g;exact⟨.of_m (u8 _ _ a6) rfl,.of_m (u8 _ _ (up P)) rfl,(g7.keep (u8 y) (.refl _)).get2 (λR=>fin _ R A M u g) (λs R=>fin _ R A M u g)⟩
   .have u8:=e0 u g;have e5:aK M F U 0 [Value.map (some y)]:=.of_m (u8 _ _ (up b5)) rfl;exact⟨e5,e,v.group,r,gr,rfl,hv,d9,B.row r a5,d7,T7.sub u8,e5,.of_m (u8 _ _ a6) rfl,.of_m (u8 _ _ (up P)) rfl,(g7.keep (u8 y) (.refl _)).get2 (λR=>fin _ R A M u g) (λs R=>fin _ R A M u g)⟩
   .rintro⟨c1,c2,c3,A,mz,hz⟩ ⟨e1,d,T,e4,a7,c4,c5,s,c6,X⟩;dsimp only at e1 d T e4 a7 c4 c5 c6⊢
    subst e1 d T e4;have e6:∀{z o},V z=some o->mz z=some o:=fun{z o} d=>a7 z o (a3 d).1 (a3 d).2;have O:=Hf Qt (od:=od) n I (B.row r a5) d6;rw[<-(Y.perm _).countP_eq]at O;refine⟨s,.of_m c6 rfl,s.len,c1,A,c3,v,od,s,e,G (fD (pick r gr)),r,wd,rfl,e6 P,c6,c5,b0.mono J,X,hv,X.slen.symm,Y.sort _,λz f7=>?_,d6,v.limit,.of_m (e6 P) rfl,?_⟩
    .have:=(Y.perm _).mem_iff.1 (show z∈_ from f7);exact n.wid z (mem_filter.1 this).1
    .rw[O];have e7:v.limit=li:=hq.parts.limit_;rw[e7];refine aF (λh1=>?_) (λh1=>?_)
     .obtain⟨so,e8,c7,e9⟩:=c4.ex;refine⟨so,.of_m e8 rfl,e,.of_m c5 rfl,J8 ⟨_,a2.at_⟩ a7 e8 c7 e9 aC λm' f8 f9=>⟨rfl,f8,f++[e],f9,bf,?_⟩⟩;rw[z8,jF _ hr,if_pos (decide_eq_true h1)];exact Q.snoc hv
     .refine⟨rfl,a7,f,c4,aC,?_⟩;rw[z8,jF _ hr,if_neg bg,append_nil];exact Q
  .rintro my F-⟨rfl,a4,f,W,b7,Q⟩
   rw[f5,take_length]at Q;obtain⟨s,hb,f',g'⟩:=W.ex;refine⟨s,.of_m hb rfl,cN.row (s5.x n9 a4) J f' (λj z e=>?_) (λh' le g0=>hK s h' (J.trans le) ((Q.mono le).rows g0 (by have:=Q.len;omega)))⟩;cases d:m z with
   |none=>rfl
   |some o=>have e1:=g' j z e;rw[s5 z o d]at e1;cases e1
def GH(op:Int)(q:Query)(ls:List br):br:=
 if op=2 then Lk q ls else if op=3 then Ws q ls else if op=4 then WQ q ls else if op=5 then We q ls else if op=6 then Uv q ls else if op=7 then UU q ls else if op=8 then U3 q ls else if op=9 then Wo q ls else J3 q ls
def P5(op:Int)(q:Query)(ls:List br):Prop:=
 if op=2 then IT 1 q ls else if op=3 then Me q ls else if op=4 then Mf q ls else if op=5 then Mc q ls else if op=6 then IT 2 q ls else if op=7 then BP q ls else if op=8 then BP q ls else if op=9 then Md q ls else EJ q ls
mutual
def iO(ls:List br):Query->Nat->br×Nat
 |.mk op ta w co on gr od li args,k=>if op=1 then(ls.getD k [],k+1)else(GH op (.mk op ta w co on gr od li args) (fU ls args k).1,(fU ls args k).2)
def fU(ls:List br):ce->Nat->List br×Nat
 |[],k=>([],k)
 |q::qs,k=>((iO ls q k).1::(fU ls qs (iO ls q k).2).1,(fU ls qs (iO ls q k).2).2)
end
mutual
def Y0(ls:List br):Query->Nat->Prop
 |.mk op ta w co on gr od li args,k=>if op=1 then k<ls.length else P5 op (.mk op ta w co on gr od li args) (fU ls args k).1/\WD ls args k
def WD(ls:List br):ce->Nat->Prop
 |[],_=>True
 |q::qs,k=>Y0 ls q k/\WD ls qs (iO ls q k).2
end
def cyX:Vc.Spec:=λc m h K=>∃op,c=[cI op]/\(op=2->K (.val (.agg #[.func (.func 215) #[] #[]])) m h)/\(op=3->K (.val (.agg #[.func (.func 216) #[] #[]])) m h)/\(op=4->K (.val (.agg #[.func (.func 217) #[] #[]])) m h)/\(op=5->K (.val (.agg #[.func (.func 218) #[] #[]])) m h)/\(op=6->K (.val (.agg #[.func (.func 219) #[] #[]])) m h)/\
 (op=7->K (.val (.agg #[.func (.func 220) #[] #[]])) m h)/\(op=8->K (.val (.agg #[.func (.func 221) #[] #[]])) m h)/\(op=9->K (.val (.agg #[.func (.func 222) #[] #[]])) m h)/\((op≠2/\op≠3/\op≠4/\op≠5/\op≠6/\op≠7/\op≠8/\op≠9)->K (.val (.agg #[.func (.func 223) #[] #[]])) m h)
def Leaves(h:PH)(s:Sl)(ls:List br):Prop:=bL h 1 eS (λl t=>Rows h t l) s ls
def VK(N:Nat):Vc.Spec:=λe m h K=>∃c v q f d k,e=[cP c,aQ v]/\dG h q v/\SizeOf.sizeOf q<N/\c≠1/\m c=some (.cells #[Sl.val f,.int .i64 (k:Nat)] 174 (0,0))/\Leaves h f d/\eA m/\Y0 d q k/\
 ∀g m' h',PH.le h h'->Rows h' g (iO d q k).1->lF m m' c (.cells #[Sl.val f,.int .i64 ((iO d q k).2:Nat)] 174 (0,0))->K (cS g) m' h'
noncomputable def bMX(N:Nat)(c:Nat)(v:QV):Ctx:=qV [(120,VK N),(171,T9),(172,cyX),(215,VS (IT 1) Lk),(216,VS Me Ws),(217,VS Mf WQ),(218,VS Mc We),(219,VS (IT 2) Uv),(220,VS BP UU),(221,VS BP U3),(222,VS Md Wo),(223,VS EJ J3)] [(7,{A:=Nat×bt×MH×PH,st:=λ⟨i,l,m,h⟩=>bU 57 59 [(0,pv c),(3,.at (.ptr 3 0)),(6,.at (.lst 33)),(35,sv v.args),(36,iv v.args.len),(37,iv i)] [(3,.cells 41 (v.enc.map .val)),(33,.lst 221 1 (l.map λx=>[x]))] m h})] [] [] [] [] false
abbrev A1(a:bo)(b:Nat)(c:MH)(d:PH):Prop:=a (CV.val (Value.agg (Array.mk (Qg b sF)))) c d
attribute [push_cast] A1
def bcQ(op:Int)(m:MH)(h:PH)(K:bo):Prop:=
  dR (op==2) (A1 K 215 m h) (op==3) (A1 K 216 m h) (dR (op==4) (A1 K 217 m h) (op==5) (A1 K 218 m h) (dR (op==6) (A1 K 219 m h) (op==7) (A1 K 220 m h) (dR (op==8) (A1 K 221 m h) (op==9) (A1 K 222 m h) (A1 K 223 m h))))
abbrev Bc(a:Sl)(b:Int)(c:Prop):Prop:=aA (cH (aH a)) (aH a<=aH a) (aA (zX a b) (zU (aH a)) c)
abbrev zK:Value->bt:=fun(x:Value)=>oN x
abbrev H0(a:Nat×bt×MH×PH):List bt:=List.map zK a.2.1
abbrev pM(a:Nat×bt×MH×PH):Nat->Option Obj:=a.2.2.1
abbrev uC(a:Nat×bt×MH×PH):Nat->Nat->Option Value:=a.2.2.2
abbrev FC(a:Sl->(List br)->Prop):Prop:=∃(x:Sl)(c:List br),a x c
abbrev xB(a:bt):Prop:=0<a.length
attribute [push_cast] Bc zK H0 pM uC FC xB
def TT(N:Nat)(j:Nat)(v:QV)(m:MH)(h:PH)(K:bo):Prop:=
  eU v.op 1 (kS m h j 0 (λy=>∃(u:Int),aK m h j 1 (bB u)/\bJ (λb o=>aI (aW y.a b o) (0<=u) (u<aH y) (∃(C:Sl),aK m h b (o+gY u 1) (aR C)/\∃(D:Int),aK m h j 1 (bB D)/\sR m j 1 (bB (fG (D+1))) (λz=>K (mQ C) z h))))) (Bc v.args 8 (∃(I:Nat×bt×MH×PH->Prop)(z:Nat×bt×MH×PH->Nat),(∃(x:Nat×bt×MH×PH),aA (I x) (cQ j) (aA (eP 3) (eL 33) (aA (aJ v.args) (vV v) (aA (bA x.1) (eJ v) (aI (bR 221 1 (wG (aH v.args) K3)=bR 221 1 (H0 x)) (dJ m x.2.2) (fC h x.2.2) True)))))/\∀(x:Nat×bt×MH×PH),I x->aY (↑x.1:Int) (aH v.args) (bJ (λb o=>aI (aW v.args.a b o) (0<=(↑x.1:Int)) ((↑x.1:Int)<aH v.args) (∃(y:QV),aK (pM x)
 (uC x) b (o+bM x.1 21) y.enc/\∃(A:Nat),oW (λf q=>FC (λl B=>∃(k:Nat),aA (tX j (cA y)=tX A (cA f)) (dG (uC x) q f) (aA (xQ q N) (mK (A=1)) (aA (x.2.2.1 A=Option.some (gG (Array.mk (jX (dP l) (fV (↑k:Int)))) 174 0)) (Leaves (uC x) l B) (aA (eA (pM x)) (Y0 B q k) (∀(s:Sl),eT (λE c=>bQ (uC x) c (Rows c s (iO B q k).1) (bK (pM x) E A (jX (dP l) (fV (↑(iO B q k).2:Int))) 174->∃(g:Sl),kX (eO (mQ s) (mQ g)) (λF=>∀(d:PH),bQ c d (cO d F 0 (aR g)) (pE (↑x.1:Int) (H0 x) (λe=>aA (mI (H0 x) (lD x.1) e) (xB e) (∃(n:Nat×bt×MH×PH),aA (I n) (z n<z x) (aA (cQ j) jR (aA (eL 33) (aJ v.args) (aA (vV v) (gK (bE
 x.1 1)=bO n.1) (aA (eJ v) (bR 221 1 (List.set (H0 x) (lD x.1) (By (Value.func (Fn.func 214) sF (BS F)) 1 e))=bR 221 1 (H0 n)) (aA (dJ E n.2.2) (fC d n.2.2) True)))))))))))))))))))) (∃(o:Int),aA (rR v.op o) (o=2->bY (uC x) 1 (List.map zK x.2.1) (λs c=>∃(f:QV)(t:Sl)(q:Query),BW (λb l=>aA (lG v s=lG f t) (dG c q f) (aA (wP c t b l) (eA (pM x)) (IT 1 q l/\∀(g:Sl)(d:PH),bQ c d (Rows d g (Lk q l)) (K (mQ g) (pM x) d)))))) (aA (o=3->bY (uC x) 1 (List.map zK x.2.1) (λs c=>∃(f:QV)(t:Sl)(q:Query),BW (λb l=>aA (lG v s=lG f t) (dG c q f) (aA (wP c t b l) (eA (pM x)) (Me q l/\∀(g:Sl)(d:PH),bQ c d (Rows d g (Ws q l)) (K (mQ g)
 (pM x) d)))))) (o=4->bY (uC x) 1 (List.map zK x.2.1) (λs c=>∃(f:QV)(t:Sl)(q:Query),BW (λb l=>aA (lG v s=lG f t) (dG c q f) (aA (wP c t b l) (eA (pM x)) (Mf q l/\∀(g:Sl)(d:PH),bQ c d (Rows d g (WQ q l)) (K (mQ g) (pM x) d)))))) (aA (o=5->bY (uC x) 1 (List.map zK x.2.1) (λs c=>∃(f:QV)(t:Sl)(q:Query),BW (λb l=>aA (lG v s=lG f t) (dG c q f) (aA (wP c t b l) (eA (pM x)) (Mc q l/\∀(g:Sl)(d:PH),bQ c d (Rows d g (We q l)) (K (mQ g) (pM x) d)))))) (o=6->bY (uC x) 1 (List.map zK x.2.1) (λs c=>∃(f:QV)(t:Sl)(q:Query),BW (λb l=>aA (lG v s=lG f t) (dG c q f) (aA (wP c t b l) (eA (pM x)) (IT 2 q l/\∀(g:Sl)
 (d:PH),bQ c d (Rows d g (Uv q l)) (K (mQ g) (pM x) d)))))) (aA (o=7->bY (uC x) 1 (List.map zK x.2.1) (λs c=>∃(f:QV)(t:Sl)(q:Query),BW (λb l=>aA (lG v s=lG f t) (dG c q f) (aA (wP c t b l) (eA (pM x)) (BP q l/\∀(g:Sl)(d:PH),bQ c d (Rows d g (UU q l)) (K (mQ g) (pM x) d)))))) (o=8->bY (uC x) 1 (List.map zK x.2.1) (λs c=>∃(f:QV)(t:Sl)(q:Query),BW (λb l=>aA (lG v s=lG f t) (dG c q f) (aA (wP c t b l) (eA (pM x)) (BP q l/\∀(g:Sl)(d:PH),bQ c d (Rows d g (U3 q l)) (K (mQ g) (pM x) d)))))) ((o=9->bY (uC x) 1 (List.map zK x.2.1) (λs c=>∃(f:QV)(t:Sl)(q:Query),BW (λb l=>aA (lG v s=lG f t) (dG c q f) (aA
 (wP c t b l) (eA (pM x)) (Md q l/\∀(g:Sl)(d:PH),bQ c d (Rows d g (Wo q l)) (K (mQ g) (pM x) d))))))/\(aA (mK (o=2)) (mK (o=3)) (aA (mK (o=4)) (mK (o=5)) (aI (mK (o=6)) (mK (o=7)) (mK (o=8)) (mK (o=9))))->bY (uC x) 1 (List.map zK x.2.1) (λs c=>∃(f:QV)(t:Sl)(q:Query),BW (λb l=>aA (lG v s=lG f t) (dG c q f) (aA (wP c t b l) (eA (pM x)) (EJ q l/\∀(g:Sl)(d:PH),bQ c d (Rows d g (J3 q l)) (K (mQ g) (pM x) d)))))))))))))
theorem acZ:bm 172 cyX:=by
 refine iQ func172 ?_;rintro c m h K ⟨op,rfl,d,f,g,j,n,o,u,y,z⟩;refine⟨dE [] [] [] [] false,rfl,aG,bcQ op m h K,ax,?_⟩;exact(aD (λe=>d (bk e)) λA=>aD (λe=>f (bk e)) λB=>aD (λe=>g (bk e)) λC=>aD (λe=>j (bk e)) λD=>aD (λe=>n (bk e)) λE=>aD (λe=>o (bk e)) λF=>aD (λe=>u (bk e)) λG=>aD (λe=>y (bk e)) λH=>z ⟨bg,bg,bg,bg,bg,bg,bg,bg⟩)
theorem N3{ls:List br}{q:Query}:∀{a:ce}{k:Nat},fU ls (a++[q]) k=((fU ls a k).1++[(iO ls q (fU ls a k).2).1],(iO ls q (fU ls a k).2).2)
 |[],k=>by simp[fU]
 |p::a,k=>by
  rw[cons_append,fU,N3];simp[fU]
theorem axJ{ls:List br}{q:Query}{b:ce}:∀{a:ce}{k:Nat},WD ls (a++q::b) k->Y0 ls q (fU ls a k).2
 |[],k,h=>by rw[nil_append,WD]at h;simpa[fU]using h.1
 |p::a,k,h=>by
  rw[cons_append,WD]at h;rw[fU];exact axJ h.2
theorem JB{ls:List br}:∀{a:ce}{k:Nat},(fU ls a k).1.length=a.length
 |[],k=>by simp[fU]
 |p::a,k=>by rw[fU];simp[JB]
theorem Yb:∀N,bm 120 (VK N)
 |0=>by
  refine fK (fn:=Tryz.f120) (c:=dX Tryz.f120) func120 rfl az ?_;rintro a9 m h K ⟨P,v,q,W,d,k,rfl,_,hN,_⟩;omega
 |N+1=>by
  refine iQ func120 ?_;rintro a9 m h K ⟨P,v,q,W,d,k,rfl,hq,hN,X,H,I,hT,C,Y⟩;refine⟨bMX N P v,rfl,aE (Yb N) (aE acJ (aE acZ (aE ZL (aE ZK (aE ZJ (aE ZI (aE ZH (aE ZG (aE ZF (aE ZE (aE ZD aG))))))))))),TT N P v m h K,ax,?_⟩;dsimp only[TT,push_cast];obtain⟨op,ta,w,co,on,gr,od,li,args⟩:=q;have xq:=hq.parts;rw[iO]at Y;rw[Y0]at C;have Z:v.op=op:=xq.op_;refine aD (λe=>?_) (λe=>?_)
  .have e:op=1:=bg
   rw[if_pos e]at C;simp only[if_pos e]at Y;have c0:=bL.slen I;obtain⟨b,o,s,ea,rd,hr⟩:=bL.at I (getElem?_eq_getElem C);have r0:aK m h P 0 [dP W]:=.of_m H rfl;have r1:aK m h P 1 [fV (k:Nat)]:=.of_m H rfl;have c4:=I.len;refine⟨W,r0,k,r1,b,o,ea,aC,aC,s,.imm rd,k,r1,_,_,⟨H⟩,ay,λm' J=>Y s m' h (.refl _) ?_ ?_⟩
   .grind
   .have e5:IntKind.i64.wrap ((k:Int)+1)=((k+1:Nat):Int):=by rw[iS aC]
    rw[e5]at J;exact J
  .have e:op≠1:=bg
   rw[if_neg e]at C;simp only[if_neg e]at Y;obtain⟨L,c1⟩:=C;have n:=xq.args_;have b':=bL.slen n;have c2:=bL.len n
   refine⟨aC,aC,aC,aC,λz=>z.1<=args.length/\PH.le h z.2.2.2/\lF m z.2.2.1 P (.cells #[Sl.val W,.int .i64 ((fU d (args.take z.1) k).2:Nat)] 174 (0,0))/\∃D:cm,D.length=z.1/\z.2.1=D.map RP++replicate (args.length-z.1) .nilFunc/\∀j b l,D[j]? =some b->(fU d (args.take z.1) k).1[j]? =some l->RZ z.2.2.2 b l,λz=>args.length-z.1,
    ⟨(0,replicate args.length .nilFunc,m,h),⟨ay,.refl _,⟨by dsimp only;rw[take_zero,fU];exact H,λ_ _=>rfl⟩,[],rfl,ay,λj b l h1 _=>by rw[getElem?_nil]at h1;cases h1⟩,?_⟩,?_⟩
   .rw[show((v.args.len:Int)).toNat=args.length by omega];dsimp only;rw[map_replicate];exact MT
   .rintro⟨i,l,zm,zh⟩ ⟨hi,g,J,D,Q,hl,y⟩;dsimp only at hi g J Q hl y⊢
    have a':eA zm:=by
     obtain⟨T,fz,e1⟩:=hT;exact⟨T,fz,by rw[J.other 1 (Ne.symm X)];exact e1⟩
    refine aF (λb0=>?_) (λc5=>?_)
    .obtain⟨p,hp⟩:=eV b' b0;obtain⟨b,o,u,ea,b1,b3⟩:=bL.at (D5.mono n g) hp;have b4:=(List.getElem?_eq_some_iff.1 hp).1
     have b6:SizeOf.sizeOf p<N:=by
      have:=sizeOf_lt_of_mem (mem_of_getElem? hp)
      grind
     have a8:args=args.take i++p::args.drop (i+1):=by
      have A:args[i]=p:=(List.getElem?_eq_some_iff.1 hp).2;rw[<-A,getElem_cons_drop b4,take_append_drop]
     have a0:Y0 d p (fU d (args.take i) k).2:=axJ (b:=args.drop (i+1)) bg
     have a1:fU d (args.take (i+1)) k=((fU d (args.take i) k).1++[(iO d p (fU d (args.take i) k).2).1],(iO d p (fU d (args.take i) k).2).2):=by
      rw[take_add_one,hp,Option.toList_some,N3]
     refine⟨b,o,ea,aC,aC,u,.imm b1,P,u,p,W,d,(fU d (args.take i) k).2,rfl,b3,b6,X,J.at_,bL.mono I g (λl s hr=>bL.mono hr g λr t hv=>bS.mono hv g),a',a0,λO m' h' B a2 a3=>⟨O,rfl,λb2 h2 M a4=>?_⟩⟩;have c6:l.length=args.length:=bg
     have b7:l[i]? =some .nilFunc:=by
      grind
     refine⟨aC,bf,[.nilFunc],by simp[b7],ay,(i+1,l.set i (RP b2),m',h2),⟨aC,g.trans (B.trans M),?_,D++[b2],by simp[Q],?_,?_⟩,aC,?_⟩
     .dsimp only;rw[a1];exact⟨a3.at_,λb5 a5=>by rw[a3.other b5 a5,J.other b5 a5]⟩
     .grind
     .dsimp only;rw[a1];intro j b5 l5 A E;have b8:(fU d (args.take i) k).1.length=D.length:=by rw[JB,length_take];omega
      by_cases hj:j<D.length
      .rw[getElem?_append_left hj]at A;rw[getElem?_append_left aC]at E;exact(y j b5 l5 A E).mono (B.trans M)
      .rw[getElem?_append_right aC]at A;rw[getElem?_append_right aC]at E;have:j-D.length=0:=bg
       rw[this]at A;rw[b8,this]at E;simp at A E;subst A E
       obtain⟨S,U,R⟩:=(show∃S,dC h' O 1 (S.map eS)/\eX h' S _ from by
        obtain⟨S,U,R,V⟩:=a2.ex;exact⟨S,U,R.symm,V⟩)
       exact⟨S,⟨O,a4,U.mono M,by have V:=a2.len;rw[R.len];exact V⟩,R.mono M⟩
     .dsimp only;rw[iS aC]
      have e9:((l.map λx=>[x]).set ((i:Int)).toNat (RP b2::List.drop 1 [.nilFunc]))=(l.set i (RP b2)).map λx=>[x]:=by
       rw[map_set];rfl
      exact⟨MT,rfl,rfl,rfl,rfl,rfl,rfl,by rw[<-e9];rfl,rfl,rfl,trivial⟩
    .have b9:i=args.length:=by omega
     subst b9;rw[take_length]at J y;rw[Nat.sub_self,replicate_zero,append_nil]at hl
     have fin:∀{okF:Query->List br->Prop}{f:Query->List br->br},okF (.mk op ta w co on gr od li args) (fU d args k).1->GH op (.mk op ta w co on gr od li args) (fU d args k).1=f (.mk op ta w co on gr od li args) (fU d args k).1->∀(s:Sl)(h':PH),zh.le h'->dC h' s 1 (l.map λx=>[x])->
      ∃(v1:QV)(t:Sl)(q:Query)(D:cm)(d:List br),[aQ v,cS s]=[aQ v1,cS t]/\dG h' q v1/\wP h' t D d/\eA zm/\okF q d/\∀(O:Sl)(F:PH),h'.le F->Rows F O (f q d)->K (cS O) zm F:=fun{okF f} h1 h2 s h' B a6=>by
      refine⟨v,s,_,D,_,rfl,hq.mono (g.trans B),⟨?_,by rw[JB];exact Q,λj b l5 A E=>(y j b l5 A E).mono B⟩,a',h1,λO c' a7 hr=>Y O zm c' (g.trans (B.trans a7)) bg J⟩;rw[hl,map_map]at a6;exact a6
     have c3:=L;refine⟨op,by rw[Z],λG=>fin (okF:=IT 1) ?_ ?_,λG=>fin (okF:=Me) ?_ ?_,λG=>fin (okF:=Mf) ?_ ?_,λG=>fin (okF:=Mc) ?_ ?_,λG=>fin (okF:=IT 2) ?_ ?_,λG=>fin (okF:=BP) ?_ ?_,λG=>fin (okF:=BP) ?_ ?_,λG=>fin (okF:=Md) ?_ ?_,λG=>fin (okF:=EJ) ?_ ?_⟩
     all_goals first
      |(subst G;exact L)
      |(subst G;rfl)
      |(obtain⟨h2,h3,h4,A,E,U,R,V⟩:=G;first|(rw[P5,if_neg h2,if_neg h3,if_neg h4,if_neg A,if_neg E,if_neg U,if_neg R,if_neg V]at L;exact L)|(rw[GH,if_neg h2,if_neg h3,if_neg h4,if_neg A,if_neg E,if_neg U,if_neg R,if_neg V]))
def Pn:Vc.Spec:=λc m h K=>∃s r,c=[cS s]/\bS h s r/\r.length<=1000/\∀d h',PH.le h h'->bS h' d r->K (cS d) m h'
def VB:Vc.Spec:=λd m h K=>∃e v c q,d=[cS e,aQ v]/\Leaves h e c/\dG h q v/\Y0 c q 0/\eA m/\(iO c q 0).1.length<=8000000/\(∀r∈(iO c q 0).1,r.length<=1000)/\∀f h',PH.le h h'->Rows h' f (iO c q 0).1->K (cS f) m h'
noncomputable def cgQ(N:Nat):Ctx:=qV [(120,VK N),(57,Pn)] [(5,{A:=Nat×bx×Sl×MH×PH,st:=λ⟨i,c,s,m,h⟩=>bU 31 33 [(7,.at (.lst 16)),(17,sv s),(18,iv s.len),(19,iv i)] [(16,.lst 65 1 (c.map eS))] m h})] [] [] [200005] [] false
def ah(a:Addr)(n c:Nat)(m:MH)(h:PH)(K:bo):Prop:=
  ∃(y:List bt),aA (fN 3 y) (dC h (Sl.mk (Option.some a) n c) 3 y) (aA (i7 (0+y.length) 32) (nT (0+y.length)) (bY h 3 (Gb y) (λs d=>K (mQ s) m d)))
theorem ao(a:Addr)(n c:Nat)(m:MH)(h:PH)(K:bo):ah a n c m h K=(wW (dE [] [] [] [] false) Tryz.f57 (dX Tryz.f57) (entry Tryz.f57.ntmps [.val (.slice (some a) n c)] m h) K):=ax
def ai(n c:Nat)(m:MH)(h:PH)(K:bo):Prop:=
  K EZ m h
theorem ap(n c:Nat)(m:MH)(h:PH)(K:bo):ai n c m h K=(wW (dE [] [] [] [] false) Tryz.f57 (dX Tryz.f57) (entry Tryz.f57.ntmps [.val (.slice none n c)] m h) K):=ax
abbrev Eh(a:ca):Prop:=nO a.length
abbrev HV(a:Sl)(b:Nat->Nat->Option Value)(c:Sl->PH->Prop):Prop:=oS (λx d=>aI (eO (mQ a) (mQ x)) (bS b x d) (Eh d) (∀(f:Sl)(e:PH),bQ b e (bS e f d) (c f e)))
attribute [push_cast] Eh HV
def Xt(N:Nat)(D:Sl)(v:QV)(m:MH)(h:PH)(K:bo):Prop:=
  ∀(b:Nat)(n:MH),bG (cF m h b) (bK m n b (jX oM cL) 174) (jN (λc E=>aA (yA n b (gG c E 0)) (2<=c.size) (∀(f:MH),bK n f b (bF (dP D) cL (List.drop 2 c.toList)) E->∃(g:Nat),oW (λz q=>FC (λl j=>∃(k:Nat),aA (tX b (cA v)=tX g (cA z)) (dG h q z) (aA (xQ q N) (mK (g=1)) (aA (f g=Option.some (gG (Array.mk (jX (dP l) (fV (↑k:Int)))) 174 0)) (Leaves h l j) (aA (eA f) (Y0 j q k) (∀(s:Sl),eT (λA u=>bQ h u (Rows u s (iO j q k).1) (bK f A g (jX (dP l) (fV (↑(iO j q k).2:Int))) 174->Bc s 24 (OY (λI x=>aA (I x) (eL 16) (aA (aZ s (gU x)) (bN s (gU x)) (aA (bA x.1) (bR 65 1 (wG (aH s) fW)=mV 65 x.2.1) (aA (dJ A (j5 x)) (fC u (j5 x))
 True)))) (λI B x=>I x->aY (↑x.1:Int) (aH (gU x)) (bJ (λC o=>aI (aW (gU x).a C o) (0<=(↑x.1:Int)) ((↑x.1:Int)<aH (gU x)) (∃(y:Sl),aK (j5 x).1 (rH x) C (o+bM x.1 1) (aR y)/\HV y (rH x) (λF G=>pE (↑x.1:Int) (rE x) (λe=>Qh (mI (rE x) (lD x.1) e) (xB e) (λd=>aA (I d) (B d<B x) (aA (eL 16) (aZ (gU x) (gU d)) (aA (bN (gU x) (gU d)) (gK (bE x.1 1)=bO d.1) (aA (bR 65 1 (List.set (rE x) (lD x.1) (By (dP F) 1 e))=mV 65 d.2.1) (fJ (j5 x) (j5 d)) (kZ (fC G (j5 d)))))))))))) (tZ (rH x) (rE x) K (j5 x).1))))))))))))))
theorem ab:bm 57 Pn:=by
 refine fK (fn:=Tryz.f57) (c:=dX Tryz.f57) func57 rfl az ?_;rintro z m h K ⟨⟨a,n,c⟩,r,rfl,f,G,g⟩;refine⟨dE [] [] [] [] false,rfl,aG,?_⟩;cases a with
 |none=>
  show wW _ Tryz.f57 (dX Tryz.f57) (entry Tryz.f57.ntmps [.val (.slice none n c)] m h) K;rw[<-ap n c m h K];dsimp only[ai,push_cast];refine g ⟨none,0,0⟩ h (.refl _) ?_;cases r with
  |nil=>exact⟨⟨[],dC.nil _ _,rfl,λi x A=>by simp at A⟩,ay⟩
  |cons x r=>
   obtain⟨b,o,v,e,_⟩:=bL.at f (i:=0) (x:=x) rfl;cases e
 |some a=>
  show wW _ Tryz.f57 (dX Tryz.f57) (entry Tryz.f57.ntmps [.val (.slice (some a) n c)] m h) K;rw[<-ao a n c m h K];dsimp only[ah,push_cast];obtain⟨⟨j,B,C,D⟩,E⟩:=f;refine⟨j.map VV.enc,?_,B,bg,bg,λs h' le F=>g s h' le ⟨⟨j,bg,C,D⟩,E⟩⟩;constructor
  .intro e d;obtain⟨x,_,rfl⟩:=mem_map.1 d;rfl
  .intro e d u y;obtain⟨x,_,rfl⟩:=mem_map.1 d;simp[VV.enc]at y;rcases y with rfl|rfl|rfl<;>rfl
theorem SL:bm 60 VB:=by
 refine EN func60 ?_;rintro a0 m h K ⟨U,v,V,q,rfl,F,hq,G,W,hl,X,Y⟩;refine⟨cgQ (SizeOf.sizeOf q+1),rfl,aE (Yb _) (aE ab aG),Xt (SizeOf.sizeOf q+1) U v m h (lR h K),ax,?_⟩;dsimp only[Xt,push_cast];intro b m1 H n;obtain⟨s1,Z⟩:=iT (Sub.refl m) H n;refine⟨_,_,⟨n.at_⟩,ay,λm2 y=>?_⟩;have s2:Sub m m2:=s1.upd Z y.other
 have A:b≠1:=λe=>by
  obtain⟨T,fz,I⟩:=W
  grind
 refine⟨b,v,q,U,V,0,rfl,hq,aC,A,y.at_,F,W.sub s2,G,λs J L B M O=>?_⟩;have s3:Sub m J:=s2.upd Z O.other;generalize (iO V q 0).1=rs at hl X Y M;have a1:=bL.slen M;refine⟨aC,aC,aC,aC,λz=>z.1<=rs.length/\z.2.2.1=s/\z.2.2.2.1=J/\PH.le L z.2.2.2.2/\∃C,z.2.1=C++replicate (rs.length-z.1) ⟨none,0,0⟩/\eX z.2.2.2.2 C (rs.take z.1),λz=>rs.length-z.1,⟨(0,replicate rs.length ⟨none,0,0⟩,s,J,L),⟨ay,rfl,rfl,.refl _,[],ay,bk (eX.nil L)⟩,?_⟩,?_⟩
 .rw[show((s.len:Int)).toNat=rs.length by omega];dsimp only;rw[map_replicate];exact MT
 .rintro⟨i,d,s',m',hz⟩ ⟨hi,I,e2,c,C,g,f⟩;dsimp only at hi I e2 c g f⊢
  subst I e2;have P:=f.len;rw[length_take]at P;refine aF (λa2=>?_) (λa3=>?_)
  .have D:i<rs.length:=by omega
   obtain⟨b2,o,u,ea,rd,hv⟩:=bL.at M (getElem?_eq_getElem D);have a':d.length=rs.length:=bg
   have Q:d[i]? =some ⟨none,0,0⟩:=by
    grind
   refine⟨b2,o,ea,aC,aC,u,.imm ((rd.mono c)),u,rs[i],rfl,bS.mono hv c,X _ (getElem_mem _),λsc h5 E R=>⟨aC,bg,[oM],by rw[getElem?_map,show((i:Int)).toNat=i from rfl,Q];rfl,ay,(i+1,d.set i sc,s',m',h5),⟨aC,rfl,rfl,c.trans E,C++[sc],?_,?_⟩,aC,?_⟩⟩
   .dsimp only;rw[g,set_append,if_neg aC,append_assoc];congr 1;rw[show rs.length-i=(rs.length-(i+1))+1 by omega,replicate_succ,show i-C.length=0 by omega];rfl
   .dsimp only;rw[take_add_one,getElem?_eq_getElem D];exact(f.mono E).snoc R
   .dsimp only
    have e9:((d.map eS).set ((i:Int)).toNat (dP sc::List.drop 1 [oM]))=(d.set i sc).map eS:=by
     rw[map_set];rfl
    exact⟨MT,rfl,rfl,by rw[iS aC],by rw[<-e9],rfl,rfl,trivial⟩
  .have:i=rs.length:=by omega
   subst this;rw[Nat.sub_self,replicate_zero,append_nil]at g;subst g;rw[take_length]at f;intro s6 h6 j S;exact⟨m,h6,s3,B.trans (c.trans j),.refl _,Y s6 h6 (B.trans (c.trans j)) ((f.mono j).rows S aC)⟩
mutual
def yH(h:PH):Query->QV->Nat->cv->Prop
 |.mk _ _ _ _ _ _ _ _ args,v,d,f=>∃e c,dC h v.args 21 (e.map QV.enc)/\lC h args e (d+1) c/\f=(d,v)::c
def lC(h:PH):ce->da->Nat->cv->Prop
 |[],e,_,f=>e=[]/\f=[]
 |q::qs,e,d,f=>∃v c g j,e=v::c/\dG h q v/\yH h q v d g/\lC h qs c d j/\f=g++j
end
def crJ(e:Nat×QV):bt:=[.int .i64 (e.1:Nat),.agg e.2.enc.toArray]
def Vw(N:Nat):Vc.Spec:=λc m h K=>∃(v:QV)(q:Query)(d l f:Nat)(g xs:cv)(J:Nat->MH->PH->Prop),c=[aQ v,cI d,.val (.func (.yield l) #[] #[])]/\yH h q v d g/\SizeOf.sizeOf q<N/\d+lO q<=8000000/\(∀j e,g[j]? =some e->xs[f+j]? =some e)/\J f m h/\
 (∀k e m' h',xs[k]? =some e->PH.le h h'->J k m' h'->YDo Tryz.prog l (crJ e) m' h' (λr o n=>r=true/\PH.le h' n/\J (k+1) o n))/\
 ∀m' h',PH.le h h'->J (f+g.length) m' h'->K (cB true) m' h'
noncomputable def bdQ(N:Nat)(v:QV)(d l:Nat):Ctx:=
 {dE [(140,Vw N)] [(4,{A:=Nat×MH×PH,st:=λ⟨i,m,h⟩=>bU 28 31 [(1,iv d),(2,vv (.func (.yield l) #[] #[])),(15,sv v.args),(16,iv v.args.len),(17,iv i)] [] m h})] [] [] false with yield:=some (bQJ Tryz.prog)}
def Pk:PH->bt->List bt->Prop:=λh c xs=>∃b v q d,c=[.pointer (some ⟨b,0,none⟩)]/\cO h b 0 (QV.enc v)/\yH h q v 1 d/\lO q<=900000/\xs=d.map crJ
def Vv:Vc.Spec:=λc m h K=>∃v,c=[aQ v]/\∀b h',PH.le h h'->cO h' b 0 (QV.enc v)->K (.val (.func (.func 139) #[] #[.pointer (some ⟨b,0,none⟩)])) m h'
abbrev K4(a:Nat->(Nat×QV)->Prop):Prop:=∀(x:Nat)(c:Nat×QV),a x c
abbrev F8(a:cv)(b:Nat)(c:Nat×QV):Prop:=a[b]? =Option.some c
attribute [push_cast] K4 F8
def Q7(N:Nat)(v:QV)(d l:Nat)(m:MH)(h:PH)(K:bo):Prop:=
  Vu Proofs.Tryz.prog (bQJ Proofs.Tryz.prog)/\UQ (λD E=>∃(R:Bool->MH->PH->Prop),aA (Cm l::fQ (↑d:Int) (cA v)=Cm D::List.map CV.val E) (YDo Proofs.Tryz.prog D E m h R) (∀(u:Bool),eT (λz A=>gX (R u z A) (!u) (K bH z A) (∃(I:Nat×MH×PH->Prop)(F:Nat×MH×PH->Nat),(∃(x:Nat×MH×PH),aA (I x) (eQ (bO d)) (aA (CE (Fn.yield l) sF) (aJ v.args) (aA (vV v) (bA x.1) (aA (dJ z x.2) (fC A x.2) True))))/\∀(x:Nat×MH×PH),I x->aY (↑x.1:Int) (aH v.args) (bJ (λb o=>aI (aW v.args.a b o) (0<=(↑x.1:Int)) ((↑x.1:Int)<aH v.args) (∃(y:QV),aK (oT x) (kV x) b (o+bM x.1 21) y.enc/\oW (λG q=>bJ (λB H=>∃(k:Nat)(e L:cv)(J:Nat->MH->PH->Prop),aA (cC y.enc (fQ (bE
 d 1) (Cm l))=cC G.enc (fQ (↑B:Int) (Cm H))) (yH (kV x) q G B e) (aA (xQ q N) (B+lO q<=8000000) (aI (K4 (λj f=>F8 e j f->F8 L (k+j) f)) (J k (oT x) (kV x)) (K4 (λC f=>eT (λg c=>bG (F8 L C f) (PH.le (kV x) c) (J C g c->YDo Proofs.Tryz.prog H (jX (fV (↑f.1:Int)) (Value.agg (Array.mk f.2.enc))) g c (fun(r:Bool)=>fun(O:MH)=>fun(M:PH)=>aA (iE r) (PH.le c M) (J (C+1) O M)))))) (eT (λg c=>bQ (kV x) c (J (k+e.length) g c) (∃(n:Nat×MH×PH),aA (I n) (F n<F x) (aA (eQ (bO d)) (CE (Fn.yield l) sF) (aA (aJ v.args) (bI v.args) (aA (gK (bE x.1 1)=bO n.1) (dJ g n.2) (kZ (fC c n.2))))))))))))))) (K iM (oT x) (kV x))))))
def aiX(N:Nat)(l z:Nat)(m:MH)(h:PH)(K:bo):Prop:=
  ∃(y:QV),aK m h z 0 y.enc/\oW (λv q=>bJ (λd o=>∃(k:Nat)(e x:cv)(J:Nat->MH->PH->Prop),aA (cC y.enc (fQ 1 (Cm l))=cC v.enc (fQ (↑d:Int) (Cm o))) (yH h q v d e) (aA (xQ q N) (d+lO q<=8000000) (aI (K4 (λj f=>F8 e j f->F8 x (k+j) f)) (J k m h) (K4 (λn f=>eT (λg c=>bG (F8 x n f) (PH.le h c) (J n g c->YDo Proofs.Tryz.prog o (jX (fV (↑f.1:Int)) (Value.agg (Array.mk f.2.enc))) g c (fun(r:Bool)=>fun(A:MH)=>fun(u:PH)=>aA (iE r) (PH.le c u) (J (n+1) A u)))))) (eT (λg c=>bQ h c (J (k+e.length) g c) (xT K g c)))))))
def ae(v:QV)(m:MH)(h:PH)(K:bo):Prop:=
  ∀(b:Nat)(C:MH),bG (cF m h b) (bK m C b fW 36) (∃(D:QV),kX (eO (cA v) (cA D)) (λF=>∀(o:PH),bQ h o (cO o F 0 D.enc) (∃(S:PH->bt->List bt->Prop)(x:List (Int×QV))(I:Nat->MH->PH->Prop),aA (Hy Proofs.Tryz.prog 139 S) (S o (zM F) (List.map (fun(g:Int×QV)=>jX (fV g.1) (Value.agg (Array.mk g.2.enc))) x)) (aA (I 0 C o) (∀(k:Nat)(e:Int)(f:QV),eT (λj d=>bG (x[k]? =Option.some (e,f)) (PH.le o d) (I k j d->∀(u:Nat)(z:MH),bG (cF j d u) (bK j z u zV 41) (jN (λc E=>aA (yA z u (gG c E 0)) (21<=c.size) (∀(n:MH),bK z n u (vI f f (vP f (bF (dP f.on) (xW f) (bF (xX f) (uL f) (fA (dP f.args) 21 c))))) E->∃(y:Int),aK n d u 0 (bB y)/\
 eU y 1 (kS n d b 0 (λG=>∃(H:Int),Fq n d u 1 (bB H) (λg=>aI (cT n (dN G) 3 1 g) (AL g) (dO g) (jU (λs A=>fY n A (dN G) s 3 1 (dL g (bB H))->jN (λB E1=>aA (yA A b (gG B E1 0)) (0<B.size) (∀(J:MH),bK A J b (fA (dP s) 1 B) E1->I (k+1) J d))))))) (I (k+1) n d))))))) (eT (λj d=>bQ o d (I x.length j d) (kS j d b 0 (λy=>K (mQ y) j d))))))))
mutual
theorem yH.mono{h h':PH}(le:PH.le h h'):∀{q:Query}{v:QV}{d:Nat}{es:cv},yH h q v d es->yH h' q v d es
 |.mk _ _ _ _ _ _ _ _ args,v,d,es,w=>by
  rw[yH]at w⊢
  obtain⟨e,c,f,g,j⟩:=w;exact⟨e,c,f.mono le,lC.mono le g,j⟩
theorem lC.mono{h h':PH}(le:PH.le h h'):∀{c:ce}{vs:da}{d:Nat}{es:cv},lC h c vs d es->lC h' c vs d es
 |[],vs,d,es,w=>by rw[lC]at w⊢;exact w
 |q::c,vs,d,es,w=>by
  rw[lC]at w⊢
  obtain⟨v,e,f,g,j,n,o,u,y⟩:=w;exact⟨v,e,f,g,j,n.mono le,yH.mono le o,lC.mono le u,y⟩
end
theorem lC.len{h:PH}:∀{c:ce}{vs:da}{d:Nat}{es:cv},lC h c vs d es->vs.length=c.length
 |[],vs,d,es,w=>by rw[lC]at w;grind
 |q::c,vs,d,es,w=>by
  rw[lC]at w;obtain⟨v,e,j,n,f,o,u,g,y⟩:=w;rw[f,length_cons,length_cons,lC.len g]
mutual
theorem yH.of{h:PH}:∀{q:Query}{v:QV},dG h q v->∀d,∃es,yH h q v d es
 |.mk _ _ _ _ _ _ _ _ args,v,e,d=>by
  obtain⟨_,_,_,_,_,_,_,_,_,g,f,c⟩:=e;obtain⟨es,j⟩:=lC.of c (d+1);exact⟨(d,v)::es,by rw[yH];grind⟩
theorem lC.of{h:PH}:∀{c:ce}{vs:da},BH h c vs->∀d,∃es,lC h c vs d es
 |[],vs,e,d=>⟨[],by rw[lC];exact⟨e,rfl⟩⟩
 |q::c,vs,e,d=>by
  obtain⟨v,f,rfl,g,j⟩:=e;obtain⟨n,u⟩:=yH.of g d;obtain⟨o,y⟩:=lC.of j d;exact⟨n++o,by rw[lC];grind⟩
end
mutual
def dW:Query->bn
 |.mk op ta _ _ _ _ _ _ args=>(if op=1 then[ta]else[])++eD args
def eD:ce->bn
 |[]=>[]
 |q::qs=>dW q++eD qs
end
def C2(es:cv):bn:=(es.filter λe=>e.2.op==1).map λe=>e.2.table
theorem L6{a b:cv}:C2 (a++b)=C2 a++C2 b:=by simp[C2]
mutual
theorem yH.scans{h:PH}:∀{q:Query}{v:QV}{d:Nat}{es:cv},dG h q v->yH h q v d es->C2 es=dW q
 |.mk op ta _ _ _ _ _ _ args,v,d,es,e,w=>by
  rw[yH]at w;obtain⟨j,c,n,f,rfl⟩:=w;obtain⟨g,o,_⟩:=e;rw[dW, <-lC.scans f,show((d,v)::c)=[(d,v)]++c from rfl,L6];congr 1;simp only[C2,filter_cons,filter_nil,g]
  grind
theorem lC.scans{h:PH}:∀{c:ce}{vs:da}{d:Nat}{es:cv},lC h c vs d es->C2 es=eD c
 |[],vs,d,es,w=>by rw[lC]at w;rw[w.2];rfl
 |q::c,vs,d,es,w=>by
  rw[lC]at w;obtain⟨v,e,n,o,u,f,g,j,rfl⟩:=w;rw[L6,eD,yH.scans f g,lC.scans j]
end
mutual
theorem yH.small{h:PH}:∀{q:Query}{v:QV}{d:Nat}{es:cv},yH h q v d es->es.length<=lO q
 |.mk op ta _ _ _ _ _ _ args,v,d,es,w=>by
  rw[yH]at w;obtain⟨f,c,g,e,rfl⟩:=w;have:=lC.small e;simp only[length_cons,lO];omega
theorem lC.small{h:PH}:∀{c:ce}{vs:da}{d:Nat}{es:cv},lC h c vs d es->es.length<=kT c
 |[],vs,d,es,w=>by rw[lC]at w;grind
 |q::c,vs,d,es,w=>by
  rw[lC]at w;obtain⟨v,e,j,n,o,u,f,g,rfl⟩:=w;have y:=yH.small f;have z:=lC.small g;simp only[length_append,kT];omega
end
theorem csQ:∀q:Query,1<=lO q
 |.mk _ _ _ _ _ _ _ _ _=>by rw[lO];omega
theorem ayX:∀l:ce,l.length<=kT l
 |[]=>ay
 |a::l=>by have:=ayX l;have:=csQ a;simp only[length_cons,kT];omega
theorem Vo:∀{l:ce}{a:Query},a∈l->lO a<=kT l
 |b::l,a,h=>by
  rw[kT];rcases mem_cons.1 h with rfl|h
  .omega
  .have:=Vo h;omega
theorem TH:∀N,bm 140 (Vw N)
 |0=>by
  refine fK (fn:=Tryz.f140) (c:=dX Tryz.f140) func140 rfl az ?_;rintro V m h K ⟨v,q,d,l,U,es,xs,J,rfl,_,hN,_⟩;omega
 |N+1=>by
  refine iQ func140 ?_;rintro V m h K ⟨v,q,d,l,U,es,xs,J,rfl,hw,hN,hd,hx,h0,f,D⟩;refine⟨bdQ N v d l,rfl,aE (TH N) aG,Q7 N v d l m h K,ax,?_⟩;dsimp only[Q7,push_cast];obtain⟨op,ta,w,co,on,gr,od,li,args⟩:=q;rw[yH]at hw;obtain⟨E,F,A,G,rfl⟩:=hw;simp only[Query.mk.sizeOf_spec]at hN;rw[lO]at hd;have a':=G.len;have W:=A.len;have a0:=ayX args;rw[length_map]at W;refine⟨Pp _,l,crJ (d,v),_,rfl,f U (d,v) m h (hx 0 _ rfl) (.refl _) h0,?_⟩;rintro u m' h' ⟨rfl,H,hJ⟩;refine aD (λe=>by cases e) (λ_=>?_);refine⟨λz=>z.1<=args.length/\PH.le h z.2.2/\∃C X,F=C++X/\lC z.2.2 (args.drop z.1) (E.drop z.1) (d+1) X/\J (U+1+C.length) z.2.1 z.2.2,λz=>args.length-z.1,⟨(0,m',h'),⟨ay,H,[],F,rfl,G.mono H,hJ⟩,MT⟩,?_⟩;rintro⟨i,mz,hz⟩ ⟨hi,g,C,X,I,n,L⟩;dsimp only at hi g n L⊢
  refine aF (λa1=>?_) (λa2=>?_)
  .have B:i<args.length:=by omega
   rw[drop_eq_getElem_cons B,lC]at n;obtain⟨M,O,P,Y,Q,a3,Z,R,rfl⟩:=n
   have a4:E[i]? =some M:=by
    have:(E.drop i)[0]? =some M:=by rw[Q];rfl
    grind
   have S:O=E.drop (i+1):=by
    have:(E.drop i).drop 1=O:=by rw[Q];rfl
    rw[<-this,drop_drop]
   obtain⟨b,o,ea,rd⟩:=A.get (i:=i) (e:=M.enc) bg;have a5:=sizeOf_lt_of_mem (getElem_mem B);have a6:=Vo (getElem_mem B);refine⟨b,o,ea,aC,aC,M,.imm (rd.mono g),M,args[i],d+1,l,U+1+C.length,P,xs,J,by rw[iS aC],Z,aC,aC,λj e hj=>?_,L,λk e m2 h2 hk y T=>f k e m2 h2 hk (g.trans y) T,λm2 h2 y T=>⟨(i+1,m2,h2),⟨aC,g.trans y,C++P,Y,bg,?_,?_⟩,aC,?_⟩⟩
   .have h5:=(List.getElem?_eq_some_iff.1 hj).1
    have:=hx (1+C.length+j) e (by
     grind)
    grind
   .dsimp only;rw[<-S];exact R.mono y
   .grind
   .dsimp only;rw[iS aC];exact MT
  .have:i=args.length:=by omega
   subst this;rw[drop_of_length_le (Nat.le_refl _),lC]at n;obtain⟨_,rfl⟩:=n;rw[append_nil]at I;subst I;exact D mz hz g bg
theorem X1:bm 139 (bYJ Tryz.prog Pk):=by
 refine iQ func139 ?_;rintro o m h K ⟨l,f,xs,J,rfl,⟨b,v,q,g,rfl,u,y,A,rfl⟩,z,c,d⟩;refine⟨dE [(140,Vw (SizeOf.sizeOf q+1))] [] [] [] false,rfl,aE (TH _) aG,aiX (SizeOf.sizeOf q+1) l b m h K,ax,?_⟩;exact⟨v,.imm u,v,q,1,l,0,g,g,J,rfl,y,aC,aC,λj e B=>bg,z,λk e m' h' C le n=>c k (crJ e) m' h' bg le n,λm' h' le n=>d _ m' h' le bg⟩
theorem azQ:Hy Tryz.prog 139 Pk:=⟨X1⟩
theorem QK:bm 74 Vv:=by
 refine RU func74 ?_;rintro g m h K ⟨v,rfl,j⟩;refine⟨dE [] [] [] [] false,rfl,aG,Xk v m h (cN h K),ax,?_⟩;dsimp only[Xk,push_cast];intro b m' c d _;have sub:Sub m m':=(iT (Sub.refl m) c d).1;refine⟨m,qS h b (QV.enc v),sub,D1 c.h_,λn i o e=>?_,j b _ (D1 c.h_) azZ⟩;by_cases f:n=b
 .subst f;simp only[qS,if_true]at e;exact .inr ⟨_,_,_,d.at_,bg,c.m_⟩
 .simp only[qS,if_neg f]at e;exact .inl e
structure bjX(T E:TypeId)(m mx:MH)(b:Nat)(vs:bt):Prop where
 ex:∃s:Sl,mx b=some (.cells #[.slice s.a s.len s.cap] T (0,0))/\cT mx s E 1 (vs.map λv=>[v])/\∀i x,s.a=some ⟨x,i,none⟩->m x=none
theorem bjX.new{T E:TypeId}(d:m' b=some (.cells #[oM] T (0,0))):bjX T E m m' b []:=⟨⟨none,0,0⟩,d,⟨⟨λe c=>by simp at c,λe c=>by simp at c⟩,.inl ⟨rfl,rfl⟩⟩,λi x e=>by cases e⟩
theorem bqQ{T E:TypeId}{u:MH}{s:Sl}{vs:bt}{e:Value}{Q:MH->Prop}(c:∃o,m b=some o)(B:E6 m u b)(D:u b=some (.cells #[.slice s.a s.len s.cap] T (0,0)))(C:cT u s E 1 (vs.map λv=>[v]))(F:∀i x,s.a=some ⟨x,i,none⟩->m x=none)(G:∀m',E6 m m' b->bjX T E m m' b (vs++[e])->Q m'):
 ∀(y:Sl)(m':MH),fY u m' (Sl.mk s.a s.len s.cap) y E 1 ((vs.map λv=>[v])++[[e]])->
  ∃(cs:Array Value)(E:TypeId),yA m' b (.cells cs E (0,0))/\0<cs.size/\∀m2:MH,lF m' m2 b (.cells (Array.mk (dP y::cs.toList.drop 1)) E (0,0))->Q m2:=by
 obtain⟨O,c⟩:=c;have z:∀i,s.a≠some ⟨b,i,none⟩:=λi d=>bg
 refineλy m' f=>⟨_,_,⟨f.other b _ D z⟩,ay,λm2 A=>G m2 ?_ ⟨y,A.at_,?_,?_⟩⟩
 .intro x o H g;rw[A.other x g];exact f.other x o (B x o H g) (λi d=>bg)
 .have I:(vs++[e]).map (λv=>[v])=vs.map (λv=>[v])++[[e]]:=ay
  rw[I];refine cT.keep f.row (λx i d=>A.other x (λJ=>?_));subst J;rcases f.fresh x i d with n|⟨j,n⟩
  .grind
  grind
 .intro i x d;rcases f.fresh x i d with n|⟨j,n⟩
  .cases L:m x with
   |none=>rfl
   |some o=>
    by_cases M:x=b
    .grind
    .rw[B x o L M]at n;cases n
  grind
theorem cN.rowG{E:TypeId}{hx:PH}{s:Sl}{vs:bt}(sub:Sub m m')(le:PH.le h hx)(C:cT m' s E 1 (vs.map λv=>[v]))(M:∀i b,s.a=some ⟨b,i,none⟩->m b=none)(o:∀h',PH.le hx h'->dC h' s 1 (vs.map λv=>[v])->K (cS s) m h'):cN h K (cS s) m' hx:=by
 intro D;rcases C.ex with⟨rfl,f⟩|⟨b,F,g,rfl,G,O,P,Q,y⟩
 .refine⟨m,hx,sub,le,λb i v e=>.inl e,o hx (.refl _) ?_⟩;rw[f];exact dC.nil _ _
 .have z:∀i,hx b i=none:=D b _ G;refine⟨m,qS hx b g.toList,sub,le.trans (D1 z),λH i v e=>?_,o _ (D1 z) ⟨?_,?_,?_⟩⟩
  .by_cases A:H=b
   .subst A;simp only[qS,if_true]at e
    grind
   .simp only[qS,if_neg A]at e;exact .inl e
  .simp
  .by_cases I:vs.map (λv=>[v])=[]
   .exact .inl I
   .refine .inr ⟨b,0,rfl,λi e d=>⟨λj v B=>?_⟩⟩;rw[getElem?_map]at d;cases c:vs[i]? with
    |none=>grind
    |some u=>
     rw[c]at d;simp at d;subst d;have J:j=0:=bg
     subst J;have B:u=v:=bg
     subst B;have L:=(List.getElem?_eq_some_iff.1 c).1
     have n:∀l:bt,(l.map λv=>[v]).flatten=l:=λl=>by
      induction l with
      |nil=>rfl
      |cons a l R=>grind
     rw[n]at y;rw[<-y,getElem?_take,length_map,if_pos aC]at c;simp only[qS,if_true]
     grind
  omega
def arQ:Vc.Spec:=λc m h K=>∃v q,c=[aQ v]/\dG h q v/\lO q<=900000/\∀d h',PH.le h h'->Ints h' d (dW q)->K (cS d) m h'
theorem aj:bm 59 arQ:=by
 refine I6 func59 ?_;rintro a1 m h K ⟨v,q,rfl,hq,hs,hK⟩;refine⟨{qV [(74,Vv)] [] [] [] [200003,200005,1036,0] [] false with elemT:=[3,41]},rfl,aE QK aG,ae v m h (cN h K),ax,?_⟩;show ae v m h (cN h K);dsimp only[ae,push_cast];intro b Q T A;obtain⟨s1,n1⟩:=iT (Sub.refl m) T A;refine⟨v,rfl,λbw h1 u U=>?_⟩;obtain⟨g,V⟩:=yH.of (hq.mono u) 1;have a2:=V.small;have F:=yH.scans (hq.mono u) V;refine⟨Pk,g.map λe=>((e.1:Int),e.2),λk G W=>W=h1/\E6 Q G b/\bjX 36 3 Q G b ((C2 (g.take k)).map λn=>.int .i64 n),azQ,⟨bw,v,q,g,rfl,U,V,hs,?_⟩,⟨rfl,λx o e _=>e,bjX.new A.at_⟩,?_,?_⟩
 .rw[map_map];rfl
 .rintro k d e' G W R-⟨rfl,B,c⟩ X m2 Y H;rw[getElem?_map]at R;cases I:g[k]? with
  |none=>grind
  |some e=>
   rw[I]at R;simp only[Option.map_some,Option.some.injEq,Prod.mk.injEq]at R;obtain⟨rfl,rfl⟩:=R;refine⟨_,_,⟨H.at_⟩,ay,λS J=>?_⟩
   have up:∀{z o},G z=some o->S z=some o/\z≠X:=fun{z o} C=>by
    have:z≠X:=λZ=>by rw[Z,Y.m_]at C;cases C
    exact⟨by rw[J.other z this,H.other z this];exact C,this⟩
   have L:S X=some (.cells ⟨e.2.enc⟩ 41 (0,0)):=J.at_;have M:E6 Q S b:=λx o C a'=>(up (B x o C a')).1
   have D:bjX 36 3 Q S b ((C2 (g.take k)).map λn=>.int .i64 n):=by
    obtain⟨s,h5,h6,h7⟩:=c.ex;refine⟨s,(up h5).1,cT.keep h6 λz i Z=>?_,h7⟩;obtain⟨a3,h8⟩:=h6.blk Z
    grind
   have a4:C2 (g.take (k+1))=C2 (g.take k)++(if e.2.op==1 then[e.2.table]else[]):=by
    rw[take_add_one,I,Option.toList_some,L6];congr 1;simp only[C2,filter_cons,filter_nil];split<;>rfl
   refine⟨e.2.op,.of_m L rfl,aD (λh5=>?_) (λh5=>⟨rfl,M,bg⟩)⟩;obtain⟨s,y,f,E⟩:=D.ex
   have O:(C2 (g.take k)).length<=g.length:=by
    simp only[C2,length_map]
    grind
   refine⟨s,.of_m y rfl,e.2.table,.of_m L rfl,_,f,bf,bf,bqQ ⟨_,A.at_⟩ M y f E λm' a0 a5=>⟨rfl,a0,?_⟩⟩
   grind
 .rintro G W-⟨rfl,B,c⟩
  rw[length_map,take_length,F]at c;obtain⟨s,y,f,E⟩:=c.ex
  have O:(dW q).length<=g.length:=by
   rw[<-F];simp only[C2,length_map]
   grind
  refine⟨s,.of_m y rfl,cN.rowG (s1.x n1 B) u f (λj z e=>?_) (λh' le P=>hK s h' (u.trans le) ⟨by rw[map_map]at P;exact P,aC⟩)⟩;cases C:m z with
  |none=>rfl
  |some o=>have e1:=E j z e;rw[s1 z o C]at e1;cases e1
structure Gt(s:jQ)(c:Nat)(ls:List br)(k:Nat)(ts:bn):Prop where
 at_:∀(j:Nat)(t:Int),ts[j]? =some t->∃l,ls[k+j]? =some l/\iG (jA s t).length l/\l.length<=c
theorem Gt.left{c k:Nat}{ls:List br}{b:bn}(x:Gt s c ls k (a++b)):Gt s c ls k a:=
 ⟨λj t h=>x.at_ j t bg⟩
theorem Gt.right{c k:Nat}{ls:List br}{b:bn}(x:Gt s c ls k (a++b)):Gt s c ls (k+a.length) b:=
 ⟨λj t h=>by
  have:=x.at_ (a.length+j) t bg
  grind⟩
theorem xY{op:Int}{w:Pred}{on:bu}{args:ce}{ks:bn}(h:aL s ps (.mk op ta w co on gr od li args)=(ks,0)):
 ∃c,fL s ps args=(c,0)/\(c.length:Int)=arity op/\eK s ps (.mk op ta w co on gr od li args) (c.getD 0 []) (c.getD 1 [])=(ks,0):=by
 rw[aL]at h;generalize fL s ps args=r at h;obtain⟨c,e⟩:=r;dsimp only at h;split at h
 .rename_i d;subst d;split at h
  .grind
  .simp[eC]at h
 .rename_i d;simp only[eC,Prod.mk.injEq]at h;omega
theorem qE{q:Query}{e:ce}{d:List bn}(h:fL s ps (q::e)=(d,0)):∃k c,aL s ps q=(k,0)/\fL s ps e=(c,0)/\d=k::c:=by
 rw[fL]at h
 grind
theorem wT{ks:bn}(h:mX l=(ks,0)):ks=l/\l.length<=12:=by
 unfold mX at h
 grind
theorem Rm{op:Int}(h:arity op=0):op=1:=by
 unfold arity at h
 grind
mutual
theorem Yt{s:jQ}{ps:bn}{c:Nat}(f:1<=c):∀{q:Query}{ks:bn},aL s ps q=(ks,0)->1<=gI c q
 |.mk op ta w co on gr od li args,ks,h=>by
  obtain⟨j,d,g,o⟩:=xY h;have e:=apX f d;rw[gI];split
  .exact f
  .rename_i n;split
   .exact e.1
   .match args,d,e with
    |[],d,_=>rw[fL]at d;simp only[Prod.mk.injEq,and_true]at d;rw[<-d]at g;exact absurd (Rm g.symm) n
    |q::qs,d,e=>grind
theorem apX{s:jQ}{ps:bn}{c:Nat}(f:1<=c):∀{e:ce}{d:List bn},fL s ps e=(d,0)->1<=xP c e/\(e≠[]->1<=v8 c e)
 |[],d,h=>by simp[xP]
 |q::e,d,h=>by
  obtain⟨k,g,j,n,y⟩:=qE h;have o:=Yt f j;have u:=apX f n;rw[xP,v8];exact⟨Nat.mul_pos o u.1,λ_=>by omega⟩
end
def Up(c:Nat):ce->List bn->List br->Prop
 |[],[],[]=>True
 |q::qs,k::ks,l::ls=>iG k.length l/\l.length<=gI c q/\Up c qs ks ls
 |_,_,_=>False
theorem U0{α:Type}:∀{l:List α},l.length=2->∃a b,l=[a,b]
 |[a,b],_=>⟨a,b,rfl⟩
theorem Up.len{c:Nat}{d:ce}{ls:List br}(h:Up c d ks ls):d.length=ks.length/\ls.length=ks.length:=by
 induction d generalizing ks ls with
 |nil=>
  match ks,ls,h with
  |[],[],_=>omega
  |_::_,[],h=>exact h.elim
  |[],_::_,h=>exact h.elim
  |_::_,_::_,h=>exact h.elim
 |cons q d e=>
  match ks,ls,h with
  |[],[],h=>exact h.elim
  |_::_,[],h=>exact h.elim
  |[],_::_,h=>exact h.elim
  |k::ks,l::ls,h=>
   obtain⟨f,g⟩:=e h.2.2
   grind
theorem iG.filter{w:Nat}{l:br}(x:iG w l)(p:ca->Bool):iG w (l.filter p):=
 ⟨λr h=>x.row r (mem_filter.1 h).1,λr h=>x.wid r (mem_filter.1 h).1,x.srt.filter p,Nat.le_trans (length_filter_le _ _) x.len⟩
theorem WS(x:ca):∀l:br,(Mq x l).length<=l.length+1
 |[]=>by simp[Mq]
 |y::l=>by
  have:=WS x l;simp only[Mq]
  grind
theorem JV:∀l:br,(Eb l).length<=l.length
 |[]=>by simp[Eb]
 |x::l=>by
  have c:=JV l;have d:=WS x (Eb l);show(Mq x (Eb l)).length<=(x::l).length
  grind
theorem iG.set{w:Nat}{l:br}(c:∀r∈l,Ot r)(d:∀r∈l,r.length=w)(e:l.length<=8000000):iG w (Eb l):=
 ⟨λr h=>c r (ED.1 h),λr h=>d r (ED.1 h),GW l,Nat.le_trans (JV l) e⟩
theorem LH:∀{x y u v:ca},x.length=y.length->eW (x++u) (y++v)=if eW x y≠0 then eW x y else eW u v
 |[],[],u,v,_=>by simp[eW]
 |a::x,b::y,u,v,h=>by
  simp only[length_cons,Nat.add_right_cancel_iff]at h;simp only[cons_append,eW];by_cases e:oZ a b=0
  .simp only[e,ne_eq,not_true_eq_false,if_false];exact LH h
  .simp[e]
 |[],_::_,_,_,h=>by simp at h
 |_::_,[],_,_,h=>by simp at h
theorem DZ{on:bu}{b:br}{x z:ca}(h:z∈kF on b x):∃y∈b,z=x++y:=by
 unfold kF at h
 grind
theorem iG.join{w w':Nat}{a b:br}{on:bu}(d:iG w a)(g:iG w' b)(A:w+w'<=12)(j:a.length*b.length<=8000000):iG (w+w') (a.flatMap (kF on b)):=by
 refine⟨λr h=>?_,λr h=>?_,?_,Nat.le_trans (uY λx _=>yC) j⟩
 .obtain⟨x,c,h⟩:=mem_flatMap.1 h;obtain⟨y,e,rfl⟩:=DZ h;have B:=d.wid x c;have C:=g.wid y e;refine⟨bg,λv f=>?_⟩;rcases mem_append.1 f with f|f
  .exact(d.row x c).val v f
  .exact(g.row y e).val v f
 .obtain⟨x,c,h⟩:=mem_flatMap.1 h;obtain⟨y,e,rfl⟩:=DZ h;rw[length_append,d.wid x c,g.wid y e]
 .refine pairwise_flatMap.2 ⟨λx c=>?_,?_⟩
  .unfold kF;split
   .refine pairwise_map.2 ((g.srt.filter _).imp fun{y z} h=>?_);rw[LH rfl,if_neg (by rw[lB.2 rfl];simp)];exact h
   .exact List.Pairwise.nil
  .refine d.srt.imp_of_mem fun{x y} c e h z n u o=>?_;obtain⟨D,_,rfl⟩:=DZ n;obtain⟨E,_,rfl⟩:=DZ o;rw[LH (by rw[d.wid x c,d.wid y e]),if_pos aC];exact h
theorem U5{c:Int}(h:CQ a c=true):0<=c/\c<a.length:=by
 simp only[CQ,Bool.and_eq_true,decide_eq_true_eq]at h;exact h
theorem Lh{α:Type}{T:List α->α->Prop}{l:List α}(h:Good T l){x:α}(hx:x∈l):∃c,T c x:=by
 obtain⟨i,d,e⟩:=mem_iff_getElem.1 hx;exact⟨_,h i x bg⟩
theorem J9:∀(n:Nat)(l:bn),l.Nodup->(∀x∈l,0<=x/\x<n)->l.length<=n
 |0,[],_,_=>ay
 |0,x::l,_,h=>by have:=h x (mem_cons_self ..);omega
 |n+1,l,c,h=>by
  by_cases e:(n:Int)∈l
  .have f:=J9 n (l.erase n) (c.erase _) (λx d=>by
    grind)
   grind
  .have:=J9 n l c (λx d=>by
    grind)
   omega
theorem Qy{α:Type}{T:List α->α->Prop}{l:List α}(f:α->Int)(d:∀c x,T c x->f x∉c.map f)(h:Good T l):(l.map f).Nodup:=by
 rw[nodup_iff_pairwise_ne,pairwise_map,pairwise_iff_getElem];intro i j o g n e;refine d _ _ (h j l[j] (getElem?_eq_getElem g)) (mem_map.2 ⟨l[i],?_,e⟩);rw[mem_take_iff_getElem]
 grind
theorem Qx(h:Good (Gv a) gr)(j:a.length<=12):jM a.length gr:=by
 have f:∀c∈gr,0<=c/\c<a.length:=λc g=>by obtain⟨_,d⟩:=Lh h g;exact U5 d.1
 have d:=Qy id (λe x(h:Gv a e x)=>bk h.2) h;rw[map_id]at d;exact⟨f,by have:=J9 _ _ d f;omega⟩
theorem Sk{b:bn}{on:bu}(h:Good (nH a b) on)(B:a.length<=12)(C:b.length<=12):jM a.length (kE on)/\jM b.length (fM on):=by
 have n:∀c∈kE on,0<=c/\c<a.length:=λc f=>by
  obtain⟨p,g,rfl⟩:=mem_map.1 f;obtain⟨_,d⟩:=Lh h g;exact U5 d.1
 have d:∀c∈fM on,0<=c/\c<b.length:=λc f=>by
  obtain⟨p,g,rfl⟩:=mem_map.1 f;obtain⟨_,d⟩:=Lh h g;exact U5 d.2.1
 have o:(kE on).Nodup:=Qy Prod.fst (λj x(h:nH a b j x) u=>by
  obtain⟨y,z,e⟩:=mem_map.1 u;exact(h.2.2.2 y z).1 e) h
 have A:=J9 _ _ o n;exact⟨⟨n,aC⟩,⟨d,by simp only[kE,fM,length_map]at A⊢;omega⟩⟩
theorem Wx{w:Nat}{r:ca}(c:Ot r)(e:r.length=w)(f:jM w co)(d:co.length<=12):Ot (pick r co)/\(pick r co).length=co.length:=
 ⟨⟨by simpa[pick]using d,J5 c bg⟩,by simp[pick]⟩
theorem JQ{c:Nat}{q p:Query}:v8 c [q,p]=gI c q+gI c p:=by simp[v8]
theorem Uz{c:Nat}{q:Query}:v8 c [q]=gI c q:=by simp[v8]
theorem boJ{c:Nat}{q p:Query}:xP c [q,p]=gI c q*gI c p:=by simp[xP]
theorem b6Q{c:Nat}{op:Int}{w:Pred}{on:bu}{args:ce}{ks:bn}{u:List bn}{L:List br}(P:op≠1)
 (O:(u.length:Int)=arity op)(G:∀k∈u,k.length<=12)(f:eK s ps (.mk op ta w co on gr od li args) (u.getD 0 []) (u.getD 1 [])=(ks,0))(E:Up c args u L)(n:gI c (.mk op ta w co on gr od li args)<=8000000):
 P5 op (.mk op ta w co on gr od li args) L/\iG ks.length (GH op (.mk op ta w co on gr od li args) L)/\(GH op (.mk op ta w co on gr od li args) L).length<=gI c (.mk op ta w co on gr od li args):=by
 rw[gI,if_neg P]at n⊢
 unfold eK at f;dsimp only at f;split at f
 .simp[eC]at f
 have one:arity op=1->∃q k l,args=[q]/\u=[k]/\L=[l]/\iG k.length l/\l.length<=gI c q/\k.length<=12:=λe=>by
  obtain⟨Q,R⟩:=E.len;obtain⟨k,rfl⟩:=length_eq_one_iff.1 (show u.length=1 by omega);obtain⟨q,rfl⟩:=length_eq_one_iff.1 (show args.length=1 by omega);obtain⟨l,rfl⟩:=length_eq_one_iff.1 (show L.length=1 by omega);exact⟨q,k,l,rfl,rfl,rfl,E.1,E.2.1,G k ay⟩
 have two:arity op=2->∃q p k y l B,args=[q,p]/\u=[k,y]/\L=[l,B]/\iG k.length l/\l.length<=gI c q/\iG y.length B/\B.length<=gI c p/\k.length<=12/\y.length<=12:=λe=>by
  obtain⟨Q,R⟩:=E.len;obtain⟨k,y,rfl⟩:=U0 (show u.length=2 by omega);obtain⟨q,p,rfl⟩:=U0 (show args.length=2 by omega);obtain⟨l,B,rfl⟩:=U0 (show L.length=2 by omega);exact⟨q,p,k,y,l,B,rfl,rfl,rfl,E.1,E.2.1,E.2.2.1,E.2.2.2.1,G k ay,G y ay⟩
 have S:op=2\/op=3\/op=9\/op=4\/op=5\/op=6\/op=7\/op=8\/op=10:=by
  have:0<=arity op:=by omega
  unfold arity at this
  grind
 rcases S with rfl|rfl|rfl|rfl|rfl|rfl|rfl|rfl|rfl
 .obtain⟨q,k,l,rfl,rfl,rfl,j,F,C⟩:=one rfl;simp only[show((2:Int)=4)=False by decide,if_false,if_true]at f n⊢
  split at f
  .obtain⟨rfl,_⟩:=wT f;refine⟨⟨ay,λx z=>bg⟩,j.filter _,Nat.le_trans (length_filter_le _ _) ?_⟩;rw[Uz];exact F
  .rename_i e;simp only[eC,Prod.mk.injEq]at f;omega
 .obtain⟨q,k,l,rfl,rfl,rfl,j,F,C⟩:=one rfl;simp only[show((3:Int)=4)=False by decide,show((3:Int)=2)=False by decide,if_false,if_true]at f n⊢
  split at f
  .rename_i g;obtain⟨rfl,d⟩:=wT f;rw[length_map]at d⊢
   have A:jM k.length co:=⟨λc A=>by obtain⟨_,O⟩:=Lh g.2 A;exact U5 O,aC⟩
   rw[Uz]at n⊢
   refine⟨⟨ay,d,_,j,A⟩,iG.set (λr h=>?_) (λr h=>?_) bg,Nat.le_trans (JV _) bg⟩
   .obtain⟨x,z,rfl⟩:=mem_map.1 h;exact(Wx (j.row x z) (j.wid x z) A d).1
   .obtain⟨x,z,rfl⟩:=mem_map.1 h;exact(Wx (j.row x z) (j.wid x z) A d).2
  .simp[eC]at f
 .obtain⟨q,k,l,rfl,rfl,rfl,j,F,C⟩:=one rfl;simp only[show((9:Int)=4)=False by decide,show((9:Int)=2)=False by decide,show((9:Int)=3)=False by decide,show((9:Int)=5)=False by decide,if_false,if_true]at f n⊢
  split at f
  .rename_i g;obtain⟨rfl,d⟩:=wT f;rw[Uz]at n⊢
   exact⟨⟨ay,⟨_,j,Qx g.group_ C⟩,g.low⟩,j.filter _,Nat.le_trans (length_filter_le _ _) F⟩
  .simp[eC]at f
 .obtain⟨q,p,k,y,l,B,rfl,rfl,rfl,j,F,o,H,C,D⟩:=two rfl;simp only[show((4:Int)=2)=False by decide,show((4:Int)=3)=False by decide,if_false,if_true]at f n⊢
  split at f
  .rename_i g;obtain⟨rfl,d⟩:=wT f;rw[boJ]at n⊢
   have A:=Sk g C D;have J:l.length*B.length<=gI c q*gI c p:=Nat.mul_le_mul F H;rw[length_append]at d⊢
   exact⟨⟨⟨ay,_,_,j,o,A.1,A.2⟩,Nat.le_trans J n⟩,j.join o d (Nat.le_trans J n),Nat.le_trans (uY λx _=>yC) J⟩
  .simp[eC]at f
 .obtain⟨q,p,k,y,l,B,rfl,rfl,rfl,j,F,o,H,C,D⟩:=two rfl;simp only[show((5:Int)=2)=False by decide,show((5:Int)=3)=False by decide,show((5:Int)=4)=False by decide,if_false,if_true]at f n⊢
  split at f
  .rename_i g;obtain⟨rfl,d⟩:=wT f;rw[JQ]at n⊢
   have A:=Sk g C D;exact⟨⟨ay,_,_,j,o,A.1,A.2⟩,j.filter _,Nat.le_trans (length_filter_le _ _) bg⟩
  .simp[eC]at f
 all_goals
  obtain⟨q,p,k,y,l,B,rfl,rfl,rfl,j,F,o,H,C,D⟩:=two rfl
 .simp only[show((6:Int)=2)=False by decide,show((6:Int)=3)=False by decide,show((6:Int)=4)=False by decide,show((6:Int)=5)=False by decide,show((6:Int)=9)=False by decide,show((6:Int)=10)=False by decide,if_false,if_true]at f n⊢
  split at f
  .rename_i g;have g:k=y:=g;subst g;obtain⟨rfl,d⟩:=wT f;rw[JQ]at n⊢
   have I:(l++B).length<=gI c q+gI c p:=bg
   refine⟨⟨ay,λx z=>bg⟩,iG.set (λr h=>?_) (λr h=>?_) (Nat.le_trans I n),Nat.le_trans (JV _) I⟩
   .rcases mem_append.1 h with h|h
    .exact j.row r h
    .exact o.row r h
   .rcases mem_append.1 h with h|h
    .exact j.wid r h
    .exact o.wid r h
  .simp[eC]at f
 .simp only[show((7:Int)=2)=False by decide,show((7:Int)=3)=False by decide,show((7:Int)=4)=False by decide,show((7:Int)=5)=False by decide,show((7:Int)=9)=False by decide,show((7:Int)=10)=False by decide,if_false,if_true]at f n⊢
  split at f
  .rename_i g;have g:k=y:=g;subst g;obtain⟨rfl,d⟩:=wT f;rw[JQ]at n⊢
   exact⟨⟨ay,_,λx z=>by simp at z;rcases z with rfl|rfl;exact j;exact o⟩,j.filter _,Nat.le_trans (length_filter_le _ _) bg⟩
  .simp[eC]at f
 .simp only[show((8:Int)=2)=False by decide,show((8:Int)=3)=False by decide,show((8:Int)=4)=False by decide,show((8:Int)=5)=False by decide,show((8:Int)=9)=False by decide,show((8:Int)=10)=False by decide,if_false,if_true]at f n⊢
  split at f
  .rename_i g;have g:k=y:=g;subst g;obtain⟨rfl,d⟩:=wT f;rw[JQ]at n⊢
   exact⟨⟨ay,_,λx z=>by simp at z;rcases z with rfl|rfl;exact j;exact o⟩,j.filter _,Nat.le_trans (length_filter_le _ _) bg⟩
  .simp[eC]at f
 .simp only[show((10:Int)=2)=False by decide,show((10:Int)=3)=False by decide,show((10:Int)=4)=False by decide,show((10:Int)=5)=False by decide,show((10:Int)=9)=False by decide,if_false,if_true]at f n⊢
  split at f
  .rename_i g;obtain⟨g,M⟩:=g;have g:k=y:=g;subst g;obtain⟨rfl,d⟩:=wT f;rw[JQ]at n⊢
   exact⟨⟨ay,_,j,o,Qx M.group_ C⟩,j.filter _,Nat.le_trans (length_filter_le _ _) bg⟩
  .simp[eC]at f
theorem LK{s:jQ}{ps:bn}{c:Nat}(g:1<=c):∀{d:ce}{e:List bn},fL s ps d=(e,0)->∀q∈d,gI c q<=v8 c d/\gI c q<=xP c d
 |[],_,_,q,f=>by simp at f
 |p::d,e,h,q,f=>by
  obtain⟨k,j,o,n,z⟩:=qE h;have u:=Yt g o;have y:=(apX g n).1;rw[v8,xP];rcases mem_cons.1 f with rfl|f
  .exact⟨aC,Nat.le_mul_of_pos_right _ y⟩
  .have:=LK g n q f;exact⟨aC,Nat.le_trans this.2 (Nat.le_mul_of_pos_left _ u)⟩
theorem Qr{s:jQ}{ps:bn}:∀{e:ce}{c:List bn},fL s ps e=(c,0)->∀k∈c,k.length<=12
 |[],c,h,k,d=>by rw[fL]at h;grind
 |q::e,c,h,k,d=>by
  obtain⟨j,f,n,g,rfl⟩:=qE h;rcases mem_cons.1 d with rfl|d
  .have:=lM s ps q;grind
  .exact Qr g k d
structure cXX(c:Nat)(ls:List br)(q:Query)(k:Nat)(ks:bn):Prop where
 ok:Y0 ls q k
 rel:iG ks.length (iO ls q k).1
 bnd:(iO ls q k).1.length<=gI c q
 nxt:(iO ls q k).2=k+(dW q).length
mutual
theorem Lp{s:jQ}{ps:bn}{c:Nat}{ls:List br}(o:1<=c):∀{q:Query}{ks:bn}{k:Nat},aL s ps q=(ks,0)->Gt s c ls k (dW q)->gI c q<=8000000->cXX c ls q k ks
 |.mk op ta w co on gr od li args,ks,k,h,f,u=>by
  obtain⟨B,g,y,d⟩:=xY h;by_cases e:op=1
  .subst e
   have C:args=[]:=by
    cases args with
    |nil=>rfl
    |cons q G=>obtain⟨_,_,_,_,rfl⟩:=qE g;simp[arity]at y;omega
   subst C;have j:dW (.mk 1 ta w co on gr od li [])=[ta]:=by simp[dW,eD]
   unfold eK at d;dsimp only at d;split at d
   .simp[eC]at d
   try rw[if_pos rfl]at d
   split at d
   .obtain⟨rfl,_⟩:=wT d;rw[j]at f;obtain⟨l,z,H,D⟩:=f.at_ 0 ta rfl;rw[Nat.add_zero]at z;have A:(iO ls (.mk 1 ta w co on gr od li []) k)=(l,k+1):=by rw[iO,if_pos rfl,getD_eq_getElem?_getD,z];rfl
    refine⟨by rw[Y0,if_pos rfl];grind,bg,by rw[A,gI,if_pos rfl];exact D,bg⟩
   .simp[eC]at d
  .have j:dW (.mk op ta w co on gr od li args)=eD args:=by simp[dW,e]
   rw[j]at f
   have n:∀q∈args,gI c q<=8000000:=λq E=>by
    have I:=LK o g q E;rw[gI,if_neg e]at u
    grind
   obtain⟨J,F,L⟩:=TZ o g f n;obtain⟨M,O,P⟩:=b6Q e y (Qr g) d F u;have A:iO ls (.mk op ta w co on gr od li args) k=(GH op (.mk op ta w co on gr od li args) (fU ls args k).1,(fU ls args k).2):=by rw[iO,if_neg e]
   exact⟨by rw[Y0,if_neg e];grind,bg,bg,bg⟩
theorem TZ{s:jQ}{ps:bn}{c:Nat}{ls:List br}(n:1<=c):∀{d:ce}{e:List bn}{k:Nat},fL s ps d=(e,0)->Gt s c ls k (eD d)->(∀q∈d,gI c q<=8000000)->WD ls d k/\Up c d e (fU ls d k).1/\(fU ls d k).2=k+(eD d).length
 |[],e,k,h,_,_=>by
  rw[fL]at h;simp only[Prod.mk.injEq,and_true]at h;subst h;simp[WD,fU,Up,eD]
 |q::d,e,k,h,j,o=>by
  obtain⟨B,u,y,z,rfl⟩:=qE h;rw[eD]at j;have f:=Lp n y j.left (o q (mem_cons_self ..));have g:=TZ n z j.right (λp A=>o p (mem_cons_of_mem _ A));rw[<-f.nxt]at g;rw[WD,fU,eD];refine⟨⟨f.ok,g.1⟩,⟨f.rel,f.bnd,g.2.1⟩,?_⟩;rw[g.2.2,f.nxt,length_append];omega
end
structure B3(m:MH)(tb:Nat)(ws:List cW):Prop where
 ex:∃cur:Array Value,m tb=some (.cells cur 73 (0,0))/\cur.toList.take (ws.length*5)=(ws.map cW.enc).flatten
def aLQ:Vc.Spec:=λd m h K=>∃e g n f j w c,∃t:Nat,d=[aS ⟨e,⟨some ⟨g,0,none⟩,n,f⟩⟩,cI t]/\t<n/\B3 m g j/\j[t]? =some w/\GN h w.columns c/\c.length<=8/\
 ∀o h',PH.le h h'->Ints h' o (c.map pS.kind)->K (cS o) m h'
noncomputable def cjX(cb:Nat):Ctx:=
 qV [(19,Nl),(25,RJ),(72,aNQ),(45,aLQ),(27,Gs)] [] [(5,{A:=Int×Int×MH×PH,st:=λ⟨n,id,m,h⟩=>bU 86 87 [(0,pv cb),(2,.at (.ptr 2 0)),(3,iv n),(4,iv id)] [(2,.cells 27 [.val (.int .i64 0),.val (.slice none 0 0)])] m h}),
  (9,{A:=Int×bZ×MH×PH,st:=λ⟨n,s,m,h⟩=>bU 86 87 [(0,pv cb),(2,.at (.ptr 2 0)),(3,iv n),(5,.at (.ptr 5 0))] [(2,.cells 27 [.val (.int .i64 0),.val (.slice none 0 0)]),(5,.cells 27 (s.enc.map .val))] m h}),
  (11,{A:=Int×bZ×MH×PH,st:=λ⟨n,s,m,h⟩=>bU 86 87 [(0,pv cb),(2,.at (.ptr 2 0)),(3,iv n),(5,.at (.ptr 5 0))] [(2,.cells 27 [.val (.int .i64 0),.val (.slice none 0 0)]),(5,.cells 27 (s.enc.map .val))] m h}),
  (13,{A:=bZ×MH×PH,st:=λ⟨s,m,h⟩=>bU 86 87 [(0,pv cb),(2,.at (.ptr 2 0)),(5,.at (.ptr 5 0))] [(2,.cells 27 [.val (.int .i64 0),.val (.slice none 0 0)]),(5,.cells 27 (s.enc.map .val))] m h}),
  (15,{A:=bZ×MH×PH,st:=λ⟨s,m,h⟩=>bU 86 87 [(2,.at (.ptr 2 0)),(5,.at (.ptr 5 0))] [(2,.cells 27 [.val (.int .i64 0),.val (.slice none 0 0)]),(5,.cells 27 (s.enc.map .val))] m h})] [] [25] [] false
def vA(id:Int):List Am:=
 [⟨⟨⟨[112,114,111,106,101,99,116,115]⟩⟩,[⟨⟨⟨[105,100]⟩⟩,4⟩,⟨⟨⟨[111,119,110,101,114]⟩⟩,4⟩],1,[],[]⟩,
  ⟨⟨⟨[116,97,115,107,115]⟩⟩,[⟨⟨⟨[105,100]⟩⟩,id⟩,⟨⟨⟨[112,114,111,106,101,99,116]⟩⟩,4⟩,⟨⟨⟨[116,105,116,108,101]⟩⟩,5⟩,⟨⟨⟨[100,111,110,101]⟩⟩,3⟩],1,[],[]⟩,
  ⟨⟨⟨[109,101,109,98,101,114,115]⟩⟩,[⟨⟨⟨[112,114,111,106,101,99,116]⟩⟩,4⟩,⟨⟨⟨[112,101,114,115,111,110]⟩⟩,4⟩],2,[],[]⟩,
  ⟨⟨⟨[97,114,99,104,105,118,101,100]⟩⟩,[⟨⟨⟨[116,97,115,107]⟩⟩,id⟩],1,[],[]⟩]
structure Pl(h:PH)(t:Am)(w:cW):Prop where
 name_:w.name=t.name
 key_:w.key=t.key
 cols_:GN h w.columns t.columns
def apJ(h:PH)(id:Int)(ws:List cW):Prop:=ws.length=4/\∀(i:Nat) t,(vA id)[i]? =some t->∃w,ws[i]? =some w/\Pl h t w
structure D4(m0:MH)(h0:PH)(cb:Nat)(tb n:Nat)(id:Int)(ws:List cW)(s:bZ)(m:MH)(h:PH):Prop where
 le_:PH.le h0 h
 ver0:0<=s.version
 ver1:s.version<=2
 case_:bD m h cb
 n2:2<=n
 n4:n<=4
 sl_:∃cap,s.tables=⟨some ⟨tb,0,none⟩,n,cap⟩/\n<=cap
 id_:id=4\/id=5
 new_:m0 tb=none
 ne_:tb≠cb
 row_:B3 m tb ws
 ws_:apJ h id ws
 other_:∀b,b≠cb->b≠tb->m b=m0 b
def aHJ:Vc.Spec:=λc m h K=>∃cb,c=[cP cb]/\bD m h cb/\∀d n id e s m' h',D4 m h cb d n id e s m' h'->K (aS s) m' h'
noncomputable def cHZ:Ctx:=
 qV [(32,aHJ)] [(3,{A:=Nat×bZ×MH×PH,st:=λ⟨i,s,m,h⟩=>bU 25 26 [(2,.at (.ptr 2 0)),(3,.at (.ptr 3 0)),(9,iv s.tables.len),(10,iv i)] [(2,.cells 27 [.val (.int .i64 0),.val (.slice none 0 0)]),(3,.cells 27 (s.enc.map .val))] m h})] [] [] [25] [] false
def Mw(v:bZ)(t:Int)(m:MH)(h:PH)(K:bo):Prop:=
  aY t 0 (K EZ m h) (iA t (kM v) (K EZ m h) (OQ v t m h (λb=>b) (λo=>o) 1 (λy=>y) (λy I x=>aA (I x) (eL 32) (aA (aZ y (pO x)) (bN y (pO x)) (aA (bA x.1) (sS x.2.2) (aA (m=m) (h=h) True)))) (λI d x=>OO (I x) x 0 (λb o y=>aK m h b (o+bM x.1 2) (rQ y.name y.kind)) (λy c=>aA (I c) (d c<d x) (aA (eL 32) (aZ (pO x) (pO c)) (aA (bN (pO x) (pO c)) (gK (bE x.1 1)=bO c.1) (aA (OP x y c) (m=m) (bT h h))))) (tZ h (gW x.2.2) K m))))
theorem chQ(v:bZ)(t:Int)(m:MH)(h:PH)(K:bo):Mw v t m h K=(wW (Vg m h) Tryz.f45 (dX Tryz.f45) (entry Tryz.f45.ntmps [aS v,cI t] m h) K):=ax
abbrev Ej:ct:=oJ hU JJ
abbrev sU:Prop:=eQ (oQ 27 Ej)
abbrev Cn(a:ck)(b:Int)(c:ByteArray)(d:Int)(e:ByteArray->Int->Prop):Prop:=eZ (vX a) b=eZ (rV c) d/\∃(x:ByteArray)(f:Int),e x f
abbrev KS:ck:=fT 105 (fT 100 [])
abbrev KA:ck:=fT 101 (fT 99 (xU 116))
abbrev Ik(a b c d:Nat):ck:=fT a (fT b (fT c (fT d [])))
abbrev BT(a:Option Addr)(b c:Nat):At:=At.val (Value.slice a b c)
abbrev wF(a:Int×bZ×MH×PH):bZ:=a.2.1
abbrev mF(a:Int×bZ×MH×PH):MH×PH:=a.2.2
abbrev rB(a b:bZ):Prop:=oQ 27 (oJ (Ke a) (Kd a))=oQ 27 (oJ (Ke b) (Kd b))
attribute [push_cast] Ej sU Cn KS KA Ik BT wF mF rB
def XG(cb:Nat)(m:MH)(h:PH)(K:bo):Prop:=
  kD cb 3 m h (λk O=>∃(I:Int×Int×MH×PH->Prop),oB cb 5 O h (λc r=>∀(E:MH),bG (bP O E c) (bD E h c) (branch r (∃(x:Int×Int×MH×PH),aA (I x) (cQ cb) (aA iU (dH (fG (2+k)) x.1) (aA (dH 5 x.2.1) sU (aA (dJ E x.2.2) (fC h x.2.2) True)))) (∃(x:Int×Int×MH×PH),aA (I x) (cQ cb) (aA iU (dH (fG (2+k)) x.1) (aA (dH 4 x.2.1) sU (aA (dJ E x.2.2) (fC h x.2.2) True))))))/\∀(x:Int×Int×MH×PH),I x->kD cb 3 x.2.2.1 x.2.2.2 (λP E=>∃(n:ByteArray)(Q:Int),Cn KS 4 n Q (λR S=>Cn (fT 111 (fT 119 (fT 110 (fT 101 (xU 114))))) 4 R S (λT U=>Cn KS x.2.1 T U (λV W=>Cn (fT 112 (fT 114 (fT 111 (fT 106 KA)))) 4 V W (λX Y=>Cn (fT 116
 (fT 105 (fT 116 (fT 108 (xU 101))))) 5 X Y (λZ k7=>Cn (Ik 100 111 110 101) 3 Z k7 (λn6 k8=>Cn (fT 112 (fT 114 (fT 111 (fT 106 KA)))) 4 n6 k8 (λn7 k9=>Cn (fT 112 (fT 101 (fT 114 (fT 115 (fT 111 (fT 110 [])))))) 4 n7 k9 (λn8 a=>eZ (vX (Ik 116 97 115 107)) x.2.1=eZ (rV n8) a/\bY x.2.2.2 2 (lY (rQ n Q) (rQ R S)) (λs h1=>bY h1 2 (rQ T U::rQ V W::lY (rQ X Y) (rQ Z k7)) (λs1 h2=>bY h2 2 (lY (rQ n6 k8) (rQ n7 k9)) (λs2 h3=>bY h3 2 (lT (rQ n8 a)) (λs3 F=>jU (λD H=>sA E H F D 73 5 (bF (Value.string (ByteArray.mk (Array.mk (fT 112 (fT 114 (fT 111 (fT 106 (Ik 101 99 116 115)))))))) (dP s) (bF (fV 1) oM fW)::bF (Value.string (ByteArray.mk
 (Array.mk (fT 116 (fT 97 (fT 115 (fT 107 (xU 115)))))))) (dP s1) (bF (fV 1) oM fW)::lY (bF (Value.string (ByteArray.mk (Array.mk (fT 109 (fT 101 (fT 109 (fT 98 (fT 101 (fT 114 (xU 115)))))))))) (dP s2) (bF (fV 2) oM fW)) (bF (Value.string (ByteArray.mk (Array.mk (fT 97 (fT 114 (fT 99 (fT 104 (Ik 105 118 101 100)))))))) (dP s3) (bF (fV 1) oM fW)))->aA (cH x.1) (x.1<=(↑D.cap:Int)) (∃(I1:Int×bZ×MH×PH->Prop),oB cb 2 H F (λc r=>∀(j:MH),bG (bP H j c) (bD j F c) (branch r (bY F 1 (lT (bB 1)) (λB y=>bJ (λb o=>aI (aW D.a b o) ((0:Int)<=1) (1<(↑x.1.toNat:Int)) (bY y 2 (lT (jX (dP B) cL)) (λC z=>sR j b (o+5+3) (aR C) (λA=>∃(f:Int×bZ×MH×PH),aA (I1 f)
 (cQ cb) (aA (eP 2) (dH x.1 f.1) (aA eN sU (aA (oQ 27 (oJ (j9 P) (BT D.a x.1.toNat D.cap))=oQ 27 (oJ (Ke (wF f)) (Kd (wF f)))) (dJ A (mF f)) (kZ (fC z (mF f)))))))))))) (∃(f:Int×bZ×MH×PH),aA (I1 f) (cQ cb) (aA (eP 2) (dH x.1 f.1) (aA eN sU (aA (oQ 27 (oJ (j9 P) (BT D.a x.1.toNat D.cap))=oQ 27 (oJ (Ke (wF f)) (Kd (wF f)))) (dJ j (mF f)) (kZ (fC F (mF f)))))))))/\∀(f:Int×bZ×MH×PH),I1 f->∃(I2:Int×bZ×MH×PH->Prop),fR f.1 2 (oB cb 3 (mF f).1 (mF f).2 (λc r=>∀(j:MH),bG (bP (mF f).1 j c) (bD j (mF f).2 c) (branch r (bY (mF f).2 1 (lT (oN cL)) (λB y=>HL (wF f) 2 (λb o=>bY y 2 (lT (jX (dP B)
 cL)) (λC z=>sR j b (o+10+3) (aR C) (λA=>∃(e:Int×bZ×MH×PH),aA (I2 e) (cQ cb) (aA (eP 2) (dH f.1 e.1) (aA eN sU (aA (rB (wF f) (wF e)) (dJ A (mF e)) (kZ (fC z (mF e))))))))))) (∃(e:Int×bZ×MH×PH),aA (I2 e) (cQ cb) (aA (eP 2) (dH f.1 e.1) (aA eN sU (aA (rB (wF f) (wF e)) (dJ j (mF e)) (kZ (dA (mF f) (mF e)))))))))) (∃(e:Int×bZ×MH×PH),aA (I2 e) (cQ cb) (aA (eP 2) (dH f.1 e.1) (aA eN sU (aA (rB (wF f) (wF e)) (fJ (mF f) (mF e)) (kZ (dA (mF f) (mF e)))))))/\∀(e:Int×bZ×MH×PH),I2 e->∃(I3:bZ×MH×PH->Prop),fR e.1 3 (oB cb 3 (mF e).1 (mF e).2 (λc r=>∀(j:MH),bG (bP
 (mF e).1 j c) (bD j (mF e).2 c) (branch r (bY (mF e).2 1 (lT (oN cL)) (λB y=>HL (wF e) 3 (λb o=>bY y 2 (lT (jX (dP B) (fV 1))) (λC z=>sR j b (o+15+3) (aR C) (λA=>∃(g:bZ×MH×PH),aA (I3 g) (cQ cb) (aA iU eN (aA sU (rB (wF e) g.1) (aA (dJ A g.2) (fC z g.2) True)))))))) (∃(g:bZ×MH×PH),aA (I3 g) (cQ cb) (aA iU eN (aA sU (rB (wF e) g.1) (aA (dJ j g.2) (dA (mF e) g.2) True))))))) (∃(g:bZ×MH×PH),aA (I3 g) (cQ cb) (aA iU eN (aA sU (rB (wF e) g.1) (aA (fJ (mF e) g.2) (dA (mF e) g.2) True))))/\∀(g:bZ×MH×PH),I3 g->∃(I4:bZ×MH×PH->Prop),oB cb 3 g.2.1 g.2.2 (λc r=>∀(j:MH),bG
 (bP g.2.1 j c) (bD j g.2.2 c) (branch r (∃(v:Int),bJ (λt n9=>∃(c1:Nat)(w:List cW)(w1:cW)(J:List pS)(L:Nat),aA (eZ (kQ (cK g.1)) 1=eZ (kQ (jX (fV v) (Value.slice (pB t) n9 c1))) (↑L:Int)) (L<n9) (aA (B3 j t w) (w[L]? =Option.some w1) (aA (GN g.2.2 w1.columns J) (J.length<=8) (∀(B:Sl)(y:PH),bQ g.2.2 y (Ints y B (List.map pS.kind J)) (CA (λG C t2 M p d=>aA (cY cb (cX B (eZ EZ 1))=cY G (cX C (iZ t2 (↑d:Int)))) (bD j y G) (aA (Ints y C M) (Ints y t2 p) (aI (gS M) (gS p) (nO d) (Fo (λv1 p1=>eT (λA z=>bQ y z (fH z p1 v1) (bG (B5 M p d p1) (bP j A G) (oV A z G (HL g.1 1 (λb o=>bY z 13 (lT v1.enc) (λs7 h7=>sR A b (o+5+4) (aR
 s7) (λm6=>∃(u:bZ×MH×PH),aA (I4 u) iU (aA eN sU (aI (rB g.1 u.1) (dJ m6 u.2) (fC h7 u.2) True)))))))))))))))))))) (∃(u:bZ×MH×PH),aA (I4 u) iU (aA eN sU (aI (rB g.1 u.1) (dJ j u.2) (dA g.2 u.2) True)))))/\∀(u:bZ×MH×PH),I4 u->K (kQ (cK u.1)) u.2.1 u.2.2))))))))))))))))
abbrev FX(a:Nat×bZ×MH×PH):Sl:=a.2.1.tables
attribute [push_cast] FX
def Vf(cb:Nat)(m:MH)(h:PH)(K:bo):Prop:=
  ∃(c:Nat),aA (eO (Oo cb 0) (Oo c 0)) (bD m h c) (∀(t n:Nat)(i:Int)(w:List cW)(s:bZ),eT (λe f=>D4 m h c t n i w s e f->∃(I:Nat×bZ×MH×PH->Prop)(g:Nat×bZ×MH×PH->Nat),(∃(x:Nat×bZ×MH×PH),aA (I x) iU (aA (eP 3) (bN s.tables (FX x)) (aA (bA x.1) sU (aA (rB s x.2.1) (dJ e x.2.2) (kZ (fC f x.2.2))))))/\∀(x:Nat×bZ×MH×PH),I x->aY (↑x.1:Int) (aH (FX x)) (bJ (λb o=>aI (aW (BU x.2.1) b o) (0<=(↑x.1:Int)) ((↑x.1:Int)<aH (FX x)) (sR x.2.2.1 b (o+bM x.1 5+3) fW (λy=>bJ (λj u=>aI (aW (BU x.2.1) j u) (0<=(↑x.1:Int)) ((↑x.1:Int)<aH (FX x)) (sR y j (u+bM x.1 5+4) fW (λz=>∃(d:Nat×bZ×MH×PH),aA (I d) (g d<g x) (aA
 iU jR (aA (bN (FX x) (FX d)) (gK (bE x.1 1)=bO d.1) (aA sU (rB x.2.1 d.2.1) (aA (dJ z d.2.2) (dA x.2.2 d.2.2) True))))))))))) (K (kQ (cK x.2.1)) x.2.2.1 x.2.2.2)))
theorem PB{α:Type}(l:List α)(o:Nat)(x:α)(h:o<l.length):splice l o [x]=l.set o x:=by
 rw[set_eq_take_append_cons_drop,if_pos h];simp[splice]
theorem flatten_set:∀(ws:List cW){i k:Nat}{w w':cW}{x:Value},ws[i]? =some w->k<5->w'.enc=w.enc.set k x->((ws.map cW.enc).flatten).set (i*5+k) x=((ws.set i w').map cW.enc).flatten
 |[],i,k,w,w',x,h,_,_=>by simp at h
 |u::ws,0,k,w,w',x,h,c,e=>by
  simp at h;subst h;simp only[map_cons,flatten_cons,set_cons_zero,Nat.zero_mul,Nat.zero_add,e];rw[set_append_left _ _ (by simpa[cW.enc]using c)]
 |u::ws,i+1,k,w,w',x,h,c,e=>by
  simp only[map_cons,flatten_cons,set_cons_succ];have d:u.enc.length=5:=rfl;rw[set_append_right _ _ aC,d,show(i+1)*5+k-5=i*5+k by omega,flatten_set ws (bk h) c e]
theorem bwQ(ws:List cW):((ws.map cW.enc).flatten).length=ws.length*5:=by
 induction ws with
 |nil=>rfl
 |cons w ws c=>simp only[map_cons,flatten_cons,length_append,c,length_cons];show 5+_=_;omega
theorem B3.big{d:Nat}{ws:List cW}{cs:Array Value}{E:TypeId}{e:Nat×Nat}(h:B3 m d ws)(c:m d=some (.cells cs E e)):ws.length*5<=cs.size:=by
 obtain⟨f,g,j⟩:=h.ex;rw[g]at c;simp only[Option.some.injEq,Obj.cells.injEq]at c;obtain⟨rfl,_,_⟩:=c;have:=congrArg List.length j;rw[bwQ]at this
 grind
theorem B3.store{c:Nat}{ws:List cW}{k:Nat}{w w':cW}{x:Value}(h:B3 m c ws)(f:ws[i]? =some w)(g:k<5)(e:w'.enc=w.enc.set k x){cs:Array Value}{E:TypeId}{j:Nat×Nat}(d:m c=some (.cells cs E j))
 (n:m' c=some (.cells (splice cs.toList (i*5+k) [x]).toArray E (0,0))):B3 m' c (ws.set i w'):=by
 have A:=h.big d;have o:=(List.getElem?_eq_some_iff.1 f).1;obtain⟨u,y,z⟩:=h.ex;rw[y]at d;simp only[Option.some.injEq,Obj.cells.injEq]at d;obtain⟨rfl,rfl,_⟩:=d;refine⟨_,n,?_⟩;rw[PB _ _ _ bf,length_set,toList_toArray,take_set,z];exact flatten_set ws f g e
theorem B3.rd{d:Nat}{ws:List cW}(r:B3 m d ws){j:Nat}{w:cW}{x:Value}(f:ws[i]? =some w)(g:w.enc[j]? =some x):aK m h d (i*5+j) [x]:=by
 obtain⟨n,o,u⟩:=r.ex;refine .of_m o ?_;have c:=oK (xs:=ws.map cW.enc) (sz:=5) (λe y=>by obtain⟨x,_,rfl⟩:=mem_map.1 y;rfl) (by rw[getElem?_map,f];rfl) j x g;rw[<-u,getElem?_take]at c;split at c
 .rw[drop_cons c];rfl
 .cases c
theorem chX{g:Int}{j n u:Nat}{ws:List cW}{w:cW}{cols:List pS}{t:Nat}(I:t<n)(C:B3 m j ws)(D:ws[t]? =some w)(A:GN h w.columns cols)(J:cols.length<=8)
 (E:∀sl h',PH.le h h'->Ints h' sl (cols.map pS.kind)->K (cS sl) m h'):Mw ⟨g,⟨some ⟨j,0,none⟩,n,u⟩⟩ t m h K:=by
 dsimp only[Mw,push_cast];have y:=bL.slen A;refine aF (λF=>by omega) (λF=>aF (λG=>bg) (λG=>?_));refine⟨j,0,rfl,aC,aC,w.columns,?_,λ⟨i,sl,l⟩=>sl=w.columns/\i<=cols.length/\l=(cols.take i).map pS.kind,λ⟨i,_,_⟩=>cols.length-i,⟨(0,w.columns,[]),⟨rfl,ay,ay⟩,MT⟩,?_⟩
 .rw[Nat.zero_add,Int.toNat_natCast];exact C.rd D rfl
 rintro⟨i,_,_⟩ ⟨rfl,L,rfl⟩;dsimp only;refine aF (λf=>?_) (λH sl h' z d=>?_)
 .obtain⟨c,B⟩:=eV y f;obtain⟨b,o,e,r⟩:=GN.at A B;refine⟨b,o,e,aC,f,c,.imm r,?_,?_,(i+1,w.columns,(cols.take (i+1)).map pS.kind),⟨rfl,aC,rfl⟩,aC,?_⟩
  .simp;omega
  .simp;omega
  .rw[jV B,map_append];exact MT
 .rw[take_of_length_le aC]at d;exact E sl h' z ⟨d,bf⟩
theorem Zk:bm 45 aLQ:=by
 refine fK (fn:=Tryz.f45) (c:=dX Tryz.f45) func45 rfl az ?_;rintro e m h K ⟨f,B,n,g,C,w,d,t,rfl,j,o,u,y,z,A⟩;refine⟨Vg m h,rfl,aG,?_⟩;rw[<-chQ];exact chX j o u y z A
theorem Pl.mono{t:Am}{w:cW}(x:Pl h t w)(le:PH.le h h'):Pl h' t w:=⟨x.name_,x.key_,bL.mono x.cols_ le λ_ _ e=>e⟩
theorem apJ.mono{id:Int}{ws:List cW}(x:apJ h id ws)(le:PH.le h h'):apJ h' id ws:=⟨x.1,λi t e=>let⟨w,e1,e2⟩:=x.2 i t e;⟨w,e1,e2.mono le⟩⟩
theorem apJ.set{id:Int}{ws:List cW}{w w':cW}(x:apJ h id ws)(f:ws[i]? =some w)(g:w'.name=w.name)(n:w'.key=w.key)(o:w'.columns=w.columns):apJ h id (ws.set i w'):=by
 refine⟨by rw[length_set];exact x.1,λj t e=>?_⟩;obtain⟨u,d,c⟩:=x.2 j t e;by_cases y:i=j
 .subst y;rw[f]at d;cases d;exact⟨w',bg,⟨by rw[g];exact c.name_,by rw[n];exact c.key_,by rw[o];exact c.cols_⟩⟩
 grind
theorem D4.on{m0 c:MH}{g d:PH}{e n:Nat}{id:Int}{ws:List cW}{s:bZ}(x:D4 m0 g cb e n id ws s m h)(le:PH.le h d)(j:bP m c cb)(u:bD c d cb):D4 m0 g cb e n id ws s c d:=by
 refine⟨x.le_.trans le,x.ver0,x.ver1,u,x.n2,x.n4,x.sl_,x.id_,x.new_,x.ne_,?_,x.ws_.mono le,λb o y=>by rw[j.other b o];exact x.other_ b o y⟩;obtain⟨f,z,A⟩:=x.row_.ex;exact⟨f,by rw[j.other e x.ne_];exact z,A⟩
theorem D4.store{m0:MH}{u:PH}{c n:Nat}{id:Int}{ws:List cW}{s:bZ}(x:D4 m0 u cb c n id ws s m h){k o:Nat}{w w':cW}{y:Value}(d:ws[i]? =some w)(A:k<5)(B:o=i*5+k)(e:w'.enc=w.enc.set k y)(C:w'.name=w.name)(D:w'.key=w.key)(F:w'.columns=w.columns){Q:MH->Prop}
 (G:∀m2,D4 m0 u cb c n id (ws.set i w') s m2 h->Q m2):∃(cs:Array Value)(E:TypeId),yA m c (.cells cs E (0,0))/\o<cs.size/\∀m2:MH,lF m m2 c (.cells (splice cs.toList o [y]).toArray E (0,0))->Q m2:=by
 obtain⟨f,g,M⟩:=x.row_.ex;have H:=(List.getElem?_eq_some_iff.1 d).1;refine⟨f,73,⟨g⟩,by have:=x.row_.big g;omega,λm2 j=>G m2 ?_⟩;subst B;refine⟨x.le_,x.ver0,x.ver1,?_,x.n2,x.n4,x.sl_,x.id_,x.new_,x.ne_,x.row_.store d A e g j.at_,x.ws_.set d C D F,λb I z=>by rw[j.other b z];exact x.other_ b I z⟩;obtain⟨r,q,cs,k,J,L⟩:=x.case_;exact⟨r,q,cs,k,by rw[j.other cb x.ne_.symm];exact J,L⟩
theorem II{h:PH}{s:Sl}{l:List pS}(r:dC h s 2 (l.map pS.enc))(c:l.length<=8):GN h s l:=⟨⟨l,r,rfl,λi x e=>⟨x,e,rfl⟩⟩,aC⟩
theorem sA.tabs{m m':MH}{h:PH}{s:Sl}{w:cW}{ws:List cW}(x:sA m m' h s 73 5 ((w::ws).map cW.enc)):∃f d,s=⟨some ⟨f,0,none⟩,ws.length+1,d⟩/\ws.length+1<=d/\B3 m' f (w::ws)/\cF m h f/\∀b,b≠f->m' b=m b:=by
 rcases x.row.ex with⟨_,e⟩|⟨b,d,g,e,j,n,_,o,u⟩
 .cases e
 .subst e;refine⟨b,d,ay,bg,⟨g,j,bg⟩,x.fresh b 0 rfl,λc y=>x.other c (λi e=>bg)⟩
theorem a6X:bm 32 aHJ:=by
 refine iQ func32 ?_;rintro a7 m h K ⟨cb,rfl,hc,hK⟩;refine⟨cjX cb,rfl,aE Ol (aE CS (aE a2J (aE Zk (aE My aG)))),XG cb m h K,ax,?_⟩;dsimp only[XG,push_cast];refine⟨cb,3,rfl,hc,λk m1 k0 k1 S c1=>?_⟩;have a0:IntKind.i64.wrap (2+k)=2+k:=fB aC aC;rw[a0];refine⟨λ⟨n,id,E,J⟩=>2<=n/\n<=4/\(id=4\/id=5)/\J=h/\bP m E cb/\bD E h cb,⟨cb,5,rfl,aC,aC,c1,λr m2 o2 c2=>aD (λ_=>⟨(2+k,5,m2,h),⟨aC,aC,.inr rfl,rfl,S.trans o2,c2⟩,MT⟩) (λ_=>⟨(2+k,4,m2,h),⟨aC,aC,.inl rfl,rfl,S.trans o2,c2⟩,MT⟩)⟩,?_⟩;clear S c1 m1 a0 k0 k1 k;rintro⟨n,id,m1,J⟩ ⟨n2,n4,a4,rfl,S,c1⟩;dsimp only;refine⟨cb,3,rfl,c1,λk m2 k0 k1 o2 c2=>?_⟩;refine⟨_,_,rfl,_,_,rfl,_,_,rfl,_,_,rfl,_,_,rfl,_,_,rfl,_,_,rfl,_,_,rfl,_,_,rfl,λs1 h1 a1 r1 s2 h2 T r2 s3 h3 F r3 s4 h4 z r4 tl m3 L=>?_⟩;obtain⟨d,f,rfl,M,O,U,P⟩:=sA.tabs (w:=⟨_,s1,1,cE,cE⟩) (ws:=[⟨_,s2,1,cE,cE⟩,⟨_,s3,2,cE,cE⟩,⟨_,s4,1,cE,cE⟩]) L;simp only[length_cons,length_nil]at M;have V:PH.le J h4:=((a1.trans T).trans F).trans z
 have A:d≠cb:=λe=>by
  obtain⟨r,q,cs,j,q1,_⟩:=c2;have:=U.m_
  grind
 have a2:m d=none:=by rw[<-S.other d A, <-o2.other d A];exact U.m_
 have c3:bD m3 h4 cb:=by
  obtain⟨r,q,cs,j,q1,q2,q3⟩:=c2;exact⟨r,q,cs,j,bg,q2.mono V,q3⟩
 have S0:D4 m J cb d n.toNat id _ ⟨k,⟨some ⟨d,0,none⟩,n.toNat,f⟩⟩ m3 h4:=⟨V,k0,bg,c3,aC,aC,⟨f,rfl,aC⟩,a4,a2,A,O,⟨rfl,λi t e=>?_⟩,λb n1 n2=>by rw[P b n2,o2.other b n1,S.other b n1]⟩
 rotate_left
 .match i,e with
  |0,e=>cases e;exact⟨_,rfl,⟨rfl,rfl,II (l:=[⟨_,_⟩,⟨_,_⟩]) (r1.mono ((T.trans F).trans z)) az⟩⟩
  |1,e=>cases e;exact⟨_,rfl,⟨rfl,rfl,II (l:=[⟨_,_⟩,⟨_,_⟩,⟨_,_⟩,⟨_,_⟩]) (r2.mono (F.trans z)) ay⟩⟩
  |2,e=>cases e;exact⟨_,rfl,⟨rfl,rfl,II (l:=[⟨_,_⟩,⟨_,_⟩]) (r3.mono z) az⟩⟩
  |3,e=>cases e;exact⟨_,rfl,⟨rfl,rfl,II (l:=[⟨_,_⟩]) r4 ay⟩⟩
  |i+4,e=>simp[vA]at e
 generalize a5:(cW.mk _ s1 1 cE cE::_)=a8 at S0;clear a5 O L r1 r2 r3 r4;have B:∀{ws:List cW}{i:Nat},ws.length=4->i<4->∃w,ws[i]? =some w:=λhl hi=>⟨_,getElem?_eq_getElem aC⟩
 refine⟨aC,bg,λ⟨W,s,E,X⟩=>W=n/\∃ws,D4 m J cb d n.toNat id ws s E X,⟨cb,2,rfl,aC,aC,c3,λr Y o4 c4=>aD (λ_ s5 G a3 r5=>⟨d,0,rfl,aC,aC,λs6 h6 C r6=>?_⟩) (λ_=>⟨(n,⟨k,⟨some ⟨d,0,none⟩,n.toNat,f⟩⟩,Y,h4),⟨rfl,_,S0.on (.refl _) o4 c4⟩,MT⟩)⟩,?_⟩
 .obtain⟨w,Q⟩:=B (i:=1) S0.ws_.1 aC;exact(S0.on (a3.trans C) o4 (c4.mono (a3.trans C))).store (k:=3) (w':={w with references:=s6}) Q aC rfl rfl rfl rfl rfl λy Z=>⟨(n,⟨k,⟨some ⟨d,0,none⟩,n.toNat,f⟩⟩,y,h6),⟨rfl,_,Z⟩,MT⟩
 clear S0 c3 P U a2 M V a1 T F z S o2 c1 c2;rintro⟨W,s,Y,G⟩ ⟨rfl,ws,S0⟩;dsimp only;obtain⟨f,c,_⟩:=S0.sl_;have o:s.tables.a=some ⟨d,0,none⟩:=by rw[c]
 have H:s.tables.len=W.toNat:=by rw[c]
 refine⟨λ⟨n,s,E,X⟩=>n=W/\∃ws,D4 m J cb d n.toNat id ws s E X,aF (λhn=>⟨cb,3,rfl,aC,aC,S0.case_,λr y R I=>aD (λ_ s7 h7 u r7=>⟨d,0,o,aC,aC,λs8 h8 g r8=>?_⟩) (λ_=>⟨(W,s,y,G),⟨rfl,_,S0.on (.refl _) R I⟩,MT⟩)⟩) (λ_=>⟨(W,s,Y,G),⟨rfl,_,S0⟩,MT⟩),?_⟩
 .obtain⟨w,Q⟩:=B (i:=2) S0.ws_.1 aC;exact(S0.on (u.trans g) R (I.mono (u.trans g))).store (k:=3) (w':={w with references:=s8}) Q aC rfl rfl rfl rfl rfl λy Z=>⟨(W,s,y,h8),⟨rfl,_,Z⟩,MT⟩
 clear S0 o H c;rintro⟨D,s,Y,G⟩ ⟨rfl,ws,S0⟩;dsimp only;obtain⟨f,c,_⟩:=S0.sl_;have o:s.tables.a=some ⟨d,0,none⟩:=by rw[c]
 have H:s.tables.len=D.toNat:=by rw[c]
 refine⟨λ⟨s,E,X⟩=>∃ws,D4 m J cb d D.toNat id ws s E X,aF (λhn=>⟨cb,3,rfl,aC,aC,S0.case_,λr y R I=>aD (λ_ s7 h7 u r7=>⟨d,0,o,aC,aC,λs8 h8 g r8=>?_⟩) (λ_=>⟨(s,y,G),⟨_,S0.on (.refl _) R I⟩,MT⟩)⟩) (λ_=>⟨(s,Y,G),⟨_,S0⟩,MT⟩),?_⟩
 .obtain⟨w,Q⟩:=B (i:=3) S0.ws_.1 aC;exact(S0.on (u.trans g) R (I.mono (u.trans g))).store (k:=3) (w':={w with references:=s8}) Q aC rfl rfl rfl rfl rfl λy Z=>⟨(s,y,h8),⟨_,Z⟩,MT⟩
 clear S0 o H c;rintro⟨s,Y,G⟩ ⟨ws,S0⟩;dsimp only;obtain⟨f,c,_⟩:=S0.sl_;have o:s.tables.a=some ⟨d,0,none⟩:=by rw[c]
 have H:s.tables.len=D.toNat:=by rw[c]
 refine⟨λ⟨s,E,X⟩=>∃ws,D4 m J cb d D.toNat id ws s E X,⟨cb,3,rfl,aC,aC,S0.case_,λr y R I=>aD (λ_=>?_) (λ_=>⟨(s,y,G),⟨_,S0.on (.refl _) R I⟩,MT⟩)⟩,λ⟨s,Y,G⟩⟨ws,S0⟩=>hK _ _ _ _ _ _ _ S0⟩;have S1:=S0.on (.refl _) R I;obtain⟨w,Q,a'⟩:=S1.ws_.2 1 _ rfl;refine⟨s.version,d,D.toNat,f,ws,w,_,1,by rw[c];rfl,aC,S1.row_,Q,a'.cols_,ay,λsl h6 C a6=>?_⟩;refine⟨cb,sl,cE,_,[],1,rfl,I.mono C,a6,⟨dC.nil _ _,ay⟩,ay,ay,aC,λa9 p m6 h7 u hp b' o6 c6=>⟨d,0,o,aC,aC,λs8 h8 g r8=>?_⟩⟩;exact(S1.on ((C.trans u).trans g) o6 (c6.mono g)).store (k:=4) (w':={w with checks:=s8}) Q aC rfl rfl rfl rfl rfl λy Z=>⟨(s,y,h8),⟨_,Z⟩,MT⟩
structure BJ(s:jQ):Prop where
 ex:∃ver n id,0<=ver/\ver<=2/\2<=n/\n<=4/\(id=4\/id=5)/\s=⟨ver,(vA id).take n⟩
def bVJ:Vc.Spec:=λc m h K=>∃cb,c=[cP cb]/\bD m h cb/\∀s v m' h',BJ s->iF h' s v->PH.le h h'->bP m m' cb->bD m' h' cb->K (aS v) m' h'
theorem bxX:bm 9 bVJ:=by
 refine RU func9 ?_;rintro W m h K ⟨cb,rfl,X,Y⟩;refine⟨cHZ,rfl,aE a6X aG,Vf cb m h (cN h K),ax,?_⟩;show Vf cb m h (cN h K);dsimp only[Vf,push_cast];refine⟨cb,rfl,X,λd n id y s I J S1=>?_⟩;refine⟨λ⟨i,z,Z,A⟩=>z=s/\A=J/\i<=n/\∃y,D4 m h cb d n id y s Z J/\∀j w,j<i->y[j]? =some w->w.references=cE/\w.checks=cE,λ⟨i,_,_,_⟩=>n-i,⟨(0,s,I,J),⟨rfl,rfl,aC,y,S1,λj w L=>by omega⟩,MT⟩,?_⟩;clear S1 y I;rintro⟨i,z,I,A⟩ ⟨rfl,rfl,C,y,S1,D⟩;dsimp only;obtain⟨a',E,M⟩:=S1.sl_;have B:z.tables.a=some ⟨d,0,none⟩:=by rw[E]
 have a0:z.tables.len=n:=by rw[E]
 have O:=S1.n4;refine aF (λF=>⟨d,0,B,aC,F,?_⟩) (λa1 f=>?_)
 .obtain⟨w,U⟩:∃w,y[i]? =some w:=⟨_,getElem?_eq_getElem (by have:=S1.ws_.1;omega)⟩
  refine S1.store (i:=i) (k:=3) (w':={w with references:=cE}) U aC aC rfl rfl rfl rfl λm2 S2=>⟨d,0,B,aC,F,?_⟩
  have P:=(List.getElem?_eq_some_iff.1 U).1;have Q:(y.set i {w with references:=cE})[i]? =some {w with references:=cE}:=getElem?_set_self P;refine S2.store (i:=i) (k:=4) (w':={w with references:=cE,checks:=cE}) Q aC aC rfl rfl rfl rfl λm3 S3=>⟨(i+1,z,m3,A),⟨rfl,rfl,aC,_,S3,λj u L hu=>?_⟩,aC,MT⟩
  grind
 .have f:=f;obtain⟨G,H,R⟩:=S1.row_.ex;have a2:∀i,A d i=none:=f d _ H
  have c:PH.le A (λx i=>if x=d then G[i]? else A x i):=⟨λx i v e=>by
   grind⟩
  refine⟨λb=>if b=d then none else I b,λx i=>if x=d then G[i]? else A x i,λb o e=>?_,S1.le_.trans c,λx i v e=>?_,Y ⟨z.version,(vA id).take n⟩ z _ _ ⟨⟨_,_,_,S1.ver0,S1.ver1,S1.n2,S1.n4,S1.id_,rfl⟩⟩ ⟨rfl,?_⟩ (S1.le_.trans c) ⟨λb hb=>?_⟩ ?_⟩
  .grind
  .grind
  .have V:=S1.ws_.1;have O:=S1.n4;refine⟨⟨y.take n,⟨bg,.inr ⟨d,0,B,λi e C=>⟨λj v L=>?_⟩⟩,bg⟩,by simp[vA];omega,λi t e=>?_⟩,bg⟩
   .rw[map_take,getElem?_take]at C;split at C
    .have J:=oK (xs:=y.map cW.enc) (sz:=5) (λe he=>by obtain⟨x,_,rfl⟩:=mem_map.1 he;rfl) C j v L
     grind
    .cases C
   .rw[getElem?_take]at e;split at e
    .rename_i a3;obtain⟨w,e1,e2⟩:=S1.ws_.2 i t e;obtain⟨z1,z2⟩:=D i w aC e1;have S:=e2.mono c
     have g:t.refs=[]/\t.checks=[]:=by
      match i,e with
      |0,e=>cases e;grind
      |1,e=>cases e;grind
      |2,e=>cases e;grind
      |3,e=>cases e;grind
      |i+4,e=>omega
     refine⟨w,bg,⟨S.name_,S.cols_,S.key_,by rw[z1,g.1];exact bL.nil _ _ _ _,by rw[z2,g.2];exact bL.nil _ _ _ _⟩⟩
    .cases e
  .by_cases T:b=d
   .subst T;simp[S1.new_]
   .simp[T];exact S1.other_ b hb T
  .obtain⟨r,q,cs,k,q1,q2,q3⟩:=S1.case_;exact⟨r,q,cs,k,bg,q2.mono c,q3⟩
def QW(q:Query):Prop:=
 match q with
 |.mk _ _ w _ _ _ _ _ args=>D6 w/\∀a∈args,QW a
 termination_by SizeOf.sizeOf q
theorem Ma{op:Int}{w:Pred}{on:bu}{args:ce}:
 QW (.mk op ta w co on gr od li args)↔D6 w/\∀a∈args,QW a:=by rw[QW.eq_def]
def cQJ(s:jQ):Prop:=∀t,Ov (jA s t)
structure bTZ(s:jQ)(ps ks:bn)(q0 q:Query):Prop where
 qw:QW q
 siz:∀d,Du d q0->VP d q
 kin:cQJ s->Ov ps->Ov ks->ks≠[]->ks.length<=12->aL s ps q0=(ks,0)->aL s ps q=(ks,0)
def KQ(K:bo)(m:MH)(h:PH)(cb:Nat)(R:Query->Prop):Prop:=∀w q m' h',PH.le h h'->dG h' q w->R q->bP m m' cb->bD m' h' cb->K (aQ w) m' h'
def aHX:Vc.Spec:=λc m h K=>∃cb sc p k v s ps ks q,c=[cP cb,aS sc,cS p,cS k,aQ v]/\bD m h cb/\iF h s sc/\nU s/\s.tables.length<=1000/\Ints h p ps/\ps.length<=1000/\Ints h k ks/\ks.length<=1000/\dG h q v/\QW q/\KQ K m h cb (bTZ s ps ks q)
noncomputable def ciJ(cb:Nat)(sc:bZ)(p k:Sl)(v:QV):Ctx:=
 dE [(19,Nl),(45,u7),(33,bUX),(25,RJ),(27,Gs)] [(3,{A:=Int×Nat×MH×PH,st:=λ⟨f,n,m,h⟩=>bU 112 117 [(0,pv cb),(2,sv p),(3,sv k),(6,.at (.ptr 6 0)),(9,.at (.ptr 9 0)),(10,.at (.ptr 10 0)),(11,iv f),(12,iv n)] [(6,.cells 27 (sc.enc.map .val)),(9,.cells 41 (v.enc.map .val)),(10,.cells 41 (D9.enc.map .val))] m h}),
  (9,{A:=Int×Nat×Int×Sl×bn×Nat×MH×PH,st:=λ⟨f,n,t,c,d,i,m,h⟩=>bU 112 117 [(0,pv cb),(2,sv p),(3,sv k),(6,.at (.ptr 6 0)),(9,.at (.ptr 9 0)),(10,.at (.ptr 10 0)),(11,iv f),(12,iv n),(13,iv t),(14,sv c),(15,.at (.lst 75)),(45,sv k),(46,iv k.len),(47,iv i)] [(6,.cells 27 (sc.enc.map .val)),(9,.cells 41 (v.enc.map .val)),(10,.cells 41 (D9.enc.map .val)),(75,.lst 3 1 (d.map eI))] m h}),
  (13,{A:=Int×Nat×Int×Sl×bn×Nat×Int×Int×Nat×MH×PH,st:=λ⟨f,n,t,c,d,i,e,g,j,m,h⟩=>bU 112 117 [(0,pv cb),(2,sv p),(3,sv k),(6,.at (.ptr 6 0)),(9,.at (.ptr 9 0)),(10,.at (.ptr 10 0)),(11,iv f),(12,iv n),(13,iv t),(14,sv c),(15,.at (.lst 75)),(17,iv e),(18,iv g),(45,sv k),(46,iv k.len),(47,iv i),(56,iv c.len),(57,iv j)] [(6,.cells 27 (sc.enc.map .val)),(9,.cells 41 (v.enc.map .val)),(10,.cells 41 (D9.enc.map .val)),(75,.lst 3 1 (d.map eI))] m h})] [] [] false
abbrev nZ:Prop:=eP 10
abbrev Cp(a:Int×Nat×Int×Sl×bn×Nat×MH×PH):Sl:=a.2.2.2.1
abbrev Co(a:Int×Nat×Int×Sl×bn×Nat×MH×PH):Nat:=a.2.2.2.2.2.1
abbrev Cq(a:Int×Nat×Int×Sl×bn×Nat×MH×PH):bn:=a.2.2.2.2.1
abbrev xH(a:Int×Nat×Int×Sl×bn×Nat×MH×PH):MH×PH:=a.2.2.2.2.2.2
abbrev KU(a:Int×Nat×Int×Sl×bn×Nat×MH×PH):Nat->Option Obj:=oT a.2.2.2.2.2
abbrev uH(a:Int×Nat×Int×Sl×bn×Nat×MH×PH):Nat->Nat->Option Value:=kV a.2.2.2.2.2
abbrev uJ(a:Int×Nat×Int×Sl×bn×Nat×Int×Int×Nat×MH×PH):Sl:=a.2.2.2.1
abbrev KL(a:Int×Nat×Int×Sl×bn×Nat×Int×Int×Nat×MH×PH):Int:=a.2.2.2.2.2.2.1
abbrev H2(a:Int×Nat×Int×Sl×bn×Nat×Int×Int×Nat×MH×PH):Nat:=a.2.2.2.2.2.1
abbrev Ij(a:Int×Nat×Int×Sl×bn×Nat×Int×Int×Nat×MH×PH):Nat:=a.2.2.2.2.2.2.2.2.1
abbrev DM(a:Int×Nat×Int×Sl×bn×Nat×Int×Int×Nat×MH×PH):bn:=a.2.2.2.2.1
abbrev y9(a:Int×Nat×Int×Sl×bn×Nat×Int×Int×Nat×MH×PH):MH×PH:=a.2.2.2.2.2.2.2.2.2
abbrev KJ(a:Int×Nat×Int×Sl×bn×Nat×Int×Int×Nat×MH×PH):Int:=Int.tmod (fG (a.2.2.2.2.2.2.2.1+(↑(Ij a):Int))) (aH (uJ a))
abbrev H3(a:Prop)(b c d:Nat)(e g:Sl)(i:Prop):Prop:=aA a (b<c) (aA (cQ d) (aJ e) (aA (aJ g) (eP 6) (aA (eP 9) nZ i)))
attribute [push_cast] nZ Cp Co Cq xH KU uH uJ KL H2 Ij DM y9 KJ H3
def XE(cb:Nat)(sc:bZ)(p k:Sl)(v:QV)(m:MH)(h:PH)(K:bo):Prop:=
  kD cb (fG (kM sc+1)) m h (λV W=>∃(I:Int×Nat×MH×PH->Prop)(M:Int×Nat×MH×PH->Nat),(∃(x:Int×Nat×MH×PH),aA (I x) (cQ cb) (aA (aJ p) (aJ k) (aA (eP 6) (eP 9) (aA nZ (dH V x.1) (aA (bA x.2.1) (cG sc) (aA (eJ v) jZ (aA (dJ W x.2.2) (fC h x.2.2) True)))))))/\∀(x:Int×Nat×MH×PH),I x->aY (↑x.2.1:Int) (aH sc.tables) (mK (kM sc=0)/\AQ sc (Int.tmod (fG (x.1+(↑x.2.1:Int))) (kM sc)) (kV x.2) (λs B=>∃(I1:Int×Nat×Int×Sl×bn×Nat×MH×PH->Prop)(A:Int×Nat×Int×Sl×bn×Nat×MH×PH->Nat),(∃(f:Int×Nat×Int×Sl×bn×Nat×MH×PH),aA (I1 f) (cQ cb) (aA (aJ p) (aJ k) (aA (eP 6) (eP 9) (aA nZ (dH x.1 f.1) (aA (cD x.2.1 f.2.1) (dH (Int.tmod (fG (x.1
 +(↑x.2.1:Int))) (kM sc)) f.2.2.1) (aA (aZ s (Cp f)) (eL 75) (aA (aJ k) (bI k) (aA (bA (Co f)) (cG sc) (aA (eJ v) jZ (aA (sS (Cq f)) (fJ x.2.2 (xH f)) (kZ (fC B (xH f)))))))))))))/\∀(f:Int×Nat×Int×Sl×bn×Nat×MH×PH),I1 f->aY (↑(Co f):Int) (aH k) (bJ (λb o=>aI (aW k.a b o) (0<=(↑(Co f):Int)) ((↑(Co f):Int)<aH k) (∃(y:Int),aK (KU f) (uH f) b (o+bM (Co f) 1) (bB y)/\kD cb (aH (Cp f)) (KU f) (uH f) (λX F=>∃(I2:Int×Nat×Int×Sl×bn×Nat×Int×Int×Nat×MH×PH->Prop)(E:Int×Nat×Int×Sl×bn×Nat×Int×Int×Nat×MH×PH->Nat),(∃(e:Int×Nat×Int×Sl×bn×Nat×Int×Int×Nat×MH×PH),aA (I2 e) (cQ
 cb) (aA (aJ p) (aJ k) (aA (eP 6) (eP 9) (aA nZ (dH f.1 e.1) (aA (cD f.2.1 e.2.1) (dH f.2.2.1 e.2.2.1) (aA (aZ (Cp f) (uJ e)) (eL 75) (aA (dH y (KL e)) (dH X e.2.2.2.2.2.2.2.1) (aA (aJ k) (bI k) (aA (cD (Co f) (H2 e)) (bN (Cp f) (uJ e)) (aA (bA (Ij e)) (cG sc) (aA (eJ v) jZ (aA (lK (gW (Cq f)) (DM e)) (dJ F (y9 e)) (kZ (dA (xH f) (y9 e)))))))))))))))/\∀(e:Int×Nat×Int×Sl×bn×Nat×Int×Int×Nat×MH×PH),I2 e->aY (↑(Ij e):Int) (aH (uJ e)) (mK (aH (uJ e)=0)/\bJ (λS T=>aI (aW (uJ e).a S T) (0<=KJ e) (KJ e<aH (uJ e)) (∃(U:Int),aK (oT e.2.2.2.2.2.2.2.2) (kV e.2.2.2.2.2.2.2.2) S
 (T+gY (KJ e) 1) (bB U)/\eU U (KL e) (aA (i7 (jW (gW (DM e)) 1) 8) (dO (gW (DM e))) (∃(g:Int×Nat×Int×Sl×bn×Nat×MH×PH),H3 (I1 g) (A g) (A f) cb p k (aA (dH e.1 g.1) (cD e.2.1 g.2.1) (aA (dH e.2.2.1 g.2.2.1) (aZ (uJ e) (Cp g)) (aA (eL 75) (aJ k) (aA (bI k) (gK (bE (H2 e) 1)=bO (Co g)) (aA (cG sc) (eJ v) (aA jZ (lK (dL (gW (DM e)) (bB (KJ e))) (Cq g)) (aA (fJ (y9 e) (xH g)) (dA (y9 e) (xH g)) True))))))))) (∃(g:Int×Nat×Int×Sl×bn×Nat×Int×Int×Nat×MH×PH),H3 (I2 g) (E g) (E e) cb p k (aA (dH e.1 g.1) (cD e.2.1 g.2.1) (aA (dH e.2.2.1 g.2.2.1) (aZ (uJ e) (uJ g)) (aA (eL 75)
 (dH (KL e) (KL g)) (aA (dH e.2.2.2.2.2.2.2.1 g.2.2.2.2.2.2.2.1) (aJ k) (aA (bI k) (cD (H2 e) (H2 g)) (aA (bN (uJ e) (uJ g)) (gK (bE (Ij e) 1)=bO (Ij g)) (aA (cG sc) (eJ v) (aA jZ (lK (gW (DM e)) (DM g)) (aA (fJ (y9 e) (y9 g)) (dA (y9 e) (y9 g)) True))))))))))))) (∃(g:Int×Nat×Int×Sl×bn×Nat×MH×PH),H3 (I1 g) (A g) (A f) cb p k (aA (dH e.1 g.1) (cD e.2.1 g.2.1) (aA (dH e.2.2.1 g.2.2.1) (aZ (uJ e) (Cp g)) (aA (eL 75) (aJ k) (aA (bI k) (gK (bE (H2 e) 1)=bO (Co g)) (aA (cG sc) (eJ v) (aA jZ (lK (gW (DM e)) (Cq g)) (aA (fJ (y9 e) (xH g)) (dA (y9 e) (xH g))
 True)))))))))))) (eU f.1 (kM sc) (∃(e:Int×Nat×MH×PH),H3 (I e) (M e) (M x) cb p k (aA (dH f.1 e.1) (gK (bE f.2.1 1)=bO e.2.1) (aA (cG sc) (eJ v) (aI jZ (fJ (xH f) e.2.2) (dA (xH f) e.2.2) True)))) (aY (↑(gW (Cq f)).length:Int) (aH k) (∃(e:Int×Nat×MH×PH),H3 (I e) (M e) (M x) cb p k (aA (dH f.1 e.1) (gK (bE f.2.1 1)=bO e.2.1) (aA (cG sc) (eJ v) (aI jZ (fJ (xH f) e.2.2) (dA (xH f) e.2.2) True)))) (AP f.2.2.1 (λt=>oB cb 2 (KU f) (uH f) (λc r=>∀(F:MH),bG (bP (KU f) F c) (bD F (uH f) c) (branch r (CA (λn C H G u d=>aA (cY cb (cX (Cp f) (iZ p 1))=cY n (cX C (iZ H (↑d:Int)))) (bD F (uH f) n)
 (aA (Ints (uH f) C G) (Ints (uH f) H u) (aI (gS G) (gS u) (nO d) (Fo (λj D=>eT (λE z=>bQ (uH f) z (fH z D j) (bG (B5 G u d D) (bP F E n) (oV E z n (bY z 21 (lT (Cd t)) (λJ L=>bY L 1 (gW (Cq f)) (λO P=>bY P 21 (lT (bF (fV 2) cL (bF (fV j.op) (fV j.cmp) (bF (nR j.left) (yQ j.left) (bF (fV (pY j.left)) (tT j.left) (F6 j oM (tP oM (aR J)))))))) (λQ R=>K (kQ (xK 3 (tQ (dP O) (tP oM (aR Q))))) E R))))))))))))/\CA (λn C H G u d=>aA (cY cb (cX (Cp f) (iZ p 1))=cY n (cX C (iZ H (↑d:Int)))) (bD F (uH f) n) (aA (Ints (uH f) C G) (Ints (uH f) H u) (aI (gS G) (gS u) (nO d)
 (Fo (λj D=>eT (λE z=>bQ (uH f) z (fH z D j) (bG (B5 G u d D) (bP F E n) (oV E z n (bY z 21 (lT (Cd t)) (λJ L=>bY L 1 (gW (Cq f)) (λO P=>bY P 21 (lT (bF (fV 2) cL (bF (fV j.op) (fV j.cmp) (bF (nR j.left) (yQ j.left) (bF (fV (pY j.left)) (tT j.left) (F6 j oM (tP oM (aR J)))))))) (λQ R=>K (kQ (xK 3 (tQ (dP O) (tP oM (aR Q))))) E R))))))))))))) (bY (uH f) 1 (gW (Cq f)) (λC z=>bY z 21 (lT (Cd t)) (λJ L=>K (kQ (xK 3 (tQ (dP C) (tP oM (aR J))))) F L))))))))))) (CA (λc s t n u d=>aA (cY cb (cX k (iZ p 1))=cY c (cX s (iZ t (↑d:Int)))) (bD (oT x.2) (kV x.2) c) (aA (Ints (kV x.2) s
 n) (Ints (kV x.2) t u) (aI (gS n) (gS u) (nO d) (Fo (λj D=>eT (λA B=>bQ (kV x.2) B (fH B D j) (bG (B5 n u d D) (bP (oT x.2) A c) (oV A B c (bY B 21 (lT v.enc) (λC z=>K (kQ (bF (fV 2) cL (bF (fV j.op) (fV j.cmp) (bF (nR j.left) (yQ j.left) (bF (fV (pY j.left)) (tT j.left) (F6 j oM (tP oM (aR C)))))))) A z))))))))))/\CA (λc s t n u d=>aA (cY cb (cX k (iZ p 1))=cY c (cX s (iZ t (↑d:Int)))) (bD (oT x.2) (kV x.2) c) (aA (Ints (kV x.2) s n) (Ints (kV x.2) t u) (aI (gS n) (gS u) (nO d) (Fo (λj D=>eT (λA B=>bQ (kV x.2) B (fH B D j) (bG (B5 n u d D) (bP (oT x.2) A c) (oV A B c (bY B 21 (lT v.enc)
 (λC z=>K (kQ (bF (fV 2) cL (bF (fV j.op) (fV j.cmp) (bF (nR j.left) (yQ j.left) (bF (fV (pY j.left)) (tT j.left) (F6 j oM (tP oM (aR C)))))))) A z))))))))))))
theorem mY(h:PH):Ints h cE []:=⟨dC.nil _ _,ay⟩
theorem vB(h:PH):jC h cE []:=⟨dC.nil _ _,ay⟩
theorem u9(h:PH):jB h cE []:=⟨dC.nil _ _,ay⟩
theorem EA(h:PH):fH h fO jG:=Qp (v:=jG) rfl
theorem EH{h:PH}{s:Sl}{v:QV}{q:Query}(r:dC h s 21 [QV.enc v])(c:dG h q v):D5 h s [q]:=⟨⟨[v],r,rfl,λi x e=>by
 grind⟩,ay⟩
theorem EG(h:PH)(t:Int):dG h (.mk 1 t fO [] [] [] [] 0 []) ⟨1,t,jG,cE,cE,cE,cE,0,cE⟩:=
 tU.rep ⟨rfl,rfl,EA h,mY h,vB h,mY h,u9 h,rfl,bL.nil _ _ _ _⟩
theorem QC{v:PV}{s:Sl}{q:Query}(c:fH h p v)(d:D5 h s [q]):dG h (.mk 2 0 p [] [] [] [] 0 [q]) ⟨2,0,v,cE,cE,cE,cE,0,s⟩:=
 tU.rep ⟨rfl,rfl,c,mY h,vB h,mY h,u9 h,rfl,d⟩
theorem NH{h:PH}{c s:Sl}{cols:bn}{q:Query}(d:Ints h c cols)(e:D5 h s [q]):dG h (.mk 3 0 fO cols [] [] [] 0 [q]) ⟨3,0,jG,c,cE,cE,cE,0,s⟩:=
 tU.rep ⟨rfl,rfl,EA h,d,vB h,mY h,u9 h,rfl,e⟩
theorem qG:D6 fO:=⟨tI,tI,trivial⟩
theorem UM{op:Int}{w:Pred}{on:bu}{q:Query}(c:D6 w)(d:QW q):QW (.mk op ta w co on gr od li [q]):=Ma.2 ⟨c,λa e=>bg⟩
theorem J2(t:Int):QW (.mk 1 t fO [] [] [] [] 0 []):=Ma.2 ⟨qG,λa c=>by simp at c⟩
theorem auZ{a:Int}{n:Nat}(c:0<=a)(d:0<n):0<=a.tmod (n:Int)/\a.tmod (n:Int)<(n:Int):=by
 rw[Int.tmod_eq_emod_of_nonneg c];exact⟨Int.emod_nonneg _ aC,Int.emod_lt_of_pos _ aC⟩
theorem Mm{k:bn}{op:Int}{w:Pred}{on:bu}{q:Query}(c:arity op=1)(h:aL s ps q=(k,0)):aL s ps (.mk op ta w co on gr od li [q])=eK s ps (.mk op ta w co on gr od li [q]) k []:=by
 have e:fL s ps [q]=([k],0):=uX (by simp[h]);simp[aL,e,c]
theorem aUX{k c:bn}{op:Int}{w:Pred}{on:bu}{q p:Query}(d:arity op=2)(h:aL s ps q=(k,0))(h':aL s ps p=(c,0)):aL s ps (.mk op ta w co on gr od li [q,p])=eK s ps (.mk op ta w co on gr od li [q,p]) k c:=by
 have e:fL s ps [q,p]=([k,c],0):=uX (by simp[h,h']);simp[aL,e,d]
theorem Lc(h:l.length<=12):mX l=(l,0):=if_pos h
theorem Qq{s:jQ}{ps:bn}{t:Int}(c:0<=t)(d:t<s.tables.length)(e:(jA s t).length<=12):aL s ps (.mk 1 t fO [] [] [] [] 0 [])=(jA s t,0):=by
 have f:aL s ps (.mk 1 t fO [] [] [] [] 0 [])=eK s ps (.mk 1 t fO [] [] [] [] 0 []) [] []:=by simp[aL,fL,arity]
 rw[f];unfold eK;rw[if_neg (by simp[arity,cR])];dsimp only;rw[if_pos rfl,if_pos ⟨c,d⟩,Lc e]
theorem kinds_filter{k:bn}{w:Pred}{q:Query}(h:aL s ps q=(k,0))(c:iC k ps w=0)(d:k.length<=12):aL s ps (.mk 2 0 w [] [] [] [] 0 [q])=(k,0):=by
 rw[Mm az h];unfold eK;rw[if_neg (by simp[arity,cR])];dsimp only;rw[if_neg az,if_pos rfl,if_pos c,Lc d]
theorem RS{k:bn}{q:Query}(h:aL s ps q=(k,0))(d:co≠[])(e:∀c∈co,CQ k c=true)(g:co.length<=12):aL s ps (.mk 3 0 fO co [] [] [] 0 [q])=(co.map λc=>k.getD c.toNat 0,0):=by
 rw[Mm az h];unfold eK;rw[if_neg (by simp[arity,cR])];dsimp only;rw[if_neg az,if_neg az,if_pos rfl,if_pos ⟨d,λj x f=>e x (mem_of_getElem? f)⟩,Lc bg]
structure JE(kt ks co:bn):Prop where
 in_:∀c∈co,CQ kt c=true
 eq_:(co.map λc=>kt.getD c.toNat 0)=ks
theorem JE.kin{c ks:bn}{q:Query}(x:JE c ks co)(h:aL s ps q=(c,0))(d:ks≠[])(f:ks.length<=12):aL s ps (.mk 3 0 fO co [] [] [] 0 [q])=(ks,0):=by
 have g:co.length=ks.length:=by rw[<-x.eq_,length_map]
 rw[RS h (λe=>d (eq_nil_of_length_eq_zero bg)) x.in_ aC,x.eq_]
theorem JE.snoc{d ks:bn}{c x:Int}(p:JE d (ks.take i) co)(hx:ks[i]? =some x)(g:CQ d c=true)(e:d.getD c.toNat 0=x):JE d (ks.take (i+1)) (co++[c]):=
 ⟨λy f=>by
  rcases mem_append.1 f with f|f
  .exact p.in_ y f
  grind,by rw[map_append,p.eq_,take_add_one,hx,map_cons,map_nil,e];rfl⟩
theorem a5J:bm 35 aHX:=by
 refine iQ func35 ?_;rintro c9 m h K ⟨cb,sc,p,k,v,s,ps,ks,q,rfl,hc,hs,h8,d',hp,a9,hk,a1,hq,b',hK⟩;refine⟨ciJ cb sc p k v,rfl,aE Ol (aE Ir (aE SQ (aE CS (aE My aG)))),XE cb sc p k v m h K,by kernel_rfl,?_⟩;have d0:=hs.tables.slen;have b0:=hk.slen;have hw:IntKind.i64.wrap ((sc.tables.len:Int)+1)=(sc.tables.len:Int)+1:=fB aC aC;dsimp only[XE,push_cast];rw[hw];refine⟨cb,_,rfl,hc,λf V f0 f1 o1 c1=>?_⟩;refine⟨λ⟨f,n,E,o⟩=>0<=f/\f<=sc.tables.len/\n<=sc.tables.len/\PH.le h o/\bP m E cb/\bD E o cb,λ⟨_,n,_,_⟩=>sc.tables.len-n,⟨(f,0,V,h),⟨f0,aC,aC,.refl _,o1,c1⟩,MT⟩,?_⟩;clear f0 f1 o1 c1 V hw;rintro⟨f,n,V,o⟩ ⟨f0,f1,hn,z,o1,c1⟩;dsimp only
 have C:∀(kk:Sl)(kl:bn)(E:MH)(o:PH)(Q:PV->Pred->MH->PH->Prop),Ints o kk kl->kl.length<=1000->PH.le h o->bD E o cb->(∀v p m' h',PH.le o h'->fH h' p v->B5 kl ps 1 p->bP E m' cb->bD m' h' cb->Q v p m' h')->
  ∃(D:Nat)(s t:Sl)(cols u:bn)(deep:Nat),[CV.val (.pointer (some ⟨cb,0,none⟩)),CV.val (.slice kk.a kk.len kk.cap),CV.val (.slice p.a p.len p.cap),CV.val (.int .i64 1)]=[CV.val (.pointer (some ⟨D,0,none⟩)),CV.val (.slice s.a s.len s.cap),CV.val (.slice t.a t.len t.cap),CV.val (.int .i64 deep)]/\bD E o D/\Ints o s cols/\Ints o t u/\cols.length<=1000/\u.length<=1000/\deep<=1000/\
   ∀(v:PV)(p:Pred)(m':MH)(h':PH),PH.le o h'->fH h' p v->B5 cols u deep p->bP E m' D->bD m' h' D->Q v p m' h':=λkk kl E o Q h1 h2 H h4 h5=>
  ⟨cb,kk,p,kl,ps,1,rfl,h4,h1,hp.mono H,h2,a9,aC,λv p m' h' q1 q2 W q3 q4=>h5 v p m' h' q1 q2 W q3 q4⟩
 refine aF (λd1=>?_) (λd2=>?_)
 rotate_left
 .have fin:∀(w:PV)(p:Pred)(m':MH)(h':PH),PH.le o h'->fH h' p w->B5 ks ps 1 p->bP V m' cb->bD m' h' cb->∀(s:Sl)(c:PH),PH.le h' c->dC c s 21 [QV.enc v]->K (aQ ⟨2,0,w,cE,cE,cE,cE,0,s⟩) m' c:=λw p m' h' q1 q2 W q3 q4 s h2 S q6=>
   hK _ _ m' h2 ((z.trans q1).trans S) (QC (q2.mono S) (EH q6 (hq.mono ((z.trans q1).trans S)))) ⟨UM W.vals b',λd hf=>hf.filter,λ_ X b3 _ I b4=>kinds_filter b4 (W.valid (by decide) b3 X) I⟩ (o1.trans q3) (q4.mono S)
  exact⟨C k ks V o _ (hk.mono z) a1 z c1 fin,C k ks V o _ (hk.mono z) a1 z c1 fin⟩
 have b5:IntKind.i64.wrap (f+(n:Int))=f+(n:Int):=fB aC aC;rw[b5];refine⟨aC,sc,s,_,rfl,hs.mono z,h8,λA h2 a2 F=>?_⟩;have a3:=F.slen;obtain⟨T,hT⟩:∃T,(f+(n:Int)).tmod (sc.tables.len:Int)=T:=⟨_,rfl⟩
 have a4:=auZ (a:=f+(n:Int)) (n:=sc.tables.len) aC aC;rw[hT]at F a3 a4⊢
 have b6:(jA s T).length<=8:=by
  unfold jA;split
  .simp
  .split
   .simp
   .rename_i t ht;simpa using h8 t (mem_of_getElem? ht)
 obtain⟨R,Y⟩:∃R,jA s T=R:=⟨_,rfl⟩
 have J:aL s ps (.mk 1 T fO [] [] [] [] 0 [])=(R,0):=by rw[Qq a4.1 aC aC,Y]
 have Z:cQJ s->Ov R:=λx=>by rw[<-Y];exact x T
 rw[Y]at F a3 b6;refine⟨λ⟨f',n',t,B,cols,i,E,o⟩=>f'=f/\n'=n/\B=A/\t=T/\i<=ks.length/\cols.length<=i/\(cols.length=i->JE R (ks.take i) cols)/\PH.le h2 o/\bP m E cb/\bD E o cb,λ⟨_,_,_,_,_,i,_,_⟩=>ks.length-i,⟨(f,n,T,A,[],0,V,h2),⟨rfl,rfl,rfl,rfl,aC,by simp,λ_=>⟨by simp,by simp⟩,.refl _,o1,c1.mono a2⟩,MT⟩,?_⟩;rintro⟨f',n',t,A,cols,i,m2,H⟩ ⟨rfl,rfl,rfl,rfl,hi,d3,b7,G,o2,c2⟩;dsimp only;have g:PH.le h H:=(z.trans a2).trans G;refine aF (λU=>?_) (λc6=>?_)
 .obtain⟨x,o⟩:=eV b0 U;obtain⟨b1,b8,e1,r1⟩:=(hk.mono g).at o;refine⟨b1,b8,e1,aC,U,x,.imm (by grind),cb,_,rfl,c2,λfr m3 d4 d5 o3 c3=>?_⟩;refine⟨λ⟨f2,n2,t2,B,a',i2,L,y,j,E,hy⟩=>f2=f'/\n2=n'/\B=A/\t2=t/\a'=cols/\i2=i/\L=x/\E=m3/\hy=H/\j<=A.len/\y=fr,λ⟨_,_,_,_,_,_,_,_,j,_,_⟩=>A.len-j,⟨(f',n',t,A,cols,i,x,fr,0,m3,H),⟨rfl,rfl,rfl,rfl,rfl,rfl,rfl,rfl,rfl,aC,rfl⟩,MT⟩,?_⟩;rintro⟨f2,n2,t2,A,cols,i,L,y,j,m3,H⟩ ⟨rfl,rfl,rfl,rfl,rfl,rfl,rfl,rfl,rfl,hj,rfl⟩;dsimp only;refine aF (λc7=>?_) (λc8=>⟨(f2,n2,t2,_,_,_,_,_),⟨rfl,rfl,rfl,rfl,by show i+1<=ks.length;omega,by show cols.length<=i+1;omega,λe=>by grind,G,o2.trans o3,c3⟩,by grind,MT⟩);have b9:IntKind.i64.wrap (y+(j:Int))=y+(j:Int):=fB aC aC;rw[b9];have hm:=auZ (a:=y+(j:Int)) (n:=Sl.len _) aC (show 0<A.len by omega);obtain⟨b2,c',e2,r2⟩:=(F.mono G).inb (n:=(y+(j:Int)).tmod (A.len:Int)) hm.1 aC;refine⟨aC,b2,c',e2,hm.1,hm.2,_,.imm (by simpa using r2),aD (λek=>⟨by simp;omega,by simp;omega,(f2,n2,t2,_,cols++[(y+(j:Int)).tmod (A.len:Int)],i+1,_,_),⟨rfl,rfl,rfl,rfl,by grind,by simp;omega,λe=>?_,G,o2.trans o3,c3⟩,by grind,?_⟩) (λ_=>⟨(f2,n2,t2,A,cols,i,L,y,j+1,m3,H),⟨rfl,rfl,rfl,rfl,rfl,rfl,rfl,rfl,rfl,by grind,rfl⟩,by grind,MT⟩)⟩
  .have e:(cols++[(y+(j:Int)).tmod (A.len:Int)]).length=i+1:=e;rw[length_append]at e;exact(b7 (by simpa using e)).snoc o (by simp only[CQ,Bool.and_eq_true,decide_eq_true_eq];omega) (by grind)
  .rw[map_append];exact MT
 .have a5:n'+1<=sc.tables.len:=by omega
  have d6:i=ks.length:=by omega
  refine aD (λ_=>⟨(f',n'+1,m2,H),⟨f0,f1,a5,g,o2,c2⟩,by grind,MT⟩) (λ_=>aF (λ_=>⟨(f',n'+1,m2,H),⟨f0,f1,a5,g,o2,c2⟩,by grind,MT⟩) (λd7=>⟨t,rfl,cb,2,rfl,aC,aC,c2,λr m4 o4 c4=>?_⟩))
  have M:JE R ks cols:=by
   grind
  refine aD (λ_=>?_) (λ_ s1 h5 a6 r5 s2 h6 a0 r6=>?_)
  .have fin:∀(w:PV)(p:Pred)(m':MH)(h':PH),PH.le H h'->fH h' p w->B5 R ps 1 p->bP m4 m' cb->bD m' h' cb->∀(s:Sl)(c:PH),PH.le h' c->dC c s 21 [QV.enc ⟨1,t,jG,cE,cE,cE,cE,0,cE⟩]->∀(a7:Sl)(O:PH),PH.le c O->dC O a7 1 (cols.map eI)->∀(a8:Sl)(P:PH),PH.le O P->dC P a8 21 [QV.enc ⟨2,0,w,cE,cE,cE,cE,0,s⟩]->K (aQ ⟨3,0,jG,a7,cE,cE,cE,0,a8⟩) m' P:=λw p m' h' q1 q2 W q3 q4 s h5 S q6 s1 h6 q7 q8 s2 h7 q9 c0=>
    hK _ _ m' h7 ((((g.trans q1).trans S).trans q7).trans q9) (NH (cols:=cols) ⟨q8.mono q9,aC⟩ (EH c0 (QC (q2.mono ((S.trans q7).trans q9)) (EH (q6.mono (q7.trans q9)) (EG _ t))))) ⟨UM qG (UM W.vals (J2 t)),λd _=>VP.three d (tH.one (tH.one tH.scan (by decide)) (by decide)),λc5 X _ hn I _=>M.kin (kinds_filter J (W.valid (by decide) (Z c5) X) aC) hn I⟩ ((o2.trans o4).trans q3) (q4.mono ((S.trans q7).trans q9))
   exact⟨C A R m4 H _ (F.mono G) aC g c4 fin,C A R m4 H _ (F.mono G) aC g c4 fin⟩
  .exact hK _ _ m4 h6 ((g.trans a6).trans a0) (NH (cols:=cols) ⟨r5.mono a0,aC⟩ (EH (v:=⟨1,t,jG,cE,cE,cE,cE,0,cE⟩) r6 (EG _ t))) ⟨UM qG (J2 t),λd _=>VP.three d (tH.mono (tH.one tH.scan (by decide)) (by decide) (by decide) (by decide)),λ_ _ _ hn I _=>M.kin J hn I⟩ (o2.trans o4) (c4.mono (a6.trans a0))
def KQ2(K:bo)(m:MH)(h:PH)(cb:Nat)(s:jQ)(ps:bn)(d:Nat):Prop:=∀w q m' h',PH.le h h'->dG h' q w->QW q->Du d q->(fI s ps q).2=0->bP m m' cb->bD m' h' cb->K (aQ w) m' h'
def arX(N:Nat):Vc.Spec:=λc m h K=>∃cb sc p s ps deep,c=[cP cb,aS sc,cS p,cI deep]/\bD m h cb/\iF h s sc/\eH s=0/\s.tables≠[]/\Ints h p ps/\ps.length<=1000/\ps.all gM=true/\ -1<=deep/\deep<=1000/\(deep+1).toNat<N/\KQ2 K m h cb s ps deep.toNat
noncomputable def crX(N:Nat)(cb:Nat)(sc:bZ)(p:Sl):Ctx:=
 qV [(19,Nl),(33,bUX),(26,Od),(34,bWX),(35,aHX),(36,cxX),(27,Gs),(10,arX N)] [(11,{A:=QV×QV×Sl×Int×MH×PH,st:=λ⟨a,q,k,n,m,h⟩=>bU 171 175 [(0,pv cb),(2,sv p),(5,.at (.ptr 5 0)),(8,.at (.ptr 8 0)),(10,.at (.ptr 10 0)),(11,sv k),(13,.at (.ptr 13 0)),(14,iv n)] [(5,.cells 27 (sc.enc.map .val)),(8,.cells 41 (D9.enc.map .val)),(10,.cells 41 (a.enc.map .val)),(13,.cells 41 (q.enc.map .val))] m h})] [(7,{A:=Int×Int×QV×QV×Sl×MH×PH,st:=λ⟨d,op,a,q,k,m,h⟩=>bU 171 175 [(0,pv cb),(2,sv p),(3,iv d),(5,.at (.ptr 5 0)),(8,.at (.ptr 8 0)),(9,iv op),(10,.at (.ptr 10 0)),(11,sv k),(13,.at (.ptr 13 0))] [(5,.cells 27 (sc.enc.map .val)),(8,.cells 41 (D9.enc.map .val)),(10,.cells 41 (a.enc.map .val)),(13,.cells 41 (q.enc.map .val))] m h}),
  (16,{A:=Int×Int×QV×QV×Sl×Bool×MH×PH,st:=λ⟨d,op,a,q,k,t,m,h⟩=>bU 171 175 [(0,pv cb),(2,sv p),(3,iv d),(5,.at (.ptr 5 0)),(8,.at (.ptr 8 0)),(9,iv op),(10,.at (.ptr 10 0)),(11,sv k),(13,.at (.ptr 13 0)),(59,iv op),(84,bv t)] [(5,.cells 27 (sc.enc.map .val)),(8,.cells 41 (D9.enc.map .val)),(10,.cells 41 (a.enc.map .val)),(13,.cells 41 (q.enc.map .val))] m h}),
  (24,{A:=Int×QV×QV×Sl×Bool×MH×PH,st:=λ⟨op,a,q,k,t,m,h⟩=>bU 171 175 [(0,pv cb),(2,sv p),(5,.at (.ptr 5 0)),(8,.at (.ptr 8 0)),(10,.at (.ptr 10 0)),(11,sv k),(13,.at (.ptr 13 0)),(59,iv op),(122,bv t)] [(5,.cells 27 (sc.enc.map .val)),(8,.cells 41 (D9.enc.map .val)),(10,.cells 41 (a.enc.map .val)),(13,.cells 41 (q.enc.map .val))] m h}),
  (20,{A:=QV×QV×QV×Sl×Sl×MH×PH,st:=λ⟨a,b,q,k,l,m,h⟩=>bU 171 175 [(0,pv cb),(2,sv p),(5,.at (.ptr 5 0)),(8,.at (.ptr 8 0)),(10,.at (.ptr 10 0)),(11,sv k),(13,.at (.ptr 13 0)),(15,.at (.ptr 15 0)),(16,sv l)] [(5,.cells 27 (sc.enc.map .val)),(8,.cells 41 (D9.enc.map .val)),(10,.cells 41 (a.enc.map .val)),(13,.cells 41 (q.enc.map .val)),(15,.cells 41 (b.enc.map .val))] m h}),
  (30,{A:=QV×QV×MH×PH,frz:=true,st:=λ⟨a,q,m,h⟩=>bU 171 175 [(2,sv p),(5,.at (.ptr 5 0)),(8,.at (.ptr 8 0)),(10,.at (.ptr 10 0)),(13,.at (.ptr 13 0))] [(5,.cells 27 (sc.enc.map .val)),(8,.cells 41 (D9.enc.map .val)),(10,.cells 41 (a.enc.map .val)),(13,.cells 41 (q.enc.map .val))] m h})] [] [39,1039,1036] [] false
abbrev Il(a:QV->Query->Prop):Prop:=∀(x:QV)(c:Query),a x c
noncomputable abbrev yS(a:jQ)(b:bn)(c:Query):Int:=(fI a b c).2
abbrev KW(a:cr)(b:PH)(c:jQ->bn->Query->Prop):Prop:=Fp (λx d=>∃(e:QV),Es (λf g=>∃(j:Query),aA (a=cC (cK x) (fZ d (cA e))) (iF b f x) (aA (Ints b d g) (dG b j e) (c f g j))))
abbrev KM(a:Int×Int×QV×QV×Sl×MH×PH):Sl:=a.2.2.2.2.1
abbrev iY(a b:QV):Prop:=pZ 41 a.enc=pZ 41 b.enc
abbrev yX(a:ct)(b:QV):Prop:=oQ 41 a=pZ 41 b.enc
abbrev OS(a:Int)(b:ct):ct:=gA hU hU (gA (j9 a) hU (gA aQz hU (gA (j9 a) hU (gA hU aQz (gA JJ JJ (gA JJ JJ (gA JJ hU b)))))))
abbrev Bg(a:Int×Int×QV×QV×Sl×MH×PH):MH×PH:=a.2.2.2.2.2
abbrev DN(a:Prop)(b:Nat)(c d e:Sl)(g:Prop):Prop:=aA a (cQ b) (aA (aJ c) eN (aA iH nZ (aA (aZ d e) nF g)))
abbrev xL(a:QV×QV×Sl×Int×MH×PH):MH×PH:=a.2.2.2.2
abbrev UR(a:QV×QV×Sl×Int×MH×PH):Sl:=a.2.1.columns
abbrev zA(a:QV×QV×MH×PH):Nat->Option Obj:=a.2.2.1
abbrev zN(a:QV×QV×MH×PH):Nat->Nat->Option Value:=a.2.2.2
abbrev oF(a:Int×QV×QV×Sl×Bool×MH×PH):Sl:=a.2.2.2.1
abbrev DO(a:Int×QV×QV×Sl×Bool×MH×PH):Bool:=a.2.2.2.2.1
abbrev uT(a:Int×QV×QV×Sl×Bool×MH×PH):QV:=a.2.1
abbrev sI(a:Int×QV×QV×Sl×Bool×MH×PH):QV:=a.2.2.1
abbrev qN(a:Int×QV×QV×Sl×Bool×MH×PH):MH×PH:=a.2.2.2.2.2
abbrev mS(a:Int×QV×QV×Sl×Bool×MH×PH):Nat->Nat->Option Value:=(qN a).2
abbrev qL(a:QV×QV×QV×Sl×Sl×MH×PH):Sl×Sl×MH×PH:=a.2.2.2
abbrev uU(a:QV×QV×QV×Sl×Sl×MH×PH):QV:=a.2.2.1
abbrev A3(a:QV×QV×QV×Sl×Sl×MH×PH):Nat->Nat->Option Value:=(iB (qL a)).2
abbrev KZ(a:QV×QV×QV×Sl×Sl×MH×PH):Sl:=(uU a).args
abbrev OR(a:Int×Int×QV×QV×Sl×Bool×MH×PH)(b:Int×QV×QV×Sl×Bool×MH×PH)(c:Prop)(d:bZ):Prop:=aA (dH a.2.1 b.1) c (aA (cG d) jZ (aA (iY (uT a.2) (uT b)) (iY (sI a.2) (sI b)) (aA (fJ (qN a.2) (qN b)) (dA (qN a.2) (qN b)) True)))
attribute [push_cast] Il yS KW KM iY yX OS Bg DN xL UR zA zN oF DO uT sI qN mS qL uU A3 KZ OR
def Yc(N:Nat)(cb:Nat)(sc:bZ)(p:Sl)(deep:Int)(m:MH)(h:PH)(K:bo):Prop:=
  kD cb 12 m h (λk Z=>aY deep 1 (kD cb (ite (kM sc>1) (kM sc) 1) Z h (λF V=>AP F (λt=>K (kQ (Cd t)) V h))) (dR (fG (1+k)==1) (kD cb (ite (kM sc>1) (kM sc) 1) Z h (λF V=>AP F (λt=>K (kQ (Cd t)) V h))) (kM sc==0) (kD cb (ite (kM sc>1) (kM sc) 1) Z h (λF V=>AP F (λt=>K (kQ (Cd t)) V h))) (∃(c:Nat),Fp (λs p1=>Es (λs1 p2=>∃(d:Int),aA (cY cb (cC (cK sc) (iZ p (fG (deep-1))))=cY c (cC (cK s) (iZ p1 d))) (bD Z h c) (aA (iF h s1 s) (eH s1=0) (aA (mK (s1.tables=[])) (Ints h p1 p2) (aA (gS p2) (iE (En p2)) (aI (Int.negSucc 0<=d) (d<=1000) ((d+1).toNat<N) (Il (λw q=>eT (λV h1=>bQ h h1 (dG h1 q w) (bG (QW q)
 (Du d.toNat q) (bG (yS s1 p2 q=0) (bP Z V c) (oV V h1 c (KW (cC (cK sc) (fZ p (cA w))) h1 (λs2 p3 q1=>∀(s3:Sl)(h2:PH),bQ h1 h2 (Ints h2 s3 (fI s2 p3 q1).1) (∃(I:Int×Int×QV×QV×Sl×MH×PH->Prop),jU (λB u=>sA V u h2 B 41 21 (lT w.enc)->∃(x:Int×Int×QV×QV×Sl×MH×PH),aA (I x) (cQ cb) (aA (aJ p) (dH deep x.1) (aA eN iH (aA (dH (fG (1+k)) x.2.1) nZ (aA (aZ s3 (KM x)) nF (aA (cG sc) jZ (aA (iY w x.2.2.1) (yX (gA (j9 (fG (1+k))) hU (gA (j9 0) hU (OS 0 (wA (yG B))))) x.2.2.2.1) (aA (dJ u (Bg x)) (fC h2 (Bg x)) True))))))))/\∀(x:Int×Int×QV×QV×Sl×MH×PH),I x->∃(I1:QV×QV×MH×PH->Prop),eU x.2.1 3 (kD cb 3 (Bg x).1 (Bg x).2
 (λF u=>∃(I2:QV×QV×Sl×Int×MH×PH->Prop)(A:QV×QV×Sl×Int×MH×PH->Nat),(∃(f:QV×QV×Sl×Int×MH×PH),DN (I2 f) cb p (KM x) f.2.2.1 (aA (dH F f.2.2.2.1) (cG sc) (aA jZ (iY x.2.2.1 f.1) (aI (iY x.2.2.2.1 f.2.1) (dJ u (xL f)) (dA (Bg x) (xL f)) True))))/\∀(f:QV×QV×Sl×Int×MH×PH),I2 f->iA f.2.2.2.1 0 (kD cb (aH f.2.2.1) (xL f).1 (xL f).2 (λP D=>∃(e:List bt),aI (cT D (dN (UR f)) 3 1 e) (AL e) (dO e) (jU (λB M=>fY D M (dN (UR f)) B 3 1 (dL e (bB P))->∃(n:QV×QV×Sl×Int×MH×PH),aA (I2 n) (A n<A f) (aA (cQ cb) (aJ p) (aA eN iH (aA nZ (aZ f.2.2.1 n.2.2.1) (aA nF (dH (fG (f.2.2.2.1-1))
 n.2.2.2.1) (aA (cG sc) jZ (aA (iY f.1 n.1) (yX (gA (j9 f.2.1.op) (yT f.2.1) (pQ f.2.1.where_ (gA (yG B) (yG f.2.1.on) (gA (Ef f.2.1) (Eg f.2.1) (oJ (j9 f.2.1.limit) (yG f.2.1.args)))))) n.2.1) (aA (dJ M (xL n)) (dA (xL f) (xL n)) True))))))))))) (GM (xL f).1 (xL f).2->∃(e:QV×QV×MH×PH),aA (I1 e) (aJ p) (aA (eP 5) iH (aA nZ nF (aA (cG sc) jZ (aI (iY f.1 e.1) (iY f.2.1 e.2.1) (Hz (xL f).1 (xL f).2 (zA e) (zN e)) True))))))) (∃(I2:Int×Int×QV×QV×Sl×Bool×MH×PH->Prop),eU x.2.1 4 (∃(f:Int×Int×QV×QV×Sl×Bool×MH×PH),aA (I2 f) (cQ cb) (aA (aJ p) (dH x.1 f.1) (aA eN iH (aA (dH x.2.1 f.2.1) nZ (aA (aZ (KM x) (oF f.2))
 nF (aA (dH x.2.1 f.2.1) (yR (DO f.2)) (aA (cG sc) jZ (aA (iY x.2.2.1 (uT f.2)) (iY x.2.2.2.1 (sI f.2)) (aA (fJ (Bg x) (qN f.2)) (dA (Bg x) (qN f.2)) True))))))))) (∃(f:Int×Int×QV×QV×Sl×Bool×MH×PH),aA (I2 f) (cQ cb) (aA (aJ p) (dH x.1 f.1) (aA eN iH (aA (dH x.2.1 f.2.1) nZ (aA (aZ (KM x) (oF f.2)) nF (aA (dH x.2.1 f.2.1) (kN (x.2.1==5) (DO f.2)) (aA (cG sc) jZ (aA (iY x.2.2.1 (uT f.2)) (iY x.2.2.2.1 (sI f.2)) (aA (fJ (Bg x) (qN f.2)) (dA (Bg x) (qN f.2)) True)))))))))/\∀(f:Int×Int×QV×QV×Sl×Bool×MH×PH),gX (I2 f) (DO f.2) (∃(z:Nat),Fp (λB H=>Es (λG J=>∃(Q:Int),aA (cY cb (cC (cK
 sc) (iZ p (fG (f.1-2))))=cY z (cC (cK B) (iZ H Q))) (bD (qN f.2).1 (mS f.2) z) (aA (iF (mS f.2) G B) (eH G=0) (aA (mK (G.tables=[])) (Ints (mS f.2) H J) (aA (gS J) (iE (En J)) (aI (Int.negSucc 0<=Q) (Q<=1000) ((Q+1).toNat<N) (Il (λS L=>eT (λu j=>bQ (mS f.2) j (dG j L S) (bG (QW L) (Du Q.toNat L) (bG (yS G J L=0) (bP (qN f.2).1 u z) (oV u j z (KW (cC (cK sc) (fZ p (cA S))) j (λW p6 Y=>∀(T:Sl)(R:PH),bQ j R (Ints R T (fI W p6 Y).1) (∃(I3:QV×QV×QV×Sl×Sl×MH×PH->Prop),eU f.2.1 4 (fR (fG (aH (oF f.2)+aH T)) 8 (∃(e:QV×QV×QV×Sl×Sl×MH×PH),DN (I3 e) cb p (oF f.2) (qL e).1 (aA (eP 15)
 (aZ T (qL e).2.1) (aA (cG sc) jZ (aA (iY (uT f.2) e.1) (yX (gA (j9 5) (yT (sI f.2)) (BQ (sI f.2) (sI f.2).on (Ef (sI f.2)) (Eg (sI f.2)) (oJ (j9 (sI f.2).limit) (yG (sI f.2).args)))) (uU e)) (aA (iY S e.2.1) (dJ u (iB (qL e))) (kZ (fC R (iB (qL e))))))))) (∃(e:QV×QV×QV×Sl×Sl×MH×PH),DN (I3 e) cb p (oF f.2) (qL e).1 (aA (eP 15) (aZ T (qL e).2.1) (aA (cG sc) jZ (aA (iY (uT f.2) e.1) (iY (sI f.2) (uU e)) (aA (iY S e.2.1) (dJ u (iB (qL e))) (kZ (fC R (iB (qL e)))))))))) (∃(e:QV×QV×QV×Sl×Sl×MH×PH),DN (I3 e) cb p (oF f.2) (qL e).1 (aA (eP 15) (aZ T (qL e).2.1) (aA (cG sc) jZ (aA (iY
 (uT f.2) e.1) (iY (sI f.2) (uU e)) (aA (iY S e.2.1) (dJ u (iB (qL e))) (kZ (fC R (iB (qL e)))))))))/\∀(e:QV×QV×QV×Sl×Sl×MH×PH),I3 e->(∃(E:Nat)(X:Sl),Aw (λt a b=>aA (cY cb (cJ (qL e).1 (qL e).2.1)=cY E (cJ X t)) (bD (iB (qL e)).1 (A3 e) E) (aA (Ints (A3 e) X a) (Ints (A3 e) t b) (aA (gS a) (gS b) (∀(o:Sl)(U:bu),eT (λA O=>bQ (A3 e) O (jC O o U) (bG (U.length<=10) (bP (iB (qL e)).1 A E) (oV A O E (jU (λs9 D=>sA A D O s9 41 21 (lT e.2.1.enc)->∃(n:List bt),Fs (cT D (dN (KZ e)) 41 21 n) (λy=>aA (fN 21 y) (uN D O (dN s9) 21 y) (aA (sL n y 280) (sM n y) (∀(a1:Sl)
 (M:MH),bG (fY D M (dN (KZ e)) a1 41 21 (n++y)) (GM M O) (∃(C:QV×QV×MH×PH),aA (I1 C) (aJ p) (aA (eP 5) iH (aA nZ nF (aA (cG sc) jZ (aI (iY e.1 C.1) (yX (gA (j9 (uU e).op) (yT (uU e)) (BQ (uU e) o (Ef (uU e)) (Eg (uU e)) (oJ (j9 (uU e).limit) (yG a1)))) C.2.1) (Hz M O (zA C) (zN C)) True))))))))))))))))))/\jU (λX A=>sA (iB (qL e)).1 A (A3 e) X 41 21 (lT e.2.1.enc)->∃(E:Nat)(s9:Sl),Aw (λt a b=>aA (cY cb (cJ (qL e).1 (qL e).2.1)=cY E (cJ s9 t)) (bD A (A3 e) E) (aA (Ints (A3 e) s9 a) (Ints (A3 e) t b) (aA (gS a) (gS b) (∀(o:Sl)(U:bu),eT (λD O=>bQ (A3 e) O (jC O o U)
 (bG (U.length<=10) (bP A D E) (oV D O E (∃(n:List bt),Fs (cT D (dN (KZ e)) 41 21 n) (λy=>aA (fN 21 y) (uN D O (dN X) 21 y) (aA (sL n y 280) (sM n y) (∀(a1:Sl)(M:MH),bG (fY D M (dN (KZ e)) a1 41 21 (n++y)) (GM M O) (∃(C:QV×QV×MH×PH),aA (I1 C) (aJ p) (aA (eP 5) iH (aA nZ nF (aA (cG sc) jZ (aI (iY e.1 C.1) (yX (gA (j9 (uU e).op) (yT (uU e)) (BQ (uU e) o (Ef (uU e)) (Eg (uU e)) (oJ (j9 (uU e).limit) (yG a1)))) C.2.1) (Hz M O (zA C) (zN C)) True))))))))))))))))))))))))))))))))) (∃(I3:Int×QV×QV×Sl×Bool×MH×PH->Prop),dR (f.2.1==6) (∃(e:Int×QV×QV×Sl×Bool×MH×PH),DN (I3 e) cb p (oF f.2) (oF e)
 (OR f e (yR (DO e)) sc)) (f.2.1==7) (∃(e:Int×QV×QV×Sl×Bool×MH×PH),DN (I3 e) cb p (oF f.2) (oF e) (OR f e (yR (DO e)) sc)) (∃(e:Int×QV×QV×Sl×Bool×MH×PH),DN (I3 e) cb p (oF f.2) (oF e) (OR f e (kN (f.2.1==8) (DO e)) sc))/\∀(e:Int×QV×QV×Sl×Bool×MH×PH),I3 e->dR (DO e) (∃(z:Nat)(B:bZ),qP (λH F=>∃(v:QV),Es (λG J=>∃(P:bn)(L:Query),aA (cY cb (cC (cK sc) (cX p (fZ (oF e) (cA (uT e)))))=cY z (cC (cK B) (cX H (fZ F (cA v))))) (bD (qN e).1 (mS e) z) (aA (iF (mS e) G B) (nU G) (aA (nO G.tables.length) (Ints (mS e) H J) (aA (gS J) (Ints (mS e) F P) (aI (gS P) (dG
 (mS e) L v) (QW L) (Il (λS Y=>eT (λu j=>bQ (mS e) j (dG j Y S) (bG (bTZ G J P L Y) (bP (qN e).1 u z) (oV u j z (jU (λW A=>sA u A j W 41 21 (lT S.enc)->∃(n:List bt),Fs (cT A (dN (sI e).args) 41 21 n) (λy=>aA (fN 21 y) (uN A j (dN W) 21 y) (aA (sL n y 280) (sM n y) (∀(T:Sl)(D:MH),bG (fY A D (dN (sI e).args) T 41 21 (n++y)) (GM D j) (∃(C:QV×QV×MH×PH),aA (I1 C) (aJ p) (aA (eP 5) iH (aA nZ nF (aA (cG sc) jZ (aI (iY (uT e) C.1) (yX (qQ (sI e) (yG T)) C.2.1) (Hz D j (zA C) (zN C)) True)))))))))))))))))))))) (e.1==9) (∃(z:Nat)(v:QV),rT (λB F=>aA (cY cb (lG (sI e) (oF e))=
 cY z (eF (vI v v (vP v (bF (dP v.on) oM (bF oM (uL v) (aR v.args))))) (mQ B))) (bD (qN e).1 (mS e) z) (aA (Ints (mS e) B F) (gS F) (∀(g o:Sl)(P:Int)(g1:bn)(U:bz),eT (λu j=>bQ (mS e) j (Ints j g g1) (bG (jB j o U) (g1.length<=F.length) (bG (U.length<=F.length) (cH P) (bG (P<=3) (bP (qN e).1 u z) (bG (bD u j z) (GM u j) (∃(n:QV×QV×MH×PH),aA (I1 n) (aJ p) (aA (eP 5) iH (aA nZ nF (aA (cG sc) jZ (aI (iY (uT e) n.1) (yX (gA (j9 v.op) (yT v) (BQ v v.on (yG g) (yG o) (oJ (j9 P) (yG v.args)))) n.2.1) (Hz u j (zA n) (zN n)) True)))))))))))))) (eU e.1 10 (∃(z:Nat)(v:QV),rT (λB F=>aA (cY cb (lG
 (sI e) (oF e))=cY z (eF (vI v v (vP v (bF (dP v.on) oM (bF oM (uL v) (aR v.args))))) (mQ B))) (bD (qN e).1 (mS e) z) (aA (Ints (mS e) B F) (gS F) (∀(g o:Sl)(P:Int)(g1:bn)(U:bz),eT (λu j=>bQ (mS e) j (Ints j g g1) (bG (jB j o U) (g1.length<=F.length) (bG (U.length<=F.length) (cH P) (bG (P<=3) (bP (qN e).1 u z) (oV u j z (∃(E:Nat)(G:bZ),qP (λH k3=>∃(v1:QV),Es (λW J=>∃(k4:bn)(L:Query),aA (cY cb (cC (cK sc) (cX p (fZ (oF e) (cA (uT e)))))=cY E (cC (cK G) (cX H (fZ k3 (cA v1))))) (bD u j E) (aA (iF j W G) (nU W) (aA (nO W.tables.length) (Ints j H J) (aA (gS J) (Ints
 j k3 k4) (aI (gS k4) (dG j L v1) (QW L) (Il (λS Y=>eT (λA R=>bQ j R (dG R Y S) (bG (bTZ W J k4 L Y) (bP u A E) (oV A R E (jU (λT D=>sA A D R T 41 21 (lT S.enc)->∃(n:List bt),Fs (cT D (dN v.args) 41 21 n) (λy=>aA (fN 21 y) (uN D R (dN T) 21 y) (aA (sL n y 280) (sM n y) (∀(X:Sl)(M:MH),bG (fY D M (dN v.args) X 41 21 (n++y)) (GM M R) (∃(C:QV×QV×MH×PH),aA (I1 C) (aJ p) (aA (eP 5) iH (aA nZ nF (aA (cG sc) jZ (aI (iY (uT e) C.1) (yX (gA (j9 v.op) (yT v) (BQ v v.on (yG g) (yG o) (oJ (j9 P) (yG X)))) C.2.1) (Hz M R (zA C) (zN C)) True))))))))))))))))))))))))))))))) (CA (λz B t E H Q=>aA (cY cb
 (cX (oF e) (iZ p 2))=cY z (cX B (iZ t (↑Q:Int)))) (bD (qN e).1 (mS e) z) (aA (Ints (mS e) B E) (Ints (mS e) t H) (aI (gS E) (gS H) (nO Q) (Fo (λv J=>eT (λu j=>bQ (mS e) j (fH j J v) (bG (B5 E H Q J) (bP (qN e).1 u z) (oV u j z (∀(G:Sl)(A:MH),bG (sA u A j G 41 21 (lT (uT e).enc)) (GM A j) (∃(n:QV×QV×MH×PH),aA (I1 n) (aJ p) (aA (eP 5) iH (aA nZ nF (aA (cG sc) jZ (aI (iY (uT e) n.1) (yX (gA (j9 2) hU (pQ v (gA JJ JJ (gA JJ JJ (oJ hU (yG G)))))) n.2.1) (Hz A j (zA n) (zN n)) True))))))))))))))/\jU (λB u=>sA (qN e).1 u (mS e) B 41 21 (lT (uT e).enc)->CA (λz G t E H Q=>
 aA (cY cb (cX (oF e) (iZ p 2))=cY z (cX G (iZ t (↑Q:Int)))) (bD u (mS e) z) (aA (Ints (mS e) G E) (Ints (mS e) t H) (aI (gS E) (gS H) (nO Q) (Fo (λv J=>eT (λA j=>bQ (mS e) j (fH j J v) (bG (B5 E H Q J) (bP u A z) (bG (bD A j z) (GM A j) (∃(n:QV×QV×MH×PH),aA (I1 n) (aJ p) (aA (eP 5) iH (aA nZ nF (aA (cG sc) jZ (aI (iY (uT e) n.1) (yX (gA (j9 2) hU (pQ v (gA JJ JJ (gA JJ JJ (oJ hU (yG B)))))) n.2.1) (Hz A j (zA n) (zN n)) True))))))))))))))))))/\∀(f:QV×QV×MH×PH),I1 f->KW (cC (cK sc) (fZ p (cA f.2.1))) (zN f) (λB H L=>∀(G:Sl)(j:PH),bQ (zN f) j (Ints j G (fI B H
 L).1) (cV (yS B H L) 0 (K (cA f.1) (zA f) j) (K (cA f.2.1) (zA f) j)))))))))))))))))))))
structure vZ(m0 m:MH)(s:Sl)(E:TypeId)(sz:Nat)(xs:List bt):Prop where
 row:cT m s E sz xs
 fresh:∀b i,s.a=some ⟨b,i,none⟩->m0 b=none
def Kept(m0 m:MH)(cb:Nat):Prop:=∀b o,m0 b=some o->b≠cb->m b=some o
theorem Kept.of{m0:MH}(h:bP m0 m cb):Kept m0 m cb:=λb o e n=>by rw[h.other b n];exact e
theorem Kept.on{m0:MH}(k:Kept m0 m cb)(h:bP m m' cb):Kept m0 m' cb:=λb o e n=>by rw[h.other b n];exact k b o e n
theorem bD.blk(c:bD m h cb):∃cs,m cb=some (.cells cs 86 (0,0)):=by
 obtain⟨r,q,cs,k,d,_⟩:=c
 grind
theorem bD.keep(c:bD m h cb)(e:m' cb=m cb)(le:PH.le h h'):bD m' h' cb:=by
 obtain⟨r,q,d,k,j,f,g⟩:=c;exact⟨r,q,d,k,bg,f.mono le,g⟩
theorem Kept.free{m0:MH}(k:Kept m0 m cb)(c:bD m h cb)(d:m b=none):m0 b=none:=by
 cases e:m0 b with
 |none=>rfl
 |some o=>
  by_cases f:b=cb
  .obtain⟨g,j⟩:=c.blk
   grind
  .rw[k b o e f]at d;cases d
theorem cT.nil(m:MH)(E:TypeId)(sz:Nat):cT m cE E sz []:=⟨⟨λ_ h=>by simp at h,λ_ h=>by simp at h⟩,.inl ⟨rfl,rfl⟩⟩
theorem vZ.nil(m0 m:MH)(E:TypeId)(sz:Nat):vZ m0 m cE E sz []:=⟨cT.nil m E sz,λb i e=>by cases e⟩
theorem vZ.on{m0:MH}{s:Sl}{E:TypeId}(r:vZ m0 m s E sz xs)(o:bP m m' cb)(c:bD m h cb)(f:E≠86):vZ m0 m' s E sz xs:=by
 refine⟨cT.keep r.row (λb i e=>o.other b (λg=>?_)),r.fresh⟩;obtain⟨d,j⟩:=cT.blk r.row e;obtain⟨n,u⟩:=c.blk
 grind
theorem vZ.new{m0:MH}{s t:Sl}{E E':TypeId}{c:Nat}{f:List bt}(r:vZ m0 m s E sz xs)(x:sA m m' h t E' c f):vZ m0 m' s E sz xs:=by
 refine⟨cT.keep r.row (λb i e=>x.other b (λj g=>?_)),r.fresh⟩;obtain⟨n,d⟩:=cT.blk r.row e;rw[(x.fresh b j g).m_]at d;cases d
theorem sA.frow{m0:MH}{s:Sl}{E:TypeId}(x:sA m m' h s E sz xs)(k:Kept m0 m cb)(c:bD m h cb):vZ m0 m' s E sz xs:=⟨x.row,λb i e=>k.free c (x.fresh b i e).m_⟩
theorem sA.at_cb{s:Sl}{E:TypeId}(x:sA m m' h s E sz xs)(c:bD m h cb):m' cb=m cb:=x.other cb (λi e=>by
 obtain⟨f,d⟩:=c.blk;rw[(x.fresh cb i e).m_]at d;cases d)
theorem Kept.new{m0:MH}{s:Sl}{E:TypeId}(k:Kept m0 m cb)(x:sA m m' h s E sz xs):Kept m0 m' cb:=λb o e n=>by
 rw[x.other b (λi c=>by have:=(x.fresh b i c).m_;rw[k b o e n]at this;cases this)];exact k b o e n
theorem vZ.grown{m0:MH}{s f:Sl}{E:TypeId}{g:List bt}(r:vZ m0 m s E sz xs)(x:fY m m' s f E sz g)(k:Kept m0 m cb)(c:bD m h cb):vZ m0 m' f E sz g:=
 ⟨x.row,λb i e=>by
  rcases x.fresh b i e with d|⟨j,d⟩
  .exact k.free c d
  .exact r.fresh b j d⟩
theorem vZ.apart{m0:MH}{s t g:Sl}{E E':TypeId}{c:Nat}{n o:List bt}(r:vZ m0 m s E sz xs)(q:vZ m0 m t E' c n)(x:fY m m' t g E' c o)(z:E≠E'):vZ m0 m' s E sz xs:=by
 refine⟨cT.keep r.row (λb i e=>?_),r.fresh⟩;obtain⟨u,d⟩:=cT.blk r.row e;rw[d];refine x.other b _ d (λj y=>?_);obtain⟨f,A⟩:=cT.blk q.row y
 grind
theorem Kept.grown{m0:MH}{s c:Sl}{E:TypeId}{d:List bt}(k:Kept m0 m cb)(r:vZ m0 m s E sz xs)(x:fY m m' s c E sz d):Kept m0 m' cb:=λb o e n=>x.other b o (k b o e n) (λi f=>by rw[r.fresh b i f]at e;cases e)
theorem fY.at_cb{m0:MH}{s d:Sl}{E:TypeId}{f:List bt}(x:fY m m' s d E sz f)(r:vZ m0 m s E sz xs)(c:bD m h cb)(n:E≠86):m' cb=m cb:=by
 obtain⟨o,e⟩:=c.blk;rw[e];refine x.other cb _ e (λi g=>?_);obtain⟨j,u⟩:=cT.blk r.row g
 grind
theorem bnZ{sz:Nat}:∀{xs:List bt},(∀e∈xs,e.length=sz)->xs.flatten.length=xs.length*sz
 |[],_=>by simp
 |x::xs,h=>by
  simp only[flatten_cons,length_append,length_cons];rw[bnZ (λe c=>h e (by simp[c])),h x (by simp),Nat.add_mul];omega
theorem cT.src{s:Sl}{E:TypeId}{x:bt}(r:cT m s E sz (x::xs)):uN m h s sz (x::xs):=by
 rcases r.ex with⟨_,e⟩|⟨b,d,c,rfl,f,_,_,_,g⟩
 .cases e
 .exact .lent b 0 c E (0,0) rfl rfl f bg
def BA(m0 m:MH):MH:=λb=>match m0 b with|some _=>m b|none=>none
def CH(m0 m:MH)(h:PH):PH:=λb i=>match m0 b,m b with|none,some (.cells c _ _)=>c[i]? |_,_=>h b i
theorem Ev{m0 m:MH}{h:PH}(d:GM m h):PH.le h (CH m0 m h):=⟨λb i v e=>by
 unfold CH;split
 .rename_i f E g j c;rw[d.disj b _ c i]at e;cases e
 .exact e⟩
theorem aVX{m0:MH}(d:GM m h):Hz m h (BA m0 m) (CH m0 m h):=by
 refine⟨λb o e=>?_,Ev d,λb i v e=>?_⟩
 .unfold BA at e
  grind
 .unfold CH at e;split at e
  .rename_i c E f g j;exact .inr ⟨c,E,f,j,e,by unfold BA;rw[g]⟩
  grind
theorem FT{p:Prop}(h:p:=by repeat' (first|with_reducible rfl|exact trivial|exact aVX (by assumption)|refine⟨?_,?_⟩|rfl)):p:=h
theorem vZ.ice{m0 m:MH}{h:PH}{s:Sl}{E:TypeId}{sz:Nat}{xs:List bt}(r:vZ m0 m s E sz xs):dC (CH m0 m h) s sz xs:=by
 rcases r.row.ex with⟨rfl,rfl⟩|⟨b,f,g,rfl,y,c,_,_,n⟩
 .exact dC.nil _ _
 .have z:=r.fresh b 0 rfl;refine⟨rfl,.inr ⟨b,0,rfl,λi e o=>⟨λj v u=>?_⟩⟩,c⟩;have d:=oK r.row.rows.len o j v u;rw[<-n,getElem?_take]at d;split at d
  .unfold CH
   grind
  .cases d
theorem keep_other{m0:MH}(k:Kept m0 m cb):bP m0 (BA m0 m) cb:=⟨λb c=>by
 unfold BA;cases e:m0 b with
 |none=>rfl
 |some o=>exact k b o e c⟩
theorem aUJ{m0:MH}(c:bD m h cb)(e:m0 cb≠none)(d:GM m h):bD (BA m0 m) (CH m0 m h) cb:=c.keep (by
 unfold BA
 grind) (Ev d)
def QA(d:Nat)(q:Query):Prop:=QW q/\VP d q
structure QM(d:Nat)(m0 m:MH)(h:PH)(v:QV)(vs:da):Prop where
 wher:∃w,fH h w v.where_/\D6 w
 cols:∃co:bn,vZ m0 m v.columns 3 1 (co.map eI)/\co.length<=1000
 on_:∃l,jC h v.on l
 group_:∃l,Ints h v.group l
 order_:∃l,jB h v.order l
 args_:vZ m0 m v.args 41 21 (vs.map QV.enc)
 len_:vs.length<=2
 reps:∀v∈vs,∃q,dG h q v/\QA d q
theorem Wn{d:Nat}{h:PH}:∀{vs:da},(∀v∈vs,∃q,dG h q v/\QA d q)->∃c:ce,c.length=vs.length/\(∀q∈c,QA d q)/\∀(i:Nat) q,c[i]? =some q->∃v,vs[i]? =some v/\dG h q v
 |[],_=>⟨[],rfl,λq f=>by simp at f,λi q e=>by simp at e⟩
 |v::vs,g=>by
  obtain⟨q,f,j⟩:=g v ay;obtain⟨c,n,y,z⟩:=Wn (vs:=vs) (λu o=>g u (by simp[o]));refine⟨q::c,by simp[n],λx A=>bg,λi x e=>?_⟩
  grind
theorem QM.ice{n:Nat}{m0:MH}{vs:da}(x:QM n m0 m h v vs)(d:GM m h):∃q,dG (CH m0 m h) q v/\QW q/\Du (n+1) q:=by
 obtain⟨w,o,c⟩:=x.wher;obtain⟨co,u,y⟩:=x.cols;obtain⟨on,z⟩:=x.on_;obtain⟨gr,A⟩:=x.group_;obtain⟨od,f⟩:=x.order_;obtain⟨D,B,j,C⟩:=Wn x.reps;have le:=Ev (m0:=m0) d;have E:=x.len_;exact⟨_,tU.rep ⟨rfl,rfl,o.mono le,⟨u.ice,aC⟩,z.mono le,A.mono le,f.mono le,rfl,⟨⟨vs,x.args_.ice,B,λi q e=>let⟨v,k1,k2⟩:=C i q e;⟨v,k1,k2.mono le⟩⟩,aC⟩⟩,Ma.2 ⟨c,λa g=>(j a g).1⟩,Du.node (λa g=>(j a g).2) aC⟩
theorem QM.on{n:Nat}{m0:MH}{vs:da}(x:QM n m0 m h v vs)(o:bP m m' cb)(c:bD m h cb)(le:PH.le h h'):QM n m0 m' h' v vs:=by
 obtain⟨w,j,d⟩:=x.wher;obtain⟨co,u,f⟩:=x.cols;obtain⟨on,y⟩:=x.on_;obtain⟨gr,z⟩:=x.group_;obtain⟨od,g⟩:=x.order_;exact⟨⟨w,j.mono le,d⟩,⟨co,u.on o c az,f⟩,⟨on,y.mono le⟩,⟨gr,z.mono le⟩,⟨od,g.mono le⟩,x.args_.on o c az,x.len_,λv A=>let⟨q,e,ew⟩:=x.reps v A;⟨q,e.mono le,ew⟩⟩
theorem QM.new{d:Nat}{m0:MH}{vs:da}{t:Sl}{E:TypeId}{j:List bt}(x:QM d m0 m h v vs)(n:sA m m' h' t E sz j)(le:PH.le h h'):QM d m0 m' h' v vs:=by
 obtain⟨w,o,c⟩:=x.wher;obtain⟨co,u,f⟩:=x.cols;obtain⟨on,y⟩:=x.on_;obtain⟨gr,z⟩:=x.group_;obtain⟨od,g⟩:=x.order_;exact⟨⟨w,o.mono le,c⟩,⟨co,u.new n,f⟩,⟨on,y.mono le⟩,⟨gr,z.mono le⟩,⟨od,g.mono le⟩,x.args_.new n,x.len_,λv A=>let⟨q,e,ew⟩:=x.reps v A;⟨q,e.mono le,ew⟩⟩
theorem QM.grow{d:Nat}{m0:MH}{e:QV}{vs:da}{j:Sl}{u:QV}(x:QM d m0 m h v vs)(g:fY m m' v.args j 41 21 (vs.map QV.enc++[u.enc]))(k:Kept m0 m cb)(c:bD m h cb)(F:∃q,dG h q u/\QA d q)(G:vs.length<=1)
 (o:e.where_=v.where_)(y:e.columns=v.columns)(z:∃l,jC h e.on l)(A:∃l,Ints h e.group l)(B:∃l,jB h e.order l)(C:e.args=j):QM d m0 m' h e (vs++[u]):=by
 obtain⟨co,D,f⟩:=x.cols;refine⟨by rw[o];exact x.wher,⟨co,by rw[y];exact D.apart x.args_ g az,f⟩,z,A,B,by rw[C,map_append];exact x.args_.grown g k c,bf,λv E=>?_⟩;rcases mem_append.1 E with n|n
 .exact x.reps v n
 grind
theorem avJ(h:eH s=0):Ey s:=Classical.byContradiction λc=>by rw[xO c]at h;cases h
theorem Aq(h:eH s=0):nU s:=λt c=>by
 obtain⟨i,d⟩:=mem_iff_getElem?.1 c;have:=(avJ h).2 i t d;exact this.1
theorem Jd(h:eH s=0):s.tables.length<=8:=(avJ h).1
theorem PR(s:jQ)(ps:bn)(q:Query):(fI s ps q).1.length<=12:=by
 unfold fI;split
 .split
  .split
   .exact lM s ps q
   .simp[eC]
  .simp[eC]
 .simp[eC]
theorem awQ{s:jQ}{ps:bn}{t:Int}(c:eH s=0)(d:ps.all gM=true)(e:0<=t)(f:t<s.tables.length):(fI s ps (.mk 1 t fO [] [] [] [] 0 [])).2=0:=by
 have g:=Aq c
 have u:(jA s t).length<=12:=by
  unfold jA;split
  .simp
  .split
   .simp
   .rename_i x j;have:=g x (mem_of_getElem? j);simp;omega
 have n:aL s ps (.mk 1 t fO [] [] [] [] 0 [])=eK s ps (.mk 1 t fO [] [] [] [] 0 []) [] []:=by simp[aL,fL,arity]
 have o:nI (.mk 1 t fO [] [] [] [] 0 [])=true:=by rfl
 unfold fI;rw[if_pos c,if_pos d,if_pos o,n];unfold eK;rw[if_neg (by simp[arity,cR])];simp only[if_true];rw[if_pos ⟨e,f⟩];unfold mX
 grind
structure Mid(m0:MH)(h3:PH)(cb:Nat)(a q:QV)(mx:MH):Prop where
 case_:bD mx h3 cb
 kept:Kept m0 mx cb
 ex:∃o args,q=⟨o,0,jG,cE,cE,cE,cE,0,args⟩/\vZ m0 mx args 41 21 ([a].map QV.enc)
theorem Mid.qm{d:Nat}{m0 e:MH}{c:PH}{a q:QV}(x:Mid m0 c cb a q e)(j:∃f,dG c f a/\QA d f):QM d m0 e c q [a]:=by
 obtain⟨o,args,rfl,g⟩:=x.ex;exact⟨⟨_,EA c,qG⟩,⟨[],vZ.nil _ _ _ _,ay⟩,⟨_,vB _⟩,⟨_,mY _⟩,⟨_,u9 _⟩,g,ay,λv n=>bg⟩
theorem aFQ:∀N,bm 10 (arX N)
 |0=>by
  refine fK (fn:=Tryz.f10) (c:=dX Tryz.f10) func10 rfl az ?_;rintro c0 m h K ⟨cb,sc,p,s,ps,deep,rfl,_,_,_,_,_,_,_,_,_,hN,_⟩;omega
 |N+1=>by
  refine iQ func10 ?_;rintro c0 m h K ⟨cb,sc,p,s,ps,deep,rfl,hc,hs,he,b',hp,a0,a7,d0,d1,hN,hK⟩;refine⟨crX N cb sc p,rfl,aE Ol (aE SQ (aE a7Q (aE a6Q (aE a5J (aE a5Z (aE My (aE (aFQ N) aG))))))),Yc N cb sc p deep m h K,ax,?_⟩;have f3:=hs.tables.slen;have h8:=Aq he;have f4:=Jd he;have f5:0<s.tables.length:=length_pos_iff.2 b';have d':(if(sc.tables.len:Int)>1 then(sc.tables.len:Int)else 1)=(sc.tables.len:Int):=by omega
  have d2:m cb≠none:=by obtain⟨cs,e⟩:=hc.blk;rw[e];simp
  dsimp only[Yc,push_cast];rw[d'];refine⟨cb,12,rfl,hc,λk m1 k0 k1 o1 c1=>?_⟩;refine aF (λhd=>?_) (λhd=>aD (λ_=>?_) (λ_=>aD (λ_=>?_) (λ_=>?_)))
  .exact⟨cb,_,rfl,c1,λG m2 b0 d3 o2 c2=>⟨G,rfl,hK _ _ m2 h (.refl _) (EG h G) (J2 G) (Du.mono (d:=0) tH.scan (Nat.zero_le _)) (awQ he a7 b0 aC) (o1.trans o2) c2⟩⟩
  .exact⟨cb,_,rfl,c1,λG m2 b0 d3 o2 c2=>⟨G,rfl,hK _ _ m2 h (.refl _) (EG h G) (J2 G) (Du.mono (d:=0) tH.scan (Nat.zero_le _)) (awQ he a7 b0 aC) (o1.trans o2) c2⟩⟩
  .grind
  have d4:IntKind.i64.wrap (deep-1)=deep-1:=fB aC aC;have d5:IntKind.i64.wrap (deep-2)=deep-2:=fB aC aC;rw[d4];refine⟨cb,sc,p,s,ps,deep-1,rfl,c1,hs,he,b',hp,a0,a7,aC,aC,aC,λa qa m2 h2 b1 ra b6 a3 d6 o2 c2=>⟨sc,p,a,s,ps,qa,rfl,hs.mono b1,hp.mono b1,ra,λkk h3 b3 ik=>?_⟩⟩;have d7:=PR s ps qa;obtain⟨T,d8⟩:∃T,(deep-1).toNat=T:=⟨_,rfl⟩
  have d9:deep.toNat=T+1:=by omega
  rw[d8]at a3;have U:QA T qa:=⟨b6,a3.arg⟩
  generalize e':(fI s ps qa).fst=ks at ik d7;clear e';have A:PH.le h h3:=b1.trans b3;have V:dG h3 qa a:=ra.mono b3;refine⟨λ⟨d,op,D,q,H,mx,I⟩=>d=deep/\D=a/\H=kk/\I=h3/\Mid m h3 cb a q mx,λM m3 j=>⟨(deep,IntKind.i64.wrap (1+k),a,⟨IntKind.i64.wrap (1+k),0,jG,cE,cE,cE,cE,0,M⟩,kk,m3,h3),⟨rfl,rfl,rfl,rfl,?_⟩,MT⟩,?_⟩
  .have G:=(Kept.of o1).on o2;have c3:=c2.mono b3;exact⟨c3.keep (sA.at_cb j c3) (.refl _),G.new j,_,_,rfl,sA.frow j G c3⟩
  rintro⟨deep,op,D,q,H,mx,I⟩ ⟨rfl,rfl,rfl,rfl,y⟩;dsimp only;have E:∀(q:QV)(vs:da)(B:MH)(C:PH),PH.le I C->Kept m B cb->bD B C cb->QM T m B C q vs->GM B C->PH.le I (CH m B C)/\bP m (BA m B) cb/\bD (BA m B) (CH m B C) cb/\∃qq,dG (CH m B C) qq q/\QW qq/\Du (T+1) qq:=λq vs B C l k c x d=>⟨l.trans (Ev d),keep_other k,aUJ c d2 d,x.ice d⟩
  have join:∀(q:QV)(u:QV)(M:Sl)(B:MH)(C:PH)(Q:Sl->MH->Prop),PH.le I C->Kept m B cb->bD B C cb->QM T m B C q [D]->vZ m B M 41 21 [u.enc]->(∃qu,dG C qu u/\QA T qu)->
   (∀J m',(∀q':QV,q'.where_=q.where_->q'.columns=q.columns->(∃l,jC C q'.on l)->(∃l,Ints C q'.group l)->(∃l,jB C q'.order l)->q'.args=J->QM T m m' C q' [D,u])->Kept m m' cb->bD m' C cb->Q J m')->
   ∃xs,cT B ⟨q.args.a,q.args.len,q.args.cap⟩ 41 21 xs/\∃ys,fN 21 ys/\uN B C ⟨M.a,M.len,M.cap⟩ 21 ys/\(xs.length+ys.length)*280<=140737488355328/\xs.length+ys.length<=140737488355328/\∀(J:Sl)(m':MH),fY B m' ⟨q.args.a,q.args.len,q.args.cap⟩ J 41 21 (xs++ys)->Q J m':=
   λq u M B C Q l k c x f hu hQ=>⟨_,x.args_.row,[u.enc],bnJ [u],cT.src f.row,ay,ay,λJ m' g=>hQ J m' (λq' e1 e2 e3 e4 e5 e6=>x.grow g k c hu ay e1 e2 e3 e4 e5 e6) (k.grown x.args_ g) (c.keep (fY.at_cb g x.args_ c az) (.refl _))⟩
  refine⟨λ⟨W,q,B,C⟩=>W=D/\PH.le I C/\bP m B cb/\bD B C cb/\∃qq,dG C qq q/\QW qq/\Du (T+1) qq,aD (λ_=>?_) (λ_=>?_),?_⟩
  ·
   refine⟨cb,3,rfl,y.case_,λn m3 n0 n1 o3 c3=>?_⟩;refine⟨λ⟨W,q,G,n,B,C⟩=>W=D/\G=H/\C=I/\ -1<=n/\n<=2/\bD B I cb/\Kept m B cb/\QM T m B I q [D]/\∃co:bn,vZ m B q.columns 3 1 (co.map eI)/\(co.length:Int)<=2-n,λ⟨_,_,_,n,_,_⟩=>(n+1).toNat,⟨(D,q,H,n,m3,I),⟨rfl,rfl,rfl,aC,aC,c3,y.kept.on o3,(y.qm ⟨qa,V,U⟩).on o3 y.case_ (.refl _),[],?_,bf⟩,MT⟩,?_⟩
   .obtain⟨o,args,rfl,hf⟩:=y.ex;exact vZ.nil _ _ _ _
   clear y q c3 o3 m3 n0 n1 n;rintro⟨W,q,G,n,B,C⟩ ⟨rfl,rfl,rfl,n0,n1,cy,ky,qm,co,b7,f2⟩;dsimp only;refine aF (λhn=>⟨cb,_,rfl,cy,λc m4 _ _ o4 c4=>⟨_,(b7.on o4 cy az).row,bf,bf,λJ X g=>?_⟩⟩) (λhn d=>⟨(W,q,BA m B,CH m B C),⟨rfl,E q _ B C (.refl _) ky cy qm d⟩,FT⟩);have O:=b7.on o4 cy az;have q4:=qm.on o4 cy (.refl _);have k4:=ky.on o4;have a4:vZ m X J 3 1 ((co++[c]).map eI):=by rw[map_append];exact O.grown g k4 c4
   have e0:IntKind.i64.wrap (n-1)=n-1:=fB aC aC;rw[e0];refine⟨(W,{q with columns:=J},G,n-1,X,C),⟨rfl,rfl,rfl,bg,bg,c4.keep (fY.at_cb g O c4 az) (.refl _),k4.grown O g,⟨q4.wher,⟨_,a4,bf⟩,q4.on_,q4.group_,q4.order_,q4.args_.apart O g az,q4.len_,q4.reps⟩,_,a4,bf⟩,bg,MT⟩
  .refine⟨λ⟨d,op,W,q,G,t,B,C⟩=>d=deep/\W=D/\G=H/\C=I/\Mid m I cb D q B,aD (λ_=>⟨(deep,op,D,q,H,true,mx,I),⟨rfl,rfl,rfl,rfl,y⟩,MT⟩) (λ_=>⟨(deep,op,D,q,H,op==5,mx,I),⟨rfl,rfl,rfl,rfl,y⟩,MT⟩),?_⟩;clear y q mx;rintro⟨deep,op,D,q,H,t,mx,I⟩ ⟨rfl,rfl,rfl,rfl,y⟩;dsimp only;refine aD (λ_=>?_) (λ_=>?_)
   ·
    rw[d5];refine⟨cb,sc,p,s,ps,deep-2,rfl,y.case_,hs.mono A,he,b',hp.mono A,a0,a7,aC,aC,aC,λb qb X P z rb b8 e7 _ o5 Y=>⟨sc,p,b,s,ps,qb,rfl,hs.mono (A.trans z),hp.mono (A.trans z),rb,λl h6 L il=>?_⟩⟩;have b9:QA T qb:=⟨b8,(e7.mono aC).arg⟩
    have e8:=PR s ps qb;generalize f6:(fI s ps qb).fst=ls at il e8;have R:QM T m X h6 q [D]:=(y.qm ⟨qa,V,U⟩).on o5 y.case_ (z.trans L);have k6:=y.kept.on o5;have S:=Y.mono L;refine⟨λ⟨W,b2,q,G,l2,B,C⟩=>W=D/\b2=b/\G=H/\l2=l/\C=h6/\bD B h6 cb/\Kept m B cb/\QM T m B h6 q [D],aD (λ_=>aF (λ_=>⟨(D,b,{q with op:=5},H,l,X,h6),⟨rfl,rfl,rfl,rfl,rfl,S,k6,⟨R.wher,R.cols,R.on_,R.group_,R.order_,R.args_,R.len_,R.reps⟩⟩,MT⟩) (λ_=>⟨(D,b,q,H,l,X,h6),⟨rfl,rfl,rfl,rfl,rfl,S,k6,R⟩,MT⟩)) (λ_=>⟨(D,b,q,H,l,X,h6),⟨rfl,rfl,rfl,rfl,rfl,S,k6,R⟩,MT⟩),?_⟩;have c':=rb.mono L;have a1:PH.le I h6:=z.trans L;clear R k6 S o5 Y rb z y q;rintro⟨W,b,q,G,l,B,h6⟩ ⟨rfl,rfl,rfl,rfl,rfl,S,k6,R⟩;dsimp only;refine⟨⟨cb,G,l,ks,ls,rfl,S,ik.mono a1,il,aC,aC,λo on m7 h7 F b4 _ o7 c7 M m8 j=>?_⟩,λM m7 j=>⟨cb,G,l,ks,ls,rfl,S.keep (sA.at_cb j S) (.refl _),ik.mono a1,il,aC,aC,λo on m8 h7 F b4 _ o8 c8=>?_⟩⟩
    .have k7:=k6.on o7;refine join q b M m8 h7 _ (a1.trans F) (k7.new j) (c7.keep (sA.at_cb j c7) (.refl _)) ((R.on o7 S F).new j (.refl _)) (sA.frow j k7 c7) ⟨qb,c'.mono F,b9⟩ (λJ m9 hq k9 c9 d=>?_);exact⟨(W,{q with on:=o,args:=J},BA m m9,CH m m9 h7),⟨rfl,E _ _ m9 h7 (a1.trans F) k9 c9 (hq {q with on:=o,args:=J} rfl rfl ⟨on,b4⟩ (let⟨l,e⟩:=R.group_;⟨l,e.mono F⟩) (let⟨l,e⟩:=R.order_;⟨l,e.mono F⟩) rfl) d⟩,FT⟩
    .have k7:=k6.new j;have c7:bD m7 h6 cb:=S.keep (sA.at_cb j S) (.refl _);have k8:=k7.on o8;refine join q b M m8 h7 _ (a1.trans F) k8 c8 ((R.new j (.refl _)).on o8 c7 F) ((sA.frow j k6 S).on o8 c7 az) ⟨qb,c'.mono F,b9⟩ (λJ m9 hq k9 c9 d=>?_);exact⟨(W,{q with on:=o,args:=J},BA m m9,CH m m9 h7),⟨rfl,E _ _ m9 h7 (a1.trans F) k9 c9 (hq {q with on:=o,args:=J} rfl rfl ⟨on,b4⟩ (let⟨l,e⟩:=R.group_;⟨l,e.mono F⟩) (let⟨l,e⟩:=R.order_;⟨l,e.mono F⟩) rfl) d⟩,FT⟩
   .refine⟨λ⟨op,W,q,G,t,B,C⟩=>W=D/\G=H/\C=I/\Mid m I cb D q B,aD (λ_=>⟨(op,D,q,H,true,mx,I),⟨rfl,rfl,rfl,y⟩,MT⟩) (λ_=>aD (λ_=>⟨(op,D,q,H,true,mx,I),⟨rfl,rfl,rfl,y⟩,MT⟩) (λ_=>⟨(op,D,q,H,op==8,mx,I),⟨rfl,rfl,rfl,y⟩,MT⟩)),?_⟩;clear y q mx;rintro⟨op,D,q,H,t,mx,I⟩ ⟨rfl,rfl,rfl,y⟩;dsimp only;have q3:=y.qm ⟨qa,V,U⟩;refine aD (λ_=>?_) (λ_=>aD (λ_=>?_) (λ_=>aD (λ_=>?_) (λ_=>?_)))
    ·
     refine⟨cb,sc,p,H,D,s,ps,ks,qa,rfl,y.case_,hs.mono A,h8,aC,hp.mono A,a0,ik,aC,V,U.1,λw qw X P z e9 a5 o5 Y M m6 j=>?_⟩;have k5:=y.kept.on o5;refine join q w M m6 P _ z (k5.new j) (Y.keep (sA.at_cb j Y) (.refl _)) ((q3.on o5 y.case_ z).new j (.refl _)) (sA.frow j k5 Y) ⟨qw,e9,a5.qw,a5.siz T a3⟩ (λJ m9 hq k9 c9 d=>?_);have Z:=q3.on o5 y.case_ z;exact⟨(D,{q with args:=J},BA m m9,CH m m9 P),⟨rfl,E _ _ m9 P z k9 c9 (hq {q with args:=J} rfl rfl Z.on_ Z.group_ Z.order_ rfl) d⟩,FT⟩
    ·
     obtain⟨o,args,rfl,hf⟩:=y.ex;refine⟨cb,⟨o,0,jG,cE,cE,cE,cE,0,args⟩,H,ks,rfl,y.case_,ik,aC,λg od kk gr a8 X P z hg a9 _ _ _ _ o5 Y d=>?_⟩;have Z:=q3.on o5 y.case_ z;exact⟨(D,⟨o,0,jG,cE,cE,g,od,kk,args⟩,BA m X,CH m X P),⟨rfl,E _ [D] X P z (y.kept.on o5) Y ⟨Z.wher,Z.cols,Z.on_,⟨gr,hg⟩,⟨a8,a9⟩,Z.args_,Z.len_,Z.reps⟩ d⟩,FT⟩
    ·
     obtain⟨o,args,rfl,hf⟩:=y.ex;refine⟨cb,⟨o,0,jG,cE,cE,cE,cE,0,args⟩,H,ks,rfl,y.case_,ik,aC,λg od kk gr a8 X P z hg a9 _ _ _ _ o5 Y=>?_⟩;have Z:=q3.on o5 y.case_ z;have f':QM T m X P ⟨o,0,jG,cE,cE,g,od,kk,args⟩ [D]:=⟨Z.wher,Z.cols,Z.on_,⟨gr,hg⟩,⟨a8,a9⟩,Z.args_,Z.len_,Z.reps⟩
     refine⟨cb,sc,p,H,D,s,ps,ks,qa,rfl,Y,hs.mono (A.trans z),h8,aC,hp.mono (A.trans z),a0,ik.mono z,aC,V.mono z,U.1,λw qw m6 h6 L f0 a5 o6 S M m7 j=>?_⟩;have k6:=(y.kept.on o5).on o6;refine join ⟨o,0,jG,cE,cE,g,od,kk,args⟩ w M m7 h6 _ (z.trans L) (k6.new j) (S.keep (sA.at_cb j S) (.refl _)) ((f'.on o6 Y L).new j (.refl _)) (sA.frow j k6 S) ⟨qw,f0,a5.qw,a5.siz T a3⟩ (λJ m9 hq k9 c9 d=>?_);exact⟨(D,⟨o,0,jG,cE,cE,g,od,kk,J⟩,BA m m9,CH m m9 h6),⟨rfl,E _ _ m9 h6 (z.trans L) k9 c9 (hq ⟨o,0,jG,cE,cE,g,od,kk,J⟩ rfl rfl ⟨_,vB _⟩ ⟨gr,hg.mono L⟩ ⟨a8,a9.mono L⟩ rfl) d⟩,FT⟩
    ·
     refine⟨⟨cb,H,p,ks,ps,2,rfl,y.case_,ik,hp.mono A,aC,a0,aC,λpv pp X P z rp b5 o5 Y M m6 j d=>?_⟩,λM X j=>⟨cb,H,p,ks,ps,2,rfl,y.case_.keep (sA.at_cb j y.case_) (.refl _),ik,hp.mono A,aC,a0,aC,λpv pp m6 P z rp b5 o6 S d=>?_⟩⟩
     .have k5:=y.kept.on o5;exact⟨(D,⟨2,0,pv,cE,cE,cE,cE,0,M⟩,BA m m6,CH m m6 P),⟨rfl,E _ [D] m6 P z (k5.new j) (Y.keep (sA.at_cb j Y) (.refl _)) ⟨⟨pp,rp,b5.vals⟩,⟨[],vZ.nil _ _ _ _,ay⟩,⟨_,vB _⟩,⟨_,mY _⟩,⟨_,u9 _⟩,sA.frow j k5 Y,ay,λv hv=>by simp at hv;subst hv;exact⟨qa,V.mono z,U⟩⟩ d⟩,FT⟩
     .have k5:=y.kept.new j;have Y:bD X I cb:=y.case_.keep (sA.at_cb j y.case_) (.refl _);exact⟨(D,⟨2,0,pv,cE,cE,cE,cE,0,M⟩,BA m m6,CH m m6 P),⟨rfl,E _ [D] m6 P z (k5.on o6) S ⟨⟨pp,rp,b5.vals⟩,⟨[],vZ.nil _ _ _ _,ay⟩,⟨_,vB _⟩,⟨_,mY _⟩,⟨_,u9 _⟩,(sA.frow j y.kept y.case_).on o6 Y az,ay,λv hv=>by simp at hv;subst hv;exact⟨qa,V.mono z,U⟩⟩ d⟩,FT⟩
  .rintro⟨W,q,B,C⟩ ⟨rfl,a6,oy,cy,qq,rq,f1,f7⟩;dsimp only;refine⟨sc,p,q,s,ps,qq,rfl,hs.mono (A.trans a6),hp.mono (A.trans a6),rq,λsl P z _=>aD (λe=>?_) (λe=>?_)⟩
   .exact hK W qa B P ((A.trans a6).trans z) ((V.mono a6).mono z) U.1 (by rw[d9];exact a3.mono aC) d6 oy (cy.mono z)
   .exact hK q qq B P ((A.trans a6).trans z) (rq.mono z) f1 bg (bk e) oy (cy.mono z)
mutual
def nW(st:List br):Query->br
 |.mk op ta w co on gr od li args=>if op=1 then st.getD ta.toNat []else GH op (.mk op ta w co on gr od li args) (DA st args)
def DA(st:List br):ce->List br
 |[]=>[]
 |q::qs=>nW st q::DA st qs
end
structure Hw(st ls:List br)(k:Nat)(ts:bn):Prop where
 at_:∀(j:Nat)(t:Int),ts[j]? =some t->ls.getD (k+j) []=st.getD t.toNat []
theorem Hw.left{st ls:List br}{k:Nat}{b:bn}(x:Hw st ls k (a++b)):Hw st ls k a:=
 ⟨λj t h=>x.at_ j t bg⟩
theorem Hw.right{st ls:List br}{k:Nat}{b:bn}(x:Hw st ls k (a++b)):Hw st ls (k+a.length) b:=
 ⟨λj t h=>by
  have:=x.at_ (a.length+j) t bg
  grind⟩
theorem L5{args:ce}{c:List bn}(d:fL s ps args=(c,0))(e:(c.length:Int)=arity 1):args=[]:=by
 cases args with
 |nil=>rfl
 |cons q f=>obtain⟨_,_,_,_,rfl⟩:=qE d;simp[arity]at e;omega
mutual
theorem T0{s:jQ}{ps:bn}{st ls:List br}:∀{q:Query}{ks:bn}{k:Nat},aL s ps q=(ks,0)->Hw st ls k (dW q)->iO ls q k=(nW st q,k+(dW q).length)
 |.mk op ta w co on gr od li args,ks,k,h,c=>by
  obtain⟨g,f,j,o⟩:=xY h;by_cases e:op=1
  .subst e;have n:=L5 f j;subst n;have d:dW (.mk 1 ta w co on gr od li [])=[ta]:=by simp[dW,eD]
   rw[d]at c⊢
   have:=c.at_ 0 ta rfl;rw[Nat.add_zero]at this;rw[iO,nW,if_pos rfl,if_pos rfl,this];rfl
  .have d:dW (.mk op ta w co on gr od li args)=eD args:=by simp[dW,e]
   rw[d]at c⊢
   rw[iO,nW,if_neg e,if_neg e,JA f c]
theorem JA{s:jQ}{ps:bn}{st ls:List br}:∀{d:ce}{c:List bn}{k:Nat},fL s ps d=(c,0)->Hw st ls k (eD d)->fU ls d k=(DA st d,k+(eD d).length)
 |[],c,k,h,_=>by simp[fU,DA,eD]
 |q::d,c,k,h,e=>by
  obtain⟨n,f,g,j,rfl⟩:=qE h;rw[eD]at e;rw[fU,DA,eD,T0 g e.left,JA j e.right,length_append,Nat.add_assoc]
end
mutual
theorem EF{s:jQ}{ps:bn}:∀{q:Query}{ks:bn},aL s ps q=(ks,0)->∀t∈dW q,0<=t/\t<s.tables.length
 |.mk op ta w co on gr od li args,ks,h,t,f=>by
  obtain⟨g,j,n,c⟩:=xY h;rw[dW]at f;rcases mem_append.1 f with d|d
  .split at d
   .rename_i e;subst e;simp only[mem_singleton]at d;subst d;unfold eK at c;dsimp only at c;split at c
    .simp[eC]at c
    try rw[if_pos rfl]at c
    split at c
    .omega
    .simp[eC]at c
   .simp at d
  .exact Sc j t d
theorem Sc{s:jQ}{ps:bn}:∀{e:ce}{d:List bn},fL s ps e=(d,0)->∀t∈eD e,0<=t/\t<s.tables.length
 |[],d,h,t,c=>by rw[eD]at c;simp at c
 |q::e,d,h,t,c=>by
  obtain⟨n,f,g,j,rfl⟩:=qE h;rw[eD]at c;rcases mem_append.1 c with c|c
  .exact EF g t c
  .exact Sc j t c
end
def BY(key:Int)(k:Int)(i:Nat)(v:VV):Bool:=kA v&&(v.kind==k||((v.kind==2||v.kind==1)&&decide (key<=(i:Int))))
def EO(t:Am)(r:ca):Bool:=decide (r.length=t.columns.length)&&(List.range r.length).all λi=>BY t.key (t.columns.getD i ⟨⟨#[]⟩,0⟩).kind i (r.getD i zeroV)
def oY(t:Am)(r:ca):ca:=r.take (max 0 (min t.key r.length)).toNat
def auJ(t:Am)(l:br):Prop:=(∀r∈l,EO t r=true)/\∀(i:Nat) r c,l[i]? =some r->l[i+1]? =some c->eW (oY t r) (oY t c)<0
def Pw(s:jQ)(st:List br):Prop:=∀(i:Nat) t l,s.tables[i]? =some t->st[i]? =some l->auJ t l
open Classical in
noncomputable def kJ(s:jQ)(st:List br):Int:=
 if eH s≠0 then eH s else if 512<(st.map λl=>(l.length:Int)).sum then 2 else if st.length≠s.tables.length then 80 else if Pw s st then 0 else 80
def StV(st:List br):Prop:=∀l∈st,∀r∈l,∀v∈r,uR v.kind/\uR v.int
def C4(t:Am)(key row:ca):Bool->br->br
 |d,[]=>if d then[]else[row]
 |d,r::l=>(if 0<=eW (oY t r) key/\d=false then[row]else[])++((if eW (oY t r) key≠0 then[r]else[])++C4 t key row (d||decide (0<=eW (oY t r) key)) l)
def R0(t:Am)(l:br):Prop:=l.Pairwise λx y=>eW (oY t x) (oY t y)<0
theorem Gp{x y z:ca}(c:eW x y<0)(d:eW y z<0):eW x z<0:=by
 have:=Df x y z aC aC;rcases Int.lt_or_eq_of_le this with h|h
 .exact h
 .rw[lB]at h;subst h;have:=pV x y;omega
theorem PS{t:Am}{key row:ca}:∀{l:br},(∀r∈l,0<eW (oY t r) key)->C4 t key row true l=l
 |[],_=>rfl
 |r::l,h=>by
  have d:=h r (mem_cons_self ..);rw[C4,if_neg ay,if_pos aC,Bool.true_or,PS λx c=>h x (mem_cons_of_mem _ c)];rfl
theorem Oz{t:Am}{key row z:ca}:∀{l:br}{d:Bool},z∈C4 t key row d l->z=row\/z∈l
 |[],d,h=>by
  rw[C4]at h
  grind
 |r::l,d,h=>by
  rw[C4]at h;rcases mem_append.1 h with h|h
  .grind
  .rcases mem_append.1 h with h|h
   .grind
   .exact(Oz h).imp id λh=>mem_cons_of_mem _ h
theorem OA{t:Am}{key row:ca}:∀{l:br}{d:Bool},(C4 t key row d l).length<=l.length+(if d then 0 else 1)
 |[],d=>by rw[C4];grind
 |r::l,d=>by
  have:=OA (t:=t) (key:=key) (row:=row) (l:=l) (d:=d||decide (0<=eW (oY t r) key));rw[C4]
  grind
theorem PT{t:Am}{row:ca}:∀{l:br},R0 t l->R0 t (C4 t (oY t row) row false l)
 |[],_=>by rw[C4];exact pairwise_singleton _ _
 |r::l,h=>by
  obtain⟨f,n⟩:=pairwise_cons.1 h;rw[C4];by_cases g:0<=eW (oY t r) (oY t row)
  .rw[if_pos ⟨g,rfl⟩,show(false||decide (0<=eW (oY t r) (oY t row)))=true by simp[g]];by_cases j:eW (oY t r) (oY t row)=0
   .rw[if_neg (by simp[j])];have e:=lB.1 j
    rw[PS λx c=>by
     have d:=f x c;rw[e]at d;have:=pV (oY t x) (oY t row);omega]
    exact pairwise_cons.2 ⟨λx c=>by rw[<-e];exact f x c,n⟩
   .rw[if_pos j];have d:eW (oY t row) (oY t r)<0:=by have:=pV (oY t row) (oY t r);omega
    rw[PS λx c=>by
     have o:=Gp d (f x c);have:=pV (oY t x) (oY t row);omega]
    refine pairwise_cons.2 ⟨λx c=>?_,h⟩;rcases mem_cons.1 c with rfl|c
    .exact d
    .exact Gp d (f x c)
  .rw[if_neg (by simp[g]),if_pos aC,show(false||decide (0<=eW (oY t r) (oY t row)))=false by simp[g]];refine pairwise_cons.2 ⟨λx c=>?_,PT n⟩;rcases Oz c with rfl|c
   .omega
   grind
theorem Pz{st:List br}(h:kJ s st=0):eH s=0/\st.length=s.tables.length/\Pw s st/\(st.map λl=>(l.length:Int)).sum<=512:=by
 unfold kJ at h
 grind
theorem buZ{t:Am}{x y:ca}(h:x.length=y.length):(oY t x).length=(oY t y).length:=by simp[oY,h]
theorem bPJ{t:Am}{x y:ca}(h:x.length=y.length)(c:eW (oY t x) (oY t y)<0):eW x y<0:=by
 have d:x=oY t x++x.drop (max 0 (min t.key x.length)).toNat:=(take_append_drop _ _).symm;have e:y=oY t y++y.drop (max 0 (min t.key y.length)).toNat:=(take_append_drop _ _).symm;rw[d,e,LH (buZ h),if_pos aC];exact c
theorem R0.of{t:Am}:∀{l:br},(∀(i:Nat) r r',l[i]? =some r->l[i+1]? =some r'->eW (oY t r) (oY t r')<0)->R0 t l
 |[],_=>List.Pairwise.nil
 |[_],_=>pairwise_singleton _ _
 |a::b::l,h=>by
  have d:R0 t (b::l):=R0.of λi r r' f g=>h (i+1) r r' f g;refine pairwise_cons.2 ⟨λx c=>?_,d⟩;have e:=h 0 a b rfl rfl;rcases mem_cons.1 c with rfl|c
  .exact e
  .exact Gp e ((pairwise_cons.1 d).1 x c)
theorem R0.adj{t:Am}{l:br}(h:R0 t l)(i:Nat)(r r':ca)(c:l[i]? =some r)(d:l[i+1]? =some r'):eW (oY t r) (oY t r')<0:=by
 obtain⟨e,rfl⟩:=List.getElem?_eq_some_iff.1 c;obtain⟨f,rfl⟩:=List.getElem?_eq_some_iff.1 d;exact pairwise_iff_getElem.1 h i (i+1) e f aC
theorem V2{t:ByteArray}(h:t.toList=(⟨#[]⟩:ByteArray).toList):t.size<=64:=by rw[CU h];decide
theorem Jn{t:ByteArray}(h:G1 t=true):t.size<=64:=V2 (by simp only[G1,beq_iff_eq]at h;rw[h,ByteArray.toList_eq])
theorem Nr{v:VV}(h:kA v=true):v.text.size<=64:=by
 unfold kA at h;split at h
 .simp only[Bool.and_eq_true]at h;exact Jn h.2
 .split at h
  .simp only[Bool.and_eq_true]at h;exact Jn h.2
  .split at h
   .exact Jn h
   grind
theorem Bw{q:Query}(h:(fI s ps q).2=0):eH s=0/\ps.all gM=true/\nI q=true/\(aL s ps q).2=0:=by
 unfold fI at h;split at h
 .rename_i c;split at h
  .rename_i d;split at h
   .grind
   .simp[eC]at h
  .simp[eC]at h
 .rename_i c;simp[eC]at h;omega
theorem Ns{v:VV}(h:kA v=true):1<=v.kind/\v.kind<=5/\v.text.size<=64:=by
 refine⟨?_,?_,Nr h⟩
 all_goals
  unfold kA at h;split at h
  .rename_i e;simp at e;omega
  .split at h
   .rename_i e;simp at e;omega
   .split at h
    .rename_i e;simp at e;omega
    .split at h
     .rename_i e;simp at e;omega
     .cases h
theorem Vb{t:Am}{r:ca}(h:EO t r=true):r.length=t.columns.length/\∀v∈r,kA v=true:=by
 simp only[EO,Bool.and_eq_true,decide_eq_true_eq,all_eq_true,mem_range]at h;refine⟨h.1,λv e=>?_⟩;obtain⟨i,c,rfl⟩:=mem_iff_getElem.1 e;have d:=h.2 i c;simp only[BY,Bool.and_eq_true,getD_eq_getElem?_getD,getElem?_eq_getElem c,Option.getD_some]at d;exact d.1
theorem b3Z{t:Am}{l:br}(u:t.columns.length<=12)(c:auJ t l)(g:∀r∈l,∀v∈r,uR v.kind/\uR v.int)(j:l.length<=8000000):iG t.columns.length l:=by
 have n:∀r∈l,r.length=t.columns.length:=λr d=>(Vb (c.1 r d)).1;refine⟨λr d=>⟨bg,λv e=>?_⟩,n,?_,j⟩
 .have o:=(Vb (c.1 r d)).2 v e;have f:=g r d v e;exact⟨f.1,f.2,(Ns o).2.2⟩
 .exact(R0.of c.2).imp_of_mem fun{x y} e z h=>bPJ bg h
def jO(st:List br)(q:Query):List br:=(dW q).map λt=>st.getD t.toNat []
theorem blJ{s:jQ}{st:List br}{t:Int}(c:kJ s st=0)(n:StV st)(o:0<=t)(D:t<s.tables.length):iG (jA s t).length (st.getD t.toNat [])/\st.getD t.toNat []∈st:=by
 obtain⟨u,E,y,F⟩:=Pz c;have f:t.toNat<s.tables.length:=by omega
 have g:t.toNat<st.length:=by omega
 have j:s.tables[t.toNat]? =some s.tables[t.toNat]:=getElem?_eq_getElem f;have z:st[t.toNat]? =some st[t.toNat]:=getElem?_eq_getElem g;have A:st.getD t.toNat []=st[t.toNat]:=bg
 have d:st[t.toNat]∈st:=getElem_mem g;have G:=Aq u _ (getElem_mem f);have B:(jA s t).length=s.tables[t.toNat].columns.length:=by rw[jA,if_neg aC,j];simp
 have e:∀{l:List br}{x},x∈l->((x.length:Nat):Int)<=(l.map λl=>(l.length:Int)).sum:=fun{l x}=>by
  induction l with
  |nil=>grind
  |cons a l C=>
   intro h
   have o:∀l:List br,0<=(l.map λl=>(l.length:Int)).sum:=λl=>by
    induction l with
    |nil=>simp
    |cons a l C=>grind
   grind
 have:=e d;rw[A,B];exact⟨b3Z aC (y _ _ _ j z) (n _ d) aC,d⟩
theorem PG{st:List br}{q:Query}{ks:bn}{c:Nat}(d:kJ s st=0)(o:StV st)(A:∀l∈st,l.length<=c)(u:1<=c)(e:aL s ps q=(ks,0))(g:gI c q<=8000000):
 Y0 (jO st q) q 0/\(iO (jO st q) q 0).1=nW st q/\iG ks.length (nW st q)/\(nW st q).length<=8000000:=by
 have z:∀(j:Nat)(t:Int),(dW q)[j]? =some t->(jO st q)[0+j]? =some (st.getD t.toNat []):=λj t h=>by rw[Nat.zero_add,jO,getElem?_map,h];rfl
 have x:=Lp u (ls:=jO st q) (k:=0) e ⟨λj t h=>⟨_,z j t h,by
  have n:=EF e t (mem_of_getElem? h);have:=blJ d o n.1 n.2
  grind⟩⟩ g
 have y:=T0 (st:=st) (ls:=jO st q) (k:=0) e ⟨λj t h=>bg⟩;have f:(iO (jO st q) q 0).1=nW st q:=by rw[y]
 refine⟨x.ok,f,by rw[<-f];exact x.rel,?_⟩;rw[<-f];exact Nat.le_trans x.bnd g
def aPl(p r:Sl):CV:=.val (.agg ⟨[.slice p.a p.len p.cap,.slice r.a r.len r.cap]⟩)
theorem cN.keep{r:CV}(c:Sub m m')(le:PH.le h h')(d:K r m h):cN h K r m' h':=
 λ_=>⟨m,h,c,.refl _,λb i v e=>.inl (le.le b i v e),d⟩
def b2J(q:Query):Prop:=
 match q with
 |.mk op _ _ _ _ _ _ _ args=>(args.length:Int)=arity op/\∀a∈args,b2J a
 termination_by SizeOf.sizeOf q
theorem bQQ{op:Int}{w:Pred}{on:bu}{args:ce}:
 b2J (.mk op ta w co on gr od li args)↔(args.length:Int)=arity op/\∀a∈args,b2J a:=by rw[b2J.eq_def]
theorem E0(op:Int):arity op<=2:=by
 unfold arity;omega
theorem PU{α:Type}{l c:List α}(h:l<+:c){x:α}(hx:l[i]? =some x):c[i]? =some x:=by
 obtain⟨r,rfl⟩:=h
 grind
end Go.Ps
