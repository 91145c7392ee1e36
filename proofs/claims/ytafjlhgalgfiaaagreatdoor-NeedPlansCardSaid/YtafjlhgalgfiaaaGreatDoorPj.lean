/- Own work. -/
import Derived.Test.YtafjlhgalgfiaaaGreatDoorPi
set_option linter.unusedVariables false
set_option linter.unusedSimpArgs false
namespace Go.Ps
open Go Go.Vc Go.Proofs List Tryz
variable{K:da}{m:MH}{h:PH}{s:jC}{ps:db}{ts:dn}{cb:Nat}{sc:cK}{v:QV}{t:Step}{p:Pred}{l:db}{i:Nat}{N:Nat}{m':MH}{h':PH}{co:db}{gr:db}{od:di}{ta:Int}{li:Int}{xs:List dc}{sz:Nat}{ks:List db}{rs:db}{r:Sl}{a:db}{b:Nat}
theorem c7Q x:Vc.valOf Tryz.prog 4 [x]=x:=bh
theorem Mv{g S u}{c:dc}{b}(d:cz g S)(e:∀K:CV->MH->PH->Prop,K (cB b) m h->S (cS u::c.map .val) m h K):FAt Tryz.prog g 4 (cS u::c.map .val) m h λx m' h'=>x=[.bool b]/\m'=m/\h'=h:=
 Sound.fat (vs:=Sl.val u::c) d (e _ ⟨[.bool b],(congrArg CV.val (c7Q _)).symm,rfl,rfl,rfl⟩)
structure StM(m m2:MH)(b b2:Nat)(v:xU)(s2:Sl):Prop where
 sub:Sub m m2
 b_:m2 b=some (.cells ⟨xU.enc v⟩ 101 (0,0))
 s_:m2 b2=some (.cells #[Sl.val s2] 58 (0,0))
 tab:gX m2
theorem ay:cz 50 Y9:=by
 refine VN func50 ?_;rintro k0 m h K ⟨v,t,R,S,n,B,rfl,U,G,I,hT,h2,g8,P,W,b0,J⟩;refine⟨f50_ctx,rfl,aE a6X (aE bbJ (aE a5Z (aE Tk (aE DN (aE atZ (aE asJ aI)))))),ae v R S m h (fV h K),bh,?_⟩;show ae v R S m h (fV h K);dsimp only[ae,push_cast];obtain⟨op,ta,w,co,on,gr,od,li,lf,rt⟩:=t;dsimp only[Step.query]at P J h2 g8;intro b m1 d1 a5 b2 m2 b1 a6
 have M:StM m m2 b b2 v S:=by
  obtain⟨R,n1⟩:=yH (Sub.refl m) d1 a5;obtain⟨st,n2⟩:=yH R b1 a6;have g9:b≠b2:=λe=>by have:=b1.m_;rw[<-e,a5.at_]at this;cases this
  exact⟨st,by rw[a6.other b g9];exact a5.at_,a6.at_,hT.sub st⟩
 clear d1 a5 b1 a6;have d2:=bI.slen G;have d3:=bI.slen I;have e0:v.op=op:=U.op_;have go:∀k,(v.op==k)=true->op=k:=λk e=>e0.symm.trans (eq_of_beq e);have b6:∀{m' h'},m' b=some (.cells ⟨xU.enc v⟩ 101 (0,0))->aL m' h' b 0 (xU.enc v):=λh=>.of_m h (take_length ..);refine⟨v.op,.of_m M.b_ rfl,aC (λe=>?_) (λn2=>aC (λe=>?_) (λn3=>aC (λe=>?_) (λn4=>aC (λe=>?_) (λn5=>aC (λe=>?_) (λn6=>aC (λe=>?_) (λn7=>aC (λe=>?_) (λn8=>aC (λe=>?_) (λn9=>?_))))))))⟩
 .obtain rfl:=go _ e;exact⟨R,96,[.pointer (some ⟨b,0,none⟩)],n,λr=>iX r w,rfl,G,W,λu r j X=>Mv a6Q λK J=>⟨u,b,v,w,r,rfl,M.b_,U.where_,X,J⟩,λL h' le j=>fV.sub M.sub le (J L h' le j)⟩
 .obtain rfl:=go _ e;obtain⟨_,k3,wd,d,C⟩:=(show ZC (.mk 3 ta w co on gr od li []) [n,B]from P)
  have d:iM wd n:=d;have hc:Ints h v.columns co:=U.columns_;have h4:=hc.slen;refine⟨aD,aD,aD,aD,λx=>x.1<=n.length/\x.2.1=b/\x.2.2.1=R/\x.2.2.2.2.1=m2/\PH.le h x.2.2.2.2.2/\dR x.2.2.2.2.2 x.2.2.2.1 ((n.take x.1).map λr=>pick r co),λx=>n.length-x.1,⟨(0,b,R,[],m2,h),⟨Nat.zero_le _,rfl,rfl,rfl,.refl _,bx (dR.nil h)⟩,MT⟩,?_⟩;rintro⟨i,b',t1,us,mx,Y⟩ ⟨hi,e1,A,O,le,j⟩;dsimp only at hi e1 A O le j⊢
  subst e1 A O;refine aF (λb7=>?_) (λd4=>?_)
  .obtain⟨r,D⟩:=dW d2 b7;obtain⟨bb,o,u,ea,rd,X⟩:=bI.at G D;have k4:=d.wid r (ce D);have d5:=bR.mono X le;have k5:=bI.slen d5;have k6:(pick r co).length=co.length:=by simp[pick]
   have d6:=j.len;rw[length_map,length_take]at d6;refine⟨bb,o,ea,aD,aD,u,.imm (rd.mono le),v.columns,.of_m M.b_ rfl,aD,aD,aD,aD,v.columns,.of_m M.b_ rfl,λz=>z.1<=co.length/\z.2.1=i/\z.2.2.1=b'/\z.2.2.2.1=t1/\z.2.2.2.2.1=u/\z.2.2.2.2.2.1=v.columns/\z.2.2.2.2.2.2.1=us/\z.2.2.2.2.2.2.2.1=(pick r co).take z.1++replicate (co.length-z.1) zeroV/\z.2.2.2.2.2.2.2.2.1=mx/\z.2.2.2.2.2.2.2.2.2=Y,λz=>co.length-z.1,⟨(0,i,b',t1,u,v.columns,us,replicate co.length zeroV,mx,Y),⟨Nat.zero_le _,rfl,rfl,rfl,rfl,rfl,rfl,bi,rfl,rfl⟩,?_⟩,?_⟩
   .dsimp only;rw[map_replicate,show((v.columns.len:Int)).toNat=co.length by omega];exact MT
   .rintro⟨k,i',d7,d8,u',cc,d9,cells,my,hy⟩ ⟨hk,e1,A,O,e4,e5,e6,e7,e8,e9⟩;dsimp only at hk e1 A O e4 e5 e6 e7 e8 e9⊢
    subst e1 A O e4 e5 e6 e7 e8 e9;refine aF (λe'=>?_) (λd4=>?_)
    .obtain⟨c,f'⟩:=dW h4 e';obtain⟨b4,o4,e4,k7⟩:=(hc.mono le).at f';obtain⟨y,h7,h8,h0,h1⟩:=Vr (r:=r) bo f';obtain⟨b5,o5,y',e5,h9,rfl⟩:=bI.at d5 h7;have f0:k<co.length:=by omega
     have f1:=bvZ h8 f0;refine⟨b4,o4,e4,aD,aD,c,.imm bo,b5,o5,e5,h0,aD,y,.imm h9,aD,bn,_,aZZ f0,by simp[VV.enc],(k+1,i',d7,d8,u',v.columns,d9,(pick r co).take (k+1)++replicate (co.length-(k+1)) zeroV,my,hy),⟨aD,rfl,rfl,rfl,rfl,rfl,rfl,rfl,rfl,rfl⟩,aD,?_⟩;dsimp only;refine⟨rfl,rfl,rfl,rfl,rfl,rfl,rfl,rfl,rfl,by rw[fR aD],rfl,?_,rfl,rfl,trivial⟩;rw[<-f1,map_set];rfl
    .have:k=co.length:=by omega
     subst this;rw[ci aD,Nat.sub_self,replicate_zero,append_nil]
     refineλs3 h3 E T=>⟨bo,bo,(i'+1,d7,d8,d9++[s3],my,h3),⟨aD,rfl,rfl,rfl,le.trans E,?_⟩,aD,?_⟩
     .dsimp only;rw[cq,D,cj];exact(j.mono E).snoc ⟨⟨_,T,rfl,λi x Y=>⟨x,Y,rfl⟩⟩,bo⟩
     .dsimp only;rw[fR aD,cj];exact MT
  .rw[ci aD]at j
   exactλs3 h3 E T=>⟨s3,us,_,rfl,.imm T,j.mono E,bn,λL h' a' b8=>fV.sub M.sub (le.trans (E.trans a')) (J L h' (le.trans (E.trans a')) b8)⟩
 .obtain rfl:=go _ e;obtain⟨h5,h6⟩:=(show ZD (.mk 4 ta w co on gr od li []) [n,B]from P)
  exact⟨v,b6 M.b_,S,.of_m M.s_ rfl,v,on,R,S,n,B,rfl,U.on_,G,I,M.tab,h5,h6,λL h' le j=>fV.sub M.sub le (J L h' le j)⟩
 .obtain rfl:=go _ e;obtain⟨_,wa,wb,d,f,f2,b9⟩:=(show bwJ (.mk 5 ta w co on gr od li []) [n,B]from P)
  have d:iM wa n:=d;have f:iM wb B:=f;refine⟨v.on,.of_m M.b_ rfl,v.on,on,rfl,U.on_,λsa sb h1 F i0 i1 b3 m3 f3 c'=>⟨_,_,⟨c'.at_⟩,bi,λm4 a0 y m5 i2 Z b4 m6 f4 c0=>⟨_,_,⟨c0.at_⟩,bi,λm7 c5=>?_⟩⟩⟩;obtain⟨k8,n3⟩:=yH M.sub f3 c'
  have Q:∀{z o},m2 z=some o->m4 z=some o:=fun{z o} A=>by
   have:z≠b3:=λO=>by rw[O,f3.m_]at A;cases A
   rw[a0.other z this,c'.other z this];exact A
  have c6:∀{z o},m4 z=some o->m7 z=some o/\z≠y:=fun{z o} A=>by
   have O:z≠y:=λO=>by rw[O,i2.m_]at A;cases A
   have e5:m5 z=some o:=by rw[Z.other z O];exact A
   have e4:z≠b4:=λe4=>by rw[e4,f4.m_]at e5;cases e5
   exact⟨by rw[c5.other z e4,c0.other z e4];exact e5,O⟩
  have y4:y≠b4:=λe=>by have:=f4.m_;rw[<-e,Z.at_]at this;cases this
  have i3:m7 y=some (.map #[] 0):=by rw[c5.other y y4,c0.other y y4];exact Z.at_
  have i4:m7 b2=some (.cells #[Sl.val S] 58 (0,0)):=(c6 (Q M.s_)).1;have f5:=c6 a0.at_;have V:∀{z o},m z=some o->m7 z=some o/\z≠y:=fun{z o} e=>c6 (Q (M.sub z o e));have G:=bI.mono G F (λ_ _ h=>bR.mono h F);have I:=bI.mono I F (λ_ _ h=>bR.mono h F);refine⟨S,.of_m i4 rfl,λz=>z.1<=B.length/\z.2.1=b3/\z.2.2.1=b4/\z.2.2.2.1=R/\z.2.2.2.2.1=sb/\z.2.2.2.2.2.1=S/\z.2.2.2.2.2.2.2=h1/\(∀x o,m7 x=some o->x≠y->z.2.2.2.2.2.2.1 x=some o)/\Ff z.2.2.2.2.2.2.1 y ((B.take z.1).map λr=>rP (pick r (fK on))),λz=>B.length-z.1,⟨(0,b3,b4,R,sb,S,m7,h1),⟨Nat.zero_le _,rfl,rfl,rfl,rfl,rfl,rfl,λ_ _ e _=>e,bx (Ff.new i3)⟩,MT⟩,?_⟩;rintro⟨i,c3,c4,t1,tb,t2,mx,Y⟩ ⟨hi,e1,A,O,e4,e5,e6,a1,a7⟩;dsimp only at hi e1 A O e4 e5 e6 a1 a7⊢
  subst e1 A O e4 e5 e6;have T7:gX mx:=hT.sub λz o e=>a1 z o (V e).1 (V e).2;have f6:mx c4=some (.cells #[.map (some y)] 157 (0,0)):=a1 c4 _ c5.at_ (Ne.symm y4);refine aF (λb7=>?_) (λd4=>?_)
  .obtain⟨r,D⟩:=dW d3 b7;obtain⟨bb,o,u,ea,rd,X⟩:=bI.at I D;have f7:=ce D;have r4:aL mx Y c4 0 [Value.map (some y)]:=.of_m f6 rfl;rw[fR aD];refine⟨bb,o,ea,aD,aD,u,.imm rd,y,r4,r4,u,tb,r,fK on,rfl,X,i1,f.row r f7,by rw[f.wid r f7];exact b9,T7,r4,a7.put (λm' i5 f8=>⟨(i+1,c3,c4,t1,tb,t2,m',Y),⟨aD,rfl,rfl,rfl,rfl,rfl,rfl,λz o A c7=>by dsimp only;rw[i5.other z c7];grind,?_⟩,aD,MT⟩)⟩;obtain⟨kk,h5,h6⟩:=f8.ex;exact⟨kk,h5,λq=>by rw[h6,cq,D];grind⟩
  .rw[ci aD]at a7;refine⟨t1,101,[.pointer (some ⟨c4,0,none⟩),.pointer (some ⟨c3,0,none⟩)],n,λx=>B.any λy=>agree on x y,rfl,G,W,λu r j X=>Mv atJ λK J=>⟨u,c4,c3,y,sa,r,fY on,_,rfl,f6,a1 c3 _ f5.1 f5.2,a7,i0,X,d.row r j,by rw[d.wid r j];exact f2,T7,λt U=>?_⟩,λL h' le j=>fV.sub (λz o e=>a1 z o (V e).1 (V e).2) (F.trans le) (J L h' (F.trans le) j)⟩;have f9:fE r.length (fY on):=by rw[d.wid r j];exact f2
   have h1:(rP (pick r (fY on))∈B.map λz=>rP (pick z (fK on)))↔(B.any λy=>agree on r y)=true:=by
    rw[mem_map,any_eq_true];constructor
    .rintro⟨z,hz,A⟩;exact⟨z,hz,(Nd L8 (d.row r j) (f.row z hz) f9 (by rw[f.wid z hz];exact b9)).1 A.symm⟩
    .rintro⟨z,hz,A⟩;exact⟨z,hz,((Nd L8 (d.row r j) (f.row z hz) f9 (by rw[f.wid z hz];exact b9)).2 A).symm⟩
   grind
 .obtain rfl:=go _ e;refine⟨S,.of_m M.s_ rfl,λs h1 F D=>⟨s,n,B,rfl,⟨⟨[R,S],D,rfl,λi x Y=>?_⟩,bi⟩,W,b0,λsl h2 H j=>?_⟩⟩
  .match i,Y with
   |0,Y=>cases Y;exact⟨R,rfl,bI.mono G F (λ_ _ h=>bR.mono h F)⟩
   |1,Y=>cases Y;exact⟨S,rfl,bI.mono I F (λ_ _ h=>bR.mono h F)⟩
  .obtain⟨⟨us,D,g',i8⟩,_⟩:=j;exact⟨sl,us,n++B,rfl,.imm D,⟨g'.symm,i8⟩,aD,λL h3 E T=>fV.sub M.sub (F.trans (H.trans E)) (J L h3 (F.trans (H.trans E)) T)⟩
 .obtain rfl:=go _ e;obtain⟨_,wd,d⟩:=(show MY (.mk 7 ta w co on gr od li []) [n,B]from P)
  exact⟨R,103,[.pointer (some ⟨b2,0,none⟩)],n,λr=>Cg B r==false,rfl,G,W,λu r j X=>Mv atX λK J=>⟨u,b2,S,B,r,rfl,M.s_,I,(d B bi).srt,X,b0,J⟩,λL h' le j=>fV.sub M.sub le (J L h' le j)⟩
 .obtain rfl:=go _ e;obtain⟨_,wd,d⟩:=(show MY (.mk 8 ta w co on gr od li []) [n,B]from P)
  exact⟨R,105,[.pointer (some ⟨b2,0,none⟩)],n,λr=>Cg B r==true,rfl,G,W,λu r j X=>Mv atQ λK J=>⟨u,b2,S,B,r,rfl,M.s_,I,(d B bi).srt,X,b0,J⟩,λL h' le j=>fV.sub M.sub le (J L h' le j)⟩
 .obtain rfl:=go _ e;obtain⟨_,⟨wd,d,C⟩,g0⟩:=(show ZB (.mk 9 ta w co on gr od li []) [n,B]from P)
  have d:iM wd n:=d;refine⟨v,b6 M.b_,v,R,gr,od,n,wd,rfl,U.group_,U.order_,G,d,C,M.tab,λy m3 h2 kk g hy g1 H hg=>⟨_,hg.map_,λr m4 c8 i9 it=>?_⟩⟩;have a2:∀{z o},m2 z=some o->m3 z=some o:=fun{z o} e=>bo
  have Q:∀{z o},m2 z=some o->m4 z=some o/\z≠r:=fun{z o} e=>by
   have:z≠r:=λA=>by have:=a2 e;rw[A,c8.m_]at this;cases this
   exact⟨by rw[i9.other z this];exact a2 e,this⟩
  refine⟨λz=>z.1=b/\z.2.2.1=r/\z.2.2.2.2=h2/\(∀x o,m4 x=some o->x≠r->z.2.2.2.1 x=some o)/\∃left a3,oR z.2.2.2.1 y r (kk.map λp=>(Value.string p.1,gP p.2)) left/\dR h2 z.2.1 a3/\Il rP gr li n kk g left a3,λz=>leftOf z.2.2.2.1 z.2.2.1,⟨(b,[],r,m4,h2),⟨rfl,rfl,rfl,λ_ _ e _=>e,_,[],it,dR.nil _,.start⟩,MT⟩,?_⟩;rintro⟨b',us,r',mz,hz⟩ ⟨e1,A,O,c9,left,a3,a4,a8,rk⟩;dsimp only at e1 A O c9 a4 a8 rk⊢
  subst e1 A O;have d6:=a8.len;have j2:=rk.cnt;refine⟨y,_,left,a4,λd' s3 h3 E T=>?_,λk1 x1 k2 g2 m5 g3 d0=>?_⟩
  .subst d';refine⟨s3,us,a3,rfl,.imm T,a8.mono E,aD,λL h' a' b8=>fV.sub (λz o e=>c9 z o (Q (M.sub z o e)).1 (Q (M.sub z o e)).2) (H.trans (E.trans a')) (J L h' (H.trans (E.trans a')) ?_)⟩;show Rows h' L (qH gr od li n n);rw[rk.done L8 hg d C g0];exact b8
  .have j':x1∈left:=bo
   obtain⟨p0,g4,rfl⟩:=mem_map.1 (oR.mem a4 j');have g5:v.limit=li:=U.limit_;have j0:m5 b'=some (.cells ⟨xU.enc v⟩ 101 (0,0)):=by rw[g3.other b' (Q M.b_).2];exact c9 b' _ (Q M.b_).1 (Q M.b_).2
   obtain⟨c1,c2,g6,D,j1,g'⟩:=btZ (li:=li) (hg.rows p0 g4) g0;have k9:=(hg.perm p0.1).length_eq;have k':(rC rP gr n p0.1).length<=n.length:=length_filter_le _ _;refine⟨y,_,_,_,d0,p0.2,rfl,li,.of_m j0 (by rw[<-g5];rfl),c1,c2,g6.map eS,Ad _,.imm D,bo,bo,(b',us++g6,r',m5,hz),⟨rfl,rfl,rfl,λx o e c7=>by dsimp only;rw[g3.other x c7];grind,_,a3++(g p0.1).take li.toNat,d0.it,a8.app j1,rk.step hg a4 g4 g2⟩,?_,bo⟩;show leftOf m5 r'<leftOf mz r';rw[oR.left_ d0.it,oR.left_ a4,g2];simp
 .have n2:=ne_of_beq_false n2;have n3:=ne_of_beq_false n3;have n4:=ne_of_beq_false n4;have n5:=ne_of_beq_false n5;have n6:=ne_of_beq_false n6;have n7:=ne_of_beq_false n7;have n8:=ne_of_beq_false n8;have n9:=ne_of_beq_false n9;obtain rfl:op=10:=by omega
  obtain⟨_,wd,d,f,C⟩:=(show Qx (.mk 10 ta w co on gr od li []) [n,B]from P)
  have d:iM wd n:=d;have f:iM wd B:=f;refine⟨v,b6 M.b_,S,.of_m M.s_ rfl,v,S,gr,od,B,wd,rfl,U.group_,U.order_,I,f,C,M.tab,λy m3 h2 kk g hy g1 H hg b4 m4 c8 a0=>⟨_,_,⟨a0.at_⟩,bi,λm5 Z=>?_⟩⟩
  have g7:∀{z o},m3 z=some o->m5 z=some o:=fun{z o} e=>by
   have:z≠b4:=λA=>by rw[A,c8.m_]at e;cases e
   rw[Z.other z this,a0.other z this];exact e
  have a2:∀{z o},m2 z=some o->m5 z=some o:=fun{z o} e=>g7 bo;have a9:Sub m m5:=λz o e=>a2 (M.sub z o e);exact⟨R,107,[.pointer (some ⟨b4,0,none⟩),.pointer (some ⟨b,0,none⟩)],n,λr=>decide (((B.countP λy=>jL gr r y&&decide (jT od y r<0):Nat):Int)<v.limit),rfl,bI.mono G H (λ_ _ h=>bR.mono h H),W,λu r j X=>Mv asZ λK J=>⟨u,b4,b,v,y,gr,od,B,kk,g,r,wd,rfl,Z.at_,a2 M.b_,hg.keep (λo=>g7) (.refl _),f,C,U.group_.mono H,U.order_.mono H,X,d.row r j,d.wid r j,hT.sub a9,J⟩,λL h' le j=>fV.sub a9 (H.trans le) (J L h' (H.trans le) (by have e:v.limit=li:=U.limit_;rw[e]at j;exact j))⟩
noncomputable def lF st ts:=(List.range ts.length).map λi=>bL st (aW ts i)
structure Hb(s:jC)(st:List de)(ts:dn):Prop where
 ar:∀(i:Nat) t,ts[i]? =some t->0<=arity t.op
 fit:∀(i:Nat) t,ts[i]? =some t->qL i t
 kinds:∀i,i<ts.length->(aK s [] (aW ts i)).2=0
 bnd:∃c,1<=c/\(∀l∈st,l.length<=c)/\∀i,i<ts.length->gM c (aW ts i)<=8000000
def c3Q:Vc.Spec:=λd m h K=>∃sc e p r s c ts rs,d=[aS sc,Zm e,aPl p r]/\iC h s sc/\Cu h e c/\pM h p r ts rs/\gX m/\(iF s ts rs=0->lC s c=0->Hb s c ts)/\
 (iF s ts rs≠0->K (.tup [Dn,cI (iF s ts rs)]) m h)/\(iF s ts rs=0->lC s c≠0->K (.tup [Dn,cI (lC s c)]) m h)/\(iF s ts rs=0->lC s c=0->∀f h',PH.le h h'->Leaves h' f (lF c ts)->K (.tup [cS f,cI 0]) m h')
noncomputable def czJ(sl p:Sl):=cZ [(48,Sc),(49,OQ),(50,Y9),(51,U1)] [(9,{A:=Nat×dg×MH×PH,st:=λ⟨i,c,m,h⟩=>bS 85 88 [(4,.at (.ptr 4 0)),(11,.at (.lst 34)),(36,sv p),(37,iv p.len),(38,iv i)] [(4,.cells 52 [.val (.slice sl.a sl.len sl.cap)]),(34,.lst 58 1 (c.map eS))] m h}),
 (16,{A:=Nat×Nat×dg×MH×PH,st:=λ⟨i,n,c,m,h⟩=>bS 85 88 [(11,.at (.lst 34)),(71,.at (.lst 34)),(72,iv n),(73,iv i)] [(34,.lst 58 1 (c.map eS))] m h})] [] [] false
abbrev oM a:=eQ (oQ 52 (nR (nX a)))
noncomputable abbrev Bt a:=bW 58 1 (List.map eS a)
abbrev Gh a b:=bW 58 1 a=Bt b
noncomputable abbrev oA(a:Nat×dg×MH×PH):=a.2.1
noncomputable abbrev zB(a:Nat×dg×MH×PH):=a.2.2
noncomputable abbrev qV a:=(zB a).2
attribute [push_cast] oM Bt Gh oA zB qV
def Rx sc sl p r m h K:=
  ∃(s:cK),gL (λH J=>∃(D:jC),E9 (λt E=>aH (aX (cL sc) (sE p r)=aX (cL s) (sE H J)) (iC h D s) (pM h H J t E) (∀(_:Sl),dH (iF D t E) 0 (cJ K (iF D t E) m h) (uS (λv F=>M5 (λL A=>aA (cL sc::aX (fI 3) (rO sl)=cL v::aX (fI 3) (rO L)) (iC h F v) (aA (Leaves h L A) (oV A.length) (dH (lC F A) 0 (cJ K (lC F A) m h) (aA (cF (aG p)) (nA (aG p) p) (aA (tQ p 24) (tR p) (∃(I:Nat×dg×MH×PH->Prop)(B:Nat×dg×MH×PH->Nat),(∃(x:Nat×dg×MH×PH),aA (I x) iL (aA (eL 34) (aJ p) (aA (bG p) (bA x.1) (aA (oM sl) (Gh (vK (aG p) j5) (oA x)) (bO (cN m (zB x)) h (qV x))))))/\∀(x:Nat×dg×MH×
 PH),I x->aZ (↑x.1:Int) (aG p) (bF (λb o=>aH (aM p.a b o) (0<=(↑x.1:Int)) ((↑x.1:Int)<aG p) (∃(y:xU),aL (zB x).1 (qV x) b (bK o x.1 22) y.enc/\dO y.op 1 (bF (λM O=>aH (aM sl.a M O) (0<=y.table) (y.table<aG sl) (∃(u:Sl),aH (aL (zB x).1 (qV x) M (fF O y.table 1) (bH u)) (0<=(↑x.1:Int)) ((↑x.1:Int)<wT (oA x)) (∃(e:dc),aA (pY (jY (oA x)) (↑x.1:Int) e) (0<e.length) (∃(c:Nat×dg×MH×PH),aA (I c) (B c<B x) (aA iL (eL 34) (aA (aJ p) (bG p) (aA (fU (bC x.1 1)=bP c.1) (oM sl) (aH (Gh (List.set (jY (oA x)) (↑x.1:Int).toNat (xP (gP u) 1 e)) (oA c)) (cN (zB x).1 (zB c)) (qV x=qV c) True))))))))) (sC y.left (wT (oA x)) (λe
 =>pY (jY (oA x)) y.left e/\∃(u:Sl),aH (CI e u) (0<=y.right) (y.right<wT (oA x)) (∃(n:dc),pY (jY (oA x)) y.right n/\∃(P:Sl),CI n P/\QL (λQ d=>gL (λg z=>E7 (λl C=>aA (pZ y::aX (cM u) (cM P)=pZ Q::aX (cM g) (cM z)) (vN (qV x) d Q) (aA (Rows (qV x) g l) (Rows (qV x) z C) (aA (gX (zB x).1) (2<=d.op) (aA (d.op<=10) (OX d.op (Query.mk d.op d.table d.wher d.columns d.on d.group d.order d.limit []) [l,C]) (aA (oU l) (oU C) (fB (λR f=>bY (qV x) f (Rows f R (F0 d.op (Query.mk d.op d.table d.wher d.columns d.on d.group d.order d.limit []) [l,C])) (sC (↑x.1:Int) (wT (oA x)) (λG=>aA (pY (jY (oA x)) (↑x.1:Int) G) (0<
 G.length) (∃(c:Nat×dg×MH×PH),aA (I c) (B c<B x) (aA iL (eL 34) (aA (aJ p) (bG p) (aA (fU (bC x.1 1)=bP c.1) (oM sl) (aH (Gh (List.set (jY (oA x)) (↑x.1:Int).toNat (xP (gP R) 1 G)) (oA c)) (cN (zB x).1 (zB c)) (f=qV c) True)))))))))))))))))))))) (∃(I1:Nat×Nat×dg×MH×PH->Prop)(S:Nat×Nat×dg×MH×PH->Nat),(∃(c:Nat×Nat×dg×MH×PH),aA (I1 c) (eL 34) (aA (eL 34) (bV (zF (oA x)) c.2.1) (aA (bA c.1) (Bt (oA x)=Bt (oA c.2)) (aA (cN (zB x).1 (zB c.2)) (qV x=qV c.2) True))))/\∀(c:Nat×Nat×dg×MH×PH),I1 c->aZ (↑c.1:Int) (↑c.2.1:Int) (sC (↑c.1:Int) (wT (oA c.2)) (λe=>pY (jY (oA c.2)) (↑c.1:Int) e/\∃(y:
 Sl),CI e y/\KY (λg l=>aA (gK y=gK g) (Rows (qV c.2) g l) (aA (oU l) (∀(T:dj),DH T l (DJ T)) (fB (λz f=>bY (qV c.2) f (Rows f z l) (sC (↑c.1:Int) (wT (oA c.2)) (λn=>aA (pY (jY (oA c.2)) (↑c.1:Int) n) (0<n.length) (∃(j:Nat×Nat×dg×MH×PH),aA (I1 j) (S j<S c) (aA (eL 34) (eL 34) (aA (bV c.2.1 j.2.1) (fU (bC c.1 1)=bP j.1) (aA (Gh (List.set (jY (oA c.2)) (↑c.1:Int).toNat (xP (gP z) 1 n)) (oA j.2)) (cN (zB c.2).1 (zB j.2)) (bQ f (qV j.2)))))))))))))) (bN (qV c.2) 1 (List.map eS (oA c.2)) (λg f=>iP K g 0 (zB c.2).1 f))))))))))))))
theorem MN(st:List de):∀l,AU st l=l.map (bL st)
 |[]=>by simp[AU]
 |q::l=>by rw[AU,MN st l];rfl
theorem bwZ{op o w on args ls}:F0 op (.mk o ta w co on gr od li args) ls=F0 op (.mk o ta w co on gr od li []) ls:=rfl
theorem S6{op o w on args ls}:OX op (.mk o ta w co on gr od li args) ls=OX op (.mk o ta w co on gr od li []) ls:=rfl
theorem brJ{st ts}(ok:Dq ts){i t}(c:ts[i]? =some t)(d:t.op≠1):bL st (aW ts i)=F0 t.op t.query ((Cc t).map λa=>bL st (aW ts a.toNat)):=by
 rw[rQ ok c,bL,if_neg d,MN,DS,map_map];exact bwZ
theorem bxZ{st op w on args ks c}(e:lC s st=0)(g:StV st)(n:∀l∈st,l.length<=c)(o:1<=c)(f:aK s ps (.mk op ta w co on gr od li args)=(ks,0))(u:gM c (.mk op ta w co on gr od li args)<=8000000)(d:op≠1):
 OX op (.mk op ta w co on gr od li args) (AU st args):=by
 have x:=(Qg e g n o f u).1;rw[okQ,if_neg d]at x;obtain⟨z,A,_,_⟩:=zJ f;have B:eY (.mk op ta w co on gr od li args)=eN args:=by simp[eY,d]
 have y:=Kn (st:=st) (ls:=sF st (.mk op ta w co on gr od li args)) (k:=0) A ⟨λj t h=>by
  rw[getD_eq_getElem?_getD,Nat.zero_add,sF,B,getElem?_map,h];rfl⟩
 grind
theorem cfJ{c d}(h:arity t.op=1):F0 t.op t.query [c,d]=F0 t.op t.query [c]:=by
 obtain⟨op,ta,w,co,on,gr,od,li,a,b⟩:=t;have h:arity op=1:=h
 have:op=2\/op=3\/op=9:=by
  unfold arity at h
  grind
 rcases this with rfl|rfl|rfl<;>rfl
theorem bxX{d e}(h:arity t.op=1)(x:OX t.op t.query [d])(f:∃w,iM w e):OX t.op t.query [d,e]:=by
 obtain⟨op,ta,w,co,on,gr,od,li,a,b⟩:=t;have h:arity op=1:=h
 have:op=2\/op=3\/op=9:=by
  unfold arity at h
  grind
 rcases this with rfl|rfl|rfl
 .obtain⟨_,c⟩:=x;refine⟨bi,λl g=>?_⟩
  grind
 .obtain⟨_,c⟩:=x;exact⟨bi,c⟩
 .obtain⟨_,c⟩:=x;exact⟨bi,c⟩
theorem bwX{op}(h:0<arity op):2<=op/\op<=10:=by
 unfold arity at h
 grind
theorem cWQ{sl p st}(hs:iC h s sc)(C:Cu h sl st)(x:pM h p r ts rs)(hT:gX m)(hb:iF s ts rs=0->lC s st=0->Hb s st ts)(k1:iF s ts rs≠0->K (.tup [Dn,cI (iF s ts rs)]) m h)(k2:iF s ts rs=0->lC s st≠0->K (.tup [Dn,cI (lC s st)]) m h)(k3:iF s ts rs=0->lC s st=0->∀A h',PH.le h h'->Leaves h' A (lF st ts)->K (.tup [cS A,cI 0]) m h'):Rx sc sl p r m h K:=by
 dsimp only[Rx,push_cast];obtain⟨a7,_⟩:=x.slen;have b8:=x.len;refine⟨sc,p,r,s,ts,rs,rfl,hs,x,λkk=>aC (λe=>k1 (bx e)) (λe=>?_)⟩;have e1:iF s ts rs=0:=bx e
 refine⟨sc,s,sl,st,rfl,hs,C.lea,C.len,aC (λe=>k2 e1 (bx e)) (λe=>?_)⟩;have V:lC s st=0:=bx e
 have B:=hb e1 V;obtain⟨c,W,X,Y⟩:=B.bnd;have ok:Dq ts:=λi t e=>⟨B.ar i t e,Mc (B.ar i t e) (B.fit i t e)⟩
 have kq:∀j,j<ts.length->aK s [] (aW ts j)=((aK s [] (aW ts j)).1,0):=λj D=>Prod.ext rfl (B.kinds j D);have R:∀j,j<ts.length->∃w,iM w (bL st (aW ts j)):=λj D=>⟨_,(Qg V C.val X W (kq j D) (Y j D)).2.2.1⟩
 refine⟨aD,aD,aD,aD,λx=>x.1<=ts.length/\x.2.2.1=m/\PH.le h x.2.2.2/\∃G:dg,G.length=x.1/\x.2.1=G++replicate (ts.length-x.1) ⟨none,0,0⟩/\∀j,j<x.1->∃u,G[j]? =some u/\Rows x.2.2.2 u (bL st (aW ts j)),λx=>ts.length-x.1,⟨(0,replicate ts.length ⟨none,0,0⟩,m,h),⟨Nat.zero_le _,rfl,.refl _,[],rfl,bi,λj D=>by omega⟩,?_⟩,?_⟩
 .dsimp only;rw[map_replicate,show((p.len:Int)).toNat=ts.length by omega];exact MT
 rintro⟨i,vs,mx,hx⟩ ⟨hi,Z,le,G,H,hv,g⟩;dsimp only at hi Z le H hv g⊢
 subst Z hv;refine aF (λa'=>?_) (λa8=>?_)
 .obtain⟨t,f⟩:=dW a7 a';obtain⟨b,o,y,ea,rd,U⟩:=x.at f;have P:i<ts.length:=by omega
  have nx:∀(A:Sl)(h':PH),PH.le hx h'->Rows h' A (bL st (aW ts i))->∃e,((G++replicate (ts.length-i) (⟨none,0,0⟩:Sl)).map eS)[((i:Nat):Int).toNat]? =some e/\0<e.length/\∃E:dg,(((G++replicate (ts.length-i) (⟨none,0,0⟩:Sl)).map eS).set ((i:Nat):Int).toNat (gP A::List.drop 1 e))=List.map eS E/\∃Q:dg,Q.length=i+1/\E=Q++replicate (ts.length-(i+1)) ⟨none,0,0⟩/\∀j,j<i+1->∃u,Q[j]? =some u/\Rows h' u (bL st (aW ts j)):=λA h' d L=>by
   refine⟨[rU],?_,bi,(G++[A])++replicate (ts.length-(i+1)) ⟨none,0,0⟩,?_,G++[A],by simp[H],rfl,λj D=>?_⟩
   .rw[getElem?_map,Int.toNat_natCast,getElem?_append_right aD,getElem?_replicate,if_pos aD];rfl
   .rw[Int.toNat_natCast,show ts.length-i=(ts.length-(i+1))+1 by omega,replicate_succ,cj,set_append,if_neg (by simp[H]),cj,cj,append_assoc];simp[H,eS]
   .by_cases a0:j<i
    .obtain⟨u,S,J⟩:=g j a0;exact⟨u,bo,bI.mono J d (λ_ _ h=>bR.mono h d)⟩
    grind
  have a1:((List.map eS (G++replicate (ts.length-i) (⟨none,0,0⟩:Sl))).length:Int)=ts.length:=bo
  rw[a1,fR aD];refine⟨b,o,ea,aD,aD,y,.imm (rd.mono le),aC (λe=>?_) (λe=>?_)⟩
  .have F:t.op=1:=by rw[<-U.op_];grind
   have hq:=kq i P;rw[rQ ok f]at hq;have a9:=KH hq t.table (by rw[eY,if_pos F];simp);have b9:=bI.slen C.lea;have b7:=(Qb V).2.1;have a2:st[t.table.toNat]? =some (st.getD t.table.toNat []):=bo
   obtain⟨b2,o2,u,b',b0,hu⟩:=bI.at C.lea a2;have hF:bL st (aW ts i)=st.getD t.table.toNat []:=by rw[rQ ok f,bL,if_pos F]
   obtain⟨e,S,J,E,h3,h4⟩:=nx u hx (.refl _) (by rw[hF];exact bI.mono hu le (λ_ _ h=>bR.mono h le));rw[U.table_];exact⟨b2,o2,b',a9.1,aD,u,.imm (b0.mono le),aD,aD,e,S,J,(i+1,E,mx,hx),⟨aD,rfl,le,h4⟩,aD,bo⟩
  .have F:t.op≠1:=by rw[<-U.op_];grind
   have h0:=B.ar i t f;have J:=FG t.op;have c':arity t.op≠0:=λe=>F (RV e);have M:=bwX (op:=t.op) aD;have a3:=(ok i t f).2;have hA:arity t.op=1\/arity t.op=2:=by omega
   have hL:0<=t.left/\t.left<i:=a3 _ (by rcases hA with e|e<;>simp[Cc,e])
   have hR:0<=t.right/\t.right<i:=by
    rcases hA with e|e
    .have:=(bDX (B.fit i t f)).2 aD;omega
    .exact a3 _ (by simp[Cc,e])
   obtain⟨u1,b1,b3⟩:=g t.left.toNat aD;obtain⟨u2,b4,b5⟩:=g t.right.toNat aD
   have I:∀{j:Nat}{u:Sl},G[j]? =some u->((G++replicate (ts.length-i) (⟨none,0,0⟩:Sl)).map eS)[j]? =some (eS u):=fun{j u} h=>by
    grind
   have len:∀{j},j<ts.length->(bL st (aW ts j)).length<=8000000:=fun{j} D=>(R j D).elim λ_ h=>h.len;have hq:=kq i P;have a4:=Y i P;rw[rQ ok f]at hq a4;have x1:=bxZ V C.val X W hq a4 F;rw[MN,DS,map_map]at x1;have x2:=brJ (st:=st) ok f F
   have x3:OX t.op t.query [bL st (aW ts t.left.toNat),bL st (aW ts t.right.toNat)]/\bL st (aW ts i)=F0 t.op t.query [bL st (aW ts t.left.toNat),bL st (aW ts t.right.toNat)]:=by
    rcases hA with e|e
    .rw[show Cc t=[t.left]by simp[Cc,e]]at x1 x2;exact⟨bxX e (S6▸x1) (R _ aD),by rw[x2,cfJ e];rfl⟩
    .rw[show Cc t=[t.left,t.right]by simp[Cc,e]]at x1 x2;exact⟨S6▸x1,x2⟩
   rw[U.left_,U.right_];refine⟨hL.1,aD,eS u1,I b1,u1,rfl,hR.1,aD,eS u2,I b4,u2,rfl,y,t,u1,u2,_,_,rfl,U.mono le,b3,b5,hT,M.1,M.2,x3.1,len aD,len aD,λA h' d L=>?_⟩;obtain⟨e,S,J,E,h3,h4⟩:=nx A h' d (by rw[x3.2];exact L);exact⟨aD,aD,e,S,J,(i+1,E,mx,h'),⟨aD,rfl,le.trans d,h4⟩,aD,bo⟩
 .have:i=ts.length:=by omega
  subst this;rw[Nat.sub_self,replicate_zero,append_nil];refine⟨λx=>x.1<=ts.length/\x.2.1=ts.length/\x.2.2.2.1=mx/\PH.le h x.2.2.2.2/\x.2.2.1.length=ts.length/\∀j,j<ts.length->∃u,x.2.2.1[j]? =some u/\Rows x.2.2.2.2 u (bL st (aW ts j)),λx=>ts.length-x.1,⟨(0,ts.length,G,mx,hx),⟨Nat.zero_le _,rfl,rfl,le,H,g⟩,bo⟩,?_⟩;rintro⟨i,n,vs,my,hy⟩ ⟨hi,Z,e4,le,T,L⟩;dsimp only at hi Z e4 le T L⊢
  subst Z e4;refine aF (λa'=>?_) (λa8=>?_)
  .obtain⟨u,hu,g⟩:=L i aD;obtain⟨w,O⟩:=R i aD;have I:(vs.map eS)[((i:Nat):Int).toNat]? =some (eS u):=bo
   rw[length_map,T,fR aD];refine⟨aD,aD,eS u,I,u,rfl,u,_,rfl,g,O.len,λr L=>by have:=(O.row r L).len;omega,λA h' d c0=>⟨aD,aD,eS u,I,by simp[eS],(i+1,ts.length,vs.set i A,my,h'),⟨aD,rfl,rfl,le.trans d,bo,λj D=>?_⟩,aD,?_⟩⟩
   .dsimp only;rw[getElem?_set];by_cases a0:i=j
    .grind
    .obtain⟨u',S,J⟩:=L j D;exact⟨u',bo,bI.mono J d (λ_ _ h=>bR.mono h d)⟩
   .dsimp only;rw[map_set,Int.toNat_natCast];exact MT
  .refineλA h' d b6=>k3 e1 V A h' (le.trans d) ⟨⟨vs,b6,by simp[lF,T],λj z hz=>?_⟩,by simp[lF];omega⟩
   unfold lF at hz;rw[getElem?_map]at hz;cases D:(List.range ts.length)[j]? with
   |none=>grind
   |some k=>
    rw[D]at hz;obtain⟨a5,a6⟩:=List.getElem?_eq_some_iff.1 D;rw[length_range]at a5;rw[getElem_range]at a6;subst a6;have hz:bL st (aW ts j)=z:=bo
    subst hz;obtain⟨u,S,J⟩:=L j a5;exact⟨u,S,bI.mono J d (λ_ _ h=>bR.mono h d)⟩
theorem bjJ:cz 14 c3Q:=by
 refine gW func14 ?_;rintro e m h K ⟨sc,d,p,r,s,y,ts,rs,rfl,f,c,g,j,n,o,u,x⟩;refine⟨czJ d p,rfl,aE bdQ (aE bcJ (aE ay (aE ax aI))),Rx sc d p r m h K,bh,?_⟩;exact cWQ f c g j n o u x
noncomputable def JZ(st:List de)(p:dn×db):=p.2.map λr=>(lF st p.1).getD r.toNat []
noncomputable def xF s ts rs st:=if iF s ts rs≠0 then iF s ts rs else lC s st
def Sf s q:=(fG s [] q).2=0->DX q/\JJ (fO s q []).1/\kU (fO s q []).1<=100/\kF q<=100
theorem MJ{P f S S'}(x:Sound P f S)(d:∀c m h K,S' c m h K->S c m h K):Sound P f S':=⟨x.1,λc e m h w K g=>x.2 c e m h w K (d _ _ _ _ g)⟩
def NZ:Vc.Spec:=λc m h K=>∃sc v s q,c=[aS sc,aQ v]/\iC h s sc/\cY h q v/\sJ q=true/\gX m/\Sf s q/\∀p r h',PH.le h h'->((fG s [] q).2=0->pM h' p r (kN s q).1 (kN s q).2)->K (.tup [aPl p r,cI (fG s [] q).2]) m h'
theorem RG:cz 11 NZ:=MJ bkZ λ_ m h K⟨sc,v,s,q,e,f,g,c,j,n,o⟩=>⟨sc,v,s,q,e,f,g,c,j,n,λd=>o _ _ h (.refl _) (λe=>(d e).elim),λd p r h' le u=>bo⟩
def b3X:Vc.Spec:=λd m h K=>∃sc e p r s c ts rs,d=[aS sc,Zm e,aPl p r]/\iC h s sc/\Cu h e c/\pM h p r ts rs/\gX m/\(iF s ts rs=0->lC s c=0->Hb s c ts)/\
 ∀f h',PH.le h h'->(xF s ts rs c=0->Leaves h' f (lF c ts))->K (.tup [cS f,cI (xF s ts rs c)]) m h'
theorem Rw:cz 14 b3X:=MJ bjJ λ_ m h K⟨sc,j,p,r,s,n,ts,rs,e,o,d,u,x,y,f⟩=>⟨sc,j,p,r,s,n,ts,rs,e,o,d,u,x,y,
 λc=>by have:=f cG h (.refl _) (λe=>by unfold xF at e;omega);unfold xF at this;rw[if_pos c]at this;exact this,
 λc g=>by have:=f cG h (.refl _) (λe=>by unfold xF at e;omega);unfold xF at this;rw[if_neg (by simp[c])]at this;exact this,
 λc g z h' le A=>by have:=f z h' le (λ_=>A);unfold xF at this;grind⟩
def bpJ:Vc.Spec:=λd m h K=>∃sc e v s c q,d=[aS sc,Zm e,aQ v]/\iC h s sc/\Cu h e c/\cY h q v/\sJ q=true/\gX m/\Sf s q/\
 ((fG s [] q).2=0->iF s (kN s q).1 (kN s q).2=0/\(lC s c=0->Hb s c (kN s q).1/\∀l∈lF c (kN s q).1,l.length<=8000000/\∀r∈l,r.length<=1000))/\
 ((fG s [] q).2≠0->∀h',PH.le h h'->K (.tup [Dn,cI (fG s [] q).2]) m h')/\((fG s [] q).2=0->lC s c≠0->∀h',PH.le h h'->K (.tup [Dn,cI (lC s c)]) m h')/\
 ((fG s [] q).2=0->lC s c=0->∀f h',PH.le h h'->Leaves h' f (JZ c (kN s q))->K (.tup [cS f,cI 0]) m h')
noncomputable def cxJ:=vO [(11,NZ),(14,b3X),(57,Wo)] [(9,{A:=Nat×Sl×Sl×dg×MH×PH,st:=λ⟨i,rs,c,d,m,h⟩=>bS 77 80 [(10,sv rs),(11,.at (.lst 38)),(40,sv c),(41,iv c.len),(42,iv i)] [(38,.lst 58 1 (d.map eS))] m h}),
 (13,{A:=Nat×Nat×Sl×Sl×Sl×dg×MH×PH,st:=λ⟨j,i,rs,c,t,d,m,h⟩=>bS 77 80 [(10,sv rs),(11,.at (.lst 38)),(12,iv i),(40,sv c),(41,iv c.len),(42,iv i),(59,sv t),(60,iv t.len),(61,iv j)] [(38,.lst 58 1 (d.map eS))] m h})] [] [] [2058] [] false
noncomputable abbrev EW a b:=(fG a [] b).2
abbrev Vv(a:jC->(List de)->Prop):=∃(x:jC)(c:List de),a x c
noncomputable abbrev BG(a:Nat×Sl×Sl×dg×MH×PH):=a.2.2.1
noncomputable abbrev GJ(a:Nat×Sl×Sl×dg×MH×PH):=a.2.2.2.1
noncomputable abbrev C7(a:Nat×Sl×Sl×dg×MH×PH):=(mI a.2).2
noncomputable abbrev rM(a:Nat×Nat×Sl×Sl×Sl×dg×MH×PH):=a.2.2.2
noncomputable abbrev BF a:=(rM a).2.1
noncomputable abbrev Ez a:=(rM a).2.2.1
attribute [push_cast] EW Vv BG GJ C7 rM BF Ez
def Rr sc sl v m h K:=
  ∃(s:cK),Jf (λG f=>∃(q:Query),aA (aX (cL sc) (dG v)=aX (cL s) (dG G)) (iC h f s) (aA (cY h q G) (AY (sJ q)) (aA (gX m) (Sf f q) (∀(p:Sl),fB (λr g=>bY h g (EW f q=0->pM g p r (kN f q).1 (kN f q).2) (dH (EW f q) 0 (K (CV.tup (aX Dn (CV.val (eH (EW f q))))) m g) (∃(H:cK),gL (λJ L=>∃(M:Sl),Vv (λj n=>E9 (λt z=>aA (cL sc::aX (rO sl) (sE p r)=cL H::aX (rO J) (sE L M)) (iC g j H) (aA (Cu g J n) (pM g L M t z) (aA (gX m) (iF j t z=0->lC j n=0->Hb j n t) (fB (λO A=>bY g A (xF j t z n=0->Leaves A O (lF n t)) (dH (xF j t z n) 0 (cJ K (xF j t z n) m A) (aA (cF (aG r))
 (nA (aG r) r) (aA (tQ r 24) (tR r) (∃(I:Nat×Sl×Sl×dg×MH×PH->Prop)(P:Nat×Sl×Sl×dg×MH×PH->Nat),(∃(x:Nat×Sl×Sl×dg×MH×PH),aA (I x) (aY O x.2.1) (aA (eL 38) (aY r (BG x)) (aA (bZ r (BG x)) (bA x.1) (aA (Gh (vK (aG r) j5) (GJ x)) (cN m (mI x.2)) (bQ A (C7 x))))))/\∀(x:Nat×Sl×Sl×dg×MH×PH),I x->aZ (↑x.1:Int) (aG (BG x)) (bF (λb o=>aH (aM (BG x).a b o) (0<=(↑x.1:Int)) ((↑x.1:Int)<aG (BG x)) (∃(y:Int),aL (mI x.2).1 (C7 x) b (bK o x.1 1) (bM y)/\bF (λQ R=>aH (aM x.2.1.a Q R) (0<=y) (y<aG x.2.1) (∃(u:Sl),aA (aL (mI x.2).1 (C7 x) Q (fF R y 1) (bH u)) (cF (aG u)) (aA (nA (aG u) u) (tQ
 u 24) (tR u/\qC (λB D=>sX (mI x.2).1 D (C7 x) B 65 1 (vK (aG u) j5)->sC (↑x.1:Int) (wT (GJ x)) (λe=>aA (pY (jY (GJ x)) (↑x.1:Int) e) (0<e.length) (bF (λS T=>aH (aM x.2.1.a S T) (0<=y) (y<aG x.2.1) (∃(E:Sl),aL D (C7 x) S (fF T y 1) (bH E)/\∃(I1:Nat×Nat×Sl×Sl×Sl×dg×MH×PH->Prop)(U:Nat×Nat×Sl×Sl×Sl×dg×MH×PH->Nat),(∃(c:Nat×Nat×Sl×Sl×Sl×dg×MH×PH),aA (I1 c) (aY x.2.1 c.2.2.1) (aA (eL 38) (bV x.1 c.2.1) (aA (aY (BG x) (rM c).1) (bZ (BG x) (rM c).1) (aA (bV x.1 c.2.1) (aY E (BF c)) (aA (bZ E (BF c)) (bA c.1) (aA (Gh (List.set (jY (GJ x)) (↑x.1:Int).toNat (xP (gP B) 1 e)) (Ez c))
 (cN D (mI (rM c))) (bQ (C7 x) (mI (rM c)).2)))))))/\∀(c:Nat×Nat×Sl×Sl×Sl×dg×MH×PH),I1 c->aZ (↑c.1:Int) (aG (BF c)) (bF (λV W=>aH (aM (BF c).a V W) (0<=(↑c.1:Int)) ((↑c.1:Int)<aG (BF c)) (∃(X:Sl),aH (aL (mI (rM c)).1 (mI (rM c)).2 V (bK W c.1 1) (bH X)) (0<=(↑c.2.1:Int)) ((↑c.2.1:Int)<wT (Ez c)) (∃(Y:dc),pY (jY (Ez c)) (↑c.2.1:Int) Y/\∃(C:Sl),aA (CI Y C) (∃(Z:dc),pY (jY (Ez c)) (↑c.2.1:Int) Z/\CI Z C) (Gi X (mI (rM c)).2 (λs8 F=>bF (λb4 o4=>aH (aM C.a b4 o4) (0<=(↑c.1:Int)) ((↑c.1:Int)<aG C) (uY (mI (rM c)).1 b4 (bK o4 c.1 1) (bH s8) (λm4=>∃(d:Nat×Nat
 ×Sl×Sl×Sl×dg×MH×PH),aA (I1 d) (U d<U c) (aA (aY c.2.2.1 d.2.2.1) (eL 38) (aA (bV c.2.1 d.2.1) (aY (rM c).1 (rM d).1) (aA (bZ (rM c).1 (rM d).1) (bV c.2.1 d.2.1) (aA (aY (BF c) (BF d)) (bZ (BF c) (BF d)) (aA (fU (bC c.1 1)=bP d.1) (Bt (Ez c)=Bt (Ez d)) (bO (cN m4 (mI (rM d))) F (mI (rM d)).2))))))))))))))) (∃(d:Nat×Sl×Sl×dg×MH×PH),aA (I d) (P d<P x) (aA (aY c.2.2.1 d.2.1) (eL 38) (aA (aY (rM c).1 (BG d)) (bZ (rM c).1 (BG d)) (aA (fU (bC c.2.1 1)=bP d.1) (Bt (Ez c)=Bt (GJ d)) (bO (C6 (rM c) d.2) (mI (rM c)).2 (C7 d)))))))))))))))))) (bN (C7 x) 1 (List.map eS (GJ x)) (λB F
 =>iP K B 0 (mI x.2).1 F))))))))))))))))))))
structure AS(m0 m:MH)(h:PH)(w:Sl)(l:de)(j:Nat):Prop where
 ex:∃vs:dg,vs.length=l.length/\v8 m0 m w 65 1 (vs.map eS)/\∀k r,k<j->l[k]? =some r->∃v,vs[k]? =some v/\bR h v r
theorem AS.mono{m0 w l j}(x:AS m0 m h w l j)(le:PH.le h h'):AS m0 m h' w l j:=by
 obtain⟨c,d,e,f⟩:=x.ex;exact⟨c,d,e,λk r g n=>let⟨v,e1,e2⟩:=f k r g n;⟨v,e1,e2.mono le⟩⟩
theorem AS.keep{m0 w l j}(x:AS m0 m h w l j)(d:∀b i,w.a=some ⟨b,i,none⟩->m' b=m b):AS m0 m' h w l j:=by
 obtain⟨e,f,c,g⟩:=x.ex;exact⟨e,f,⟨fA.keep c.row d,c.fresh⟩,g⟩
theorem AS.blk{m0 w l j}(x:AS m0 m h w l j)(e:w.a=some ⟨b,i,none⟩):∃o,m b=some o:=by
 obtain⟨f,_,c,_⟩:=x.ex;obtain⟨d,h⟩:=fA.blk c.row e
 grind
theorem AS.slen{m0 w l j}(x:AS m0 m h w l j):w.len=l.length:=by
 obtain⟨d,e,c,_⟩:=x.ex;have:=fA.slen c.row
 grind
theorem VO:∀vs:dg,(vs.map eS).flatten=vs.map λs=>gP s
 |[]=>rfl
 |v::vs=>by rw[map_cons,flatten_cons,VO vs];rfl
theorem AS.put{m0 w u l j r}(x:AS m0 m h w l j)(D:l[j]? =some r)(J:bR h u r):∃b,w.a=some ⟨b,0,none⟩/\∃(cs:Array Value)(E:TypeId),m b=some (.cells cs E (0,0))/\0+j*1<cs.size/\∀m',pO m m' b (.cells ⟨splice cs.toList (0+j*1) [gP u]⟩ E (0,0))->AS m0 m' h w l (j+1):=by
 obtain⟨f,F,g,L⟩:=x.ex;have M:=(bz D);have O:=fA.slen g.row;rcases g.row.ex with⟨rfl,e⟩|⟨b,d,c,rfl,G,n,o,H,B⟩
 .grind
 .rw[length_map]at n;refine⟨b,rfl,c,65,G,aD,λm' y=>⟨f.set j u,by simp[F],⟨⟨⟨?_,?_⟩,.inr ⟨b,d,⟨splice c.toList (0+j*1) [gP u]⟩,bi,y.at_,bn,o,?_,?_⟩⟩,g.fresh⟩,λk P Q I=>?_⟩⟩
  .intro e z;obtain⟨s,_,rfl⟩:=mem_map.1 z;rfl
  .intro e z v C;obtain⟨s,_,rfl⟩:=mem_map.1 z;simp[eS]at C;subst C;rfl
  .show(splice c.toList (0+j*1) [gP u]).length=d*1;rw[Bn _ _ _ bn];omega
  .rw[VO];show(splice c.toList (0+j*1) [gP u]).take _=_;rw[Qc _ _ _ bn,take_set]
   have A:c.toList.take (((f.set j u).map eS).length*1)=f.map λs=>gP s:=by
    rw[length_map,length_set];rw[length_map,VO]at B;exact B
   rw[A,Nat.zero_add,Nat.mul_one,map_set]
  grind
theorem AS.rows{m0 w l}(d:Hf m h)(x:AS m0 m h w l l.length)(u:l.length<=8000000):Rows (Cq m0 m h) w l:=by
 obtain⟨e,f,g,j⟩:=x.ex
 exact⟨⟨e,v8.ice g,f.symm,λi r c=>by
  obtain⟨v,n,o⟩:=j i r (bz c) c;exact⟨v,n,o.mono (DM d)⟩⟩,aD⟩
theorem biJ:cz 18 bpJ:=by
 refine VN func18 ?_;rintro d4 m h K ⟨sc,sl,v,s,W,q,rfl,hs,b6,hq,b7,ht,hn,hv,hE,b8,hK⟩;refine⟨cxJ,rfl,aE RG (aE Rw (aE aj aI)),Rr sc sl v m h (fV h K),bh,?_⟩;show Rr sc sl v m h (fV h K);dsimp only[Rr,push_cast];refine⟨sc,v,s,q,rfl,hs,hq,b7,ht,hn,λp r h1 g hp=>aC (λX=>?_) (λX=>?_)⟩
 .exact fV.sub (Sub.refl m) g (hE bo h1 g)
 have X:(fG s [] q).2=0:=bo
 have hp:=hp X;obtain⟨d,hb⟩:=hv X;have a':xF s (kN s q).1 (kN s q).2 W=lC s W:=by unfold xF;omega
 refine⟨sc,sl,p,r,s,W,(kN s q).1,(kN s q).2,rfl,hs.mono g,b6.mono g,hp,ht,λ_ e=>(hb e).1,λs1 h2 L hl=>?_⟩;rw[a']at hl⊢
 refine aC (λF=>?_) (λF=>?_)
 .exact fV.sub (Sub.refl m) (g.trans L) (b8 X bo h2 (g.trans L))
 have F:lC s W=0:=bo
 have hl:=hl F;have hK:=hK X F;have b9:=(hb F).2;have a0:=g.trans L;have a1:=(hp.roots.mono L)
 have a2:=a1.slen
 have a3:∀x∈(kN s q).2,0<=x/\x.toNat<(lF W (kN s q).1).length:=by
  intro x hx;unfold iF at d;split at d
  .contradiction
  .split at d
   .cases d
   .split at d
    .contradiction
    .split at d
     .rename_i e;have:=all_eq_true.1 e x hx;simp only[cm,cr]at this;simp only[lF,length_map,length_range];omega
     .cases d
 have d5:(kN s q).2.length<=32:=by
  unfold iF at d;omega
 generalize hR:lF W (kN s q).1=R at*
 generalize hN:(kN s q).2=N at*
 have d6:=bI.slen hl;refine⟨aD,aD,aD,aD,λx=>x.1<=N.length/\x.2.1=s1/\x.2.2.1=r/\PH.le h2 x.2.2.2.2.2/\x.2.2.2.1.length=N.length/\Sub m x.2.2.2.2.1/\∀k n,k<x.1->N[k]? =some n->∃u,x.2.2.2.1[k]? =some u/\AS m x.2.2.2.2.1 x.2.2.2.2.2 u (R.getD n.toNat []) (R.getD n.toNat []).length,λx=>N.length-x.1,⟨(0,s1,r,replicate N.length cG,m,h2),⟨aD,rfl,rfl,.refl _,bi,Sub.refl m,λk n hk=>by simp at hk⟩,?_⟩,?_⟩
 .have e:List.map eS (replicate N.length cG)=replicate (Int.toNat (r.len:Int)) [rU]:=by rw[map_replicate,a2];rfl
  grind
 rintro⟨i,a4,ro,Y,Z,hx⟩ ⟨hi,e1,M,A,c',f,B⟩;dsimp only at hi e1 M A c' f B⊢
 subst e1 M;have lex:=a0.trans A;refine aF (λa5=>?_) (λd7=>?_)
 .obtain⟨n,a6⟩:=dW a2 a5;obtain⟨Q,G⟩:=a3 n (ce a6);obtain⟨b,o,e,rd⟩:=(a1.mono A).at' a6;have c1:R[n.toNat]? =some R[n.toNat]:=cd G;obtain⟨b',o',t,e',a7,a8⟩:=bI.at (bI.mono hl A λ_ _ z=>bI.mono z A λ_ _ y=>bR.mono y A) c1;have c2:R.getD n.toNat []=R[n.toNat]:=by simp[G]
  have c4:=b9 _ (getElem_mem G);have a9:=bI.slen a8;refine⟨b,o,e,aD,a5,n,.imm rd,b',o',e',Q,aD,t,.imm a7,aD,aD,aD,aD,λw m1 hw=>⟨aD,bo,_,by rw[getElem?_map,Int.toNat_natCast,cd aD];rfl,by simp[eS],b',o',e',Q,aD,t,.imm a7,?_⟩⟩;have d8:∀b i,w.a=some ⟨b,i,none⟩->Z b=none:=λb i e=>(hw.fresh b i e).m_;have C:Sub Z m1:=λx o e=>by rw[hw.other x (λi e'=>bo)];exact e
  have c0:AS m m1 hx w R[n.toNat] 0:=⟨replicate R[n.toNat].length cG,bi,⟨by
   have:=hw.row;rw[Int.toNat_natCast,a9]at this;rw[map_replicate];exact this,λb i e=>by
   cases e0:m b with
   |none=>rfl
   |some o=>have:=f b o e0;grind⟩,λk r hk=>by omega⟩
  refine⟨λx=>x.1<=R[n.toNat].length/\x.2.1=i/\x.2.2.1=a4/\x.2.2.2.1=ro/\x.2.2.2.2.1=t/\x.2.2.2.2.2.1=Y.set i w/\PH.le hx x.2.2.2.2.2.2.2/\Sub m x.2.2.2.2.2.2.1/\AS m x.2.2.2.2.2.2.1 x.2.2.2.2.2.2.2 w R[n.toNat] x.1/\∀b o,Z b=some o->x.2.2.2.2.2.2.1 b=some o,λx=>R[n.toNat].length-x.1,⟨(0,i,a4,ro,t,Y.set i w,m1,hx),⟨aD,rfl,rfl,rfl,rfl,rfl,.refl _,λx o e=>C x o (f x o e),c0,C⟩,?_⟩,?_⟩
  .rw[Int.toNat_natCast,map_set];exact MT
  clear c0 C;rintro⟨j,S,b0,b1,t2,d9,my,hy⟩ ⟨hj,f1,f2,H,I,J,c,D,c3,c6⟩;dsimp only at hj f1 f2 H I J c D c3 c6⊢
  subst f1 f2 H I J;refine aF (λP=>?_) (λd3=>?_)
  .obtain⟨rr,T⟩:=dW a9 P;obtain⟨b2,o2,y,M,c7,c8⟩:=bI.at (bI.mono a8 c λ_ _ z=>bR.mono z c) T;have e3:S<Y.length:=by omega
   refine⟨b2,o2,M,aD,P,y,.imm c7,aD,bn,eS w,bo,w,rfl,⟨eS w,bo,rfl⟩,y,rr,rfl,c8,(c4.2 rr (ce T)),λu h4 b3 hu=>?_⟩;obtain⟨wb,c9,cs,E,d',e4,xZ⟩:=(c3.mono b3).put T hu;have e5:=c3.slen;refine⟨wb,0,c9,aD,aD,cs,E,⟨d'⟩,aD,λm5 O=>?_⟩;rw[Int.toNat_natCast]at O;have c5:=xZ m5 O;have b4:∀x o,Z x=some o->x≠wb:=λx o e e'=>bo
   refine⟨(j+1,S,b0,b1,t2,Y.set S w,m5,h4),⟨?_,rfl,rfl,rfl,rfl,rfl,c.trans b3,λx o e=>?_,c5,λx o e=>?_⟩,?_,MT⟩
   .omega
   .show m5 x=some o;rw[O.other x (b4 x o (f x o e))];exact D x o e
   .show m5 x=some o;rw[O.other x (b4 x o e)];grind
   omega
  .have d0:j=R[n.toNat].length:=by omega
   subst d0;refine⟨(S+1,b0,b1,Y.set S w,my,hy),⟨aD,rfl,rfl,A.trans c,bo,D,λk n' hk d1=>?_⟩,aD,MT⟩;have hk:k<S+1:=hk;by_cases e:k=S
   .grind
   .obtain⟨u,e1,M⟩:=B k n' aD d1;refine⟨u,bo,(M.mono c).keep (λb i e=>?_)⟩;obtain⟨o,ho⟩:=M.blk e
    grind
 .have d2:i=N.length:=by omega
  subst d2;intro s2 h3 c hr b5;have hd:Hf Z h3:=⟨b5⟩
  have le:=(lex.trans c).trans (DM (m0:=m) hd);refine⟨m,Cq m Z h3,f,le,λb i w e=>?_,hK s2 _ le ⟨⟨Y,hr.mono (DM hd),?_,λk l U=>?_⟩,?_⟩⟩
  .unfold Cq at e
   grind
  .unfold JZ;grind
  .unfold JZ at U;rw[getElem?_map,hN,hR,Option.map_eq_some_iff]at U;obtain⟨n,V,rfl⟩:=U;obtain⟨u,e1,M⟩:=B k n (bz V) V;obtain⟨Q,G⟩:=a3 n (ce V);have c2:R.getD n.toNat []=R[n.toNat]:=by simp[G]
   exact⟨u,e1,AS.rows hd (M.mono c) bo⟩
  .unfold JZ;grind
def Sm{α:Type}(T:List α->α->Prop):List α->List α->Prop
 |_,[]=>True
 |pre,x::r=>T pre x/\Sm T (pre++[x]) r
theorem Xs{α:Type}{T:List α->α->Prop}:∀{l c:List α},Sm T c l->∀(j:Nat) x,l[j]? =some x->T (c++l.take j) x
 |[],_,_,j,x,e=>by simp at e
 |y::r,c,h,0,x,e=>by simp at e;subst e;simpa using h.1
 |y::r,c,h,j+1,x,e=>by
  have:=Xs h.2 j x (bx e)
  grind
theorem BX{α}{T:List α->α->Prop}{l}(h:Sm T [] l):Good T l:=λj x e=>bx (Xs h j x e)
theorem a4Q{α}{T:List α->α->Prop}{l}(h:Good T l) n:Good T (l.take n):=λj x e=>by
 rw[getElem?_take]at e;split at e
 .rename_i c;rw[take_take,Nat.min_eq_left aD];exact h j x e
 .cases e
theorem bsJ(u:s.tables.length<=8)(g:∀t∈s.tables,t.columns.length<=8/\t.refs=[]/\t.checks=[])(y:0<=s.version)(z:s.version<=1000)(A:Good FI s.tables):eX s=0:=by
 have c:Fg s:=⟨u,λj t e=>by
  obtain⟨n,d,o⟩:=g t (ce e);exact⟨n,by simp[d],by simp[o]⟩⟩
 have ok:MA s:=⟨y,z,A,λj t e=>by
  obtain⟨n,d,o⟩:=g t (ce e);unfold Hn;rw[d];intro i x B;simp at B⟩
 rw[MP c ok];refine Fe _ λe f=>?_;obtain⟨i,_,f⟩:=mem_flatMap.1 f;unfold z7 at f
 grind
theorem Zu{id}(h:id=4\/id=5):Good FI (wC id):=by
 have c:gI id=true:=by rcases h with rfl|rfl<;>rfl
 refine BX ⟨⟨?_,?_,?_,?_,BX ⟨⟨?_,?_,?_⟩,⟨?_,?_,?_⟩,trivial⟩⟩,⟨?_,?_,?_,?_,BX ⟨⟨?_,?_,?_⟩,⟨?_,?_,?_⟩,⟨?_,?_,?_⟩,⟨?_,?_,?_⟩,trivial⟩⟩,⟨?_,?_,?_,?_,BX ⟨⟨?_,?_,?_⟩,⟨?_,?_,?_⟩,trivial⟩⟩,⟨?_,?_,?_,?_,BX ⟨⟨?_,?_,?_⟩,trivial⟩⟩,trivial⟩
 all_goals first|exact c|rfl|(simp;done)|decide
theorem Qu(h:oZ s):eX s=0/\s.tables≠[]:=by
 obtain⟨f,n,id,g,j,o,u,c,rfl⟩:=h.ex;refine⟨bsJ bo (λt d=>?_) g bo (a4Q (Zu c) n),λe=>?_⟩
 .have d:=mem_of_mem_take d;simp only[wC,mem_cons,not_mem_nil,or_false]at d
  grind
 .have:=congrArg List.length e;simp[wC]at this;omega
theorem aZX(h:oZ s){t}(d:t∈s.tables):1<=t.key/\1<=t.columns.length/\t.columns.length<=4/\∀c∈t.columns,KOk c.kind:=by
 obtain⟨g,n,id,o,u,x,y,f,rfl⟩:=h.ex;have j:KOk id:=by rcases f with rfl|rfl;exact .inr (.inl rfl);exact .inr (.inr rfl)
 have d:=mem_of_mem_take d;simp only[wC,mem_cons,not_mem_nil,or_false]at d;rcases d with rfl|rfl|rfl|rfl
 all_goals
  refine⟨bi,bi,bi,λc e=>?_⟩;simp only[mem_cons,not_mem_nil,or_false]at e
 .rcases e with rfl|rfl<;>exact .inr (.inl rfl)
 .rcases e with rfl|rfl|rfl|rfl
  .exact j
  .exact .inr (.inl rfl)
  .exact .inr (.inr rfl)
  .exact .inl rfl
 .rcases e with rfl|rfl<;>exact .inr (.inl rfl)
 grind
structure Cv(s:jC)(st:List de):Prop where
 len:st.length=s.tables.length
 few:∀l∈st,l.length<=4
 ok:P8 s st
 val:StV st
def b1Z:Vc.Spec:=λc m h K=>∃cb v s,c=[cP cb,aS v,cI 3]/\bE m h cb/\iC h s v/\oZ s/\∀d e m' h',PH.le h h'->Cu h' e d->Cv s d->bT m m' cb->bE m' h' cb->K (Zm e) m' h'
noncomputable def cAX(cb:Nat)(v:cK):=vO [(19,N1),(45,yG),(44,c3X),(47,b7Z),(46,c3Z)] [(3,{A:=Nat×Sl×MH×PH,st:=λ⟨i,s,m,h⟩=>bS 51 54 [(0,pv cb),(2,iv 3),(4,.at (.ptr 4 0)),(6,.at (.ptr 6 0)),(7,.at (.ptr 7 0)),(18,iv v.tables.len),(19,iv i)] [(4,.cells 27 (v.enc.map .val)),(6,.cells 52 [.val cG.val]),(7,.cells 52 [.val (.slice s.a s.len s.cap)])] m h}),
 (6,{A:=Nat×Int×Sl×MH×PH,st:=λ⟨i,n,s,m,h⟩=>bS 51 54 [(0,pv cb),(2,iv 3),(4,.at (.ptr 4 0)),(6,.at (.ptr 6 0)),(7,.at (.ptr 7 0)),(8,iv i),(9,iv n),(18,iv v.tables.len),(19,iv i)] [(4,.cells 27 (v.enc.map .val)),(6,.cells 52 [.val cG.val]),(7,.cells 52 [.val (.slice s.a s.len s.cap)])] m h})] [] [] [2050] [] false
abbrev Ln a b:=oQ 52 a=oQ 52 (nR (nX b))
noncomputable abbrev qW(a:Nat×Int×Sl×MH×PH):=a.2.2
attribute [push_cast] Ln qW
def Rz(cb:Nat)(v:cK)(m:MH)(h:PH)(K:da):=
  aA (cF (kI v)) (kI v<=kI v) (aA (QP (kI v*24)) (QP (kI v)) (qC (λs M=>sX m M h s 58 1 (vK (kI v) j5)->PA (λI x=>aA (I x) (dL cb) (aA mY iL (aA (eP 6) (eP 7) (aA (j8 v) (bA x.1) (aA (cT v) wU (aA (Ln (nR (nX s)) x.2.1) (jZ M x.2) (bQ h (rK x)))))))) (λI O x=>I x->aZ (↑x.1:Int) (aG v.tables) (kB cb 5 (tW x) (rK x) (λk m3=>∃(I1:Nat×Int×Sl×MH×PH->Prop)(P:Nat×Int×Sl×MH×PH->Nat),(∃(d:Nat×Int×Sl×MH×PH),aA (I1 d) (dL cb) (aA mY iL (aA (eP 6) (eP 7) (aA (bV x.1 d.1) (dV k d.2.1) (aA (j8 v) (bV x.1 d.1) (aA (cT v) wU (aH (Ln (nR (nX x.2.1)) (qW d).1) (jZ m3 (qW d)) (rK x=dP (qW d))
 True)))))))/\∀(d:Nat×Int×Sl×MH×PH),I1 d->fX d.2.1 0 (bF (λb o=>aH (aM (Ai v) b o) (0<=(↑d.1:Int)) ((↑d.1:Int)<aG v.tables) (∃(y:Int),aA (aL (eT (qW d)) (dP (qW d)) b (bK o d.1 5+2) (bM y)) (dN (dP (qW d)) b (bK o d.1 5) 2 (bM y)) (CK (cA (cL v) (↑d.1:Int)) (dP (qW d)) (λs1 F=>∃(c:Nat)(Q:Sl)(R:Int)(A:db),aA (iA cb (cM s1::cA (fI y) 3)=iA c (cM Q::cA (fI R) 3)) (bE (eT (qW d)) F c) (aA (Ints F Q A) (gC A) ((∀(f:Int),List.Mem f A->f=3\/f=4\/f=5)/\∀(G:Sl)(r:dj),iG (λB j=>bY F j (bR j G r) (Wk R A r->bT (eT (qW d)) B c->qB B j c (uS (λS T=>∃(t:Int),Co (λU H=>aA (cL
 v::aX (fI (↑d.1:Int)) (cM G)=cL S::aX (fI t) (cM U)) (iC j T S) (aA (bR j U H) (DJ H) (fB (λV g=>bY j g (bR g V (L7 T t H)) (uS (λW X=>bF (λz n=>∃(Y:Nat)(u:dg)(Z:Sl)(C:Nat)(t3:Bi)(D:de),Co (λs8 f=>Co (λs9 E=>aA (cL v::rO (qW d).1::fI (↑d.1:Int)::aX (cM V) (cM G)=cL W::qK (lJ (Value.slice (pB z) n Y))::fI (↑C:Int)::aX (cM s8) (cM s9)) (iC g X W) (aA (PC X C t3) (bpX B z u) (aA (n=u.length) (u[C]? =Option.some Z) (aA (Rows g Z D) (E8 D 1000) (aA (∀(r4:dj),DH r4 D (DJ r4)) (bR g s8 f) (aA (bR g s9 E) (0<E.length) (DJ E/\∀(u2:Sl),iG (λJ L=>bY g L (Rows L u2 (DG t3 f E false D)) (bpX J
 z (List.set u C u2)->bT B J z->∃(e:Nat×Int×Sl×MH×PH),aA (I1 e) (P e<P d) (aA (dL cb) mY (aA iL (eP 6) (aA (eP 7) (bV d.1 e.1) (aA (dV (kE (d.2.1-1)) e.2.1) (j8 v) (aA (bV d.1 e.1) (cT v) (aA wU (Ln (nR (Cm (pB z) n Y)) (qW e).1) (aA (jZ J (qW e)) (L=dP (qW e)) True))))))))))))))))))))))))))))))))))) (∃(e:Nat×Sl×MH×PH),aA (I e) (O e<O x) (aA (dL cb) mY (aA iL (eP 6) (aA (eP 7) (j8 v) (aA (fU (bC d.1 1)=bP e.1) (cT v) (aA wU (Ln (nR (nX (qW d).1)) e.2.1) (bO (jZ (eT (qW d)) e.2) (dP (qW d)) (rK e)))))))))) (K (rO x.2.1) (tW x) (rK x))))))
theorem fV.iceB{u f r g d E}(j:u g=some (.cells d E (0,0)))(le:PH.le h f)(z:∀y,PH.le f y->(∀i,y g i=d[i]?)->K r (λb=>if b=g then none else u b) y):fV h K r u f:=by
 intro n;have A:∀i,f g i=none:=n g _ j
 have c:PH.le f (λx i=>if x=g then d[i]? else f x i):=⟨λx i v e=>by
  grind⟩
 refine⟨_,_,λb o e=>?_,le.trans c,λx i v e=>?_,z _ c (λi=>bi)⟩
 .grind
 grind
structure TSt(h:PH)(s:jC)(m:MH)(tb:Nat)(us:dg)(st:List de):Prop where
 tbl:bpX m tb us
 ulen:us.length=s.tables.length
 slen:st.length=s.tables.length
 rows:∀(j:Nat) u l,us[j]? =some u->st[j]? =some l->Rows h u l
 ok:P8 s st
 val:StV st
 few:∀l∈st,l.length<=4
theorem TSt.mono{c us st}(x:TSt h s m c us st)(le:PH.le h h')(e:m' c=m c):TSt h' s m' c us st:=by
 obtain⟨d,o,f,g⟩:=x.tbl;exact⟨⟨d,bo,f,g⟩,x.ulen,x.slen,λj u l a b=>bI.mono (x.rows j u l a b) le λr t n=>bR.mono n le,x.ok,x.val,x.few⟩
theorem ciJ{t r}(h:Wk t.key (t.columns.map rG.kind) r):Hs t r=true:=by
 obtain⟨c,_,d⟩:=h;rw[length_map]at c;refine H9.2 ⟨c,λi e=>?_⟩
 grind
theorem bDJ{key k v}(h:Dl key k i v=true)(c:NX v):xB v.kind/\xB v.int:=by
 simp only[Dl,cm]at h;have:=N6 h.1;exact⟨⟨aD,aD⟩,c.int_⟩
theorem TSt.put{B:Nat}{t us st C c l row}(x:TSt h s m B us st)(le:PH.le h h')(I:s.tables[t]? =some c)(D:st[t]? =some l)(M:bpX m' B (us.set t C))(g:Rows h' C (DG c (oW c row) row false l))(A:Wk c.key (c.columns.map rG.kind) row)(S:l.length<=3):
 TSt h' s m' B (us.set t C) (st.set t (DG c (oW c row) row false l)):=by
 have E:=ciJ A;have F:=(bz D);have y:=x.ok t c l I D;refine⟨M,by rw[length_set];exact x.ulen,by rw[length_set];exact x.slen,λj u n J f=>?_,λj O n o f=>?_,λn f=>?_,λn f=>?_⟩
 .by_cases e:t=j
  .grind
  .rw[getElem?_set_ne e]at J f;exact bI.mono (x.rows j u n J f) le λr t z=>bR.mono z le
 .by_cases e:t=j
  .subst e;rw[getElem?_set_self F]at f;rw[I]at o;cases f;cases o;refine⟨λr g=>?_,λi r P Q R=>(Qq (SG.of y.2)).adj i r P Q R⟩;rcases Pb g with rfl|g
   .exact E
   .exact y.1 r g
  .rw[getElem?_set_ne e]at f;exact x.ok j O n o f
 .rcases mem_or_eq_of_mem_set f with G|rfl
  .exact x.val n G
  .intro r g v z;rcases Pb g with rfl|g
   .obtain⟨i,L,rfl⟩:=mem_iff_getElem.1 z;have H:i<(c.columns.map rG.kind).length:=by rw[<-A.1];exact L
    exact bDJ (A.2.2 i _ _ (cd L) (cd H)) (A.2.1 _ z)
   .exact x.val l (ce D) r g v z
 .rcases mem_or_eq_of_mem_set f with G|rfl
  .exact x.few n G
  .have:=Pc (t:=c) (key:=oW c row) (row:=row) (l:=l) (d:=false)
   grind
theorem bkX:cz 13 b1Z:=by
 refine VN func13 ?_;rintro c9 m h K ⟨cb,v,s,rfl,hc,hs,hp,hK⟩;refine⟨cAX cb v,rfl,aE O0 (aE Jp (aE bdZ (aE Tp (aE bdX aI)))),Rz cb v m h (fV h K),bh,?_⟩;show Rz cb v m h (fV h K);dsimp only[Rz,push_cast];have b2:=hs.tables.slen;obtain⟨a6,b3⟩:=Qu hp;have h8:=JX a6;have b4:=DF a6;have d':0<s.tables.length:=length_pos_iff.2 b3;refine⟨aD,aD,aD,aD,λV m1 I=>?_⟩;rw[show((v.tables.len:Int)).toNat=s.tables.length by omega]at I
 obtain⟨J,E,C,S,L,_,_,a7,a1⟩:∃b E C,V=⟨some ⟨b,0,none⟩,s.tables.length,E⟩/\m1 b=some (.cells C 58 (0,0))/\s.tables.length<=E/\E<=maxLen/\C.size=E*1/\C.toList.take (s.tables.length*1)=(replicate s.tables.length [rU]).flatten:=by
  rcases I.row.ex with⟨_,e⟩|⟨b,E,C,W,e2,e3,e4,e5,e6⟩
  .have:=congrArg List.length e;grind
  grind
 have b5:s.tables.length<=E:=by assumption
 have X:rT m h J:=I.fresh J 0 (by rw[S])
 have M:J≠cb:=λe=>by
  obtain⟨cs,e2⟩:=hc.blk;rw[<-e,X.m_]at e2;cases e2
 have Y:∀b,b≠J->m1 b=m b:=λb hb=>I.other b λi e=>by
  grind
 have a8:bE m1 h cb:=hc.keep (Y cb (Ne.symm M)) (.refl _)
 have a9:TSt h s m1 J (replicate s.tables.length ⟨none,0,0⟩) (replicate s.tables.length []):=by
  refine⟨⟨C,L,bo,?_⟩,bi,bi,λj u l R F=>?_,λj t l ht F=>?_,λl F=>?_,λl F=>?_⟩
  .rw[length_replicate, <-Nat.mul_one s.tables.length,a1,Nat.mul_one,map_replicate];generalize s.tables.length=k
   induction k with
   |zero=>rfl
   |succ k ih=>rw[replicate_succ,flatten_cons,ih,replicate_succ];rfl
  .have R:=ce R;have F:=ce F;rw[eq_of_mem_replicate R,eq_of_mem_replicate F];exact bI.nil _ _ _ _
  .rw[eq_of_mem_replicate (ce F)];exact⟨λr hr=>by simp at hr,λi r r' e=>by simp at e⟩
  .grind
  grind
 clear a1 a7 L C;refine⟨λz=>z.1<=s.tables.length/\z.2.1=V/\PH.le h z.2.2.2/\bE z.2.2.1 z.2.2.2 cb/\(∀b,b≠J->b≠cb->z.2.2.1 b=m b)/\∃G H,TSt z.2.2.2 s z.2.2.1 J G H/\∀j l,z.1<=j->H[j]? =some l->l=[],λz=>s.tables.length-z.1,⟨(0,V,m1,h),⟨bi,rfl,.refl _,a8,λb h1 _=>Y b h1,_,_,a9,λj l _ e=>eq_of_mem_replicate (ce e)⟩,MT⟩,?_⟩;clear a9 a8;rintro⟨i,a2,m2,h2⟩ ⟨hi,W,T,c2,o2,G,H,g,B⟩;dsimp only at hi W T c2 o2 g B⊢
 rw[W];clear W a2;refine aF (λb6=>?_) (λd0=>?_)
 .obtain⟨D,f⟩:=dW b2 b6;have a3:=ce f;obtain⟨tk,tc,d1,b7⟩:=aZX hp a3;have b':=(bz f)
  have O:H[i]? =some []:=by
   have:=getElem?_eq_getElem (l:=H) (i:=i) (by rw[g.slen];exact b')
   grind
  refine⟨cb,5,rfl,c2,λk m3 k0 k1 o3 c3=>?_⟩;refine⟨λz=>z.1=i/\z.2.2.1=V/\z.2.1<=4/\PH.le h z.2.2.2.2/\bE z.2.2.2.1 z.2.2.2.2 cb/\(∀b,b≠J->b≠cb->z.2.2.2.1 b=m b)/\∃G H l,TSt z.2.2.2.2 s z.2.2.2.1 J G H/\H[i]? =some l/\((l.length:Int)<=4-z.2.1)/\0<=z.2.1/\∀j l,i+1<=j->H[j]? =some l->l=[],λz=>z.2.1.toNat,⟨(i,k,V,m3,h2),⟨rfl,rfl,bo,T,c3,λb h1 h2=>by show m3 b=m b;rw[o3.other b h2];grind,G,H,[],g.mono (.refl _) (o3.other J M),O,bn,k0,λj l hj=>B j l aD⟩,MT⟩,?_⟩;clear o3 c3 m3 k0 k1 g B O G H k o2 c2 m2;rintro⟨i',n,a2,m3,h3⟩ ⟨W,e2,b8,A,c3,o3,G,H,l,g,F,b9,b0,B⟩;dsimp only at W e2 b8 A c3 o3 g F b9 b0 B⊢
  rw[W,e2];clear W e2 i' a2;refine aF (λhn=>?_) (λhn=>?_)
  .obtain⟨b,o,y,ea,rd,hy⟩:=bI.at (hs.mono A).tables f;have c':jR s (i:Int)=D.columns.map rG.kind:=by rw[jR,if_neg aD,Int.toNat_natCast,f]
   refine⟨b,o,ea,aD,aD,D.key,.imm (by rw[<-hy.key];exact bU.part rd 2 1),by rw[<-hy.key];exact bU.part rd 2 1,v,s,i,rfl,hs.mono A,b4,λks h4 P b1=>?_⟩;rw[c']at b1;refine⟨cb,ks,D.key,_,rfl,c3.mono P,b1,bo,λk hk=>?_,λsr row m5 h5 U Z a' o5 c5=>?_⟩
   .obtain⟨c,hc,rfl⟩:=mem_map.1 hk;exact b7 c hc
   have d2:row.length=D.columns.length:=by rw[a'.1,length_map]
   refine⟨v,s,i,sr,row,rfl,hs.mono ((A.trans P).trans U),Z,aD,λsk h6 Q a0=>?_⟩;rw[Jm f]at a0;have a4:=g.mono ((P.trans U).trans Q) (o5.other J M);obtain⟨u,R⟩:∃u,G[i]? =some u:=⟨_,cd (by rw[g.ulen];exact b')⟩
   have d3:=ce F;refine⟨v,s,J,s.tables.length,E,G,u,i,D,l,sk,oW D row,sr,row,by rw[S],hs.mono (((A.trans P).trans U).trans Q),f,a4.tbl,g.ulen.symm,R,a4.rows i u l R F,aD,λr hr=>?_,a0,bR.mono Z Q,aD,aD,λu' m7 h7 a5 c0 c1 o7=>?_⟩
   .have:=(VP ((g.ok i D l f F).1 r hr)).1;omega
   have hw:IntKind.i64.wrap (n-1)=n-1:=eM aD aD;have c4:=Pc (t:=D) (key:=oW D row) (row:=row) (l:=l) (d:=false);simp at c4;refine⟨(i,n-1,V,m7,h7),⟨rfl,rfl,bo,(((A.trans P).trans U).trans Q).trans a5,(c5.mono (Q.trans a5)).keep (o7.other cb (Ne.symm M)) (.refl _),λb h1 h2=>by show m7 b=m b;rw[o7.other b h1,o5.other b h2];grind,G.set i u',H.set i _,_,a4.put a5 f F c1 c0 a' aD,getElem?_set_self (bz F),bo,bo,λj l' hj e=>?_⟩,bo,?_⟩
   .grind
   .grind
  .refine⟨(i+1,V,m3,h3),⟨aD,rfl,A,c3,o3,G,H,g,B⟩,aD,?_⟩;rw[fR aD];exact MT
 .obtain⟨C,L,a7,a1⟩:=g.tbl;refine fV.iceB L T λh3 A c8=>hK H V _ h3 (T.trans A) ⟨⟨⟨G,⟨by rw[S,length_map];exact g.ulen.symm,.inr ⟨J,0,by rw[S],λj e hj=>⟨λn x hx=>?_⟩⟩,bo⟩,by rw[g.slen,g.ulen],λj l F=>?_⟩,by rw[g.slen];omega⟩,by rw[g.slen];omega,g.val⟩ ⟨g.slen,g.few,g.ok,g.val⟩ ⟨λb hb=>?_⟩ ?_
  .rw[getElem?_map,Option.map_eq_some_iff]at hj;obtain⟨u,R,rfl⟩:=hj;have hn:n=0:=by have:=(bz hx);simp[eS]at this;omega
   subst hn
   have hx:u.val=x:=by
    simp[eS]at hx;exact hx
   subst hx;have e:(C.toList.take G.length)[j]? =some u.val:=bo
   grind
  .have c6:=(bz F);have c7:j<G.length:=by rw[g.ulen, <-g.slen];exact c6
   have R:G[j]? =some G[j]:=cd c7;exact⟨_,R,bI.mono (g.rows j _ l R F) A λr t hv=>bR.mono hv A⟩
  .by_cases e:b=J
   .subst e;simp[X.m_]
   grind
  .refine bE.keep c2 ?_ A
   grind
def cXJ:Vc.Spec:=λc m h K=>∃s t l r,c=[cS s,cS t]/\Rows h s l/\bR h t r/\fW l/\K (cB (Cg l r)) m h
def aCX:Vc.Spec:=λc m h K=>∃s t i l k,c=[cS s,cS t,cB i]/\Rows h s l/\Rows h t k/\fW k/\l.length<=8000000/\∀d h',PH.le h h'->Rows h' d (l.filter λx=>Cg k x==i)->K (cS d) m h'
def c3J:Vc.Spec:=λc m h K=>∃n,c=[cI n]/\K (aV ⟨4,n,⟨#[]⟩⟩) m h
def c7Z:Query->Int
 |.mk op _ _ _ _ _ _ _ _=>op
def opE q:=c7Z (cE q)
structure QsU(h:PH)(us:dw)(qs:dl):Prop where
 len:us.length=qs.length
 at_:∀(i:Nat) q,qs[i]? =some q->∃v,us[i]? =some v/\cY h q v
theorem QsU.mono{us c}(x:QsU h us c)(le:PH.le h h'):QsU h' us c:=⟨x.len,λi q e=>let⟨v,e1,e2⟩:=x.at_ i q e;⟨v,e1,e2.mono le⟩⟩
theorem QsU.snoc{us c q}(x:QsU h us c)(g:cY h q v):QsU h (us++[v]) (c++[q]):=by
 have d:=x.len;refine⟨by simp[d],λi p e=>?_⟩;by_cases f:i<c.length
 .rw[getElem?_append_left f]at e;obtain⟨u,j,n⟩:=x.at_ i p e
  grind
 grind
def c5X(N:Nat):Vc.Spec:=λc m h K=>∃v q s,c=[aQ v]/\cY h q v/\SizeOf.sizeOf q<N/\(aK s [] q).2=0/\∀d h',PH.le h h'->cY h' (cE q) d->d.op=opE q->K (aQ d) m h'
def aUZ:Vc.Spec:=λc m h K=>∃sc v s q,c=[aS sc,aQ v]/\iC h s sc/\cY h q v/\(fG s [] q).2=0/\∀d h',PH.le h h'->cY h' (cE q) d->d.op=opE q->K (.tup [aQ d,cI 0]) m h'
def c5Z:Vc.Spec:=λc m h K=>∃v q s,c=[aQ v]/\cY h q v/\(aK s [] q).2=0/\∀d h',PH.le h h'->cY h' (cE q) d->d.op=opE q->K (aQ d) m h'
noncomputable def cwX s t m h:=
 cZ [(55,FL)] [(2,{A:=Nat×Nat,st:=λ⟨c,d⟩=>bS 42 44 [(0,sv s),(1,sv t),(5,iv c),(6,iv d)] [] m h})] [] [] false
noncomputable def cvJ s t i m h:=
 cZ [(21,cXJ)] [(3,{A:=Nat×dg,st:=λ⟨j,c⟩=>bS 27 30 [(1,sv t),(2,bv i),(7,.at (.lst 24)),(10,sv s),(11,iv s.len),(12,iv j)] [(24,.lst 65 1 (c.map eS))] m h})] [] [] false
noncomputable def coJ(N:Nat)(v:QV)(m:MH):=
 cZ [(42,b3Z),(68,c5X N),(77,aBJ),(78,PX),(79,Wp)] [(5,{A:=Nat×dw×PV×Sl×Sl×PH,st:=λ⟨i,c,w,s,t,h⟩=>bS 44 45 [(2,.at (.ptr 2 0)),(3,.at (.ptr 3 0)),(29,sv v.args),(30,iv v.args.len),(31,iv i)] [(2,.cells 41 zQ),(3,.cells 41 ((QV.enc ⟨v.op,v.table,w,s,t,cG,cG,0,cG⟩).take 20 |>.map .val |>.append [.lst 40])),(40,.lst 41 21 (c.map QV.enc))] m h})] [(4,{A:=PV×Sl×Sl×PH,st:=λ⟨w,s,t,h⟩=>bS 44 45 [(1,.at (.ptr 1 0)),(2,.at (.ptr 2 0)),(3,.at (.ptr 3 0))] [(1,.cells 41 (v.enc.map .val)),(2,.cells 41 zQ),(3,.cells 41 ((QV.enc ⟨v.op,v.table,w,s,t,cG,cG,0,cG⟩).map .val))] m h})] [] false
noncomputable abbrev IF(a:Nat×Nat):=bC a.1 (kE (Int.tdiv (kE ((↑a.2:Int)-(↑a.1:Int))) 2))
attribute [push_cast] IF
def Yk(s t:Sl)(m:MH)(h:PH)(K:da):=
  I9 (λI x=>aA (I x) (aJ s) (aA (aJ t) (bA x.1) (aH (bP s.len=bP x.2) (m=m) (h=h) True))) (λI d x=>I x->aZ (↑x.1:Int) (↑x.2:Int) (xH ((2:Int)=0)/\bF (λb o=>aH (aM s.a b o) (0<=IF x) (IF x<aG s) (∃(y:Sl),aL m h b (fF o (IF x) 1) (bH y)/\wL y t h (λa e=>aZ (eC a e) 0 (∃(c:Nat×Nat),aA (I c) (d c<d x) (aA (aJ s) (aJ t) (aA (SV.at (At.val (eH (kE (IF x+1))))=bP c.1) (bV x.2 c.2) (aA (m=m) (h=h) True)))) (∃(c:Nat×Nat),aA (I c) (d c<d x) (aA (aJ s) (aJ t) (aA (bV x.1 c.1) (SV.at (At.val (eH (IF x)))=bP c.2) (aA (m=m) (h=h) True)))))))) (aZ (↑x.1:Int) (aG s) (bF (λb o=>aH (aM s.a b o) (0<=(↑x.1:Int)) ((↑x.1:Int)<aG s) (∃(y:Sl),aL m h b
 (bK o x.1 1) (bH y)/\wL y t h (λa e=>K (yF (eC a e==0)) m h)))) (K bB m h)))
abbrev C8(a:Nat)(b:Nat×dg):=fU (bC a 1)=bP b.1
attribute [push_cast] C8
def Yi(s t:Sl)(i:Bool)(m:MH)(h:PH)(K:da):=
  EB (λI x=>aA (I x) (aJ t) (aA (eQ (sQb i)) (eL 24) (aA (aJ s) (bG s) (aA (bA x.1) (EA x) (bO (m=m) h h))))) (λI d x=>I x->aZ (↑x.1:Int) (aG s) (bF (λb o=>aH (aM s.a b o) (0<=(↑x.1:Int)) ((↑x.1:Int)<aG s) (∃(y:Sl),aL m h b (bK o x.1 1) (bH y)/\HJ (λe f l r=>aA (iH t y=iH e f) (Rows h e l) (aA (bR h f r) (fW l) (branch (Cg l r==i) (GK x (λc=>aA (I c) (d c<d x) (aA (aJ t) (eQ (sQb i)) (aA (eL 24) (aJ s) (aA (bG s) (C8 x.1 c) (aH (Gm x y c) (m=m) (h=h) True)))))) (∃(c:Nat×dg),aA (I c) (d c<d x) (aA (aJ t) (eQ (sQb i)) (aA (eL 24) (aJ s) (aA (bG s) (C8 x.1 c) (aH (w8 x c) (m=m) (h=h) True))))))))))) (bN h 1 (List.map eS x.2) (λe g=>K (cM e)
 m g)))
def az(n:Int)(m:MH)(h:PH)(K:da):=
  K (qK (yP 4 n)) m h
abbrev zH(a:Query->jC->Prop):=∃(x:Query)(c:jC),a x c
abbrev yK(a:PH)(b:Query)(c:QV->PH->Prop):=∀(x:QV)(d:PH),bY a d (cY d (cE b) x) (c x d)
abbrev Lo(a:QV)(b:PH)(c:PV×Sl×Sl×PH->Prop)(d:Sl->(PV×Sl×Sl×PH)->Prop)(e:MH):=AD (λx j=>yT a.on x (gS b x j) (fB (λn f=>bY b f (gS f n j) (∃(g:PV×Sl×Sl×PH),aA (c g) eJ (aA eD cH (aA (cV a) iV (aA (d n g) (e=e) (bQ f (cX g.2)))))))))
noncomputable abbrev wK a b c d e:=fC (mD a.op) (A9 a) (pQ b (fC (nX c) (nX d) (fC Ht Ht e)))
noncomputable abbrev Lp:=j9 gV (At.lst 40)
noncomputable abbrev AH(a:Nat×dw×PV×Sl×Sl×PH):=a.2.2.1
noncomputable abbrev tU(a:Nat×dw×PV×Sl×Sl×PH):=a.2.2.2
noncomputable abbrev Je(a:Nat×dw×PV×Sl×Sl×PH):=List.map QV.enc a.2.1
attribute [push_cast] zH yK Lo wK Lp AH tU Je
def XO(N:Nat)(v:QV)(m:MH)(h:PH)(K:da):=
  ∃(o:Int),fT (kQ v.op=kQ o) (B4 o) (bF (λb z=>aH (aM (gJ v) b z) ((0:Int)<=0) (0<aG v.args) (∃(y:QV),aL m h b (z+0) y.enc/\∃(f:QV),zH (λq s=>aA (iQ y=iQ f) (cY h q f) (aA (rN q N) ((aK s [] q).2=0) (yK h q (λg d=>g.op=opE q->K (dG g) m d))))))) (∃(I:PV×Sl×Sl×PH->Prop),(tM (λf p=>aA (pN (AJ v)=tS f) (fJ h p f) (Em h p (λg d=>sP (λs l=>yT v.columns s (Ints d s l) (fB (λj e=>bY d e (Ints e j l) (Lo v e I (λu x=>Aq (wK v g j u EY) (wK v x.1 x.2.1 (eF x.2) EY)) m/\Lo v e I (λu x=>Aq (wK v g j u EY) (wK v x.1 x.2.1 (eF x.2) EY)) m))))/\sP (λs l=>yT v.columns s (Ints d s l) (fB (λj
 e=>bY d e (Ints e j l) (Lo v e I (λu x=>Aq (wK v g j u EY) (wK v x.1 x.2.1 (eF x.2) EY)) m)))))))/\tM (λf p=>aA (pN (AJ v)=tS f) (fJ h p f) (Em h p (λg d=>sP (λs l=>yT v.columns s (Ints d s l) (fB (λj e=>bY d e (Ints e j l) (Lo v e I (λu x=>Aq (wK v g j u EY) (wK v x.1 x.2.1 (eF x.2) EY)) m))))))))/\∀(x:PV×Sl×Sl×PH),I x->∃(I1:Nat×dw×PV×Sl×Sl×PH->Prop)(A:Nat×dw×PV×Sl×Sl×PH->Nat),(∃(c:Nat×dw×PV×Sl×Sl×PH),aA (I1 c) eD (aA cH (aJ v.args) (aA (qY v) (bA c.1) (aA iV (Aq (wK v x.1 x.2.1 (eF x.2) Lp) (wK v (AH c) (tU c).1 (eF (tU c)) Lp)) (aH (oH 41 21 (bW 41 21
 (Je c))) (m=m) (cX x.2=cX (tU c)) True)))))/\∀(c:Nat×dw×PV×Sl×Sl×PH),yS (I1 c) c.1 v (bF (λb z=>aH (aM (gJ v) b z) (0<=(↑c.1:Int)) ((↑c.1:Int)<aG v.args) (∃(y:QV),aL m (cX (tU c)) b (bK z c.1 21) y.enc/\∃(f:QV),zH (λq s=>aA (iQ y=iQ f) (cY (cX (tU c)) q f) (aA (rN q N) ((aK s [] q).2=0) (yK (cX (tU c)) q (λg d=>g.op=opE q->tT (Je c) 280 (∃(n:Nat×dw×PV×Sl×Sl×PH),aA (I1 n) (A n<A c) (aA eD cH (aA (aJ v.args) (bG v.args) (aA (fU (bC c.1 1)=bP n.1) iV (j4 (Aq (wK v (AH c) (tU c).1 (eF (tU c)) Lp) (wK v (AH n) (tU n).1 (eF (tU n)) Lp)) (bW 41 21 (iT (Je
 c) g.enc)=bW 41 21 (Je n)) (m=m) d (cX (tU n)))))))))))))) (bN (cX (tU c)) 21 (Je c) (λs d=>K (qK (aU (eH v.op) (kS v) (aU (eH (AH c).op) (eH (AH c).cmp) (aU (i6 (AH c).left) (sQ (AH c).left) (aU (eH (tD (AH c).left)) (mS (AH c).left) (C9 (AH c) (gP (tU c).1) (uM (gP (eF (tU c))) (bH s)))))))) m d)))
def X9(sc:cK)(v:QV)(m:MH)(h:PH)(K:da):=
  ∃(s:cK),Cn (λp g=>Cp (λd e=>∃(q:Query),aA (cL sc::aX Dn (dG v)=cL s::aX (cM p) (dG g)) (iC h d s) (aA (Ints h p e) (cY h q g) (AY (sJ q)/\fB (λo c=>bY h c (Ints c o (fG d e q).1) (dH (fG d e q).2 0 (K (CV.tup (aX (qK zV) (CV.val (eH (fG d e q).2)))) m c) (∃(j:QV),zH (λf u=>aH (iQ v=iQ j) (cY c f j) ((aK u [] f).2=0) (yK c f (λn x=>n.op=opE f->K (CV.tup (cA (dG n) 0)) m x))))))))))
theorem TD:cz 21 cXJ:=by
 refine gW func21 ?_;rintro T m h K ⟨s,t,l,r,rfl,C,O,U,E⟩;refine⟨cwX s t m h,rfl,aE aa aI,Yk s t m h K,bh,?_⟩;dsimp only[Yk,push_cast];have V:=bI.slen C;have W:=C.len;refine⟨λx=>x.1<=x.2/\x.2<=l.length/\(∀(j:Nat) y,j<x.1->l[j]? =some y->eC y r<0)/\(∀(j:Nat) y,x.2<=j->l[j]? =some y->0<=eC y r),λx=>x.2-x.1,⟨(0,l.length),⟨bi,bi,λj y g=>by simp at g,λj y g n=>bo⟩,bo⟩,?_⟩;rintro⟨c,d⟩ ⟨X,P,Q,R⟩;dsimp only at X P Q R⊢
 have S:∀{i j:Nat}{x y},l[i]? =some x->l[j]? =some y->i<j->eC x y<0:=fun{i j x y} Y n F=>by
  obtain⟨G,rfl⟩:=List.getElem?_eq_some_iff.1 Y;obtain⟨H,rfl⟩:=List.getElem?_eq_some_iff.1 n;exact pairwise_iff_getElem.1 U i j G H F
 refine aF (λZ=>?_) (λa'=>?_)
 .have e1:IntKind.i64.wrap ((d:Int)-(c:Int))=((d-c:Nat):Int):=by
   rw[show(d:Int)-(c:Int)=((d-c:Nat):Int)by omega];exact eM aD aD
  have A:(((d-c:Nat):Int)).tdiv 2=(((d-c)/2:Nat):Int):=by
   grind
  have e3:IntKind.i64.wrap ((((d-c)/2:Nat):Int))=(((d-c)/2:Nat):Int):=eM aD aD
  have e4:IntKind.i64.wrap ((c:Int)+(((d-c)/2:Nat):Int))=((c+(d-c)/2:Nat):Int):=by
   rw[show(c:Int)+(((d-c)/2:Nat):Int)=((c+(d-c)/2:Nat):Int)by omega];exact eM aD aD
  rw[e1,A,e3,e4];generalize D:c+(d-c)/2=k;have I:c<=k:=by omega
  have a0:k<d:=by omega
  rw[fR aD];have f:k<l.length:=by omega
  obtain⟨b,o,u,J,rd,L⟩:=bI.at C (cd f);refine⟨bj,b,o,J,aD,aD,u,.imm rd,u,t,l[k],r,rfl,L,O,aF (λz=>?_) (λz=>?_)⟩
  .refine⟨(k+1,d),⟨aD,P,λj y g n=>?_,R⟩,aD,MT⟩;by_cases M:j=k
   .grind
   .exact G8 (S n (cd f) aD) z
  .refine⟨(c,k),⟨I,aD,Q,λj y g n=>?_⟩,aD,MT⟩;by_cases M:j=k
   .grind
   .have h6:=S (cd f) n aD;refine Int.not_lt.1 λh7=>?_;exact z (G8 h6 h7)
 .have e:c=d:=by omega
  subst e;refine aF (λz=>?_) (λz=>?_)
  .have B:c<l.length:=by omega
   obtain⟨b,o,u,J,rd,L⟩:=bI.at C (cd B);refine⟨b,o,J,aD,z,u,.imm rd,u,t,l[c],r,rfl,L,O,?_⟩
   have A:(eC l[c] r==0)=Cg l r:=by
    rw[Bool.eq_iff_iff,beq_iff_eq,uA,iZ];refine⟨λe=>e▸getElem_mem B,λD=>?_⟩;obtain⟨j,g⟩:=getElem?_of_mem D;have hz:eC r r=0:=iZ.2 rfl
    grind
   rw[A];exact E
  .have A:Cg l r=false:=by
    rw[ciQ];intro D;obtain⟨j,g⟩:=getElem?_of_mem D;have hz:eC r r=0:=iZ.2 rfl
    grind
   rw[A]at E;exact E
theorem TC:cz 22 aCX:=by
 refine gW func22 ?_;rintro E m h K ⟨s,t,i,l,k,rfl,A,F,G,M,H⟩;refine⟨cvJ s t i m h,rfl,aE TD aI,Yi s t i m h K,bh,?_⟩;dsimp only[Yi,push_cast];have f:=bI.slen A;refine⟨λx=>x.1<=l.length/\x.2.length<=x.1/\dR h x.2 ((l.take x.1).filter λx=>Cg k x==i),λx=>l.length-x.1,⟨(0,[]),⟨bi,bi,bx (dR.nil h)⟩,MT⟩,?_⟩;rintro⟨j,B⟩ ⟨I,g,d⟩;dsimp only at I g d⊢
 refine aF (λc=>?_) (λJ=>?_)
 .obtain⟨r,C⟩:=dW f c;obtain⟨b,o,u,e,rd,D⟩:=bI.at A C;have n:=zR (λx=>Cg k x==i) C;rw[fR aD];refine⟨b,o,e,aD,c,u,.imm rd,t,u,k,r,rfl,F,D,G,aC (λy=>?_) (λy=>?_)⟩
  .rw[if_pos y]at n;exact⟨bo,bo,(j+1,B++[u]),⟨aD,bn,by rw[n];exact d.snoc D⟩,aD,by rw[cj];exact MT⟩
  .rw[if_neg (by rw[y];simp),append_nil]at n;exact⟨(j+1,B),⟨aD,bo,bo⟩,aD,MT⟩
 .rw[ci aD]at d
  exactλL h' le z=>H L h' le ((d.mono le).rows z bo)
theorem aB:cz 56 c3J:=by
 refine gW func56 ?_;rintro c m h K ⟨n,rfl,d⟩;refine⟨cZ [] [] [] [] false,rfl,aI,az n m h K,bh,?_⟩;exact d
theorem aKX:∀N,cz 68 (c5X N)
 |0=>by
  refine eG (fn:=Tryz.f68) (c:=dQ Tryz.f68) func68 rfl bj ?_;rintro V m h K ⟨v,q,s,rfl,_,hN,_⟩;omega
 |N+1=>by
  refine gW func68 ?_;rintro V m h K ⟨v,q,s,rfl,hq,hN,hk,hK⟩;refine⟨coJ N v m,rfl,aE Tq (aE (aKX N) (aE Tn (aE Ni (aE Tm aI)))),XO N v m h K,bh,?_⟩;dsimp only[XO,push_cast];have d:=@vR q;obtain⟨op,ta,w,co,on,gr,od,li,args⟩:=q;simp only[Query.args]at d;have x:=hq.parts;have W:=x.args_.slen;have a1:=x.args_.len;obtain⟨G,a2,_⟩:=lO hk;have C:=x.op_;refine⟨v.op,rfl,aC (λS=>?_) (λS=>⟨λz=>PH.le h z.2.2.2/\fJ z.2.2.2 w z.1/\Ints z.2.2.2 z.2.1 co/\gS z.2.2.2 z.2.2.1 on,?_,?_⟩)⟩
  .rw[C]at S;have X:=Vo S
   obtain⟨a,f,rfl⟩:∃a f,args=a::f:=by
    cases args with
    |nil=>
     exfalso;have:(1:Int)<=arity op:=by rcases X with rfl|rfl|rfl<;>decide
     grind
    |cons a f=>grind
   obtain⟨b,o,u,e,r,Y⟩:=x.args_.at (i:=0) (x:=a) rfl;have Z:=d (q:=a) bi
   exact⟨b,o,e,aD,bo,u,.imm (bx r),u,a,s,rfl,Y,aD,G a bi,λv' h' le H X=>by
    have e:cE (.mk op ta w co on gr od li (a::f))=cE a:=by rw[cE,if_pos S,Hj];rfl
    exact hK v' h' le bo (by rw[opE,e];exact X)⟩
  .repeat' (first
    |(refine⟨v.where_,w,rfl,x.where_,λv1 h1 D r1=>?_⟩)
    |(refine⟨v.columns,co,rfl,x.columns_.mono D,λT h2 E r2=>?_⟩)
    |(refine⟨v.on,on,rfl,x.on_.mono (D.trans E),λU I F r3=>?_⟩)
    |(exact⟨(v1,T,U,I),⟨(D.trans E).trans F,r1.mono (E.trans F),r2.mono F,r3⟩,MT⟩)
    |apply And.intro)
  .rintro⟨w',T,U,hx⟩ ⟨J,L,M,O⟩;dsimp only at J L M O⊢
   refine⟨λz=>z.1<=args.length/\z.2.1.length=z.1/\z.2.2.1=w'/\z.2.2.2.1=T/\z.2.2.2.2.1=U/\PH.le hx z.2.2.2.2.2/\QsU z.2.2.2.2.2 z.2.1 ((args.take z.1).map cE),λz=>args.length-z.1,⟨(0,[],w',T,U,hx),⟨aD,rfl,rfl,rfl,rfl,.refl _,⟨rfl,λi q e=>by simp at e⟩⟩,MT⟩,?_⟩;rintro⟨i,us,w2,t2,t3,hy⟩ ⟨hi,P,e1,e2,e3,g,j⟩;dsimp only at hi P e1 e2 e3 g j⊢
   subst e1 e2 e3;have A:=J.trans g;have n:B4 op=false:=bo
   have B:cE (.mk op ta w co on gr od li args)= .mk op ta w co on gr od li (args.map cE):=by rw[cE,if_neg (by simp[n]),FC]
   refine aF (λQ=>?_) (λa3 s4 h' le a'=>hK ⟨v.op,v.table,w2,t2,t3,cG,cG,0,s4⟩ h' (A.trans le) ?_ (by rw[opE,B];exact C))
   rotate_left
   .rw[B];rw[ci aD]at j
    have a0:gr=[]/\od=[]/\li=0:=by
     obtain⟨_,_,a,b,_,_,I⟩:=lO hk;unfold eV at I;by_cases c0:arity op<0\/¬dC (.mk op ta w co on gr od li args)
     .rw[if_pos c0]at I;simp[eK]at I
     .rw[not_or]at c0;obtain⟨_,_,_,_,u5⟩:dC (.mk op ta w co on gr od li args):=Classical.not_not.1 c0.2;rcases u5 with e|e|e
      .rw[e]at n;cases n
      .rw[e]at n;cases n
      .exact e
    obtain⟨rfl,rfl,rfl⟩:=a0;have lx:=g.trans le;exact mL.rep ⟨C,x.table_,L.mono lx,M.mono lx,O.mono lx,oX h',wA h',rfl,⟨⟨us,a',j.len.symm,(j.mono le).at_⟩,bo⟩⟩
   obtain⟨q,y⟩:=dW W Q;have R:=ce y;obtain⟨b,o,u,e,r,Y⟩:=(x.args_.mono A).at y;have Z:=d R;have a4:=(bz y);exact⟨b,o,e,aD,Q,u,.imm r,u,q,s,rfl,Y,aD,G q R,λv' h' le H _=>⟨bo,bo,(i+1,us++[v'],w2,t2,t3,h'),⟨aD,by simp[P],rfl,rfl,rfl,g.trans le,by dsimp only;rw[cq,y,Option.toList_some,cj];exact(j.mono le).snoc H⟩,aD,by rw[cj];exact MT⟩⟩
theorem bcQ:cz 68 c5Z:=iE aKX λ_ _ _ _⟨v,q,s,e,c,d,f⟩=>⟨SizeOf.sizeOf q+1,v,q,s,e,c,aD,d,f⟩
theorem cVX{q}(j:iC h s sc)(f:cY h q v)(g:(fG s [] q).2=0)(n:∀c h',PH.le h h'->cY h' (cE q) c->c.op=opE q->K (.tup [aQ c,cI 0]) m h'):X9 sc v m h K:=
 ⟨sc,cG,v,s,[],q,rfl,j,Xm h,f,(HF g).2.2.1,λ_ x d _=>aC (λe=>bo) (λ_=>⟨v,q,s,rfl,f.mono d,(Oj g).1,λc h' le o u=>n c h' (d.trans le) o u⟩)⟩
theorem bfJ:cz 29 aUZ:=by
 refine gW func29 ?_;rintro c m h K ⟨sc,v,s,q,rfl,d,e,f,g⟩;refine⟨cZ [(37,Im),(68,c5Z)] [] [] [] false,rfl,aE Rn (aE bcQ aI),X9 sc v m h K,bh,?_⟩;exact cVX d e f g
theorem bvX{q B}(c:eX s=0)(g:dT s q)(C:kF q<=24)(E:gM 4 q<=B)(n:B*60<=8000000):
 A1 s [] [] (kN s q) (nW (uL s) q (cE q))/\(kN s q).1.length<=200/\(kN s q).2.length<=24/\JJ (fO s q []).1/\kU (fO s q []).1=kF q:=by
 have o:=WR c;obtain⟨u,_,d,e⟩:=Wx o q [] g (Fi.nil s) bn;obtain⟨x,f⟩:=bvQ _ d;rw[e]at f;have j:=d.get;rw[e]at j;obtain⟨_,y,_,z,_,_,_⟩:=j;have ev:=nT q g;have A:=D7 s q [];simp only[length_nil,Nat.zero_add]at A;have F:2*B*kU (fO s q []).1<=2*B*24:=Nat.mul_le_mul_left _ aD;have G:=iJ (fO s q []).1 ((fO s q []).1.env:Int) (fO s q []).2 [];have D:=xT c (fO s q []).1 B (2*B) B (fO s q []).1.env (fO s q []).2 [] d u y bo bo (Nat.le_refl _) bo aD aD;rw[e,z]at D;refine⟨D.shift (nil_prefix),?_,?_,x,f⟩
 .show(gA _ _ _ _).1.length<=200;omega
 .show(gA _ _ _ _).2.length<=24
  grind
structure Zd(s:jC)(q:Query):Prop where
 ok:Sf s q
 valid:iF s (kN s q).1 (kN s q).2=0
 run:∀st,lC s st=0->StV st->(∀l∈st,l.length<=4)->Hb s st (kN s q).1/\(∀l∈lF st (kN s q).1,l.length<=8000000/\∀r∈l,r.length<=1000)/\JZ st (kN s q)=(nW (uL s) q (cE q)).map (bL st)
theorem S8{s q B}(e:eX s=0)(g:dT s q)(E:kF q<=24)(F:gM 4 q<=B)(j:B*60<=8000000):Zd s q:=by
 obtain⟨D,L,M,G,O⟩:=bvX e g E F j;obtain⟨P,o,H,I⟩:=D.ex;rw[nil_append]at o;refine⟨λh=>⟨aYJ h,G,aD,aD⟩,W4 D.inv e aD aD λr u=>?_,λy n J z=>?_⟩
 .grind
 .have f:∀i,i<(kN s q).1.length->iM (aK s [] (aW (kN s q).1 i)).1.length (bL y (aW (kN s q).1 i))/\(bL y (aW (kN s q).1 i)).length<=8000000:=λi c=>by
   have x:=Qg n J z aD (D.inv.good i c).k (D.inv.good i c).bnd
   grind
  refine⟨⟨D.inv.ar,D.inv.fit,λi c=>(D.inv.good i c).kinds,4,aD,z,λi c=>(D.inv.good i c).bnd⟩,λl A=>?_,?_⟩
  .unfold lF at A;obtain⟨i,c,rfl⟩:=mem_map.1 A;have c:i<(kN s q).1.length:=bo
   refine⟨(f i c).2,λr u=>?_⟩;have Q:=(f i c).1.wid r u;have R:=jB s [] (aW (kN s q).1 i);omega
  .unfold JZ;rw[o, <-I,map_map,map_map];refine map_congr_left λd C=>?_;have C:=H d C;simp only[Function.comp,Int.toNat_natCast,lF]
   grind
theorem uE{st a b on x}:x∈bL st (lD a b on)↔x∈bL st a/\((bL st b).any λy=>agree on x y)=true:=by
 simp only[lD,bL,AU,F0,show((5:Int)=1)=False by simp,show((5:Int)=2)=False by simp,show((5:Int)=3)=False by simp,show((5:Int)=4)=False by simp,if_false,if_true,cFX]
 grind
theorem nP{st a b x}:x∈bL st (jE a b)↔x∈bL st a/\x∈bL st b:=by
 simp only[jE,bL,AU,F0,show((8:Int)=1)=False by simp,show((8:Int)=2)=False by simp,show((8:Int)=3)=False by simp,show((8:Int)=4)=False by simp,show((8:Int)=5)=False by simp,show((8:Int)=6)=False by simp,show((8:Int)=7)=False by simp,if_false,if_true,bBJ];rw[mem_filter];show x∈bL st a/\(Cg (bL st b) x==true)=true↔_;rw[beq_iff_eq,uA]
theorem Jk{st a x}:x∈bL st (Ec a co)↔∃r∈bL st a,pick r co=x:=by
 simp only[Ec,bL,AU,F0,show((3:Int)=1)=False by simp,show((3:Int)=2)=False by simp,if_false,if_true,cFJ];rw[xX,mem_map];rfl
theorem Jl{st a b x}:x∈bL st (Cy a b gr od li)↔x∈bL st a/\decide ((((bL st b).countP λy=>jL gr x y&&decide (jT od y x<0):Nat):Int)<li)=true:=by
 simp only[Cy,bL,AU,F0,show((10:Int)=1)=False by simp,show((10:Int)=2)=False by simp,show((10:Int)=3)=False by simp,show((10:Int)=4)=False by simp,show((10:Int)=5)=False by simp,show((10:Int)=6)=False by simp,show((10:Int)=7)=False by simp,show((10:Int)=8)=False by simp,show((10:Int)=9)=False by simp,if_false,aFZ,qH]
 grind
def bpZ st a b:=∀x∈bL st a,x∈bL st b
theorem bpZ.refl{st} a:bpZ st a a:=λ_ h=>h
theorem cWZ{ls op w on a k}(h:op≠1):(iD ls (.mk op ta w co on gr od li [a]) k).1=F0 op (.mk op ta w co on gr od li [a]) [(iD ls a k).1]:=by
 rw[iD,if_neg h,lR,lR]
theorem cWX{ls op w on a b k}(h:op≠1):(iD ls (.mk op ta w co on gr od li [a,b]) k).1=F0 op (.mk op ta w co on gr od li [a,b]) [(iD ls a k).1,(iD ls b (iD ls a k).2).1]:=by
 rw[iD,if_neg h,lR,lR,lR]
theorem Vk{st op w on a}(h:op≠1):bL st (.mk op ta w co on gr od li [a])=F0 op (.mk op ta w co on gr od li [a]) [bL st a]:=by
 rw[bL,if_neg h,AU,AU]
theorem FU{st op w on a b}(h:op≠1):bL st (.mk op ta w co on gr od li [a,b])=F0 op (.mk op ta w co on gr od li [a,b]) [bL st a,bL st b]:=by
 rw[bL,if_neg h,AU,AU,AU]
def c4X on y z:=kO (fY on) y=true/\(kO (fK on) z&&agree on y z)=true
section
variable{ta:Int}{w:Pred}{co:db}{on:dh}{gr:db}{od:di}{li:Int}{zs:dl}{A B:Rel}{x:dj}
theorem op2:x∈F0 2 (.mk 2 ta w co on gr od li zs) [A]↔x∈A/\iX x w=true:=by
 rw[F0,if_pos rfl];exact mem_filter
theorem op3:x∈F0 3 (.mk 3 ta w co on gr od li zs) [A]↔∃r∈A,pick r co=x:=by
 rw[F0,if_neg bj,if_pos rfl];show x∈sK _↔_;rw[xX,mem_map];rfl
theorem op4:x∈F0 4 (.mk 4 ta w co on gr od li zs) [A,B]↔∃y∈A,∃z∈B,c4X on y z/\y++z=x:=by
 rw[F0,if_neg bj,if_neg bj,if_pos rfl];show x∈A.flatMap (jS on B)↔_;rw[mem_flatMap];refine exists_congr λy=>and_congr_right λc=>?_;unfold jS;split
 .rename_i h;rw[mem_map];refine exists_congr λz=>?_;rw[mem_filter];exact⟨λe=>⟨e.1.1,⟨h,e.1.2⟩,e.2⟩,λe=>⟨⟨e.1,e.2.1.2⟩,e.2.2⟩⟩
 .rename_i h;exact⟨λe=>by simp at e,λ⟨z,_,e,_⟩=>absurd e.1 h⟩
theorem op5:x∈F0 5 (.mk 5 ta w co on gr od li zs) [A,B]↔x∈A/\∃y∈B,agree on x y=true:=by
 rw[F0,if_neg bj,if_neg bj,if_neg bj,if_pos rfl];show x∈A.filter (λx=>B.any λy=>agree on x y)↔_
 grind
theorem op8:x∈F0 8 (.mk 8 ta w co on gr od li zs) [A,B]↔x∈A/\x∈B:=by
 simp only[F0,show((8:Int)=2)=False by simp,show((8:Int)=3)=False by simp,show((8:Int)=4)=False by simp,show((8:Int)=5)=False by simp,show((8:Int)=6)=False by simp,show((8:Int)=7)=False by simp,if_false,if_true];exact cgJ
end
theorem dT.cases{op w on args}(g:dT s (.mk op ta w co on gr od li args)):
 (op=1/\args=[])\/(∃a,args=[a]/\dT s a/\(op=2\/op=3\/op=9))\/(∃a b,args=[a,b]/\dT s a/\dT s b/\(op=4\/op=5\/op=6\/op=7\/op=8\/op=10)):=by
 obtain⟨n,e,c,f⟩:=g.node;have d:op=1\/(op=2\/op=3\/op=9)\/(op=4\/op=5\/op=6\/op=7\/op=8\/op=10):=by omega
 rcases d with rfl|h|h
 .exact .inl ⟨rfl,eq_nil_of_length_eq_zero (by have:arity 1=0:=rfl;omega)⟩
 .obtain⟨a,rfl⟩:=F1 (l:=args) (by rw[c];rcases h with rfl|rfl|rfl<;>rfl)
  grind
 .obtain⟨a,b,rfl⟩:=sI (l:=args) (by rw[c];rcases h with rfl|rfl|rfl|rfl|rfl|rfl<;>rfl)
  grind
theorem Iw{op ta w co on gr od li a}(h:op≠1):eY (.mk op ta w co on gr od li [a])=eY a:=by
 simp[eY,eN,h]
theorem Iv{op ta w co on gr od li a b}(h:op≠1):eY (.mk op ta w co on gr od li [a,b])=eY a++eY b:=by
 simp[eY,eN,h]
theorem EM{s:jC}{ls:List Rel}:∀(q:Query)(k:Nat),dT s q->(iD ls q k).2=k+(eY q).length
 |.mk op ta w co on gr od li args,k,g=>by
  rcases g.cases with⟨rfl,rfl⟩|⟨a,rfl,d,h⟩|⟨a,b,rfl,d,e,h⟩
  .rw[iD,if_pos rfl];simp[eY,eN]
  .have c:op≠1:=by omega
   rw[iD,if_neg c,lR,lR,Iw c];exact EM a k d
  .have c:op≠1:=by omega
   rw[iD,if_neg c,lR,lR,lR,Iv c,cg];dsimp only;rw[EM b _ e,EM a k d];omega
theorem EN{op w on a l}(h:B4 op=true):cE (.mk op ta w co on gr od li (a::l))=cE a:=by
 rw[cE,if_pos h,Hj];rfl
theorem rF{op w on args}(h:B4 op=false):cE (.mk op ta w co on gr od li args)= .mk op ta w co on gr od li (args.map cE):=by
 rw[cE,if_neg (by simp[h]),FC]
theorem sG{s:jC}{wd:Query->Int}:∀(q D:Query),dT s q->(nW wd q D).length=(eY q).length
 |.mk op ta w co on gr od li args,D,g=>by
  rw[nW.eq_def];rcases g.cases with⟨rfl,rfl⟩|⟨a,rfl,c,h⟩|⟨a,b,rfl,c,d,h⟩
  .simp[eY,eN]
  .rw[Iw aD];dsimp only;rcases h with rfl|rfl|rfl
   .rw[if_pos rfl];exact sG a _ c
   .rw[if_neg bj,if_pos rfl];exact sG a _ c
   .rw[if_neg bj,if_neg bj,if_pos rfl];exact sG a _ c
  .rw[Iv aD,cg];dsimp only;rcases h with rfl|rfl|rfl|rfl|rfl|rfl
   .rw[if_pos rfl,cg,sG a _ c,sG b _ d]
   .rw[if_neg bj,if_pos rfl,cg,sG a _ c,sG b _ d]
   .rw[if_neg bj,if_neg bj,if_pos rfl,cg,sG a _ c,sG b _ d]
   .rw[if_neg bj,if_neg bj,if_neg bj,if_pos bj,cg,sG a _ c,sG b _ d]
   .rw[if_neg bj,if_neg bj,if_neg bj,if_pos bj,cg,sG a _ c,sG b _ d]
   .rw[if_neg bj,if_neg bj,if_neg bj,if_neg bj,if_pos rfl,cg,sG a _ c,sG b _ d]
theorem S5{r:dj}{a n}(h:a+n<=r.length):pick r (fZ a n)=(r.drop a).take n:=by
 refine ext_getElem? λi=>?_;simp only[pick,fZ,Int.toNat_natCast,map_map]
 grind
theorem MW{y z}:pick (y++z) (fZ 0 (y.length:Nat))=y:=by
 have:=S5 (r:=y++z) (a:=0) (n:=y.length) bi
 grind
theorem J2{y z}:pick (y++z) (fZ (y.length:Nat) (z.length:Nat))=z:=by
 rw[S5 bi];simp
theorem OO{y z u}(h:u.length=z.length):agree (AT (y.length:Nat) (z.length:Nat)) (y++z) u=true↔u=z:=by
 have c:fY (AT (y.length:Nat) (z.length:Nat))=fZ (y.length:Nat) (z.length:Nat):=by simp[fY,AT,fZ,map_map,Function.comp]
 have d:fK (AT (y.length:Nat) (z.length:Nat))=fZ 0 (u.length:Nat):=by simp[fK,AT,fZ,map_map,Function.comp,h]
 rw[sU,c,d,J2];have:=MW (y:=u) (z:=[])
 grind
theorem UR{x y}:agree (rR gr) x y=jL gr x y:=by
 have c:fY (rR gr)=gr:=by simp[fY,rR,map_map,Function.comp_def]
 have d:fK (rR gr)=gr:=by simp[fK,rR,map_map,Function.comp_def]
 rw[agree,jL,c,d]
theorem awJ{on x y}:agree (pP on) y x=true↔agree on x y=true:=by
 rw[sU,sU];simp only[pP,fY,fK,map_map,Function.comp_def];exact eq_comm
theorem Y1{z}:agree (mJ co) z (pick z co)=true:=by
 rw[sU];simp only[mJ,fY,fK,map_map,pick];refine map_congr_left λi c=>?_
 grind
theorem KB{st op w on a b D}(h:op=5\/op=7\/op=8\/op=10)(c:bpZ st D (cE (.mk op ta w co on gr od li [a,b]))):bpZ st D (cE a):=λy d=>by
 have:=c y d;rcases h with rfl|rfl|rfl|rfl
 .rw[rF rfl,map_cons,map_cons,map_nil,FU bj,op5]at this;exact this.1
 .rw[EN rfl]at this;exact this
 .rw[rF rfl,map_cons,map_cons,map_nil,FU bj,op8]at this;exact this.1
 .rw[EN rfl]at this;exact this
def A3(l:Rel):=match l with|[]=>0|r::_=>r.length
def xS(op:Int)(co:db)(on:dh)(gr:db)(od:di)(li:Int)(c right f e d:Rel):=
 if op=3 then c.filter λr=>Cg d (pick r co)
 else if op=4 then(d.filter λr=>Cg e (r.drop (r.length-A3 right))).map λr=>r.take (r.length-A3 right)
 else if op=5 then d.filter λx=>e.any λy=>agree on x y
 else if op=6 then c.filter λx=>Cg d x==true
 else if op=9 then qH gr od li (c.filter λx=>d.any λy=>jL gr x y) f
 else d
def wB(op:Int)(on:dh)(gr:db)(od:di)(li:Int)(right c e d:Rel):=
 if op=4 then d.map λr=>r.drop (r.length-A3 right)
 else if op=5 then right.filter λy=>d.any λx=>agree on x y
 else if op=6 then right.filter λx=>Cg d x==true
 else if op=7\/op=8 then(right.filter λx=>Cg d x==true).filter λx=>Cg c x==true
 else if op=10 then qH gr od li (right.filter λx=>d.any λy=>jL gr x y) e
 else[]
noncomputable def G7(st:List Rel)(q:Query)(d:Rel):List Rel:=
 match q with
 |.mk op ta w co on gr od li args=>
  match args with
  |[]=>[(bL st (.mk op ta w co on gr od li [])).filter λx=>Cg d x==true]
  |[a]=>G7 st a (sK (xS op co on gr od li (bL st (cE a)) [] (bL st a) [] d))
  |a::b::_=>
   G7 st a (sK (xS op co on gr od li (bL st (cE a)) (bL st (cE b)) (bL st a) (bL st b) d))++
   G7 st b (sK (wB op on gr od li (bL st (cE b)) (bL st a) (bL st b) d))
 termination_by SizeOf.sizeOf q
theorem V5{z y}(h:agree (mJ co) z (pick y co)=true):pick z co=pick y co:=by
 rw[sU]at h;simp only[mJ,fY,fK,map_map,pick]at h⊢
 refine map_congr_left λc d=>?_;have f:co.idxOf c<co.length:=idxOf_lt_length_of_mem d;have e:co.getD (co.idxOf c) 0=c:=bo
 have g:co.idxOf c∈(List.range co.length).filter λi=>decide (co.idxOf (co.getD i 0)=i):=mem_filter.2 ⟨mem_range.2 f,bo⟩;have:=map_inj_left.1 h _ g
 grind
theorem uW{st q}(c:lC s st=0)(d:StV st)(e:∀l∈st,l.length<=4)(g:dT s q):iM (aK s [] q).1.length (bL st q):=
 (Qg c d e aD (Prod.ext rfl g.kinds:aK s [] q=((aK s [] q).1,0)) g.bnd).2.2.1
theorem Ds{st a b}(h:fW (bL st a)):fW (bL st (jE a b)):=by
 rw[jE,FU bj];exact List.Pairwise.filter _ h
theorem HC{st a b on}(h:fW (bL st a)):fW (bL st (lD a b on)):=by
 rw[lD,FU bj];exact List.Pairwise.filter _ h
theorem WL{st a b gr od li}(h:fW (bL st a)):fW (bL st (Cy a b gr od li)):=by
 rw[Cy,FU bj];exact List.Pairwise.filter _ h
theorem WK{st a co}:fW (bL st (Ec a co)):=by
 rw[Ec,Vk bj];exact sZ _
theorem QT{a b x}:x∈qH gr od li a b↔x∈a/\decide (((b.countP λy=>jL gr x y&&decide (jT od y x<0):Nat):Int)<li)=true:=by
 rw[qH,mem_filter]
theorem nU{s:jC}{st:List Rel}(f:lC s st=0)(j:StV st)(n:∀l∈st,l.length<=4):∀(q D:Query),dT s q->bpZ st D (cE q)->fW (bL st D)->G7 st q (bL st D)=(nW (uL s) q D).map (bL st)
 |.mk op ta w co on gr od li args,D,g,L,F=>by
  rw[nW.eq_def,G7.eq_def];rcases g.cases with⟨rfl,rfl⟩|⟨a,rfl,C,h⟩|⟨a,b,rfl,C,H,h⟩
  .dsimp only;rw[if_pos rfl,map_cons,map_nil];congr 1;refine FR (List.Pairwise.filter _ (uW f j n g).srt) F λx=>?_;rw[mem_filter,beq_iff_eq,uA];exact⟨λh=>h.2,λh=>⟨by have:=L x h;rw[rF rfl,map_nil]at this;exact this,h⟩⟩
  .dsimp only;have Q:=(uW f j n (nT a C).1).srt;rcases h with rfl|rfl|rfl
   .rw[if_pos rfl,show xS 2 co on gr od li (bL st (cE a)) [] (bL st a) [] (bL st D)=bL st D from rfl,A4 F]
    exact nU f j n a D C (λy o=>by
     have:=L y o;rw[rF rfl,map_cons,map_nil,Vk bj,op2]at this;exact this.1) F
   .rw[if_neg bj,if_pos rfl];have c:=HC (b:=D) (on:=mJ co) Q;rw[<-uV (l:=xS 3 co on gr od li (bL st (cE a)) [] (bL st a) [] (bL st D)) c λx=>?_]
    .exact nU f j n a _ C (λy o=>by rw[uE]at o;exact o.1) c
    .rw[uE,show xS 3 co on gr od li (bL st (cE a)) [] (bL st a) [] (bL st D)=(bL st (cE a)).filter λr=>Cg (bL st D) (pick r co)from rfl,mem_filter,uA,any_eq_true];refine and_congr_right λhx=>⟨λ⟨y,o,e⟩=>?_,λh=>⟨_,h,Y1⟩⟩
     have:=L y o;rw[rF rfl,map_cons,map_nil,Vk bj,op3]at this;obtain⟨r,_,I⟩:=this;rw[<-I]at e o;rw[V5 e];exact o
   .rw[if_neg bj,if_neg bj,if_pos rfl];have c:=WL (b:=a) (gr:=gr) (od:=od) (li:=li) (HC (b:=D) (on:=rR gr) Q);rw[<-uV (l:=xS 9 co on gr od li (bL st (cE a)) [] (bL st a) [] (bL st D)) c λx=>?_]
    .exact nU f j n a _ C (λy o=>by rw[Jl,uE]at o;exact o.1.1) c
    .rw[Jl,uE,show xS 9 co on gr od li (bL st (cE a)) [] (bL st a) [] (bL st D)=qH gr od li ((bL st (cE a)).filter λx=>(bL st D).any λy=>jL gr x y) (bL st a)from rfl,QT,mem_filter];simp only[UR]
  .dsimp only;have T:=uW f j n (nT a C).1;have R:=uW f j n (nT b H).1;have Q:=T.srt;have M:=R.srt;rcases h with rfl|rfl|rfl|rfl|rfl|rfl
   .have S:=nT a C;have O:=nT b H
    have split:∀r∈bL st D,∃y∈bL st (cE a),∃z∈bL st (cE b),y++z=r/\y.length=(aK s [] a).1.length/\z.length=(aK s [] b).1.length:=λr E=>by
     have:=L r E;rw[rF rfl,map_cons,map_cons,map_nil,FU bj,op4]at this;obtain⟨y,o,z,P,_,e⟩:=this;exact⟨y,o,z,P,e,by rw[T.wid y o,S.2.1],by rw[R.wid z P,O.2.1]⟩
    have cut:∀r∈bL st D,r.length-A3 (bL st (cE b))=(aK s [] a).1.length:=λr E=>by
     obtain⟨y,o,z,P,e,G,J⟩:=split r E
     have:A3 (bL st (cE b))=(aK s [] b).1.length:=by
      cases W:bL st (cE b)with
      |nil=>grind
      |cons u l=>show u.length=_;rw[R.wid u (by rw[W];simp),O.2.1]
     grind
    have X:uL s a=((aK s [] a).1.length:Nat):=rfl;have Y:uL s b=((aK s [] b).1.length:Nat):=rfl;rw[if_pos rfl,X,Y,cj]
    have parts:∀r∈bL st D,∃y z,y++z=r/\r.take (r.length-A3 (bL st (cE b)))=y/\r.drop (r.length-A3 (bL st (cE b)))=z/\y.length=(aK s [] a).1.length/\z.length=(aK s [] b).1.length:=λr E=>by
     grind
    congr 1
    .have c:=WK (st:=st) (a:=lD D b (AT ((aK s [] a).1.length:Nat) ((aK s [] b).1.length:Nat))) (co:=fZ 0 ((aK s [] a).1.length:Nat));rw[<-uV (l:=xS 4 co on gr od li (bL st (cE a)) (bL st (cE b)) (bL st a) (bL st b) (bL st D)) c λx=>?_]
     .exact nU f j n a _ C (λu d=>by
       rw[Jk]at d;obtain⟨r,E,e⟩:=d;rw[uE]at E;obtain⟨y,o,z,P,I,G,J⟩:=split r E.1;rw[<-I, <-G,MW]at e
       grind) c
     .rw[Jk,show xS 4 co on gr od li (bL st (cE a)) (bL st (cE b)) (bL st a) (bL st b) (bL st D)=((bL st D).filter λr=>Cg (bL st b) (r.drop (r.length-A3 (bL st (cE b))))).map λr=>r.take (r.length-A3 (bL st (cE b)))from rfl,mem_map];refine exists_congr λr=>?_;rw[uE,mem_filter,uA,any_eq_true,and_assoc,and_assoc];refine and_congr_right λE=>?_;obtain⟨y,z,e,U,I,G,J⟩:=parts r E;rw[U,I];have Z:pick r (fZ 0 ((aK s [] a).1.length:Nat))=y:=by rw[<-e, <-G,MW]
      rw[Z];refine and_congr_left λ_=>⟨λ⟨u,d,V⟩=>?_,λh=>⟨z,h,by rw[<-e, <-G, <-J];exact(OO rfl).2 rfl⟩⟩
      have lu:u.length=z.length:=by rw[J,(uW f j n H).wid u d]
      rw[<-e, <-G, <-J]at V;rw[<-(OO lu).1 V];exact d
    .have c:=WK (st:=st) (a:=D) (co:=fZ ((aK s [] a).1.length:Nat) ((aK s [] b).1.length:Nat));rw[<-uV (l:=wB 4 on gr od li (bL st (cE b)) (bL st a) (bL st b) (bL st D)) c λx=>?_]
     .exact nU f j n b _ H (λu d=>by
       rw[Jk]at d;obtain⟨r,E,e⟩:=d;obtain⟨y,o,z,P,I,G,J⟩:=split r E;rw[<-I, <-G, <-J,J2]at e
       grind) c
     .rw[Jk,show wB 4 on gr od li (bL st (cE b)) (bL st a) (bL st b) (bL st D)=(bL st D).map λr=>r.drop (r.length-A3 (bL st (cE b)))from rfl,mem_map];refine exists_congr λr=>and_congr_right λE=>?_;obtain⟨y,z,e,U,I,G,J⟩:=parts r E;rw[I, <-e, <-G, <-J,J2]
   .rw[if_neg bj,if_pos rfl,cj];congr 1
    .have c:=HC (b:=b) (on:=on) F;rw[<-uV (l:=xS 5 co on gr od li (bL st (cE a)) (bL st (cE b)) (bL st a) (bL st b) (bL st D)) c λx=>?_]
     .exact nU f j n a _ C (λu d=>by rw[uE]at d;exact KB (.inl rfl) L u d.1) c
     .rw[uE,show xS 5 co on gr od li (bL st (cE a)) (bL st (cE b)) (bL st a) (bL st b) (bL st D)=(bL st D).filter λx=>(bL st b).any λy=>agree on x y from rfl,mem_filter]
    .have c:=HC (b:=D) (on:=pP on) M;rw[<-uV (l:=wB 5 on gr od li (bL st (cE b)) (bL st a) (bL st b) (bL st D)) c λx=>?_]
     .exact nU f j n b _ H (λu d=>by rw[uE]at d;exact d.1) c
     .rw[uE,show wB 5 on gr od li (bL st (cE b)) (bL st a) (bL st b) (bL st D)=(bL st (cE b)).filter λy=>(bL st D).any λx=>agree on x y from rfl,mem_filter,any_eq_true,any_eq_true];exact and_congr_right λ_=>exists_congr λy=>and_congr_right λ_=>awJ
   .rw[if_neg bj,if_neg bj,if_pos rfl,cj];congr 1
    .have c:=Ds (b:=D) Q;rw[<-uV (l:=xS 6 co on gr od li (bL st (cE a)) (bL st (cE b)) (bL st a) (bL st b) (bL st D)) c λx=>?_]
     .exact nU f j n a _ C (λu d=>(nP.1 d).1) c
     .rw[nP,show xS 6 co on gr od li (bL st (cE a)) (bL st (cE b)) (bL st a) (bL st b) (bL st D)=(bL st (cE a)).filter λx=>Cg (bL st D) x==true from rfl,mem_filter,beq_iff_eq,uA]
    .have c:=Ds (b:=D) M;rw[<-uV (l:=wB 6 on gr od li (bL st (cE b)) (bL st a) (bL st b) (bL st D)) c λx=>?_]
     .exact nU f j n b _ H (λu d=>(nP.1 d).1) c
     .rw[nP,show wB 6 on gr od li (bL st (cE b)) (bL st a) (bL st b) (bL st D)=(bL st (cE b)).filter λx=>Cg (bL st D) x==true from rfl,mem_filter,beq_iff_eq,uA]
   .rw[if_neg bj,if_neg bj,if_neg bj,if_pos bj,cj];congr 1
    .rw[show xS 7 co on gr od li (bL st (cE a)) (bL st (cE b)) (bL st a) (bL st b) (bL st D)=bL st D from rfl,A4 F];exact nU f j n a D C (KB (.inr (.inl rfl)) L) F
    .have c:=Ds (b:=a) (Ds (b:=D) M);rw[<-uV (l:=wB 7 on gr od li (bL st (cE b)) (bL st a) (bL st b) (bL st D)) c λx=>?_]
     .exact nU f j n b _ H (λu d=>(nP.1 (nP.1 d).1).1) c
     .rw[nP,nP,show wB 7 on gr od li (bL st (cE b)) (bL st a) (bL st b) (bL st D)=((bL st (cE b)).filter λx=>Cg (bL st D) x==true).filter λx=>Cg (bL st a) x==true from rfl,mem_filter,mem_filter,beq_iff_eq,beq_iff_eq,uA,uA]
   .rw[if_neg bj,if_neg bj,if_neg bj,if_pos bj,cj];congr 1
    .rw[show xS 8 co on gr od li (bL st (cE a)) (bL st (cE b)) (bL st a) (bL st b) (bL st D)=bL st D from rfl,A4 F];exact nU f j n a D C (KB (.inr (.inr (.inl rfl))) L) F
    .have c:=Ds (b:=a) (Ds (b:=D) M);rw[<-uV (l:=wB 8 on gr od li (bL st (cE b)) (bL st a) (bL st b) (bL st D)) c λx=>?_]
     .exact nU f j n b _ H (λu d=>(nP.1 (nP.1 d).1).1) c
     .rw[nP,nP,show wB 8 on gr od li (bL st (cE b)) (bL st a) (bL st b) (bL st D)=((bL st (cE b)).filter λx=>Cg (bL st D) x==true).filter λx=>Cg (bL st a) x==true from rfl,mem_filter,mem_filter,beq_iff_eq,beq_iff_eq,uA,uA]
   .rw[if_neg bj,if_neg bj,if_neg bj,if_neg bj,if_pos rfl,cj];congr 1
    .rw[show xS 10 co on gr od li (bL st (cE a)) (bL st (cE b)) (bL st a) (bL st b) (bL st D)=bL st D from rfl,A4 F];exact nU f j n a D C (KB (.inr (.inr (.inr rfl))) L) F
    .have c:=WL (b:=b) (gr:=gr) (od:=od) (li:=li) (HC (b:=D) (on:=rR gr) M);rw[<-uV (l:=wB 10 on gr od li (bL st (cE b)) (bL st a) (bL st b) (bL st D)) c λx=>?_]
     .exact nU f j n b _ H (λu d=>by rw[Jl,uE]at d;exact d.1.1) c
     .rw[Jl,uE,show wB 10 on gr od li (bL st (cE b)) (bL st a) (bL st b) (bL st D)=qH gr od li ((bL st (cE b)).filter λx=>(bL st D).any λy=>jL gr x y) (bL st b)from rfl,QT,mem_filter];simp only[UR]
def UZ:Vc.Spec:=λd m h K=>∃sc e v s c q,d=[aS sc,Zm e,aQ v]/\iC h s sc/\Cu h e c/\cY h q v/\sJ q=true/\gX m/\((fG s [] q).2=0->Zd s q)/\lC s c=0/\(∀l∈c,l.length<=4)/\
 ∀f h',PH.le h h'->((fG s [] q).2=0->Leaves h' f ((nW (uL s) q (cE q)).map (bL c)))->K (.tup [cS f,cI (fG s [] q).2]) m h'
theorem agZ:cz 18 UZ:=MJ biJ λ_ m h K⟨sc,u,v,s,f,q,e,y,c,z,g,C,d,j,n,o⟩=>⟨sc,u,v,s,f,q,e,y,c,z,g,C,λh=>(d h).ok h,
 λh=>⟨(d h).valid,λ_=>let x:=(d h).run f j c.val n;⟨x.1,x.2.1⟩⟩,λh h' le=>o cG h' le (λe=>(h e).elim),λ_ h=>(h j).elim,λh _ D h' le E=>by
  have:=o D h' le (λ_=>by rw[<-((d h).run f j c.val n).2.2];exact E)
  grind⟩
def ccZ:Vc.Spec:=λc m h K=>c=[]/\gX m/\K (cB true) m h
def Rs(m:MH)(h:PH)(K:da):=
  bN h 2 (sN (tI LM 4) (tI Lq 4)) (λs h1=>bN h1 2 (sN (tI LM 4) (tI Lq 4)) (λs1 h2=>∃(n:Int),kQ 1=kQ n/\∃(E:Int),kQ 7=kQ E/\∃(F:Int),kQ 2=kQ F/\∃(G:Int),kQ 7=kQ G/\∃(H:Int),kQ 3=kQ H/\∃(I:Int),vI 7 I (bN h2 3 (sN (yP 4 n) (yP 4 E)) (λu h3=>bN h3 3 (sN (yP 4 F) (yP 4 G)) (λJ h4=>bN h4 3 (sN (yP 4 H) (yP 4 I)) (λs4 h5=>∃(L:Int),kQ 9=kQ L/\∃(M:Int),vI 7 M (bN h5 3 (sN (yP 4 L) (yP 4 M)) (λs5 h6=>bN h6 1 (bH u::bH J::vV s4) (λs6 h7=>bN h7 1 (bH u::vV s5) (λs7 h8=>bN h8 21 (sN (yQ 1 (uN rU (uM rU j5))) (PJ (eH 1) (eH 1))) (λs8
 h9=>bN h9 5 (sN (aU (Value.string (PB 97 (zC 115))) (gP s) (aU (eH 1) rU j5)) (aU (Value.string (ByteArray.mk (Array.mk (dX 97 (dX 114 (dX 99 (dX 104 (dX 105 (dX 118 (dX 101 (dX 100 []))))))))))) (gP s1) (aU (eH 1) rU j5))) (λO a=>bN a 1 (bH s6::vV s7) (λa1 a2=>bN a2 1 (lI (bM 1)) (λP a4=>bN a4 21 (lI (yQ 7 (uN rU (uM rU (bH s8))))) (λQ z=>∃(R:cK),Cn (λS v=>Vv (λd b=>∃(q:Query),aA (qK (lE dD (gP O))::aX (rO a1) (qK (yQ 9 (uN rU (aU rU (gP P) (aU rU (eH 1) (bH Q))))))=cL R::aX (rO S) (dG v)) (iC z d R) (aA (Cu z S b) (cY z q v) (aA (AY (sJ q)) (gX m) (aA (EW d q=0->Zd d q) (lC d b=0) ((∀(l:List (List
 VV)),List.Mem l b->E8 l 4)/\fB (λe f=>bY z f (EW d q=0->Leaves f e (List.map (bL b) (nW (uL d) q (cE q)))) (∃(T:cK),Jf (λU V=>∃(C:Query),aA (aX (qK (lE dD (gP O))) (qK (yQ 9 (uN rU (aU rU (gP P) (aU rU (eH 1) (bH Q))))))=aX (cL T) (dG U)) (iC f V T) (aA (cY f C U) (EW V C=0) (yK f C (λW g=>W.op=opE C->dO (EW d q) 0 (dO W.op 1 (dO (aG e) 2 (bF (λX o=>aH (aM e.a X o) ((0:Int)<=0) (0<aG e) (∃(y:Sl),aL m g X (o+0) (bH y)/\bN g 1 (bH u::vV J) (λb7 j=>gL (λY t=>E7 (λc Z=>aH (iH y b7=iH Y t) (Rows j Y c) (Rows j t Z) (∀(r:Bool),iB (gU r (c=Z)) r (bF (λc2 o1=>aH (aM e.a c2 o1) ((0:Int)<=
 1) (1<aG e) (∃(y1:Sl),aL m j c2 (o1+1) (bH y1)/\bN j 1 (vV u) (λc3 D=>gL (λc5 t1=>E7 (λc6 c7=>aH (iH y1 c3=iH c5 t1) (Rows D c5 c6) (Rows D t1 c7) (∀(r1:Bool),gU r1 (c6=c7)->K (yF r1) m D))))))) (K bB m j)))))))) (K bB m g)) (K bB m g)) (K bB m g))))))))))))))))))))))))))))
def nV(n:Int):VV:=⟨4,n,⟨#[]⟩⟩
def Ta:List rG:=[⟨⟨⟨[105,100]⟩⟩,4⟩,⟨⟨⟨[112,114,111,106,101,99,116]⟩⟩,4⟩]
def nT1:Bi:=⟨⟨⟨[116,97,115,107,115]⟩⟩,Ta,1,[],[]⟩
def nT2:Bi:=⟨⟨⟨[97,114,99,104,105,118,101,100]⟩⟩,Ta,1,[],[]⟩
def nS:jC:=⟨0,[nT1,nT2]⟩
def nR1:=[[nV 1,nV 7],[nV 2,nV 7],[nV 3,nV 7]]
def nR2:=[[nV 1,nV 7],[nV 9,nV 7]]
def ZK:=[nR1,nR2]
def AX(t:Int):Query:=.mk 1 t fN [] [] [] [] 0 []
def nM:Query:=.mk 7 0 fN [] [] [] [] 0 [AX 0,AX 1]
def nQ:Query:=.mk 9 0 fN [] [] [1] [] 1 [nM]
theorem byJ:eX nS=0:=bsJ bj (λt c=>by simp[nS]at c;rcases c with rfl|rfl<;>exact⟨bj,rfl,rfl⟩) bj bj (by
 refine BX ⟨⟨?_,?_,?_,?_,BX ⟨⟨?_,?_,?_⟩,⟨?_,?_,?_⟩,trivial⟩⟩,⟨?_,?_,?_,?_,BX ⟨⟨?_,?_,?_⟩,⟨?_,?_,?_⟩,trivial⟩⟩,trivial⟩
 all_goals first|rfl|(simp[nT1,nT2,Ta];done)|decide)
theorem Ow{t}(c:0<=t)(d:t<2):aK nS [] (AX t)=([4,4],0):=by
 have e:jR nS t=[4,4]:=by
  have:t=0\/t=1:=by omega
  rcases this with rfl|rfl<;>rfl
 have:=Q0 (s:=nS) (ps:=[]) (t:=t) c (by show t<2;exact d) bo;rw[e]at this;exact this
theorem bzX:aK nS [] nM=([4,4],0):=by
 unfold nM;rw[a2Z bj (Ow (t:=0) bj bj) (Ow (t:=1) bj bj)];unfold eV;rw[if_neg (by simp[arity,dC])];dsimp only;rw[if_neg bj,if_neg bj,if_neg bj,if_neg bj,if_neg bj,if_neg bj,if_neg bj,if_pos rfl,L1 bj]
theorem QQ:aK nS [] nQ=([4,4],0):=by
 unfold nQ;rw[M9 bj bzX];unfold eV;rw[if_neg (by simp[arity,dC])];dsimp only;rw[if_neg bj,if_neg bj,if_neg bj,if_neg bj,if_neg bj,if_pos rfl,if_pos ⟨BX ⟨⟨bj,bi⟩,trivial⟩,BX trivial,bj,bj,bj⟩,L1 bj]
theorem cZZ:fG nS [] nQ=([4,4],0):=by
 unfold fG;rw[if_pos byJ,if_pos (by rfl),if_pos (by rfl),QQ]
theorem byZ t:QW (AX t):=KO t
theorem cZX:QW nQ:=MU.2 ⟨rH,λa c=>by
 simp at c;subst c;exact MU.2 ⟨rH,λb d=>by simp at d;rcases d with rfl|rfl<;>exact byZ _⟩⟩
theorem cgZ:dT nS nQ:=⟨by rw[QQ],VG (s:=nS) (ps:=[]) bi nQ (by rw[QQ]) cZX,bj⟩
theorem cgX:Zd nS nQ:=S8 (B:=8) byJ cgZ bj bj bj
theorem cRQ:lC nS ZK=0:=by
 unfold lC;rw[if_neg (by simp[byJ]),if_neg bj,if_neg bj,if_pos];have j:∀n,Dl 1 4 0 (nV n)=true/\Dl 1 4 1 (nV n)=true:=λn=>by simp[Dl,nV,brX]
 have y:∀t,t=nT1\/t=nT2->∀a b,Hs t [nV a,nV b]=true:=λt e a b=>H9.2 ⟨by rcases e with rfl|rfl<;>rfl,λi o=>by
  have d:t.key=1:=by rcases e with rfl|rfl<;>rfl
  have c:t.columns=Ta:=by rcases e with rfl|rfl<;>rfl
  rw[d,c]
  match i,o with
  |0,_=>exact(j _).1
  |1,_=>exact(j _).2
  |i+2,o=>grind⟩
 intro i t l e f
 match i,e,f with
 |0,e,f=>
  simp[nS]at e;simp[ZK]at f;subst e f;refine⟨λr g=>?_,λi r u d c=>?_⟩
  .simp[nR1]at g
   grind
  .match i,d,c with
   |0,d,c=>simp[nR1]at d c;subst d c;decide
   |1,d,c=>simp[nR1]at d c;subst d c;decide
   |i+2,d,c=>simp[nR1]at c
 |1,e,f=>
  simp[nS]at e;simp[ZK]at f;subst e f;refine⟨λr g=>?_,λi r u d c=>?_⟩
  .simp[nR2]at g
   grind
  .match i,d,c with
   |0,d,c=>simp[nR2]at d c;subst d c;decide
   |i+1,d,c=>simp[nR2]at c
 |i+2,e,f=>simp[nS]at e
theorem cRJ wd D:nW wd nQ D=[Cy (lD (AX 0) D (rR [1])) nM [1] [] 1,jE (jE (AX 1) (Cy (lD (AX 0) D (rR [1])) nM [1] [] 1)) (AX 0)]:=by
 have c:cE nM=AX 0:=by rfl
 have d:cE (AX 1)=AX 1:=by rfl
 have s:∀t E,nW wd (AX t) E=[E]:=λt E=>by unfold AX;rw[nW.eq_def];grind
 have m:∀E,nW wd nM E=nW wd (AX 0) E++nW wd (AX 1) (jE (jE (cE (AX 1)) E) (AX 0)):=λE=>by
  unfold nM;rw[nW.eq_def];grind
 unfold nQ;rw[nW.eq_def]
 grind
theorem bzQ:cE nQ=AX 0:=by rfl
theorem cRX:(nW (uL nS) nQ (cE nQ)).map (bL ZK)=[[[nV 1,nV 7],[nV 2,nV 7]],[[nV 1,nV 7]]]:=by
 rw[cRJ,bzQ];rfl
theorem cRZ:opE nQ=1:=by rw[opE,bzQ];rfl
theorem O7{s l}(r:cO h s 3 (l.map VV.enc))(d:l.length<=1000):bR h s l:=⟨⟨l,r,rfl,λi x c=>⟨x,c,rfl⟩⟩,aD⟩
theorem O9{h s}{us:dg}{l}(r:cO h s 1 (us.map eS))(c:us.length=l.length)(d:∀(i:Nat)(x:dj),l[i]? =some x->∃u,us[i]? =some u/\bR h u x)(e:l.length<=1000):Rows h s l:=⟨⟨us,r,c.symm,d⟩,aD⟩
theorem bjQ:cz 17 ccZ:=by
 refine Hr func17 ?_;rintro a4 m h K ⟨rfl,ht,hK⟩;refine⟨cZ [(56,c3J),(18,UZ),(29,aUZ),(16,b3Q)] [] [] [] false,rfl,aE aB (aE agZ (aE bfJ (aE TV aI))),Rs m h (mK h K),bh,?_⟩;show Rs m h (mK h K);dsimp only[Rs,push_cast];intro c1 h1 I r1 c2 h2 J r2;refine⟨1,rfl,7,rfl,2,rfl,7,rfl,3,rfl,7,rfl,λz h3 L r3 M h4 O r4 rc h5 P r5=>⟨9,rfl,7,rfl,?_⟩⟩;intro rd h6 Q r6 ta h7 R r7 tb h8 S r8 qs h9 T r9 tabs ha U xa C hb V xb gr hc W xc qm c D xd;have lc:=W.trans D;have lb:=V.trans lc;have la:=U.trans lb;have l9:=T.trans la;have l8:=S.trans l9;have l7:=R.trans l8;have l6:=Q.trans l7;have l5:=P.trans l6;have l4:=O.trans l5;have l3:=L.trans l4;have l2:=J.trans l3;have va:bR c z [nV 1,nV 7]:=O7 (r3.mono l4) bi;have vb:bR c M [nV 2,nV 7]:=O7 (r4.mono l5) bi;have vc:bR c rc [nV 3,nV 7]:=O7 (r5.mono l6) bi;have vd:bR c rd [nV 9,nV 7]:=O7 (r6.mono l7) bi
 have rq:cY c nQ ⟨9,0,iO,cG,cG,gr,cG,1,qm⟩:=mL.rep ⟨rfl,rfl,Fj c,oX c,wD c,⟨xc.mono D,bi⟩,wA c,rfl,Fp (v:=⟨7,0,iO,cG,cG,cG,cG,0,qs⟩) xd (mL.rep ⟨rfl,rfl,Fj c,oX c,wD c,oX c,wA c,rfl,⟨⟨[⟨1,0,iO,cG,cG,cG,cG,0,cG⟩,⟨1,1,iO,cG,cG,cG,cG,0,cG⟩],r9.mono la,rfl,λi x e=>by
  match i,e with
  |0,e=>simp at e;subst e;exact⟨_,rfl,Fo c 0⟩
  |1,e=>simp at e;subst e;exact⟨_,rfl,Fo c 1⟩
  |i+2,e=>simp at e⟩,bi⟩⟩)⟩
 have rS:iC c nS ⟨0,tabs⟩:=⟨rfl,⟨⟨[⟨nT1.name,c1,1,cG,cG⟩,⟨nT2.name,c2,1,cG,cG⟩],xa.mono lb,rfl,λi x e=>by
  match i,e with
  |0,e=>simp[nS]at e;subst e;exact⟨_,rfl,⟨rfl,JF (l:=Ta) (r1.mono l2) bj,rfl,bI.nil _ _ _ _,bI.nil _ _ _ _⟩⟩
  |1,e=>simp[nS]at e;subst e;exact⟨_,rfl,⟨rfl,JF (l:=Ta) (r2.mono l3) bj,rfl,bI.nil _ _ _ _,bI.nil _ _ _ _⟩⟩
  |i+2,e=>simp[nS]at e⟩,by simp[nS]⟩⟩
 have t1:Rows c ta nR1:=O9 (us:=[z,M,rc]) (r7.mono l8) rfl (λi x e=>by
  match i,e with
  |0,e=>simp[nR1]at e;grind
  |1,e=>simp[nR1]at e;grind
  |2,e=>simp[nR1]at e;grind
  |i+3,e=>simp[nR1]at e) bj
 have t2:Rows c tb nR2:=O9 (us:=[z,rd]) (r8.mono l9) rfl (λi x e=>by
  match i,e with
  |0,e=>simp[nR2]at e;grind
  |1,e=>simp[nR2]at e;grind
  |i+2,e=>simp[nR2]at e) bj
 have X:Cu c C ZK:=⟨⟨⟨[ta,tb],xb.mono lc,rfl,λi x e=>by
  match i,e with
  |0,e=>simp[ZK]at e;grind
  |1,e=>simp[ZK]at e;grind
  |i+2,e=>simp[ZK]at e⟩,by simp[ZK]⟩,by simp[ZK],λl f r E v H=>by
   have:∃n,v=nV n:=by
    simp[ZK]at f;rcases f with rfl|rfl<;>simp[nR1,nR2]at E
    .grind
    grind
   have hn:xB v.kind/\xB v.int:=by
    simp[ZK]at f;rcases f with rfl|rfl<;>simp[nR1,nR2]at E
    .rcases E with rfl|rfl|rfl<;>simp at H<;>rcases H with rfl|rfl<;>exact⟨by constructor<;>decide,by constructor<;>decide⟩
    .rcases E with rfl|rfl<;>simp at H<;>rcases H with rfl|rfl<;>exact⟨by constructor<;>decide,by constructor<;>decide⟩
   exact hn⟩
 have F:(fG nS [] nQ).2=0:=by rw[cZZ]
 refine⟨⟨0,tabs⟩,C,⟨9,0,iO,cG,cG,gr,cG,1,qm⟩,nS,ZK,nQ,rfl,rS,X,rq,rfl,ht,λ_=>cgX,cRQ,λl f=>by
  have f:l∈ZK:=f;simp[ZK]at f;rcases f with rfl|rfl<;>decide,λs' he o f=>⟨⟨0,tabs⟩,⟨9,0,iO,cG,cG,gr,cG,1,qm⟩,nS,nQ,rfl,rS.mono o,rq.mono o,F,λv' hf g _ ho=>?_⟩⟩
 have f:=f F;rw[cRX]at f;have f:=bI.mono f g λ_ _ x=>bI.mono x g λ_ _ y=>bR.mono y g;have G:=bI.slen f;have G:s'.len=2:=G;obtain⟨b1,o1,u1,Y,Z,a'⟩:=bI.at f (i:=0) rfl;obtain⟨b2,o2,u2,a0,a1,a2⟩:=bI.at f (i:=1) rfl;have j:=o.trans g
 refine aC (λ_=>aC (λ_=>aC (λ_=>⟨b1,o1,Y,aD,aD,u1,.imm (by simpa[eS]using Z),λs1 hg d rg=>⟨u1,s1,[[nV 1,nV 7],[nV 2,nV 7]],[[nV 1,nV 7],[nV 2,nV 7]],rfl,bI.mono a' d λ_ _ y=>bR.mono y d,O9 (us:=[z,M]) rg rfl (λi x e=>by
  match i,e with
  |0,e=>simp at e;subst e;exact⟨_,rfl,va.mono (j.trans d)⟩
  |1,e=>simp at e;subst e;exact⟨_,rfl,vb.mono (j.trans d)⟩
  |i+2,e=>simp at e) bj,λr E=>aC (λ_=>⟨b2,o2,a0,aD,aD,u2,.imm (by simpa[eS]using a1.mono d),λs2 hh u rh=>⟨u2,s2,[[nV 1,nV 7]],[[nV 1,nV 7]],rfl,bI.mono a2 (d.trans u) λ_ _ y=>bR.mono y (d.trans u),O9 (us:=[z]) rh rfl (λi x e=>by
   match i,e with
   |0,e=>simp at e;subst e;exact⟨_,rfl,va.mono ((j.trans d).trans u)⟩
   |i+1,e=>simp at e) bj,λr2 a3=>?_⟩⟩) (λe=>?_)⟩⟩) (λe=>?_)) (λe=>?_)) (λe=>?_)
 .rw[a3.2 rfl];exact .out (Sub.refl m) (((((I.trans l2).trans o).trans g).trans d).trans u) hK
 .grind
 .grind
 .rw[ho,cRZ]at e;cases e
 .grind
theorem ZO{st q}{j:Nat}{t}(h:(eY q)[j]? =some t):(sF st q)[j]? =some (st.getD t.toNat []):=by
 rw[sF,getElem?_map,h];rfl
theorem Mb{st}(e:oZ s)(h:Cv s st):lC s st=0:=by
 obtain⟨c,f⟩:=Qu e;have j:=JX c;have g:=h.len
 have d:∀l:List de,(∀x∈l,x.length<=4)->(l.map λx=>(x.length:Int)).sum<=4*(l.length:Int):=λl=>by
  induction l with
  |nil=>intro _;simp
  |cons a l n=>
   grind
 have:=d st h.few;unfold lC;rw[if_neg (by simp[c]),if_neg aD,if_neg (by simp[g]),if_pos h.ok]
theorem gX.new(c:gX m)(f:m cb=none)(o:bT m m' cb):gX m':=by
 obtain⟨T,d,e⟩:=c;refine⟨T,d,?_⟩;rw[o.other 1 (λg=>bo)];exact e
def aQX(N:Nat):Vc.Spec:=λc m h K=>∃v q,c=[aQ v]/\cY h q v/\SizeOf.sizeOf q<N/\kF q<=900000/\∀d h',PH.le h h'->Ints h' d (eY q)->K (cS d) m h'
def azJ:Vc.Spec:=λc m h K=>∃v q,c=[aQ v]/\cY h q v/\kF q<=900000/\∀d h',PH.le h h'->Ints h' d (eY q)->K (cS d) m h'
def aSJ:Vc.Spec:=λc m h K=>∃e d v q,c=[Zm e,aQ v]/\Cu h e d/\cY h q v/\kF q<=900000/\(∀t∈eY q,0<=t/\t<d.length)/\∀f h',PH.le h h'->Leaves h' f (sF d q)->K (cS f) m h'
noncomputable def cBQ(N:Nat)(v:QV)(m:MH):=
 cZ [(12,aQX N)] [(5,{A:=Nat×db×PH,st:=λ⟨i,l,h⟩=>bS 29 30 [(1,.at (.ptr 1 0)),(3,.at (.lst 12)),(15,iv v.args.len),(16,iv i)] [(1,.cells 41 (v.enc.map .val)),(12,.lst 3 1 (l.map eI))] m h})] [(4,{A:=db×PH,st:=λ⟨l,h⟩=>bS 29 30 [(1,.at (.ptr 1 0)),(3,.at (.lst 12))] [(1,.cells 41 (v.enc.map .val)),(12,.lst 3 1 (l.map eI))] m h})] [] false
noncomputable def ctJ(sl:Sl)(m:MH):=
 cZ [(12,azJ)] [(3,{A:=Nat×Sl×dg×PH,st:=λ⟨i,s,c,h⟩=>bS 25 27 [(2,.at (.ptr 2 0)),(5,.at (.lst 22)),(9,sv s),(10,iv s.len),(11,iv i)] [(2,.cells 52 [.val (.slice sl.a sl.len sl.cap)]),(22,.lst 58 1 (c.map eS))] m h})] [] [] false
abbrev HP a:=kF a<=900000
attribute [push_cast] HP
def Yy N v m h K:=
  ∃(I:db×PH->Prop),dO v.op 1 (aA (iK 8) (iK 1) (∃(x:db×PH),aA (I x) eJ (aA (eL 12) (cV v) (aH (qR (lI (bM v.table)) x.1) (m=m) (h=x.2) True)))) (∃(x:db×PH),aA (I x) eJ (aA (eL 12) (cV v) (aH (tN x.1) (m=m) (h=x.2) True)))/\∀(x:db×PH),I x->∃(I1:Nat×db×PH->Prop)(g:Nat×db×PH->Nat),(∃(c:Nat×db×PH),aA (I1 c) eJ (aA (eL 12) (qY v) (aA (bA c.1) (cV v) (aA (qR (fS x.1) c.2.1) (m=m) (bQ x.2 c.2.2)))))/\∀(c:Nat×db×PH),yS (I1 c) c.1 v (bF (λb o=>aH (aM (gJ v) b o) (0<=(↑c.1:Int)) ((↑c.1:Int)<aG v.args) (∃(y:QV),aL m c.2.2 b (bK o c.1 21) y.enc/\uR (λj q=>aA (iQ y=iQ j) (cY c.2.2 q j) (aA (rN q N)
 (HP q) (fB (λs f=>bY c.2.2 f (Ints f s (eY q)) (∃(d:List dc),aA (eU 1 d) (cO f (Sl.mk s.a s.len s.cap) 1 d) (aA (tJ (fS c.2.1) d 8) (oL (fS c.2.1) d) (∃(e:Nat×db×PH),aA (I1 e) (g e<g c) (aA eJ (eL 12) (aA (qY v) (fU (bC c.1 1)=bP e.1) (aA (cV v) (qR (fS c.2.1++d) e.2.1) (bO (m=m) f e.2.2)))))))))))))) (Gj c.2.2 c.2.1 K m)
def X8(sl:Sl)(v:QV)(m:MH)(h:PH)(K:da):=
  uR (λe q=>aH (iQ v=iQ e) (cY h q e) (HP q) (fB (λs d=>bY h d (Ints d s (eY q)) (∃(I:Nat×Sl×dg×PH->Prop)(f:Nat×Sl×dg×PH->Nat),(∃(x:Nat×Sl×dg×PH),aA (I x) eD (aA (eL 22) (aY s (mE x)) (aA (bZ s (mE x)) (bA x.1) (aA (oM sl) (oH 58 1 (Bt (pX x))) (bO (m=m) d (qX x))))))/\∀(x:Nat×Sl×dg×PH),I x->aZ (↑x.1:Int) (aG (mE x)) (bF (λb o=>aH (aM (mE x).a b o) (0<=(↑x.1:Int)) ((↑x.1:Int)<aG (mE x)) (∃(y:Int),aL m (qX x) b (bK o x.1 1) (bM y)/\bF (λg j=>aH (aM sl.a g j) (0<=y) (y<aG sl) (∃(n:Sl),aH (aL m (qX x) g (fF j y 1) (bH n)) (uP (pX x) 1) (Cj (pX x)) (∃(c:Nat×Sl×dg×PH),aA (I c)
 (f c<f x) (aA eD (eL 22) (aA (aY (mE x) (mE c)) (bZ (mE x) (mE c)) (aA (fU (bC x.1 1)=bP c.1) (oM sl) (aH (bW 58 1 (vU (pX x) (vV n))=Bt (pX c)) (m=m) (qX x=qX c) True)))))))))) (bN (qX x) 1 (List.map eS (pX x)) (λu z=>K (cM u) m z))))))
theorem KI{q:Query}:∀{l:dl},eN (l++[q])=eN l++eY q
 |[]=>by simp[eN]
 |p::l=>by rw[cons_append,eN,KI,eN,append_assoc]
theorem aMJ:∀N,cz 12 (aQX N)
 |0=>by
  refine eG (fn:=Tryz.f12) (c:=dQ Tryz.f12) func12 rfl bj ?_;rintro D m h K ⟨v,q,rfl,U,Z,_⟩;omega
 |N+1=>by
  refine gW func12 ?_;rintro D m h K ⟨v,q,rfl,U,Z,hc,E⟩;refine⟨cBQ N v m,rfl,aE (aMJ N) aI,Yy N v m h K,bh,?_⟩;dsimp only[Yy,push_cast];have g:=Dt q;obtain⟨op,ta,w,co,on,gr,od,li,args⟩:=q;have F:=U.parts;have d:=F.args_;have G:=bI.slen d;have V:=bI.len d;have W:v.op=op:=F.op_;have C:v.table=ta:=F.table_;rw[eY]at E g;rw[kF]at hc g;refine⟨λz=>z=(if op=1 then[ta]else[],h),aC (λe=>?_) (λe=>?_),?_⟩
  .have e:op=1:=bo
   exact⟨aD,aD,([ta],h),by rw[if_pos e],by rw[C];exact MT⟩
  .grind
  rintro _ rfl;dsimp only;generalize (if op=1 then[ta]else[])=H at E g;refine⟨λz=>z.1<=args.length/\z.2.1=H++eN (args.take z.1)/\PH.le h z.2.2,λz=>args.length-z.1,⟨(0,H,h),⟨bi,by simp[eN],.refl _⟩,MT⟩,?_⟩;rintro⟨i,l,hx⟩ ⟨hi,X,le⟩;dsimp only at hi X le⊢
  subst X
  have f:∀j,(eN (args.take j)).length<=(eN args).length:=λj=>by
   have h5:∀(a b:dl),(eN a).length<=(eN (a++b)).length:=λa b=>by
    induction a with
    |nil=>simp[eN]
    |cons p a ih=>rw[cons_append,eN,eN,cg,cg];omega
   have:=h5 (args.take j) (args.drop j)
   rwa [take_append_drop]at this
  have Y:=f i;rw[cg]at g;refine aF (λI=>?_) (λa'=>?_)
  .obtain⟨p,J⟩:=dW G I;obtain⟨b,o,u,ea,L,M⟩:=bI.at (FJ.mono d le) J;have n:=ce J
   have O:SizeOf.sizeOf p<N:=by
    have:=sizeOf_lt_of_mem n
    grind
   have a0:=V0 n;have P:eN (args.take (i+1))=eN (args.take i)++eY p:=by rw[cq,J,Option.toList_some,KI]
   have y:(eN (args.take (i+1))).length<=(eN args).length:=f _;rw[P,cg]at y;refine⟨b,o,ea,aD,aD,u,.imm L,u,p,rfl,M,O,aD,λs h2 Q R=>⟨(eY p).map eI,qM _,R.row,?_,?_,(i+1,H++eN (args.take i)++eY p,h2),⟨aD,bo,le.trans Q⟩,aD,?_⟩⟩
   .grind
   .grind
   .rw[fR aD]
    grind
  .rw[ci aD]
   exactλs h' S T=>E s h' (le.trans S) ⟨T,bo⟩
theorem Un:cz 12 azJ:=iE aMJ λ_ _ _ _⟨v,q,e,c,d,f⟩=>⟨SizeOf.sizeOf q+1,v,q,e,c,aD,d,f⟩
structure sW(h:PH)(us:dg)(ls:List de):Prop where
 len:us.length=ls.length
 at_:∀(j:Nat) l,ls[j]? =some l->∃u,us[j]? =some u/\Rows h u l
theorem sW.mono{us ls}(x:sW h us ls)(le:PH.le h h'):sW h' us ls:=⟨x.len,λj l d=>(x.at_ j l d).imp λ_ c=>⟨c.1,bI.mono c.2 le λr t e=>bR.mono e le⟩⟩
theorem sW.nil h:sW h [] []:=⟨rfl,λj x c=>by simp at c⟩
theorem sW.snoc{us ls}(x:sW h us ls){u l}(d:Rows h u l):sW h (us++[u]) (ls++[l]):=by
 refine⟨by simp[x.len],λj r c=>?_⟩;by_cases e:j<ls.length
 .rw[getElem?_append_left e]at c;obtain⟨f,g,n⟩:=x.at_ j r c
  grind
 .rw[getElem?_append_right aD]at c;have:j-ls.length=0:=bo
  rw[this]at c;simp at c;subst c;exact⟨u,by rw[getElem?_append_right (by rw[x.len];omega),x.len,this];rfl,d⟩
theorem sW.leaves{us ls s}(x:sW h us ls)(c:cO h s 1 (us.map eS))(e:ls.length<=8000000):Leaves h s ls:=⟨⟨us,c,x.len.symm,λi l d=>x.at_ i l d⟩,aD⟩
theorem bfZ:cz 30 aSJ:=by
 refine gW func30 ?_;rintro X m h K ⟨Q,d,v,q,rfl,D,Y,Z,e,R⟩;refine⟨ctJ Q m,rfl,aE Un aI,X8 Q v m h K,bh,?_⟩;dsimp only[X8,push_cast];have E:=Dt q;refine⟨v,q,rfl,Y,Z,λS C f F=>?_⟩;have g:=F.slen;have c:=D.mono f;have T:=bI.slen c.lea;have j:sF d q=(eY q).map λt=>d.getD t.toNat []:=rfl;generalize sF d q=L at j R;generalize eY q=ts at F g E e j;have a':L.length=ts.length:=bo
 refine⟨λz=>z.1<=ts.length/\z.2.1=S/\z.2.2.2=C/\sW C z.2.2.1 (L.take z.1),λz=>ts.length-z.1,⟨(0,S,[],C),⟨bi,rfl,rfl,bx (sW.nil C)⟩,MT⟩,?_⟩;rintro⟨i,s2,us,h3⟩ ⟨G,U,V,n⟩;dsimp only at G U V n⊢
 subst U V;have H:=n.len;rw[length_take]at H;refine aF (λI=>?_) (λa0=>?_)
 .obtain⟨t,W⟩:=dW g I;obtain⟨b,o,ea,rd⟩:=F.at' W;have ht:=e t (ce W);have a1:t.toNat<d.length:=by omega
  have e6:d[t.toNat]? =some (d.getD t.toNat []):=bo
  obtain⟨b2,o2,u,J,M,hr⟩:=bI.at c.lea e6;have O:L[i]? =some (d.getD t.toNat []):=bo
  refine⟨b,o,ea,aD,aD,t,.imm rd,b2,o2,J,ht.1,aD,u,.imm M,bo,bo,(i+1,s2,us++[u],h3),⟨aD,rfl,rfl,by rw[cq,O];exact n.snoc hr⟩,aD,?_⟩;rw[fR aD,cj];exact MT
 .rw[ci aD]at n
  exactλs3 h4 y P=>R s3 h4 (f.trans y) ((n.mono y).leaves P aD)
def c8J:Vc.Spec:=λc m h K=>∃s d,c=[cS s]/\cO h s 1 (bJ d)/\s.len<=s.cap/\gX m/\∀m' h',Sub m m'->K (cB true) m' h'
def cGJ:Vc.Spec:=λc m h K=>∃s l,c=[cS s]/\Rows h s l/\K (cI (A3 l)) m h
def Wq:Vc.Spec:=λd m h K=>∃s t r c,d=[cS s,cS t]/\bR h s r/\Ints h t c/\fE r.length c/\∀e h',PH.le h h'->bR h' e (pick r c)->K (cS e) m h'
def PY:Vc.Spec:=λd m h K=>∃o s t on a b c,d=[cS o,cS s,cS t,cB c]/\gS h o on/\bR h s a/\bR h t b/\fE a.length (fY on)/\fE b.length (fK on)/\K (cB (agree on a b&&(!c||kO (fY on) a))) m h
def Sj:Vc.Spec:=λc m h K=>∃g s t gr a b,c=[cS g,cS s,cS t]/\Ints h g gr/\bR h s a/\bR h t b/\fE a.length gr/\fE b.length gr/\K (cB (jL gr a b)) m h
def azX:Vc.Spec:=λc m h K=>∃o s t on a b,c=[cS o,cS s,cS t]/\gS h o on/\Rows h s a/\Rows h t b/\(∀x∈a,fE x.length (fY on))/\(∀y∈b,fE y.length (fK on))/\a.length<=8000000/\b.length<=8000000/\∀d h',PH.le h h'->Rows h' d (a.filter λx=>b.any λy=>agree on x y)->K (cS d) m h'
def aUX:Vc.Spec:=λc m h K=>∃g s t gr a b,c=[cS g,cS s,cS t]/\Ints h g gr/\Rows h s a/\Rows h t b/\(∀x∈a,fE x.length gr)/\(∀y∈b,fE y.length gr)/\a.length<=8000000/\b.length<=8000000/\∀d h',PH.le h h'->Rows h' d (a.filter λx=>b.any λy=>jL gr x y)->K (cS d) m h'
def R9:Vc.Spec:=λc m h K=>∃v s t gr od a b,c=[aQ v,cS s,cS t]/\Ints h v.group gr/\jW h v.order od/\Rows h s a/\Rows h t b/\(∀x∈a,fE x.length gr)/\(∀y∈b,fE y.length gr)/\a.length<=8000000/\b.length<=8000000/\∀d h',PH.le h h'->Rows h' d (qH gr od v.limit a b)->K (cS d) m h'
def UW:Vc.Spec:=λd m h K=>∃s t l c,d=[cS s,cS t]/\Rows h s l/\Ints h t c/\(∀r∈l,fE r.length c)/\c.length<=1000/\l.length<=8000000/\∀e h',PH.le h h'->Rows h' e (sK (l.map λr=>pick r c))->K (cS e) m h'
noncomputable def bUJ:=cZ [] [] [] [] false
noncomputable def bVQ s t m h:=cZ [] [(3,{A:=Nat×dj,st:=λ⟨i,r⟩=>bS 24 26 [(0,sv s),(5,.at (.lst 8)),(9,sv t),(10,iv t.len),(11,iv i)] [(8,.lst 30 3 (r.map VV.enc))] m h})] [] [] false
noncomputable def bUX o s t b m h:=cZ [(166,OR)] [(2,{A:=Nat,st:=λi=>bS 41 45 [(1,sv s),(2,sv t),(3,bv b),(11,sv o),(12,iv o.len),(13,iv i)] [] m h})] [] [] false
noncomputable def bMX g s t m h:=
 cZ [] [(2,{A:=Nat,st:=λi=>bS 25 28 [(1,sv s),(2,sv t),(9,sv g),(10,iv g.len),(11,iv i)] [] m h})] [] [] false
noncomputable def bMQ o s t m h:=
 cZ [(119,OU),(55,FL)] [(2,{A:=Nat,st:=λi=>bS 55 58 [(1,sv s),(2,sv t),(10,sv o),(11,iv o.len),(12,iv i)] [] m h})] [] [] false
noncomputable def bUZ o s t m h:=cZ [(114,PY)] [(3,{A:=Nat×dg,st:=λ⟨i,c⟩=>bS 35 38 [(0,sv o),(2,sv t),(7,.at (.lst 31)),(12,sv s),(13,iv s.len),(14,iv i)] [(31,.lst 65 1 (c.map eS))] m h}),
 (6,{A:=Nat×Sl×Nat×dg,st:=λ⟨j,x,i,c⟩=>bS 35 38 [(0,sv o),(2,sv t),(7,.at (.lst 31)),(9,sv x),(12,sv s),(13,iv s.len),(14,iv i),(18,sv t),(19,iv t.len),(20,iv j)] [(31,.lst 65 1 (c.map eS))] m h})] [] [] false
noncomputable def bTJ o s t m h:=cZ [(167,Sj)] [(3,{A:=Nat×dg,st:=λ⟨i,c⟩=>bS 35 38 [(0,sv o),(2,sv t),(7,.at (.lst 31)),(12,sv s),(13,iv s.len),(14,iv i)] [(31,.lst 65 1 (c.map eS))] m h}),
 (6,{A:=Nat×Sl×Nat×dg,st:=λ⟨j,x,i,c⟩=>bS 35 38 [(0,sv o),(2,sv t),(7,.at (.lst 31)),(9,sv x),(12,sv s),(13,iv s.len),(14,iv i),(18,sv t),(19,iv t.len),(20,iv j)] [(31,.lst 65 1 (c.map eS))] m h})] [] [] false
noncomputable def bUQ(v:QV)(s t:Sl)(m:MH)(h:PH):=cZ [(167,Sj),(168,Ir)] [(3,{A:=Nat×dg,st:=λ⟨i,c⟩=>bS 57 60 [(2,sv t),(3,.at (.ptr 3 0)),(7,.at (.lst 54)),(13,sv s),(14,iv s.len),(15,iv i)] [(3,.cells 41 (v.enc.map .val)),(54,.lst 65 1 (c.map eS))] m h}),
 (7,{A:=Nat×Nat×Sl×Nat×dg,st:=λ⟨j,n,x,i,c⟩=>bS 57 60 [(2,sv t),(3,.at (.ptr 3 0)),(7,.at (.lst 54)),(9,sv x),(10,iv n),(13,sv s),(14,iv s.len),(15,iv i),(19,sv t),(20,iv t.len),(21,iv j)] [(3,.cells 41 (v.enc.map .val)),(54,.lst 65 1 (c.map eS))] m h})] [] [] false
noncomputable def bIZ s t m:=cZ [(111,Wq),(28,R5)] [(3,{A:=Nat×dg×PH,st:=λ⟨i,c,h⟩=>bS 23 25 [(1,sv t),(5,.at (.lst 19)),(8,sv s),(9,iv s.len),(10,iv i)] [(19,.lst 65 1 (c.map eS))] m h})] [] [] false
def UB(s:Sl)(m:MH)(h:PH)(K:da):=
  dO (aG s) 0 (K (fI 0) m h) (bF (λb o=>aH (aM s.a b o) ((0:Int)<=0) (0<aG s) (∃(y:Sl),aL m h b (o+0) (bH y)/\K (fI (aG y)) m h)))
def UC(s t:Sl)(m:MH)(h:PH)(K:da):=
  ∃(I:Nat×dj->Prop)(d:Nat×dj->Nat),(∃(x:Nat×dj),aA (I x) (aJ s) (aA (eL 8) (aJ t) (aA (bG t) (bA x.1) (aA (oH 30 3 (bW 30 3 (uT x.2))) (m=m) (bQ h h)))))/\∀(x:Nat×dj),I x->aZ (↑x.1:Int) (aG t) (bF (λb o=>aH (aM t.a b o) (0<=(↑x.1:Int)) ((↑x.1:Int)<aG t) (∃(y:Int),aL m h b (bK o x.1 1) (bM y)/\bF (λe f=>aH (aM s.a e f) (0<=y) (y<aG s) (∃(g:VV),aH (aL m h e (fF f y 3) g.enc) (iK (mO (uT x.2) 1*32)) (mR (uT x.2)) (∃(c:Nat×dj),aA (I c) (d c<d x) (aA (aJ s) (eL 8) (aA (aJ t) (bG t) (aA (fU (bC x.1 1)=bP c.1) (bW 30 3 (iT (uT x.2) g.enc)=bW 30 3 (uT c.2)) (bO (m=m) h h)))))))))) (bN h 3 (uT x.2) (λj n=>K (cM j) m
 n))
def Uz(o s t:Sl)(b:Bool)(m:MH)(h:PH)(K:da):=
  mP (λI x=>aA (I x) (aJ s) (aA (aJ t) (eQ (sQb b)) (aA (aJ o) (bG o) (aA (bA x) (m=m) (bQ h h))))) (λI u x=>I x->aZ (↑x:Int) (aG o) (bF (λz C=>aH (aM o.a z C) (0<=(↑x:Int)) ((↑x:Int)<aG o) (∃(y:Int×Int),aH (aL m h z (bK C x 2) (u7 y)) ((0:Int)<=0) ((0:Int)<2) (bF (λd e=>aH (aM s.a d e) (0<=y.1) (y.1<aG s) (∃(f:VV),aH (aL m h d (fF e y.1 3) f.enc) ((0:Int)<=1) ((1:Int)<2) (bF (λg j=>aH (aM t.a g j) (0<=y.2) (y.2<aG t) (∃(n:VV),aL m h g (fF j y.2 3) n.enc/\∃(r:Bool),pI 30 f.enc n.enc r/\cW (!r) (aA (bU h d (fF e y.1 3) f.enc) (bU h g (fF j y.2 3) n.enc) (K bB m h)) b (aA (cF 0) ((0:Int)<2) (bF (λD E=>aH (aM s.a D E) (0<=y.1)
 (y.1<aG s) (∃(F:VV),aH (aL m h D (fF E y.1 3) F.enc) (bU h d (fF e y.1 3) f.enc) (bU h g (fF j y.2 3) n.enc) (∃(v:VV),fT (rJ F=rJ v) (!(kM v)) (K bB m h) (∃(c:Nat),aA (I c) (u c<u x) (aA (aJ s) (aJ t) (aA (eQ (sQb b)) (aJ o) (aA (bG o) (fU (bC x 1)=bP c) (bO (m=m) h h)))))))))) (aA (bU h d (fF e y.1 3) f.enc) (bU h g (fF j y.2 3) n.enc) (∃(c:Nat),aA (I c) (u c<u x) (aA (aJ s) (aJ t) (aA (eQ (sQb b)) (aJ o) (aA (bG o) (fU (bC x 1)=bP c) (bO (m=m) h h))))))))))))))) (K fM m h))
def TY(g s t:Sl)(m:MH)(h:PH)(K:da):=
  mP (λI x=>aA (I x) (aJ s) (aA (aJ t) (aJ g) (aA (bG g) (bA x) (aA (m=m) (h=h) True)))) (λI d x=>I x->aZ (↑x:Int) (aG g) (bF (λb o=>aH (aM g.a b o) (0<=(↑x:Int)) ((↑x:Int)<aG g) (∃(y:Int),aL m h b (bK o x 1) (bM y)/\bF (λe f=>aH (aM s.a e f) (0<=y) (y<aG s) (∃(j:VV),aL m h e (fF f y 3) j.enc/\bF (λn u=>aH (aM t.a n u) (0<=y) (y<aG t) (∃(z:VV),aL m h n (fF u y 3) z.enc/\∃(r:Bool),fT (pI 30 j.enc z.enc r) (!r) (K bB m h) (∃(c:Nat),aA (I c) (d c<d x) (aA (aJ s) (aJ t) (aA (aJ g) (bG g) (aA (fU (bC x 1)=bP c) (m=m) (bQ h h)))))))))))) (K fM m h))
def TX(o s t:Sl)(m:MH)(h:PH)(K:da):=
  mP (λI x=>aA (I x) (aJ s) (aA (aJ t) (aJ o) (aA (bG o) (bA x) (aA (m=m) (h=h) True)))) (λI c x=>I x->aZ (↑x:Int) (aG o) (bF (λb e=>aH (aM o.a b e) (0<=(↑x:Int)) ((↑x:Int)<aG o) (∃(y:Int×Bool),aL m h b (bK e x 2) (Az y)/\aZ y.1 0 (Ap I c x s t o m h) (cW (decide (y.1>=aG s)) (Ap I c x s t o m h) (decide (y.1>=aG t)) (Ap I c x s t o m h) (bF (λf g=>aH (aM s.a f g) (0<=y.1) (y.1<aG s) (∃(j:VV),aL m h f (fF g y.1 3) j.enc/\bF (λn u=>aH (aM t.a n u) (0<=y.1) (y.1<aG t) (∃(z:VV),aL m h n (fF u y.1 3) z.enc/\HL (λa d=>A7 j z=A7 a d/\cW y.2 (dH (kE (0-kT a d)) 0 (K (fI (kE (0-kT a d))) m h) (Ap I c x s t o m h)) (kT a d !=0) (K (fI
 (kT a d)) m h) (Ap I c x s t o m h))))))))))) (wL s t h (λa b=>K (fI (eC a b)) m h)))
noncomputable abbrev vT(a:Nat×Sl×Nat×dg):=a.2.1
noncomputable abbrev jO(a:Nat×Sl×Nat×dg):=a.2.2
attribute [push_cast] vT jO
def UA(o s t:Sl)(m:MH)(h:PH)(K:da):=
  EB (λI x=>aA (I x) (aJ o) (aA (aJ t) pD (aA (aJ s) (bG s) (aA (bA x.1) (EA x) (bO (m=m) h h))))) (λI f x=>I x->aZ (↑x.1:Int) (aG s) (bF (λb n=>aH (aM s.a b n) (0<=(↑x.1:Int)) ((↑x.1:Int)<aG s) (∃(y:Sl),aL m h b (bK n x.1 1) (bH y)/\∃(I1:Nat×Sl×Nat×dg->Prop)(u:Nat×Sl×Nat×dg->Nat),(∃(c:Nat×Sl×Nat×dg),aA (I1 c) (aJ o) (aA (aJ t) pD (aA (aY y (vT c)) (aJ s) (aA (bG s) (bV x.1 (jO c).1) (aA (aJ t) (bG t) (aA (bA c.1) (w8 x (jO c)) (bO (m=m) h h)))))))/\∀(c:Nat×Sl×Nat×dg),I1 c->aZ (↑c.1:Int) (aG t) (bF (λz C=>aH (aM t.a z C) (0<=(↑c.1:Int)) ((↑c.1:Int)<aG t) (∃(D:Sl),aL m h z (bK C c.1 1) (bH
 D)/\gL (λE g=>AD (λF e=>F7 (λa j=>∃(r:Bool),aA (cM o::cM (vT c)::aX (cM D) bB=cM E::cM g::aX (cM F) (yF r)) (gS h E e) (aA (bR h g a) (bR h F j) (aA (mH a (fY e)) (mH j (fK e)) (branch (Bool.and (agree e a j) (Bool.or (!r) (kO (fY e) a))) (GK (jO c) (λd=>aA (I d) (f d<f x) (aA (aJ o) (aJ t) (aA pD (aJ s) (aA (bG s) (C8 (jO c).1 d) (aH (Gm (jO c) (vT c) d) (m=m) (h=h) True)))))) (∃(d:Nat×Sl×Nat×dg),aA (I1 d) (u d<u c) (aA (aJ o) (aJ t) (aA pD (aY (vT c) (vT d)) (aA (aJ s) (bG s) (aA (bV (jO c).1 (jO d).1) (aJ t) (aA (bG t) (fU (bC c.1 1)=bP d.1) (aH (w8 (jO c) (jO d)) (m=m) (h=
 h) True)))))))))))))))) (∃(d:Nat×dg),aA (I d) (f d<f x) (aA (aJ o) (aJ t) (aA pD (aJ s) (aA (bG s) (C8 (jO c).1 d) (aH (w8 (jO c) d) (m=m) (h=h) True)))))))) (bN h 1 (List.map eS x.2) (λg G=>K (cM g) m G)))
def Ux(o s t:Sl)(m:MH)(h:PH)(K:da):=
  EB (λI x=>aA (I x) (aJ o) (aA (aJ t) pD (aA (aJ s) (bG s) (aA (bA x.1) (EA x) (bO (m=m) h h))))) (λI e x=>I x->aZ (↑x.1:Int) (aG s) (bF (λb u=>aH (aM s.a b u) (0<=(↑x.1:Int)) ((↑x.1:Int)<aG s) (∃(y:Sl),aL m h b (bK u x.1 1) (bH y)/\∃(I1:Nat×Sl×Nat×dg->Prop)(z:Nat×Sl×Nat×dg->Nat),(∃(c:Nat×Sl×Nat×dg),aA (I1 c) (aJ o) (aA (aJ t) pD (aA (aY y (vT c)) (aJ s) (aA (bG s) (bV x.1 (jO c).1) (aA (aJ t) (bG t) (aA (bA c.1) (w8 x (jO c)) (bO (m=m) h h)))))))/\∀(c:Nat×Sl×Nat×dg),I1 c->aZ (↑c.1:Int) (aG t) (bF (λC D=>aH (aM t.a C D) (0<=(↑c.1:Int)) ((↑c.1:Int)<aG t) (∃(E:Sl),aL m h C (bK D c.1 1) (bH
 E)/\gL (λg f=>sP (λF j=>F7 (λa n=>aA (cM o::aX (cM (vT c)) (cM E)=cM g::aX (cM f) (cM F)) (Ints h g j) (aA (bR h f a) (bR h F n) (aA (mH a j) (mH n j) (branch (jL j a n) (GK (jO c) (λd=>aA (I d) (e d<e x) (aA (aJ o) (aJ t) (aA pD (aJ s) (aA (bG s) (C8 (jO c).1 d) (aH (Gm (jO c) (vT c) d) (m=m) (h=h) True)))))) (∃(d:Nat×Sl×Nat×dg),aA (I1 d) (z d<z c) (aA (aJ o) (aJ t) (aA pD (aY (vT c) (vT d)) (aA (aJ s) (bG s) (aA (bV (jO c).1 (jO d).1) (aJ t) (aA (bG t) (fU (bC c.1 1)=bP d.1) (aH (w8 (jO c) (jO d)) (m=m) (h=h) True)))))))))))))))) (∃(d:Nat×dg),aA (I d) (e d<e x) (aA (aJ o) (aJ
 t) (aA pD (aJ s) (aA (bG s) (C8 (jO c).1 d) (aH (w8 (jO c) d) (m=m) (h=h) True)))))))) (bN h 1 (List.map eS x.2) (λf G=>K (cM f) m G)))
abbrev Lr(a:Nat×Nat×Sl×Nat×dg->Prop)(b:Nat×Nat×Sl×Nat×dg->Nat)(c:Nat×Nat×Sl×Nat×dg)(d:Sl)(e:(Nat×Nat×Sl×Nat×dg)->Prop)(g:Sl)(i:(Nat×Nat×Sl×Nat×dg)->Prop):=∃(x:Nat×Nat×Sl×Nat×dg),aA (a x) (b x<b c) (aA (aJ d) cH (aA (eL 54) (aY (vT c.2) (vT x.2)) (aA (e x) (aJ g) (i x))))
abbrev LN(a:Sl)(b c:Nat×Nat×Sl×Nat×dg)(d:Sl)(e:QV)(g:MH)(i:PH):=aA (bG a) (bV (jO b.2).1 (jO c.2).1) (aA (aJ d) (bG d) (aA (fU (bC b.1 1)=bP c.1) (cV e) (aA (w8 (jO b.2) (jO c.2)) (g=g) (bQ i i))))
attribute [push_cast] Lr LN
def Uy(v:QV)(s t:Sl)(m:MH)(h:PH)(K:da):=
  EB (λI x=>aA (I x) (aJ t) (aA cH (eL 54) (aA (aJ s) (bG s) (aA (bA x.1) (cV v) (aH (EA x) (m=m) (h=h) True))))) (λI e x=>I x->aZ (↑x.1:Int) (aG s) (bF (λb o=>aH (aM s.a b o) (0<=(↑x.1:Int)) ((↑x.1:Int)<aG s) (∃(y:Sl),aL m h b (bK o x.1 1) (bH y)/\∃(I1:Nat×Nat×Sl×Nat×dg->Prop)(f:Nat×Nat×Sl×Nat×dg->Nat),(∃(c:Nat×Nat×Sl×Nat×dg),aA (I1 c) (aJ t) (aA cH (eL 54) (aA (aY y (vT c.2)) (bA c.2.1) (aA (aJ s) (bG s) (aA (bV x.1 (jO c.2).1) (aJ t) (aA (bG t) (bA c.1) (aA (cV v) (w8 x (jO c.2)) (aA (m=m) (h=h) True))))))))/\∀(c:Nat×Nat×Sl×Nat×dg),I1 c->aZ (↑c.1:Int) (aG t) (bF (λC D=>aH (aM t.a C D) (0<=(↑c.1:
 Int)) ((↑c.1:Int)<aG t) (∃(u:Sl),aL m h C (bK D c.1 1) (bH u)/\aZ (↑c.2.1:Int) v.limit (gL (λg j=>sP (λE n=>F7 (λa z=>aA (cM v.group::aX (cM (vT c.2)) (cM u)=cM g::aX (cM j) (cM E)) (Ints h g n) (aA (bR h j a) (bR h E z) (aA (mH a n) (mH z n) (branch (jL n a z) (gL (λF G=>QJ (λH J=>F7 (λL M=>aA (cM v.order::aX (cM u) (cM (vT c.2))=cM F::aX (cM G) (cM H)) (jW h F J) (aA (bR h G L) (bR h H M) (aZ (jT J L M) 0 (Lr I1 f c t (λd=>fU (bC c.2.1 1)=bP d.2.1) s (λd=>LN s c d t v m h)) (Lr I1 f c t (λd=>bV c.2.1 d.2.1) s (λd=>LN s c d t v m h)))))))) (Lr I1 f c t (λd=>bV c.2.1 d.2.1) s (λd=>LN s c d t
 v m h))))))))) (Lr I1 f c t (λd=>bV c.2.1 d.2.1) s (λd=>LN s c d t v m h))))) (aZ (↑c.2.1:Int) v.limit (GK (jO c.2) (λd=>aA (I d) (e d<e x) (aA (aJ t) cH (aA (eL 54) (aJ s) (aA (bG s) (C8 (jO c.2).1 d) (j4 (cV v) (Gm (jO c.2) (vT c.2) d) (m=m) h h)))))) (∃(d:Nat×dg),aA (I d) (e d<e x) (aA (aJ t) cH (aA (eL 54) (aJ s) (aA (bG s) (C8 (jO c.2).1 d) (j4 (cV v) (w8 (jO c.2) d) (m=m) h h))))))))) (bN h 1 (List.map eS x.2) (λj O=>K (cM j) m O)))
abbrev A6(a:Sl)(b:Nat->Nat->Option Value)(c:Sl->PH->Prop):=KY (λx e=>aA (gK a=gK x) (Rows b x e) (aA (oU e) (∀(d:dj),DH d e (DJ d)) (fB (λd f=>bY b f (Rows f d (sK e)) (c d f)))))
attribute [push_cast] A6
def TF(s t:Sl)(m:MH)(h:PH)(K:da):=
  Ja (λI x=>aA (I x) (aJ t) (aA (eL 19) (aJ s) (aA (bG s) (bA x.1) (aA (vA (j7 x)) (m=m) (bQ h (jH x)))))) (λI g x=>I x->aZ (↑x.1:Int) (aG s) (bF (λb o=>aH (aM s.a b o) (0<=(↑x.1:Int)) ((↑x.1:Int)<aG s) (∃(y:Sl),aL m (jH x) b (bK o x.1 1) (bH y)/\CM y t (jH x) (λr c=>mH r c) (λr c=>fB (λf d=>bY (jH x) d (bR d f (pick r c)) (aA (uP (j7 x) 1) (Cj (j7 x)) (∃(e:Nat×dg×PH),aA (I e) (g e<g x) (aA (aJ t) (eL 19) (aA (aJ s) (bG s) (aA (fU (bC x.1 1)=bP e.1) (lN (j7 x) f (j7 e)) (bO (m=m) d (jH e)))))))))))) (bN (jH x) 1 (List.map eS (j7 x)) (λf d=>A6 f d (λj n=>K (cM j) m n))))
theorem Zs{gr:db}{a b i c}(d:gr[i]? =some c):jL (gr.take (i+1)) a b=true↔jL (gr.take i) a b=true/\a.getD c.toNat zeroV=b.getD c.toNat zeroV:=by
 rw[Du,Du,cq,d,Option.toList_some];unfold pick;rw[cj,cj];constructor
 .intro h;obtain⟨e,f⟩:=append_inj h bi
  grind
 grind
theorem Ru:cz 167 Sj:=by
 refine gW func167 ?_;rintro L m h K ⟨g,s,t,gr,a,b,rfl,o,G,H,M,O,n⟩;refine⟨bMX g s t m h,rfl,aI,TY g s t m h K,bh,?_⟩;dsimp only[TY,push_cast];have u:=o.slen;have P:=bI.slen G;have Q:=bI.slen H;refine⟨λi=>i<=gr.length/\jL (gr.take i) a b=true,λi=>gr.length-i,⟨0,⟨aD,by rw[Du];rfl⟩,MT⟩,?_⟩;rintro i ⟨hi,f⟩;refine aF (λj=>?_) (λR=>?_)
 .obtain⟨c,d⟩:=dW u j;obtain⟨S,T,U,z⟩:=o.at' d;obtain⟨I,h2⟩:=M.at_ c (ce d);have h3:=(O.at_ c (ce d)).2;obtain⟨V,W,v,X,C,hv⟩:=bI.at G (i:=c.toNat) (cd aD);obtain⟨Y,Z,w,e3,D,hw⟩:=bI.at H (i:=c.toNat) (cd aD);have ev:a.getD c.toNat zeroV=v:=bo
  have ew:b.getD c.toNat zeroV=w:=bo
  have E:=Zs (a:=a) (b:=b) d;rw[ev,ew]at E;refine⟨S,T,U,aD,j,c,.imm z,V,W,X,I,aD,v,.imm C,Y,Z,e3,I,aD,w,.imm D,Zl v w,Mh v w,aC (λe=>?_) (λe=>?_)⟩
  .have a':¬v=w:=λe5=>by rw[G6.2 e5]at e;cases e
   have e6:jL gr a b=false:=by
    rw[Bool.eq_false_iff];intro F;rw[Du]at F;have:=(Du (gr:=gr.take (i+1)) (x:=a) (y:=b)).2 (by simp only[pick]at F⊢;rw[map_take,map_take,F])
    grind
   rw[e6]at n;exact n
  .have a0:v=w:=G6.1 (bx e);have J:=o.len;rw[fR aD]
   grind
 .rw[ci aD]at f;rw[f]at n;exact n
theorem akQ:cz 168 Ir:=by
 refine gW func168 ?_;rintro Q m h K ⟨o,s,t,od,a,b,rfl,F,G,H,g⟩;refine⟨bMQ o s t m h,rfl,aE Kj (aE aa aI),TX o s t m h K,bh,?_⟩;dsimp only[TX,push_cast];have I:=F.slen;have R:=F.len;have S:=bI.slen G;have T:=bI.slen H;refine⟨λi=>i<=od.length/\jT od a b=jT (od.drop i) a b,λi=>od.length-i,⟨0,⟨aD,bi⟩,MT⟩,λi⟨hi,j⟩=>aF (λn=>?_) (λU=>?_)⟩
 .obtain⟨⟨c,E⟩,L⟩:=dW I n;obtain⟨V,W,X,Y⟩:=F.row.get (i:=i) (e:=Aa (c,E)) (by simp[L]);rw[drop_cons L]at j
  have skip:¬(0<=c/\c<a.length/\c<b.length)->∃d:Nat,(λi=>i<=od.length/\jT od a b=jT (od.drop i) a b) d/\(λi=>od.length-i) d<(λi=>od.length-i) i/\eQ (sQs s)/\eQ (sQs t)/\eQ (sQs o)/\eQ (fU ↑o.len)/\fU (IntKind.i64.wrap ((i:Int)+1))=fU ↑d/\m=m/\h=h/\True:=λZ=>
   ⟨i+1,⟨aD,by rw[j,UM Z]⟩,(show od.length-(i+1)<od.length-i by omega),MT⟩
  refine⟨V,W,X,aD,n,(c,E),.imm Y,aF (λM=>skip (λe=>by omega)) (λM=>aF (λO=>skip (λe=>by omega)) (λO=>aF (λP=>skip (λe=>by omega)) (λP=>?_)))⟩;dsimp only at M O P⊢
  obtain⟨x,z⟩:∃x,a[c.toNat]? =some x:=⟨_,cd aD⟩
  obtain⟨y,C⟩:∃y,b[c.toNat]? =some y:=⟨_,cd aD⟩
  obtain⟨b2,o2,u,e2,r2,rfl⟩:=bI.at G z;obtain⟨b3,o3,u,e3,r3,rfl⟩:=bI.at H C;rw[aOQ aD z C]at j;have a':=RR x y;have J:IntKind.i64.wrap (0-kT x y)= -kT x y:=by rw[eM aD aD,Int.zero_sub]
  refine⟨b2,o2,e2,aD,aD,x,.imm r2,b3,o3,e3,aD,aD,y,.imm r3,x,y,rfl,?_⟩;rw[J];refine aC (λf=>aC (λD=>?_) (λD=>?_)) (λf=>aC (λD=>?_) (λD=>?_))
  .have f:E=true:=f;have h6:kT x y≠0:=λe=>bo
   rw[j,if_pos h6,if_pos f]at g;exact g
  .have D:kT x y=0:=bo
   exact⟨i+1,⟨aD,aD⟩,(show od.length-(i+1)<od.length-i by omega),MT⟩
  .have f:E=false:=f;rw[j,if_pos bo,if_neg (by simp[f])]at g;exact g
  .have D:kT x y=0:=bo
   exact⟨i+1,⟨aD,aD⟩,(show od.length-(i+1)<od.length-i by omega),MT⟩
 .rw[j,drop_eq_nil_of_le aD,jT]at g;exact⟨s,t,a,b,rfl,G,H,g⟩
theorem It{s l}(c:cO h s 3 (l.map VV.enc))(d:l.length<=502633886983):bR h s l:=⟨⟨l,c,rfl,λi x e=>⟨x,e,rfl⟩⟩,d⟩
theorem asQ:cz 112 cGJ:=by
 refine gW func112 ?_;rintro g m h K ⟨s,l,rfl,c,d⟩;refine⟨bUJ,rfl,aI,UB s m h K,bh,?_⟩;dsimp only[UB,push_cast];have j:=bI.slen c;cases l with
 |nil=>exact aF (λ_=>d) (λf=>absurd (show((s.len:Nat):Int)=0 by grind) f)
 |cons r l=>
  obtain⟨b,o,u,n,rd,y⟩:=bI.at c (i:=0) rfl;have f:0<s.len:=by rw[j];simp
  refine aF (λe=>absurd e aD) (λ_=>⟨b,o,n,aD,aD,u,.imm (show bU h b (o+0) (eS u)by omega),?_⟩);rw[bI.slen y];exact d
theorem RL:cz 111 Wq:=by
 refine gW func111 ?_;rintro F m h K ⟨s,t,r,d,rfl,C,D,E,G⟩;refine⟨bVQ s t m h,rfl,aI,UC s t m h K,bh,?_⟩;dsimp only[UC,push_cast];have j:=D.slen;have H:=bI.slen C;have I:=E.len;have n:∀k,(pick r (d.take k)).length<=d.length:=λk=>by simp[pick];omega
 refine⟨λz=>z.1<=d.length/\z.2=pick r (d.take z.1),λz=>d.length-z.1,⟨(0,[]),⟨bi,rfl⟩,MT⟩,?_⟩;rintro⟨i,l⟩ ⟨J,e⟩;dsimp only at J e;subst e;dsimp only;refine aF (λg=>?_) (λL=>?_)
 .obtain⟨c,f⟩:=dW j g;obtain⟨M,O,P,o⟩:=D.at' f;obtain⟨Q,W⟩:=E.at_ c (ce f);obtain⟨R,S,v,T,u,X⟩:=bI.at C (i:=c.toNat) (cd aD);have ev:r.getD c.toNat zeroV=v:=bo
  have U:pick r (d.take (i+1))=pick r (d.take i)++[v]:=by
   unfold pick;rw[cq,f,Option.toList_some,cj,map_singleton,ev]
  have:=n i;rw[fR aD];refine⟨M,O,P,aD,g,c,.imm o,R,S,T,Q,aD,v,.imm u,bo,bo,(i+1,pick r (d.take (i+1))),⟨aD,rfl⟩,aD,bo⟩
 .rw[ci aD]
  exactλV h' le y=>G V h' le (It y (by simp[pick];omega))
theorem axQ{on:dh}{a b i p}(c:on[i]? =some p):agree (on.take (i+1)) a b=true↔agree (on.take i) a b=true/\a.getD p.1.toNat zeroV=b.getD p.2.toNat zeroV:=by
 rw[sU,sU,cq,c,Option.toList_some];unfold pick fY fK;rw[cj,cj,cj,cj];constructor
 .intro h;obtain⟨d,e⟩:=append_inj h bi
  grind
 grind
theorem axX{on a b} k(h:agree on a b=true):agree (on.take k) a b=true:=by
 rw[sU]at h⊢
 unfold pick fY fK at h⊢
 rw[map_take,map_take,map_take,map_take,h]
theorem aYQ{on:dh}{a i p}(c:on[i]? =some p):kO (fY (on.take (i+1))) a=(kO (fY (on.take i)) a&&kM (a.getD p.1.toNat zeroV)):=by
 unfold kO pick fY;rw[cq,c,Option.toList_some,cj,cj,all_append];simp
theorem aYZ{on a}{i:Nat}{p}(d:on[i]? =some p)(h:kM (a.getD p.1.toNat zeroV)=false):kO (fY on) a=false:=by
 rw[Bool.eq_false_iff];intro c;unfold kO pick fY at c
 grind
theorem Kl:cz 114 PY:=by
 refine gW func114 ?_;rintro W m h K ⟨o,s,t,on,a,b,f,rfl,G,O,P,X,Y,u⟩;refine⟨bUX o s t f m h,rfl,aE Ke aI,Uz o s t f m h K,bh,?_⟩;dsimp only[Uz,push_cast];have H:=G.slen;have Z:=G.len;have a':=bI.slen O;have a0:=bI.slen P;refine⟨λi=>i<=on.length/\agree (on.take i) a b=true/\(f=true->kO (fY (on.take i)) a=true),λi=>on.length-i,⟨0,⟨aD,by rw[sU];rfl,λ_=>rfl⟩,MT⟩,?_⟩;rintro i ⟨hi,y,C⟩;refine aF (λD=>?_) (λa1=>?_)
 .obtain⟨⟨c,d⟩,E⟩:=dW H D;obtain⟨b1,o1,e1,r1⟩:=G.row.get (i:=i) (e:=pA (c,d)) (by simp[E]);have Q:=ce E;obtain⟨R,h2⟩:=X.at_ c (mem_map.2 ⟨_,Q,rfl⟩);obtain⟨h3,h4⟩:=Y.at_ d (mem_map.2 ⟨_,Q,rfl⟩);obtain⟨S,T,v,U,g,hv⟩:=bI.at O (i:=c.toNat) (cd aD);obtain⟨b3,o3,w,e3,j,hw⟩:=bI.at P (i:=d.toNat) (cd aD);have ev:a.getD c.toNat zeroV=v:=bo
  have ew:b.getD d.toNat zeroV=w:=bo
  have n:=axQ (a:=a) (b:=b) E;have F:=aYQ (a:=a) E;have z:=aYZ (a:=a) E;dsimp only at n F z;rw[ev,ew]at n;rw[ev]at F z;have I:IntKind.i64.wrap ((i:Int)+1)=((i+1:Nat):Int):=fR aD;have mu:on.length-(i+1)<on.length-i:=by omega
  rw[I];refine⟨b1,o1,e1,aD,D,(c,d),.imm r1,aD,aD,S,T,U,R,aD,v,.imm g,aD,aD,b3,o3,e3,h3,aD,w,.imm j,Zl v w,Mh v w,aC (λe=>⟨g,j,?_⟩) (λe=>?_)⟩
  .have J:¬v=w:=λe5=>by rw[G6.2 e5]at e;cases e
   have e6:agree on a b=false:=by
    rw[Bool.eq_false_iff]
    exactλe7=>J (n.1 (axX _ e7)).2
   rw[e6,Bool.false_and]at u;exact u
  .have L:v=w:=G6.1 (bx e);refine aC (λV=>⟨aD,aD,S,T,U,R,aD,v,.imm g,g,j,v,rfl,aC (λM=>?_) (λM=>?_)⟩) (λV=>⟨g,j,i+1,⟨aD,n.2 ⟨y,L⟩,λh9=>bo⟩,mu,MT⟩)
   .have M:kM v=false:=bo
    rw[z M,V,show(agree on a b&&(!true||false))=false by grind]at u;exact u
   grind
 .rw[ci aD]at y C;rw[y]at u;cases f with
  |false=>exact u
  |true=>rw[C rfl]at u;exact u
theorem RJ:cz 113 azX:=by
 refine gW func113 ?_;rintro W m h K ⟨o,s,t,on,a,b,rfl,X,S,T,Y,Z,la,lb,hK⟩;refine⟨bUZ o s t m h,rfl,aE Kl aI,UA o s t m h K,bh,?_⟩;dsimp only[UA,push_cast];have E:=bI.slen S;have F:=bI.slen T;refine⟨λz=>z.1<=a.length/\dR h z.2 ((a.take z.1).filter λx=>b.any λy=>agree on x y),λz=>a.length-z.1,⟨(0,[]),⟨bi,bx (dR.nil h)⟩,MT⟩,?_⟩;rintro⟨i,f⟩ ⟨hi,n⟩;dsimp only at hi n;dsimp only;have a':=n.len;have G:=length_filter_le (λx=>b.any λy=>agree on x y) (a.take i);rw[length_take]at G;refine aF (λu=>?_) (λa0=>?_)
 .obtain⟨x,H⟩:=dW E u;have I:=ce H;obtain⟨b1,o1,g,e1,J,C⟩:=bI.at S H;have L:a.take (i+1)=a.take i++[x]:=by rw[cq,H];rfl
  have M:(b.any λy=>agree on x y)=true->dR h (f++[g]) ((a.take (i+1)).filter λx=>b.any λy=>agree on x y):=λe=>by
   rw[L,filter_append,filter_cons_of_pos (by exact e),filter_nil];exact n.snoc C
  have no:(b.any λy=>agree on x y)=false->dR h f ((a.take (i+1)).filter λx=>b.any λy=>agree on x y):=λe=>by
   grind
  refine⟨b1,o1,e1,aD,u,g,.imm J,λz=>z.1<=b.length/\z.2=(g,i,f)/\(b.take z.1).any (λy=>agree on x y)=false,λz=>b.length-z.1,⟨(0,g,i,f),⟨bi,rfl,bi⟩,MT⟩,?_⟩;rintro⟨j,z⟩ ⟨hj,e,c⟩;dsimp only at hj e c;subst e;dsimp only;refine aF (λd=>?_) (λU=>?_)
  .obtain⟨y,O⟩:=dW F d;have D:=ce O;obtain⟨b2,o2,V,e2,P,Q⟩:=bI.at T O;refine⟨b2,o2,e2,aD,d,V,.imm P,o,g,V,on,x,y,false,rfl,X,C,Q,Y x I,Z y D,aC (λe=>?_) (λe=>?_)⟩
   .have e:agree on x y=true:=bx e
    rw[fR aD];exact⟨bo,bo,(i+1,f++[g]),⟨aD,M (any_eq_true.2 ⟨y,D,e⟩)⟩,aD,by rw[cj];exact MT⟩
   .have e:agree on x y=false:=bx e
    rw[fR aD];exact⟨(j+1,g,i,f),⟨aD,rfl,by dsimp only;rw[cq,O,Option.toList_some,any_append,c];simp[e]⟩,aD,MT⟩
  .rw[ci aD]at c;rw[fR aD];exact⟨(i+1,f),⟨aD,no c⟩,aD,MT⟩
 .rw[ci aD]at n
  exactλs' h' le R=>hK s' h' le ((n.mono le).rows R bo)
theorem arJ:cz 116 aUX:=by
 refine gW func116 ?_;rintro W m h K ⟨o,s,t,gr,a,b,rfl,X,S,T,Y,Z,la,lb,hK⟩;refine⟨bTJ o s t m h,rfl,aE Ru aI,Ux o s t m h K,bh,?_⟩;dsimp only[Ux,push_cast];have E:=bI.slen S;have F:=bI.slen T;refine⟨λz=>z.1<=a.length/\dR h z.2 ((a.take z.1).filter λx=>b.any λy=>jL gr x y),λz=>a.length-z.1,⟨(0,[]),⟨bi,bx (dR.nil h)⟩,MT⟩,?_⟩;rintro⟨i,f⟩ ⟨hi,n⟩;dsimp only at hi n;dsimp only;have a':=n.len;have G:=length_filter_le (λx=>b.any λy=>jL gr x y) (a.take i);rw[length_take]at G;refine aF (λu=>?_) (λa0=>?_)
 .obtain⟨x,H⟩:=dW E u;have I:=ce H;obtain⟨b1,o1,g,e1,J,C⟩:=bI.at S H;have L:a.take (i+1)=a.take i++[x]:=by rw[cq,H];rfl
  have M:(b.any λy=>jL gr x y)=true->dR h (f++[g]) ((a.take (i+1)).filter λx=>b.any λy=>jL gr x y):=λe=>by
   rw[L,filter_append,filter_cons_of_pos (by exact e),filter_nil];exact n.snoc C
  have no:(b.any λy=>jL gr x y)=false->dR h f ((a.take (i+1)).filter λx=>b.any λy=>jL gr x y):=λe=>by
   grind
  refine⟨b1,o1,e1,aD,u,g,.imm J,λz=>z.1<=b.length/\z.2=(g,i,f)/\(b.take z.1).any (λy=>jL gr x y)=false,λz=>b.length-z.1,⟨(0,g,i,f),⟨bi,rfl,bi⟩,MT⟩,?_⟩;rintro⟨j,z⟩ ⟨hj,e,c⟩;dsimp only at hj e c;subst e;dsimp only;refine aF (λd=>?_) (λU=>?_)
  .obtain⟨y,O⟩:=dW F d;have D:=ce O;obtain⟨b2,o2,V,e2,P,Q⟩:=bI.at T O;refine⟨b2,o2,e2,aD,d,V,.imm P,o,g,V,gr,x,y,rfl,X,C,Q,Y x I,Z y D,aC (λe=>?_) (λe=>?_)⟩
   .have e:jL gr x y=true:=bx e
    rw[fR aD];exact⟨bo,bo,(i+1,f++[g]),⟨aD,M (any_eq_true.2 ⟨y,D,e⟩)⟩,aD,by rw[cj];exact MT⟩
   .have e:jL gr x y=false:=bx e
    rw[fR aD];exact⟨(j+1,g,i,f),⟨aD,rfl,by dsimp only;rw[cq,O,Option.toList_some,any_append,c];simp[e]⟩,aD,MT⟩
  .rw[ci aD]at c;rw[fR aD];exact⟨(i+1,f),⟨aD,no c⟩,aD,MT⟩
 .rw[ci aD]at n
  exactλs' h' le R=>hK s' h' le ((n.mono le).rows R bo)
theorem YN{p}{l:de}{j y}(c:l[j]? =some y):(l.take (j+1)).countP p=(l.take j).countP p+if p y=true then 1 else 0:=by
 rw[cq,c,Option.toList_some,countP_append,countP_singleton]
theorem RI:cz 115 R9:=by
 refine gW func115 ?_;rintro a2 m h K ⟨v,s,t,gr,od,a,b,rfl,hg,ho,hs,ht,ha,hb,la,lb,hK⟩;refine⟨bUQ v s t m h,rfl,aE Ru (aE akQ aI),Uy v s t m h K,bh,?_⟩;dsimp only[Uy,push_cast];have L:=bI.slen hs;have M:=bI.slen ht;have o:∀l,qH gr od v.limit l b=l.filter λx=>decide (((b.countP λy=>jL gr x y&&decide (jT od y x<0):Nat):Int)<v.limit):=λl=>rfl;refine⟨λz=>z.1<=a.length/\dR h z.2 (qH gr od v.limit (a.take z.1) b),λz=>a.length-z.1,⟨(0,[]),⟨bi,by simpa[o]using dR.nil h⟩,MT⟩,?_⟩;rintro⟨i,d⟩ ⟨hi,D⟩;dsimp only at hi D;dsimp only;have a3:=D.len;have O:=length_filter_le (λx=>decide (((b.countP λy=>jL gr x y&&decide (jT od y x<0):Nat):Int)<v.limit)) (a.take i);rw[<-o,length_take]at O;refine aF (λE=>?_) (λa4=>?_)
 .obtain⟨x,P⟩:=dW L E;have Q:=ce P;obtain⟨b1,o1,f,e1,R,u⟩:=bI.at hs P;have S:a.take (i+1)=a.take i++[x]:=by rw[cq,P];rfl
  have T:((b.countP λy=>jL gr x y&&decide (jT od y x<0):Nat):Int)<v.limit->dR h (d++[f]) (qH gr od v.limit (a.take (i+1)) b):=λe=>by
   rw[o]at D⊢
   rw[S,filter_append,filter_cons_of_pos (bx e),filter_nil];exact D.snoc u
  have no:¬((b.countP λy=>jL gr x y&&decide (jT od y x<0):Nat):Int)<v.limit->dR h d (qH gr od v.limit (a.take (i+1)) b):=λe=>by
   grind
  refine⟨b1,o1,e1,aD,E,f,.imm R,λz=>z.1<=b.length/\z.2.2=(f,i,d)/\z.2.1<=z.1/\(((z.2.1:Nat):Int)<v.limit->z.2.1=(b.take z.1).countP λy=>jL gr x y&&decide (jT od y x<0))/\(¬((z.2.1:Nat):Int)<v.limit->z.2.1<=(b.take z.1).countP λy=>jL gr x y&&decide (jT od y x<0)),λz=>b.length-z.1,⟨(0,0,f,i,d),⟨bi,rfl,bi,bi,bi⟩,MT⟩,?_⟩;rintro⟨j,n,z⟩ ⟨hj,e,U,C,F⟩;dsimp only at hj e U C F;subst e;dsimp only;refine aF (λg=>?_) (λa1=>?_)
  .obtain⟨y,V⟩:=dW M g;have W:=ce V;obtain⟨b2,o2,uy,e2,X,G⟩:=bI.at ht V;have a5:=YN (p:=λy=>jL gr x y&&decide (jT od y x<0)) V
   have c:(¬((n:Nat):Int)<v.limit\/(jL gr x y&&decide (jT od y x<0))=false)->∃z:Nat×Nat×Sl×Nat×dg,(z.1<=b.length/\z.2.2=(f,i,d)/\z.2.1<=z.1/\(((z.2.1:Nat):Int)<v.limit->z.2.1=(b.take z.1).countP λy=>jL gr x y&&decide (jT od y x<0))/\(¬((z.2.1:Nat):Int)<v.limit->z.2.1<=(b.take z.1).countP λy=>jL gr x y&&decide (jT od y x<0)))/\z=(j+1,n,f,i,d):=λI=>by
    refine⟨_,⟨aD,rfl,bo,λY=>?_,λY=>?_⟩,rfl⟩
    .grind
    grind
   have Z:IntKind.i64.wrap ((j:Int)+1)=((j+1:Nat):Int):=fR aD;have a':IntKind.i64.wrap ((n:Int)+1)=((n+1:Nat):Int):=fR aD;have J:b.length-(j+1)<b.length-j:=by omega
   rw[Z,a'];refine⟨b2,o2,e2,aD,g,uy,.imm X,aF (λhl=>⟨_,_,_,gr,x,y,rfl,hg,u,G,ha x Q,hb y W,aC (λI=>⟨_,_,_,od,y,x,rfl,ho,G,u,aF (λY=>?_) (λY=>?_)⟩) (λI=>?_)⟩) (λhl=>?_)⟩
   .have hp:(jL gr x y&&decide (jT od y x<0))=true:=bo
    have h7:=C hl;exact⟨(j+1,n+1,f,i,d),⟨aD,rfl,bo,λ_=>bo,λ_=>bo⟩,J,MT⟩
   .obtain⟨z,H,rfl⟩:=c (.inr bo);exact⟨_,H,J,MT⟩
   .obtain⟨z,H,rfl⟩:=c (.inr (by rw[I];rfl));exact⟨_,H,J,MT⟩
   .obtain⟨z,H,rfl⟩:=c (.inl hl);exact⟨_,H,J,MT⟩
  .rw[ci aD]at C F;rw[fR aD];refine aF (λe=>?_) (λe=>?_)
   .exact⟨bo,bo,(i+1,d++[f]),⟨aD,T aD⟩,aD,by rw[cj];exact MT⟩
   .exact⟨(i+1,d),⟨aD,no (λI=>by omega)⟩,aD,MT⟩
 .rw[ci aD]at D
  exactλs' h' le a0=>hK s' h' le ((D.mono le).rows a0 bo)
theorem abQ:cz 212 UW:=by
 refine gW func212 ?_;rintro M m h K ⟨s,t,l,e,rfl,I,O,P,Q,hl,R⟩;refine⟨bIZ s t m,rfl,aE RL (aE Jq aI),TF s t m h K,bh,?_⟩;dsimp only[TF,push_cast];have j:=bI.slen I;refine⟨λz=>z.1<=l.length/\PH.le h z.2.2/\dR z.2.2 z.2.1 ((l.take z.1).map λr=>pick r e),λz=>l.length-z.1,⟨(0,[],h),⟨bi,.refl _,bx (dR.nil h)⟩,MT⟩,?_⟩;rintro⟨i,S,h1⟩ ⟨T,c,f⟩;dsimp only at T c f;dsimp only;have n:=f.len;rw[length_map,length_take]at n;refine aF (λg=>?_) (λU=>?_)
 .obtain⟨x,o⟩:=dW j g;obtain⟨V,W,J,X,u,y⟩:=bI.at I o;have C:l.take (i+1)=l.take i++[x]:=by rw[cq,o];rfl
  refine⟨V,W,X,aD,g,J,.imm (u.mono c),J,t,x,e,rfl,bR.mono y c,O.mono c,P x (ce o),λD L d E=>?_⟩;rw[fR aD];refine⟨bo,bo,(i+1,S++[D],L),⟨aD,c.trans d,by dsimp only;rw[C,cj,map_singleton];exact(f.mono d).snoc E⟩,aD,by rw[cj];exact MT⟩
 .rw[ci aD]at f;intro D L d F
  exact⟨D,_,rfl,(f.mono d).rows F bo,bo,λr Y=>by
   obtain⟨z,_,rfl⟩:=mem_map.1 Y;simp[pick];omega,λZ h3 G H=>R Z h3 (c.trans (d.trans G)) H⟩
def caJ:Vc.Spec:=λc m h K=>∃s r,c=[cS s]/\bR h s r/\r.length<=1000/\K (.lst 30 3 (r.map VV.enc)) m h
def cLQ:Vc.Spec:=λc m h K=>∃o s r,c=[aO o,cS s,Dn]/\bR h s r/\∀ok:Bool,(ok=false->Bf r o=zeroV)->K (.tup [aV (Bf r o),cB ok]) m h
def cbX:Vc.Spec:=λd m h K=>∃c a b,d=[cI c,aV a,aV b]/\K (cB (uB c a b)) m h
noncomputable def bIJ(N:Nat)(v:PV)(s:Sl)(m:MH)(h:PH):=
 cZ [(244,cLQ),(245,cbX),(211,Wh N)] [(10,{A:=Nat,st:=λi=>bS 97 100 [(1,sv s),(2,vv rU),(3,.at (.ptr 3 0)),(50,iv v.args.len),(51,iv i)] [(3,.cells 35 (v.enc.map .val))] m h}),
  (18,{A:=Nat,st:=λi=>bS 97 100 [(1,sv s),(2,vv rU),(3,.at (.ptr 3 0)),(68,iv v.args.len),(69,iv i)] [(3,.cells 35 (v.enc.map .val))] m h})] [] [] false
def an(s:Sl)(m:MH)(h:PH)(K:da):=
  ∃(y:List dc),aA (eU 3 y) (cO h (Sl.mk s.a s.len s.cap) 3 y) (aA (y9 y 32) (zA y) (K (CV.lst 30 3 y) m h))
abbrev BH(a:da)(b:OV)(c:MH)(d:PH):=a (CV.tup (aX (xO b.value) fM)) c d
abbrev BI(a:da)(b:MH)(c:PH):=a (CV.tup (aX (qK AL) bB)) b c
attribute [push_cast] BH BI
def Ty o s m h K:=
  cW (o.kind==1) (cW (decide (o.index>=0)) (aZ o.index (aG s) (bF (λb c=>aH (aM s.a b c) (0<=o.index) (o.index<aG s) (∃(y:VV),aL m h b (fF c o.index 3) y.enc/\K (CV.tup (aX (xO y) fM)) m h))) (cW (o.kind==2) (cW (decide (o.index>=0)) (aZ o.index 0 (Ls 0 o m h 3 (λy=>K (CV.tup (aX (xO y) fM)) m h)) (dO o.kind 3 (BH K o m h) (BI K m h))) (o.kind==3) (BH K o m h) (BI K m h)) (o.kind==3) (BH K o m h) (BI K m h))) (o.kind==2) (cW (decide (o.index>=0)) (aZ o.index 0 (Ls 0 o m h 3 (λy=>K (CV.tup (aX (xO y) fM)) m h)) (dO o.kind 3 (BH K o m h) (BI K m h))) (o.kind==3) (BH K o m h) (BI K m h)) (dO o.kind 3 (BH K o m h) (BI K m h))) (o.kind==2) (cW (decide (o.index>=0)) (aZ o.index 0 (Ls
 0 o m h 3 (λy=>K (CV.tup (aX (xO y) fM)) m h)) (dO o.kind 3 (BH K o m h) (BI K m h))) (o.kind==3) (BH K o m h) (BI K m h)) (dO o.kind 3 (BH K o m h) (BI K m h))
def Tx(c:Int)(a b:VV)(m:MH)(h:PH)(K:da):=
  ∃(v:VV),fT (rJ a=rJ v) (!(kM v)) (K bB m h) (∃(f:VV),rJ b=rJ f/\cW (!(kM f)) (K bB m h) (a.kind !=b.kind) (K bB m h) (HL (λd e=>A7 a b=A7 d e/\cW (c==1) (K (yF (kT d e==0)) m h) (c==2) (K (yF (kT d e !=0)) m h) (cW (c==3) (K (yF (decide (kT d e<0))) m h) (c==4) (K (yF (decide (kT d e<=0))) m h) (cW (c==5) (K (yF (decide (kT d e>0))) m h) (c==6) (K (yF (decide (kT d e>=0))) m h) (K bB m h))))))
def TG(N:Nat)(v:PV)(s:Sl)(m:MH)(h:PH)(K:da):=
  cW (v.op==1) (K fM m h) (v.op==3) (y8 (λo j r=>aA (tK v.left s=tK o j) (bR h j r) (∀(n:Bool),(n=false->Bf r o=VV.mk 0 0 QO)->y8 (λe u f=>aA (tK v.right s=tK e u) (bR h u f) (∀(z:Bool),iB (z=false->Bf f e=VV.mk 0 0 QO) n (branch z (∃(c:Int),HL (λa b=>fI v.cmp::aX (qK (aU (eH (Bf r o).kind) (eH (Bf r o).int) (lJ (Value.string (Bf r o).text)))) (qK (aU (eH (Bf f e).kind) (eH (Bf f e).int) (lJ (Value.string (Bf f e).text))))=fI c::aX (xO a) (xO b)/\K (yF (uB c a b)) m h)) (K bB m h)) (K bB m h)))))) (cW (v.op==4) (mP (λI x=>aA (I x) (aJ s) (aA sD cH (aA (sO v) (bA x) (aA (hX v) (m=m) (bQ h h))))) (λI g x=>I x->aZ (↑x:Int) (aG v.args)
 (bF (λb o=>aH (aM v.args.a b o) (0<=(↑x:Int)) ((↑x:Int)<aG v.args) (∃(y:PV),aL m h b (bK o x 13) y.enc/\Gl y s h N (λp r=>branch (!(iX r p)) (K bB m h) (∃(d:Nat),aA (I d) (g d<g x) (aA (aJ s) sD (aA cH (sO v) (aA (fU (bC x 1)=bP d) (hX v) (bO (m=m) h h))))))))) (K fM m h))) (v.op==5) (mP (λI x=>aA (I x) (aJ s) (aA sD cH (aA (sO v) (bA x) (aA (hX v) (m=m) (bQ h h))))) (λI g x=>I x->aZ (↑x:Int) (aG v.args) (bF (λb o=>aH (aM v.args.a b o) (0<=(↑x:Int)) ((↑x:Int)<aG v.args) (∃(y:PV),aL m h b (bK o x 13) y.enc/\Gl y s h N (λp r=>branch (iX r p) (K fM m h) (∃(d:Nat),aA (I d) (g d<g x) (aA (aJ s) sD (aA cH (sO v) (aA (fU (bC x 1)=
 bP d) (hX v) (bO (m=m) h h))))))))) (K bB m h))) (dO v.op 6 (fX (aG v.args) 0 (bF (λb o=>aH (aM v.args.a b o) ((0:Int)<=0) (0<aG v.args) (∃(y:PV),aL m h b (o+0) y.enc/\Gl y s h N (λp r=>K (CV.val (Value.bool (!(iX r p)))) m h)))) (K bB m h)) (K bB m h)))
theorem bd:cz 58 caJ:=by
 refine gW func58 ?_;rintro d m h K ⟨s,r,rfl,f,n,g⟩;refine⟨cZ [] [] [] [] true,rfl,aI,an s m h K,bh,?_⟩;dsimp only[an,push_cast];obtain⟨⟨c,j,o,u⟩,y⟩:=f
 have e:c=r:=ext_getElem? λi=>by
  grind
 subst e;exact⟨c.map VV.enc,HE c,j,bo,bo,g⟩
theorem Z7:cz 244 cLQ:=by
 refine gW func244 ?_;rintro z m h K ⟨o,s,r,rfl,y,f⟩;refine⟨cZ [] [] [] [] false,rfl,aI,Ty o s m h K,bh,?_⟩;dsimp only[Ty,push_cast];have C:=bI.slen y
 have c:¬(o.kind=1/\0<=o.index/\o.index<r.length)->branch (o.kind==3) (K (CV.tup [aV o.value,cB true]) m h) (K (CV.tup [aV zeroV,cB false]) m h):=λg=>by
  unfold Bf at f;refine aC (λe=>?_) (λe=>?_)
  .grind
  grind
 have d:∀X,¬(o.kind=1/\0<=o.index/\o.index<r.length)->branch (o.kind==2) (branch (decide (o.index>=0)) (branch (decide (o.index<((0:Nat):Int))) X (branch (o.kind==3) (K (CV.tup [aV o.value,cB true]) m h) (K (CV.tup [aV zeroV,cB false]) m h))) (branch (o.kind==3) (K (CV.tup [aV o.value,cB true]) m h) (K (CV.tup [aV zeroV,cB false]) m h))) (branch (o.kind==3) (K (CV.tup [aV o.value,cB true]) m h) (K (CV.tup [aV zeroV,cB false]) m h)):=λX g=>
  aC (λ_=>aF (λj=>aF (λn=>absurd n aD) (λ_=>c g)) (λ_=>c g)) (λ_=>c g)
 refine aC (λj=>aF (λn=>aF (λD=>?_) (λD=>d _ aD)) (λn=>d _ aD)) (λj=>d _ (λe=>bo));have j:o.kind=1:=bo
 have E:r[o.index.toNat]? =some (r.getD o.index.toNat zeroV):=by
  grind
 obtain⟨b,u,v,e,rd,ev⟩:=bI.at y E;have f:=f true (λe=>by cases e);unfold Bf at f;rw[if_neg aD,if_pos ⟨j,aD,aD⟩,ev]at f;exact⟨b,u,e,aD,aD,_,.imm rd,f⟩
theorem Z6:cz 245 cbX:=by
 refine gW func245 ?_;rintro E m h K ⟨c,a,b,rfl,d⟩;refine⟨cZ [(166,OR),(119,OU)] [] [] [] false,rfl,aE Ke (aE Kj aI),Tx c a b m h K,bh,?_⟩;dsimp only[Tx,push_cast];have C:uB c a b=false->K (cB false) m h:=λe=>bo
 refine⟨a,rfl,aC (λn=>C ?_) (λn=>⟨b,rfl,aC (λo=>C ?_) (λo=>aC (λu=>C ?_) (λu=>⟨a,b,rfl,?_⟩))⟩)⟩
 .have n:kM a=false:=bo
  simp[uB,n]
 .have o:kM b=false:=bo
  simp[uB,o]
 .have u:a.kind≠b.kind:=bo
  simp[uB,u]
 .have n:kM a=true:=bo
  have o:kM b=true:=bo
  have u:a.kind=b.kind:=bo
  have F:uB c a b=WC c (kT a b):=by simp[uB,n,o,u]
  rw[F]at d;unfold WC at d;refine aC (λf=>?_) (λf=>aC (λg=>?_) (λg=>aC (λj=>?_) (λj=>aC (λy=>?_) (λy=>aC (λz=>?_) (λz=>aC (λD=>?_) (λD=>?_))))))
  all_goals simp only[beq_iff_eq,beq_eq_false_iff_ne]at*
  .rw[if_pos f]at d;exact d
  .rw[if_neg f,if_pos g]at d;exact d
  .rw[if_neg f,if_neg g,if_pos j]at d;exact d
  .rw[if_neg f,if_neg g,if_neg j,if_pos y]at d;exact d
  .rw[if_neg f,if_neg g,if_neg j,if_neg y,if_pos z]at d;exact d
  .rw[if_neg f,if_neg g,if_neg j,if_neg y,if_neg z,if_pos D]at d;exact d
  .rw[if_neg f,if_neg g,if_neg j,if_neg y,if_neg z,if_neg D]at d;exact d
theorem Yl:∀N,cz 211 (Wh N)
 |0=>by
  refine eG (fn:=Tryz.f211) (c:=dQ Tryz.f211) func211 rfl bj ?_;rintro L m h K ⟨v,s,p,r,rfl,_,_,Y,_⟩;omega
 |N+1=>by
  refine gW func211 ?_;rintro L m h K ⟨v,s,p,r,rfl,Z,o,Y,d⟩;refine⟨bIJ N v s m h,rfl,aE Z7 (aE Z6 (aE (Yl N) aI)),TG N v s m h K,bh,?_⟩;dsimp only[TG,push_cast];have g:=@yW p;obtain⟨op,a',l,q,ps⟩:=p;obtain⟨rfl,rfl,rfl,rfl,z⟩:=Z.parts;have M:=z.slen;have Q:=z.len;simp only[Pred.args]at g;simp only[iX]at d;refine aC (λR=>?_) (λR=>aC (λS=>?_) (λS=>aC (λT=>?_) (λT=>aC (λU=>?_) (λU=>aC (λh6=>?_) (λh6=>?_)))))
  .rw[if_pos bo]at d;exact d
  all_goals have V:v.op≠1:=bx R
  .rw[if_neg V,if_pos bo]at d;have z1:uB v.cmp zeroV (Bf r v.right)=false:=by simp[uB,show kM zeroV=false from rfl]
   have z2:uB v.cmp (Bf r v.left) zeroV=false:=by simp[uB,show kM zeroV=false from rfl]
   refine⟨v.left,s,r,rfl,o,λok n=>⟨v.right,s,r,rfl,o,λa0 e2=>aC (λI=>aC (λW=>⟨_,_,_,rfl,d⟩) (λW=>?_)) (λI=>?_)⟩⟩
   .rw[show Bf r v.right=zeroV from e2 W,z2]at d;exact d
   .rw[show Bf r v.left=zeroV from n I,z1]at d;exact d
  all_goals have n3:v.op≠3:=bx S
  all_goals rw[if_neg V,if_neg n3]at d
  .rw[if_pos bo,H3]at d;refine⟨λi=>i<=ps.length/\∀j:Nat,j<i->∀x,ps[j]? =some x->iX r x=true,λi=>ps.length-i,⟨0,⟨aD,λj C=>by omega⟩,MT⟩,λi⟨hi,D⟩=>aF (λe=>?_) (λO=>?_)⟩
   .obtain⟨x,f⟩:=dW M e;obtain⟨E,F,u,n,J,G⟩:=z.at f;have:=g (ce f);refine⟨E,F,n,aD,e,u,.imm J,u,s,x,r,rfl,G,o,aD,aC (λP=>?_) (λX=>⟨i+1,⟨aD,λj C y H=>?_⟩,(show ps.length-(i+1)<ps.length-i by omega),MT⟩)⟩
    .have:ps.all (iX r)=false:=by
      grind
     rw[this]at d;exact d
    grind
   .have:ps.all (iX r)=true:=by
     rw[all_eq_true];intro y H;obtain⟨j,C⟩:=getElem?_of_mem H
     grind
    rw[this]at d;exact d
  all_goals have n4:v.op≠4:=bx T
  all_goals rw[if_neg n4]at d
  .rw[if_pos bo,H0]at d;refine⟨λi=>i<=ps.length/\∀j:Nat,j<i->∀x,ps[j]? =some x->iX r x=false,λi=>ps.length-i,⟨0,⟨aD,λj C=>by omega⟩,MT⟩,λi⟨hi,D⟩=>aF (λe=>?_) (λO=>?_)⟩
   .obtain⟨x,f⟩:=dW M e;obtain⟨E,F,u,n,J,G⟩:=z.at f;have:=g (ce f);refine⟨E,F,n,aD,e,u,.imm J,u,s,x,r,rfl,G,o,aD,aC (λX=>?_) (λP=>⟨i+1,⟨aD,λj C y H=>?_⟩,(show ps.length-(i+1)<ps.length-i by omega),MT⟩)⟩
    .have:ps.any (iX r)=true:=any_eq_true.2 ⟨x,ce f,X⟩;rw[this]at d;exact d
    grind
   .have:ps.any (iX r)=false:=by
     rw[any_eq_false];intro y H;obtain⟨j,C⟩:=getElem?_of_mem H
     grind
    rw[this]at d;exact d
  all_goals have n5:v.op≠5:=bx U
  all_goals rw[if_neg n5]at d
  .rw[if_pos bo]at d;refine aF (λI=>?_) (λI=>?_)
   .obtain⟨x,f⟩:=dW (i:=0) M aD;obtain⟨E,F,u,n,J,G⟩:=z.at f;have:=g (ce f)
    have e7:Q5 r ps= !iX r x:=by
     cases ps with
     |nil=>simp at f
     |cons y _=>simp at f;subst f;rfl
    rw[e7]at d;exact⟨E,F,n,aD,aD,u,.imm aD,u,s,x,r,rfl,G,o,aD,d⟩
   .have:ps=[]:=length_eq_zero_iff.1 aD;subst this;exact d
  .rw[if_neg bo]at d;exact d
theorem abX:cz 211 Wi:=iE Yl λ_ _ _ _⟨v,s,p,r,e,c,d,f⟩=>⟨SizeOf.sizeOf p+1,v,s,p,r,e,c,d,aD,f⟩
end Go.Ps
