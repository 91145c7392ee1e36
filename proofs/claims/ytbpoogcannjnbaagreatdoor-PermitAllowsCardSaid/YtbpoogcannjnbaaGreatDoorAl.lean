/- Own work. -/
import Derived.Test.YtbpoogcannjnbaaGreatDoorAk
noncomputable section
namespace Go.Ps
open Go Go.Vc Go.Proofs List Tryz
variable{K:tt}{m:MH}{h:PH}{s:kD}{ps:ti}{cb:Nat}{sc:bQ}{v:QV}{q:ae}{p:ao}{l:ti}{i N:Nat}{m':MH}{h':PH}{w:ao}{rs:ti}{r:Sl}{a:ti}{b:Nat}
def T5(rs:List jV)(pk:ti)(c:List jV):=pk.length=2\/16<c.length\/(pk=[4]/\c.length=rs.length/\∀d∈c,∃u∈rs,d.av=u.av\/QS u.av d.av)
def cRX:AC:=λd m h K=>∃cb p r rs,d=[cP cb,KI p r]/\aJ m h cb/\iB h p r [4] rs/\rs.length<=16/\(∀u∈rs,Ja u.av/\u.ak.length<=1000)/\
 ∀e f g c m' h',PH.le h h'->iB h' e f g c->T5 rs g c->aZ m m' cb->aJ m' h' cb->K (KI e f) m' h'
def dtX(cb:Nat):=tH [(13,ES),(20,FZ),(33,YD),(34,dXZ)]
 [(7,{A:=Sl×Sl×MH×PH,st:=λ⟨p,r,m,h⟩=>bO 90 92 [SW 3,SW 4] [(3,.cells 34 [.val p.val,.val r.val]),(4,.cells 34 [.val bS.val,.val bS.val])] m h})]
 [(4,{A:=Sl×Sl×MH×PH,po:=true,st:=λ⟨p,r,m,h⟩=>bO 90 92 [SW 3,SW 4] [(3,.cells 34 [.val p.val,.val r.val]),(4,.cells 34 [.val bS.val,.val bS.val])] m h}),
  (17,{A:=Sl×Sl×MH×PH,po:=true,st:=λ⟨p,r,m,h⟩=>bO 90 92 [SW 3,SW 4] [(3,.cells 34 [.val p.val,.val r.val]),(4,.cells 34 [.val bS.val,.val bS.val])] m h})] [] [1031,1032,0] [] false
abbrev Hd(a:MH->Prop)(b:PH)(c:Sl×Sl×MH×PH->Prop)(d e:Sl):=∀x,a x->uP x b->∃f,c f/\cR/\eZ/\oQ 34 (j9 (rF d) e)=oQ 34 (j9 (rF f.1) (rA f))/\eV yO (wA x b (rT f) (tC f))
attribute [push_cast] Hd
def aqX(cb:Nat)(p r:Sl):ST:=λm h K=>∃x,tG (cH m jT 70 24 x) (λy=>dA 24 y/\mH m h (bK r) 24 y/\lK x y 320/\cJ (lL x y)/\fY (λs F=>let N:=λd=>K (mX (gI d.1 (rA d))) (rT d) (tC d);cL m F jT s 70 24 (x++y)->dP (aF s) 0 (M7 (λI=>∃d,tG (cH F jT 3 1 d) (λf=>dA 1 f/\mH F h (bK p) 1 f/\lK d f 8/\cJ (lL d f)/\fY (λt B=>cL F B jT t 3 1 (d++f)->Fc cb B h (λn D e=>cH D (bK t) 3 1 e/\cJ (fS e 1*8)/\fA e/\∀C,Hd (λj=>cL D j (bK t) C 3 1 (hZ e (bV n))) h I C s)))) N) (lD cb 5 F h (λc S=>∀B,aZ F B c->aJ B h c->branch S (M7 (λI=>∃d,tG (cH B jT 3 1 d) (λf=>dA 1 f/\mH B h (bK p) 1 f/\lK d f 8/\cJ (lL d f)/\fY (λt D=>cL B D jT t 3 1 (d++f)->Fc cb D h (λn j e=>cH j (bK t) 3 1 e/\cJ (fS e 1*8)/\fA e/\∀C,Hd (λg=>cL j g (bK t) C 3 1 (hZ e (bV n))) h I C s)))) N) (iN cb (aF s) B h (λk D=>aM (λb o=>aR s.a b o/\0<=k/\k<aF s/\M7 (λI=>iN cb 5 D h (λJ j=>dJ (J==0) (xC cb j h (λu n=>∀g,aZ j g u->aJ g h u->i6 (λA E=>yA g b (gU A E 0)/\iP (fJ (dN o k 24)) A/\Hd (λz=>cF g z b (rC A (fJ (dN o k 24)) (bV n)) E) h I p s))) (J==1) (xC cb j h (λu n=>∀g,aZ j g u->aJ g h u->i6 (λA E=>yA g b (gU A E 0)/\iP (dG (dN o k 24)) A/\Hd (λz=>cF g z b (rC A (dG (dN o k 24)) (bV n)) E) h I p s))) (dJ (J==2) (∃f,Iz j h b (dN o k 24+2) f (λd=>tG (cH j jT 3 1 d) (λH=>dA 1 H/\mH j h (bK f) 1 H/\lK d H 8/\cJ (lL d H)/\fY (λt g=>cL j g jT t 3 1 (d++H)->Fc cb g h (λn z e=>cH z (bK t) 3 1 e/\cJ (fS e 1*8)/\fA e/\fY (λC P=>cL z P (bK t) C 3 1 (hZ e (bV n))->i6 (λu E=>yA P b (gU u E 0)/\iP (dN o k 24+2) u/\Hd (λT=>cF P T b (rC u (dN o k 24+2) (aT C)) E) h I p s))))))) (J==3) (∃f:QV,aK j h b (dN o k 24+3) f.ag/\∃u,mQ (λv q=>bL (jN cb) f.ag=bL (jN u) v.ag/\aJ j h u/\cQ h q v/\Ja q/\∀Q R,iK (λg L=>cO h L (cQ L Q R) (QS q Q->aZ j g u->rD g L u (i6 (λA E=>yA g b (gU A E 0)/\dN o k 24+3+21<=A.size/\Hd (λz=>cF g z b (rC A (dN o k 24+3) R.ag) E) L I p s)))))) (∃(I1:Sl×Sl×MH×PH->Prop)(g:Sl×Sl×MH×PH->Nat),(∃d,I1 d/\cR/\eZ/\oQ 34 (j9 (rF p) s)=oQ 34 (j9 (rF d.1) (rA d))/\kO yO (iU j d.2) (dH h d.2.2))/\∀d,I1 d->F3 (aF (rA d)) 16 (aM (λM O=>aR (rA d).a M O/\(0:Int)<=0/\0<aF (rA d)/\∃f:dL,let U:=aK (rT d) (tC d) M (fJ O) f.ag;uF U U (λe=>cH (rT d) (bK (rA d)) 70 24 e/\cJ (fS e 1*320)/\fA e/\fY (λt z=>cL (rT d) z (bK (rA d)) t 70 24 (hZ e f.ag)->aK z (tC d) M (fJ O) f.ag/\∃G,I1 G/\g G<g d/\cR/\eZ/\oQ 34 (j9 (rF d.1) t)=oQ 34 (j9 (rF G.1) (rA G))/\yO/\iU z G.2/\dH (tC d) G.2.2/\True)))) (uP (rT d) (tC d)->∃e,I e/\cR/\eZ/\oQ 34 (j9 (rF d.1) (rA d))=oQ 34 (j9 (rF e.1) (rA e))/\eV yO (wA (rT d) (tC d) (rT e) (tC e))))))) N)))))))
theorem A1{m0 u w}{l:List dL}{t v}(x:fU m0 u w 70 24 (l.map dL.ag))(E:l[t]?=some v)(B:w.a=some ⟨b,0,none⟩):(∀hx o n d,(v.ag.drop o).take n=d->d.length=n->o+n<=24->aK u hx b (0+t*24+o) d)/\
 ∃cs:Array Value,yA u b (.cells cs 70 (0,0))/\0+t*24+24<=cs.size/\∀o d y m',o+d.length<=24->aq v.ag o d=y.ag->iZ u m' b (.cells ⟨aq cs.toList (0+t*24+o) d⟩ 70 (0,0))->fU m0 m' w 70 24 ((l.set t y).map dL.ag):=by
 have F:=(sg E);have C:(l.map dL.ag)[t]?=some v.ag:=da
 rcases x.row.ex with⟨rfl,_⟩|⟨O,g,c,rfl,D,z,A,G,f⟩
 .cases B
 cases B;rw[length_map]at z f;have H:c.toList.length=g*24:=by omega
 have P:(c.toList.drop (0+t*24)).take 24=v.ag:=by
  have I:=Go.Vc.oR (Mh l).len C;rw[<-f]at I;apply ext_getElem?;intro j;have J:v.ag.length=24:=rfl
  grind
 refine⟨λhx o n d Q R L=>.dx c 70 (0,0) D ?_,c,⟨D⟩,aC,λo d y m' L e M=>⟨⟨Mh _,.inr ⟨b,g,⟨aq c.toList (0+t*24+o) d⟩,bu,M.y,cv,A,?_,?_⟩⟩,x.f⟩⟩
 .grind[drop_take,drop_drop,Nat.min_eq_left]
 .grind[aq,qM]
 .show(aq c.toList (0+t*24+o) d).take _=_;rw[length_map,length_set,EV _ _ _ _ aC aC,f,Nat.zero_add,Go.Vc.dw (Mh l).len C da,e,map_set]
theorem b7X:uz 14 cRX:=by
 refine gV func14 ?_;rintro c8 m h K⟨cb,p,r,rs,rfl,hc,hp,c9,hq,hK⟩;refine⟨dtX cb,rfl,aD EP (aD qR (aD Po (aD b1J aG))),aqX cb p r,bt,?_⟩;dsimp only[aqX,push_cast];have⟨l,ra,hR⟩:=BD.of hp.jf;have d':=hR.len;have a':=hp.params;have⟨d0,a0⟩:=hc.cj;have a9:m cb≠none:=by rw[a0];simp
 have du:∀{C:MH}{y:PH}{sx px:Sl}{pk:ti}{D:List dL}{E:List jV},fU m C sx 70 24 (D.map dL.ag)->BD (kC m C y) D E->E.length<=1000->an (kC m C y) px pk->T5 rs pk E->dl m C cb->aJ C y cb->PH.le h y->uP C y->∃pk E,iB (kC m C y) px sx pk E/\T5 rs pk E/\aZ m (iX m C) cb/\aJ (iX m C) (kC m C y) cb/\PH.le h (kC m C y):=λfr hr hl hi sp k c le d=>⟨_,_,⟨hi,hr.cs fr.ig hl⟩,sp,gv k,Kd c a9 d,le.trans (mU d)⟩
 obtain⟨I,hI⟩:∃I:Sl×Sl×MH×PH->Prop,I=λz=>∃pk E,iB z.2.2.2 z.1 z.2.1 pk E/\T5 rs pk E/\aZ m z.2.2.1 cb/\aJ z.2.2.1 z.2.2.2 cb/\PH.le h z.2.2.2:=⟨_,rfl⟩
 have fe:∀x:Sl×Sl×MH×PH,I x->K (KI x.1 x.2.1) x.2.2.1 x.2.2.2:=by
  grind
 refine⟨[],cH.nil _ _ _,l.map dL.ag,Mh l,.ay ra,da,da,λM m1 g1=>?_⟩;rw[nil_append]at g1;have T:fU m m1 M 70 24 (l.map dL.ag):=⟨g1.row,λb i e=>(g1.f b i e).elim id λ⟨_,e⟩=>by cases e⟩
 have k1:dl m m1 cb:=λb o e _=>g1.ai b o e λi e2=>by cases e2
 have c1:aJ m1 h cb:=hc.br (by rw[a0];exact g1.ai cb _ a0 λi e=>by cases e) (.refl _);have d1:M.len=l.length:=by have:=cH.e T.row;simpa using this
 refine aB (λe=>⟨I,?a,fe⟩) (λe=>⟨cb,5,rfl,aC,aC,c1,λb2 m2 o2 c2=>aB (λ_=>⟨I,?b,fe⟩) (λ_=>?c)⟩)
 case' a=>have c2:=c1;have k2:=k1;have U:=T
 case' b=>have k2:=k1.on o2;have U:=T.on o2 c1 bx
 case a|b=>
  refine⟨[],cH.nil _ _ _,_,lZ [4],.ay a'.row,bu,bu,λs2 m3 H=>⟨cb,rfl,?_,λn m4 o4 F=>?_⟩⟩
  all_goals
   rw[nil_append]at H;have c3:aJ m3 h cb:=c2.br (by have⟨cs,e⟩:=c2.cj;rw[e];exact H.ai cb _ e λi e=>by cases e) (.refl _)
  .exact c3
  have k3:dl m m3 cb:=λb o e ne=>H.ai b o (k2 b o e ne) λi e=>by cases e
  have b1:fU m m3 s2 3 1 ([4].map eI):=⟨H.row,λb i e=>(H.f b i e).elim (λe=>k2.jb c2 e) λ⟨_,e⟩=>by cases e⟩
  have J:=U.off H λ_ _ _ _ e=>by cases e
  have Q:=b1.on o4 c3 bx;have A:=J.on o4 c3 bx;have V:=k3.on o4;refine⟨_,Q.row,bu,bu,λs3 L g5 d=>⟨(s3,M,iX m L,kC m L h),?_,FT⟩⟩;have a1:=Q.up g5 λb o e=>.inr (V.held F b o e);rw[hI];exact du (A.off g5 (A.ne Q bx)) (hR.mono (mU d)) aC (pk:=[4,n]) ⟨a1.ig,bu⟩ (.inl rfl) (V.dr Q g5) (F.br (cL.fh g5 Q F bx) (.refl _)) (.refl _) d
 have k2:=k1.on o2;have U:=T.on o2 c1 bx;have e:M.len≠0:=mp e
 refine⟨cb,_,rfl,c2,λk m3 k0 kn o3 c3=>?_⟩;obtain⟨i,rfl⟩:=Int.eq_ofNat_of_zero_le k0;have b3:i<l.length:=by omega
 obtain⟨v,hv⟩:∃v,l[i]?=some v:=⟨_,sh b3⟩
 obtain⟨u,hu⟩:∃u,rs[i]?=some u:=⟨_,sh aC⟩
 have⟨v',a4,f⟩:=hR.fm i u hu;rw[hv]at a4;cases a4;have a5:=si hu;have⟨b4,d2⟩:=hq u a5;have k3:=k2.on o3;have J:=U.on o3 c2 bx
 obtain⟨b,W⟩:∃b,M.a=some ⟨b,0,none⟩:=by
  have⟨b,e1,_⟩:=cH.rd (h:=h) J.row (i:=i) (e:=v.ag) da;exact⟨b,e1⟩
 have sp:∀u',(u'.av=u.av\/QS u.av u'.av)->T5 rs [4] (rs.set i u'):=λu' b5=>.inr (.inr ⟨rfl,bu,λx y=>(mem_or_eq_of_mem_set y).elim (λy=>⟨x,y,.inl rfl⟩) (λy=>⟨u,a5,by rw[y];exact b5⟩)⟩);rw[Int.toNat_natCast]
 have one:∀{C B:MH}{y:PH}{u':jV}{v':dL},fU m B M 70 24 ((l.set i v').map dL.ag)->OC (kC m B y) u' v'->(u'.av=u.av\/QS u.av u'.av)->dl m C cb->aJ C y cb->(∀G o,G≠b->C G=some o->B G=some o)->PH.le h y->uP B y->I (p,M,iX m B,kC m B y):=fun{C B y u' v'} fr hr hs k c ho le d=>by
  have d3:b≠cb:=λe2=>by
   have:=J.f b 0 W
   grind
  rw[hI];refine du fr ((hR.mono (le.trans (mU d))).set hr) cv ((a'.mono le).mono (mU d)) (sp u' hs) (λG o e2 ne=>?_) (c.br (by have⟨cs,e2⟩:=c.cj;grind) (.refl _)) le d;refine ho G o (λe3=>?_) (k G o e2 ne);rw[e3,J.f b 0 W]at e2;cases e2
 refine⟨b,0,W,aC,aC,I,⟨cb,5,rfl,c3,λj m4 j0 jn o4 F=>?_⟩,fe⟩;have V:=k3.on o4;have A:=J.on o4 c3 bx;refine aB (λ_=>⟨cb,rfl,F,λn L Z X=>?_⟩) (λ_=>aB (λ_=>⟨cb,rfl,F,λn L Z X=>?_⟩) (λ_=>aB (λ_=>?_) (λ_=>aB (λ_=>?_) (λ_=>?_))))
 .have⟨_,cs,ma,a2,put⟩:=A1 (A.on Z F bx) hv W;exact⟨cs,70,ma,aC,λB O d=>⟨(p,M,iX m B,kC m B h),one (put 0 [.int .i64 n] {v with kind:=n} B bu rfl O) (u':={u with kind:=n}) ⟨rfl,f.dd,f.ft.mono (mU d),f.ia.mono (mU d)⟩ (.inl rfl) (V.on Z) X (λG o ne e=>by rw[O.ai G ne];exact e) (.refl _) d,FT⟩⟩
 .have⟨_,cs,ma,a2,put⟩:=A1 (A.on Z F bx) hv W;exact⟨cs,70,ma,aC,λB O d=>⟨(p,M,iX m B,kC m B h),one (put 1 [.int .i64 n] {v with ah:=n} B bu rfl O) (u':={u with ah:=n}) ⟨f.ie,rfl,f.ft.mono (mU d),f.ia.mono (mU d)⟩ (.inl rfl) (V.on Z) X (λG o ne e=>by rw[O.ai G ne];exact e) (.refl _) d,FT⟩⟩
 .have⟨rd,_⟩:=A1 A hv W;refine⟨v.aa,rd h 2 1 _ rfl rfl aC,[],cH.nil _ _ _,_,lZ u.ak,.ay f.ft.row,cv,cv,λs2 L H=>⟨cb,rfl,?_,λn B o6 c6=>?_⟩⟩
  all_goals
   rw[nil_append]at H;have X:aJ L h cb:=F.br (by have⟨cs,e⟩:=F.cj;rw[e];exact H.ai cb _ e λi e=>by cases e) (.refl _)
  .exact X
  have k5:dl m L cb:=λb o e ne=>H.ai b o (V b o e ne) λi e=>by cases e
  have a1:fU m L s2 3 1 (u.ak.map eI):=⟨H.row,λb i e=>(H.f b i e).elim (λe=>V.jb F e) λ⟨_,e⟩=>by cases e⟩
  have R:=a1.on o6 X bx;have a6:=(A.off H λ_ _ _ _ e=>by cases e).on o6 X bx;have k6:=k5.on o6;refine⟨_,R.row,cv,cv,λs3 m7 g7=>?_⟩;have b6:=R.up g7 λb o e=>.inr (k6.held c6 b o e);have b7:=a6.off g7 (a6.ne R bx);have c7:aJ m7 h cb:=c6.br (cL.fh g7 R c6 bx) (.refl _);have⟨_,cs,ma,a2,put⟩:=A1 b7 hv W;refine⟨cs,70,ma,aC,λm8 O d=>⟨(p,M,iX m m8,kC m m8 h),one (put 2 [Sl.val s3] {v with aa:=s3} m8 bu rfl O) (u':={u with ak:=u.ak++[n]}) ⟨f.ie,f.dd,?_,f.ia.mono (mU d)⟩ (.inl rfl) (k6.dr R g7) c7 (λG o ne e=>by rw[O.ai G ne];exact e) (.refl _) d,FT⟩⟩;have b8:=b6.dv ma.y O bx;exact⟨by rw[sn];exact b8.ig,cv⟩
 .have⟨rd,_⟩:=A1 A hv W;refine⟨v.av,rd h 3 21 _ rfl rfl aC,cb,v.av,u.av,rfl,F,f.ia,b4,λq' w L h5 a7 rq qs Z X=>?_⟩;have⟨_,cs,ma,a2,put⟩:=A1 (A.on Z F bx) hv W;exact⟨cs,70,ma,aC,λB O d=>⟨(p,M,iX m B,kC m B h5),one (put 3 (QV.ag w) {v with av:=w} B (Nat.le_refl 24) rfl O) (u':={u with av:=q'}) ⟨f.ie,f.dd,f.ft.mono (a7.trans (mU d)),rq.mono (mU d)⟩ (.inr qs) (V.on Z) X (λG o ne e=>by rw[O.ai G ne];exact e) a7 d,FT⟩⟩
 .refine⟨λz=>p=z.1/\h=z.2.2.2/\∃D E,fU m z.2.2.1 z.2.1 70 24 (D.map dL.ag)/\BD h D E/\1<=D.length/\D.length<=17/\dl m z.2.2.1 cb/\aJ z.2.2.1 h cb,λz=>17-z.2.1.len,⟨(p,M,m4,h),⟨rfl,rfl,l,rs,A,hR,aC,aC,V,F⟩,MT⟩,?_⟩;rintro⟨_,sx,C,_⟩⟨rfl,rfl,D,E,P,y,x1,d4,kx,cx⟩;dsimp only at P kx cx⊢
  have d5:=y.len;have d6:sx.len=D.length:=by have:=cH.e P.row;simpa using this
  obtain⟨S,a3⟩:∃S,D[0]?=some S:=⟨_,sh aC⟩
  obtain⟨u0,b9⟩:∃u0,E[0]?=some u0:=⟨_,sh aC⟩
  have⟨d7,e0,c'⟩:=y.fm 0 u0 b9;rw[a3]at e0;cases e0
  obtain⟨b0,Y⟩:∃b,sx.a=some ⟨b,0,none⟩:=by
   have⟨b,e1,_⟩:=cH.rd (h:=h) P.row (i:=0) (e:=S.ag) da;exact⟨b,e1⟩
  have a8:=(A1 P a3 Y).1 h 0 24 S.ag rfl rfl aC;refine aE (λd8=>⟨b0,0,Y,aC,aC,S,a8,a8,_,P.row,da,da,λs2 L g=>?_⟩) (λd9 d=>⟨(p,sx,iX m C,kC m C h),?_,FT⟩)
  .have f5:=P.up g λb o e=>.inr (kx.held cx b o e);rw[show D.map dL.ag++[S.ag]=(D++[S]).map dL.ag by grind]at f5;have e':s2.len=D.length+1:=by have:=cH.e f5.row;simpa using this
   have c0:aK L h b0 (0+0) S.ag:=by
    rcases g.bj with e|ke
    .exact(A1 f5 (t:=0) da (by rw[e];exact Y)).1 h 0 24 S.ag rfl rfl aC
    .have f6:fU m L sx 70 24 (D.map dL.ag):=⟨cH.br P.row λb i e=>by have⟨e4,h1⟩:=cH.cj P.row e;grind,P.f⟩
     exact(A1 f6 a3 Y).1 h 0 24 S.ag rfl rfl aC
   exact⟨c0,(p,s2,L,h),⟨rfl,rfl,D++[S],E++[u0],f5,y.cw c',bu,cv,kx.dr P g,cx.br (cL.fh g P cx bx) (.refl _)⟩,da,MT⟩
  .rw[hI];exact du P (y.mono (mU d)) aC (a'.mono (mU d)) (.inr (.inl aC)) kx cx (.refl _) d
def TR s pk rs ps st st2 cs:=if jH s pk rs ps=0 then Ee s (As s ps st st2 cs rs) cs 0 else[]
def aDZ:AC:=λe m h K=>∃sc p r pv g j s c rs ps f d cs,e=[aS sc,KI p r,cS pv,KH g,cS j]/\dV h s sc/\iB h p r c rs/\bF h pv ps/\tI h g f/\sX h j cs/\kN m/\(jH s c rs ps=0->wB s c rs ps f d cs)/\
 ∀x h',PH.le h h'->K4 h' x (TR s c rs ps f d cs)->K (.dg [cS x,cI (jH s c rs ps)]) m h'
def Da s pk rs ps st st2 cs:=if TR s pk rs ps st st2 cs=[]then jH s pk rs ps else 170
def c3Q:AC:=λe m h K=>∃sc p r pv g j s d rs ps f c cs,e=[aS sc,KI p r,cS pv,KH g,cS j]/\dV h s sc/\iB h p r d rs/\bF h pv ps/\tI h g f/\sX h j cs/\kN m/\(jH s d rs ps=0->wB s d rs ps f c cs)/\
 ∀h',PH.le h h'->K (cI (Da s d rs ps f c cs)) m h'
def csX:=WP [(16,aDZ)]
def Pt(sc:bQ)(p r vs sl B:Sl):ST:=λm h K=>D3 (λs t u y z c d e f g n A o=>bE (cW sc) (bE (gI p r) (bU vs (gO (aT sl) B)))=bE (cW s) (bE (gI t u) (bU y (gO (aT z) c)))/\dV h d s/\iB h t u e f/\bF h y g/\tI h z n/\sX h c o/\kN m/\(jH d e f g=0->wB d e f g n A o)/\jA (λx j=>cO h j (K4 j x (TR d e f g n A o)) (wQ (jH d e f g !=0) (K (fD (jH d e f g)) m j) (aF x) 0 (K (fD 170) m j) (K (fD 0) m j))))
theorem Si{r}(le:PH.le h h')(c:K r m h'):dR h K r m h':=λ_=>⟨m,h',λ_ _ e=>e,le,λ_ _ _ e=>.inl e,c⟩
theorem drQ{p vs sl n pk rs ps}(o:dV h s sc)(g:iB h p r pk rs)(t:bF h vs ps)(f:jH s pk rs ps≠0)(d:∀h',PH.le h h'->K (.dg [cS bS,cI (jH s pk rs ps)]) m h'):Gv sc p r vs sl n m h (dR h K):=by
 dsimp only[Gv,push_cast];unfold jH at f d;refine⟨sc,p,r,s,pk,rs,rfl,o,g,λj c=>aB (λe=>?_) (λe=>?_)⟩
 .rw[if_pos (mp e)]at d;exact Si c (d j c)
 rw[if_neg (mp e)]at f d;refine⟨p,vs,pk,ps,rfl,g.params.mono c,bF.mono t c,aB (λe=>?_) (λe=>?_)⟩
 .rw[if_neg (mp e)]at d;exact Si c (d j c)
 .rw[if_pos (mp e)]at f;exact absurd rfl f
theorem a3J:uz 16 aDZ:=by
 have B:uz 16 (λc m h K=>∃sc p r pv g j s d rs ps,c=[aS sc,KI p r,cS pv,KH g,cS j]/\dV h s sc/\iB h p r d rs/\bF h pv ps/\jH s d rs ps≠0/\∀h',PH.le h h'->K (.dg [cS bS,cI (jH s d rs ps)]) m h'):=by
  refine Uy func16 ?_;rintro c m h K⟨sc,p,r,pv,g,j,s,d,rs,ps,rfl,o,t,u,n,f⟩;refine⟨bxQ sc p r pv g j,rfl,aD Vw (aD Vv (aD Vu (aD Vt (aD Vs (aD Vr aG))))),Gv sc p r pv g j m h (dR h K),bt,?_⟩;exact drQ o t u n f
 refine⟨B.1,λc C m h w K E D=>?_⟩;obtain⟨sc,p,r,pv,g,j,s,d,rs,ps,F,y,cs,e,o,t,u,z,G,H,A,f⟩:=E;by_cases n:jH s d rs ps=0
 .unfold TR at f;rw[if_pos n,n]at f;exact PL.2 c C m h w K ⟨sc,p,r,pv,g,j,s,d,rs,ps,F,y,cs,e,o,t,u,z,G,H,A n,f⟩ D
 .unfold TR at f;rw[if_neg n]at f;exact B.2 c C m h w K ⟨sc,p,r,pv,g,j,s,d,rs,ps,e,o,t,u,n,λh' le=>f bS h' le (aU.nil _ _ _ _)⟩ D
theorem doX{p vs sl:Sl}{c pk rs ps st st2 cs}(g:dV h s sc)(j:iB h p r pk rs)(n:bF h vs ps)(d:tI h sl st)(o:sX h c cs)(t:kN m)(ok:jH s pk rs ps=0->wB s pk rs ps st st2 cs)(f:∀h',PH.le h h'->K (cI (Da s pk rs ps st st2 cs)) m h'):Pt sc p r vs sl c m h K:=by
 dsimp only[Pt,push_cast];unfold Da at f;refine⟨sc,p,r,vs,sl,c,s,pk,rs,ps,st,st2,cs,rfl,g,j,n,d,o,t,ok,λx h' le u=>?_⟩;have z:=aU.e u;have:=f h' le;refine aB (λe=>?_) (λe=>aE (λy=>?_) (λy=>?_))
 .have e:jH s pk rs ps≠0:=mp e
  rwa [if_pos (by rw[TR,if_neg e])]at this
 all_goals have e:jH s pk rs ps=0:=mp e
 .rwa [if_neg (λA=>da)]at this
 .rwa [if_pos (length_eq_zero_iff.1 aC),e]at this
theorem aSJ:uz 22 c3Q:=by
 refine gV func22 ?_;rintro d m h K⟨sc,p,r,pv,e,f,s,z,rs,ps,A,g,cs,rfl,j,n,o,c,t,u,ok,y⟩;refine⟨csX,rfl,aD a3J aG,Pt sc p r pv e f,bt,?_⟩;exact doX j n o c t u ok y
theorem ayZ{rs k st}(h:∀r∈rs,iM s [4] r=0)(z:∀r∈rs,rE 9 r.av<=8000000)(e:pX s st=0)(f:sd st)(g:∀l∈st,l.length<=9)(t:st.length<=1000):OG 8 s rs [xU k] st:=by
 have key:∀u∈rs,z8 8 s (eY [xU k] u.av)/\oU u.av<=900000/\oU (eY [xU k] u.av)<=900000/\iY (GK st (eY [xU k] u.av)):=λu c=>by
  have j:=(qN.1 (h u c)).2;have⟨y,n⟩:=Lh (cjX k) j;have o:rE 9 (eY [xU k] u.av)<=8000000:=by grind[KC]
  have A:=Jh (AK (s:=s) (ps:=[4]) (q:=u.av) (by rw[j])).2.2.1;have B:=Jh (AK (s:=s) (ps:=[]) (q:=eY [xU k] u.av) (by rw[y])).2.2.1;have⟨_,_,d,_⟩:=XI e f g aC n o;exact⟨⟨by rw[n],o⟩,aC,aC,d.jw⟩
 exact⟨λu c=>⟨(key u c).1,(key u c).2.1,(key u c).2.2.1⟩,e,g,t,f,λu c=>(key u c).2.2.2⟩
theorem c4X{k r st}(h:iM s [4] r=0)(c:pX s st=0):(uQ s st (eY [xU k] r.av)).1=GK st (eY [xU k] r.av):=by
 have⟨d,_⟩:=Lh (cjX k) (qN.1 h).2;simp_all[uQ]
theorem U2{c}(h:sV 1 s c=true):kK s c=xR s c:=by
 simp only[sV,su,Bool.or_eq_true,beq_iff_eq,Bool.not_eq_true',Bool.and_eq_false_iff,beq_eq_false_iff_ne]at h;obtain⟨⟨⟨⟨_,d⟩,_⟩,_⟩,e⟩:=h;unfold kK xR;by_cases f:c.bj.length=0
 .grind
 .rw[if_pos aC]
  grind[absurd,eX]
theorem Sb{t c:Int}{key:to}{f:jV->tj}:∀rs:List jV,yC t c key rs (rs.map f)=rs.any λu=>u.kind==2&&u.ah==t&&Lq (f u) key&&(decide (c<0)||u.ak.contains c)
 |[]=>rfl
 |u::rs=>by rw[map_cons,yC,any_cons,Sb rs]
theorem cPJ{α:Type}{p q:α->Bool}:∀{l:List α},(∀x∈l,p x=q x)->l.any p=l.any q
 |[],_=>rfl
 |x::l,h=>da
theorem aJX{rs k st st2 cs c}(h:∀r∈rs,iM s [4] r=0)(j:pX s st=0)(n:pX s st2=0)(f:c∈cs)(g:sV 1 s c=true) a d:
 Ix s rs (vX st rs [xU k]) (vX st2 rs [xU k]) c a d=pG (As s [xU k] st st2 cs rs c.j) (xR s c) a d:=by
 have o:uX cs c.j=true:=any_eq_true.2 ⟨c,f,bu⟩;have e:(if a=true then vX st2 rs [xU k]else vX st rs [xU k])=rs.map λr=>GK (if a=true then st2 else st) (eY [xU k] r.av):=by cases a<;>rfl
 unfold Ix;rw[e,Sb,U2 g];unfold pG As
 grind[any_map,any_filter,cPJ,c4X,Bool.and_comm,beq_eq_false_iff_ne]
theorem W6{N N':sZ->Bool->Int->Bool}{key d:sZ->to}:∀{cs:List sZ}{i:Nat},(∀c∈cs,N c=N' c/\key c=d c)->IW N key cs i=IW N' d cs i
 |[],_,_=>rfl
 |c::cs,i,h=>by rw[IW,IW,(h c bu).1,(h c bu).2,W6 λc e=>h c (by simp[e])]
theorem byX{s:kD}{wr:Int->List Wr}:∀{cs:List sZ}{i:Nat},Ee s wr cs i=IW (λc=>pG (wr c.j) (xR s c)) (xR s) cs i
 |[],_=>rfl
 |c::cs,i=>by rw[Ee,IW,byX,dwZ]
theorem cLJ{rs k st st2 cs}(h:∀r∈rs,iM s [4] r=0)(g:pX s st=0)(j:pX s st2=0)(f:∀c∈cs,sV 1 s c=true):
 Of s rs (vX st rs [xU k]) (vX st2 rs [xU k]) cs 0=Ee s (As s [xU k] st st2 cs rs) cs 0:=by
 rw[byX];exact W6 λc d=>⟨funext λa=>funext λe=>aJX h g j d (f c d) a e,U2 (f c d)⟩
def dyQ s pk rs:=∀k,jH s pk rs [xU k]=0->pk=[4]/\rs.length<=16/\(∀r∈rs,iM s [4] r=0)/\∀r∈rs,rE 9 r.av<=8000000
theorem cOX{pk rs ps}(h:jH s pk rs ps=0):qU s pk rs=0/\lH pk ps=true:=by
 grind[jH,absurd]
theorem c6Q{rs}(h:aBX s rs):dyQ s [4] rs:=λ_ _=>⟨rfl,by have:=h.jv;omega,h.ok,λr c=>aKX (biJ (h.nn r c))⟩
theorem c5J{rs c pk}(h:aBX s rs)(x:T5 rs pk c):dyQ s pk c:=λk f=>by
 have⟨g,z⟩:=cOX f;have⟨_,j,_,_,n⟩:=Sz.1 g;rcases x with x|x|⟨rfl,x,o⟩
 .grind[lH]
 .omega
 .refine⟨rfl,j,n,λr t=>?_⟩;obtain⟨u,d,e|e⟩:=o r t
  .rw[e];exact aKX (biJ (h.nn u d))
  .have A:=biJ (h.nn u d);have y:=(CO u.av (AK (s:=s) (ps:=[4]) (by rw[(qN.1 (h.ok u d)).2])).2.2.2).2;rcases e y with e|e
   .grind[aKX]
   grind[absurd,c6J,qN]
theorem caQ{s pk rs k st st2 cs}(d:dyQ s pk rs)(g:kU 1 s st cs=(st2,0))(j:pX s st=0)(n:pX s st2=0)(o:∀c∈cs,sV 1 s c=true):LF s pk rs [xU k] st cs=(TR s pk rs [xU k] st st2 cs,jH s pk rs [xU k]):=by
 unfold LF TR;by_cases e:jH s pk rs [xU k]=0
 .have⟨_,_,f,_⟩:=d k e;simp_all[cLJ]
 grind
theorem ccX{pk rs ps st st2}:Da s pk rs ps st st2 []=jH s pk rs ps:=by
 have:TR s pk rs ps st st2 []=[]:=by unfold TR;split<;>rfl
 grind[Da]
theorem QR{n:Int}:∀{cs:ti}{l:Int},kT n l cs=true->(cs.length:Int)<=max 0 (n-1-l)
 |[],_,_=>cv
 |c::cs,l,h=>by
  simp only[kT,su,s0]at h;have:=QR h.2
  grind
theorem ciJ{rs}(c:oX s)(h:aBX s rs):∀u∈rs,Ja u.av/\u.ak.length<=1000:=λu d=>by
 refine⟨(CO u.av (AK (s:=s) (ps:=[4]) (by rw[(qN.1 (h.ok u d)).2])).2.2.2).1,?_⟩;have⟨t,f,_,e,g,_⟩:=cgX (h.ok u d);have j:=QR g;have n:=(BO c (si e)).2.2.1;have o:=(Jl c e).1;omega
structure mi where
 sc:bQ
 p:Sl
 r:Sl
 st:Sl
 v:Sl
 ch:Sl
def dAZ(g:mi):=[UV 4 29 g.sc.ag,(5,.cells 34 [.val g.p.val,.val g.r.val]),(6,.cells 38 [.val g.st.val])]
def dTJ(g:mi):=[SW 4,SW 5,SW 6,(7,sv g.v),(8,sv g.ch)]
def dOJ:=dD [(7,dYJ),(8,cTZ),(9,bEX),(10,rx),(11,bEZ),(12,aEZ),(20,FZ),(14,cRX),(17,bHZ),(21,YW),(18,c2Z),(22,c3Q)] []
 [(9,{A:=mi×MH×PH,st:=λ⟨g,m,h⟩=>bO 73 74 (dTJ g) (dAZ g) m h}),
  (13,{A:=Int×Int×mi×MH×PH,st:=λ⟨a,b,g,m,h⟩=>bO 73 74 (dTJ g++[(11,iv a),(12,iv b)]) (dAZ g) m h})] [] false
set_option maxRecDepth 100000 in
abbrev qB(a:Int×Int×mi×MH×PH):=a.2.2.1
abbrev Ao(a:Int×Int×mi×MH×PH):=a.2.2.2
attribute [push_cast] qB Ao
def Yg(s:Sl):ST:=λm h K=>∃(s1:_)(c:_)(m1:Nat),fB s 280=fB s1 m1/\bT h s1 1 (dE c)/\tS s1/\qL m1/\∀g,iK (λm2 h1=>cO h h1 (Hx m g) (aZ m m2 g->aJ m2 h1 g->∃c2,eO (jN g) (jN c2)/\aJ m2 h1 c2/\∀s2 v,iK (λm3 F=>oX s2->dV F s2 v->cO h1 F (aZ m2 m3 c2) (rD m3 F c2 (∃c3,CN (λs3 s4=>bL (jN g) (cW v)=bL (jN c3) (cW s3)/\aJ m3 F c3/\dV F s4 s3/\oX s4/\∀p r r1,iK (λm4 G=>cO F G (iB G p r [4] r1) (aBX s4 r1->aZ m3 m4 c3->rD m4 G c3 (∃c4,wT (λv1 s5 m5=>eD g (dZ (jS v) 1)=eD c4 (dZ (jS v1) m5)/\aJ m4 G c4/\dV G s5 v1/\oX s5/\∀s6 s7,iK (λm6 V=>cO G V (tI V s7 s6) (YC s5 s6->(m5=1->Rb s5 s6)->aZ m4 m6 c4->aJ m6 V c4->∃c5,eO (jN g) (jN c5)/\aJ m6 V c5/\∀s8 k,iK (λm7 A=>dK k->k<4->cO V A (bF A s8 [VV.mk 4 k (ByteArray.mk (.mk []))]) (aZ m6 m7 c5->aJ m7 A c5->∃c6,CN (λv2 W=>xQ (λa a1=>∃m8:Nat,eD g (bE (cW v) (jO 1 (dZ (oL s7) 4)))=eD c6 (bE (cW v2) (jO 1 (dZ (oL a) m8)))/\aJ m7 A c6/\dV A W v2/\oX W/\tI A a a1/\UB 4 W a1/\m8<=5/\∀c7,∀_:Sl,∀c8 a2,iK (λm9 o=>cO A o (sX o c7 c8) (OE W a1 c8
 a2->UB (4+m8) W a2->c8.length<=m8->dl m7 m9 c6->rD m9 o c6 (∃I:mi×MH×PH->Prop,lD g 8 m9 o (λX r2=>∀y,aZ m9 y X->aJ y o X->branch r2 (∃B,lC (λY j=>∃C,bL (jN g) (gI p r)=bL (jN B) (gI Y j)/\aJ y o B/\iB o Y j [4] C/\C.length<=16/\(∀u,List.Mem u C->Ja u.av/\iW u.ak)/\∀Z H D t,iK (λJ f=>cO o f (iB f Z H D t) (T5 C D t->aZ y J B->rD J f B (∃x,I x/\eZ/\eP 5/\jW/\bC s8 x.1.v/\bC c7 x.1.ch/\vG v x.1.sc/\oQ 34 (j9 (rF Z) H)=oQ 34 (j9 (rF x.1.p) x.1.r)/\kO (iT s7 x.1.st) (fX J x.2) (dH f x.2))))))
 (∃x,I x/\eZ/\eP 5/\jW/\bC s8 x.1.v/\bC c7 x.1.ch/\vG v x.1.sc/\oQ 34 (j9 (rF p) r)=oQ 34 (j9 (rF x.1.p) x.1.r)/\kO (iT s7 x.1.st) (fX y x.2) (dH o x.2)))/\∀x,I x->∃X,CD (λy Y r2=>lC (λZ B=>∃J,IA (λz D j=>∃L M E,bE (cW x.1.sc) (bE (gI x.1.p x.1.r) (bU x.1.v (gO (aT x.1.st) x.1.ch)))=bE (cW y) (bE (gI Y r2) (bU Z (gO (aT B) J)))/\dV x.2.2 z y/\iB x.2.2 Y r2 D j/\bF x.2.2 Z L/\tI x.2.2 B M/\sX x.2.2 J E/\(jH z D j L=0->(kU 1 z M E).2=0->qL j.length/\OG X z j L M/\OG X z j L (kU 1 z M
 E).1)/\(∀n,List.Mem n E->jB n.bj/\jB n.new/\(jP (n.bj=[])->jP (n.new=[])->n.bj.length=n.new.length))/\E.length<=400/\jA (λx1 f=>cO x.2.2 f (K4 f x1 (LF z D j L M E).1) (∃n,lC (λp5 C=>∃p6,IA (λb p7 H=>∃v3,bE (cW x.1.sc) (gO (gI x.1.p x.1.r) x.1.v)=bE (cW n) (gO (gI p5 C) p6)/\dV f b n/\iB f p5 C p7 H/\bF f p6 v3/\Cf f (λh8=>∃I1:Int×Int×mi×MH×PH->Prop,eH (aF x1) 0 (∃e,I1 e/\eZ/\eP 5/\jW/\bC x.1.v (qB e).v/\bC x.1.ch (qB e).ch/\cG 170 e.1/\cG (jH b p7 H v3) e.2.1/\vG x.1.sc (qB e).sc/\oQ 34 (j9 (rF x.1.p) x.1.r)=oQ 34 (j9
 (rF (qB e).p) (qB e).r)/\iT x.1.st (qB e).st/\fX x.2.1 (Ao e)/\fQ h8 (Ao e)) (∃e,I1 e/\eZ/\eP 5/\jW/\bC x.1.v (qB e).v/\bC x.1.ch (qB e).ch/\SV.at (At.val (pW (LF z D j L M E).2))=fI e.1/\cG (jH b p7 H v3) e.2.1/\vG x.1.sc (qB e).sc/\oQ 34 (j9 (rF x.1.p) x.1.r)=oQ 34 (j9 (rF (qB e).p) (qB e).r)/\iT x.1.st (qB e).st/\fX x.2.1 (Ao e)/\fQ h8 (Ao e))/\∀e,I1 e->([]:uc)=[]/\kN (Ao e).1/\Fe (bE (cW (qB e).sc) (bE (gI (qB e).p (qB e).r) (bU (qB e).v (gO (aT (qB e).st) (qB e).ch)))) (λO P t Q b2 b3=>bE (cW O) (bE
 (gI P t) (bU Q (gO (aT b2) b3)))) (Ao e).2 (Ao e) (λO P t Q b2 b3 b4=>jH O P t Q=0->wB O P t Q b2 b3 b4) (λO P t Q b2 b3 b4 h9=>PH.le (Ao e).2 h9->dP (Da O P t Q b2 b3 b4) e.1 (Fe (bE (cW (qB e).sc) (bE (gI (qB e).p (qB e).r) (bU (qB e).v (nN (oL (qB e).st) EO)))) (λR S T U b8 b9=>bE (cW R) (bE (gI S T) (bU U (gO (aT b8) b9)))) h9 (Ao e) (λR S T U b8 b9 d=>jH R S T U=0->wB R S T U b8 b9 d) (λR S T U b8 b9 d d1=>PH.le h9 d1->K (AU (Da R S T U b8 b9 d==e.2.1)) (Ao e).1 d1)) (K bH (Ao e).1 h9)))))))))))))))))))))))))))))
def d2Z:AC:=λc m h K=>∃s cs,c=[cS s]/\bT h s 1 (dE cs)/\s.len<=s.cap/\kN m/\∀m' h',dh m m'->K (cB true) m' h'
theorem dWQ{s a0}(hr:bT h s 1 (dE a0))(a1:s.len<=s.cap)(ht:kN m)(hK:∀m' h',dh m m'->K (cB true) m' h'):Yg s m h K:=by
 dsimp only[Yg,push_cast];refine⟨s,a0,280,rfl,hr,a1,aC,λcb m1 h1 b5 b6 o1 c1=>⟨cb,rfl,c1,λsc v m2 h2 R rS j o2 c2=>?_⟩⟩;have⟨S,b7⟩:=Eo R;have a2:=xM S;have sub:∀{mx},dl m mx cb->dh m mx:=fun{mx} om b o e=>om b o e λe2=>da
 refine⟨cb,v,sc,rfl,c2,rS,R,λp r rs m3 h3 T O t o3 c3=>⟨cb,v,sc,1,rfl,c3,rS.mono T,R,λu w m4 h4 a3 U V W o4 c4=>⟨cb,rfl,c4,λpv k m5 h5 _ _ G hv o5 c5=>?_⟩⟩⟩;have E:=dMQ V (W rfl);refine⟨cb,v,sc,w,u,4,rfl,c5,rS.mono (T.trans (a3.trans G)),R,U.mono G,E,aC,λX wx cs f m6 h6 Y b' hL F b8 k6 c6=>?_⟩;have P:=a3.trans (G.trans Y);have a4:dl m m6 cb:=λb o e n=>k6 b o (((((dl.of o1).on o2).on o3).on o4).on o5 b o e n) n;have F:UB 9 sc f:=⟨F.len,λl hl=>by have:=F.jv l hl;omega,F.ok,F.val⟩
 have a5:UB 9 sc u:=⟨E.len,λl hl=>by have:=E.jv l hl;omega,E.ok,E.val⟩
 have D0:wB sc [4] [] [xU k] u f cs:=bgQ R (λr hr=>by cases hr) bu (λr hr=>by cases hr) E F hL aC;have e0:=E.fj S a2 aC;have e2:=F.fj S a2 aC;have g:=O.mono P;refine⟨λz=>∃p' r' d H mz hz,z=((⟨v,p',r',w,pv,X⟩:mi),mz,hz)/\PH.le h6 hz/\iB hz p' r' d H/\dyQ sc d H/\dh m mz,⟨cb,8,rfl,aC,aC,c6,λb m7 o7 c7=>aB (λ_=>⟨cb,p,r,rs,rfl,c7,g,by have:=t.jv;omega,ciJ R t,λp' r' d H m8 h8 b0 b1 sp o8 c8=>⟨(⟨v,p',r',w,pv,X⟩,m8,h8),⟨p',r',d,H,m8,h8,rfl,b0,b1,c5J t sp,sub ((a4.on o7).on o8)⟩,MT⟩⟩) (λ_=>⟨(⟨v,p,r,w,pv,X⟩,m7,h6),⟨p,r,[4],rs,m7,h6,rfl,.refl _,g,c6Q t,sub (a4.on o7)⟩,MT⟩)⟩,?_⟩;have I:=rS.mono (T.trans P);have A:=U.mono (G.trans Y);have J:=bF.mono hv Y;clear O g t p r rs hv U rS;rintro _⟨p,r,d,rs,mz,hz,rfl,c,L,hX,Q⟩;dsimp only
 have D:jH sc d rs [xU k]=0->wB sc d rs [xU k] u f cs:=λh0=>by
  obtain⟨rfl,Z,B,C⟩:=hX k h0
  grind[bgQ]
 have b9:=E.len;have b4:=F.len;have a6:∀{hx},PH.le hz hx->sX hx X cs:=λle=>aU.mono b' (c.trans le) λ_ _ y=>y.mono (c.trans le);refine⟨8,v,p,r,pv,w,X,sc,d,rs,[xU k],u,cs,rfl,I.mono c,L,bF.mono J c,A.mono c,a6 (.refl _),λh0 _=>?_,D0.gi,aC,λx h9 M hx=>⟨v,p,r,pv,sc,d,rs,[xU k],rfl,I.mono (c.trans M),L.mono M,bF.mono J (c.trans M),λb2 a7=>?_⟩⟩
 .obtain⟨rfl,Z,B,C⟩:=hX k h0;rw[D0.jm];exact⟨aC,ayZ B C e0 E.val a5.jv aC,ayZ B C e2 F.val F.jv da⟩
 have a8:=caQ (k:=k) hX D0.jm e0 e2 (S6 hL);rw[a8]at hx⊢
 have c':=aU.e hx;have le:=M.trans a7;refine⟨λz=>z=(Da sc d rs [xU k] u f cs,jH sc d rs [xU k],(⟨v,p,r,w,pv,X⟩:mi),mz,b2),aE (λa=>⟨_,rfl,?_⟩) (λa=>⟨_,rfl,?_⟩),?_⟩
 .rw[show Da sc d rs [xU k] u f cs=170 by grind[Da]];exact MT
 .rw[show Da sc d rs [xU k] u f cs=jH sc d rs [xU k]by simp_all[Da,TR,xU,length_eq_zero_iff]];exact MT
 rintro _ rfl;dsimp only;have a':=ht.sub Q;refine⟨rfl,a',v,p,r,pv,w,X,sc,d,rs,[xU k],u,f,cs,rfl,I.mono (c.trans le),L.mono le,bF.mono J (c.trans le),A.mono (c.trans le),a6 le,a',D,λc0 a9=>aB (λ_=>?_) (λe=>by simp at e)⟩;have j:=le.trans a9;refine⟨v,p,r,pv,w,bS,sc,d,rs,[xU k],u,u,[],rfl,I.mono (c.trans j),L.mono j,bF.mono J (c.trans j),A.mono (c.trans j),aU.nil _ _ _ _,a',λh0=>?_,λb3 _=>?_⟩
 .obtain⟨rfl,Z,B,C⟩:=hX k h0;exact bgQ R B Z C E a5 rfl bu
 .rw[ccX,beq_self_eq_true];exact hK mz b3 Q
theorem cqJ:uz 4 d2Z:=by
 refine gV func4 ?_;rintro d m h K⟨s,cs,rfl,e,c,f,g⟩;refine⟨dOJ,rfl,aD cpJ (aD cpX (aD coJ (aD beQ (aD b8Z (aD b8Q (aD qR (aD b7X (aD b6Z (aD VK (aD b5J (aD aSJ aG))))))))))),Yg s,bt,?_⟩;exact dWQ e c f g
end Go.Ps
