/- Own work. -/
import Derived.Test.YtbpoogcannjnbaaGreatDoorTe
set_option linter.unusedVariables false
set_option linter.unusedSimpArgs false
namespace Go.Ps
open Go Go.Vc Go.Proofs
variable{K:CV->MH->PH->Prop}{m:MH}{h:PH}{s:jR}{ps:List Int}{cb:Nat}{sc:bN}{v:QV}{q:Query}{p:Pred}{l:List Int}{i:Nat}{N:Nat}{m':MH}{h':PH}{co:List Int}{gr:List Int}{on:List (Int×Int)}{od:List (Int×Bool)}{w:Pred}{ta:Int}{li:Int}{xs:List (List Value)}{sz:Nat}{k:Nat}{ks:List (List Int)}{rs:List Int}{r:Sl}{a:List Int}{b:Nat}
theorem eO.app{us vs:List Sl}{a b:List (List VV)}(x:eO h us a)(y:eO h vs b):eO h (us++vs) (a++b):=by
 refine⟨by simp[x.len,y.len],λj r hr=>?_⟩;have hl:=x.len;by_cases hj:j<a.length
 .rw[List.getElem?_append_left hj]at hr;obtain⟨u,h1,h2⟩:=x.at_ j r hr;exact⟨u,by rw[List.getElem?_append_left aC];exact h1,h2⟩
 .rw[List.getElem?_append_right aC]at hr;obtain⟨u,h1,h2⟩:=y.at_ _ r hr;exact⟨u,by rw[List.getElem?_append_right aC,hl];exact h1,h2⟩
def Mw(_:Query)(ls:List (List (List VV))):List (List VV):=yI (ls.getD 0 []++ls.getD 1 [])
theorem Rf:Sound Tryz.prog 179 (NR (Dp 2) Mw):=by
 refine Fh Tryz.func179 ?_;rintro cvs m h K ⟨v,t,q,bs,ls,rfl,_,ha,_,hok,hK⟩;refine⟨dL [(206,P3),(205,NO),(200,YG)] [] [] [] false,rfl,aD Q3 (aD Ju (aD DR aF)),Gl v t m h (kY h K),by kernel_rfl,?_⟩;show Gl v t m h (kY h K);dsimp only[Gl,push_cast];have h2:=hok.1;obtain⟨b,off,x,ea,hlt,rd,sq⟩:=ha.get (Bf (i:=0) aC);obtain⟨b',off',x',ea',hlt',rd',sq'⟩:=ha.get (Bf (i:=1) aC);obtain⟨us,hseq,hru⟩:=sq.ex;obtain⟨us',hseq',hru'⟩:=sq'.ex;obtain⟨_,hrel⟩:=hok.2 _ (List.mem_of_getElem? (Bf (i:=0) aC));obtain⟨_,hrel'⟩:=hok.2 _ (List.mem_of_getElem? (Bf (i:=1) aC));have l1:=hrel.len;have l2:=hrel'.len;have l3:=hru.len;refine⟨b,off,ea,aC,aC,x,.imm rd,b',off',ea',aC,aC,x',.imm rd',rd',x,us,rfl,hseq,λs1 m1 hr1 hs1 hf1=>⟨rd,s1,x',us,us',rfl,hr1,hseq',aC,λs2 m2 hr2 hs2 hf2=>⟨rd,rd',s2,us++us',_,rfl,hr2.src,hru.app hru',by rw[List.length_append];omega,λs3 h3 le3 hr3=>?_⟩⟩⟩;refine⟨m,h3,λy o hy=>hs2 y o (hs1 y o hy) (λi e=>?_),le3,.refl _,hK s3 h3 le3 hr3⟩;rw[hf1 y i e]at hy;cases hy
def IA(q:Query)(ls:List (List (List VV))):List (List VV):=match q with|.mk _ _ _ co _ _ _ _ _=>yI ((ls.getD 0 []).map λr=>pick r co)
def IG(q:Query)(ls:List (List (List VV))):Prop:=match q with|.mk _ _ _ co _ _ _ _ _=>1<=ls.length/\co.length<=12/\∃w,gH w (ls.getD 0 [])/\fQ w co
theorem Vo{r:List VV}{y:VV}(hy:(pick r co)[i]? =some y)(hi:i<co.length):((pick r co).take i++List.replicate (co.length-i) zeroV).set i y=(pick r co).take (i+1)++List.replicate (co.length-(i+1)) zeroV:=by
 have hpl:(pick r co).length=co.length:=by simp[pick]
 rw[List.set_append,if_neg (by simp;omega)];rw[List.take_add_one,hy,Option.toList_some,List.append_assoc];congr 1;rw[show co.length-i=(co.length-(i+1))+1 by omega,List.replicate_succ];simp[hpl,Nat.min_eq_left (Nat.le_of_lt hi)]
theorem TD{r:List VV}(hi:i<co.length):(((pick r co).take i++List.replicate (co.length-i) zeroV).map VV.enc)[i]? =some (VV.enc zeroV):=by
 have hpl:(pick r co).length=co.length:=by simp[pick]
 rw[List.getElem?_map,List.getElem?_append_right (by simp;omega),List.getElem?_replicate,if_pos (by simp;omega)];rfl
theorem Ri:Sound Tryz.prog 176 (NR IG IA):=by
 refine Fg Tryz.func176 ?_;rintro cvs m h K ⟨v,t,q,bs,ls,rfl,hq,ha,_,hok,hK⟩;refine⟨Wh,rfl,aD DR aF,Gp v t m h (cH h K),by kernel_rfl,?_⟩;show Gp v t m h (cH h K);dsimp only[Gp,push_cast];obtain⟨op,ta,w,co,on,gr,od,li,args⟩:=q;obtain⟨hl1,hco,wd,hrel,hcols⟩:=hok;intro b m1 hb1 hu1 b2 m2 hb2 hu2;have hsub1:Sub m m1:=(Sub.refl m).upd hb1.m_ hu1.other
 have hn2:m b2=none:=by
  cases e:m b2 with
  |none=>rfl
  |some o=>have e1:=hsub1 b2 o e;rw[hb2.m_]at e1;cases e1
 have hsub2:Sub m m2:=hsub1.upd hn2 hu2.other;have hne:b≠b2:=λe=>by have:=hb2.m_;rw[<-e,hu1.at_]at this;cases this
 obtain⟨b3,off,x,ea,hlt,rd,sq⟩:=ha.get (Bf (i:=0) aC);obtain⟨us,hseq,hru⟩:=sq.ex;have xq:=hq.parts;have hcl:=xq.columns_.slen;simp only[IA]at hK;generalize ls.getD 0 []=l at hseq hru hK hrel sq;have hul:=hru.len;have hll:=hrel.len;refine⟨b3,off,ea,aC,aC,x,.imm rd,tA,us,λk mx hx=>PH.le h hx/\A2 m2 mx b2/\∃us2,lK m2 mx b2 us2/\us2.length<=k/\eO hx us2 ((l.take k).map λr=>pick r co),rX,⟨x,us,rfl,hseq,rfl⟩,⟨.refl _,λx o e _=>e,[],lK.new hu2.at_,by simp,by simpa using eO.nil h⟩,?_,?_⟩
 .rintro k e mx hx hk-⟨le,hs,us2,hout,hl2,hr2⟩
  obtain⟨r,hr,hv⟩:=hru.at' hk;have hkl:=(List.getElem?_eq_some_iff.1 hk).1;have hmq:mx b=some (.cells ⟨v.enc⟩ 68 (0,0)):=hs b _ (by rw[hu2.other b hne];exact hu1.at_) hne;have hrw:=hrel.wid r (List.mem_of_getElem? hr);have hv':=bB.mono hv le;have hvl:=aR.slen hv';have hpl:(pick r co).length=co.length:=by simp[pick]
  refine⟨v.columns,.of_m hmq rfl,aC,aC,aC,aC,v.columns,.of_m hmq rfl,λz=>z.1<=co.length/\z.2.1=b2/\z.2.2.1=e/\z.2.2.2.1=v.columns/\z.2.2.2.2.1=(pick r co).take z.1++List.replicate (co.length-z.1) zeroV/\z.2.2.2.2.2.1=mx/\z.2.2.2.2.2.2=hx,λz=>co.length-z.1,⟨(0,b2,e,v.columns,List.replicate co.length zeroV,mx,hx),⟨by simp,rfl,rfl,rfl,by simp,rfl,rfl⟩,?_⟩,?_⟩
  .dsimp only;rw[List.map_replicate,show((v.columns.len:Int)).toNat=co.length by omega];exact MT
  .rintro⟨i,bb,ee,cc,cells,my,hy⟩ ⟨hi,e1,e2,e3,e4,e5,e6⟩;dsimp only at hi e1 e2 e3 e4 e5 e6;subst e1 e2 e3 e4 e5 e6;refine aE (λhlt2=>?_) (λhge=>?_)
   .dsimp only at hlt2⊢
    obtain⟨c,hci⟩:=fS hcl hlt2;obtain⟨b4,o4,e4,rd4⟩:=(xq.columns_.mono le).at hci;obtain⟨y,hy1,hy2,h0,h1⟩:=MR (r:=r) (by rw[hrw];exact hcols) hci;obtain⟨b5,o5,y',e5,rd5,rfl⟩:=aR.at hv' hy1;have hil:i<co.length:=by omega
    have hset:=Vo hy2 hil;refine⟨b4,o4,e4,aC,aC,c,.imm (by simpa using rd4),b5,o5,e5,h0,aC,y,.imm rd5,aC,by simp;omega,_,TD hil,by simp[VV.enc],(i+1,bb,ee,v.columns,(pick r co).take (i+1)++List.replicate (co.length-(i+1)) zeroV,my,hy),⟨by dsimp only;omega,rfl,rfl,rfl,rfl,rfl,rfl⟩,(by dsimp only;omega),?_⟩;dsimp only;refine⟨rfl,rfl,rfl,rfl,rfl,by rw[j5 aC],?_,rfl,rfl,trivial⟩;rw[<-hset,List.map_set];rfl
   .dsimp only at hge⊢
    have:i=co.length:=by omega
    subst this;rw[List.take_of_length_le aC,Nat.sub_self,List.replicate_zero,List.append_nil];obtain⟨s,hb,hrow,hfr⟩:=hout.ex;refine⟨s,.of_m hb rfl,λs3 h3 le3 hr3=>Eu ⟨_,hu2.at_⟩ hs hb hrow hfr aC (λm' hs' ho'=>⟨le.trans le3,hs',us2++[s3],ho',by simp;omega,?_⟩)⟩
    have e6:(l.take (k+1)).map (λr=>pick r co)=(l.take k).map (λr=>pick r co)++[pick r co]:=by
     rw[List.take_add_one,hr];simp
    rw[e6];exact(hr2.mono le3).snoc ⟨⟨_,hr3,rfl,λi x hx=>⟨x,hx,rfl⟩⟩,by rw[hpl];omega⟩
 .rintro mx hx-⟨le,hs,us2,hout,hl2,hr2⟩
  rw[hul,List.take_length]at hr2;obtain⟨s,hb,hrow,hfr⟩:=hout.ex;refine⟨s,.of_m hb rfl,s,us2,_,rfl,hrow.src,hr2,by simp;omega,λs3 h3 le3 hr3=>cH.sub (hsub2.x hn2 hs) (le.trans le3) (hK s3 h3 (le.trans le3) hr3)⟩
theorem gJ{m0:MH}{o:Obj}(hs:Sub m0 m)(hn:bY m h b)(hu:eW m m' b o):Sub m0 m'/\m0 b=none:=by
 have h1:m0 b=none:=by
  cases e:m0 b with
  |none=>rfl
  |some x=>have e1:=hs b x e;rw[hn.m_]at e1;cases e1
 exact⟨hs.upd h1 hu.other,h1⟩
theorem mem_keys{l:List (List VV)}{w k:Nat}{x:List VV}(hl:gH w l)(hx:NQ x)(hw:x.length=w):cG x∈(l.take k).map cG↔x∈l.take k:=by
 constructor
 .intro h;obtain⟨y,hy,e⟩:=List.mem_map.1 h;have hyl:=List.mem_of_mem_take hy;rw[(Jb (by rw[hl.wid y hyl,hw]) (hl.row y hyl).val hx.val).1 e]at hy;exact hy
 .exactλh=>List.mem_map.2 ⟨x,h,rfl⟩
theorem Jt:Sound Tryz.prog 207 NN:=by
 refine Fg Tryz.func207 ?_;rintro cvs m h K ⟨t,i,bs,ls,w,rfl,ha,hT,h2,hok,hK⟩;refine⟨Nn [(226,Te)] [] [] [200003,200005,200007,1095,400000,0],rfl,aD QS aF,Gg t i m h (cH h K),by kernel_rfl,?_⟩;show Gg t i m h (cH h K);dsimp only[Gg,push_cast];intro b3 m1 hb1 hu1 by_ m2 hb2 hu2 b5 m3 hb3 hu3;obtain⟨s1,n3⟩:=gJ (Sub.refl m) hb1 hu1;obtain⟨s2,ny⟩:=gJ s1 hb2 hu2;obtain⟨s3,n5⟩:=gJ s2 hb3 hu3;refine⟨_,_,⟨hu3.at_⟩,by simp,λm4 hu4=>?_⟩;have s4:Sub m m4:=s3.upd n5 hu4.other;have hyne:by_≠b5:=λe=>by have:=hb3.m_;rw[<-e,hu2.at_]at this;cases this
 have h3ne:b3≠b5:=λe=>by have:=hb3.m_;rw[<-e,hu2.other b3 (λe2=>by have:=hb2.m_;rw[<-e2,hu1.at_]at this;cases this),hu1.at_]at this;cases this
 have h3y:b3≠by_:=λe2=>by have:=hb2.m_;rw[<-e2,hu1.at_]at this;cases this
 have m4y:m4 by_=some (.map #[] 0):=by rw[hu4.other by_ hyne,hu3.other by_ hyne];exact hu2.at_
 have m43:m4 b3=some (.cells #[.bool i] 4 (0,0)):=by rw[hu4.other b3 h3ne,hu3.other b3 h3ne,hu2.other b3 h3y];exact hu1.at_
 have m45:m4 b5=some (.cells #[.map (some by_)] 197 (0,0)):=hu4.at_;obtain⟨b,off,x,ea,hlt,rd,sq⟩:=ha.get (Bf (i:=1) aC);obtain⟨us',hseq',hru'⟩:=sq.ex;have hrel':=hok _ (List.mem_of_getElem? (Bf (i:=1) aC));have hrel:=hok _ (List.mem_of_getElem? (Bf (i:=0) aC));obtain⟨b6,off6,x6,ea6,hlt6,rd6,sq6⟩:=ha.get (Bf (i:=0) aC);obtain⟨us,hseq,hru⟩:=sq6.ex;generalize ls.getD 1 []=l' at hru' hrel' hK sq;generalize ls.getD 0 []=l at hru hrel hK sq6;have hul:=hru.len;have hll:=hrel.len;have hul':=hru'.len;refine⟨b,off,ea,aC,aC,x,.imm rd,tA,us',λk mx hx=>hx=h/\(∀z o,m4 z=some o->z≠by_->mx z=some o)/\nQ mx by_ ((l'.take k).map cG),rX,⟨x,us',rfl,hseq',rfl⟩,⟨rfl,λz o e _=>e,by simpa using nQ.new m4y⟩,?_,?_⟩
 .rintro k e mx hx hk-⟨rfl,hs,hsn⟩
  obtain⟨r,hr,hv⟩:=hru'.at' hk;have hrl:=List.mem_of_getElem? hr;have r5:aI mx hx b5 0 [Value.map (some by_)]:=.of_m (hs b5 _ m45 (Ne.symm hyne)) rfl;refine⟨by_,r5,r5,e,r,rfl,hv,hrel'.row r hrl,hT.sub (λz o e2=>hs z o (s4 z o e2) (λe3=>by rw[e3,ny]at e2;cases e2)),r5,hsn.put (λm' hs' hsn'=>⟨rfl,λz o e2 hne=>by rw[hs'.other z hne];exact hs z o e2 hne,?_⟩)⟩;obtain⟨kk,h5,h6⟩:=hsn'.ex;exact⟨kk,h5,λq=>by rw[h6,List.take_add_one,hr];simp[or_comm]⟩
 .rintro mx hx-⟨rfl,hs,hsn⟩ b7 m5 hb5 hu5;rw[hul',List.take_length]at hsn;have s5:Sub m mx:=λz o e2=>hs z o (s4 z o e2) (λe3=>by rw[e3,ny]at e2;cases e2);obtain⟨s6,n7⟩:=gJ s5 hb5 hu5;have ne7:∀z o,mx z=some o->z≠b7:=λz o e2 e3=>by rw[e3,hb5.m_]at e2;cases e2
  have y7:by_≠b7:=by
   obtain⟨kk,⟨es,c,h1,_⟩,_⟩:=hsn.ex;exact ne7 by_ _ h1
  have m55:m5 b5=some (.cells #[.map (some by_)] 197 (0,0)):=by rw[hu5.other b5 (ne7 b5 _ (hs b5 _ m45 (Ne.symm hyne)))];exact hs b5 _ m45 (Ne.symm hyne)
  have m53:m5 b3=some (.cells #[.bool i] 4 (0,0)):=by rw[hu5.other b3 (ne7 b3 _ (hs b3 _ m43 h3y))];exact hs b3 _ m43 h3y
  have hsn5:nQ m5 by_ (l'.map cG):=hsn.keep (hu5.other by_ y7);have n57:b5≠b7:=ne7 b5 _ (hs b5 _ m45 (Ne.symm hyne));have n37:b3≠b7:=ne7 b3 _ (hs b3 _ m43 h3y);refine⟨b6,off6,ea6,aC,aC,x6,.imm rd6,tA,us,λk my hy=>hy=hx/\A2 m5 my b7/\∃us2,lK m5 my b7 us2/\us2.length<=k/\eO hx us2 ((l.take k).filter λz=>Qu l' z==i),rX,⟨x6,us,rfl,hseq,rfl⟩,⟨rfl,λz o e _=>e,[],lK.new hu5.at_,by simp,by simpa using eO.nil hx⟩,?_,?_⟩
  .rintro k e my hy hk-⟨rfl,hs7,us2,hout,hl2,hr2⟩
   obtain⟨r,hr,hv⟩:=hru.at' hk;have hkl:=(List.getElem?_eq_some_iff.1 hk).1;have hrl:=List.mem_of_getElem? hr;have r5:aI my hy b5 0 [Value.map (some by_)]:=.of_m (hs7 b5 _ m55 n57) rfl;have r3:aI my hy b3 0 [Value.bool i]:=.of_m (hs7 b3 _ m53 n37) rfl
   have hsn7:nQ my by_ (l'.map cG):=by
    obtain⟨kk,⟨es,c,h1,h2,h3,h4⟩,h5⟩:=hsn5.ex;exact⟨kk,⟨es,c,hs7 by_ _ h1 y7,h2,h3,h4⟩,h5⟩
   have key:∀t:Bool,(t=true↔cG r∈l'.map cG)->t=Qu l' r:=λt ht=>by
    have h1:=mem_keys (k:=l'.length) hrel' (hrel.row r hrl) (hrel.wid r hrl);rw[List.take_length]at h1;rw[h1]at ht;cases t
    .cases e2:Qu l' r with
     |false=>rfl
     |true=>exact ht.2 (CS.1 e2)
    .exact(CS.2 (ht.1 rfl)).symm
   refine⟨by_,r5,i,r3,r5,r3,e,r,rfl,hv,hrel.row r hrl,hT.sub (s6.x n7 hs7),r5,r3,r3,hsn7.get (K:=λt=>branch (t==i) _ _) (λt ht=>?_)⟩;have e3:=key t ht;refine aB (λh1=>?_) (λh1=>?_)
   .refine lK.app ⟨_,hu5.at_⟩ hs7 hout aC (λm' hs' ho'=>⟨rfl,hs',us2++[e],ho',by simp;omega,?_⟩);rw[iL _ hr,if_pos (by rw[<-e3];exact h1)];exact hr2.snoc hv
   .refine⟨rfl,hs7,us2,hout,aC,?_⟩;rw[iL _ hr,if_neg (by rw[<-e3,h1];simp),List.append_nil];exact hr2
  .rintro my hy-⟨rfl,hs7,us2,hout,hl2,hr2⟩
   rw[hul,List.take_length]at hr2;obtain⟨s,hb,hrow,hfr⟩:=hout.ex;refine⟨s,.of_m hb rfl,cH.row (s6.x n7 hs7) (.refl _) hrow (λj y e=>?_) (λh' le hri=>hK s h' le ((hr2.mono le).rows hri (by have:=hr2.len;omega)))⟩;cases e2:m y with
   |none=>rfl
   |some o=>have e1:=hfr j y e;rw[s6 y o e2]at e1;cases e1
def yK(_:Query)(ls:List (List (List VV))):Prop:=2<=ls.length/\∃w,∀l∈ls,gH w l
def MY(_:Query)(ls:List (List (List VV))):List (List VV):=(ls.getD 0 []).filter λx=>Qu (ls.getD 1 []) x==false
def M8(_:Query)(ls:List (List (List VV))):List (List VV):=(ls.getD 0 []).filter λx=>Qu (ls.getD 1 []) x==true
theorem Re:Sound Tryz.prog 180 (NR yK MY):=by
 refine jK Tryz.func180 ?_;rintro cvs m h K ⟨v,t,q,bs,ls,rfl,_,ha,hT,⟨h2,w,hok⟩,hK⟩;refine⟨dL [(207,NN)] [] [] [] false,rfl,aD Jt aF,UB v t m h K,by kernel_rfl,?_⟩;exact⟨t,false,bs,ls,w,rfl,ha,hT,h2,hok,hK⟩
theorem Rc:Sound Tryz.prog 181 (NR yK M8):=by
 refine jK Tryz.func181 ?_;rintro cvs m h K ⟨v,t,q,bs,ls,rfl,_,ha,hT,⟨h2,w,hok⟩,hK⟩;refine⟨dL [(207,NN)] [] [] [] false,rfl,aD Jt aF,UA v t m h K,by kernel_rfl,?_⟩;exact⟨t,true,bs,ls,w,rfl,ha,hT,h2,hok,hK⟩
def jQ:List (Int×Bool)->List VV->List VV->Int
 |[],a,b=>cL a b
 |(c,dn)::r,a,b=>if 0<=c/\c<a.length/\c<b.length then(if j4 (a.getD c.toNat zeroV) (b.getD c.toNat zeroV)≠0 then(if dn then-j4 (a.getD c.toNat zeroV) (b.getD c.toNat zeroV)else j4 (a.getD c.toNat zeroV) (b.getD c.toNat zeroV))else jQ r a b)else jQ r a b
def Kb:Vc.Spec:=λcvs m h K=>∃o s t od a b,cvs=[cS o,cS s,cS t]/\jY h o od/\bB h s a/\bB h t b/\K (cI (jQ od a b)) m h
def Mm:Vc.Spec:=λcvs m h K=>∃s t bq v od a b,cvs=[cS s,cS t,cP bq]/\m bq=some (.cells ⟨QV.enc v⟩ 68 (0,0))/\jY h v.order od/\bB h s a/\bB h t b/\K (cI (jQ od a b)) m h
def YK:Vc.Spec:=λcvs m h K=>∃i:Nat,∃bq bg br v od g s rs r x,cvs=[cI i,cP bq,cP bg,cP br]/\m bq=some (.cells ⟨QV.enc v⟩ 68 (0,0))/\m bg=some (.cells #[Sl.val g] 95 (0,0))/\m br=some (.cells #[Sl.val s] 75 (0,0))/\jY h v.order od/\Rows h g rs/\bB h s r/\rs[i]? =some x/\
 K (cB (decide (jQ od x r>=0))) m h
def WX:Vc.Spec:=λcvs m h K=>∃(s:Sl)(bq:Nat)(v:QV)(od:List (Int×Bool))(w:Nat)(ps:List (Sl×List VV)),cvs=[cS s,.val (.func (.func 227) #[] #[.pointer (some ⟨bq,0,none⟩)])]/\m bq=some (.cells ⟨QV.enc v⟩ 68 (0,0))/\(∀i,s.a≠some ⟨bq,i,none⟩)/\jY h v.order od/\cD m s 75 1 (ps.map λp=>eS p.1)/\(∀p∈ps,bB h p.1 p.2)/\(∀p∈ps,p.2.length=w)/\ps.length<=140737488355328/\
 ∀(ps':List (Sl×List VV))(m':MH),ps'.Perm ps->ps'.Pairwise (λp q=>¬jQ od q.2 p.2<0)->cD m' s 75 1 (ps'.map λp=>eS p.1)->(∀b,(∀i,s.a≠some ⟨b,i,none⟩)->m' b=m b)->K (.tup []) m' h
noncomputable def V2(o s t:Sl)(m:MH)(h:PH):Ctx:=
 dL [(151,Tg),(117,Hs)] [(2,{A:=Nat,st:=λi=>cM 55 58 [(1,sv s),(2,sv t),(10,sv o),(11,iv o.len),(12,iv i)] [] m h})] [] [] false
def Ln(o s t:Sl)(m:MH)(h:PH)(K:CV->MH->PH->Prop):Prop:=
  rB (λI x=>aA (I x) (aL s) (aA (aL t) (aL o) (aA (aX o) (bI x) (aA (m=m) (h=h) True)))) (λI m1 x=>I x->bE (↑x:Int) (aH o) (bK (λb o1=>aA (bL o.a b o1) (0<=(↑x:Int)) ((↑x:Int)<aH o/\∃(y:Int×Bool),aI m h b (o1+aZ x 2) (AD y)/\bE y.1 0 (∃(x1:Nat),aA (I x1) (m1 x1<m1 x) (aA (aL s) (aL t) (aA (aL o) (aX o) (aA (bD (gI (bC x 1)) x1) (m=m) (bP h h))))) (branch (decide (y.1>=aH s)) (∃(x1:Nat),aA (I x1) (m1 x1<m1 x) (aA (aL s) (aL t) (aA (aL o) (aX o) (aA (bD (gI (bC x 1)) x1) (m=m) (bP h h))))) (branch (decide (y.1>=aH t)) (∃(x1:Nat),aA (I x1) (m1 x1<m1 x) (aA (aL s) (aL t) (aA (aL o) (aX o) (aA (bD (gI (bC x 1)) x1) (m=m) (bP h h))))) (bK (λb1 o2=>aA (bL s.a
 b1 o2) (0<=y.1) (y.1<aH s/\∃(y1:VV),aI m h b1 (o2+eM y.1 3) y1.enc/\bK (λb2 o3=>aA (bL t.a b2 o3) (0<=y.1) (y.1<aH t/\∃(y2:VV),aI m h b2 (o3+eM y.1 3) y2.enc/\∃(a b3:VV),aK (kA y1) (kA y2)=aK (kA a) (kA b3)/\bQ (j4 a b3) 0 (∃(x1:Nat),aA (I x1) (m1 x1<m1 x) (aA (aL s) (aL t) (aA (aL o) (aX o) (aA (bD (gI (bC x 1)) x1) (m=m) (bP h h))))) (branch y.2 (K (dY (qO (0-j4 a b3))) m h) (K (dY (j4 a b3)) m h)))))))))))) (xE s t h (λa b=>K (dY (cL a b)) m h)))
def Uv(s t:Sl)(bq:Nat)(m:MH)(h:PH)(K:CV->MH->PH->Prop):Prop:=
  gX m h bq 18 (λy=>fR (λo s1=>∃(t1:Sl)(o1:List (Int×Bool))(a b:List VV),aA (dG y::aK (dG s) (dG t)=dG o::aK (dG s1) (dG t1)) (jY h o o1) (aA (bB h s1 a) (bB h t1 b) (K (dY (jQ o1 a b)) m h))))
def Lo(i:Nat)(bq bg br:Nat)(m:MH)(h:PH)(K:CV->MH->PH->Prop):Prop:=
  gX m h bq 18 (λy=>gX m h bg 0 (λy1=>dA y1 (↑i:Int) (λb o y2=>aI m h b (o+aZ i 1) (aM y2)/\∃(y3:Sl),aA (aI m h br 0 (aM y3)) (aI m h bg 0 (aM y1)) (fR (λo1 s=>∃(t:Sl)(o2:List (Int×Bool))(a b1:List VV),aA (dG y::aK (dG y2) (dG y3)=dG o1::aK (dG s) (dG t)) (jY h o1 o2) (aA (bB h s a) (bB h t b1) (aI m h bg 0 (aM y1)/\K (yX (decide (jQ o2 a b1>=0))) m h)))))))
theorem RV(a b:VV): -1<=j4 a b/\j4 a b<=1:=by
 have h1:∀x y:Int, -1<=yV x y/\yV x y<=1:=λx y=>by unfold yV;split<;>(try split)<;>omega
 have h2:=(OI a.text.data.toList b.text.data.toList).2;have h3: -1<=Nr a.text b.text/\Nr a.text b.text<=1:=by unfold Nr;omega
 have h4:=h1 a.kind b.kind;have h5:=h1 a.int b.int;unfold j4;split
 .exact h4
 .split
  .exact h5
  .exact h3
theorem UR{c:Int}{dn:Bool}{r:List (Int×Bool)}{a b:List VV}(h:¬(0<=c/\c<a.length/\c<b.length)):jQ ((c,dn)::r) a b=jQ r a b:=by
 rw[jQ,if_neg h]
theorem YE{c:Int}{dn:Bool}{r:List (Int×Bool)}{a b:List VV}{x y:VV}(h0:0<=c)(hx:a[c.toNat]? =some x)(hy:b[c.toNat]? =some y):jQ ((c,dn)::r) a b=if j4 x y≠0 then(if dn then-j4 x y else j4 x y)else jQ r a b:=by
 have h1:=(List.getElem?_eq_some_iff.1 hx).1;have h2:=(List.getElem?_eq_some_iff.1 hy).1;rw[jQ,if_pos ⟨h0,aC,aC⟩];rw[List.getD_eq_getElem?_getD,List.getD_eq_getElem?_getD,hx,hy];rfl
theorem Jr:Sound Tryz.prog 211 Kb:=by
 refine jK Tryz.func211 ?_;rintro cvs m h K ⟨o,s,t,od,a,b,rfl,ho,hs,ht,hK⟩;refine⟨V2 o s t m h,rfl,aD DS (aD nL aF),Ln o s t m h K,by kernel_rfl,?_⟩;dsimp only[Ln,push_cast];have hol:=ho.slen;have hln:=ho.len;have hsl:=aR.slen hs;have htl:=aR.slen ht;refine⟨λi=>i<=od.length/\jQ od a b=jQ (od.drop i) a b,λi=>od.length-i,⟨0,⟨aC,by simp⟩,MT⟩,λi⟨hi,he⟩=>aE (λhlt=>?_) (λhge=>?_)⟩
 .obtain⟨⟨c,dn⟩,hx⟩:=fS hol hlt;obtain⟨b1,o1,e1,r1⟩:=ho.row.get (i:=i) (e:=Cc (c,dn)) (by simp[hx]);rw[drop_cons hx]at he
  have skip:¬(0<=c/\c<a.length/\c<b.length)->∃x_1:Nat,(λi=>i<=od.length/\jQ od a b=jQ (od.drop i) a b) x_1/\(λi=>od.length-i) x_1<(λi=>od.length-i) i/\eQ (Ss s)/\eQ (Ss t)/\eQ (Ss o)/\eQ (gI ↑o.len)/\gI (IntKind.i64.wrap ((i:Int)+1))=gI ↑x_1/\m=m/\h=h/\True:=λhn=>
   ⟨i+1,⟨aC,by rw[he,UR hn]⟩,(show od.length-(i+1)<od.length-i by omega),MT⟩
  refine⟨b1,o1,e1,aC,hlt,(c,dn),.imm r1,aE (λh1=>skip (λe=>by have:c<0:=h1;omega)) (λh1=>aE (λh2=>skip (λe=>by have:c>=(s.len:Int):=h2;omega)) (λh2=>aE (λh3=>skip (λe=>by have:c>=(t.len:Int):=h3;omega)) (λh3=>?_)))⟩;dsimp only at h1 h2 h3⊢
  obtain⟨x,hxa⟩:∃x,a[c.toNat]? =some x:=⟨_,List.getElem?_eq_getElem aC⟩
  obtain⟨y,hyb⟩:∃y,b[c.toNat]? =some y:=⟨_,List.getElem?_eq_getElem aC⟩
  obtain⟨b2,o2,u,e2,r2,rfl⟩:=aR.at hs hxa;obtain⟨b3,o3,u,e3,r3,rfl⟩:=aR.at ht hyb;rw[YE aC hxa hyb]at he;have hsm:=RV x y;refine⟨b2,o2,e2,aC,aC,x,.imm r2,b3,o3,e3,aC,aC,y,.imm r3,x,y,rfl,aB (λh4=>⟨i+1,⟨aC,?_⟩,(show od.length-(i+1)<od.length-i by omega),MT⟩) (λh4=>aB (λh5=>?_) (λh5=>?_))⟩
  .rw[he,if_neg (by simpa using h4)]
  .have h5:dn=true:=h5;rw[he,if_pos (by simpa using h4),if_pos h5]at hK;rw[gD aC aC,Int.zero_sub];exact hK
  .have h5:dn=false:=h5;rw[he,if_pos (by simpa using h4),if_neg (by simp[h5])]at hK;exact hK
 .rw[he,List.drop_eq_nil_of_le aC,jQ]at hK;exact⟨s,t,a,b,rfl,hs,ht,hK⟩
theorem QR:Sound Tryz.prog 227 Mm:=by
 refine jK Tryz.func227 ?_;rintro cvs m h K ⟨s,t,bq,v,od,a,b,rfl,hm,ho,hs,ht,hK⟩;refine⟨sY [(211,Kb)] [] [] [] [0] [] false,rfl,aD Jr aF,Uv s t bq m h K,by kernel_rfl,?_⟩;exact⟨v.order,.of_m hm rfl,v.order,s,t,od,a,b,rfl,ho,hs,ht,hK⟩
theorem Q0:Sound Tryz.prog 210 YK:=by
 refine jK Tryz.func210 ?_;rintro cvs m h K ⟨i,bq,bg,br,v,od,g,s,rs,r,x,rfl,hq,hg,hr,ho,hrs,hv,hx,hK⟩;refine⟨sY [(211,Kb)] [] [] [] [0] [] false,rfl,aD Jr aF,Lo i bq bg br m h K,by kernel_rfl,?_⟩;dsimp only[Lo,push_cast];have hl:=aR.slen hrs;have hi:=(List.getElem?_eq_some_iff.1 hx).1;obtain⟨b1,o1,u,e1,r1,ru⟩:=aR.at hrs hx;have rg:aI m h bg 0 [bV g]:=.of_m hg rfl;exact⟨v.order,.of_m hq rfl,g,rg,b1,o1,e1,aC,aC,u,.imm r1,s,.of_m hr rfl,rg,v.order,u,s,od,x,r,rfl,ho,ru,hv,rg,hK⟩
def Fw(w:Nat):List (Int×Bool)->List VV->List VV->Int
 |[],a,b=>cL a b
 |(c,dn)::r,a,b=>if 0<=c/\c<w then(if(if dn then-j4 (a.getD c.toNat zeroV) (b.getD c.toNat zeroV)else j4 (a.getD c.toNat zeroV) (b.getD c.toNat zeroV))≠0 then(if dn then-j4 (a.getD c.toNat zeroV) (b.getD c.toNat zeroV)else j4 (a.getD c.toNat zeroV) (b.getD c.toNat zeroV))else Fw w r a b)else Fw w r a b
theorem yE{w:Nat}:∀{od:List (Int×Bool)}{a b:List VV},a.length=w->b.length=w->jQ od a b=Fw w od a b
 |[],_,_,_,_=>rfl
 |(c,dn)::r,a,b,ha,hb=>by
  rw[jQ,Fw,ha,hb,yE (od:=r) ha hb];by_cases h:0<=c/\c<w
  .rw[if_pos ⟨h.1,h.2,h.2⟩,if_pos h];cases dn<;>simp
  .rw[if_neg (λe=>h ⟨e.1,e.2.1⟩),if_neg h]
theorem Mn.neg{α:Type}{c:α->α->Int}(h:Mn c):Mn (λx y=> -c x y):=by
 refine⟨λx y=>by have:=h.anti x y;omega,λx y z h1 h2=>?_⟩;have a1:=h.anti x y;have a2:=h.anti y z;have a3:=h.anti x z;have:=h.trans z y x aC aC;omega
theorem Fv(w:Nat):∀od,Mn (Fw w od)
 |[]=>BX
 |(c,dn)::r=>by
  have ih:=Fv w r;have hc:Mn (λa b:List VV=>j4 (a.getD c.toNat zeroV) (b.getD c.toNat zeroV)):=Fx.of λa:List VV=>a.getD c.toNat zeroV;by_cases h:0<=c/\c<w
  .have e:Fw w ((c,dn)::r)=λa b=>if(if dn then-j4 (a.getD c.toNat zeroV) (b.getD c.toNat zeroV)else j4 (a.getD c.toNat zeroV) (b.getD c.toNat zeroV))≠0 then(if dn then-j4 (a.getD c.toNat zeroV) (b.getD c.toNat zeroV)else j4 (a.getD c.toNat zeroV) (b.getD c.toNat zeroV))else Fw w r a b:=by
    funext a b;rw[Fw,if_pos h]
   rw[e];cases dn
   .exact hc.lex ih
   .exact hc.neg.lex ih
  .have e:Fw w ((c,dn)::r)=Fw w r:=by funext a b;rw[Fw,if_neg h]
   rw[e];exact ih
theorem WL{w:Nat}(od:List (Int×Bool)):Sort.SWO (Go.Proofs.ltOf (fun(x y:Bh h (λl=>l.length=w))=>jQ od x.l y.l)):=by
 have e:(fun(x y:Bh h (λl=>l.length=w))=>jQ od x.l y.l)=λx y=>Fw w od x.l y.l:=by
  funext x y;exact yE x.pr_ y.pr_
 rw[e];exact(Fv w od).swo
theorem Pr:Sound Tryz.prog 223 WX:=by
 refine⟨⟨Tryz.f223,Tryz.func223,rfl,by decide⟩,?_⟩;rintro cvs vs m h w K ⟨s,bq,v,od,wd,ps,rfl,hq,hnq,ho,hr,hv,hw,hl,hK⟩ hp
 obtain⟨v1,v2,rfl⟩:∃v v2,vs=[v,v2]:=by
  have:=(mG hp.args).1
  match vs,this with
  |[v,v2],_=>exact⟨v,v2,rfl⟩
 have h1:v1=s.val:=hp.args.1;have h2:v2= .func (.func 227) #[] #[.pointer (some ⟨bq,0,none⟩)]:=hp.args.2.1;subst h1 h2;refine Ky (R:=λl=>l.length=wd) (g:=227) (cb:=[.pointer (some ⟨bq,0,none⟩)]) (m2:=λb=>if b=bq then m bq else none) (cf:=jQ od) rfl hp ⟨Tryz.f227,Tryz.func227,rfl,by decide⟩ hr hv hw hl (WL od) ⟨Mm,QR,λx y=>⟨x.s,y.s,bq,v,od,x.l,y.l,rfl,by simpa using hq,ho,x.ok,y.ok,rfl,rfl,rfl⟩⟩ (λb o hb=>?_) hK;have hb:(if b=bq then m bq else none)=some o:=hb;split at hb
 .rename_i e;subst e;exact⟨hb,hnq⟩
 .cases hb
noncomputable def Wg:Ctx:=Nn [(201,Sc),(203,W6),(202,P5),(204,P2)] [(13,{A:=Nat×Nat×Sl×Sl×MH×PH,st:=λ⟨i,b,e,g,m,h⟩=>cM 66 68 [(10,vv (.pointer (some ⟨b,0,none⟩))),(11,sv e),(51,sv g),(52,iv g.len),(53,iv i)] [] m h})] [] [200005,200006,200007,200010,1095,400000,0]
abbrev Cw(a:MH)(b:PH)(c:Nat)(d:Nat->Prop):Prop:=∃(x:Nat),aI a b c 0 (aU x)/\d x
abbrev pL(a:Nat->Option Obj)(b:Nat)(c d:(Value->Prop)->Prop)(e:Value)(g:Prop)(i:Sl->Prop):Prop:=∃(x:List (Value×Sl))(x1:Value->Prop),aA (nU a b (List.map (fun(x2:Value×Sl)=>(x2.1,bV x2.2)) x)) (c x1) (aA (d x1) (∀(x2:Value×Sl),List.Mem x2 x->x1 x2.1) (((∀(x2:Value×Sl),List.Mem x2 x->x2.1=e->False)->g)/\∀(x2:Sl),List.Mem (e,x2) x->i x2))
abbrev BF(a b c d:Prop)(e:(List (List Value))->Prop):Prop:=aA a b (aA c d (∃(x:List (List Value)),e x))
noncomputable abbrev n0:Sl:=Sl.mk Option.none 0 0
noncomputable abbrev kN(a:Nat×Nat×Sl×Sl×MH×PH):Nat:=a.2.1
noncomputable abbrev vJ(a:Nat×Nat×Sl×Sl×MH×PH):Sl:=a.2.2.1
noncomputable abbrev nF(a:Nat×Nat×Sl×Sl×MH×PH):Sl:=a.2.2.2.1
noncomputable abbrev jU(a:Nat×Nat×Sl×Sl×MH×PH):Nat->Option Obj:=mU a.2.2.2
noncomputable abbrev nB(a:Nat×Nat×Sl×Sl×MH×PH):Nat->Nat->Option Value:=mD a.2.2.2
abbrev EK(a:List (List VV))(b:(List VV)->Prop):Prop:=∀(x:List VV),List.Mem x a->b x
attribute [push_cast] Cw pL BF n0 kN vJ nF jU nB EK
def Gn(v:QV)(t:Sl)(m:MH)(h:PH)(K:CV->MH->PH->Prop):Prop:=
  ∃(s:Sl)(o:List (Int×Int)),aA (nH v.on s) (nS h s o) (∀(a:Sl),gT (λb h1=>dZ h h1 (Ints h1 a (jM o)) (Ints h1 b (fI o)->gA (λb1 m1=>bY m h1 b1->bG m m1 b1 fE 31->gA (λb2 m2=>bY m1 h1 b2->bG m1 m2 b2 fE 31->iE (λc E=>aA (wS m2 b1 (fN c E 0)) (0<c.size) (∀(m3:MH),bG m2 m3 b1 (gN (bV a) 1 c) E->iE (λc1 E1=>aA (wS m3 b2 (fN c1 E1 0)) (0<c1.size) (∀(m4:MH),bG m3 m4 b2 (gN (bV b) 1 c1) E1->EE m4 h1 243 (λb3 m5=>tJ t.a 0 1 t m5 h1 1 (λy S=>pI S h1 y m5 (λx I k e m6 h2=>p9 (uR x k e) h1 h2 (I k m6 h2) (gX m6 h2 b2 0 (λy1=>DK (λs1 t1 r c2=>aA (iG e y1=iG s1 t1) (bB h2 s1 r) (aA (Ints h2 t1 c2) (fQ r.length c2) (branch (List.all (pick r c2) jD) (gX m6 h2 b2 0 (λy2
 =>DK (λs2 t2 r1 c3=>aA (iG e y2=iG s2 t2) (bB h2 s2 r1) (aA (Ints h2 t2 c3) (NQ r1) (aA (fQ r1.length c3) (gG m6) (Cw m6 h2 b3 (λy3=>∃(y4:Nat),aA (aI m6 h2 b3 0 (aU y4)) (aI m6 h2 b3 0 (aU y3)/\pL m6 y4 (λO=>j6 9 O) (λO=>O (dN r1 c3)) (dN r1 c3) (BF (aI m6 h2 b3 0 (aU y3)) (aI m6 h2 b3 0 (aU y4)) (aI m6 h2 b3 0 (aU y3)) (aI m6 h2 b3 0 (aU y4)) (λx1=>aA (cD m6 n0 75 1 x1) (dD (x1.length+1) 24) (eF x1/\fP (λs3 m7=>eX m6 m7 n0 s3 75 1 (eR x1 (aM e))->aA (aI m7 h2 b3 0 (aU y3)) (aI m7 h2 b3 0 (aU y4)) (k9 m7 y3 (λO=>j6 9 O) (λO=>O (dN r1 c3)) (dN r1 c3) (λk1 m8=>fK m7 m8 y3->jF m8 y3 (dO k1 (dN r1 c3) (bV s3) [])->I (k+1) m8 h2) (λl v1 l1=>dO l (dN r1
 c3) v1 l1) (λl l1 m8=>fK m7 m8 y3->jF m8 y3 (dO l (dN r1 c3) (bV s3) l1)->I (k+1) m8 h2)))))) (λy5=>BF (aI m6 h2 b3 0 (aU y3)) (aI m6 h2 b3 0 (aU y4)) (aI m6 h2 b3 0 (aU y3)) (aI m6 h2 b3 0 (aU y4)) (λx1=>aA (cD m6 (cV y5) 75 1 x1) (dD (x1.length+1) 24) (eF x1/\fP (λs3 m7=>eX m6 m7 (cV y5) s3 75 1 (eR x1 (aM e))->aA (aI m7 h2 b3 0 (aU y3)) (aI m7 h2 b3 0 (aU y4)) (k9 m7 y3 (λO=>j6 9 O) (λO=>O (dN r1 c3)) (dN r1 c3) (λk1 m8=>fK m7 m8 y3->jF m8 y3 (dO k1 (dN r1 c3) (bV s3) [])->I (k+1) m8 h2) (λl v1 l1=>dO l (dN r1 c3) v1 l1) (λl l1 m8=>fK m7 m8 y3->jF m8 y3 (dO l (dN r1 c3) (bV s3) l1)->I (k+1) m8 h2))))))) (aA (aI m6 h2 b3 0 (aU y3)) (aI m6 h2 b3 0 (aU y4)) (aI m6 h2 b3
 0 (aU y3)/\pL m6 y4 (λO=>j6 9 O) (λO=>O (dN r1 c3)) (dN r1 c3) (rK (aI m6 h2 b3 0 (aU y3)) (aI m6 h2 b3 0 (aU y4)) (λx1=>aA (cD m6 n0 75 1 x1) (dD (x1.length+1) 24) (eF x1/\fP (λs3 m7=>eX m6 m7 n0 s3 75 1 (eR x1 (aM e))->aA (aI m7 h2 b3 0 (aU y3)) (aI m7 h2 b3 0 (aU y4)) (k9 m7 y3 (λO=>j6 9 O) (λO=>O (dN r1 c3)) (dN r1 c3) (λk1 m8=>fK m7 m8 y3->jF m8 y3 (dO k1 (dN r1 c3) (bV s3) [])->I (k+1) m8 h2) (λl v1 l1=>dO l (dN r1 c3) v1 l1) (λl l1 m8=>fK m7 m8 y3->jF m8 y3 (dO l (dN r1 c3) (bV s3) l1)->I (k+1) m8 h2)))))) (λy5=>rK (aI m6 h2 b3 0 (aU y3)) (aI m6 h2 b3 0 (aU y4)) (λx1=>aA (cD m6 (cV y5) 75 1 x1) (dD (x1.length+1) 24) (eF x1/\fP (λs3 m7
 =>eX m6 m7 (cV y5) s3 75 1 (eR x1 (aM e))->aA (aI m7 h2 b3 0 (aU y3)) (aI m7 h2 b3 0 (aU y4)) (k9 m7 y3 (λO=>j6 9 O) (λO=>O (dN r1 c3)) (dN r1 c3) (λk1 m8=>fK m7 m8 y3->jF m8 y3 (dO k1 (dN r1 c3) (bV s3) [])->I (k+1) m8 h2) (λl v1 l1=>dO l (dN r1 c3) v1 l1) (λl l1 m8=>fK m7 m8 y3->jF m8 y3 (dO l (dN r1 c3) (bV s3) l1)->I (k+1) m8 h2))))))))))))))) (I (k+1) m6 h2))))))) (λm6 h2=>gA (λb4 m7=>bY m6 h2 b4->bG m6 m7 b4 fE 95->tJ t.a 0 0 t m7 h2 0 (λy1 S1=>pI S1 h2 y1 m7 (λx I k e m8 h3=>p9 (uR x k e) h2 h3 (I k m8 h3) (gX m8 h3 b1 0 (λy2=>DK (λs1 t1 r c2=>aA (iG e y2=iG s1 t1) (bB h3 s1 r) (aA (Ints h3 t1 c2) (fQ r.length c2) (branch (!(List.all (pick r c2) jD)) (I (k+1) m8 h3)
 (∃(y3:Nat),aI m8 h3 b3 0 (aU y3)/\∃(y4:Sl),aA (aI m8 h3 b1 0 (aM y4)) (aI m8 h3 b3 0 (aU y3)) (EF e y4 h3 m8 (aI m8 h3 b3 0 (aU y3)) (λ_ _=>aI m8 h3 b1 0 (aM y4)) (λr1 c3=>pL m8 y3 (λO=>j6 9 O) (λO=>O (dN r1 c3)) (dN r1 c3) (∃(I1:Nat×Nat×Sl×Sl×MH×PH->Prop)(m9:Nat×Nat×Sl×Sl×MH×PH->Nat),(∃(x1:Nat×Nat×Sl×Sl×MH×PH),aA (I1 x1) (cN b4 (kN x1)) (aA (bA e (vJ x1)) (Zp=Ss (nF x1)) (aA (bI (nF x1).len) (bI x1.1) (aA (m8=jU x1) (h3=nB x1) True))))/\∀(x1:Nat×Nat×Sl×Sl×MH×PH),I1 x1->bE (↑x1.1:Int) (aH (nF x1)) (dA (nF x1) (↑x1.1:Int) (λb5 o1 y5=>aI (jU x1) (nB x1) b5 (o1+aZ x1.1 1) (aM y5)/\∃(y6:Sl),aA (aI (jU x1) (nB x1) (kN x1) 0 (aM
 y6)) (aI (jU x1) (nB x1) (kN x1) 0 (aM y6)) (aI (jU x1) (nB x1) (kN x1) 0 (aM y6)/\aY (nB x1) 1 (mA (aM (vJ x1)) (aM y5)) (λs2 h4=>∃(s3:Sl)(r2:List (List VV)),aA (nH s2 s3) (Rows h4 s3 r2) (aA (r2.length<=10) (EK r2 (λr3=>r3.length<=12)) (gT (λs4 h5=>dZ h4 h5 (bB h5 s4 r2.flatten) (rK (aI (jU x1) h5 (kN x1) 0 (aM y6)) (aI (jU x1) h5 (kN x1) 0 (aM y6)) (λx2=>aA (cD (jU x1) (cV y6) 75 1 x2) (dD (x2.length+1) 24) (eF x2/\fP (λs5 a1=>eX (jU x1) a1 (cV y6) s5 75 1 (eR x2 (aM s4))->iE (λc4 E2=>aA (wS a1 (kN x1) (fN c4 E2 0)) (0<c4.size) (∀(a2:MH),bG a1 a2 (kN x1) (gN (bV s5) 1 c4) E2->∃(x3:Nat×Nat×Sl×Sl×MH×PH),aA (I1 x3) (m9 x3<m9 x1) (aA
 (cN (kN x1) (kN x3)) (bA (vJ x1) (vJ x3)) (aA (bA (nF x1) (nF x3)) (cO (nF x1) (nF x3)) (aA (bD (gI (bC x1.1 1)) x3.1) (a2=jU x3) (bP h5 (nB x3)))))))))))))))))) (I (k+1) (jU x1) (nB x1))) (λy5=>∃(I1:Nat×Nat×Sl×Sl×MH×PH->Prop)(m9:Nat×Nat×Sl×Sl×MH×PH->Nat),(∃(x1:Nat×Nat×Sl×Sl×MH×PH),aA (I1 x1) (cN b4 (kN x1)) (aA (bA e (vJ x1)) (bA y5 (nF x1)) (aA (cO y5 (nF x1)) (bI x1.1) (aA (m8=jU x1) (h3=nB x1) True))))/\∀(x1:Nat×Nat×Sl×Sl×MH×PH),I1 x1->bE (↑x1.1:Int) (aH (nF x1)) (dA (nF x1) (↑x1.1:Int) (λb5 o1 y6=>aI (jU x1) (nB x1) b5 (o1+aZ x1.1 1) (aM y6)/\∃(y7:Sl),aA (aI (jU x1) (nB x1) (kN x1) 0 (aM y7)) (aI (jU x1)
 (nB x1) (kN x1) 0 (aM y7)) (aI (jU x1) (nB x1) (kN x1) 0 (aM y7)/\aY (nB x1) 1 (mA (aM (vJ x1)) (aM y6)) (λs2 h4=>∃(s3:Sl)(r2:List (List VV)),aA (nH s2 s3) (Rows h4 s3 r2) (aA (r2.length<=10) (EK r2 (λr3=>r3.length<=12)) (gT (λs4 h5=>dZ h4 h5 (bB h5 s4 r2.flatten) (rK (aI (jU x1) h5 (kN x1) 0 (aM y7)) (aI (jU x1) h5 (kN x1) 0 (aM y7)) (λx2=>aA (cD (jU x1) (cV y7) 75 1 x2) (dD (x2.length+1) 24) (eF x2/\fP (λs5 a1=>eX (jU x1) a1 (cV y7) s5 75 1 (eR x2 (aM s4))->iE (λc4 E2=>aA (wS a1 (kN x1) (fN c4 E2 0)) (0<c4.size) (∀(a2:MH),bG a1 a2 (kN x1) (gN (bV s5) 1 c4) E2->∃(x3:Nat×Nat×Sl×Sl×MH×PH),aA (I1 x3) (m9 x3<m9 x1) (aA (cN (kN x1) (kN
 x3)) (bA (vJ x1) (vJ x3)) (aA (bA (nF x1) (nF x3)) (cO (nF x1) (nF x3)) (aA (bD (gI (bC x1.1 1)) x3.1) (a2=jU x3) (bP h5 (nB x3)))))))))))))))))) (I (k+1) (jU x1) (nB x1)))))))))))) (λm8 h3=>gX m8 h3 b4 0 (λy2=>K (dG y2) m8 h3))))))))))))))))
def ZV(on:List (Int×Int))(ls:List (List (List VV))):Prop:=2<=ls.length/\∃w w',gH w (ls.getD 0 [])/\gH w' (ls.getD 1 [])/\fQ w (jM on)/\fQ w' (fI on)
def IE(q:Query)(ls:List (List (List VV))):Prop:=match q with|.mk _ _ _ _ on _ _ _ _=>ZV on ls
def agree(on:List (Int×Int))(x y:List VV):Bool:=cL (pick x (jM on)) (pick y (fI on))==0
def KA(q:Query)(ls:List (List (List VV))):List (List VV):=match q with|.mk _ _ _ _ on _ _ _ _=>(ls.getD 0 []).filter λx=>(ls.getD 1 []).any λy=>agree on x y
theorem Mc{x y:List VV}:agree on x y=true↔pick x (jM on)=pick y (fI on):=by
 simp only[agree,beq_iff_eq,gR]
theorem Es{r:List VV}{cols:List Int}(hr:NQ r)(hc:fQ r.length cols):∀v∈pick r cols,WT v:=λv hv=>hr.val v (Ox hc hv)
theorem F6{κ:List VV->ByteArray}(hκ:UX κ){x y:List VV}(hx:NQ x)(hy:NQ y)(cx:fQ x.length (jM on))(cy:fQ y.length (fI on)):κ (pick x (jM on))=κ (pick y (fI on))↔agree on x y=true:=by
 rw[Mc];exact hκ.inj (by simp[pick,jM,fI]) (Es hx cx) (Es hy cy)
structure Start(m m7:MH)(sa sb:Sl)(T:TypeId)(b1 b2 y b7:Nat):Prop where
 sub:Sub m m7
 a_:m7 b1=some (.cells #[.slice sa.a sa.len sa.cap] 31 (0,0))
 b_:m7 b2=some (.cells #[.slice sb.a sb.len sb.cap] 31 (0,0))
 y_:m7 y=some (.map #[] 0)
 c_:m7 b7=some (.cells #[.map (some y)] T (0,0))
 ya:b1≠y
 yb:b2≠y
 yc:b7≠y
 free:m y=none
theorem N8{sa sb:Sl}{T:TypeId}{Q:Nat->Nat->Nat->Nat->MH->Prop}(hK:∀b1 b2 y b7 m7,Start m m7 sa sb T b1 b2 y b7->Q b1 b2 y b7 m7):
 ∀(b1:Nat)(m1:MH),bY m h b1->eW m m1 b1 (.cells #[nV] 31 (0,0))->∀(b2:Nat)(m2:MH),bY m1 h b2->eW m1 m2 b2 (.cells #[nV] 31 (0,0))->
  ∃(cs:Array Value)(E:TypeId),wS m2 b1 (.cells cs E (0,0))/\0<cs.size/\∀m3:MH,eW m2 m3 b1 (.cells (Array.mk (bV sa::cs.toList.drop 1)) E (0,0))->
  ∃(cs:Array Value)(E:TypeId),wS m3 b2 (.cells cs E (0,0))/\0<cs.size/\∀m4:MH,eW m3 m4 b2 (.cells (Array.mk (bV sb::cs.toList.drop 1)) E (0,0))->
  ∀(y:Nat)(m5:MH),bY m4 h y->eW m4 m5 y (.map (Array.mk []) 0)->∀(b7:Nat)(m6:MH),bY m5 h b7->eW m5 m6 b7 (.cells (Array.mk [.map none]) T (0,0))->
  ∃(cs:Array Value)(E:TypeId),wS m6 b7 (.cells cs E (0,0))/\0<cs.size/\∀m7:MH,eW m6 m7 b7 (.cells (Array.mk (.map (some y)::cs.toList.drop 1)) E (0,0))->Q b1 b2 y b7 m7:=by
 intro b1 m1 hb1 hu1 b2 m2 hb2 hu2;obtain⟨s1,n1⟩:=gJ (Sub.refl m) hb1 hu1;obtain⟨s2,n2⟩:=gJ s1 hb2 hu2;have e12:b1≠b2:=λe=>by have:=hb2.m_;rw[<-e,hu1.at_]at this;cases this
 refine⟨_,_,⟨by rw[hu2.other b1 e12];exact hu1.at_⟩,by simp,λm3 hu3=>?_⟩;have s3:Sub m m3:=s2.upd n1 hu3.other;refine⟨_,_,⟨by rw[hu3.other b2 (Ne.symm e12)];exact hu2.at_⟩,by simp,λm4 hu4 y m5 hb5 hu5 b7 m6 hb6 hu6=>?_⟩;have s4:Sub m m4:=s3.upd n2 hu4.other;have m4a:m4 b1=some (.cells #[.slice sa.a sa.len sa.cap] 31 (0,0)):=by rw[hu4.other b1 e12];exact hu3.at_
 have m4b:m4 b2=some (.cells #[.slice sb.a sb.len sb.cap] 31 (0,0)):=hu4.at_;obtain⟨s5,ny⟩:=gJ s4 hb5 hu5;obtain⟨s6,n7⟩:=gJ s5 hb6 hu6;have ne5:∀{z o},m4 z=some o->z≠y:=fun{z o} e e2=>by rw[e2,hb5.m_]at e;cases e
 have ne6:∀{z o},m5 z=some o->z≠b7:=fun{z o} e e2=>by rw[e2,hb6.m_]at e;cases e
 have m5a:=m4a;rw[<-hu5.other b1 (ne5 m4a)]at m5a;have m5b:=m4b;rw[<-hu5.other b2 (ne5 m4b)]at m5b;have m5y:m5 y=some (.map #[] 0):=hu5.at_;refine⟨_,_,⟨hu6.at_⟩,by simp,λm7 hu7=>hK _ _ _ _ _ ⟨s6.upd n7 hu7.other,?_,?_,?_,hu7.at_,ne5 m4a,ne5 m4b,Ne.symm (ne6 m5y),ny⟩⟩
 .rw[hu7.other b1 (ne6 m5a),hu6.other b1 (ne6 m5a)];exact m5a
 .rw[hu7.other b2 (ne6 m5b),hu6.other b2 (ne6 m5b)];exact m5b
 .rw[hu7.other y (ne6 m5y),hu6.other y (ne6 m5y)];exact m5y
theorem Rg:Sound Tryz.prog 178 (NR IE KA):=by
 refine Fg Tryz.func178 ?_;rintro cvs m h K ⟨v,t,q,bs,ls,rfl,hq,ha,hT,hok,hK⟩;refine⟨Nn [(201,Sc),(203,W6)] [] [] [200005,200006,200007,200009,1095,400000,0],rfl,aD Jv (aD AX aF),Gm v t m h (cH h K),by kernel_rfl,?_⟩;show Gm v t m h (cH h K);dsimp only[Gm,push_cast];obtain⟨op,ta,w,co,on,gr,od,li,args⟩:=q;obtain⟨h2,wa,wb,hrel,hrel',hca,hcb⟩:=hok;refine⟨v.on,on,rfl,hq.parts.on_,λsa sb h1 le1 hia hib=>N8 λb1 b2 y b7 m7 st=>?_⟩;obtain⟨b,off,x,ea,hlt,rd,sq⟩:=ha.get (Bf (i:=1) aC);obtain⟨b6,off6,x6,ea6,hlt6,rd6,sq6⟩:=ha.get (Bf (i:=0) aC);obtain⟨us',hseq',hru'⟩:=(sq.mono le1).ex;obtain⟨us,hseq,hru⟩:=(sq6.mono le1).ex;simp only[KA]at hK;generalize ls.getD 1 []=l' at hru' hrel' hK sq;generalize ls.getD 0 []=l at hru hrel hK sq6;have hul:=hru.len;have hll:=hrel.len;have hul':=hru'.len;have s7:=st.sub;have ny:=st.free;refine⟨b,off,ea,aC,aC,x,.imm (rd.mono le1),tA,us',λk mx hx=>hx=h1/\(∀z o,m7 z=some o->z≠y->mx z=some o)/\nQ mx y ((l'.take k).map λz=>cG (pick z (fI on))),rX,⟨x,us',rfl,hseq',rfl⟩,⟨rfl,λz o e _=>e,by simpa using nQ.new st.y_⟩,?_,?_⟩
 .rintro k e mx hx hk-⟨rfl,hs,hsn⟩
  obtain⟨r,hr,hv⟩:=hru'.at' hk;have hrl:=List.mem_of_getElem? hr;have r5:aI mx hx b7 0 [Value.map (some y)]:=.of_m (hs b7 _ st.c_ st.yc) rfl;have rb:aI mx hx b2 0 [bV sb]:=.of_m (hs b2 _ st.b_ st.yb) rfl;refine⟨y,r5,sb,rb,r5,e,sb,r,fI on,rfl,hv,hib,hrel'.row r hrl,by rw[hrel'.wid r hrl];exact hcb,hT.sub (λz o e2=>hs z o (s7 z o e2) (λe3=>by rw[e3,ny]at e2;cases e2)),r5,hsn.put (λm' hs' hsn'=>⟨rfl,λz o e2 hne=>by rw[hs'.other z hne];exact hs z o e2 hne,?_⟩)⟩;obtain⟨kk,h5,h6⟩:=hsn'.ex;exact⟨kk,h5,λq=>by rw[h6,List.take_add_one,hr];simp[or_comm]⟩
 .rintro mx hx-⟨rfl,hs,hsn⟩ b9 m5 hb5 hu5;rw[hul',List.take_length]at hsn;have s5:Sub m mx:=λz o e2=>hs z o (s7 z o e2) (λe3=>by rw[e3,ny]at e2;cases e2);obtain⟨s6,n7⟩:=gJ s5 hb5 hu5
  have ne7:∀{z o},mx z=some o->m5 z=some o/\z≠b9:=fun{z o} e2=>by
   have:z≠b9:=λe3=>by rw[e3,hb5.m_]at e2;cases e2
   exact⟨by rw[hu5.other z this];exact e2,this⟩
  obtain⟨m5a,na⟩:=ne7 (hs b1 _ st.a_ st.ya);obtain⟨m5c,nc⟩:=ne7 (hs b7 _ st.c_ st.yc)
  have y7:y≠b9:=by
   obtain⟨kk,⟨es,c,h1,_⟩,_⟩:=hsn.ex;exact(ne7 h1).2
  have hsn5:=hsn.keep (hu5.other y y7);refine⟨b6,off6,ea6,aC,aC,x6,.imm (rd6.mono le1),tA,us,λk my hy=>hy=hx/\A2 m5 my b9/\∃us2,lK m5 my b9 us2/\us2.length<=k/\eO hx us2 ((l.take k).filter λz=>l'.any λy=>agree on z y),rX,⟨x6,us,rfl,hseq,rfl⟩,⟨rfl,λz o e _=>e,[],lK.new hu5.at_,by simp,by simpa using eO.nil hx⟩,?_,?_⟩
  .rintro k e my hy hk-⟨rfl,hs7,us2,hout,hl2,hr2⟩
   obtain⟨r,hr,hv⟩:=hru.at' hk;have hkl:=(List.getElem?_eq_some_iff.1 hk).1;have hrl:=List.mem_of_getElem? hr;have r5:aI my hy b7 0 [Value.map (some y)]:=.of_m (hs7 b7 _ m5c nc) rfl;have r3:aI my hy b1 0 [bV sa]:=.of_m (hs7 b1 _ m5a na) rfl
   have hsn7:nQ my y (l'.map λz=>cG (pick z (fI on))):=by
    obtain⟨kk,⟨es,c,h1,h2,h3,h4⟩,h5⟩:=hsn5.ex;exact⟨kk,⟨es,c,hs7 y _ h1 y7,h2,h3,h4⟩,h5⟩
   have hcr:fQ r.length (jM on):=by rw[hrel.wid r hrl];exact hca
   have key:∀t:Bool,(t=true↔cG (pick r (jM on))∈l'.map λz=>cG (pick z (fI on)))->t=l'.any λy=>agree on r y:=λt ht=>by
    have h1:(cG (pick r (jM on))∈l'.map λz=>cG (pick z (fI on)))↔(l'.any λy=>agree on r y)=true:=by
     rw[List.mem_map,List.any_eq_true];constructor
     .rintro⟨z,hz,e2⟩;exact⟨z,hz,(F6 Jc (hrel.row r hrl) (hrel'.row z hz) hcr (by rw[hrel'.wid z hz];exact hcb)).1 e2.symm⟩
     .rintro⟨z,hz,e2⟩;exact⟨z,hz,((F6 Jc (hrel.row r hrl) (hrel'.row z hz) hcr (by rw[hrel'.wid z hz];exact hcb)).2 e2).symm⟩
    rw[h1]at ht;cases t
    .cases e2:l'.any λy=>agree on r y with
     |false=>rfl
     |true=>exact ht.2 e2
    .exact(ht.1 rfl).symm
   refine⟨y,r5,sa,r3,r5,e,sa,r,jM on,rfl,hv,hia,hrel.row r hrl,hcr,hT.sub (s6.x n7 hs7),r5,r3,hsn7.get (K:=λt=>branch t _ _) (λt ht=>?_)⟩;have e3:=key t ht;refine aB (λh1=>?_) (λh1=>?_)
   .refine lK.app ⟨_,hu5.at_⟩ hs7 hout aC (λm' hs' ho'=>⟨rfl,hs',us2++[e],ho',by simp;omega,?_⟩);rw[iL _ hr,if_pos (by rw[<-e3];exact h1)];exact hr2.snoc hv
   .refine⟨rfl,hs7,us2,hout,aC,?_⟩;rw[iL _ hr,if_neg (by rw[<-e3,h1];simp),List.append_nil];exact hr2
  .rintro my hy-⟨rfl,hs7,us2,hout,hl2,hr2⟩
   rw[hul,List.take_length]at hr2;obtain⟨s,hb,hrow,hfr⟩:=hout.ex;refine⟨s,.of_m hb rfl,cH.row (s6.x n7 hs7) le1 hrow (λj z e=>?_) (λh' le hri=>hK s h' (le1.trans le) ((hr2.mono le).rows hri (by have:=hr2.len;omega)))⟩;cases e2:m z with
   |none=>rfl
   |some o=>have e1:=hfr j z e;rw[s6 z o e2]at e1;cases e1
structure mN(m0 m:MH)(y:Nat)(kk:List (ByteArray×Sl))(us:ByteArray->List Sl):Prop where
 map_:jF m y (kk.map λp=>(Value.string p.1,bV p.2))
 nodup:(kk.map Prod.fst).Nodup
 row:∀p∈kk,cD m p.2 75 1 ((us p.1).map eS)
 fresh:∀p∈kk,∀x i,p.2.a=some ⟨x,i,none⟩->m0 x=none
 apart:∀p∈kk,∀q∈kk,p.1≠q.1->∀x i j,p.2.a=some ⟨x,i,none⟩->q.2.a≠some ⟨x,j,none⟩
 none_:∀k,k∉kk.map Prod.fst->us k=[]
 old:∀x o,m0 x=some o->x≠y->m x=some o
def Bd(kk:List (ByteArray×Sl))(key:ByteArray)(s:Sl):Prop:=(s=⟨none,0,0⟩/\key∉kk.map Prod.fst)\/(key,s)∈kk
theorem mN.new{y:Nat}(h:m y=some (.map #[] 0)):mN m m y [] λ_=>[]:=⟨⟨#[],0,h,rfl,by simp,by simp⟩,by simp,by simp,by simp,by simp,λ_ _=>rfl,λ_ _ e _=>e⟩
theorem Bd.row{m0:MH}{y:Nat}{kk:List (ByteArray×Sl)}{us:ByteArray->List Sl}{key:ByteArray}{s:Sl}(g:mN m0 m y kk us)(hs:Bd kk key s):cD m s 75 1 ((us key).map eS)/\∀x i,s.a=some ⟨x,i,none⟩->m0 x=none:=by
 rcases hs with⟨rfl,hn⟩|hp
 .rw[g.none_ key hn];exact⟨⟨o9 [],.inl ⟨rfl,rfl⟩⟩,λx i e=>by cases e⟩
 .exact⟨g.row _ hp,g.fresh _ hp⟩
theorem mN.keep{m0:MH}{y:Nat}{kk:List (ByteArray×Sl)}{us:ByteArray->List Sl}(g:mN m0 m y kk us)(hk:∀x o,m x=some o->m' x=some o):mN m0 m' y kk us:=by
 obtain⟨es,c,h1,h2,h3,h4⟩:=g.map_;refine⟨⟨es,c,hk _ _ h1,h2,h3,h4⟩,g.nodup,λp hp=>?_,g.fresh,g.apart,g.none_,λx o h1 h2=>hk x o (g.old x o h1 h2)⟩;obtain⟨hr,hx⟩:=g.row p hp;refine⟨hr,hx.imp id ?_⟩;rintro⟨b,cap,cur,e,hm,h⟩;exact⟨b,cap,cur,e,hk _ _ hm,h⟩
def Ke(us:ByteArray->List Sl)(key:ByteArray)(e:Sl):ByteArray->List Sl:=λk=>if k=key then us k++[e]else us k
theorem mN.core{m0 m1:MH}{y:Nat}{kk kk':List (ByteArray×Sl)}{us:ByteArray->List Sl}{key:ByteArray}{s s' e:Sl}(g:mN m0 m y kk us)(hy:∃o,m0 y=some o)(hs:Bd kk key s)(hg:eX m m1 s s' 75 1 ((us key).map eS++[[bV e]]))
 (hm:jF m' y (kk'.map λp=>(Value.string p.1,bV p.2)))(hsame:fK m1 m' y)(hnd:(kk'.map Prod.fst).Nodup)(hmem:∀p∈kk',p=(key,s')\/(p∈kk/\p.1≠key))(hkey:(key,s')∈kk')(hkk:∀k,k∈kk.map Prod.fst->k∈kk'.map Prod.fst):mN m0 m' y kk' (Ke us key e):=by
 obtain⟨oy,hy⟩:=hy;obtain⟨hrow,hfr⟩:=hs.row g;obtain⟨es,c,h1,_⟩:=g.map_;have hny:∀i,s.a≠some ⟨y,i,none⟩:=λi e2=>by rw[hfr y i e2]at hy;cases hy
 have hdom:∀x,m x=none->m0 x=none:=λx hx=>by
  cases h0:m0 x with
  |none=>rfl
  |some o=>
   by_cases hxy:x=y
   .subst hxy;rw[hx]at h1;cases h1
   .rw[g.old x o h0 hxy]at hx;cases hx
 have hs'f:∀x i,s'.a=some ⟨x,i,none⟩->m0 x=none:=λx i e2=>by
  rcases hg.fresh x i e2 with h|⟨j,h⟩
  .exact hdom x h
  .exact hfr x j h
 have hsome:∀p∈kk,∀x i,p.2.a=some ⟨x,i,none⟩->∃o,m x=some o:=λp hp x i e2=>by
  rcases(g.row p hp).ex with⟨h,_⟩|⟨b,cap,cur,h,hm,_⟩
  .rw[h]at e2;cases e2
  .rw[h]at e2;simp only[Option.some.injEq,Addr.mk.injEq]at e2;exact⟨_,e2.1▸hm⟩
 have hap:∀p∈kk,p.1≠key->∀x i j,p.2.a=some ⟨x,i,none⟩->s.a≠some ⟨x,j,none⟩:=λp hp hne x i j e2 e3=>by
  rcases hs with⟨rfl,_⟩|hs
  .cases e3
  .exact g.apart p hp _ hs hne x i j e2 e3
 refine⟨hm,hnd,λp hp=>?_,λp hp x i e2=>?_,λp hp q hq hne x i j e2 e3=>?_,λk hk=>?_,λx o h0 hne=>?_⟩
 .rcases hmem p hp with rfl|⟨hp',hne⟩
  .have e1:(Ke us key e key).map eS=(us key).map eS++[[bV e]]:=by simp[Ke,eS]
   rw[e1];exact cD.keep hg.row λb i e2=>hsame.other b (λe3=>by rw[e3]at e2;rw[hs'f y i e2]at hy;cases hy)
  .have e1:Ke us key e p.1=us p.1:=if_neg hne;rw[e1];refine cD.keep (g.row p hp') λb i e2=>?_;obtain⟨o,ho⟩:=hsome p hp' b i e2;rw[hsame.other b (λe3=>by rw[e3]at e2;rw[g.fresh p hp' y i e2]at hy;cases hy),ho];exact hg.other b o ho (λj=>hap p hp' hne b i j e2)
 .rcases hmem p hp with rfl|⟨hp',_⟩
  .exact hs'f x i e2
  .exact g.fresh p hp' x i e2
 .have hx:∀p∈kk,p.1≠key->∀i j,p.2.a=some ⟨x,i,none⟩->s'.a≠some ⟨x,j,none⟩:=λp hp hne i j e2 e3=>by
   rcases hg.fresh x j e3 with h|⟨j',h⟩
   .obtain⟨o,ho⟩:=hsome p hp x i e2;rw[h]at ho;cases ho
   .exact hap p hp hne x i j' e2 h
  rcases hmem p hp with rfl|⟨hp',hpn⟩<;>rcases hmem q hq with rfl|⟨hq',hqn⟩
  .exact hne rfl
  .exact hx q hq' hqn j i e3 e2
  .exact hx p hp' hpn i j e2 e3
  .exact g.apart p hp' q hq' hne x i j e2 e3
 .have hk1:k≠key:=λe2=>hk (List.mem_map.2 ⟨_,hkey,e2.symm⟩);simp only[Ke,if_neg hk1];exact g.none_ k λh=>hk (hkk k h)
 .rw[hsame.other x hne];exact hg.other x o (g.old x o h0 hne) (λi e2=>by have h5:=hfr x i e2;rw[h0]at h5;cases h5)
theorem mN.put{m0 m1:MH}{y:Nat}{kk:List (ByteArray×Sl)}{us:ByteArray->List Sl}{key:ByteArray}{s s' e:Sl}{Q:MH->Prop}(g:mN m0 m y kk us)(hy:∃o,m0 y=some o)(hs:Bd kk key s)(hg:eX m m1 s s' 75 1 ((us key).map eS++[[bV e]]))
 (hQ:∀m' kk',mN m0 m' y kk' (Ke us key e)->Q m'):
 ∃(kvs:List (Value×Value))(Ok:Value->Prop),jF m1 y kvs/\KeyLaw Tryz.prog 9 Ok/\Ok (.string key)/\Instr.sameBits 10000 (Value.string key) (Value.string key)=true/\(∀e,List.Mem e kvs->Ok e.1)/\((∀e,List.Mem e kvs->e.1=Value.string key->False)->∀m':MH,fK m1 m' y->jF m' y (kvs++[(Value.string key,bV s')])->Q m')/\
  ∀(l1:List (Value×Value))(v0:Value)(l2:List (Value×Value)),kvs=l1++(Value.string key,v0)::l2->∀m':MH,fK m1 m' y->jF m' y (l1++(Value.string key,bV s')::l2)->Q m':=by
 have hny:∀i,s.a≠some ⟨y,i,none⟩:=λi e2=>by
  obtain⟨o,ho⟩:=hy;rw[(hs.row g).2 y i e2]at ho;cases ho
 obtain⟨es,c,h1,h2,h3,h4⟩:=g.map_;refine⟨kk.map λp=>(Value.string p.1,bV p.2),_,⟨es,c,hg.other _ _ h1 hny,h2,h3,h4⟩,zY,⟨key,rfl⟩,Og key,λe he=>?_,λhn m' hsame hm'=>?_,λl1 v0 l2 e0 m' hsame hm'=>?_⟩
 .obtain⟨k,_,rfl⟩:=List.mem_map.1 (show e∈_ from he);exact⟨k.1,rfl⟩
 .have hnk:key∉kk.map Prod.fst:=λh=>by
   obtain⟨p,hp,e2⟩:=List.mem_map.1 h;subst e2;exact hn _ (List.mem_map_of_mem (f:=λp:ByteArray×Sl=>(Value.string p.1,bV p.2)) hp) rfl
  refine hQ m' (kk++[(key,s')]) (g.core hy hs hg (by simpa using hm') hsame ?_ ?_ (by simp) (λk hk=>by rw[List.map_append];exact List.mem_append_left _ hk))
  .rw[List.map_append,List.nodup_append];refine⟨g.nodup,by simp,λa ha b hb e2=>?_⟩;simp at hb;subst e2 hb;exact hnk ha
  .intro p hp;rcases List.mem_append.1 hp with h|h
   .exact .inr ⟨h,λe2=>hnk (e2▸List.mem_map_of_mem h)⟩
   .exact .inl (by simpa using h)
 .obtain⟨k1,k2',e1,e2,e3⟩:=List.map_eq_append_iff.1 e0;obtain⟨p,k2,e4,e5,e6⟩:=List.map_eq_cons_iff.1 e3;subst e1 e4 e2 e6;simp only[Prod.mk.injEq,Value.string.injEq]at e5;have hnd:=g.nodup;rw[List.map_append,List.map_cons,e5.1]at hnd;have hnd2:=List.nodup_append.1 hnd;have hnd3:=List.nodup_cons.1 hnd2.2.1;refine hQ m' (k1++(key,s')::k2) (g.core hy hs hg (by simpa using hm') hsame (by simpa using hnd) ?_ (by simp) (λk hk=>by simpa[e5.1]using hk));intro q hq;rcases List.mem_append.1 hq with h|h
  .exact .inr ⟨List.mem_append_left _ h,λe7=>hnd2.2.2 q.1 (List.mem_map_of_mem h) key (List.mem_cons_self ..) e7⟩
  .rcases List.mem_cons.1 h with h|h
   .exact .inl h
   .exact .inr ⟨List.mem_append_right _ (List.mem_cons_of_mem _ h),λe7=>hnd3.1 (e7▸List.mem_map_of_mem h)⟩
theorem mN.app{m0:MH}{hx:PH}{y c:Nat}{T:TypeId}{kk:List (ByteArray×Sl)}{us:ByteArray->List Sl}{key:ByteArray}{s e:Sl}{Q:MH->Prop}(g:mN m0 m y kk us)(hy:∃o,m0 y=some o)(hc0:∃o,m0 c=some o)(hc:m c=some (.cells #[.map (some y)] T (0,0)))(hl:(us key).length<=502633886983)
 (hQ:∀m' kk',mN m0 m' y kk' (Ke us key e)->Q m')(hs:Bd kk key s):
 ∃xs:List (List Value),cD m (Sl.mk s.a s.len s.cap) 75 1 xs/\(xs.length+1)*24<=140737488355328/\xs.length<140737488355328/\∀(s':Sl)(m1:MH),eX m m1 (Sl.mk s.a s.len s.cap) s' 75 1 (xs++[[bV e]])->
  aI m1 hx c 0 [Value.map (some y)]/\aI m1 hx c 0 [Value.map (some y)]/\
 ∃(kvs:List (Value×Value))(Ok:Value->Prop),jF m1 y kvs/\KeyLaw Tryz.prog 9 Ok/\Ok (.string key)/\Instr.sameBits 10000 (Value.string key) (Value.string key)=true/\(∀e,List.Mem e kvs->Ok e.1)/\((∀e,List.Mem e kvs->e.1=Value.string key->False)->∀m':MH,fK m1 m' y->jF m' y (kvs++[(Value.string key,bV s')])->Q m')/\
  ∀(l1:List (Value×Value))(v0:Value)(l2:List (Value×Value)),kvs=l1++(Value.string key,v0)::l2->∀m':MH,fK m1 m' y->jF m' y (l1++(Value.string key,bV s')::l2)->Q m':=by
 obtain⟨hrow,hfr⟩:=hs.row g;refine⟨_,hrow,by simp;omega,by simp;omega,λs' m1 hg=>?_⟩
 have r:aI m1 hx c 0 [Value.map (some y)]:=.of_m (hg.other c _ hc λi e2=>by
  obtain⟨o,ho⟩:=hc0;have e2:s.a=some ⟨c,i,none⟩:=e2;rw[hfr c i e2]at ho;cases ho) rfl
 exact⟨r,r,g.put hy hs hg hQ⟩
theorem mN.get2{m0:MH}{y:Nat}{kk:List (ByteArray×Sl)}{us:ByteArray->List Sl}{key:ByteArray}{K0:Prop}{K:Sl->Prop}(g:mN m0 m y kk us)(h0:Bd kk key ⟨none,0,0⟩->K0)(hK:∀s,Bd kk key s->K s):
 ∃(kvs:List (Value×Sl))(Ok:Value->Prop),nU m y (kvs.map λp=>(p.1,bV p.2))/\KeyLaw Tryz.prog 9 Ok/\Ok (.string key)/\(∀e,List.Mem e kvs->Ok e.1)/\((∀e,List.Mem e kvs->e.1=Value.string key->False)->K0)/\∀t,List.Mem (Value.string key,t) kvs->K t:=by
 obtain⟨es,c,h1,h2,_,_⟩:=g.map_;refine⟨kk.map λp=>(.string p.1,p.2),_,⟨es,c,h1,by rw[h2];simp⟩,zY,⟨key,rfl⟩,λe he=>?_,λhn=>h0 (.inl ⟨rfl,λh=>?_⟩),λt ht=>hK t (.inr ?_)⟩
 .obtain⟨k,_,rfl⟩:=List.mem_map.1 (show e∈_ from he);exact⟨k.1,rfl⟩
 .obtain⟨p,hp,e⟩:=List.mem_map.1 h;subst e;exact hn (.string p.1,p.2) (List.mem_map_of_mem (f:=λp:ByteArray×Sl=>(Value.string p.1,p.2)) hp) rfl
 .obtain⟨p,hp,e⟩:=List.mem_map.1 (show(Value.string key,t)∈_ from ht);simp only[Prod.mk.injEq,Value.string.injEq]at e;obtain⟨e1,e2⟩:=e;subst e1 e2;exact hp
structure PZ(m0 m:MH)(h:PH)(y:Nat)(f:ByteArray->List (List VV)):Prop where
 ex:∃kk us,mN m0 m y kk us/\∀k,eO h (us k) (f k)
theorem PZ.upd{m0:MH}{y:Nat}{kk:List (ByteArray×Sl)}{us:ByteArray->List Sl}{f f':ByteArray->List (List VV)}{key:ByteArray}{e:Sl}{r:List VV}(g:mN m0 m' y kk (Ke us key e))(hf:∀k,eO h (us k) (f k))(hv:bB h e r)(e1:f' key=f key++[r])(e2:∀k,k≠key->f' k=f k):PZ m0 m' h y f':=by
 refine⟨kk,_,g,λk=>?_⟩;by_cases hk:k=key
 .subst hk;rw[e1];have:Ke us k e k=us k++[e]:=if_pos rfl;rw[this];exact(hf k).snoc hv
 .rw[e2 k hk];have:Ke us key e k=us k:=if_neg hk;rw[this];exact hf k
def z6(cols:List Int)(r:List VV):Bool:=(pick r cols).all jD
def mE(on:List (Int×Int))(b:List (List VV))(x:List VV):List (List VV):=
 if z6 (jM on) x then(b.filter λy=>z6 (fI on) y&&agree on x y).map (x++ ·)else[]
def OO(q:Query)(ls:List (List (List VV))):List (List VV):=match q with|.mk _ _ _ _ on _ _ _ _=>(ls.getD 0 []).flatMap (mE on (ls.getD 1 []))
def IH(q:Query)(ls:List (List (List VV))):Prop:=match q with|.mk _ _ _ _ on _ _ _ _=>ZV on ls/\(ls.getD 0 []).length*(ls.getD 1 []).length<=8000000
theorem uI{α β:Type}{f:α->List β}{n:Nat}:∀{l:List α},(∀x∈l,(f x).length<=n)->(l.flatMap f).length<=l.length*n
 |[],_=>by simp
 |a::l,h=>by
  have h1:=h a (List.mem_cons_self ..);have h2:=uI (l:=l) λx hx=>h x (List.mem_cons_of_mem _ hx);simp only[List.flatMap_cons,List.length_append,List.length_cons,Nat.add_mul,Nat.one_mul];omega
theorem vU{α β:Type}{l:List α}{x:α}(f:α->List β)(hx:l[k]? =some x):(l.take (k+1)).flatMap f=(l.take k).flatMap f++f x:=by
 rw[List.take_add_one,hx];simp
theorem xY{b:List (List VV)}{x:List VV}:(mE on b x).length<=b.length:=by
 unfold mE;split
 .rw[List.length_map];exact List.length_filter_le _ _
 .simp
def under(κ:List VV->ByteArray)(cols:List Int)(l:List (List VV))(key:ByteArray):List (List VV):=l.filter λz=>z6 cols z&&decide (κ (pick z cols)=key)
theorem Dz{κ:List VV->ByteArray}{cols:List Int}{l:List (List VV)}{r:List VV}(hr:l[k]? =some r)(key:ByteArray):under κ cols (l.take (k+1)) key=under κ cols (l.take k) key++(if z6 cols r&&decide (κ (pick r cols)=key)then[r]else[]):=iL _ hr
theorem Rh:Sound Tryz.prog 177 (NR IH OO):=by
 refine Fg Tryz.func177 ?_;rintro cvs m h K ⟨v,t,q,bs,ls,rfl,hq,ha,hT,hok,hK⟩;refine⟨Wg,rfl,aD Jv (aD AX (aD Q5 (aD Q4 aF))),Gn v t m h (cH h K),by kernel_rfl,?_⟩;show Gn v t m h (cH h K);dsimp only[Gn,push_cast];obtain⟨op,ta,w,co,on,gr,od,li,args⟩:=q;obtain⟨⟨h2,wa,wb,hrel,hrel',hca,hcb⟩,hpr⟩:=hok;refine⟨v.on,on,rfl,hq.parts.on_,λsa sb h1 le1 hia hib=>N8 λb1 b2 y b7 m7 st=>?_⟩;obtain⟨b,off,x,ea,hlt,rd,sq⟩:=ha.get (Bf (i:=1) aC);obtain⟨b6,off6,x6,ea6,hlt6,rd6,sq6⟩:=ha.get (Bf (i:=0) aC);obtain⟨us',hseq',hru'⟩:=(sq.mono le1).ex;obtain⟨us,hseq,hru⟩:=(sq6.mono le1).ex;simp only[OO]at hK;generalize ls.getD 1 []=l' at hru' hrel' hK sq hpr;generalize ls.getD 0 []=l at hru hrel hK sq6 hpr;have hul:=hru.len;have hll:=hrel.len;have hll':=hrel'.len;have hul':=hru'.len;have s7:=st.sub;have ny:=st.free;have gsub:∀{mx kk us},mN m7 mx y kk us->Sub m mx:=λg z o e2=>g.old z o (s7 z o e2) (λe3=>by rw[e3,ny]at e2;cases e2);refine⟨b,off,ea,aC,aC,x,.imm (rd.mono le1),tA,us',λk mx hx=>hx=h1/\PZ m7 mx h1 y (under cG (fI on) (l'.take k)),rX,⟨x,us',rfl,hseq',rfl⟩,⟨rfl,⟨[],_,mN.new st.y_,λk=>by simpa[under]using eO.nil h1⟩⟩,?_,?_⟩
 .rintro k e mx hx hk-⟨rfl,⟨kk,uk,g,hg⟩⟩
  obtain⟨r,hr,hv⟩:=hru'.at' hk;have hrl:=List.mem_of_getElem? hr;have hcr:fQ r.length (fI on):=by rw[hrel'.wid r hrl];exact hcb
  have mc:=g.old b7 _ st.c_ st.yc;have r5:aI mx hx b7 0 [Value.map (some y)]:=.of_m mc rfl;have rb:aI mx hx b2 0 [bV sb]:=.of_m (g.old b2 _ st.b_ st.yb) rfl;refine⟨sb,rb,e,sb,r,fI on,rfl,hv,hib,hcr,aB (λhreal=>?_) (λhreal=>?_)⟩
  .have hl:(uk (cG (pick r (fI on)))).length<=502633886983:=by
    have h5:=(hg (cG (pick r (fI on)))).len;have h6:(under cG (fI on) (l'.take k) (cG (pick r (fI on)))).length<=(l'.take k).length:=List.length_filter_le _ _;rw[List.length_take]at h6;omega
   have app:=fun{s:Sl}=>g.app (hx:=hx) (e:=e) (s:=s) (Q:=λm'=>hx=hx/\PZ m7 m' hx y (under cG (fI on) (l'.take (k+1)))) ⟨_,st.y_⟩ ⟨_,st.c_⟩ mc hl (λm' kk' g'=>⟨rfl,PZ.upd g' hg hv (by rw[Dz hr,if_pos];simpa[z6]using hreal) (λk2 hk2=>by rw[Dz hr,if_neg,List.append_nil];simp[Ne.symm hk2])⟩);exact⟨sb,rb,e,sb,r,fI on,rfl,hv,hib,hrel'.row r hrl,hcr,hT.sub (gsub g),y,r5,y,r5,⟨r5,g.get2 (λhs=>⟨r5,r5,r5,r5,app hs⟩) (λs hs=>⟨r5,r5,r5,r5,app hs⟩)⟩,r5,r5,r5,g.get2 (λhs=>⟨r5,r5,app hs⟩) (λs hs=>⟨r5,r5,app hs⟩)⟩
  .refine⟨rfl,⟨kk,uk,g,λk2=>?_⟩⟩;rw[Dz hr,if_neg,List.append_nil]
   .exact hg k2
   .simp[z6,hreal]
 .rintro mx hx-⟨rfl,gr⟩ b9 m5 hb5 hu5;rw[hul',List.take_length]at gr
  have ne7:∀{z o},mx z=some o->m5 z=some o/\z≠b9:=fun{z o} e2=>by
   have:z≠b9:=λe3=>by rw[e3,hb5.m_]at e2;cases e2
   exact⟨by rw[hu5.other z this];exact e2,this⟩
  have s5:Sub m mx:=by
   obtain⟨kk,uk,g,_⟩:=gr.ex;exact gsub g
  obtain⟨s6,n7⟩:=gJ s5 hb5 hu5;obtain⟨kk,uk,g,hg⟩:=gr.ex;refine⟨b6,off6,ea6,aC,aC,x6,.imm (rd6.mono le1),tA,us,λk my hy=>PH.le hx hy/\A2 m5 my b9/\∃us2,lK m5 my b9 us2/\eO hy us2 ((l.take k).flatMap (mE on l')),rX,⟨x6,us,rfl,hseq,rfl⟩,⟨.refl _,λz o e _=>e,[],lK.new hu5.at_,by simpa using eO.nil hx⟩,?_,?_⟩
  .rintro k e my hy hk-⟨le,hs7,us2,hout,hr2⟩
   obtain⟨r,hr,hv⟩:=hru.at' hk;have hkl:=(List.getElem?_eq_some_iff.1 hk).1;have hrl:=List.mem_of_getElem? hr;have old7:∀z o,mx z=some o->my z=some o:=λz o e2=>hs7 z o (ne7 e2).1 (ne7 e2).2;have g7:=g.keep old7;have r5:aI my hy b7 0 [Value.map (some y)]:=.of_m (g7.old b7 _ st.c_ st.yc) rfl;have r3:aI my hy b1 0 [bV sa]:=.of_m (g7.old b1 _ st.a_ st.ya) rfl;have hcr:fQ r.length (jM on):=by rw[hrel.wid r hrl];exact hca
   have hv':=bB.mono hv le;refine⟨sa,r3,e,sa,r,jM on,rfl,hv',hia.mono le,hcr,aB (λhreal=>?_) (λhreal=>?_)⟩
   .refine⟨le,hs7,us2,hout,?_⟩;have:mE on l' r=[]:=if_neg (by simpa[z6]using hreal);rw[vU _ hr,this,List.append_nil];exact hr2
   .have hreal:(pick r (jM on)).all jD=true:=by simpa using hreal
    have hgl:under cG (fI on) l' (cG (pick r (jM on)))=l'.filter λy=>z6 (fI on) y&&agree on r y:=by
     refine List.filter_congr λz hz=>?_;congr 1;have h5:=F6 Jc (hrel.row r hrl) (hrel'.row z hz) hcr (by rw[hrel'.wid z hz];exact hcb);cases e5:agree on r z with
     |true=>exact decide_eq_true (h5.2 e5).symm
     |false=>exact decide_eq_false λe6=>by rw[h5.1 e6.symm]at e5;cases e5
    have hjr:mE on l' r=(under cG (fI on) l' (cG (pick r (jM on)))).map (r++ ·):=by rw[hgl];exact if_pos (by simpa[z6]using hreal)
    have hpre:((l.take k).flatMap (mE on l')).length+(under cG (fI on) l' (cG (pick r (jM on)))).length<=8000000:=by
     have h5:((l.take (k+1)).flatMap (mE on l')).length<=(l.take (k+1)).length*l'.length:=uI λx _=>xY;rw[vU _ hr,List.length_append,hjr,List.length_map]at h5;have h6:(l.take (k+1)).length*l'.length<=l.length*l'.length:=Nat.mul_le_mul_right _ (by rw[List.length_take];omega);omega
    have loop:∀s,Bd kk (cG (pick r (jM on))) s->cD mx s 75 1 ((uk (cG (pick r (jM on)))).map eS):=λs hs=>(hs.row g).1;generalize hG:under cG (fI on) l' (cG (pick r (jM on)))=G at hjr hpre;have hGu:=hg (cG (pick r (jM on)));rw[hG]at hGu;have hGl:=hGu.len;refine⟨y,r5,sa,r3,r5,e,sa,r,jM on,rfl,hv',hia.mono le,hrel.row r hrl,hcr,hT.sub (s6.x n7 hs7),r5,r3,g7.get2 (λhs=>?_) (λs hs=>?_)⟩
    .refine⟨λz=>z.1<=G.length/\z.2.1=b9/\z.2.2.1=e/\z.2.2.2.1=(⟨none,0,0⟩:Sl)/\PH.le hy z.2.2.2.2.2/\A2 m5 z.2.2.2.2.1 b9/\∃us3,lK m5 z.2.2.2.2.1 b9 us3/\eO z.2.2.2.2.2 us3 ((l.take k).flatMap (mE on l')++(G.take z.1).map (r++ ·)),λz=>G.length-z.1,⟨(0,b9,e,(⟨none,0,0⟩:Sl),my,hy),⟨by simp,rfl,rfl,rfl,.refl _,hs7,us2,hout,by simpa using hr2⟩,MT⟩,?_⟩;rintro⟨i,bb,ee,gg,mz,hz⟩ ⟨hi,e1,e2,e3,lez,hsz,us3,houtz,hrz⟩;dsimp only at hi e1 e2 e3 lez hsz houtz hrz;subst e1 e2 e3;have gz:=g.keep (λz o e2=>hsz z o (ne7 e2).1 (ne7 e2).2);have hrow:=(hs.row gz).1;have hsl:=hrow.slen;rw[List.length_map,hGl]at hsl;refine aE (λhlt2=>?_) (λhge=>?_)
     .dsimp only at hlt2⊢
      have hiG:i<G.length:=by omega
      obtain⟨u,hu,hvu⟩:=hGu.at_ i _ (List.getElem?_eq_getElem hiG);obtain⟨b8,e8,rd8⟩:=hrow.rd (h:=hz) (i:=i) (e:=[bV u]) (by rw[List.getElem?_map,hu];rfl);obtain⟨so,hbo,hrowo,hfro⟩:=houtz.ex;have rdo:∀hh,aI mz hh bb 0 [bV so]:=λhh=>.of_m hbo rfl;have hru3:=hrz.len;simp only[List.length_append,List.length_map,List.length_take]at hru3;refine⟨b8,0,e8,aC,aC,u,by simpa using rd8,so,rdo _,rdo _,rdo _,λs2 h3 le3 hri=>⟨s2,[r,G[i]],rfl,?_,by simp,?_,λsl h4 le4 hsl4=>⟨rdo _,rdo _,Eu ⟨_,hu5.at_⟩ hsz hbo hrowo hfro aC (λm' hs' ho'=>⟨(i+1,bb,ee,⟨none,0,0⟩,m',h4),⟨by dsimp only;omega,rfl,rfl,rfl,lez.trans (le3.trans le4),hs',us3++[sl],ho',?_⟩,by dsimp only;omega,?_⟩)⟩⟩⟩
      .refine eO.rows (us:=[ee,u]) ?_ hri (by simp);refine⟨rfl,λj z hj=>?_⟩
       match j,hj with
       |0,hj=>
        simp at hj;subst hj;exact⟨ee,rfl,bB.mono hv' (lez.trans le3)⟩
       |1,hj=>
        simp at hj;subst hj;exact⟨u,rfl,bB.mono hvu (le.trans (lez.trans le3))⟩
      .intro z hz2;have hz2:z∈[r,G[i]]:=hz2;rcases List.mem_cons.1 hz2 with rfl|hz2
       .exact(hrel.row _ hrl).len
       .have e7:=List.mem_singleton.1 hz2
        have:z∈l':=by
         have h9:z∈under cG (fI on) l' (cG (pick r (jM on))):=by rw[hG,e7];exact List.getElem_mem _
         exact(List.mem_filter.1 h9).1
        exact(hrel'.row _ this).len
      .have e7:(G.take (i+1)).map (r++ ·)=(G.take i).map (r++ ·)++[r++G[i]]:=by rw[List.take_add_one,List.getElem?_eq_getElem hiG,List.map_append];rfl
       rw[e7, <-List.append_assoc];exact(hrz.mono (le3.trans le4)).snoc (by simpa using hsl4)
      .dsimp only;exact⟨rfl,rfl,rfl,rfl,by rw[j5 aC],rfl,rfl,trivial⟩
     .dsimp only at hge⊢
      have:i=G.length:=by have hsl:0=G.length:=hsl;omega
      subst this;refine⟨le.trans lez,hsz,us3,houtz,?_⟩;rw[vU _ hr,hjr];rw[List.take_length]at hrz;exact hrz
    .refine⟨λz=>z.1<=G.length/\z.2.1=b9/\z.2.2.1=e/\z.2.2.2.1=s/\PH.le hy z.2.2.2.2.2/\A2 m5 z.2.2.2.2.1 b9/\∃us3,lK m5 z.2.2.2.2.1 b9 us3/\eO z.2.2.2.2.2 us3 ((l.take k).flatMap (mE on l')++(G.take z.1).map (r++ ·)),λz=>G.length-z.1,⟨(0,b9,e,s,my,hy),⟨by simp,rfl,rfl,rfl,.refl _,hs7,us2,hout,by simpa using hr2⟩,MT⟩,?_⟩;rintro⟨i,bb,ee,gg,mz,hz⟩ ⟨hi,e1,e2,e3,lez,hsz,us3,houtz,hrz⟩;dsimp only at hi e1 e2 e3 lez hsz houtz hrz;subst e1 e2 e3;have gz:=g.keep (λz o e2=>hsz z o (ne7 e2).1 (ne7 e2).2);have hrow:=(hs.row gz).1;have hsl:=hrow.slen;rw[List.length_map,hGl]at hsl;refine aE (λhlt2=>?_) (λhge=>?_)
     .dsimp only at hlt2⊢
      have hiG:i<G.length:=by omega
      obtain⟨u,hu,hvu⟩:=hGu.at_ i _ (List.getElem?_eq_getElem hiG);obtain⟨b8,e8,rd8⟩:=hrow.rd (h:=hz) (i:=i) (e:=[bV u]) (by rw[List.getElem?_map,hu];rfl);obtain⟨so,hbo,hrowo,hfro⟩:=houtz.ex;have rdo:∀hh,aI mz hh bb 0 [bV so]:=λhh=>.of_m hbo rfl;have hru3:=hrz.len;simp only[List.length_append,List.length_map,List.length_take]at hru3;refine⟨b8,0,e8,aC,aC,u,by simpa using rd8,so,rdo _,rdo _,rdo _,λs2 h3 le3 hri=>⟨s2,[r,G[i]],rfl,?_,by simp,?_,λsl h4 le4 hsl4=>⟨rdo _,rdo _,Eu ⟨_,hu5.at_⟩ hsz hbo hrowo hfro aC (λm' hs' ho'=>⟨(i+1,bb,ee,gg,m',h4),⟨by dsimp only;omega,rfl,rfl,rfl,lez.trans (le3.trans le4),hs',us3++[sl],ho',?_⟩,by dsimp only;omega,?_⟩)⟩⟩⟩
      .refine eO.rows (us:=[ee,u]) ?_ hri (by simp);refine⟨rfl,λj z hj=>?_⟩
       match j,hj with
       |0,hj=>
        simp at hj;subst hj;exact⟨ee,rfl,bB.mono hv' (lez.trans le3)⟩
       |1,hj=>
        simp at hj;subst hj;exact⟨u,rfl,bB.mono hvu (le.trans (lez.trans le3))⟩
      .intro z hz2;have hz2:z∈[r,G[i]]:=hz2;rcases List.mem_cons.1 hz2 with rfl|hz2
       .exact(hrel.row _ hrl).len
       .have e7:=List.mem_singleton.1 hz2
        have:z∈l':=by
         have h9:z∈under cG (fI on) l' (cG (pick r (jM on))):=by rw[hG,e7];exact List.getElem_mem _
         exact(List.mem_filter.1 h9).1
        exact(hrel'.row _ this).len
      .have e7:(G.take (i+1)).map (r++ ·)=(G.take i).map (r++ ·)++[r++G[i]]:=by rw[List.take_add_one,List.getElem?_eq_getElem hiG,List.map_append];rfl
       rw[e7, <-List.append_assoc];exact(hrz.mono (le3.trans le4)).snoc (by simpa using hsl4)
      .dsimp only;exact⟨rfl,rfl,rfl,rfl,by rw[j5 aC],rfl,rfl,trivial⟩
     .dsimp only at hge⊢
      have:i=G.length:=by omega
      subst this;refine⟨le.trans lez,hsz,us3,houtz,?_⟩;rw[vU _ hr,hjr];rw[List.take_length]at hrz;exact hrz
  .rintro my hy le2 ⟨le,hs7,us2,hout,hr2⟩;rw[hul,List.take_length]at hr2;obtain⟨s,hb,hrow,hfr⟩:=hout.ex;refine⟨s,.of_m hb rfl,cH.row (s6.x n7 hs7) (le1.trans le) hrow (λj z e=>?_) (λh' le' hri=>hK s h' (le1.trans (le.trans le')) ((hr2.mono le').rows hri ?_))⟩
   .cases e2:m z with
    |none=>rfl
    |some o=>have e1:=hfr j z e;rw[s6 z o e2]at e1;cases e1
   .have h5:(l.flatMap (mE on l')).length<=l.length*l'.length:=uI λx _=>xY;omega
noncomputable def V3:Ctx:=Nn [(203,W6),(223,WX)] [(7,{A:=Nat×Nat×Nat×MH×PH,st:=λ⟨b,c,r,m,h⟩=>cM 35 37 [(2,vv (.pointer (some ⟨b,0,none⟩))),(5,vv (.pointer (some ⟨c,0,none⟩))),(26,vv (.pointer (some ⟨r,0,none⟩)))] [] m h})] [] [200002,200005,1095,400000,0]
noncomputable abbrev xK(a:Nat×Nat×Nat×MH×PH):Nat->Nat->Option Value:=cE a.2.2
abbrev IW(a:Nat->(List (Value×Value))->(List (Value×Value))->Prop):Prop:=∃(x:Nat)(x1 x2:List (Value×Value)),a x x1 x2
attribute [push_cast] xK IW
def Gf(v:QV)(u:Nat)(m:MH)(h:PH)(K:CV->MH->PH->Prop):Prop:=
  gA (λb m1=>bY m h b->bG m m1 b v.enc 68->EE m1 h 243 (λb1 m2=>∃(S:PH->List Value->List (List Value)->Prop),pI S h u m2 (λx I k e m3 h1=>p9 (uR x k e) h h1 (I k m3 h1) (gX m3 h1 b 17 (λy=>DK (λs t r c=>aA (iG e y=iG s t) (bB h1 s r) (aA (Ints h1 t c) (NQ r) (aA (fQ r.length c) (gG m3) (Cw m3 h1 b1 (λy1=>∃(y2:Nat),aA (aI m3 h1 b1 0 (aU y2)) (aI m3 h1 b1 0 (aU y1)/\pL m3 y2 (λO=>j6 9 O) (λO=>O (dN r c)) (dN r c) (BF (aI m3 h1 b1 0 (aU y1)) (aI m3 h1 b1 0 (aU y2)) (aI m3 h1 b1 0 (aU y1)) (aI m3 h1 b1 0 (aU y2)) (λx1=>aA (cD m3 n0 75 1 x1) (dD (x1.length+1) 24) (eF x1/\fP (λs1 m4=>eX m3 m4 n0 s1 75 1 (eR x1 (aM e))->aA (aI m4 h1 b1 0 (aU y1)) (aI m4 h1
 b1 0 (aU y2)) (k9 m4 y1 (λO=>j6 9 O) (λO=>O (dN r c)) (dN r c) (λk1 m5=>fK m4 m5 y1->jF m5 y1 (dO k1 (dN r c) (bV s1) [])->I (k+1) m5 h1) (λl v1 l1=>dO l (dN r c) v1 l1) (λl l1 m5=>fK m4 m5 y1->jF m5 y1 (dO l (dN r c) (bV s1) l1)->I (k+1) m5 h1)))))) (λy3=>BF (aI m3 h1 b1 0 (aU y1)) (aI m3 h1 b1 0 (aU y2)) (aI m3 h1 b1 0 (aU y1)) (aI m3 h1 b1 0 (aU y2)) (λx1=>aA (cD m3 (cV y3) 75 1 x1) (dD (x1.length+1) 24) (eF x1/\fP (λs1 m4=>eX m3 m4 (cV y3) s1 75 1 (eR x1 (aM e))->aA (aI m4 h1 b1 0 (aU y1)) (aI m4 h1 b1 0 (aU y2)) (k9 m4 y1 (λO=>j6 9 O) (λO=>O (dN r c)) (dN r c) (λk1 m5=>fK m4 m5 y1->jF m5 y1 (dO k1 (dN r c) (bV s1) [])->I (k+1) m5 h1) (λl v1 l1=>
 dO l (dN r c) v1 l1) (λl l1 m5=>fK m4 m5 y1->jF m5 y1 (dO l (dN r c) (bV s1) l1)->I (k+1) m5 h1))))))) (aA (aI m3 h1 b1 0 (aU y1)) (aI m3 h1 b1 0 (aU y2)) (aI m3 h1 b1 0 (aU y1)/\pL m3 y2 (λO=>j6 9 O) (λO=>O (dN r c)) (dN r c) (rK (aI m3 h1 b1 0 (aU y1)) (aI m3 h1 b1 0 (aU y2)) (λx1=>aA (cD m3 n0 75 1 x1) (dD (x1.length+1) 24) (eF x1/\fP (λs1 m4=>eX m3 m4 n0 s1 75 1 (eR x1 (aM e))->aA (aI m4 h1 b1 0 (aU y1)) (aI m4 h1 b1 0 (aU y2)) (k9 m4 y1 (λO=>j6 9 O) (λO=>O (dN r c)) (dN r c) (λk1 m5=>fK m4 m5 y1->jF m5 y1 (dO k1 (dN r c) (bV s1) [])->I (k+1) m5 h1) (λl v1 l1=>dO l (dN r c) v1 l1) (λl l1 m5=>fK m4 m5 y1->jF m5 y1 (dO l (dN r c) (bV s1) l1)->I (k
 +1) m5 h1)))))) (λy3=>rK (aI m3 h1 b1 0 (aU y1)) (aI m3 h1 b1 0 (aU y2)) (λx1=>aA (cD m3 (cV y3) 75 1 x1) (dD (x1.length+1) 24) (eF x1/\fP (λs1 m4=>eX m3 m4 (cV y3) s1 75 1 (eR x1 (aM e))->aA (aI m4 h1 b1 0 (aU y1)) (aI m4 h1 b1 0 (aU y2)) (k9 m4 y1 (λO=>j6 9 O) (λO=>O (dN r c)) (dN r c) (λk1 m5=>fK m4 m5 y1->jF m5 y1 (dO k1 (dN r c) (bV s1) [])->I (k+1) m5 h1) (λl v1 l1=>dO l (dN r c) v1 l1) (λl l1 m5=>fK m4 m5 y1->jF m5 y1 (dO l (dN r c) (bV s1) l1)->I (k+1) m5 h1)))))))))))))))) (λm3 h1=>Cw m3 h1 b1 (λy=>∃(k:List (Value×Value)),jF m3 y k/\gA (λr m4=>bY m3 h1 r->fK m3 m4 r->iU m4 y r k k->∃(I:Nat×Nat×Nat×MH×PH->Prop)(m5:Nat×Nat×Nat×MH×PH->Nat),
 (∃(x:Nat×Nat×Nat×MH×PH),aA (I x) (cN b x.1) (aA (cN b1 x.2.1) (cN r x.2.2.1) (bZ m4 (cC x.2.2) h1 (xK x))))/\∀(x:Nat×Nat×Nat×MH×PH),I x->IW (λb2 k1 l=>aA (iU (cC x.2.2) b2 x.2.2.1 k1 l) (l=[]->Cw (cC x.2.2) (xK x) x.2.1 (λy1=>K (CV.val (Value.map (Option.some y1))) (cC x.2.2) (xK x))) (∀(l1:List (Value×Value))(x1:Value×Value)(l2:List (Value×Value)),l=l1++x1::l2->∀(m6:MH),fK (cC x.2.2) m6 x.2.2.1->A4 m6 b2 x.2.2.1 k1 (l1++l2) x1->IW (λb3 k2 l3=>∃(x2:Value×Value),A4 m6 b3 x.2.2.1 k2 l3 x2/\∃(s:Sl)(b4:Nat)(v1:QV)(o:List (Int×Bool))(w:Nat)(p:List (Sl×List VV)),aA (aK (CV.val x2.2) (gL 227 (lY x.1))=aK (dG s) (gL 227 (lY b4))) (m6 b4=Option.some (fN (Array.mk v1.enc) 68
 0)) (aA (∀(i:Nat),jJ (bL s.a b4 i)) (jY (xK x) v1.order o) (aA (ED m6 s 1 p) (∀(p1:Sl×List VV),List.Mem p1 p->bB (xK x) p1.1 p1.2) (aA (∀(p1:Sl×List VV),List.Mem p1 p->p1.2.length=w) (w7 p.length) (∀(p1:List (Sl×List VV))(m7:MH),List.Perm p1 p->List.Pairwise (fun(p2:Sl×List VV)=>fun(q:Sl×List VV)=>¬(jQ o q.2 p2.2<0)) p1->ED m7 s 1 p1->(∀(b5:Nat),(∀(i:Nat),jJ (bL s.a b5 i))->m7 b5=m6 b5)->∃(x3:Nat×Nat×Nat×MH×PH),aA (I x3) (m5 x3<m5 x) (aA (cN x.1 x3.1) (cN x.2.1 x3.2.1) (bT (cN x.2.2.1 x3.2.2.1) m7 (cC x3.2.2) (xK x) (xK x3)))))))))))))))
def kG(κ:List VV->ByteArray)(gr:List Int)(l:List (List VV))(k:ByteArray):List (List VV):=l.filter λz=>decide (κ (pick z gr)=k)
def oH(od:List (Int×Bool))(l:List (List VV)):Prop:=l.Pairwise λa b=>¬jQ od b a<0
structure oY(κ:List VV->ByteArray)(m:MH)(h:PH)(y:Nat)(gr:List Int)(od:List (Int×Bool))(l:List (List VV))(kk:List (ByteArray×Sl))(g:ByteArray->List (List VV)):Prop where
 map_:jF m y (kk.map λp=>(Value.string p.1,bV p.2))
 nodup:(kk.map Prod.fst).Nodup
 rows:∀p∈kk,Rows h p.2 (g p.1)
 none_:∀k,k∉kk.map Prod.fst->g k=[]
 perm:∀k,(g k).Perm (kG κ gr l k)
 sort:∀k,oH od (g k)
def NI:Vc.Spec:=λcvs m h K=>∃v u gr od l w,cvs=[aQ v,.val (.func (.func 174) #[] #[.pointer (some ⟨u,0,none⟩)])]/\Ints h v.group gr/\jY h v.order od/\Kp h u l/\gH w l/\fQ w gr/\gG m/\
 ∀y m2 h2 kk g,m y=none->(∀b,b≠y->m2 b=m b)->PH.le h h2->oY cG m2 h2 y gr od l kk g->K (.val (.map (some y))) m2 h2
structure YJ(m:MH)(h:PH)(od:List (Int×Bool))(p:ByteArray×Sl)(f:ByteArray->List (List VV))(st:Prop):Prop where
 ex:∃ps:List (Sl×List VV),cD m p.2 75 1 (ps.map λq=>eS q.1)/\(∀q∈ps,bB h q.1 q.2)/\(ps.map Prod.snd).Perm (f p.1)/\(st->oH od (ps.map Prod.snd))
noncomputable def leftOf(m:MH)(r:Nat):Nat:=match m r with
 |some (.mapIter (some b) _ seen _)=>(match m b with|some (.map es _)=>(es.toList.filter λe=> !seen.contains e.born).length|_=>0)
 |_=>0
theorem iU.left_{r:Nat}{kvs left:List (Value×Value)}(i:iU m b r kvs left):leftOf m r=left.length:=by
 obtain⟨es,c,since,seen,c0,h1,_,_,_,h5,_,_,_,h9⟩:=i.ex;simp only[leftOf,h5,h1];rw[<-h9,List.length_map]
theorem iU.mem{r:Nat}{kvs left:List (Value×Value)}(i:iU m b r kvs left){x:Value×Value}(hx:x∈left):x∈kvs:=by
 obtain⟨es,c,since,seen,c0,h1,h2,_,_,h5,_,_,_,h9⟩:=i.ex;rw[<-h9]at hx;rw[<-h2];obtain⟨e,he,rfl⟩:=List.mem_map.1 hx;exact List.mem_map.2 ⟨e,(List.mem_filter.1 he).1,rfl⟩
theorem iU.keep{r:Nat}{kvs left:List (Value×Value)}(i:iU m b r kvs left)(h1:m' b=m b)(h2:m' r=m r):iU m' b r kvs left:=by
 obtain⟨es,c,since,seen,c0,h3,h4⟩:=i.ex;exact⟨es,c,since,seen,c0,by rw[h1];exact h3,by rw[h2];exact h4⟩
theorem iU.nodup{r:Nat}{kvs left:List (Value×Value)}(i:iU m b r kvs left)(hn:kvs.Nodup):left.Nodup:=by
 obtain⟨es,c,since,seen,c0,h1,h2,_,_,h5,_,_,_,h9⟩:=i.ex;rw[<-h9];rw[<-h2]at hn;exact hn.sublist (List.filter_sublist.map _)
theorem ZQ{us:List Sl}{rs:List (List VV)}(hu:eO h us rs):∃ps:List (Sl×List VV),ps.map Prod.fst=us/\ps.map Prod.snd=rs/\∀q∈ps,bB h q.1 q.2:=by
 refine⟨us.zip rs,List.map_fst_zip (Nat.le_of_eq hu.len),List.map_snd_zip (Nat.le_of_eq hu.len.symm),λq hq=>?_⟩;obtain⟨i,hi⟩:=List.mem_iff_getElem?.1 hq;rw[List.getElem?_zip_eq_some]at hi;obtain⟨u,h1,h2⟩:=hu.at_ i _ hi.2;rw[hi.1]at h1;cases h1;exact h2
theorem cD.ice{s:Sl}{us:List Sl}(hr:cD m s 75 1 (us.map eS))(hb:∀b cur,s.a=some ⟨b,0,none⟩->m b=some (.cells cur 75 (0,0))->∀i,h b i=cur[i]?):bH h s 1 (us.map eS):=by
 rcases hr.ex with⟨rfl,hx0⟩|⟨b,cap,cur,rfl,hm,h1,h2,h3,h4⟩
 .rw[hx0];exact bH.nil _ _
 .refine⟨by simp,?_,h1⟩;by_cases hu:us.map eS=[]
  .exact .inl hu
  .refine .inr ⟨b,0,rfl,λi e hi=>⟨λj v hv=>?_⟩⟩;have hel:=hr.rows.len e (List.mem_of_getElem? hi);have hj:j=0:=by have:=(List.getElem?_eq_some_iff.1 hv).1;omega
   subst hj;have hlt:=(List.getElem?_eq_some_iff.1 hi).1
   have h5:((us.map eS).flatten)[i]? =some v:=by
    rw[List.getElem?_map]at hi;cases hu2:us[i]? with
    |none=>rw[hu2]at hi;cases hi
    |some u=>
     rw[hu2]at hi;simp at hi;subst hi;simp[eS]at hv;subst hv
     have:∀l:List Sl,(l.map eS).flatten=l.map λu=>Value.slice u.a u.len u.cap:=λl=>by
      induction l with
      |nil=>rfl
      |cons a l ih=>simp only[List.map_cons,List.flatten_cons,ih];rfl
     rw[this,List.getElem?_map,hu2];rfl
   rw[<-h4,List.getElem?_take,if_pos aC]at h5;rw[hb b cur rfl hm, <-Array.getElem?_toList,show 0+i*1+0=i by omega];exact h5
theorem H3{kk:List (ByteArray×Sl)}(hn:(kk.map Prod.fst).Nodup){p q:ByteArray×Sl}(hp:p∈kk)(hq:q∈kk)(e:p.1=q.1):p=q:=by
 induction kk with
 |nil=>cases hp
 |cons a kk ih=>
  have hn:=List.nodup_cons.1 hn;rcases List.mem_cons.1 hp with rfl|hp2<;>rcases List.mem_cons.1 hq with rfl|hq2
  .rfl
  .exact(hn.1 (List.mem_map.2 ⟨q,hq2,e.symm⟩)).elim
  .exact(hn.1 (List.mem_map.2 ⟨p,hp2,e⟩)).elim
  .exact ih hn.2 hp2 hq2
theorem OW{κ:List VV->ByteArray}{m4 mx mz:MH}{hz:PH}{y r:Nat}{l:List (List VV)}{kk:List (ByteArray×Sl)}{uk:ByteArray->List Sl}(s4:Sub m m4)(ny:m y=none)(m4y:m4 y=some (.map #[] 0))(g:mN m4 mx y kk uk)(hg:∀k,eO hz (uk k) (kG κ gr l k))(le:PH.le h hz)(hll:l.length<=8000000)
 (oth:∀b o,mx b=some o->(∀p∈kk,∀i,p.2.a≠some ⟨b,i,none⟩)->mz b=some o)(itz:iU mz y r (kk.map λp=>(Value.string p.1,bV p.2)) [])(half:∀p∈kk,YJ mz hz od p (kG κ gr l) ((Value.string p.1,bV p.2)∉([]:List (Value×Value))))
 (hK:∀y m2 h2 kk g,m y=none->(∀b,b≠y->m2 b=m b)->PH.le h h2->oY κ m2 h2 y gr od l kk g->K (.val (.map (some y))) m2 h2):cH h K (.val (.map (some y))) mz hz:=by
 intro hd;have notg:∀b o,m4 b=some o->∀p∈kk,∀i,p.2.a≠some ⟨b,i,none⟩:=λb o e p hp i e2=>by rw[g.fresh p hp b i e2]at e;cases e
 have gsub:Sub m mx:=λz o e2=>g.old z o (s4 z o e2) (λe3=>by rw[e3,ny]at e2;cases e2)
 classical
 let B:Nat->Prop:=λb=>∃p∈kk,p.2.a=some ⟨b,0,none⟩
 have hB:∀b,B b->m b=none/\b≠y/\∀i,hz b i=none:=by
  rintro b ⟨p,hp,e⟩;obtain⟨ps,h1,_⟩:=(half p hp).ex;refine⟨?_,λe2=>?_,hd b _ (h1.blk e).choose_spec⟩
  .cases e2:m b with
   |none=>rfl
   |some o=>exact(notg b o (s4 b o e2) p hp 0 e).elim
  .rw[e2]at e;exact notg y _ m4y p hp 0 e
 let h2:PH:=λb i=>if B b then(match mz b with|some (.cells cs _ _)=>cs[i]? |_=>none)else hz b i
 have le2:PH.le hz h2:=⟨λb i v e=>by
  have:¬B b:=λhb=>by rw[(hB b hb).2.2 i]at e;cases e
  show(if B b then _ else hz b i)=some v;rw[if_neg this];exact e⟩
 have grp:∀p∈kk,∃G,Rows h2 p.2 G/\G.Perm (kG κ gr l p.1)/\oH od G:=λp hp=>by
  obtain⟨ps,h1,h3,h4,h5⟩:=(half p hp).ex;refine⟨ps.map Prod.snd,?_,h4,h5 (by simp)⟩;have e5:(ps.map λq=>eS q.1)=(ps.map Prod.fst).map eS:=by rw[List.map_map];rfl
  rw[e5]at h1
  have hri:bH h2 p.2 1 ((ps.map Prod.fst).map eS):=cD.ice h1 λb cur ea hm i=>by
   show(if B b then _ else hz b i)=_;rw[if_pos ⟨p,hp,ea⟩,hm]
  refine eO.rows (us:=ps.map Prod.fst) ⟨by simp,λj x hx=>?_⟩ hri ?_
  .rw[List.getElem?_map]at hx;cases e6:ps[j]? with
   |none=>rw[e6]at hx;cases hx
   |some q=>
    rw[e6]at hx;have hx:q.2=x:=by simpa using hx
    exact⟨q.1,by rw[List.getElem?_map,e6];rfl,hx▸bB.mono (h3 q (List.mem_of_getElem? e6)) le2⟩
  .have:=h4.length_eq;have h6:(kG κ gr l p.1).length<=l.length:=List.length_filter_le _ _;omega
 let G:ByteArray->List (List VV):=λk=>if e:∃p G,p∈kk/\p.1=k/\Rows h2 p.2 G/\G.Perm (kG κ gr l p.1)/\oH od G then e.choose_spec.choose else[]
 have hG:∀p∈kk,Rows h2 p.2 (G p.1)/\(G p.1).Perm (kG κ gr l p.1)/\oH od (G p.1):=λp hp=>by
  have ex:∃p' G,p'∈kk/\p'.1=p.1/\Rows h2 p'.2 G/\G.Perm (kG κ gr l p'.1)/\oH od G:=by
   obtain⟨G,hG⟩:=grp p hp;exact⟨p,G,hp,rfl,hG⟩
  have e6:G p.1=ex.choose_spec.choose:=dif_pos ex;rw[e6];obtain⟨h5,h6,h7⟩:=ex.choose_spec.choose_spec
  have tr:∀p' G',p'∈kk->p'.1=p.1->(Rows h2 p'.2 G'/\G'.Perm (kG κ gr l p'.1)/\oH od G')->Rows h2 p.2 G'/\G'.Perm (kG κ gr l p.1)/\oH od G':=λp' G' h1 h2 h3=>by
   have e7:=H3 g.nodup h1 hp h2;subst e7;exact h3
  exact tr _ _ h5 h6 h7
 have hN:∀k,k∉kk.map Prod.fst->G k=[]/\kG κ gr l k=[]:=λk hk=>by
  refine⟨dif_neg ?_,?_⟩
  .rintro⟨p,_,hp,e,_⟩;exact hk (List.mem_map.2 ⟨p,hp,e⟩)
  .have h5:=(hg k).len;rw[g.none_ k hk]at h5;exact List.eq_nil_of_length_eq_zero h5.symm
 obtain⟨es,c,since,seen,c0,i1,i2,i3,i4,_⟩:=itz.ex;refine⟨λb=>if b=y then mz y else m b,h2,λb o e=>?_,le.trans le2,λb i v' e=>?_,hK y _ h2 kk G ny (λb hb=>if_neg hb) (le.trans le2) ⟨⟨es,c,(if_pos rfl).trans i1,i2,i3,i4⟩,g.nodup,λp hp=>(hG p hp).1,λk hk=>(hN k hk).1,λk=>?_,λk=>?_⟩⟩
 .have e:(if b=y then mz y else m b)=some o:=e;split at e
  .rename_i e2;rw[e2];exact e
  .exact oth b o (gsub b o e) (notg b o (s4 b o e))
 .have e:(if B b then _ else hz b i)=some v':=e;split at e
  .rename_i hb;have h5:=hB b hb;obtain⟨p,hp,ea⟩:=hb;obtain⟨ps,h1,_⟩:=(half p hp).ex;obtain⟨cur,hm⟩:=h1.blk ea;rw[hm]at e;refine .inr ⟨cur,75,(0,0),hm,e,?_⟩;show(if b=y then mz y else m b)=none;rw[if_neg h5.2.1];exact h5.1
  .exact .inl e
 .by_cases hk:k∈kk.map Prod.fst
  .obtain⟨p,hp,rfl⟩:=List.mem_map.1 hk;exact(hG p hp).2.1
  .rw[(hN k hk).1,(hN k hk).2]
 .by_cases hk:k∈kk.map Prod.fst
  .obtain⟨p,hp,rfl⟩:=List.mem_map.1 hk;exact(hG p hp).2.2
  .rw[(hN k hk).1];exact List.Pairwise.nil
theorem OU{κ:List VV->ByteArray}{m4 mx mz m6:MH}{hz:PH}{y r w:Nat}{gr:List Int}{od:List (Int×Bool)}{l:List (List VV)}{kk:List (ByteArray×Sl)}{uk:ByteArray->List Sl}{left l1 l2:List (Value×Value)}{x:Value×Value}(m4y:m4 y=some (.map #[] 0))(g:mN m4 mx y kk uk)(hrel:gH w l)(hr0:mx r=none)
 (oth:∀b o,mx b=some o->(∀p∈kk,∀i,p.2.a≠some ⟨b,i,none⟩)->mz b=some o)(itz:iU mz y r (kk.map λp=>(Value.string p.1,bV p.2)) left)(half:∀p∈kk,YJ mz hz od p (kG κ gr l) ((Value.string p.1,bV p.2)∉left))(hlx:left=l1++x::l2)(hs6:fK mz m6 r)(ita:A4 m6 y r (kk.map λp=>(Value.string p.1,bV p.2)) (l1++l2) x):
 ∃(p0:ByteArray×Sl)(ps:List (Sl×List VV)),x=(Value.string p0.1,bV p0.2)/\(∀b o,m4 b=some o->b≠y->m6 b=some o/\∀i,p0.2.a≠some ⟨b,i,none⟩)/\cD m6 p0.2 75 1 (ps.map λp:Sl×List VV=>eS p.1)/\(∀p∈ps,bB hz p.1 p.2)/\(∀p∈ps,p.2.length=w)/\ps.length<=l.length/\
  ∀(ps':List (Sl×List VV))(m7:MH),ps'.Perm ps->ps'.Pairwise (λp q=>¬jQ od q.2 p.2<0)->cD m7 p0.2 75 1 (ps'.map λp=>eS p.1)->(∀b,(∀i,p0.2.a≠some ⟨b,i,none⟩)->m7 b=m6 b)->
   (∀b o,mx b=some o->(∀p∈kk,∀i,p.2.a≠some ⟨b,i,none⟩)->m7 b=some o)/\(∃left,iU m7 y r (kk.map λp=>(Value.string p.1,bV p.2)) left/\∀p∈kk,YJ m7 hz od p (kG κ gr l) ((Value.string p.1,bV p.2)∉left))/\leftOf m7 r<leftOf mz r:=by
 have hsome:∀p∈kk,∀x i,p.2.a=some ⟨x,i,none⟩->∃o,mx x=some o:=λp hp x i e2=>⟨_,((g.row p hp).blk e2).choose_spec⟩
 have ne5:∀{z o},mx z=some o->z≠r:=fun{z o} e2 e3=>by rw[e3,hr0]at e2;cases e2
 have hxl:x∈left:=by rw[hlx];simp
 obtain⟨p0,hp0,rfl⟩:=List.mem_map.1 (iU.mem itz hxl);obtain⟨ps,h1,h3,h4,h5⟩:=(half p0 hp0).ex;have notg:∀b o,m4 b=some o->∀p∈kk,∀i,p.2.a≠some ⟨b,i,none⟩:=λb o e p hp i e2=>by rw[g.fresh p hp b i e2]at e;cases e
 have blkr:∀p∈kk,∀b i,p.2.a=some ⟨b,i,none⟩->b≠r:=λp hp b i e=>ne5 (hsome p hp b i e).choose_spec;have hlen:=h4.length_eq;have hlen2:(kG κ gr l p0.1).length<=l.length:=List.length_filter_le _ _;rw[List.length_map]at hlen;refine⟨p0,ps,rfl,λb o e hby=>⟨?_,notg b o e p0 hp0⟩,cD.keep h1 λb i e=>hs6.other b (blkr p0 hp0 b i e),h3,λq hq=>?_,aC,λps' m7 hperm hsort hrow' hoth=>?_⟩
 .have mb:=g.old b o e hby;rw[hs6.other b (ne5 mb)];exact oth b o mb (notg b o e)
 .have:q.2∈kG κ gr l p0.1:=h4.mem_iff.1 (List.mem_map_of_mem hq);exact hrel.wid _ (List.mem_filter.1 this).1
 .have ynot:∀i,p0.2.a≠some ⟨y,i,none⟩:=notg y _ m4y p0 hp0;have rnot:∀i,p0.2.a≠some ⟨r,i,none⟩:=λi e=>blkr p0 hp0 r i e rfl;have it7:iU m7 y r (kk.map λp=>(Value.string p.1,bV p.2)) (l1++l2):=iU.keep ita.it (hoth y ynot) (hoth r rnot);refine⟨λb o e hb=>?_,⟨_,it7,λp hp=>?_⟩,?_⟩
  .rw[hoth b (hb p0 hp0),hs6.other b (ne5 e)];exact oth b o e hb
  .by_cases hpp:p=p0
   .subst hpp;refine⟨ps',hrow',λq hq=>h3 q (hperm.mem_iff.1 hq),(hperm.map _).trans h4,λ_=>?_⟩;rw[oH,List.pairwise_map];exact hsort
   .have hne:p.1≠p0.1:=λe=>hpp (H3 g.nodup hp hp0 e);obtain⟨qs,g1,g3,g4,g5⟩:=(half p hp).ex;refine⟨qs,cD.keep g1 λb i e=>?_,g3,g4,λhn=>g5 λhl=>hn ?_⟩
    .rw[hoth b (λj=>g.apart p hp p0 hp0 hne b i j e),hs6.other b (blkr p hp b i e)]
    .rw[hlx]at hl;rcases List.mem_append.1 hl with h|h
     .exact List.mem_append_left _ h
     .rcases List.mem_cons.1 h with h|h
      .simp only[Prod.mk.injEq,Value.string.injEq]at h;exact(hne h.1).elim
      .exact List.mem_append_right _ h
  .rw[iU.left_ it7,iU.left_ itz,hlx];simp
theorem Js:Sound Tryz.prog 208 NI:=by
 refine Fg Tryz.func208 ?_;rintro cvs m h K ⟨v,u,gr,od,l,w,rfl,hgr,hod,sq,hrel,hcols,hT,hK⟩;refine⟨V3,rfl,aD AX (aD Pr aF),Gf v u m h (cH h K),by kernel_rfl,?_⟩;show Gf v u m h (cH h K);dsimp only[Gf,push_cast];intro bq m1 hb1 hu1 y m2 hb2 hu2 bc m3 hb3 hu3;obtain⟨s1,nq⟩:=gJ (Sub.refl m) hb1 hu1;obtain⟨s2,ny⟩:=gJ s1 hb2 hu2;obtain⟨s3,nc⟩:=gJ s2 hb3 hu3;have hqy:bq≠y:=λe=>by have:=hb2.m_;rw[<-e,hu1.at_]at this;cases this
 have m2q:m2 bq=some (.cells ⟨QV.enc v⟩ 68 (0,0)):=by rw[hu2.other bq hqy];exact hu1.at_
 have hqc:bq≠bc:=λe=>by have:=hb3.m_;rw[<-e,m2q]at this;cases this
 have hyc:y≠bc:=λe=>by have:=hb3.m_;rw[<-e,hu2.at_]at this;cases this
 refine⟨_,_,⟨hu3.at_⟩,by simp,λm4 hu4=>?_⟩;have s4:Sub m m4:=s3.upd nc hu4.other;have m4q:m4 bq=some (.cells ⟨QV.enc v⟩ 68 (0,0)):=by rw[hu4.other bq hqc,hu3.other bq hqc];exact m2q
 have m4y:m4 y=some (.map #[] 0):=by rw[hu4.other y hyc,hu3.other y hyc];exact hu2.at_
 have m4c:m4 bc=some (.cells #[.map (some y)] 243 (0,0)):=hu4.at_;obtain⟨us,hseq,hru⟩:=sq.ex;have hul:=hru.len;have hll:=hrel.len;clear hu1 hu2 hu3 hu4 hb1 hb2 hb3 s1 s2 s3 m2q;have gsub:∀{mx kk us},mN m4 mx y kk us->Sub m mx:=λg z o e2=>g.old z o (s4 z o e2) (λe3=>by rw[e3,ny]at e2;cases e2);refine⟨tA,us,λk mx hx=>hx=h/\PZ m4 mx h y (kG cG gr (l.take k)),rX,⟨u,us,rfl,hseq,rfl⟩,⟨rfl,⟨[],_,mN.new m4y,λk=>by simpa[kG]using eO.nil h⟩⟩,?_,?_⟩
 .rintro k e mx hx hk-⟨rfl,⟨kk,uk,g,hg⟩⟩
  obtain⟨r,hr,hv⟩:=hru.at' hk;have hrl:=List.mem_of_getElem? hr;have mc:=g.old bc _ m4c (Ne.symm hyc);have r5:aI mx hx bc 0 [Value.map (some y)]:=.of_m mc rfl;have rq:aI mx hx bq 17 [bV v.group]:=.of_m (g.old bq _ m4q hqy) rfl
  have hl:(uk (cG (pick r gr))).length<=502633886983:=by
   have h5:=(hg (cG (pick r gr))).len;have h6:(kG cG gr (l.take k) (cG (pick r gr))).length<=(l.take k).length:=List.length_filter_le _ _;rw[List.length_take]at h6;omega
  have app:=fun{s:Sl}=>g.app (hx:=hx) (e:=e) (s:=s) (Q:=λm'=>hx=hx/\PZ m4 m' hx y (kG cG gr (l.take (k+1)))) ⟨_,m4y⟩ ⟨_,m4c⟩ mc hl (λm' kk' g'=>⟨rfl,PZ.upd g' hg hv (by rw[kG,iL _ hr,if_pos (by simp)];rfl) (λk2 hk2=>by rw[kG,iL _ hr,if_neg (by simp[Ne.symm hk2]),List.append_nil];rfl)⟩);exact⟨v.group,rq,e,v.group,r,gr,rfl,hv,hgr,hrel.row r hrl,by rw[hrel.wid r hrl];exact hcols,hT.sub (gsub g),y,r5,y,r5,⟨r5,g.get2 (λhs=>⟨r5,r5,r5,r5,app hs⟩) (λs hs=>⟨r5,r5,r5,r5,app hs⟩)⟩,r5,r5,r5,g.get2 (λhs=>⟨r5,r5,app hs⟩) (λs hs=>⟨r5,r5,app hs⟩)⟩
 .rintro mx hx-⟨rfl,⟨kk,uk,g,hg⟩⟩
  rw[hul,List.take_length]at hg;have mc:=g.old bc _ m4c (Ne.symm hyc);have mq:=g.old bq _ m4q hqy;refine⟨y,.of_m mc rfl,_,g.map_,λr m5 hb5 hs5 it=>?_⟩;have hr0:mx r=none:=hb5.m_
  have ne5:∀{z o},mx z=some o->m5 z=mx z/\z≠r:=fun{z o} e2=>by
   have:z≠r:=λe3=>by rw[e3,hb5.m_]at e2;cases e2
   exact⟨hs5.other z this,this⟩
  have hsome:∀p∈kk,∀x i,p.2.a=some ⟨x,i,none⟩->∃o,mx x=some o:=λp hp x i e2=>⟨_,((g.row p hp).blk e2).choose_spec⟩
  have kvsnd:(kk.map λp=>(Value.string p.1,bV p.2)).Nodup:=by
   have h5:=g.nodup;rw[List.nodup_iff_pairwise_ne,List.pairwise_map]at h5;rw[List.nodup_iff_pairwise_ne,List.pairwise_map];exact h5.imp λhne e=>hne (by simp only[Prod.mk.injEq,Value.string.injEq]at e;exact e.1)
  refine⟨λz=>z.1=bq/\z.2.1=bc/\z.2.2.1=r/\z.2.2.2.2=hx/\(∀b o,mx b=some o->(∀p∈kk,∀i,p.2.a≠some ⟨b,i,none⟩)->z.2.2.2.1 b=some o)/\∃left,iU z.2.2.2.1 y r (kk.map λp=>(Value.string p.1,bV p.2)) left/\∀p∈kk,YJ z.2.2.2.1 hx od p (kG cG gr l) ((Value.string p.1,bV p.2)∉left),λz=>leftOf z.2.2.2.1 z.2.2.1,⟨(bq,bc,r,m5,hx),⟨rfl,rfl,rfl,rfl,λb o e _=>(ne5 e).1.trans e,_,it,λp hp=>?_⟩,MT⟩,?_⟩
  .obtain⟨ps,e1,e2,e3⟩:=ZQ (hg p.1);refine⟨ps,?_,e3,by rw[e2],λhn=>(hn (List.mem_map_of_mem (f:=λp:ByteArray×Sl=>(Value.string p.1,bV p.2)) hp)).elim⟩;have e5:(ps.map λq=>eS q.1)=(uk p.1).map eS:=by rw[<-e1,List.map_map];rfl
   rw[e5];exact cD.keep (g.row p hp) λb i e=>(ne5 (hsome p hp b i e).choose_spec).1
  .rintro⟨b1,b2,b3,mz,hz⟩ ⟨e1,e2,e3,e4,oth,left,itz,half⟩;dsimp only at e1 e2 e3 e4 oth itz half⊢
   subst e1 e2 e3 e4;refine⟨y,_,left,itz,λhleft=>?_,λl1 x l2 hlx m6 hs6 ita=>?_⟩
   .have notg:∀b o,m4 b=some o->∀p∈kk,∀i,p.2.a≠some ⟨b,i,none⟩:=λb o e p hp i e2=>by rw[g.fresh p hp b i e2]at e;cases e
    subst hleft;exact⟨y,.of_m (oth b2 _ mc (notg b2 _ m4c)) rfl,OW s4 ny m4y g hg (.refl _) hll oth itz half hK⟩
   .obtain⟨p0,ps,rfl,hbox,hrow,hv,hw,hpl,hnext⟩:=OU (m4y:=m4y) g hrel hr0 oth itz half hlx hs6 ita;have hb:=hbox b1 _ m4q hqy;refine⟨y,_,_,_,ita,p0.2,b1,v,od,w,ps,rfl,hb.1,hb.2,hod,hrow,hv,hw,aC,λps' m7 hperm hsort hrow' hoth=>?_⟩;obtain⟨k1,⟨left',k2,k3⟩,k4⟩:=hnext ps' m7 hperm hsort hrow' hoth;exact⟨(b1,b2,b3,m7,hz),⟨rfl,rfl,rfl,rfl,k1,left',k2,k3⟩,k4,rfl,rfl,rfl,rfl,rfl,trivial⟩
noncomputable def We:Ctx:=Nn [(208,NI),(200,YG)] [(3,{A:=Nat×Sl×Nat×MH×PH,st:=λ⟨b,s,r,m,h⟩=>cM 29 31 [(2,vv (.pointer (some ⟨b,0,none⟩))),(5,sv s),(13,vv (.pointer (some ⟨r,0,none⟩)))] [] m h})] [(5,{A:=Nat×Sl×Sl×Nat×MH×PH,st:=λ⟨b,s,g,r,m,h⟩=>cM 29 31 [(2,vv (.pointer (some ⟨b,0,none⟩))),(5,sv s),(7,sv g),(13,vv (.pointer (some ⟨r,0,none⟩)))] [] m h})] [200002,1095,0]
abbrev HQ(a:QV)(b:Nat)(c:QV->Nat->List CV)(d:PH)(e:QV->QV)(g:(List Int)->List Int)(i:QV->(List (Int×Bool))->Prop)(j:Nat->(List (List VV))->Prop)(k:Nat->Nat)(l:(List (List VV))->List (List VV))(n:MH)(o:(List Int)->(List (Int×Bool))->(List (List VV))->Nat->MH->PH->(List (ByteArray×Sl))->(ByteArray->List (List VV))->Prop):Prop:=∃(x:QV)(x1:Nat),MU (λx2 x3=>∃(x4:List (List VV))(x5:Nat),aA (aK (cW a) (gL 174 (lY b))=c x x1) (Ints d (e x).group (g x2)) (aA (i x x3) (j x1 x4) (aA (gH (k x5) (l x4)) (fQ (k x5) (g x2)) (gG n/\gA (λx6 x7=>∀(x8:PH)(x9:List (ByteArray×Sl))(a1:ByteArray->List (List VV)),o x2 x3 x4 x6 x7 x8 x9 a1)))))
noncomputable abbrev qB(a:Nat×Sl×Nat×MH×PH):Nat->Option Obj:=cC a.2.2
noncomputable abbrev oK(a:Nat×Sl×Nat×MH×PH):Nat->Nat->Option Value:=cE a.2.2
noncomputable abbrev nD(a:Nat×Sl×Nat×MH×PH):Nat:=a.2.2.1
noncomputable abbrev xS(a:Nat×Sl×Sl×Nat×MH×PH):Sl:=a.2.2.1
noncomputable abbrev pO(a:Nat×Sl×Sl×Nat×MH×PH):Nat×MH×PH:=a.2.2.2
noncomputable abbrev j9(a:Sl)(b:Int):Int:=ite (aH a<b) (aH a) b
abbrev rS(a:Int)(b:Sl):Prop:=a<=(↑b.cap:Int)
attribute [push_cast] HQ qB oK nD xS pO j9 rS
def Gj(v:QV)(t:Sl)(m:MH)(h:PH)(K:CV->MH->PH->Prop):Prop:=
  gA (λb m1=>bY m h b->bG m m1 b v.enc 68->∃(y:QV),aI m1 h b 0 y.enc/\bK (λb1 o=>aA (bL t.a b1 o) ((0:Int)<=0) (0<aH t/\∃(y1:Nat),aI m1 h b1 (o+0) (rE y1)/\HQ y y1 (λv1 u=>aK (cW v1) (gL 174 (lY u))) h (λv1=>v1) (λg=>g) (λv1 o1=>jY h v1.order o1) (λu l=>Kp h u l) (λw=>w) (λl=>l) m1 (λg o1 l y2 m2 h1 k g1=>xD m1 y2->(∀(b2:Nat),jJ (b2=y2)->m2 b2=m1 b2)->dZ h h1 (oY cG m2 h1 y2 g o1 l k g1) (aA (aI m2 h1 b 0 y.enc) (aI m2 h1 b1 (o+0) (rE y1)) (∃(k1:List (Value×Value)),jF m2 y2 k1/\gA (λr m3=>bY m2 h1 r->fK m2 m3 r->iU m3 y2 r k1 k1->aA (aI m3 h1 b 0 y.enc) (aI m3 h1 b1 (o+0) (rE y1)) (∃(I:Nat×Sl×Nat×MH×PH->Prop)(m4:Nat×Sl×Nat×MH×PH->Nat),(∃(x:
 Nat×Sl×Nat×MH×PH),aA (I x) (cN b x.1) (aA (Zp=Ss x.2.1) (cN r x.2.2.1) (bZ m3 (qB x) h1 (oK x))))/\∀(x:Nat×Sl×Nat×MH×PH),I x->IW (λb2 k2 l1=>aA (iU (qB x) b2 (nD x) k2 l1) (l1=[]->F1 (λs u=>∃(l2:List (List VV)),aA (nH x.2.1 s) (sH (qB x) (oK x) s 1 (qE u)) (aA (eO (oK x) u l2) (DJ l2.length) (lT (oK x) (yI l2) (λs1 h2=>K (dG s1) (qB x) h2))))) (∀(l2:List (Value×Value))(x1:Value×Value)(l3:List (Value×Value)),l1=l2++x1::l3->∀(m5:MH),fK (qB x) m5 (nD x)->A4 m5 b2 (nD x) k2 (l2++l3) x1->∃(I1:Nat×Sl×Sl×Nat×MH×PH->Prop),IW (λb3 k3 l4=>∃(x2:Value×Value),A4 m5 b3 (nD x) k3 l4 x2/\∃(x3:Nat×Sl×Sl×Nat×MH×PH),aA (I1 x3) (cN x.1 x3.1) (aA
 (bA x.2.1 x3.2.1) (SV.at (At.val x2.2)=Ss (xS x3)) (bT (cN (nD x) (pO x3).1) m5 (cC (pO x3)) (oK x) (cE (pO x3)))))/\∀(x2:Nat×Sl×Sl×Nat×MH×PH),I1 x2->∃(y3:Int),aA (aI (cC (pO x2)) (cE (pO x2)) x2.1 19 (bR y3)) (0<=j9 (xS x2) y3) (rS (j9 (xS x2) y3) (xS x2)/\∃(x3:List (List Value)),cD (cC (pO x2)) (cV x2.2.1) 75 1 x3/\∃(y4:List (List Value)),aA (dU 1 y4) (sH (cC (pO x2)) (cE (pO x2)) (Sl.mk (xS x2).a (j9 (xS x2) y3).toNat (xS x2).cap) 1 y4) (aA (Ad x3 y4 24) (nC x3 y4.length) (fP (λs m6=>eX (cC (pO x2)) m6 (cV x2.2.1) s 75 1 (x3++y4)->∃(x4:Nat×Sl×Nat×MH×PH),aA (I x4) (m4 x4<m4 x) (aA (cN x2.1 x4.1) (bA s x4.2.1) (bT (cN
 (pO x2).1 x4.2.2.1) m6 (qB x4) (cE (pO x2)) (oK x4)))))))))))))))))
theorem GI{w:Nat}:∀{od:List (Int×Bool)}{a b:List VV},Fw w od a b=0->a=b
 |[],_,_,h=>gR.1 h
 |(c,dn)::r,a,b,h=>by
  rw[Fw]at h;generalize (if dn then-j4 (a.getD c.toNat zeroV) (b.getD c.toNat zeroV)else j4 (a.getD c.toNat zeroV) (b.getD c.toNat zeroV))=x at h;split at h
  .split at h
   .rename_i h1;exact(h1 h).elim
   .exact GI h
  .exact GI h
theorem zK{w:Nat}{od:List (Int×Bool)}{a b:List VV}(ha:a.length=w)(hb:b.length=w):jQ od a b= -jQ od b a:=by
 rw[yE ha hb,yE hb ha];exact(Fv w od).anti a b
theorem UQ{w:Nat}{a b:List VV}(ha:a.length=w)(hb:b.length=w)(h:jQ od a b=0):a=b:=by
 rw[yE ha hb]at h;exact GI h
theorem GS{w:Nat}{od:List (Int×Bool)}{x:List VV}:∀{G:List (List VV)}{n:Nat},oH od G->(∀r∈G,r.length=w)->G.Nodup->(x∈G.take n↔x∈G/\(G.countP λy=>decide (jQ od y x<0))<n)
 |[],n,_,_,_=>by simp
 |a::G,0,_,_,_=>by simp
 |a::G,n+1,hs,hw,hn=>by
  have hs:=List.pairwise_cons.1 hs;have hn:=List.nodup_cons.1 hn;have ih:=GS (x:=x) (G:=G) (n:=n) hs.2 (λr hr=>hw r (List.mem_cons_of_mem _ hr)) hn.2;have hwa:=hw a (List.mem_cons_self ..);rw[List.take_succ_cons,List.mem_cons,ih,List.mem_cons,List.countP_cons];by_cases hx:x=a
  .subst hx;have e1:¬jQ od x x<0:=by have:=zK (od:=od) hwa hwa;omega
   have e2:(G.countP λy=>decide (jQ od y x<0))=0:=List.countP_eq_zero.2 λy hy=>by simpa using hs.1 y hy
   rw[e2,if_neg (by simpa using e1)];simp
  .by_cases hxG:x∈G
   .have hwx:=hw x (List.mem_cons_of_mem _ hxG);have e1:=hs.1 x hxG;have e2:=zK (od:=od) hwa hwx;have e3:jQ od a x≠0:=λe=>hx (UQ hwa hwx e).symm;rw[if_pos (by simp;omega)];simp[hx,hxG]
   .simp[hx,hxG]
theorem Kg{l:List (List VV)}(h:gP l):l.Nodup:=by
 rw[List.nodup_iff_pairwise_ne];exact h.imp fun{a b} hab e=>by subst e;have:=BX.anti a a;omega
def KE(gr:List Int)(x y:List VV):Bool:=cL (pick x gr) (pick y gr)==0
theorem TB{x y:List VV}:KE gr x y=true↔pick x gr=pick y gr:=by
 simp only[KE,beq_iff_eq,gR]
def AW(gr:List Int)(od:List (Int×Bool))(li:Int)(a b:List (List VV)):List (List VV):=a.filter λx=>decide (((b.countP λy=>KE gr x y&&decide (jQ od y x<0):Nat):Int)<li)
def Oo(q:Query)(ls:List (List (List VV))):List (List VV):=match q with|.mk _ _ _ _ _ gr od li _=>AW gr od li (ls.getD 0 []) (ls.getD 0 [])
def IF(q:Query)(ls:List (List (List VV))):Prop:=match q with|.mk _ _ _ _ _ gr _ li _=>1<=ls.length/\(∃w,gH w (ls.getD 0 [])/\fQ w gr)/\0<=li
theorem VE{κ:List VV->ByteArray}(hκ:UX κ){w:Nat}{l:List (List VV)}(hl:gH w l)(hc:fQ w gr){x y:List VV}(hx:NQ x)(hw:x.length=w)(hy:y∈l):κ (pick y gr)=κ (pick x gr)↔KE gr x y=true:=by
 rw[TB];have:=hκ.inj (a:=pick y gr) (b:=pick x gr) (by simp[pick]) (Es (hl.row y hy) (by rw[hl.wid y hy];exact hc)) (Es hx (by rw[hw];exact hc));rw[this];exact eq_comm
theorem G9{κ:List VV->ByteArray}(hκ:UX κ){w:Nat}{l:List (List VV)}(hl:gH w l)(hc:fQ w gr){x:List VV}(hx:NQ x)(hw:x.length=w):
 ((kG κ gr l (κ (pick x gr))).countP λy=>decide (jQ od y x<0))=l.countP λy=>KE gr x y&&decide (jQ od y x<0):=by
 rw[kG,List.countP_filter];refine List.countP_congr λy hy=>?_;have h1:=VE hκ hl hc hx hw hy;simp only[Bool.and_eq_true,decide_eq_true_eq];rw[h1,and_comm]
theorem PJ{α:Type}{p q:α->Bool}:∀{l:List α},(∀x∈l,¬(p x=true/\q x=true))->l.countP p+l.countP q=l.countP λx=>p x||q x
 |[],_=>rfl
 |a::l,h=>by
  have ih:=PJ (l:=l) λx hx=>h x (List.mem_cons_of_mem _ hx);have h1:=h a (List.mem_cons_self ..);rw[List.countP_cons,List.countP_cons,List.countP_cons];cases e1:p a<;>cases e2:q a<;>simp_all<;>omega
theorem TU{κ:List VV->ByteArray}(hκ:UX κ){y w:Nat}{l:List (List VV)}{kk:List (ByteArray×Sl)}{g:ByteArray->List (List VV)}(hg:oY κ m h y gr od l kk g)(hrel:gH w l)(hcols:fQ w gr)(hli:0<=li)(x:List VV):
 x∈AW gr od li l l↔∃p∈kk,x∈(g p.1).take li.toNat:=by
 have gw:∀k r,r∈g k->r∈l/\κ (pick r gr)=k:=λk r hr=>by
  have:=(hg.perm k).mem_iff.1 hr;simpa[kG]using this
 have gn:∀k,(g k).Nodup:=λk=>(hg.perm k).nodup_iff.2 ((Kg hrel.srt).sublist List.filter_sublist);have gt:∀k,x∈(g k).take li.toNat↔x∈g k/\((g k).countP λy=>decide (jQ od y x<0))<li.toNat:=λk=>GS (hg.sort k) (λr hr=>hrel.wid r (gw k r hr).1) (gn k)
 have gc:x∈l->((g (κ (pick x gr))).countP λy=>decide (jQ od y x<0))=l.countP λy=>KE gr x y&&decide (jQ od y x<0):=λhx=>by
  rw[(hg.perm _).countP_eq];exact G9 hκ hrel hcols (hrel.row x hx) (hrel.wid x hx)
 rw[AW,List.mem_filter];constructor
 .rintro⟨hx,hc⟩;have hc:=of_decide_eq_true hc;have hxg:x∈g (κ (pick x gr)):=(hg.perm _).mem_iff.2 (by simp[kG,hx])
  have hk:κ (pick x gr)∈kk.map Prod.fst:=by
   by_cases hk:κ (pick x gr)∈kk.map Prod.fst
   .exact hk
   .rw[hg.none_ _ hk]at hxg;cases hxg
  obtain⟨p,hp,e⟩:=List.mem_map.1 hk;refine⟨p,hp,?_⟩;rw[e];exact(gt _).2 ⟨hxg,by rw[gc hx];omega⟩
 .rintro⟨p,hp,hx⟩;obtain⟨h1,h2⟩:=(gt _).1 hx;obtain⟨h3,h4⟩:=gw _ _ h1;rw[<-h4,gc h3]at h2;exact⟨h3,decide_eq_true aC⟩
open Classical in
structure B4(κ:List VV->ByteArray)(gr:List Int)(li:Int)(l:List (List VV))(kk:List (ByteArray×Sl))(g:ByteArray->List (List VV))(left:List (Value×Value))(acc:List (List VV)):Prop where
 mem:∀x,x∈acc↔∃p∈kk,(Value.string p.1,bV p.2)∉left/\x∈(g p.1).take li.toNat
 cnt:acc.length+(l.countP λz=>decide (Value.string (κ (pick z gr))∈left.map Prod.fst))<=l.length
open Classical in
theorem B4.start{κ:List VV->ByteArray}{gr:List Int}{li:Int}{l:List (List VV)}{kk:List (ByteArray×Sl)}{g:ByteArray->List (List VV)}:B4 κ gr li l kk g (kk.map λp=>(Value.string p.1,bV p.2)) []:=by
 refine⟨λx=>⟨λe=>(by cases e),?_⟩,?_⟩
 .rintro⟨p,hp,hn,_⟩;exact(hn (List.mem_map_of_mem (f:=λp:ByteArray×Sl=>(Value.string p.1,bV p.2)) hp)).elim
 .rw[List.length_nil,Nat.zero_add];exact List.countP_le_length
theorem TJ{kk:List (ByteArray×Sl)}(h5:(kk.map Prod.fst).Nodup):(kk.map λp=>(Value.string p.1,bV p.2)).Nodup:=by
 rw[List.nodup_iff_pairwise_ne,List.pairwise_map]at h5;rw[List.nodup_iff_pairwise_ne,List.pairwise_map];exact h5.imp λhne e=>hne (by simp only[Prod.mk.injEq,Value.string.injEq]at e;exact e.1)
open Classical in
theorem B4.step{κ:List VV->ByteArray}{m mz:MH}{h:PH}{y yy r:Nat}{gr:List Int}{od:List (Int×Bool)}{li:Int}{l acc:List (List VV)}{kk:List (ByteArray×Sl)}{g:ByteArray->List (List VV)}{left l1 l2:List (Value×Value)}{p0:ByteArray×Sl}(st:B4 κ gr li l kk g left acc)(hg:oY κ m h y gr od l kk g)(itz:iU mz yy r (kk.map λp=>(Value.string p.1,bV p.2)) left)(hp0:p0∈kk)(hlx:left=l1++(Value.string p0.1,bV p0.2)::l2):
 B4 κ gr li l kk g (l1++l2) (acc++(g p0.1).take li.toNat):=by
 have hnd:=iU.nodup itz (TJ hg.nodup);rw[hlx]at hnd
 have hnd':(Value.string p0.1,bV p0.2)∉l1++l2:=λh=>by
  have h5:=List.nodup_append.1 hnd;have h6:=List.nodup_cons.1 h5.2.1;rcases List.mem_append.1 h with h|h
  .exact h5.2.2 _ h _ (List.mem_cons_self ..) rfl
  .exact h6.1 h
 have hin:∀x∈l1++l2,x∈left:=λx h=>by rw[hlx];rcases List.mem_append.1 h with h|h;exact List.mem_append_left _ h;exact List.mem_append_right _ (List.mem_cons_of_mem _ h)
 refine⟨λx=>?_,?_⟩
 .rw[List.mem_append,st.mem];constructor
  .rintro(⟨p,hp,hn,hx⟩|hx)
   .exact⟨p,hp,λh=>hn (hin _ h),hx⟩
   .exact⟨p0,hp0,hnd',hx⟩
  .rintro⟨p,hp,hn,hx⟩;by_cases hpp:p=p0
   .subst hpp;exact .inr hx
   .refine .inl ⟨p,hp,λh=>?_,hx⟩;rw[hlx]at h;rcases List.mem_append.1 h with h|h
    .exact hn (List.mem_append_left _ h)
    .rcases List.mem_cons.1 h with h|h
     .simp only[Prod.mk.injEq,Value.string.injEq]at h;exact hpp (H3 hg.nodup hp hp0 h.1)
     .exact hn (List.mem_append_right _ h)
 .have hkn:Value.string p0.1∉(l1++l2).map Prod.fst:=λh=>by
   obtain⟨z,hz1,hz2⟩:=List.mem_map.1 h;obtain⟨p,hp,rfl⟩:=List.mem_map.1 (iU.mem itz (hin _ hz1));simp only[Value.string.injEq]at hz2;have:=H3 hg.nodup hp hp0 hz2;subst this;exact hnd' hz1
  have h5:=PJ (l:=l) (p:=λz=>decide (Value.string (κ (pick z gr))∈(l1++l2).map Prod.fst)) (q:=λz=>decide (κ (pick z gr)=p0.1)) (λz _⟨h6,h7⟩=>by
   have h6:=of_decide_eq_true h6;rw[of_decide_eq_true h7]at h6;exact hkn h6)
  have h8:(l.countP λz=>decide (Value.string (κ (pick z gr))∈(l1++l2).map Prod.fst)||decide (κ (pick z gr)=p0.1))=l.countP λz=>decide (Value.string (κ (pick z gr))∈left.map Prod.fst):=by
   refine List.countP_congr λz _=>?_;rw[hlx];simp only[Bool.or_eq_true,decide_eq_true_eq,List.map_append,List.map_cons,List.mem_append,List.mem_cons,Value.string.injEq];constructor
   .rintro((h|h)|h)
    .exact .inl h
    .exact .inr (.inr h)
    .exact .inr (.inl h)
   .rintro(h|h|h)
    .exact .inl (.inl h)
    .exact .inr h
    .exact .inl (.inr h)
  have h9:(kG κ gr l p0.1).length=l.countP λz=>decide (κ (pick z gr)=p0.1):=by rw[kG,List.countP_eq_length_filter]
  have hgl:=(hg.perm p0.1).length_eq;have:=st.cnt;rw[List.length_append,List.length_take];omega
theorem B4.done{κ:List VV->ByteArray}(hκ:UX κ){y w:Nat}{l acc:List (List VV)}{kk:List (ByteArray×Sl)}{g:ByteArray->List (List VV)}(st:B4 κ gr li l kk g [] acc)(hg:oY κ m h y gr od l kk g)(hrel:gH w l)(hcols:fQ w gr)(hli:0<=li):AW gr od li l l=yI acc:=
 Sq (hrel.srt.sublist List.filter_sublist) λx=>by rw[TU hκ hg hrel hcols hli,st.mem];simp
theorem Vk{h:PH}{s:Sl}{l:List (List VV)}{li:Int}(hs:Rows h s l)(hli:0<=li):(0<=if(s.len:Int)<li then(s.len:Int)else li)/\(if(s.len:Int)<li then(s.len:Int)else li)<=s.cap/\∃us:List Sl,bH h ⟨s.a,(if(s.len:Int)<li then(s.len:Int)else li).toNat,s.cap⟩ 1 (us.map eS)/\eO h us (l.take li.toNat)/\us.length<=l.length:=by
 obtain⟨⟨us0,hri,hl0,hat⟩,_⟩:=hs;have hpl:s.len=us0.length:=by have:=hri.len;simpa using this
 have hn:((if(s.len:Int)<li then(s.len:Int)else li).toNat)=min us0.length li.toNat:=by split<;>omega
 have hcap:=hri.cap;refine⟨by split<;>omega,by split<;>omega,us0.take (min us0.length li.toNat),?_,⟨by simp[hl0];omega,λj x hx=>?_⟩,by simp;omega⟩
 .rw[hn,List.map_take];exact bH.cut hri _ (by simp;omega)
 .rw[List.getElem?_take]at hx;split at hx
  .obtain⟨u,hu,hv⟩:=hat j x hx;have:=(List.getElem?_eq_some_iff.1 hu).1;exact⟨u,by rw[List.getElem?_take,if_pos aC];exact hu,hv⟩
  .cases hx
theorem Rb:Sound Tryz.prog 182 (NR IF Oo):=by
 refine Fg Tryz.func182 ?_;rintro cvs m h K ⟨v,t,q,bs,ls,rfl,hq,ha,hT,hok,hK⟩;refine⟨We,rfl,aD Js (aD DR aF),Gj v t m h (cH h K),by kernel_rfl,?_⟩;show Gj v t m h (cH h K);dsimp only[Gj,push_cast];obtain⟨op,ta,w,co,on,gr,od,li,args⟩:=q;obtain⟨hl1,⟨wd,hrel,hcols⟩,hli⟩:=hok;intro b m1 hb1 hu1;obtain⟨s1,n1⟩:=gJ (Sub.refl m) hb1 hu1;have m1b:m1 b=some (.cells ⟨v.enc⟩ 68 (0,0)):=hu1.at_;obtain⟨b1,off,x,ea,hlt,rd,sq⟩:=ha.get (Bf (i:=0) aC);simp only[Oo]at hK;generalize ls.getD 0 []=l at hK hrel sq;have hll:=hrel.len;refine⟨v,.of_m m1b (List.take_length ..),b1,off,ea,aC,aC,x,.imm rd,v,x,gr,od,l,wd,rfl,hq.parts.group_,hq.parts.order_,sq,hrel,hcols,hT.sub s1,λy m2 h2 kk g hy hoth le2 hg=>?_⟩;have yb:b≠y:=λe=>by rw[<-e,m1b]at hy;cases hy
 have m2b:m2 b=some (.cells ⟨v.enc⟩ 68 (0,0)):=by rw[hoth b yb];exact m1b
 have s2:Sub m m2:=λz o e=>by rw[hoth z (λe2=>by have:=s1 z o e;rw[e2,hy]at this;cases this)];exact s1 z o e
 refine⟨.of_m m2b (List.take_length ..),.imm (rd.mono le2),_,hg.map_,λr m3 hb3 hs3 it=>?_⟩;have rb:b≠r:=λe=>by have:=hb3.m_;rw[<-e,m2b]at this;cases this
 have m3b:m3 b=some (.cells ⟨v.enc⟩ 68 (0,0)):=by rw[hs3.other b rb];exact m2b
 have s3:Sub m m3:=λz o e=>by
  have:=s2 z o e;rw[hs3.other z (λe2=>by rw[e2,hb3.m_]at this;cases this)];exact this
 classical
 have m3y:∃o,m3 y=some o:=by obtain⟨es,c,since,seen,c0,i1,_⟩:=it.ex;exact⟨_,i1⟩
 have m3r:∃o,m3 r=some o:=by obtain⟨es,c,since,seen,c0,i1,i2,i3,i4,i5,_⟩:=it.ex;exact⟨_,i5⟩
 have yr:y≠r:=λe=>by
  obtain⟨es,c,i1,_⟩:=hg.map_;rw[e,hb3.m_]at i1;cases i1
 refine⟨.of_m m3b (List.take_length ..),.imm (rd.mono le2),λz=>z.1=b/\z.2.2.1=r/\z.2.2.2.2=h2/\(∀x o,m3 x=some o->x≠r->z.2.2.2.1 x=some o)/\∃left us acc,iU z.2.2.2.1 y r (kk.map λp=>(Value.string p.1,bV p.2)) left/\cD z.2.2.2.1 z.2.1 75 1 (us.map eS)/\(∀x i,z.2.1.a=some ⟨x,i,none⟩->m3 x=none)/\eO h2 us acc/\B4 cG gr li l kk g left acc,λz=>leftOf z.2.2.2.1 z.2.2.1,⟨(b,⟨none,0,0⟩,r,m3,h2),⟨rfl,rfl,rfl,λx o e _=>e,_,[],[],it,⟨o9 [],.inl ⟨rfl,rfl⟩⟩,(λx i e=>by cases e),eO.nil _,.start⟩,MT⟩,?_⟩
 .rintro⟨b',s,r',mz,hz⟩ ⟨e1,e2,e3,oth,left,us,acc,itz,hrow,hfr,hus,rk⟩;dsimp only at e1 e2 e3 oth itz hrow hfr hus rk⊢
  subst e1 e2 e3;have hacc:acc.length<=l.length:=by have:=rk.cnt;omega
  have hul:=hus.len;refine⟨y,_,left,itz,λhleft=>?_,λl1 x1 l2 hlx m4 hs4 ita=>?_⟩
  .subst hleft;refine⟨s,us,acc,rfl,hrow.src,hus,aC,λs' h' le' hr'=>cH.sub (λz o e=>oth z o (s3 z o e) (λe2=>?_)) (le2.trans le') (hK s' h' (le2.trans le') ?_)⟩
   .have:=s2 z o e;rw[e2,hb3.m_]at this;cases this
   .rw[rk.done Jc hg hrel hcols hli];exact hr'
  .have hxl:x1∈left:=by rw[hlx];simp
   obtain⟨p0,hp0,rfl⟩:=List.mem_map.1 (iU.mem itz hxl);have m3ne:∀{x},(∃o,m3 x=some o)->∀i,s.a≠some ⟨x,i,none⟩:=fun{x}⟨o,ho⟩ i e=>by rw[hfr x i e]at ho;cases ho
   have m4b:m4 b'=some (.cells ⟨v.enc⟩ 68 (0,0)):=by rw[hs4.other b' rb];exact oth b' _ m3b rb
   have hrow4:cD m4 s 75 1 (us.map eS):=cD.keep hrow λx i e=>hs4.other x λe2=>m3ne m3r i (e2▸e);refine⟨λc=>c=(b',s,p0.2,r',m4,hz),⟨y,_,_,_,ita,⟨(b',s,p0.2,r',m4,hz),rfl,rfl,rfl,rfl,rfl,rfl,rfl,trivial⟩⟩,?_⟩;rintro c rfl;dsimp only;have hlim:v.limit=li:=hq.parts.limit_;obtain⟨c1,c2,us0,hri,hu0,hl0⟩:=Vk (li:=li) (hg.rows p0 hp0) hli;have hgl:=(hg.perm p0.1).length_eq;have hgl2:(kG cG gr l p0.1).length<=l.length:=List.length_filter_le _ _;refine⟨li,.of_m m4b (by rw[<-hlim];rfl),c1,c2,us.map eS,hrow4,us0.map eS,o9 _,.imm hri,by simp;omega,by simp;omega,λs' m5 hgr=>?_⟩
   .have hold:∀x o,m3 x=some o->x≠r'->m5 x=some o:=λx o e hne=>hgr.other x o (by rw[hs4.other x hne];exact oth x o e hne) (m3ne ⟨o,e⟩)
    have it5:iU m5 y r' (kk.map λp=>(Value.string p.1,bV p.2)) (l1++l2):=by
     obtain⟨es,c,since,seen,c0,i1,i2,i3,i4,i5,_⟩:=ita.it.ex;exact iU.keep ita.it (by rw[i1];exact hgr.other y _ i1 (m3ne m3y)) (by rw[i5];exact hgr.other r' _ i5 (m3ne m3r))
    refine⟨(b',s',r',m5,hz),⟨rfl,rfl,rfl,hold,_,us++us0,acc++(g p0.1).take li.toNat,it5,?_,λx i e=>?_,hus.app hu0,rk.step hg itz hp0 hlx⟩,?_,rfl,rfl,rfl,rfl,rfl,trivial⟩
    .rw[List.map_append];exact hgr.row
    .rcases hgr.fresh x i e with h5|⟨j,h5⟩
     .cases e6:m3 x with
      |none=>rfl
      |some o=>
       by_cases hxr:x=r'
       .obtain⟨es,c,since,seen,c0,i1,i2,i3,i4,i5,_⟩:=ita.it.ex;rw[hxr,i5]at h5;cases h5
       .rw[hs4.other x hxr,oth x o e6 hxr]at h5;cases h5
     .exact hfr x j h5
    .show leftOf m5 r'<leftOf mz r';rw[iU.left_ it5,iU.left_ itz,hlx];simp
def Ta:Vc.Spec:=λcvs m h K=>∃(n bq bg br:Nat)(v:QV)(od:List (Int×Bool))(g s:Sl)(rs:List (List VV))(r:List VV)(w:Nat),cvs=[cI n,.val (.func (.func 210) #[] #[.pointer (some ⟨bq,0,none⟩),.pointer (some ⟨bg,0,none⟩),.pointer (some ⟨br,0,none⟩)])]/\
 m bq=some (.cells ⟨QV.enc v⟩ 68 (0,0))/\m bg=some (.cells #[Sl.val g] 95 (0,0))/\m br=some (.cells #[Sl.val s] 75 (0,0))/\jY h v.order od/\Rows h g rs/\bB h s r/\rs.length=n/\oH od rs/\(∀x∈rs,x.length=w)/\r.length=w/\
 K (cI ((rs.countP λy=>decide (jQ od y r<0):Nat):Int)) m h
noncomputable def Wd:Ctx:=Nn [(208,NI),(203,W6),(209,Ta)] [] [(2,{A:=Sl×Nat×Nat×MH×PH,st:=λ⟨t,b,c,m,h⟩=>cM 38 40 [(1,sv t),(2,vv (.pointer (some ⟨b,0,none⟩))),(5,vv (.pointer (some ⟨c,0,none⟩)))] [] m h}),
 (6,{A:=Nat×Nat×Nat×Nat×MH×PH,st:=λ⟨b,o,e,g,m,h⟩=>cM 38 40 [(2,vv (.pointer (some ⟨b,0,none⟩))),(6,vv (.pointer (some ⟨o,0,none⟩))),(7,vv (.pointer (some ⟨e,0,none⟩))),(8,vv (.pointer (some ⟨g,0,none⟩)))] [] m h})] [200002,200005,200006,200007,200008,1095,400000,0]
noncomputable abbrev gK(a:Sl×Nat×Nat×MH×PH):Nat:=a.2.1
noncomputable abbrev AM(a:Sl×Nat×Nat×MH×PH):Nat->Nat->Option Value:=cE a.2.2
noncomputable abbrev tP(a:Sl×Nat×Nat×MH×PH):Nat:=a.2.2.1
abbrev Ai(a:MH)(b:Nat)(c:Value)(d:MH->(Nat×Nat×Nat×Nat×MH×PH)->Prop):Prop:=iE (λx x1=>aA (wS a b (fN x x1 0)) (0<x.size) (∀(x2:MH),bG a x2 b (gN c 1 x) x1->∃(x3:Nat×Nat×Nat×Nat×MH×PH),d x2 x3))
noncomputable abbrev jC(a:Nat×Nat×Nat×Nat×MH×PH):Nat×MH×PH:=a.2.2.2
abbrev An(a:Nat×Nat×Nat×Nat×MH×PH->Prop)(b:Nat×Nat×Nat×Nat×MH×PH)(c:Sl×Nat×Nat×MH×PH)(d e g:Nat)(i:MH)(j:PH):Prop:=aA (a b) (cN (gK c) b.1) (aA (cN d b.2.1) (cN e b.2.2.1) (bT (cN g (jC b).1) i (cC (jC b)) j (cE (jC b))))
abbrev HW(a:(List (List VV))->(List VV)->Prop):Prop:=∃(x:List (List VV))(x1:List VV),a x x1
attribute [push_cast] gK AM tP Ai jC An HW
def Gi(v:QV)(t:Sl)(m:MH)(h:PH)(K:CV->MH->PH->Prop):Prop:=
  gA (λb m1=>bY m h b->bG m m1 b v.enc 68->∃(I:Sl×Nat×Nat×MH×PH->Prop),(∃(y:QV),aI m1 h b 0 y.enc/\bK (λb1 o=>aA (bL t.a b1 o) ((0:Int)<=1) (1<aH t/\∃(y1:Nat),aA (aI m1 h b1 (o+1) (rE y1)) (HQ y y1 (λv1 u=>aK (cW v1) (gL 174 (lY u))) h (λv1=>v1) (λg=>g) (λv1 o1=>jY h v1.order o1) (λu l=>Kp h u l) (λw=>w) (λl=>l) m1 (λg o1 l y2 m2 h1 k g1=>xD m1 y2->(∀(b2:Nat),jJ (b2=y2)->m2 b2=m1 b2)->dZ h h1 (oY cG m2 h1 y2 g o1 l k g1) (aA (aI m2 h1 b 0 y.enc) (aI m2 h1 b1 (o+1) (rE y1)) (gA (λb2 m3=>bY m2 h1 b2->bG m2 m3 b2 (l9 IU) 243->iE (λc E=>aA (wS m3 b2 (fN c E 0)) (0<c.size) (∀(m4:MH),bG m3 m4 b2 (gN (Value.map (Option.some y2)) 1 c) E->∃(x:Sl×Nat×
 Nat×MH×PH),aA (I x) (bA t x.1) (aA (cN b (gK x)) (cN b2 x.2.2.1) (bZ m4 (cC x.2.2) h1 (AM x)))))))))) (aA (aI m1 h b 0 y.enc) (aI m1 h b1 (o+1) (rE y1)) (gA (λb2 m2=>bY m1 h b2->bG m1 m2 b2 (l9 IU) 243->HQ y y1 (λv1 u=>aK (cW v1) (gL 174 (lY u))) h (λv1=>v1) (λg=>g) (λv1 o1=>jY h v1.order o1) (λu l=>Kp h u l) (λw=>w) (λl=>l) m2 (λg o1 l y2 m3 h1 k g1=>xD m2 y2->(∀(b3:Nat),jJ (b3=y2)->m3 b3=m2 b3)->dZ h h1 (oY cG m3 h1 y2 g o1 l k g1) (iE (λc E=>aA (wS m3 b2 (fN c E 0)) (0<c.size) (∀(m4:MH),bG m3 m4 b2 (gN (Value.map (Option.some y2)) 1 c) E->∃(x:Sl×Nat×Nat×MH×PH),aA (I x) (bA t x.1) (aA (cN b (gK x)) (cN b2 x.2.2.1) (bZ m4 (cC x.2.2) h1 (AM
 x)))))))))))))/\∀(x:Sl×Nat×Nat×MH×PH),I x->gA (λb1 m2=>bY (cC x.2.2) (AM x) b1->bG (cC x.2.2) m2 b1 fE 95->tJ x.1.a 0 0 x.1 m2 (AM x) 0 (λy S=>pI S (AM x) y m2 (λx1 I1 k e m3 h1=>p9 (uR x1 k e) (AM x) h1 (I1 k m3 h1) (gA (λb2 m4=>bY m3 h1 b2->bG m3 m4 b2 fE 75->iE (λc E=>aA (wS m4 b2 (fN c E 0)) (0<c.size) (∀(m5:MH),bG m4 m5 b2 (gN (bV e) 1 c) E->∃(I2:Nat×Nat×Nat×Nat×MH×PH->Prop),Cw m5 h1 (tP x) (λy1=>gX m5 h1 b2 0 (λy2=>∃(y3:Sl),aA (aI m5 h1 (gK x) 17 (aM y3)) (aI m5 h1 (tP x) 0 (aU y1)/\EF y2 y3 h1 m5 (aI m5 h1 (tP x) 0 (aU y1)) (λr c1=>aA (aI m5 h1 b2 0 (aM y2)) (aI m5 h1 (gK x) 17 (aM y3)) (pL m5 y1 (λO=>j6 9 O) (λO=>
 O (dN r c1)) (dN r c1) (aA (aI m5 h1 (tP x) 0 (aU y1)) (aI m5 h1 b2 0 (aM y2)) (aI m5 h1 (gK x) 17 (aM y3)/\gA (λb3 m6=>bY m5 h1 b3->bG m5 m6 b3 fE 95->Ai m6 b3 nV (λm7 x2=>An I2 x2 x b1 b2 b3 m7 h1)))) (λy4=>aA (aI m5 h1 (tP x) 0 (aU y1)) (aI m5 h1 b2 0 (aM y2)) (aI m5 h1 (gK x) 17 (aM y3)/\gA (λb3 m6=>bY m5 h1 b3->bG m5 m6 b3 fE 95->Ai m6 b3 (bV y4) (λm7 x2=>An I2 x2 x b1 b2 b3 m7 h1)))))) (λr c1=>aA (aI m5 h1 (tP x) 0 (aU y1)) (aI m5 h1 b2 0 (aM y2)) (aI m5 h1 (gK x) 17 (aM y3)/\gA (λb3 m6=>bY m5 h1 b3->bG m5 m6 b3 fE 95->aA (aI m6 h1 b2 0 (aM y2)) (aI m6 h1 (gK x) 17 (aM y3)) (pL m6 y1 (λO=>j6 9 O) (λO=>O (dN r c1)) (dN r c1) (Ai m6 b3
 nV (λm7 x2=>An I2 x2 x b1 b2 b3 m7 h1)) (λy4=>Ai m6 b3 (bV y4) (λm7 x2=>An I2 x2 x b1 b2 b3 m7 h1))))))) (aA (aI m5 h1 (tP x) 0 (aU y1)) (aI m5 h1 b2 0 (aM y2)) (aI m5 h1 (gK x) 17 (aM y3)/\gA (λb3 m6=>bY m5 h1 b3->bG m5 m6 b3 fE 95->aI m6 h1 (tP x) 0 (aU y1)/\EF y2 y3 h1 m6 (aI m6 h1 (tP x) 0 (aU y1)) (λ_ _=>aI m6 h1 b2 0 (aM y2)) (λr c1=>aI m6 h1 (gK x) 17 (aM y3)/\pL m6 y1 (λO=>j6 9 O) (λO=>O (dN r c1)) (dN r c1) (Ai m6 b3 nV (λm7 x2=>An I2 x2 x b1 b2 b3 m7 h1)) (λy4=>Ai m6 b3 (bV y4) (λm7 x2=>An I2 x2 x b1 b2 b3 m7 h1))))))))/\∀(x2:Nat×Nat×Nat×Nat×MH×PH),I2 x2->gX (cC (jC x2)) (cE (jC x2)) (jC x2).1 0 (λy1=>bK (λn b3=>bK (λb4 b5
 =>∃(v1:QV)(o:List (Int×Bool)),fR (λg s=>HW (λr r1=>∃(w:Nat),aA (aK (dY (aH y1)) (gL 210 (Array.mk (aJ (U8 x2.1 0) (U8 (jC x2).1 0) (l9 (U8 x2.2.2.1 0)))))=aK (dY (↑n:Int)) (gL 210 (Array.mk (aJ (U8 b3 0) (U8 b4 0) (l9 (U8 b5 0)))))) ((jC x2).2.1 b3=Option.some (fN (Array.mk v1.enc) 68 0)) (aA ((jC x2).2.1 b4=Option.some (fN (Array.mk (aM g)) 95 0)) ((jC x2).2.1 b5=Option.some (fN (Array.mk (aM s)) 75 0)) (aA (jY (cE (jC x2)) v1.order o) (Rows (cE (jC x2)) g r) (aA (bB (cE (jC x2)) s r1) (r.length=n) (aA (oH o r) (EK r (λx3=>x3.length=w)) (r1.length=w/\tL (cC (jC x2)) (cE (jC x2)) x2.1 19 (λy2=>bE (↑(List.countP (fun(y3:List VV)=>decide (jQ o y3 r1<0)) r):Int) y2 (gX (cC (jC
 x2)) (cE (jC x2)) x2.2.1 0 (λy3=>∃(y4:Sl),BE (cC (jC x2)) (cE (jC x2)) x2.2.2.1 0 (aM y4) (λx3=>aA (cD (cC (jC x2)) (cV y3) 75 1 x3) (dD (x3.length+1) 24) (eF x3/\fP (λs1 m6=>eX (cC (jC x2)) m6 (cV y3) s1 75 1 (eR x3 (aM y4))->iE (λc1 E1=>aA (wS m6 x2.2.1 (fN c1 E1 0)) (0<c1.size) (∀(m7:MH),bG m6 m7 x2.2.1 (gN (bV s1) 1 c1) E1->I1 (k+1) m7 (cE (jC x2))))))))) (I1 (k+1) (cC (jC x2)) (cE (jC x2))))))))))))))))))) (λm3 h1=>gX m3 h1 b1 0 (λy1=>K (dG y1) m3 h1)))))
theorem Fe{w:World}{q:Nat}{os:Array Obj}(hb:b<w.heap.size):(Sort.grow (w.drewN q) os).heap[b]? =w.heap[b]? :=by
 show((w.drewN q).heap++os)[b]? =_;rw[Array.getElem?_append_left (show b<(w.drewN q).heap.size from hb)];rfl
theorem PM{P:Program}{g:Nat}{cs:List Value}{m:MH}{h:PH}{S:Vc.Spec}{r:CV}{u:Value}(hs:Sound P g S)(hS:S (cs.map .val) m h λr' m' h'=>r'=r/\m'=m/\h'=h)(hr:∀w u',zU w r u'->u'=u){w:World}
 (hh:∀b o v,h b o=some v->w.cell? ⟨b,o,none⟩=some v)(hm:∀b o,m b=some o->w.heap[b]? =some o)(hd:∀b o,m b=some o->∀i,h b i=none)(mm:Nat)(os:Array Obj):
 Calls P g cs.toArray (Sort.grow (w.drewN mm) os) λe w'=>e= .returned u/\∃q os',w'=Sort.grow ((Sort.grow (w.drewN mm) os).drewN q) os':=by
 obtain⟨W,hW⟩:∃W,Sort.grow (w.drewN mm) os=W:=⟨_,rfl⟩
 rw[hW];have old:∀b,b<w.heap.size->W.heap[b]? =w.heap[b]? :=λb hb=>by rw[<-hW];exact Fe hb
 have hvals:∀(l:List Value)(w:World),wT w (l.map .val) l:=λl w=>by
  induction l with
  |nil=>trivial
  |cons a l ih=>exact⟨rfl,ih⟩
 have nov:∀(l:List Value)(i:Nat)(c:CV)(u:Value)(b:Nat),(l.map CV.val)[i]? =some c->eJ c u=some b->False:=λl i c u b hi hb=>by
  rw[List.getElem?_map]at hi;cases e:l[i]? with
  |none=>rw[e]at hi;cases hi
  |some v=>rw[e]at hi;simp at hi;subst hi;simp[eJ]at hb
 have hpre:uD W m h (cs.map .val) cs:=by
  refine⟨hvals _ _,?_,?_,hd,λi j c d u v b hi _ _ _ hb _=>(nov _ i c u b hi hb).elim,λi c u b hi _ hb=>(nov _ i c u b hi hb).elim⟩
  .intro b o v hv;have h1:=hh b o v hv;rw[World.cell?_of_block (w:=w) (w':=W) (a:=⟨b,o,none⟩) (old b (World.block_lt_of_cell? w ⟨b,o,none⟩ h1))];exact h1
  .intro b o hb;have h1:=hm b o hb;rw[old b (Array.getElem?_eq_some_iff.1 h1).1];exact h1
 refine(hs.2 _ _ m h W _ hS hpre).mono ?_;rintro e w' ⟨r',u',m',h',rfl,⟨rfl,rfl,rfl⟩,hok,hw,_⟩;have hu:=hr _ _ hok;subst hu;refine⟨rfl,GQ hw.tape hw.os hw.output hw.drawn hw.size (λb hb=>?_)⟩;cases e3:m' b with
 |none=>
  refine hw.frame b hb ?_;rintro(h1|⟨i,c,u,hi,_,hc⟩)
  .exact h1 e3
  .exact nov _ i c u b hi hc
 |some o=>rw[hw.msat b o e3];exact(hpre.msat b o e3).symm
theorem Qc{g:Nat}{S R:Vc.Spec}(hg:Sound Tryz.prog g S)(hR:∀cvs m h K,R cvs m h K->∃(n bq bg br wd:Nat)(od:List (Int×Bool))(rs:List (List VV))(r:List VV),cvs=[cI n,.val (.func (.func g) #[] #[.pointer (some ⟨bq,0,none⟩),.pointer (some ⟨bg,0,none⟩),.pointer (some ⟨br,0,none⟩)])]/\rs.length<=502633886983/\rs.length=n/\oH od rs/\(∀x∈rs,x.length=wd)/\r.length=wd/\
 (∀(i:Nat) x,rs[i]? =some x->S ([.int .i64 i,.pointer (some ⟨bq,0,none⟩),.pointer (some ⟨bg,0,none⟩),.pointer (some ⟨br,0,none⟩)].map .val) m h λr' m' h'=>r'=cB (decide (jQ od x r>=0))/\m'=m/\h'=h)/\K (cI ((rs.countP λy=>decide (jQ od y r<0):Nat):Int)) m h):Sound Tryz.prog 209 R:=by
 refine⟨⟨Tryz.f209,Tryz.func209,rfl,by decide⟩,?_⟩;intro cvs vs m h w K h0 hp;obtain⟨n,bq,bg,br,wd,od,rs,r,rfl,hlen,rfl,hso,hw,hrw,hS,hK⟩:=hR _ _ _ _ h0
 obtain⟨v1,v2,rfl⟩:∃v v2,vs=[v,v2]:=by
  have:=(mG hp.args).1
  match vs,this with
  |[v,v2],_=>exact⟨v,v2,rfl⟩
 have h1:v1= .int .i64 rs.length:=hp.args.1;have h2:v2= .func (.func g) #[] #[.pointer (some ⟨bq,0,none⟩),.pointer (some ⟨bg,0,none⟩),.pointer (some ⟨br,0,none⟩)]:=hp.args.2.1;subst h1 h2
 have eg:∀args w,(callFunc g args).run Tryz.prog w= .ok (.enter g args) w:=λargs w=>by
  obtain⟨fn,hgf,hb,hn⟩:=hg.1;have hbn:¬fn.body=none:=by intro e;rw[e]at hb;cases hb
  have hnm:¬fn.name= "runtime.NumGoroutine" :=by simpa using hn
  simp[callFunc,program,Sem.run,hgf,hnm,hbn]
 have hcall:=Any.sort_Search Tryz.searchO g #[.pointer (some ⟨bq,0,none⟩),.pointer (some ⟨bg,0,none⟩),.pointer (some ⟨br,0,none⟩)] rs.length (λi=>decide (jQ od (rs.toArray[i]!) r>=0)) w eg aC
  (λmm os i hi=>PM (cs:=[.int .i64 i,.pointer (some ⟨bq,0,none⟩),.pointer (some ⟨bg,0,none⟩),.pointer (some ⟨br,0,none⟩)]) hg
   (hS i _ (by rw[getElem!_pos _ i (by simpa using hi)];simp[hi])) (λw u' hu=>hu) hp.hsat hp.msat hp.disj mm os)
  (λa b hab hb hpa=>?_)
 .refine Calls.mono hcall ?_;rintro e w' ⟨rfl,q,os,rfl⟩
  have ecount:((List.range rs.length).countP λi=> !decide (jQ od (rs.toArray[i]!) r>=0))=rs.countP λy=>decide (jQ od y r<0):=by
   have:=Go.Lib.countP_range rs.toArray (λy=> !decide (jQ od y r>=0));rw[List.size_toArray]at this;rw[this];refine List.countP_congr λy _=>?_;simp
  rw[ecount];refine⟨_,_,m,h,rfl,hK,rfl,⟨rfl,rfl,rfl,Nat.le_add_right _ _,?_,λb hb _=>Fe hb,λb o v hv'=>?_,λb o hb=>?_,hp.disj,λ_ _ _ e=>e,λ_ _ _=>rfl,λb o hb=>.inr (.inl (by rw[show m b=some o from hb];simp))⟩,λb hb=>by cases hb⟩
  .show w.heap.size<=((w.drewN q).heap++os).size;rw[Array.size_append];exact Nat.le_add_right _ _
  .have h1:=hp.hsat b o v hv';rw[World.cell?_of_block (w:=w) (a:=⟨b,o,none⟩) (Fe (World.block_lt_of_cell? w ⟨b,o,none⟩ h1))];exact h1
  .have h1:=hp.msat b o hb;rw[Fe (Array.getElem?_eq_some_iff.1 h1).1];exact h1
 .have hpa:=of_decide_eq_true hpa;refine decide_eq_true ?_;rcases Nat.lt_or_eq_of_le hab with hlt|rfl
  .have ha:a<rs.length:=by omega
   rw[getElem!_pos _ a (by simpa using ha)]at hpa;rw[getElem!_pos _ b (by simpa using hb)];simp only[List.getElem_toArray]at hpa⊢
   have hwa:=hw _ (List.getElem_mem ha);have hwb:=hw _ (List.getElem_mem hb);have h5:=(List.pairwise_iff_getElem.1 hso) a b ha hb hlt;have h6:=zK (od:=od) hwa hwb;have h7:=zK (od:=od) hwa hrw;have h8:=zK (od:=od) hwb hrw;rw[yE hwa hwb]at h6;have:=(Fv wd od).trans r rs[a] rs[b] (by rw[<-yE hrw hwa];omega) aC;rw[<-yE hrw hwb]at this;omega
  .exact hpa
theorem Q1:Sound Tryz.prog 209 Ta:=Qc Q0 λcvs m h K⟨n,bq,bg,br,v,od,g,s,rs,r,wd,e,hq,hg,hr,ho,hrs,hv,hn,hso,hw,hrw,hK⟩=>⟨n,bq,bg,br,wd,od,rs,r,e,by have:=hrs.len;omega,hn,hso,hw,hrw,λi x hx=>⟨i,bq,bg,br,v,od,g,s,rs,r,x,rfl,hq,hg,hr,ho,hrs,hv,hx,rfl,rfl,rfl⟩,hK⟩
theorem oY.get2{κ:List VV->ByteArray}{y:Nat}{l:List (List VV)}{kk:List (ByteArray×Sl)}{G:ByteArray->List (List VV)}{key:ByteArray}{K0:Prop}{K:Sl->Prop}(g:oY κ m h y gr od l kk G)(h0:Bd kk key ⟨none,0,0⟩->K0)(hK:∀s,Bd kk key s->K s):
 ∃(kvs:List (Value×Sl))(Ok:Value->Prop),nU m y (kvs.map λp=>(p.1,bV p.2))/\KeyLaw Tryz.prog 9 Ok/\Ok (.string key)/\(∀e,List.Mem e kvs->Ok e.1)/\((∀e,List.Mem e kvs->e.1=Value.string key->False)->K0)/\∀t,List.Mem (Value.string key,t) kvs->K t:=by
 obtain⟨es,c,h1,h2,_,_⟩:=g.map_;refine⟨kk.map λp=>(.string p.1,p.2),_,⟨es,c,h1,by rw[h2];simp⟩,zY,⟨key,rfl⟩,λe he=>?_,λhn=>h0 (.inl ⟨rfl,λh=>?_⟩),λt ht=>hK t (.inr ?_)⟩
 .obtain⟨k,_,rfl⟩:=List.mem_map.1 (show e∈_ from he);exact⟨k.1,rfl⟩
 .obtain⟨p,hp,e⟩:=List.mem_map.1 h;subst e;exact hn (.string p.1,p.2) (List.mem_map_of_mem (f:=λp:ByteArray×Sl=>(Value.string p.1,p.2)) hp) rfl
 .obtain⟨p,hp,e⟩:=List.mem_map.1 (show(Value.string key,t)∈_ from ht);simp only[Prod.mk.injEq,Value.string.injEq]at e;obtain⟨e1,e2⟩:=e;subst e1 e2;exact hp
theorem oY.keep{κ:List VV->ByteArray}{y:Nat}{l:List (List VV)}{kk:List (ByteArray×Sl)}{G:ByteArray->List (List VV)}(g:oY κ m h y gr od l kk G)(hk:∀o,m y=some o->m' y=some o)(le:PH.le h h'):oY κ m' h' y gr od l kk G:=by
 obtain⟨es,c,h1,h2,h3,h4⟩:=g.map_;exact⟨⟨es,c,hk _ h1,h2,h3,h4⟩,g.nodup,λp hp=>aR.mono (g.rows p hp) le (λr t hv=>bB.mono hv le),g.none_,g.perm,g.sort⟩
theorem oY.at_{κ:List VV->ByteArray}{y:Nat}{l:List (List VV)}{kk:List (ByteArray×Sl)}{G:ByteArray->List (List VV)}{key:ByteArray}{s:Sl}(g:oY κ m h y gr od l kk G)(hs:Bd kk key s):Rows h s (G key):=by
 rcases hs with⟨rfl,hn⟩|hp
 .rw[g.none_ key hn];exact(eO.nil h).rows (bH.nil _ _) (by simp)
 .exact g.rows _ hp
structure YZ(m5:MH)(hh:PH)(bq b9 b2:Nat)(e:Sl)(us2:List Sl)(Gk:List (List VV))(c:Nat×Nat×Nat×Nat×MH×PH):Prop where
 q:c.1=bq
 o:c.2.1=b9
 b:c.2.2.1=b2
 h:c.2.2.2.2.2=hh
 sub:A2 m5 c.2.2.2.2.1 b9
 out:lK m5 c.2.2.2.2.1 b9 us2
 e_:c.2.2.2.2.1 b2=some (.cells #[bV e] 75 (0,0))
 g_:∃s,c.2.2.2.2.1 c.2.2.2.1=some (.cells #[bV s] 95 (0,0))/\Rows hh s Gk
def Er(q:Query)(ls:List (List (List VV))):List (List VV):=match q with|.mk _ _ _ _ _ gr od li _=>AW gr od li (ls.getD 0 []) (ls.getD 1 [])
def Bs(q:Query)(ls:List (List (List VV))):Prop:=match q with|.mk _ _ _ _ _ gr _ _ _=>2<=ls.length/\∃w,gH w (ls.getD 0 [])/\gH w (ls.getD 1 [])/\fQ w gr
theorem Ra:Sound Tryz.prog 183 (NR Bs Er):=by
 refine Fg Tryz.func183 ?_;rintro cvs m h K ⟨v,t,q,bs,ls,rfl,hq,ha,hT,hok,hK⟩;refine⟨Wd,rfl,aD Js (aD AX (aD Q1 aF)),Gi v t m h (cH h K),by kernel_rfl,?_⟩;show Gi v t m h (cH h K);dsimp only[Gi,push_cast];obtain⟨op,ta,w,co,on,gr,od,li,args⟩:=q;obtain⟨hl2,wd,hrel,hrel',hcols⟩:=hok;intro b m1 hb1 hu1;obtain⟨s1,n1⟩:=gJ (Sub.refl m) hb1 hu1;have m1b:m1 b=some (.cells ⟨v.enc⟩ 68 (0,0)):=hu1.at_;obtain⟨b1,off,x,ea,hlt,rd,sq⟩:=ha.get (Bf (i:=1) aC);obtain⟨b6,off6,x6,ea6,hlt6,rd6,sq6⟩:=ha.get (Bf (i:=0) aC);simp only[Er]at hK;generalize ls.getD 1 []=l' at hK hrel' sq;generalize ls.getD 0 []=l at hK hrel sq6;have hll:=hrel.len;have hg_:=hq.parts.group_;have ho_:=hq.parts.order_
 refine⟨λz=>z.1=t/\z.2.1=b/\PH.le h z.2.2.2.2/\Sub m z.2.2.2.1/\z.2.2.2.1 b=some (.cells ⟨v.enc⟩ 68 (0,0))/\∃y kk G,z.2.2.2.1 z.2.2.1=some (.cells #[.map (some y)] 243 (0,0))/\oY cG z.2.2.2.1 z.2.2.2.2 y gr od l' kk G,
  ⟨v,.of_m m1b (List.take_length ..),b1,off,ea,aC,aC,x,.imm rd,⟨v,x,gr,od,l',wd,rfl,hg_,ho_,sq,hrel',hcols,hT.sub s1,λy m2 h2 kk G hy hoth le2 hG=>?_⟩,.of_m m1b (List.take_length ..),.imm rd,λbc m2 hb2 hu2=>?_⟩,?_⟩
 .have yb:b≠y:=λe=>by rw[<-e,m1b]at hy;cases hy
  have m2b:m2 b=some (.cells ⟨v.enc⟩ 68 (0,0)):=by rw[hoth b yb];exact m1b
  have s2:Sub m m2:=λz o e=>by rw[hoth z (λe2=>by have:=s1 z o e;rw[e2,hy]at this;cases this)];exact s1 z o e
  refine⟨.of_m m2b (List.take_length ..),.imm (rd.mono le2),λbc m3 hb3 hu3=>⟨_,_,⟨hu3.at_⟩,by simp,λm4 hu4=>⟨(t,b,bc,m4,h2),⟨rfl,rfl,le2,?_,?_,y,kk,G,hu4.at_,?_⟩,MT⟩⟩⟩
  .obtain⟨s3,n3⟩:=gJ s2 hb3 hu3;exact s3.upd n3 hu4.other
  .have:b≠bc:=λe=>by have:=hb3.m_;rw[<-e,m2b]at this;cases this
   show m4 b=_;rw[hu4.other b this,hu3.other b this];exact m2b
  .refine hG.keep (λo e=>?_) (.refl _);have:y≠bc:=λe2=>by rw[e2,hb3.m_]at e;cases e
   show m4 y=_;rw[hu4.other y this,hu3.other y this];exact e
 .obtain⟨s2,n2⟩:=gJ s1 hb2 hu2;have bbc:b≠bc:=λe=>by have:=hb2.m_;rw[<-e,m1b]at this;cases this
  have m2b:m2 b=some (.cells ⟨v.enc⟩ 68 (0,0)):=by rw[hu2.other b bbc];exact m1b
  refine⟨v,x,gr,od,l',wd,rfl,hg_,ho_,sq,hrel',hcols,hT.sub s2,λy m3 h2 kk G hy hoth le2 hG=>?_⟩;have yb:b≠y:=λe=>by rw[<-e,m2b]at hy;cases hy
  have yc:bc≠y:=λe=>by rw[<-e,hu2.at_]at hy;cases hy
  have s3:Sub m m3:=λz o e=>by rw[hoth z (λe2=>by have:=s2 z o e;rw[e2,hy]at this;cases this)];exact s2 z o e
  refine⟨#[.map none],243,⟨by rw[hoth bc yc];exact hu2.at_⟩,by simp,λm4 hu4=>⟨(t,b,bc,m4,h2),⟨rfl,rfl,le2,s3.upd n2 hu4.other,?_,y,kk,G,hu4.at_,?_⟩,MT⟩⟩
  .show m4 b=_;rw[hu4.other b bbc,hoth b yb];exact m2b
  .refine hG.keep (λo e=>?_) (.refl _);show m4 y=_;rw[hu4.other y (Ne.symm yc)];exact e
 .rintro⟨t',b',bc,m4,hh⟩ ⟨e1,e2,leh,s4,m4b,y,kk,G,m4c,hG⟩;dsimp only at e1 e2 leh s4 m4b m4c hG⊢
  subst e1 e2;intro b9 m5 hb5 hu5;obtain⟨s5,n9⟩:=gJ s4 hb5 hu5
  have up5:∀{z o},m4 z=some o->m5 z=some o/\z≠b9:=fun{z o} e2=>by
   have:z≠b9:=λe3=>by rw[e3,hb5.m_]at e2;cases e2
   exact⟨by rw[hu5.other z this];exact e2,this⟩
  obtain⟨us,hseq,hru⟩:=(sq6.mono leh).ex;have hul:=hru.len;refine⟨b6,off6,ea6,aC,aC,x6,.imm (rd6.mono leh),tA,us,λk my hy=>hy=hh/\A2 m5 my b9/\∃us2,lK m5 my b9 us2/\us2.length<=k/\eO hh us2 (AW gr od li (l.take k) l'),rX,⟨x6,us,rfl,hseq,rfl⟩,⟨rfl,λz o e _=>e,[],lK.new hu5.at_,by simp,by simpa[AW]using eO.nil hh⟩,?_,?_⟩
  .rintro k e my hy hk-⟨rfl,hs7,us2,hout,hlen2,hr2⟩ b2 m6 hb6 hu6;obtain⟨r,hr,hv⟩:=hru.at' hk;have hkl:=(List.getElem?_eq_some_iff.1 hk).1;have hrl:=List.mem_of_getElem? hr;have hrw:=hrel.wid r hrl;have hcr:fQ r.length gr:=by rw[hrw];exact hcols
   refine⟨_,_,⟨hu6.at_⟩,by simp,λm7 hu7=>?_⟩
   have up7:∀{z o},my z=some o->m7 z=some o/\z≠b2:=fun{z o} e2=>by
    have:z≠b2:=λe3=>by rw[e3,hb6.m_]at e2;cases e2
    exact⟨by rw[hu7.other z this,hu6.other z this];exact e2,this⟩
   have up:∀{z o},m4 z=some o->m7 z=some o:=fun{z o} e2=>(up7 (hs7 z o (up5 e2).1 (up5 e2).2)).1;have s7:A2 m5 m7 b9:=λz o e2 hne=>(up7 (hs7 z o e2 hne)).1
   have out_keep:∀{ma mb:MH},lK m5 ma b9 us2->(∀z o,ma z=some o->mb z=some o)->lK m5 mb b9 us2:=fun{ma mb} ho hk=>by
    obtain⟨s,h1,h2,h3⟩:=ho.ex;refine⟨s,hk _ _ h1,cD.keep h2 λz i e3=>?_,h3⟩;obtain⟨cur,h4⟩:=h2.blk e3;rw[h4];exact hk _ _ h4
   have o7:lK m5 m7 b9 us2:=out_keep hout λz o e2=>(up7 e2).1;have m7e:m7 b2=some (.cells #[bV e] 75 (0,0)):=hu7.at_;have g7:=hG.keep (λo e2=>up e2) (.refl _);have rc:aI m7 hy bc 0 [Value.map (some y)]:=.of_m (up m4c) rfl;have re:aI m7 hy b2 0 [bV e]:=.of_m m7e rfl;have rg:aI m7 hy b' 17 [bV v.group]:=.of_m (up m4b) rfl;have hgh:Ints hy v.group gr:=hg_.mono leh;have T7:gG m7:=hT.sub λz o e2=>up (s4 z o e2)
   have fin:∀s,Bd kk (cG (pick r gr)) s->∀b3 m8,bY m7 hy b3->eW m7 m8 b3 (.cells #[nV] 95 (0,0))->∃(cs:Array Value)(E:TypeId),wS m8 b3 (.cells cs E (0,0))/\0<cs.size/\∀m9,eW m8 m9 b3 (.cells (Array.mk (bV s::cs.toList.drop 1)) E (0,0))->
    ∃c:Nat×Nat×Nat×Nat×MH×PH,YZ m5 hy b' b9 b2 e us2 (G (cG (pick r gr))) c/\Vj b' 0=Vj c.1 0/\Vj b9 0=Vj c.2.1 0/\Vj b2 0=Vj c.2.2.1 0/\Vj b3 0=Vj c.2.2.2.1 0/\m9=c.2.2.2.2.1/\hy=c.2.2.2.2.2/\True:=λs hs b3 m8 hb8 hu8=>by
    refine⟨_,_,⟨hu8.at_⟩,by simp,λm9 hu9=>⟨(b',b9,b2,b3,m9,hy),?_,MT⟩⟩
    have up9:∀z o,m7 z=some o->m9 z=some o:=λz o e2=>by
     have:z≠b3:=λe3=>by rw[e3,hb8.m_]at e2;cases e2
     rw[hu9.other z this,hu8.other z this];exact e2
    exact⟨rfl,rfl,rfl,rfl,λz o e2 hne=>up9 z o (s7 z o e2 hne),out_keep o7 up9,up9 _ _ m7e,s,hu9.at_,hG.at_ hs⟩
   have up8:∀{b3 m8},bY m7 hy b3->eW m7 m8 b3 (.cells #[nV] 95 (0,0))->∀z o,m7 z=some o->m8 z=some o:=fun{b3 m8} hb8 hu8 z o e2=>by
    have:z≠b3:=λe3=>by rw[e3,hb8.m_]at e2;cases e2
    rw[hu8.other z this];exact e2
   refine⟨YZ m5 hy b' b9 b2 e us2 (G (cG (pick r gr))),⟨y,rc,e,re,v.group,rg,⟨rc,e,v.group,r,gr,rfl,hv,hgh,hrel.row r hrl,hcr,T7,rc,⟨re,rg,g7.get2 (λhs=>⟨rc,re,rg,fin _ hs⟩) (λs hs=>⟨rc,re,rg,fin _ hs⟩)⟩,rc,re,rg,λb3 m8 hb8 hu8=>?_⟩,rc,re,rg,λb3 m8 hb8 hu8=>?_⟩,?_⟩
   .have u8:=up8 hb8 hu8;exact⟨.of_m (u8 _ _ m7e) rfl,.of_m (u8 _ _ (up m4b)) rfl,(g7.keep (u8 y) (.refl _)).get2 (λhs=>fin _ hs b3 m8 hb8 hu8) (λs hs=>fin _ hs b3 m8 hb8 hu8)⟩
   .have u8:=up8 hb8 hu8;have rc8:aI m8 hy bc 0 [Value.map (some y)]:=.of_m (u8 _ _ (up m4c)) rfl;exact⟨rc8,e,v.group,r,gr,rfl,hv,hgh,hrel.row r hrl,hcr,T7.sub u8,rc8,.of_m (u8 _ _ m7e) rfl,.of_m (u8 _ _ (up m4b)) rfl,(g7.keep (u8 y) (.refl _)).get2 (λhs=>fin _ hs b3 m8 hb8 hu8) (λs hs=>fin _ hs b3 m8 hb8 hu8)⟩
   .rintro⟨c1,c2,c3,b3,mz,hz⟩ ⟨e1,e2,e3,e4,hsz,hoz,mze,s,mzg,hrows⟩;dsimp only at e1 e2 e3 e4 hsz hoz mze mzg⊢
    subst e1 e2 e3 e4;have upz:∀{z o},m4 z=some o->mz z=some o:=fun{z o} e2=>hsz z o (up5 e2).1 (up5 e2).2;have hcount:=G9 Jc (od:=od) hrel' hcols (hrel.row r hrl) hrw;rw[<-(hG.perm _).countP_eq]at hcount;refine⟨s,.of_m mzg rfl,s.len,c1,b3,c3,v,od,s,e,G (cG (pick r gr)),r,wd,rfl,upz m4b,mzg,mze,ho_.mono leh,hrows,hv,hrows.slen.symm,hG.sort _,λz hz2=>?_,hrw,v.limit,.of_m (upz m4b) rfl,?_⟩
    .have:=(hG.perm _).mem_iff.1 (show z∈_ from hz2);exact hrel'.wid z (List.mem_filter.1 this).1
    .rw[hcount];have hlim:v.limit=li:=hq.parts.limit_;rw[hlim];refine aE (λh1=>?_) (λh1=>?_)
     .obtain⟨so,hbo,hrowo,hfro⟩:=hoz.ex;refine⟨so,.of_m hbo rfl,e,.of_m mze rfl,Eu ⟨_,hu5.at_⟩ hsz hbo hrowo hfro aC λm' hs' ho'=>⟨rfl,hs',us2++[e],ho',by simp;omega,?_⟩⟩;rw[AW,iL _ hr,if_pos (decide_eq_true h1)];exact hr2.snoc hv
     .refine⟨rfl,hsz,us2,hoz,aC,?_⟩;rw[AW,iL _ hr,if_neg (by simpa using h1),List.append_nil];exact hr2
  .rintro my hy-⟨rfl,hs7,us2,hout,hlen2,hr2⟩
   rw[hul,List.take_length]at hr2;obtain⟨s,hb,hrow,hfr⟩:=hout.ex;refine⟨s,.of_m hb rfl,cH.row (s5.x n9 hs7) leh hrow (λj z e=>?_) (λh' le hri=>hK s h' (leh.trans le) ((hr2.mono le).rows hri (by have:=hr2.len;omega)))⟩;cases e2:m z with
   |none=>rfl
   |some o=>have e1:=hfr j z e;rw[s5 z o e2]at e1;cases e1
def Vv(op:Int)(q:Query)(ls:List (List (List VV))):List (List VV):=
 if op=2 then CX q ls else if op=3 then IA q ls else if op=4 then OO q ls else if op=5 then KA q ls else if op=6 then Mw q ls else if op=7 then MY q ls else if op=8 then M8 q ls else if op=9 then Oo q ls else Er q ls
def Zu(op:Int)(q:Query)(ls:List (List (List VV))):Prop:=
 if op=2 then Dp 1 q ls else if op=3 then IG q ls else if op=4 then IH q ls else if op=5 then IE q ls else if op=6 then Dp 2 q ls else if op=7 then yK q ls else if op=8 then yK q ls else if op=9 then IF q ls else Bs q ls
mutual
def iT(ls:List (List (List VV))):Query->Nat->List (List VV)×Nat
 |.mk op ta w co on gr od li args,k=>if op=1 then(ls.getD k [],k+1)else(Vv op (.mk op ta w co on gr od li args) (eK ls args k).1,(eK ls args k).2)
def eK(ls:List (List (List VV))):List Query->Nat->List (List (List VV))×Nat
 |[],k=>([],k)
 |q::qs,k=>((iT ls q k).1::(eK ls qs (iT ls q k).2).1,(eK ls qs (iT ls q k).2).2)
end
mutual
def TF(ls:List (List (List VV))):Query->Nat->Prop
 |.mk op ta w co on gr od li args,k=>if op=1 then k<ls.length else Zu op (.mk op ta w co on gr od li args) (eK ls args k).1/\OB ls args k
def OB(ls:List (List (List VV))):List Query->Nat->Prop
 |[],_=>True
 |q::qs,k=>TF ls q k/\OB ls qs (iT ls q k).2
end
def Y0:Vc.Spec:=λcvs m h K=>∃op,cvs=[cI op]/\(op=2->K (.val (.agg #[.func (.func 175) #[] #[]])) m h)/\(op=3->K (.val (.agg #[.func (.func 176) #[] #[]])) m h)/\(op=4->K (.val (.agg #[.func (.func 177) #[] #[]])) m h)/\(op=5->K (.val (.agg #[.func (.func 178) #[] #[]])) m h)/\(op=6->K (.val (.agg #[.func (.func 179) #[] #[]])) m h)/\
 (op=7->K (.val (.agg #[.func (.func 180) #[] #[]])) m h)/\(op=8->K (.val (.agg #[.func (.func 181) #[] #[]])) m h)/\(op=9->K (.val (.agg #[.func (.func 182) #[] #[]])) m h)/\((op≠2/\op≠3/\op≠4/\op≠5/\op≠6/\op≠7/\op≠8/\op≠9)->K (.val (.agg #[.func (.func 183) #[] #[]])) m h)
def Leaves(h:PH)(s:Sl)(ls:List (List (List VV))):Prop:=aR h 1 eS (λl t=>Rows h t l) s ls
def NJ(N:Nat):Vc.Spec:=λcvs m h K=>∃be v q lv ls k,cvs=[cP be,aQ v]/\fF h q v/\SizeOf.sizeOf q<N/\be≠1/\m be=some (.cells #[Sl.val lv,.int .i64 (k:Nat)] 181 (0,0))/\Leaves h lv ls/\gG m/\TF ls q k/\
 ∀s' m' h',PH.le h h'->Rows h' s' (iT ls q k).1->eW m m' be (.cells #[Sl.val lv,.int .i64 ((iT ls q k).2:Nat)] 181 (0,0))->K (cS s') m' h'
noncomputable def Wu(N:Nat)(be:Nat)(v:QV):Ctx:=sY [(124,NJ N),(152,Md),(153,Y0),(175,NR (Dp 1) CX),(176,NR IG IA),(177,NR IH OO),(178,NR IE KA),(179,NR (Dp 2) Mw),(180,NR yK MY),(181,NR yK M8),(182,NR IF Oo),(183,NR Bs Er)] [(7,{A:=Nat×List Value×MH×PH,st:=λ⟨i,l,m,h⟩=>cM 57 59 [(0,pv be),(3,.at (.ptr 3 0)),(6,.at (.lst 33)),(35,sv v.args),(36,iv v.args.len),(37,iv i)] [(3,.cells 68 (v.enc.map .val)),(33,.lst 214 1 (l.map λx=>[x]))] m h})] [] [] [] [] false
noncomputable abbrev tQ(a:Nat):CV:=CV.val (Value.agg (Array.mk (l9 (Value.func (Fn.func a) oI oI))))
attribute [push_cast] tQ
def UD(op:Int)(m:MH)(h:PH)(K:CV->MH->PH->Prop):Prop:=
  branch (op==2) (K (tQ 175) m h) (branch (op==3) (K (tQ 176) m h) (branch (op==4) (K (tQ 177) m h) (branch (op==5) (K (tQ 178) m h) (branch (op==6) (K (tQ 179) m h) (branch (op==7) (K (tQ 180) m h) (branch (op==8) (K (tQ 181) m h) (branch (op==9) (K (tQ 182) m h) (K (tQ 183) m h))))))))
noncomputable abbrev CF(a:Nat×List Value×MH×PH):List (List Value):=List.map (fun(x:Value)=>l9 x) a.2.1
noncomputable abbrev oN(a:Nat×List Value×MH×PH):Nat->Option Obj:=a.2.2.1
noncomputable abbrev Bx(a:Nat×List Value×MH×PH):Nat->Nat->Option Value:=a.2.2.2
abbrev Aj(a:Sl->(List (List (List VV)))->Prop):Prop:=∃(x:Sl)(x1:List (List (List VV))),a x x1
abbrev tS(a:Prop)(b:Nat×List Value×MH×PH)(c:Nat)(d:Sl->PH->QV->Sl->Query->(List Nat)->(List (List (List VV)))->Prop):Prop:=a->aY (Bx b) c (List.map (fun(x:Value)=>l9 x) b.2.1) (λx x1=>∃(x2:QV)(x3:Sl)(x4:Query),MW (λx5 x6=>d x x1 x2 x3 x4 x5 x6))
abbrev tR(a:QV)(b:Sl)(c:QV)(d:Sl)(e:PH)(g:Query)(i:List Nat)(j:List (List (List VV)))(k:Nat×List Value×MH×PH)(l n:Prop):Prop:=aA (aK (cW a) (dG b)=aK (cW c) (dG d)) (fF e g c) (aA (B9 e d i j) (gG (oN k)) (l/\n))
attribute [push_cast] CF oN Bx Aj tS tR
def LM(N:Nat)(be:Nat)(v:QV)(m:MH)(h:PH)(K:CV->MH->PH->Prop):Prop:=
  bQ v.op 1 (gX m h be 0 (λy=>tL m h be 1 (λy1=>dA y y1 (λb o y2=>aI m h b (o+eM y1 1) (aM y2)/\tL m h be 1 (λy3=>iE (λc E=>aA (wS m be (fN c E 0)) (1<c.size) (∀(m1:MH),bG m m1 be (splice c.toList 1 (bR (qO (y3+1)))) E->K (dG y2) m1 h))))))) (aA (cQ (aH v.args)) (aH v.args<=aH v.args) (aA (kS (aH v.args*8)) (kS (aH v.args)) (∃(I:Nat×List Value×MH×PH->Prop)(m1:Nat×List Value×MH×PH->Nat),(∃(x:Nat×List Value×MH×PH),aA (I x) (lC be) (aA dT (eL 33) (aA (aL v.args) (aX v.args) (aA (bI x.1) (pK v) (bT (Option.some (Own.lst 214 1 (List.replicate (pT v.args) HV))=Option.some (Own.lst 214 1 (CF x))) m (oN x) h (Bx x))))))/\∀(x:Nat×List Value×MH×PH),I x->bE (↑x.1:Int)
 (aH v.args) (bK (λb o=>aA (bL v.args.a b o) (0<=(↑x.1:Int)) ((↑x.1:Int)<aH v.args/\∃(y:QV),aI (oN x) (Bx x) b (o+aZ x.1 21) y.enc/\∃(b1:Nat),uY (λv1 q=>Aj (λl l1=>∃(k:Nat),aA (aK (NP be 0) (cW y)=aK (NP b1 0) (cW v1)) (fF (Bx x) q v1) (aA (uU q N) (jJ (b1=1)) (aA (x.2.2.1 b1=Option.some (fN (Array.mk (lP (bV l) (cJ (↑k:Int)))) 181 0)) (Leaves (Bx x) l l1) (aA (gG (oN x)) (TF l1 q k) (fP (λs m2=>∀(h1:PH),dZ (Bx x) h1 (Rows h1 s (iT l1 q k).1) (bG (oN x) m2 b1 (lP (bV l) (cJ (↑(iT l1 q k).2:Int))) 181->∃(s1:Sl),nH s s1/\∀(b2:Nat)(h2:PH),dZ h1 h2 (bF h2 b2 0 (aM s1)) (aA (cQ (↑x.1:Int)) ((↑x.1:Int)<uV (CF x)) (∃(e:List Value),aA (tW (CF x)
 (lE x.1) e) (0<e.length) (∃(x1:Nat×List Value×MH×PH),aA (I x1) (m1 x1<m1 x) (aA (lC be) dT (aA (eL 33) (aL v.args) (aA (aX v.args) (bD (gI (bC x.1 1)) x1.1) (uW (pK v) (Option.some (Own.lst 214 1 (List.set (CF x) (lE x.1) (yQ (Value.func (Fn.func 174) oI (lY b2)) 1 e)))=Option.some (Own.lst 214 1 (CF x1))) m2 (oN x1) h2 (Bx x1))))))))))))))))))) (∃(o:Int),aA (fA v.op o) (tS (o=2) x 1 (λs h1 v1 t q b l=>tR v s v1 t h1 q b l x (Dp 1 q l) (lT h1 (CX q l) (λs1 h2=>K (dG s1) (oN x) h2)))) (aA (tS (o=3) x 1 (λs h1 v1 t q b l=>tR v s v1 t h1 q b l x (IG q l) (lT h1 (IA q l) (λs1 h2=>K (dG s1) (oN x) h2)))) (tS (o=4) x 1 (λs h1 v1 t q b l=>tR v s v1 t h1 q b l x (IH q l) (lT h1 (OO q l) (fun
 s1 h2=>K (dG s1) (oN x) h2)))) (aA (tS (o=5) x 1 (λs h1 v1 t q b l=>tR v s v1 t h1 q b l x (IE q l) (lT h1 (KA q l) (λs1 h2=>K (dG s1) (oN x) h2)))) (tS (o=6) x 1 (λs h1 v1 t q b l=>tR v s v1 t h1 q b l x (Dp 2 q l) (lT h1 (Mw q l) (λs1 h2=>K (dG s1) (oN x) h2)))) (aA (tS (o=7) x 1 (λs h1 v1 t q b l=>tR v s v1 t h1 q b l x (yK q l) (lT h1 (MY q l) (λs1 h2=>K (dG s1) (oN x) h2)))) (tS (o=8) x 1 (λs h1 v1 t q b l=>tR v s v1 t h1 q b l x (yK q l) (lT h1 (M8 q l) (λs1 h2=>K (dG s1) (oN x) h2)))) (tS (o=9) x 1 (λs h1 v1 t q b l=>tR v s v1 t h1 q b l x (IF q l) (lT h1 (Oo q l) (λs1 h2=>K (dG s1) (oN x) h2)))/\tS (aA (jJ (o=2)) (jJ (o=3)) (aA (jJ (o=4)) (jJ (o=
 5)) (aA (jJ (o=6)) (jJ (o=7)) (jJ (o=8)/\jJ (o=9))))) x 1 (λs h1 v1 t q b l=>tR v s v1 t h1 q b l x (Bs q l) (lT h1 (Er q l) (λs1 h2=>K (dG s1) (oN x) h2)))))))))))
theorem Rz:Sound Tryz.prog 153 Y0:=by
 refine jK Tryz.func153 ?_;rintro cvs m h K ⟨op,rfl,h2,h3,h4,h5,h6,h7,h8,h9,hK⟩;refine⟨dL [] [] [] [] false,rfl,aF,UD op m h K,by kernel_rfl,?_⟩;exact(aB (λe=>h2 (by simpa using e)) λe2=>aB (λe=>h3 (by simpa using e)) λe3=>aB (λe=>h4 (by simpa using e)) λe4=>aB (λe=>h5 (by simpa using e)) λe5=>aB (λe=>h6 (by simpa using e)) λe6=>aB (λe=>h7 (by simpa using e)) λe7=>aB (λe=>h8 (by simpa using e)) λe8=>aB (λe=>h9 (by simpa using e)) λe9=>hK ⟨by simpa using e2,by simpa using e3,by simpa using e4,by simpa using e5,by simpa using e6,by simpa using e7,by simpa using e8,by simpa using e9⟩)
theorem Hh{ls:List (List (List VV))}{q:Query}:∀{a:List Query}{k:Nat},eK ls (a++[q]) k=((eK ls a k).1++[(iT ls q (eK ls a k).2).1],(iT ls q (eK ls a k).2).2)
 |[],k=>by simp[eK]
 |p::a,k=>by
  rw[List.cons_append,eK,Hh];simp[eK]
theorem Sx{ls:List (List (List VV))}{q:Query}{b:List Query}:∀{a:List Query}{k:Nat},OB ls (a++q::b) k->TF ls q (eK ls a k).2
 |[],k,h=>by rw[List.nil_append,OB]at h;simpa[eK]using h.1
 |p::a,k,h=>by
  rw[List.cons_append,OB]at h;rw[eK];exact Sx h.2
theorem DW{ls:List (List (List VV))}:∀{a:List Query}{k:Nat},(eK ls a k).1.length=a.length
 |[],k=>by simp[eK]
 |p::a,k=>by rw[eK];simp[DW]
theorem PA:∀N,Sound Tryz.prog 124 (NJ N)
 |0=>by
  refine fU (fn:=Tryz.f124) (c:=bU Tryz.f124) Tryz.func124 rfl (by decide) ?_;rintro cvs m h K ⟨be,v,q,lv,ls,k,rfl,_,hN,_⟩;omega
 |N+1=>by
  refine jK Tryz.func124 ?_;rintro cvs m h K ⟨be,v,q,lv,ls,k,rfl,hq,hN,hb1,hbe,hlv,hT,hok,hK⟩;refine⟨Wu N be v,rfl,aD (PA N) (aD RA (aD Rz (aD Rj (aD Ri (aD Rh (aD Rg (aD Rf (aD Re (aD Rc (aD Rb (aD Ra aF))))))))))),LM N be v m h K,by kernel_rfl,?_⟩;dsimp only[LM,push_cast];obtain⟨op,ta,w,co,on,gr,od,li,args⟩:=q;have xq:=hq.parts;rw[iT]at hK;rw[TF]at hok;have hvop:v.op=op:=xq.op_;refine aB (λe=>?_) (λe=>?_)
  .have e:op=1:=by rw[<-hvop];simpa using e
   rw[if_pos e]at hok;simp only[if_pos e]at hK;have hlen:=aR.slen hlv;obtain⟨b,o,s,ea,rd,hr⟩:=aR.at hlv (List.getElem?_eq_getElem hok);have r0:aI m h be 0 [bV lv]:=.of_m hbe rfl;have r1:aI m h be 1 [cJ (k:Nat)]:=.of_m hbe rfl;have hl5:=hlv.len;refine⟨lv,r0,k,r1,b,o,ea,aC,aC,s,.imm rd,k,r1,_,_,⟨hbe⟩,by simp,λm' hu=>hK s m' h (.refl _) ?_ ?_⟩
   .rw[List.getD_eq_getElem?_getD,List.getElem?_eq_getElem hok];exact hr
   .have e5:IntKind.i64.wrap ((k:Int)+1)=((k+1:Nat):Int):=by rw[j5 aC]
    rw[e5]at hu;exact hu
  .have e:op≠1:=by rw[<-hvop];simpa using e
   rw[if_neg e]at hok;simp only[if_neg e]at hK;obtain⟨hop,hoks⟩:=hok;have hargs:=xq.args_;have hal:=aR.slen hargs;have hal2:=aR.len hargs
   refine⟨aC,aC,aC,aC,λz=>z.1<=args.length/\PH.le h z.2.2.2/\eW m z.2.2.1 be (.cells #[Sl.val lv,.int .i64 ((eK ls (args.take z.1) k).2:Nat)] 181 (0,0))/\∃bs:List Nat,bs.length=z.1/\z.2.1=bs.map Kh++List.replicate (args.length-z.1) .nilFunc/\∀j b l,bs[j]? =some b->(eK ls (args.take z.1) k).1[j]? =some l->Kp z.2.2.2 b l,λz=>args.length-z.1,
    ⟨(0,List.replicate args.length .nilFunc,m,h),⟨by simp,.refl _,⟨by dsimp only;rw[List.take_zero,eK];exact hbe,λ_ _=>rfl⟩,[],rfl,by simp,λj b l h1 _=>by rw[List.getElem?_nil]at h1;cases h1⟩,?_⟩,?_⟩
   .rw[show((v.args.len:Int)).toNat=args.length by omega];dsimp only;rw[List.map_replicate];exact MT
   .rintro⟨i,l,zm,zh⟩ ⟨hi,lez,hu,bs,hbs,hl,hseq⟩;dsimp only at hi lez hu hbs hl hseq⊢
    have hTz:gG zm:=by
     obtain⟨T,fz,e1⟩:=hT;exact⟨T,fz,by rw[hu.other 1 (Ne.symm hb1)];exact e1⟩
    refine aE (λhlt=>?_) (λhge=>?_)
    .obtain⟨p,hp⟩:=fS hal hlt;obtain⟨b,o,u,ea,hrd,hru⟩:=aR.at (zR.mono hargs lez) hp;have hpl:=(List.getElem?_eq_some_iff.1 hp).1
     have hsz:SizeOf.sizeOf p<N:=by
      have:=List.sizeOf_lt_of_mem (List.mem_of_getElem? hp);simp only[Query.mk.sizeOf_spec]at hN;omega
     have hsplit:args=args.take i++p::args.drop (i+1):=by
      have h5:args[i]=p:=(List.getElem?_eq_some_iff.1 hp).2;rw[<-h5,List.getElem_cons_drop hpl,List.take_append_drop]
     have hokp:TF ls p (eK ls (args.take i) k).2:=Sx (b:=args.drop (i+1)) (by rw[<-hsplit];exact hoks)
     have hsn:eK ls (args.take (i+1)) k=((eK ls (args.take i) k).1++[(iT ls p (eK ls (args.take i) k).2).1],(iT ls p (eK ls (args.take i) k).2).2):=by
      rw[List.take_add_one,hp,Option.toList_some,Hh]
     refine⟨b,o,ea,aC,aC,u,.imm hrd,be,u,p,lv,ls,(eK ls (args.take i) k).2,rfl,hru,hsz,hb1,hu.at_,aR.mono hlv lez (λl s hr=>aR.mono hr lez λr t hv=>bB.mono hv lez),hTz,hokp,λs' m' h' le' hr' hu'=>⟨s',rfl,λb2 h2 le2 hrd2=>?_⟩⟩;have hll:l.length=args.length:=by rw[hl,List.length_append,List.length_map,List.length_replicate];omega
     have hev:l[i]? =some .nilFunc:=by
      rw[hl,List.getElem?_append_right (by simp;omega),List.getElem?_replicate,if_pos (by simp;omega)]
     refine⟨aC,by simp;omega,[.nilFunc],by simp[hev],by simp,(i+1,l.set i (Kh b2),m',h2),⟨by dsimp only;omega,lez.trans (le'.trans le2),?_,bs++[b2],by simp[hbs],?_,?_⟩,by dsimp only;omega,?_⟩
     .dsimp only;rw[hsn];exact⟨hu'.at_,λb5 hb5=>by rw[hu'.other b5 hb5,hu.other b5 hb5]⟩
     .dsimp only;rw[hl,List.set_append,if_neg (by simp;omega),List.map_append,List.append_assoc];congr 1;rw[show args.length-i=(args.length-(i+1))+1 by omega,List.replicate_succ];simp[hbs]
     .dsimp only;rw[hsn];intro j b5 l5 h5 h6;have hel:(eK ls (args.take i) k).1.length=bs.length:=by rw[DW,List.length_take];omega
      by_cases hj:j<bs.length
      .rw[List.getElem?_append_left hj]at h5;rw[List.getElem?_append_left aC]at h6;exact(hseq j b5 l5 h5 h6).mono (le'.trans le2)
      .rw[List.getElem?_append_right aC]at h5;rw[List.getElem?_append_right aC]at h6;have:j-bs.length=0:=by have:=(List.getElem?_eq_some_iff.1 h5).1;simp at this;omega
       rw[this]at h5;rw[hel,this]at h6;simp at h5 h6;subst h5 h6
       obtain⟨us,h7,h8⟩:=(show∃us,bH h' s' 1 (us.map eS)/\eO h' us _ from by
        obtain⟨us,h7,h8,h9⟩:=hr'.ex;exact⟨us,h7,h8.symm,h9⟩)
       exact⟨us,⟨s',hrd2,h7.mono le2,by have h9:=hr'.len;rw[h8.len];exact h9⟩,h8.mono le2⟩
     .dsimp only;rw[j5 aC]
      have e9:((l.map λx=>[x]).set ((i:Int)).toNat (Kh b2::List.drop 1 [.nilFunc]))=(l.set i (Kh b2)).map λx=>[x]:=by
       rw[List.map_set];rfl
      exact⟨MT,rfl,rfl,rfl,rfl,rfl,rfl,by rw[<-e9];rfl,rfl,rfl,trivial⟩
    .have hi2:i=args.length:=by omega
     subst hi2;rw[List.take_length]at hu hseq;rw[Nat.sub_self,List.replicate_zero,List.append_nil]at hl
     have fin:∀{okF:Query->List (List (List VV))->Prop}{f:Query->List (List (List VV))->List (List VV)},okF (.mk op ta w co on gr od li args) (eK ls args k).1->Vv op (.mk op ta w co on gr od li args) (eK ls args k).1=f (.mk op ta w co on gr od li args) (eK ls args k).1->∀(s:Sl)(h':PH),zh.le h'->bH h' s 1 (l.map λx=>[x])->
      ∃(v1:QV)(t:Sl)(q:Query)(bs:List Nat)(ls:List (List (List VV))),[aQ v,cS s]=[aQ v1,cS t]/\fF h' q v1/\B9 h' t bs ls/\gG zm/\okF q ls/\∀(s':Sl)(h'_1:PH),h'.le h'_1->Rows h'_1 s' (f q ls)->K (cS s') zm h'_1:=fun{okF f} h1 h2 s h' le' hri=>by
      refine⟨v,s,_,bs,_,rfl,hq.mono (lez.trans le'),⟨?_,by rw[DW];exact hbs,λj b l5 h5 h6=>(hseq j b l5 h5 h6).mono le'⟩,hTz,h1,λs' h'' le'' hr=>hK s' zm h'' (lez.trans (le'.trans le'')) (by rw[h2];exact hr) hu⟩;rw[hl,List.map_map]at hri;exact hri
     have hop2:=hop;refine⟨op,by rw[hvop],λe2=>fin (okF:=Dp 1) ?_ ?_,λe2=>fin (okF:=IG) ?_ ?_,λe2=>fin (okF:=IH) ?_ ?_,λe2=>fin (okF:=IE) ?_ ?_,λe2=>fin (okF:=Dp 2) ?_ ?_,λe2=>fin (okF:=yK) ?_ ?_,λe2=>fin (okF:=yK) ?_ ?_,λe2=>fin (okF:=IF) ?_ ?_,λe2=>fin (okF:=Bs) ?_ ?_⟩
     all_goals first
      |(subst e2;exact hop)
      |(subst e2;rfl)
      |(obtain⟨h2,h3,h4,h5,h6,h7,h8,h9⟩:=e2;first|(rw[Zu,if_neg h2,if_neg h3,if_neg h4,if_neg h5,if_neg h6,if_neg h7,if_neg h8,if_neg h9]at hop;exact hop)|(rw[Vv,if_neg h2,if_neg h3,if_neg h4,if_neg h5,if_neg h6,if_neg h7,if_neg h8,if_neg h9]))
def NM:Vc.Spec:=λcvs m h K=>∃s r,cvs=[cS s]/\bB h s r/\r.length<=1000/\∀s' h',PH.le h h'->bB h' s' r->K (cS s') m h'
def Tb:Vc.Spec:=λcvs m h K=>∃lv v ls q,cvs=[cS lv,aQ v]/\Leaves h lv ls/\fF h q v/\TF ls q 0/\gG m/\(iT ls q 0).1.length<=8000000/\(∀r∈(iT ls q 0).1,r.length<=1000)/\∀s' h',PH.le h h'->Rows h' s' (iT ls q 0).1->K (cS s') m h'
noncomputable def XO(N:Nat):Ctx:=sY [(124,NJ N),(125,NM)] [(5,{A:=Nat×List Sl×Sl×MH×PH,st:=λ⟨i,us,s,m,h⟩=>cM 31 33 [(7,.at (.lst 16)),(17,sv s),(18,iv s.len),(19,iv i)] [(16,.lst 75 1 (us.map eS))] m h})] [] [] [200005] [] false
def LL(a:Addr)(n c:Nat)(m:MH)(h:PH)(K:CV->MH->PH->Prop):Prop:=
  ∃(y:List (List Value)),aA (dU 3 y) (bH h (Sl.mk (Option.some a) n c) 3 y) (aA (dD (mC y) 32) (w7 (mC y)) (aY h 3 (Bz y) (λs h1=>K (dG s) m h1)))
theorem Yv(a:Addr)(n c:Nat)(m:MH)(h:PH)(K:CV->MH->PH->Prop):LL a n c m h K=(qI (dL [] [] [] [] false) Tryz.f125 (bU Tryz.f125) (entry Tryz.f125.ntmps [.val (.slice (some a) n c)] m h) K):=by kernel_rfl
def JD(n c:Nat)(m:MH)(h:PH)(K:CV->MH->PH->Prop):Prop:=
  K uO m h
theorem Wt(n c:Nat)(m:MH)(h:PH)(K:CV->MH->PH->Prop):JD n c m h K=(qI (dL [] [] [] [] false) Tryz.f125 (bU Tryz.f125) (entry Tryz.f125.ntmps [.val (.slice none n c)] m h) K):=by kernel_rfl
abbrev jA(a:List VV):Prop:=a.length<=1000
abbrev EH(a:Sl)(b:PH)(c:Sl->PH->Prop):Prop:=pA (λx x1=>aA (nH a x) (bB b x x1) (jA x1/\gT (λx2 x3=>dZ b x3 (bB x3 x2 x1) (c x2 x3))))
attribute [push_cast] jA EH
def O7(N:Nat)(lv:Sl)(v:QV)(m:MH)(h:PH)(K:CV->MH->PH->Prop):Prop:=
  Co m h (lP nV cK) 181 2 (λc=>aJ (bV lv) cK (List.drop 2 c.toList)) (λb m1=>∃(b1:Nat),uY (λv1 q=>Aj (λl l1=>∃(k:Nat),aA (aK (NP b 0) (cW v)=aK (NP b1 0) (cW v1)) (fF h q v1) (aA (uU q N) (jJ (b1=1)) (aA (m1 b1=Option.some (fN (Array.mk (lP (bV l) (cJ (↑k:Int)))) 181 0)) (Leaves h l l1) (aA (gG m1) (TF l1 q k) (fP (λs m2=>∀(h1:PH),dZ h h1 (Rows h1 s (iT l1 q k).1) (bG m1 m2 b1 (lP (bV l) (cJ (↑(iT l1 q k).2:Int))) 181->aA (cQ (aH s)) (aH s<=aH s) (aA (kS (aH s*24)) (kS (aH s)) (HS (λI x=>aA (I x) (eL 16) (aA (bA s (eA x)) (cO s (eA x)) (aA (bI x.1) (Option.some (Own.lst 75 1 (List.replicate (pT s) fE))=Option.some (Own.lst 75 1 (i6 x))) (aA (m2=jW x) (h1=
 i7 x) True)))) (λI m3 x=>I x->bE (↑x.1:Int) (aH (eA x)) (dA (eA x) (↑x.1:Int) (λb2 o y=>aI (jW x) (i7 x) b2 (o+aZ x.1 1) (aM y)/\EH y (i7 x) (λs1 h2=>aA (cQ (↑x.1:Int)) ((↑x.1:Int)<uV (i6 x)) (∃(e:List Value),IY (tW (i6 x) (lE x.1) e) (0<e.length) (λx1=>aA (I x1) (m3 x1<m3 x) (aA (eL 16) (bA (eA x) (eA x1)) (aA (cO (eA x) (eA x1)) (bD (gI (bC x.1 1)) x1.1) (aA (Option.some (Own.lst 75 1 (List.set (i6 x) (lE x.1) (yQ (bV s1) 1 e)))=Option.some (Own.lst 75 1 (i6 x1))) (jW x=jW x1) (bP h2 (i7 x1)))))))))) (aY (i7 x) 1 (i6 x) (λs1 h2=>K (dG s1) (jW x) h2))))))))))))))
theorem JE:Sound Tryz.prog 125 NM:=by
 refine fU (fn:=Tryz.f125) (c:=bU Tryz.f125) Tryz.func125 rfl (by decide) ?_;rintro cvs m h K ⟨⟨a,n,c⟩,r,rfl,hs,hl,hK⟩;refine⟨dL [] [] [] [] false,rfl,aF,?_⟩;cases a with
 |none=>
  show qI _ Tryz.f125 (bU Tryz.f125) (entry Tryz.f125.ntmps [.val (.slice none n c)] m h) K;rw[<-Wt n c m h K];dsimp only[JD,push_cast];refine hK ⟨none,0,0⟩ h (.refl _) ?_;cases r with
  |nil=>exact⟨⟨[],bH.nil _ _,rfl,λi x hx=>by simp at hx⟩,by simp⟩
  |cons x r=>
   obtain⟨b,o,v,e,_⟩:=aR.at hs (i:=0) (x:=x) rfl;cases e
 |some a=>
  show qI _ Tryz.f125 (bU Tryz.f125) (entry Tryz.f125.ntmps [.val (.slice (some a) n c)] m h) K;rw[<-Yv a n c m h K];dsimp only[LL,push_cast];obtain⟨⟨vs,h1,h2,h3⟩,h4⟩:=hs;refine⟨vs.map VV.enc,?_,h1,by rw[List.length_map];omega,by rw[List.length_map];omega,λs h' le hri=>hK s h' le ⟨⟨vs,by simpa using hri,h2,h3⟩,h4⟩⟩;constructor
  .intro e he;obtain⟨x,_,rfl⟩:=List.mem_map.1 he;rfl
  .intro e he u hu;obtain⟨x,_,rfl⟩:=List.mem_map.1 he;simp[VV.enc]at hu;rcases hu with rfl|rfl|rfl<;>rfl
theorem TX:Sound Tryz.prog 82 Tb:=by
 refine Fh Tryz.func82 ?_;rintro cvs m h K ⟨lv,v,ls,q,rfl,hlv,hq,hok,hT,hl,hw,hK⟩;refine⟨XO (SizeOf.sizeOf q+1),rfl,aD (PA _) (aD JE aF),O7 (SizeOf.sizeOf q+1) lv v m h (kY h K),by kernel_rfl,?_⟩;dsimp only[O7,push_cast];intro b m1 hb1 hu1;obtain⟨s1,n1⟩:=gJ (Sub.refl m) hb1 hu1;refine⟨_,_,⟨hu1.at_⟩,by simp,λm2 hu2=>?_⟩;have s2:Sub m m2:=s1.upd n1 hu2.other
 have hb1':b≠1:=λe=>by
  obtain⟨T,fz,e1⟩:=hT;rw[<-e,n1]at e1;cases e1
 refine⟨b,v,q,lv,ls,0,rfl,hq,aC,hb1',hu2.at_,hlv,hT.sub s2,hok,λs m3 h3 le3 hr hu3=>?_⟩;have s3:Sub m m3:=s2.upd n1 hu3.other;generalize (iT ls q 0).1=rs at hl hw hK hr;have hsl:=aR.slen hr;refine⟨aC,aC,aC,aC,λz=>z.1<=rs.length/\z.2.2.1=s/\z.2.2.2.1=m3/\PH.le h3 z.2.2.2.2/\∃us,z.2.1=us++List.replicate (rs.length-z.1) ⟨none,0,0⟩/\eO z.2.2.2.2 us (rs.take z.1),λz=>rs.length-z.1,⟨(0,List.replicate rs.length ⟨none,0,0⟩,s,m3,h3),⟨by simp,rfl,rfl,.refl _,[],by simp,by simpa using eO.nil h3⟩,?_⟩,?_⟩
 .rw[show((s.len:Int)).toNat=rs.length by omega];dsimp only;rw[List.map_replicate];exact MT
 .rintro⟨i,us',s',m',hz⟩ ⟨hi,e1,e2,le4,us,hus,hru⟩;dsimp only at hi e1 e2 le4 hus hru⊢
  subst e1 e2;have hul:=hru.len;rw[List.length_take]at hul;refine aE (λhlt=>?_) (λhge=>?_)
  .have hil:i<rs.length:=by omega
   obtain⟨b2,o,u,ea,rd,hv⟩:=aR.at hr (List.getElem?_eq_getElem hil);have hlen:us'.length=rs.length:=by rw[hus,List.length_append,List.length_replicate];omega
   have hev:us'[i]? =some ⟨none,0,0⟩:=by
    rw[hus,List.getElem?_append_right aC,List.getElem?_replicate,if_pos aC]
   refine⟨b2,o,ea,aC,aC,u,.imm ((rd.mono le4)),u,rs[i],rfl,bB.mono hv le4,hw _ (List.getElem_mem _),λsc h5 le5 hvc=>⟨aC,by rw[List.length_map];omega,[nV],by rw[List.getElem?_map,show((i:Int)).toNat=i from rfl,hev];rfl,by simp,(i+1,us'.set i sc,s',m',h5),⟨by dsimp only;omega,rfl,rfl,le4.trans le5,us++[sc],?_,?_⟩,by dsimp only;omega,?_⟩⟩
   .dsimp only;rw[hus,List.set_append,if_neg aC,List.append_assoc];congr 1;rw[show rs.length-i=(rs.length-(i+1))+1 by omega,List.replicate_succ,show i-us.length=0 by omega];rfl
   .dsimp only;rw[List.take_add_one,List.getElem?_eq_getElem hil];exact(hru.mono le5).snoc hvc
   .dsimp only
    have e9:((us'.map eS).set ((i:Int)).toNat (bV sc::List.drop 1 [nV]))=(us'.set i sc).map eS:=by
     rw[List.map_set];rfl
    exact⟨MT,rfl,rfl,by rw[j5 aC],by rw[<-e9],rfl,rfl,trivial⟩
  .have:i=rs.length:=by omega
   subst this;rw[Nat.sub_self,List.replicate_zero,List.append_nil]at hus;subst hus;rw[List.take_length]at hru;intro s6 h6 le6 hri;exact⟨m,h6,s3,le3.trans (le4.trans le6),.refl _,hK s6 h6 (le3.trans (le4.trans le6)) ((hru.mono le6).rows hri aC)⟩
mutual
def u4(h:PH):Query->QV->Nat->List (Nat×QV)->Prop
 |.mk _ _ _ _ _ _ _ _ args,v,d,es=>∃vs ess,bH h v.args 21 (vs.map QV.enc)/\iM h args vs (d+1) ess/\es=(d,v)::ess
def iM(h:PH):List Query->List QV->Nat->List (Nat×QV)->Prop
 |[],vs,_,es=>vs=[]/\es=[]
 |q::qs,vs,d,es=>∃v vs' e1 e2,vs=v::vs'/\fF h q v/\u4 h q v d e1/\iM h qs vs' d e2/\es=e1++e2
end
def YB(e:Nat×QV):List Value:=[.int .i64 (e.1:Nat),.agg e.2.enc.toArray]
def Nz(N:Nat):Vc.Spec:=λcvs m h K=>∃(v:QV)(q:Query)(d l k0:Nat)(es xs:List (Nat×QV))(J:Nat->MH->PH->Prop),cvs=[aQ v,cI d,.val (.func (.yield l) #[] #[])]/\u4 h q v d es/\SizeOf.sizeOf q<N/\d+AZ q<=8000000/\(∀j e,es[j]? =some e->xs[k0+j]? =some e)/\J k0 m h/\
 (∀k e m' h',xs[k]? =some e->PH.le h h'->J k m' h'->ZL Tryz.prog l (YB e) m' h' (λr m2 h2=>r=true/\PH.le h' h2/\J (k+1) m2 h2))/\
 ∀m' h',PH.le h h'->J (k0+es.length) m' h'->K (cB true) m' h'
noncomputable def UE(N:Nat)(v:QV)(d l:Nat):Ctx:=
 {dL [(148,Nz N)] [(4,{A:=Nat×MH×PH,st:=λ⟨i,m,h⟩=>cM 28 31 [(1,iv d),(2,vv (.func (.yield l) #[] #[])),(15,sv v.args),(16,iv v.args.len),(17,iv i)] [] m h})] [] [] false with yield:=some (WS Tryz.prog)}
def Ny:PH->List Value->List (List Value)->Prop:=λh caps xs=>∃b v q es,caps=[.pointer (some ⟨b,0,none⟩)]/\bF h b 0 (QV.enc v)/\u4 h q v 1 es/\AZ q<=900000/\xs=es.map YB
def S8:Vc.Spec:=λcvs m h K=>∃v,cvs=[aQ v]/\∀b h',PH.le h h'->bF h' b 0 (QV.enc v)->K (.val (.func (.func 147) #[] #[.pointer (some ⟨b,0,none⟩)])) m h'
abbrev IP(a:Nat->(Nat×QV)->Prop):Prop:=∀(x:Nat)(x1:Nat×QV),a x x1
abbrev AK(a:List (Nat×QV))(b:Nat)(c:Nat×QV):Prop:=a[b]? =Option.some c
attribute [push_cast] IP AK
def JB(N:Nat)(v:QV)(d l:Nat)(m:MH)(h:PH)(K:CV->MH->PH->Prop):Prop:=
  HX (WS Proofs.Tryz.prog)/\IS (λl1 v1=>∃(R:Bool->MH->PH->Prop),aA (Bw l::aK (dY (↑d:Int)) (cW v)=Bw l1::List.map CV.val v1) (ZL Proofs.Tryz.prog l1 v1 m h R) (∀(u:Bool),oS (λm1 h1=>R u m1 h1->branch (!u) (K aT m1 h1) (AH (λI x=>aA (I x) (eQ (gI (↑d:Int))) (aA (AN l) (aL v.args) (aA (aX v.args) (bI x.1) (aA (m1=cC x) (h1=cE x) True)))) (λI m2 x=>I x->bE (↑x.1:Int) (aH v.args) (bK (λb o=>aA (bL v.args.a b o) (0<=(↑x.1:Int)) ((↑x.1:Int)<aH v.args/\∃(y:QV),aI (cC x) (cE x) b (o+aZ x.1 21) y.enc/\uY (λv2 q=>bK (λd1 l2=>∃(k:Nat)(e x1:List (Nat×QV))(J:Nat->MH->PH->Prop),aA (vK y (bC d 1) l=vK v2 (↑d1:Int) l2) (u4 (cE x) q v2 d1 e) (aA (uU q N) (d1+AZ q<=
 8000000) (aA (IP (λj e1=>AK e j e1->AK x1 (k+j) e1)) (J k (cC x) (cE x)) (IP (λk1 e1=>oS (λm3 h2=>p9 (AK x1 k1 e1) (cE x) h2 (J k1 m3 h2) (ZL Proofs.Tryz.prog l2 (lP (cJ (↑e1.1:Int)) (Value.agg (Array.mk e1.2.enc))) m3 h2 (fun(r:Bool)=>fun(m4:MH)=>fun(h3:PH)=>aA (lN r) (PH.le h2 h3) (J (k1+1) m4 h3)))))/\oS (λm3 h2=>dZ (cE x) h2 (J (k+e.length) m3 h2) (∃(x2:Nat×MH×PH),aA (I x2) (m2 x2<m2 x) (aA (eQ (gI (↑d:Int))) (AN l) (aA (aL v.args) (aX v.args) (aA (bD (gI (bC x.1 1)) x2.1) (m3=cC x2) (bP h2 (cE x2))))))))))))))) (K gF (cC x) (cE x)))))))
def RD(N:Nat)(l bq:Nat)(m:MH)(h:PH)(K:CV->MH->PH->Prop):Prop:=
  ∃(y:QV),aI m h bq 0 y.enc/\uY (λv q=>bK (λd l1=>∃(k:Nat)(e x:List (Nat×QV))(J:Nat->MH->PH->Prop),aA (vK y 1 l=vK v (↑d:Int) l1) (u4 h q v d e) (aA (uU q N) (d+AZ q<=8000000) (aA (IP (λj e1=>AK e j e1->AK x (k+j) e1)) (J k m h) (IP (λk1 e1=>oS (λm1 h1=>p9 (AK x k1 e1) h h1 (J k1 m1 h1) (ZL Proofs.Tryz.prog l1 (lP (cJ (↑e1.1:Int)) (Value.agg (Array.mk e1.2.enc))) m1 h1 (fun(r:Bool)=>fun(m2:MH)=>fun(h2:PH)=>aA (lN r) (PH.le h1 h2) (J (k1+1) m2 h2)))))/\oS (λm1 h1=>dZ h h1 (J (k+e.length) m1 h1) (K uX m1 h1)))))))
def Jj(v:QV)(m:MH)(h:PH)(K:CV->MH->PH->Prop):Prop:=
  gA (λb m1=>bY m h b->bG m m1 b fE 31->∃(v1:QV),eV (cW v) (cW v1)/\∀(b1:Nat)(h1:PH),dZ h h1 (bF h1 b1 0 v1.enc) (∃(S:PH->List Value->List (List Value)->Prop)(x:List (Int×QV))(I:Nat->MH->PH->Prop),aA (D3 Proofs.Tryz.prog 147 S) (S h1 (l9 (U8 b1 0)) (List.map (fun(x1:Int×QV)=>lP (cJ x1.1) (Value.agg (Array.mk x1.2.enc))) x)) (aA (I 0 m1 h1) (∀(k:Nat)(e:Int)(e1:QV),oS (λm2 h2=>p9 (x[k]? =Option.some (e,e1)) h1 h2 (I k m2 h2) (Co m2 h2 zV 68 21 (λc=>aJ (cJ e1.op) (cX e1) (aJ (dC e1) (cJ (dE e1)) (aJ (dR (dM e1)) (wF (dM e1)) (aJ (cJ (lO (dM e1))) (qH (dM e1)) (aJ (iI (dM e1)) (dR (j7 e1)) (aJ (wF (j7 e1)) (cJ (lO (j7 e1))) (aJ (qH (j7 e1)) (iI (j7 e1)) (aJ (oR e1)
 (oW e1) (aJ (bV e1.on) (oU e1) (aJ (oV e1) (cJ e1.limit) (gN (rI e1) 21 c))))))))))) (λb2 m3=>tL m3 h2 b2 0 (λy=>bQ y 1 (gX m3 h2 b 0 (λy1=>∃(y2:Int),BE m3 h2 b2 1 (bR y2) (λx1=>aA (cD m3 (cV y1) 3 1 x1) (dD (x1.length+1) 8) (eF x1/\fP (λs m4=>eX m3 m4 (cV y1) s 3 1 (eR x1 (bR y2))->iE (λc E=>aA (wS m4 b (fN c E 0)) (0<c.size) (∀(m5:MH),bG m4 m5 b (gN (bV s) 1 c) E->I (k+1) m5 h2))))))) (I (k+1) m3 h2)))))) (oS (λm2 h2=>dZ h1 h2 (I x.length m2 h2) (gX m2 h2 b 0 (λy=>K (dG y) m2 h2)))))))
mutual
theorem u4.mono{h h':PH}(le:PH.le h h'):∀{q:Query}{v:QV}{d:Nat}{es:List (Nat×QV)},u4 h q v d es->u4 h' q v d es
 |.mk _ _ _ _ _ _ _ _ args,v,d,es,w=>by
  rw[u4]at w⊢
  obtain⟨vs,ess,h1,h2,h3⟩:=w;exact⟨vs,ess,h1.mono le,iM.mono le h2,h3⟩
theorem iM.mono{h h':PH}(le:PH.le h h'):∀{qs:List Query}{vs:List QV}{d:Nat}{es:List (Nat×QV)},iM h qs vs d es->iM h' qs vs d es
 |[],vs,d,es,w=>by rw[iM]at w⊢;exact w
 |q::qs,vs,d,es,w=>by
  rw[iM]at w⊢
  obtain⟨v,vs',e1,e2,h1,h2,h3,h4,h5⟩:=w;exact⟨v,vs',e1,e2,h1,h2.mono le,u4.mono le h3,iM.mono le h4,h5⟩
end
theorem iM.len{h:PH}:∀{qs:List Query}{vs:List QV}{d:Nat}{es:List (Nat×QV)},iM h qs vs d es->vs.length=qs.length
 |[],vs,d,es,w=>by rw[iM]at w;obtain⟨rfl,_⟩:=w;rfl
 |q::qs,vs,d,es,w=>by
  rw[iM]at w;obtain⟨v,vs',e1,e2,h1,h2,h3,h4,h5⟩:=w;rw[h1,List.length_cons,List.length_cons,iM.len h4]
mutual
theorem u4.of{h:PH}:∀{q:Query}{v:QV},fF h q v->∀d,∃es,u4 h q v d es
 |.mk _ _ _ _ _ _ _ _ args,v,hq,d=>by
  obtain⟨_,_,_,_,_,_,_,_,_,vs,h10,h11⟩:=hq;obtain⟨es,he⟩:=iM.of h11 (d+1);exact⟨(d,v)::es,by rw[u4];exact⟨vs,es,h10,he,rfl⟩⟩
theorem iM.of{h:PH}:∀{qs:List Query}{vs:List QV},uN h qs vs->∀d,∃es,iM h qs vs d es
 |[],vs,hq,d=>⟨[],by rw[iM];exact⟨hq,rfl⟩⟩
 |q::qs,vs,hq,d=>by
  obtain⟨v,vs',rfl,h1,h2⟩:=hq;obtain⟨e1,h3⟩:=u4.of h1 d;obtain⟨e2,h4⟩:=iM.of h2 d;exact⟨e1++e2,by rw[iM];exact⟨v,vs',e1,e2,rfl,h1,h3,h4,rfl⟩⟩
end
mutual
def iV:Query->List Int
 |.mk op ta _ _ _ _ _ _ args=>(if op=1 then[ta]else[])++gE args
def gE:List Query->List Int
 |[]=>[]
 |q::qs=>iV q++gE qs
end
def wB(es:List (Nat×QV)):List Int:=(es.filter λe=>e.2.op==1).map λe=>e.2.table
theorem FU{a b:List (Nat×QV)}:wB (a++b)=wB a++wB b:=by simp[wB]
mutual
theorem u4.scans{h:PH}:∀{q:Query}{v:QV}{d:Nat}{es:List (Nat×QV)},fF h q v->u4 h q v d es->wB es=iV q
 |.mk op ta _ _ _ _ _ _ args,v,d,es,hq,w=>by
  rw[u4]at w;obtain⟨vs,ess,h1,h2,rfl⟩:=w;obtain⟨h3,h4,_⟩:=hq;rw[iV, <-iM.scans h2,show((d,v)::ess)=[(d,v)]++ess from rfl,FU];congr 1;simp only[wB,List.filter_cons,List.filter_nil,h3];by_cases e:op=1
  .simp[e,h4]
  .simp[e]
theorem iM.scans{h:PH}:∀{qs:List Query}{vs:List QV}{d:Nat}{es:List (Nat×QV)},iM h qs vs d es->wB es=gE qs
 |[],vs,d,es,w=>by rw[iM]at w;rw[w.2];rfl
 |q::qs,vs,d,es,w=>by
  rw[iM]at w;obtain⟨v,vs',e1,e2,h1,h2,h3,h4,rfl⟩:=w;rw[FU,gE,u4.scans h2 h3,iM.scans h4]
end
mutual
theorem u4.small{h:PH}:∀{q:Query}{v:QV}{d:Nat}{es:List (Nat×QV)},u4 h q v d es->es.length<=AZ q
 |.mk op ta _ _ _ _ _ _ args,v,d,es,w=>by
  rw[u4]at w;obtain⟨vs,ess,h1,h2,rfl⟩:=w;have:=iM.small h2;simp only[List.length_cons,AZ];omega
theorem iM.small{h:PH}:∀{qs:List Query}{vs:List QV}{d:Nat}{es:List (Nat×QV)},iM h qs vs d es->es.length<=wO qs
 |[],vs,d,es,w=>by rw[iM]at w;rw[w.2];simp
 |q::qs,vs,d,es,w=>by
  rw[iM]at w;obtain⟨v,vs',e1,e2,h1,h2,h3,h4,rfl⟩:=w;have h5:=u4.small h3;have h6:=iM.small h4;simp only[List.length_append,wO];omega
end
theorem YC:∀q:Query,1<=AZ q
 |.mk _ _ _ _ _ _ _ _ _=>by rw[AZ];omega
theorem SB:∀l:List Query,l.length<=wO l
 |[]=>by simp
 |a::l=>by have:=SB l;have:=YC a;simp only[List.length_cons,wO];omega
theorem S5:∀{l:List Query}{a:Query},a∈l->AZ a<=wO l
 |b::l,a,h=>by
  rw[wO];rcases List.mem_cons.1 h with rfl|h
  .omega
  .have:=S5 h;omega
theorem LD:∀N,Sound Tryz.prog 148 (Nz N)
 |0=>by
  refine fU (fn:=Tryz.f148) (c:=bU Tryz.f148) Tryz.func148 rfl (by decide) ?_;rintro cvs m h K ⟨v,q,d,l,k0,es,xs,J,rfl,_,hN,_⟩;omega
 |N+1=>by
  refine jK Tryz.func148 ?_;rintro cvs m h K ⟨v,q,d,l,k0,es,xs,J,rfl,hw,hN,hd,hx,h0,hround,hend⟩;refine⟨UE N v d l,rfl,aD (LD N) aF,JB N v d l m h K,by kernel_rfl,?_⟩;dsimp only[JB,push_cast];obtain⟨op,ta,w,co,on,gr,od,li,args⟩:=q;rw[u4]at hw;obtain⟨vs,ess,hrow,hws,rfl⟩:=hw;simp only[Query.mk.sizeOf_spec]at hN;rw[AZ]at hd;have hvl:=hws.len;have hal:=hrow.len;have hls:=SB args;rw[List.length_map]at hal;refine⟨Ib _,l,YB (d,v),_,rfl,hround k0 (d,v) m h (hx 0 _ rfl) (.refl _) h0,?_⟩;rintro u m' h' ⟨rfl,le',hJ⟩;refine aB (λe=>by cases e) (λ_=>?_);refine⟨λz=>z.1<=args.length/\PH.le h z.2.2/\∃e1 e2,ess=e1++e2/\iM z.2.2 (args.drop z.1) (vs.drop z.1) (d+1) e2/\J (k0+1+e1.length) z.2.1 z.2.2,λz=>args.length-z.1,⟨(0,m',h'),⟨by simp,le',[],ess,rfl,hws.mono le',hJ⟩,MT⟩,?_⟩;rintro⟨i,mz,hz⟩ ⟨hi,lez,e1,e2,hes,hwz,hJz⟩;dsimp only at hi lez hwz hJz⊢
  refine aE (λhlt=>?_) (λhge=>?_)
  .have hil:i<args.length:=by omega
   rw[List.drop_eq_getElem_cons hil,iM]at hwz;obtain⟨v1,vs',e11,e22,hvd,hq1,hw1,hws1,rfl⟩:=hwz
   have hvi:vs[i]? =some v1:=by
    have:(vs.drop i)[0]? =some v1:=by rw[hvd];rfl
    simpa using this
   have hvd':vs'=vs.drop (i+1):=by
    have:(vs.drop i).drop 1=vs':=by rw[hvd];rfl
    rw[<-this,List.drop_drop]
   obtain⟨b,o,ea,rd⟩:=hrow.get (i:=i) (e:=v1.enc) (by rw[List.getElem?_map,hvi];rfl);have hsz:=List.sizeOf_lt_of_mem (List.getElem_mem hil);have hcn:=S5 (List.getElem_mem hil);refine⟨b,o,ea,aC,aC,v1,.imm (rd.mono lez),v1,args[i],d+1,l,k0+1+e1.length,e11,xs,J,by rw[j5 aC],hw1,aC,aC,λj e hj=>?_,hJz,λk e m2 h2 hk le2 hJ2=>hround k e m2 h2 hk (lez.trans le2) hJ2,λm2 h2 le2 hJ2=>⟨(i+1,m2,h2),⟨by dsimp only;omega,lez.trans le2,e1++e11,e22,by rw[hes,List.append_assoc],?_,?_⟩,by dsimp only;omega,?_⟩⟩
   .have h5:=(List.getElem?_eq_some_iff.1 hj).1
    have:=hx (1+e1.length+j) e (by
     rw[hes,show 1+e1.length+j=(e1.length+j)+1 by omega,List.getElem?_cons_succ,List.getElem?_append_right aC,show e1.length+j-e1.length=j by omega,List.getElem?_append_left h5];exact hj)
    rw[show k0+1+e1.length+j=k0+(1+e1.length+j)by omega];exact this
   .dsimp only;rw[<-hvd'];exact hws1.mono le2
   .dsimp only;rw[List.length_append,show k0+1+(e1.length+e11.length)=k0+1+e1.length+e11.length by omega];exact hJ2
   .dsimp only;rw[j5 aC];exact MT
  .have:i=args.length:=by omega
   subst this;rw[List.drop_of_length_le (Nat.le_refl _),iM]at hwz;obtain⟨_,rfl⟩:=hwz;rw[List.append_nil]at hes;subst hes;exact hend mz hz lez (by rw[List.length_cons,show k0+(ess.length+1)=k0+1+ess.length by omega];exact hJz)
theorem Pw:Sound Tryz.prog 147 (W8 Tryz.prog Ny):=by
 refine jK Tryz.func147 ?_;rintro cvs m h K ⟨l,caps,xs,J,rfl,⟨b,v,q,es,rfl,hb,hw,hs,rfl⟩,h0,hround,hend⟩;refine⟨dL [(148,Nz (SizeOf.sizeOf q+1))] [] [] [] false,rfl,aD (LD _) aF,RD (SizeOf.sizeOf q+1) l b m h K,by kernel_rfl,?_⟩;exact⟨v,.imm hb,v,q,1,l,0,es,es,J,rfl,hw,aC,aC,λj e hj=>by rw[Nat.zero_add];exact hj,h0,λk e m' h' hk le hJ=>hround k (YB e) m' h' (by rw[List.getElem?_map,hk];rfl) le hJ,λm' h' le hJ=>hend _ m' h' le (by rw[List.length_map];rw[Nat.zero_add]at hJ;exact hJ)⟩
theorem XE:D3 Tryz.prog 147 Ny:=⟨Pw⟩
theorem PD:Sound Tryz.prog 111 S8:=by
 refine VP Tryz.func111 ?_;rintro cvs m h K ⟨v,rfl,hK⟩;refine⟨dL [] [] [] [] false,rfl,aF,Gz v m h (cH h K),by kernel_rfl,?_⟩;dsimp only[Gz,push_cast];intro b m' hun hu _;have sub:Sub m m':=(gJ (Sub.refl m) hun hu).1;refine⟨m,wV h b (QV.enc v),sub,xZ hun.h_,λb' i v' e=>?_,hK b _ (xZ hun.h_) SH⟩;by_cases hb:b'=b
 .subst hb;simp only[wV,if_true]at e;exact .inr ⟨_,_,_,hu.at_,by rw[<-Array.getElem?_toList];exact e,hun.m_⟩
 .simp only[wV,if_neg hb]at e;exact .inl e
structure UW(T E:TypeId)(m mx:MH)(b:Nat)(vs:List Value):Prop where
 ex:∃s:Sl,mx b=some (.cells #[.slice s.a s.len s.cap] T (0,0))/\cD mx s E 1 (vs.map λv=>[v])/\∀i x,s.a=some ⟨x,i,none⟩->m x=none
theorem UW.new{T E:TypeId}(hb:m' b=some (.cells #[nV] T (0,0))):UW T E m m' b []:=⟨⟨none,0,0⟩,hb,⟨⟨λe he=>by simp at he,λe he=>by simp at he⟩,.inl ⟨rfl,rfl⟩⟩,λi x e=>by cases e⟩
theorem Vt{T E:TypeId}{mx:MH}{s:Sl}{vs:List Value}{e:Value}{Q:MH->Prop}(hmb:∃o,m b=some o)(hs:A2 m mx b)(hb:mx b=some (.cells #[.slice s.a s.len s.cap] T (0,0)))(hrow:cD mx s E 1 (vs.map λv=>[v]))(hfr:∀i x,s.a=some ⟨x,i,none⟩->m x=none)(hQ:∀m',A2 m m' b->UW T E m m' b (vs++[e])->Q m'):
 ∀(s':Sl)(m':MH),eX mx m' (Sl.mk s.a s.len s.cap) s' E 1 ((vs.map λv=>[v])++[[e]])->
  ∃(cs:Array Value)(E:TypeId),wS m' b (.cells cs E (0,0))/\0<cs.size/\∀m2:MH,eW m' m2 b (.cells (Array.mk (bV s'::cs.toList.drop 1)) E (0,0))->Q m2:=by
 obtain⟨ob,hmb⟩:=hmb;have hnb:∀i,s.a≠some ⟨b,i,none⟩:=λi e2=>by rw[hfr i b e2]at hmb;cases hmb
 refineλs' m' hg=>⟨_,_,⟨hg.other b _ hb hnb⟩,by simp,λm2 hu=>hQ m2 ?_ ⟨s',hu.at_,?_,?_⟩⟩
 .intro x o hx hne;rw[hu.other x hne];exact hg.other x o (hs x o hx hne) (λi e2=>by have e2:s.a=some ⟨x,i,none⟩:=e2;rw[hfr i x e2]at hx;cases hx)
 .have e1:(vs++[e]).map (λv=>[v])=vs.map (λv=>[v])++[[e]]:=by simp
  rw[e1];refine cD.keep hg.row (λx i e2=>hu.other x (λe3=>?_));subst e3;rcases hg.fresh x i e2 with h1|⟨j,h1⟩
  .rw[hb]at h1;cases h1
  .exact hnb j h1
 .intro i x e2;rcases hg.fresh x i e2 with h1|⟨j,h1⟩
  .cases e4:m x with
   |none=>rfl
   |some o=>
    by_cases e5:x=b
    .subst e5;rw[hb]at h1;cases h1
    .rw[hs x o e4 e5]at h1;cases h1
  .exact hfr j x h1
theorem cH.rowG{E:TypeId}{hx:PH}{s:Sl}{vs:List Value}(sub:Sub m m')(le:PH.le h hx)(hr:cD m' s E 1 (vs.map λv=>[v]))(hf:∀i b,s.a=some ⟨b,i,none⟩->m b=none)(hK:∀h',PH.le hx h'->bH h' s 1 (vs.map λv=>[v])->K (cS s) m h'):cH h K (cS s) m' hx:=by
 intro hd;rcases hr.ex with⟨rfl,hx0⟩|⟨b,cap,cur,rfl,hm,h1,h2,h3,h4⟩
 .refine⟨m,hx,sub,le,λb i v e=>.inl e,hK hx (.refl _) ?_⟩;rw[hx0];exact bH.nil _ _
 .have hn:∀i,hx b i=none:=hd b _ hm;refine⟨m,wV hx b cur.toList,sub,le.trans (xZ hn),λb' i v e=>?_,hK _ (xZ hn) ⟨?_,?_,?_⟩⟩
  .by_cases hb:b'=b
   .subst hb;simp only[wV,if_true]at e;exact .inr ⟨cur,E,(0,0),hm,by rw[<-Array.getElem?_toList];exact e,hf 0 b' rfl⟩
   .simp only[wV,if_neg hb]at e;exact .inl e
  .simp
  .by_cases hu:vs.map (λv=>[v])=[]
   .exact .inl hu
   .refine .inr ⟨b,0,rfl,λi e hi=>⟨λj v hv=>?_⟩⟩;rw[List.getElem?_map]at hi;cases hu2:vs[i]? with
    |none=>rw[hu2]at hi;cases hi
    |some u=>
     rw[hu2]at hi;simp at hi;subst hi;have hj:j=0:=by have:=(List.getElem?_eq_some_iff.1 hv).1;simp at this;omega
     subst hj;have hv:u=v:=by simpa using hv
     subst hv;have hlt:=(List.getElem?_eq_some_iff.1 hu2).1
     have hfl:∀l:List Value,(l.map λv=>[v]).flatten=l:=λl=>by
      induction l with
      |nil=>rfl
      |cons a l ih=>simp only[List.map_cons,List.flatten_cons,ih];rfl
     rw[hfl]at h4;rw[<-h4,List.getElem?_take,List.length_map,if_pos aC]at hu2;simp only[wV,if_true];rw[show 0+i*1+0=i by omega];exact hu2
  .simpa using h1
def WY:Vc.Spec:=λcvs m h K=>∃v q,cvs=[aQ v]/\fF h q v/\AZ q<=900000/\∀s' h',PH.le h h'->Ints h' s' (iV q)->K (cS s') m h'
theorem TY:Sound Tryz.prog 81 WY:=by
 refine Fg Tryz.func81 ?_;rintro cvs m h K ⟨v,q,rfl,hq,hs,hK⟩;refine⟨{sY [(111,S8)] [] [] [] [200003,200005,1031,0] [] false with elemT:=[3,68]},rfl,aD PD aF,Jj v m h (cH h K),by kernel_rfl,?_⟩;show Jj v m h (cH h K);dsimp only[Jj,push_cast];intro b m1 hb1 hu1;obtain⟨s1,n1⟩:=gJ (Sub.refl m) hb1 hu1;refine⟨v,rfl,λbw h1 le1 hbw=>?_⟩;obtain⟨es,hw⟩:=u4.of (hq.mono le1) 1;have hes:=hw.small;have hsc:=u4.scans (hq.mono le1) hw;refine⟨Ny,es.map λe=>((e.1:Int),e.2),λk mx hx=>hx=h1/\A2 m1 mx b/\UW 31 3 m1 mx b ((wB (es.take k)).map λn=>.int .i64 n),XE,⟨bw,v,q,es,rfl,hbw,hw,hs,?_⟩,⟨rfl,λx o e _=>e,UW.new hu1.at_⟩,?_,?_⟩
 .rw[List.map_map];rfl
 .rintro k d e' mx hx hk-⟨rfl,hsx,hout⟩ b2 m2 hb2 hu2;rw[List.getElem?_map]at hk;cases hek:es[k]? with
  |none=>rw[hek]at hk;cases hk
  |some e=>
   rw[hek]at hk;simp only[Option.map_some,Option.some.injEq,Prod.mk.injEq]at hk;obtain⟨rfl,rfl⟩:=hk;refine⟨_,_,⟨hu2.at_⟩,by simp,λm3 hu3=>?_⟩
   have up:∀{z o},mx z=some o->m3 z=some o/\z≠b2:=fun{z o} e2=>by
    have:z≠b2:=λe3=>by rw[e3,hb2.m_]at e2;cases e2
    exact⟨by rw[hu3.other z this,hu2.other z this];exact e2,this⟩
   have m3b:m3 b2=some (.cells ⟨e.2.enc⟩ 68 (0,0)):=hu3.at_;have hs3:A2 m1 m3 b:=λx o e2 hne=>(up (hsx x o e2 hne)).1
   have hout3:UW 31 3 m1 m3 b ((wB (es.take k)).map λn=>.int .i64 n):=by
    obtain⟨s,h5,h6,h7⟩:=hout.ex;refine⟨s,(up h5).1,cD.keep h6 λz i e3=>?_,h7⟩;obtain⟨cur,h8⟩:=h6.blk e3;rw[h8];exact(up h8).1
   have hsn:wB (es.take (k+1))=wB (es.take k)++(if e.2.op==1 then[e.2.table]else[]):=by
    rw[List.take_add_one,hek,Option.toList_some,FU];congr 1;simp only[wB,List.filter_cons,List.filter_nil];split<;>rfl
   refine⟨e.2.op,.of_m m3b rfl,aB (λh5=>?_) (λh5=>⟨rfl,hs3,by rw[hsn,h5];simpa using hout3⟩)⟩;obtain⟨s,hb5,hrow,hfr⟩:=hout3.ex
   have hlen:(wB (es.take k)).length<=es.length:=by
    simp only[wB,List.length_map];exact Nat.le_trans (List.length_filter_le _ _) (by rw[List.length_take];omega)
   refine⟨s,.of_m hb5 rfl,e.2.table,.of_m m3b rfl,_,hrow,by simp;omega,by simp;omega,Vt ⟨_,hu1.at_⟩ hs3 hb5 hrow hfr λm' hs' ho'=>⟨rfl,hs',?_⟩⟩;rw[hsn,h5];simpa using ho'
 .rintro mx hx-⟨rfl,hsx,hout⟩
  rw[List.length_map,List.take_length,hsc]at hout;obtain⟨s,hb5,hrow,hfr⟩:=hout.ex
  have hlen:(iV q).length<=es.length:=by
   rw[<-hsc];simp only[wB,List.length_map];exact List.length_filter_le _ _
  refine⟨s,.of_m hb5 rfl,cH.rowG (s1.x n1 hsx) le1 hrow (λj z e=>?_) (λh' le hri=>hK s h' (le1.trans le) ⟨by rw[List.map_map]at hri;exact hri,aC⟩)⟩;cases e2:m z with
  |none=>rfl
  |some o=>have e1:=hfr j z e;rw[s1 z o e2]at e1;cases e1
structure B6(s:jR)(c:Nat)(ls:List (List (List VV)))(k:Nat)(ts:List Int):Prop where
 at_:∀(j:Nat)(t:Int),ts[j]? =some t->∃l,ls[k+j]? =some l/\gH (iB s t).length l/\l.length<=c
theorem B6.left{c:Nat}{ls:List (List (List VV))}{b:List Int}(x:B6 s c ls k (a++b)):B6 s c ls k a:=
 ⟨λj t h=>x.at_ j t (by rw[List.getElem?_append_left (List.getElem?_eq_some_iff.1 h).1];exact h)⟩
theorem B6.right{c:Nat}{ls:List (List (List VV))}{b:List Int}(x:B6 s c ls k (a++b)):B6 s c ls (k+a.length) b:=
 ⟨λj t h=>by
  have:=x.at_ (a.length+j) t (by rw[List.getElem?_append_right aC,Nat.add_sub_cancel_left];exact h)
  rwa [show k+a.length+j=k+(a.length+j)by omega]⟩
theorem AS{op:Int}{args:List Query}{ks:List Int}(h:cR s ps (.mk op ta w co on gr od li args)=(ks,0)):
 ∃kss,fM s ps args=(kss,0)/\(kss.length:Int)=arity op/\kW s ps (.mk op ta w co on gr od li args) (kss.getD 0 []) (kss.getD 1 [])=(ks,0):=by
 rw[cR]at h;generalize fM s ps args=r at h;obtain⟨kss,e⟩:=r;dsimp only at h;split at h
 .rename_i e0;subst e0;split at h
  .rename_i h1;exact⟨kss,rfl,h1,h⟩
  .simp[kC]at h
 .rename_i e0;simp only[kC,Prod.mk.injEq]at h;exact absurd h.2 e0
theorem kF{qs:List Query}{kss:List (List Int)}(h:fM s ps (q::qs)=(kss,0)):∃k kss',cR s ps q=(k,0)/\fM s ps qs=(kss',0)/\kss=k::kss':=by
 rw[fM]at h;generalize cR s ps q=r at h;obtain⟨k,e⟩:=r;generalize fM s ps qs=r at h;obtain⟨ks,e'⟩:=r;dsimp only at h;split at h
 .rename_i e0;split at h
  .rename_i e1;simp only[Prod.mk.injEq,and_true]at h;exact⟨k,ks,by rw[e0],by rw[e1],h.symm⟩
  .rename_i e1;simp only[Prod.mk.injEq]at h;exact absurd h.2 e1
 .rename_i e0;simp only[Prod.mk.injEq]at h;exact absurd h.2 e0
theorem pB{ks:List Int}(h:zC l=(ks,0)):ks=l/\l.length<=12:=by
 unfold zC at h;split at h
 .rename_i h1;simp only[Prod.mk.injEq,and_true]at h;exact⟨h.symm,h1⟩
 .simp at h
theorem R3{op:Int}(h:arity op=0):op=1:=by
 unfold arity at h;split at h
 .rename_i e;simpa using e
 .split at h
  .omega
  .split at h<;>omega
mutual
theorem PQ{s:jR}{ps:List Int}{c:Nat}(hc:1<=c):∀{q:Query}{ks:List Int},cR s ps q=(ks,0)->1<=qK c q
 |.mk op ta w co on gr od li args,ks,h=>by
  obtain⟨kss,h1,h2,h3⟩:=AS h;have h4:=R4 hc h1;rw[qK];split
  .exact hc
  .rename_i n1;split
   .exact h4.1
   .match args,h1,h4 with
    |[],h1,_=>rw[fM]at h1;simp only[Prod.mk.injEq,and_true]at h1;rw[<-h1]at h2;exact absurd (R3 h2.symm) n1
    |q::qs,h1,h4=>exact h4.2 (by simp)
theorem R4{s:jR}{ps:List Int}{c:Nat}(hc:1<=c):∀{qs:List Query}{kss:List (List Int)},fM s ps qs=(kss,0)->1<=Aa c qs/\(qs≠[]->1<=Dm c qs)
 |[],kss,h=>by simp[Aa]
 |q::qs,kss,h=>by
  obtain⟨k,kss',h1,h2,h3⟩:=kF h;have h4:=PQ hc h1;have h5:=R4 hc h2;rw[Aa,Dm];exact⟨Nat.mul_pos h4 h5.1,λ_=>by omega⟩
end
def Mo(c:Nat):List Query->List (List Int)->List (List (List VV))->Prop
 |[],[],[]=>True
 |q::qs,k::ks,l::ls=>gH k.length l/\l.length<=qK c q/\Mo c qs ks ls
 |_,_,_=>False
theorem M4{α:Type}:∀{l:List α},l.length=2->∃a b,l=[a,b]
 |[a,b],_=>⟨a,b,rfl⟩
theorem Mo.len{c:Nat}{qs:List Query}{ls:List (List (List VV))}(h:Mo c qs ks ls):qs.length=ks.length/\ls.length=ks.length:=by
 induction qs generalizing ks ls with
 |nil=>
  match ks,ls,h with
  |[],[],_=>exact⟨rfl,rfl⟩
  |_::_,[],h=>exact h.elim
  |[],_::_,h=>exact h.elim
  |_::_,_::_,h=>exact h.elim
 |cons q qs ih=>
  match ks,ls,h with
  |[],[],h=>exact h.elim
  |_::_,[],h=>exact h.elim
  |[],_::_,h=>exact h.elim
  |k::ks,l::ls,h=>
   obtain⟨h1,h2⟩:=ih h.2.2;exact⟨by simp[h1],by simp[h2]⟩
theorem gH.filter{w:Nat}{l:List (List VV)}(x:gH w l)(p:List VV->Bool):gH w (l.filter p):=
 ⟨λr h=>x.row r (List.mem_filter.1 h).1,λr h=>x.wid r (List.mem_filter.1 h).1,x.srt.filter p,Nat.le_trans (List.length_filter_le _ _) x.len⟩
theorem OQ(x:List VV):∀l:List (List VV),(F7 x l).length<=l.length+1
 |[]=>by simp[F7]
 |y::l=>by
  have:=OQ x l;simp only[F7];split
  .simp
  .split<;>simp<;>omega
theorem Eh:∀l:List (List VV),(yI l).length<=l.length
 |[]=>by simp[yI]
 |x::l=>by
  have h1:=Eh l;have h2:=OQ x (yI l);show(F7 x (yI l)).length<=(x::l).length;simp only[List.length_cons];omega
theorem gH.set{w:Nat}{l:List (List VV)}(h1:∀r∈l,NQ r)(h2:∀r∈l,r.length=w)(h3:l.length<=8000000):gH w (yI l):=
 ⟨λr h=>h1 r (y9.1 h),λr h=>h2 r (y9.1 h),Bm l,Nat.le_trans (Eh l) h3⟩
theorem Fy:∀{x y u v:List VV},x.length=y.length->cL (x++u) (y++v)=if cL x y≠0 then cL x y else cL u v
 |[],[],u,v,_=>by simp[cL]
 |a::x,b::y,u,v,h=>by
  simp only[List.length_cons,Nat.add_right_cancel_iff]at h;simp only[List.cons_append,cL];by_cases e:j4 a b=0
  .simp only[e,ne_eq,not_true_eq_false,if_false];exact Fy h
  .simp[e]
 |[],_::_,_,_,h=>by simp at h
 |_::_,[],_,_,h=>by simp at h
theorem xX{b:List (List VV)}{x z:List VV}(h:z∈mE on b x):∃y∈b,z=x++y:=by
 unfold mE at h;split at h
 .obtain⟨y,hy,rfl⟩:=List.mem_map.1 h;exact⟨y,(List.mem_filter.1 hy).1,rfl⟩
 .simp at h
theorem gH.join{w w':Nat}{a b:List (List VV)}(ha:gH w a)(hb:gH w' b)(hw:w+w'<=12)(hl:a.length*b.length<=8000000):gH (w+w') (a.flatMap (mE on b)):=by
 refine⟨λr h=>?_,λr h=>?_,?_,Nat.le_trans (uI λx _=>xY) hl⟩
 .obtain⟨x,hx,h⟩:=List.mem_flatMap.1 h;obtain⟨y,hy,rfl⟩:=xX h;have h1:=ha.wid x hx;have h2:=hb.wid y hy;refine⟨by rw[List.length_append];omega,λv hv=>?_⟩;rcases List.mem_append.1 hv with hv|hv
  .exact(ha.row x hx).val v hv
  .exact(hb.row y hy).val v hv
 .obtain⟨x,hx,h⟩:=List.mem_flatMap.1 h;obtain⟨y,hy,rfl⟩:=xX h;rw[List.length_append,ha.wid x hx,hb.wid y hy]
 .refine List.pairwise_flatMap.2 ⟨λx hx=>?_,?_⟩
  .unfold mE;split
   .refine List.pairwise_map.2 ((hb.srt.filter _).imp fun{y z} h=>?_);rw[Fy rfl,if_neg (by rw[gR.2 rfl];simp)];exact h
   .exact List.Pairwise.nil
  .refine ha.srt.imp_of_mem fun{x y} hx hy h z hz u hu=>?_;obtain⟨z',_,rfl⟩:=xX hz;obtain⟨u',_,rfl⟩:=xX hu;rw[Fy (by rw[ha.wid x hx,ha.wid y hy]),if_pos aC];exact h
theorem Na{c:Int}(h:SG a c=true):0<=c/\c<a.length:=by
 simp only[SG,Bool.and_eq_true,decide_eq_true_eq]at h;exact h
theorem Ff{α:Type}{T:List α->α->Prop}{l:List α}(h:Good T l){x:α}(hx:x∈l):∃pre,T pre x:=by
 obtain⟨i,hi,e⟩:=List.mem_iff_getElem.1 hx;exact⟨_,h i x (by rw[<-e];exact List.getElem?_eq_getElem hi)⟩
theorem Ev:∀(n:Nat)(l:List Int),l.Nodup->(∀x∈l,0<=x/\x<n)->l.length<=n
 |0,[],_,_=>by simp
 |0,x::l,_,h=>by have:=h x (List.mem_cons_self ..);omega
 |n+1,l,hd,h=>by
  by_cases hn:(n:Int)∈l
  .have h1:=Ev n (l.erase n) (hd.erase _) (λx hx=>by
    have h2:=(hd.mem_erase_iff).1 hx;have:=h x h2.2;omega)
   rw[List.length_erase_of_mem hn]at h1;omega
  .have:=Ev n l hd (λx hx=>by
    have:=h x hx;have h3:x≠(n:Int):=λe=>hn (e▸hx);omega)
   omega
theorem Jg{α:Type}{T:List α->α->Prop}{l:List α}(f:α->Int)(hT:∀pre x,T pre x->f x∉pre.map f)(h:Good T l):(l.map f).Nodup:=by
 rw[List.nodup_iff_pairwise_ne,List.pairwise_map,List.pairwise_iff_getElem];intro i j hi hj hij e;refine hT _ _ (h j l[j] (List.getElem?_eq_getElem hj)) (List.mem_map.2 ⟨l[i],?_,e⟩);rw[List.mem_take_iff_getElem];exact⟨i,aC,rfl⟩
theorem Jf(h:Good (J7 a) gr)(hl:a.length<=12):fQ a.length gr:=by
 have h1:∀c∈gr,0<=c/\c<a.length:=λc hc=>by obtain⟨_,h2⟩:=Ff h hc;exact Na h2.1
 have h2:=Jg id (λpre x(h:J7 a pre x)=>by simpa using h.2) h;rw[List.map_id]at h2;exact⟨h1,by have:=Ev _ _ h2 h1;omega⟩
theorem KI{b:List Int}(h:Good (Ho a b) on)(ha:a.length<=12)(hb:b.length<=12):fQ a.length (jM on)/\fQ b.length (fI on):=by
 have h1:∀c∈jM on,0<=c/\c<a.length:=λc hc=>by
  obtain⟨p,hp,rfl⟩:=List.mem_map.1 hc;obtain⟨_,h2⟩:=Ff h hp;exact Na h2.1
 have h2:∀c∈fI on,0<=c/\c<b.length:=λc hc=>by
  obtain⟨p,hp,rfl⟩:=List.mem_map.1 hc;obtain⟨_,h2⟩:=Ff h hp;exact Na h2.2.1
 have h3:(jM on).Nodup:=Jg Prod.fst (λpre x(h:Ho a b pre x) hm=>by
  obtain⟨y,hy,e⟩:=List.mem_map.1 hm;exact(h.2.2.2 y hy).1 e) h
 have h4:=Ev _ _ h3 h1;exact⟨⟨h1,aC⟩,⟨h2,by simp only[jM,fI,List.length_map]at h4⊢;omega⟩⟩
theorem Ow{w:Nat}{r:List VV}(hr:NQ r)(hw:r.length=w)(hc:fQ w co)(hl:co.length<=12):NQ (pick r co)/\(pick r co).length=co.length:=
 ⟨⟨by simpa[pick]using hl,Es hr (by rw[hw];exact hc)⟩,by simp[pick]⟩
theorem Ec{c:Nat}{p:Query}:Dm c [q,p]=qK c q+qK c p:=by simp[Dm]
theorem MD{c:Nat}:Dm c [q]=qK c q:=by simp[Dm]
theorem Vm{c:Nat}{p:Query}:Aa c [q,p]=qK c q*qK c p:=by simp[Aa]
theorem XB{c:Nat}{op:Int}{args:List Query}{ks:List Int}{kss:List (List Int)}{L:List (List (List VV))}(n1:op≠1)
 (h2:(kss.length:Int)=arity op)(h12:∀k∈kss,k.length<=12)(h3:kW s ps (.mk op ta w co on gr od li args) (kss.getD 0 []) (kss.getD 1 [])=(ks,0))(hA:Mo c args kss L)(hb:qK c (.mk op ta w co on gr od li args)<=8000000):
 Zu op (.mk op ta w co on gr od li args) L/\gH ks.length (Vv op (.mk op ta w co on gr od li args) L)/\(Vv op (.mk op ta w co on gr od li args) L).length<=qK c (.mk op ta w co on gr od li args):=by
 rw[qK,if_neg n1]at hb⊢
 unfold kW at h3;dsimp only at h3;split at h3
 .simp[kC]at h3
 have one:arity op=1->∃q k l,args=[q]/\kss=[k]/\L=[l]/\gH k.length l/\l.length<=qK c q/\k.length<=12:=λe=>by
  obtain⟨l1,l2⟩:=hA.len;obtain⟨k,rfl⟩:=List.length_eq_one_iff.1 (show kss.length=1 by omega);obtain⟨q,rfl⟩:=List.length_eq_one_iff.1 (show args.length=1 by simpa using l1);obtain⟨l,rfl⟩:=List.length_eq_one_iff.1 (show L.length=1 by simpa using l2);exact⟨q,k,l,rfl,rfl,rfl,hA.1,hA.2.1,h12 k (by simp)⟩
 have two:arity op=2->∃q p k k' l l',args=[q,p]/\kss=[k,k']/\L=[l,l']/\gH k.length l/\l.length<=qK c q/\gH k'.length l'/\l'.length<=qK c p/\k.length<=12/\k'.length<=12:=λe=>by
  obtain⟨l1,l2⟩:=hA.len;obtain⟨k,k',rfl⟩:=M4 (show kss.length=2 by omega);obtain⟨q,p,rfl⟩:=M4 (show args.length=2 by simpa using l1);obtain⟨l,l',rfl⟩:=M4 (show L.length=2 by simpa using l2);exact⟨q,p,k,k',l,l',rfl,rfl,rfl,hA.1,hA.2.1,hA.2.2.1,hA.2.2.2.1,h12 k (by simp),h12 k' (by simp)⟩
 have ar:op=2\/op=3\/op=9\/op=4\/op=5\/op=6\/op=7\/op=8\/op=10:=by
  have:0<=arity op:=by omega
  unfold arity at this;split at this
  .rename_i e;simp at e;exact absurd e n1
  .split at this
   .rename_i e;simp at e;omega
   .split at this
    .rename_i e;simp at e;omega
    .omega
 rcases ar with rfl|rfl|rfl|rfl|rfl|rfl|rfl|rfl|rfl
 .obtain⟨q,k,l,rfl,rfl,rfl,hr,hl,hk⟩:=one rfl;simp only[show((2:Int)=4)=False by decide,if_false,if_true]at h3 hb⊢
  split at h3
  .obtain⟨rfl,_⟩:=pB h3;refine⟨⟨by simp,λx hx=>by simp at hx;subst hx;exact⟨_,hr⟩⟩,hr.filter _,Nat.le_trans (List.length_filter_le _ _) ?_⟩;rw[MD];exact hl
  .rename_i e;simp only[kC,Prod.mk.injEq]at h3;exact absurd h3.2 e
 .obtain⟨q,k,l,rfl,rfl,rfl,hr,hl,hk⟩:=one rfl;simp only[show((3:Int)=4)=False by decide,show((3:Int)=2)=False by decide,if_false,if_true]at h3 hb⊢
  split at h3
  .rename_i hg;obtain⟨rfl,h12'⟩:=pB h3;rw[List.length_map]at h12'⊢
   have hc:fQ k.length co:=⟨λc hc=>by obtain⟨_,h2⟩:=Ff hg.2 hc;exact Na h2,aC⟩
   rw[MD]at hb⊢
   refine⟨⟨by simp,h12',_,hr,hc⟩,gH.set (λr h=>?_) (λr h=>?_) (by show(l.map _).length<=_;rw[List.length_map];exact hr.len),Nat.le_trans (Eh _) (by show(l.map _).length<=_;rw[List.length_map];exact hl)⟩
   .obtain⟨x,hx,rfl⟩:=List.mem_map.1 h;exact(Ow (hr.row x hx) (hr.wid x hx) hc h12').1
   .obtain⟨x,hx,rfl⟩:=List.mem_map.1 h;exact(Ow (hr.row x hx) (hr.wid x hx) hc h12').2
  .simp[kC]at h3
 .obtain⟨q,k,l,rfl,rfl,rfl,hr,hl,hk⟩:=one rfl;simp only[show((9:Int)=4)=False by decide,show((9:Int)=2)=False by decide,show((9:Int)=3)=False by decide,show((9:Int)=5)=False by decide,if_false,if_true]at h3 hb⊢
  split at h3
  .rename_i hg;obtain⟨rfl,h12'⟩:=pB h3;rw[MD]at hb⊢
   exact⟨⟨by simp,⟨_,hr,Jf hg.group_ hk⟩,hg.low⟩,hr.filter _,Nat.le_trans (List.length_filter_le _ _) hl⟩
  .simp[kC]at h3
 .obtain⟨q,p,k,k',l,l',rfl,rfl,rfl,hr,hl,hr',hl',hk,hk'⟩:=two rfl;simp only[show((4:Int)=2)=False by decide,show((4:Int)=3)=False by decide,if_false,if_true]at h3 hb⊢
  split at h3
  .rename_i hg;obtain⟨rfl,h12'⟩:=pB h3;rw[Vm]at hb⊢
   have hc:=KI hg hk hk';have hm:l.length*l'.length<=qK c q*qK c p:=Nat.mul_le_mul hl hl';rw[List.length_append]at h12'⊢
   exact⟨⟨⟨by simp,_,_,hr,hr',hc.1,hc.2⟩,Nat.le_trans hm hb⟩,hr.join hr' h12' (Nat.le_trans hm hb),Nat.le_trans (uI λx _=>xY) hm⟩
  .simp[kC]at h3
 .obtain⟨q,p,k,k',l,l',rfl,rfl,rfl,hr,hl,hr',hl',hk,hk'⟩:=two rfl;simp only[show((5:Int)=2)=False by decide,show((5:Int)=3)=False by decide,show((5:Int)=4)=False by decide,if_false,if_true]at h3 hb⊢
  split at h3
  .rename_i hg;obtain⟨rfl,h12'⟩:=pB h3;rw[Ec]at hb⊢
   have hc:=KI hg hk hk';exact⟨⟨by simp,_,_,hr,hr',hc.1,hc.2⟩,hr.filter _,Nat.le_trans (List.length_filter_le _ _) (by show l.length<=_;omega)⟩
  .simp[kC]at h3
 all_goals
  obtain⟨q,p,k,k',l,l',rfl,rfl,rfl,hr,hl,hr',hl',hk,hk'⟩:=two rfl
 .simp only[show((6:Int)=2)=False by decide,show((6:Int)=3)=False by decide,show((6:Int)=4)=False by decide,show((6:Int)=5)=False by decide,show((6:Int)=9)=False by decide,show((6:Int)=10)=False by decide,if_false,if_true]at h3 hb⊢
  split at h3
  .rename_i hg;have hg:k=k':=hg;subst hg;obtain⟨rfl,h12'⟩:=pB h3;rw[Ec]at hb⊢
   have hll:(l++l').length<=qK c q+qK c p:=by rw[List.length_append];omega
   refine⟨⟨by simp,λx hx=>by simp at hx;rcases hx with rfl|rfl;exact⟨_,hr⟩;exact⟨_,hr'⟩⟩,gH.set (λr h=>?_) (λr h=>?_) (Nat.le_trans hll hb),Nat.le_trans (Eh _) hll⟩
   .rcases List.mem_append.1 h with h|h
    .exact hr.row r h
    .exact hr'.row r h
   .rcases List.mem_append.1 h with h|h
    .exact hr.wid r h
    .exact hr'.wid r h
  .simp[kC]at h3
 .simp only[show((7:Int)=2)=False by decide,show((7:Int)=3)=False by decide,show((7:Int)=4)=False by decide,show((7:Int)=5)=False by decide,show((7:Int)=9)=False by decide,show((7:Int)=10)=False by decide,if_false,if_true]at h3 hb⊢
  split at h3
  .rename_i hg;have hg:k=k':=hg;subst hg;obtain⟨rfl,h12'⟩:=pB h3;rw[Ec]at hb⊢
   exact⟨⟨by simp,_,λx hx=>by simp at hx;rcases hx with rfl|rfl;exact hr;exact hr'⟩,hr.filter _,Nat.le_trans (List.length_filter_le _ _) (by show l.length<=_;omega)⟩
  .simp[kC]at h3
 .simp only[show((8:Int)=2)=False by decide,show((8:Int)=3)=False by decide,show((8:Int)=4)=False by decide,show((8:Int)=5)=False by decide,show((8:Int)=9)=False by decide,show((8:Int)=10)=False by decide,if_false,if_true]at h3 hb⊢
  split at h3
  .rename_i hg;have hg:k=k':=hg;subst hg;obtain⟨rfl,h12'⟩:=pB h3;rw[Ec]at hb⊢
   exact⟨⟨by simp,_,λx hx=>by simp at hx;rcases hx with rfl|rfl;exact hr;exact hr'⟩,hr.filter _,Nat.le_trans (List.length_filter_le _ _) (by show l.length<=_;omega)⟩
  .simp[kC]at h3
 .simp only[show((10:Int)=2)=False by decide,show((10:Int)=3)=False by decide,show((10:Int)=4)=False by decide,show((10:Int)=5)=False by decide,show((10:Int)=9)=False by decide,if_false,if_true]at h3 hb⊢
  split at h3
  .rename_i hg;obtain⟨hg,hg2⟩:=hg;have hg:k=k':=hg;subst hg;obtain⟨rfl,h12'⟩:=pB h3;rw[Ec]at hb⊢
   exact⟨⟨by simp,_,hr,hr',Jf hg2.group_ hk⟩,hr.filter _,Nat.le_trans (List.length_filter_le _ _) (by show l.length<=_;omega)⟩
  .simp[kC]at h3
theorem PO{s:jR}{ps:List Int}{c:Nat}(hc:1<=c):∀{qs:List Query}{kss:List (List Int)},fM s ps qs=(kss,0)->∀q∈qs,qK c q<=Dm c qs/\qK c q<=Aa c qs
 |[],_,_,q,hq=>by simp at hq
 |p::qs,kss,h,q,hq=>by
  obtain⟨k,kss',h1,h2,h3⟩:=kF h;have h4:=PQ hc h1;have h5:=(R4 hc h2).1;rw[Dm,Aa];rcases List.mem_cons.1 hq with rfl|hq
  .exact⟨aC,Nat.le_mul_of_pos_right _ h5⟩
  .have:=PO hc h2 q hq;exact⟨aC,Nat.le_trans this.2 (Nat.le_mul_of_pos_left _ h4)⟩
theorem I9{s:jR}{ps:List Int}:∀{qs:List Query}{kss:List (List Int)},fM s ps qs=(kss,0)->∀k∈kss,k.length<=12
 |[],kss,h,k,hk=>by rw[fM]at h;simp only[Prod.mk.injEq,and_true]at h;subst h;simp at hk
 |q::qs,kss,h,k,hk=>by
  obtain⟨k',kss',h1,h2,rfl⟩:=kF h;rcases List.mem_cons.1 hk with rfl|hk
  .have:=Ja s ps q;rw[h1]at this;exact this
  .exact I9 h2 k hk
structure aeX(c:Nat)(ls:List (List (List VV)))(q:Query)(k:Nat)(ks:List Int):Prop where
 ok:TF ls q k
 rel:gH ks.length (iT ls q k).1
 bnd:(iT ls q k).1.length<=qK c q
 nxt:(iT ls q k).2=k+(iV q).length
mutual
theorem PE{s:jR}{ps:List Int}{c:Nat}{ls:List (List (List VV))}(hc:1<=c):∀{q:Query}{ks:List Int}{k:Nat},cR s ps q=(ks,0)->B6 s c ls k (iV q)->qK c q<=8000000->aeX c ls q k ks
 |.mk op ta w co on gr od li args,ks,k,h,hl,hb=>by
  obtain⟨kss,h1,h2,h3⟩:=AS h;by_cases e:op=1
  .subst e
   have h0:args=[]:=by
    cases args with
    |nil=>rfl
    |cons q qs=>obtain⟨_,_,_,_,rfl⟩:=kF h1;simp[arity]at h2;omega
   subst h0;have hs:iV (.mk 1 ta w co on gr od li [])=[ta]:=by simp[iV,gE]
   unfold kW at h3;dsimp only at h3;split at h3
   .simp[kC]at h3
   try rw[if_pos rfl]at h3
   split at h3
   .obtain⟨rfl,_⟩:=pB h3;rw[hs]at hl;obtain⟨l,e1,e2,e3⟩:=hl.at_ 0 ta rfl;rw[Nat.add_zero]at e1;have e4:(iT ls (.mk 1 ta w co on gr od li []) k)=(l,k+1):=by rw[iT,if_pos rfl,List.getD_eq_getElem?_getD,e1];rfl
    refine⟨by rw[TF,if_pos rfl];exact(List.getElem?_eq_some_iff.1 e1).1,by rw[e4];exact e2,by rw[e4,qK,if_pos rfl];exact e3,by rw[e4,hs];rfl⟩
   .simp[kC]at h3
  .have hs:iV (.mk op ta w co on gr od li args)=gE args:=by simp[iV,e]
   rw[hs]at hl
   have hb2:∀q∈args,qK c q<=8000000:=λq hq=>by
    have h5:=PO hc h1 q hq;rw[qK,if_neg e]at hb;split at hb<;>omega
   obtain⟨o1,o2,o3⟩:=L0 hc h1 hl hb2;obtain⟨n1,n2,n3⟩:=XB e h2 (I9 h1) h3 o2 hb;have e4:iT ls (.mk op ta w co on gr od li args) k=(Vv op (.mk op ta w co on gr od li args) (eK ls args k).1,(eK ls args k).2):=by rw[iT,if_neg e]
   exact⟨by rw[TF,if_neg e];exact⟨n1,o1⟩,by rw[e4];exact n2,by rw[e4];exact n3,by rw[e4,hs];exact o3⟩
theorem L0{s:jR}{ps:List Int}{c:Nat}{ls:List (List (List VV))}(hc:1<=c):∀{qs:List Query}{kss:List (List Int)}{k:Nat},fM s ps qs=(kss,0)->B6 s c ls k (gE qs)->(∀q∈qs,qK c q<=8000000)->OB ls qs k/\Mo c qs kss (eK ls qs k).1/\(eK ls qs k).2=k+(gE qs).length
 |[],kss,k,h,_,_=>by
  rw[fM]at h;simp only[Prod.mk.injEq,and_true]at h;subst h;simp[OB,eK,Mo,gE]
 |q::qs,kss,k,h,hl,hb=>by
  obtain⟨k1,kss',h1,h2,rfl⟩:=kF h;rw[gE]at hl;have e1:=PE hc h1 hl.left (hb q (List.mem_cons_self ..));have e2:=L0 hc h2 hl.right (λp hp=>hb p (List.mem_cons_of_mem _ hp));rw[<-e1.nxt]at e2;rw[OB,eK,gE];refine⟨⟨e1.ok,e2.1⟩,⟨e1.rel,e1.bnd,e2.2.1⟩,?_⟩;rw[e2.2.2,e1.nxt,List.length_append];omega
end
theorem Nq{h:PH}{s:Sl}{l:List sE}(r:bH h s 2 (l.map sE.enc))(hl:l.length<=8):Kq h s l:=⟨⟨l,r,rfl,λi x e=>⟨x,e,rfl⟩⟩,aC⟩
theorem mI(h:PH):Ints h eC []:=⟨bH.nil _ _,by simp⟩
theorem Ci(h:PH):nS h eC []:=⟨bH.nil _ _,by simp⟩
theorem y0(h:PH):jY h eC []:=⟨bH.nil _ _,by simp⟩
theorem Ca(h:PH):fZ h jS qT:=OJ (v:=qT) rfl
theorem Cf{h:PH}{s:Sl}{v:QV}{q:Query}(r:bH h s 21 [QV.enc v])(hq:fF h q v):zR h s [q]:=⟨⟨[v],r,rfl,λi x e=>by
 match i,e with
 |0,e=>simp at e;subst e;exact⟨v,rfl,hq⟩
 |i+1,e=>simp at e⟩,by simp⟩
theorem Iv(h:PH)(t:Int):fF h (.mk 1 t jS [] [] [] [] 0 []) ⟨1,t,qT,eC,eC,eC,eC,0,eC⟩:=
 nR.rep ⟨rfl,rfl,Ca h,mI h,Ci h,mI h,y0 h,rfl,aR.nil _ _ _ _⟩
theorem Qx{v:PV}{s:Sl}(hp:fZ h p v)(hq:zR h s [q]):fF h (.mk 2 0 p [] [] [] [] 0 [q]) ⟨2,0,v,eC,eC,eC,eC,0,s⟩:=
 nR.rep ⟨rfl,rfl,hp,mI h,Ci h,mI h,y0 h,rfl,hq⟩
theorem GZ{h:PH}{c s:Sl}{cols:List Int}{q:Query}(hc:Ints h c cols)(hq:zR h s [q]):fF h (.mk 3 0 jS cols [] [] [] 0 [q]) ⟨3,0,qT,c,eC,eC,eC,0,s⟩:=
 nR.rep ⟨rfl,rfl,Ca h,hc,Ci h,mI h,y0 h,rfl,hq⟩
theorem KU{k:List Int}{op:Int}(ha:arity op=1)(h:cR s ps q=(k,0)):cR s ps (.mk op ta w co on gr od li [q])=kW s ps (.mk op ta w co on gr od li [q]) k []:=by
 have e:fM s ps [q]=([k],0):=AR (by simp[h]);simp[cR,e,ha]
theorem TK{k k':List Int}{op:Int}{p:Query}(ha:arity op=2)(h:cR s ps q=(k,0))(h':cR s ps p=(k',0)):cR s ps (.mk op ta w co on gr od li [q,p])=kW s ps (.mk op ta w co on gr od li [q,p]) k k':=by
 have e:fM s ps [q,p]=([k,k'],0):=AR (by simp[h,h']);simp[cR,e,ha]
theorem HY(h:l.length<=12):zC l=(l,0):=if_pos h
theorem DO{s:jR}{ps:List Int}{t:Int}(h0:0<=t)(h1:t<s.tables.length)(hk:(iB s t).length<=12):cR s ps (.mk 1 t jS [] [] [] [] 0 [])=(iB s t,0):=by
 have e1:cR s ps (.mk 1 t jS [] [] [] [] 0 [])=kW s ps (.mk 1 t jS [] [] [] [] 0 []) [] []:=by simp[cR,fM,arity]
 rw[e1];unfold kW;rw[if_neg (by simp[arity,eN])];dsimp only;rw[if_pos rfl,if_pos ⟨h0,h1⟩,HY hk]
theorem kinds_filter{k:List Int}(h:cR s ps q=(k,0))(hw:gZ k ps w=0)(hk:k.length<=12):cR s ps (.mk 2 0 w [] [] [] [] 0 [q])=(k,0):=by
 rw[KU (by decide) h];unfold kW;rw[if_neg (by simp[arity,eN])];dsimp only;rw[if_neg (by decide),if_pos rfl,if_pos hw,HY hk]
theorem yT{k:List Int}(h:cR s ps q=(k,0))(h0:co≠[])(hi:∀c∈co,SG k c=true)(hl:co.length<=12):cR s ps (.mk 3 0 jS co [] [] [] 0 [q])=(co.map λc=>k.getD c.toNat 0,0):=by
 rw[KU (by decide) h];unfold kW;rw[if_neg (by simp[arity,eN])];dsimp only;rw[if_neg (by decide),if_neg (by decide),if_pos rfl,if_pos ⟨h0,λj x hx=>hi x (List.mem_of_getElem? hx)⟩,HY (by simpa using hl)]
structure zT(m0 m:MH)(s:Sl)(E:TypeId)(sz:Nat)(xs:List (List Value)):Prop where
 row:cD m s E sz xs
 fresh:∀b i,s.a=some ⟨b,i,none⟩->m0 b=none
theorem cD.nil(m:MH)(E:TypeId)(sz:Nat):cD m eC E sz []:=⟨⟨λ_ h=>by simp at h,λ_ h=>by simp at h⟩,.inl ⟨rfl,rfl⟩⟩
theorem zT.nil(m0 m:MH)(E:TypeId)(sz:Nat):zT m0 m eC E sz []:=⟨cD.nil m E sz,λb i e=>by cases e⟩
def BL(m0 m:MH):MH:=λb=>match m0 b with|some _=>m b|none=>none
def DQ(m0 m:MH)(h:PH):PH:=λb i=>match m0 b,m b with|none,some (.cells cs _ _)=>cs[i]? |_,_=>h b i
theorem DP{m0 m:MH}{h:PH}(d:HB m h):PH.le h (DQ m0 m h):=⟨λb i v e=>by
 unfold DQ;split
 .rename_i cs E fz h1 h2;rw[d.disj b _ h2 i]at e;cases e
 .exact e⟩
theorem KZ{m0 m:MH}{h:PH}(d:HB m h):Hq m h (BL m0 m) (DQ m0 m h):=by
 refine⟨λb o e=>?_,DP d,λb i v e=>?_⟩
 .unfold BL at e;split at e
  .exact e
  .cases e
 .unfold DQ at e;split at e
  .rename_i cs E fz h1 h2;exact .inr ⟨cs,E,fz,h2,e,by unfold BL;rw[h1]⟩
  .exact .inl e
theorem zT.ice{m0:MH}{s:Sl}{E:TypeId}(r:zT m0 m s E sz xs):bH (DQ m0 m h) s sz xs:=by
 rcases r.row.ex with⟨rfl,rfl⟩|⟨b,cap,cur,rfl,hm,hcp,_,_,ht⟩
 .exact bH.nil _ _
 .have h0:=r.fresh b 0 rfl;refine⟨rfl,.inr ⟨b,0,rfl,λi e hi=>⟨λj v hj=>?_⟩⟩,hcp⟩;have h1:=nK r.row.rows.len hi j v hj;rw[<-ht,List.getElem?_take]at h1;split at h1
  .unfold DQ;rw[h0,hm];simp only[Nat.zero_add];rw[<-Array.getElem?_toList];exact h1
  .cases h1
theorem Xv(h:cZ s=0):A3 s:=Classical.byContradiction λhn=>by rw[wA hn]at h;cases h
theorem Qd(h:cZ s=0):uP s:=λt ht=>by
 obtain⟨i,hi⟩:=List.mem_iff_getElem?.1 ht;have:=(Xv h).2 i t hi;exact this.1
mutual
def nX(st:List (List (List VV))):Query->List (List VV)
 |.mk op ta w co on gr od li args=>if op=1 then st.getD ta.toNat []else Vv op (.mk op ta w co on gr od li args) (Ei st args)
def Ei(st:List (List (List VV))):List Query->List (List (List VV))
 |[]=>[]
 |q::qs=>nX st q::Ei st qs
end
structure B7(st ls:List (List (List VV)))(k:Nat)(ts:List Int):Prop where
 at_:∀(j:Nat)(t:Int),ts[j]? =some t->ls.getD (k+j) []=st.getD t.toNat []
theorem B7.left{st ls:List (List (List VV))}{b:List Int}(x:B7 st ls k (a++b)):B7 st ls k a:=
 ⟨λj t h=>x.at_ j t (by rw[List.getElem?_append_left (List.getElem?_eq_some_iff.1 h).1];exact h)⟩
theorem B7.right{st ls:List (List (List VV))}{b:List Int}(x:B7 st ls k (a++b)):B7 st ls (k+a.length) b:=
 ⟨λj t h=>by
  have:=x.at_ (a.length+j) t (by rw[List.getElem?_append_right aC,Nat.add_sub_cancel_left];exact h)
  rwa [show k+a.length+j=k+(a.length+j)by omega]⟩
theorem TA{args:List Query}{kss:List (List Int)}(h1:fM s ps args=(kss,0))(h2:(kss.length:Int)=arity 1):args=[]:=by
 cases args with
 |nil=>rfl
 |cons q qs=>obtain⟨_,_,_,_,rfl⟩:=kF h1;simp[arity]at h2;omega
mutual
theorem L1{s:jR}{ps:List Int}{st ls:List (List (List VV))}:∀{q:Query}{ks:List Int}{k:Nat},cR s ps q=(ks,0)->B7 st ls k (iV q)->iT ls q k=(nX st q,k+(iV q).length)
 |.mk op ta w co on gr od li args,ks,k,h,hl=>by
  obtain⟨kss,h1,h2,h3⟩:=AS h;by_cases e:op=1
  .subst e;have h0:=TA h1 h2;subst h0;have hs:iV (.mk 1 ta w co on gr od li [])=[ta]:=by simp[iV,gE]
   rw[hs]at hl⊢
   have:=hl.at_ 0 ta rfl;rw[Nat.add_zero]at this;rw[iT,nX,if_pos rfl,if_pos rfl,this];rfl
  .have hs:iV (.mk op ta w co on gr od li args)=gE args:=by simp[iV,e]
   rw[hs]at hl⊢
   rw[iT,nX,if_neg e,if_neg e,JK h1 hl]
theorem JK{s:jR}{ps:List Int}{st ls:List (List (List VV))}:∀{qs:List Query}{kss:List (List Int)}{k:Nat},fM s ps qs=(kss,0)->B7 st ls k (gE qs)->eK ls qs k=(Ei st qs,k+(gE qs).length)
 |[],kss,k,h,_=>by simp[eK,Ei,gE]
 |q::qs,kss,k,h,hl=>by
  obtain⟨k1,kss',h1,h2,rfl⟩:=kF h;rw[gE]at hl;rw[eK,Ei,gE,L1 h1 hl.left,JK h2 hl.right,List.length_append,Nat.add_assoc]
end
mutual
theorem Iu{s:jR}{ps:List Int}:∀{q:Query}{ks:List Int},cR s ps q=(ks,0)->∀t∈iV q,0<=t/\t<s.tables.length
 |.mk op ta w co on gr od li args,ks,h,t,ht=>by
  obtain⟨kss,h1,h2,h3⟩:=AS h;rw[iV]at ht;rcases List.mem_append.1 ht with h5|h5
  .split at h5
   .rename_i e;subst e;simp only[List.mem_singleton]at h5;subst h5;unfold kW at h3;dsimp only at h3;split at h3
    .simp[kC]at h3
    try rw[if_pos rfl]at h3
    split at h3
    .rename_i h4;exact h4
    .simp[kC]at h3
   .simp at h5
  .exact KC h1 t h5
theorem KC{s:jR}{ps:List Int}:∀{qs:List Query}{kss:List (List Int)},fM s ps qs=(kss,0)->∀t∈gE qs,0<=t/\t<s.tables.length
 |[],kss,h,t,ht=>by rw[gE]at ht;simp at ht
 |q::qs,kss,h,t,ht=>by
  obtain⟨k1,kss',h1,h2,rfl⟩:=kF h;rw[gE]at ht;rcases List.mem_append.1 ht with ht|ht
  .exact Iu h1 t ht
  .exact KC h2 t ht
end
def Fi(key:Int)(k:Int)(i:Nat)(v:VV):Bool:=kK v&&(v.kind==k||((v.kind==2||v.kind==1)&&decide (key<=(i:Int))))
def Dj(t:zN)(r:List VV):Bool:=decide (r.length=t.columns.length)&&(List.range r.length).all λi=>Fi t.key (t.columns.getD i ⟨⟨#[]⟩,0⟩).kind i (r.getD i zeroV)
def wU(t:zN)(r:List VV):List VV:=r.take (max 0 (min t.key r.length)).toNat
def Sn(t:zN)(l:List (List VV)):Prop:=(∀r∈l,Dj t r=true)/\∀(i:Nat) r r',l[i]? =some r->l[i+1]? =some r'->cL (wU t r) (wU t r')<0
def Qa(s:jR)(st:List (List (List VV))):Prop:=∀(i:Nat) t l,s.tables[i]? =some t->st[i]? =some l->Sn t l
open Classical in
noncomputable def sF(s:jR)(st:List (List (List VV))):Int:=
 if cZ s≠0 then cZ s else if 512<(st.map λl=>(l.length:Int)).sum then 2 else if st.length≠s.tables.length then 80 else if Qa s st then 0 else 80
def YU(st:List (List (List VV))):Prop:=∀l∈st,∀r∈l,∀v∈r,Dl v.kind/\Dl v.int
def U0(t:zN)(l:List (List VV)):Prop:=l.Pairwise λx y=>cL (wU t x) (wU t y)<0
theorem YD{x y z:List VV}(h1:cL x y<0)(h2:cL y z<0):cL x z<0:=by
 have:=sZ x y z aC aC;rcases Int.lt_or_eq_of_le this with h|h
 .exact h
 .rw[gR]at h;subst h;have:=jP x y;omega
theorem Ob{st:List (List (List VV))}(h:sF s st=0):cZ s=0/\st.length=s.tables.length/\Qa s st/\(st.map λl=>(l.length:Int)).sum<=512:=by
 unfold sF at h;split at h
 .rename_i h1;exact absurd h h1
 .rename_i h1;split at h
  .simp at h
  .rename_i h2;split at h
   .simp at h
   .rename_i h3;split at h
    .rename_i h4;exact⟨Classical.not_not.1 h1,Classical.not_not.1 h3,h4,aC⟩
    .simp at h
theorem VF{t:zN}{x y:List VV}(h:x.length=y.length):(wU t x).length=(wU t y).length:=by simp[wU,h]
theorem WK{t:zN}{x y:List VV}(h:x.length=y.length)(hk:cL (wU t x) (wU t y)<0):cL x y<0:=by
 have h1:x=wU t x++x.drop (max 0 (min t.key x.length)).toNat:=(List.take_append_drop _ _).symm;have h2:y=wU t y++y.drop (max 0 (min t.key y.length)).toNat:=(List.take_append_drop _ _).symm;rw[h1,h2,Fy (VF h),if_pos aC];exact hk
theorem U0.of{t:zN}:∀{l:List (List VV)},(∀(i:Nat) r r',l[i]? =some r->l[i+1]? =some r'->cL (wU t r) (wU t r')<0)->U0 t l
 |[],_=>List.Pairwise.nil
 |[_],_=>List.pairwise_singleton _ _
 |a::b::l,h=>by
  have h1:U0 t (b::l):=U0.of λi r r' e1 e2=>h (i+1) r r' e1 e2;refine List.pairwise_cons.2 ⟨λx hx=>?_,h1⟩;have h0:=h 0 a b rfl rfl;rcases List.mem_cons.1 hx with rfl|hx
  .exact h0
  .exact YD h0 ((List.pairwise_cons.1 h1).1 x hx)
theorem Va{t:ByteArray}(h:t.toList=(⟨#[]⟩:ByteArray).toList):t.size<=64:=by rw[De h];decide
theorem DG{t:ByteArray}(h:Bu t=true):t.size<=64:=Va (by simp only[Bu,beq_iff_eq]at h;rw[h,ByteArray.toList_eq])
theorem NZ{v:VV}(h:kK v=true):v.text.size<=64:=by
 unfold kK at h;split at h
 .simp only[Bool.and_eq_true]at h;exact DG h.2
 .split at h
  .simp only[Bool.and_eq_true]at h;exact DG h.2
  .split at h
   .exact DG h
   .split at h
    .simp at h;omega
    .cases h
theorem Ot(h:(fC s ps q).2=0):cZ s=0/\ps.all cA=true/\zZ q=true/\(cR s ps q).2=0:=by
 unfold fC at h;split at h
 .rename_i h1;split at h
  .rename_i h2;split at h
   .rename_i h3;exact⟨h1,h2,h3,h⟩
   .simp[kC]at h
  .simp[kC]at h
 .rename_i h1;simp[kC]at h;exact(h1 h).elim
theorem N0{v:VV}(h:kK v=true):1<=v.kind/\v.kind<=5/\v.text.size<=64:=by
 refine⟨?_,?_,NZ h⟩
 all_goals
  unfold kK at h;split at h
  .rename_i e;simp at e;omega
  .split at h
   .rename_i e;simp at e;omega
   .split at h
    .rename_i e;simp at e;omega
    .split at h
     .rename_i e;simp at e;omega
     .cases h
theorem SO{t:zN}{r:List VV}(h:Dj t r=true):r.length=t.columns.length/\∀v∈r,kK v=true:=by
 simp only[Dj,Bool.and_eq_true,decide_eq_true_eq,List.all_eq_true,List.mem_range]at h;refine⟨h.1,λv hv=>?_⟩;obtain⟨i,hi,rfl⟩:=List.mem_iff_getElem.1 hv;have h2:=h.2 i hi;simp only[Fi,Bool.and_eq_true,List.getD_eq_getElem?_getD,List.getElem?_eq_getElem hi,Option.getD_some]at h2;exact h2.1
theorem Xs{t:zN}{l:List (List VV)}(h8:t.columns.length<=12)(hok:Sn t l)(hv:∀r∈l,∀v∈r,Dl v.kind/\Dl v.int)(hl:l.length<=8000000):gH t.columns.length l:=by
 have hw:∀r∈l,r.length=t.columns.length:=λr hr=>(SO (hok.1 r hr)).1;refine⟨λr hr=>⟨by rw[hw r hr];exact h8,λv hx=>?_⟩,hw,?_,hl⟩
 .have h1:=(SO (hok.1 r hr)).2 v hx;have h2:=hv r hr v hx;exact⟨h2.1,h2.2,(N0 h1).2.2⟩
 .exact(U0.of hok.2).imp_of_mem fun{x y} hx hy h=>WK (by rw[hw x hx,hw y hy]) h
def rW(st:List (List (List VV)))(q:Query):List (List (List VV)):=(iV q).map λt=>st.getD t.toNat []
theorem Zn{st:List (List (List VV))}{t:Int}(hst:sF s st=0)(hv:YU st)(h0:0<=t)(h1:t<s.tables.length):gH (iB s t).length (st.getD t.toNat [])/\st.getD t.toNat []∈st:=by
 obtain⟨h2,h3,h4,h5⟩:=Ob hst;have ht:t.toNat<s.tables.length:=by omega
 have hl:t.toNat<st.length:=by omega
 have e1:s.tables[t.toNat]? =some s.tables[t.toNat]:=List.getElem?_eq_getElem ht;have e2:st[t.toNat]? =some st[t.toNat]:=List.getElem?_eq_getElem hl;have e3:st.getD t.toNat []=st[t.toNat]:=by rw[List.getD_eq_getElem?_getD,e2];rfl
 have hm:st[t.toNat]∈st:=List.getElem_mem hl;have h8:=Qd h2 _ (List.getElem_mem ht);have hk:(iB s t).length=s.tables[t.toNat].columns.length:=by rw[iB,if_neg aC,e1];simp
 have hle:∀{l:List (List (List VV))}{x},x∈l->((x.length:Nat):Int)<=(l.map λl=>(l.length:Int)).sum:=fun{l x}=>by
  induction l with
  |nil=>intro h;simp at h
  |cons a l ih=>
   intro h
   have h0:∀l:List (List (List VV)),0<=(l.map λl=>(l.length:Int)).sum:=λl=>by
    induction l with
    |nil=>simp
    |cons a l ih=>simp only[List.map_cons,List.sum_cons];omega
   simp only[List.map_cons,List.sum_cons];rcases List.mem_cons.1 h with rfl|h
   .have:=h0 l;omega
   .have:=ih h;omega
 have:=hle hm;rw[e3,hk];exact⟨Xs aC (h4 _ _ _ e1 e2) (hv _ hm) aC,hm⟩
theorem Vg{st:List (List (List VV))}{ks:List Int}{c:Nat}(hst:sF s st=0)(hv:YU st)(hc:∀l∈st,l.length<=c)(h1:1<=c)(hq:cR s ps q=(ks,0))(hb:qK c q<=8000000):
 TF (rW st q) q 0/\(iT (rW st q) q 0).1=nX st q/\gH ks.length (nX st q)/\(nX st q).length<=8000000:=by
 have e1:∀(j:Nat)(t:Int),(iV q)[j]? =some t->(rW st q)[0+j]? =some (st.getD t.toNat []):=λj t h=>by rw[Nat.zero_add,rW,List.getElem?_map,h];rfl
 have x:=PE h1 (ls:=rW st q) (k:=0) hq ⟨λj t h=>⟨_,e1 j t h,by
  have ht:=Iu hq t (List.mem_of_getElem? h);have:=Zn hst hv ht.1 ht.2;exact⟨this.1,hc _ this.2⟩⟩⟩ hb
 have y:=L1 (st:=st) (ls:=rW st q) (k:=0) hq ⟨λj t h=>by rw[List.getD_eq_getElem?_getD,e1 j t h];rfl⟩;have e2:(iT (rW st q) q 0).1=nX st q:=by rw[y]
 refine⟨x.ok,e2,by rw[<-e2];exact x.rel,?_⟩;rw[<-e2];exact Nat.le_trans x.bnd hb
end Go.Ps
