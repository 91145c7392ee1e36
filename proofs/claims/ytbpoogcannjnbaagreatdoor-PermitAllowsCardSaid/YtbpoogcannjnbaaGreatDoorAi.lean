/- Own work. -/
import Derived.Test.YtbpoogcannjnbaaGreatDoorAh
noncomputable section
namespace Go.Ps
open Go Go.Vc Go.Proofs List Tryz
variable{K:tt}{m:MH}{h:PH}{s:kD}{ps:ti}{sc:bQ}{v:QV}{q:ae}{p:ao}{l:ti}{i N:Nat}{m':MH}{h':PH}{co gr:ti}{od:tp}{w:ao}{ta li:Int}{xs:List tm}{sz:Nat}{ks:List ti}{rs:ti}{r:Sl}{a:ti}{b:Nat}
def HY(s:Sl):=match s.a with|some a=>[a.block]|none=>[]
mutual
def WQ(m0 m:MH)(h:PH):ae->QV->tw->Prop
 |.mk op ta w co on gr od li args,v,d=>cQ h (.mk op ta w co on gr od li []) {v with args:=bS}/\args.length<=2000000000/\∃e c,K2 m0 m h args e c/\fU m0 m v.args 68 21 (e.map QV.ag)/\d=HY v.args++c/\d.Nodup
def K2(m0 m:MH)(h:PH):List ae->ud->tw->Prop
 |[],d,e=>d=[]/\e=[]
 |q::qs,d,e=>∃u c f g,d=u::c/\e=f++g/\WQ m0 m h q u f/\K2 m0 m h qs c g
end
def dWJ(b o:Nat):CV:=.val (.pointer (some ⟨b,o,none⟩))
def cYZ(N:Nat):AC:=λc m h K=>∃v q,c=[aQ v]/\cQ h q v/\SizeOf.sizeOf q<N/\oU q<=900000/\∀d m' h' e,PH.le h h'->dh m m'->WQ m m' h' q d e->K (aQ d) m' h'
def cYJ:AC:=λc m h K=>∃v q,c=[aQ v]/\cQ h q v/\oU q<=900000/\∀d m' h' e,PH.le h h'->dh m m'->WQ m m' h' q d e->K (aQ d) m' h'
def og(m:MH)(b o:Nat)(v:QV):=∃c:Array Value,m b=some (.cells c 68 (0,0))/\o+21<=c.size/\(c.toList.drop o).take 21=QV.ag v
def aAJ(m m':MH)(b o:Nat)(v:QV)(e:tw):=(∃c:Array Value,m b=some (.cells c 68 (0,0))/\m' b=some (.cells ⟨aq c.toList o (QV.ag v)⟩ 68 (0,0)))/\∀d,d≠b->d∉e->m' d=m d
def c2Q(N:Nat):AC:=λd m h K=>∃e b o s q v c ps,d=[dWJ b o,cS s]/\SizeOf.sizeOf q<N/\bF h s ps/\og m b o v/\WQ e m h q v c/\b∉c/\∀f m' h',PH.le h h'->aAJ m m' b o f c->WQ e m' h' (eY ps q) f c->K (.dg []) m' h'
def c2X:AC:=λd m h K=>∃e b o s q v c ps,d=[dWJ b o,cS s]/\bF h s ps/\og m b o v/\WQ e m h q v c/\b∉c/\∀f m' h',PH.le h h'->aAJ m m' b o f c->WQ e m' h' (eY ps q) f c->K (.dg []) m' h'
def c1X:AC:=λc m h K=>∃v s q ps,c=[aQ v,cS s]/\cQ h q v/\bF h s ps/\oU q<=900000/\∀d h',PH.le h h'->cQ h' (eY ps q) d->K (aQ d) m h'
def cqZ(N:Nat)(v:QV)(co:ti)(on:tu)(gr:ti)(od:tp):=
 tH [(106,Un),(64,cYZ N)] [(9,{A:=Nat×PV×Sl×MH×PH,st:=λ⟨i,w,t,m,h⟩=>bO 46 47 [SW 1,SW 2,SW 3,(29,iv v.args.len),(30,iv i)] [UV 1 68 v.ag,UV 2 68 oJ.ag,(3,.cells 68 (([.int .i64 v.op,Value.int .i64 v.ah]++w.ag).map .val++[.au 12,.au 16,.au 20,.au 24,.val (.int .i64 v.bg),.val (.slice t.a t.len t.cap)])),(12,.au 3 1 (co.map eI)),(16,.au 81 2 (on.map oY)),(20,.au 3 1 (gr.map eI)),(24,.au 138 2 (od.map wV))] m h})] [] [] [1066] [] false
def cFZ N b o s:=dD [(106,Un),(131,c2Q N)] [(2,{A:=Nat×Nat×MH×PH,st:=λ⟨i,n,m,h⟩=>bO 31 33 [(0,vv (.pointer (some ⟨b,o,none⟩))),(1,sv s),(18,iv n),(19,iv i)] [] m h})] [] [] false
def dcX:=tH [(64,cYJ),(131,c2X)] [] [] [] [200005,0] [] false
abbrev Cz(a:Nat×PV×Sl×MH×PH):=a.2.1
abbrev rR(a:Nat×PV×Sl×MH×PH):=a.2.2
attribute [push_cast] Cz rR
def Pn(N:Nat)(v:QV)(co:ti)(on:tu)(gr:ti)(od:tp):ST:=λm h K=>JL (nN (oK v.ap) EO) h (λp E z=>∀c,cO h c (fV c (sW E p) z) (∃y,wS (dA 1 y) (mH m c (bK v.aa) 1 y) (zA y 8) (cJ y.length) (λf=>wS (dA 2 f) (mH m c (bK v.on) 2 f) (zA f 16) (cJ f.length) (λg=>wS (dA 1 g) (mH m c (bK v.be) 1 g) (zA g 8) (cJ g.length) (λj=>dA 2 j/\mH m c (bK v.bh) 2 j/\zA j 16/\cJ j.length/\∃(I:Nat×PV×Sl×MH×PH->Prop)(A:Nat×PV×Sl×MH×PH->Nat),(∃x,I x/\gY/\eP 2/\cR/\rQ v/\bB x.1/\eJ v/\gP/\Dz (Ds v z [rZ v,Db]) (Ds v (Cz x) (j9 (rZ v) (rR x).1))/\tO y co/\E5 f (G0 on)/\tO g gr/\kO (No j (Iy od)) (iU m (rR x)) (dH c (rR x).2))/\∀x,I x->aX x.1 (aF v.args) (aM (λb o=>aR v.args.a b o/\0<=(↑x.1:Int)/\x.1<aF v.args/\∃t,aK (gX (rR x)) (gT (rR x)) b (bI o x.1 21) t.ag/\mQ (λB q=>Ex (i7 t)=[i7 B]/\cQ (gT (rR x)) q B/\pR q N/\yS q/\∀C,iK (λn d=>∀F,cO (gT (rR x)) d (dh (gX (rR x)) n) (WQ (gX (rR x)) n d q C F->uF (aK n d b (bI o x.1 21) t.ag) (bJ d b (bI o x.1 21) t.ag) (λu=>cH n (bK (rR x).1) 68 21 u/\cJ (fS u 1*280)/\fA u/\fY (λs D=>cL n D (bK (rR x).1) s 68 21 (hZ u C.ag)
 ->∃e,RP (I e) (A e) (A x) v x.1 e.1 (gP/\Dz (Ds v (Cz x) (j9 (rZ v) s)) (Ds v (Cz e) (j9 (rZ v) (rR e).1))/\eQ (cE 3 1 (gE co))/\eQ (cE 81 2 (G0 on))/\eQ (cE 3 1 (gE gr))/\eQ (cE 138 2 (Iy od))/\iU D (rR e)/\dH d (rR e).2/\True)))))))) (bN (gT (rR x)) 1 (gE co) (λs d=>bN d 2 (G0 on) (λG H=>bN H 1 (gE gr) (λJ L=>bN L 2 (Iy od) (λM O=>K (mX (bD v.op v.ah (bD (Cz x).op (Cz x).dy (Bb (Cz x).left (GU (Cz x)) (vO (Cz x) (fW (Cz x).args::fW s::fW G::fW J::eW M v.bg (aT (rR x).1))))))) (gX (rR x)) O))))))))))
def Wz N b o s:=λm h K=>∃y:PV,aK m h b (o+2) y.ag/\JL (gO y.ag s) h (λp L v=>∀e,cO h e (fV e (sW L p) v) (i6 (λc E=>yA m b (gU c E 0)/\o+2+13<=c.size/\∀j,cF m j b (rC c (o+2) v.ag) E->lI j e b (o+20) (λM=>∃(I:Nat×Nat×MH×PH->Prop)(z:Nat×Nat×MH×PH->Nat),(∃x,I x/\eQ (ov b o)/\aH s/\bR M.len=bR x.2.1/\kO (bB x.1) (fK j x.2) (dH e x.2.2))/\∀x,I x->aX x.1 x.2.1 (lI (cA x.2) (bW x.2) b (o+20) (λA=>aM (λB C=>aR A.a B C/\0<=(↑x.1:Int)/\x.1<aF A/\∃D,aM (λf n=>wN (λF q=>∃G g H,nN (.val (.pointer (kR B (bI C x.1
 21)))) (tV s)=nN (mn f n) (tV F)/\pR q N/\bF (bW x.2) F H/\og (cA x.2) f n G/\WQ D (cA x.2) (bW x.2) q G g/\jP (List.Mem f g)/\∀J,iK (λt u=>cO (bW x.2) u (aAJ (cA x.2) t f n J g) (WQ D t u (eY H q) J g->∃d,I d/\z d<z x/\eQ (ov b o)/\aH s/\bP x.2.1 d.2.1/\fI (bA x.1 1)=bR d.1/\fK t d.2/\dH u d.2.2/\True))))))) (BP K (cA x.2) (bW x.2))))))
def Ti(v:QV)(s:Sl):ST:=λm h K=>mQ (λB q=>eO (i7 v) (i7 B)/\cQ h q B/\yS q/\∀d,iK (λg e=>∀b,cO h e (dh m g) (WQ m g e q d b->∀f A,eT g e f->cF g A f zV 68->i6 (λc E=>yA A f (gU c E 0)/\21<=c.size/\∀j,cF A j f (bD d.op d.ah (bD (fM d) (fN d) (Hr d (fW d.on::fW d.be::eW d.bh d.bg (kH (fW d.args) 21 c))))) E->∃C,aM (λn o=>wN (λD F=>∃G t p,nN (jN f) (tV s)=nN (mn n o) (tV D)/\bF e D p/\og j n o G/\WQ C j e F G t/\jP (List.Mem n t)/\∀H,iK (λu z=>cO e z (aAJ j u n o H t) (WQ C u z (eY p F) H t->∃y:QV,aK u z f 0 y.ag/\K
 (mX y.ag) u z))))))))
theorem c5Q{c:tm}{l o k n}(h:(c.drop o).take l.length=l)(d:k+n<=l.length):(c.drop (o+k)).take n=(l.drop k).take n:=by
 grind[drop_take,drop_drop,Nat.min_eq_left]
theorem og.rd{o k l}(x:og m b o v)(e:((QV.ag v).drop k).take l.length=l)(f:k+l.length<=21):aK m h b (o+k) l:=by
 obtain⟨c,d,g,j⟩:=x;exact .dx c 68 (0,0) d (by grind[QV.ag,c5Q])
theorem bNQ{c:tm}{L xs o k}(h:(c.drop o).take L.length=L)(d:k+xs.length<=L.length)(j:o+L.length<=c.length):aq c (o+k) xs=aq c o (aq L k xs):=by
 have f:(c.take o).length=o:=da
 have e:c=c.take o++(L++(c.drop o).drop L.length):=by
  grind[take_append_drop]
 generalize c.take o=A at e f;generalize (c.drop o).drop L.length=R at e;subst e;have g:(aq L k xs).length=L.length:=qM _ _ _ d
 have n:(A++(L++R)).take (o+k)=A++L.take k:=by
  grind
 have t:(A++(L++R)).drop (o+k+xs.length)=L.drop (k+xs.length)++R:=by
  rw[drop_append,drop_of_length_le aC,nil_append,drop_append,show o+k+xs.length-A.length=k+xs.length by omega,show k+xs.length-L.length=0 by omega,drop_zero]
 have u:(A++(L++R)).take o=A:=by
  grind
 simp_all[aq,drop_append,drop_of_length_le,nil_append]
theorem bNX{c:tm}{L o}(e:o+L.length<=c.length):((aq c o L).drop o).take L.length=L:=by
 have d:(c.take o).length=o:=da
 rw[aq,append_assoc,drop_append,drop_of_length_le aC,nil_append,d,Nat.sub_self,drop_zero,take_append,take_length,Nat.sub_self,take_zero,append_nil]
theorem og.wrote{o}{c:Array Value}(f:o+21<=c.size)(e:m' b=some (.cells ⟨aq c.toList o (QV.ag v)⟩ 68 (0,0))):og m' b o v:=by
 have g:(QV.ag v).length=21:=rfl;have d:o+(QV.ag v).length<=c.toList.length:=da
 exact⟨_,e,by grind[aq,QV.ag,qM,Array.length_toList],bNX d⟩
theorem fU.qr{m0 s E}(r:fU m0 m s E sz xs)(k:∀b∈HY s,m' b=m b):fU m0 m' s E sz xs:=
 ⟨cH.br r.row λb i e=>k b (by rw[HY,e];exact mem_singleton.2 rfl),r.f⟩
theorem fU.mem{m0 s E}(r:fU m0 m s E sz xs)(c:b∈HY s):m0 b=none/\m b≠none:=by
 rcases r.row.ex with⟨rfl,_⟩|⟨d,e,f,rfl,g,_⟩
 .cases c
 .have:b=d:=mem_singleton.1 c;subst this;exact⟨r.f b 0 rfl,by rw[g];simp⟩
mutual
theorem WQ.br{m0 f m m':MH}{h h':PH}(le:PH.le h h')(g:∀b,m0 b=none->f b=none):∀{q:ae}{v:QV}{c:tw},WQ m0 m h q v c->(∀b∈c,m' b=m b)->WQ f m' h' q v c
 |.mk ..,_,_,⟨j,n,o,d,t,u,y,z⟩,k=>⟨j.mono le,n,o,d,K2.br le g t (λb A=>k b da),have r:=u.qr (λb A=>k b da);⟨r.row,λb i e=>g b (r.f b i e)⟩,y,z⟩
theorem K2.br{m0 e m m':MH}{h h':PH}(le:PH.le h h')(f:∀b,m0 b=none->e b=none):∀{qs:List ae}{us:ud}{c:tw},K2 m0 m h qs us c->(∀b∈c,m' b=m b)->K2 e m' h' qs us c
 |[],_,_,h,_=>h
 |_::_,_,_,⟨u,d,g,j,n,o,t,y⟩,k=>⟨u,d,g,j,n,o,WQ.br le f t (λb z=>k b da),K2.br le f y (λb z=>k b da)⟩
end
mutual
theorem WQ.cj{m0 m:MH}{h:PH}:∀{q:ae}{v:QV}{d:tw},WQ m0 m h q v d->∀b∈d,m0 b=none/\m b≠none
 |.mk ..,_,_,⟨_,_,n,e,f,g,j,_⟩,b,c=>by
  rw[j]at c;rcases mem_append.1 c with c|c
  .exact g.mem c
  .exact K2.cj f b c
theorem K2.cj{m0 m:MH}{h:PH}:∀{qs:List ae}{us:ud}{d:tw},K2 m0 m h qs us d->∀b∈d,m0 b=none/\m b≠none
 |[],_,_,⟨_,e⟩,b,c=>by rw[e]at c;cases c
 |_::_,_,_,⟨u,f,o,t,_,g,j,n⟩,b,c=>by
  rw[g]at c;rcases mem_append.1 c with c|c
  .exact WQ.cj j b c
  .exact K2.cj n b c
end
theorem K2.len{m0 m:MH}{h:PH}:∀{qs:List ae}{us:ud}{c:tw},K2 m0 m h qs us c->us.length=qs.length
 |[],_,_,⟨e,_⟩=>by rw[e];rfl
 |_::_,_,_,⟨u,d,j,n,f,_,_,g⟩=>by rw[f,te,te,K2.len g]
theorem K2.cw{m0 m:MH}{h:PH}{q:ae}{u:QV}{b:tw}(x:WQ m0 m h q u b):∀{qs:List ae}{us:ud}{d:tw},K2 m0 m h qs us d->K2 m0 m h (qs++[q]) (us++[u]) (d++b)
 |[],_,_,⟨e,f⟩=>by rw[e,f];exact⟨u,[],b,[],rfl,bu,x,rfl,rfl⟩
 |_::_,_,_,⟨y,c,g,j,n,o,t,z⟩=>by rw[n,o];exact⟨y,c++[u],g,j++b,rfl,da,t,K2.cw x z⟩
theorem K2.dv{m0 m:MH}{h:PH}:∀{qs:List ae}{us:ud}{o:tw}{i:Nat}{q:ae},K2 m0 m h qs us o->o.Nodup->qs[i]?=some q->∃u g,us[i]?=some u/\(∀b∈g,b∈o)/\WQ m0 m h q u g/\∀t u' m' h',PH.le h h'->WQ m0 m' h' t u' g->(∀b∈o,b∉g->m' b=m b)->K2 m0 m' h' (qs.set i t) (us.set i u') o
 |[],_,_,i,q,_,_,j=>by simp at j
 |q0::qs,_,_,0,q,⟨u,d,A,C,B,z,D,E⟩,f,j=>by
  simp at j;subst j;rw[z,nodup_append]at f;refine⟨u,A,by rw[B];rfl,λb n=>by grind,D,λt u' m' h' le F k=>⟨u',d,A,C,by rw[B];rfl,z,F,K2.br le (λ_ e=>e) E λb n=>k b (by grind) λc=>f.2.2 b c b n rfl⟩⟩
 |q0::qs,_,_,i+1,q,⟨u,d,A,C,B,z,D,E⟩,f,j=>by
  have G:=f;rw[z,nodup_append]at f;obtain⟨y,g,L,H,I,J⟩:=K2.dv E f.2.1 (by simpa using j);refine⟨y,g,by grind,λb n=>by grind,I,λt u' m' h' le F k=>⟨u,d.set i u',A,C,by rw[B];rfl,z,WQ.br le (λ_ e=>e) D λb n=>k b (by grind) λc=>f.2.2 b n b (H b c) rfl,J t u' m' h' le F λb n c=>k b (by grind) c⟩⟩
theorem fU.putQ{m0 o w}{us:ud}{t u}(x:fU m0 o w 68 21 (us.map QV.ag))(F:us[t]?=some u):∃b,w.a=some ⟨b,0,none⟩/\t<w.len/\og o b (0+t*21) u/\∀u' m' G,aAJ o m' b (0+t*21) u' G->fU m0 m' w 68 21 ((us.set t u').map QV.ag):=by
 have y:=(sg F);have c:∀u:QV,(QV.ag u).length=21:=λu=>rfl;rcases x.row.ex with⟨rfl,e⟩|⟨b,f,d,rfl,H,z,A,B,g⟩
 .have C:=congrArg List.length e;rw[length_map,length_nil]at C;omega
 .rw[length_map]at z g;have D:d.toList.length=f*21:=by rw[Array.length_toList];exact B
  have I:(us.map QV.ag)[t]?=some (QV.ag u):=by rw[getElem?_map,F];rfl
  refine⟨b,rfl,by show t<(us.map QV.ag).length;rw[length_map];exact y,⟨d,H,aC,?_⟩,λu' m' G O=>?_⟩
  .refine ext_getElem? λj=>?_;rw[getElem?_take,Nat.zero_add];split
   .rename_i J;rw[getElem?_drop];have L:=getElem?_eq_getElem (l:=QV.ag u) (i:=j) (by rw[c];exact J);have P:=oR (Gh us).len I j _ L;rw[L,<-P,<-g,getElem?_take,if_pos aC]
   .rename_i J;rw[getElem?_eq_none (by rw[c];omega)]
  .have⟨M,E,C⟩:=O.1;rw[H]at E;simp only[ss,Obj.cells.injEq]at E;obtain⟨rfl,_⟩:=E;refine⟨⟨Gh _,.inr ⟨b,f,⟨aq d.toList (0+t*21) (QV.ag u')⟩,bu,C,cv,A,?_,?_⟩⟩,x.f⟩
   .show(aq d.toList (0+t*21) (QV.ag u')).length=f*21;rw[qM _ _ _ (by rw[c];omega)];exact D
   .show(aq d.toList (0+t*21) (QV.ag u')).take _=_;rw[length_map,length_set,EV _ _ _ _ (by rw[c];omega) aC];have n:=Go.Vc.dw (off:=0) (l:=QV.ag u') (Gh us).len I (by rw[c,c];omega);rw[Nat.add_zero,show aq (QV.ag u) 0 (QV.ag u')=QV.ag u' from rfl]at n;rw[g,Nat.zero_add,map_set];exact n
mutual
theorem WQ.ig{m0 m:MH}{h:PH}(d:uP m h):∀{q:ae}{v:QV}{f:tw},WQ m0 m h q v f->cQ (kC m0 m h) q v
 |.mk ..,v,_,⟨g,t,j,n,c,o,_,_⟩=>by
  have x:=(g.mono (mU (m0:=m0) d)).parts;exact pV.fm {jp:=x.jp,dd:=x.dd,ap:=x.ap,aw:=x.aw,ez:=x.ez,az:=x.az,bd:=x.bd,dm:=x.dm,bf:=⟨⟨j,o.ig,(K2.len c).symm,λi q e=>K2.ig d c e⟩,aC⟩}
theorem K2.ig{m0 m:MH}{h:PH}(d:uP m h):∀{qs:List ae}{us:ud}{g:tw},K2 m0 m h qs us g->∀{i:Nat}{q:ae},qs[i]?=some q->∃u,us[i]?=some u/\cQ (kC m0 m h) q u
 |[],_,_,_,i,q,e=>by simp at e
 |_::_,_,_,⟨u,c,j,n,f,_,o,_⟩,0,q,e=>by simp at e;subst e;exact⟨u,by rw[f];rfl,WQ.ig d o⟩
 |_::_,_,_,⟨u,c,j,n,f,_,_,t⟩,i+1,q,e=>by rw[f];simpa using K2.ig d t (mp e)
end
theorem axX{q:ae}:∀{qs:List ae},q∈qs->oU q<=uL qs
 |x::l,h=>by
  rw[uL];rcases mem_cons.1 h with rfl|h
  .omega
  .have:=axX h;omega
theorem axZ:∀(qs:List ae),qs.length<=uL qs
 |[]=>bu
 |.mk .. ::l=>by
  have:=axZ l
  grind[uL,oU,te]
theorem fU.ext{m0 c m2 s f E n}(r:fU m0 c s E sz xs)(sub:dh m0 c)(g:cL c m2 s f E sz n):fU m0 m2 f E sz n/\dh m0 m2:=by
 refine⟨⟨g.row,λb i e=>?_⟩,λb o e=>g.ai b o (sub b o e) λi d=>by rw[r.f b i d]at e;cases e⟩;rcases g.f b i e with h|⟨j,h⟩
 .cases d:m0 b with
  |none=>rfl
  |some o=>rw[sub b o d]at h;cases h
 .exact r.f b j h
theorem cOQ{s E}(r:cH m s E sz xs)(c:b∈HY s):s.a=some ⟨b,0,none⟩:=by
 rcases r.ex with⟨rfl,_⟩|⟨f,d,e,rfl,_⟩
 .cases c
 .rw[mem_singleton.1 c]
theorem diZ{op on args}(x:pV h op ta w co on gr od li args v)(hN:∀q∈args,SizeOf.sizeOf q<N)(hc:uL args<=900000)(hK:∀L m' h' M,PH.le h h'->dh m m'->WQ m m' h' (.mk op ta w co on gr od li args) L M->K (aQ L) m' h'):Pn N v co on gr od m h K:=by
 dsimp only[Pn,push_cast];have hl:=x.bf.e;have a7:=x.bf.len;have a8:=axZ args;have l1:=x.aw.len;have l2:=x.ez.len;have l3:=x.az.len;have l4:=x.bd.len;refine⟨v.ap,⟨none,0,0⟩,w,[],rfl,x.ap,.nil _ _ _ _,λO h1 d hw=>⟨_,lZ co,.ay (x.aw.mono d).row,cv,cv,_,Dl on,.ay (x.ez.mono d).row,cv,cv,_,lZ gr,.ay (x.az.mono d).row,cv,cv,_,Dk od,.ay (x.bd.mono d).row,cv,cv,?_⟩⟩;rw[KD]at hw;refine⟨λz=>z.2.1=O/\z.1<=args.length/\PH.le h1 z.2.2.2.2/\dh m z.2.2.2.1/\∃F f,K2 m z.2.2.2.1 z.2.2.2.2 (args.take z.1) F f/\fU m z.2.2.2.1 z.2.2.1 68 21 (F.map QV.ag)/\(HY z.2.2.1++f).Nodup,λz=>args.length-z.1,⟨(0,O,bS,m,h1),⟨rfl,bu,.refl _,dh.refl m,[],[],⟨rfl,rfl⟩,fU.nil m m 68 21,by simp[HY,bS]⟩,MT⟩,?_⟩;rintro⟨i,O,t,mx,hx⟩⟨rfl,hi,B,sub,F,f,n,y,C⟩;dsimp only at hi B sub n y C⊢
 have a4:=n.len;rw[length_take]at a4;refine aE (λP=>?_) (λa9=>?_)
 .have⟨q,hq⟩:=eF hl P;have Q:=si hq;have⟨b1,o1,u,e1,R,a5⟩:=(x.bf.mono (d.trans B)).at hq;refine⟨b1,o1,e1,aC,P,u,.ay R,u,q,rfl,a5,hN q Q,by have:=axX Q;omega,λL G h' M A D H=>⟨.ay (R.mono A),R.mono A,F.map QV.ag,cH.br y.row (λb i e=>?_),ce,ce,λs' m2 g=>?_⟩⟩
  .have⟨b',J⟩:=cH.cj y.row e;rw[J];exact D b _ J
  have kx:∀b,mx b≠none->G b=mx b:=λb c=>by
   cases e:mx b with
   |none=>exact absurd e c
   |some o=>exact D b o e
  have S:fU m G t 68 21 (F.map QV.ag):=y.qr λb c=>kx b (y.mem c).2;have I:dh m G:=λb o e=>D b o (sub b o e);have⟨T,U⟩:=S.ext I g;rw[nodup_append]at C
  have t1:∀b,b∉HY t->G b≠none->m2 b=G b:=λb c hn=>by
   cases e:G b with
   |none=>exact absurd e hn
   |some o=>exact g.ai b o e λi J=>c (by rw[HY,J];exact mem_singleton.2 rfl)
  have hA:∀b∈f,b∉HY t/\G b≠none:=λb c=>⟨λE=>C.2.2 b E b c rfl,by have:=(n.cj b c).2;rw[kx b this];exact this⟩
  have V:∀b∈M,b∉HY t/\G b≠none/\b∉f:=λb c=>by
   have E:=H.cj b c;exact⟨λh3=>(y.mem h3).2 E.1,E.2,λh3=>(n.cj b h3).2 E.1⟩
  have W:K2 m m2 h' (args.take i) F f:=n.br A (λ_ e=>e) λb c=>by rw[t1 b (hA b c).1 (hA b c).2];exact kx b (n.cj b c).2
  have a6:WQ m m2 h' q L M:=H.br (.refl _) (λb e=>by
   cases J:m b with
   |none=>rfl
   |some o=>rw[sub b o J]at e;cases e) λb c=>t1 b (V b c).1 (V b c).2.1
  rw[fH aC];refine⟨(i+1,O,s',m2,h'),⟨rfl,gt,B.trans A,U,F++[L],f++M,?_,by rw[sn];exact T,?_⟩,ge,MT⟩
  .rw[sy,hq];exact K2.cw a6 W
  .rw[nodup_append,nodup_append];refine⟨by unfold HY;split<;>simp,⟨C.2.1,?_,λa ha b c e=>(V b c).2.2 (by rw[<-e];exact ha)⟩,λa ha b c e=>?_⟩
   .cases q;obtain⟨_,_,_,_,_,_,_,h6⟩:=H;exact h6
   subst e;have ea:=cOQ g.row ha;rcases g.f a 0 ea with E|⟨j,E⟩
   .rcases mem_append.1 c with c|c
    .exact(hA a c).2 E
    .exact(V a c).2.1 E
   .have:a∈HY t:=by rw[HY,E];exact mem_singleton.2 rfl
    rcases mem_append.1 c with c|c
    .exact(hA a c).1 this
    .exact(V a c).1 this
 .rw[sm aC]at n;intro s1 E X R s2 h3 Y r2 s3 h4 Z r3 s4 h5 a' r4;have a3:=a';have a2:=Z.trans a3;have a1:=Y.trans a2;have a0:=X.trans a1;exact hK ⟨v.op,v.ah,O,s1,s2,s3,s4,v.bg,t⟩ mx h5 (HY t++f) (d.trans (B.trans a0)) sub ⟨pV.fm {jp:=x.jp,dd:=x.dd,ap:=hw.mono (B.trans a0),aw:=⟨R.mono a1,l1⟩,ez:=⟨r2.mono a2,l2⟩,az:=⟨r3.mono a3,l3⟩,bd:=⟨r4,l4⟩,dm:=x.dm,bf:=aU.nil h5 21 QV.ag _},aC,F,f,n.br a0 (λ_ e=>e) λb _=>rfl,y,rfl,C⟩
theorem agQ:∀N,uz 64 (cYZ N)
 |0=>by
  refine gV func64 ?_;rintro e m h K⟨v,q,rfl,_,g,_⟩;omega
 |N+1=>by
  refine gV func64 ?_;rintro e m h K⟨v,q,rfl,f,g,j,n⟩;have d:=@vV q;obtain⟨op,ta,w,co,on,gr,od,li,args⟩:=q;refine⟨cqZ N v co on gr od,rfl,aD HR (aD (agQ N) aG),Pn N v co on gr od,bt,?_⟩;exact diZ f.parts (λq f=>by have:=d (q:=q) f;omega) (by rw[oU]at j;omega) n
theorem aOQ:uz 64 cYJ:=jL agQ λ_ _ _ _⟨v,q,e,c,d⟩=>⟨SizeOf.sizeOf q+1,v,q,e,c,aC,d⟩
theorem cfJ{α f}{l:List α}{i x}(hx:l[i]?=some x):((l.take i).map f++l.drop i)[i]?=some x/\((l.take i).map f++l.drop i).set i (f x)=(l.take (i+1)).map f++l.drop (i+1):=by
 have c:=(sg hx);have d:((l.take i).map f).length=i:=da
 simp_all[ci,Nat.sub_self,set_append_right,set_cons_zero,sy]
theorem asZ:∀N,uz 131 (c2Q N)
 |0=>by
  refine gV func131 ?_;rintro a' m h K⟨Y,b,o,s,q,v,bs,ps,rfl,hN,_⟩;omega
 |N+1=>by
  refine gV func131 ?_;rintro a' m h K⟨Y,b,o,s,q,v,bs,ps,rfl,hN,hs,ha,hw,hb,hK⟩;refine⟨cFZ N b o s,rfl,aD HR (aD (asZ N) aG),Wz N b o s,bt,?_⟩;dsimp only[Wz,push_cast];have t:=@vV q;obtain⟨op,ta,w,co,on,gr,od,li,args⟩:=q;simp only[ae.args]at t;obtain⟨h1,h2,Z,A,J,M,rfl,O⟩:=hw;have x:=h1.parts;refine⟨v.ap,ha.rd (k:=2) rfl (by show 2+13<=21;omega),v.ap,s,w,ps,rfl,x.ap,hs,λP g1 g a0=>?_⟩;obtain⟨F,c1,c2,c3⟩:=ha;refine⟨F,68,⟨c1⟩,aC,λI up=>?_⟩
  have e1:I b=some (.cells ⟨aq F.toList o (QV.ag {v with ap:=P})⟩ 68 (0,0)):=by
   rw[up.y,bNQ (L:=QV.ag v) (xs:=PV.ag P) c3 (by show 2+13<=21;omega) (by rw[Array.length_toList];exact c2)];rfl
  have a1:og I b o {v with ap:=P}:=og.wrote c2 e1;have a2:=J.len;have a3:v.args.len=args.length:=by rw[cH.e M.row,length_map,a2]
  have B:=O;rw[nodup_append]at B;have kb:∀d∈HY v.args++A,I d=m d:=λd j=>up.ai d λe=>hb (by rw[<-e];exact j);refine⟨v.args,a1.rd (k:=20) rfl (by show 20+1<=21;omega),λz=>z.2.1=v.args.len/\z.1<=args.length/\PH.le g1 z.2.2.2/\z.2.2.1 b=I b/\(∀d,d≠b->d∉HY v.args++A->z.2.2.1 d=m d)/\∃Z,K2 Y z.2.2.1 z.2.2.2 ((args.take z.1).map (eY ps)++args.drop z.1) Z A/\fU Y z.2.2.1 v.args 68 21 (Z.map QV.ag),λz=>args.length-z.1,⟨(0,v.args.len,I,g1),⟨rfl,bu,.refl _,rfl,λd Q _=>up.ai d Q,Z,?_,M.qr λd j=>kb d (mem_append_left _ j)⟩,MT⟩,?_⟩
  .simpa using J.br g (λ_ e=>e) λd j=>kb d (mem_append_right _ j)
  rintro⟨i,n,mx,hx⟩⟨rfl,hi,le,eb,eo,R,C,G⟩;dsimp only at hi le eb eo C G⊢
  refine aE (λS=>?_) (λa8=>?_)
  .have⟨qi,y⟩:=eF a3 S;have⟨s1,s2⟩:=cfJ (f:=eY ps) y;have⟨u,bi,e2,e3,e4,e5⟩:=C.dv B.2.1 s1;have⟨H,ea,hl,a4,put⟩:=G.putQ e2;have D:H∈HY v.args:=by rw[HY,ea];exact mem_singleton.2 rfl
   have a9:=t (si y)
   have ax:og mx b o {v with ap:=P}:=by
    obtain⟨cu,u1,u2,u3⟩:=a1;exact⟨cu,by rw[eb];exact u1,u2,u3⟩
   refine⟨v.args,ax.rd (k:=20) rfl (by show 20+1<=21;omega),H,0,ea,aC,S,Y,H,0+i*21,s,qi,u,bi,ps,by rw[Int.toNat_natCast],aC,bF.mono hs (g.trans le),a4,e4,λT=>B.2.2 H D H (e3 H T) rfl,λu' U V W E a5=>⟨(i+1,v.args.len,U,V),⟨rfl,by show i+1<=args.length;have:=(sg y);omega,le.trans W,?_,λd Q X=>?_,R.set i u',?_,put u' U bi E⟩,by show args.length-(i+1)<args.length-i;have:=(sg y);omega,?_⟩⟩
   .show U b=I b;rw[E.2 b (λe=>hb (by rw[e];exact mem_append_left _ D)) (λT=>hb (mem_append_right _ (e3 b T)))];exact eb
   .show U d=m d;rw[E.2 d (λe=>X (by rw[e];exact mem_append_left _ D)) (λT=>X (mem_append_right _ (e3 d T)))];exact eo d Q X
   .have:=e5 (eY ps qi) u' U V W a5 λd j a6=>E.2 d (λe=>B.2.2 H D d j e.symm) a6;rw[s2]at this;exact this
   .have:=(sg y);rw[fH aC];exact MT
  .have a7:i=args.length:=by omega
   subst a7;rw[take_length,drop_length,append_nil]at C;refine hK {v with ap:=P} mx hx (g.trans le) ⟨⟨F,c1,by rw[eb,e1]⟩,λd Q X=>eo d Q X⟩ ?_;have xm:=x;simp only[eY,LH];exact⟨pV.fm {jp:=x.jp,dd:=x.dd,ap:=a0.mono le,aw:=x.aw.mono (g.trans le),ez:=x.ez.mono (g.trans le),az:=x.az.mono (g.trans le),bd:=x.bd.mono (g.trans le),dm:=x.dm,bf:=aU.nil hx 21 QV.ag _},by rw[length_map];exact h2,R,A,C,G,rfl,O⟩
theorem bbX:uz 131 c2X:=jL asZ λ_ _ _ _⟨c,b,o,s,q,v,d,ps,e,f⟩=>⟨SizeOf.sizeOf q+1,c,b,o,s,q,v,d,ps,e,aC,f⟩
theorem bUQ:uz 89 c1X:=by
 refine Uy func89 ?_;rintro M m h K⟨v,s,q,ps,rfl,O,P,Q,R⟩;refine⟨dcX,rfl,aD aOQ (aD bbX aG),Ti v s m h (dR h K),bt,?_⟩;show Ti v s m h (dR h K);dsimp only[Ti,push_cast];refine⟨v,q,rfl,O,Q,λS T Z A t f g b m2 u up=>⟨⟨_⟩,68,⟨up.y⟩,bx,λH j=>?_⟩⟩;have I:b∉A:=λB=>(g.cj b B).2 u.m_;have J:∀c,c≠b->H c=T c:=λc n=>by rw[j.ai c n,up.ai c n]
 have C:=g.br (.refl _) (λ_ e=>e) (m':=H) λc U=>J c λe=>I da;refine⟨m,b,0,s,q,S,A,ps,rfl,bF.mono P t,⟨_,j.y,bz,rfl⟩,C,I,λz V h4 D y E=>?_⟩
 have F:og V b 0 z:=by
  have⟨W,G,c2⟩:=y.1;rw[j.y]at G;simp only[ss,Obj.cells.injEq]at G;obtain⟨rfl,_⟩:=G
  grind[og.wrote,size_toArray,te]
 refine⟨z,mp (F.rd (k:=0) (l:=QV.ag z) rfl (by show 0+21<=21;omega)),?_⟩;refine dR.ig (λc o e=>?_) (t.trans D) λd le=>R z _ le (E.ig d)
 have L:c≠b:=λX=>by
  have:=f c o e;rw[X,u.m_]at this;cases this
 have Y:c∉A:=λB=>by rw[(g.cj c B).1]at e;cases e
 rw[y.2 c L Y,J c L];exact f c o e
abbrev Rel:=tj
theorem c8J{l x}:Lq l x=false↔x∉l:=by
 grind[Ke]
structure EK(l k:tj):Prop where
 mem:∀x,x∈k↔x∈l
 len:k.length=l.length
 jw:k.Pairwise λx y=>cV x y<=0
def YE(N:Nat):AC:=λc m h K=>∃s l,c=[cS s]/\Rows h s l/\l.length<N/\l.length<=8000000/\∀d h' k,PH.le h h'->Rows h' d k->EK l k->K (cS d) m h'
def bCQ:AC:=λc m h K=>∃s l,c=[cS s]/\Rows h s l/\l.length<=8000000/\(∀r∈l,r.length<=1000)/\∀d h',PH.le h h'->Rows h' d (AT l)->K (cS d) m h'
def czQ N s m:=
 dD [(48,BJ),(184,YE N)] [(5,{A:=Sl×Sl×tq×PH,st:=λ⟨a,b,c,h⟩=>bO 63 64 [(3,sv a),(4,sv b),(5,.at (.au 25))] [(25,.au 75 1 (c.map eS))] m h})] [(4,{A:=Sl×Sl×PH,st:=λ⟨a,b,h⟩=>bO 63 64 [(0,sv s),(3,sv a),(4,sv b)] [] m h})] [] false
def cBZ m:=
 dD [(48,BJ),(37,Qj),(184,YE 8000001)] [(3,{A:=Nat×Sl×tq×PH,st:=λ⟨i,t,c,h⟩=>bO 34 35 ([(3,.at (.au 31))]++WF 7 t i) [(31,.au 75 1 (c.map eS))] m h})] [] [] false
abbrev sC a:=Uu (Int.tdiv (aF a) 2)
abbrev E6(a:uc)(b:PH)(c:Nat)(d:tj->Sl->PH->tj->Prop):=IB (λx e=>a=mO x/\Rows b x e/\e.length<c/\wO e/\jA (λg f=>∀j,cO b f (Rows f g j) (d e g f j)))
abbrev sH(a:Sl×Sl×PH):=a.2.1
abbrev nJ(a:Sl×Sl×PH):=a.2.2
abbrev nU(a:Sl×Sl×tq×PH):=a.2.1
abbrev kQ(a:Sl×Sl×tq×PH):=a.2.2.2
abbrev qX(a:Sl×Sl×tq×PH):=lX a.2.2.1
abbrev Np(a:Sl×Sl×tq×PH)(b c:Nat)(d:Sl)(e:(Sl×Sl×tq×PH)->Prop):=bJ (kQ a) b (fJ c) (aT d)/\cJ (fS (qX a) 1*24)/\fA (qX a)/\∃x,e x
abbrev nQ(a:Nat×Sl×tq×PH):=a.2.1
abbrev sN(a:Nat×Sl×tq×PH):=a.2.2.2
abbrev tT(a:Nat×Sl×tq×PH):=lX a.2.2.1
attribute [push_cast] sC E6 sH nJ nU kQ qX Np nQ sN tT
def V8 N s:=λm h K=>aX (aF s) 2 (∃y,dA 1 y/\bT h (bK s) 1 y/\zA y 24/\cJ y.length/\rH h y K m) (∃I:Sl×Sl×PH->Prop,let M:=[Er s.a (sC s).toNat s.cap];(jP ((2:Int)=0)/\jP ((2:Int)=0)/\((dK (sC s)/\xB (sC s) s/\E6 M h N (λl e z k=>EK l k->dK (sC s)/\sC s<=aF s/\tS s/\∀u,tJ 1 (bK s) (sC s).toNat u->E6 (mO u) z N (λA B C D=>EK A D->∃x,I x/\aH s/\bC e x.1/\bC B (sH x)/\eV (m=m) (C=nJ x)))/\dK (sC s)/\sC s<=aF s/\tS s/\∀e,tJ 1 (bK s) (sC s).toNat e->E6 M h N (λl u z k=>EK l k-> E6 (mO e) z N (λA B C D=>EK A D->∃x,I x/\aH s/\bC u x.1/\bC B (sH x)/\eV (m=m) (C=nJ x))))/\dK (sC s)/\sC s<=aF s/\tS s/\∀e,tJ 1 (bK s) (sC s).toNat e->dK (sC s)/\xB (sC s) s/\E6 M h N (λl u z k=>EK l k->E6 (mO e) z N (λA B C D=>EK A D->∃x,I x/\aH s/\bC u x.1/\bC B (sH x)/\eV (m=m) (C=nJ x)))))/\∀x,I x->ML 0 (dK (aF s)) s (∃(I1:Sl×Sl×tq×PH->Prop)(t:Sl×Sl×tq×PH->Nat),(∃c,I1 c/\bC x.1 c.1/\bC (sH x) (nU c)/\eL 25/\bX (Ab (pI c.2.2)) m m (nJ x) (kQ c))/\∀c,let H:=∃y,wS (dA 1 y) (bT (kQ c) (bK c.1) 1 y) (lK (qX c) y 24) (cJ (lL (qX c) y)) (λn=>dA 1 n/\bT (kQ c) (bK (nU c)) 1 n/\lK (qX c++y) n 24/\cJ (lL (qX c++y) n)/\rH (kQ c) (qX c++y++n) K m);I1 c->eH (aF c.1) 0 (eH (aF (nU c)) 0 (aM (λb o=>aR c.1.a b o/\(0:Int)<=0/\0<aF c.1/\∃y,aK m (kQ c) b (fJ o) (aT y)/\aM (λE F=>aR (nU c).a E F/\(0:Int)<=0/\0<aF (nU c)/\∃n,aK m (kQ c) E (fJ F) (aT n)/\rG y n (kQ c) (λa G=>F3 (cV a G) 0 (aM (λg j=>aR c.1.a g j/\(0:Int)<=0/\0<aF c.1/\∃f,let J:=bJ (kQ c) g (fJ j) (aT f);aK m (kQ c) g (fJ j) (aT f)/\((J/\cJ (fS (qX c) 1*24)/\fA (qX c)/\J/\dK 1/\1<=aF c.1/\tS c.1/\∀e,tJ 1 (bK c.1) 1 e->∃d,I1 d/\t d<t c/\bC e d.1/\bC (nU c) (nU d)/\eL 25/\cE 75 1 (iI (qX c) f)=pI d.2.2/\m=m/\kQ c=kQ d/\True)/\J/\dK 1/\1<=aF c.1/\tS c.1/\∀e,tJ 1 (bK c.1) 1 e->Np c g j f (λd=>I1 d/\t d<t c/\bC e d.1/\bC (nU c) (nU d)/\eL 25/\cE 75 1 (iI (qX c) f)=pI d.2.2/\m=m/\kQ c=kQ d/\True))/\J/\dK 1/\1<=aF c.1/\tS c.1/\∀e,tJ 1 (bK c.1) 1 e->Np c g j f (λd=>I1 d/\t d<t c/\bC e d.1/\bC (nU c) (nU d)/\eL 25/\cE 75 1 (iI (qX c) f)=pI d.2.2/\m=m/\kQ c=kQ d/\True))) (aM (λg j=>aR (nU c).a g j/\(0:Int)<=0/\0<aF (nU c)/\∃f,let L:=bJ (kQ c) g (fJ j) (aT f);aK m (kQ c) g (fJ j) (aT f)/\((L/\cJ (fS (qX c) 1*24)/\fA (qX c)/\L/\dK 1/\1<=aF (nU c)/\tS (nU c)/\∀e,tJ 1 (bK (nU c)) 1 e->∃d,I1 d/\t d<t c/\bC c.1 d.1/\bC e (nU d)/\eL 25/\cE 75 1 (iI (qX c) f)=pI d.2.2/\m=m/\kQ c=kQ d/\True)/\L/\dK 1/\1<=aF (nU c)/\tS (nU c)/\∀e,tJ 1 (bK (nU c)) 1 e->Np c g j f (λd=>I1 d/\t d<t c/\bC c.1 d.1/\bC e (nU d)/\eL 25/\cE 75 1 (iI (qX c) f)=pI d.2.2/\m=m/\kQ c=kQ d/\True))/\L/\dK 1/\1<=aF (nU c)/\tS (nU c)/\∀e,tJ 1 (bK (nU c)) 1 e->Np c g j f (λd=>I1 d/\t d<t c/\bC c.1 d.1/\bC e (nU d)/\eL 25/\cE 75 1 (iI (qX c) f)=pI d.2.2/\m=m/\kQ c=kQ d/\True))))))) H) H))
def Wd s:=λm h K=>E6 (mO s) h 8000001 (λl j t k=>EK l k->∃(I:Nat×Sl×tq×PH->Prop)(d:Nat×Sl×tq×PH->Nat),(∃x,I x/\eL 31/\bC j (nQ x)/\cT j (nQ x)/\bB x.1/\Ab (pI x.2.2)/\m=m/\t=sN x/\True)/\∀x,I x->aX x.1 (aF (nQ x)) (aM (λb o=>aR (nQ x).a b o/\0<=(↑x.1:Int)/\x.1<aF (nQ x)/\∃y,let A:=Be y (sN x) (λf g=>lJ (tT x) 24 (∃c,I c/\d c<d x/\eL 31/\bC (nQ x) (nQ c)/\cT (nQ x) (nQ c)/\fI (bA x.1 1)=bR c.1/\cE 75 1 (iI (tT x) f)=pI c.2.2/\m=m/\dC g (sN c)));aK m (sN x) b (bI o x.1 1) (aT y)/\dP (nV (tT x)) 0 A (GW (dK (jZ (tT x).length)) (jZ (tT x).length<nV (tT x)) (λe=>yT (tT x) (jZ (tT x).length).toNat e/\∃n,List.take 1 (List.drop 0 e)=aT n/\rG n y (sN x) (λa u=>cM (cV a u) 0 A (∃c,I c/\d c<d x/\eL 31/\bC (nQ x) (nQ c)/\cT (nQ x) (nQ c)/\fI (bA x.1 1)=bR c.1/\pI x.2.2=pI c.2.2/\m=m/\dC (sN x) (sN c))))))) (rH (sN x) (tT x) K m))
theorem UT{s l}(x:Rows h s l){n}(f:n<=l.length):Rows h ⟨s.a,n,s.cap⟩ (l.take n):=by
 obtain⟨⟨c,g,d,j⟩,o⟩:=x;refine⟨⟨c.take n,by grind[map_take,bT.cut],by simp[d],λi y e=>?_⟩,cv⟩
 grind
structure Gc(l o a b:tj):Prop where
 mem:∀x,(x∈o\/x∈a\/x∈b)↔x∈l
 len:o.length+a.length+b.length=l.length
 so:o.Pairwise λx y=>cV x y<=0
 sa:a.Pairwise λx y=>cV x y<=0
 sb:b.Pairwise λx y=>cV x y<=0
 oa:∀x∈o,∀y∈a,cV x y<=0
 ob:∀x∈o,∀y∈b,cV x y<=0
theorem Gc.swap{l o a b}(m:Gc l o a b):Gc l o b a:=⟨λx=>by rw[or_comm (a:=x∈b)];exact m.mem x,by have:=m.len;omega,m.so,m.sb,m.sa,m.ob,m.oa⟩
theorem Gc.left{l o a b x y}(m:Gc l o (x::a) b)(g:b=[]\/∃f,b=y::f/\cV x y<=0):Gc l (o++[x]) a b:=by
 have j:=pairwise_cons.1 m.sa;refine⟨λz=>?_,by have:=m.len;grind,?_,j.2,m.sb,λz c w d=>?_,λz c w d=>?_⟩
 .rw[<-m.mem z,mem_append,mem_singleton,mem_cons,or_assoc,or_assoc]
 .rw[pairwise_append];exact⟨m.so,bu,λz c w d=>by rw[mem_singleton.1 d];exact m.oa z c x bu⟩
 .rcases mem_append.1 c with c|c
  .exact m.oa z c w (by simp[d])
  grind
 .rcases mem_append.1 c with c|c
  .exact m.ob z c w d
  .rw[mem_singleton.1 c];rcases g with e|⟨f,e,h⟩
   .grind
   .subst e;have n:=pairwise_cons.1 m.sb;rcases mem_cons.1 d with rfl|d
    .exact h
    grind[AG]
theorem Gc.done{l o a b}(m:Gc l o a b)(h:a=[]\/b=[]):EK l (o++a++b):=by
 refine⟨λx=>?_,by have:=m.len;simp;omega,?_⟩
 .rw[<-m.mem x];grind
 .rcases h with rfl|rfl
  .rw[append_nil,pairwise_append];exact⟨m.so,m.sb,m.ob⟩
  .rw[append_nil,pairwise_append];exact⟨m.so,m.sa,m.oa⟩
theorem apX:∀N,uz 184 (YE N)
 |0=>by
  refine gV func184 ?_;rintro a' m h K⟨s,l,rfl,_,hN,_⟩;omega
 |N+1=>by
  refine gV func184 ?_;rintro a' m h K⟨s,l,rfl,P,hN,hl,hK⟩;refine⟨czQ N s m,rfl,aD yV (aD (apX N) aG),V8 N s,bt,?_⟩;dsimp only[V8,push_cast];have X:=aU.e P;have a1:=Ir P;refine aE (λh2=>?_) (λh2=>?_)
  .have⟨D,hr,h3,h4⟩:=P.1;have a0:=P.2;refine⟨D.map eS,qS D,hr,da,da,λW h' le G=>hK W h' l le ⟨⟨D,G,h3,λi x e=>?_⟩,a0⟩ ⟨λx=>Iff.rfl,rfl,?_⟩⟩
   .grind[bF.mono]
   .match l,X with
    |[],_=>simp
    |[x],_=>simp
    |x::y::r,X=>grind
  .obtain⟨n,hn⟩:∃n,n=l.length/2:=⟨_,rfl⟩
   have hw:IntKind.i64.wrap ((s.len:Int).tdiv 2)=((n:Nat):Int):=by
    grind[Int.tdiv_eq_ediv_of_nonneg,dW]
   rw[hw];have R:∀{Q},PH.le h Q->Rows Q s l:=fun{Q} le=>aU.mono P le λr t Y=>bF.mono Y le;refine⟨λz=>∃f g,PH.le h z.2.2/\Rows z.2.2 z.1 f/\Rows z.2.2 z.2.1 g/\EK (l.take n) f/\EK (l.drop n) g,?_,?_⟩
   .repeat' first
     |refine And.intro ?_ ?_
     |exact fun(e:(2:Int)=0)=>absurd e bx
     |omega
     |refine fun(d:Sl)(j:tJ 1 _ _ d)=>?_
     |refine⟨⟨s.a,n,s.cap⟩,l.take n,rfl,(by first|exact UT P aC|exact UT (R Z) aC),by rw[length_take];omega,by rw[length_take];omega,λT ha f l1 u pa=>?_⟩
     |refine⟨d,l.drop n,rfl,(by first|exact Eg P j aC|exact Eg (R l1) j aC),by rw[length_drop];omega,by rw[length_drop];omega,λU hb g Z C pb=>?_⟩
     |exact⟨(T,U,hb),⟨f,g,l1.trans Z,aU.mono u Z λr t Y=>bF.mono Y Z,C,pa,pb⟩,MT⟩
     |exact⟨(T,U,ha),⟨f,g,Z.trans l1,u,aU.mono C l1 λr t Y=>bF.mono Y l1,pa,pb⟩,MT⟩
     |fail
   .rintro⟨a,b,Q⟩⟨f,g,fa,u,C,T,U⟩;dsimp only at fa u C⊢
    have nm:Gc l [] f g:=⟨λx=>by rw[T.mem,U.mem];simp only[not_mem_nil,false_or];rw[<-mem_append,take_append_drop],by have h1:=T.len;have h2:=U.len;grind,bu,T.jw,U.jw,bu,bu⟩
    refine⟨aC,aC,aC,aC,λz=>∃o f g,PH.le Q z.2.2.2/\Rows z.2.2.2 z.1 f/\Rows z.2.2.2 z.2.1 g/\eN z.2.2.2 z.2.2.1 o/\Gc l o f g,λz=>z.1.len+z.2.1.len,⟨(a,b,[],Q),⟨[],f,g,.refl _,u,C,eN.nil Q,nm⟩,MT⟩,?_⟩;clear nm T U u C f g;rintro⟨a,b,D,E⟩⟨o,f,g,H,u,C,ru,M⟩;dsimp only at H u C ru⊢
    have a2:=aU.e u;have a3:=aU.e C;have a4:=Ir u;have a5:=Ir C;have a6:=ru.len;have a7:=M.len
    have du:f=[]\/g=[]->∃V,dA 1 V/\bT E ⟨a.a,a.len,a.cap⟩ 1 V/\((D.map eS).length+V.length)*24<=140737488355328/\(D.map eS).length+V.length<=140737488355328/\∃F,dA 1 F/\bT E ⟨b.a,b.len,b.cap⟩ 1 F/\((D.map eS++V).length+F.length)*24<=140737488355328/\(D.map eS++V).length+F.length<=140737488355328/\∀W h',PH.le E h'->bT h' W 1 (D.map eS++V++F)->K (cS W) m h':=λhe=>by
     obtain⟨⟨ua,q1,q2,q3⟩,q4⟩:=u;obtain⟨⟨ub,p1,p2,p3⟩,p4⟩:=C;refine⟨ua.map eS,qS ua,q1,cv,cv,ub.map eS,qS ub,p1,cv,cv,λW h' le G=>?_⟩;rw[<-sn,<-sn]at G;have A:eN E ua f:=⟨q2.symm,q3⟩
     have B:eN E ub g:=⟨p2.symm,p3⟩
     have S:=M.done he;exact hK W h' _ (fa.trans (H.trans le)) ((((ru.jm A).jm B).mono le).rows G da) S
    refine aE (λh1=>aE (λh2=>?_) (λh2=>?_)) (λh1=>?_)
    .obtain⟨x,I,rfl⟩:∃x r,f=x::r:=by
      cases f with
      |nil=>grind
      |cons x r=>grind
     obtain⟨y,J,rfl⟩:∃x r,g=x::r:=by
      cases g with
      |nil=>grind
      |cons x r=>grind
     have⟨b1,o1,ux,e1,L,v1⟩:=aU.at u (i:=0) rfl;have⟨b2,o2,uy,e2,O,v2⟩:=aU.at C (i:=0) rfl;have L:bJ E b1 (o1+0) [fW ux]:=by grind[eS]
     have O:bJ E b2 (o2+0) [fW uy]:=by grind[eS]
     have mg:((D.map eS).length+1)*24<=140737488355328/\(D.map eS).length<140737488355328:=by
      grind
     refine⟨b1,o1,e1,aC,aC,ux,.ay L,b2,o2,e2,aC,aC,uy,.ay O,ux,uy,x,y,rfl,v1,v2,aE (λh3=>⟨b1,o1,e1,aC,aC,ux,.ay L,?_⟩) (λh3=>⟨b2,o2,e2,aC,aC,uy,.ay O,?_⟩)⟩
     .have nx:∀d,tJ 1 ⟨a.a,a.len,a.cap⟩ 1 d->Rows E d I/\d.len+b.len<a.len+b.len:=λd j=>⟨Eg u j bu,by have:=j.len;grind⟩
      have M2:=M.left (.inr ⟨J,rfl,h3⟩)
      repeat' first
       |refine And.intro ?_ ?_
       |exact mg.1
       |exact mg.2
       |exact L
       |omega
       |refine fun(d:Sl)(j:tJ 1 _ _ d)=>?_
       |exact⟨(d,b,D++[ux],E),⟨o++[x],I,y::J,H,(nx d j).1,C,ru.cw v1,M2⟩,(nx d j).2,by rw[sn];exact MT⟩
       |fail
     .have nx:∀d,tJ 1 ⟨b.a,b.len,b.cap⟩ 1 d->Rows E d J/\a.len+d.len<a.len+b.len:=λd j=>⟨Eg C j bu,by have:=j.len;grind⟩
      have M2:=(M.swap.left (.inr ⟨I,rfl,by grind[lG]⟩)).swap
      repeat' first
       |refine And.intro ?_ ?_
       |exact mg.1
       |exact mg.2
       |exact O
       |omega
       |refine fun(d:Sl)(j:tJ 1 _ _ d)=>?_
       |exact⟨(a,d,D++[uy],E),⟨o++[y],x::I,J,H,u,(nx d j).1,ru.cw v2,M2⟩,(nx d j).2,by rw[sn];exact MT⟩
       |fail
    .exact du (.inr (eq_nil_of_length_eq_zero aC))
    .exact du (.inl (eq_nil_of_length_eq_zero aC))
structure d0Q(k o:tj)(i:Nat):Prop where
 mem:∀x,x∈o↔x∈k.take i
 jw:iY o
 len:o.length<=i
theorem Lv:uz 156 bCQ:=by
 refine gV func156 ?_;rintro a3 m h K⟨s,l,rfl,hs,hl,hr,hK⟩;refine⟨cBZ m,rfl,aD yV (aD Gu (aD (apX 8000001) aG)),Wd s,bt,?_⟩;dsimp only[Wd,push_cast];refine⟨s,l,rfl,hs,aC,hl,λt A k M rk S=>?_⟩;have O:=aU.e rk;have a4:=S.len;refine⟨λz=>z.1<=k.length/\z.2.1=t/\PH.le A z.2.2.2/\∃o,eN z.2.2.2 z.2.2.1 o/\d0Q k o z.1,λz=>k.length-z.1,⟨(0,t,[],A),⟨bu,rfl,.refl _,[],eN.nil A,⟨bu,List.Pairwise.nil,bu⟩⟩,MT⟩,?_⟩;rintro⟨i,P,F,hx⟩⟨hi,e,fa,o,G,D⟩;dsimp only at hi e fa G D⊢
 subst e;have a5:=G.len;have a6:=D.len;refine aE (λQ=>?_) (λa7=>?_)
 .have⟨x,c⟩:=eF O Q;have⟨b,off,u,ea,rd,H⟩:=aU.at rk c;have H:=bF.mono H fa;have I:x.length<=1000:=hr x ((S.mem x).1 (si c));have B:=(sg c);have tk:k.take (i+1)=k.take i++[x]:=by rw[sy,c];rfl
  have d:∀y∈k.take i,cV y x<=0:=λy R=>by
   have hp:=S.jw;rw[<-take_append_drop i k,pairwise_append]at hp;refine hp.2.2 y R x ?_;have⟨T,e⟩:=List.getElem?_eq_some_iff.1 c;rw[drop_eq_getElem_cons T,e];simp
  have J:x∉o->∀g h',PH.le hx h'->bF h' g x->((F.map eS).length+1)*24<=140737488355328/\(F.map eS).length<140737488355328/\∃z:Nat×Sl×tq×PH,(z.1<=k.length/\z.2.1=P/\PH.le A z.2.2.2/\∃o,eN z.2.2.2 z.2.2.1 o/\d0Q k o z.1)/\k.length-z.1<k.length-i/\z=(i+1,P,F++[g],h'):=λL g h' le f=>by
   refine⟨da,da,_,⟨aC,rfl,fa.trans le,o++[x],(G.mono le).cw f,⟨λy=>?_,?_,cv⟩⟩,aC,rfl⟩
   .rw[tk,mem_append,mem_append,D.mem y]
   .refine pairwise_append.2 ⟨D.jw,bu,λy R z hz=>?_⟩;rw[mem_singleton.1 hz];have A:=d y ((D.mem y).1 R);rcases Int.lt_or_eq_of_le A with h|h
    .exact h
    .rw[eX]at h
     grind
  have hw:IntKind.i64.wrap ((i:Int)+1)=((i+1:Nat):Int):=fH aC;rw[hw];have a8:i<k.length:=B;refine⟨b,off,ea,aC,aC,u,.ay (rd.mono fa),aB (λC=>⟨u,x,rfl,H,I,λg h' le f=>?_⟩) (λC=>?_)⟩
  .have C:=eq_of_beq C;rw[length_map]at C;have:o=[]:=eq_nil_of_length_eq_zero aC;obtain⟨U,V,z,W,X,rfl⟩:=J da g h' le f;exact⟨U,V,_,W,X,by rw[sn];exact MT⟩
  .have C:=ne_of_beq_false C;rw[length_map]at C;have a2:0<o.length:=by omega
   have Y:IntKind.i64.wrap (((F.map eS).length:Int)-1)=((o.length-1:Nat):Int):=by
    rw[length_map,show((F.length:Int)-1)=((o.length-1:Nat):Int)by omega];exact dW aC aC
   rw[Y];have E:o[o.length-1]?=some (o[o.length-1]'(by omega)):=sh _;have⟨Z,a9,a'⟩:=G.at E;refine⟨aC,da,eS Z,da,Z,rfl,Z,u,_,x,rfl,a',H,aB (λe1=>⟨u,x,rfl,H,I,λg h' le f=>?_⟩) (λe1=>?_)⟩
   .have L:x∉o:=λhm=>by
     have A:=d _ ((D.mem _).1 (getElem_mem (l:=o) (n:=o.length-1) aC));have⟨j,T,e⟩:=mem_iff_getElem.1 hm;by_cases a0:j=o.length-1
     .subst a0;rw[e,eX.2 rfl]at e1;simp at e1
     .have h2:=pairwise_iff_getElem.1 D.jw j (o.length-1) T aC aC;rw[e]at h2;have:=lG x (o[o.length-1]'(by omega));omega
    obtain⟨U,V,z,W,X,rfl⟩:=J L g h' le f;exact⟨U,V,_,W,X,by rw[sn];exact MT⟩
   .have hz:o[o.length-1]'(by omega)=x:=by
     have:cV (o[o.length-1]'(by omega)) x=0:=da
     exact eX.1 this
    refine⟨(i+1,P,F,hx),⟨aC,rfl,fa,o,G,⟨λy=>?_,D.jw,aC⟩⟩,aC,MT⟩;rw[tk,mem_append,mem_singleton,<-D.mem y]
    grind
 .intro g h' le a1;have B:i=k.length:=by omega
  subst B;have e:o=AT l:=La D.jw (EX l) λx=>by rw[D.mem x,take_length,S.mem x,Ip]
  exact hK g h' (M.trans (fa.trans le)) (by rw[<-e];exact(G.mono le).rows a1 aC)
variable{cN:Nat}
def dRJ:AC:=λc m h K=>∃s t l r,c=[cS s,cS t]/\Rows h s l/\bF h t r/\iY l/\K (cB (Lq l r)) m h
def c1Q:AC:=λc m h K=>∃s t i l k,c=[cS s,cS t,cB i]/\Rows h s l/\Rows h t k/\iY k/\l.length<=8000000/\∀d h',PH.le h h'->Rows h' d (l.filter λx=>Lq k x==i)->K (cS d) m h'
def dcQ s t m h:=
 dD [(48,BJ)] [(2,{A:=Nat×Nat,st:=λ⟨c,d⟩=>bO 42 44 [(0,sv s),(1,sv t),(5,iv c),(6,iv d)] [] m h})] [] [] false
def cxJ s t i m h:=
 dD [(90,dRJ)] [(3,{A:=Nat×tq,st:=λ⟨j,c⟩=>bO 27 30 ([(1,sv t),(2,bv i),(7,.at (.au 24))]++WF 10 s j) [(24,.au 75 1 (c.map eS))] m h})] [] [] false
abbrev Jq(a:Nat×Nat):=bA a.1 (Uu (Int.tdiv (jQ a.2 a.1) 2))
abbrev MQ(a:(Nat×tq->Prop)->(Nat×tq)->Prop)(b:Sl)(c:MH)(d:PH)(e:(Nat×tq->Prop)->(Nat×tq->Nat)->(Nat×tq)->Sl->Prop)(g:(Nat×tq)->Prop):=∃x t,(∃f,a x f)/\∀f,x f->aX f.1 (aF b) (ab b f.1 1 aT c d (λo=>e x t f o)) (g f)
abbrev MP(a:Nat×tq)(b:(Nat×tq)->Prop):=lJ (lX a.2) 24 (∃x,b x)
abbrev Hs(a:Nat)(b:Nat×tq):=fI (bA a 1)=bR b.1
abbrev DW(a b:Nat×tq):=pS a.2=pS b.2
attribute [push_cast] Jq MQ MP Hs DW
def acX(s t:Sl):ST:=λm h K=>Nq (λI x=>I x/\aH s/\aH t/\bB x.1/\bX (bR s.len=bR x.2) m m h h) (λI d x=>I x->aX x.1 x.2 (jP ((2:Int)=0)/\ab s (Jq x) 1 aT m h (λy=>rG y t h (λa e=>aX (cV a e) 0 (∃c,I c/\d c<d x/\aH s/\aH t/\SV.at (At.val (pW (j6 (Jq x) 1)))=bR c.1/\bP x.2 c.2/\m=m/\h=h/\True) (∃c,I c/\d c<d x/\aH s/\aH t/\bP x.1 c.1/\SV.at (At.val (pW (Jq x)))=bR c.2/\m=m/\h=h/\True)))) (aX x.1 (aF s) (aM (λb o=>aR s.a b o/\0<=(↑x.1:Int)/\x.1<aF s/\∃y,aK m h b (bI o
 x.1 1) (aT y)/\rG y t h (λa e=>K (AU (cV a e==0)) m h))) (K bH m h)))
def V3 s t i:=λm h K=>MQ (λI x=>I x/\aH t/\eQ (Zr i)/\eL 24/\aH s/\aY s/\bB x.1/\Ab (pS x.2)/\gM m m h h) s m h (λI d x y=>lC (λe f=>∃l r,fG t y=fG e f/\Rows h e l/\bF h f r/\iY l/\branch (Lq l r==i) (MP x (λc=>I c/\d c<d x/\aH t/\eQ (Zr i)/\eL 24/\aH s/\aY s/\Hs x.1 c/\bX (cE 75 1 (iI (lX x.2) y)=pS c.2) m m h h)) (∃c,I c/\d c<d x/\aH t/\eQ (Zr i)/\eL 24/\aH s/\aY s/\Hs x.1 c/\bX (DW x c) m m h h))) (λx=>rH h (lX x.2) K m)
theorem Vh:uz 90 dRJ:=by
 refine gV func90 ?_;rintro P m h K⟨s,t,l,r,rfl,z,J,hl,D⟩;refine⟨dcQ s t m h,rfl,aD yV aG,acX s t,bt,?_⟩;dsimp only[acX,push_cast];have E:=aU.e z;have Q:=z.len;refine⟨λx=>x.1<=x.2/\x.2<=l.length/\(∀(j:Nat) y,j<x.1->l[j]?=some y->cV y r<0)/\(∀(j:Nat) y,x.2<=j->l[j]?=some y->0<=cV y r),λx=>x.2-x.1,⟨(0,l.length),⟨bu,bu,λj y f=>by simp at f,λj y f A=>da⟩,by rw[E];exact MT⟩,?_⟩;rintro⟨c,d⟩⟨R,L,M,O⟩;dsimp only at R L M O⊢
 have lt:∀{i j:Nat}{x y},l[i]?=some x->l[j]?=some y->i<j->cV x y<0:=fun{i j x y} S A T=>by
  obtain⟨U,rfl⟩:=List.getElem?_eq_some_iff.1 S;obtain⟨V,rfl⟩:=List.getElem?_eq_some_iff.1 A
  grind[pairwise_iff_getElem]
 refine aE (λW=>?_) (λX=>?_)
 .have Y:IntKind.i64.wrap ((d:Int)-(c:Int))=((d-c:Nat):Int):=by
   grind[dW]
  have g:(((d-c:Nat):Int)).tdiv 2=(((d-c)/2:Nat):Int):=by
   grind
  have Z:IntKind.i64.wrap ((((d-c)/2:Nat):Int))=(((d-c)/2:Nat):Int):=dW aC aC
  have e4:IntKind.i64.wrap ((c:Int)+(((d-c)/2:Nat):Int))=((c+(d-c)/2:Nat):Int):=by
   grind[dW]
  rw[Y,g,Z,e4];generalize B:c+(d-c)/2=k;have F:c<=k:=by omega
  have a':k<d:=by omega
  rw[fH aC];have G:k<l.length:=by omega
  have⟨b,o,u,H,rd,I⟩:=aU.at z (sh G);refine⟨bx,b,o,H,aC,aC,u,.ay rd,u,t,l[k],r,rfl,I,J,aE (λC=>?_) (λC=>?_)⟩
  .refine⟨(k+1,d),⟨aC,L,λj y f A=>?_,O⟩,aC,MT⟩
   grind[sh,Ov]
  .refine⟨(c,k),⟨F,aC,M,λj y f A=>?_⟩,aC,MT⟩
   grind[sh,Int.not_lt,Ov]
 .have e:c=d:=by omega
  subst e;refine aE (λC=>?_) (λC=>?_)
  .have n:c<l.length:=by omega
   have⟨b,o,u,H,rd,I⟩:=aU.at z (sh n);refine⟨b,o,H,aC,C,u,.ay rd,u,t,l[c],r,rfl,I,J,?_⟩
   have g:(cV l[c] r==0)=Lq l r:=by
    rw[Bool.eq_iff_iff,beq_iff_eq,Ke,eX];refine⟨λe=>e▸getElem_mem n,λB=>?_⟩;have⟨j,f⟩:=getElem?_of_mem B;have hz:cV r r=0:=eX.2 rfl
    grind
   rw[g];exact D
  .have g:Lq l r=false:=by
    rw[c8J];intro B;have⟨j,f⟩:=getElem?_of_mem B;have hz:cV r r=0:=eX.2 rfl
    grind
   rw[g]at D;exact D
theorem aZX:uz 189 c1Q:=by
 refine gV func189 ?_;rintro E m h K⟨s,t,i,l,k,rfl,A,F,G,M,H⟩;refine⟨cxJ s t i m h,rfl,aD Vh aG,V3 s t i,bt,?_⟩;dsimp only[V3,push_cast];have g:=aU.e A;refine⟨λx=>x.1<=l.length/\x.2.length<=x.1/\eN h x.2 ((l.take x.1).filter λx=>Lq k x==i),λx=>l.length-x.1,⟨(0,[]),⟨bu,bu,by grind[eN.nil]⟩,MT⟩,?_⟩;rintro⟨j,B⟩⟨I,n,c⟩;dsimp only at I n c⊢
 refine aE (λd=>?_) (λJ=>?_)
 .have⟨r,C⟩:=eF g d;have⟨b,o,u,e,rd,D⟩:=aU.at A C;have f:=nB (λx=>Lq k x==i) C;rw[fH aC];refine⟨b,o,e,aC,d,u,.ay rd,t,u,k,r,rfl,F,D,G,aB (λy=>?_) (λy=>?_)⟩
  .rw[if_pos y]at f;exact⟨da,da,(j+1,B++[u]),⟨aC,cv,by rw[f];exact c.cw D⟩,aC,by rw[sn];exact MT⟩
  .rw[if_neg (by rw[y];simp),append_nil]at f;exact⟨(j+1,B),⟨aC,da,by rw[f];exact c⟩,aC,MT⟩
 .rw[sm aC]at c
  exactλL h' le z=>H L h' le ((c.mono le).rows z da)
structure z8(cN:Nat)(s:kD)(q:ae):Prop where
 kinds:(cX s [] q).2=0
 rn:rE (cN+1) q<=8000000
theorem z8.k(g:z8 cN s q):cX s [] q=((cX s [] q).1,0):=Prod.ext rfl g.kinds
theorem IH{s:kD}{ps:ti}:∀{qs:List ae}{ks:List ti},gK s ps qs=(ks,0)->ks.length=qs.length/\∀q∈qs,(cX s ps q).2=0
 |[],ks,h=>by simp[gK]at h;subst h;simp
 |q::qs,ks,h=>by
  simp only[gK]at h;split at h
  .rename_i c;split at h
   .rename_i d;have e:gK s ps qs=((gK s ps qs).1,0):=Prod.ext rfl d;have⟨g,j⟩:=IH e;simp only[Prod.mk.injEq]at h;rw[<-h.1];refine⟨by simp[g],λx f=>?_⟩;rcases mem_cons.1 f with rfl|f
    .exact c
    .exact j x f
   .rename_i d;simp at h;exact(d h.2).elim
  .rename_i c;simp at h;exact(c h.2).elim
theorem dxX{op on args}(d:(cX s [] (.mk op ta w co on gr od li args)).2=0)(j:rE (cN+1) (.mk op ta w co on gr od li args)<=8000000){a}(e:a∈args):rE (cN+1) a<=8000000:=by
 have⟨f,g,n,_⟩:=AE (Prod.ext rfl d);have o:=TY (c:=cN+1) aC g a e
 grind[rE,UR]
theorem c6Z{α}{l:List α}(h:(l.length:Int)=1):∃a,l=[a]:=by
 match l,h with
 |[a],_=>exact⟨a,rfl⟩
 |[],h=>simp at h
 |_::_::_,h=>simp at h;omega
theorem ceX{α}{l:List α}(h:(l.length:Int)=2):∃a b,l=[a,b]:=by
 match l,h with
 |[a,b],_=>grind
 |[],h=>simp at h
 |[_],h=>simp at h
 |_::_::_::_,h=>simp at h;omega
theorem cOZ{op}{n:Nat}(h:(n:Int)=cm op):(op=1/\n=0)\/((op=2\/op=3\/op=9)/\n=1)\/((op=4\/op=5\/op=6\/op=7\/op=8\/op=10)/\n=2):=by
 grind[cm]
theorem z8.cases{op on args}(g:z8 cN s (.mk op ta w co on gr od li args)):
 (op=1/\args=[])\/(∃a,args=[a]/\z8 cN s a/\(op=2\/op=3\/op=9))\/(∃a b,args=[a,b]/\z8 cN s a/\z8 cN s b/\(op=4\/op=5\/op=6\/op=7\/op=8\/op=10)):=by
 have⟨f,j,c,_⟩:=AE g.k;have⟨n,o⟩:=IH j;rw[n]at c;have t:∀a∈args,z8 cN s a:=λa d=>⟨o a d,dxX g.kinds g.rn d⟩
 rcases cOZ c with⟨h,e⟩|⟨h,e⟩|⟨h,e⟩
 .grind
 .obtain⟨a,rfl⟩:=c6Z (l:=args) aC
  grind
 .obtain⟨a,b,rfl⟩:=ceX (l:=args) aC
  grind
theorem UQ{op ta w co on gr od li a}(h:op≠1):fP (.mk op ta w co on gr od li [a])=fP a:=by
 simp[fP,fE,h]
theorem UP{op ta w co on gr od li a b}(h:op≠1):fP (.mk op ta w co on gr od li [a,b])=fP a++fP b:=by
 simp[fP,fE,h]
theorem FP{s:kD}{ls:List tj}:∀(q:ae)(k:Nat),z8 cN s q->(fO ls q k).2=k+(fP q).length
 |.mk op ta w co on gr od li args,k,g=>by
  rcases g.cases with⟨rfl,rfl⟩|⟨a,rfl,d,h⟩|⟨a,b,rfl,d,e,h⟩
  .rw[fO,if_pos rfl];simp[fP,fE]
  .have c:op≠1:=by omega
   rw[fO,if_neg c,gJ,gJ,UQ c];exact FP a k d
  .have c:op≠1:=by omega
   rw[fO,if_neg c,gJ,gJ,gJ,UP c,sj];dsimp only;rw[FP b _ e,FP a k d];omega
theorem dQZ{ls op on a k}(h:op≠1):(fO ls (.mk op ta w co on gr od li [a]) k).1=ZK op (.mk op ta w co on gr od li [a]) [(fO ls a k).1]:=by
 simp_all[fO,gJ]
theorem dQX{ls op on a b k}(h:op≠1):(fO ls (.mk op ta w co on gr od li [a,b]) k).1=ZK op (.mk op ta w co on gr od li [a,b]) [(fO ls a k).1,(fO ls b (fO ls a k).2).1]:=by
 simp_all[fO,gJ]
theorem aKZ{st}{j:Nat}{t}(h:(fP q)[j]?=some t):(rU st q)[j]?=some (st.getD t.toNat []):=by
 grind[rU]
def bKQ:AC:=λd m h K=>∃s t r c,d=[cS s,cS t]/\bF h s r/\an h t c/\jY r.length c/\∀e h',PH.le h h'->bF h' e (pick r c)->K (cS e) m h'
def YY:AC:=λd m h K=>∃o s t on a b c,d=[cS o,cS s,cS t,cB c]/\l9 h o on/\bF h s a/\bF h t b/\jY a.length (jI on)/\jY b.length (jF on)/\K (cB (ct on a b&&(!c||nO (jI on) a))) m h
def aDQ:AC:=λc m h K=>∃g s t gr a b,c=[cS g,cS s,cS t]/\an h g gr/\bF h s a/\bF h t b/\jY a.length gr/\jY b.length gr/\K (cB (xN gr a b)) m h
def cSQ:AC:=λc m h K=>∃o s t on a b,c=[cS o,cS s,cS t]/\l9 h o on/\Rows h s a/\Rows h t b/\(∀x∈a,jY x.length (jI on))/\(∀y∈b,jY y.length (jF on))/\a.length<=8000000/\b.length<=8000000/\∀d h',PH.le h h'->Rows h' d (a.filter λx=>b.any λy=>ct on x y)->K (cS d) m h'
def aBQ:AC:=λc m h K=>∃v s t gr od a b,c=[aQ v,cS s,cS t]/\an h v.be gr/\lF h v.bh od/\Rows h s a/\Rows h t b/\(∀x∈a,jY x.length gr)/\(∀y∈b,jY y.length gr)/\a.length<=8000000/\b.length<=8000000/\∀d h',PH.le h h'->Rows h' d (zJ gr od v.bg a b)->K (cS d) m h'
def Xj:AC:=λd m h K=>∃s t l c,d=[cS s,cS t]/\Rows h s l/\an h t c/\(∀r∈l,jY r.length c)/\c.length<=1000/\l.length<=8000000/\∀e h',PH.le h h'->Rows h' e (AT (l.map λr=>pick r c))->K (cS e) m h'
def cuZ s t m h:=dD [] [(3,{A:=Nat×to,st:=λ⟨i,r⟩=>bO 24 26 ([(0,sv s),(5,.at (.au 8))]++WF 9 t i) [(8,.au 58 3 (r.map VV.ag))] m h})] [] [] false
def cyX o s t b m h:=dD [(50,K5)] [(2,{A:=Nat,st:=λi=>bO 41 45 ([(1,sv s),(2,sv t),(3,bv b)]++WF 11 o i) [] m h})] [] [] false
def cuX g s t m h:=
 dD [] [(2,{A:=Nat,st:=λi=>bO 25 28 ([(1,sv s),(2,sv t)]++WF 9 g i) [] m h})] [] [] false
def cuQ o s t m h:=
 dD [(91,Rf),(48,BJ)] [(2,{A:=Nat,st:=λi=>bO 55 58 ([(1,sv s),(2,sv t)]++WF 10 o i) [] m h})] [] [] false
def cyQ o s t m h:=dD [(187,YY)] [(3,{A:=Nat×tq,st:=λ⟨i,c⟩=>bO 35 38 ([(0,sv o),(2,sv t),(7,.at (.au 31))]++WF 12 s i) [(31,.au 75 1 (c.map eS))] m h}),
 (6,{A:=Nat×Sl×Nat×tq,st:=λ⟨j,x,i,c⟩=>bO 35 38 ([(0,sv o),(2,sv t),(7,.at (.au 31)),(9,sv x),(12,sv s),(13,iv s.len),(14,iv i)]++WF 18 t j) [(31,.au 75 1 (c.map eS))] m h})] [] [] false
def cxZ(v:QV)(s t:Sl)(m:MH)(h:PH):=dD [(215,aDQ),(216,Jd)] [(3,{A:=Nat×tq,st:=λ⟨i,c⟩=>bO 57 60 ([(2,sv t),SW 3,(7,.at (.au 54))]++WF 13 s i) [UV 3 68 v.ag,(54,.au 75 1 (c.map eS))] m h}),
 (7,{A:=Nat×Nat×Sl×Nat×tq,st:=λ⟨j,n,x,i,c⟩=>bO 57 60 ([(2,sv t),SW 3,(7,.at (.au 54)),(9,sv x),(10,iv n),(13,sv s),(14,iv s.len),(15,iv i)]++WF 19 t j) [UV 3 68 v.ag,(54,.au 75 1 (c.map eS))] m h})] [] [] false
def cyZ s t m:=dD [(214,bKQ),(156,bCQ)] [(3,{A:=Nat×tq×PH,st:=λ⟨i,c,h⟩=>bO 23 25 ([(1,sv t),(5,.at (.au 19))]++WF 8 s i) [(19,.au 75 1 (c.map eS))] m h})] [] [] false
def VN(s t:Sl):ST:=λm h K=>∃(I:Nat×to->Prop)(d:Nat×to->Nat),(∃x,I x/\aH s/\eL 8/\aH t/\aY t/\bB x.1/\wL 58 3 (vF x.2)/\m=m/\dC h h)/\∀x,I x->aX x.1 (aF t) (ab t x.1 1 bV m h (λy=>ab s y 3 VV.ag m h (λg=>cJ (fS (vF x.2) 1*32)/\fA (vF x.2)/\∃c,I c/\d c<d x/\aH s/\eL 8/\aH t/\aY t/\fI (bA x.1 1)=bR c.1/\cE 58 3 (hZ (vF x.2) g.ag)=cE 58 3 (vF c.2)/\gM m m h h))) (bN h 3 (vF x.2) (λj n=>K (tV j) m n))
def V5(o s t:Sl)(b:Bool):ST:=λm h K=>mF (λI x=>I x/\aH s/\aH t/\eQ (Zr b)/\aH o/\aY o/\bB x/\m=m/\dC h h) (λI u x=>I x->aX x (aF o) (ab o x 2 Bk m h (λy=>(0:Int)<=0/\(0:Int)<2/\aM (λd e=>aR s.a d e/\0<=y.1/\y.1<aF s/\∃f:VV,aK m h d (dN e y.1 3) f.ag/\(0:Int)<=1/\(1:Int)<2/\aM (λg j=>aR t.a g j/\0<=y.2/\y.2<aF t/\∃n:VV,aK m h g (dN j y.2 3) n.ag/\rI 58 f.ag n.ag (λr=>let E:=∃c,I c/\u c<u x/\aH s/\aH t/\eQ (Zr b)/\aH o/\aY o/\fI (bA x 1)=bR c/\gM m m h h;let F:=bJ h g (dN j y.2 3) n.ag;let G:=bJ h d (dN e y.1 3) f.ag;dJ (!r) (G/\F/\K bH m h) b (dK 0/\(0:Int)<2/\ab s y.1 3 VV.ag m h (λD=>G/\F/\∃v,eO (iE D) (iE v)/\cC (kF v) (K bH m h) E)) (G/\F/\E)))))) (K eE m h))
def VM(g s t:Sl):ST:=λm h K=>mF (λI x=>I x/\aH s/\aH t/\aH g/\aY g/\bB x/\m=m/\h=h/\True) (λI d x=>I x->aX x (aF g) (ab g x 1 bV m h (λy=>ab s y 3 VV.ag m h (λj=>ab t y 3 VV.ag m h (λz=>rI 58 j.ag z.ag (λr=>cC r (K bH m h) (∃c,I c/\d c<d x/\aH s/\aH t/\aH g/\aY g/\fI (bA x 1)=bR c/\m=m/\dC h h)))))) (K eE m h))
def VL(o s t:Sl):ST:=λm h K=>mF (λI x=>I x/\aH s/\aH t/\aH o/\aY o/\bB x/\m=m/\h=h/\True) (λI c x=>I x->aX x (aF o) (ab o x 2 DP m h (λy=>aX y.1 0 (Dt I c x s t o m h) (dJ (decide (y.1>=aF s)) (Dt I c x s t o m h) (decide (y.1>=aF t)) (Dt I c x s t o m h) (ab s y.1 3 VV.ag m h (λn=>ab t y.1 3 VV.ag m h (λA=>∃a d,bL (iE n) A.ag=bL (iE a) d.ag/\dJ y.2 (cM (jQ 0 (lY a d)) 0 (K (fD (jQ 0 (lY a d))) m h) (∃e,I e/\c
 e<c x/\aH s/\aH t/\aH o/\aY o/\fI (bA x 1)=bR e/\m=m/\dC h h)) (lY a d !=0) (K (fD (lY a d)) m h) (Dt I c x s t o m h))))))) (rG s t h (λa b=>K (fD (cV a b)) m h)))
abbrev rB(a:Nat×Sl×Nat×tq):=a.2.2
abbrev MN(a:Nat×Nat×Sl×Nat×tq->Prop)(b:Nat×Nat×Sl×Nat×tq->Nat)(c:Nat×Nat×Sl×Nat×tq)(d:Sl)(e:(Nat×Nat×Sl×Nat×tq)->Prop)(g:Sl)(i:(Nat×Nat×Sl×Nat×tq)->Prop):=∃x,a x/\b x<b c/\aH d/\cR/\eL 54/\bC c.2.2.1 x.2.2.1/\e x/\aH g/\i x
abbrev Nr(a:Sl)(b c:Nat×Nat×Sl×Nat×tq)(d:Sl)(e:QV)(g:MH)(i:PH):=aY a/\bP (rB b.2).1 (rB c.2).1/\aH d/\aY d/\fI (bA b.1 1)=bR c.1/\eJ e/\DW (rB b.2) (rB c.2)/\g=g/\dC i i
abbrev Cc a b c d:=IB (λx e=>mO a=mO x/\Rows b x e/\wO e/\(∀f,vE f e (jB f))/\rO b (AT e) c d)
abbrev Co(a:tt)(b:MH)(c:PH):=a (CV.dg (nN (mX Bl) bH)) b c
attribute [push_cast] rB MN Nr Cc Co
def V4 o s t:=λm h K=>MQ (λI x=>I x/\aH o/\aH t/\eL 31/\aH s/\aY s/\bB x.1/\Ab (pS x.2)/\gM m m h h) s m h (λI f x y=>∃(I1:Nat×Sl×Nat×tq->Prop)(j:Nat×Sl×Nat×tq->Nat),(∃c,I1 c/\aH o/\aH t/\eL 31/\bC y c.2.1/\aH s/\aY s/\bP x.1 (rB c).1/\aH t/\aY t/\bB c.1/\DW x (rB c)/\eV (m=m) (h=h))/\∀c,I1 c->aX c.1 (aF t) (ab t c.1 1 aT m h (λu=>O7 (λz A B e=>HL (λa g=>∃r,bU o (bU c.2.1 (j8 u bH))=bU z (bU A (j8 B (AU r)))/\l9 h z e/\bF h A a/\bF h B g/\tD a (jI e)/\tD g (jF e)/\branch (Bool.and (ct e a g) (Bool.or (!r) (nO (jI e) a))) (MP (rB c) (λd=>I d/\f d<f x/\aH o/\aH t/\eL 31/\aH s/\aY s/\Hs (rB c).1 d/\bX (cE 75 1 (iI (lX (rB c).2) c.2.1)=pS d.2) m m h h)) (∃d,I1 d/\j d<j c/\aH o/\aH t/\eL 31/\bC c.2.1 d.2.1/\aH s/\aY s/\bP (rB c).1 (rB d).1/\aH t/\aY t/\fI (bA c.1 1)=bR d.1/\bX (DW (rB c) (rB d)) m m h h))))) (∃d,I d/\f d<f x/\aH o/\aH t/\eL 31/\aH s/\aY s/\Hs (rB c).1 d/\bX (DW
 (rB c) d) m m h h)) (λx=>rH h (lX x.2) K m)
def V2 v s t:=λm h K=>MQ (λI x=>I x/\aH t/\eP 3/\eL 54/\aH s/\aY s/\bB x.1/\eJ v/\bX (Ab (pS x.2)) m m h h) s m h (λI e x y=>∃I1 f,(∃c,I1 c/\aH t/\eP 3/\eL 54/\bC y c.2.2.1/\bB c.2.1/\aH s/\aY s/\bP x.1 (rB c.2).1/\aH t/\aY t/\bB c.1/\eJ v/\DW x (rB c.2)/\m=m/\h=h/\True)/\∀c,I1 c->aX c.1 (aF t) (aM (λb o=>aR t.a b o/\0<=(↑c.1:Int)/\c.1<aF t/\∃n,let H:=MN I1 f c t (λd=>bP c.2.1 d.2.1) s (λd=>Nr s c d t v m h);aK m h b (bI o c.1 1) (aT n)/\aX c.2.1 v.bg (lC (λg z=>HD (λA j=>HL (λa u =>bU v.be (fG c.2.2.1 n)=bU g (fG z A)/\an h g j/\bF h z a/\bF h A u/\tD a j/\tD u j/\branch (xN j a u) (lC (λB C=>∃D E,HL (λF G=>bU v.bh (fG n c.2.2.1)=bU B (fG C D)/\lF h B E/\bF h C F/\bF h D G/\aX (lP E F G) 0 (MN I1 f c t (λd=>fI (bA c.2.1 1)=bR d.2.1) s (λd=>Nr s c d t v m h)) H))) H)))) H)) (aX c.2.1 v.bg (MP (rB c.2) (λd=>I d/\e d<e x/\aH t/\cR/\eL 54/\aH s/\aY s/\Hs (rB c.2).1 d/\mP (eJ v) (cE 75 1 (iI (lX (rB c.2).2) c.2.2.1)=pS d.2) (m=m) (h=h))) (∃d,I d/\e d<e x/\aH t/\cR/\eL 54/\aH s/\aY s/\Hs (rB c.2).1 d/\mP (eJ v) (DW (rB c.2) d) (m=m) (h=h)))) (λx=>rH h (lX x.2) K m)
def V6 s t:=λm h K=>JW (λI x=>I x/\aH t/\eL 19/\aH s/\aY s/\bB x.1/\Ab (pI x.2)/\m=m/\dC h (gG x)) (λI g x=>I x->aX x.1 (aF s) (ab s x.1 1 aT m (gG x) (λy=>G7 y t (gG x) (λr c=>tD r c) (λr c=>jA (λf d=>cO (gG x) d (bF d f (pick r c)) (MX x (λe=>I e/\g e<g x/\aH t/\eL 19/\aH s/\aY s/\fI (bA x.1 1)=bR e.1/\cE 75 1 (iI (u9 x) f)=pI e.2/\gM m m d (gG e))))))) (bN (gG x) 1 (u9 x) (λf d=>Cc f d K m)))
theorem aGJ{gr:ti}{a b i c}(d:gr[i]?=some c):xN (gr.take (i+1)) a b=true↔xN (gr.take i) a b=true/\a.getD c.toNat al=b.getD c.toNat al:=by
 grind[pick,Jj,sy,Option.toList_some,sn,append_inj]
theorem aVJ:uz 215 aDQ:=by
 refine gV func215 ?_;rintro G m h K⟨g,s,t,gr,a,b,rfl,o,C,D,H,I,n⟩;refine⟨cuX g s t m h,rfl,aG,VM g s t,bt,?_⟩;dsimp only[VM,push_cast];have u:=o.e;have J:=aU.e C;have L:=aU.e D;refine⟨λi=>i<=gr.length/\xN (gr.take i) a b=true,λi=>gr.length-i,⟨0,⟨aC,by rw[Jj];rfl⟩,MT⟩,?_⟩;rintro i⟨hi,f⟩;refine aE (λj=>?_) (λM=>?_)
 .have⟨c,d⟩:=eF u j;have⟨O,P,Q,y⟩:=o.im d;have⟨E,h2⟩:=H.y c (si d);have h3:=(I.y c (si d)).2;have⟨R,S,v,T,z,hv⟩:=aU.at C (i:=c.toNat) (sh aC);have⟨U,V,w,W,A,hw⟩:=aU.at D (i:=c.toNat) (sh aC);have ev:a.getD c.toNat al=v:=da
  have X:b.getD c.toNat al=w:=da
  have B:=aGJ (a:=a) (b:=b) d;rw[ev,X]at B;refine⟨O,P,Q,aC,j,c,.ay y,R,S,T,E,aC,v,.ay z,U,V,W,E,aC,w,.ay A,R2 v w,HS v w,aB (λe=>?_) (λe=>?_)⟩
  .have Y:¬v=w:=λe5=>by grind[Ky]
   have Z:xN gr a b=false:=by
    rw[Bool.eq_false_iff]
    grind[pick,Jj,map_take]
   rw[Z]at n;exact n
  .have a':v=w:=Ky.1 (mp e);have F:=o.len
   grind[fH]
 .rw[sm aC]at f;rw[f]at n;exact n
theorem aVZ:uz 216 Jd:=by
 refine gV func216 ?_;rintro O m h K⟨o,s,t,od,a,b,rfl,D,E,F,g⟩;refine⟨cuQ o s t m h,rfl,aD Pj (aD yV aG),VL o s t,bt,?_⟩;dsimp only[VL,push_cast];have G:=D.e;have P:=D.len;have Q:=aU.e E;have R:=aU.e F;refine⟨λi=>i<=od.length/\lP od a b=lP (od.drop i) a b,λi=>od.length-i,⟨0,⟨aC,bu⟩,MT⟩,λi⟨hi,j⟩=>aE (λn=>?_) (λS=>?_)⟩
 .have⟨⟨c,C⟩,I⟩:=eF G n;have⟨T,U,V,W⟩:=D.row.get (i:=i) (e:=wV (c,C)) (by simp[I]);rw[ci I]at j
  have skip:¬(0<=c/\c<a.length/\c<b.length)->∃d:Nat,(λi=>i<=od.length/\lP od a b=lP (od.drop i) a b) d/\(λi=>od.length-i) d<(λi=>od.length-i) i/\eQ (Zq s)/\eQ (Zq t)/\eQ (Zq o)/\eQ (fI ↑o.len)/\fI (IntKind.i64.wrap ((i:Int)+1))=fI ↑d/\m=m/\h=h/\True:=λhn=>
   ⟨i+1,⟨aC,by grind[Xa]⟩,(show od.length-(i+1)<od.length-i by omega),MT⟩
  refine⟨T,U,V,aC,n,(c,C),.ay W,aE (λJ=>skip (λe=>by omega)) (λJ=>aE (λL=>skip (λe=>by omega)) (λL=>aE (λM=>skip (λe=>by omega)) (λM=>?_)))⟩;dsimp only at J L M⊢
  obtain⟨x,z⟩:∃x,a[c.toNat]?=some x:=⟨_,sh aC⟩
  obtain⟨y,A⟩:∃y,b[c.toNat]?=some y:=⟨_,sh aC⟩
  obtain⟨X,Y,u,Z,r2,rfl⟩:=aU.at E z;obtain⟨b3,o3,u,e3,r3,rfl⟩:=aU.at F A;rw[byJ aC z A]at j;have a':=TW x y;have H:IntKind.i64.wrap (0-lY x y)= -lY x y:=by grind[dW,Int.zero_sub]
  refine⟨X,Y,Z,aC,aC,x,.ay r2,b3,o3,e3,aC,aC,y,.ay r3,x,y,rfl,?_⟩;rw[H];refine aB (λf=>aB (λB=>?_) (λB=>?_)) (λf=>aB (λB=>?_) (λB=>?_))
  .have f:C=true:=f;have h6:lY x y≠0:=λe=>da
   rw[j,if_pos h6,if_pos f]at g;exact g
  .have B:lY x y=0:=da
   exact⟨i+1,⟨aC,aC⟩,(show od.length-(i+1)<od.length-i by omega),MT⟩
  .have f:C=false:=f;rw[j,if_pos da,if_neg (by simp[f])]at g;exact g
  .have B:lY x y=0:=da
   exact⟨i+1,⟨aC,aC⟩,(show od.length-(i+1)<od.length-i by omega),MT⟩
 .rw[j,drop_eq_nil_of_le aC,lP]at g;exact⟨s,t,a,b,rfl,E,F,g⟩
theorem UK{s l}(c:bT h s 3 (l.map VV.ag))(d:l.length<=502633886983):bF h s l:=⟨⟨l,c,rfl,λi x e=>⟨x,e,rfl⟩⟩,d⟩
theorem aWQ:uz 214 bKQ:=by
 refine gV func214 ?_;rintro D m h K⟨s,t,r,d,rfl,A,B,C,E⟩;refine⟨cuZ s t m h,rfl,aG,VN s t,bt,?_⟩;dsimp only[VN,push_cast];have j:=B.e;have F:=aU.e A;have G:=C.len;have n:∀k,(pick r (d.take k)).length<=d.length:=λk=>by simp[pick];omega
 refine⟨λz=>z.1<=d.length/\z.2=pick r (d.take z.1),λz=>d.length-z.1,⟨(0,[]),⟨bu,rfl⟩,MT⟩,?_⟩;rintro⟨i,l⟩⟨H,e⟩;dsimp only at H e;subst e;dsimp only;refine aE (λf=>?_) (λI=>?_)
 .have⟨c,g⟩:=eF j f;have⟨J,L,M,o⟩:=B.im g;have⟨O,U⟩:=C.y c (si g);have⟨P,Q,v,R,u,V⟩:=aU.at A (i:=c.toNat) (sh aC);have ev:r.getD c.toNat al=v:=da
  have S:pick r (d.take (i+1))=pick r (d.take i)++[v]:=by
   grind[pick,sy,Option.toList_some,sn,map_singleton]
  have:=n i;rw[fH aC];refine⟨J,L,M,aC,f,c,.ay o,P,Q,R,O,aC,v,.ay u,da,da,(i+1,pick r (d.take (i+1))),⟨aC,rfl⟩,aC,da⟩
 .rw[sm aC]
  exactλT h' le y=>E T h' le (UK y (by simp[pick];omega))
theorem bjX{on:tu}{a b i p}(c:on[i]?=some p):ct (on.take (i+1)) a b=true↔ct (on.take i) a b=true/\a.getD p.1.toNat al=b.getD p.2.toNat al:=by
 rw[Ek,Ek,sy,c,Option.toList_some]
 grind[pick,jI,jF,sn,append_inj]
theorem bjZ{on a b} k(h:ct on a b=true):ct (on.take k) a b=true:=by
 grind[pick,jI,jF,Ek,map_take]
theorem bNJ{on:tu}{a i p}(c:on[i]?=some p):nO (jI (on.take (i+1))) a=(nO (jI (on.take i)) a&&kF (a.getD p.1.toNat al)):=by
 grind[nO,pick,jI,sy,Option.toList_some,sn]
theorem bOX{on a}{i:Nat}{p}(c:on[i]?=some p)(h:kF (a.getD p.1.toNat al)=false):nO (jI on) a=false:=by
 grind[nO,pick,jI]
theorem TC:uz 187 YY:=by
 refine gV func187 ?_;rintro T m h K⟨o,s,t,on,a,b,f,rfl,E,J,L,U,V,n⟩;refine⟨cyX o s t f m h,rfl,aD iq aG,V5 o s t f,bt,?_⟩;dsimp only[V5,push_cast];have F:=E.e;have W:=E.len;have X:=aU.e J;have Y:=aU.e L;refine⟨λi=>i<=on.length/\ct (on.take i) a b=true/\(f=true->nO (jI (on.take i)) a=true),λi=>on.length-i,⟨0,⟨aC,by rw[Ek];rfl,λ_=>rfl⟩,MT⟩,?_⟩;rintro i⟨hi,u,A⟩;refine aE (λB=>?_) (λZ=>?_)
 .have⟨⟨c,d⟩,C⟩:=eF F B;have⟨b1,o1,e1,r1⟩:=E.row.get (i:=i) (e:=oY (c,d)) (by simp[C]);have M:=si C;have⟨O,h2⟩:=U.y c (mem_map.2 ⟨_,M,rfl⟩);have⟨h3,h4⟩:=V.y d (mem_map.2 ⟨_,M,rfl⟩);have⟨P,Q,v,R,g,hv⟩:=aU.at J (i:=c.toNat) (sh aC);have⟨b3,o3,w,e3,j,hw⟩:=aU.at L (i:=d.toNat) (sh aC);have ev:a.getD c.toNat al=v:=da
  have ew:b.getD d.toNat al=w:=da
  have y:=bjX (a:=a) (b:=b) C;have D:=bNJ (a:=a) C;have z:=bOX (a:=a) C;dsimp only at y D z;rw[ev,ew]at y;rw[ev]at D z;have G:IntKind.i64.wrap ((i:Int)+1)=((i+1:Nat):Int):=fH aC;have mu:on.length-(i+1)<on.length-i:=by omega
  rw[G];refine⟨b1,o1,e1,aC,B,(c,d),.ay r1,aC,aC,P,Q,R,O,aC,v,.ay g,aC,aC,b3,o3,e3,h3,aC,w,.ay j,R2 v w,HS v w,aB (λe=>⟨g,j,?_⟩) (λe=>?_)⟩
  .have a':¬v=w:=λe5=>by grind[Ky]
   have e6:ct on a b=false:=by
    rw[Bool.eq_false_iff]
    grind[bjZ]
   rw[e6,Bool.false_and]at n;exact n
  .have H:v=w:=Ky.1 (mp e);refine aB (λS=>⟨aC,aC,P,Q,R,O,aC,v,.ay g,g,j,v,rfl,aB (λI=>?_) (λI=>?_)⟩) (λS=>⟨g,j,i+1,⟨aC,y.2 ⟨u,H⟩,λh9=>da⟩,mu,MT⟩)
   .have I:kF v=false:=da
    rw[z I,S,show(ct on a b&&(!true||false))=false by grind]at n;exact n
   grind
 .rw[sm aC]at u A;rw[u]at n;cases f with
  |false=>exact n
  |true=>rw[A rfl]at n;exact n
theorem aZZ:uz 188 cSQ:=by
 refine gV func188 ?_;rintro U m h K⟨o,s,t,on,a,b,rfl,V,O,P,W,X,la,lb,Y⟩;refine⟨cyQ o s t m h,rfl,aD TC aG,V4 o s t,bt,?_⟩;dsimp only[V4,push_cast];have C:=aU.e O;have D:=aU.e P;refine⟨λz=>z.1<=a.length/\eN h z.2 ((a.take z.1).filter λx=>b.any λy=>ct on x y),λz=>a.length-z.1,⟨(0,[]),⟨bu,by grind[eN.nil]⟩,MT⟩,?_⟩;rintro⟨i,d⟩⟨Z,n⟩;dsimp only at Z n;dsimp only;have a':=n.len;have E:=length_filter_le (λx=>b.any λy=>ct on x y) (a.take i);rw[length_take]at E;refine aE (λu=>?_) (λa0=>?_)
 .have⟨x,Q⟩:=eF C u;have F:=si Q;have⟨b1,o1,f,e1,G,A⟩:=aU.at O Q;have H:a.take (i+1)=a.take i++[x]:=by grind[sy]
  have I:(b.any λy=>ct on x y)=true->eN h (d++[f]) ((a.take (i+1)).filter λx=>b.any λy=>ct on x y):=λe=>by
   rw[H,filter_append,filter_cons_of_pos (by exact e),filter_nil];exact n.cw A
  have no:(b.any λy=>ct on x y)=false->eN h d ((a.take (i+1)).filter λx=>b.any λy=>ct on x y):=λe=>by
   grind
  refine⟨b1,o1,e1,aC,u,f,.ay G,λz=>z.1<=b.length/\z.2=(f,i,d)/\(b.take z.1).any (λy=>ct on x y)=false,λz=>b.length-z.1,⟨(0,f,i,d),⟨bu,rfl,bu⟩,MT⟩,?_⟩;rintro⟨j,z⟩⟨hj,e,g⟩;dsimp only at hj e g;subst e;dsimp only;refine aE (λc=>?_) (λR=>?_)
  .have⟨y,S⟩:=eF D c;have B:=si S;have⟨b2,o2,T,e2,J,L⟩:=aU.at P S;refine⟨b2,o2,e2,aC,c,T,.ay J,o,f,T,on,x,y,false,rfl,V,A,L,W x F,X y B,aB (λe=>?_) (λe=>?_)⟩
   .have e:ct on x y=true:=mp e
    rw[fH aC];exact⟨da,da,(i+1,d++[f]),⟨aC,I (any_eq_true.2 ⟨y,B,e⟩)⟩,aC,by rw[sn];exact MT⟩
   .have e:ct on x y=false:=mp e
    rw[fH aC];exact⟨(j+1,f,i,d),⟨aC,rfl,by grind[sy,Option.toList_some]⟩,aC,MT⟩
  .rw[sm aC]at g;rw[fH aC];exact⟨(i+1,d),⟨aC,no g⟩,aC,MT⟩
 .rw[sm aC]at n
  exactλs' h' le M=>Y s' h' le ((n.mono le).rows M da)
theorem awJ{p}{l:tj}{j y}(c:l[j]?=some y):(l.take (j+1)).countP p=(l.take j).countP p+if p y=true then 1 else 0:=by
 rw[sy,c,Option.toList_some,countP_append,countP_singleton]
theorem aZQ:uz 190 aBQ:=by
 refine gV func190 ?_;rintro a0 m h K⟨v,s,t,gr,od,a,b,rfl,hg,ho,hs,ht,ha,hb,la,lb,hK⟩;refine⟨cxZ v s t m h,rfl,aD aVJ (aD aVZ aG),V2 v s t,bt,?_⟩;dsimp only[V2,push_cast];have I:=aU.e hs;have J:=aU.e ht;have B:∀l,zJ gr od v.bg l b=l.filter λx=>decide (((b.countP λy=>xN gr x y&&decide (lP od y x<0):Nat):Int)<v.bg):=λl=>rfl;refine⟨λz=>z.1<=a.length/\eN h z.2 (zJ gr od v.bg (a.take z.1) b),λz=>a.length-z.1,⟨(0,[]),⟨bu,by grind[eN.nil]⟩,MT⟩,?_⟩;rintro⟨i,d⟩⟨hi,A⟩;dsimp only at hi A;dsimp only;have a1:=A.len;have L:=length_filter_le (λx=>decide (((b.countP λy=>xN gr x y&&decide (lP od y x<0):Nat):Int)<v.bg)) (a.take i);rw[<-B,length_take]at L;refine aE (λC=>?_) (λa2=>?_)
 .have⟨x,hx⟩:=eF I C;have M:=si hx;have⟨b1,o1,f,e1,O,o⟩:=aU.at hs hx;have P:a.take (i+1)=a.take i++[x]:=by grind[sy]
  have Q:((b.countP λy=>xN gr x y&&decide (lP od y x<0):Nat):Int)<v.bg->eN h (d++[f]) (zJ gr od v.bg (a.take (i+1)) b):=λe=>by
   rw[B]at A⊢
   rw[P,filter_append,filter_cons_of_pos (mp e),filter_nil];exact A.cw o
  have no:¬((b.countP λy=>xN gr x y&&decide (lP od y x<0):Nat):Int)<v.bg->eN h d (zJ gr od v.bg (a.take (i+1)) b):=λe=>by
   grind
  refine⟨b1,o1,e1,aC,C,f,.ay O,λz=>z.1<=b.length/\z.2.2=(f,i,d)/\z.2.1<=z.1/\(((z.2.1:Nat):Int)<v.bg->z.2.1=(b.take z.1).countP λy=>xN gr x y&&decide (lP od y x<0))/\(¬((z.2.1:Nat):Int)<v.bg->z.2.1<=(b.take z.1).countP λy=>xN gr x y&&decide (lP od y x<0)),λz=>b.length-z.1,⟨(0,0,f,i,d),⟨bu,rfl,bu,bu,bu⟩,MT⟩,?_⟩;rintro⟨j,n,z⟩⟨hj,e,R,u,D⟩;dsimp only at hj e R u D;subst e;dsimp only;refine aE (λg=>?_) (λa'=>?_)
  .have⟨y,S⟩:=eF J g;have T:=si S;have⟨b2,o2,uy,e2,U,E⟩:=aU.at ht S;have a3:=awJ (p:=λy=>xN gr x y&&decide (lP od y x<0)) S
   have c:(¬((n:Nat):Int)<v.bg\/(xN gr x y&&decide (lP od y x<0))=false)->∃z:Nat×Nat×Sl×Nat×tq,(z.1<=b.length/\z.2.2=(f,i,d)/\z.2.1<=z.1/\(((z.2.1:Nat):Int)<v.bg->z.2.1=(b.take z.1).countP λy=>xN gr x y&&decide (lP od y x<0))/\(¬((z.2.1:Nat):Int)<v.bg->z.2.1<=(b.take z.1).countP λy=>xN gr x y&&decide (lP od y x<0)))/\z=(j+1,n,f,i,d):=λG=>by
    refine⟨_,⟨aC,rfl,da,λV=>?_,λV=>?_⟩,rfl⟩
    .grind
    grind
   have W:IntKind.i64.wrap ((j:Int)+1)=((j+1:Nat):Int):=fH aC;have X:IntKind.i64.wrap ((n:Int)+1)=((n+1:Nat):Int):=fH aC;have H:b.length-(j+1)<b.length-j:=by omega
   rw[W,X];refine⟨b2,o2,e2,aC,g,uy,.ay U,aE (λY=>⟨_,_,_,gr,x,y,rfl,hg,o,E,ha x M,hb y T,aB (λG=>⟨_,_,_,od,y,x,rfl,ho,E,o,aE (λV=>?_) (λV=>?_)⟩) (λG=>?_)⟩) (λY=>?_)⟩
   .have hp:(xN gr x y&&decide (lP od y x<0))=true:=da
    have h7:=u Y;exact⟨(j+1,n+1,f,i,d),⟨aC,rfl,da,λ_=>da,λ_=>da⟩,H,MT⟩
   .obtain⟨z,F,rfl⟩:=c (.inr da);exact⟨_,F,H,MT⟩
   .obtain⟨z,F,rfl⟩:=c (.inr (by rw[G];rfl));exact⟨_,F,H,MT⟩
   .obtain⟨z,F,rfl⟩:=c (.inl Y);exact⟨_,F,H,MT⟩
  .rw[sm aC]at u D;rw[fH aC];refine aE (λe=>?_) (λe=>?_)
   .exact⟨da,da,(i+1,d++[f]),⟨aC,Q aC⟩,aC,by rw[sn];exact MT⟩
   .exact⟨(i+1,d),⟨aC,no (λG=>by omega)⟩,aC,MT⟩
 .rw[sm aC]at A
  exactλs' h' le Z=>hK s' h' le ((A.mono le).rows Z da)
theorem aZJ:uz 186 Xj:=by
 refine gV func186 ?_;rintro J m h K⟨s,t,l,e,rfl,F,L,M,O,Z,P⟩;refine⟨cyZ s t m,rfl,aD aWQ (aD Lv aG),V6 s t,bt,?_⟩;dsimp only[V6,push_cast];have j:=aU.e F;refine⟨λz=>z.1<=l.length/\PH.le h z.2.2/\eN z.2.2 z.2.1 ((l.take z.1).map λr=>pick r e),λz=>l.length-z.1,⟨(0,[],h),⟨bu,.refl _,by grind[eN.nil]⟩,MT⟩,?_⟩;rintro⟨i,Q,h1⟩⟨R,c,f⟩;dsimp only at R c f;dsimp only;have n:=f.len;rw[length_map,length_take]at n;refine aE (λg=>?_) (λS=>?_)
 .have⟨x,G⟩:=eF j g;have⟨T,U,H,V,o,u⟩:=aU.at F G;have y:l.take (i+1)=l.take i++[x]:=by grind[sy]
  refine⟨T,U,V,aC,g,H,.ay (o.mono c),H,t,x,e,rfl,bF.mono u c,L.mono c,M x (si G),λA I d B=>?_⟩;rw[fH aC];refine⟨da,da,(i+1,Q++[A],I),⟨aC,c.trans d,by dsimp only;rw[y,sn,map_singleton];exact(f.mono d).cw B⟩,aC,by rw[sn];exact MT⟩
 .rw[sm aC]at f;intro A I d C
  exact⟨A,_,rfl,(f.mono d).rows C da,da,λr W=>by
   obtain⟨z,_,rfl⟩:=mem_map.1 W;simp[pick];omega,λX Y D E=>P X Y (c.trans (d.trans D)) E⟩
def cZJ:AC:=λc m h K=>∃s r,c=[cS s]/\bF h s r/\r.length<=1000/\K (.au 58 3 (r.map VV.ag)) m h
def dHZ:AC:=λc m h K=>∃o s r,c=[aO o,cS s,EO]/\bF h s r/\∀ok:Bool,(ok=false->BZ r o=al)->K (.dg [aV (BZ r o),cB ok]) m h
def c0Q:AC:=λd m h K=>∃c a b,d=[cI c,aV a,aV b]/\K (cB (vR c a b)) m h
def cyJ(N:Nat)(v:PV)(s:Sl)(m:MH)(h:PH):=
 dD [(212,dHZ),(213,c0Q),(185,YJ N)] [(10,{A:=Nat,st:=λi=>bO 97 100 [(1,sv s),(2,vv B8),SW 3,(50,iv v.args.len),(51,iv i)] [UV 3 63 v.ag] m h}),
  (18,{A:=Nat,st:=λi=>bO 97 100 [(1,sv s),(2,vv B8),SW 3,(68,iv v.args.len),(69,iv i)] [UV 3 63 v.ag] m h})] [] [] false
def Vx(s:Sl):ST:=λm h K=>∃y,dA 3 y/\bT h (bK s) 3 y/\zA y 32/\cJ y.length/\K (CV.au 58 3 y) m h
def VP o s:=λm h K=>let B:=K (CV.dg (nN (Bu o) eE)) m h;let C:=dP o.kind 3 B (Co K m h);let A:=dJ (decide (o.index>=0)) (aX o.index 0 (MO 0 o m h 3 (λy=>K (CV.dg (nN (iE y) eE)) m h)) C) (o.kind==3) B (Co K m h);dJ (o.kind==1) (dJ (decide (o.index>=0)) (aX o.index (aF s) (ab s o.index 3 VV.ag m h (λy=>K (CV.dg (nN (iE y) eE)) m h)) (dJ (o.kind==2) A (o.kind==3) B (Co K m h))) (o.kind==2) A C) (o.kind==2) A C
def VO(c:Int)(a b:VV):ST:=λm h K=>∃v,eO (iE a) (iE v)/\cC (kF v) (K bH m h) (∃f,eO (iE b) (iE f)/\dJ (!(kF f)) (K bH m h) (a.kind !=b.kind) (K bH m h) (∃d e,bL (iE a) b.ag=bL (iE d) e.ag/\dJ (c==1) (K (AU (lY d e==0)) m h) (c==2) (K (AU (lY d e !=0)) m h) (dJ (c==3) (K (AU (decide (lY d e<0))) m h) (c==4) (K (AU (decide (lY d e<=0))) m h) (dJ (c==5) (K (AU (decide (lY d e>0))) m h) (c==6) (K (AU (decide (lY d e>=0))) m h) (K bH m h)))))
def V7 N v s:=λm h K=>let A:=λI x=>I x/\aH s/\eQ qe/\cR/\tB v/\bB x/\kZ v/\m=m/\dC h h;dJ (v.op==1) (K eE m h) (v.op==3) (∃o,nZ (λd r=>vA v.left s=vA o d/\bF h d r/\∀t,let B:=ByteArray.mk (.mk []);(J8 t->BZ r o=VV.mk 0 0 B)->∃f,nZ (λu g=>vA v.right s=vA f u/\bF h u g/\∀z,(J8 z->BZ g f=VV.mk 0 0 B)->sI t (sI z (∃c a b,jO v.dy (bL (mX (bD (BZ r o).kind (BZ r o).int (Bv (BZ r o).text))) (bD (BZ g f).kind (BZ g f).int (Bv (BZ g f).text)))=jO c (bL (iE a) b.ag)/\K (AU (vR c a b)) m h) K m h) K m h))) (dJ (v.op==4) (mF A (λI j x=>I x->aX x (aF v.args) (ab v.args x 13 PV.ag m h (λy=>Du (sG y s) (λn d=>sG n d) h N (λp r=>cC (kA r p) (K bH m h) (∃e,I e/\j e<j x/\aH s/\eQ qe/\cR/\tB v/\fI (bA x 1)=bR e/\kZ v/\gM m m h h)))) (K eE m h))) (v.op==5) (mF A (λI j x=>I x->aX x (aF v.args) (ab v.args x 13 PV.ag m h (λy=>Du (sG y s) (λn d=>sG n d) h N (λp r=>branch (kA r p) (K eE m h) (∃e,I e/\j e<j x/\aH s/\eQ qe/\cR/\tB v/\fI (bA x 1)=bR e/\kZ v/\gM m m h h)))) (K bH m h))) (dP v.op 6 (eH (aF v.args) 0 (aM (λb o=>aR v.args.a b o/\(0:Int)<=0/\0<aF v.args/\∃y,aK m h b (fJ o) y.ag/\Du (sG y s) (λn d=>sG n d) h N (λp r=>K (.val (.bool (!(kA r p)))) m h))) (K bH m h)) (K bH m h)))
theorem aOX:uz 37 cZJ:=by
 refine gV func37 ?_;rintro d m h K⟨s,r,rfl,f,n,g⟩;refine⟨dD [] [] [] [] true,rfl,aG,Vx s,bt,?_⟩;dsimp only[Vx,push_cast];obtain⟨⟨c,j,o,t⟩,u⟩:=f
 have e:c=r:=ext_getElem? λi=>by
  grind
 subst e;exact⟨c.map VV.ag,A2 c,j,da,da,g⟩
theorem aWZ:uz 212 dHZ:=by
 refine gV func212 ?_;rintro u m h K⟨o,s,r,rfl,t,f⟩;refine⟨WP [],rfl,aG,VP o s,bt,?_⟩;dsimp only[VP,push_cast];have y:=aU.e t
 have c:¬(o.kind=1/\0<=o.index/\o.index<r.length)->branch (o.kind==3) (K (CV.dg [aV o.value,cB true]) m h) (K (CV.dg [aV al,cB false]) m h):=λg=>by
  grind[BZ,aB]
 have d:∀X,¬(o.kind=1/\0<=o.index/\o.index<r.length)->branch (o.kind==2) (branch (decide (o.index>=0)) (branch (decide (o.index<((0:Nat):Int))) X (branch (o.kind==3) (K (CV.dg [aV o.value,cB true]) m h) (K (CV.dg [aV al,cB false]) m h))) (branch (o.kind==3) (K (CV.dg [aV o.value,cB true]) m h) (K (CV.dg [aV al,cB false]) m h))) (branch (o.kind==3) (K (CV.dg [aV o.value,cB true]) m h) (K (CV.dg [aV al,cB false]) m h)):=λX g=>
  aB (λ_=>aE (λj=>aE (λn=>absurd n aC) (λ_=>c g)) (λ_=>c g)) (λ_=>c g)
 refine aB (λj=>aE (λn=>aE (λz=>?_) (λz=>d _ aC)) (λn=>d _ aC)) (λj=>d _ (λe=>da));have j:o.kind=1:=da
 have A:r[o.index.toNat]?=some (r.getD o.index.toNat al):=by
  grind
 have⟨b,off,v,e,rd,ev⟩:=aU.at t A;have f:=f true (λe=>by cases e);unfold BZ at f;rw[if_neg aC,if_pos ⟨j,aC,aC⟩,ev]at f;exact⟨b,off,e,aC,aC,_,.ay rd,f⟩
theorem aWX:uz 213 c0Q:=by
 refine gV func213 ?_;rintro B m h K⟨c,a,b,rfl,d⟩;refine⟨WP [(50,K5),(91,Rf)],rfl,aD iq (aD Pj aG),VO c a b,bt,?_⟩;dsimp only[VO,push_cast];have t:vR c a b=false->K (cB false) m h:=λe=>da
 refine⟨a,rfl,aB (λy=>t ?_) (λy=>⟨b,rfl,aB (λz=>t ?_) (λz=>aB (λA=>t ?_) (λA=>⟨a,b,rfl,?_⟩))⟩)⟩
 .grind[kF,vR]
 .grind[kF,vR]
 .grind[vR]
 .have y:kF a=true:=da
  have z:kF b=true:=da
  have A:a.kind=b.kind:=da
  have C:vR c a b=Zb c (lY a b):=by grind[vR]
  rw[C]at d;unfold Zb at d;refine aB (λf=>?_) (λf=>aB (λg=>?_) (λg=>aB (λj=>?_) (λj=>aB (λn=>?_) (λn=>aB (λo=>?_) (λo=>aB (λu=>?_) (λu=>?_))))))
  all_goals simp only[beq_iff_eq,beq_eq_false_iff_ne]at*
  .rw[if_pos f]at d;exact d
  .rw[if_neg f,if_pos g]at d;exact d
  .rw[if_neg f,if_neg g,if_pos j]at d;exact d
  .rw[if_neg f,if_neg g,if_neg j,if_pos n]at d;exact d
  .rw[if_neg f,if_neg g,if_neg j,if_neg n,if_pos o]at d;exact d
  .rw[if_neg f,if_neg g,if_neg j,if_neg n,if_neg o,if_pos u]at d;exact d
  .rw[if_neg f,if_neg g,if_neg j,if_neg n,if_neg o,if_neg u]at d;exact d
theorem apQ:∀N,uz 185 (YJ N)
 |0=>by
  refine gV func185 ?_;rintro H m h K⟨v,s,p,r,rfl,_,_,V,_⟩;omega
 |N+1=>by
  refine gV func185 ?_;rintro H m h K⟨v,s,p,r,rfl,W,o,V,d⟩;refine⟨cyJ N v s m h,rfl,aD aWZ (aD aWX (aD (apQ N) aG)),V7 N v s,bt,?_⟩;dsimp only[V7,push_cast];have g:=@Ar p;obtain⟨op,X,l,q,ps⟩:=p;obtain⟨rfl,rfl,rfl,rfl,t⟩:=W.parts;have I:=t.e;have M:=t.len;simp only[ao.args]at g;simp only[kA]at d;refine aB (λO=>?_) (λO=>aB (λP=>?_) (λP=>aB (λQ=>?_) (λQ=>aB (λR=>?_) (λR=>aB (λY=>?_) (λY=>?_)))))
  .rw[if_pos da]at d;exact d
  all_goals have S:v.op≠1:=mp O
  .rw[if_neg S,if_pos da]at d;have Z:vR v.dy al (BZ r v.right)=false:=by simp[vR,show kF al=false from rfl]
   have z2:vR v.dy (BZ r v.left) al=false:=by simp[vR,show kF al=false from rfl]
   refine⟨v.left,s,r,rfl,o,λok n=>⟨v.right,s,r,rfl,o,λa' e2=>aB (λF=>aB (λT=>⟨_,_,_,rfl,d⟩) (λT=>?_)) (λF=>?_)⟩⟩
   .rw[show BZ r v.right=al from e2 T,z2]at d;exact d
   .rw[show BZ r v.left=al from n F,Z]at d;exact d
  all_goals have n3:v.op≠3:=mp P
  all_goals rw[if_neg S,if_neg n3]at d
  .rw[if_pos da,IN]at d;refine⟨λi=>i<=ps.length/\∀j:Nat,j<i->∀x,ps[j]?=some x->kA r x=true,λi=>ps.length-i,⟨0,⟨aC,λj z=>by omega⟩,MT⟩,λi⟨hi,A⟩=>aE (λe=>?_) (λJ=>?_)⟩
   .have⟨x,f⟩:=eF I e;have⟨B,C,u,n,G,D⟩:=t.at f;have:=g (si f);refine⟨B,C,n,aC,e,u,.ay G,u,s,x,r,rfl,D,o,aC,aB (λL=>?_) (λU=>⟨i+1,⟨aC,λj z y E=>?_⟩,(show ps.length-(i+1)<ps.length-i by omega),MT⟩)⟩
    .have:ps.all (kA r)=false:=by
      grind
     rw[this]at d;exact d
    grind
   .have:ps.all (kA r)=true:=by
     rw[all_eq_true];intro y E;have⟨j,z⟩:=getElem?_of_mem E
     grind
    rw[this]at d;exact d
  all_goals have n4:v.op≠4:=mp Q
  all_goals rw[if_neg n4]at d
  .rw[if_pos da,IL]at d;refine⟨λi=>i<=ps.length/\∀j:Nat,j<i->∀x,ps[j]?=some x->kA r x=false,λi=>ps.length-i,⟨0,⟨aC,λj z=>by omega⟩,MT⟩,λi⟨hi,A⟩=>aE (λe=>?_) (λJ=>?_)⟩
   .have⟨x,f⟩:=eF I e;have⟨B,C,u,n,G,D⟩:=t.at f;have:=g (si f);refine⟨B,C,n,aC,e,u,.ay G,u,s,x,r,rfl,D,o,aC,aB (λU=>?_) (λL=>⟨i+1,⟨aC,λj z y E=>?_⟩,(show ps.length-(i+1)<ps.length-i by omega),MT⟩)⟩
    .have:ps.any (kA r)=true:=any_eq_true.2 ⟨x,si f,U⟩;rw[this]at d;exact d
    grind
   .have:ps.any (kA r)=false:=by
     rw[any_eq_false];intro y E;have⟨j,z⟩:=getElem?_of_mem E
     grind
    rw[this]at d;exact d
  all_goals have n5:v.op≠5:=mp R
  all_goals rw[if_neg n5]at d
  .rw[if_pos da]at d;refine aE (λF=>?_) (λF=>?_)
   .have⟨x,f⟩:=eF (i:=0) I aC;have⟨B,C,u,n,G,D⟩:=t.at f;have:=g (si f)
    have e7:Tb r ps= !kA r x:=by
     cases ps with
     |nil=>simp at f
     |cons y _=>simp at f;subst f;rfl
    rw[e7]at d;exact⟨B,C,n,aC,aC,u,.ay aC,u,s,x,r,rfl,D,o,aC,d⟩
   .have:ps=[]:=length_eq_zero_iff.1 aC;subst this;exact d
  .rw[if_neg da]at d;exact d
theorem a0Q:uz 185 YK:=jL apQ λ_ _ _ _⟨v,s,p,r,e,c,d,f⟩=>⟨SizeOf.sizeOf p+1,v,s,p,r,e,c,d,aC,f⟩
def sT(t:xK)(key:to)(l:tj):=(l.find? λr=>cV (eR t r) key==0).getD []
def z7 k l key bj new:=
 let i:=qT k l key
 let f:=lO k l key
 if(f !=decide (0<bj.length))||(f&&cV (l.getD i []) bj !=0)then none
 else some (l.take i++(if 0<new.length then[new]else[])++l.drop (if f then i+1 else i))
theorem cmZ{t key l}(h:sT t key l≠[]):sT t key l∈l/\eR t (sT t key l)=key:=by
 unfold sT at h⊢
 cases e:l.find? λr=>cV (eR t r) key==0 with
 |none=>grind
 |some r=>
  grind[mem_of_find?_eq_some,eX]
theorem T1{t:xK}{key bj new:to}:∀{l:tj},KN t l->(∀r∈l,r≠[])->bj=sT t key l->(bj≠[]\/new≠[])->z7 (eR t) l key bj new=some (tK t key new (decide (new.length=0)) l)
 |[],_,_,c,d=>by
  have c:bj=[]:=c;subst c;have d:=d.resolve_left λh=>h rfl;have o:0<new.length:=length_pos_iff.2 d;rw[show decide (new.length=0)=false from decide_eq_false aC];simp[z7,lO,qT,tK,o]
 |r::l,A,u,c,d=>by
  have y:=pairwise_cons.1 (show List.Pairwise _ (r::l)from A);have f:=u r (mem_cons_self ..);by_cases h:cV (eR t r) key<0
  .have g:qT (eR t) (r::l) key=qT (eR t) l key+1:=by unfold qT;grind
   have z:lO (eR t) (r::l) key=lO (eR t) l key:=by unfold lO;grind
   have e:sT t key (r::l)=sT t key l:=by unfold sT;grind
   have B:=T1 (new:=new) y.2 (λx j=>u x (mem_cons_of_mem _ j)) (c.trans e) d;rw[tK,if_neg aC,if_pos aC,show(decide (0<=cV (eR t r) key))=false from decide_eq_false aC,Bool.or_false];unfold z7 at B⊢
   grind
  .have n:∀x∈l,0<cV (eR t x) key:=λx j=>by
    have C:=y.1 x j;have G:=lG (eR t r) key;have H:=bgJ (a:=key) aC C;have I:=lG key (eR t x);omega
   have g:qT (eR t) (r::l) key=0:=by
    unfold qT
    grind
   have z:lO (eR t) (r::l) key=(cV (eR t r) key==0):=by unfold lO;rw[g];simp
   have D:=Mo (row:=new) n
   have E:tK t key new (decide (new.length=0)) (r::l)=(if 0<new.length then[new]else[])++((if cV (eR t r) key≠0 then[r]else[])++l):=by
    rw[tK,show(decide (0<=cV (eR t r) key))=true from decide_eq_true aC,Bool.or_true,D]
    grind
   rw[E];unfold z7;dsimp only;rw[g,z];by_cases F:cV (eR t r) key=0
   .have e:sT t key (r::l)=r:=by unfold sT;grind
    rw[e]at c;subst c;have o:0<bj.length:=length_pos_iff.2 f;rw[show(cV (eR t bj) key==0)=true by simp[F]];have J:cV bj bj=0:=eX.2 rfl
    grind
   .have e:sT t key (r::l)=[]:=by
     unfold sT
     grind
    grind
theorem bpJ{t:xK}{key:to}:∀{l:tj},(∀x∈l,x≠[])->[]∉tK t key [] true l
 |[],_,h=>by rw[tK,if_pos rfl]at h;cases h
 |r::l,c,h=>by
  rw[tK,if_neg bu,nil_append,Bool.true_or,mem_append]at h;rcases h with h|h
  .grind
  .exact bpJ (λx d=>c x (mem_cons_of_mem _ d)) h
structure UB(c:Nat)(s:kD)(st:List tj):Prop where
 len:st.length=s.c.length
 jv:∀l∈st,l.length<=c
 ok:L5 1 s st
 val:sd st
theorem d1Z{key k v}(h:xJ 1 key k i v=true):BX key k i v=true:=by
 simp_all[xJ,BX,beq_iff_eq]
theorem coZ{t r}(h:qO 1 t r=true):IT t r=true:=by
 grind[jK,CR,d1Z]
theorem cfQ{c:Nat}:∀{st:List tj},(∀l∈st,l.length<=c)->dQ st<=(st.length:Int)*c
 |[],_=>by simp[dQ]
 |l::st,h=>by
  have f:=cfQ (st:=st) λx d=>h x (mem_cons_of_mem _ d);have g:=h l (mem_cons_self ..);have e:dQ (l::st)=l.length+dQ st:=by simp[dQ]
  rw[e,te]
  grind
theorem UB.count{c st}(x:UB c s st)(d:s.c.length<=8):dQ st<=8*(c:Int):=by
 have:=cfQ x.jv;rw[x.len]at this;have e:(s.c.length:Int)*c<=8*c:=Int.mul_le_mul_of_nonneg_right aC aC;omega
theorem UB.errM{c st}(x:UB c s st)(d:dO s=0)(e:s.c.length<=8)(g:c<=64):nC 1 s st=0:=by
 have f:=x.count e;unfold dQ at f;unfold nC;rw[if_neg (by simp[d]),if_neg aC,if_neg (by rw[x.len];simp),if_pos x.ok]
theorem UB.fj{c st}(x:UB c s st)(f:dO s=0)(g:s.c.length<=8)(o:c<=64):pX s st=0:=by
 have j:=x.count g;unfold dQ at j;unfold pX;rw[if_neg (by simp[f]),if_neg aC,if_neg (by rw[x.len];simp),if_pos (show OJ s st fromλi t l d e=>⟨λr n=>coZ ((x.ok i t l d e).1 r n),(x.ok i t l d e).2⟩)]
theorem UB.step{c}{n:Nat}{st t l row new}(x:UB c s st)(J:s.c[n]?=some t)(L:st[n]?=some l)(X:1<=t.aa.length)(M:qO 1 t row=true)(Y:∀v∈row,KJ v.kind/\KJ v.int)(A:new=row\/(new=[]/\sT t (eR t row) l≠[])):
 sV 1 s ⟨n,sT t (eR t row) l,new⟩=true/\mW s l ⟨n,sT t (eR t row) l,new⟩=some (tK t (eR t row) new (decide (new.length=0)) l)/\UB (c+1) s (st.set n (tK t (eR t row) new (decide (new.length=0)) l)):=by
 have g:=x.ok n t l J L;have O:=(sg L);have P:=(sg J)
 have o:∀r,qO 1 t r=true->r≠[]:=λr d e=>by
  have:=(jK.1 d).1
  grind
 have S:jE s (n:Int)=true:=by simp[jE];exact P
 have C:∀r,qO 1 t r=true->l8 1 s (n:Int) r=true:=λr d=>by rw[wF (tb:=t) da S];exact d
 have f:jJ s (n:Int)=eR t:=funext λr=>pA J r;have Q:new=[]\/qO 1 t new=true:=A.elim (λh=>.inr (h▸M)) λh=>.inl h.1
 have D:sT t (eR t row) l=[]\/(qO 1 t (sT t (eR t row) l)=true/\eR t (sT t (eR t row) l)=eR t row):=by
  by_cases h:sT t (eR t row) l=[]
  .exact .inl h
  .have⟨T,U⟩:=cmZ h;exact .inr ⟨g.1 _ T,U⟩
 have E:sT t (eR t row) l≠[]\/new≠[]:=A.elim (λh=>.inr (h▸o row M)) λh=>.inl h.2
 have F:sV 1 s ⟨n,sT t (eR t row) l,new⟩=true:=by
  unfold sV;simp only[S,Bool.true_and,su,Bool.or_eq_true,Bool.not_eq_true',beq_iff_eq,Bool.and_eq_false_iff,beq_eq_false_iff_ne];refine⟨⟨⟨E.imp (λh e=>h (length_eq_zero_iff.1 e)) λh e=>h (length_eq_zero_iff.1 e),D.imp (λh=>by rw[h];rfl) λh=>C _ h.1⟩,Q.imp (λh=>by rw[h];rfl) (C _)⟩,?_⟩;rcases D with h|h
  .grind
  rcases A with rfl|A
  .right;rw[f,h.2];exact eX.2 rfl
  grind
 have R:kK s ⟨n,sT t (eR t row) l,new⟩=eR t row:=by
  unfold kK;dsimp only;rw[f];split
  .grind
  grind
 have u:=KN.of g.2
 have G:mW s l ⟨n,sT t (eR t row) l,new⟩=some (tK t (eR t row) new (decide (new.length=0)) l):=by
  have:=T1 (t:=t) (key:=eR t row) (bj:=sT t (eR t row) l) (new:=new) u (λr d=>o r (g.1 r d)) rfl E;unfold mW;rw[R];dsimp only;rw[f];exact this
 have H:=LK F (by rw[f];exact u) G;rw[f]at H;refine⟨F,G,by rw[length_set];exact x.len,λy z=>?_,λj V y B z=>?_,λy z r d v I=>?_⟩
 .rcases mem_or_eq_of_mem_set z with h|rfl
  .have:=x.jv y h;omega
  .have:=x.jv l (si L);omega
 .by_cases e:n=j
  .subst e;rw[getElem?_set_self O]at z;rw[J]at B;cases z;cases B;refine⟨λr d=>?_,(KN.adj H.1)⟩;rcases A with rfl|A
   .rcases EY d with rfl|d
    .exact M
    .exact g.1 r d
   .rw[A.1]at d;rcases EY d with rfl|d
    .exact absurd d (bpJ (λx W=>o x (g.1 x W)))
    .exact g.1 r d
  .rw[getElem?_set_ne e]at z;exact x.ok j V y B z
 .rcases mem_or_eq_of_mem_set z with h|rfl
  .exact x.val y h r d v I
  .rcases EY d with rfl|d
   .grind
   .exact x.val l (si L) r d v I
def OE s st cs st2:=oV 1 s st (dQ st) cs=(st2,0)
theorem Q5{f:Int}{s:kD}{c:sZ}{st2:List tj}:∀{cs:List sZ}{st:List tj}{n:Int},oV f s st n cs=(st2,0)->∃e,oV f s st n (cs++[c])=oV f s st2 e [c]/\(n=dQ st->st.length=s.c.length->e=dQ st2/\st2.length=s.c.length)
 |[],st,n,h=>by
  rw[oV]at h;cases h;exact⟨n,rfl,λg j=>⟨g,j⟩⟩
 |d::cs,st,n,h=>by
  rw[oV]at h;rw[cons_append,oV];split at h
  .cases h
  rename_i g;rw[if_neg g];cases o:mW s (st.getD d.j.toNat []) d with
  |none=>grind
  |some l=>
   rw[o]at h;dsimp only at h⊢
   split at h
   .cases h
   rename_i j;rw[if_neg j];obtain⟨e,t,u⟩:=Q5 h;refine⟨e,t,λy z=>u ?_ (by grind)⟩;simp_all[jE,sV,Bool.and_eq_true,fg]
theorem OE.cw{st:List tj}{st2 cs}{c:sZ}{n:Nat}{l d}(h:OE s st cs st2)(e:st.length=s.c.length)(f:c.j=n)(g:st2[n]?=some l)(A:sV 1 s c=true)(j:mW s l c=some d)(o:dQ (st2.set n d)<=512):OE s st (cs++[c]) (st2.set n d):=by
 have⟨B,t,u⟩:=Q5 (c:=c) h;have⟨y,_⟩:=u rfl e;unfold OE;rw[t,oV,if_neg da];have z:st2.getD c.j.toNat []=l:=da
 rw[z,j];dsimp only;rw[fg g]at o;rw[y,if_neg aC,f,Int.toNat_natCast,oV]
structure Rn(h:PH)(w:Wr)(v:Qc):Prop where
 ft:an h v.aa w.ak
 bef_:Rows h v.ij w.bef
 pm:Rows h v.after w.pq
 befS:iY w.bef
 aftS:iY w.pq
 befL:w.bef.length<=8000000
 aftL:w.pq.length<=8000000
theorem Rn.mono{w v}(x:Rn h w v)(le:PH.le h h'):Rn h' w v:=⟨x.ft.mono le,x.bef_.mono le,x.pm.mono le,x.befS,x.aftS,x.befL,x.aftL⟩
structure UD(h:PH)(d:fw)(v:gR):Prop where
 chg_:v.change=d.chg
 pm:v.after=d.pq
 ir:v.ah=d.j
 pf:bF h v.key d.key
 col_:v.ju=d.col
theorem UD.mono{d v}(x:UD h d v)(le:PH.le h h'):UD h' d v:=⟨x.chg_,x.pm,x.ir,x.pf.mono le,x.col_⟩
def eB(b:Bool):tm:=[.bool b]
structure kV(m0 m:MH)(h:PH)(b:Nat)(s:kD)(wr:Int->List Wr)(ds:List fw):Prop where
 sub:dh m0 m
 new:m0 b=none
 ex:∃(sc:_)(y:_)(d:_)(kvs:List (Int×Sl))(dvs:List gR),m b=some (.cells ⟨bQ.ag sc++[.map (some y),Sl.val d]⟩ 111 (0,0))/\dV h s sc/\xZ m y (kvs.map λp=>(.int .i64 p.1,Sl.val p.2))/\
  (∀t u,(t,u)∈kvs->aU h 3 Qc.ag (Rn h) u (wr t))/\(∀t,(∀u,(t,u)∉kvs)->wr t=[])/\fU m0 m d 77 5 (dvs.map gR.ag)/\ds.length=dvs.length/\∀(i:Nat) x,ds[i]?=some x->∃v,dvs[i]?=some v/\UD h x v
def dDQ:AC:=λc m h K=>∃v s t d r,c=[aS v,cI t,cS d]/\dV h s v/\bF h d r/\r.length<=1000/\∀e h',PH.le h h'->bF h' e (jJ s t r)->K (cS e) m h'
def cWX:AC:=λd m h K=>∃f b v c s g j,d=[cP b,Yx v]/\kV f m h b s g j/\AW h c v/\c.bj.length<=1000/\c.new.length<=1000/\∀e h',PH.le h h'->bF h' e (xR s c)->K (cS e) m h'
def cWJ:AC:=λc m h K=>∃s n l,c=[cS s,cI n]/\an h s l/\∀k:Int,(0<=k↔n∈l)->K (cI k) m h
def dHJ:AC:=λc m h K=>∃s n l,c=[cS s,cI n]/\an h s l/\K (cB (l.contains n)) m h
def cVQ:AC:=λf m h K=>∃j b v c d e s g n,f=[cP b,Yx v,cB d,cI e]/\kV j m h b s g n/\AW h c v/\c.bj.length<=1000/\c.new.length<=1000/\∀h',PH.le h h'->K (cB (pG (g c.j) (xR s c) d e)) m h'
def dHX:AC:=λe m h K=>∃g b i v c d u l s j f,e=[cP b,cI i,Yx v,cI d,cS u]/\kV g m h b s j f/\AW h c v/\c.bj.length<=1000/\c.new.length<=1000/\aU h 1 eB Eq u l/\f.length+l.length<=1000000/\
 ∀m' h',PH.le h h'->kV g m' h' b s j (f++l.map λa=>⟨i,a,c.j,xR s c,d⟩)->K (.dg []) m' h'
def bJJ:AC:=λd m h K=>∃g b i v c s e f,d=[cP b,cI i,Yx v]/\kV g m h b s e f/\AW h c v/\c.bj.length<=1000/\c.new.length<=1000/\(c.bj≠[]->c.new≠[]->c.bj.length=c.new.length)/\f.length<=900000/\
 ∀m' h',PH.le h h'->kV g m' h' b s e (f++Yk s (e c.j) i c)->K (.dg []) m' h'
def cBJ s n m h:=dD [] [(2,{A:=Nat,st:=λi=>bO 19 21 [(0,sv s),(1,iv n),(7,iv s.len),(8,iv i)] [] m h})] [] [] false
def cGZ(b:Nat)(v:eG)(m:MH)(h:PH):=tH [(154,dDQ),(125,YR)] [] [(4,{A:=Sl,st:=λu=>bO 22 24 [(0,pv b),SW 3,(5,sv u)] [UV 3 84 v.ag] m h})] [] [0] [] false
def ddZ d e m:=tH [(126,cWX),(127,dHJ),(120,cXJ)] [(3,{A:=Nat×Sl×Sl×PH,st:=λ⟨i,k,c,h⟩=>bO 52 56 ([(2,bv d),(3,iv e),(9,sv k)]++WF 24 c i) [] m h})]
 [(3,{A:=Sl×Sl×PH,st:=λ⟨k,c,h⟩=>bO 52 56 ([(2,bv d),(3,iv e),(9,sv k)]++WF 24 c 0) [] m h}),
  (6,{A:=Nat×Sl×Sl×Qc×PH,st:=λ⟨i,k,c,w,h⟩=>bO 52 56 ([(2,bv d),(3,iv e),(9,sv k),SW 11]++WF 24 c i) [UV 11 114 w.ag] m h}),
  (9,{A:=Nat×Sl×Sl×Sl×PH,st:=λ⟨i,k,c,u,h⟩=>bO 52 56 ([(2,bv d),(3,iv e),(9,sv k),(12,sv u)]++WF 24 c i) [] m h})] [] [0] [] false
def ddX(b:Nat)(i c:Int)(v:eG)(u:Sl):=tH [(126,cWX)] [(2,{A:=Nat×MH×PH,st:=λ⟨k,m,h⟩=>bO 37 42 ([(0,pv b),(1,iv i),(3,iv c),SW 7]++WF 12 u k) [UV 7 84 v.ag] m h})] [] [] [1046,0] [] false
def dkJ(b:Nat)(i:Int)(v:eG):=tH [(83,cVQ),(84,dHX)]
 [(2,{A:=Nat×MH×PH,st:=λ⟨k,m,h⟩=>bO 79 82 [(0,pv b),(1,iv i),SW 5,(12,iv v.bj.len),(13,iv k)] [UV 5 84 v.ag] m h}),
  (7,{A:=Nat×List Bool×Nat×MH×PH,st:=λ⟨j,l,k,m,h⟩=>bO 79 82 [(0,pv b),(1,iv i),SW 5,(6,iv k),(7,.at (.au 42)),(12,iv v.bj.len),(13,iv k),(27,.at (.au 27)),(28,iv 2),(29,iv j)] [UV 5 84 v.ag,(27,.au 4 1 [eB false,eB true]),(42,.au 4 1 (l.map eB))] m h})] [] [] [0] [] false
def Wg(v:bQ)(t:Int)(s:Sl):ST:=λm h K=>E7 v t h (λg j=>cC (jE g j) (K EO m h) (aM (λb o=>aR (kI v) b o/\0<=t/\t<aF v.c/\∃y,aK m h b (dN o t 5+2) (bV y)/\aX y 0 (K EO m h) (aM (λe f=>aR (kI v) e f/\0<=t/\t<aF v.c/\∃c,aK m h e (dN f t 5+2) (bV c)/\0<=ite (aF s<c) (aF s) c/\xB (ite (aF s<c) (aF s) c) s/\∃d,dA 3 d/\bT h (Sl.mk s.a (ite (aF s<c) (aF s) c).toNat s.cap) 3 d/\cJ (DA d*32)/\cJ (DA d)/\bN h 3 (FD d) (λn u=>K (tV n) m u))))))
def We(s:Sl)(n:Int):ST:=λm h K=>mF (λI x=>I x/\aH s/\bM n/\aY s/\bX (bB x) m m h h) (λI d x=>I x->aX x (aF s) (ab s x 1 bV m h (λy=>dP n y (K (fD x) m h) (∃c,I c/\d c<d x/\aH s/\bM n/\aY s/\fI (bA x 1)=bR c/\m=m/\h=h/\True))) (K (fD (Int.negSucc 0)) m h))
abbrev NJ(a:Int->ti->Prop):=∃x c,a x c
abbrev J5(a:MH->Nat->Prop):=∃x c,a x c
abbrev F1(a:eG->sZ->Prop):=∃x c,a x c
abbrev F4(a:kD->(Int->List Wr)->(List fw)->Prop):=∃x c d,a x c d
abbrev FC(a:eG):=pW a.ah
abbrev DQ(a:Nat×Sl×Sl×Qc×PH):=a.2.2.1
abbrev Ns(a:Qc):=rF a.aa::rF a.ij::zU a.after
abbrev ND(a:Nat×Sl×Sl×Qc×PH):=a.2.2.2.1
abbrev rK(a:Nat×Sl×Sl×Sl×PH):=a.2.2
abbrev Cf(a:PH)(b:PH->Prop):=∀x,PH.le a x->b x
abbrev nD(a:Nat×List Bool×Nat×MH×PH):=a.2.2
abbrev Nu:=AB uG::[[zH]]
abbrev Ff(a:Nat×List Bool×Nat×MH×PH):=List.map eB a.2.1
attribute [push_cast] NJ J5 F1 F4 FC DQ Ns ND rK Cf nD Nu Ff
def WC(s:Sl)(n:Int):ST:=λm h K=>∃c,NJ (λd l=>fB s n=fB c d/\an h c l/\∀k,(dK k↔List.Mem d l)->K (AU (decide (k>=0))) m h)
def WD(b:Nat)(v:eG):ST:=λm h K=>∃I:Sl->Prop,dP (aF v.new) 0 (∃x,I x/\cK b/\cR/\bC v.bj x/\bX (nG v) m m h h) (∃x,I x/\cK b/\cR/\bC v.new x/\bX (nG v) m m h h)/\∀x,I x->∃y,aK m h b 0 (cW y)/\yI y (iV v.ah x) h (λs c=>aK m c b 0 (cW y)/\Be s c (λe d=>aK m d b 0 (cW y)/\K (tV e) m d))
def adZ(b:Nat)(v:eG)(A:Bool)(t:Int):ST:=λm h K=>J5 (λQ H=>F1 (λJ c=>F4 (λs w d=>bL (jN b) (jM v)=bL (jN H) (jM J)/\kV Q m h H s w d/\AW h c J/\jB c.bj/\jB c.new/\jA (λF C=>cO h C (bF C F (xR s c)) (∃I:Sl×Sl×PH->Prop,(∃y,aK m C b 2 (bZ y)/\Ac m y (λO=>mG 3 O) (λO=>O (FC v)) (FC v) (∃x,I x/\eQ (Zr A)/\bM t/\bC F x.1/\qe=Zq (sH x)/\bB (sH x).len/\bM 0/\m=m/\dC C (nJ x)) (λL=>∃x,I x/\eQ (Zr A)/\bM t/\bC F x.1/\bC L (sH x)/\cT L (sH x)/\bM 0/\m=m/\dC C (nJ x)))/\∀x,I x->∃(I1:Nat×Sl×Sl×PH->Prop)(E:Nat×Sl×Sl×PH->Nat), (∃f,I1 f/\eQ (Zr A)/\bM t/\bC x.1 f.2.1/\bC (sH x) (pH f)/\cT (sH x) (pH f)/\bB f.1/\m=m/\dC (nJ x) (sM f))/\∀f,I1 f->aX f.1 (aF (pH f)) (aM (λM o=>aR (pH f).a M o/\0<=(↑f.1:Int)/\f.1<aF (pH f)/\∃y,aK m (sM f) M (bI o f.1 3) (fW y.aa::fW y.ij::aT y.after)/\∃I2:Nat×Sl×Sl×Qc×PH->Prop,let N:=∃e,I2 e/\eQ (Zr A)/\bM t/\bC f.2.1 e.2.1/\nF/\bC (pH f) (DQ e)/\cT (pH f) (DQ e)/\bP f.1 e.1/\bX (oQ 114 (Ns y)=oQ 114 (Ns (ND e))) m m (sM f) e.2.2.2.2;iA t 0 (∃D,NJ (λn l=>fB y.aa t=fB D n/\an (sM f) D l/\cC (contains l n) (∃e,I1 e/\E e<E f/\eQ (Zr A)/\bM t/\bC f.2.1 e.2.1/\bC (pH f) (pH e)/\cT (pH f) (pH e)/\fI (bA f.1 1)=bR e.1/\gM m m (sM f) (sM e)) N)) N/\∀e,I2 e->∃I3:Nat×Sl×Sl×Sl×PH->Prop,branch A (∃j,I3 j/\eQ (Zr A)/\bM t/\bC e.2.1 j.2.1/\bC (ND e).after (sH (rK j))/\bC (DQ e) (rK j).1/\cT (DQ e) (rK j).1/\bP e.1 j.1/\gM m m e.2.2.2.2 (nJ (rK j))) (∃j,I3 j/\eQ (Zr A)/\bM t/\bC e.2.1 j.2.1/\bC (ND e).ij (sH (rK j))/\bC (DQ e) (rK j).1/\cT (DQ e) (rK j).1/\bP e.1 j.1/\gM m m e.2.2.2.2 (nJ (rK j)))/\∀j,I3 j->lC (λD u=>NL (λg P=>∃l k G,bU (sH (rK j)) (j8 j.2.1 (vB 117 yZ))=bU D (j8 u (vB g (.mk P)))/\Rows (nJ (rK j)) D l/\wO l/\mr G l/\(∀B r,List.Mem r l->bF (nJ (rK j)) B r->Nt g 3 B u P m (nJ (rK j)) (λz R S=>z=bV (cV (G r) k)/\R=m/\S=nJ (rK j)))/\branch (lO G l k) (K eE m (nJ (rK j))) (∃B,I1 B/\E B<E f/\eQ (Zr A)/\bM t/\bC j.2.1 B.2.1/\bC (rK j).1 (pH B)/\cT (rK j).1 (pH B)/\fI (bA j.1 1)=bR B.1/\gM m m (nJ (rK j)) (sM B)))))) (K bH m (sM f)))))))
def adX b i v e u:=λm h K=>DT (λI x=>I x/\cK b/\bM i/\bM e/\eP 7/\aH u/\aY u/\bB x.1/\kO (nG v) (fK m x) (dH h x.2)) (λI A x=>I x->aX x.1 (aF u) (ab u x.1 1 xF (cA x) (bW x) (λy=>∃f,let L:=aK (cA x) (bW x) b 3 (aT f);L/\L/\J5 (λJ C=>F1 (λD c=>F4 (λs w d=>bL (jN b) (jM v)=bL (jN C) (jM D)/\kV J (cA x) (bW x) C s w d/\AW (bW x) c D/\jB c.bj/\jB c.new/\jA (λF g=>cO (bW x) g (bF g F (xR s c)) (uF (aK (cA x) g b 3 (aT f)) (aK (cA x) g b 3 (aT f)) (λn=>cH (cA x) (bK f) 77 5 n/\cJ (fS n 1*56)/\fA n/\fY (λG t=>cL (cA x) t (bK f) G 77 5 (hZ n (pW i::.bool y::pW v.ah::fW F::bV e))->am t b 3 (aT G) (λH=>∃j,I j/\A j<A x/\cK b/\bM i/\bM e/\eP 7/\aH u/\aY u/\mP (fI (bA x.1 1)=bR j.1) (nG v) (fK H j) (dH g j.2))))))))))) (BP K (cA x) (bW x)))
def aiZ b i v:=λm h K=>dJ (aF v.bj==0) (J5 (λE F=>F1 (λz c=>∃a A,F4 (λs w d=>eD b (bE (jM v) (dZ eE (Int.negSucc 0)))=eD F (bE (jM z) (dZ (AU a) A))/\kV E m h F s w d/\AW h c z/\jB c.bj/\jB c.new/\Cf h (λn=>cC (pG (w c.j) (xR s c) a A) (bN n 1 ([[zH]]) (λH t=>∃C,KT (λj G=>F1 (λO B=>∃P u l,F4 (λJ Q L=>eD b (jO i (bE (jM v) (iV (Int.negSucc 0) H)))=eD j (jO G (bE (jM O) (iV P u)))/\kV C m t j J Q L/\AW t B O/\jB B.bj/\jB B.new/\aU t 1 eB Eq u l/\L.length+l.length<=1000000/\iK (λD M=>cO t M (kV C D M j J Q (L++List.map (fun(R
 :Bool)=>fw.mk G R B.j (xR J B) P) l)) (BP K D M))))))) (BP K m n)))))) (aF v.new==0) (J5 (λE F=>F1 (λz c=>∃a A,F4 (λs w d=>eD b (bE (jM v) (dZ bH (Int.negSucc 0)))=eD F (bE (jM z) (dZ (AU a) A))/\kV E m h F s w d/\AW h c z/\jB c.bj/\jB c.new/\Cf h (λn=>cC (pG (w c.j) (xR s c) a A) (bN n 1 ([[uG]]) (λH t=>∃C,KT (λj G=>F1 (λO B=>∃P u l,F4 (λJ Q L=>eD b (jO i (bE (jM v) (iV (Int.negSucc 0) H)))=eD j (jO G (bE (jM O) (iV P u)))/\kV C m t j J Q L/\AW t B O/\jB B.bj/\jB B.new/\aU t 1 eB Eq u l/\L.length+l.length<=
 1000000/\iK (λD M=>cO t M (kV C D M j J Q (L++List.map (λR=>fw.mk G R B.j (xR J B) P) l)) (BP K D M))))))) (BP K m n)))))) (DT (λI x=>I x/\cK b/\bM i/\bY/\aY v.bj/\bB x.1/\nG v/\fK m x/\fQ h x.2) (λI E x=>I x->aX x.1 (aF v.bj) (ab v.bj x.1 3 VV.ag (cA x) (bW x) (λy=>Jv v.new x.1 (cA x) (bW x) (λU=>rI 58 y.ag U.ag (λr=>branch r (∃f,I f/\E f<E x/\cK b/\bM i/\bY/\aY v.bj/\fI (bA x.1 1)=bR f.1/\nG v/\eV (fK (cA x) f) (dH (bW x) f.2)) (∃(I1:Nat×List Bool×
 Nat×MH×PH->Prop)(C:Nat×List Bool×Nat×MH×PH->Nat),(∃f,I1 f/\cK b/\bM i/\bY/\bP x.1 (nD f).1/\eL 42/\aY v.bj/\bP x.1 (nD f).1/\eL 27/\bM 2/\bB f.1/\nG v/\eQ (cE 4 1 Nu)/\wL 4 1 (Ff f)/\fK (cA x) (nD f)/\dH (bW x) (nD f).2/\True)/\∀f,I1 f->aX f.1 2 (GW (vM f.1) ((↑f.1:Int)<2) (λe=>yT Nu (tY f.1) e/\∃S,List.take 1 (List.drop 0 e)=xF S/\J5 (λD j=>F1 (λz c=>∃a A,F4 (λs w d=>eD b (bE (jM v) (dZ (AU S) (↑(nD f).1:Int)))=eD j (bE (jM z) (dZ (AU a) A))/\kV D (cA
 (nD f)) (bW (nD f)) j s w d/\AW (bW (nD f)) c z/\jB c.bj/\jB c.new/\Cf (bW (nD f)) (λn=>cC (pG (w c.j) (xR s c) a A) (lJ (Ff f) 1 (∃g,I1 g/\C g<C f/\cK b/\bM i/\bY/\bP (nD f).1 (nD g).1/\eL 42/\aY v.bj/\bP (nD f).1 (nD g).1/\eL 27/\bM 2/\fI (bA f.1 1)=bR g.1/\nG v/\eQ (cE 4 1 Nu)/\cE 4 1 (hZ (Ff f) (xF S))=cE 4 1 (Ff g)/\fK (cA (nD f)) (nD g)/\fQ n (nD g).2)) (∃g,I1 g/\C g<C f/\cK b/\bM i/\bY/\bP (nD f).1 (nD g).1/\eL 42/\aY v.bj/\bP (nD
 f).1 (nD g).1/\eL 27/\bM 2/\fI (bA f.1 1)=bR g.1/\nG v/\eQ (cE 4 1 Nu)/\cE 4 1 (Ff f)=cE 4 1 (Ff g)/\fK (cA (nD f)) (nD g)/\fQ n (nD g).2))))))) (bN (bW (nD f)) 1 (Ff f) (λs n=>∃D,KT (λj G=>F1 (λz c=>∃A u l,F4 (λH w d=>eD b (jO i (bE (jM v) (iV (↑(nD f).1:Int) s)))=eD j (jO G (bE (jM z) (iV A u)))/\kV D (cA (nD f)) n j H w d/\AW n c z/\jB c.bj/\jB c.new/\aU n 1 eB Eq u l/\d.length+l.length<=1000000/\iK (λT t=>cO n t (kV D T t j H w (d++List.map (λa=>fw.mk G a c.j (xR H c) A) l)) (∃g,I g/\E
 g<E x/\cK b/\bM i/\bY/\aY v.bj/\fI (bA (nD f).1 1)=bR g.1/\nG v/\eV (fK T g) (dH t g.2))))))))))))) (BP K (cA x) (bW x))))
theorem Xy:Tryz.prog.underlying 3=some (.int .i64):=bt
theorem aMX:dz Tryz.prog 3 (λv=>∃n,v=.int .i64 n):=by
 refine⟨⟨_,Xy⟩,?_,?_,?_⟩
 .rintro _ w b⟨n,rfl⟩
  have e:∀k:Nat,(Instr.checkKey b (k+1) 3 (.int .i64 n)).run Tryz.prog w=.ok () w:=λk=>by
   simp_all[Instr.checkKey,Result.andThen,Sem.run_bind,run_underlying]
  exact e 9999
 .rintro _ _ w⟨a,rfl⟩⟨b,rfl⟩;refine⟨_,run_equalIn_int w 9999 3 .i64 .i64 a b Xy,?_⟩;simp
 .rintro d _ _ r c⟨a,rfl⟩⟨b,rfl⟩ h;rw[Xy]at c
  grind[Instr.sameNow]
theorem duQ{s n}(d:an h s l)(f:K (cB (l.contains n)) m h):WC s n m h K:=
 ⟨s,n,l,rfl,d,λk c=>lQ f (by
  cases e:l.contains n with
  |true=>rw[eq_comm,s0];exact c.2 (contains_iff_mem.1 e)
  |false=>
   rw[eq_comm,decide_eq_false_iff_not];intro g;have:n∈l:=c.1 g
   grind)⟩
theorem a7Z:uz 154 dDQ:=by
 refine gV func154 ?_;rintro B m h K⟨v,s,t,c,r,rfl,j,n,R,u⟩;refine⟨WP [(113,cdQ)],rfl,aD EF aG,Wg v t c,bt,?_⟩;dsimp only[Wg,push_cast];have C:=aU.e n;have D:=j.c.e;have d:jJ s t r=[]->K (.val (.slice none 0 0)) m h:=λe=>u ⟨none,0,0⟩ h (.refl _) (by rw[e];exact aU.nil _ _ _ _);refine⟨v,s,t,rfl,j,aB (λf=>d ?_) (λf=>?_)⟩
 .grind[jJ,Bool.not_eq_true']
 simp only[Bool.not_eq_false']at f;have E:=f;simp only[jE,su,s0]at E;have⟨x,b,o,w,F,y,rd,G⟩:=j.ah (t:=t) aC aC;have z:=G.key;have e:jJ s t r=r.take (max 0 (min x.key r.length)).toNat:=by simp only[jJ,f,if_true,F];rfl
 refine⟨b,o,y,aC,aC,w.key,.ay (bJ.part rd 2 1),aE (λH=>d ?_) (λH=>?_)⟩
 .rw[e,show(max 0 (min x.key r.length)).toNat=0 by omega,take_zero]
 have A:c.len<=c.cap:=by obtain⟨⟨_,k,_⟩,_⟩:=n;exact k.cap
 have S:(if(c.len:Int)<w.key then(c.len:Int)else w.key).toNat=(max 0 (min x.key r.length)).toNat:=by omega
 have I:(max 0 (min x.key r.length)).toNat<=r.length:=by omega
 have⟨⟨g,T,J,L⟩,M⟩:=bF.cut (a:=c.a) (len:=c.len) (cap:=c.cap) n I;have O:g.length<=1000:=da
 refine⟨b,o,y,aC,aC,w.key,.ay (bJ.part rd 2 1),aC,aC,g.map VV.ag,A2 g,da,da,da,λP h' le Q=>u P h' le ?_⟩;rw[e];exact⟨⟨g,da,J,L⟩,M⟩
theorem a7X:uz 155 cWJ:=by
 refine gV func155 ?_;rintro t m h K⟨s,n,l,rfl,d,g⟩;refine⟨cBJ s n m h,rfl,aG,We s n,bt,?_⟩;dsimp only[We,push_cast];have f:=d.e;have B:=d.len;refine⟨λi=>i<=l.length/\∀x∈l.take i,x≠n,λi=>l.length-i,⟨0,⟨aC,bu⟩,MT⟩,λi⟨C,j⟩=>aE (λc=>?_) (λu=>g _ ⟨λe=>by omega,λe=>?_⟩)⟩
 .have⟨x,z⟩:=eF f c;have⟨b,o,A,rd⟩:=d.im z;refine⟨b,o,A,aC,c,x,.ay rd,aB (λe=>g _ ⟨λ_=>?_,λ_=>by omega⟩) (λe=>⟨i+1,⟨aC,λy D=>?_⟩,da,MT⟩)⟩
  .grind
  grind[sy]
 grind
theorem bcQ:uz 127 dHJ:=by
 refine gV func127 ?_;rintro c m h K⟨s,n,l,rfl,d,e⟩;refine⟨WP [(155,cWJ)],rfl,aD a7X aG,WC s n,bt,?_⟩;exact duQ d e
theorem TF:uz 126 cWX:=by
 refine gV func126 ?_;rintro A m h K⟨Q,b,v,c,s,R,S,rfl,B,f,o,g,C⟩;refine⟨cGZ b v m h,rfl,aD a7Z (aD TI aG),WD b v,bt,?_⟩;dsimp only[WD,push_cast];have⟨sc,y,d,D,E,F,G,_⟩:=B.ex;have H:=aU.e f.gj;refine⟨λu=>bF h u (if c.new.length=0 then c.bj else c.new),aB (λI=>⟨v.bj,?_,MT⟩) (λI=>⟨v.new,?_,MT⟩),λu J=>?_⟩
 .rw[if_pos da];exact f.ib
 .rw[if_neg da];exact f.gj
 have rd:∀t,aK m t b 0 (bQ.ag sc):=λt=>.i F rfl;have e:(if c.new.length=0 then c.bj else c.new).length<=1000:=da
 have L:(jJ s c.j (if c.new.length=0 then c.bj else c.new)).length<=1000:=by
  grind[jJ,eR]
 exact⟨sc,rd h,sc,s,v.ah,u,_,rfl,G,J,e,λM o j z=>⟨rd o,M,_,rfl,by rw[f.ir]at z;exact z,L,λO g n P=>⟨rd g,C O g (j.trans n) P⟩⟩⟩
theorem bRJ{l key}(d:iY l):lO (λr=>r) l key=Lq l key:=by
 have c:mr (λr=>r) l:=d;cases e:Lq l key with
 |true=>exact(Kf c).2 ⟨key,Ke.1 e,rfl⟩
 |false=>
  rw[Bool.eq_false_iff];intro f;obtain⟨r,g,rfl⟩:=(Kf c).1 f;rw[Ke.2 g]at e;cases e
theorem kV.ic{m0 wr ds t P0}{P:Sl->Prop}(j:kV m0 m h b s wr ds)(le:PH.le h h')(n:aU h' 3 Qc.ag (Rn h') ⟨none,0,0⟩ (wr t)->P0)(o:∀ws,aU h' 3 Qc.ag (Rn h') ws (wr t)->P ws):
 ∃y,aK m h' b 2 [.map (some y)]/\∃c Ok,xZ m y (c.map λp=>(p.1,fW p.2))/\dz Tryz.prog 3 Ok/\Ok (.int .i64 t)/\(∀e,List.Mem e c->Ok e.1)/\((∀e,List.Mem e c->e.1=.int .i64 t->False)->P0)/\∀u,List.Mem (.int .i64 t,u) c->P u:=by
 have⟨sc,y,d,c,z,A,_,B,C,D,_⟩:=j.ex;refine⟨y,.i A rfl,c.map λp=>(Value.int .i64 p.1,p.2),_,by rw[map_map];exact B,aMX,⟨t,rfl⟩,λe E=>?_,λF=>n ?_,λu g=>o u ?_⟩
 .obtain⟨k,_,rfl⟩:=mem_map.1 (show e∈_ from E)
  grind
 .rw[D t λu g=>F (Value.int .i64 t,u) (mem_map_of_mem (f:=λp:Int×Sl=>(Value.int .i64 p.1,p.2)) g) rfl]
  grind[aU.nil]
 .have⟨p,G,e⟩:=mem_map.1 (show(Value.int .i64 t,u)∈_ from g);simp only[Prod.mk.injEq,Value.int.injEq,true_and]at e;obtain⟨H,I⟩:=e;subst H I;exact aU.mono (C _ _ G) le λ_ _ x=>x.mono le
theorem bVX:uz 83 cVQ:=by
 refine gV func83 ?_;rintro U m h K⟨V,b,v,c,d,f,s,H,X,rfl,P,Q,Y,Z,A⟩;refine⟨ddZ d f m,rfl,aD TF (aD bcQ (aD TJ aG)),adZ b v d f,bt,?_⟩;dsimp only[adZ,push_cast];refine⟨V,b,v,c,s,H,X,rfl,P,Q,Y,Z,λk h' le R=>?_⟩;have ht:=Q.ir;refine⟨λz=>k=z.1/\h'=z.2.2/\aU h' 3 Qc.ag (Rn h') z.2.1 (H v.ah),kV.ic P le (t:=v.ah) (λhn=>⟨(k,⟨none,0,0⟩,h'),⟨rfl,rfl,hn⟩,MT⟩) (λj g=>⟨(k,j,h'),⟨rfl,rfl,g⟩,MT⟩),?_⟩;rintro⟨_,j,_⟩⟨rfl,rfl,g⟩;dsimp only at g⊢
 rw[ht]at g;generalize H c.j=W at A g;generalize xR s c=key at A R;have I:=aU.e g;have J:=g.len;refine⟨λz=>k=z.2.1/\j=z.2.2.1/\h'=z.2.2.2/\z.1<=W.length/\pG W key d f=pG (W.drop z.1) key d f,λz=>W.length-z.1,⟨(0,k,j,h'),⟨rfl,rfl,rfl,Nat.zero_le _,da⟩,MT⟩,?_⟩;rintro⟨i,_,_,_⟩⟨rfl,rfl,rfl,hi,F⟩;dsimp only at hi F⊢
 refine aE (λB=>?_) (λa'=>?_)
 .have⟨w,S⟩:=eF I B;have⟨b1,o1,u,ea,rd,o⟩:=aU.at g S;rw[ci S]at F
  have next:(!((decide (f<0)||w.ak.contains f)&&Lq (if d then w.pq else w.bef) key))=true->(i+1<=W.length/\pG W key d f=pG (W.drop (i+1)) key d f):=λe=>by
   grind[pG]
  refine⟨b1,o1,ea,aC,B,u,.ay rd,λz=>z=(i,k,j,u,h')/\(decide (f<0)||w.ak.contains f)=true,aE (λn=>⟨u.aa,f,w.ak,rfl,o.ft,aB (λa2=>?_) (λa2=>⟨(i,k,j,u,h'),⟨rfl,?_⟩,MT⟩)⟩) (λn=>⟨(i,k,j,u,h'),⟨rfl,?_⟩,MT⟩),?_⟩
  .have⟨L,M⟩:=next (by
    grind)
   exact⟨(i+1,k,j,h'),⟨rfl,rfl,rfl,L,M⟩,aC,MT⟩
  .grind
  .grind
  rintro _⟨rfl,T⟩;dsimp only;refine⟨λz=>∃G,z=(i,k,j,G,h')/\Rows h' G (if d then w.pq else w.bef),aB (λn=>⟨(i,k,j,u.after,h'),⟨_,rfl,by rw[n];exact o.pm⟩,MT⟩) (λn=>⟨(i,k,j,u.ij,h'),⟨_,rfl,by rw[n];exact o.bef_⟩,MT⟩),?_⟩;rintro _⟨G,rfl,C⟩;dsimp only
  have y:iY (if d then w.pq else w.bef):=by
   split
   .exact o.aftS
   .exact o.befS
  have D:(if d then w.pq else w.bef).length<=8000000:=by
   split
   .exact o.aftL
   .exact o.befL
  have E:Lq (if d then w.pq else w.bef) key=true->pG W key d f=true:=λe=>by
   simp_all[pG,any_cons,Bool.true_and,Bool.true_or]
  generalize (if d then w.pq else w.bef)=l at C y D next E
  refine⟨G,k,117,[],l,key,λr=>r,rfl,C,D,y,λx r _ O=>bzQ xT λK A=>⟨x,k,r,key,rfl,O,R,A⟩,?_⟩;rw[bRJ y];refine aB (λn=>?_) (λn=>?_)
  .have:=A h' le;rw[E n]at this;exact this
  .have⟨L,M⟩:=next bz
   exact⟨(i+1,k,j,h'),⟨rfl,rfl,rfl,L,M⟩,ge,MT⟩
 .have:i=W.length:=by omega
  subst this;rw[drop_length]at F;have:=A h' le;rw[F]at this;exact this
theorem kV.deny{m0 m2:MH}{y:Nat}{wr:Int->List Wr}{ds:List fw}{d:Sl}{C}{f:List (Int×Sl)}{c:List gR}{nd nv cs E}(D:kV m0 m h b s wr ds)(G:m b=some (.cells ⟨bQ.ag sc++[.map (some y),Sl.val d]⟩ 111 (0,0)))(R:dV h s sc)(M:xZ m y (f.map λp=>(.int .i64 p.1,Sl.val p.2)))(S:∀t u,(t,u)∈f->aU h 3 Qc.ag (Rn h) u (wr t))(T:∀t,(∀u,(t,u)∉f)->wr t=[])(F:fU m0 m d 77 5 (c.map gR.ag))(O:ds.length=c.length)(U:∀(i:Nat) x,ds[i]?=some x->∃v,c[i]?=some v/\UD h x v)(le:PH.le h h')(g:cL m m' d C 77 5 (c.map gR.ag++[nv.ag]))(A:m' b=some (.cells cs E (0,0)))(up:iZ m' m2 b (.cells ⟨aq cs.toList 3 [Sl.val C]⟩ E))(hn:UD h' nd nv):kV m0 m2 h' b s wr (ds++[nd]):=by
 have P:∀i,d.a≠some ⟨b,i,none⟩:=λi e=>by
  have⟨H,z⟩:=cH.cj F.row e;simp_all
 have V:m' b=m b:=by rw[G];exact g.ai b _ G P
 rw[V,G]at A;simp only[ss,Obj.cells.injEq]at A;obtain⟨rfl,rfl,_⟩:=A;have⟨es,ck,Q,W⟩:=M.ex
 have X:∀i,d.a≠some ⟨y,i,none⟩:=λi e=>by
  have⟨H,z⟩:=cH.cj F.row e;simp_all
 have I:y≠b:=λe=>bz
 have B:∀x i,C.a=some ⟨x,i,none⟩->x≠b/\m0 x=none:=λx i e=>by
  rcases g.f x i e with k|⟨j,k⟩
  .exact⟨λz=>bz,D.sub.jb k⟩
  .exact⟨λz=>P j (z▸k),F.f x j k⟩
 refine⟨λx o e=>?_,D.new,sc,y,C,f,c++[nv],up.y,R.mono le,xZ.br M ?_,λt u k=>aU.mono (S t u k) le λ_ _ x=>x.mono le,T,⟨cH.br ?_ λx i e=>up.ai x (B x i e).1,λx i e=>(B x i e).2⟩,by simp[O],λi x e=>?_⟩
 .have J:x≠b:=λz=>by rw[z,D.new]at e;cases e
  rw[up.ai x J];exact g.ai x o (D.sub x o e) λi z=>by rw[F.f x i z]at e;cases e
 .rw[up.ai y I,Q];exact g.ai y _ Q X
 .rw[sn];exact g.row
 .rw[getElem?_append]at e⊢
  rw[O]at e;split at e
  .rename_i L;rw[if_pos L];have⟨w,Y,Z⟩:=U i x e;exact⟨w,Y,Z.mono le⟩
  .rename_i L;rw[if_neg L];cases e3:i-c.length with
   |zero=>simp_all
   |succ n=>simp_all
theorem biX{s l}(x:bT h s 1 (l.map eB))(c:l.length<=1000000):aU h 1 eB Eq s l:=⟨⟨l,x,rfl,λ_ v e=>⟨v,e,rfl⟩⟩,aC⟩
theorem kV.mono{m0 wr ds}(g:kV m0 m h b s wr ds)(le:PH.le h h'):kV m0 m h' b s wr ds:=by
 obtain⟨j,n,sc,y,d,c,f,o,z,A,B,C,D,E,F⟩:=g;exact⟨j,n,sc,y,d,c,f,o,z.mono le,A,λt u k=>aU.mono (B t u k) le λ_ _ x=>x.mono le,C,D,E,λi x e=>by have⟨w,G,H⟩:=F i x e;exact⟨w,G,H.mono le⟩⟩
theorem Gq{α:Type}{D:Nat->List α}(c:∀k,(D k).length<=2):∀n,((List.range n).flatMap D).length<=2*n
 |0=>bu
 |n+1=>by
  have:=Gq c n
  grind[range_succ,sj,flatMap_singleton]
theorem bVQ:uz 84 dHX:=by
 refine gV func84 ?_;rintro P m h K⟨G,b,i,v,c,f,u,l,s,H,Q,rfl,R,I,S,T,L,hl,hK⟩;refine⟨ddX b i f v u,rfl,aD TF aG,adX b i v f u,bt,?_⟩;dsimp only[adX,push_cast];have C:=aU.e L;refine⟨λz=>z.1<=l.length/\PH.le h z.2.2/\kV G z.2.1 z.2.2 b s H (Q++(l.take z.1).map λa=>⟨i,a,c.j,xR s c,f⟩),λz=>l.length-z.1,⟨(0,m,h),⟨bu,.refl _,mp R⟩,MT⟩,?_⟩;rintro⟨k,U,M⟩⟨V,le,J⟩;dsimp only at V le J⊢
 refine aE (λn=>?_) (λW=>?_)
 .have⟨a,X⟩:=eF C n;obtain⟨Y,Z,_,ea,rd,rfl⟩:=aU.at L X;have⟨sc,y,d,a',o,D,hs,hm,e1,e2,E,e3,e4⟩:=J.ex;have B:∀O,aK U O b 3 [Sl.val d]:=λO=>.i D rfl;have a0:o.length<=1000000:=by grind[sj,length_map,length_take]
  refine⟨Y,Z,ea,aC,n,a,.ay (rd.mono le),d,B M,B M,G,b,v,c,s,H,_,rfl,J,I.mono le,S,T,λs' h' t F=>⟨B h',B h',o.map gR.ag,E.row,by grind[length_map],by grind[length_map],λd' m' g=>?_⟩⟩
  have A:m' b=some (.cells ⟨bQ.ag sc++[.map (some y),Sl.val d]⟩ 111 (0,0)):=g.ai b _ D λj e=>by
   have⟨a1,e5⟩:=cH.cj E.row e;simp_all
  refine⟨_,111,⟨A⟩,by simp[bQ.ag],λm2 up=>⟨(k+1,m2,h'),⟨gt,le.trans t,?_⟩,ge,MT⟩⟩;have:=J.deny (nd:=⟨i,a,c.j,xR s c,f⟩) (nv:=⟨i,a,v.ah,s',f⟩) D hs hm e1 e2 E e3 e4 t g A up ⟨rfl,rfl,I.ir,F,rfl⟩
  grind[append_assoc,j4]
 grind[sm]
theorem Vr:uz 43 bJJ:=by
 refine gV func43 ?_;rintro b0 m h K⟨C,b,i,v,c,s,n,G,rfl,H,u,I,t,h3,hl,E⟩;refine⟨dkJ b i v,rfl,aD bVX (aD bVQ aG),aiZ b i v,bt,?_⟩;dsimp only[aiZ,push_cast];have W:=aU.e u.ib;have X:=aU.e u.gj;unfold Yk at E;refine aB (λL=>?_) (λL=>aB (λO=>?_) (λO=>?_))
 .have L:c.bj.length=0:=bz
  rw[if_pos L]at E;refine⟨C,b,v,c,true,-1,s,n,G,rfl,H,u,I,t,λh' le=>aB (λy=>λP h4 f Q=>⟨C,b,i,v,c,-1,P,[true],s,n,G,rfl,H.mono (le.trans f),u.mono (le.trans f),I,t,biX Q bx,cv,λm' h' o J=>E m' h' (le.trans (f.trans o)) ?_⟩) (λy=>E m h' le ?_)⟩
  .simp_all
  .rw[Bool.not_eq_false']at y;rw[y,if_pos rfl,append_nil];exact H.mono le
 all_goals have L:c.bj.length≠0:=by simp only[beq_eq_false_iff_ne]at L;omega
 all_goals rw[if_neg L]at E
 .have O:c.new.length=0:=bz
  rw[if_pos O]at E;refine⟨C,b,v,c,false,-1,s,n,G,rfl,H,u,I,t,λh' le=>aB (λy=>λP h4 f Q=>⟨C,b,i,v,c,-1,P,[false],s,n,G,rfl,H.mono (le.trans f),u.mono (le.trans f),I,t,biX Q bx,cv,λm' h' o J=>E m' h' (le.trans (f.trans o)) ?_⟩) (λy=>E m h' le ?_)⟩
  .simp_all
  .rw[Bool.not_eq_false']at y;rw[y,if_pos rfl,append_nil];exact H.mono le
 have O:c.new.length≠0:=bz
 rw[if_neg O]at E;have h3:c.bj.length=c.new.length:=h3 (λe=>L (by rw[e];rfl)) (λe=>O (by rw[e];rfl));generalize hD:(λj:Nat=>if R2 (c.bj.getD j al) (c.new.getD j al)=true then[]else([false,true].filter λa=>!pG (n c.j) (xR s c) a j).map λa=>(⟨i,a,c.j,xR s c,j⟩:fw))=D at E
 have Y:∀k,(D k).length<=2:=λk=>by
  grind[length_map,length_filter_le]
 have g:∀k,D k=if R2 (c.bj.getD k al) (c.new.getD k al)=true then[]else([false,true].filter λa=>!pG (n c.j) (xR s c) a k).map λa=>(⟨i,a,c.j,xR s c,k⟩:fw):=λk=>by rw[<-hD]
 clear hD;refine⟨λz=>z.1<=c.bj.length/\PH.le h z.2.2/\kV C z.2.1 z.2.2 b s n (G++(List.range z.1).flatMap D),λz=>c.bj.length-z.1,⟨(0,m,h),⟨bu,.refl _,mp H⟩,MT⟩,?_⟩;rintro⟨k,F,R⟩⟨hk,le,J⟩;dsimp only at hk le J⊢
 have A:∀Z t,PH.le R t->kV C Z t b s n ((G++(List.range k).flatMap D)++D k)->kV C Z t b s n (G++(List.range (k+1)).flatMap D):=λZ t _ x=>by
  grind[range_succ,flatMap_singleton,append_assoc]
 have b3:=Gq Y k;refine aE (λS=>?_) (λb4=>?_)
 .have⟨x,hx⟩:=eF W S;have⟨x2,a'⟩:=eF X (i:=k) aC;obtain⟨b1,o1,_,ea,rd,rfl⟩:=aU.at u.ib hx;obtain⟨b2,o2,_,a0,a5,rfl⟩:=aU.at u.gj a';have g1:c.bj.getD k al=x:=bz
  have g2:c.new.getD k al=x2:=bz
  have g:=g k;rw[g1,g2]at g;refine⟨b1,o1,ea,aC,S,x,.ay (rd.mono le),b2,o2,a0,aC,aC,x2,.ay (a5.mono le),_,HS x x2,aB (λy=>?_) (λy=>?_)⟩
  .rw[if_pos y]at g;exact⟨(k+1,F,R),⟨gt,le,A F R (.refl _) bz⟩,ge,MT⟩
  rw[if_neg (by rw[y];decide)]at g;generalize hN:(λa=>!pG (n c.j) (xR s c) a (k:Int))=N at g;have T:∀a,(!pG (n c.j) (xR s c) a (k:Int))=N a:=λa=>by rw[<-hN]
  refine⟨λz=>k=z.2.2.1/\F=z.2.2.2.1/\PH.le R z.2.2.2.2/\z.1<=2/\z.2.1=([false,true].take z.1).filter N,λz=>2-z.1,⟨(0,[],k,F,R),⟨rfl,rfl,.refl _,bu,rfl⟩,MT⟩,?_⟩;rintro⟨j,lb,_,_,hy⟩⟨rfl,rfl,d,a6,U⟩;dsimp only at d a6 U⊢
  subst U;refine aE (λa9=>?_) (λb'=>?_)
  .have a7:j=0\/j=1:=by omega
   rcases a7 with rfl|rfl
   .refine⟨aC,aC,_,rfl,false,rfl,C,b,v,c,false,k,s,n,_,rfl,J.mono d,u.mono (le.trans d),I,t,λh' B=>?_⟩;rw[T];refine aB (λM=>⟨bu,bu,(1,[false],k,F,h'),⟨rfl,rfl,d.trans B,bu,by simp[M]⟩,bz,MT⟩) (λM=>⟨(1,[],k,F,h'),⟨rfl,rfl,d.trans B,bu,by simp[M]⟩,bz,MT⟩)
   .refine⟨aC,aC,_,rfl,true,rfl,C,b,v,c,true,k,s,n,_,rfl,J.mono d,u.mono (le.trans d),I,t,λh' B=>?_⟩;rw[T];have V:(([false,true].take 1).filter N).length<=2:=tf (length_filter_le _ _) bu;refine aB (λM=>⟨by grind[length_map],by grind[length_map],(2,([false,true].take 1).filter N++[true],k,F,h'),⟨rfl,rfl,d.trans B,bu,?_⟩,bz,?_⟩) (λM=>⟨(2,([false,true].take 1).filter N,k,F,h'),⟨rfl,rfl,d.trans B,bu,?_⟩,bz,MT⟩)
    .show _=([false,true].take 2).filter N;rw[show[false,true].take 2=[false,true].take 1++[true]from rfl,filter_append];simp[M]
    .dsimp only;rw[sn];exact MT
    .show _=([false,true].take 2).filter N;rw[show[false,true].take 2=[false,true].take 1++[true]from rfl,filter_append];simp[M]
  .have a8:j=2:=by omega
   subst a8;have V:(([false,true].take 2).filter N).length<=2:=length_filter_le _ _;intro P h4 f Q;refine⟨C,b,i,v,c,k,P,([false,true].take 2).filter N,s,n,_,rfl,J.mono (d.trans f),u.mono (le.trans (d.trans f)),I,t,biX Q aC,by grind[sj],λm' h' o J2=>⟨(k+1,m',h'),⟨gt,le.trans (d.trans (f.trans o)),A m' h' (d.trans (f.trans o)) (by rw[g];exact J2)⟩,ge,MT⟩⟩
 .have b5:k=c.bj.length:=by omega
  simp_all
structure jV where
 kind:Int
 ah:Int
 ak:ti
 av:ae
structure OC(h:PH)(r:jV)(v:dL):Prop where
 ie:v.kind=r.kind
 dd:v.ah=r.ah
 ft:an h v.aa r.ak
 ia:cQ h r.av v.av
theorem OC.mono{r v}(x:OC h r v)(le:PH.le h h'):OC h' r v:=⟨x.ie,x.dd,x.ft.mono le,x.ia.mono le⟩
structure iB(h:PH)(p r:Sl)(ps:ti)(rs:List jV):Prop where
 params:an h p ps
 jf:aU h 24 dL.ag (OC h) r rs
theorem iB.mono{p rs}(x:iB h p r ps rs)(le:PH.le h h'):iB h' p r ps rs:=⟨x.params.mono le,aU.mono x.jf le λ_ _ y=>y.mono le⟩
def dCX(v:dL):CV:=.val (.agg ⟨v.ag⟩)
def KI(p r:Sl):CV:=.val (.agg ⟨[.slice p.a p.len p.cap,.slice r.a r.len r.cap]⟩)
def kT(n:Int):Int->ti->Bool
 |_,[]=>true
 |l,c::cs=>decide (l<c)&&decide (c<n)&&kT n c cs
def nL(s:kD)(r:jV):=(r.kind==1||r.kind==2)&&jE s r.ah&&(match s.c[r.ah.toNat]? with|some t=>kT t.aa.length (t.key-1) r.ak|none=>false)
def kX s t:=match(if jE s t then s.c[t.toNat]? else none)with|some c=>if 0<=c.key then(fC s t).take (min c.key.toNat (fC s t).length)else[]|none=>[]
def iM s ps r:=if nL s r=false then 160 else if(iG s ps r.av).2≠0 then(iG s ps r.av).2 else if(iG s ps r.av).1=kX s r.ah then 0 else 160
def qU(s:kD)(ps:ti)(rs:List jV):=if dO s≠0 then dO s else if 16<rs.length\/8<ps.length then 2 else if ps.all eA=false then 160 else oT (rs.map (iM s ps))
def aDX:AC:=λc m h K=>∃sc v s r,c=[aS sc,dCX v]/\dV h s sc/\OC h r v/\dO s=0/\K (cB (nL s r)) m h
def Xn:AC:=λc m h K=>∃v s t,c=[aS v,cI t]/\dV h s v/\pE s/\∀d h',PH.le h h'->an h' d (kX s t)->K (cS d) m h'
def KG:AC:=λc m h K=>∃sc p r s ps rs,c=[aS sc,KI p r]/\dV h s sc/\iB h p r ps rs/\∀h',PH.le h h'->K (cI (qU s ps rs)) m h'
def lH(ks:ti)(vs:to):=decide (vs.length=ks.length)&&(List.range vs.length).all λi=>kF (vs.getD i al)&&((vs.getD i al).kind==ks.getD i 0)
def bEJ:AC:=λc m h K=>∃k v ks d,c=[cS k,cS v]/\an h k ks/\bF h v d/\K (cB (lH ks d)) m h
def dhZ(sc:bQ)(v:dL)(m:MH)(h:PH):=dD [] [(8,{A:=Nat×cD×Int,st:=λ⟨i,t,l⟩=>bO 56 58 ([SW 5,(6,iv l)]++WF 38 v.aa i) [UV 5 74 t.ag] m h})] [(3,{A:=Unit,st:=λ_=>bO 56 58 [SW 2,SW 3] [UV 2 29 sc.ag,UV 3 70 v.ag] m h}),(6,{A:=cD,st:=λt=>bO 56 58 [SW 3,SW 5] [UV 3 70 v.ag,UV 5 74 t.ag] m h})] [] false
def dlJ k v m h:=dD [(71,K5)] [(4,{A:=Nat,st:=λi=>bO 32 34 ([(0,sv k)]++WF 12 v i) [] m h})] [] [] false
def dmQ(sc:bQ)(p r:Sl):=dD [(66,yY),(67,aDX),(68,uW),(70,Xn),(69,CU)]
 [(7,{A:=Nat×MH×PH,st:=λ⟨i,m,h⟩=>bO 76 78 ([SW 2,SW 3]++WF 28 p i) [UV 2 29 sc.ag,(3,.cells 34 [.val (.slice p.a p.len p.cap),.val (.slice r.a r.len r.cap)])] m h}),
  (13,{A:=Nat×MH×PH,st:=λ⟨i,m,h⟩=>bO 76 78 ([SW 2,SW 3]++WF 46 r i) [UV 2 29 sc.ag,(3,.cells 34 [.val (.slice p.a p.len p.cap),.val (.slice r.a r.len r.cap)])] m h})] [] [] false
abbrev Bm(a:dL):=jX a.kind::jX a.ah::rF a.aa::jX a.av.op::pU a.av::vD a.av (zB (wP a.av) a.av.on a.av (zE a.av) (j9 (rZ a.av) a.av.args))
abbrev NK(a:Nat×cD×Int):=a.2.1
abbrev lV a b:=eQ (oQ 34 [rF a,rF b])
abbrev Cs(a:dL)(b:tm):=bD a.kind a.ah (eW a.aa a.av.op (bD a.av.ah (fM a.av) (bD (fN a.av) (uC a.av).kind (fT (uC a.av) b))))
abbrev Cr(a:dL):=Bb (NA a.av) (fW a.av.ap.args) (fW a.av.aa::fW a.av.on::fW a.av.be::fW a.av.bh::BH a.av.bg (fW a.av.args))
attribute [push_cast] Bm NK lV Cs Cr
def afZ(sc:bQ)(v:dL):ST:=λm h K=>Fb (λI=>let A:=∃x,I x/\gZ/\cR/\aW sc/\bX (eQ (oQ 70 (Bm v))) m m h h;cM v.kind 1 (cM v.kind 2 (K bH m h) A) A) (aX v.ah 0 (K bH m h) (iA v.ah (iS sc) (K bH m h) (∃I:cD->Prop,aM (λb o=>aR (kI sc) b o/\0<=v.ah/\v.ah<aF sc.c/\∃y,aK m h b (dN o v.ah 5) (Af y)/\∃x,I x/\cR/\bY/\eQ (oQ 70 (Bm v))/\bX (oQ 74 (jR y)=oQ 74 (jR x)) m m h h)/\∀x,I x->∃(I1:Nat×cD×Int->Prop)(e:Nat×cD×Int->Nat),(∃c,I1 c/\bY/\cG (jQ x.key 1) c.2.2/\aH v.aa/\aY v.aa/\bB c.1/\oQ 74 (jR x)=oQ 74 (jR (NK c))/\m=m/\dC h h)/\∀c,I1 c->aX c.1 (aF v.aa) (ab v.aa c.1 1 bV m h (λy=>dJ (decide (y<=c.2.2)) (K bH m h) (decide (y>=Ap (NK c))) (K bH m h) (∃d,I1 d/\e d<e c/\bY/\cG y d.2.2/\aH v.aa/\aY v.aa/\fI (bA c.1 1)=bR d.1/\oQ 74 (jR (NK c))=oQ 74 (jR (NK d))/\gM m m h h))) (K eE m h))))
def afX(v:bQ)(t:Int):ST:=λm h K=>Cd (dZ (jS v) t) h (λs d=>E7 v t d (λg j=>cC (jE g j) (K EO m d) (aM (λb o=>aR (kI v) b o/\0<=t/\t<aF v.c/\∃y,aK m d b (dN o t 5+2) (bV y)/\aX y 0 (K EO m d) (aM (λe f=>aR (kI v) e f/\0<=t/\t<aF v.c/\∃c,aK m d e (dN f t 5+2) (bV c)/\0<=ite (aF s<c) (aF s) c/\xB (ite (aF s<c) (aF s) c) s/\K (Er s.a (ite (aF s<c) (aF s) c).toNat s.cap) m d))))))
def ajX(k v:Sl):ST:=λm h K=>cM (aF v) (aF k) (K bH m h) (mF (λI x=>I x/\aH k/\aH v/\aY v/\bX (bB x) m m h h) (λI d x=>I x->aX x (aF v) (ab v x 3 VV.ag m h (λy=>∃e,eO (iE y) (iE e)/\cC (kF e) (K bH m h) (ab k x 1 bV m h (λj=>cM y.kind j (K bH m h) (∃c,I c/\d c<d x/\aH k/\aH v/\aY v/\fI (bA x 1)=bR c/\m=m/\h=h/\True))))) (K eE m h)))
def ajZ(sc:bQ)(p r:Sl):ST:=λm h K=>Dx sc h (λs=>wQ (dO s !=0) (K (fD (dO s)) m h) (aF r) 16 (K (fD 2) m h) (eH (aF p) 8 (K (fD 2) m h) (DT (λI x=>I x/\gZ/\eP 3/\aH p/\aY p/\bB x.1/\aW sc/\lV p r/\eV (fK m x) (dH h x.2)) (λI d x=>I x->aX x.1 (aF p) (aM (λb o=>aR p.a b o/\0<=(↑x.1:Int)/\x.1<aF p/\∃y,let H:=∃c,I c/\d c<d x/\gZ/\cR/\aH p/\aY p/\fI (bA x.1 1)=bR c.1/\aW sc/\kO (lV p r) (fK (cA x) c) (dH (bW x) c.2);aK (cA x) (bW x) b (bI o x.1 1) (bV y)/\cM y 3 (cM y 4 (cM y 5 (K (fD 160) (cA x) (bW x)) H) H) H)) (DT (λI1 c=>I1 c/\gZ/\eP 3/\aH r/\aY r/\bB c.1/\aW sc/\lV p r/\eV (fK (cA x) c) (dH (bW x) c.2)) (λI1 u c=>I1 c->aX c.1 (aF r) (ab r c.1 24 (λy=>Cs y (Cr y)) (cA c) (bW c) (λy=>∃z v g A,bL (jS sc) (Cs y (Cr y))=bL (jS z) (Cs v (Cr v))/\dV (bW c) g z/\OC (bW c) A v/\HI g/\cC (nL g A) (K (fD 160) (cA c) (bW c)) (Fa sc p y.av (bW c) (λB C q F j=>cM (A5 B C q) 0 (K (.val (pW (A5 B C q))) (cA c) j) (wT (λD n t=>dZ (jS sc) y.ah=dZ (jS D) t/\dV j n D/\pE n/\jA (λE e=>cO j e (an e E (kX n t)) (E8 F E e (λG=>cC G (K (fD 160) (cA c) e) (∃f,I1 f/\u f<u c/\gZ/\cR/\aH r/\aY r/\fI (bA c.1 1)=bR f.1/\aW sc/\kO (lV p r) (fK (cA c) f) (dH e f.2))))))))))) (K (fD 0) (cA c) (bW c))))))))
theorem Me(h:dO s=0):OB s:=Classical.byContradiction λc=>by
 grind[Gb,Le,Au]
theorem Qx{rs}(c:dO s=0)(d:¬(16<rs.length\/8<ps.length))(e:ps.all eA=true):qU s ps rs=oT (rs.map (iM s ps)):=by
 simp_all[qU,ne_eq,not_true_eq_false,if_neg,Bool.true_eq_false]
theorem N5{e}(c:∀x∈l.take i,x=0)(d:l[i]?=some e)(f:e≠0):oT l=e:=by
 rw[<-take_append_drop i l,Aq _ _ c,ci d];simp[oT,f]
theorem bZZ:uz 67 aDX:=by
 refine gV func67 ?_;rintro J m h K⟨sc,v,s,r,rfl,D,L,E,n⟩;refine⟨dhZ sc v m h,rfl,aG,afZ sc v,bt,?_⟩;dsimp only[afZ,push_cast];have hl:=D.c.e;obtain⟨e1,M,u,_⟩:=L;have d:nL s r=false->K (cB false) m h:=λe=>da
 refine⟨λ_=>r.kind=1\/r.kind=2,aB (λO=>aB (λP=>d ?_) (λP=>⟨(),Or.inr ?_,MT⟩)) (λO=>⟨(),Or.inl ?_,MT⟩),λ_ Q=>?_⟩
 .simp_all[nL,bne_iff_ne]
 .grind
 .grind
 have Q:(r.kind==1||r.kind==2)=true:=da
 refine aE (λR=>d ?_) (λR=>aE (λS=>d ?_) (λS=>?_))
 .simp_all[nL,jE,decide_eq_false,Bool.false_and,Bool.and_false]
 .simp_all[nL,jE,decide_eq_false,Bool.and_false]
 have⟨x,b,o,w,F,T,rd,G⟩:=D.ah (t:=r.ah) aC aC;have U:=aU.e G.aa;have x8:=BK E x (si F);have V:=(Me E).2.2.1 _ x F;have H:=G.key
 have f:nL s r=kT x.aa.length (x.key-1) r.ak:=by
  simp_all[nL,jE,decide_eq_true,Bool.true_and]
 rw[f]at n d;refine⟨λz=>w=z,⟨b,o,by rw[T],aC,aC,w,.ay (by rw[M];exact rd),w,rfl,MT⟩,?_⟩;rintro _ rfl;have y:=u.e;refine⟨λz=>z.1<=r.ak.length/\w=z.2.1/\kT x.aa.length (x.key-1) r.ak=kT x.aa.length z.2.2 (r.ak.drop z.1),λz=>r.ak.length-z.1,⟨(0,w,IntKind.i64.wrap (w.key-1)),⟨bu,rfl,?_⟩,MT⟩,?_⟩
 .obtain⟨_,y1,y2,_⟩:=V
  grind[dW]
 rintro⟨i,_,l⟩⟨W,rfl,A⟩;dsimp only at W A⊢
 have I:=u.len;refine aE (λg=>?_) (λX=>?_)
 .have⟨c,j⟩:=eF y g;have⟨Y,Z,B,C⟩:=u.im j;rw[ci j]at A;refine⟨Y,Z,B,aC,g,c,.ay C,aE (λc1=>d ?_) (λc1=>aE (λc2=>d ?_) (λc2=>⟨(i+1,_,c),⟨aC,rfl,?_⟩,aC,MT⟩))⟩
  .grind[kT]
  .grind[kT]
  grind[kT]
 .have:i=r.ak.length:=by omega
  subst this;rw[A,drop_length]at n;exact n
theorem bZX:uz 70 Xn:=by
 refine gV func70 ?_;rintro B m h K⟨v,s,t,rfl,j,C,y⟩;refine⟨WP [(109,yB),(113,cdQ)],rfl,aD LA (aD EF aG),afX v t,bt,?_⟩;dsimp only[afX,push_cast];have H:=j.c.e;refine⟨v,s,t,rfl,j,C,λd u c g=>⟨v,s,t,rfl,j.mono c,?_⟩⟩;have f:kX s t=[]->K (.val (.slice none 0 0)) m u:=λe=>y ⟨none,0,0⟩ u c (by rw[e];exact⟨.nil _ _,bu⟩);refine aB (λn=>f ?_) (λn=>?_)
 .grind[kX,Bool.not_eq_true']
 simp only[Bool.not_eq_false']at n;have D:=n;simp only[jE,su,s0]at D;have⟨x,b,o,w,E,z,rd,F⟩:=(j.mono c).ah (t:=t) aC aC;have A:=F.key;refine⟨b,o,z,aC,aC,w.key,.ay (bJ.part rd 2 1),aE (λG=>f ?_) (λG=>⟨b,o,z,aC,aC,w.key,.ay (bJ.part rd 2 1),?_,?_,?_⟩)⟩
 .grind[kX]
 .omega
 .have:=g.row.cap;omega
 .have e:kX s t=(fC s t).take (if(d.len:Int)<w.key then(d.len:Int)else w.key).toNat:=by
   simp only[kX,n,if_true,E];rw[if_pos aC];congr 1;have:=g.e;omega
  have I:(if(d.len:Int)<w.key then(d.len:Int)else w.key).toNat<=(fC s t).length:=by
   have:=g.e;omega
  exact y ⟨d.a,(if(d.len:Int)<w.key then(d.len:Int)else w.key).toNat,d.cap⟩ u c (by rw[e];exact⟨by rw[map_take];exact bT.cut g.row _ da,by rw[length_take];have:=g.len;omega⟩)
theorem Vv:uz 39 bEJ:=by
 refine gV func39 ?_;rintro G m h K⟨k,v,ks,c,rfl,D,g,E⟩;refine⟨dlJ k v m h,rfl,aD Ki aG,ajX k v,bt,?_⟩;dsimp only[ajX,push_cast];have n:=D.e;have t:=aU.e g;have H:=g.len;have z:lH ks c=false->K (cB false) m h:=λe=>da
 refine aB (λA=>z ?_) (λA=>?_)
 .grind[lH]
 simp only[bne_eq_false_iff_eq]at A;have A:c.length=ks.length:=by omega
 have d:∀i<c.length,¬(kF (c.getD i al)=true/\(c.getD i al).kind=ks.getD i 0)->lH ks c=false:=λi I U=>by
  grind[lH,Bool.and_eq_false_iff]
 refine⟨λi=>i<=c.length/\∀j<i,kF (c.getD j al)=true/\(c.getD j al).kind=ks.getD j 0,λi=>c.length-i,⟨0,⟨aC,λj J=>by omega⟩,MT⟩,λi⟨I,F⟩=>aE (λf=>?_) (λL=>?_)⟩
 .have⟨x,M⟩:=eF t f;have⟨y,O⟩:=eF n (i:=i) aC;obtain⟨b,o,u,P,rd,rfl⟩:=aU.at g M;have⟨Q,R,B,C⟩:=D.im O;have V:c.getD i al=x:=da
  have W:ks.getD i 0=y:=da
  refine⟨b,o,P,aC,f,x,.ay rd,x,rfl,aB (λS=>z (d i aC λe=>?_)) (λS=>⟨Q,R,B,aC,aC,y,.ay C,aB (λT=>z (d i aC λe=>?_)) (λT=>⟨i+1,⟨aC,λj J=>?_⟩,da,MT⟩)⟩)⟩
  .grind
  .grind
  grind
 .have e:lH ks c=true:=by
   grind[lH]
  rw[e]at E;exact E
theorem Vw:uz 38 KG:=by
 refine gV func38 ?_;rintro a' m h K⟨sc,p,r,s,ps,rs,rfl,H,B,n⟩;refine⟨dmQ sc p r,rfl,aD Kk (aD bZZ (aD Vn (aD bZX (aD Kj aG)))),ajZ sc p r,bt,?_⟩;dsimp only[ajZ,push_cast];obtain⟨B,Y⟩:=B;have L:=B.e;have M:=Y.e;refine⟨sc,s,rfl,H,aB (λt=>?_) (λt=>?_)⟩
 .have t:dO s≠0:=da
  have:=n h (.refl _);simp only[qU,if_pos t]at this;exact this
 have t:dO s=0:=da
 have C:16<rs.length\/8<ps.length->K (cI 2) m h:=λe=>by
  have:=n h (.refl _);simp_all[qU,ne_eq,not_true_eq_false]
 refine aE (λa1=>C aC) (λa1=>aE (λa2=>C aC) (λa2=>?_));have nl:¬(16<rs.length\/8<ps.length):=by omega
 have D:ps.all eA=false->K (cI 160) m h:=λe=>by
  have:=n h (.refl _);simp_all[qU,ne_eq,not_true_eq_false,if_neg]
 refine⟨λz=>z.1<=ps.length/\(∀x∈ps.take z.1,eA x=true)/\z.2=(m,h),λz=>ps.length-z.1,⟨(0,m,h),⟨bu,bu,rfl⟩,MT⟩,?_⟩;rintro⟨i,_,_⟩⟨O,d,e⟩;cases e;dsimp only at O d⊢
 refine aE (λf=>?_) (λP=>?_)
 .have⟨x,I⟩:=eF L f;have⟨b,o,Q,rd⟩:=B.im I
  have step:eA x=true->∀y∈ps.take (i+1),eA y=true:=λZ y hy=>by
   grind[sy]
  have R:eA x=true->(i+1<=ps.length/\(∀y∈ps.take (i+1),eA y=true)/\(m,h)=(m,h)):=λZ=>⟨aC,step Z,rfl⟩
  refine⟨b,o,Q,aC,f,x,.ay rd,aB (λJ=>aB (λE=>aB (λS=>D ?_) (λS=>⟨(i+1,m,h),R ?_,aC,MT⟩)) (λE=>⟨(i+1,m,h),R ?_,aC,MT⟩)) (λJ=>⟨(i+1,m,h),R ?_,aC,MT⟩)⟩
  .grind[eA]
  .grind[eA,bne_eq_false_iff_eq]
  .grind[eA,bne_eq_false_iff_eq]
  grind[eA,bne_eq_false_iff_eq]
 have T:ps.all eA=true:=all_eq_true.2 λx I=>d x da;rw[Qx t nl T]at n;refine⟨λz=>z.1<=rs.length/\(∀x∈(rs.map (iM s ps)).take z.1,x=0)/\m=z.2.1/\PH.le h z.2.2,λz=>rs.length-z.1,⟨(0,m,h),⟨bu,bu,rfl,.refl _⟩,MT⟩,?_⟩;rintro⟨i,_,U⟩⟨O,d,rfl,c⟩;dsimp only at O d c⊢
 refine aE (λf=>?_) (λP=>?_)
 .have⟨x,I⟩:=eF M f;have⟨b,o,u,Q,rd,F⟩:=Y.at I;have F:=F.mono c;have V:(rs.map (iM s ps))[i]?=some (iM s ps x):=da
  have g:∀e h',PH.le U h'->iM s ps x=e->e≠0->K (cI e) m h':=λe h' le he hn=>by
   have:=n h' (c.trans le)
   grind[N5]
  refine⟨b,o,Q,aC,f,u,.ay (rd.mono c),sc,u,s,x,rfl,H.mono c,F,t,aB (λJ=>g 160 U (.refl _) ?_ bx) (λJ=>⟨sc,p,u.av,s,ps,x.av,rfl,H.mono c,B.mono c,F.ia,λsl h2 j W=>aB (λE=>g _ h2 j ?_ da) (λE=>⟨sc,s,u.ah,rfl,(H.mono c).mono j,BK t,λX h3 A G=>⟨sl,X,_,_,rfl,W.mono A,G,λq hq=>aB (λS=>g 160 h3 (j.trans A) ?_ bx) (λS=>⟨(i+1,m,h3),⟨aC,?_,rfl,c.trans (j.trans A)⟩,aC,MT⟩)⟩⟩)⟩)⟩
  .simp_all[iM]
  all_goals simp only[Bool.not_eq_false']at J
  .simp_all[iG,iM,Bool.true_eq_false]
  all_goals have E:(iG s ps x.av).2=0:=mp E
  all_goals rw[F.dd]at hq
  .have:¬(iG s ps x.av).1=kX s x.ah:=λe=>da
   simp_all[iM,Bool.true_eq_false,ne_eq,not_true_eq_false]
  .have:(iG s ps x.av).1=kX s x.ah:=hq.1 da;exact Je V d (by simp_all[iM,Bool.true_eq_false,ne_eq,not_true_eq_false])
 .rw[wG _ (by grind[sm])]at n;exact n U c
end Go.Ps
