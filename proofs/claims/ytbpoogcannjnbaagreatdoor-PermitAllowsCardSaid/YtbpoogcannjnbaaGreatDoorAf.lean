/- Own work. -/
import Derived.Shelf.SlSorted.Search
import Derived.Shelf.SlSortCmp.NoneTotal
import Derived.Shelf.Small.Strs
import Derived.Shelf.Strconv.Itoa0
import Derived.Shelf.Strconv.Itoa1
import Derived.Shelf.LaysM
import Derived.Shelf.Strconv.Itoa2
import Derived.Shelf.Strconv.AppendUint10
import Derived.Shelf.Strconv.AppendInt10
import Derived.Shelf.Strconv.AppendIntPublic10
import Derived.Test.YtbpoogcannjnbaaGreatDoorProg
import Derived.Lib.ItoaLen
import Derived.RangeFuncWrites
import Derived.OrdersIn
import Derived.Test.YtbpoogcannjnbaaGreatDoorAe
noncomputable section
namespace Go.Proofs
open Go.Shelf List Tryz
def Tryz.lays213_ren:Go.Shelf.Ren:=⟨λ|213=>198|265=>219|n=>n,λ|9=>9|3=>3|n=>n,λ|n=>n⟩
def Tryz.lk:Go.Shelf.Ren:=⟨λ|106=>173|213=>198|265=>219|n=>n,λ|9=>9|3=>3|n=>n,λ|n=>n⟩
theorem IR{α}{o:Option α}{a b}(h:o=some a)(k:a=b:=by first|kernel_rfl):o=some b:=h.trans (congrArg some k)
theorem Tryz.lays106:Go.Proofs.Lays.n106 Tryz.prog Tryz.lk:={
 mixed:=bt
 f106:=IR func173
 f213:=IR func198
 f265:=IR func219
 t3:=underlying3
 a3:=isAgg3
 z3:=sizeOf3
 v3:=zeroValue3
 t9:=underlying9
 a9:=isAgg9
 z9:=sizeOf9
 v9:=zeroValue9}
open Go.RowKit in
theorem Tryz.strings_Compare a b w:
 Calls Tryz.prog 173 #[.string a,.string b] w λe w'=>e=.returned (.int .i64 (Lib.compareBytes a.data.toList b.data.toList))/\w'=w:=Any.strings_Compare Tryz.lays106 a b w
def Tryz.lj:Go.Shelf.Ren:=⟨λ|283=>260|n=>n,λ|3=>3|9=>9|4=>4|n=>n,λ|n=>n⟩
theorem Tryz.lays283:Go.Proofs.Lays.n283 Tryz.prog Tryz.lj:={
 mixed:=bt
 f283:=IR func260
 t3:=underlying3
 a3:=isAgg3
 z3:=sizeOf3
 v3:=zeroValue3
 t4:=underlying4
 a4:=isAgg4
 z4:=sizeOf4
 v4:=zeroValue4
 t9:=underlying9
 a9:=isAgg9
 z9:=sizeOf9
 v9:=zeroValue9}
open Go.Lib in
theorem Tryz.internal_strconv_small(i:Nat)(h:i<100) w:
 Calls Tryz.prog 260 #[.int .i64 i] w λe w'=>e=.returned (.string ⟨(Lib.decDigits i).toArray⟩)/\w'=w:=Any.internal_strconv_small Tryz.lays283 i h w
def Tryz.kw:Go.Shelf.Ren:=⟨λ|284=>261|129=>251|317=>264|318=>265|n=>n,λ|53=>287|3=>3|212=>303|0=>0|4=>4|46=>210|5=>5|9=>9|n=>n,λ|17=>1|n=>n⟩
theorem Tryz.ql:Go.Proofs.LaysM.n284 Tryz.prog Tryz.kw:={
 mixed:=bt
 f129:=IR func251
 f284:=IR func261
 f317:=IR func264
 f318:=IR func265
 t0:=underlying0
 a0:=isAgg0
 z0:=sizeOf0
 v0:=zeroValue0
 t3:=underlying3
 a3:=isAgg3
 z3:=sizeOf3
 v3:=zeroValue3
 t4:=underlying4
 a4:=isAgg4
 z4:=sizeOf4
 v4:=zeroValue4
 t5:=underlying5
 a5:=isAgg5
 z5:=sizeOf5
 v5:=zeroValue5
 t9:=underlying9
 a9:=isAgg9
 z9:=sizeOf9
 v9:=zeroValue9
 t46:=underlying210
 a46:=isAgg210
 z46:=sizeOf210
 v46:=zeroValue210
 t53:=underlying287
 a53:=isAgg287
 z53:=sizeOf287
 v53:=zeroValue287
 t212:=underlying303
 a212:=isAgg303
 z212:=sizeOf303
 v212:=zeroValue303
 g17:=bt
 i0:=bt
 i3:=bt
 i4:=bt
 i5:=bt
 i9:=bt
 i46:=bt
 i53:=bt
 i212:=bt
 m17:=by kernel_rfl}
open Go.Lib in
theorem Tryz.internal_strconv_numDigits(u:Nat)(b:1<=u)(c:u<18446744073709551616) w(a:Lib.TabIs Tryz.prog w "internal/strconv.uint64pow10" .u64 Lib.pow10Tab):
 Calls Tryz.prog 261 #[.int .u64 u] w λe w'=>e=.returned (.int .i64 (Lib.nDigits u))/\w'=w:=Any.internal_strconv_numDigits Tryz.ql u b c w a
def Tryz.lh:Go.Shelf.Ren:=⟨λ|285=>262|n=>n,λ|37=>22|53=>287|3=>3|4=>4|51=>285|9=>9|5=>5|0=>0|n=>n,λ|n=>n⟩
theorem Tryz.lays285:Go.Proofs.Lays.n285 Tryz.prog Tryz.lh:={
 mixed:=bt
 f285:=IR func262
 t0:=underlying0
 a0:=isAgg0
 z0:=sizeOf0
 v0:=zeroValue0
 t3:=underlying3
 a3:=isAgg3
 z3:=sizeOf3
 v3:=zeroValue3
 t4:=underlying4
 a4:=isAgg4
 z4:=sizeOf4
 v4:=zeroValue4
 t5:=underlying5
 a5:=isAgg5
 z5:=sizeOf5
 v5:=zeroValue5
 t9:=underlying9
 a9:=isAgg9
 z9:=sizeOf9
 v9:=zeroValue9
 t37:=underlying22
 a37:=isAgg22
 z37:=sizeOf22
 v37:=zeroValue22
 t51:=underlying285
 a51:=isAgg285
 z51:=sizeOf285
 v51:=zeroValue285
 t53:=underlying287
 a53:=isAgg287
 z53:=sizeOf287
 v53:=zeroValue287}
open Go.RowKit Go.Sort Go.Lib in
theorem Tryz.internal_strconv_formatBase10 cj off cap(u:Nat) d w(g:Holds (fun(b:UInt8)=>Value.int .u8 (b.toNat:Int)) w cj off d)(h:u<10^d.size)(a:u<18446744073709551616)(c:d.size<4611686018427387904):
 Calls Tryz.prog 262 #[.slice (some ⟨cj,off,none⟩) d.size cap,.int .u64 u] w λe w'=>
  e=.returned (.tuple #[])/\∃(n i:Nat)(f:Array UInt8),w'=(putRow (fun(b:UInt8)=>Value.int .u8 (b.toNat:Int)) w cj off f).drewN n/\FmtInv d.size u 0 i f:=Any.internal_strconv_formatBase10 Tryz.lays285 cj off cap u d w g h a c
def Tryz.ou:Go.Shelf.Ren:=⟨λ|6=>223|15=>239|14=>238|28=>250|29=>251|20=>242|21=>243|22=>244|23=>245|24=>246|25=>247|26=>248|27=>249|46=>253|47=>254|48=>255|49=>256|50=>257|57=>259|n=>n,λ|22=>95|24=>75|25=>122|3=>3|39=>210|0=>0|53=>285|55=>287|4=>4|46=>279|45=>278|50=>177|5=>5|9=>9|66=>288|70=>199|76=>294|77=>295|n=>n,λ|n=>n⟩
theorem Tryz.sortF:Go.Proofs.SlLaysF.n6 Tryz.prog Tryz.ou:={
 mixed:=bt
 f6:=⟨Tryz.f223.name,bx,IR func223⟩
 f14:=⟨Tryz.f238.name,bx,IR func238⟩
 f15:=IR func239
 f20:=⟨Tryz.f242.name,bx,IR func242⟩
 f21:=⟨Tryz.f243.name,bx,IR func243⟩
 f22:=⟨Tryz.f244.name,bx,IR func244⟩
 f23:=⟨Tryz.f245.name,bx,IR func245⟩
 f24:=⟨Tryz.f246.name,bx,IR func246⟩
 f25:=⟨Tryz.f247.name,bx,IR func247⟩
 f26:=⟨Tryz.f248.name,bx,IR func248⟩
 f27:=⟨Tryz.f249.name,bx,IR func249⟩
 f28:=IR func250
 f29:=IR func251
 f46:=⟨Tryz.f253.name,bx,IR func253⟩
 f47:=IR func254
 f48:=IR func255
 f49:=⟨Tryz.f256.name,bx,IR func256⟩
 f50:=⟨Tryz.f257.name,bx,IR func257⟩
 f57:=⟨Tryz.f259.name,bx,IR func259⟩
 t0:=underlying0
 a0:=isAgg0
 z0:=sizeOf0
 v0:=zeroValue0
 t3:=underlying3
 a3:=isAgg3
 z3:=sizeOf3
 v3:=zeroValue3
 t4:=underlying4
 a4:=isAgg4
 z4:=sizeOf4
 v4:=zeroValue4
 t5:=underlying5
 a5:=isAgg5
 z5:=sizeOf5
 v5:=zeroValue5
 t9:=underlying9
 a9:=isAgg9
 z9:=sizeOf9
 v9:=zeroValue9
 t22:=underlying95
 a22:=isAgg95
 z22:=sizeOf95
 v22:=zeroValue95
 a24:=isAgg75
 z24:=sizeOf75
 t25:=underlying122
 a25:=isAgg122
 z25:=sizeOf122
 v25:=zeroValue122
 t39:=underlying210
 a39:=isAgg210
 z39:=sizeOf210
 v39:=zeroValue210
 t45:=underlying278
 a45:=isAgg278
 z45:=sizeOf278
 v45:=zeroValue278
 t46:=underlying279
 a46:=isAgg279
 z46:=sizeOf279
 v46:=zeroValue279
 t50:=underlying177
 a50:=isAgg177
 z50:=sizeOf177
 v50:=zeroValue177
 t53:=underlying285
 a53:=isAgg285
 z53:=sizeOf285
 v53:=zeroValue285
 t55:=underlying287
 a55:=isAgg287
 z55:=sizeOf287
 v55:=zeroValue287
 t66:=underlying288
 a66:=isAgg288
 z66:=sizeOf288
 v66:=zeroValue288
 t70:=underlying199
 a70:=isAgg199
 z70:=sizeOf199
 v70:=zeroValue199
 t76:=underlying294
 a76:=isAgg294
 z76:=sizeOf294
 v76:=zeroValue294
 t77:=underlying295
 a77:=isAgg295
 z77:=sizeOf295
 v77:=zeroValue295}
def Tryz.ot:Go.Shelf.Ren:=⟨λ|6=>223|15=>239|14=>238|28=>250|29=>251|20=>242|21=>243|22=>244|23=>245|24=>246|25=>247|26=>248|27=>249|46=>253|47=>254|48=>255|49=>256|50=>257|57=>259|n=>n,λ|22=>95|24=>75|25=>122|3=>3|39=>210|0=>0|53=>285|55=>287|4=>4|46=>279|45=>278|50=>177|5=>5|9=>9|66=>288|70=>199|76=>294|77=>295|n=>n,λ|n=>n⟩
theorem Tryz.sortN:Go.Proofs.SlLaysF0.n6 Tryz.prog Tryz.ot:={
 mixed:=bt
 f6:=⟨Tryz.f223.name,bx,IR func223⟩
 f14:=⟨Tryz.f238.name,bx,IR func238⟩
 f15:=IR func239
 f20:=⟨Tryz.f242.name,bx,IR func242⟩
 f21:=⟨Tryz.f243.name,bx,IR func243⟩
 f22:=⟨Tryz.f244.name,bx,IR func244⟩
 f23:=⟨Tryz.f245.name,bx,IR func245⟩
 f24:=⟨Tryz.f246.name,bx,IR func246⟩
 f25:=⟨Tryz.f247.name,bx,IR func247⟩
 f26:=⟨Tryz.f248.name,bx,IR func248⟩
 f27:=⟨Tryz.f249.name,bx,IR func249⟩
 f28:=IR func250
 f29:=IR func251
 f46:=⟨Tryz.f253.name,bx,IR func253⟩
 f47:=IR func254
 f48:=IR func255
 f49:=⟨Tryz.f256.name,bx,IR func256⟩
 f50:=⟨Tryz.f257.name,bx,IR func257⟩
 f57:=⟨Tryz.f259.name,bx,IR func259⟩
 t0:=underlying0
 a0:=isAgg0
 z0:=sizeOf0
 v0:=zeroValue0
 t3:=underlying3
 a3:=isAgg3
 z3:=sizeOf3
 v3:=zeroValue3
 t4:=underlying4
 a4:=isAgg4
 z4:=sizeOf4
 v4:=zeroValue4
 t5:=underlying5
 a5:=isAgg5
 z5:=sizeOf5
 v5:=zeroValue5
 t9:=underlying9
 a9:=isAgg9
 z9:=sizeOf9
 v9:=zeroValue9
 t22:=underlying95
 a22:=isAgg95
 z22:=sizeOf95
 v22:=zeroValue95
 t25:=underlying122
 a25:=isAgg122
 z25:=sizeOf122
 v25:=zeroValue122
 t39:=underlying210
 a39:=isAgg210
 z39:=sizeOf210
 v39:=zeroValue210
 t45:=underlying278
 a45:=isAgg278
 z45:=sizeOf278
 v45:=zeroValue278
 t46:=underlying279
 a46:=isAgg279
 z46:=sizeOf279
 v46:=zeroValue279
 t50:=underlying177
 a50:=isAgg177
 z50:=sizeOf177
 v50:=zeroValue177
 t53:=underlying285
 a53:=isAgg285
 z53:=sizeOf285
 v53:=zeroValue285
 t55:=underlying287
 a55:=isAgg287
 z55:=sizeOf287
 v55:=zeroValue287
 t66:=underlying288
 a66:=isAgg288
 z66:=sizeOf288
 v66:=zeroValue288
 t70:=underlying199
 a70:=isAgg199
 z70:=sizeOf199
 v70:=zeroValue199
 t76:=underlying294
 a76:=isAgg294
 z76:=sizeOf294
 v76:=zeroValue294
 t77:=underlying295
 a77:=isAgg295
 z77:=sizeOf295
 v77:=zeroValue295}
def Tryz.ld:Go.Shelf.Ren:=⟨λ|16=>209|n=>n,λ|3=>3|35=>53|4=>4|38=>210|n=>n,λ|n=>n⟩
theorem Tryz.searchO:Go.Proofs.SlLaysO.n16 Tryz.prog Tryz.ld:={
 mixed:=bt
 f16:=IR func209
 t3:=underlying3
 a3:=isAgg3
 z3:=sizeOf3
 v3:=zeroValue3
 t4:=underlying4
 a4:=isAgg4
 z4:=sizeOf4
 v4:=zeroValue4
 t35:=underlying53
 a35:=isAgg53
 z35:=sizeOf53
 v35:=zeroValue53
 t38:=underlying210
 a38:=isAgg210
 z38:=sizeOf210
 v38:=zeroValue210}
end Go.Proofs
namespace Go.Ps
open Go Go.Vc Go.Proofs List Tryz
variable{K:tt}{m:MH}{h:PH}{s:kD}{ps:ti}{cb:Nat}{v:QV}{q:ae}{p:ao}{l:ti}{i:Nat}{m':MH}{h':PH}{w:ao}{xs:List tm}{r:Sl}{a:ti}{b:Nat}
def kN(m:MH):=∃T c,m 1=some (.cells (Lib.pow10Tab.map λz=>.int .u64 z).toArray T c)
def cU(u:Nat):CV:=.val (.int .u64 u)
def dZJ:AC:=λc m h K=>∃i:Nat,c=[cI i]/\i<100/\K (Yr ⟨(Lib.decDigits i).toArray⟩) m h
def bFJ:AC:=λc m h K=>∃u:Nat,c=[cU u]/\1<=u/\u<18446744073709551616/\kN m/\K (cI (Lib.nDigits u)) m h
def dZQ:AC:=λd m h K=>∃b e u:Nat,∃cs T,d=[.val (.slice (some ⟨b,0,none⟩) (Lib.nDigits u) e),cU u]/\u<18446744073709551616/\m b=some (.cells cs T (0,0))/\cs.toList=replicate 24 (.int .u8 0)/\
 ∀c m',c.size=cs.size->c.toList.take (Lib.nDigits u)=Lib.byteCells (Lib.decDigits u)->iZ m m' b (.cells c T (0,0))->K (.dg []) m' h
def dJQ:AC:=λc m h K=>∃xs,∃u:Nat,c=[.au 5 1 xs,cU u,cI 10]/\u<18446744073709551616/\kN m/\xs.length+30<=140737488355328/\K (.au 5 1 (xs++dE (Lib.decDigits u))) m h
def sR i:=if i<0 then 45::Lib.decDigits (IntKind.u64.wrap (0-IntKind.u64.wrap i)).toNat else Lib.decDigits (IntKind.u64.wrap i).toNat
def bKJ:AC:=λc m h K=>∃xs i,c=[.au 5 1 xs,cI i,cI 10]/\kN m/\xs.length+40<=140737488355328/\K (.au 5 1 (xs++dE (sR i))) m h
abbrev RA a:=mV (ByteArray.mk (.mk (Lib.decDigits a)))
abbrev Hm a:=C5 0::C5 0::C5 0::C5 0::C5 0::C5 0::C5 0::C5 0::a
abbrev DK(a:Int):CV:=.val (.int IntKind.u64 a)
abbrev NM a:=a<18446744073709551616
abbrev Er(a:Option Addr)(b c:Nat):CV:=.val (.slice a b c)
abbrev kR a b:=some (Addr.mk a b none)
abbrev NP a:=IntKind.wrap IntKind.u64 a
abbrev BS a b:=a++dE b
abbrev Dq a b:=CV.au 5 1 a::dZ (fD b) 10
abbrev Jv(a:Sl)(b:Nat)(c:MH)(d:Nat->Nat->Option Value)(e:VV->Prop):=ab a b 3 VV.ag c d (λg=>e g)
abbrev XT(a:Sl->Sl->to->to->Prop):=lC (λx c=>∃d e,a x c d e)
attribute [push_cast] RA Hm DK NM Er kR NP BS Dq Jv XT
def Pr(xs:List tm)(u:Nat):ST:=λm h K=>aX u 100 (∃i:Nat,Ex (fD (Uu u))=[fD i]/\i<100/\lK xs (RA i) 1/\cJ (lL xs (RA i))/\K (CV.au 5 1 (xs++RA i)) m h) (∀b f,eT m h b->cF m f b (Hm (Hm (Hm []))) 298->∃d,let A:=(↑(Lib.nDigits d):Int)<=24;Ex (DK u)=[DK d]/\1<=d/\NM d/\kN f/\vM (Lib.nDigits d)/\A/\aM (λg c=>∃e,i6 (λj T=>nN (Er (kR b 0) (tY (Lib.nDigits d)) 24) (DK u)=nN (Er (kR g 0) (Lib.nDigits e) c) (DK e)/\NM e/\f g=some (gU j T 0)/\j.toList=Hm (Hm (Hm []))/\∀n o,n.size=j.size->List.take (Lib.nDigits e) n.toList= Lib.byteCells (Lib.decDigits e)->iZ f o g (gU n T 0)->uF (vM (Lib.nDigits d)) A (λy=>dA 1 y/\mH o h (Sl.mk (kR b 0) (tY (Lib.nDigits d)) 24) 1 y/\lK xs y 1/\cJ (lL xs y)/\K (CV.au 5 1 (xs++y)) o h))))
def VB(xs:List tm)(i:Int):ST:=λm h K=>aX i 0 (uF (cJ (fS xs 1*1)) (fA xs) (λx=>∃u:Nat,CV.au 5 1 (hZ xs [C5 45])::dZ (DK (NP (0-NP i))) 10=CV.au 5 1 x::dZ (DK u) 10/\NM u/\kN m/\cJ (fS x 30)/\K (CV.au 5 1 (BS x (Lib.decDigits u))) m h)) (∃(x:_)(u:Nat),CV.au 5 1 xs::dZ (DK (NP i)) 10=CV.au 5 1 x::dZ (DK u) 10/\NM u/\kN m/\cJ (fS x 30)/\K (CV.au 5 1 (BS x (Lib.decDigits u))) m h)
def b2Z(xs:List tm)(i:Int):ST:=λm h K=>∃x c,Dq xs i=Dq x c/\kN m/\cJ (fS x 40)/\K (CV.au 5 1 (BS x (sR c))) m h
theorem kN.sub(h:kN m)(c:dh m m'):kN m':=by
 obtain⟨T,d,e⟩:=h;exact⟨T,d,c 1 _ e⟩
theorem OH{w c vs}(d:CJ w m h c vs):AV ⟨w,xL m c vs,h,[]⟩ m h w:=
 ⟨rfl,rfl,rfl,Nat.le_refl _,Nat.le_refl _,λ_ _ _=>rfl,d.F,d.t,d.z,λ_ _ _ e=>e,λ_ _ _=>rfl,λb o f=>.inr (.inl da)⟩
theorem aQQ:uz 260 dZJ:=by
 refine⟨⟨Tryz.f260,func260,rfl,bx⟩,?_⟩;rintro f d m h w K⟨i,rfl,g,j⟩ c
 obtain⟨v,rfl⟩:∃v,d=[v]:=by
  have:=(vS c.args).1
  match d,this with
  |[v],_=>grind
 have n:v=.int .i64 i:=c.args.1;subst n;refine(Tryz.internal_strconv_small i g w).mono ?_;rintro e t⟨rfl,rfl⟩;exact⟨_,_,m,h,rfl,j,rfl,OH c,λb o=>by simp[Yr,jC]at o⟩
theorem aPJ:uz 261 bFJ:=by
 refine⟨⟨Tryz.f261,func261,rfl,bx⟩,?_⟩;rintro f d m h w K⟨u,rfl,g,j,⟨T,z,n⟩,o⟩ c
 obtain⟨v,rfl⟩:∃v,d=[v]:=by
  have:=(vS c.args).1
  match d,this with
  |[v],_=>grind
 have t:v=.int .u64 u:=c.args.1;subst t;have A:=c.t 1 _ n;refine(Tryz.internal_strconv_numDigits u g j w ?_).mono ?_
 .unfold Lib.TabIs World.var?;rw[show Tryz.prog.globalNamed _=some 1 by kernel_rfl]
  grind
 .rintro e B⟨rfl,rfl⟩;exact⟨_,_,m,h,rfl,o,rfl,OH c,λb y=>by simp[cI,jC]at y⟩
theorem aPZ:uz 262 dZQ:=by
 refine⟨⟨Tryz.f262,func262,rfl,bx⟩,?_⟩;rintro V O m h w K⟨b,g,u,cs,T,rfl,P,A,B,W⟩ t
 obtain⟨v,G,rfl⟩:∃v G,O=[v,G]:=by
  have:=(vS t.args).1
  match O,this with
  |[v,G],_=>grind
 have X:v=.slice (some ⟨b,0,none⟩) (Lib.nDigits u) g:=t.args.1;have I:G=.int .u64 u:=t.args.2.1;subst X I;have Q:=t.t b _ A;have Y:=Lib.nDigits_le20 u P;have Z:cs.size=24:=by rw[<-Array.length_toList,B];simp
 have hH:Sort.Holds (fun(b:UInt8)=>Value.int .u8 (b.toNat:Int)) w b 0 (Array.replicate (Lib.nDigits u) (0:UInt8)):=by
  intro j H;simp only[Array.size_replicate]at H;refine⟨?_,?_⟩
  .rw[dj Q,B,getElem?_replicate,if_pos aC];rw[getElem!_pos _ j da];simp
  .unfold World.frozen?
   grind
 have R:=Tryz.internal_strconv_formatBase10 b 0 g u (Array.replicate (Lib.nDigits u) (0:UInt8)) w hH (mp (Lib.lt_pow_nDigits u)) P cv;rw[Array.size_replicate]at R;refine R.mono ?_;rintro e w'⟨rfl,n,v',z,rfl,S⟩;have a':z.size=Lib.nDigits u:=S.size;obtain⟨m',y⟩:∃m',iZ m m' b (.cells (Sort.putCells (fun(b:UInt8)=>Value.int .u8 (b.toNat:Int)) 0 z cs) T (0,0)):=⟨λc=>if c=b then some (.cells (Sort.putCells (fun(b:UInt8)=>Value.int .u8 (b.toNat:Int)) 0 z cs) T (0,0))else m c,bu,λc d=>by simp[d]⟩
 have C:(Sort.putRow (fun(b:UInt8)=>Value.int .u8 (b.toNat:Int)) w b 0 z).heap[b]?=some (.cells (Sort.putCells (fun(b:UInt8)=>Value.int .u8 (b.toNat:Int)) 0 z cs) T (0,0)):=by
  unfold Sort.putRow Sort.mapBlock;simp only[Array.getElem?_modify,if_true,Q];rfl
 have f:∀c,c≠b->(Sort.putRow (fun(b:UInt8)=>Value.int .u8 (b.toNat:Int)) w b 0 z).heap[c]?=w.heap[c]? :=λc d=>by
  unfold Sort.putRow Sort.mapBlock
  grind
 refine⟨.dg [],.tuple #[],m',h,rfl,W _ m' ?_ ?_ y,⟨#[],rfl,rfl⟩,?_,λb A=>by simp[jC]at A⟩
 .simp[Sort.putCells]
 .apply ext_getElem?;intro j;rw[getElem?_take];have hl:(Lib.byteCells (Lib.decDigits u)).length=Lib.nDigits u:=by rw[Lib.byteCells_length,Lib.decDigits_length]
  by_cases H:j<Lib.nDigits u
  .rw[if_pos H,td];have D:j<(Lib.decDigits u).length:=by rw[Lib.decDigits_length];exact H
   have E:j<cs.size:=by omega
   simp only[Sort.putCells,Array.getElem?_mapIdx,Array.getElem?_eq_getElem E,Option.map_some,Nat.zero_le,Nat.zero_add,Nat.sub_zero,true_and];rw[if_pos aC,Lib.byteCells,getElem?_map,sh D,Lib.row_is_numeral S j D];rfl
  grind
 .have F:∀c o,m' c=some o->c=b\/m c=some o:=λc o d=>by
   by_cases e:c=b
   .exact .inl e
   .rw[y.ai c e]at d;grind
  have U:xL m [.val (.slice (some ⟨b,0,none⟩) (Lib.nDigits u) g),cU u] [.slice (some ⟨b,0,none⟩) (Lib.nDigits u) g,.int .u64 u] b:=.inl (by rw[A];simp);refine⟨rfl,rfl,rfl,Nat.le_add_right _ _,by simp[Sort.putRow,Sort.mapBlock],?_,?_,?_,?_,λ_ _ _ e=>e,λ_ _ _=>rfl,?_⟩
  .intro c _ hn;exact f c (λe=>hn (e▸U))
  .intro c o x J;have L:c≠b:=λe=>by rw[e,t.z b _ A o]at J;cases J
   show(Sort.putRow (fun(b:UInt8)=>Value.int .u8 (b.toNat:Int)) w b 0 z).cell? ⟨c,o,none⟩=some x;rw[World.cell?_of_block (w:=w) (a:=⟨c,o,none⟩) (f c L)];exact t.F c o x J
  .intro c o d;by_cases e:c=b
   .subst e;rw[y.y]at d;cases d;exact C
   .rw[y.ai c e]at d;rw[show((Sort.putRow (fun(b:UInt8)=>Value.int .u8 (b.toNat:Int)) w b 0 z).drewN n).heap[c]?=_ from f c e];exact t.t c o d
  .intro c o d j;rcases F c o d with rfl|M
   .exact t.z c _ A j
   .exact t.z c _ M j
  .intro c o d;rcases F c o d with rfl|M
   .exact .inr U
   .exact .inr (.inl (by rw[M];simp))
theorem I0 l:mV ⟨l.toArray⟩=dE l:=by simp[mV,dE]
theorem P8 l:(dE l).flatten=Lib.byteCells l:=by
 unfold dE Lib.byteCells
 induction l with
 |nil=>rfl
 |cons b r c=>simp[c]
theorem v7 l:(dE l).length=l.length:=by simp[dE]
theorem aQX:uz 258 dJQ:=by
 refine Lr func258 ?_;rintro y m h K⟨xs,u,rfl,f,z,E,o⟩;refine⟨tH [(260,dZJ),(261,bFJ),(262,dZQ)] [] [] [] [298] [] true,rfl,aD aQQ (aD aPJ (aD aPZ aG)),Pr xs u m h (pY h K),bt,?_⟩;show Pr xs u m h (pY h K);dsimp only[Pr,push_cast];have A:=Lib.nDigits_le20 u f;have g:=Lib.decDigits_length u;refine aE (λB=>⟨u,?_,aC,?_,?_,?_⟩) (λB b C t c=>?_)
 .grind[dW]
 .grind[I0,v7]
 .grind[I0,v7]
 .rw[I0];exact .lm o
 .have d:dh m C:=(dh.refl m).dv t.m_ c.ai;refine⟨u,rfl,aC,f,z.sub d,aC,aC,b,24,u,_,_,da,f,c.y,rfl,λj F D n e=>⟨aC,aC,dE (Lib.decDigits u),Mi _,?_,?_,?_,?_⟩⟩
  .refine .dx b 0 j 298 (0,0) rfl ?_ e.y ?_
   .rw[Int.toNat_natCast,v7,g]
   grind[P8,Lib.byteCells_length]
  .grind[v7]
  .grind[v7]
  .exact .sub (d.dv t.m_ e.ai) o
theorem cdZ i:0<=IntKind.u64.wrap i/\IntKind.u64.wrap i<18446744073709551616:=by
 grind[IntKind.wrap,IntKind.bits,IntKind.signed]
theorem Eh i:(sR i).length<=21:=by
 have key:∀n:Int,(Lib.decDigits (IntKind.u64.wrap n).toNat).length<=20:=λn=>by
  simp_all[Lib.decDigits_length,Lib.nDigits_le20,cdZ]
 grind[sR]
theorem aQZ:uz 252 bKJ:=by
 refine gV func252 ?_;rintro e m h K⟨xs,i,rfl,c,g,d⟩;refine⟨tH [(258,dJQ)] [] [] [] [] [(258,[0])] true,rfl,aD aQX aG,VB xs i,bt,?_⟩;dsimp only[VB,push_cast];have j:=cdZ i;have n:=cdZ (0-IntKind.u64.wrap i);refine aE (λf=>⟨aC,aC,xs++[[.int .u8 45]],(IntKind.u64.wrap (0-IntKind.u64.wrap i)).toNat,?_,aC,c,cv,?_⟩) (λf=>⟨xs,(IntKind.u64.wrap i).toNat,?_,aC,c,aC,?_⟩)
 .grind
 .have:sR i=45::Lib.decDigits (IntKind.u64.wrap (0-IntKind.u64.wrap i)).toNat:=by unfold sR;grind
  rw[this]at d;rw[append_assoc];exact d
 .grind
 grind[sR,Lib.decDigits]
theorem aQJ:uz 240 bKJ:=by
 refine gV func240 ?_;rintro c m h K⟨xs,i,rfl,d,e,f⟩;refine⟨tH [(252,bKJ)] [] [] [] [] [(252,[0])] true,rfl,aD aQZ aG,b2Z xs i,bt,?_⟩;exact⟨xs,i,rfl,d,e,f⟩
def ER(a b:Int):=if a<b then-1 else if b<a then 1 else 0
def axJ(a b:ByteArray):=Lib.compareBytes a.data.toList b.data.toList
def lY(a b:VV):=if ER a.kind b.kind≠0 then ER a.kind b.kind else if ER a.int b.int≠0 then ER a.int b.int else axJ a.text b.text
def cV:to->to->Int
 |[],[]=>0
 |[],_::_=> -1
 |_::_,[]=>1
 |x::xs,y::ys=>if lY x y≠0 then lY x y else cV xs ys
def dyX:AC:=λc m h K=>∃n,c=[cI n]/\K (cB false) m h
def bIZ:AC:=λc m h K=>∃a b,c=[cI a,cI b]/\K (cI (ER a b)) m h
def dIX:AC:=λc m h K=>∃a b,c=[Yr a,Yr b]/\K (cI (axJ a b)) m h
def Rf:AC:=λc m h K=>∃a b,c=[aV a,aV b]/\K (cI (lY a b)) m h
def BJ:AC:=λc m h K=>∃s t a b,c=[cS s,cS t]/\bF h s a/\bF h t b/\K (cI (cV a b)) m h
def dIJ:AC:=λc m h K=>∃s t a b,c=[cS s,cS t,.val (.func (.func 151) #[] #[])]/\bF h s a/\bF h t b/\K (cI (cV a b)) m h
def Rows h s l:=aU h 1 eS (λr t=>bF h t r) s l
def cCQ s t m h:=
 dD [(151,Rf)] [(2,{A:=Nat,st:=λi=>bO 39 42 ([(0,sv s),(1,sv t),(2,vv (.func (.func 151) #[] #[]))]++WF 11 s i) [] m h})] [] [] false
def djJ s t m h:=
 dD [(91,Rf)] [(2,{A:=Nat,st:=λi=>bO 43 45 [(0,sv s),(1,sv t),(5,iv i)] [] m h})] [] [] false
def b5Z(n:Int):ST:=λm h K=>K (AU (n !=n)) m h
def b5X(n:Int):ST:=λm h K=>K (AU (n !=n)) m h
def PK(a b:Int):ST:=λm h K=>∃n,iJ a n/\∃c,iJ b c/\aX a b (K (fD (Int.negSucc 0)) m h) (eH a b (K (fD 1) m h) (K (fD 0) m h))
def b6J(a b:Int):ST:=λm h K=>∃n,iJ a n/\∃c,iJ b c/\aX a b (K (fD (Int.negSucc 0)) m h) (eH a b (K (fD 1) m h) (K (fD 0) m h))
def Wh(a b:VV):ST:=λm h K=>rI 58 a.ag b.ag (λr=>branch r (K (fD 0) m h) (∃c d,dZ (fD a.kind) b.kind=dZ (fD c) d/\cM (ER c d) 0 (K (fD (ER c d)) m h) (∃e f,dZ (fD a.int) b.int=dZ (fD e) f/\cM (ER e f) 0 (K (fD (ER e f)) m h) (∃g j,nN (iR a.text) (iR b.text)=nN (iR g) (iR j)/\K (fD (axJ g j)) m h))))
def acQ(a b:VV):ST:=λm h K=>let A:=K (fD (Int.negSucc 0)) m h;let B:=Op.bytesLess (FA a) (FA b);aX a.kind b.kind A (eH a.kind b.kind (K (fD 1) m h) (aX a.int b.int A (dJ (decide (a.int>b.int)) (K (fD 1) m h) B A (cC (Bool.or B (FA a==FA b)) (K (fD 1) m h) (K (fD 0) m h)))))
def Wi(s t:Sl):ST:=λm h K=>mF (λI x=>I x/\aH s/\aH t/\HB 151/\aH s/\aY s/\bB x/\m=m/\dC h h) (λI e x=>I x->aX x (aF s) (ab s x 3 VV.ag m h (λy=>iA x (aF t) (K (fD 1) m h) (Jv t x m h (λf=>∃a c,bL (iE y) f.ag=bL (iE a) c.ag/\cM (lY a c) 0 (K (fD (lY a c)) m h) (∃d,I d/\e d<e x/\aH s/\aH t/\HB 151/\aH s/\aY s/\fI (bA x 1)=bR d/\gM m m h h))))) (aX (aF s) (aF t) (K (fD (Int.negSucc 0)) m h) (K (fD 0) m h)))
def b9Q(s t:Sl):ST:=λm h K=>XT (λc d a b=>bU s (j8 t (vB 151 yZ))=bU c (j8 d (vB 151 yZ))/\bF h c a/\bF h d b/\K (fD (cV a b)) m h)
def ahZ(s t:Sl):ST:=λm h K=>mF (λI x=>I x/\aH s/\aH t/\bB x/\eV (m=m) (h=h)) (λI d x=>let A:=aX (aF s) (aF t) (K (fD (Int.negSucc 0)) m h) (eH (aF s) (aF t) (K (fD 1) m h) (K (fD 0) m h));I x->aX x (aF s) (aX x (aF t) (Jv s x m h (λy=>Jv t x m h (λe=>∃a b,bL (iE y) e.ag=bL (iE a) b.ag/\cM (lY a b) 0 (K (fD (lY a b)) m h) (∃c,I c/\d c<d x/\aH s/\aH t/\bX (fI (bA x 1)=bR c) m m h h)))) A) A)
theorem P7{a b}:ER a b=0↔a=b:=by
 unfold ER;omega
theorem KB:∀a b:ug,Lib.compareBytes a b=0↔a=b
 |[],[]=>by simp[Lib.compareBytes]
 |[],_::_=>by simp[Lib.compareBytes]
 |_::_,[]=>by simp[Lib.compareBytes]
 |a::l,b::bs=>by
  simp only[Lib.compareBytes,List.cons.injEq];split
  .grind
  .split
   .grind
   .rename_i c d;rw[KB l bs]
    grind
theorem cbQ{a b}:axJ a b=0↔a=b:=by
 unfold axJ;rw[KB];constructor
 .intro h;cases a;simp_all
 grind
theorem P6{a b}:lY a b=0↔a=b:=by
 obtain⟨k,i,t⟩:=a;obtain⟨c,d,e⟩:=b;simp only[lY,VV.mk.injEq];split
 .grind[absurd,P7]
 .rename_i h;have h:=Classical.not_not.1 h;split
  .grind[absurd,P7]
  simp_all[cbQ,P7]
theorem eX:∀{a b:to},cV a b=0↔a=b
 |[],[]=>by simp[cV]
 |[],_::_=>by simp[cV]
 |_::_,[]=>by simp[cV]
 |x::xs,y::ys=>by
  simp only[cV,List.cons.injEq];split
  .grind[absurd,P6]
  .rename_i h;rw[eX (a:=xs),P6.1 (Classical.not_not.1 h)];simp
theorem SX:∀a b:ug,(Op.bytesLess a b=true↔Lib.compareBytes a b= -1)/\(Lib.compareBytes a b= -1\/Lib.compareBytes a b=0\/Lib.compareBytes a b=1)
 |[],[]=>by simp[Lib.compareBytes,Op.bytesLess]
 |[],_::_=>by simp[Lib.compareBytes,Op.bytesLess]
 |_::_,[]=>by simp[Lib.compareBytes,Op.bytesLess]
 |a::l,b::bs=>by
  have⟨c,d⟩:=SX l bs
  grind[Lib.compareBytes,Op.bytesLess]
theorem bwJ{a b}(c:K (cI (ER a b)) m h):PK a b m h K:=by
 dsimp only[PK,push_cast];refine⟨a,rfl,b,rfl,aE (λd=>?_) (λd=>aE (λe=>?_) (λe=>?_))⟩
 .rw[ER,if_pos d]at c;exact c
 .rw[ER,if_neg d,if_pos e]at c;exact c
 .rw[ER,if_neg d,if_neg e]at c;exact c
theorem aYZ:uz 196 dyX:=by
 refine gV func196 ?_;rintro c m h K⟨n,rfl,d⟩;refine⟨WP [],rfl,aG,b5Z n,bt,?_⟩;exact(by show K (cB (n !=n)) m h;grind)
theorem aYX:uz 197 dyX:=by
 refine gV func197 ?_;rintro c m h K⟨n,rfl,d⟩;refine⟨WP [],rfl,aG,b5X n,bt,?_⟩;exact(by show K (cB (n !=n)) m h;grind)
theorem a3X:uz 171 bIZ:=by
 refine gV func171 ?_;rintro c m h K⟨a,b,rfl,d⟩;refine⟨WP [(196,dyX)],rfl,aD aYZ aG,PK a b,bt,?_⟩;exact bwJ d
theorem a3Q:uz 172 bIZ:=by
 refine gV func172 ?_;rintro c m h K⟨a,b,rfl,d⟩;refine⟨WP [(197,dyX)],rfl,aD aYX aG,b6J a b,bt,?_⟩;exact bwJ d
theorem a2J:uz 173 dIX:=by
 refine⟨⟨Tryz.f173,func173,rfl,bx⟩,?_⟩;rintro j g m h w K⟨a,b,rfl,n⟩ c
 obtain⟨v,d,rfl⟩:∃v d,g=[v,d]:=by
  have:=(vS c.args).1
  match g,this with
  |[v,d],_=>grind
 have o:v=.string a:=c.args.1;have f:d=.string b:=c.args.2.1;subst o f;refine(Tryz.strings_Compare a b w).mono ?_;rintro e u⟨rfl,rfl⟩;exact⟨_,_,m,h,rfl,n,rfl,OH c,λb t=>by simp[cI,jC]at t⟩
theorem Lw:uz 151 Rf:=by
 refine gV func151 ?_;rintro e m h K⟨a,b,rfl,c⟩;refine⟨WP [(171,bIZ),(172,bIZ),(173,dIX)],rfl,aD a3X (aD a3Q (aD a2J aG)),Wh a b,bt,?_⟩;dsimp only[Wh,push_cast];refine⟨_,HS a b,aB (λd=>?_) (λd=>⟨_,_,rfl,aB (λf=>?_) (λf=>⟨_,_,rfl,aB (λg=>?_) (λg=>⟨_,_,rfl,?_⟩)⟩)⟩)⟩
 .rw[P6.2 (Ky.1 d)]at c;exact c
 .rw[lY,if_pos da]at c;exact c
 .rw[lY,if_neg da,if_pos da]at c;exact c
 .rw[lY,if_neg da,if_neg da]at c;exact c
theorem Pj:uz 91 Rf:=by
 refine gV func91 ?_;rintro t m h K⟨a,b,rfl,c⟩;refine⟨WP [],rfl,aG,acQ a b,bt,?_⟩;dsimp only[acQ,push_cast];unfold lY ER axJ at c;have⟨g,u⟩:=SX a.text.data.toList b.text.data.toList;refine aE (λd=>?_) (λd=>aE (λe=>?_) (λe=>aE (λf=>?_) (λf=>aE (λj=>?_) (λj=>aB (λn=>?_) (λn=>aB (λy=>?_) (λy=>?_))))))
 .rw[if_pos d]at c;exact c
 .rw[if_neg d,if_pos e]at c;exact c
 .rw[if_neg d,if_neg e,if_pos f]at c;exact c
 .rw[if_neg d,if_neg e,if_neg f,if_pos j]at c;exact c
 all_goals rw[if_neg d,if_neg e,if_neg f,if_neg j]at c
 all_goals rw[ByteArray.toList_eq,ByteArray.toList_eq]at n
 .rw[if_neg bu,if_neg bu,g.1 n]at c;exact c
 .have o:Lib.compareBytes a.text.data.toList b.text.data.toList=1:=by
   grind[KB,ByteArray.toList_eq]
  rw[if_neg bu,if_neg bu,o]at c;exact c
 .have o:Lib.compareBytes a.text.data.toList b.text.data.toList=0:=by
   grind[ByteArray.toList_eq,KB]
  rw[if_neg bu,if_neg bu,o]at c;exact c
theorem W9{a b:to}{x y}(hx:a[i]?=some x)(c:b[i]?=some y):cV (a.drop i) (b.drop i)=if lY x y≠0 then lY x y else cV (a.drop (i+1)) (b.drop (i+1)):=by
 simp_all[cV,ci]
theorem a8X:uz 150 dIJ:=by
 refine gV func150 ?_;rintro D m h K⟨s,t,a,b,rfl,o,C,d⟩;refine⟨cCQ s t m h,rfl,aD Lw aG,Wi s t,bt,?_⟩;dsimp only[Wi,push_cast];have z:=aU.e o;have f:=aU.e C;have E:=o.len;refine⟨λi=>i<=a.length/\i<=b.length/\cV a b=cV (a.drop i) (b.drop i),λi=>a.length-i,⟨0,⟨aC,aC,bu⟩,MT⟩,λi⟨S,T,e⟩=>aE (λg=>?_) (λA=>?_)⟩
 .have⟨x,B⟩:=eF z g;obtain⟨F,G,u,H,I,rfl⟩:=aU.at o B;refine⟨F,G,H,aC,g,x,.ay I,aE (λA=>?_) (λc=>?_)⟩
  .rw[e,ci B,drop_eq_nil_of_le (show b.length<=i by omega),cV]at d;exact d
  .have c:(i:Int)<(t.len:Int):=by omega
   have⟨y,j⟩:=eF f c;obtain⟨J,L,u,M,O,rfl⟩:=aU.at C j;rw[W9 B j]at e;refine⟨J,L,M,aC,c,y,.ay O,x,y,rfl,aB (λP=>?_) (λQ=>⟨i+1,⟨aC,aC,?_⟩,(show a.length-(i+1)<a.length-i by omega),MT⟩)⟩
   .rw[e,if_pos da]at d;exact d
   grind
 .have:a.drop i=[]:=drop_eq_nil_of_le aC;rw[this]at e;refine aE (λR=>?_) (λR=>?_)
  .have⟨y,j⟩:=eF (l:=b) (i:=i) (n:=t.len) f aC;rw[e,ci j,cV]at d;exact d
  .rw[e,drop_eq_nil_of_le aC,cV]at d;exact d
theorem xT:uz 117 BJ:=by
 refine gV func117 ?_;rintro c m h K⟨s,t,a,b,rfl,d,e,f⟩;refine⟨WP [(150,dIJ)],rfl,aD a8X aG,b9Q s t,bt,?_⟩;exact⟨s,t,a,b,rfl,d,e,f⟩
theorem yV:uz 48 BJ:=by
 refine gV func48 ?_;rintro F m h K⟨s,t,a,b,rfl,A,E,c⟩;refine⟨djJ s t m h,rfl,aD Pj aG,ahZ s t,bt,?_⟩;dsimp only[ahZ,push_cast];have f:=aU.e A;have g:=aU.e E;have G:=A.len;refine⟨λi=>i<=a.length/\i<=b.length/\cV a b=cV (a.drop i) (b.drop i),λi=>a.length-i,⟨0,⟨aC,aC,bu⟩,MT⟩,λi⟨T,U,j⟩=>aE (λe=>aE (λd=>?_) (λB=>?_)) (λB=>?_)⟩
 .have⟨x,o⟩:=eF f e;have⟨y,z⟩:=eF g d;obtain⟨H,I,u,J,L,rfl⟩:=aU.at A o;obtain⟨M,O,u,P,Q,rfl⟩:=aU.at E z;rw[W9 o z]at j;refine⟨H,I,J,aC,e,x,.ay L,M,O,P,aC,d,y,.ay Q,x,y,rfl,aB (λR=>?_) (λS=>⟨i+1,⟨aC,aC,?_⟩,(show a.length-(i+1)<a.length-i by omega),MT⟩)⟩
  .rw[j,if_pos da]at c;exact c
  grind
 .have⟨x,o⟩:=eF f e;rw[j,ci o,drop_eq_nil_of_le (show b.length<=i by omega),cV]at c;exact aE (λC=>aC) (λC=>aE (λD=>c) (λD=>aC))
 .rw[j,drop_eq_nil_of_le (show a.length<=i by omega)]at c;refine aE (λC=>?_) (λC=>aE (λD=>aC) (λD=>?_))
  .have⟨y,z⟩:=eF (l:=b) (i:=i) (n:=t.len) g aC;rw[ci z,cV]at c;exact c
  .rw[drop_eq_nil_of_le aC,cV]at c;exact c
structure I9(h:PH)(P:to->Prop) where
 s:Sl
 l:to
 ok:bF h s l
 pr_:P l
def I9.pr{h P}(x:I9 h P):=(x.s,x.l)
def CT h{R}(x:I9 h R):Value:=.slice x.s.a x.s.len x.s.cap
theorem Ql{w w':World}(c:w'.tape=w.tape)(d:w'.os=w.os)(e:w'.output=w.output)(f:w.drawn<=w'.drawn)(g:w.heap.size<=w'.heap.size)(j:∀b,b<w.heap.size->w'.heap[b]?=w.heap[b]?):
 ∃q n,w'=Sort.grow (w.drewN q) n:=by
 refine⟨w'.drawn-w.drawn,w'.heap.extract w.heap.size w'.heap.size,?_⟩;obtain⟨A,B,C,D,E⟩:=w';obtain⟨o,t,u,y,z⟩:=w;dsimp only at c d e f g j;subst c d e;unfold Sort.grow World.drewN;dsimp only;congr 1
 .grind
 .omega
structure dIZ(P:Program)(R:to->Prop)(g:Nat)(cb:tm)(m2:MH)(h:PH)(cf:to->to->Int):Prop where
 ex:∃S,af P g S/\∀x y:I9 h R,S ([cS x.s,cS y.s]++cb.map .val) m2 h (λr m' h'=>r=cI (cf x.l y.l)/\m'=m2/\h'=h)
theorem cMZ{P R g cb m2 h}[Inhabited (I9 h R)]{cf}(I:dIZ P R g cb m2 h cf){w cj off size}(Q:∀b o v,h b o=some v->w.cell? ⟨b,o,none⟩=some v/\b≠cj)(hm:∀b o,m2 b=some o->w.heap[b]?=some o/\b≠cj)(T:∀b o,m2 b=some o->∀i,h b i=none):
 CmpLays1 P g cb.toArray (CT h (R:=R)) (λx y=>cf x.l y.l) cj off size w:=by
 have⟨S,J,U⟩:=I.ex;intro D L E V x y;obtain⟨W,M⟩:∃W,Go.Proofs.sortWorld (CT h (R:=R)) w cj off D E L=W:=⟨_,rfl⟩
 rw[M]
 have F:∀b,b<w.heap.size->b≠cj->W.heap[b]?=w.heap[b]? :=λb f G=>by
  rw[<-M];show((Sort.putRow (CT h) (Sort.ahead w D) cj off E).heap++L)[b]?=_;have J:(Sort.putRow (CT h) (Sort.ahead w D) cj off E).heap.size=w.heap.size:=bz
  rw[Array.getElem?_append_left aC];unfold Sort.putRow Sort.mapBlock;simp only[Array.getElem?_modify,if_neg (Ne.symm G)];rfl
 have n:∀(l:tm)(w:World),EM w (l.map .val) l:=λl w=>by
  induction l with
  |nil=>trivial
  |cons a l X=>exact⟨rfl,X⟩
 have z:∀(l:tm)(i:Nat)(c:CV)(u:Value)(b:Nat),(l.map CV.val)[i]?=some c->jC c u=some b->False:=λl i c u b A f=>by
  grind[jC]
 have Y:[cS x.s,cS y.s]++cb.map .val=([CT h x,CT h y]++cb).map .val:=by simp[cS,CT]
 have B:CJ W m2 h ([cS x.s,cS y.s]++cb.map .val) ([CT h x,CT h y]++cb):=by
  rw[Y];refine⟨n _ _,?_,?_,T,λi j c d u v b A _ _ _ f _=>(z _ i c u b A f).elim,λi c u b A _ f=>(z _ i c u b A f).elim⟩
  .intro b o v Z;have⟨C,h2⟩:=Q b o v Z;rw[World.cell?_of_block (w:=w) (w':=W) (a:=⟨b,o,none⟩) (F b (World.block_lt_of_cell? w ⟨b,o,none⟩ C) h2)];exact C
  grind
 have:=J.2 _ _ m2 h W _ (U x y) B;have e2:(([CT h x,CT h y]++cb).toArray:Array Value)=#[CT h x,CT h y]++cb.toArray:=bu
 rw[e2]at this;refine this.mono ?_;rintro e w'⟨r,u,m',h',rfl,⟨rfl,rfl,rfl⟩,H,t,_⟩;have hu:u=.int .i64 (cf x.l y.l):=H;subst hu;refine⟨rfl,Ql t.tape t.os t.output t.drawn t.size (λb f=>?_)⟩;cases O:m' b with
 |none=>
  refine t.frame b f ?_;rintro(C|⟨i,c,u,A,_,I⟩)
  .exact C O
  grind
 |some o=>rw[t.t b o O];grind
theorem SB{α}[Inhabited α]{d:Array α}{c}(h:Sort.PermIn 0 d.size d c):c.toList.Perm d.toList:=by
 obtain⟨e,_,f⟩:=h;have g:d.extract 0 d.size=d:=bu
 have j:c.extract 0 d.size=c:=da
 grind
theorem U0{h:PH}{R:to->Prop}:∀(ps:uu),(∀p∈ps,bF h p.1 p.2)->(∀p∈ps,R p.2)->∃ds:List (I9 h R),ds.map I9.pr=ps
 |[],_,_=>⟨[],rfl⟩
 |p::ps,e,f=>by
  have⟨ds,c⟩:=U0 (R:=R) ps (λq d=>e q (mem_cons_of_mem _ d)) (λq d=>f q (mem_cons_of_mem _ d));exact⟨⟨p.1,p.2,e p (mem_cons_self ..),f p (mem_cons_self ..)⟩::ds,by rw[map_cons,c];rfl⟩
theorem UM{R:to->Prop}{w m h s g cb ps cf m2 t}(a':t=.func (.func g) #[] cb.toArray)(D:CJ w m h [cS s,.val t] [s.val,t])(hg:∃O,Tryz.prog.funcs[g]?=some O/\O.body.isSome=true/\(O.name== "runtime.NumGoroutine")=false)(hr:cH m s 75 1 (ps.map λp=>eS p.1))(hv:∀p∈ps,bF h p.1 p.2)(hR:∀p∈ps,R p.2)(a6:ps.length<=140737488355328)(hO:Sort.SWO (Go.Proofs.ltOf (fun(x y:I9 h R)=>cf x.l y.l)))(hc:dIZ Tryz.prog R g cb m2 h cf)(H:∀b o,m2 b=some o->m b=some o/\∀i,s.a≠some ⟨b,i,none⟩){K:tt}(hK:∀(I:uu)(m':_),I.Perm ps->I.Pairwise (λp q=>¬cf q.2 p.2<0)->cH m' s 75 1 (I.map λp=>eS p.1)->(∀b,(∀i,s.a≠some ⟨b,i,none⟩)->m' b=m b)->K (.dg []) m' h):
 Calls Tryz.prog 223 #[s.val,t] w λe w'=>∃r u m' h',e=.returned u/\K r m' h'/\GD w' r u/\AV ⟨w,xL m [cS s,.val t] [s.val,t],h,[]⟩ m' h' w'/\(∀b,jC r u=some b->(w.heap.size<=b\/xL m [cS s,.val t] [s.val,t] b)/\m' b=none/\∀i,h' b i=none):=by
 subst a';by_cases G:ps=[]
 .subst G;have a0:s.len=0:=by have:=cH.e hr;grind
  have:=AnyF.slices_SortFunc_none Tryz.sortN s.a s.cap (.func (.func g) #[] cb.toArray) w;rw[show s.val=.slice s.a 0 s.cap by rw[<-a0];rfl];refine Calls.mono (show Calls Tryz.prog 223 #[.slice s.a 0 s.cap,.func (.func g) #[] cb.toArray] w _ from this) ?_;rintro e w'⟨rfl,rfl⟩;exact⟨.dg [],.tuple #[],m,h,rfl,hK [] m (.refl _) .nil hr (λ_ _=>rfl),⟨#[],rfl,rfl⟩,⟨rfl,rfl,rfl,Nat.le_refl _,Nat.le_refl _,λ_ _ _=>rfl,D.F,D.t,D.z,λ_ _ _ e=>e,λ_ _ _=>rfl,λb o hb=>.inr (.inl da)⟩,λb hb=>by simp[jC]at hb⟩
 have⟨p0,P⟩:=exists_mem_of_ne_nil _ G
 haveI:Inhabited (I9 h R):=⟨⟨p0.1,p0.2,hv p0 P,hR p0 P⟩⟩
 rcases hr.ex with⟨rfl,hx⟩|⟨b,z,A,rfl,Q,h0,h1,h2,h3⟩
 .simp_all
 .simp only[length_map]at h0 h3;have J:=D.t b _ Q;have S:=(Array.getElem?_eq_some_iff.1 J).1;obtain⟨B,T⟩:∃B:List (I9 h R),B.map I9.pr=ps:=U0 ps hv hR;have U:B.length=ps.length:=da
  have V:∀j,(F:j<B.length)->A[j]?=some (CT h B[j]):=λj F=>by
   have:(A.toList.take (ps.length*1))[j]?=((ps.map λp=>eS p.1).flatten)[j]? :=by rw[h3]
   rw[getElem?_take,if_pos aC,td]at this;rw[this,<-T]
   have hf:((B.map I9.pr).map λp:Sl×to=>eS p.1).flatten=B.map (CT h):=by
    clear T U F this
    induction B with
    |nil=>rfl
    |cons a l ih=>simp only[map_cons,flatten_cons,ih];rfl
   grind
  have a9:A.size=z:=by omega
  have hH:Sort.Holds (CT h) w b 0 B.toArray:=by
   intro j F;have F:j<B.length:=by omega
   refine⟨?_,?_⟩
   .rw[dj J,td,Nat.zero_add,V j F,getElem!_pos _ j aC];simp
   grind[World.frozen?]
  obtain⟨O,b0,a7,b1⟩:=hg
  have eg:∀args w,(callFunc g args).run Tryz.prog w=.ok (.enter g args) w:=λargs w=>by
   have b2:¬O.body=none:=da
   simp_all[callFunc,program,Sem.run]
  have W:=cMZ (cj:=b) (off:=0) (size:=B.toArray.size) hc (w:=w) (λc o v C=>⟨D.F c o v C,λe=>by rw[e,D.z b _ Q o]at C;cases C⟩) (λc o d=>⟨D.t c o (H c o d).1,λe=>(H c o d).2 0 (by rw[e])⟩) (λc o d=>D.z c o (H c o d).1);have L:=Any.slices_SortFunc Tryz.sortF (CT h) (λ_=>rfl) (λx y=>cf x.l y.l) hO g cb.toArray b 0 z B.toArray w eg W hH S cv;have e3:(Sl.val ⟨some ⟨b,0,none⟩,(ps.map λp=>eS p.1).length,z⟩)=.slice (some ⟨b,0,none⟩) B.toArray.size z:=by simp[Sl.val,U]
  rw[e3];refine Calls.mono L ?_;rintro e w'⟨rfl,f,n,os,X,a1,rfl⟩;have a2:f.size=B.length:=by have:=X.1;omega
  have a3:=SB X;obtain⟨m',E⟩:∃m',iZ m m' b (.cells (Sort.putCells (CT h) 0 f A) 75 (0,0)):=⟨λc=>if c=b then some (.cells (Sort.putCells (CT h) 0 f A) 75 (0,0))else m c,bu,λc d=>by simp[d]⟩
  have b3:(Sort.putRow (CT h) (Sort.ahead w n) b 0 f).heap.size=w.heap.size:=bz
  have a8:(Go.Proofs.sortWorld (CT h) w b 0 n f os).heap[b]?=some (.cells (Sort.putCells (CT h) 0 f A) 75 (0,0)):=by
   show((Sort.putRow (CT h) (Sort.ahead w n) b 0 f).heap++os)[b]?=_;rw[Array.getElem?_append_left aC];unfold Sort.putRow Sort.mapBlock;simp only[Array.getElem?_modify,if_true];show Option.map _ w.heap[b]?=_;rw[J];rfl
  have Y:∀c,c<w.heap.size->c≠b->(Go.Proofs.sortWorld (CT h) w b 0 n f os).heap[c]?=w.heap[c]? :=λc d M=>by
   show((Sort.putRow (CT h) (Sort.ahead w n) b 0 f).heap++os)[c]?=_;rw[Array.getElem?_append_left aC];unfold Sort.putRow Sort.mapBlock;simp only[Array.getElem?_modify,if_neg (Ne.symm M)];rfl
  have hE:xL m [cS ⟨some ⟨b,0,none⟩,(ps.map λp=>eS p.1).length,z⟩,.val (.func (.func g) #[] cb.toArray)] [.slice (some ⟨b,0,none⟩) B.toArray.size z,.func (.func g) #[] cb.toArray] b:=.inl (by rw[Q];simp);refine⟨.dg [],.tuple #[],m',h,rfl,hK (f.toList.map I9.pr) m' ?_ ?_ ?_ (λc d=>E.ai c (λe=>d 0 (by rw[e]))),⟨#[],rfl,rfl⟩,⟨rfl,rfl,rfl,Nat.le_add_right _ _,?_,?_,?_,?_,?_,λ_ _ _ e=>e,λ_ _ _=>rfl,?_⟩,λb hb=>by simp[jC]at hb⟩
  .grind
  .rw[pairwise_map,pairwise_iff_getElem];intro i j hi F a4 Z;have hi:i<f.size:=by omega
   have F:j<f.size:=by omega
   have:=a1 i j (Nat.zero_le _) a4 cv;rw[getElem!_pos f i hi,getElem!_pos f j F]at this;unfold Go.Proofs.ltOf at this;simp only[decide_eq_false_iff_not]at this;simp only[Array.getElem_toList]at Z;exact this Z
  .refine⟨⟨λe he=>?_,λe he u hu=>?_⟩,.inr ⟨b,z,_,?_,E.y,cv,h1,?_,?_⟩⟩
   .obtain⟨x,_,rfl⟩:=mem_map.1 he;rfl
   .obtain⟨x,_,rfl⟩:=mem_map.1 he;have:u=.slice x.1.a x.1.len x.1.cap:=by simpa[eS]using hu
    rw[this];rfl
   .grind
   .grind[Sort.putCells]
   .apply ext_getElem?;intro j
    have hf:((f.toList.map I9.pr).map λp:Sl×to=>eS p.1).flatten=f.toList.map (CT h):=by
     generalize f.toList=l
     induction l with
     |nil=>rfl
     |cons a l ih=>simp only[map_cons,flatten_cons,ih];rfl
    rw[hf,getElem?_take];simp only[length_map,Array.length_toList,Nat.mul_one];by_cases F:j<f.size
    .rw[if_pos F,td,getElem?_map,td,Array.getElem?_eq_getElem F];have a5:j<A.size:=by omega
     simp only[Sort.putCells,Array.getElem?_mapIdx,Array.getElem?_eq_getElem a5,Option.map_some,Nat.zero_le,Nat.zero_add,Nat.sub_zero,true_and]
     grind
    grind
  .grind
  .grind
  .intro c o v C;have M:c≠b:=λe=>by rw[e,D.z b _ Q o]at C;cases C
   have h5:=D.F c o v C;rw[World.cell?_of_block (w:=w) (a:=⟨c,o,none⟩) (Y c (World.block_lt_of_cell? w ⟨c,o,none⟩ h5) M)];exact h5
  .intro c o d;by_cases e:c=b
   .subst e;rw[E.y]at d;grind
   .rw[E.ai c e]at d;have h5:=D.t c o d
    grind
  .intro c o d i;by_cases e:c=b
   .subst e;exact D.z c _ Q i
   .rw[E.ai c e]at d;exact D.z c o d i
  .intro c o d;by_cases e:c=b
   .grind
   .rw[E.ai c e]at d;exact .inr (.inl da)
end Go.Ps
namespace Go.Vc
open Go List
theorem cH.rd{m h s E sz xs}(r:cH m s E sz xs){i e}(c:xs[i]?=some e):∃b,s.a=some ⟨b,0,none⟩/\aK m h b (i*sz) e:=by
 rcases r.ex with⟨_,rfl⟩|⟨b,g,d,rfl,j,u,y,z,A⟩
 .simp at c
 .refine⟨b,rfl,.dx d E (0,0) j ?_⟩;have n:=(sg c);have o:=r.rows.len e (si c)
  have f:∀(l:List tm)(k:Nat),(∀x∈l,x.length=sz)->l[k]?=some e->(l.flatten.drop (k*sz)).take sz=e:=by
   intro l
   induction l with
   |nil=>grind
   |cons a l B=>
    intro k t C;have D:=t a (mem_cons_self ..);cases k with
    |zero=>
     grind
    |succ k=>
     grind[flatten_cons,Nat.succ_mul,Nat.add_comm,drop_drop,drop_left]
  have F:=f xs i r.rows.len c
  grind[drop_take]
theorem mH.sub{m m' h s sz c}(r:mH m h s sz c)(d:∀b o,m b=some o->m' b=some o):mH m' h s sz c:=by
 rcases r with r|⟨b,o,cs,E,e,f,g,j,n⟩
 .exact .ay r
 grind[dx]
theorem cH.ko{m h s E sz xs}(r:cH m s E sz xs):mH m h s sz xs:=by
 rcases r.ex with⟨rfl,rfl⟩|⟨b,d,c,rfl,e,f,g,j,n⟩
 .exact .ay (bT.nil h sz)
 .refine .dx b 0 c E (0,0) rfl rfl e ?_
  grind
end Go.Vc
namespace Go.Ps
open Go Go.Vc Go.Proofs List Tryz
variable{K:tt}{m:MH}{h:PH}{s:kD}{ps:ti}{cb:Nat}{v:QV}{q:ae}{p:ao}{l:ti}{i:Nat}{m':MH}{h':PH}{w:ao}{rs:ti}{r:Sl}{a:ti}{b:Nat}
structure Xp{α:Type}(c:α->α->Int):Prop where
 io:∀x y,c x y= -c y x
 trans:∀x y z,c x y<=0->c y z<=0->c x z<=0
theorem Xp.zero{α}{c:α->α->Int}(h:Xp c){x y z}(d:c x y<=0)(e:c y z<=0)(f:c x z=0):c x y=0/\c y z=0:=by
 have g:=h.io x z;have j:=h.io x y;have n:=h.io y z;have o:=h.trans z x y aC d;have t:=h.trans y z x e aC;omega
theorem X0{c d:Int}(h:(if c≠0 then c else d)<=0):c<=0:=by
 omega
theorem Xp.fa{α}{c:α->α->Int}{d}(h:Xp c)(k:Xp d):Xp (λx y=>if c x y≠0 then c x y else d x y):=by
 refine⟨λx y=>?_,λx y z f g=>?_⟩
 .have a:=h.io x y;have b:=k.io x y;omega
 .have j:c x y<=0:=X0 f;have n:c y z<=0:=X0 g;have o:=h.trans x y z j n;show(if c x z≠0 then c x z else d x z)<=0;by_cases e:c x z=0
  .have⟨t,u⟩:=h.zero j n e;have f:(if c x y≠0 then c x y else d x y)<=0:=f;have g:(if c y z≠0 then c y z else d y z)<=0:=g;rw[if_neg aC]at f;rw[if_neg aC]at g;rw[if_neg (mp e)];exact k.trans x y z f g
  omega
theorem Xp.of{α β c}(h:Xp c)(f:β->α):Xp (λx y=>c (f x) (f y)):=⟨λx y=>h.io _ _,λx y z=>h.trans _ _ _⟩
theorem ayQ:Xp ER:=by
 refine⟨λx y=>?_,λx y z=>?_⟩
 .unfold ER;omega
 grind[ER]
theorem Xb:∀a b:ug,Lib.compareBytes a b= -Lib.compareBytes b a
 |[],[]=>rfl
 |[],_::_=>rfl
 |_::_,[]=>rfl
 |a::l,b::k=>by
  simp only[Lib.compareBytes];by_cases c:a<b
  .grind
  .by_cases d:b<a
   .simp[c,d]
   .simp only[c,d,if_false];exact Xb l k
theorem TX:∀a b c:ug,Lib.compareBytes a b<=0->Lib.compareBytes b c<=0->Lib.compareBytes a c<=0
 |[],_,[],_,_=>by simp[Lib.compareBytes]
 |[],_,_::_,_,_=>by simp[Lib.compareBytes]
 |_::_,[],_,f,_=>by grind[Lib.compareBytes]
 |_::_,_::_,[],_,d=>by grind[Lib.compareBytes]
 |a::l,b::k,c::q,f,d=>by
  simp only[Lib.compareBytes]at f d⊢
  by_cases g:a<c
  .simp[g]
  .by_cases j:a<b
   .grind
   .by_cases n:b<a
    .grind
    .have e:a=b:=UInt8.le_antisymm (UInt8.not_lt.1 n) (UInt8.not_lt.1 j);subst e;simp only[j,g,if_false]at f d⊢
     by_cases o:c<a
     .grind
     .simp only[o,if_false]at d⊢
      exact TX l k q f d
theorem Ou:Xp lY:=by
 have c:Xp axJ:=⟨λx y=>Xb _ _,λx y z=>TX _ _ _⟩
 exact(ayQ.of VV.kind).fa ((ayQ.of VV.int).fa (c.of VV.text))
theorem lG:∀a b,cV a b= -cV b a
 |[],[]=>rfl
 |[],_::_=>rfl
 |_::_,[]=>rfl
 |x::l,y::k=>by
  have a:=Ou.io x y;simp only[cV];by_cases e:lY x y=0
  .rw[if_neg (mp e),if_neg aC];exact lG l k
  omega
theorem AG:∀a b c,cV a b<=0->cV b c<=0->cV a c<=0
 |[],_,[],_,_=>by simp[cV]
 |[],_,_::_,_,_=>by simp[cV]
 |_::_,[],_,d,_=>by simp[cV]at d
 |_::_,_::_,[],_,f=>by simp[cV]at f
 |x::l,y::k,z::q,d,f=>by
  simp only[cV]at d f⊢
  have g:lY x y<=0:=X0 d;have j:lY y z<=0:=X0 f;have n:=Ou.trans x y z g j;by_cases e:lY x z=0
  .have⟨o,t⟩:=Ou.zero g j e;rw[if_neg aC]at d;rw[if_neg aC]at f;rw[if_neg (mp e)];exact AG l k q d f
  omega
theorem IY:Xp cV:=⟨lG,AG⟩
theorem Xp.swo{R cf}(c:Xp cf):Sort.SWO (Go.Proofs.ltOf (fun(x y:I9 h R)=>cf x.l y.l)):=by
 refine⟨λx=>?_,λx y z d f=>?_,λx y z d f=>?_⟩
 .have:=c.io x.l x.l
  grind[Go.Proofs.ltOf]
 .unfold Go.Proofs.ltOf at*
  simp only[s0]at*
  have t:=c.trans x.l y.l z.l aC aC;by_cases e:cf x.l z.l=0
  .have:=c.zero (x:=x.l) (y:=y.l) (z:=z.l) aC aC e;omega
  .omega
 .unfold Go.Proofs.ltOf at*
  simp only[decide_eq_false_iff_not]at*
  have g:=c.io x.l y.l;have j:=c.io y.l z.l;have n:=c.io x.l z.l;have t:=c.trans z.l y.l x.l aC aC;omega
def Pe(x:to):tj->tj
 |[]=>[x]
 |y::l=>if cV x y<0 then x::y::l else if cV x y=0 then y::l else y::Pe x l
def AT(l:tj):=l.foldr Pe []
abbrev iY(l:tj):=l.Pairwise λx y=>cV x y<0
theorem Ta{x z:to}:∀{l:tj},z∈Pe x l↔z=x\/z∈l
 |[]=>by simp[Pe]
 |y::l=>by
  simp only[Pe];split
  .simp
  .split
   .grind[eX]
   .simp only[mem_cons,Ta (l:=l)]
    grind
theorem QL{x:to}:∀{l:tj},iY l->iY (Pe x l)
 |[],_=>by simp[Pe]
 |y::l,h=>by
  have⟨g,f⟩:=pairwise_cons.1 h;simp only[Pe];split
  .rename_i d;refine pairwise_cons.2 ⟨λz c=>?_,h⟩;rcases mem_cons.1 c with rfl|c
   .exact d
   .have t:=AG x y z aC da;by_cases e:cV x z=0
    .have:=IY.zero (x:=x) (y:=y) (z:=z) aC da e;omega
    .omega
  .split
   .exact h
   .rename_i j n;refine pairwise_cons.2 ⟨λz c=>?_,QL f⟩;rcases Ta.1 c with rfl|c
    .grind[lG]
    grind
theorem Ip{x:to}:∀{l:tj},x∈AT l↔x∈l
 |[]=>by simp[AT]
 |y::l=>by
  show x∈Pe y (AT l)↔_;rw[Ta,Ip,mem_cons]
theorem EX:∀(l:tj),iY (AT l)
 |[]=>.nil
 |_::l=>QL (EX l)
theorem La:∀{a b:tj},iY a->iY b->(∀x,x∈a↔x∈b)->a=b
 |[],[],_,_,_=>rfl
 |[],y::_,_,_,h=>by have:=(h y).2 bu;simp at this
 |x::_,[],_,_,h=>by have:=(h x).1 bu;simp at this
 |x::a,y::b,c,d,h=>by
  have⟨o,f⟩:=pairwise_cons.1 c;have⟨t,g⟩:=pairwise_cons.1 d;have j:∀z,¬cV z z<0:=λz=>by grind[lG]
  have e:x=y:=by
   rcases mem_cons.1 ((h x).1 bu)with e|u
   .exact e
   grind[lG]
  subst e;congr 1;refine La f g (λz=>⟨λn=>?_,λn=>?_⟩)
  .grind
  grind
theorem XG{l r}(c:iY r)(d:∀x,x∈r↔x∈l):r=AT l:=La c (EX l) λx=>by rw[d,Ip]
theorem OO{l}(h:iY l):AT l=l:=(XG h λ_=>Iff.rfl).symm
def bJX:AC:=λc m h K=>∃(s:_)(d:tq),c=[cS s]/\mH m h s 1 (d.map eS)/\d.length<=502633886983/\∀e m',cH m' e 75 1 (d.map eS)->(∀b o,m b=some o->m' b=some o)->(∀b i,e.a=some ⟨b,i,none⟩->m b=none)->K (cS e) m' h
def cRZ:AC:=λd m h K=>∃s ps,d=[cS s,.val (.func (.func 117) #[] #[])]/\cH m s 75 1 (ps.map λp=>eS p.1)/\(∀p∈ps,bF h p.1 p.2)/\ps.length<=140737488355328/\
 ∀(c:uu)(m':_),c.Perm ps->c.Pairwise (λp q=>¬cV q.2 p.2<0)->cH m' s 75 1 (c.map λp=>eS p.1)->(∀b,(∀i,s.a≠some ⟨b,i,none⟩)->m' b=m b)->K (.dg []) m' h
structure eN(h:PH)(us:tq)(rs:tj):Prop where
 len:us.length=rs.length
 y:∀(j:Nat) x,rs[j]?=some x->∃u,us[j]?=some u/\bF h u x
def dxZ:AC:=λc m h K=>∃s d l,c=[cS s]/\mH m h s 1 (d.map eS)/\eN h d l/\l.length<=502633886983/\∀e h',PH.le h h'->Rows h' e (AT l)->K (cS e) m h'
def cwX:=
 dD [(222,bJX),(223,cRZ),(117,BJ)] [(5,{A:=Nat×tq×Sl×MH×PH,st:=λ⟨i,c,s,m,h⟩=>bO 38 39 ([(3,sv s),(4,.at (.au 35))]++WF 11 s i) [(35,.au 75 1 (c.map eS))] m h})] [] [] false
def Ts(n c:Nat):ST:=λm h K=>K EO m h
theorem ctZ n c m h K:Ts n c m h K=(xS (tH [] [] [] [] [95,1095] [] false) Tryz.f222 (cZ Tryz.f222) (entry Tryz.f222.ntmps [.val (.slice none n c)] m h) K):=bt
abbrev fY(a:Sl->MH->Prop):=∀x c,a x c
abbrev tG(a:Prop)(b:(List tm)->Prop):=a/\∃x,b x
abbrev Ka(a:Sl->tq->Prop):=∃x c,a x c
abbrev RR(a:tq):=a.length<=502633886983
abbrev MD(a:Sl)(b:Nat)(c:tq)(d:MH->Nat->Obj->Prop)(e:Nat->Prop)(g:MH->Prop):=∀x,cH x a 75 b (lX c)->(∀f j,d x f j)->(∀f j,aR a.a f j->e f)->g x
abbrev Hx(a:MH)(b:Nat):=a b=none
abbrev ME(a:MH)(b:Sl)(c:Nat)(d:uu):=cH a b 75 c (List.map (λx=>aT x.1) d)
abbrev RF(a:(Nat×tq×Sl×MH×PH->Prop)->(Nat×tq×Sl×MH×PH)->Prop)(b:(Nat×tq×Sl×MH×PH->Prop)->(Nat×tq×Sl×MH×PH->Nat)->(Nat×tq×Sl×MH×PH)->Prop):=∃x d,(∃c,a x c)/\∀c,b x d c
abbrev uE(a:Nat×tq×Sl×MH×PH):=a.2.2
abbrev iH a:=(uE a).1
abbrev Ab a:=cE 75 1 []=a
abbrev pS a:=C3 75 1 a
abbrev Fk(a:Nat×tq×Sl×MH×PH):=pS a.2.1
abbrev iU(a:Nat->Option Obj)(b:Sl×MH×PH):=fX a b.2
abbrev gX(a:Sl×MH×PH):=a.2.1
abbrev vI a:=gX (uE a)
abbrev gT(a:Sl×MH×PH):=a.2.2
abbrev sL a:=gT (uE a)
abbrev xE(a:Nat×tq×Sl×MH×PH):=lX a.2.1
abbrev rG(a b:Sl)(c:PH)(d:to->to->Prop):=XT (λx e f g=>fG a b=fG x e/\bF c x f/\bF c e g/\d f g)
attribute [push_cast] fY tG Ka RR MD Hx ME RF uE iH Ab pS Fk iU gX vI gT sL xE rG
def Tr(a:Addr)(n c:Nat):ST:=λm h K=>fY (λs d=>vT m d h s 75 1 []->∃x,tG (cH d (bK s) 75 1 x) (λy=>dA 1 y/\mH d h (Sl.mk (some a) n c) 1 y/\lK x y 24/\cJ (lL x y)/\fY (λe f=>cL d f (bK s) e 75 1 (x++y)->K (tV e) f h)))
theorem ctX a n c m h K:Tr a n c m h K=(xS (tH [] [] [] [] [95,1095] [] false) Tryz.f222 (cZ Tryz.f222) (entry Tryz.f222.ntmps [.val (.slice (some a) n c)] m h) K):=bt
def PB s:=λm h K=>Ka (λC u=>eO (tV s) (tV C)/\mH m h C 1 (lX u)/\RR u/\∀g,MD g 1 u (λn b o=>m b=some o->n b=some o) (λb=>Hx m b) (λn=>∃t p,j8 g (vB 117 yZ)=j8 t (vB 117 yZ)/\ME n t 1 p/\(∀e,List.Mem e p->bF h e.1 e.2)/\cJ p.length/\∀e z,List.Perm e p->List.Pairwise (λF=>λq=>¬(cV q.2 F.2<0)) e->ME z t 1 e->(∀b,(∀i,jP (aR t.a b i))->z b=n b)->RF (λI x=>I x/\bC g (iH x)/\eL 35/\bC g (iH x)/\cT g (iH x)/\bB x.1/\Ab (Fk x)/\iU z (uE x)/\fQ h (uE x).2) (λI f x=>I x->aX x.1 (aF (iH x)) (aM (λb o=>aR (iH x).a b o/\0<=(↑x.1:Int)/\x.1<aF (iH x)/\∃y,let H:=λA B=>lJ (xE x) 24 (∃c,I c/\f c<f x/\bC (iH x) (iH c)/\eL 35/\bC (iH x) (iH c)/\cT (iH x) (iH c)/\fI (bA x.1 1)=bR c.1/\cE 75 1 (iI (xE x) A)=Fk c/\eV (iU (vI x) (uE c)) (dH B (uE c).2));aK (vI x) (sL x) b (bI o x.1 1) (aT y)/\dP x.1 0 (∃d,dA 3 d/\bT (sL x) (bK y) 3 d/\cJ (DA d*32)/\cJ (DA d)/\bN (sL x) 3 (FD d) H) (aM (λD E=>aR (iH x).a D E/\0<=jZ x.1/\jZ x.1<aF (iH x)/\∃d,aK (vI x) (sL x) D (dN E (jZ x.1) 1) (aT d)/\rG d y (sL x) (λa G=>cM (cV a G) 0 (∃j,dA 3 j/\bT (sL x) (bK y) 3 j/\cJ (DA j*32)/\cJ (DA j)/\bN (sL x) 3 (FD j) H) (∃c,I c/\f c<f x/\bC (iH x) (iH c)/\eL 35/\bC (iH x) (iH c)/\cT (iH x) (iH c)/\fI (bA x.1 1)=bR c.1/\Fk x=Fk c/\eV (iU (vI x) (uE c)) (dH (sL x) (uE c).2))))))) (rH (sL x) (xE x) K (vI x)))))
theorem qS(l:tq):dA 1 (l.map eS):=by
 constructor
 .intro e c;obtain⟨x,_,rfl⟩:=mem_map.1 c;rfl
 .intro e c u d;obtain⟨x,_,rfl⟩:=mem_map.1 c;have:u=.slice x.a x.len x.cap:=by simpa[eS]using d
  rw[this];rfl
theorem A2(l:to):dA 3 (l.map VV.ag):=by
 constructor
 .intro e c;obtain⟨x,_,rfl⟩:=mem_map.1 c;rfl
 .intro e c u d;obtain⟨x,_,rfl⟩:=mem_map.1 c;simp only[VV.ag,mem_cons,not_mem_nil,or_false]at d;rcases d with rfl|rfl|rfl<;>rfl
theorem aUX:uz 222 bJX:=by
 refine eM (fn:=Tryz.f222) (c:=cZ Tryz.f222) func222 rfl bx ?_;rintro B m h K⟨s,t,rfl,g,F,u⟩;obtain⟨a,n,c⟩:=s;refine⟨tH [] [] [] [] [95,1095] [] false,rfl,aG,?_⟩;cases a with
 |none=>
  show xS _ Tryz.f222 (cZ Tryz.f222) (entry Tryz.f222.ntmps [.val (.slice none n c)] m h) K;rw[<-ctZ n c m h K];dsimp only[Ts,push_cast]
  have e:t.map eS=[]:=by
   rcases g with g|⟨b,o,cs,E,G,e,_⟩
   .rcases g.row with e|⟨b,o,e,_⟩
    .exact e
    .cases e
   .cases e
  rw[e]at u;exact u ⟨none,0,0⟩ m ⟨⟨(λe y=>by cases y),(λe y=>by cases y)⟩,.inl ⟨rfl,rfl⟩⟩ (λb o e=>e) (λb i e=>by cases e)
 |some a=>
  show xS _ Tryz.f222 (cZ Tryz.f222) (entry Tryz.f222.ntmps [.val (.slice (some a) n c)] m h) K;rw[<-ctX a n c m h K];dsimp only[Tr,push_cast];intro s m' d
  have sub:∀b o,m b=some o->m' b=some o:=λb o f=>by
   rw[d.ai b (λi e=>by rw[(d.f b i e).m_]at f;cases f)];exact f
  refine⟨[],d.row,t.map eS,qS t,g.sub sub,cv,cv,λC D z=>u C D (mp z.row) (λb o f=>?_) (λb i e=>?_)⟩
  .exact z.ai b o (sub b o f) (λi e=>by have e:s.a=some ⟨b,i,none⟩:=e;rw[(d.f b i e).m_]at f;cases f)
  .rcases z.f b i e with A|⟨j,A⟩
   .cases H:m b with
    |none=>rfl
    |some o=>grind
   .exact(d.f b j A).m_
theorem anZ:uz 223 cRZ:=by
 refine⟨⟨Tryz.f223,func223,rfl,bx⟩,?_⟩;rintro f e m h w K⟨s,ps,rfl,j,n,t,u⟩ c
 obtain⟨v,d,rfl⟩:∃v d,e=[v,d]:=by
  have:=(vS c.args).1
  match e,this with
  |[v,d],_=>grind
 have z:v=s.val:=c.args.1;have A:d=.func (.func 117) #[] #[]:=c.args.2.1;subst z A;refine UM (R:=λ_=>True) (g:=117) (cb:=[]) (m2:=λ_=>none) (cf:=cV) rfl c ⟨Tryz.f117,func117,rfl,bx⟩ j n (λ_ _=>trivial) t IY.swo ⟨BJ,xT,λx y=>⟨x.s,y.s,x.l,y.l,rfl,x.ok,y.ok,rfl,rfl,rfl⟩⟩ (λb o B=>by cases B) u
theorem eN.mono{us rs}(x:eN h us rs)(le:PH.le h h'):eN h' us rs:=⟨x.len,λj r d=>(x.y j r d).imp λ_ c=>⟨c.1,bF.mono c.2 le⟩⟩
theorem eN.nil h:eN h [] []:=⟨rfl,λj x c=>by simp at c⟩
theorem eN.cw{us rs}(x:eN h us rs){u r}(d:bF h u r):eN h (us++[u]) (rs++[r]):=by
 refine⟨by simp[x.len],λj y c=>?_⟩;by_cases f:j<rs.length
 .rw[getElem?_append_left f]at c;have⟨v,g,n⟩:=x.y j y c
  grind
 .rw[getElem?_append_right aC]at c;have:=(sg c);simp at this;have e:j=rs.length:=by omega
  subst e;simp at c;subst c;exact⟨u,by rw[getElem?_append_right (by rw[x.len];omega),x.len];simp,d⟩
theorem eN.rows{h us rs s}(x:eN h us rs)(c:bT h s 1 (us.map eS))(d:rs.length<=502633886983):Rows h s rs:=⟨⟨us,c,x.len.symm,x.y⟩,d⟩
structure blZ(ps':uu)(s1:Sl)(m2:MH)(h:PH)(i:Nat)(us2:tq)(s2:Sl)(mx:MH)(hx:PH):Prop where
 s_:s2=s1
 m_:mx=m2
 le:PH.le h hx
 hi:i<=ps'.length
 hu:us2.length<=i
 ex:∃rs,eN hx us2 rs/\iY rs/\∀x,x∈rs↔x∈(ps'.take i).map Prod.snd
theorem Q6{hx u r us}{Q:Sl->PH->Prop}(c:bF hx u r)(y:us.length<=502633886983)(f:∀s h',hx.le h'->bF h' s r->Q s h'):
 ∃d:List tm,dA 3 d/\bT hx (Sl.mk u.a u.len u.cap) 3 d/\(0+d.length)*32<=140737488355328/\0+d.length<=140737488355328/\∀s h',hx.le h'->bT h' s 3 ([]++d)->
  ((List.map eS us).length+1)*24<=140737488355328/\(List.map eS us).length<140737488355328/\Q s h':=by
 have⟨e,g,j,n⟩:=c.ex;have o:=c.len;refine⟨e.map VV.ag,A2 e,g,da,da,λs h' le t=>⟨da,da,f s h' le ⟨⟨e,t,j,n⟩,o⟩⟩⟩
theorem dpZ{s us l}(hr:mH m h s 1 (us.map eS))(E:eN h us l)(b4:l.length<=502633886983)(hK:∀s' h',PH.le h h'->Rows h' s' (AT l)->K (cS s') m h'):PB s m h (pY h K):=by
 dsimp only[PB,push_cast];have b5:=E.len.symm;have b6:=E.y;refine⟨s,us,rfl,hr,aC,λY m1 Z a' b1=>⟨Y,us.zip l,rfl,?_,λp L=>?_,cv,λc m2 g a0 d a1=>?_⟩⟩
 .have:(us.zip l).map (λp=>[fW p.1])=us.map eS:=by
   rw[show(λp:Sl×to=>[fW p.1])=eS∘Prod.fst from rfl,<-map_map,map_fst_zip aC]
  grind
 .have⟨j,hj⟩:=getElem?_of_mem L
  grind[getElem?_zip_eq_some]
 .have b7:c.length=us.length:=by rw[g.length_eq];simp;omega
  have O:=cH.e d;simp only[length_map]at O
  have P:∀{i:Nat}{p:Sl×to},c[i]?=some p->bF h p.1 p.2:=fun{i p} L=>by
   have:=g.mem_iff.1 (si L)
   grind[getElem?_of_mem,getElem?_zip_eq_some]
  have b2:∀x,x∈c.map Prod.snd↔x∈l:=λx=>by
   grind[map_snd_zip]
  have F:∀b o,m b=some o->m2 b=some o:=λb o hb=>by
   grind
  refine⟨λx=>blZ c Y m2 h x.1 x.2.1 x.2.2.1 x.2.2.2.1 x.2.2.2.2,λx=>c.length-x.1,⟨(0,[],Y,m2,h),⟨rfl,rfl,.refl _,bu,bu,[],.nil h,.nil,bu⟩,MT⟩,?_⟩;rintro⟨i,n,G,H,Q⟩⟨W,e2,le,hi,a2,rs,u,I,C⟩;dsimp only at W e2 le hi a2 u;subst W e2;refine aE (λR=>?_) (λa3=>?_)
  .dsimp only at R;have S:i<c.length:=by omega
   obtain⟨p,L⟩:∃p,c[i]?=some p:=⟨_,sh S⟩
   have⟨b,W,r1⟩:=d.rd (h:=Q) (i:=i) (e:=eS p.1) (by simp[L];rfl);have J:=bF.mono (P L) le
   have a4:∀x,x∈(c.take (i+1)).map Prod.snd↔x∈(c.take i).map Prod.snd\/x=p.2:=λx=>by
    grind[sy]
   have T:(∀y∈rs,cV y p.2<0)->∀(s:Sl)(h':PH),Q.le h'->bF h' s p.2->blZ c G H h (i+1) (n++[s]) G H h':=λhc s h' f A=>by
    refine⟨rfl,rfl,le.trans f,aC,cv,rs++[p.2],(u.mono f).cw A,pairwise_append.2 ⟨I,bu,λy M z hz=>?_⟩,λx=>?_⟩
    .grind
    grind
   have br:p.2∈rs->blZ c G H h (i+1) n G H Q:=λhc=>
    ⟨rfl,rfl,le,aC,aC,rs,u,I,λx=>da⟩
   refine⟨b,0,W,aC,R,p.1,by simpa[eS]using r1,aB (λX=>?_) (λX=>?_)⟩
   .have X:i=0:=da
    subst X
    have b8:rs=[]:=by
     cases rs with
     |nil=>rfl
     |cons y _=>have:=(C y).1 bu;simp at this
    exact Q6 J da (λs h' f A=>⟨(0+1,n++[s],G,H,h'),T da s h' f A,da,rfl,rfl,rfl,rfl,rfl,by simp[eS],MT⟩)
   .have X:i≠0:=da
    have hw:IntKind.i64.wrap ((i:Int)-1)=((i-1:Nat):Int):=by grind[dW]
    obtain⟨q,hq⟩:∃q,c[i-1]?=some q:=⟨_,sh aC⟩
    have⟨b',a5,b9⟩:=d.rd (h:=Q) (i:=i-1) (e:=eS q.1) (by simp[hq];rfl);have a6:=bF.mono (P hq) le
    have b3:q.2∈rs:=by
     rw[C];refine mem_map.2 ⟨q,?_,rfl⟩;exact mem_of_getElem? (i:=i-1) da
    have B:∀y∈rs,cV y q.2<=0:=λy M=>by
     rw[C]at M;obtain⟨z,hz,rfl⟩:=mem_map.1 M;have⟨j,hj⟩:=getElem?_of_mem hz;have a7:=(sg hj);simp only[length_take]at a7;rw[getElem?_take,if_pos aC]at hj;by_cases e:j=i-1
     .grind[lG]
     .have h1:=pairwise_iff_getElem.1 a0 j (i-1) aC aC aC
      grind[List.getElem?_eq_some_iff,lG]
    have U:cV q.2 p.2<=0:=by
     grind[pairwise_iff_getElem,List.getElem?_eq_some_iff,lG]
    dsimp only;rw[hw];refine⟨b',0,a5,aC,aC,q.1,by grind[eS],q.1,p.1,q.2,p.2,rfl,a6,J,aB (λa8=>?_) (λa9=>?_)⟩
    .have a8:cV q.2 p.2≠0:=da
     refine Q6 J aC (λs h' f A=>⟨(i+1,n++[s],G,H,h'),T (λy M=>?_) s h' f A,aC,rfl,rfl,rfl,rfl,by grind[fH],by simp[eS],rfl,rfl,trivial⟩);have t:=AG y q.2 p.2 (B y M) U;by_cases e:cV y p.2=0
     .have:=IY.zero (B y M) U e;omega
     .omega
    .have a9:cV q.2 p.2=0:=da
     exact⟨(i+1,n,G,H,Q),br (by grind[eX]),aC,rfl,rfl,rfl,rfl,by grind[fH],MT⟩
  .intro s3 h3 D V;dsimp only at a3 V D;have b0:i=c.length:=by omega
   subst b0;rw[take_length]at C;have e:rs=AT l:=XG I (λx=>da);subst e;have hl:=u.len;exact⟨m,h3,F,le.trans D,.refl _,hK s3 h3 (le.trans D) ((u.mono D).rows V aC)⟩
theorem Lu:uz 200 dxZ:=by
 refine Lr func200 ?_;rintro c m h K⟨s,j,l,rfl,d,e,f,g⟩;refine⟨cwX,rfl,aD aUX (aD anZ (aD xT aG)),PB s m h (pY h K),bt,?_⟩;exact dpZ d e f g
end Go.Ps
namespace Go.Vc
open Go List
section
variable{B:vU}{C:bk}{ι:tv}{σ:St}{a:Act}{w:World}{o:Oper}
def Uf(ι:tv)(σ:St)(b:Nat):=σ.m b≠none\/∃k o,cr σ.own k=some (some o)/\cj (ι k)=some b
def reB(ι:tv)(σ:St)(ds:List Deferred)(w:World):vU:=⟨w,Uf ι σ,σ.h,ds⟩
theorem aL.mw(c:aL B ι σ a w):aL (reB ι σ a.defers w) ι σ a w:=by
 have f:=c.g;refine⟨c.dq,rfl,c.own,c.eh,λk o b g d=>?_,?_,c.one⟩
 .have⟨_,j,n⟩:=c.f k o b g d;exact⟨.inr (.inr ⟨k,o,g,d⟩),j,n⟩
 .exact⟨rfl,rfl,rfl,Nat.le_refl _,Nat.le_refl _,λ_ _ _=>rfl,f.F,f.t,f.z,λ_ _ _ e=>e,λ_ _ _=>rfl,
   λb o d=>.inr (.inl (by rw[d];simp))⟩
theorem aL.ja(c:aL B ι σ a w){b}(h:Uf ι σ b):(B.w0.heap.size<=b\/B.E b)/\b<w.heap.size/\∀i,σ.h b i=none:=by
 rcases h with h|⟨k,o,f,g⟩
 .cases e:σ.m b with
  |none=>grind
  |some d=>exact⟨c.g.gc b d e,(Array.getElem?_eq_some_iff.1 (c.g.t b d e)).1,c.g.z b d e⟩
 .have⟨j,_,n⟩:=c.f k o b f g;exact⟨j,uM (c.own k o f) g,n⟩
theorem aL.unbase(u:aL B ι σ a w){ds y τ z w'}(h:aL (reB ι σ ds w) y τ z w'):aL {B with dfs:=ds} y τ z w':=by
 have d:=u.g;have c:=h.g
 have j:∀b,(w.heap.size<=b\/Uf ι σ b)->B.w0.heap.size<=b\/B.E b:=λb f=>by
  rcases f with n|n
  .exact .inl (tf d.size n)
  .exact(u.ja n).1
 refine⟨h.dq,h.defers,h.own,h.eh,λk o b A f=>?_,?_,h.one⟩
 .have⟨D,F,G⟩:=h.f k o b A f;exact⟨j b D,F,G⟩
 .have H:w.heap.size<=w'.heap.size:=c.size;refine⟨c.tape.trans d.tape,c.os.trans d.os,c.output.trans d.output,tf d.drawn c.drawn,tf d.size H,?_,c.F,c.t,c.z,λb i v e=>c.iz b i v (d.iz b i v e),?_,λb o f=>j b (c.gc b o f)⟩
  .intro b f g
   have t:¬Uf ι σ b:=λI=>by
    grind
   have:=c.frame b (tg f d.size) t;rw[this];exact d.frame b f g
  .intro b f g
   have t:¬Uf ι σ b:=λI=>by
    grind
   have:τ.h b=σ.h b:=c.hold b (tg f d.size) t;rw[this];exact d.hold b f g
theorem aL.dr(f:aL B ι σ a w){w' row}(j:w.grownBy w' row)(t:w.drawn<=w'.drawn)(n:∀r,row=some r->B.w0.heap.size<=r/\¬Uf ι σ r/\∃ob:Obj,w.heap[r]?=some ob/\ob.isCells=false):aL B ι σ a w':=by
 have c:=f.g;have g:∀b,b<w.heap.size->(∀r,row=some r->b≠r)->w'.heap[b]?=w.heap[b]? :=λb d u=>j.block b d (λe=>u b e.symm rfl);have ja:∀b,Uf ι σ b->w'.heap[b]?=w.heap[b]? :=λb d=>g b (f.ja d).2.1 (λr e h=>(n r e).2.1 (h▸d));refine⟨f.dq,f.defers,λk o z=>(f.own k o z).world (λb d=>ja b (.inr ⟨k,o,z,d⟩)),f.eh,f.f,?_,f.one⟩;refine⟨j.tape.trans c.tape,j.os.trans c.os,j.output.trans c.output,tf c.drawn t,tf c.size j.size,?_,?_,?_,c.z,c.iz,c.hold,c.gc⟩
 .intro b d y;rw[g b (tg d c.size) (λr e h=>da)];exact c.frame b d y
 .intro b i v A;have D:=c.F b i v A
  grind[World.cell?,Obj.isCells,World.block_lt_of_cell?,World.cell?_of_block]
 .intro b o d;rw[ja b (.inl (by rw[d];simp))];exact c.t b o d
def yE:Code->Bool
 |.skip=>true
 |.ret=>true
 |.exit _=>true
 |.region _ c _=>c.toList.all λo=>match o.op with|.defer _=>false|_=>true
 |.seq x y=>yE x&&yE y
 |.cond _ x y=>yE x&&yE y
 |.block _ x=>yE x
 |.loop x=>yE x
 |_=>false
def se(ops:Array Oper):=∀(i:Nat)(o:_),ops[i]?=some o->∀c,o.op≠ .defer c
theorem ZD{ops}(h:(ops.toList.all λo=>match o.op with|.defer _=>false|_=>true)=true):se ops:=by
 intro i o d c e
 grind
theorem B6(l:Nat){P:Program}{ops:Array Oper}(c:se ops){Q:Exit->Act->World->Prop}:∀(L:tw)(a:Act)(w:World),wpOpsIn Fence.wide 0 P ops Q L a w->wpOpsIn (Fence.wide.inRound l) 0 P ops Q L a w
 |[],_,_,h=>h
 |i::L,a,w,h=>by
  unfold wpOpsIn at h⊢
  cases d:ops[i]? with
  |none=>rw[d]at h;exact B6 l c L a w h
  |some o=>
   rw[d]at h;dsimp only at h⊢
   split
   .rename_i e;rw[if_pos e]at h;exact K6 l (c i o d) (Oper.wpIn_mono (λa w=>B6 l c L a w) h)
   .rename_i e;rw[if_neg e]at h;exact⟨λ_ _=>trivial,B6 l c L _ _ h.2⟩
theorem ET(l:Nat){P:Program}{g:Region.Mode}{ops:Array Oper}(c:se ops){Q:Exit->Act->World->Prop}(d:¬LetsOut Q):∀(n:Nat)(L:Array Bool)(a:Act)(w:World),wpAny P g ops Q n L a w->wpAnyIn (Fence.wide.inRound l) 0 P g ops Q n L a w
 |0,_,_,_,h=>h
 |n+1,L,a,w,h=>by
  refine⟨h.1,λi t=>?_⟩;have:=h.2 i t;unfold wpOp at this;unfold wpOpIn;cases e:ops[i]? with
  |none=>rw[e]at this;exact ET l c d n _ _ _ this
  |some o=>
   rw[e]at this;dsimp only at this⊢
   split
   .rename_i f;rw[if_pos f]at this;rcases this with j|j
    .exact K6 l (c i o e) (Oper.wpIn_mono (λa w=>ET l c d n _ a w) (Sc j))
    grind
   .rename_i f;rw[if_neg f]at this;exact⟨λ_ _=>trivial,ET l c d n _ _ _ this⟩
theorem H2{F n P Q a w c}(I:Nat->Act->World->Prop) u(z:I u a w)(d:∀k a w,I k a w->c.wpIn F n P (Exit.then (λy w'=>∃g,g<k/\I g y w') Q) a w):(Code.loop c).wpIn F n P Q a w:=by
 refine wpIn_loop (λa w=>∃k,I k a w) (λa w=>leastOf (λk=>I k a w)) ⟨u,z⟩ ?_;intro a w A;refine wpIn_mono (d _ a w (leastOf_spec A).1) ?_;intro e y w' j;cases e with
 |normal=>
  obtain⟨g,t,f⟩:=j;exact⟨⟨g,f⟩,Nat.lt_of_le_of_lt ((leastOf_spec ⟨g,f⟩).2 g f) t⟩
 |exit id=>exact j
 |ret=>exact j
 |goto l=>exact j
 |panic D=>exact j
 |outgrown=>exact j
theorem UJ l(E:∀g S,cg C.cq g=some S->af C.P g S):∀c,yE c=true->∀σ Q ι a w,aL B ι σ a w->VC C c σ Q->c.wpIn (Fence.wide.inRound l) 0 C.P (QD B Q) a w:=by
 intro c
 induction c with
 |skip=>intro u σ Q ι a w z h;exact wpIn_skip ⟨ι,σ,z,h⟩
 |label l=>intro u;cases u
 |exit id=>intro u σ Q ι a w z h;exact wpIn_exit ⟨ι,σ,z,h⟩
 |ret=>intro u σ Q ι a w z h;exact wpIn_ret ⟨ι,σ,z,h⟩
 |goto l=>intro u;cases u
 |refuse a8=>intro u;cases u
 |scope a7 ih=>intro u;cases u
 |rangeFunc f ps x y F U=>intro u;cases u
 |region id ops a2=>
  intro u σ Q ι a w z h;cases a2 with
  |false=>
   refine wpIn_region (B6 l (ZD u) _ _ _ ?_);have:=OQ E (ops:=ops) (Q:=Q) (OP C id) ops.toList 0 ι σ a w (λj=>bu) z h
   grind[range_eq_range']
  |true=>
   simp only[VC]at h;split at h
   .rename_i h1 h2 h3;have a4:=cfZ h1 h2;refine wpIn_region_any h3 (ET l (ZD u) (λ⟨_,_,e⟩=>e) _ _ _ _ ?_);refine Xd E a4 (Q:=QD B Q) (R:=Q .normal) (λι σ a w z h=>⟨ι,σ,z,h⟩) (λc a w h=>h) ops.size ops.size _ ι σ a _ (z.drew (w.drawn+1) (Nat.le_succ _)) h _ a ?_ ?_
    .have M:∀i,(Array.replicate ops.size false).getD i false=true->False:=by
      simp_all[Array.getD]
     exact⟨bu,bu,λi O=>O,λi o _ O=>(M i O).elim,λi o _ O=>(M i O).elim,λi o _ O=>(M i O).elim,rfl,rfl,λt _=>rfl,λi o _ O=>(M i O).elim⟩
    .unfold zS;rw[filter_eq_self.2]
     .simp
     simp_all
   grind
 |seq x y F U=>
  intro u σ Q ι a w z h;have⟨G,a3⟩:=Bool.and_eq_true_iff.1 u;simp only[VC]at h;split at h
  .obtain⟨h,D⟩:=h;refine wpIn_seq (wpIn_mono (F G σ _ ι a w z h) ?_);intro e J L d;cases e with
   |normal=>
    obtain⟨T,σ',A,x,hx,hm⟩:=d;show y.wpIn (Fence.wide.inRound l) 0 C.P (QD B Q) J L
    grind[oP]
   |exit id=>exact d
   |ret=>exact d
   |goto l=>exact d
   |panic ch=>exact d
   |outgrown=>exact d
  .split at h
   .obtain⟨I,h,D⟩:=h;refine wpIn_seq (wpIn_mono (F G σ _ ι a w z h) ?_);intro e J L d;cases e with
    |normal=>
     obtain⟨T,σ',A,hm⟩:=d;show y.wpIn (Fence.wide.inRound l) 0 C.P (QD B Q) J L
     grind[CM]
    |exit id=>exact d
    |ret=>exact d
    |goto l=>exact d
    |panic ch=>exact d
    |outgrown=>exact d
   .refine wpIn_seq (wpIn_mono (F G σ _ ι a w z h) ?_);intro e J L d;cases e with
    |normal=>
     obtain⟨T,σ',A,h'⟩:=d;show y.wpIn (Fence.wide.inRound l) 0 C.P (QD B Q) J L
     grind
    |exit id=>exact d
    |ret=>exact d
    |goto l=>exact d
    |panic ch=>exact d
    |outgrown=>exact d
 |cond c x y F U=>
  intro u σ Q ι a w z h;have⟨G,a3⟩:=Bool.and_eq_true_iff.1 u;simp only[VC]at h;split at h
  .rename_i t hc;have H:=z.ev c;rw[hc]at H;have H:a.eval c=.bool t:=H;rcases xW h with⟨rfl,h⟩|⟨rfl,h⟩
   .exact wpIn_cond_true H (F G _ Q ι a w (z.dk hc) h)
   .exact wpIn_cond_false H (U a3 _ Q ι a w (z.dk hc) h)
  grind
 |block id c ih=>
  intro u σ Q ι a w z h;refine wpIn_block (wpIn_mono (ih u σ _ ι a w z h) ?_);intro e J L d;cases e with
  |normal=>exact d
  |exit i=>
   obtain⟨T,σ',A,h'⟩:=d;show if i=id then _ else _
   simp only at h';split at h'
   .rename_i hb;rw[if_pos (sw hb)];exact⟨T,σ',A,h'⟩
   .rename_i hb;rw[if_neg (λe=>by subst e;simp at hb)];exact⟨T,σ',A,h'⟩
  |ret=>exact d
  |goto l=>exact d
  |panic ch=>exact d
  |outgrown=>exact d
 |loop c ih=>
  intro u σ Q ι a w z h;simp only[VC]at h;split at h
  .rename_i V hl;obtain⟨⟨x,hx,hm⟩,D⟩:=h;have⟨ι2,W,_⟩:=oP z hm;refine H2 (λn a w=>∃x ι,V.ml x/\V.mu x=n/\aL B ι (V.st x) a w) (V.mu x) ⟨x,ι2,hx,rfl,W⟩ ?_;rintro n J L⟨x',T,X,rfl,A⟩;refine wpIn_mono (ih u _ _ T J L A (D x' X)) ?_;intro e a5 a6 d;cases e with
   |normal=>
    obtain⟨ι3,σ3,Y,y,hy,Z,a0⟩:=d;have⟨ι4,a1,_⟩:=oP Y a0;exact⟨V.mu y,Z,y,ι4,hy,rfl,a1⟩
   |exit id=>exact d
   |ret=>exact d
   |goto l=>exact d
   |panic ch=>exact d
   |outgrown=>exact d
  .split at h
   .rename_i V hl;obtain⟨I,mu,hm,D⟩:=h;have⟨x,ι2,hx,W⟩:=CM z hm;refine H2 (λn a w=>∃x ι,I x/\mu x=n/\aL B ι (V.st x) a w) (mu x) ⟨x,ι2,hx,rfl,W⟩ ?_;rintro n J L⟨x',T,X,rfl,A⟩;refine wpIn_mono (ih u _ _ T J L A (D x' X)) ?_;intro e a5 a6 d;cases e with
    |normal=>
     obtain⟨ι3,σ3,Y,a0⟩:=d;have⟨y,ι4,hy,Z,a1⟩:=Q8 Y a0;exact⟨mu y,Z,y,ι4,hy,rfl,a1⟩
    |exit id=>exact d
    |ret=>exact d
    |goto l=>exact d
    |panic ch=>exact d
    |outgrown=>exact d
   grind
end
end Go.Vc
namespace Go.Vc
open Go List
def vY:Code->Bool
 |.seq x y=>vY x||vY y
 |.cond _ x y=>vY x||vY y
 |.block _ x=>vY x
 |.loop x=>vY x
 |.scope x=>vY x
 |.rangeFunc .. =>true
 |_=>false
structure YDo(P:Program)(l:Nat)(vs:tm)(m:MH)(h:PH)(R:Bool->MH->PH->Prop):Prop where
 go:∀w,aCZ w m h->∃fn tmps assign body,(Instr.yield l vs.toArray).run P w=.ok (.round l fn tmps assign body) w/\
  RoundIn Fence.wide 0 P l fn tmps assign body w λe w'=>∃u m' h',e=.returned (.bool u)/\R u m' h'/\Ui w m h m' h' w'
def cQX(P:Program):jo:=λc m h K=>∃l d R,c=.val (.func (.yield l) #[] #[])::d.map .val/\YDo P l d m h R/\∀u m' h',R u m' h'->K (.val (.bool u)) m' h'
theorem QF:∀{l c:tm},l.map CV.val=c.map CV.val->l=c
 |[],[],_=>rfl
 |a::l,b::c,h=>by
  simp only[map_cons,List.cons.injEq,CV.val.injEq]at h;rw[h.1,QF h.2]
 |[],_::_,h=>by simp at h
 |_::_,[],h=>by simp at h
theorem Sa P:Qb P (cQX P):=⟨λl H m h w K⟨I,g,R,d,j,n⟩ t=>by
 simp only[List.cons.injEq,CV.val.injEq,Value.func.injEq,Fn.yield.injEq,and_true]at d;obtain⟨rfl,d⟩:=d;rw[QF d];have⟨y,c,f,z,A,D⟩:=j.go w t;exact⟨y,c,f,z,A,D.mono λe J⟨u,m',h',E,F,G⟩=>⟨_,m',h',E,n u m' h' F,G⟩⟩⟩
def cWZ(P:Program)(Src:PH->tm->List tm->Prop):jo:=λd m h K=>∃(l:_)(c:_)(xs:_)(J:Nat->MH->PH->Prop),
 d=.val (.func (.yield l) #[] #[])::c.map .val/\Src h c xs/\J 0 m h/\
 (∀k e m' h',xs[k]?=some e->PH.le h h'->J k m' h'->YDo P l e m' h' (λr g f=>r=true/\PH.le h' f/\J (k+1) g f))/\
 ∀r m' h',PH.le h h'->J xs.length m' h'->K r m' h'
structure LU(P:Program)(g:FuncId)(Src:PH->tm->List tm->Prop):Prop where
 sound:af P g (cWZ P Src)
def U4:SV->SV
 |.at (.val v)=>.at (.val v)
 |.agg cs=>match zR cs with|some _=>.agg cs|none=>.at .di
 |_=>.at .di
def ZN:Option fi->Option fi:=λ_=>none
def me(σ:St)(m:MH)(h:PH):St:={sl:=σ.sl.map U4,own:=σ.own.map ZN,m:=m,h:=h}
def XH(l:uj):uw->uj
 |[]=>l
 |(p,x)::r=>XH (l.set p x) r
def bpQ(σ:St)(es:uw)(m:MH)(h:PH):St:={sl:=XH (σ.sl.map U4) es,own:=σ.own.map ZN,m:=m,h:=h}
def Rp(C:bk)(x y:Code)(σ:St)(es:uw)(m:MH)(h:PH)(R:MH->PH->Prop):=
 VC C x (bpQ σ es m h) (λc τ=>match c with
  |.normal=>VC C y τ (λc υ=>match c with
   |.normal=>R υ.m υ.h
   |_=>False)
  |_=>False)
def aMQ(C:bk)(f:Operand)(ps:Array Tmp)(x y:Code)(σ:St)(K:St->Prop):Prop:=
 match σ.ev f,yE x&&yE y with
 |.at (.val (.func (.func g) d cs)),true=>match d.toList with
  |[]=>match ps.toList,C.qz with
   |[p],[T]=>∃(Src:_)(xs:List (C.gn T).X)(I:Nat->MH->PH->Prop),LU C.P g Src/\Src σ.h cs.toList (xs.map λx=>[iw C.P T ((C.gn T).ag x)])/\I 0 σ.m σ.h/\
    (∀k e m h,xs[k]?=some e->PH.le σ.h h->I k m h->Rp C x y σ [(p,mk C.P T (((C.gn T).ag e).map .val))] m h (I (k+1)))/\
    ∀m h,PH.le σ.h h->I xs.length m h->K (me σ m h)
   |[p,q],[T,U]=>∃(Src:_)(xs:List ((C.gn T).X×(C.gn U).X))(I:Nat->MH->PH->Prop),LU C.P g Src/\Src σ.h cs.toList (xs.map λx=>[iw C.P T ((C.gn T).ag x.1),iw C.P U ((C.gn U).ag x.2)])/\I 0 σ.m σ.h/\
    (∀k e c m h,xs[k]?=some (e,c)->PH.le σ.h h->I k m h->Rp C x y σ [(p,mk C.P T (((C.gn T).ag e).map .val)),(q,mk C.P U (((C.gn U).ag c).map .val))] m h (I (k+1)))/\
    ∀m h,PH.le σ.h h->I xs.length m h->K (me σ m h)
   |_,_=>False
  |_=>False
 |_,_=>False
def pt(C:bk):Code->St->(CW->St->Prop)->Prop
 |.rangeFunc f ps x y,σ,Q=>aMQ C f ps x y σ (Q .normal)
 |.seq a b,σ,Q=>match vY a||vY b with
  |false=>VC C (.seq a b) σ Q
  |true=>match TU C b with
   |some c=>∃I:c.A->Prop,pt C a σ (λe τ=>match e with
    |.normal=>Mm c I τ
    |e=>Q e τ)/\∀x,I x->pt C b (c.st x) Q
   |none=>pt C a σ (λe τ=>match e with
    |.normal=>pt C b τ Q
    |e=>Q e τ)
 |.block id c,σ,Q=>match vY c with
  |false=>VC C (.block id c) σ Q
  |true=>pt C c σ (λe τ=>match e with
   |.exit i=>match Nat.beq i id with|true=>Q .normal τ|false=>Q (.exit i) τ
   |e=>Q e τ)
 |.cond c x y,σ,Q=>match vY x||vY y with
  |false=>VC C (.cond c x y) σ Q
  |true=>match σ.ev c with
   |.at (.val (.bool t))=>branch t (pt C x (dk σ c true) Q) (pt C y (dk σ c false) Q)
   |_=>False
 |c,σ,Q=>VC C c σ Q
def c4Z(C:bk)(σ:St):List ResultVar->(tm->Prop)->Prop
 |[],K=>K []
 |.cell t T::r,K=>match cr σ.sl t,kL C.P T with
  |some (.at (.val (.pointer (some ⟨b,off,none⟩)))),true=>cMX C T (aK σ.m σ.h b off) λl=>match(mk C.P T (l.map .val)).val? with
   |some v=>c4Z C σ r (λrs=>K (v::rs))
   |none=>False
  |_,_=>False
 |_::_,_=>False
def OX C fn K σ:=
 match Lg C σ fn.results.toList with
 |some _=>Gi C fn K σ
 |none=>c4Z C σ fn.results.toList λrs=>match rs with
  |[r]=>K (.val r) σ.m σ.h
  |rs=>K (.dg (rs.map .val)) σ.m σ.h
def btX C fn c σ K:=
 pt C c σ (λe τ=>match e with
  |.normal=>OX C fn K τ
  |.ret=>OX C fn K τ
  |_=>False)
section
variable{B:vU}{C:bk}{ι:tv}{σ:St}{a:Act}{w:World}{K:St->Prop}
theorem bRQ{ι c x v}(h:fw ι x v):fw c (U4 x) v:=by
 cases x with
 |agg cs=>
  simp only[U4];split
  .rename_i l d;obtain⟨e,rfl,f⟩:=h;rw[Gf d]at f⊢
   exact⟨e,rfl,by grind[kB.fk]⟩
  .trivial
 |dg xs=>trivial
 |_ y=>cases y<;>first|exact h|trivial
theorem II{ι c:tv}:∀{xs:uj}{vs:tm},dp ι xs vs->dp c (xs.map U4) vs
 |[],[],_=>trivial
 |_::_,_::_,h=>⟨bRQ h.1,II h.2⟩
 |[],_::_,h=>h.elim
 |_::_,[],h=>h.elim
theorem Jn(l:ui) k o:cr (l.map ZN) k=some (some o)->False:=by
 simp_all[ZN,Dp]
theorem aL.ro{B sl}{l:ui}{m h a w}(d:dp (λ_=>.slice none 0 0) sl a.tmps.toList)(e:a.defers=B.dfs)(f:AV B m h w):
 aL B (λ_=>.slice none 0 0) {sl:=sl,own:=l.map ZN,m:=m,h:=h} a w:=
 ⟨d,e,λk o c=>(Jn l k o c).elim,λk _ o _ _ c=>(Jn l k o c).elim,λk o _ c=>(Jn l k o c).elim,f,λ_=>rfl⟩
def Ey(D:Nat):Deferred:={target:=.collected D,args:=#[]}
structure MM(B:vU)(ds:tw)(ι:tv)(σ:St)(a:Act)(w:World):Prop where
 mod:aL {B with dfs:=ds.map Ey} ι σ a w
 size:∀D∈ds,B.w0.heap.size<=D
 ja:∀D∈ds,¬Uf ι σ D
 mark:∀D∈ds,w.heap[D]?=some (.deferred (some []))
 fp:ds.Nodup
def QM(B:vU)(Q:CW->St->Prop):Exit->Act->World->Prop
 |.normal,a,w=>∃c ι σ,MM B c ι σ a w/\Q .normal σ
 |.exit id,a,w=>∃c ι σ,MM B c ι σ a w/\Q (.exit id) σ
 |.ret,a,w=>∃c ι σ,MM B c ι σ a w/\Q .ret σ
 |_,_,_=>False
theorem MM.step{ds}(c:MM B ds ι σ a w){f τ g w'}(h:aL (reB ι σ (ds.map Ey) w) f τ g w'):MM B ds f τ g w':=by
 have j:∀D∈ds,D<w.heap.size:=λD d=>(Array.getElem?_eq_some_iff.1 (c.mark D d)).1;refine⟨?_,c.size,λD d n=>?_,λD d=>?_,c.fp⟩
 .exact c.mod.unbase (ds:=ds.map Ey) h
 .rcases(h.ja n).1 with e|e
  .have e:w.heap.size<=D:=e
   grind
  .exact c.ja D d e
 .rw[h.g.frame D (j D d) (c.ja D d)];exact c.mark D d
theorem MM.lm{ds}(c:MM B ds ι σ a w):aL (reB ι σ (ds.map Ey) w) ι σ a w:=by
 have:=c.mod.mw;rw[c.mod.defers]at this;exact this
theorem MM.of_QD{ds}(g:MM B ds ι σ a w){Q e j w'}(h:QD (reB ι σ (ds.map Ey) w) Q e j w'):QM B Q e j w':=by
 cases e with
 |normal=>obtain⟨c,τ,d,f⟩:=h;exact⟨ds,c,τ,g.step d,f⟩
 |exit id=>obtain⟨c,τ,d,f⟩:=h;exact⟨ds,c,τ,g.step d,f⟩
 |ret=>obtain⟨c,τ,d,f⟩:=h;exact⟨ds,c,τ,g.step d,f⟩
 |goto l=>exact h.elim
 |panic n=>exact h.elim
 |outgrown=>exact h.elim
theorem MM.qf{ds}(d:MM B ds ι σ a w){c τ}(h:aL (reB ι σ (ds.map Ey) w) c τ a w):MM B ds c τ a w:=d.step h
theorem EZ(d:∀g S,cg C.cq g=some S->af C.P g S){ds}(e:MM B ds ι σ a w){c Q}(h:VC C c σ Q):c.wp C.P (QM B Q) a w:=
 wp_mono (LX d c σ Q ι a w e.lm h) (λ_ _ _ f=>e.of_QD f)
theorem Sq{ι:tv}:∀{es:uw}{vs:tm}{sl:uj}{c:Array Value},dp ι (es.map (·.2)) vs->dp ι sl c.toList->
 dp ι (XH sl es) (((es.map (·.1)).zip vs).foldl (λc(p,v)=>c.setIfInBounds p v) c).toList
 |[],[],_,_,_,h=>h
 |(p,x)::es,v::vs,sl,c,h,d=>by
  refine Sq (es:=es) (vs:=vs) h.2 ?_;rw[Array.toList_setIfInBounds];exact d.set p h.1
 |[],_::_,_,_,h,_=>h.elim
 |_::_,[],_,_,h,_=>h.elim
def Dn(fn:FuncId)(tmps:Array Value)(ps:Array Tmp)(x y:Code)(D:Nat)(st:LoopState):Loop:={state:=st,pending:=none,fn:=fn,tmps:=tmps,params:=ps,assign:=x,body:=y,defers:=D}
theorem SF{w:World}{l i r}(h:w.heap[l]?=some (.loop r)):w.cell? ⟨l,i,none⟩=none:=by
 grind[World.cell?]
theorem Zw(A:∀g S,cg C.cq g=some S->af C.P g S){tmps:Array Value}{x y:Code}(hx:yE x=true)(hy:yE y=true)(b3:dp ι σ.sl tmps.toList){es:uw}{vs:tm}{ps:Array Tmp}(a5:ps.toList=es.map (·.1))(a6:dp (λ_=>.slice none 0 0) (es.map (·.2)) vs){fn D l m0 mm h0}(b4:m0 l=none)(c2:∀b,b≠l->mm b=m0 b)(b5:mm l=some (.loop (Dn fn tmps ps x y D .ready))){R}(hV:Rp C x y σ es m0 h0 R) w(hH:aCZ w mm h0):
 ∃a7 J assign body,(Instr.yield l vs.toArray).run C.P w=.ok (.round l a7 J assign body) w/\
  RoundIn Fence.wide 0 C.P l a7 J assign body w λex w'=>∃u m' h',ex=.returned (.bool u)/\(u=true/\PH.le h0 h'/\∃m2,m2 l=none/\(∀b,b≠l->m' b=m2 b)/\m' l=some (.loop (Dn fn tmps ps x y D .ready))/\R m2 h')/\Ui w mm h0 m' h' w':=by
 have hl:=hH.t l _ b5;have b6:=(Array.getElem?_eq_some_iff.1 hl).1
 have a8:vs.length=ps.size:=by
  have n:=a6.length;rw[length_map]at n;rw[<-Array.length_toList,a5,length_map,n]
 refine⟨_,_,_,_,run_yield hl (by simpa[Dn]using a8),roundIn_of_wpIn trivial ?_⟩;obtain⟨ts,a9⟩:∃ts,((Dn fn tmps ps x y D .ready).params.zip vs.toArray).foldl (λtmps(t,a)=>tmps.setIfInBounds t a) (Dn fn tmps ps x y D .ready).tmps=ts:=⟨_,rfl⟩
 rw[a9]
 have b':ts=((es.map (·.1)).zip vs).foldl (λts(p,v)=>ts.setIfInBounds p v) tmps:=by
  rw[<-a9,<-a5,<-Array.foldl_toList,Array.toList_zip];rfl
 have E:∀b o,m0 b=some o->mm b=some o:=λb o d=>by
  grind
 have hM:aL ⟨w,λb=>m0 b≠none,h0,[]⟩ (λ_=>.slice none 0 0) (bpQ σ es m0 h0) {tmps:=ts,defers:=[]} w:=by
  refine aL.ro ?_ rfl ?_
  .show dp _ (XH (σ.sl.map U4) es) ts.toList;rw[b'];exact Sq a6 (II b3)
  .exact⟨rfl,rfl,rfl,Nat.le_refl _,Nat.le_refl _,λ_ _ _=>rfl,hH.F,λb o d=>hH.t b o (E b o d),λb o d=>hH.z b o (E b o d),λ_ _ _ e=>e,λ_ _ _=>rfl,λb o d=>.inr da⟩
 refine wpIn_mono (UJ l A x hx _ _ _ _ _ hM hV) ?_;intro ex a1 V F;cases ex with
 |normal=>
  obtain⟨ι1,τ,G,b7⟩:=F;have j:=G.g;have b8:¬(λb=>m0 b≠none) l:=λe=>e b4;have a':V.heap[l]?=some (.loop (Dn fn tmps ps x y D .ready)):=by rw[j.frame l b6 b8];exact hl
  have X:=(Array.getElem?_eq_some_iff.1 a').1
  have L:¬Uf ι1 τ l:=λhm=>by
   rcases(G.ja hm).1 with n|n
   .grind
   grind
  refine⟨_,run_beginRound a' rfl,?_⟩;obtain⟨f,H⟩:∃f,V.putObj l (.loop {Dn fn tmps ps x y D .ready with state:=.busy})=f:=⟨_,rfl⟩
  have a0:=(G.mw.putD (.loop {Dn fn tmps ps x y D .ready with state:=.busy}) a' rfl X L).mw;rw[H]at a0⊢
  have c3:a1.defers=[]:=G.defers;have a0:aL (reB ι1 τ [] f) ι1 τ a1 f:=da
  have b9:∀b,b≠l->f.heap[b]?=V.heap[b]? :=λb d=>by rw[<-H];exact World.putObj_heap_other (λe=>d e)
  have s2:f.heap.size=V.heap.size:=by rw[<-H];simp
  have c':f.heap[l]?=some (.loop {Dn fn tmps ps x y D .ready with state:=.busy}):=by rw[<-H];exact World.putObj_heap_same X
  refine wpIn_mono (UJ l A y hy _ _ _ _ _ a0 b7) ?_;intro ex a2 I F;cases ex with
  |normal=>
   obtain⟨ι2,υ,c0,hR⟩:=F;have c:=c0.g;have W:I.heap[l]?=some (.loop {Dn fn tmps ps x y D .ready with state:=.busy}):=by rw[c.frame l (by show l<f.heap.size;omega) L];exact c'
   have b0:=(Array.getElem?_eq_some_iff.1 W).1
   have M:∀b,b<w.heap.size->mm b=none->¬Uf ι1 τ b:=λb d hn hm=>by
    rcases(G.ja hm).1 with n|n
    .grind
    grind
   have c1:υ.m l=none:=by
    cases e:υ.m l with
    |none=>rfl
    |some o=>
     rcases c.gc l o e with n|n
     .have n:f.heap.size<=l:=n;omega
     .exact(L n).elim
   obtain⟨O,Q⟩:∃O,I.putObj l (.loop (Dn fn tmps ps x y D .ready))=O:=⟨_,rfl⟩
   have a3:∀b,b≠l->O.heap[b]?=I.heap[b]? :=λb d=>by rw[<-Q];exact World.putObj_heap_other (λe=>d e)
   have c4:O.heap[l]?=some (.loop (Dn fn tmps ps x y D .ready)):=by rw[<-Q];exact World.putObj_heap_same b0
   have T:=run_endRound (P:=C.P) none W;have T:(Instr.endRound l none).run C.P I=.ok (.bool true) O:=by rw[T,<-Q];rfl
   have Y:PH.le h0 τ.h:=⟨λb i v e=>j.iz b i v e⟩
   have Z:PH.le τ.h υ.h:=⟨λb i v e=>c.iz b i v e⟩
   refine⟨_,_,T,true,λb=>if b=l then some (.loop (Dn fn tmps ps x y D .ready))else υ.m b,υ.h,rfl,⟨rfl,⟨λb i v e=>Z.le _ _ _ (Y.le _ _ _ e)⟩,υ.m,c1,λb d=>by simp[d],bu,hR⟩,?_⟩;have t4:O.tape=I.tape/\O.os=I.os/\O.output=I.output/\O.heap.size=I.heap.size:=by rw[<-Q];exact⟨rfl,rfl,rfl,bu⟩
   have t2:f.tape=V.tape/\f.os=V.os/\f.output=V.output:=by rw[<-H];exact⟨rfl,rfl,rfl⟩
   have b1:w.heap.size<=V.heap.size:=j.size;have b2:f.heap.size<=I.heap.size:=c.size;refine⟨?_,?_,?_,?_,?_,?_,⟨?_,?_,?_⟩,⟨λb i v e=>Z.le _ _ _ (Y.le _ _ _ e)⟩,?_,?_⟩
   .rw[t4.1,c.tape];show f.tape=_;rw[t2.1];exact j.tape
   .rw[t4.2.1,c.os];show f.os=_;rw[t2.2.1];exact j.os
   .rw[t4.2.2.1,c.output];show f.output=_;rw[t2.2.2];exact j.output
   .have d4:O.drawn=I.drawn:=by rw[<-Q];rfl
    have d3:f.drawn<=I.drawn:=c.drawn;have d2:f.drawn=V.drawn:=by rw[<-H];rfl
    have d1:w.drawn<=V.drawn:=j.drawn;omega
   .omega
   .intro b d hn;have U:b≠l:=λe=>da
    rw[a3 b U,c.frame b (by show b<f.heap.size;omega) (M b d hn)];show f.heap[b]?=_;rw[b9 b U];exact j.frame b d (λe=>e da)
   .intro b i v hv;have a4:=c.F b i v hv;have U:b≠l:=λe=>by rw[e,SF W]at a4;cases a4
    rw[World.cell?_of_block (w:=I) (w':=O) (a:=⟨b,i,none⟩) (a3 b U)];exact a4
   .intro b o d;have z:(if b=l then some (Obj.loop (Dn fn tmps ps x y D .ready))else υ.m b)=some o:=d;clear d;split at z
    .grind
    .rename_i e;rw[a3 b e];exact c.t b o z
   .intro b o d i;have z:(if b=l then some (Obj.loop (Dn fn tmps ps x y D .ready))else υ.m b)=some o:=d;clear d;split at z
    .rename_i e;subst e;cases e2:υ.h b i with
     |none=>rfl
     |some v=>have:=c.F b i v e2;rw[SF W]at this;cases this
    .exact c.z b o z i
   .intro b d hn;have n:υ.h b=τ.h b:=c.hold b (by show b<f.heap.size;omega) (M b d hn);rw[n];have U:b≠l:=λe=>da
    exact j.hold b d (λe=>e da)
   .intro b o d;have z:(if b=l then some (Obj.loop (Dn fn tmps ps x y D .ready))else υ.m b)=some o:=d;clear d;split at z
    .grind
    .rename_i e;rcases c.gc b o z with n|n
     .have n:f.heap.size<=b:=n;omega
     .rcases(G.ja n).1 with h2|h2
      .exact .inl h2
      grind
  |ret=>obtain⟨_,_,_,h⟩:=F;exact h.elim
  |exit id=>obtain⟨_,_,_,h⟩:=F;exact h.elim
  |goto t=>exact F.elim
  |panic ch=>exact F.elim
  |outgrown=>exact F.elim
 |ret=>obtain⟨_,_,_,h⟩:=F;exact h.elim
 |exit id=>obtain⟨_,_,_,h⟩:=F;exact h.elim
 |goto t=>exact F.elim
 |panic ch=>exact F.elim
 |outgrown=>exact F.elim
theorem aAQ(w:World) o{b}(h:b<w.heap.size):(w.alloc o).heap[b]?=w.heap[b]? :=by
 grind[Go.RowKit.Below.heap_alloc]
theorem aAX(w:World) o:(w.alloc o).heap[w.heap.size]?=some o:=World.alloc_heap_new w o
theorem bnX(w:World):∀l:tm,EM w (l.map .val) l
 |[]=>trivial
 |_::l=>⟨rfl,bnX w l⟩
theorem Sd(l:tm)(i:Nat) c u b(d:(l.map .val)[i]?=some c)(e:jC c u=some b):False:=by
 grind[jC]
theorem U8(T:∀g S,cg C.cq g=some S->af C.P g S){ds:tw}(R:MM B ds ι σ a w){f:Operand}{ps:Array Tmp}{x y Q g cs}(c2:σ.ev f=.at (.val (.func (.func g) #[] cs)))(hx:yE x=true)(hy:yE y=true){Src}(b3:LU C.P g Src){xs}(b4:Src σ.h cs.toList xs){I:Nat->MH->PH->Prop}(h0:I 0 σ.m σ.h)(U:∀k vs m h,xs[k]?=some vs->PH.le σ.h h->I k m h->∃es:uw,ps.toList=es.map (·.1)/\dp (λ_=>.slice none 0 0) (es.map (·.2)) vs/\Rp C x y σ es m h (I (k+1)))(b5:∀m h,PH.le σ.h h->I xs.length m h->Q .normal (me σ m h)):(Code.rangeFunc f ps x y).wp C.P (QM B Q) a w:=by
  obtain⟨a1⟩:=b3;have H:=R.mod.g
  have b6:a.eval f=.func (.func g) #[] cs:=by
   have:=R.mod.ev f;rw[c2]at this;exact this
  refine(wpIn_wide (n:=0)).1 (wpIn_rangeFunc ?_);intro fn e';obtain⟨l,hl⟩:∃l,l=w.heap.size+1:=⟨_,rfl⟩
  obtain⟨D,hD⟩:∃D,D=w.heap.size:=⟨_,rfl⟩
  obtain⟨W1,V⟩:∃W1,(w.alloc (.deferred (some []))).alloc (.loop (Dn fn a.tmps ps x y D .ready))=W1:=⟨_,rfl⟩
  have s1:W1.heap.size=w.heap.size+2:=by rw[<-V];simp
  have a5:∀b,b<w.heap.size->W1.heap[b]?=w.heap[b]? :=λb t=>by
   grind[aAQ]
  have b7:W1.heap[D]?=some (.deferred (some [])):=by
   grind[aAQ,aAX]
  have d9:W1.heap[l]?=some (.loop (Dn fn a.tmps ps x y D .ready)):=by
   grind[Dn,aAX,World.size_alloc]
  have c3:∀b o,σ.m b=some o->b<w.heap.size:=λb o t=>(Array.getElem?_eq_some_iff.1 (H.t b o t)).1;have a6:∀b i v,σ.h b i=some v->b<w.heap.size:=λb i v hv=>World.block_lt_of_cell? w ⟨b,i,none⟩ (H.F b i v hv)
  let m1:MH:=λb=>if b=l then some (.loop (Dn fn a.tmps ps x y D .ready))else σ.m b
  have c4:m1 l=some (.loop (Dn fn a.tmps ps x y D .ready)):=by simp[m1]
  have a7:∀b,b≠l->m1 b=σ.m b:=λb t=>if_neg t
  have c5:σ.m l=none:=by
   cases e:σ.m l with
   |none=>rfl
   |some o=>grind
  have b8:CJ W1 m1 σ.h (.val (.func (.yield l) #[] #[])::cs.toList.map .val) (.func (.yield l) #[] #[]::cs.toList):=by
   refine⟨⟨rfl,bnX _ _⟩,?_,?_,?_,λi j c d u v b hi _ _ _ t _=>(Sd (.func (.yield l) #[] #[]::cs.toList) i c u b hi t).elim,λi c u b hi _ t=>(Sd (.func (.yield l) #[] #[]::cs.toList) i c u b hi t).elim⟩
   .intro b i v hv;rw[World.cell?_of_block (w:=w) (w':=W1) (a:=⟨b,i,none⟩) (a5 b (a6 b i v hv))];exact H.F b i v hv
   .intro b o t;by_cases e:b=l
    .grind
    .rw[a7 b e]at t;rw[a5 b (c3 b o t)];exact H.t b o t
   .intro b o t i;by_cases e:b=l
    .subst e;cases e2:σ.h b i with
     |none=>rfl
     |some v=>grind
    .rw[a7 b e]at t;exact H.z b o t i
  have z:∀b,m1 b=none->¬xL m1 (.val (.func (.yield l) #[] #[])::cs.toList.map .val) (.func (.yield l) #[] #[]::cs.toList) b:=by
   rintro b t (G|⟨i,c,u,hi,hu,hc⟩)
   .exact G t
   .exact Sd (.func (.yield l) #[] #[]::cs.toList) i c u b hi hc
  let J:Nat->MH->PH->Prop:=λk mm W=>PH.le σ.h W/\∃O,O l=none/\(∀b,b≠l->mm b=O b)/\mm l=some (.loop (Dn fn a.tmps ps x y D .ready))/\I k O W
  have a8:=a1.2 (.val (.func (.yield l) #[] #[])::cs.toList.map .val) (.func (.yield l) #[] #[]::cs.toList) m1 σ.h W1 (λ_ mm W=>J xs.length mm W)
   ⟨l,cs.toList,xs,J,rfl,b4,⟨⟨λ_ _ _ e=>e⟩,σ.m,c5,a7,c4,h0⟩,?_,λ_ _ _ _ hJ=>hJ⟩ b8
  .have a9:(Instr.enterLoop fn a.tmps ps x y Fence.wide.round).run C.P w=.ok (l,[Ey D]) W1:=by
    subst hD hl;rw[<-V];exact run_enterLoop_outer _ _ _ _ _
   refine⟨l,[Ey D],W1,{target:=.fn (.func g) cs,args:=#[.func (.yield l) #[] #[]]},W1,g,(.func (.yield l) #[] #[]::cs.toList).toArray,W1,a9,?_,λ_ _=>trivial,?_,λe=>by grind[Fence.wide],callsIn_wide.2 ?_⟩
   .simp only[resolve,b6];simp[go_sem]
   .have⟨gf,hf,c6,e0⟩:=a1.1;have c6:¬gf.body=none:=da
    simp_all[invoke,callFunc,program,Sem.run]
   refine a8.mono ?_;rintro e X⟨r,u,mm,W,rfl,⟨Y,O,a2,b9,b',hI⟩,b3,A,_⟩;have c7:=A.t l _ b';refine⟨_,_,run_endLoop c7 (by simp[Dn]),?_⟩;obtain⟨Z,b0⟩:∃Z,X.putObj l (.loop {Dn fn a.tmps ps x y D .ready with state:=.exhausted})=Z:=⟨_,rfl⟩
   rw[b0];have b1:∀b,b≠l->Z.heap[b]?=X.heap[b]? :=λb t=>by grind[World.putObj_heap_other]
   have t4:Z.tape=X.tape/\Z.os=X.os/\Z.output=X.output/\Z.heap.size=X.heap.size:=by rw[<-b0];exact⟨rfl,rfl,rfl,bu⟩
   have t1:W1.tape=w.tape/\W1.os=w.os/\W1.output=w.output:=by rw[<-V];exact⟨rfl,rfl,rfl⟩
   have c1:W1.heap.size<=X.heap.size:=A.size
   have a3:∀b,b<w.heap.size->σ.m b=none->Z.heap[b]?=w.heap[b]? :=λb t hn=>by
    have a':b≠l:=by omega
    rw[b1 b a',A.frame b da (z b da),a5 b t]
   have F:∀b o,O b=some o->mm b=some o/\b≠l:=λb o t=>by
    grind
   have c8:∀b o,O b=some o->W1.heap.size<=b\/∃o',σ.m b=some o':=λb o t=>by
    have⟨G,a'⟩:=F b o t;rcases A.gc b o G with h2|h2
    .exact .inl h2
    .refine .inr ?_;cases e:σ.m b with
     |some o'=>grind
     |none=>grind
   have hB:B.w0.heap.size<=w.heap.size:=H.size
   have mB:∀b,b<B.w0.heap.size->¬B.E b->σ.m b=none:=λb t hn=>by
    cases e:σ.m b with
    |none=>rfl
    |some o=>
     rcases H.gc b o e with G|G
     .grind
     grind
   have L:∀D',D'∈ds->D'<w.heap.size/\σ.m D'=none:=λD' M=>by
    refine⟨(Array.getElem?_eq_some_iff.1 (R.mark D' M)).1,?_⟩;cases e:σ.m D' with
    |none=>rfl
    |some o=>exact(R.ja D' M (.inl (by rw[e];simp))).elim
   have c':∀b,¬(W1.heap.size<=b)->σ.m b=none->¬Uf (λ_=>.slice none 0 0) (me σ O W) b:=by
    rintro b G h2 (h3|⟨k,o,hk,_⟩)
    .cases e:O b with
     |none=>exact h3 e
     |some o=>
      grind
    .exact Jn _ _ _ hk
   have e1:σ.m D=none:=by
    cases e:σ.m D with
    |none=>rfl
    |some o=>grind
   refine⟨D::ds,λ_=>.slice none 0 0,me σ O W,⟨?_,?_,?_,?_,?_⟩,b5 O W Y hI⟩
   .refine aL.ro (II R.mod.dq) ?_ ⟨?_,?_,?_,?_,?_,?_,?_,?_,?_,?_,?_,?_⟩
    .show[Ey D]++a.defers=_;rw[R.mod.defers];rfl
    .rw[t4.1,A.tape];show W1.tape=_;rw[t1.1];exact H.tape
    .rw[t4.2.1,A.os];show W1.os=_;rw[t1.2.1];exact H.os
    .rw[t4.2.2.1,A.output];show W1.output=_;rw[t1.2.2];exact H.output
    .have d4:Z.drawn=X.drawn:=by rw[<-b0];rfl
     have d3:W1.drawn<=X.drawn:=A.drawn;have d2:W1.drawn=w.drawn:=by rw[<-V];rfl
     have d1:B.w0.drawn<=w.drawn:=H.drawn
     grind
    .grind
    .intro b t a0;have t:b<B.w0.heap.size:=t;rw[a3 b aC (mB b t a0)];exact H.frame b t a0
    .intro b i v hv;have e3:=A.F b i v hv
     grind[SF,World.cell?_of_block]
    .intro b o t;have⟨G,a'⟩:=F b o t;rw[b1 b a'];exact A.t b o G
    .intro b o t i;exact A.z b o (F b o t).1 i
    .intro b i v hv;exact Y.le _ _ _ (H.iz b i v hv)
    .intro b t a0;have t:b<B.w0.heap.size:=t;have G:W b=σ.h b:=A.hold b da (z b da);rw[G];exact H.hold b t a0
    grind
   .intro D' M;rcases mem_cons.1 M with rfl|G
    .omega
    .exact R.size D' G
   .grind
   .intro D' M;rcases mem_cons.1 M with rfl|G
    .rw[b1 D' aC,A.frame D' da (z D' da)];exact b7
    .have⟨h2,h3⟩:=L D' G;rw[a3 D' h2 h3];exact R.mark D' G
   .refine nodup_cons.2 ⟨λG=>?_,R.fp⟩
    grind
  .rintro k e m' h' hk Y⟨c0,O,a2,b9,b',hI⟩;refine⟨λw5 hH=>?_⟩;have⟨es,c9,d',hV⟩:=U k e O h' hk Y hI;have⟨d0,b2,d5,d6,d7,hR⟩:=Zw T (σ:=σ) (ι:=ι) hx hy R.mod.dq c9 d' a2 b9 b' hV w5 hH;refine⟨d0,b2,d5,d6,d7,hR.mono ?_⟩;rintro ex w6⟨u,m6,h6,rfl,⟨rfl,a4,m7,q1,q2,q3,q4⟩,d8⟩;exact⟨_,m6,h6,rfl,⟨rfl,a4,⟨λ_ _ _ e=>a4.le _ _ _ (c0.le _ _ _ e)⟩,m7,q1,q2,q3,q4⟩,d8⟩
theorem aLJ(j:∀g S,cg C.cq g=some S->af C.P g S){ds}(J:MM B ds ι σ a w){f ps x y Q}(h:aMQ C f ps x y σ (Q .normal)):(Code.rangeFunc f ps x y).wp C.P (QM B Q) a w:=by
 unfold aMQ at h;split at h
 .rename_i g O cs E G;have⟨L,M⟩:=Bool.and_eq_true_iff.1 G;split at h
  .rename_i R;obtain rfl:O=#[]:=Array.toList_inj.1 aC;split at h
   .rename_i p T A V;obtain⟨Src,xs,I,D,n,H,c,t⟩:=h;refine U8 j J E L M D n H (λk W m h u d F=>?_) (λm h d F=>t m h d da);rw[getElem?_map]at u;cases e:xs[k]? with
    |none=>grind
    |some z=>
     rw[e]at u;simp only[Option.map_some,ss]at u;subst u;exact⟨[(p,mk C.P T (((C.gn T).ag z).map .val))],by rw[A];rfl,⟨XV,trivial⟩,c k z m h e d F⟩
   .rename_i p q T U A V;obtain⟨Src,xs,I,D,n,H,c,t⟩:=h;refine U8 j J E L M D n H (λk W m h u d F=>?_) (λm h d F=>t m h d da);rw[getElem?_map]at u;cases e:xs[k]? with
    |none=>grind
    |some z=>
     rw[e]at u;simp only[Option.map_some,ss]at u;subst u;exact⟨[(p,mk C.P T (((C.gn T).ag z.1).map .val)),(q,mk C.P U (((C.gn U).ag z.2).map .val))],by rw[A];rfl,⟨XV,XV,trivial⟩,c k z.1 z.2 m h e d F⟩
   grind
  grind
 grind
theorem bLZ(d:∀g S,cg C.cq g=some S->af C.P g S):∀c σ Q ds ι a w,MM B ds ι σ a w->pt C c σ Q->c.wp C.P (QM B Q) a w:=by
 intro c
 induction c with
 |rangeFunc f ps x y _ _=>intro σ Q ds ι a w n h;exact aLJ d n h
 |seq x y D E=>
  intro σ Q ds ι a w n h;simp only[pt]at h;split at h
  .exact EZ d n h
  .split at h
   .obtain⟨I,h,F⟩:=h;refine wp_seq (wp_mono (D σ _ ds ι a w n h) ?_);intro e J L j;cases e with
    |normal=>
     obtain⟨z,G,H,u,V⟩:=j;have⟨W,X,M,O⟩:=CM u.lm V;exact E _ Q z X J L (u.qf O) (F W M)
    |exit id=>exact j
    |ret=>exact j
    |goto l=>exact j
    |panic U=>exact j
    |outgrown=>exact j
   .refine wp_seq (wp_mono (D σ _ ds ι a w n h) ?_);intro e J L j;cases e with
    |normal=>
     obtain⟨z,G,H,u,h'⟩:=j;exact E H Q z G J L u h'
    |exit id=>exact j
    |ret=>exact j
    |goto l=>exact j
    |panic U=>exact j
    |outgrown=>exact j
 |cond c x y D E=>
  intro σ Q ds ι a w n h;simp only[pt]at h;split at h
  .exact EZ d n h
  .split at h
   .rename_i t R;have A:=n.mod.ev c;rw[R]at A;have A:a.eval c=.bool t:=A;rcases xW h with⟨rfl,h⟩|⟨rfl,h⟩
    .exact wp_cond_true A (D _ Q ds ι a w (n.qf (n.lm.dk R)) h)
    .exact wp_cond_false A (E _ Q ds ι a w (n.qf (n.lm.dk R)) h)
   grind
 |block id c Y=>
  intro σ Q ds ι a w n h;simp only[pt]at h;split at h
  .exact EZ d n h
  .refine wp_block (wp_mono (Y σ _ ds ι a w n h) ?_);intro e J L j;cases e with
   |normal=>exact j
   |exit i=>
    obtain⟨z,G,H,u,h'⟩:=j;show if i=id then _ else _
    simp only at h';split at h'
    .rename_i T;rw[if_pos (sw T)];exact⟨z,G,H,u,h'⟩
    .rename_i T;rw[if_neg (λe=>by subst e;simp at T)];exact⟨z,G,H,u,h'⟩
   |ret=>exact j
   |goto l=>exact j
   |panic U=>exact j
   |outgrown=>exact j
 |_=>intro σ Q ds ι a w n h;exact EZ d n h
theorem Sw(e:aL B ι σ a w):∀{l:List ResultVar}{K:tm->Prop},c4Z C σ l K->∃vs,(l.mapM (Pg a.tmps)).run C.P w=.ok vs w/\K vs
 |[],K,h=>⟨[],bu,h⟩
 |.tmp t::r,K,h=>h.elim
 |.cell t T::r,K,h=>by
  simp only[c4Z]at h;split at h
  .rename_i b off n u;obtain⟨y,f,h⟩:=h;split at h
   .rename_i c;have c:=sw c;split at h
    .rename_i v z;have⟨vs,A,D⟩:=Sw e h;have d:=e.ev (.tmp t);have E:σ.ev (.tmp t)=.at (.val (.pointer (some ⟨b,off,none⟩))):=by simp only[St.ev,n]
     rw[E]at d;have g:a.tmps.getD t undef=.pointer (some ⟨b,off,none⟩):=d;have F:=CL (w:=w) (b:=b) (off:=off) (cs:=(C.gn T).ag y) u c (GM e.g f);have G:=LD (P:=C.P) (T:=T) (ι:=ι) (ats:=((C.gn T).ag y).map .val) (cs:=(C.gn T).ag y) (by rw[kB.fk]);have j:=G.val? z;refine⟨v::vs,?_,D⟩;simp only[mapM_cons,Pg,g,asAddr,Sem.run_bind,Sem.run_pure,Result.andThen_ok,F,A,j]
    grind
   grind
  grind
theorem aHQ(d:aL B ι σ a w){fn K}(h:OX C fn K σ):
 ∃u,(results fn a.tmps).run C.P w=.ok u w/\∃r m' h',K r m' h'/\GD w r u/\AV B m' h' w/\∀b,jC r u=some b->(B.w0.heap.size<=b\/B.E b)/\m' b=none/\∀i,h' b i=none:=by
 unfold OX at h;split at h
 .exact Jk d h
 .have⟨c,f,g⟩:=Sw d h
  have n:(results fn a.tmps).run C.P w=.ok (if h:c.toArray.size=1 then c.toArray[0]else .tuple c.toArray) w:=by
   rw[Sv,Array.mapM_eq_mapM_toList];simp[f]
  split at g
  .rename_i v;exact⟨v,da,.val v,σ.m,σ.h,g,rfl,d.g,λb j=>by simp[jC]at j⟩
  .rename_i t
   have y:c.length≠1:=λe=>by
    match c,e with
    |[v],_=>grind
   exact⟨.tuple c.toArray,da,.dg (c.map .val),σ.m,σ.h,g,⟨c.toArray,rfl,bu⟩,d.g,λb j=>by simp[jC]at j⟩
theorem QH{F:Fence}{n:Nat}{R:Ending->World->Prop}{fn:Func}{Kc:tt}(g:OX C fn Kc σ)
 (y:∀u w',(∃r m' h',Kc r m' h'/\GD w' r u/\AV B m' h' w'/\∀b,jC r u=some b->(B.w0.heap.size<=b\/B.E b)/\m' b=none/\∀i,h' b i=none)->R (.returned u) w'):
 ∀(ds:tw)(a:Act)(w:World),MM B ds ι σ a w->LeavesInM F n C.P fn a.tmps R (ds.map Ey) .returning w
 |[],a,w,f=>by
  have⟨u,A,r,m',h',G,t,d,H⟩:=aHQ f.mod g;refine⟨u,A,y u w ⟨r,m',h',G,t,⟨d.tape,d.os,d.output,d.drawn,d.size,d.frame,d.F,d.t,d.z,d.iz,d.hold,d.gc⟩,H⟩⟩
 |D::ds,a,w,f=>by
  have z:=f.mark D (mem_cons_self ..);refine⟨bu,.inl ⟨D,_,rfl,run_takeDeferred z,QH g y ds {a with defers:=ds.map Ey} _ ?_⟩⟩;have I:w.grownBy (w.putObj D (.deferred none)) (some D):=grownBy_putObj' w D _
  have c:=f.mod.dr I (Nat.le_refl _) (λr e=>by
   cases e;exact⟨f.size D (mem_cons_self ..),f.ja D (mem_cons_self ..),_,z,rfl⟩)
  have j:=nodup_cons.1 f.fp;refine⟨⟨c.dq,?_,c.own,c.eh,c.f,⟨c.g.tape,c.g.os,c.g.output,c.g.drawn,c.g.size,c.g.frame,c.g.F,c.g.t,c.g.z,c.g.iz,c.g.hold,c.g.gc⟩,c.one⟩,λD' h=>f.size D' (mem_cons_of_mem _ h),λD' h=>f.ja D' (mem_cons_of_mem _ h),λD' h=>?_,j.2⟩
  .rfl
  .rw[World.putObj_heap_other (fun(e:D'=D)=>j.1 da)];exact f.mark D' (mem_cons_of_mem _ h)
theorem Vb{P f fn c}(I:P.funcs[f]?=some fn)(J:fn.body=some c)(t:(fn.name== "runtime.NumGoroutine")=false){S}(F:∀d m h K,S d m h K->∃C:bk,C.P=P/\(∀g S,cg C.cq g=some S->af P g S)/\btX C fn c (entry fn.ntmps d m h) K):af P f S:=by
 refine⟨⟨fn,I,by rw[J];rfl,t⟩,?_⟩;intro d y m h w K M O;obtain⟨C,rfl,j,Q⟩:=F d m h K M;refine callsIn_wide.1 (callsIn_of_wp_marks (n:=0) I J trivial (wpIn_wide.2 ?_))
 have G:MM ⟨w,xL m d y,h,[]⟩ [] (QK fn.ntmps d y) (entry fn.ntmps d m h) {tmps:=y.toArray++Array.replicate (fn.ntmps-y.toArray.size) undef,defers:=[]} w:=
  ⟨HU fn.ntmps O,λ_ D=>(not_mem_nil D).elim,λ_ D=>(not_mem_nil D).elim,λ_ D=>(not_mem_nil D).elim,nodup_nil⟩
 refine wp_mono (bLZ j c _ _ _ _ _ w G Q) ?_;intro e E z A
 have key:(∃H ι σ,MM ⟨w,xL m d y,h,[]⟩ H ι σ E z/\OX C fn K σ)->LeavesInM Fence.wide 0 C.P fn E.tmps (λe z=>∃r u m' h',e=.returned u/\K r m' h'/\GD z r u/\AV ⟨w,xL m d y,h,[]⟩ m' h' z/\
  (∀b,jC r u=some b->(w.heap.size<=b\/xL m d y b)/\m' b=none/\∀i,h' b i=none)) E.defers .returning z:=by
  rintro⟨H,ι,σ,L,R⟩;rw[L.mod.defers];exact QH R (λu T⟨r,m',h',U,V,W,X⟩=>⟨r,u,m',h',rfl,U,V,W,X⟩) H E z L
 cases e with
 |normal=>exact key A
 |ret=>exact key A
 |exit id=>obtain⟨_,_,_,_,h⟩:=A;exact h.elim
 |goto l=>exact A.elim
 |panic Y=>exact A.elim
 |outgrown=>exact A.elim
theorem aMJ{P f fn c}(j:P.funcs[f]?=some fn)(n:fn.body=some c)(e:(fn.name== "runtime.NumGoroutine")=false){S}(t:∀d m h K,S d m h K->∃C:bk,C.P=P/\(∀g S,cg C.cq g=some S->af P g S)/\btX C fn c (entry fn.ntmps d m h) (dR h K)):af P f S:=
 .qd (Vb j n e (S:=λd m h K=>∃K',S d m h K'/\K=dR h K') (by
  grind))
end
end Go.Vc
namespace Go.Ps
open Go Go.Vc Go.Proofs List Tryz
variable{K:tt}{m:MH}{h:PH}{s:kD}{ps:ti}{v:QV}{q:ae}{p:ao}{l:ti}{i N:Nat}{m':MH}{h':PH}{co gr:ti}{od:tp}{w:ao}{ta li:Int}{xs:List tm}{sz:Nat}{ks:List ti}{rs:ti}{r:Sl}{a:ti}{b:Nat}
def Us(b:Nat):Value:=.func (.func 174) #[] #[.pointer (some ⟨b,0,none⟩)]
structure K3(h:PH)(b:Nat)(us:tq):Prop where
 ex:∃s:Sl,bJ h b 0 [s.val]/\bT h s 1 (us.map eS)/\us.length<=502633886983
theorem K3.mono{us}(x:K3 h b us)(le:PH.le h h'):K3 h' b us:=by
 have⟨s,c,d,e⟩:=x.ex;exact⟨s,c.mono le,d.mono le,e⟩
def B0:PH->tm->List tm->Prop:=λh c xs=>∃b d,c=[.pointer (some ⟨b,0,none⟩)]/\K3 h b d/\xs=d.map eS
def Ym cq gd iu ff:={tH cq gd iu [] ff [] false with qz:=[75]}
def Xf:AC:=λc m h K=>∃s,c=[cS s]/\∀b h',PH.le h h'->bJ h' b 0 [s.val]->K (.val (Us b)) m h'
def YX:AC:=λc m h K=>∃s b d f,c=[cS s,.val (Us b)]/\cH m s 75 1 (d.map eS)/\K3 h b f/\d.length<=502633886983/\
 ∀e m',cH m' e 75 1 ((d++f).map eS)->(∀x o,m x=some o->(∀i,s.a≠some ⟨x,i,none⟩)->m' x=some o)->(∀x i,e.a=some ⟨x,i,none⟩->m x=none\/∃i,s.a=some ⟨x,i,none⟩)->K (cS e) m' h
def aEQ:AC:=λc m h K=>∃b e,c=[.val (Us b)]/\K3 h b e/\
 ∀d m',cH m' d 75 1 (e.map eS)->(∀x o,m x=some o->m' x=some o)->(∀x i,d.a=some ⟨x,i,none⟩->m x=none)->K (cS d) m' h
def cAX b l s:=
 {dD [] [(1,{A:=Nat×MH×PH,st:=λ⟨i,m,h⟩=>bO 16 18 ([(0,vv (.func (.yield l) #[] #[])),(1,vv (.pointer (some ⟨b,0,none⟩)))]++WF 5 s i) [] m h})] [] [] false with yield:=some (cQX Tryz.prog)}
abbrev w7 a:=vB 174 (D7 a)
abbrev DT(a:(Nat×MH×PH->Prop)->(Nat×MH×PH)->Prop)(b:(Nat×MH×PH->Prop)->(Nat×MH×PH->Nat)->(Nat×MH×PH)->Prop):=∃x d,(∃c,a x c)/\∀c,b x d c
abbrev fK(a:MH)(b:Nat×MH×PH):=fX a b.2
abbrev cA(a:Nat×MH×PH):=a.2.1
abbrev bW(a:Nat×MH×PH):=a.2.2
abbrev NL(a:Nat->tm->Prop):=∃x c,a x c
abbrev FG(a:tq)(b:Nat)(c:Sl):=a[b]?=some c
abbrev Aa(a:PH->tm->List tm->Prop)(b:Nat->Nat->Option Value)(c:Nat)(d:MH)(e:(Nat->MH->PH->Prop)->Nat->Sl->MH->PH->Prop)(g:MH->PH->Prop):=∃x n,LU Tryz.prog 174 a/\a b [py c 0] (List.map (λf=>aT f) x)/\n 0 d b/\(∀f j,iK (λu t=>FG x f j->PH.le b t->e n f j u t))/\iK (λf j=>cO b j (n x.length f j) (g f j))
abbrev Iz(a:MH)(b:PH)(c d:Nat)(e:Sl)(g:(List tm)->Prop):=aK a b c d (aT e)/\∃x,g x
abbrev SN(a:Nat->tq->Prop):=∃x c,a x c
attribute [push_cast] w7 DT fK cA bW NL FG Aa Iz SN
def PO(s:Sl):ST:=λm h K=>∀b c,eT m h b->cF m c b (aT s) 95->K (w7 b) c h
def V9 b l s:=λm h K=>lI m h b 0 (λy=>DT (λI x=>I x/\HE l/\cK b/\bC y s/\cT y s/\bB x.1/\fK m x/\dH h x.2/\True) (λI f x=>I x->aX x.1 (aF s) (ab s x.1 1 aT (cA x) (bW x) (λj=>RU (cQX Tryz.prog)/\NL (λn v=>∃R,nN (FB l) (tV j)=FB n::List.map .val v/\YDo Tryz.prog n v (cA x) (bW x) R/\∀u,iK (λd e=>R u d e->cC u (BP K d e) (∃c,I c/\f c<f x/\HE l/\cK b/\aH s/\aY s/\fI (bA x.1 1)=bR c.1/\fK d c/\fQ e c.2))))) (BP K (cA x) (bW x))))
def VS(s:Sl)(b:Nat):ST:=λm h K=>∀f n,eT m h f->cF m n f (aT s) 95->∃S,Aa S h b n (λI k e d g=>I k d g->∃y,Iz d g f 0 y (λx=>cH d (bK y) 75 1 x/\cJ (fS x 1*24)/\fA x/\fY (λt j=>cL d j (bK y) t 75 1 (iI x e)->aj j f (fW t) (λu=>I (dG k) u g)))) (λd g=>lI d g f 0 (λy=>K (tV y) d g))
def b5Q(b:Nat):ST:=λm h K=>∃s,SN (λd u=>∃v,nN EO (w7 b)=j8 s (w7 d)/\cH m s 75 1 (lX u)/\K3 h d v/\RR u/\∀e,MD e 1 (u++v) (λc x o=>m x=some o->(∀i,jP (aR s.a x i))->c x=some o) (λx=>Hx m x\/∃i,aR s.a x i) (λc=>K (tV e) c h))
def vQ(h:PH)(b:Nat)(l:tm):=λc i=>if c=b then l[i]? else h c i
theorem FN{l}(c:∀i,h b i=none):PH.le h (vQ h b l):=⟨λd i v e=>by
 grind[vQ]⟩
theorem bsQ{l}:bJ (vQ h b l) b 0 l:=⟨λi v e=>by simp_all[vQ,Nat.zero_add]⟩
theorem Uy{f fn}(n:Tryz.prog.funcs[f]?=some fn){S}(j:∀c m h K,S c m h K->∃C:bk,C.P=Tryz.prog/\(∀g S,cg C.cq g=some S->uz g S)/\∃N:Prop,N=xS C fn (cZ fn) (entry fn.ntmps c m h) (dR h K)/\N)(t:fn.body=some (cZ fn):=by rfl)(d:(fn.name== "runtime.NumGoroutine")=false:=by decide):uz f S:=bSQ n t d λc m h K u=>let⟨C,hC,hs,N,e,hn⟩:=j c m h K u;⟨C,hC,hs,e▸hn⟩
theorem a8Q:uz 152 Xf:=by
 refine Uy func152 ?_;rintro j m h K⟨s,rfl,n⟩;refine⟨WP [],rfl,aG,PO s m h (dR h K),bt,?_⟩;show PO s m h (dR h K);dsimp only[PO,push_cast];intro b m' c g u
 have sub:∀f o,m f=some o->m' f=some o:=λf o d=>by
  rw[g.ai f (λe=>by rw[e,c.m_]at d;cases d)];exact d
 refine⟨m,vQ h b [s.val],sub,FN c.h_,λf i v e=>?_,n b _ (FN c.h_) bsQ⟩;by_cases t:f=b
 .subst t;simp only[vQ,if_true]at e;exact .inr ⟨_,_,_,g.y,by grind[Sl.val],c.m_⟩
 simp_all[vQ]
theorem a2Z:uz 174 (cWZ Tryz.prog B0):=by
 refine gV func174 ?_;rintro I m h K⟨l,A,xs,J,rfl,⟨b,j,rfl,d,rfl⟩,L,c,f⟩;have⟨s,M,D,U⟩:=d.ex;refine⟨cAX b l s,rfl,aG,V9 b l s,bt,?_⟩;dsimp only[V9,push_cast];have g:=D.len;simp only[length_map]at g;refine⟨s,.ay M,λx=>x.1<=j.length/\PH.le h x.2.2/\J x.1 x.2.1 x.2.2,λx=>j.length-x.1,⟨(0,m,h),⟨bu,.refl _,L⟩,MT⟩,?_⟩;rintro⟨i,E,F⟩⟨O,le,G⟩;dsimp only at O le G⊢
 refine aE (λn=>?_) (λP=>f _ E F le da);obtain⟨u,H⟩:∃u,j[i]?=some u:=⟨_,sh aC⟩
 have⟨Q,R,S,T⟩:=D.get (i:=i) (e:=eS u) (by simp[H]);refine⟨Q,R,S,aC,n,u,.ay (T.mono le),Sa _,l,_,_,rfl,c i (eS u) E F (by simp[H]) le G,?_⟩;rintro t m' h'⟨rfl,y,z⟩;exact⟨(i+1,m',h'),⟨aC,le.trans y,z⟩,aC,MT⟩
theorem BA:LU Tryz.prog 174 B0:=⟨a2Z⟩
theorem d1X{f fn}(n:Tryz.prog.funcs[f]?=some fn){S}(j:∀c m h K,S c m h K->∃C:bk,C.P=Tryz.prog/\(∀g S,cg C.cq g=some S->uz g S)/\∃N:Prop,N=btX C fn (cZ fn) (entry fn.ntmps c m h) K/\N)(t:fn.body=some (cZ fn):=by rfl)(d:(fn.name== "runtime.NumGoroutine")=false:=by decide):uz f S:=Vb n t d λc m h K u=>let⟨C,hC,hs,N,e,hn⟩:=j c m h K u;⟨C,hC,hs,e▸hn⟩
theorem Tw:uz 205 YX:=by
 refine d1X func205 ?_;rintro Q m h K⟨s,b,J,A,rfl,hr,O,hl,R⟩;refine⟨Ym [] [] [] [200002,1095],rfl,aG,VS s b m h K,bt,?_⟩;dsimp only[VS,push_cast];intro t S L P;have T:A.length<=502633886983:=by have⟨_,_,_,E⟩:=O.ex;exact E
 have sub:∀x o,m x=some o->S x=some o/\x≠t:=λx o c=>by
  have:x≠t:=λe=>by rw[e,L.m_]at c;cases c
  exact⟨by rw[P.ai x this];exact c,this⟩
 have M:∀i,s.a≠some ⟨t,i,none⟩:=λi e=>by
  grind[cH.cj]
 refine⟨B0,A,λk D c=>c=h/\∃f,D t=some (.cells #[.slice f.a f.len f.cap] 95 (0,0))/\cH D f 75 1 ((J++A.take k).map eS)/\(∀i,f.a≠some ⟨t,i,none⟩)/\(∀x o,m x=some o->(∀i,s.a≠some ⟨x,i,none⟩)->D x=some o/\∀i,f.a≠some ⟨x,i,none⟩)/\(∀x i,f.a=some ⟨x,i,none⟩->m x=none\/∃i,s.a=some ⟨x,i,none⟩),
  BA,⟨b,A,rfl,O,rfl⟩,⟨rfl,s,P.y,?_,M,λx o c F=>⟨(sub x o c).1,F⟩,λx i e=>.inr ⟨i,e⟩⟩,?_,?_⟩
 .grind[cH.br,cH.cj]
 .rintro k e D c U-⟨rfl,f,n,d,G,g,H⟩
  have V:=(sg U);refine⟨f,.i n rfl,_,d,cv,cv,λW m2 u=>⟨_,_,⟨u.ai t _ n G⟩,bu,λm3 y=>⟨rfl,W,y.y,?_,?_,?_,?_⟩⟩⟩
  .have X:(J++A.take (k+1)).map eS=(J++A.take k).map eS++[eS e]:=by
    grind[sy]
   rw[X];refine cH.br u.row (λx i z=>y.ai x (λY=>?_));subst Y;rcases u.f x i z with I|⟨j,I⟩
   .grind
   grind
  .intro i z;rcases u.f t i z with I|⟨j,I⟩
   .grind
   grind
  .intro x o c F;have⟨I,Z⟩:=g x o c F;refine⟨by rw[y.ai x (sub x o c).2];exact u.ai x o I Z,λi z=>?_⟩;rcases u.f x i z with E|⟨j,E⟩
   .grind
   grind
  .intro x i z;rcases u.f x i z with E|⟨j,E⟩
   .cases e4:m x with
    |none=>grind
    |some o=>
     grind
   grind
 .rintro D c-⟨rfl,f,n,d,G,g,H⟩
  rw[take_length]at d;exact⟨f,.i n rfl,R f D d (λx o c F=>(g x o c F).1) H⟩
theorem aXX:uz 206 aEQ:=by
 refine gV func206 ?_;rintro c m h K⟨b,d,rfl,f,g⟩;refine⟨WP [(205,YX)],rfl,aD Tw aG,b5Q b,bt,?_⟩;exact⟨⟨none,0,0⟩,b,[],d,rfl,⟨qS [],.inl ⟨rfl,rfl⟩⟩,f,bu,λn m' t u y=>g n m' t (λx o z=>u x o z (λi e=>by cases e)) (λx i e=>(y x i e).elim id λ⟨j,e⟩=>by cases e)⟩
structure rv(v:VV):Prop where
 kind:KJ v.kind
 int:KJ v.int
 text:v.text.size<=64
structure YZ(r:to):Prop where
 len:r.length<=12
 val:∀v∈r,rv v
def Ia(v:VV):=sR v.kind++58::(sR v.int++58::(sR (v.text.size:Int)++58::v.text.data.toList))
def Ig(r:to):=r.flatMap Ia
def gA(r:to):ByteArray:=⟨(Ig r).toArray⟩
def pick(r:to)(ak:ti):=ak.map λc=>r.getD c.toNat al
structure jY(n:Nat)(ak:ti):Prop where
 y:∀c∈ak,0<=c/\c<n
 len:ak.length<=100000
def c0J:AC:=λc m h K=>∃xs v,c=[.au 5 1 xs,aV v]/\kN m/\v.text.size<=64/\xs.length+300<=140737488355328/\K (.au 5 1 (xs++dE (Ia v))) m h
def cWQ:AC:=λd m h K=>∃s t r c,d=[cS s,cS t]/\bF h s r/\an h t c/\YZ r/\jY r.length c/\kN m/\K (Yr (gA (pick r c))) m h
def bHQ:AC:=λc m h K=>∃s r,c=[cS s]/\bF h s r/\YZ r/\kN m/\K (Yr (gA r)) m h
def jI(on:tu):=on.map Prod.fst
def jF(on:tu):=on.map Prod.snd
def blX:AC:=λc m h K=>∃s on,c=[cS s]/\l9 h s on/\∀a b h',PH.le h h'->an h' a (jI on)->an h' b (jF on)->K (.dg [cS a,cS b]) m h'
def aFX:AC:=λd m h K=>∃s t r c,d=[cS s,cS t]/\bF h s r/\an h t c/\jY r.length c/\K (cB ((pick r c).all kF)) m h
def cXQ:AC:=λc m h K=>∃n:Nat,c=[.val (.slice none 0 0),cI n]/\n<=1000/\K (.au 58 3 []) m h
def aDJ:AC:=λc m h K=>∃d rs,c=[cS d]/\Rows h d rs/\rs.length<=10/\(∀r∈rs,r.length<=12)/\∀e h',PH.le h h'->bF h' e rs.flatten->K (cS e) m h'
def ctQ:=tH [(240,bKJ)] [] [] [] [] [(240,[0])] true
def cvZ s t m h:=
 tH [(224,c0J)] [(3,{A:=Nat×ug,st:=λ⟨i,l⟩=>bO 23 25 ([(0,sv s),(5,.at (.au 19))]++WF 8 t i) [(19,.au 5 1 (dE l))] m h})] [] [] [] [(224,[0])] false
def csJ s m h:=
 tH [(224,c0J)] [(3,{A:=Nat×ug,st:=λ⟨i,l⟩=>bO 18 19 ([(3,.at (.au 14))]++WF 6 s i) [(14,.au 5 1 (dE l))] m h})] [] [] [] [(224,[0])] false
def cwQ s m h:=
 dD [] [(2,{A:=Nat×ti×ti,st:=λ⟨i,l,k⟩=>bO 25 26 ([(2,.at (.au 16)),(3,.at (.au 21))]++WF 6 s i) [(16,.au 3 1 (l.map eI)),(21,.au 3 1 (k.map eI))] m h})] [] [] false
def cvJ s t m h:=
 dD [(71,K5)] [(2,{A:=Nat,st:=λi=>bO 20 22 ([(0,sv s)]++WF 7 t i) [] m h})] [] [] false
def cvX c m h:=
 dD [(225,cXQ)] [(3,{A:=Nat×Nat,st:=λ⟨i,n⟩=>bO 36 37 ([(0,sv c),(3,iv n)]++WF 9 c i) [] m h}),
  (11,{A:=Nat×to,st:=λ⟨i,l⟩=>bO 36 37 ([(6,.at (.au 24))]++WF 25 c i) [(24,.au 58 3 (l.map VV.ag))] m h})] [] [] false
abbrev JC a b:=hZ (BS a (sR b)) [C5 58]
abbrev DL(a:Nat×ug):=dE a.2
abbrev vF a:=List.map VV.ag a
abbrev Hz a b:=cE 58 3 a=cE 58 3 b
attribute [push_cast] JC DL vF Hz
def VI(xs:List tm)(v:VV):ST:=λm h K=>∃x i,Dq xs v.kind=Dq x i/\kN m/\cJ (fS x 40)/\cJ (fS (BS x (sR i)) 1*1)/\tG (fA (BS x (sR i))) (λe=>∃f,Dq (JC x i) v.int=Dq e f/\kN m/\cJ (fS e 40)/\cJ (fS (BS e (sR f)) 1*1)/\tG (fA (BS e (sR f))) (λc=>∃d,Dq (JC e f) v.text.size=Dq c d/\kN m/\cJ (fS c 40)/\cJ (fS (BS c (sR d)) 1*1)/\fA (BS c (sR d))/\lK (JC c d) (mV v.text) 1/\cJ (lL (JC c d) (mV v.text))/\K (CV.au 5 1 (JC c d++mV v.text)) m h))
def VU(s t:Sl):ST:=λm h K=>∃(I:Nat×ug->Prop)(e:Nat×ug->Nat),(∃x,I x/\aH s/\eL 19/\aH t/\aY t/\bB x.1/\wL 5 1 (DL x)/\m=m/\dC h h)/\∀x,I x->aX x.1 (aF t) (ab t x.1 1 bV m h (λy=>ab s y 3 VV.ag m h (λj=>∃d v,bL (CV.au 5 1 (DL x)) j.ag=bL (CV.au 5 1 d) v.ag/\kN m/\v.text.size<=64/\cJ (fS d 300)/\∃c,I c/\e c<e x/\aH s/\eL 19/\aH t/\aY t/\fI (bA x.1 1)=bR c.1/\cE 5 1 (BS d (Ia v))=cE
 5 1 (DL c)/\gM m m h h))) (∃b,DL x=dE b/\K (iR (ByteArray.mk (.mk b))) m h)
def VH(s:Sl):ST:=λm h K=>∃(I:Nat×ug->Prop)(e:Nat×ug->Nat),(∃x,I x/\eL 14/\aH s/\aY s/\bB x.1/\wL 5 1 (DL x)/\m=m/\h=h/\True)/\∀x,I x->aX x.1 (aF s) (ab s x.1 3 VV.ag m h (λy=>∃d v,bL (CV.au 5 1 (DL x)) y.ag=bL (CV.au 5 1 d) v.ag/\kN m/\v.text.size<=64/\cJ (fS d 300)/\∃c,I c/\e c<e x/\eL 14/\aH s/\aY s/\fI (bA x.1 1)=bR c.1/\cE 5 1 (BS d (Ia v))=cE 5 1 (DL c)/\m=m/\dC h h)) (∃b,DL x=dE b/\K (iR (ByteArray.mk (.mk b))) m h)
def VX(s:Sl):ST:=λm h K=>∃(I:Nat×ti×ti->Prop)(d:Nat×ti×ti->Nat),(∃x,I x/\eL 16/\eL 21/\aH s/\aY s/\bB x.1/\wX x.2.1/\wX x.2.2/\gM m m h h)/\∀x,I x->aX x.1 (aF s) (ab s x.1 2 Bk m h (λy=>dK 0/\(0:Int)<2/\cJ (fS (gE x.2.1) 1*8)/\fA (gE x.2.1)/\dK 1/\(1:Int)<2/\cJ (fS (gE x.2.2) 1*8)/\fA (gE x.2.2)/\∃c,I c/\d c<d x/\eL 16/\eL 21/\aH s/\aY s/\fI (bA x.1 1)=bR c.1/\yM x.2.1 y.1 c.2.1/\bX (yM x.2.2 y.2 c.2.2) m m h h))
 (bN h 1 (gE x.2.1) (λe f=>bN f 1 (gE x.2.2) (λg j=>K (CV.dg (fG e g)) m j)))
def VW(s t:Sl):ST:=λm h K=>mF (λI x=>I x/\aH s/\aH t/\aY t/\bX (bB x) m m h h) (λI d x=>I x->aX x (aF t) (ab t x 1 bV m h (λy=>ab s y 3 VV.ag m h (λg=>∃v,eO (iE g) (iE v)/\cC (kF v) (K bH m h) (∃c,I c/\d c<d x/\aH s/\aH t/\aY t/\fI (bA x 1)=bR c/\m=m/\h=h/\True)))) (K eE m h))
def Pv(n:Nat):ST:=λm h K=>eH (jQ n (jQ 0 0)) 0 (dK 0/\dK 0/\0<jQ n 0/\NG (jQ n 0*32)/\NG (jQ n 0)/\(0:Int)<=0/\dK (nV (DX (jQ n 0) Bl))/\K (CV.au 58 3 []) m h) (K (CV.au 58 3 []) m h)
def VT(d:Sl):ST:=λm h K=>Nq (λI x=>I x/\aH d/\bB x.2/\aH d/\aY d/\bB x.1/\m=m/\h=h/\True) (λI g x=>I x->aX x.1 (aF d) (ab d x.1 1 aT m h (λy=>aX (bA x.2 (aF y)) 0 False (∃c,I c/\g c<g x/\aH d/\fI (bA x.2 (aF y))=bR c.2/\aH d/\aY d/\fI (bA x.1 1)=bR c.1/\m=m/\dC h h))) (∃n:Nat,dZ EO x.2=dZ EO n/\qL n/\∃(I1:Nat×to->Prop)(j:Nat×to->Nat),(∃c,I1 c/\eL 24/\aH d/\aY d/\bB c.1/\wL 58 3 (vF c.2)/\m=m/\h=h/\True)/\∀c,I1 c->aX (↑c.1
 :Int) (aF d) (ab d c.1 1 aT m h (λy=>∃e,dA 3 e/\bT h (bK y) 3 e/\lK (vF c.2) e 32/\cJ (lL (vF c.2) e)/\∃f,I1 f/\j f<j c/\eL 24/\aH d/\aY d/\fI (bA c.1 1)=bR f.1/\Hz (vF c.2++e) (vF f.2)/\m=m/\dC h h)) (bN h 3 (vF c.2) (λs t=>K (tV s) m t))))
theorem Ox a b:dE a++dE b=dE (a++b):=by simp[dE]
theorem cbZ{v}(h:v.text.size<=64):(Ia v).length<=130:=by
 have c:=Eh v.kind;have d:=Eh v.int;have e:=Eh (v.text.size:Int);have f:v.text.data.toList.length=v.text.size:=Array.length_toList
 grind[Ia,sj,te]
theorem Tq:uz 224 c0J:=by
 refine gV func224 ?_;rintro d m h K⟨xs,v,rfl,c,j,n,t⟩;refine⟨ctQ,rfl,aD aQJ aG,VI xs v,bt,?_⟩;dsimp only[VI,push_cast];have u:=Eh v.kind;have y:=Eh v.int;have z:=Eh (v.text.size:Int);have A:v.text.data.toList.length=v.text.size:=Array.length_toList;have f:∀l:ug,(dE l).length=l.length:=λl=>by simp[dE]
 have g:mV v.text=dE v.text.data.toList:=rfl;refine⟨_,_,rfl,c,aC,?_,?_,_,_,rfl,c,?_,?_,?_,_,_,rfl,c,?_,?_,?_,?_,?_,?_⟩
 all_goals (try (simp only[sj,f,g,te,length_nil];omega))
 have e:xs++dE (Ia v)=xs++dE (sR v.kind)++[[Value.int IntKind.u8 58]]++dE (sR v.int)++[[Value.int IntKind.u8 58]]++dE (sR (v.text.size:Int))++[[Value.int IntKind.u8 58]]++mV v.text:=by
  grind[Ia,dE,sn,append_assoc]
 grind
theorem ZU{r}(h:∀v∈r,v.text.size<=64):(Ig r).length<=130*r.length:=by
 induction r with
 |nil=>simp[Ig]
 |cons v l c=>
  grind[Ig,cbZ,mem_cons_self,mem_cons_of_mem,sj,te]
theorem U3{r:to}{v}(c:r[i]?=some v):Ig (r.take (i+1))=Ig (r.take i)++Ia v:=by
 grind[Ig,sy]
theorem ZF{r ak}(e:jY r.length ak){v}(f:v∈pick r ak):v∈r:=by
 obtain⟨c,d,rfl⟩:=mem_map.1 f;have:=e.y c d
 grind
theorem XO{r ak}{i:Nat}{c}(d:jY r.length ak)(e:ak[i]?=some c):∃v,r[c.toNat]?=some v/\(pick r ak)[i]?=some v/\0<=c/\c<r.length:=by
 have:=d.y c (si e);simp_all[pick]
theorem HQ:uz 203 cWQ:=by
 refine gV func203 ?_;rintro I m h K⟨s,t,r,d,rfl,F,G,J,y,L,M⟩;refine⟨cvZ s t m h,rfl,aD Tq aG,VU s t,bt,?_⟩;dsimp only[VU,push_cast];have O:=aU.e F;have z:=G.e;have P:=y.len;have Q:(pick r d).length=d.length:=by simp[pick]
 have g:∀v∈pick r d,v.text.size<=64:=λv R=>(J.val v (ZF y R)).text;refine⟨λx=>x.1<=d.length/\x.2=Ig ((pick r d).take x.1),λx=>d.length-x.1,⟨(0,[]),⟨bu,by simp[Ig]⟩,MT⟩,?_⟩;rintro⟨i,l⟩⟨S,H⟩;dsimp only at S H;subst H;refine aE (λf=>?_) (λA=>?_)
 .dsimp only at f;have⟨c,j⟩:=eF z f;have⟨b,o,e,rd⟩:=G.at j;have⟨v,D,n,T,Y⟩:=XO y j;obtain⟨U,V,w,W,E,rfl⟩:=aU.at F D;have Z:=ZU (r:=(pick r d).take i) (λu X=>g u (mem_of_mem_take X));refine⟨b,o,e,aC,f,c,.ay da,U,V,W,T,aC,v,.ay E,_,v,rfl,L,g v (si n),?_,(i+1,Ig ((pick r d).take (i+1))),⟨aC,rfl⟩,da,?_⟩
  .grind[dE,Ig,pick]
  .dsimp only;rw[U3 n,Ox];exact MT
 .dsimp only at A⊢
  rw[sm aC];exact⟨_,rfl,M⟩
theorem aTJ:uz 226 bHQ:=by
 refine gV func226 ?_;rintro y m h K⟨s,r,rfl,n,d,z,A⟩;refine⟨csJ s m h,rfl,aD Tq aG,VH s,bt,?_⟩;dsimp only[VH,push_cast];have e:=aU.e n;have D:=d.len;refine⟨λx=>x.1<=r.length/\x.2=Ig (r.take x.1),λx=>r.length-x.1,⟨(0,[]),⟨bu,by simp[Ig]⟩,MT⟩,?_⟩;rintro⟨i,l⟩⟨E,t⟩;dsimp only at E t;subst t;refine aE (λc=>?_) (λf=>?_)
 .dsimp only at c;have⟨v,g⟩:=eF e c;obtain⟨F,G,w,H,j,rfl⟩:=aU.at n g;have J:=ZU (r:=r.take i) (λu I=>(d.val u (mem_of_mem_take I)).text);refine⟨F,G,H,aC,c,v,.ay j,_,v,rfl,z,(d.val v (si g)).text,?_,(i+1,Ig (r.take (i+1))),⟨aC,rfl⟩,da,?_⟩
  .grind[dE,Ig]
  .dsimp only;rw[U3 g,Ox];exact MT
 .dsimp only at f⊢
  rw[sm aC];exact⟨_,rfl,A⟩
theorem Tx:uz 201 blX:=by
 refine gV func201 ?_;rintro z m h K⟨s,on,rfl,f,A⟩;refine⟨cwQ s m h,rfl,aG,VX s,bt,?_⟩;dsimp only[VX,push_cast];have g:=f.e;have H:=f.len;refine⟨λx=>x.1<=on.length/\x.2.1=(on.take x.1).map Prod.fst/\x.2.2=(on.take x.1).map Prod.snd,λx=>on.length-x.1,⟨(0,[],[]),⟨bu,bu,bu⟩,MT⟩,?_⟩;rintro⟨i,l,k⟩⟨D,t,u⟩;dsimp only at D t u;subst t u;refine aE (λc=>?_) (λj=>?_)
 .dsimp only at c;have⟨p,y⟩:=eF g c;have⟨b,o,e,rd⟩:=l9.at f y;refine⟨b,o,e,aC,c,p,.ay rd,aC,aC,?_,?_,aC,aC,?_,?_,(i+1,(on.take (i+1)).map Prod.fst,(on.take (i+1)).map Prod.snd),⟨aC,rfl,rfl⟩,da,?_⟩
  all_goals (try (simp only[length_map,length_take];omega))
  dsimp only;rw[sy,y,Option.toList_some,sn,sn,sn,sn];exact MT
 .dsimp only at j⊢
  rw[sm aC];intro a I n E b F d G;exact A a b F (n.trans d) ⟨E.mono d,by simp[jI];omega⟩ ⟨G,by grind[jF]⟩
theorem aXJ:uz 202 aFX:=by
 refine gV func202 ?_;rintro H m h K⟨s,t,r,d,rfl,D,E,F,n⟩;refine⟨cvJ s t m h,rfl,aD Ki aG,VW s t,bt,?_⟩;dsimp only[VW,push_cast];have I:=aU.e D;have y:=E.e;have J:=F.len;have L:(pick r d).length=d.length:=by simp[pick]
 refine⟨λi=>i<=d.length/\∀j:Nat,j<i->∀v,(pick r d)[j]?=some v->kF v=true,λi=>d.length-i,⟨0,⟨aC,λj M=>by omega⟩,MT⟩,λi⟨V,G⟩=>aE (λf=>?_) (λO=>?_)⟩
 .have⟨c,g⟩:=eF y f;have⟨b,o,e,rd⟩:=E.at g;have⟨v,z,P,Q,W⟩:=XO F g;obtain⟨R,S,w,T,A,rfl⟩:=aU.at D z;refine⟨b,o,e,aC,f,c,.ay da,R,S,T,Q,aC,v,.ay A,v,rfl,aB (λU=>?_) (λX=>⟨i+1,⟨aC,λj M u Y=>?_⟩,(show d.length-(i+1)<d.length-i by omega),MT⟩)⟩
  .have:(pick r d).all kF=false:=by
    grind
   rw[this]at n;exact n
  grind
 .have:(pick r d).all kF=true:=by
   grind[all_eq_true,getElem?_of_mem]
  rw[this]at n;exact n
theorem aUQ:uz 225 cXQ:=by
 refine gV func225 ?_;rintro c m h K⟨n,rfl,d,e⟩;refine⟨dD [] [] [] [] true,rfl,aG,Pv n,bt,?_⟩;dsimp only[Pv,push_cast]
 grind[Pv,dW,aE]
theorem L9{α}{ks:List (List α)}{k}(c:ks[i]?=some k):((ks.take (i+1)).map List.length).sum=((ks.take i).map List.length).sum+k.length:=by
 grind[sy]
theorem K9{α:Type}{ks:List (List α)}(h:∀k∈ks,k.length<=12):∀i,((ks.take i).map List.length).sum<=12*i
 |0=>bu
 |i+1=>by
  have c:=K9 h i
  grind[sy,L9]
theorem aXZ:uz 204 aDJ:=by
 refine gV func204 ?_;rintro L m h K⟨G,ks,rfl,y,V,d,M⟩;refine⟨cvX G m h,rfl,aD aUQ aG,VT G,bt,?_⟩;dsimp only[VT,push_cast];have j:=aU.e y;refine⟨λ⟨i,n⟩=>i<=ks.length/\n=((ks.take i).map List.length).sum,λ⟨i,_⟩=>ks.length-i,⟨(0,0),⟨aC,bu⟩,MT⟩,?_⟩;rintro⟨i,n⟩⟨H,rfl⟩;dsimp only;have O:=K9 d i;refine aE (λc=>?_) (λt=>?_)
 .have⟨k,f⟩:=eF j c;have⟨b,o,g,z,r,e⟩:=aU.at y f;have P:=aU.e e;have u:=d k (si f)
  have Q:IntKind.i64.wrap (((((ks.take i).map List.length).sum:Nat):Int)+(g.len:Int))=((((ks.take (i+1)).map List.length).sum:Nat):Int):=by
   grind[L9,dW]
  refine⟨b,o,z,aC,c,g,.ay r,?_⟩;rw[Q];exact aE (λI=>by omega) (λ_=>⟨(i+1,((ks.take (i+1)).map List.length).sum),⟨aC,rfl⟩,aC,MT⟩)
 .refine⟨((ks.take i).map List.length).sum,rfl,aC,?_⟩;refine⟨λ⟨i,l⟩=>i<=ks.length/\l=(ks.take i).flatten,λ⟨i,_⟩=>ks.length-i,⟨(0,[]),⟨aC,bu⟩,MT⟩,?_⟩;clear O t H;rintro⟨i,l⟩⟨H,rfl⟩;dsimp only;have R:(ks.take i).flatten.length<=12*i:=by grind[K9]
  refine aE (λc=>?_) (λt g h' A J=>M g h' A ⟨⟨ks.flatten,?_,rfl,λi x S=>⟨x,S,rfl⟩⟩,?_⟩)
  .have⟨k,f⟩:=eF j c;have⟨b,o,g,z,r,e⟩:=aU.at y f;have u:=d k (si f);have⟨D,E,T,U⟩:=e.ex
   have F:D=k:=by
    apply ext_getElem?
    grind
   subst F;refine⟨b,o,z,aC,c,g,.ay r,D.map VV.ag,A2 D,E,?_,?_,(i+1,(ks.take (i+1)).flatten),⟨aC,rfl⟩,aC,?_⟩
   .grind
   .grind
   .rw[sy,f,Option.toList_some,flatten_append,sn,flatten_cons,flatten_nil,append_nil];exact MT
  .grind
  grind
theorem Yl:∀u b,b∈Lib.decDigits u->48<=b.toNat/\b.toNat<=57:=by
 intro u
 induction u using Nat.strongRecOn with
 |_ u d=>
  intro b c;rw[Lib.decDigits]at c
  grind[UInt8.toNat_ofNat']
theorem dwJ:∀u v,Lib.decDigits u=Lib.decDigits v->u=v:=by
 intro u
 induction u using Nat.strongRecOn with
 |_ u g=>
  intro v h;have f:=congrArg List.length h;rw[Lib.decDigits_length,Lib.decDigits_length]at f
  have one:∀a b,a<10->b<10->UInt8.ofNat (48+a)=UInt8.ofNat (48+b)->a=b:=λa b j n e=>by
   have:=congrArg UInt8.toNat e
   grind[UInt8.toNat_ofNat']
  by_cases d:u<10
  .have c:v<10:=by
    apply Classical.byContradiction
    grind[Lib.nDigits_small,Lib.nDigits_big,Lib.nDigits_pos]
   rw[Lib.decDigits.eq_def u,Lib.decDigits.eq_def v,dif_pos d,dif_pos c]at h
   grind
  .have c:¬v<10:=λc=>by
    grind
   rw[Lib.decDigits.eq_def u,Lib.decDigits.eq_def v,dif_neg d,dif_neg c]at h;have t:=append_inj' h rfl
   grind
theorem UF{n}(c:0<=n)(d:n<18446744073709551616):IntKind.u64.wrap n=n:=by
 grind[IntKind.wrap_u64]
theorem bLQ{n}(c:n<0)(d: -9223372036854775808<=n):IntKind.u64.wrap (0-IntKind.u64.wrap n)= -n:=by
 grind[IntKind.wrap_u64]
theorem U5{n}(h:KJ n)(c:0<=n):sR n=Lib.decDigits n.toNat:=by
 unfold sR;rw[if_neg aC,UF c (by have:=h.2;omega)]
theorem U6{n}(h:KJ n)(c:n<0):sR n=45::Lib.decDigits (-n).toNat:=by
 unfold sR;rw[if_pos c,bLQ c h.1]
theorem U7{n}(h:KJ n){b}(c:b∈sR n):b≠58:=by
 intro e;subst e;by_cases f:0<=n
 .rw[U5 h f]at c;have:=Yl _ _ c;simp at this
 .rw[U6 h aC]at c;rcases mem_cons.1 c with d|d
  .cases d
  .have:=Yl _ _ d;simp at this
theorem bRX{m n}(d:KJ m)(f:KJ n)(h:sR m=sR n):m=n:=by
 have c:∀u r,Lib.decDigits u=45::r->False:=λu r e=>by
  have:=Yl u 45 (by rw[e];simp);simp at this
 grind[U5,dwJ,U6,List.cons.inj]
theorem Zk{α:Type}{x:α}:∀{a b r e:List α},x∉a->x∉b->a++x::r=b++x::e->a=b/\r=e
 |[],[],r,e,_,_,h=>⟨rfl,(List.cons.inj h).2⟩
 |[],c::b,r,e,_,f,h=>by
  grind
 |c::a,[],r,e,g,_,h=>by
  grind
 |c::a,d::b,r,e,g,f,h=>by
  have j:=List.cons.inj h;have⟨n,t⟩:=Zk (λm=>g (by simp[m])) (λm=>f (by simp[m])) j.2
  grind
theorem Iv{m n r d}(e:KJ m)(f:KJ n)(h:sR m++58::r=sR n++58::d):m=n/\r=d:=by
 have⟨g,j⟩:=Zk (λc=>U7 e c rfl) (λc=>U7 f c rfl) h
 grind[bRX]
theorem bhX{u v r e}(c:rv u)(d:rv v)(h:Ia u++r=Ia v++e):u=v/\r=e:=by
 simp only[Ia,append_assoc,cons_append]at h;have⟨f,h⟩:=Iv c.kind d.kind h;have⟨g,h⟩:=Iv c.int d.int h;have sz:∀w:VV,rv w->KJ (w.text.size:Int):=λw j=>⟨aC,by have:=j.text;omega⟩
 have⟨z,h⟩:=Iv (sz u c) (sz v d) h
 have n:u.text.data.toList.length=v.text.data.toList.length:=by
  have:u.text.size=v.text.size:=by omega
  simp_all
 have⟨A,y⟩:=append_inj h n;refine⟨?_,y⟩;obtain⟨k,i,t⟩:=u;obtain⟨D,E,F⟩:=v;simp only[VV.mk.injEq]at f g⊢
 refine⟨f,g,?_⟩;cases t;simp_all
theorem ZV:∀{a b:to},a.length=b.length->(∀v∈a,rv v)->(∀v∈b,rv v)->Ig a=Ig b->a=b
 |[],[],_,_,_,_=>rfl
 |x::a,y::b,c,e,f,h=>by
  simp only[Ig,flatMap_cons]at h;have⟨g,j⟩:=bhX (e x (mem_cons_self ..)) (f y (mem_cons_self ..)) h;rw[g,ZV da (λv d=>e v (mem_cons_of_mem _ d)) (λv d=>f v (mem_cons_of_mem _ d)) j]
 |[],_::_,c,_,_,_=>by simp at c
 |_::_,[],c,_,_,_=>by simp at c
theorem S8{a b}(c:a.length=b.length)(d:∀v∈a,rv v)(e:∀v∈b,rv v):gA a=gA b↔a=b:=by
 grind[gA,ByteArray.mk.injEq,ZV]
structure ccJ(κ:to->ByteArray):Prop where
 inj:∀{a b:to},a.length=b.length->(∀v∈a,rv v)->(∀v∈b,rv v)->(κ a=κ b↔a=b)
theorem S9:ccJ gA:=⟨S8⟩
def BZ(r:to)(o:OV):=if o.kind=3 then o.value else if o.kind=1/\0<=o.index/\o.index<r.length then r.getD o.index.toNat al else al
def Zb(d c:Int):=if d=1 then c==0 else if d=2 then c !=0 else if d=3 then decide (c<0)else if d=4 then decide (c<=0)else if d=5 then decide (c>0)else if d=6 then decide (c>=0)else false
def vR c a b:=kF a&&kF b&&a.kind==b.kind&&Zb c (lY a b)
mutual
def kA(r:to):ao->Bool
 |.mk op c a b args=>if op=1 then true else if op=3 then vR c (BZ r a) (BZ r b)else if op=4 then IP r args else if op=5 then IM r args else if op=6 then Tb r args else false
def IP(r:to):List ao->Bool
 |[]=>true
 |p::ps=>kA r p&&IP r ps
def IM(r:to):List ao->Bool
 |[]=>false
 |p::ps=>kA r p||IM r ps
def Tb(r:to):List ao->Bool
 |[]=>false
 |p::_=>!kA r p
end
theorem IN(r:to):∀ps,IP r ps=ps.all (kA r)
 |[]=>by simp[IP]
 |p::ps=>by simp[IP,IN r ps]
theorem IL(r:to):∀ps,IM r ps=ps.any (kA r)
 |[]=>by simp[IM]
 |p::ps=>by simp[IM,IL r ps]
def dp:AC:=λc m h K=>∃o s r,c=[aO o,cS s,EO]/\bF h s r/\K (aV (BZ r o)) m h
def Ro(p:Int->Bool):AC:=λd m h K=>∃c,d=[cI c]/\K (cB (p c)) m h
def dIQ:AC:=λc m h K=>∃op,c=[cI op]/\
 branch (op==1) (K (fv 232) m h) (branch (op==2) (K (fv 233) m h) (branch (op==3) (K (fv 234) m h) (branch (op==4) (K (fv 235) m h) (branch (op==5) (K (fv 236) m h) (branch (op==6) (K (fv 237) m h) (K (.val .nilFunc) m h))))))
def YJ(N:Nat):AC:=λc m h K=>∃v s p r,c=[aP v,cS s,EO]/\fV h p v/\bF h s r/\SizeOf.sizeOf p<N/\K (cB (kA r p)) m h
def YK:AC:=λc m h K=>∃v s p r,c=[aP v,cS s,EO]/\fV h p v/\bF h s r/\K (cB (kA r p)) m h
def cwZ(N:Nat)(v:PV)(s:Sl)(m:MH)(h:PH):=
 dD [(220,dp),(71,K5),(221,dIQ),(151,Rf),(199,YJ N),(232,Ro (λc=>c==0)),(233,Ro (λc=>c !=0)),(234,Ro (λc=>decide (c<0))),(235,Ro (λc=>decide (c<=0))),(236,Ro (λc=>decide (c>0))),(237,Ro (λc=>decide (c>=0)))] [(12,{A:=Nat,st:=λi=>bO 102 105 ([(1,sv s),(2,vv B8)]++WF 60 v.args i) [] m h}),
  (20,{A:=Nat,st:=λi=>bO 102 105 ([(1,sv s),(2,vv B8)]++WF 75 v.args i) [] m h})] [(6,{A:=VV×VV,st:=λ⟨a,b⟩=>bO 102 105 [SW 3,SW 7,SW 8] [UV 3 63 v.ag,UV 7 58 a.ag,UV 8 58 b.ag] m h})] [] false
abbrev MO(a:Int)(b:OV)(c:MH)(d:PH)(e:Nat)(g:VV->Prop):=aM (λx f=>aR none x f/\a<=b.index/\b.index<a/\∃j,aK c d x (dN f b.index e) j.ag/\g j)
abbrev vA(a:OV)(b:Sl):=bE a.ag (j8 b EO)
abbrev lR(a:to)(b:OV)(c:VV):=oQ 58 (At.val (pW (BZ a b).kind)::At.val (pW (BZ a b).int)::[At.val (.string (BZ a b).text)])=oQ 58 (List.map At.val c.ag)
abbrev Ba(a:PV)(b:Sl)(c:PH)(d:VV×VV->Prop)(e:(VV×VV)->Prop)(g:OV->to->(VV×VV)->Prop)(i:MH):=∃x,nZ (λj n=>vA a.right b=vA x j/\bF c j n/\∃f,d f/\cR/\eP 7/\eC/\kZ a/\e f/\g x n f/\i=i/\dC c c)
abbrev G4(a:VV×VV)(b:Int->Prop):=∃x c,bL (iE a.1) a.2.ag=bL (iE x) c.ag/\∃d,iJ (lY x c) d/\b d
abbrev sG(a:PV)(b:Sl):=bE a.ag (j8 b EO)
attribute [push_cast] MO vA lR Ba G4 sG
def VJ(o:OV)(s:Sl):ST:=λm h K=>dJ (o.kind==3) (K (mX o.value.ag) m h) (o.kind==2) (aX o.index 0 (K (mX Bl) m h) (iA o.index 0 (K (mX Bl) m h) (MO 0 o m h 3 (λy=>K (mX y.ag) m h)))) (dP o.kind 1 (aX o.index 0 (K (mX Bl) m h) (iA o.index (aF s) (K (mX Bl) m h) (ab s o.index 3 VV.ag m h (λy=>K (mX y.ag) m h)))) (K (mX Bl) m h))
def Pw(op:Int):ST:=λm h K=>∀b e,eT m h b->cF m e b (.nilFunc::.nilFunc::.nilFunc::.nilFunc::.nilFunc::.nilFunc::RT) 272->i6 (λc E=>yA e b (gU c E 0)/\7<=c.size/\∀d,let A:=K (.val .nilFunc) d h;cF e d b (.nilFunc::sD 232::sD 233::sD 234::sD 235::sD 236::kH (sD 237) 7 c) E->aX op 0 A (iA op 7 A (dK op/\op<7/\∃y,aK d h b (dN 0 op 1) ([cLX y])/\K (.val (cLX y)) d h)))
def b4X(c:Int):ST:=λm h K=>K (AU (c==0)) m h
def b4Q(c:Int):ST:=λm h K=>K (AU (c !=0)) m h
def b3J(c:Int):ST:=λm h K=>K (AU (decide (c<0))) m h
def b3Z(c:Int):ST:=λm h K=>K (AU (decide (c<=0))) m h
def b3X(c:Int):ST:=λm h K=>K (AU (decide (c>0))) m h
def b3Q(c:Int):ST:=λm h K=>K (AU (decide (c>=0))) m h
def VY(N:Nat)(v:PV)(s:Sl):ST:=λm h K=>let C:=λI x=>I x/\aH s/\eQ qe/\aH v.args/\tB v/\bB x/\m=m/\h=h/\True;dJ (v.op==1) (K eE m h) (v.op==3) (∃I,((∃o,nZ (λf r=>let A:=Ba v s h I (λx=>lR r o x.1) (λd e x=>lR e d x.2) m/\Ba v s h I (λx=>lR r o x.1) (λd e x=>lR e d x.2) m;vA v.left s=vA o f/\bF h f r/\(∃d,nZ (λt e=>let B:=∃x,I x/\cR/\eP 7/\eC/\kZ v/\lR r o x.1/\lR e d x.2/\m=m/\dC h h;vA v.right s=vA d t/\bF h t e/\B/\B))/\A/\A))/\((∃o,nZ (fun f r=>let D:=Ba v s h I (λx=>lR r o x.1) (λd e x=>lR e d x.2) m;vA v.left s=vA o f/\bF h f r/\D/\D))/\∃o,nZ (λf r=>vA v.left s=vA o f/\bF h f r/\Ba v s h I (λx=>lR r o x.1) (λd e x=>lR e d x.2) m))/\(∃o,nZ (λf r=>let E:=Ba v s h I (λx=>lR r o x.1) (λd e x=>lR e d x.2) m;vA v.left s=vA o f/\bF h f r/\E/\E))/\(∃o,nZ (λf r=>vA v.left s=vA o f/\bF h f r/\Ba v s h I (λx=>lR r o x.1) (λd e x=>lR e d x.2) m)))/\∀x,I x->∃g,eO (iE x.1) (iE g)/\cC (kF g) (K bH m h) (∃u,eO (iE x.2) (iE u)/\dJ (!(kF u)) (K bH m h) (x.1.kind !=x.2.kind) (K bH m h) (∃o,iJ v.dy o/\dJ (o==1) (G4 x (λc=>K (AU (c==0)) m h)) (o==2) (G4 x (λc=>K (AU (c !=0)) m h)) (dJ (o==3) (G4 x (λc=>K (AU (decide (c<0))) m h)) (o==4) (G4 x (λc=>K (AU (decide (c<=0))) m h)) (dJ (o==5) (G4 x (λc=>K (AU (decide (c>0))) m h)) (o==6) (G4 x (λc=>K (AU (decide (c>=0))) m h)) (K bH m h)))))) (dJ (v.op==4) (mF C (λI n x=>I x->aX x (aF v.args) (aM (λb o=>aR v.args.a b o/\0<=(↑x:Int)/\x<aF v.args/\∃y,aK m h b (bI o x 13) y.ag /\Du (sG y s) (λg f=>sG g f) h N (λp r=>cC (kA r p) (K bH m h) (∃j,I j/\n j<n x/\aH s/\eQ qe/\aH v.args/\tB v/\fI (bA x 1)=bR j/\m=m/\dC h h)))) (K eE m h))) (v.op==5) (mF C (λI n x=>I x->aX x (aF v.args) (ab v.args x 13 PV.ag m h (λy=>Du (sG y s) (λg f=>sG g f) h N (λp r=>branch (kA r p) (K eE m h) (∃j,I j/\n j<n x/\aH s/\eQ qe/\aH v.args/\tB v/\fI (bA x 1)=bR j/\m=m/\dC h h)))) (K bH m h))) (dP v.op 6 (eH (aF v.args) 0 (aM (λb o=>aR v.args.a b o/\(0:Int)<=0/\0<aF v.args/\∃y,aK m h b (fJ o) y.ag/\Du (sG y s) (λg f=>sG g f) h N (λp r=>K (.val (.bool (!(kA r p)))) m h))) (K bH m h)) (K bH m h)))
theorem aUJ:uz 220 dp:=by
 refine gV func220 ?_;rintro u m h K⟨o,s,r,rfl,j,c⟩;refine⟨WP [],rfl,aG,VJ o s,bt,?_⟩;dsimp only[VJ,push_cast];have y:=aU.e j;unfold BZ at c;refine aB (λd=>?_) (λd=>aB (λn=>?_) (λn=>aB (λf=>?_) (λf=>?_)))
 .rw[if_pos da]at c;exact c
 .have n:o.kind=2:=da
  rw[if_neg aC,if_neg aC]at c;exact aE (λ_=>c) (λt=>aE (λ_=>c) (λg=>absurd (show o.index>=((0:Nat):Int)by omega) g))
 .have d:o.kind≠3:=da
  have f:o.kind=1:=da
  rw[if_neg d]at c;refine aE (λt=>?_) (λt=>aE (λg=>?_) (λg=>?_))
  .rw[if_neg aC]at c;exact c
  .rw[if_neg aC]at c;exact c
  .rw[if_pos ⟨f,aC,aC⟩]at c
   have z:r[o.index.toNat]?=some (r.getD o.index.toNat al):=by
    grind
   obtain⟨b,off,v,e,rd,rfl⟩:=aU.at j z;exact⟨b,off,e,aC,aC,_,.ay rd,c⟩
 .have d:o.kind≠3:=da
  have f:o.kind≠1:=da
  rw[if_neg d,if_neg (λe=>f e.1)]at c;exact c
theorem aUZ:uz 221 dIQ:=by
 refine Lr func221 ?_;rintro t m h K⟨op,rfl,f⟩;refine⟨tH [] [] [] [] [272] [] false,rfl,aG,Pw op m h (pY h K),bt,?_⟩;show Pw op m h (pY h K);dsimp only[Pw,push_cast];intro b I n g;refine⟨_,_,⟨g.y⟩,bx,λu j=>?_⟩;have c:dh m u:=((dh.refl m).dv n.m_ g.ai).dv n.m_ j.ai;have e:=j.y
 have d:∀k,¬(1<=op/\op<=6)->op=k->K (.val .nilFunc) m h:=λk J _=>by
  have:(op==1)=false/\(op==2)=false/\(op==3)=false/\(op==4)=false/\(op==5)=false/\(op==6)=false:=by
   grind
  obtain⟨y,z,A,D,E,F⟩:=this;rw[y,z,A,D,E,F]at f;exact f
 refine aE (λG=>.sub c (d _ aC rfl)) (λG=>aE (λH=>.sub c (d _ aC rfl)) (λH=>⟨aC,aC,?_⟩));have:op=0\/op=1\/op=2\/op=3\/op=4\/op=5\/op=6:=by omega
 rcases this with rfl|rfl|rfl|rfl|rfl|rfl|rfl
 .exact⟨none,.dx _ _ _ e rfl,.sub c (d 0 aC rfl)⟩
 .exact⟨some 232,.dx _ _ _ e rfl,.sub c f⟩
 .exact⟨some 233,.dx _ _ _ e rfl,.sub c f⟩
 .exact⟨some 234,.dx _ _ _ e rfl,.sub c f⟩
 .exact⟨some 235,.dx _ _ _ e rfl,.sub c f⟩
 .exact⟨some 236,.dx _ _ _ e rfl,.sub c f⟩
 .exact⟨some 237,.dx _ _ _ e rfl,.sub c f⟩
theorem aSX:uz 232 (Ro (λc=>c==0)):=by
 refine gV func232 ?_;rintro d m h K⟨c,rfl,e⟩;refine⟨WP [],rfl,aG,b4X c,bt,?_⟩;exact e
theorem aSQ:uz 233 (Ro (λc=>c !=0)):=by
 refine gV func233 ?_;rintro d m h K⟨c,rfl,e⟩;refine⟨WP [],rfl,aG,b4Q c,bt,?_⟩;exact e
theorem aRJ:uz 234 (Ro (λc=>decide (c<0))):=by
 refine gV func234 ?_;rintro d m h K⟨c,rfl,e⟩;refine⟨WP [],rfl,aG,b3J c,bt,?_⟩;exact e
theorem aRZ:uz 235 (Ro (λc=>decide (c<=0))):=by
 refine gV func235 ?_;rintro d m h K⟨c,rfl,e⟩;refine⟨WP [],rfl,aG,b3Z c,bt,?_⟩;exact e
theorem aRX:uz 236 (Ro (λc=>decide (c>0))):=by
 refine gV func236 ?_;rintro d m h K⟨c,rfl,e⟩;refine⟨WP [],rfl,aG,b3X c,bt,?_⟩;exact e
theorem aRQ:uz 237 (Ro (λc=>decide (c>=0))):=by
 refine gV func237 ?_;rintro d m h K⟨c,rfl,e⟩;refine⟨WP [],rfl,aG,b3Q c,bt,?_⟩;exact e
theorem aoJ:∀N,uz 199 (YJ N)
 |0=>by
  refine gV func199 ?_;rintro Q m h K⟨v,s,p,r,rfl,_,_,hN,_⟩;omega
 |N+1=>by
  refine gV func199 ?_;rintro Q m h K⟨v,s,p,r,rfl,hp,E,hN,d⟩;refine⟨cwZ N v s m h,rfl,aD aUJ (aD Ki (aD aUZ (aD Lw (aD (aoJ N) (aD aSX (aD aSQ (aD aRJ (aD aRZ (aD aRX (aD aRQ aG)))))))))),VY N v s,bt,?_⟩;dsimp only[VY,push_cast];have n:=@Ar p;obtain⟨op,a',l,q,ps⟩:=p;obtain⟨rfl,rfl,rfl,rfl,F⟩:=hp.parts;have R:=F.e;have X:=F.len;simp only[ao.args]at n;simp only[kA]at d;refine aB (λY=>?_) (λY=>aB (λZ=>?_) (λZ=>aB (λh4=>?_) (λh4=>aB (λh5=>?_) (λh5=>aB (λh6=>?_) (λh6=>?_)))))
  .rw[if_pos da]at d;exact d
  all_goals have n1:v.op≠1:=mp Y
  .rw[if_neg n1,if_pos da]at d;refine⟨λx=>x=(BZ r v.left,BZ r v.right),?_,?_⟩
   .repeat' (first|exact⟨_,rfl,MT⟩|refine⟨v.left,s,r,rfl,E,?_⟩|refine⟨v.right,s,r,rfl,E,?_⟩|refine And.intro ?_ ?_)
   .rintro⟨a,b⟩ G;simp only[Prod.mk.injEq]at G;obtain⟨rfl,rfl⟩:=G;generalize BZ r v.left=a at d⊢
    generalize BZ r v.right=b at d⊢
    have S:vR v.dy a b=false->K (cB false) m h:=λe=>da
    refine⟨a,rfl,aB (λt=>S ?_) (λt=>⟨b,rfl,aB (λe2=>S ?_) (λe2=>aB (λe3=>S ?_) (λe3=>⟨v.dy,rfl,?_⟩))⟩)⟩
    .grind[kF,vR]
    .grind[kF,vR]
    .grind[vR]
    .have t:kF a=true:=da
     have e2:kF b=true:=da
     have e3:a.kind=b.kind:=da
     have e4:vR v.dy a b=Zb v.dy (lY a b):=by grind[vR]
     rw[e4]at d;unfold Zb at d;refine aB (λz=>?_) (λz=>aB (λA=>?_) (λA=>aB (λD=>?_) (λD=>aB (λH=>?_) (λH=>aB (λO=>?_) (λO=>aB (λT=>?_) (λT=>?_))))))
     all_goals simp only[beq_iff_eq,beq_eq_false_iff_ne]at*
     .rw[if_pos z]at d;exact⟨a,b,rfl,_,rfl,d⟩
     .rw[if_neg z,if_pos A]at d;exact⟨a,b,rfl,_,rfl,d⟩
     .rw[if_neg z,if_neg A,if_pos D]at d;exact⟨a,b,rfl,_,rfl,d⟩
     .rw[if_neg z,if_neg A,if_neg D,if_pos H]at d;exact⟨a,b,rfl,_,rfl,d⟩
     .rw[if_neg z,if_neg A,if_neg D,if_neg H,if_pos O]at d;exact⟨a,b,rfl,_,rfl,d⟩
     .rw[if_neg z,if_neg A,if_neg D,if_neg H,if_neg O,if_pos T]at d;exact⟨a,b,rfl,_,rfl,d⟩
     .rw[if_neg z,if_neg A,if_neg D,if_neg H,if_neg O,if_neg T]at d;exact d
  all_goals have n3:v.op≠3:=mp Z
  all_goals rw[if_neg n1,if_neg n3]at d
  .rw[if_pos da,IN]at d;refine⟨λi=>i<=ps.length/\∀j:Nat,j<i->∀x,ps[j]?=some x->kA r x=true,λi=>ps.length-i,⟨0,⟨aC,λj U=>by omega⟩,MT⟩,λi⟨hi,I⟩=>aE (λf=>?_) (λV=>?_)⟩
   .have⟨x,g⟩:=eF R f;have⟨J,L,u,t,P,M⟩:=F.at g;have:=n (si g);refine⟨J,L,t,aC,f,u,.ay P,u,s,x,r,rfl,M,E,aC,aB (λW=>?_) (λhe=>⟨i+1,⟨aC,λj U y hy=>?_⟩,(show ps.length-(i+1)<ps.length-i by omega),MT⟩)⟩
    .have:ps.all (kA r)=false:=by
      grind
     rw[this]at d;exact d
    grind
   .have:ps.all (kA r)=true:=by
     grind[all_eq_true,getElem?_of_mem]
    rw[this]at d;exact d
  all_goals have n4:v.op≠4:=mp h4
  all_goals rw[if_neg n4]at d
  .rw[if_pos da,IL]at d;refine⟨λi=>i<=ps.length/\∀j:Nat,j<i->∀x,ps[j]?=some x->kA r x=false,λi=>ps.length-i,⟨0,⟨aC,λj U=>by omega⟩,MT⟩,λi⟨hi,I⟩=>aE (λf=>?_) (λV=>?_)⟩
   .have⟨x,g⟩:=eF R f;have⟨J,L,u,t,P,M⟩:=F.at g;have:=n (si g);refine⟨J,L,t,aC,f,u,.ay P,u,s,x,r,rfl,M,E,aC,aB (λhe=>?_) (λW=>⟨i+1,⟨aC,λj U y hy=>?_⟩,(show ps.length-(i+1)<ps.length-i by omega),MT⟩)⟩
    .have:ps.any (kA r)=true:=any_eq_true.2 ⟨x,si g,he⟩;rw[this]at d;exact d
    grind
   .have:ps.any (kA r)=false:=by
     grind[any_eq_false,getElem?_of_mem]
    rw[this]at d;exact d
  all_goals have n5:v.op≠5:=mp h5
  all_goals rw[if_neg n5]at d
  .rw[if_pos da]at d;refine aE (λh7=>?_) (λh7=>?_)
   .have⟨x,g⟩:=eF (i:=0) R aC;have⟨J,L,u,t,P,M⟩:=F.at g;have:=n (si g)
    have e7:Tb r ps= !kA r x:=by
     cases ps with
     |nil=>simp at g
     |cons y _=>simp at g;subst g;rfl
    rw[e7]at d;exact⟨J,L,t,aC,aC,u,.ay aC,u,s,x,r,rfl,M,E,aC,d⟩
   .have:ps=[]:=length_eq_zero_iff.1 aC;subst this;exact d
  .rw[if_neg da]at d;exact d
theorem aYQ:uz 199 YK:=jL aoJ λ_ _ _ _⟨v,s,p,r,e,c,d,f⟩=>⟨SizeOf.sizeOf p+1,v,s,p,r,e,c,d,aC,f⟩
structure UC(h:PH)(b:Nat)(l:tj):Prop where
 ex:∃us,K3 h b us/\eN h us l
theorem UC.mono{l}(x:UC h b l)(le:PH.le h h'):UC h' b l:=by
 have⟨c,d,e⟩:=x.ex;exact⟨c,d.mono le,e.mono le⟩
structure zN(h:PH)(t:Sl)(bs:tw)(ls:List tj):Prop where
 row:bT h t 1 (bs.map λb=>[Us b])
 len:bs.length=ls.length
 y:∀(i b:Nat)(l:_),bs[i]?=some b->ls[i]?=some l->UC h b l
structure lT(w:Nat)(l:tj):Prop where
 row:∀r∈l,YZ r
 gi:∀r∈l,r.length=w
 jw:iY l
 len:l.length<=8000000
def Lq(l:tj)(x:to):=l.any λy=>cV x y==0
theorem Ke{l x}:Lq l x=true↔x∈l:=by
 simp_all[Lq,any_eq_true,beq_iff_eq,eX]
def Y0(ok:ae->List tj->Prop)(f:ae->List tj->tj):AC:=λc m h K=>∃v t q g d,c=[aQ v,cS t]/\cQ h q v/\zN h t g d/\kN m/\ok q d/\
 ∀e h',PH.le h h'->Rows h' e (f q d)->K (cS e) m h'
def YT:AC:=λd m h K=>∃t i f c w,d=[cS t,cB i]/\zN h t f c/\kN m/\2<=c.length/\(∀l∈c,lT w l)/\
 ∀e h',PH.le h h'->Rows h' e ((c.getD 0 []).filter λx=>Lq (c.getD 1 []) x==i)->K (cS e) m h'
def cAQ:=Ym [(200,dxZ)] [(6,{A:=Nat×Nat×Sl×Sl×to×MH×PH,st:=λ⟨i,b,e,c,l,m,h⟩=>bO 40 42 ([(5,vv (.pointer (some ⟨b,0,none⟩))),(6,sv e),(7,.at (.au 17))]++WF 19 c i) [(17,.au 58 3 (l.map VV.ag))] m h})] [] [200002,200005,1095]
abbrev xI(a:Nat):tm:=[.func (Fn.func 174) yZ (D7 a)]
abbrev NB(a:Option Addr)(b c:Int)(d:Sl)(e:MH)(g:Nat->Nat->Option Value)(i:Nat->Nat)(j:Nat->(PH->tm->List tm->Prop)->Prop):=aM (λx f=>aR a x f/\b<=c/\c<aF d/\∃n,aK e g x (i f) (xI n)/\∃t,j n t)
abbrev GZ(a:Nat->Option Obj)(b:Nat->Nat->Option Value)(c:Sl)(d:Nat->MH->Nat->(PH->tm->List tm->Prop)->Prop):=∀x e,eT a b x->cF a e x kS 95->NB c.a 0 0 c e b (λf=>fJ f) (λf g=>d x e f g)
abbrev Cm(a:Nat×Nat×Sl×Sl×to×MH×PH):=a.2.2.2.1
abbrev Hn(a:Nat×Nat×Sl×Sl×to×MH×PH):=vF a.2.2.2.2.1
abbrev tP(a:Nat×Nat×Sl×Sl×to×MH×PH):=a.2.2.2.2.2
abbrev Ew(a:tj)(b:Nat):=a.length<=b
abbrev rO(a:PH)(b:tj)(c:tt)(d:MH):=jA (λx e=>cO a e (Rows e x b) (c (tV x) d e))
abbrev RS(a:MH)(b:PH)(c:Nat)(d:Nat->MH->Prop):=∀x e,eT a b x->cF a e x [.map none] c->d x e
abbrev MF(a:MH)(b:PH)(c:Nat)(d:Nat->MH->Prop):=He a b (λx t=>RS t b c (λe g=>aj g e (.map (some x)) (λn=>d e n)))
abbrev bZ(a:Nat):tm:=[.map (some a)]
abbrev tM(a:MH)(b:Nat)(c d:(Value->Prop)->Prop)(e:Value)(g:tz->Prop)(i:tz->Value->tz->tz)(j:tz->tz->Prop):=aJZ (λx n=>pZ a b x/\c n/\d n/\mZ (Instr.sameBits 10000 e e)/\(∀f,List.Mem f x->n f.1)/\((∀f,List.Mem f x->f.1=e->False)->g x)/\∀f u t,x=i f u t->j f t)
abbrev F6(a:to):Value:=.string (gA a)
abbrev C4(a:tw->(List tj)->Prop):=∃x c,a x c
abbrev Ce(a:List tj)(b:tj->Prop):=∀x,List.Mem x a->b x
abbrev D5(a:List tj)(b:Nat):=List.getD a b []
abbrev G7(a b:Sl)(c:Nat->Nat->Option Value)(d e:to->ti->Prop):=lC (λx j=>∃f g,fG a b=fG x j/\bF c x f/\an c j g/\d f g/\e f g)
abbrev tD(a:to)(b:ti):=jY a.length b
abbrev eK a b:=F6 (pick a b)
abbrev MG(a b:Sl)(c:PH)(d:MH)(e:Prop)(g i:to->ti->Prop):=lC (λx n=>∃f j,fG a b=fG x n/\bF c x f/\an c n j/\YZ f/\tD f j/\kN d/\e/\g f j/\i f j)
attribute [push_cast] xI NB GZ Cm Hn tP Ew rO RS MF bZ tM F6 C4 Ce D5 G7 tD eK MG
def PJ(v:QV)(t:Sl):ST:=λm h K=>∀b z,eT m h b->cF m z b v.ag 68->GZ z h t (λg G y S=>Aa S h y G (λI k e f d=>I k f d->∃j,aK f d b 2 j.ag/\NI (λA s p r=>sG j e=sG A s/\fV d p A/\bF d s r/\branch (kA r p) (∃n,Iz f d g 0 n (λx=>cH f (bK n) 75 1 x/\cJ (fS x 1*24)/\fA x/\fY (λD u=>cL f u (bK n) D 75 1 (iI x e)->aj u g (fW D) (λF=>I (dG k) F d)))) (I (dG k) f d))) (λf d=>lI f d g 0 (λj=>K (tV j) f d)))
def PI(v:QV)(t:Sl):=λm h K=>∀b F,eT m h b->cF m F b v.ag 68->GZ F h t (λG R y S=>Aa S h y R (λI k e j f=>I k j f->∃g,aK j f b 15 (aT g)/\dK (aF g)/\aF g<=aF g/\BV (aF g*32)/\BV (aF g)/\lI j f b 15 (λH=>∃(I1:Nat×Nat×Sl×Sl×to×MH×PH->Prop)(J:Nat×Nat×Sl×Sl×to×MH×PH->Nat),(∃x,I1 x/\fL G x.2.1/\bC e x.2.2.1/\eL 17/\bC H (Cm x)/\cT H (Cm x)/\bB x.1/\Hz (DX (aF g) Bl) (Hn x)/\eV (fX j (tP x)) (dH f (tP x)))/\∀x,I1 x->aX x.1 (aF (Cm x)) (aM (λL o=>aR (Cm x).a L o/\0<=(↑x.1:Int)/\x.1<aF (Cm x)/\∃n,aK (tP x).1 (tP x).2 L (bI o x.1 1) (bV n)/\ab x.2.2.1 n 3 VV.ag (tP x).1 (tP x).2 (λz=>0<=(↑x.1:Int)/\x.1<nV (Hn x)/\∃A,yT (Hn x) (tY x.1) A/\3<=A.length/\∃d,I1 d/\J d<J x/\fL x.2.1 d.2.1/\bC x.2.2.1 d.2.2.1/\eL 17/\bC (Cm x) (Cm d)/\cT (Cm x) (Cm d)/\fI (bA x.1 1)=bR d.1/\kO (Hz (List.set (Hn x) (tY x.1) (bD z.kind z.int (.string z.text::List.drop 3 A))) (Hn d)) (fX (tP x).1 (tP d)) (dH (tP x).2 (tP d))))) (lI (tP x).1
 (tP x).2 x.2.1 0 (λn=>bN (tP x).2 3 (Hn x) (λs T=>∃d,cH (tP x).1 (bK n) 75 1 d/\cJ (fS d 1*24)/\fA d/\fY (λP D=>cL (tP x).1 D (bK n) P 75 1 (iI d s)->aj D x.2.1 (fW P) (λQ=>I (dG k) Q T))))))) (λj f=>lI j f G 0 (λg=>Ka (λs u=>∃l,mO g=mO s/\mH j f s 1 (lX u)/\eN f u l/\Ew l 502633886983/\rO f (AT l) K j))))
def PE(v:QV)(t:Sl):=λm h K=>aM (λb o=>aR t.a b o/\(0:Int)<=0/\0<aF t/\∃y,aK m h b (fJ o) (xI y)/\aM (λe f=>aR t.a e f/\(0:Int)<=1/\1<aF t/\∃g,aK m h e (dG f) (xI g)/\bJ h e (dG f) (xI g)/\SN (λz A=>eO (w7 y) (w7 z)/\K3 h z A/\∀s,MD s 1 A (λc x d=>m x=some d->c x=some d) (λx=>Hx m x) (λc=>bJ h b (fJ o) (xI y)/\∃j,SN (λD u=>∃E,j8 s (w7 g)=j8 j (w7 D)/\cH c j 75 1 (lX u)/\K3 h D E/\RR u/\∀F,MD F 1 (u++E) (λn x d=>c x=some d->(∀i,jP (aR j.a x i))->n x=some d) (λx=>Hx c x\/∃i,aR j.a
 x i) (λn=>bJ h b (fJ o) (xI y)/\bJ h e (dG f) (xI g)/\Ka (λG H=>∃l,mO F=mO G/\mH n h G 1 (lX H)/\eN h H l/\Ew l 502633886983/\rO h (AT l) K n)))))))
def PA(t:Sl)(i:Bool):ST:=λm h K=>∀b R,eT m h b->cF m R b (xF i) 4->MF R h 197 (λD T=>NB t.a 0 1 t T h (λo=>dG o) (λy S=>Aa S h y T (λI k e g j=>I k g j->∃n,aK g j D 0 (bZ n)/\aK g j D 0 (bZ n)/\nZ (λs r=>mO e=mO s/\bF j s r/\YZ r/\kN g/\aK g j D 0 (bZ n)/\tM g n (λO=>mG 9 O) (λO=>O (F6 r)) (F6 r) (λM=>∀u,kM g u n->pZ u n (hU M (F6 r) zH [])->I (dG k) u j) (λl v P=>hU l (F6 r) v P) (λl P=>∀u,kM g u n->pZ u n (hU l (F6 r) zH P)->I (dG k) u j))) (λg j=>GZ g j t (λz u n S1=>Aa S1 j n u (λI k e d f=>I k d f->∃F,aK d f D 0 (bZ F)
 /\∃G,aK d f b 0 (xF G)/\aK d f D 0 (bZ F)/\aK d f b 0 (xF G)/\nZ (λs r=>mO e=mO s/\bF f s r/\YZ r/\kN d/\aK d f D 0 (bZ F)/\aK d f b 0 (xF G)/\aK d f b 0 (xF G)/\JD d F (λO=>O (F6 r)) (F6 r) (branch (false==G) (∃H,Iz d f z 0 H (λx=>cH d (bK H) 75 1 x/\cJ (fS x 1*24)/\fA x/\fY (λJ A=>cL d A (bK H) J 75 1 (iI x e)->aj A z (fW J) (λL=>I (dG k) L f)))) (I (dG k) d f)) (λM H=>HJ (F6 r) H M (branch (H==G) (∃Q,Iz d f z 0 Q (λx=>cH d (bK Q) 75 1 x/\cJ (fS x 1*24)/\fA x/\fY (λJ A=>cL d A (bK Q) J 75 1 (iI x e)->aj A z (fW J) (λL=>I (dG k) L f)))) (I (dG k) d f))))) (λd f=>lI d f z 0 (λF=>K (tV F) d f))))))
def b6X(v:QV)(t:Sl):=λm h K=>∃c i,C4 (λb l=>∃w,j8 t bH=j8 c (AU i)/\zN h c b l/\kN m/\2<=l.length/\Ce l (λd=>lT w d)/\rO h (filter (λx=>Lq (D5 l 1) x==i) (D5 l 0)) K m)
def b6Q(v:QV)(t:Sl):=λm h K=>∃c i,C4 (λb l=>∃w,j8 t eE=j8 c (AU i)/\zN h c b l/\kN m/\2<=l.length/\Ce l (λd=>lT w d)/\rO h (filter (λx=>Lq (D5 l 1) x==i) (D5 l 0)) K m)
def PF(v:QV)(t:Sl):ST:=λm h K=>RY (λs o=>eO (tV v.on) (tV s)/\l9 h s o/\∀a,jA (λb D=>cO h D (an D a (jI o)) (an D b (jF o)->∀F L,eT m D F->cF m L F kS 31->∀H M,eT L D H->cF L M H kS 31->aj M F (fW a) (λP=>aj P H (fW b) (λY=>MF Y D 197 (λG Z=>NB t.a 0 1 t Z D (λo1=>dG o1) (λy S=>Aa S D y Z (λI k e g j=>I k g j->∃n,aK g j G 0 (bZ n)/\∃z,aK g j H 0 (aT z)/\aK g j G 0 (bZ n)/\G7 e z j (λr _=>YZ r) (λr u=>tD r u/\kN g/\aK
 g j G 0 (bZ n)/\tM g n (λO=>mG 9 O) (λO=>O (eK r u)) (eK r u) (λR=>∀A,kM g A n->pZ A n (hU R (eK r u) zH [])->I (dG k) A j) (λl v1 T=>hU l (eK r u) v1 T) (λl T=>∀A,kM g A n->pZ A n (hU l (eK r u) zH T)->I (dG k) A j))) (λg j=>GZ g j t (λJ A n S1=>Aa S1 j n A (λI k e d f=>I k d f->∃z,aK d f G 0 (bZ z)/\∃U,aK d f F 0 (aT U)/\aK d f G 0 (bZ z)/\MG e U f d (aK d f G 0 (bZ z)) (λ_ _=>aK d f F 0 (aT U)) (λr u=>JD d z (λO=>O (eK r u)) (eK r u) (I (dG k) d f) (λR y4=>HJ (eK r u) y4 R (branch y4 (∃V,Iz d f J 0 V (λx=>cH d (bK V) 75 1 x/\cJ (fS x 1*24)/\fA x/\fY (λs1 W=>cL d W (bK V) s1 75 1 (iI x e)->aj W J (fW s1) (λa1=>I (dG k) a1 f)))) (I (dG k) d f))))) (λd f=>lI d f J 0 (λz=>K (tV z) d f)))))))))))
def HZ(m c:MH)(b:Nat):=∀x o,m x=some o->x≠b->c x=some o
structure uO(m mx:MH)(b:Nat)(us:tq):Prop where
 ex:∃s:Sl,mx b=some (.cells #[.slice s.a s.len s.cap] 95 (0,0))/\cH mx s 75 1 (us.map eS)/\∀i x,s.a=some ⟨x,i,none⟩->m x=none
theorem uO.new(c:m' b=some (.cells #[B8] 95 (0,0))):uO m m' b []:=⟨⟨none,0,0⟩,c,⟨qS [],.inl ⟨rfl,rfl⟩⟩,λi x e=>by cases e⟩
theorem Mr{c s us e}{Q:MH->Prop}(d:∃o,m b=some o)(D:HZ m c b)(F:c b=some (.cells #[.slice s.a s.len s.cap] 95 (0,0)))(f:cH c s 75 1 (us.map eS))(G:∀i x,s.a=some ⟨x,i,none⟩->m x=none)(P:us.length<=502633886983)(H:∀m',HZ m m' b->uO m m' b (us++[e])->Q m'):
 ∃xs:List tm,cH c (Sl.mk s.a s.len s.cap) 75 1 xs/\(xs.length+1)*24<=140737488355328/\xs.length<140737488355328/\∀y m',cL c m' (Sl.mk s.a s.len s.cap) y 75 1 (xs++[[fW e]])->
  ∃cs E,yA m' b (.cells cs E (0,0))/\0<cs.size/\∀m2:MH,iZ m' m2 b (.cells (.mk (fW y::cs.toList.drop 1)) E (0,0))->Q m2:=by
 obtain⟨R,d⟩:=d;have z:∀i,s.a≠some ⟨b,i,none⟩:=λi g=>da
 refine⟨us.map eS,f,da,da,λy m' n=>⟨_,_,⟨n.ai b _ F z⟩,bu,λm2 A=>H m2 ?_ ⟨y,A.y,?_,?_⟩⟩⟩
 .intro x o I t;rw[A.ai x t];exact n.ai x o (D x o I t) (λi g=>da)
 .have J:(us++[e]).map eS=us.map eS++[[fW e]]:=by simp[eS]
  rw[J];refine cH.br n.row (λx i g=>A.ai x (λL=>?_));subst L;rcases n.f x i g with u|⟨j,u⟩
  .grind
  grind
 .intro i x g;rcases n.f x i g with u|⟨j,u⟩
  .cases M:m x with
   |none=>rfl
   |some o=>
    by_cases O:x=b
    .grind
    .rw[D x o M O]at u;cases u
  grind
theorem uO.jm{c hx us e}{Q:MH->Prop}(f:∃o,m b=some o)(t:HZ m c b)(o:uO m c b us)(u:us.length<=502633886983)(z:∀m',HZ m m' b->uO m m' b (us++[e])->Q m'):
 ∃y:Sl,aK c hx b 0 [fW y]/\∃xs:List tm,cH c (Sl.mk y.a y.len y.cap) 75 1 xs/\(xs.length+1)*24<=140737488355328/\xs.length<140737488355328/\∀j m',cL c m' (Sl.mk y.a y.len y.cap) j 75 1 (xs++[[fW e]])->
  ∃cs E,yA m' b (.cells cs E (0,0))/\0<cs.size/\∀m2:MH,iZ m' m2 b (.cells (.mk (fW j::cs.toList.drop 1)) E (0,0))->Q m2:=by
 have⟨s,n,d,g⟩:=o.ex;exact⟨s,.i n rfl,Mr f t n d g u z⟩
theorem dR.sub{hx r}(sub:dh m m')(le:PH.le h hx)(c:K r m hx):dR h K r m' hx:=λ_=>⟨m,hx,sub,le,λ_ _ _ e=>.inl e,c⟩
theorem dR.row{hx s}{us:tq}(sub:dh m m')(le:PH.le h hx)(g:cH m' s 75 1 (us.map eS))(M:∀i b,s.a=some ⟨b,i,none⟩->m b=none)(n:∀h',PH.le hx h'->bT h' s 1 (us.map eS)->K (cS s) m h'):dR h K (cS s) m' hx:=by
 intro z;rcases g.ex with⟨rfl,A⟩|⟨b,D,d,rfl,E,F,O,P,Q⟩
 .refine⟨m,hx,sub,le,λb i v e=>.inl e,n hx (.refl _) ?_⟩
  grind[bT.nil]
 .have t:∀i,hx b i=none:=z b _ E;refine⟨m,vQ hx b d.toList,sub,le.trans (FN t),λR i v e=>?_,n _ (FN t) ⟨?_,?_,?_⟩⟩
  .grind[vQ]
  .simp
  .by_cases G:us.map eS=[]
   .exact .inl G
   .refine .inr ⟨b,0,rfl,λi e c=>⟨λj v y=>?_⟩⟩;have H:=g.rows.len e (si c);have I:j=0:=da
    subst I;have J:=(sg c)
    have S:((us.map eS).flatten)[i]?=some v:=by
     rw[getElem?_map]at c;cases f:us[i]? with
     |none=>grind
     |some u=>
      rw[f]at c;simp at c;subst c;simp[eS]at y;subst y
      have:∀l:tq,(l.map eS).flatten=l.map λu=>Value.slice u.a u.len u.cap:=λl=>by
       induction l with
       |nil=>rfl
       |cons a l L=>simp only[map_cons,flatten_cons,L];rfl
      grind
    grind[vQ]
  .exact F
structure xY(m:MH)(y:Nat)(ks:List ByteArray):Prop where
 ex:∃kk:List ByteArray,pZ m y (kk.map λk=>(.string k,.bool true))/\∀k,k∈kk↔k∈ks
theorem xY.br{y ks}(s:xY m y ks)(t:m' y=m y):xY m' y ks:=by
 have⟨d,⟨e,c,u,f,g,j⟩,n⟩:=s.ex;exact⟨d,⟨e,c,da,f,g,j⟩,n⟩
theorem xY.new{y}(h:m y=some (.map #[] 0)):xY m y []:=⟨[],⟨#[],0,h,rfl,bu,bu⟩,bu⟩
theorem xY.get{y ks key}{K:Bool->Prop}(s:xY m y ks)(g:∀t:Bool,(t=true↔key∈ks)->K t):
 ∃d Ok,xZ m y (d.map λp=>(p.1,.bool p.2))/\dz Tryz.prog 9 Ok/\Ok (.string key)/\(∀e,List.Mem e d->Ok e.1)/\((∀e,List.Mem e d->e.1=.string key->False)->K false)/\∀t,List.Mem (.string key,t) d->K t:=by
 have⟨j,⟨u,c,z,A,_,_⟩,D⟩:=s.ex;refine⟨j.map λk=>(Value.string k,true),_,⟨u,c,z,by rw[A];simp⟩,GJ,⟨key,rfl⟩,λe E=>?_,λF=>g false ⟨λe=>(by cases e),λf=>?_⟩,λt n=>g t ⟨λ_=>?_,λ_=>?_⟩⟩
 .obtain⟨k,_,rfl⟩:=mem_map.1 (show e∈_ from E)
  grind
 .exact(F (Value.string key,true) (mem_map.2 (⟨key,(D key).2 f,rfl⟩:∃a,a∈j/\(Value.string a,true)=(Value.string key,true))) rfl).elim
 .have⟨k,f,e⟩:=mem_map.1 (show(Value.string key,t)∈_ from n)
  grind
 .have⟨k,f,e⟩:=mem_map.1 (show(Value.string key,t)∈_ from n)
  grind
theorem Zp key:Instr.sameBits 10000 (.string key) (.string key)=true:=by
 show(key==key)=true;cases key with
 |mk d=>exact beq_self_eq_true d
theorem xY.put{y ks key}{Q:MH->Prop}(s:xY m y ks)(u:∀m':MH,kM m m' y->xY m' y (key::ks)->Q m'):
 ∃c Ok,pZ m y c/\dz Tryz.prog 9 Ok/\Ok (.string key)/\Instr.sameBits 10000 (.string key) (.string key)=true/\(∀e,List.Mem e c->Ok e.1)/\((∀e,List.Mem e c->e.1=.string key->False)->∀m':MH,kM m m' y->pZ m' y (c++[(.string key,.bool true)])->Q m')/\
  ∀g d j,c=g++(.string key,d)::j->∀m':MH,kM m m' y->pZ m' y (g++(.string key,.bool true)::j)->Q m':=by
 have⟨f,z,D⟩:=s.ex;refine⟨_,_,z,GJ,⟨key,rfl⟩,Zp key,λe A=>?_,λE m' n t=>u m' n ⟨f++[key],da,λk=>?_⟩,λg d j e m' n t=>u m' n ⟨f,?_,λk=>?_⟩⟩
 .obtain⟨k,_,rfl⟩:=mem_map.1 (show e∈_ from A)
  grind
 .grind
 .have:(Value.string key,d)∈f.map λk=>(Value.string k,Value.bool true):=by rw[e];simp
  grind
 .have:(Value.string key,d)∈f.map λk=>(Value.string k,Value.bool true):=by rw[e];simp
  grind
theorem zN.get{t d ls}(a:zN h t d ls){l}(f:ls[i]?=some l):∃b off x,t.a=some ⟨b,off,none⟩/\(i:Int)<(t.len:Int)/\bJ h b (off+i) [Us x]/\UC h x l:=by
 have j:=(sg f);have g:d[i]?=some (d[i]'(by rw[a.len];exact j)):=sh _;have⟨b,o,e,rd⟩:=a.row.get (i:=i) (e:=[Us (d[i]' da)]) (by simp[g]);have c:=a.row.len;simp only[length_map]at c;have:=a.len;exact⟨b,o,_,e,aC,da,a.y i _ l g f⟩
theorem eN.im{us rs}(x:eN h us rs){u}(c:us[i]?=some u):∃r,rs[i]?=some r/\bF h u r:=by
 have d:=(sg c);have⟨v,e,f⟩:=x.y i _ (sh (by rw[<-x.len];exact d))
 grind
theorem nB{α}{l:List α}{k x} p(hx:l[k]?=some x):(l.take (k+1)).filter p=(l.take k).filter p++(if p x then[x]else[]):=by
 grind[sy,Option.toList_some]
theorem dh.x{d f}(h:dh m d)(g:m b=none)(hx:HZ d f b):dh m f:=λx o c=>hx x o (h x o c) (λe=>da)
def H6(n:Nat):ae->List tj->Prop:=λ_ c=>n<=c.length/\∀l∈c,∃w,lT w l
def N6(q:ae)(ls:List tj):=match q with|.mk _ _ w _ _ _ _ _ _=>(ls.getD 0 []).filter λr=>kA r w
theorem C9{ls:List tj}{i}(h:i<ls.length):ls[i]?=some (ls.getD i []):=by
 grind
theorem NZ{f fn}(n:Tryz.prog.funcs[f]?=some fn){S}(j:∀c m h K,S c m h K->∃C:bk,C.P=Tryz.prog/\(∀g S,cg C.cq g=some S->uz g S)/\∃N:Prop,N=btX C fn (cZ fn) (entry fn.ntmps c m h) (dR h K)/\N)(t:fn.body=some (cZ fn):=by rfl)(d:(fn.name== "runtime.NumGoroutine")=false:=by decide):uz f S:=aMJ n t d λc m h K u=>let⟨C,hC,hs,N,e,hn⟩:=j c m h K u;⟨C,hC,hs,e▸hn⟩
theorem a2X:uz 175 (Y0 (H6 1) N6):=by
 refine NZ func175 ?_;rintro a' m h K⟨v,t,q,bs,ls,rfl,hq,ha,_,A,P⟩;refine⟨Ym [(199,YK)] [] [] [200002,200005,1095],rfl,aD aYQ aG,PJ v t m h (dR h K),bt,?_⟩;show PJ v t m h (dR h K);dsimp only[PJ,push_cast];intro b m1 Q D F R G j;have f:dh m m1:=(dh.refl m).dv Q.m_ D.ai
 have H:m F=none:=by
  cases e:m F with
  |none=>rfl
  |some o=>have I:=f F o e;rw[G.m_]at I;cases I
 have g:dh m R:=f.dv H j.ai;have J:b≠F:=λe=>by have:=G.m_;rw[<-e,D.y]at this;cases this
 have⟨b3,off,x,ea,a0,rd,Z⟩:=ha.get (C9 (i:=0) (by have:=A.1;omega));have⟨us,u,E⟩:=Z.ex;obtain⟨op,ta,w,co,on,gr,od,li,args⟩:=q;have xq:=hq.parts;have⟨wd,z⟩:=A.2 _ (si (C9 (i:=0) (by have:=A.1;omega)));simp only[N6]at P;generalize ls.getD 0 []=l at u E P z Z;have S:=E.len;have a1:=z.len;refine⟨b3,off,ea,aC,aC,x,.ay rd,B0,us,λk O T=>T=h/\HZ R O F/\∃c,uO R O F c/\c.length<=k/\eN h c ((l.take k).filter λr=>kA r w),BA,⟨x,us,rfl,u,rfl⟩,⟨rfl,λx o e _=>e,[],uO.new j.y,bu,by grind[eN.nil]⟩,?_,?_⟩
 .rintro k e O T hk-⟨rfl,L,c,d,U,n⟩
  have⟨r,hr,hv⟩:=E.im hk;have a2:=(sg hk);refine⟨v.ap,.i (L b _ (by rw[j.ai b J];exact D.y) J) rfl,v.ap,e,w,r,rfl,xq.ap,hv,aB (λht=>?_) (λhf=>?_)⟩
  .refine uO.jm ⟨_,j.y⟩ L d aC (λm' V W=>⟨rfl,V,c++[e],W,cv,?_⟩);rw[nB _ hr,if_pos ht];exact n.cw hv
  .refine⟨rfl,L,c,d,aC,?_⟩;simp_all[nB,append_nil]
 .rintro O T-⟨rfl,L,c,d,U,n⟩
  rw[S,take_length]at n;have⟨s,hb,M,X⟩:=d.ex;refine⟨s,.i hb rfl,dR.row (g.x H L) (.refl _) M (λi y e=>?_) (λh' le Y=>P s h' le ((n.mono le).rows Y da))⟩;cases e2:m y with
  |none=>rfl
  |some o=>have I:=X i y e;rw[g y o e2]at I;cases I
theorem eN.jm{us vs a b}(x:eN h us a)(y:eN h vs b):eN h (us++vs) (a++b):=by
 refine⟨by simp[x.len,y.len],λj r c=>?_⟩;have g:=x.len;by_cases d:j<a.length
 .rw[getElem?_append_left d]at c;have⟨u,e,f⟩:=x.y j r c
  grind
 .rw[getElem?_append_right aC]at c;have⟨u,e,f⟩:=y.y _ r c
  grind
def Xw(_:ae)(ls:List tj):=AT (ls.getD 0 []++ls.getD 1 [])
theorem a1X:uz 179 (Y0 (H6 2) Xw):=by
 refine Lr func179 ?_;rintro T m h K⟨v,t,q,bs,ls,rfl,_,P,_,c,U⟩;refine⟨WP [(206,aEQ),(205,YX),(200,dxZ)],rfl,aD aXX (aD Tw (aD Lu aG)),PE v t m h (pY h K),bt,?_⟩;show PE v t m h (pY h K);dsimp only[PE,push_cast];have h2:=c.1;have⟨b,off,x,V,W,rd,X⟩:=P.get (C9 (i:=0) aC);have⟨Y,j,Q,F,R,d,G⟩:=P.get (C9 (i:=1) aC);have⟨H,n,u⟩:=X.ex;have⟨z,f,A⟩:=G.ex;have⟨_,D⟩:=c.2 _ (si (C9 (i:=0) aC));have⟨_,g⟩:=c.2 _ (si (C9 (i:=1) aC));have l1:=D.len;have l2:=g.len;have l3:=u.len;refine⟨b,off,V,aC,aC,x,.ay rd,Y,j,F,aC,aC,Q,.ay d,d,x,H,rfl,n,λZ m1 I J a'=>⟨rd,Z,Q,H,z,rfl,I,f,aC,λs2 m2 L M a0=>⟨rd,d,s2,H++z,_,rfl,L.ko,u.jm A,da,λs3 S E O=>?_⟩⟩⟩;refine⟨m,S,λy o hy=>M y o (J y o hy) (λi e=>?_),E,.refl _,U s3 S E O⟩
 grind
def ZC(q:ae)(ls:List tj):=match q with|.mk _ _ _ co _ _ _ _ _=>AT ((ls.getD 0 []).map λr=>pick r co)
def O1(q:ae)(ls:List tj):=match q with|.mk _ _ _ co _ _ _ _ _=>1<=ls.length/\co.length<=12/\∃w,lT w (ls.getD 0 [])/\jY w co
theorem cjQ{r y}(c:(pick r co)[i]?=some y)(e:i<co.length):((pick r co).take i++replicate (co.length-i) al).set i y=(pick r co).take (i+1)++replicate (co.length-(i+1)) al:=by
 have d:(pick r co).length=co.length:=by simp[pick]
 rw[set_append,if_neg cv];rw[sy,c,Option.toList_some,append_assoc];congr 1;rw[show co.length-i=(co.length-(i+1))+1 by omega,replicate_succ];simp_all[Nat.min_eq_left,Nat.le_of_lt]
theorem bOJ{r}(c:i<co.length):(((pick r co).take i++replicate (co.length-i) al).map VV.ag)[i]?=some (VV.ag al):=by
 grind[pick]
theorem a2Q:uz 176 (Y0 O1 ZC):=by
 refine NZ func176 ?_;rintro b0 m h K⟨v,t,q,bs,ls,rfl,hq,ha,_,a',hK⟩;refine⟨cAQ,rfl,aD Lu aG,PI v t m h (dR h K),bt,?_⟩;show PI v t m h (dR h K);dsimp only[PI,push_cast];obtain⟨op,ta,w,co,on,gr,od,li,args⟩:=q;obtain⟨b1,b6,wd,f,a0⟩:=a';intro b m1 a1 I E m2 P A;have g:dh m m1:=(dh.refl m).dv a1.m_ I.ai
 have Q:m E=none:=by
  cases e:m E with
  |none=>rfl
  |some o=>have R:=g E o e;rw[P.m_]at R;cases R
 have J:dh m m2:=g.dv Q A.ai;have S:b≠E:=λe=>by have:=P.m_;rw[<-e,I.y]at this;cases this
 have⟨b3,off,x,ea,b7,rd,sq⟩:=ha.get (C9 (i:=0) aC);have⟨us,F,L⟩:=sq.ex;have xq:=hq.parts;have a2:=xq.aw.e;simp only[ZC]at hK;generalize ls.getD 0 []=l at F L hK f sq;have a3:=L.len;have b8:=f.len;refine⟨b3,off,ea,aC,aC,x,.ay rd,B0,us,λk M G=>PH.le h G/\HZ m2 M E/\∃d,uO m2 M E d/\d.length<=k/\eN G d ((l.take k).map λr=>pick r co),BA,⟨x,us,rfl,F,rfl⟩,⟨.refl _,λx o e _=>e,[],uO.new A.y,bu,by grind[eN.nil]⟩,?_,?_⟩
 .rintro k e M G hk-⟨le,Z,d,j,a4,D⟩
  have⟨r,hr,hv⟩:=L.im hk;have b9:=(sg hk);have T:M b=some (.cells ⟨v.ag⟩ 68 (0,0)):=Z b _ (by rw[A.ai b S];exact I.y) S;have c':=f.gi r (si hr);have U:=bF.mono hv le;have c0:=aU.e U;have c1:(pick r co).length=co.length:=by simp[pick]
  refine⟨v.aa,.i T rfl,aC,aC,aC,aC,v.aa,.i T rfl,λz=>z.1<=co.length/\z.2.1=E/\z.2.2.1=e/\z.2.2.2.1=v.aa/\z.2.2.2.2.1=(pick r co).take z.1++replicate (co.length-z.1) al/\z.2.2.2.2.2.1=M/\z.2.2.2.2.2.2=G,λz=>co.length-z.1,⟨(0,E,e,v.aa,replicate co.length al,M,G),⟨bu,rfl,rfl,rfl,bu,rfl,rfl⟩,?_⟩,?_⟩
  .dsimp only;rw[map_replicate,show((v.aa.len:Int)).toNat=co.length by omega];exact MT
  .rintro⟨i,bb,ee,cc,cells,my,hy⟩⟨hi,R,e2,e3,e4,e5,e6⟩;dsimp only at hi R e2 e3 e4 e5 e6;subst R e2 e3 e4 e5 e6;refine aE (λH=>?_) (λa5=>?_)
   .dsimp only at H⊢
    have⟨c,V⟩:=eF a2 H;have⟨b4,o4,e4,c2⟩:=(xq.aw.mono le).at V;have⟨y,a6,a7,h0,h1⟩:=XO (r:=r) da V;obtain⟨b5,o5,y',e5,a8,rfl⟩:=aU.at U a6;have W:i<co.length:=by omega
    have X:=cjQ a7 W;refine⟨b4,o4,e4,aC,aC,c,.ay da,b5,o5,e5,h0,aC,y,.ay a8,aC,cv,_,bOJ W,by simp[VV.ag],(i+1,bb,ee,v.aa,(pick r co).take (i+1)++replicate (co.length-(i+1)) al,my,hy),⟨aC,rfl,rfl,rfl,rfl,rfl,rfl⟩,aC,?_⟩;dsimp only;refine⟨rfl,rfl,rfl,rfl,rfl,by grind[fH],?_,rfl,rfl,trivial⟩;rw[<-X,map_set];rfl
   .dsimp only at a5⊢
    have:i=co.length:=by omega
    subst this;rw[sm aC,Nat.sub_self,replicate_zero,append_nil];have⟨s,hb,n,Y⟩:=j.ex;refine⟨s,.i hb rfl,λs3 h3 u O=>Mr ⟨_,A.y⟩ Z hb n Y aC (λm' a9 b'=>⟨le.trans u,a9,d++[s3],b',cv,?_⟩)⟩
    have e6:(l.take (k+1)).map (λr=>pick r co)=(l.take k).map (λr=>pick r co)++[pick r co]:=by
     grind[sy]
    rw[e6];exact(D.mono u).cw ⟨⟨_,O,rfl,λi x G=>⟨x,G,rfl⟩⟩,aC⟩
 .rintro M G-⟨le,Z,d,j,a4,D⟩
  rw[a3,take_length]at D;have⟨s,hb,n,Y⟩:=j.ex;refine⟨s,.i hb rfl,s,d,_,rfl,n.ko,D,cv,λs3 h3 u O=>dR.sub (J.x Q Z) (le.trans u) (hK s3 h3 (le.trans u) O)⟩
theorem mM{m0 o}(c:dh m0 m)(g:eT m h b)(j:iZ m m' b o):dh m0 m'/\m0 b=none:=by
 have d:m0 b=none:=by
  cases e:m0 b with
  |none=>rfl
  |some x=>have f:=c b x e;rw[g.m_]at f;cases f
 exact⟨c.dv d j.ai,d⟩
theorem qh{l w k x}(f:lT w l)(hx:YZ x)(g:x.length=w):gA x∈(l.take k).map gA↔x∈l.take k:=by
 constructor
 .intro h;have⟨y,d,e⟩:=mem_map.1 h;have c:=mem_of_mem_take d;rw[(S8 (by rw[f.gi y c,g]) (f.row y c).val hx.val).1 e]at d;exact d
 grind
theorem Tv:uz 207 YT:=by
 refine NZ func207 ?_;rintro d0 m h K⟨t,i,bs,ls,w,rfl,ha,hT,h2,a1,hK⟩;refine⟨Ym [(226,bHQ)] [] [] [200003,200005,200007,1095,400000,0],rfl,aD aTJ aG,PA t i m h (dR h K),bt,?_⟩;show PA t i m h (dR h K);dsimp only[PA,push_cast];intro u m1 b4 P d m2 a2 I E m3 W Q;have⟨s1,n3⟩:=mM (dh.refl m) b4 P;have⟨s2,ny⟩:=mM s1 a2 I;have⟨s3,n5⟩:=mM s2 W Q;refine⟨_,_,⟨Q.y⟩,bu,λm4 R=>?_⟩;have s4:dh m m4:=s3.dv n5 R.ai;have f:d≠E:=λe=>by have:=W.m_;rw[<-e,I.y]at this;cases this
 have T:u≠E:=λe=>by have:=W.m_;rw[<-e,I.ai u (λF=>by omega),P.y]at this;cases this
 have X:u≠d:=λF=>by have:=a2.m_;rw[<-F,P.y]at this;cases this
 have b8:m4 d=some (.map #[] 0):=by rw[R.ai d f,Q.ai d f];exact I.y
 have a3:m4 u=some (.cells #[.bool i] 4 (0,0)):=by rw[R.ai u T,Q.ai u T,I.ai u X];exact P.y
 have Y:m4 E=some (.cells #[.map (some d)] 197 (0,0)):=R.y;have⟨b,off,x,ea,d1,rd,sq⟩:=ha.get (C9 (i:=1) aC);have⟨a4,Z,J⟩:=sq.ex;have A:=a1 _ (si (C9 (i:=1) aC));have g:=a1 _ (si (C9 (i:=0) aC));have⟨b6,a5,x6,b9,d',c',a6⟩:=ha.get (C9 (i:=0) aC);have⟨us,a7,a'⟩:=a6.ex;generalize ls.getD 1 []=U at J A hK sq;generalize ls.getD 0 []=l at a' g hK a6;have c0:=a'.len;have d2:=g.len;have a8:=J.len;refine⟨b,off,ea,aC,aC,x,.ay rd,B0,a4,λk mx hx=>hx=h/\(∀z o,m4 z=some o->z≠d->mx z=some o)/\xY mx d ((U.take k).map gA),BA,⟨x,a4,rfl,Z,rfl⟩,⟨rfl,λz o e _=>e,mp (xY.new b8)⟩,?_,?_⟩
 .rintro k e mx hx hk-⟨rfl,V,L⟩
  have⟨r,hr,hv⟩:=J.im hk;have M:=si hr;have r5:aK mx hx E 0 [Value.map (some d)]:=.i (V E _ Y (Ne.symm f)) rfl;refine⟨d,r5,r5,e,r,rfl,hv,A.row r M,hT.sub (λz o F=>V z o (s4 z o F) (λe3=>da)),r5,L.put (λm' a0 a9=>⟨rfl,λz o F c1=>by rw[a0.ai z c1];grind,?_⟩)⟩;have⟨kk,h5,h6⟩:=a9.ex;exact⟨kk,h5,λq=>by rw[h6,sy,hr];grind⟩
 .rintro mx hx-⟨rfl,V,L⟩ b7 m5 b' H;rw[a8,take_length]at L;have s5:dh m mx:=λz o F=>V z o (s4 z o F) (λe3=>da);have⟨s6,n7⟩:=mM s5 b' H;have S:∀z o,mx z=some o->z≠b7:=λz o F e3=>by rw[e3,b'.m_]at F;cases F
  have y7:d≠b7:=by
   have⟨kk,⟨es,c,h1,_⟩,_⟩:=L.ex
   grind
  have c2:m5 E=some (.cells #[.map (some d)] 197 (0,0)):=by rw[H.ai E (S E _ (V E _ Y (Ne.symm f)))];grind
  have c3:m5 u=some (.cells #[.bool i] 4 (0,0)):=by rw[H.ai u (S u _ (V u _ a3 X))];grind
  have b0:xY m5 d (U.map gA):=L.br (H.ai d y7);have c4:E≠b7:=S E _ (V E _ Y (Ne.symm f));have c5:u≠b7:=S u _ (V u _ a3 X);refine⟨b6,a5,b9,aC,aC,x6,.ay c',B0,us,λk my hy=>hy=hx/\HZ m5 my b7/\∃D,uO m5 my b7 D/\D.length<=k/\eN hx D ((l.take k).filter λz=>Lq U z==i),BA,⟨x6,us,rfl,a7,rfl⟩,⟨rfl,λz o e _=>e,[],uO.new H.y,bu,mp (eN.nil hx)⟩,?_,?_⟩
  .rintro k e my hy hk-⟨rfl,n,D,G,c6,O⟩
   have⟨r,hr,hv⟩:=a'.im hk;have d3:=(sg hk);have M:=si hr;have r5:aK my hy E 0 [Value.map (some d)]:=.i (n E _ c2 c4) rfl;have r3:aK my hy u 0 [Value.bool i]:=.i (n u _ c3 c5) rfl
   have b1:xY my d (U.map gA):=by
    have⟨kk,⟨es,c,h1,h2,h3,h4⟩,h5⟩:=b0.ex;exact⟨kk,⟨es,c,n d _ h1 y7,h2,h3,h4⟩,h5⟩
   have key:∀t:Bool,(t=true↔gA r∈U.map gA)->t=Lq U r:=λt ht=>by
    have h1:=qh (k:=U.length) A (g.row r M) (g.gi r M);rw[take_length]at h1;rw[h1]at ht;cases t
    .cases F:Lq U r with
     |false=>rfl
     |true=>exact ht.2 (Ke.1 F)
    .exact(Ke.2 (ht.1 rfl)).symm
   refine⟨d,r5,i,r3,r5,r3,e,r,rfl,hv,g.row r M,hT.sub (s6.x n7 n),r5,r3,r3,b1.get (K:=λt=>branch (t==i) _ _) (λt ht=>?_)⟩;have e3:=key t ht;refine aB (λh1=>?_) (λh1=>?_)
   .refine uO.jm ⟨_,H.y⟩ n G aC (λm' a0 c7=>⟨rfl,a0,D++[e],c7,cv,?_⟩);rw[nB _ hr,if_pos da];exact O.cw hv
   .refine⟨rfl,n,D,G,aC,?_⟩;rw[nB _ hr,if_neg da,append_nil];exact O
  .rintro my hy-⟨rfl,n,D,G,c6,O⟩
   rw[c0,take_length]at O;have⟨s,hb,b2,c8⟩:=G.ex;refine⟨s,.i hb rfl,dR.row (s6.x n7 n) (.refl _) b2 (λj y e=>?_) (λh' le c9=>hK s h' le ((O.mono le).rows c9 da))⟩;cases F:m y with
   |none=>rfl
   |some o=>have e1:=c8 j y e;rw[s6 y o F]at e1;cases e1
def CZ(_:ae)(ls:List tj):=2<=ls.length/\∃w,∀l∈ls,lT w l
def XW(_:ae)(ls:List tj):=(ls.getD 0 []).filter λx=>Lq (ls.getD 1 []) x==false
def X4(_:ae)(ls:List tj):=(ls.getD 0 []).filter λx=>Lq (ls.getD 1 []) x==true
theorem a1Q:uz 180 (Y0 CZ XW):=by
 refine gV func180 ?_;rintro d m h K⟨v,t,q,e,f,rfl,_,g,j,⟨n,w,c⟩,u⟩;refine⟨WP [(207,YT)],rfl,aD Tv aG,b6X v t,bt,?_⟩;exact⟨t,false,e,f,w,rfl,g,j,n,c,u⟩
theorem a0J:uz 181 (Y0 CZ X4):=by
 refine gV func181 ?_;rintro d m h K⟨v,t,q,e,f,rfl,_,g,j,⟨n,w,c⟩,u⟩;refine⟨WP [(207,YT)],rfl,aD Tv aG,b6Q v t,bt,?_⟩;exact⟨t,true,e,f,w,rfl,g,j,n,c,u⟩
end Go.Ps
