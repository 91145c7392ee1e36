/- Own work. -/
import Derived.Shelf.SlSorted.Search
import Derived.Shelf.SlSortCmp.NoneTotal
import Derived.Shelf.Small.Strs
import Derived.Shelf.Strconv.Itoa0
import Derived.Shelf.Strconv.Itoa1
import Derived.Shelf.LaysM
import Derived.Shelf.Strconv.Itoa2
import Derived.Shelf.Strconv.AppendUint10
import Derived.Shelf.Strconv.AppendInt10
import Derived.Shelf.Strconv.AppendIntPublic10
import Derived.Test.YtafjlhgalgfiaaaGreatDoorProg
import Derived.Lib.ItoaLen
import Derived.RangeFuncWrites
import Derived.OrdersIn
import Derived.Test.YtafjlhgalgfiaaaGreatDoorPe
set_option linter.unusedVariables false
set_option linter.unusedSimpArgs false
namespace Go.Proofs
open Go.Shelf List
def Tryz.lays213_ren:Go.Shelf.Ren:=⟨λ |213=>243|265=>261|n=>n,λ |9=>9|3=>3|n=>n,λ |n=>n⟩
def Tryz.lays106_ren:Go.Shelf.Ren:=⟨λ |106=>201|213=>243|265=>261|n=>n,λ |9=>9|3=>3|n=>n,λ |n=>n⟩
theorem Tryz.lays106:Go.Proofs.Lays.n106 Tryz.prog Tryz.lays106_ren:={
 mixed:=bh
 f106:=func201.trans (congrArg some bh)
 f213:=func243.trans (congrArg some bh)
 f265:=func261.trans (congrArg some bh)
 t3:=Tryz.underlying3
 a3:=Tryz.isAgg3
 z3:=Tryz.sizeOf3
 v3:=Tryz.zeroValue3
 t9:=Tryz.underlying9
 a9:=Tryz.isAgg9
 z9:=Tryz.sizeOf9
 v9:=Tryz.zeroValue9}
open Go.RowKit in
theorem Tryz.strings_Compare a b w:
 Calls Tryz.prog 201 #[.string a,.string b] w λe w'=>e= .returned (.int .i64 (Lib.compareBytes a.data.toList b.data.toList))/\w'=w:=Any.strings_Compare Tryz.lays106 a b w
def Tryz.lays283_ren:Go.Shelf.Ren:=⟨λ |283=>270|n=>n,λ |3=>3|9=>9|4=>4|n=>n,λ |n=>n⟩
theorem Tryz.lays283:Go.Proofs.Lays.n283 Tryz.prog Tryz.lays283_ren:={
 mixed:=bh
 f283:=func270.trans (congrArg some bh)
 t3:=Tryz.underlying3
 a3:=Tryz.isAgg3
 z3:=Tryz.sizeOf3
 v3:=Tryz.zeroValue3
 t4:=Tryz.underlying4
 a4:=Tryz.isAgg4
 z4:=Tryz.sizeOf4
 v4:=Tryz.zeroValue4
 t9:=Tryz.underlying9
 a9:=Tryz.isAgg9
 z9:=Tryz.sizeOf9
 v9:=Tryz.zeroValue9}
open Go.Lib in
theorem Tryz.internal_strconv_small(i:Nat)(h:i<100) w:
 Calls Tryz.prog 270 #[.int .i64 i] w λe w'=>e= .returned (.string ⟨(Lib.decDigits i).toArray⟩)/\w'=w:=Any.internal_strconv_small Tryz.lays283 i h w
def Tryz.laysM284_ren:Go.Shelf.Ren:=⟨λ |284=>271|129=>234|317=>275|318=>276|n=>n,λ |53=>263|3=>3|212=>296|0=>0|4=>4|46=>215|5=>5|9=>9|n=>n,λ |17=>1|n=>n⟩
theorem Tryz.laysM284:Go.Proofs.LaysM.n284 Tryz.prog Tryz.laysM284_ren:={
 mixed:=bh
 f129:=func234.trans (congrArg some bh)
 f284:=func271.trans (congrArg some bh)
 f317:=func275.trans (congrArg some bh)
 f318:=func276.trans (congrArg some bh)
 t0:=Tryz.underlying0
 a0:=Tryz.isAgg0
 z0:=Tryz.sizeOf0
 v0:=Tryz.zeroValue0
 t3:=Tryz.underlying3
 a3:=Tryz.isAgg3
 z3:=Tryz.sizeOf3
 v3:=Tryz.zeroValue3
 t4:=Tryz.underlying4
 a4:=Tryz.isAgg4
 z4:=Tryz.sizeOf4
 v4:=Tryz.zeroValue4
 t5:=Tryz.underlying5
 a5:=Tryz.isAgg5
 z5:=Tryz.sizeOf5
 v5:=Tryz.zeroValue5
 t9:=Tryz.underlying9
 a9:=Tryz.isAgg9
 z9:=Tryz.sizeOf9
 v9:=Tryz.zeroValue9
 t46:=Tryz.underlying215
 a46:=Tryz.isAgg215
 z46:=Tryz.sizeOf215
 v46:=Tryz.zeroValue215
 t53:=Tryz.underlying263
 a53:=Tryz.isAgg263
 z53:=Tryz.sizeOf263
 v53:=Tryz.zeroValue263
 t212:=Tryz.underlying296
 a212:=Tryz.isAgg296
 z212:=Tryz.sizeOf296
 v212:=Tryz.zeroValue296
 g17:=bh
 i0:=bh
 i3:=bh
 i4:=bh
 i5:=bh
 i9:=bh
 i46:=bh
 i53:=bh
 i212:=bh
 m17:=by kernel_rfl}
open Go.Lib in
theorem Tryz.internal_strconv_numDigits(u:Nat)(b:1<=u)(c:u<18446744073709551616) w(a:Lib.TabIs Tryz.prog w "internal/strconv.uint64pow10" .u64 Lib.pow10Tab):
 Calls Tryz.prog 271 #[.int .u64 u] w λe w'=>e= .returned (.int .i64 (Lib.nDigits u))/\w'=w:=Any.internal_strconv_numDigits Tryz.laysM284 u b c w a
def Tryz.lays285_ren:Go.Shelf.Ren:=⟨λ |285=>272|n=>n,λ |37=>22|53=>263|3=>3|4=>4|51=>261|9=>9|5=>5|0=>0|n=>n,λ |n=>n⟩
theorem Tryz.lays285:Go.Proofs.Lays.n285 Tryz.prog Tryz.lays285_ren:={
 mixed:=bh
 f285:=func272.trans (congrArg some bh)
 t0:=Tryz.underlying0
 a0:=Tryz.isAgg0
 z0:=Tryz.sizeOf0
 v0:=Tryz.zeroValue0
 t3:=Tryz.underlying3
 a3:=Tryz.isAgg3
 z3:=Tryz.sizeOf3
 v3:=Tryz.zeroValue3
 t4:=Tryz.underlying4
 a4:=Tryz.isAgg4
 z4:=Tryz.sizeOf4
 v4:=Tryz.zeroValue4
 t5:=Tryz.underlying5
 a5:=Tryz.isAgg5
 z5:=Tryz.sizeOf5
 v5:=Tryz.zeroValue5
 t9:=Tryz.underlying9
 a9:=Tryz.isAgg9
 z9:=Tryz.sizeOf9
 v9:=Tryz.zeroValue9
 t37:=Tryz.underlying22
 a37:=Tryz.isAgg22
 z37:=Tryz.sizeOf22
 v37:=Tryz.zeroValue22
 t51:=Tryz.underlying261
 a51:=Tryz.isAgg261
 z51:=Tryz.sizeOf261
 v51:=Tryz.zeroValue261
 t53:=Tryz.underlying263
 a53:=Tryz.isAgg263
 z53:=Tryz.sizeOf263
 v53:=Tryz.zeroValue263}
open Go.RowKit Go.Sort Go.Lib in
theorem Tryz.internal_strconv_formatBase10 blk off a(u:Nat) d w(h:Holds (fun(b:UInt8)=>Value.int .u8 (b.toNat:Int)) w blk off d)(i:u<10^d.size)(c:u<18446744073709551616)(f:d.size<4611686018427387904):
 Calls Tryz.prog 272 #[.slice (some ⟨blk,off,none⟩) d.size a,.int .u64 u] w λe w'=>
  e= .returned (.tuple #[])/\∃(n j:Nat)(g:Array UInt8),w'=(putRow (fun(b:UInt8)=>Value.int .u8 (b.toNat:Int)) w blk off g).drewN n/\FmtInv d.size u 0 j g:=Any.internal_strconv_formatBase10 Tryz.lays285 blk off a u d w h i c f
def Tryz.sortF_ren:Go.Shelf.Ren:=⟨λ |6=>135|15=>182|14=>181|28=>233|29=>234|20=>225|21=>226|22=>227|23=>228|24=>229|25=>230|26=>231|27=>232|46=>254|47=>255|48=>256|49=>257|50=>258|57=>265|n=>n,λ |22=>58|24=>65|25=>116|3=>3|39=>215|0=>0|53=>261|55=>263|4=>4|46=>255|45=>254|50=>136|5=>5|9=>9|66=>274|70=>237|76=>283|77=>284|n=>n,λ |n=>n⟩
theorem Tryz.sortF:Go.Proofs.SlLaysF.n6 Tryz.prog Tryz.sortF_ren:={
 mixed:=bh
 f6:=⟨Tryz.f135.name,bj,func135.trans (congrArg some bh)⟩
 f14:=⟨Tryz.f181.name,bj,func181.trans (congrArg some bh)⟩
 f15:=func182.trans (congrArg some bh)
 f20:=⟨Tryz.f225.name,bj,func225.trans (congrArg some bh)⟩
 f21:=⟨Tryz.f226.name,bj,func226.trans (congrArg some bh)⟩
 f22:=⟨Tryz.f227.name,bj,func227.trans (congrArg some bh)⟩
 f23:=⟨Tryz.f228.name,bj,func228.trans (congrArg some bh)⟩
 f24:=⟨Tryz.f229.name,bj,func229.trans (congrArg some bh)⟩
 f25:=⟨Tryz.f230.name,bj,func230.trans (congrArg some bh)⟩
 f26:=⟨Tryz.f231.name,bj,func231.trans (congrArg some bh)⟩
 f27:=⟨Tryz.f232.name,bj,func232.trans (congrArg some bh)⟩
 f28:=func233.trans (congrArg some bh)
 f29:=func234.trans (congrArg some bh)
 f46:=⟨Tryz.f254.name,bj,func254.trans (congrArg some bh)⟩
 f47:=func255.trans (congrArg some bh)
 f48:=func256.trans (congrArg some bh)
 f49:=⟨Tryz.f257.name,bj,func257.trans (congrArg some bh)⟩
 f50:=⟨Tryz.f258.name,bj,func258.trans (congrArg some bh)⟩
 f57:=⟨Tryz.f265.name,bj,func265.trans (congrArg some bh)⟩
 t0:=Tryz.underlying0
 a0:=Tryz.isAgg0
 z0:=Tryz.sizeOf0
 v0:=Tryz.zeroValue0
 t3:=Tryz.underlying3
 a3:=Tryz.isAgg3
 z3:=Tryz.sizeOf3
 v3:=Tryz.zeroValue3
 t4:=Tryz.underlying4
 a4:=Tryz.isAgg4
 z4:=Tryz.sizeOf4
 v4:=Tryz.zeroValue4
 t5:=Tryz.underlying5
 a5:=Tryz.isAgg5
 z5:=Tryz.sizeOf5
 v5:=Tryz.zeroValue5
 t9:=Tryz.underlying9
 a9:=Tryz.isAgg9
 z9:=Tryz.sizeOf9
 v9:=Tryz.zeroValue9
 t22:=Tryz.underlying58
 a22:=Tryz.isAgg58
 z22:=Tryz.sizeOf58
 v22:=Tryz.zeroValue58
 a24:=Tryz.isAgg65
 z24:=Tryz.sizeOf65
 t25:=Tryz.underlying116
 a25:=Tryz.isAgg116
 z25:=Tryz.sizeOf116
 v25:=Tryz.zeroValue116
 t39:=Tryz.underlying215
 a39:=Tryz.isAgg215
 z39:=Tryz.sizeOf215
 v39:=Tryz.zeroValue215
 t45:=Tryz.underlying254
 a45:=Tryz.isAgg254
 z45:=Tryz.sizeOf254
 v45:=Tryz.zeroValue254
 t46:=Tryz.underlying255
 a46:=Tryz.isAgg255
 z46:=Tryz.sizeOf255
 v46:=Tryz.zeroValue255
 t50:=Tryz.underlying136
 a50:=Tryz.isAgg136
 z50:=Tryz.sizeOf136
 v50:=Tryz.zeroValue136
 t53:=Tryz.underlying261
 a53:=Tryz.isAgg261
 z53:=Tryz.sizeOf261
 v53:=Tryz.zeroValue261
 t55:=Tryz.underlying263
 a55:=Tryz.isAgg263
 z55:=Tryz.sizeOf263
 v55:=Tryz.zeroValue263
 t66:=Tryz.underlying274
 a66:=Tryz.isAgg274
 z66:=Tryz.sizeOf274
 v66:=Tryz.zeroValue274
 t70:=Tryz.underlying237
 a70:=Tryz.isAgg237
 z70:=Tryz.sizeOf237
 v70:=Tryz.zeroValue237
 t76:=Tryz.underlying283
 a76:=Tryz.isAgg283
 z76:=Tryz.sizeOf283
 v76:=Tryz.zeroValue283
 t77:=Tryz.underlying284
 a77:=Tryz.isAgg284
 z77:=Tryz.sizeOf284
 v77:=Tryz.zeroValue284}
def Tryz.sortN_ren:Go.Shelf.Ren:=⟨λ |6=>135|15=>182|14=>181|28=>233|29=>234|20=>225|21=>226|22=>227|23=>228|24=>229|25=>230|26=>231|27=>232|46=>254|47=>255|48=>256|49=>257|50=>258|57=>265|n=>n,λ |22=>58|24=>65|25=>116|3=>3|39=>215|0=>0|53=>261|55=>263|4=>4|46=>255|45=>254|50=>136|5=>5|9=>9|66=>274|70=>237|76=>283|77=>284|n=>n,λ |n=>n⟩
theorem Tryz.sortN:Go.Proofs.SlLaysF0.n6 Tryz.prog Tryz.sortN_ren:={
 mixed:=bh
 f6:=⟨Tryz.f135.name,bj,func135.trans (congrArg some bh)⟩
 f14:=⟨Tryz.f181.name,bj,func181.trans (congrArg some bh)⟩
 f15:=func182.trans (congrArg some bh)
 f20:=⟨Tryz.f225.name,bj,func225.trans (congrArg some bh)⟩
 f21:=⟨Tryz.f226.name,bj,func226.trans (congrArg some bh)⟩
 f22:=⟨Tryz.f227.name,bj,func227.trans (congrArg some bh)⟩
 f23:=⟨Tryz.f228.name,bj,func228.trans (congrArg some bh)⟩
 f24:=⟨Tryz.f229.name,bj,func229.trans (congrArg some bh)⟩
 f25:=⟨Tryz.f230.name,bj,func230.trans (congrArg some bh)⟩
 f26:=⟨Tryz.f231.name,bj,func231.trans (congrArg some bh)⟩
 f27:=⟨Tryz.f232.name,bj,func232.trans (congrArg some bh)⟩
 f28:=func233.trans (congrArg some bh)
 f29:=func234.trans (congrArg some bh)
 f46:=⟨Tryz.f254.name,bj,func254.trans (congrArg some bh)⟩
 f47:=func255.trans (congrArg some bh)
 f48:=func256.trans (congrArg some bh)
 f49:=⟨Tryz.f257.name,bj,func257.trans (congrArg some bh)⟩
 f50:=⟨Tryz.f258.name,bj,func258.trans (congrArg some bh)⟩
 f57:=⟨Tryz.f265.name,bj,func265.trans (congrArg some bh)⟩
 t0:=Tryz.underlying0
 a0:=Tryz.isAgg0
 z0:=Tryz.sizeOf0
 v0:=Tryz.zeroValue0
 t3:=Tryz.underlying3
 a3:=Tryz.isAgg3
 z3:=Tryz.sizeOf3
 v3:=Tryz.zeroValue3
 t4:=Tryz.underlying4
 a4:=Tryz.isAgg4
 z4:=Tryz.sizeOf4
 v4:=Tryz.zeroValue4
 t5:=Tryz.underlying5
 a5:=Tryz.isAgg5
 z5:=Tryz.sizeOf5
 v5:=Tryz.zeroValue5
 t9:=Tryz.underlying9
 a9:=Tryz.isAgg9
 z9:=Tryz.sizeOf9
 v9:=Tryz.zeroValue9
 t22:=Tryz.underlying58
 a22:=Tryz.isAgg58
 z22:=Tryz.sizeOf58
 v22:=Tryz.zeroValue58
 t25:=Tryz.underlying116
 a25:=Tryz.isAgg116
 z25:=Tryz.sizeOf116
 v25:=Tryz.zeroValue116
 t39:=Tryz.underlying215
 a39:=Tryz.isAgg215
 z39:=Tryz.sizeOf215
 v39:=Tryz.zeroValue215
 t45:=Tryz.underlying254
 a45:=Tryz.isAgg254
 z45:=Tryz.sizeOf254
 v45:=Tryz.zeroValue254
 t46:=Tryz.underlying255
 a46:=Tryz.isAgg255
 z46:=Tryz.sizeOf255
 v46:=Tryz.zeroValue255
 t50:=Tryz.underlying136
 a50:=Tryz.isAgg136
 z50:=Tryz.sizeOf136
 v50:=Tryz.zeroValue136
 t53:=Tryz.underlying261
 a53:=Tryz.isAgg261
 z53:=Tryz.sizeOf261
 v53:=Tryz.zeroValue261
 t55:=Tryz.underlying263
 a55:=Tryz.isAgg263
 z55:=Tryz.sizeOf263
 v55:=Tryz.zeroValue263
 t66:=Tryz.underlying274
 a66:=Tryz.isAgg274
 z66:=Tryz.sizeOf274
 v66:=Tryz.zeroValue274
 t70:=Tryz.underlying237
 a70:=Tryz.isAgg237
 z70:=Tryz.sizeOf237
 v70:=Tryz.zeroValue237
 t76:=Tryz.underlying283
 a76:=Tryz.isAgg283
 z76:=Tryz.sizeOf283
 v76:=Tryz.zeroValue283
 t77:=Tryz.underlying284
 a77:=Tryz.isAgg284
 z77:=Tryz.sizeOf284
 v77:=Tryz.zeroValue284}
def Tryz.searchO_ren:Go.Shelf.Ren:=⟨λ |16=>108|n=>n,λ |3=>3|35=>75|4=>4|38=>215|n=>n,λ |n=>n⟩
theorem Tryz.searchO:Go.Proofs.SlLaysO.n16 Tryz.prog Tryz.searchO_ren:={
 mixed:=bh
 f16:=func108.trans (congrArg some bh)
 t3:=Tryz.underlying3
 a3:=Tryz.isAgg3
 z3:=Tryz.sizeOf3
 v3:=Tryz.zeroValue3
 t4:=Tryz.underlying4
 a4:=Tryz.isAgg4
 z4:=Tryz.sizeOf4
 v4:=Tryz.zeroValue4
 t35:=Tryz.underlying75
 a35:=Tryz.isAgg75
 z35:=Tryz.sizeOf75
 v35:=Tryz.zeroValue75
 t38:=Tryz.underlying215
 a38:=Tryz.isAgg215
 z38:=Tryz.sizeOf215
 v38:=Tryz.zeroValue215}
end Go.Proofs
namespace Go.Ps
open Go Go.Vc Go.Proofs List Tryz
variable{K:da}{m:MH}{h:PH}{s:jC}{ps:db}{cb:Nat}{sc:cK}{v:QV}{p:Pred}{l:db}{i:Nat}{N:Nat}{m':MH}{h':PH}{co:db}{gr:db}{od:di}{ta:Int}{li:Int}{xs:List dc}{sz:Nat}{ks:List db}{rs:db}{r:Sl}{a:db}{b:Nat}
def gX(m:MH):=∃T c,m 1=some (.cells (Lib.pow10Tab.map λz=>Value.int .u64 z).toArray T c)
def cU(u:Nat):CV:=.val (.int .u64 u)
def c5J:Vc.Spec:=λc m h K=>∃i:Nat,c=[cI i]/\i<100/\K (YT ⟨(Lib.decDigits i).toArray⟩) m h
def aRJ:Vc.Spec:=λc m h K=>∃u:Nat,c=[cU u]/\1<=u/\u<18446744073709551616/\gX m/\K (cI (Lib.nDigits u)) m h
def c4Z:Vc.Spec:=λd m h K=>∃b e u:Nat,∃(f:Array Value)(T:TypeId),d=[.val (.slice (some ⟨b,0,none⟩) (Lib.nDigits u) e),cU u]/\u<18446744073709551616/\m b=some (.cells f T (0,0))/\f.toList=replicate 24 (.int .u8 0)/\
 ∀c m',c.size=f.size->c.toList.take (Lib.nDigits u)=Lib.byteCells (Lib.decDigits u)->pO m m' b (.cells c T (0,0))->K (.tup []) m' h
def cMJ:Vc.Spec:=λc m h K=>∃xs,∃u:Nat,c=[.lst 5 1 xs,cU u,cI 10]/\u<18446744073709551616/\gX m/\xs.length+30<=140737488355328/\K (.lst 5 1 (xs++bJ (Lib.decDigits u))) m h
def nF i:=if i<0 then 45::Lib.decDigits (IntKind.u64.wrap (0-IntKind.u64.wrap i)).toNat else Lib.decDigits (IntKind.u64.wrap i).toNat
def Ss:Vc.Spec:=λc m h K=>∃xs i,c=[.lst 5 1 xs,cI i,cI 10]/\gX m/\xs.length+40<=140737488355328/\K (.lst 5 1 (xs++bJ (nF i))) m h
noncomputable abbrev Gw a:=aU (zI 0) (zI 0) (aU (zI 0) (zI 0) (aU (zI 0) (zI 0) (aU (zI 0) (zI 0) a)))
noncomputable abbrev CR a:=CV.val (Value.int IntKind.u64 a)
abbrev LW a:=a<18446744073709551616
noncomputable abbrev GQ a:=(↑(Lib.nDigits a):Int)
noncomputable abbrev pB a:=Option.some (Addr.mk a 0 Option.none)
attribute [push_cast] Gw CR LW GQ pB
def Nq(xs:List dc)(u:Nat)(m:MH)(h:PH)(K:da):=
  aZ (↑u:Int) 100 (∃(i:Nat),aA (kQ (kE (↑u:Int))=kQ (↑i:Int)) (i<100) (aA (tJ xs (gR (ByteArray.mk (Array.mk (Lib.decDigits i)))) 1) (oL xs (gR (ByteArray.mk (Array.mk (Lib.decDigits i))))) (K (CV.lst 5 1 (xs++gR (ByteArray.mk (Array.mk (Lib.decDigits i))))) m h))) (lG m h (λb e=>iR m e b (Gw (Gw (Gw []))) 290) (λb e=>∃(d:Nat),aA (pN (CR (↑u:Int))=pN (CR (↑d:Int))) (1<=d) (aA (LW d) (gX e) (aA (cF (GQ d)) (GQ d<=24) (bF (λg c=>∃(f:Nat),GU (λj T=>aA (aX (CV.val (Value.slice (pB b) (GQ d).toNat 24)) (CR (↑u:Int))=aX (CV.val (Value.slice (pB g) (Lib.nDigits f) c)) (CR (↑f:Int))) (LW f) (aA (e g=Option.some (B7 j T 0)) (j.toList=Gw (Gw
 (Gw []))) (∀(n:Array Value)(o:MH),n.size=j.size->List.take (Lib.nDigits f) n.toList=Lib.byteCells (Lib.decDigits f)->pO e o g (B7 n T 0)->M3 (cF (GQ d)) (GQ d<=24) (λy=>aA (eU 1 y) (sV o h (Sl.mk (pB b) (GQ d).toNat 24) 1 y) (aA (tJ xs y 1) (oL xs y) (K (CV.lst 5 1 (xs++y)) o h))))))))))))
noncomputable abbrev Df a b c d:=CV.lst a b c::cA d 10
noncomputable abbrev QG a:=IntKind.wrap IntKind.u64 a
noncomputable abbrev kR a b:=a++bJ b
attribute [push_cast] Df QG kR
def Tz(xs:List dc)(i:Int)(m:MH)(h:PH)(K:da):=
  aZ i 0 (M3 (iK (mO xs 1*1)) (mR xs) (λx=>∃(u:Nat),aA (Df 5 1 (iT xs (lJ (zI 45))) (CR (QG (0-QG i)))=Df 5 1 x (CR (↑u:Int))) (LW u) (aA (gX m) (iK (mO x 30)) (K (CV.lst 5 1 (kR x (Lib.decDigits u))) m h)))) (∃(x:List dc)(u:Nat),aA (Df 5 1 xs (CR (QG i))=Df 5 1 x (CR (↑u:Int))) (LW u) (aA (gX m) (iK (mO x 30)) (K (CV.lst 5 1 (kR x (Lib.decDigits u))) m h)))
abbrev PG(a:(List dc)->Int->Prop):=∃(x:List dc)(c:Int),a x c
attribute [push_cast] PG
def biZ(xs:List dc)(i:Int)(m:MH)(h:PH)(K:da):=
  PG (λx c=>aH (Df 5 1 xs (fI i)=Df 5 1 x (fI c)) (gX m) (iK (mO x 40)) (K (CV.lst 5 1 (kR x (nF c))) m h))
theorem gX.sub(h:gX m)(c:Sub m m'):gX m':=by
 obtain⟨T,d,e⟩:=h;exact⟨T,d,c 1 _ e⟩
theorem MD{w c vs}(d:Dr w m h c vs):D4 ⟨w,zU m c vs,h,[]⟩ m h w:=
 ⟨rfl,rfl,rfl,Nat.le_refl _,Nat.le_refl _,λ_ _ _=>rfl,d.hsat,d.msat,d.disj,λ_ _ _ e=>e,λ_ _ _=>rfl,λb o f=>.inr (.inl bo)⟩
theorem Z0:cz 270 c5J:=by
 refine⟨⟨Tryz.f270,func270,rfl,bj⟩,?_⟩;rintro f d m h w K ⟨i,rfl,g,j⟩ c
 obtain⟨v,rfl⟩:∃v,d=[v]:=by
  have:=(uD c.args).1
  match d,this with
  |[v],_=>grind
 have n:v= .int .i64 i:=c.args.1;subst n;refine(Tryz.internal_strconv_small i g w).mono ?_;rintro e t ⟨rfl,rfl⟩;exact⟨_,_,m,h,rfl,j,rfl,MD c,λb o=>by simp[YT,jF]at o⟩
theorem ZZ:cz 271 aRJ:=by
 refine⟨⟨Tryz.f271,func271,rfl,bj⟩,?_⟩;rintro f d m h w K ⟨u,rfl,g,j,⟨T,y,n⟩,o⟩ c
 obtain⟨v,rfl⟩:∃v,d=[v]:=by
  have:=(uD c.args).1
  match d,this with
  |[v],_=>grind
 have t:v= .int .u64 u:=c.args.1;subst t;have z:=c.msat 1 _ n;refine(Tryz.internal_strconv_numDigits u g j w ?_).mono ?_
 .unfold Lib.TabIs World.var?;rw[show Tryz.prog.globalNamed _=some 1 by kernel_rfl]
  grind
 .rintro e A ⟨rfl,rfl⟩;exact⟨_,_,m,h,rfl,o,rfl,MD c,λb x=>by simp[cI,jF]at x⟩
theorem ZY:cz 272 c4Z:=by
 refine⟨⟨Tryz.f272,func272,rfl,bj⟩,?_⟩;rintro W P m h w K ⟨b,g,u,B,T,rfl,Q,A,C,X⟩ t
 obtain⟨v,H,rfl⟩:∃v H,P=[v,H]:=by
  have:=(uD t.args).1
  match P,this with
  |[v,H],_=>grind
 have Y:v= .slice (some ⟨b,0,none⟩) (Lib.nDigits u) g:=t.args.1;have J:H= .int .u64 u:=t.args.2.1;subst Y J;have R:=t.msat b _ A;have Z:=Lib.nDigits_le20 u Q;have a':B.size=24:=by rw[<-Array.length_toList,C];simp
 have hH:Sort.Holds (fun(b:UInt8)=>Value.int .u8 (b.toNat:Int)) w b 0 (Array.replicate (Lib.nDigits u) (0:UInt8)):=by
  intro j I;simp only[Array.size_replicate]at I;refine⟨?_,?_⟩
  .rw[cell_of_heap R,C,getElem?_replicate,if_pos aD];rw[getElem!_pos _ j bo];simp
  .unfold World.frozen?
   grind
 have S:=Tryz.internal_strconv_formatBase10 b 0 g u (Array.replicate (Lib.nDigits u) (0:UInt8)) w hH (bx (Lib.lt_pow_nDigits u)) Q bn;rw[Array.size_replicate]at S;refine S.mono ?_;rintro e w' ⟨rfl,n,v',z,rfl,U⟩;have a0:z.size=Lib.nDigits u:=U.size;obtain⟨m',y⟩:∃m',pO m m' b (.cells (Sort.putCells (fun(b:UInt8)=>Value.int .u8 (b.toNat:Int)) 0 z B) T (0,0)):=⟨λc=>if c=b then some (.cells (Sort.putCells (fun(b:UInt8)=>Value.int .u8 (b.toNat:Int)) 0 z B) T (0,0))else m c,bi,λc d=>by simp[d]⟩
 have D:(Sort.putRow (fun(b:UInt8)=>Value.int .u8 (b.toNat:Int)) w b 0 z).heap[b]? =some (.cells (Sort.putCells (fun(b:UInt8)=>Value.int .u8 (b.toNat:Int)) 0 z B) T (0,0)):=by
  unfold Sort.putRow Sort.mapBlock;simp only[Array.getElem?_modify,if_true,R];rfl
 have f:∀c,c≠b->(Sort.putRow (fun(b:UInt8)=>Value.int .u8 (b.toNat:Int)) w b 0 z).heap[c]? =w.heap[c]? :=λc d=>by
  unfold Sort.putRow Sort.mapBlock
  grind
 refine⟨.tup [],.tuple #[],m',h,rfl,X _ m' ?_ ?_ y,⟨#[],rfl,rfl⟩,?_,λb A=>by simp[jF]at A⟩
 .simp[Sort.putCells]
 .apply ext_getElem?;intro j;rw[getElem?_take];have hl:(Lib.byteCells (Lib.decDigits u)).length=Lib.nDigits u:=by rw[Lib.byteCells_length,Lib.decDigits_length]
  by_cases I:j<Lib.nDigits u
  .rw[if_pos I,ct];have E:j<(Lib.decDigits u).length:=by rw[Lib.decDigits_length];exact I
   have F:j<B.size:=by omega
   simp only[Sort.putCells,Array.getElem?_mapIdx,Array.getElem?_eq_getElem F,Option.map_some,Nat.zero_le,Nat.zero_add,Nat.sub_zero,true_and];rw[if_pos aD,Lib.byteCells,getElem?_map,cd E,Lib.row_is_numeral U j E];rfl
  grind
 .have G:∀c o,m' c=some o->c=b\/m c=some o:=λc o d=>by
   by_cases e:c=b
   .exact .inl e
   .rw[y.other c e]at d;grind
  have V:zU m [.val (.slice (some ⟨b,0,none⟩) (Lib.nDigits u) g),cU u] [.slice (some ⟨b,0,none⟩) (Lib.nDigits u) g,.int .u64 u] b:=.inl (by rw[A];simp);refine⟨rfl,rfl,rfl,Nat.le_add_right _ _,by simp[Sort.putRow,Sort.mapBlock],?_,?_,?_,?_,λ_ _ _ e=>e,λ_ _ _=>rfl,?_⟩
  .intro c _ hn;exact f c (λe=>hn (e▸V))
  .intro c o x L;have M:c≠b:=λe=>by rw[e,t.disj b _ A o]at L;cases L
   show(Sort.putRow (fun(b:UInt8)=>Value.int .u8 (b.toNat:Int)) w b 0 z).cell? ⟨c,o,none⟩=some x;rw[World.cell?_of_block (w:=w) (a:=⟨c,o,none⟩) (f c M)];exact t.hsat c o x L
  .intro c o d;by_cases e:c=b
   .subst e;rw[y.at_]at d;cases d;exact D
   .rw[y.other c e]at d;rw[show((Sort.putRow (fun(b:UInt8)=>Value.int .u8 (b.toNat:Int)) w b 0 z).drewN n).heap[c]? =_ from f c e];exact t.msat c o d
  .intro c o d j;rcases G c o d with rfl|O
   .exact t.disj c _ A j
   .exact t.disj c _ O j
  .intro c o d;rcases G c o d with rfl|O
   .exact .inr V
   .exact .inr (.inl (by rw[O];simp))
theorem Ii l:gR ⟨l.toArray⟩=bJ l:=by simp[gR,bJ]
theorem NS l:(bJ l).flatten=Lib.byteCells l:=by
 unfold bJ Lib.byteCells
 induction l with
 |nil=>rfl
 |cons b r c=>simp[c]
theorem bD l:(bJ l).length=l.length:=by simp[bJ]
theorem Z4:cz 260 cMJ:=by
 refine Hr func260 ?_;rintro x m h K ⟨xs,u,rfl,j,y,D,o⟩;refine⟨vO [(270,c5J),(271,aRJ),(272,c4Z)] [] [] [] [290] [] true,rfl,aE Z0 (aE ZZ (aE ZY aI)),Nq xs u m h (mK h K),bh,?_⟩;show Nq xs u m h (mK h K);dsimp only[Nq,push_cast];have z:=Lib.nDigits_le20 u j;have d:=Lib.decDigits_length u;refine aF (λA=>⟨u,?_,aD,?_,?_,?_⟩) (λA b B t e=>?_)
 .rw[eM aD aD]
 .rw[Ii,bD];omega
 .rw[Ii,bD];omega
 .rw[Ii];exact .here o
 .have f:Sub m B:=(Sub.refl m).upd t.m_ e.other;refine⟨u,rfl,aD,j,y.sub f,aD,aD,b,24,u,_,_,bo,j,e.at_,rfl,λn E C c g=>⟨aD,aD,bJ (Lib.decDigits u),KJ _,?_,?_,?_,?_⟩⟩
  .refine .lent b 0 n 290 (0,0) rfl ?_ g.at_ ?_
   .rw[Int.toNat_natCast,bD,d]
   .rw[NS,Lib.byteCells_length,d,drop_zero];exact c
  .rw[bD];omega
  .rw[bD];omega
  .exact .sub (f.upd t.m_ g.other) o
theorem brQ i:0<=IntKind.u64.wrap i/\IntKind.u64.wrap i<18446744073709551616:=by
 simp only[IntKind.wrap,IntKind.bits,IntKind.signed];simp;omega
theorem Bb i:(nF i).length<=21:=by
 have key:∀n:Int,(Lib.decDigits (IntKind.u64.wrap n).toNat).length<=20:=λn=>by
  rw[Lib.decDigits_length];exact Lib.nDigits_le20 _ (by have:=brQ n;omega)
 unfold nF
 grind
theorem aaQ:cz 240 Ss:=by
 refine gW func240 ?_;rintro e m h K ⟨xs,i,rfl,c,g,d⟩;refine⟨vO [(260,cMJ)] [] [] [] [] [(260,[0])] true,rfl,aE Z4 aI,Tz xs i m h K,bh,?_⟩;dsimp only[Tz,push_cast];have j:=brQ i;have n:=brQ (0-IntKind.u64.wrap i);refine aF (λf=>⟨aD,aD,xs++[[.int .u8 45]],(IntKind.u64.wrap (0-IntKind.u64.wrap i)).toNat,?_,aD,c,bn,?_⟩) (λf=>⟨xs,(IntKind.u64.wrap i).toNat,?_,aD,c,aD,?_⟩)
 .grind
 .have:nF i=45::Lib.decDigits (IntKind.u64.wrap (0-IntKind.u64.wrap i)).toNat:=by unfold nF;grind
  rw[this]at d;rw[append_assoc];exact d
 .grind
 .have:nF i=Lib.decDigits (IntKind.u64.wrap i).toNat:=by unfold nF;grind
  grind
theorem G4:cz 195 Ss:=by
 refine gW func195 ?_;rintro c m h K ⟨xs,i,rfl,d,e,f⟩;refine⟨vO [(240,Ss)] [] [] [] [] [(240,[0])] true,rfl,aE aaQ aI,biZ xs i m h K,bh,?_⟩;exact⟨xs,i,rfl,d,e,f⟩
def D2(a b:Int):=if a<b then-1 else if b<a then 1 else 0
def SE(a b:ByteArray):=Lib.compareBytes a.data.toList b.data.toList
def kT(a b:VV):=if D2 a.kind b.kind≠0 then D2 a.kind b.kind else if D2 a.int b.int≠0 then D2 a.int b.int else SE a.text b.text
def eC:dj->dj->Int
 |[],[]=>0
 |[],_::_=> -1
 |_::_,[]=>1
 |x::xs,y::ys=>if kT x y≠0 then kT x y else eC xs ys
def cDJ:Vc.Spec:=λc m h K=>∃n,c=[cI n]/\K (cB false) m h
def aVX:Vc.Spec:=λc m h K=>∃a b,c=[cI a,cI b]/\K (cI (D2 a b)) m h
def cLJ:Vc.Spec:=λc m h K=>∃a b,c=[YT a,YT b]/\K (cI (SE a b)) m h
def OU:Vc.Spec:=λc m h K=>∃a b,c=[aV a,aV b]/\K (cI (kT a b)) m h
def FL:Vc.Spec:=λc m h K=>∃s t a b,c=[cS s,cS t]/\bR h s a/\bR h t b/\K (cI (eC a b)) m h
def cMX:Vc.Spec:=λc m h K=>∃s t a b,c=[cS s,cS t,.val (.func (.func 156) #[] #[])]/\bR h s a/\bR h t b/\K (cI (eC a b)) m h
def Rows h s l:=bI h 1 eS (λr t=>bR h t r) s l
def b3Q:Vc.Spec:=λc m h K=>∃s t a b,c=[cS s,cS t]/\Rows h s a/\Rows h t b/\∀r:Bool,(r=true↔a=b)->K (cB r) m h
noncomputable def bNQ s t m h:=
 cZ [(156,OU)] [(2,{A:=Nat,st:=λi=>bS 39 42 [(0,sv s),(1,sv t),(2,vv (.func (.func 156) #[] #[])),(11,sv s),(12,iv s.len),(13,iv i)] [] m h})] [] [] false
noncomputable def f55_ctx s t m h:=
 cZ [(119,OU)] [(2,{A:=Nat,st:=λi=>bS 43 45 [(0,sv s),(1,sv t),(5,iv i)] [] m h})] [] [] false
noncomputable def czQ s t m h:=
 cZ [(55,FL)] [(4,{A:=Nat,st:=λi=>bS 27 29 [(0,sv s),(1,sv t),(12,iv s.len),(13,iv i)] [] m h})] [] [] false
def bgZ(n:Int)(m:MH)(h:PH)(K:da):=
  K (yF (n !=n)) m h
def bgX(n:Int)(m:MH)(h:PH)(K:da):=
  K (yF (n !=n)) m h
def Nv(a b:Int)(m:MH)(h:PH)(K:da):=
  ∃(n:Int),kQ a=kQ n/\∃(c:Int),vI b c (aZ a b (K (fI (Int.negSucc 0)) m h) (fX a b (K (fI 1) m h) (K (fI 0) m h)))
def biX(a b:Int)(m:MH)(h:PH)(K:da):=
  ∃(n:Int),kQ a=kQ n/\∃(c:Int),vI b c (aZ a b (K (fI (Int.negSucc 0)) m h) (fX a b (K (fI 1) m h) (K (fI 0) m h)))
def T5(a b:VV)(m:MH)(h:PH)(K:da):=
  ∃(r:Bool),fT (pI 30 a.enc b.enc r) r (K (fI 0) m h) (HQ (λc d=>fT (cA (fI a.kind) b.kind=cA (fI c) d) (D2 c d !=0) (K (fI (D2 c d)) m h) (HQ (λe f=>fT (cA (fI a.int) b.int=cA (fI e) f) (D2 e f !=0) (K (fI (D2 e f)) m h) (∃(g j:ByteArray),aX (lL a.text) (lL b.text)=aX (lL g) (lL j)/\K (fI (SE g j)) m h)))))
def Uv(a b:VV)(m:MH)(h:PH)(K:da):=
  aZ a.kind b.kind (K (fI (Int.negSucc 0)) m h) (fX a.kind b.kind (K (fI 1) m h) (aZ a.int b.int (K (fI (Int.negSucc 0)) m h) (cW (decide (a.int>b.int)) (K (fI 1) m h) (Op.bytesLess (EH a) (EH b)) (K (fI (Int.negSucc 0)) m h) (branch (!(Bool.or (Op.bytesLess (EH a) (EH b)) (EH a==EH b))) (K (fI 1) m h) (K (fI 0) m h)))))
abbrev HL(a:VV->VV->Prop):=∃(x c:VV),a x c
noncomputable abbrev A7 a b:=aX (xO a) (xO b)
attribute [push_cast] HL A7
def T6(s t:Sl)(m:MH)(h:PH)(K:da):=
  mP (λI x=>aA (I x) (aJ s) (aA (aJ t) (wQ 156 tE) (aA (aJ s) (bG s) (aA (bA x) (m=m) (bQ h h))))) (λI e x=>I x->aZ (↑x:Int) (aG s) (bF (λb o=>aH (aM s.a b o) (0<=(↑x:Int)) ((↑x:Int)<aG s) (∃(y:VV),aL m h b (bK o x 3) y.enc/\gQ (↑x:Int) (aG t) (K (fI 1) m h) (bF (λf g=>aH (aM t.a f g) (0<=(↑x:Int)) ((↑x:Int)<aG t) (∃(j:VV),aL m h f (bK g x 3) j.enc/\HL (λa c=>fT (A7 y j=A7 a c) (kT a c !=0) (K (fI (kT a c)) m h) (∃(d:Nat),aA (I d) (e d<e x) (aA (aJ s) (aJ t) (aA (wQ 156 tE) (aJ s) (aA (bG s) (fU (bC x 1)=bP d) (bO (m=m) h h)))))))))))) (aZ (aG s) (aG t) (K (fI (Int.negSucc 0)) m h) (K (fI 0) m h)))
def bEJ(s t:Sl)(m:MH)(h:PH)(K:da):=
  gL (λc d=>∃(a b:dj),aH (C0 s t 156=C0 c d 156) (bR h c a) (bR h d b) (K (fI (eC a b)) m h))
def ag(s t:Sl)(m:MH)(h:PH)(K:da):=
  mP (λI x=>aA (I x) (aJ s) (aA (aJ t) (bA x) (bO (m=m) h h))) (λI e x=>I x->aZ (↑x:Int) (aG s) (aZ (↑x:Int) (aG t) (bF (λb o=>aH (aM s.a b o) (0<=(↑x:Int)) ((↑x:Int)<aG s) (∃(y:VV),aL m h b (bK o x 3) y.enc/\bF (λf g=>aH (aM t.a f g) (0<=(↑x:Int)) ((↑x:Int)<aG t) (∃(j:VV),aL m h f (bK g x 3) j.enc/\HL (λa c=>fT (A7 y j=A7 a c) (kT a c !=0) (K (fI (kT a c)) m h) (∃(d:Nat),aA (I d) (e d<e x) (aA (aJ s) (aJ t) (aH (fU (bC x 1)=bP d) (m=m) (h=h) True))))))))) (aZ (aG s) (aG t) (K (fI (Int.negSucc 0)) m h) (fX (aG s) (aG t) (K (fI 1) m h) (K (fI 0) m h)))) (aZ (aG s) (aG t) (K (fI (Int.negSucc 0)) m h) (fX (aG s) (aG t) (K (fI 1) m h) (K (fI 0) m h))))
abbrev wL(a b:Sl)(c:PH)(d:dj->dj->Prop):=gL (λx e=>∃(f g:dj),aH (iH a b=iH x e) (bR c x f) (bR c e g) (d f g))
attribute [push_cast] wL
def Yq(s t:Sl)(m:MH)(h:PH)(K:da):=
  dH (aG s) (aG t) (K bB m h) (mP (λI x=>aA (I x) (aJ s) (aA (aJ t) (bG s) (aH (bA x) (m=m) (h=h) True))) (λI d x=>I x->aZ (↑x:Int) (aG s) (bF (λb o=>aH (aM s.a b o) (0<=(↑x:Int)) ((↑x:Int)<aG s) (∃(y:Sl),aL m h b (bK o x 1) (bH y)/\bF (λe f=>aH (aM t.a e f) (0<=(↑x:Int)) ((↑x:Int)<aG t) (∃(g:Sl),aL m h e (bK f x 1) (bH g)/\wL y g h (λa j=>dH (eC a j) 0 (K bB m h) (∃(c:Nat),aA (I c) (d c<d x) (aA (aJ s) (aJ t) (aA (bG s) (fU (bC x 1)=bP c) (aA (m=m) (h=h) True)))))))))) (K fM m h)))
theorem JG{a b}:D2 a b=0↔a=b:=by
 unfold D2;omega
theorem JH:∀a b:dr,Lib.compareBytes a b=0↔a=b
 |[],[]=>by simp[Lib.compareBytes]
 |[],_::_=>by simp[Lib.compareBytes]
 |_::_,[]=>by simp[Lib.compareBytes]
 |a::l,b::bs=>by
  simp only[Lib.compareBytes,List.cons.injEq];split
  .grind
  .split
   .grind
   .rename_i c d;rw[JH l bs]
    grind
theorem bnJ{a b}:SE a b=0↔a=b:=by
 unfold SE;rw[JH];constructor
 .intro h;cases a;cases b;simp only[ByteArray.mk.injEq];exact Array.toList_inj.1 h
 grind
theorem NR{a b}:kT a b=0↔a=b:=by
 obtain⟨k,i,t⟩:=a;obtain⟨d,f,g⟩:=b;simp only[kT,VV.mk.injEq];split
 .rename_i h;exact⟨λe=>absurd e h,λe=>absurd (JG.2 e.1) h⟩
 .rename_i h;have h:=Classical.not_not.1 h;split
  .rename_i c;exact⟨λe=>absurd e c,λe=>absurd (JG.2 e.2.1) c⟩
  .rename_i c;have c:=Classical.not_not.1 c;rw[bnJ];simp[JG.1 h,JG.1 c]
theorem iZ:∀{a b:dj},eC a b=0↔a=b
 |[],[]=>by simp[eC]
 |[],_::_=>by simp[eC]
 |_::_,[]=>by simp[eC]
 |x::xs,y::ys=>by
  simp only[eC,List.cons.injEq];split
  .rename_i h;exact⟨λe=>absurd e h,λe=>absurd (NR.2 e.1) h⟩
  .rename_i h;rw[iZ (a:=xs),NR.1 (Classical.not_not.1 h)];simp
theorem QX:∀a b:dr,(Op.bytesLess a b=true↔Lib.compareBytes a b= -1)/\(Lib.compareBytes a b= -1\/Lib.compareBytes a b=0\/Lib.compareBytes a b=1)
 |[],[]=>by simp[Lib.compareBytes,Op.bytesLess]
 |[],_::_=>by simp[Lib.compareBytes,Op.bytesLess]
 |_::_,[]=>by simp[Lib.compareBytes,Op.bytesLess]
 |a::l,b::bs=>by
  obtain⟨c,d⟩:=QX l bs;simp only[Lib.compareBytes,Op.bytesLess]
  grind
theorem aMQ{a b}(c:K (cI (D2 a b)) m h):Nv a b m h K:=by
 dsimp only[Nv,push_cast];refine⟨a,rfl,b,rfl,aF (λd=>?_) (λd=>aF (λe=>?_) (λe=>?_))⟩
 .rw[D2,if_pos d]at c;exact c
 .rw[D2,if_neg d,if_pos e]at c;exact c
 .rw[D2,if_neg d,if_neg e]at c;exact c
theorem Z9:cz 241 cDJ:=by
 refine gW func241 ?_;rintro c m h K ⟨n,rfl,d⟩;refine⟨cZ [] [] [] [] false,rfl,aI,bgZ n m h K,bh,?_⟩;exact(by show K (cB (n !=n)) m h;grind)
theorem Z8:cz 242 cDJ:=by
 refine gW func242 ?_;rintro c m h K ⟨n,rfl,d⟩;refine⟨cZ [] [] [] [] false,rfl,aI,bgX n m h K,bh,?_⟩;exact(by show K (cB (n !=n)) m h;grind)
theorem aeX:cz 199 aVX:=by
 refine gW func199 ?_;rintro c m h K ⟨a,b,rfl,d⟩;refine⟨cZ [(241,cDJ)] [] [] [] false,rfl,aE Z9 aI,Nv a b m h K,bh,?_⟩;exact aMQ d
theorem aeQ:cz 200 aVX:=by
 refine gW func200 ?_;rintro c m h K ⟨a,b,rfl,d⟩;refine⟨cZ [(242,cDJ)] [] [] [] false,rfl,aE Z8 aI,biX a b m h K,bh,?_⟩;exact aMQ d
theorem adJ:cz 201 cLJ:=by
 refine⟨⟨Tryz.f201,func201,rfl,bj⟩,?_⟩;rintro j g m h w K ⟨a,b,rfl,n⟩ c
 obtain⟨v,d,rfl⟩:∃v d,g=[v,d]:=by
  have:=(uD c.args).1
  match g,this with
  |[v,d],_=>grind
 have o:v= .string a:=c.args.1;have f:d= .string b:=c.args.2.1;subst o f;refine(Tryz.strings_Compare a b w).mono ?_;rintro e u ⟨rfl,rfl⟩;exact⟨_,_,m,h,rfl,n,rfl,MD c,λb t=>by simp[cI,jF]at t⟩
theorem Kg:cz 156 OU:=by
 refine gW func156 ?_;rintro e m h K ⟨a,b,rfl,c⟩;refine⟨cZ [(199,aVX),(200,aVX),(201,cLJ)] [] [] [] false,rfl,aE aeX (aE aeQ (aE adJ aI)),T5 a b m h K,bh,?_⟩;dsimp only[T5,push_cast];refine⟨_,Mh a b,aC (λd=>?_) (λd=>⟨_,_,rfl,aC (λf=>?_) (λf=>⟨_,_,rfl,aC (λg=>?_) (λg=>⟨_,_,rfl,?_⟩)⟩)⟩)⟩
 .rw[NR.2 (G6.1 d)]at c;exact c
 .rw[kT,if_pos bo]at c;exact c
 .rw[kT,if_neg bo,if_pos bo]at c;exact c
 .rw[kT,if_neg bo,if_neg bo]at c;exact c
theorem Kj:cz 119 OU:=by
 refine gW func119 ?_;rintro y m h K ⟨a,b,rfl,c⟩;refine⟨cZ [] [] [] [] false,rfl,aI,Uv a b m h K,bh,?_⟩;dsimp only[Uv,push_cast];unfold kT D2 SE at c;obtain⟨o,t⟩:=QX a.text.data.toList b.text.data.toList;refine aF (λd=>?_) (λd=>aF (λf=>?_) (λf=>aF (λg=>?_) (λg=>aF (λu=>?_) (λu=>aC (λj=>?_) (λj=>aC (λn=>?_) (λn=>?_))))))
 .rw[if_pos d]at c;exact c
 .rw[if_neg d,if_pos f]at c;exact c
 .rw[if_neg d,if_neg f,if_pos g]at c;exact c
 .rw[if_neg d,if_neg f,if_neg g,if_pos u]at c;exact c
 all_goals rw[if_neg d,if_neg f,if_neg g,if_neg u]at c
 all_goals rw[ByteArray.toList_eq,ByteArray.toList_eq]at j
 .rw[if_neg bi,if_neg bi,o.1 j]at c;exact c
 .have x:Lib.compareBytes a.text.data.toList b.text.data.toList=1:=by
   rcases t with e|e|e
   .grind
   .rw[JH]at e;rw[ByteArray.toList_eq,ByteArray.toList_eq,e]at n;simp at n
   .exact e
  rw[if_neg bi,if_neg bi,x]at c;exact c
 .have x:Lib.compareBytes a.text.data.toList b.text.data.toList=0:=by
   rw[ByteArray.toList_eq,ByteArray.toList_eq,j]at n;rw[JH];grind
  rw[if_neg bi,if_neg bi,x]at c;exact c
theorem UL{a b:dj}{x y}(c:a[i]? =some x)(d:b[i]? =some y):eC (a.drop i) (b.drop i)=if kT x y≠0 then kT x y else eC (a.drop (i+1)) (b.drop (i+1)):=by
 rw[drop_cons c,drop_cons d,eC]
theorem amX:cz 155 cMX:=by
 refine gW func155 ?_;rintro D m h K ⟨s,t,a,b,rfl,o,C,d⟩;refine⟨bNQ s t m h,rfl,aE Kg aI,T6 s t m h K,bh,?_⟩;dsimp only[T6,push_cast];have z:=bI.slen o;have f:=bI.slen C;have E:=o.len;refine⟨λi=>i<=a.length/\i<=b.length/\eC a b=eC (a.drop i) (b.drop i),λi=>a.length-i,⟨0,⟨aD,aD,bi⟩,MT⟩,λi⟨S,T,e⟩=>aF (λg=>?_) (λA=>?_)⟩
 .obtain⟨x,B⟩:=dW z g;obtain⟨F,G,u,H,I,rfl⟩:=bI.at o B;refine⟨F,G,H,aD,g,x,.imm I,aF (λA=>?_) (λc=>?_)⟩
  .rw[e,drop_cons B,drop_eq_nil_of_le (show b.length<=i by omega),eC]at d;exact d
  .have c:(i:Int)<(t.len:Int):=by omega
   obtain⟨y,j⟩:=dW f c;obtain⟨J,L,u,M,O,rfl⟩:=bI.at C j;rw[UL B j]at e;refine⟨J,L,M,aD,c,y,.imm O,x,y,rfl,aC (λP=>?_) (λQ=>⟨i+1,⟨aD,aD,?_⟩,(show a.length-(i+1)<a.length-i by omega),MT⟩)⟩
   .rw[e,if_pos bo]at d;exact d
   grind
 .have:a.drop i=[]:=drop_eq_nil_of_le aD;rw[this]at e;refine aF (λR=>?_) (λR=>?_)
  .obtain⟨y,j⟩:=dW (l:=b) (i:=i) (n:=t.len) f aD;rw[e,drop_cons j,eC]at d;exact d
  .rw[e,drop_eq_nil_of_le aD,eC]at d;exact d
theorem Fy:cz 93 FL:=by
 refine gW func93 ?_;rintro c m h K ⟨s,t,a,b,rfl,d,e,f⟩;refine⟨cZ [(155,cMX)] [] [] [] false,rfl,aE amX aI,bEJ s t m h K,bh,?_⟩;exact⟨s,t,a,b,rfl,d,e,f⟩
theorem aa:cz 55 FL:=by
 refine gW func55 ?_;rintro F m h K ⟨s,t,a,b,rfl,A,E,c⟩;refine⟨f55_ctx s t m h,rfl,aE Kj aI,ag s t m h K,bh,?_⟩;dsimp only[ag,push_cast];have f:=bI.slen A;have g:=bI.slen E;have G:=A.len;refine⟨λi=>i<=a.length/\i<=b.length/\eC a b=eC (a.drop i) (b.drop i),λi=>a.length-i,⟨0,⟨aD,aD,bi⟩,MT⟩,λi⟨T,U,j⟩=>aF (λe=>aF (λd=>?_) (λB=>?_)) (λB=>?_)⟩
 .obtain⟨x,o⟩:=dW f e;obtain⟨y,z⟩:=dW g d;obtain⟨H,I,u,J,L,rfl⟩:=bI.at A o;obtain⟨M,O,u,P,Q,rfl⟩:=bI.at E z;rw[UL o z]at j;refine⟨H,I,J,aD,e,x,.imm L,M,O,P,aD,d,y,.imm Q,x,y,rfl,aC (λR=>?_) (λS=>⟨i+1,⟨aD,aD,?_⟩,(show a.length-(i+1)<a.length-i by omega),MT⟩)⟩
  .rw[j,if_pos bo]at c;exact c
  grind
 .obtain⟨x,o⟩:=dW f e;rw[j,drop_cons o,drop_eq_nil_of_le (show b.length<=i by omega),eC]at c;exact aF (λC=>aD) (λC=>aF (λD=>c) (λD=>aD))
 .rw[j,drop_eq_nil_of_le (show a.length<=i by omega)]at c;refine aF (λC=>?_) (λC=>aF (λD=>aD) (λD=>?_))
  .obtain⟨y,z⟩:=dW (l:=b) (i:=i) (n:=t.len) g aD;rw[drop_cons z,eC]at c;exact c
  .rw[drop_eq_nil_of_le aD,eC]at c;exact c
theorem TV:cz 16 b3Q:=by
 refine gW func16 ?_;rintro G m h K ⟨s,t,a,b,rfl,o,C,D⟩;refine⟨czQ s t m h,rfl,aE aa aI,Yq s t m h K,bh,?_⟩;dsimp only[Yq,push_cast];have c:=bI.slen o;have f:=bI.slen C;have H:=o.len;have E:a≠b->K (cB false) m h:=λh=>D false ⟨λe=>(by cases e),λe=>(h e).elim⟩;refine aC (λz=>E (λe=>QY c f z (by rw[e]))) (λz=>?_);have I:=M7 c f z;refine⟨λi=>i<=a.length/\∀j:Nat,j<i->a[j]? =b[j]?,λi=>a.length-i,⟨0,⟨aD,λj W=>by omega⟩,MT⟩,λi F=>aF (λd=>?_) (λJ=>?_)⟩
 .obtain⟨x,A⟩:=dW c d;obtain⟨y,B⟩:∃y,b[i]? =some y:=dW (n:=s.len) aD d;obtain⟨L,M,u,O,P,Q⟩:=bI.at o A;obtain⟨R,S,v,T,U,V⟩:=bI.at C B;refine⟨L,M,O,aD,d,u,.imm P,R,S,T,aD,aD,v,.imm U,u,v,x,y,rfl,Q,V,aC (λg=>E (S9 A B (λe=>?_))) (λX=>?_)⟩
  .rw[iZ.2 e]at g;cases g
  .exact⟨i+1,⟨aD,Bh A B (iZ.1 bo) F.2⟩,(show a.length-(i+1)<a.length-i by omega),MT⟩
 .exact D true ⟨λ_=>Dz I aD F.2,λ_=>rfl⟩
structure Io(h:PH)(P:dj->Prop) where
 s:Sl
 l:dj
 ok:bR h s l
 pr_:P l
def Io.pr{h P}(x:Io h P):=(x.s,x.l)
def Cb h{R}(x:Io h R):Value:=.slice x.s.a x.s.len x.s.cap
theorem N2{w w':World}(c:w'.tape=w.tape)(d:w'.os=w.os)(e:w'.output=w.output)(f:w.drawn<=w'.drawn)(g:w.heap.size<=w'.heap.size)(j:∀b,b<w.heap.size->w'.heap[b]? =w.heap[b]?):
 ∃q n,w'=Sort.grow (w.drewN q) n:=by
 refine⟨w'.drawn-w.drawn,w'.heap.extract w.heap.size w'.heap.size,?_⟩;obtain⟨z,A,B,C,D⟩:=w';obtain⟨o,t,u,x,y⟩:=w;dsimp only at c d e f g j;subst c d e;unfold Sort.grow World.drewN;dsimp only;congr 1
 .grind
 .omega
structure cMQ(P:Program)(R:dj->Prop)(g:Nat)(cb:dc)(m2:MH)(h:PH)(cf:dj->dj->Int):Prop where
 ex:∃S,Sound P g S/\∀x y:Io h R,S ([cS x.s,cS y.s]++cb.map .val) m2 h (λr m' h'=>r=cI (cf x.l y.l)/\m'=m2/\h'=h)
theorem bYX{P R g cb m2 h}[Inhabited (Io h R)]{cf}(I:cMQ P R g cb m2 h cf){w blk off size}(Q:∀b o v,h b o=some v->w.cell? ⟨b,o,none⟩=some v/\b≠blk)(hm:∀b o,m2 b=some o->w.heap[b]? =some o/\b≠blk)(T:∀b o,m2 b=some o->∀i,h b i=none):
 CmpLays1 P g cb.toArray (Cb h (R:=R)) (λx y=>cf x.l y.l) blk off size w:=by
 obtain⟨S,J,U⟩:=I.ex;intro D L E V x y;obtain⟨W,M⟩:∃W,Go.Proofs.sortWorld (Cb h (R:=R)) w blk off D E L=W:=⟨_,rfl⟩
 rw[M]
 have F:∀b,b<w.heap.size->b≠blk->W.heap[b]? =w.heap[b]? :=λb n G=>by
  rw[<-M];show((Sort.putRow (Cb h) (Sort.ahead w D) blk off E).heap++L)[b]? =_;have J:(Sort.putRow (Cb h) (Sort.ahead w D) blk off E).heap.size=w.heap.size:=by unfold Sort.putRow Sort.mapBlock;simp[Sort.ahead]
  rw[Array.getElem?_append_left aD];unfold Sort.putRow Sort.mapBlock;simp only[Array.getElem?_modify,if_neg (Ne.symm G)];rfl
 have t:∀(l:dc)(w:World),DY w (l.map .val) l:=λl w=>by
  induction l with
  |nil=>trivial
  |cons a l X=>exact⟨rfl,X⟩
 have A:∀(l:dc)(i:Nat)(c:CV)(u:Value)(b:Nat),(l.map CV.val)[i]? =some c->jF c u=some b->False:=λl i c u b f n=>by
  rw[getElem?_map]at f;cases e:l[i]? with
  |none=>grind
  |some v=>rw[e]at f;simp at f;subst f;simp[jF]at n
 have Y:[cS x.s,cS y.s]++cb.map .val=([Cb h x,Cb h y]++cb).map .val:=by simp[cS,Cb]
 have B:Dr W m2 h ([cS x.s,cS y.s]++cb.map .val) ([Cb h x,Cb h y]++cb):=by
  rw[Y];refine⟨t _ _,?_,?_,T,λi j c d u v b f _ _ _ n _=>(A _ i c u b f n).elim,λi c u b f _ n=>(A _ i c u b f n).elim⟩
  .intro b o v Z;obtain⟨C,h2⟩:=Q b o v Z;rw[World.cell?_of_block (w:=w) (w':=W) (a:=⟨b,o,none⟩) (F b (World.block_lt_of_cell? w ⟨b,o,none⟩ C) h2)];exact C
  grind
 have:=J.2 _ _ m2 h W _ (U x y) B;have e2:(([Cb h x,Cb h y]++cb).toArray:Array Value)= #[Cb h x,Cb h y]++cb.toArray:=bi
 rw[e2]at this;refine this.mono ?_;rintro e w' ⟨r,u,m',h',rfl,⟨rfl,rfl,rfl⟩,H,z,_⟩;have hu:u= .int .i64 (cf x.l y.l):=H;subst hu;refine⟨rfl,N2 z.tape z.os z.output z.drawn z.size (λb n=>?_)⟩;cases O:m' b with
 |none=>
  refine z.frame b n ?_;rintro(C|⟨i,c,u,f,_,I⟩)
  .exact C O
  grind
 |some o=>rw[z.msat b o O];grind
theorem Qv{α}[Inhabited α]{d:Array α}{c}(h:Sort.PermIn 0 d.size d c):c.toList.Perm d.toList:=by
 obtain⟨e,_,f⟩:=h;have g:d.extract 0 d.size=d:=bi
 have j:c.extract 0 d.size=c:=bo
 grind
theorem Tb{h:PH}{R:dj->Prop}:∀(ps:dy),(∀p∈ps,bR h p.1 p.2)->(∀p∈ps,R p.2)->∃ds:List (Io h R),ds.map Io.pr=ps
 |[],_,_=>⟨[],rfl⟩
 |p::ps,e,f=>by
  obtain⟨ds,c⟩:=Tb (R:=R) ps (λq d=>e q (mem_cons_of_mem _ d)) (λq d=>f q (mem_cons_of_mem _ d));exact⟨⟨p.1,p.2,e p (mem_cons_self ..),f p (mem_cons_self ..)⟩::ds,by rw[map_cons,c];rfl⟩
theorem SP{R:dj->Prop}{w m h s g cb ps cf m2 t}(a':t= .func (.func g) #[] cb.toArray)(D:Dr w m h [cS s,.val t] [s.val,t])(hg:∃O,Tryz.prog.funcs[g]? =some O/\O.body.isSome=true/\(O.name== "runtime.NumGoroutine")=false)(hr:fA m s 65 1 (ps.map λp=>eS p.1))(hv:∀p∈ps,bR h p.1 p.2)(hR:∀p∈ps,R p.2)(b0:ps.length<=140737488355328)(hO:Sort.SWO (Go.Proofs.ltOf (fun(x y:Io h R)=>cf x.l y.l)))(hc:cMQ Tryz.prog R g cb m2 h cf)(H:∀b o,m2 b=some o->m b=some o/\∀i,s.a≠some ⟨b,i,none⟩){K:da}(hK:∀(I:dy)(m':MH),I.Perm ps->I.Pairwise (λp q=>¬cf q.2 p.2<0)->fA m' s 65 1 (I.map λp=>eS p.1)->(∀b,(∀i,s.a≠some ⟨b,i,none⟩)->m' b=m b)->K (.tup []) m' h):
 Calls Tryz.prog 135 #[s.val,t] w λe w'=>∃r u m' h',e= .returned u/\K r m' h'/\JK w' r u/\D4 ⟨w,zU m [cS s,.val t] [s.val,t],h,[]⟩ m' h' w'/\(∀b,jF r u=some b->(w.heap.size<=b\/zU m [cS s,.val t] [s.val,t] b)/\m' b=none/\∀i,h' b i=none):=by
 subst a';by_cases F:ps=[]
 .subst F;have a0:s.len=0:=by have:=fA.slen hr;grind
  have:=AnyF.slices_SortFunc_none Tryz.sortN s.a s.cap (.func (.func g) #[] cb.toArray) w;rw[show s.val= .slice s.a 0 s.cap by rw[<-a0];rfl];refine Calls.mono (show Calls Tryz.prog 135 #[.slice s.a 0 s.cap,.func (.func g) #[] cb.toArray] w _ from this) ?_;rintro e w' ⟨rfl,rfl⟩;exact⟨.tup [],.tuple #[],m,h,rfl,hK [] m (.refl _) .nil hr (λ_ _=>rfl),⟨#[],rfl,rfl⟩,⟨rfl,rfl,rfl,Nat.le_refl _,Nat.le_refl _,λ_ _ _=>rfl,D.hsat,D.msat,D.disj,λ_ _ _ e=>e,λ_ _ _=>rfl,λb o hb=>.inr (.inl bo)⟩,λb hb=>by simp[jF]at hb⟩
 obtain⟨p0,P⟩:=exists_mem_of_ne_nil _ F
 haveI:Inhabited (Io h R):=⟨⟨p0.1,p0.2,hv p0 P,hR p0 P⟩⟩
 rcases hr.ex with⟨rfl,hx⟩|⟨b,z,A,rfl,Q,h0,h1,h2,h3⟩
 .exact(F (bx hx)).elim
 .simp only[length_map]at h0 h3;have J:=D.msat b _ Q;have S:=(Array.getElem?_eq_some_iff.1 J).1;obtain⟨B,T⟩:∃B:List (Io h R),B.map Io.pr=ps:=Tb ps hv hR;have U:B.length=ps.length:=bo
  have V:∀j,(G:j<B.length)->A[j]? =some (Cb h B[j]):=λj G=>by
   have:(A.toList.take (ps.length*1))[j]? =((ps.map λp=>eS p.1).flatten)[j]? :=by rw[h3]
   rw[getElem?_take,if_pos aD,ct]at this;rw[this, <-T]
   have hf:((B.map Io.pr).map λp:Sl×dj=>eS p.1).flatten=B.map (Cb h):=by
    clear T U G this
    induction B with
    |nil=>rfl
    |cons a l ih=>simp only[map_cons,flatten_cons,ih];rfl
   grind
  have a1:A.size=z:=by omega
  have hH:Sort.Holds (Cb h) w b 0 B.toArray:=by
   intro j G;have G:j<B.length:=by omega
   refine⟨?_,?_⟩
   .rw[cell_of_heap J,ct,Nat.zero_add,V j G,getElem!_pos _ j aD];simp
   .unfold World.frozen?
    grind
  obtain⟨O,a2,b1,b3⟩:=hg
  have eg:∀args w,(callFunc g args).run Tryz.prog w= .ok (.enter g args) w:=λargs w=>by
   have a3:¬O.body=none:=bo
   have a4:¬O.name= "runtime.NumGoroutine" :=bo
   simp[callFunc,program,Sem.run,a2,a4,a3]
  have W:=bYX (blk:=b) (off:=0) (size:=B.toArray.size) hc (w:=w) (λc o v C=>⟨D.hsat c o v C,λe=>by rw[e,D.disj b _ Q o]at C;cases C⟩) (λc o d=>⟨D.msat c o (H c o d).1,λe=>(H c o d).2 0 (by rw[e])⟩) (λc o d=>D.disj c o (H c o d).1);have L:=Any.slices_SortFunc Tryz.sortF (Cb h) (λ_=>rfl) (λx y=>cf x.l y.l) hO g cb.toArray b 0 z B.toArray w eg W hH S bn;have e3:(Sl.val ⟨some ⟨b,0,none⟩,(ps.map λp=>eS p.1).length,z⟩)= .slice (some ⟨b,0,none⟩) B.toArray.size z:=by simp[Sl.val,U]
  rw[e3];refine Calls.mono L ?_;rintro e w' ⟨rfl,f,n,os,X,a5,rfl⟩;have a6:f.size=B.length:=by have:=X.1;omega
  have a7:=Qv X;obtain⟨m',E⟩:∃m',pO m m' b (.cells (Sort.putCells (Cb h) 0 f A) 65 (0,0)):=⟨λc=>if c=b then some (.cells (Sort.putCells (Cb h) 0 f A) 65 (0,0))else m c,bi,λc d=>by simp[d]⟩
  have b4:(Sort.putRow (Cb h) (Sort.ahead w n) b 0 f).heap.size=w.heap.size:=by unfold Sort.putRow Sort.mapBlock;simp[Sort.ahead]
  have b2:(Go.Proofs.sortWorld (Cb h) w b 0 n f os).heap[b]? =some (.cells (Sort.putCells (Cb h) 0 f A) 65 (0,0)):=by
   show((Sort.putRow (Cb h) (Sort.ahead w n) b 0 f).heap++os)[b]? =_;rw[Array.getElem?_append_left aD];unfold Sort.putRow Sort.mapBlock;simp only[Array.getElem?_modify,if_true];show Option.map _ w.heap[b]? =_;rw[J];rfl
  have Y:∀c,c<w.heap.size->c≠b->(Go.Proofs.sortWorld (Cb h) w b 0 n f os).heap[c]? =w.heap[c]? :=λc d M=>by
   show((Sort.putRow (Cb h) (Sort.ahead w n) b 0 f).heap++os)[c]? =_;rw[Array.getElem?_append_left aD];unfold Sort.putRow Sort.mapBlock;simp only[Array.getElem?_modify,if_neg (Ne.symm M)];rfl
  have hE:zU m [cS ⟨some ⟨b,0,none⟩,(ps.map λp=>eS p.1).length,z⟩,.val (.func (.func g) #[] cb.toArray)] [.slice (some ⟨b,0,none⟩) B.toArray.size z,.func (.func g) #[] cb.toArray] b:=.inl (by rw[Q];simp);refine⟨.tup [],.tuple #[],m',h,rfl,hK (f.toList.map Io.pr) m' ?_ ?_ ?_ (λc d=>E.other c (λe=>d 0 (by rw[e]))),⟨#[],rfl,rfl⟩,⟨rfl,rfl,rfl,Nat.le_add_right _ _,?_,?_,?_,?_,?_,λ_ _ _ e=>e,λ_ _ _=>rfl,?_⟩,λb hb=>by simp[jF]at hb⟩
  .grind
  .rw[pairwise_map,pairwise_iff_getElem];intro i j hi G a8 Z;have hi:i<f.size:=by omega
   have G:j<f.size:=by omega
   have:=a5 i j (Nat.zero_le _) a8 bn;rw[getElem!_pos f i hi,getElem!_pos f j G]at this;unfold Go.Proofs.ltOf at this;simp only[decide_eq_false_iff_not]at this;simp only[Array.getElem_toList]at Z;exact this Z
  .refine⟨⟨λe he=>?_,λe he u hu=>?_⟩,.inr ⟨b,z,_,?_,E.at_,bn,h1,?_,?_⟩⟩
   .obtain⟨x,_,rfl⟩:=mem_map.1 he;rfl
   .obtain⟨x,_,rfl⟩:=mem_map.1 he;have:u= .slice x.1.a x.1.len x.1.cap:=by simpa[eS]using hu
    rw[this];rfl
   .grind
   .simp[Sort.putCells,a1]
   .apply ext_getElem?;intro j
    have hf:((f.toList.map Io.pr).map λp:Sl×dj=>eS p.1).flatten=f.toList.map (Cb h):=by
     generalize f.toList=l
     induction l with
     |nil=>rfl
     |cons a l ih=>simp only[map_cons,flatten_cons,ih];rfl
    rw[hf,getElem?_take];simp only[length_map,Array.length_toList,Nat.mul_one];by_cases G:j<f.size
    .rw[if_pos G,ct,getElem?_map,ct,Array.getElem?_eq_getElem G];have a9:j<A.size:=by omega
     simp only[Sort.putCells,Array.getElem?_mapIdx,Array.getElem?_eq_getElem a9,Option.map_some,Nat.zero_le,Nat.zero_add,Nat.sub_zero,true_and]
     grind
    grind
  .grind
  .grind
  .intro c o v C;have M:c≠b:=λe=>by rw[e,D.disj b _ Q o]at C;cases C
   have h5:=D.hsat c o v C;rw[World.cell?_of_block (w:=w) (a:=⟨c,o,none⟩) (Y c (World.block_lt_of_cell? w ⟨c,o,none⟩ h5) M)];exact h5
  .intro c o d;by_cases e:c=b
   .subst e;rw[E.at_]at d;grind
   .rw[E.other c e]at d;have h5:=D.msat c o d
    grind
  .intro c o d i;by_cases e:c=b
   .subst e;exact D.disj c _ Q i
   .rw[E.other c e]at d;exact D.disj c o d i
  .intro c o d;by_cases e:c=b
   .grind
   .rw[E.other c e]at d;exact .inr (.inl bo)
end Go.Ps
namespace Go.Vc
open Go List
theorem fA.rd{m h s E sz xs}(r:fA m s E sz xs){i e}(c:xs[i]? =some e):∃b,s.a=some ⟨b,0,none⟩/\aL m h b (i*sz) e:=by
 rcases r.ex with⟨_,rfl⟩|⟨b,o,d,rfl,t,A,B,C,u⟩
 .simp at c
 .refine⟨b,rfl,.lent d E (0,0) t ?_⟩;have y:=(bz c);have f:=r.rows.len e (ce c)
  have g:∀(l:List dc)(k:Nat),(∀x∈l,x.length=sz)->l[k]? =some e->(l.flatten.drop (k*sz)).take sz=e:=by
   intro l
   induction l with
   |nil=>grind
   |cons a l D=>
    intro k z F;have j:=z a (mem_cons_self ..);cases k with
    |zero=>
     grind
    |succ k=>
     rw[flatten_cons,Nat.succ_mul,Nat.add_comm, <-drop_drop, <-j,drop_left,j]
     grind
  have n:=g xs i r.rows.len c;rw[f];rw[<-u]at n;rw[drop_take,take_take]at n
  grind
theorem sV.sub{m m' h s sz c}(r:sV m h s sz c)(d:∀b o,m b=some o->m' b=some o):sV m' h s sz c:=by
 rcases r with r|⟨b,o,e,E,f,g,j,n,t⟩
 .exact .imm r
 .exact .lent b o e E f g j (d _ _ n) t
end Go.Vc
namespace Go.Ps
open Go Go.Vc Go.Proofs List Tryz
variable{K:da}{m:MH}{h:PH}{s:jC}{ps:db}{cb:Nat}{sc:cK}{v:QV}{p:Pred}{l:db}{i:Nat}{N:Nat}{m':MH}{h':PH}{co:db}{gr:db}{od:di}{ta:Int}{li:Int}{xs:List dc}{sz:Nat}{ks:List db}{rs:db}{r:Sl}{a:db}{b:Nat}
structure U3{α:Type}(c:α->α->Int):Prop where
 anti:∀x y,c x y= -c y x
 trans:∀x y z,c x y<=0->c y z<=0->c x z<=0
theorem U3.zero{α}{c:α->α->Int}(h:U3 c){x y z}(d:c x y<=0)(e:c y z<=0)(f:c x z=0):c x y=0/\c y z=0:=by
 have g:=h.anti x z;have j:=h.anti x y;have n:=h.anti y z;have o:=h.trans z x y aD d;have t:=h.trans y z x e aD;omega
theorem VE{c d:Int}(h:(if c≠0 then c else d)<=0):c<=0:=by
 omega
theorem U3.lex{α}{c:α->α->Int}{d}(h:U3 c)(k:U3 d):U3 (λx y=>if c x y≠0 then c x y else d x y):=by
 refine⟨λx y=>?_,λx y z f g=>?_⟩
 .have a:=h.anti x y;have b:=k.anti x y;omega
 .have j:c x y<=0:=VE f;have n:c y z<=0:=VE g;have o:=h.trans x y z j n;show(if c x z≠0 then c x z else d x z)<=0;by_cases e:c x z=0
  .obtain⟨t,u⟩:=h.zero j n e;have f:(if c x y≠0 then c x y else d x y)<=0:=f;have g:(if c y z≠0 then c y z else d y z)<=0:=g;rw[if_neg aD]at f;rw[if_neg aD]at g;rw[if_neg (bx e)];exact k.trans x y z f g
  omega
theorem U3.of{α β c}(h:U3 c)(f:β->α):U3 (λx y=>c (f x) (f y)):=⟨λx y=>h.anti _ _,λx y z=>h.trans _ _ _⟩
theorem YP:U3 D2:=by
 refine⟨λx y=>?_,λx y z=>?_⟩
 .unfold D2;omega
 .unfold D2;omega
theorem UN:∀a b:dr,Lib.compareBytes a b= -Lib.compareBytes b a
 |[],[]=>rfl
 |[],_::_=>rfl
 |_::_,[]=>rfl
 |a::l,b::k=>by
  simp only[Lib.compareBytes];by_cases c:a<b
  .grind
  .by_cases d:b<a
   .simp[c,d]
   .simp only[c,d,if_false];exact UN l k
theorem RS:∀a b c:dr,Lib.compareBytes a b<=0->Lib.compareBytes b c<=0->Lib.compareBytes a c<=0
 |[],_,[],_,_=>by simp[Lib.compareBytes]
 |[],_,_::_,_,_=>by simp[Lib.compareBytes]
 |_::_,[],_,f,_=>by simp[Lib.compareBytes]at f
 |_::_,_::_,[],_,d=>by simp[Lib.compareBytes]at d
 |a::l,b::k,c::q,f,d=>by
  simp only[Lib.compareBytes]at f d⊢
  by_cases g:a<c
  .simp[g]
  .by_cases j:a<b
   .grind
   .by_cases n:b<a
    .grind
    .have e:a=b:=UInt8.le_antisymm (UInt8.not_lt.1 n) (UInt8.not_lt.1 j);subst e;simp only[j,g,if_false]at f d⊢
     by_cases o:c<a
     .grind
     .simp only[o,if_false]at d⊢
      exact RS l k q f d
theorem Mt:U3 kT:=by
 have c:U3 SE:=⟨λx y=>UN _ _,λx y z=>RS _ _ _⟩
 exact(YP.of VV.kind).lex ((YP.of VV.int).lex (c.of VV.text))
theorem nG:∀a b,eC a b= -eC b a
 |[],[]=>rfl
 |[],_::_=>rfl
 |_::_,[]=>rfl
 |x::l,y::k=>by
  have a:=Mt.anti x y;simp only[eC];by_cases e:kT x y=0
  .rw[if_neg (bx e),if_neg aD];exact nG l k
  omega
theorem Bg:∀a b c,eC a b<=0->eC b c<=0->eC a c<=0
 |[],_,[],_,_=>by simp[eC]
 |[],_,_::_,_,_=>by simp[eC]
 |_::_,[],_,d,_=>by simp[eC]at d
 |_::_,_::_,[],_,f=>by simp[eC]at f
 |x::l,y::k,z::q,d,f=>by
  simp only[eC]at d f⊢
  have g:kT x y<=0:=VE d;have j:kT y z<=0:=VE f;have n:=Mt.trans x y z g j;by_cases e:kT x z=0
  .obtain⟨o,t⟩:=Mt.zero g j e;rw[if_neg aD]at d;rw[if_neg aD]at f;rw[if_neg (bx e)];exact Bg l k q d f
  omega
theorem Ih:U3 eC:=⟨nG,Bg⟩
theorem U3.swo{R cf}(c:U3 cf):Sort.SWO (Go.Proofs.ltOf (fun(x y:Io h R)=>cf x.l y.l)):=by
 refine⟨λx=>?_,λx y z d f=>?_,λx y z d f=>?_⟩
 .have:=c.anti x.l x.l;unfold Go.Proofs.ltOf;simp;omega
 .unfold Go.Proofs.ltOf at*
  simp only[cr]at*
  have t:=c.trans x.l y.l z.l aD aD;by_cases e:cf x.l z.l=0
  .have:=c.zero (x:=x.l) (y:=y.l) (z:=z.l) aD aD e;omega
  .omega
 .unfold Go.Proofs.ltOf at*
  simp only[decide_eq_false_iff_not]at*
  have g:=c.anti x.l y.l;have j:=c.anti y.l z.l;have n:=c.anti x.l z.l;have t:=c.trans z.l y.l x.l aD aD;omega
def Nf(x:dj):de->de
 |[]=>[x]
 |y::l=>if eC x y<0 then x::y::l else if eC x y=0 then y::l else y::Nf x l
def sK(l:de):=l.foldr Nf []
abbrev fW(l:de):=l.Pairwise λx y=>eC x y<0
theorem Q3{x z:dj}:∀{l:de},z∈Nf x l↔z=x\/z∈l
 |[]=>by simp[Nf]
 |y::l=>by
  simp only[Nf];split
  .simp
  .split
   .rename_i _ e;have:=iZ.1 e
    grind
   .simp only[mem_cons,Q3 (l:=l)]
    grind
theorem OD{x:dj}:∀{l:de},fW l->fW (Nf x l)
 |[],_=>by simp[Nf]
 |y::l,h=>by
  obtain⟨g,f⟩:=pairwise_cons.1 h;simp only[Nf];split
  .rename_i d;refine pairwise_cons.2 ⟨λz c=>?_,h⟩;rcases mem_cons.1 c with rfl|c
   .exact d
   .have t:=Bg x y z aD bo;by_cases e:eC x z=0
    .have:=Ih.zero (x:=x) (y:=y) (z:=z) aD bo e;omega
    .omega
  .split
   .exact h
   .rename_i j n;refine pairwise_cons.2 ⟨λz c=>?_,OD f⟩;rcases Q3.1 c with rfl|c
    .have:=nG z y;omega
    grind
theorem xX{x:dj}:∀{l:de},x∈sK l↔x∈l
 |[]=>by simp[sK]
 |y::l=>by
  show x∈Nf y (sK l)↔_;rw[Q3,xX,mem_cons]
theorem sZ:∀(l:de),fW (sK l)
 |[]=>.nil
 |_::l=>OD (sZ l)
theorem FR:∀{a b:de},fW a->fW b->(∀x,x∈a↔x∈b)->a=b
 |[],[],_,_,_=>rfl
 |[],y::_,_,_,h=>by have:=(h y).2 bi;simp at this
 |x::_,[],_,_,h=>by have:=(h x).1 bi;simp at this
 |x::a,y::b,c,d,h=>by
  obtain⟨f,g⟩:=pairwise_cons.1 c;obtain⟨j,n⟩:=pairwise_cons.1 d;have o:∀z,¬eC z z<0:=λz=>by have:=nG z z;omega
  have e:x=y:=by
   rcases mem_cons.1 ((h x).1 bi)with e|t
   .exact e
   .rcases mem_cons.1 ((h y).2 bi)with e|u
    .exact e.symm
    .have B:=f y u;have C:=j x t;have:=nG x y;omega
  subst e;congr 1;refine FR g n (λz=>⟨λA=>?_,λA=>?_⟩)
  .grind
  grind
theorem uV{l r}(c:fW r)(d:∀x,x∈r↔x∈l):r=sK l:=FR c (sZ l) λx=>by rw[d,xX]
theorem A4{l}(h:fW l):sK l=l:=(uV h λ_=>Iff.rfl).symm
def aVJ:Vc.Spec:=λc m h K=>∃(s:Sl)(d:dg),c=[cS s]/\sV m h s 1 (d.map eS)/\d.length<=502633886983/\∀e m',fA m' e 65 1 (d.map eS)->(∀b o,m b=some o->m' b=some o)->(∀b i,e.a=some ⟨b,i,none⟩->m b=none)->K (cS e) m' h
def b1J:Vc.Spec:=λd m h K=>∃(s:Sl)(ps:dy),d=[cS s,.val (.func (.func 93) #[] #[])]/\fA m s 65 1 (ps.map λp=>eS p.1)/\(∀p∈ps,bR h p.1 p.2)/\ps.length<=140737488355328/\
 ∀(c:dy)(m':MH),c.Perm ps->c.Pairwise (λp q=>¬eC q.2 p.2<0)->fA m' s 65 1 (c.map λp=>eS p.1)->(∀b,(∀i,s.a≠some ⟨b,i,none⟩)->m' b=m b)->K (.tup []) m' h
structure dR(h:PH)(us:dg)(rs:de):Prop where
 len:us.length=rs.length
 at_:∀(j:Nat) x,rs[j]? =some x->∃u,us[j]? =some u/\bR h u x
def c2Z:Vc.Spec:=λc m h K=>∃s d l,c=[cS s]/\sV m h s 1 (d.map eS)/\dR h d l/\l.length<=502633886983/\∀e h',PH.le h h'->Rows h' e (sK l)->K (cS e) m h'
noncomputable def coX:=
 cZ [(134,aVJ),(135,b1J),(93,FL)] [(5,{A:=Nat×dg×Sl×MH×PH,st:=λ⟨i,c,s,m,h⟩=>bS 38 39 [(3,sv s),(4,.at (.lst 35)),(11,sv s),(12,iv s.len),(13,iv i)] [(35,.lst 65 1 (c.map eS))] m h})] [] [] false
def RB(n c:Nat)(m:MH)(h:PH)(K:da):=
  K Dn m h
theorem bQZ n c m h K:RB n c m h K=(yC (vO [] [] [] [] [58,1058] [] false) Tryz.f134 (dQ Tryz.f134) (entry Tryz.f134.ntmps [.val (.slice none n c)] m h) K):=bh
abbrev qC(a:Sl->MH->Prop):=∀(x:Sl)(c:MH),a x c
abbrev E5(a:Prop)(b:(List dc)->Prop):=a->∃(x:List dc),b x
attribute [push_cast] qC E5
def RA(a:Addr)(n c:Nat)(m:MH)(h:PH)(K:da):=
  qC (λs d=>E5 (sX m d h s 65 1 []) (λx=>fA d (Sl.mk s.a s.len s.cap) 65 1 x/\∃(y:List dc),aA (eU 1 y) (sV d h (Sl.mk (Option.some a) n c) 1 y) (aA (tJ x y 24) (oL x y) (qC (λe f=>kK d f (Sl.mk s.a s.len s.cap) e 65 1 (x++y)->K (cM e) f h)))))
theorem bQX a n c m h K:RA a n c m h K=(yC (vO [] [] [] [] [58,1058] [] false) Tryz.f134 (dQ Tryz.f134) (entry Tryz.f134.ntmps [.val (.slice (some a) n c)] m h) K):=bh
noncomputable abbrev jY a:=List.map eS a
abbrev Lj a b c d:=fA a b 65 c (List.map (fun(x:Sl×dj)=>bH x.1) d)
noncomputable abbrev lW(a:Nat×dg×Sl×MH×PH):=a.2.2
noncomputable abbrev Al a:=bW 65 1 (List.map eS a)
abbrev vA a:=oH 65 1 (Al a)
abbrev jZ(a:Nat->Option Obj)(b:Sl×MH×PH):=cN a b.2
noncomputable abbrev dP(a:Sl×MH×PH):=a.2.2
noncomputable abbrev vD a:=dP (lW a)
noncomputable abbrev eT(a:Sl×MH×PH):=a.2.1
noncomputable abbrev GS(a:List dc):=[]++a
abbrev vB a b:=aA (uP a 1) (Cj a) b
abbrev Gx a b:=aY (lW a).1 (lW b).1
abbrev lN a b c:=bW 65 1 (vU a (vV b))=Al c
abbrev pW a b:=Al a=Al b
attribute [push_cast] jY Lj lW Al vA jZ dP vD eT GS vB Gx lN pW
def Ri(s:Sl)(m:MH)(h:PH)(K:da):=
  ∃(C:Sl)(u:dg),aH (gK s=gK C) (sV m h C 1 (jY u)) (u.length<=502633886983) (∀(f:Sl)(z:MH),fA z f 65 1 (jY u)->(∀(b:Nat)(o:Obj),m b=Option.some o->z b=Option.some o)->(∀(b i:Nat),aM f.a b i->m b=Option.none)->∃(A:Sl)(p:dy),aA (aX (cM f) (DI 93 tE)=aX (cM A) (DI 93 tE)) (Lj z A 1 p) (aA (∀(e:Sl×dj),List.Mem e p->bR h e.1 e.2) (iK p.length) (∀(e:dy)(B:MH),List.Perm e p->List.Pairwise (fun(F:Sl×dj)=>fun(q:Sl×dj)=>¬(eC q.2 F.2<0)) e->Lj B A 1 e->(∀(b:Nat),(∀(i:Nat),xH (aM A.a b i))->B b=z b)->∃(I:Nat×dg×Sl×MH×PH->Prop)(g:Nat×dg×Sl×MH×PH->Nat),(∃(x:Nat×dg×Sl×MH×PH),aA (I x)
 (aY f (lW x).1) (aA (eL 35) (aY f (lW x).1) (aA (bZ f (lW x).1) (bA x.1) (aA (vA x.2.1) (jZ B (lW x)) (bQ h (vD x))))))/\∀(x:Nat×dg×Sl×MH×PH),I x->aZ (↑x.1:Int) (aG (lW x).1) (bF (λb o=>aH (aM (lW x).1.a b o) (0<=(↑x.1:Int)) ((↑x.1:Int)<aG (lW x).1) (∃(y:Sl),aL (eT (lW x)) (vD x) b (bK o x.1 1) (bH y)/\dO (↑x.1:Int) 0 (∃(d:List dc),aA (eU 3 d) (cO (vD x) (Sl.mk y.a y.len y.cap) 3 d) (aA (iK ((0+d.length)*32)) (iK (0+d.length)) (bN (vD x) 3 (GS d) (λj n=>vB x.2.1 (∃(c:Nat×dg×Sl×MH×PH),aA (I c) (g c<g x) (aA (Gx x c) (eL 35) (aA (Gx x c) (bZ (lW x).1 (lW c).1) (aA (fU (bC x.1 1)=bP c.1) (lN
 x.2.1 j c.2.1) (bO (jZ (eT (lW x)) (lW c)) n (vD c)))))))))) (bF (λD E=>aH (aM (lW x).1.a D E) (0<=kE ((↑x.1:Int)-1)) (kE ((↑x.1:Int)-1)<aG (lW x).1) (∃(d:Sl),aL (eT (lW x)) (vD x) D (fF E (kE ((↑x.1:Int)-1)) 1) (bH d)/\wL d y (vD x) (λa G=>dH (eC a G) 0 (∃(t:List dc),aA (eU 3 t) (cO (vD x) (Sl.mk y.a y.len y.cap) 3 t) (aA (iK ((0+t.length)*32)) (iK (0+t.length)) (bN (vD x) 3 (GS t) (λj n=>vB x.2.1 (∃(c:Nat×dg×Sl×MH×PH),aA (I c) (g c<g x) (aA (Gx x c) (eL 35) (aA (Gx x c) (bZ (lW x).1 (lW c).1) (aA (fU (bC x.1 1)=bP c.1) (lN x.2.1 j c.2.1) (bO (jZ (eT (lW x)) (lW c)) n (vD
 c)))))))))) (∃(c:Nat×dg×Sl×MH×PH),aA (I c) (g c<g x) (aA (Gx x c) (eL 35) (aA (Gx x c) (bZ (lW x).1 (lW c).1) (aA (fU (bC x.1 1)=bP c.1) (pW x.2.1 c.2.1) (bO (jZ (eT (lW x)) (lW c)) (vD x) (vD c))))))))))))) (bN (vD x) 1 (List.map eS x.2.1) (λj n=>K (cM j) (eT (lW x)) n)))))
theorem Ad(l:dg):eU 1 (l.map eS):=by
 constructor
 .intro e c;obtain⟨x,_,rfl⟩:=mem_map.1 c;rfl
 .intro e c u d;obtain⟨x,_,rfl⟩:=mem_map.1 c;have:u= .slice x.a x.len x.cap:=by simpa[eS]using d
  rw[this];rfl
theorem HE(l:dj):eU 3 (l.map VV.enc):=by
 constructor
 .intro e c;obtain⟨x,_,rfl⟩:=mem_map.1 c;rfl
 .intro e c u d;obtain⟨x,_,rfl⟩:=mem_map.1 c;simp only[VV.enc,mem_cons,not_mem_nil,or_false]at d;rcases d with rfl|rfl|rfl<;>rfl
theorem aqQ:cz 134 aVJ:=by
 refine eG (fn:=Tryz.f134) (c:=dQ Tryz.f134) func134 rfl bj ?_;rintro A m h K ⟨s,t,rfl,g,D,u⟩;obtain⟨a,n,c⟩:=s;refine⟨vO [] [] [] [] [58,1058] [] false,rfl,aI,?_⟩;cases a with
 |none=>
  show yC _ Tryz.f134 (dQ Tryz.f134) (entry Tryz.f134.ntmps [.val (.slice none n c)] m h) K;rw[<-bQZ n c m h K];dsimp only[RB,push_cast]
  have e:t.map eS=[]:=by
   rcases g with g|⟨b,o,F,E,G,e,_⟩
   .rcases g.row with e|⟨b,o,e,_⟩
    .exact e
    .cases e
   .cases e
  rw[e]at u;exact u ⟨none,0,0⟩ m ⟨⟨(λe x=>by cases x),(λe x=>by cases x)⟩,.inl ⟨rfl,rfl⟩⟩ (λb o e=>e) (λb i e=>by cases e)
 |some a=>
  show yC _ Tryz.f134 (dQ Tryz.f134) (entry Tryz.f134.ntmps [.val (.slice (some a) n c)] m h) K;rw[<-bQX a n c m h K];dsimp only[RA,push_cast];intro s m' d
  have sub:∀b o,m b=some o->m' b=some o:=λb o f=>by
   rw[d.other b (λi e=>by rw[(d.fresh b i e).m_]at f;cases f)];exact f
  refine⟨[],d.row,t.map eS,Ad t,g.sub sub,bn,bn,λB C y=>u B C (bx y.row) (λb o f=>?_) (λb i e=>?_)⟩
  .exact y.other b o (sub b o f) (λi e=>by have e:s.a=some ⟨b,i,none⟩:=e;rw[(d.fresh b i e).m_]at f;cases f)
  .rcases y.fresh b i e with z|⟨j,z⟩
   .cases H:m b with
    |none=>rfl
    |some o=>grind
   .exact(d.fresh b j z).m_
theorem Yv:cz 135 b1J:=by
 refine⟨⟨Tryz.f135,func135,rfl,bj⟩,?_⟩;rintro f e m h w K ⟨s,ps,rfl,j,n,t,u⟩ c
 obtain⟨v,d,rfl⟩:∃v d,e=[v,d]:=by
  have:=(uD c.args).1
  match e,this with
  |[v,d],_=>grind
 have z:v=s.val:=c.args.1;have A:d= .func (.func 93) #[] #[]:=c.args.2.1;subst z A;refine SP (R:=λ_=>True) (g:=93) (cb:=[]) (m2:=λ_=>none) (cf:=eC) rfl c ⟨Tryz.f93,func93,rfl,bj⟩ j n (λ_ _=>trivial) t Ih.swo ⟨FL,Fy,λx y=>⟨x.s,y.s,x.l,y.l,rfl,x.ok,y.ok,rfl,rfl,rfl⟩⟩ (λb o B=>by cases B) u
theorem dR.mono{us rs}(x:dR h us rs)(le:PH.le h h'):dR h' us rs:=⟨x.len,λj r d=>(x.at_ j r d).imp λ_ c=>⟨c.1,bR.mono c.2 le⟩⟩
theorem dR.nil h:dR h [] []:=⟨rfl,λj x c=>by simp at c⟩
theorem dR.snoc{us rs}(x:dR h us rs){u r}(d:bR h u r):dR h (us++[u]) (rs++[r]):=by
 refine⟨by simp[x.len],λj y c=>?_⟩;by_cases f:j<rs.length
 .rw[getElem?_append_left f]at c;obtain⟨v,g,n⟩:=x.at_ j y c
  grind
 .rw[getElem?_append_right aD]at c;have:=(bz c);simp at this;have e:j=rs.length:=by omega
  subst e;simp at c;subst c;exact⟨u,by rw[getElem?_append_right (by rw[x.len];omega),x.len];simp,d⟩
theorem dR.rows{h us rs s}(x:dR h us rs)(c:cO h s 1 (us.map eS))(d:rs.length<=502633886983):Rows h s rs:=⟨⟨us,c,x.len.symm,x.at_⟩,d⟩
structure azQ(ps':dy)(s1:Sl)(m2:MH)(h:PH)(i:Nat)(us2:dg)(s2:Sl)(mx:MH)(hx:PH):Prop where
 s_:s2=s1
 m_:mx=m2
 le:PH.le h hx
 hi:i<=ps'.length
 hu:us2.length<=i
 ex:∃rs,dR hx us2 rs/\fW rs/\∀x,x∈rs↔x∈(ps'.take i).map Prod.snd
theorem OM{e u r us}{Q:Sl->PH->Prop}(c:bR e u r)(y:us.length<=502633886983)(g:∀s h',e.le h'->bR h' s r->Q s h'):
 ∃d:List dc,eU 3 d/\cO e (Sl.mk u.a u.len u.cap) 3 d/\(0+d.length)*32<=140737488355328/\0+d.length<=140737488355328/\∀(s:Sl)(h':PH),e.le h'->cO h' s 3 ([]++d)->
  ((List.map eS us).length+1)*24<=140737488355328/\(List.map eS us).length<140737488355328/\Q s h':=by
 obtain⟨f,j,n,o⟩:=c.ex;have t:=c.len;refine⟨f.map VV.enc,HE f,j,bo,bo,λs h' le x=>⟨bo,bo,g s h' le ⟨⟨f,x,n,o⟩,t⟩⟩⟩
theorem cUZ{s us l}(hr:sV m h s 1 (us.map eS))(F:dR h us l)(b4:l.length<=502633886983)(hK:∀s' h',PH.le h h'->Rows h' s' (sK l)->K (cS s') m h'):Ri s m h (mK h K):=by
 dsimp only[Ri,push_cast];have b5:=F.len.symm;have b6:=F.at_;refine⟨s,us,rfl,hr,aD,λs1 m1 a0 a1 b2=>⟨s1,us.zip l,rfl,?_,λp G=>?_,bn,λc m2 d P f a2=>?_⟩⟩
 .have:(us.zip l).map (λp=>[gP p.1])=us.map eS:=by
   rw[show(λp:Sl×dj=>[gP p.1])=eS∘Prod.fst from rfl, <-map_map,map_fst_zip aD]
  grind
 .obtain⟨j,C⟩:=getElem?_of_mem G;rw[getElem?_zip_eq_some]at C
  grind
 .have b7:c.length=us.length:=by rw[d.length_eq];simp;omega
  have Q:=fA.slen f;simp only[length_map]at Q
  have R:∀{i:Nat}{p:Sl×dj},c[i]? =some p->bR h p.1 p.2:=fun{i p} G=>by
   have:=d.mem_iff.1 (ce G);obtain⟨j,C⟩:=getElem?_of_mem this;rw[getElem?_zip_eq_some]at C
   grind
  have b3:∀x,x∈c.map Prod.snd↔x∈l:=λx=>by
   rw[(d.map Prod.snd).mem_iff,map_snd_zip aD]
  have H:∀b o,m b=some o->m2 b=some o:=λb o hb=>by
   grind
  refine⟨λx=>azQ c s1 m2 h x.1 x.2.1 x.2.2.1 x.2.2.2.1 x.2.2.2.2,λx=>c.length-x.1,⟨(0,[],s1,m2,h),⟨rfl,rfl,.refl _,bi,bi,[],.nil h,.nil,bi⟩,MT⟩,?_⟩;rintro⟨i,n,I,J,S⟩ ⟨e1,e2,le,hi,a3,rs,u,L,D⟩;dsimp only at e1 e2 le hi a3 u;subst e1 e2;refine aF (λT=>?_) (λa4=>?_)
  .dsimp only at T;have U:i<c.length:=by omega
   obtain⟨p,G⟩:∃p,c[i]? =some p:=⟨_,cd U⟩
   obtain⟨b,e1,r1⟩:=f.rd (h:=S) (i:=i) (e:=eS p.1) (by simp[G];rfl);have M:=bR.mono (R G) le
   have a5:∀x,x∈(c.take (i+1)).map Prod.snd↔x∈(c.take i).map Prod.snd\/x=p.2:=λx=>by
    rw[cq,G];simp
   have V:(∀y∈rs,eC y p.2<0)->∀(s:Sl)(h':PH),S.le h'->bR h' s p.2->azQ c I J h (i+1) (n++[s]) I J h':=λhc s h' g A=>by
    refine⟨rfl,rfl,le.trans g,aD,bn,rs++[p.2],(u.mono g).snoc A,pairwise_append.2 ⟨L,bi,λy O z hz=>?_⟩,λx=>?_⟩
    .grind
    grind
   have keep:p.2∈rs->azQ c I J h (i+1) n I J S:=λhc=>
    ⟨rfl,rfl,le,aD,aD,rs,u,L,λx=>bo⟩
   refine⟨b,0,e1,aD,T,p.1,by simpa[eS]using r1,aC (λh0=>?_) (λh0=>?_)⟩
   .have h0:i=0:=bo
    subst h0
    have b8:rs=[]:=by
     cases rs with
     |nil=>rfl
     |cons y _=>have:=(D y).1 bi;simp at this
    exact OM M bo (λs h' g A=>⟨(0+1,n++[s],I,J,h'),V bo s h' g A,bo,rfl,rfl,rfl,rfl,rfl,by simp[eS],rfl,rfl,trivial⟩)
   .have h0:i≠0:=bo
    have hw:IntKind.i64.wrap ((i:Int)-1)=((i-1:Nat):Int):=by rw[eM aD aD];omega
    obtain⟨q,W⟩:∃q,c[i-1]? =some q:=⟨_,cd aD⟩
    obtain⟨b',a6,a7⟩:=f.rd (h:=S) (i:=i-1) (e:=eS q.1) (by simp[W];rfl);have a8:=bR.mono (R W) le
    have X:q.2∈rs:=by
     rw[D];refine mem_map.2 ⟨q,?_,rfl⟩;exact mem_of_getElem? (i:=i-1) bo
    have B:∀y∈rs,eC y q.2<=0:=λy O=>by
     rw[D]at O;obtain⟨z,hz,rfl⟩:=mem_map.1 O;obtain⟨j,C⟩:=getElem?_of_mem hz;have a9:=(bz C);simp only[length_take]at a9;rw[getElem?_take,if_pos aD]at C;by_cases e:j=i-1
     .subst e;rw[W]at C;cases C;have:=nG q.2 q.2;omega
     .have h1:=pairwise_iff_getElem.1 P j (i-1) aD aD aD;rw[(List.getElem?_eq_some_iff.1 C).2,(List.getElem?_eq_some_iff.1 W).2]at h1;have:=nG z.2 q.2;omega
    have Y:eC q.2 p.2<=0:=by
     have h1:=pairwise_iff_getElem.1 P (i-1) i aD aD aD;rw[(List.getElem?_eq_some_iff.1 G).2,(List.getElem?_eq_some_iff.1 W).2]at h1;have:=nG q.2 p.2;omega
    dsimp only;rw[hw];refine⟨b',0,a6,aD,aD,q.1,by simpa[eS]using a7,q.1,p.1,q.2,p.2,rfl,a8,M,aC (λb0=>?_) (λZ=>?_)⟩
    .have b0:eC q.2 p.2≠0:=bo
     refine OM M aD (λs h' g A=>⟨(i+1,n++[s],I,J,h'),V (λy O=>?_) s h' g A,aD,rfl,rfl,rfl,rfl,by rw[fR aD],by simp[eS],rfl,rfl,trivial⟩);have t:=Bg y q.2 p.2 (B y O) Y;by_cases e:eC y p.2=0
     .have:=Ih.zero (B y O) Y e;omega
     .omega
    .have Z:eC q.2 p.2=0:=bo
     exact⟨(i+1,n,I,J,S),keep (by rw[<-iZ.1 Z];exact X),aD,rfl,rfl,rfl,rfl,by rw[fR aD],rfl,rfl,rfl,trivial⟩
  .intro s3 h3 E a';dsimp only at a4 a' E;have b1:i=c.length:=by omega
   subst b1;rw[take_length]at D;have e:rs=sK l:=uV L (λx=>bo);subst e;have hl:=u.len;exact⟨m,h3,H,le.trans E,.refl _,hK s3 h3 (le.trans E) ((u.mono E).rows a' aD)⟩
theorem bbJ:cz 71 c2Z:=by
 refine Hr func71 ?_;rintro c m h K ⟨s,j,l,rfl,d,e,f,g⟩;refine⟨coX,rfl,aE aqQ (aE Yv (aE Fy aI)),Ri s m h (mK h K),bh,?_⟩;exact cUZ d e f g
end Go.Ps
namespace Go.Vc
open Go List
section
variable{B:xC}{C:Ctx}{ι:dm}{σ:St}{a:Act}{w:World}{o:Oper}{K:St->Prop}
def Sg(ι:dm)(σ:St)(b:Nat):=σ.m b≠none\/∃k o,nth σ.own k=some (some o)/\blk (ι k)=some b
def reB(ι:dm)(σ:St)(ds:List Deferred)(w:World):xC:=⟨w,Sg ι σ,σ.h,ds⟩
theorem aR.rebase(c:aR B ι σ a w):aR (reB ι σ a.defers w) ι σ a w:=by
 have f:=c.wrel;refine⟨c.slots,rfl,c.own,c.dist,λk o b g d=>?_,?_,c.one⟩
 .obtain⟨_,j,n⟩:=c.fresh k o b g d;exact⟨.inr (.inr ⟨k,o,g,d⟩),j,n⟩
 .exact⟨rfl,rfl,rfl,Nat.le_refl _,Nat.le_refl _,λ_ _ _=>rfl,f.hsat,f.msat,f.disj,λ_ _ _ e=>e,λ_ _ _=>rfl,
   λb o d=>.inr (.inl (by rw[d];simp))⟩
theorem aR.mine(c:aR B ι σ a w){b}(h:Sg ι σ b):(B.w0.heap.size<=b\/B.E b)/\b<w.heap.size/\∀i,σ.h b i=none:=by
 rcases h with h|⟨k,o,f,g⟩
 .cases e:σ.m b with
  |none=>grind
  |some d=>exact⟨c.wrel.mfr b d e,(Array.getElem?_eq_some_iff.1 (c.wrel.msat b d e)).1,c.wrel.disj b d e⟩
 .obtain⟨j,_,n⟩:=c.fresh k o b f g;exact⟨j,uC (c.own k o f) g,n⟩
theorem aR.unbase(u:aR B ι σ a w){ds x τ y w'}(h:aR (reB ι σ ds w) x τ y w'):aR {B with dfs:=ds} x τ y w':=by
 have d:=u.wrel;have c:=h.wrel
 have j:∀b,(w.heap.size<=b\/Sg ι σ b)->B.w0.heap.size<=b\/B.E b:=λb f=>by
  rcases f with n|n
  .exact .inl (cv d.size n)
  .exact(u.mine n).1
 refine⟨h.slots,h.defers,h.own,h.dist,λk o b z f=>?_,?_,h.one⟩
 .obtain⟨A,D,F⟩:=h.fresh k o b z f;exact⟨j b A,D,F⟩
 .have G:w.heap.size<=w'.heap.size:=c.size;refine⟨c.tape.trans d.tape,c.os.trans d.os,c.output.trans d.output,cv d.drawn c.drawn,cv d.size G,?_,c.hsat,c.msat,c.disj,λb i v e=>c.hle b i v (d.hle b i v e),?_,λb o f=>j b (c.mfr b o f)⟩
  .intro b f g
   have t:¬Sg ι σ b:=λH=>by
    grind
   have:=c.frame b (cw f d.size) t;rw[this];exact d.frame b f g
  .intro b f g
   have t:¬Sg ι σ b:=λH=>by
    grind
   have:τ.h b=σ.h b:=c.hold b (cw f d.size) t;rw[this];exact d.hold b f g
theorem aR.grown(g:aR B ι σ a w){w' row}(u:w.grownBy w' row)(x:w.drawn<=w'.drawn)(j:∀r,row=some r->B.w0.heap.size<=r/\¬Sg ι σ r/\∃ob:Obj,w.heap[r]? =some ob/\ob.isCells=false):aR B ι σ a w':=by
 have c:=g.wrel;have f:∀b,b<w.heap.size->(∀r,row=some r->b≠r)->w'.heap[b]? =w.heap[b]? :=λb d n=>u.block b d (λe=>n b e.symm rfl);have mine:∀b,Sg ι σ b->w'.heap[b]? =w.heap[b]? :=λb d=>f b (g.mine d).2.1 (λr e h=>(j r e).2.1 (h▸d));refine⟨g.slots,g.defers,λk o E=>(g.own k o E).world (λb d=>mine b (.inr ⟨k,o,E,d⟩)),g.dist,g.fresh,?_,g.one⟩;refine⟨u.tape.trans c.tape,u.os.trans c.os,u.output.trans c.output,cv c.drawn x,cv c.size u.size,?_,?_,?_,c.disj,c.hle,c.hold,c.mfr⟩
 .intro b d y;rw[f b (cw d c.size) (λr e h=>bo)];exact c.frame b d y
 .intro b i v F;have t:=c.hsat b i v F;have z:b<w.heap.size:=World.block_lt_of_cell? w ⟨b,i,none⟩ t
  have n:∀r,row=some r->b≠r:=λr e h=>by
   obtain⟨_,_,ob,A,D⟩:=j r e;unfold World.cell? at t;rw[h]at t;dsimp only at t;rw[A]at t;cases ob<;>simp[Obj.isCells]at D t
  rw[World.cell?_of_block (w:=w) (w':=w') (a:=⟨b,i,none⟩) (f b z n)];exact t
 .intro b o d;rw[mine b (.inl (by rw[d];simp))];exact c.msat b o d
def wG:Code->Bool
 |.skip=>true
 |.ret=>true
 |.exit _=>true
 |.region _ c _=>c.toList.all λo=>match o.op with|.defer _=>false|_=>true
 |.seq x y=>wG x&&wG y
 |.cond _ x y=>wG x&&wG y
 |.block _ x=>wG x
 |.loop x=>wG x
 |_=>false
def Plain(ops:Array Oper):=∀(i:Nat)(o:Oper),ops[i]? =some o->∀c,o.op≠ .defer c
theorem W5{ops}(h:(ops.toList.all λo=>match o.op with|.defer _=>false|_=>true)=true):Plain ops:=by
 intro i o d c e
 grind
theorem Bl(l:Nat){P:Program}{ops:Array Oper}(c:Plain ops){Q:Exit->Act->World->Prop}:∀(L:dq)(a:Act)(w:World),wpOpsIn Fence.wide 0 P ops Q L a w->wpOpsIn (Fence.wide.inRound l) 0 P ops Q L a w
 |[],_,_,h=>h
 |i::L,a,w,h=>by
  unfold wpOpsIn at h⊢
  cases d:ops[i]? with
  |none=>rw[d]at h;exact Bl l c L a w h
  |some o=>
   rw[d]at h;dsimp only at h⊢
   split
   .rename_i e;rw[if_pos e]at h;exact PZ l (c i o d) (Oper.wpIn_mono (λa w=>Bl l c L a w) h)
   .rename_i e;rw[if_neg e]at h;exact⟨λ_ _=>trivial,Bl l c L _ _ h.2⟩
theorem D6(l:Nat){P:Program}{g:Region.Mode}{ops:Array Oper}(c:Plain ops){Q:Exit->Act->World->Prop}(d:¬LetsOut Q):∀(n:Nat)(L:Array Bool)(a:Act)(w:World),wpAny P g ops Q n L a w->wpAnyIn (Fence.wide.inRound l) 0 P g ops Q n L a w
 |0,_,_,_,h=>h
 |n+1,L,a,w,h=>by
  refine⟨h.1,λi t=>?_⟩;have:=h.2 i t;unfold wpOp at this;unfold wpOpIn;cases e:ops[i]? with
  |none=>rw[e]at this;exact D6 l c d n _ _ _ this
  |some o=>
   rw[e]at this;dsimp only at this⊢
   split
   .rename_i f;rw[if_pos f]at this;rcases this with j|j
    .exact PZ l (c i o e) (Oper.wpIn_mono (λa w=>D6 l c d n _ a w) (P0 j))
    grind
   .rename_i f;rw[if_neg f]at this;exact⟨λ_ _=>trivial,D6 l c d n _ _ _ this⟩
theorem Hg{F n P Q a w c}(I:Nat->Act->World->Prop) u(h₀:I u a w)(d:∀k a w,I k a w->c.wpIn F n P (Exit.then (λx w'=>∃g,g<k/\I g x w') Q) a w):(Code.loop c).wpIn F n P Q a w:=by
 refine wpIn_loop (λa w=>∃k,I k a w) (λa w=>leastOf (λk=>I k a w)) ⟨u,h₀⟩ ?_;intro a w y;refine wpIn_mono (d _ a w (leastOf_spec y).1) ?_;intro e x w' j;cases e with
 |normal=>
  obtain⟨g,t,f⟩:=j;exact⟨⟨g,f⟩,Nat.lt_of_le_of_lt ((leastOf_spec ⟨g,f⟩).2 g f) t⟩
 |exit id=>exact j
 |ret=>exact j
 |goto l=>exact j
 |panic z=>exact j
 |outgrown=>exact j
theorem SL l(F:∀g S,assoc C.specs g=some S->Sound C.P g S):∀(c:Code),wG c=true->∀(σ:St)(Q:Hm->St->Prop)(ι:dm)(a:Act)(w:World),aR B ι σ a w->VC C c σ Q->c.wpIn (Fence.wide.inRound l) 0 C.P (QD B Q) a w:=by
 intro c
 induction c with
 |skip=>intro u σ Q ι a w z h;exact wpIn_skip ⟨ι,σ,z,h⟩
 |label l=>intro u;cases u
 |exit id=>intro u σ Q ι a w z h;exact wpIn_exit ⟨ι,σ,z,h⟩
 |ret=>intro u σ Q ι a w z h;exact wpIn_ret ⟨ι,σ,z,h⟩
 |goto l=>intro u;cases u
 |refuse a9=>intro u;cases u
 |scope a8 ih=>intro u;cases u
 |rangeFunc f ps x y G W=>intro u;cases u
 |region id ops a3=>
  intro u σ Q ι a w z h;cases a3 with
  |false=>
   refine wpIn_region (Bl l (W5 u) _ _ _ ?_);have:=MO F (ops:=ops) (Q:=Q) (Zq C id) ops.toList 0 ι σ a w (λj=>bi) z h;rw[range_eq_range'];omega
  |true=>
   simp only[VC]at h;split at h
   .rename_i h1 h2 h3;have a5:=bsX h1 h2;refine wpIn_region_any h3 (D6 l (W5 u) (λ⟨_,_,e⟩=>e) _ _ _ _ ?_);refine UP F a5 (Q:=QD B Q) (R:=Q .normal) (λι σ a w z h=>⟨ι,σ,z,h⟩) (λc a w h=>h) ops.size ops.size _ ι σ a _ (z.drew (w.drawn+1) (Nat.le_succ _)) h _ a ?_ ?_
    .have U:∀i,(Array.replicate ops.size false).getD i false=true->False:=by
      intro i H;by_cases E:i<ops.size
      .simp[Array.getD,E]at H
      grind
     exact⟨bi,bi,λi H=>H,λi o _ H=>(U i H).elim,λi o _ H=>(U i H).elim,λi o _ H=>(U i H).elim,rfl,rfl,λt _=>rfl,λi o _ H=>(U i H).elim⟩
    .unfold xW;rw[filter_eq_self.2]
     .simp
     .intro i H;by_cases E:i<ops.size<;>simp[Array.getD,E]
   grind
 |seq x y G W=>
  intro u σ Q ι a w z h;obtain⟨J,a4⟩:=Bool.and_eq_true_iff.1 u;simp only[VC]at h;split at h
  .obtain⟨h,D⟩:=h;refine wpIn_seq (wpIn_mono (G J σ _ ι a w z h) ?_);intro e O T d;cases e with
   |normal=>
    obtain⟨V,σ',A,x,hx,X⟩:=d;show y.wpIn (Fence.wide.inRound l) 0 C.P (QD B Q) O T;obtain⟨ι2,L,_⟩:=rA A X
    grind
   |exit id=>exact d
   |ret=>exact d
   |goto l=>exact d
   |panic ch=>exact d
   |outgrown=>exact d
  .split at h
   .obtain⟨I,h,D⟩:=h;refine wpIn_seq (wpIn_mono (G J σ _ ι a w z h) ?_);intro e O T d;cases e with
    |normal=>
     obtain⟨V,σ',A,X⟩:=d;show y.wpIn (Fence.wide.inRound l) 0 C.P (QD B Q) O T;obtain⟨x,ι2,hx,L⟩:=B5 A X
     grind
    |exit id=>exact d
    |ret=>exact d
    |goto l=>exact d
    |panic ch=>exact d
    |outgrown=>exact d
   .refine wpIn_seq (wpIn_mono (G J σ _ ι a w z h) ?_);intro e O T d;cases e with
    |normal=>
     obtain⟨V,σ',A,h'⟩:=d;show y.wpIn (Fence.wide.inRound l) 0 C.P (QD B Q) O T
     grind
    |exit id=>exact d
    |ret=>exact d
    |goto l=>exact d
    |panic ch=>exact d
    |outgrown=>exact d
 |cond c x y G W=>
  intro u σ Q ι a w z h;obtain⟨J,a4⟩:=Bool.and_eq_true_iff.1 u;simp only[VC]at h;split at h
  .rename_i t hc;have M:=z.ev c;rw[hc]at M;have M:a.eval c= .bool t:=M;rcases zS h with⟨rfl,h⟩|⟨rfl,h⟩
   .exact wpIn_cond_true M (G J _ Q ι a w (z.setTmp hc) h)
   .exact wpIn_cond_false M (W a4 _ Q ι a w (z.setTmp hc) h)
  grind
 |block id c ih=>
  intro u σ Q ι a w z h;refine wpIn_block (wpIn_mono (ih u σ _ ι a w z h) ?_);intro e O T d;cases e with
  |normal=>exact d
  |exit i=>
   obtain⟨V,σ',A,h'⟩:=d;show if i=id then _ else _
   simp only at h';split at h'
   .rename_i hb;rw[if_pos (cn hb)];exact⟨V,σ',A,h'⟩
   .rename_i hb;rw[if_neg (λe=>by subst e;simp at hb)];exact⟨V,σ',A,h'⟩
  |ret=>exact d
  |goto l=>exact d
  |panic ch=>exact d
  |outgrown=>exact d
 |loop c ih=>
  intro u σ Q ι a w z h;simp only[VC]at h;split at h
  .rename_i Y hl;obtain⟨⟨x,hx,X⟩,D⟩:=h;obtain⟨ι2,L,_⟩:=rA z X;refine Hg (λn a w=>∃x ι,Y.inv x/\Y.mu x=n/\aR B ι (Y.st x) a w) (Y.mu x) ⟨x,ι2,hx,rfl,L⟩ ?_;rintro n O T ⟨x',V,Z,rfl,A⟩;refine wpIn_mono (ih u _ _ V O T A (D x' Z)) ?_;intro e a6 a7 d;cases e with
   |normal=>
    obtain⟨ι3,σ3,a0,y,hy,E,a1⟩:=d;obtain⟨ι4,a2,_⟩:=rA a0 a1;exact⟨Y.mu y,E,y,ι4,hy,rfl,a2⟩
   |exit id=>exact d
   |ret=>exact d
   |goto l=>exact d
   |panic ch=>exact d
   |outgrown=>exact d
  .split at h
   .rename_i Y hl;obtain⟨I,mu,X,D⟩:=h;obtain⟨x,ι2,hx,L⟩:=B5 z X;refine Hg (λn a w=>∃x ι,I x/\mu x=n/\aR B ι (Y.st x) a w) (mu x) ⟨x,ι2,hx,rfl,L⟩ ?_;rintro n O T ⟨x',V,Z,rfl,A⟩;refine wpIn_mono (ih u _ _ V O T A (D x' Z)) ?_;intro e a6 a7 d;cases e with
    |normal=>
     obtain⟨ι3,σ3,a0,a1⟩:=d;obtain⟨y,ι4,hy,E,a2⟩:=OP a0 a1;exact⟨mu y,E,y,ι4,hy,rfl,a2⟩
    |exit id=>exact d
    |ret=>exact d
    |goto l=>exact d
    |panic ch=>exact d
    |outgrown=>exact d
   grind
end
end Go.Vc
namespace Go.Vc
open Go List
def uF:Code->Bool
 |.seq x y=>uF x||uF y
 |.cond _ x y=>uF x||uF y
 |.block _ x=>uF x
 |.loop x=>uF x
 |.scope x=>uF x
 |.rangeFunc .. =>true
 |_=>false
structure YDo(P:Program)(l:Nat)(vs:dc)(m:MH)(h:PH)(R:Bool->MH->PH->Prop):Prop where
 go:∀w,Zg w m h->∃fn tmps assign body,(Instr.yield l vs.toArray).run P w= .ok (.round l fn tmps assign body) w/\
  RoundIn Fence.wide 0 P l fn tmps assign body w λe w'=>∃u m' h',e= .returned (.bool u)/\R u m' h'/\Wj w m h m' h' w'
def cXX(P:Program):Spec:=λc m h K=>∃(l:Nat)(d:dc)(R:Bool->MH->PH->Prop),c= .val (.func (.yield l) #[] #[])::d.map .val/\YDo P l d m h R/\∀u m' h',R u m' h'->K (.val (.bool u)) m' h'
theorem Ox:∀{l c:dc},l.map CV.val=c.map CV.val->l=c
 |[],[],_=>rfl
 |a::l,b::c,h=>by
  simp only[map_cons,List.cons.injEq,CV.val.injEq]at h;rw[h.1,Ox h.2]
 |[],_::_,h=>by simp at h
 |_::_,[],h=>by simp at h
theorem Zo P:axJ P (cXX P):=⟨λl G m h w K⟨H,g,R,d,j,n⟩ t=>by
 simp only[List.cons.injEq,CV.val.injEq,Value.func.injEq,Fn.yield.injEq,and_true]at d;obtain⟨rfl,d⟩:=d;rw[Ox d];obtain⟨x,c,f,y,z,A⟩:=j.go w t;exact⟨x,c,f,y,z,A.mono λe I⟨u,m',h',D,E,F⟩=>⟨_,m',h',D,n u m' h' E,F⟩⟩⟩
def cJZ(P:Program)(Src:PH->dc->List dc->Prop):Spec:=λd m h K=>∃(l:Nat)(c:dc)(xs:List dc)(J:Nat->MH->PH->Prop),
 d= .val (.func (.yield l) #[] #[])::c.map .val/\Src h c xs/\J 0 m h/\
 (∀k e m' h',xs[k]? =some e->PH.le h h'->J k m' h'->YDo P l e m' h' (λr g f=>r=true/\PH.le h' f/\J (k+1) g f))/\
 ∀r m' h',PH.le h h'->J xs.length m' h'->K r m' h'
structure Si(P:Program)(g:FuncId)(Src:PH->dc->List dc->Prop):Prop where
 sound:Sound P g (cJZ P Src)
def Td:SV->SV
 |.at (.val v)=>.at (.val v)
 |.agg c=>match xV c with|some _=>.agg c|none=>.at .junk
 |_=>.at .junk
def Xe:Option Own->Option Own:=λ_=>none
def blank(σ:St)(m:MH)(h:PH):St:={sl:=σ.sl.map Td,own:=σ.own.map Xe,m:=m,h:=h}
def Vm(l:ej):List (Nat×SV)->ej
 |[]=>l
 |(p,x)::r=>Vm (l.set p x) r
def aFQ(σ:St)(es:List (Nat×SV))(m:MH)(h:PH):St:={sl:=Vm (σ.sl.map Td) es,own:=σ.own.map Xe,m:=m,h:=h}
def Pa(C:Ctx)(x y:Code)(σ:St)(es:List (Nat×SV))(m:MH)(h:PH)(R:MH->PH->Prop):=
 VC C x (aFQ σ es m h) (λc τ=>match c with
  |.normal=>VC C y τ (λc υ=>match c with
   |.normal=>R υ.m υ.h
   |_=>False)
  |_=>False)
def ZU(C:Ctx)(f:Operand)(ps:Array Tmp)(x y:Code)(σ:St)(K:St->Prop):Prop:=
 match σ.ev f,wG x&&wG y with
 |.at (.val (.func (.func g) j c)),true=>match j.toList with
  |[]=>match ps.toList,C.elemT with
   |[p],[T]=>∃(Src:PH->dc->List dc->Prop)(xs:List (C.dec T).X)(I:Nat->MH->PH->Prop),Si C.P g Src/\Src σ.h c.toList (xs.map λx=>[valOf C.P T ((C.dec T).enc x)])/\I 0 σ.m σ.h/\
    (∀(k:Nat)(e:(C.dec T).X)(m:MH)(h:PH),xs[k]? =some e->PH.le σ.h h->I k m h->Pa C x y σ [(p,mk C.P T (((C.dec T).enc e).map .val))] m h (I (k+1)))/\
    ∀(m:MH)(h:PH),PH.le σ.h h->I xs.length m h->K (blank σ m h)
   |[p,q],[T,U]=>∃(Src:PH->dc->List dc->Prop)(xs:List ((C.dec T).X×(C.dec U).X))(I:Nat->MH->PH->Prop),Si C.P g Src/\Src σ.h c.toList (xs.map λx=>[valOf C.P T ((C.dec T).enc x.1),valOf C.P U ((C.dec U).enc x.2)])/\I 0 σ.m σ.h/\
    (∀(k:Nat)(e:(C.dec T).X)(d:(C.dec U).X)(m:MH)(h:PH),xs[k]? =some (e,d)->PH.le σ.h h->I k m h->Pa C x y σ [(p,mk C.P T (((C.dec T).enc e).map .val)),(q,mk C.P U (((C.dec U).enc d).map .val))] m h (I (k+1)))/\
    ∀(m:MH)(h:PH),PH.le σ.h h->I xs.length m h->K (blank σ m h)
   |_,_=>False
  |_=>False
 |_,_=>False
def VCF(C:Ctx):Code->St->(Hm->St->Prop)->Prop
 |.rangeFunc f ps x y,σ,Q=>ZU C f ps x y σ (Q .normal)
 |.seq a b,σ,Q=>match uF a||uF b with
  |false=>VC C (.seq a b) σ Q
  |true=>match bYQ C b with
   |some c=>∃I:c.A->Prop,VCF C a σ (λe τ=>match e with
    |.normal=>KN c I τ
    |e=>Q e τ)/\∀x,I x->VCF C b (c.st x) Q
   |none=>VCF C a σ (λe τ=>match e with
    |.normal=>VCF C b τ Q
    |e=>Q e τ)
 |.block id c,σ,Q=>match uF c with
  |false=>VC C (.block id c) σ Q
  |true=>VCF C c σ (λe τ=>match e with
   |.exit i=>match Nat.beq i id with|true=>Q .normal τ|false=>Q (.exit i) τ
   |e=>Q e τ)
 |.cond c x y,σ,Q=>match uF x||uF y with
  |false=>VC C (.cond c x y) σ Q
  |true=>match σ.ev c with
   |.at (.val (.bool t))=>branch t (VCF C x (setTmp σ c true) Q) (VCF C y (setTmp σ c false) Q)
   |_=>False
 |c,σ,Q=>VC C c σ Q
def ceJ(C:Ctx)(σ:St):List ResultVar->(dc->Prop)->Prop
 |[],K=>K []
 |.cell t T::r,K=>match nth σ.sl t,jU C.P T with
  |some (.at (.val (.pointer (some ⟨b,c,none⟩)))),true=>bXJ C T (aL σ.m σ.h b c) λl=>match(mk C.P T (l.map .val)).val? with
   |some v=>ceJ C σ r (λrs=>K (v::rs))
   |none=>False
  |_,_=>False
 |_::_,_=>False
def MS C fn K σ:=
 match J0 C σ fn.results.toList with
 |some _=>SY C fn K σ
 |none=>ceJ C σ fn.results.toList λrs=>match rs with
  |[r]=>K (.val r) σ.m σ.h
  |rs=>K (.tup (rs.map .val)) σ.m σ.h
def bCJ C fn c σ K:=
 VCF C c σ (λe τ=>match e with
  |.normal=>MS C fn K τ
  |.ret=>MS C fn K τ
  |_=>False)
section
variable{B:xC}{C:Ctx}{ι:dm}{σ:St}{a:Act}{w:World}{K:St->Prop}
theorem a3X{ι d x v}(h:Den ι x v):Den d (Td x) v:=by
 cases x with
 |«at» y=>cases y<;>first|exact h|trivial
 |agg g=>
  simp only[Td];split
  .rename_i l e;obtain⟨f,rfl,c⟩:=h;rw[Fk e]at c⊢
   exact⟨f,rfl,by rw[jX.vals]at c⊢;exact c⟩
  .trivial
 |tup xs=>trivial
theorem HX{ι c:dm}:∀{xs:ej}{vs:dc},DenS ι xs vs->DenS c (xs.map Td) vs
 |[],[],_=>trivial
 |_::_,_::_,h=>⟨a3X h.1,HX h.2⟩
 |[],_::_,h=>h.elim
 |_::_,[],h=>h.elim
theorem Iz(l:ei) k o:nth (l.map Xe) k=some (some o)->False:=by
 rw[CE];cases nth l k<;>simp[Xe]
theorem aR.blank'{B sl}{l:ei}{m h a w}(d:DenS (λ_=>.slice none 0 0) sl a.tmps.toList)(e:a.defers=B.dfs)(f:D4 B m h w):
 aR B (λ_=>.slice none 0 0) {sl:=sl,own:=l.map Xe,m:=m,h:=h} a w:=
 ⟨d,e,λk o c=>(Iz l k o c).elim,λk _ o _ _ c=>(Iz l k o c).elim,λk o _ c=>(Iz l k o c).elim,f,λ_=>rfl⟩
def DL(D:Nat):Deferred:={target:=.collected D,args:= #[]}
structure MM(B:xC)(ds:dq)(ι:dm)(σ:St)(a:Act)(w:World):Prop where
 mod:aR {B with dfs:=ds.map DL} ι σ a w
 size:∀D∈ds,B.w0.heap.size<=D
 mine:∀D∈ds,¬Sg ι σ D
 mark:∀D∈ds,w.heap[D]? =some (.deferred (some []))
 nodup:ds.Nodup
def QM(B:xC)(Q:Hm->St->Prop):Exit->Act->World->Prop
 |.normal,a,w=>∃c ι σ,MM B c ι σ a w/\Q .normal σ
 |.exit id,a,w=>∃c ι σ,MM B c ι σ a w/\Q (.exit id) σ
 |.ret,a,w=>∃c ι σ,MM B c ι σ a w/\Q .ret σ
 |_,_,_=>False
theorem MM.step{ds}(c:MM B ds ι σ a w){f τ g w'}(h:aR (reB ι σ (ds.map DL) w) f τ g w'):MM B ds f τ g w':=by
 have j:∀D∈ds,D<w.heap.size:=λD d=>(Array.getElem?_eq_some_iff.1 (c.mark D d)).1;refine⟨?_,c.size,λD d n=>?_,λD d=>?_,c.nodup⟩
 .exact c.mod.unbase (ds:=ds.map DL) h
 .rcases(h.mine n).1 with e|e
  .have e:w.heap.size<=D:=e
   grind
  .exact c.mine D d e
 .rw[h.wrel.frame D (j D d) (c.mine D d)];exact c.mark D d
theorem MM.here{ds}(c:MM B ds ι σ a w):aR (reB ι σ (ds.map DL) w) ι σ a w:=by
 have:=c.mod.rebase;rw[c.mod.defers]at this;exact this
theorem MM.of_QD{ds}(g:MM B ds ι σ a w){Q e j w'}(h:QD (reB ι σ (ds.map DL) w) Q e j w'):QM B Q e j w':=by
 cases e with
 |normal=>obtain⟨c,τ,d,f⟩:=h;exact⟨ds,c,τ,g.step d,f⟩
 |exit id=>obtain⟨c,τ,d,f⟩:=h;exact⟨ds,c,τ,g.step d,f⟩
 |ret=>obtain⟨c,τ,d,f⟩:=h;exact⟨ds,c,τ,g.step d,f⟩
 |goto l=>exact h.elim
 |panic n=>exact h.elim
 |outgrown=>exact h.elim
theorem MM.retag{ds}(d:MM B ds ι σ a w){c τ}(h:aR (reB ι σ (ds.map DL) w) c τ a w):MM B ds c τ a w:=d.step h
theorem Ed(d:∀g S,assoc C.specs g=some S->Sound C.P g S){ds}(e:MM B ds ι σ a w){c Q}(h:VC C c σ Q):c.wp C.P (QM B Q) a w:=
 wp_mono (Wy d c σ Q ι a w e.here h) (λ_ _ _ f=>e.of_QD f)
theorem Qf{ι:dm}:∀{es:List (Nat×SV)}{vs:dc}{sl:ej}{ts:Array Value},DenS ι (es.map (·.2)) vs->DenS ι sl ts.toList->
 DenS ι (Vm sl es) (((es.map (·.1)).zip vs).foldl (λts(p,v)=>ts.setIfInBounds p v) ts).toList
 |[],[],_,_,_,h=>h
 |(p,x)::es,v::vs,sl,ts,h,c=>by
  refine Qf (es:=es) (vs:=vs) h.2 ?_;rw[Array.toList_setIfInBounds];exact c.set p h.1
 |[],_::_,_,_,h,_=>h.elim
 |_::_,[],_,_,h,_=>h.elim
def CD(fn:FuncId)(tmps:Array Value)(ps:Array Tmp)(x y:Code)(D:Nat)(st:LoopState):Loop:={state:=st,pending:=none,fn:=fn,tmps:=tmps,params:=ps,assign:=x,body:=y,defers:=D}
theorem Qz{w:World}{l i r}(h:w.heap[l]? =some (.loop r)):w.cell? ⟨l,i,none⟩=none:=by
 unfold World.cell?
 grind
theorem WV(A:∀g S,assoc C.specs g=some S->Sound C.P g S){tmps:Array Value}{x y:Code}(hx:wG x=true)(hy:wG y=true)(b3:DenS ι σ.sl tmps.toList){es:List (Nat×SV)}{vs:dc}{ps:Array Tmp}(a5:ps.toList=es.map (·.1))(a6:DenS (λ_=>.slice none 0 0) (es.map (·.2)) vs){fn D l m0 mm h0}(b4:m0 l=none)(c2:∀b,b≠l->mm b=m0 b)(b5:mm l=some (.loop (CD fn tmps ps x y D .ready))){R}(hV:Pa C x y σ es m0 h0 R) w(hH:Zg w mm h0):
 ∃a7 J assign body,(Instr.yield l vs.toArray).run C.P w= .ok (.round l a7 J assign body) w/\
  RoundIn Fence.wide 0 C.P l a7 J assign body w λex w'=>∃u m' h',ex= .returned (.bool u)/\(u=true/\PH.le h0 h'/\∃m2,m2 l=none/\(∀b,b≠l->m' b=m2 b)/\m' l=some (.loop (CD fn tmps ps x y D .ready))/\R m2 h')/\Wj w mm h0 m' h' w':=by
 have hl:=hH.msat l _ b5;have b6:=(Array.getElem?_eq_some_iff.1 hl).1
 have a8:vs.length=ps.size:=by
  have n:=a6.length;rw[length_map]at n;rw[<-Array.length_toList,a5,length_map,n]
 refine⟨_,_,_,_,run_yield hl (by simpa[CD]using a8),roundIn_of_wpIn trivial ?_⟩;obtain⟨ts,a9⟩:∃ts,((CD fn tmps ps x y D .ready).params.zip vs.toArray).foldl (λtmps(t,a)=>tmps.setIfInBounds t a) (CD fn tmps ps x y D .ready).tmps=ts:=⟨_,rfl⟩
 rw[a9]
 have b':ts=((es.map (·.1)).zip vs).foldl (λts(p,v)=>ts.setIfInBounds p v) tmps:=by
  rw[<-a9, <-a5, <-Array.foldl_toList,Array.toList_zip];rfl
 have E:∀b o,m0 b=some o->mm b=some o:=λb o d=>by
  grind
 have hM:aR ⟨w,λb=>m0 b≠none,h0,[]⟩ (λ_=>.slice none 0 0) (aFQ σ es m0 h0) {tmps:=ts,defers:=[]} w:=by
  refine aR.blank' ?_ rfl ?_
  .show DenS _ (Vm (σ.sl.map Td) es) ts.toList;rw[b'];exact Qf a6 (HX b3)
  .exact⟨rfl,rfl,rfl,Nat.le_refl _,Nat.le_refl _,λ_ _ _=>rfl,hH.hsat,λb o d=>hH.msat b o (E b o d),λb o d=>hH.disj b o (E b o d),λ_ _ _ e=>e,λ_ _ _=>rfl,λb o d=>.inr bo⟩
 refine wpIn_mono (SL l A x hx _ _ _ _ _ hM hV) ?_;intro ex a1 V F;cases ex with
 |normal=>
  obtain⟨ι1,τ,G,b7⟩:=F;have j:=G.wrel;have b8:¬(λb=>m0 b≠none) l:=λe=>e b4;have a':V.heap[l]? =some (.loop (CD fn tmps ps x y D .ready)):=by rw[j.frame l b6 b8];exact hl
  have X:=(Array.getElem?_eq_some_iff.1 a').1
  have L:¬Sg ι1 τ l:=λhm=>by
   rcases(G.mine hm).1 with n|n
   .grind
   grind
  refine⟨_,run_beginRound a' rfl,?_⟩;obtain⟨f,H⟩:∃f,V.putObj l (.loop {CD fn tmps ps x y D .ready with state:=.busy})=f:=⟨_,rfl⟩
  have a0:=(G.rebase.putD (.loop {CD fn tmps ps x y D .ready with state:=.busy}) a' rfl X L).rebase;rw[H]at a0⊢
  have c3:a1.defers=[]:=G.defers;have a0:aR (reB ι1 τ [] f) ι1 τ a1 f:=bo
  have b9:∀b,b≠l->f.heap[b]? =V.heap[b]? :=λb d=>by rw[<-H];exact World.putObj_heap_other (λe=>d e)
  have s2:f.heap.size=V.heap.size:=by rw[<-H];simp
  have c':f.heap[l]? =some (.loop {CD fn tmps ps x y D .ready with state:=.busy}):=by rw[<-H];exact World.putObj_heap_same X
  refine wpIn_mono (SL l A y hy _ _ _ _ _ a0 b7) ?_;intro ex a2 I F;cases ex with
  |normal=>
   obtain⟨ι2,υ,c0,hR⟩:=F;have c:=c0.wrel;have W:I.heap[l]? =some (.loop {CD fn tmps ps x y D .ready with state:=.busy}):=by rw[c.frame l (by show l<f.heap.size;omega) L];exact c'
   have b0:=(Array.getElem?_eq_some_iff.1 W).1
   have M:∀b,b<w.heap.size->mm b=none->¬Sg ι1 τ b:=λb d hn hm=>by
    rcases(G.mine hm).1 with n|n
    .grind
    grind
   have c1:υ.m l=none:=by
    cases e:υ.m l with
    |none=>rfl
    |some o=>
     rcases c.mfr l o e with n|n
     .have n:f.heap.size<=l:=n;omega
     .exact(L n).elim
   obtain⟨O,Q⟩:∃O,I.putObj l (.loop (CD fn tmps ps x y D .ready))=O:=⟨_,rfl⟩
   have a3:∀b,b≠l->O.heap[b]? =I.heap[b]? :=λb d=>by rw[<-Q];exact World.putObj_heap_other (λe=>d e)
   have c4:O.heap[l]? =some (.loop (CD fn tmps ps x y D .ready)):=by rw[<-Q];exact World.putObj_heap_same b0
   have T:=run_endRound (P:=C.P) none W;have T:(Instr.endRound l none).run C.P I= .ok (.bool true) O:=by rw[T, <-Q];rfl
   have Y:PH.le h0 τ.h:=⟨λb i v e=>j.hle b i v e⟩
   have Z:PH.le τ.h υ.h:=⟨λb i v e=>c.hle b i v e⟩
   refine⟨_,_,T,true,λb=>if b=l then some (.loop (CD fn tmps ps x y D .ready))else υ.m b,υ.h,rfl,⟨rfl,⟨λb i v e=>Z.le _ _ _ (Y.le _ _ _ e)⟩,υ.m,c1,λb d=>by simp[d],bi,hR⟩,?_⟩;have t4:O.tape=I.tape/\O.os=I.os/\O.output=I.output/\O.heap.size=I.heap.size:=by rw[<-Q];exact⟨rfl,rfl,rfl,bi⟩
   have t2:f.tape=V.tape/\f.os=V.os/\f.output=V.output:=by rw[<-H];exact⟨rfl,rfl,rfl⟩
   have b1:w.heap.size<=V.heap.size:=j.size;have b2:f.heap.size<=I.heap.size:=c.size;refine⟨?_,?_,?_,?_,?_,?_,⟨?_,?_,?_⟩,⟨λb i v e=>Z.le _ _ _ (Y.le _ _ _ e)⟩,?_,?_⟩
   .rw[t4.1,c.tape];show f.tape=_;rw[t2.1];exact j.tape
   .rw[t4.2.1,c.os];show f.os=_;rw[t2.2.1];exact j.os
   .rw[t4.2.2.1,c.output];show f.output=_;rw[t2.2.2];exact j.output
   .have d4:O.drawn=I.drawn:=by rw[<-Q];rfl
    have d3:f.drawn<=I.drawn:=c.drawn;have d2:f.drawn=V.drawn:=by rw[<-H];rfl
    have d1:w.drawn<=V.drawn:=j.drawn;omega
   .omega
   .intro b d hn;have U:b≠l:=λe=>bo
    rw[a3 b U,c.frame b (by show b<f.heap.size;omega) (M b d hn)];show f.heap[b]? =_;rw[b9 b U];exact j.frame b d (λe=>e bo)
   .intro b i v hv;have a4:=c.hsat b i v hv;have U:b≠l:=λe=>by rw[e,Qz W]at a4;cases a4
    rw[World.cell?_of_block (w:=I) (w':=O) (a:=⟨b,i,none⟩) (a3 b U)];exact a4
   .intro b o d;have z:(if b=l then some (Obj.loop (CD fn tmps ps x y D .ready))else υ.m b)=some o:=d;clear d;split at z
    .grind
    .rename_i e;rw[a3 b e];exact c.msat b o z
   .intro b o d i;have z:(if b=l then some (Obj.loop (CD fn tmps ps x y D .ready))else υ.m b)=some o:=d;clear d;split at z
    .rename_i e;subst e;cases e2:υ.h b i with
     |none=>rfl
     |some v=>have:=c.hsat b i v e2;rw[Qz W]at this;cases this
    .exact c.disj b o z i
   .intro b d hn;have n:υ.h b=τ.h b:=c.hold b (by show b<f.heap.size;omega) (M b d hn);rw[n];have U:b≠l:=λe=>bo
    exact j.hold b d (λe=>e bo)
   .intro b o d;have z:(if b=l then some (Obj.loop (CD fn tmps ps x y D .ready))else υ.m b)=some o:=d;clear d;split at z
    .grind
    .rename_i e;rcases c.mfr b o z with n|n
     .have n:f.heap.size<=b:=n;omega
     .rcases(G.mine n).1 with h2|h2
      .exact .inl h2
      grind
  |ret=>obtain⟨_,_,_,h⟩:=F;exact h.elim
  |exit id=>obtain⟨_,_,_,h⟩:=F;exact h.elim
  |goto t=>exact F.elim
  |panic ch=>exact F.elim
  |outgrown=>exact F.elim
 |ret=>obtain⟨_,_,_,h⟩:=F;exact h.elim
 |exit id=>obtain⟨_,_,_,h⟩:=F;exact h.elim
 |goto t=>exact F.elim
 |panic ch=>exact F.elim
 |outgrown=>exact F.elim
theorem RY(w:World) o{b}(h:b<w.heap.size):(w.alloc o).heap[b]? =w.heap[b]? :=by
 exact Go.RowKit.Below.heap_alloc _ _ _ h
theorem Y0(w:World) o:(w.alloc o).heap[w.heap.size]? =some o:=World.alloc_heap_new w o
theorem aDQ(w:World):∀l:dc,DY w (l.map .val) l
 |[]=>trivial
 |_::l=>⟨rfl,aDQ w l⟩
theorem P4(l:dc)(i:Nat) c u b(d:(l.map CV.val)[i]? =some c)(f:jF c u=some b):False:=by
 rw[getElem?_map]at d;cases e:l[i]? with
 |none=>grind
 |some v=>rw[e]at d;simp at d;subst d;simp[jF]at f
theorem Te(X:∀g S,assoc C.specs g=some S->Sound C.P g S){ds:dq}(U:MM B ds ι σ a w){f:Operand}{ps:Array Tmp}{x y Q g cs}(c6:σ.ev f= .at (.val (.func (.func g) #[] cs)))(hx:wG x=true)(hy:wG y=true){Src}(b4:Si C.P g Src){xs}(b5:Src σ.h cs.toList xs){I:Nat->MH->PH->Prop}(h0:I 0 σ.m σ.h)(Y:∀(k:Nat)(vs:dc)(m:MH)(h:PH),xs[k]? =some vs->PH.le σ.h h->I k m h->∃es:List (Nat×SV),ps.toList=es.map (·.1)/\DenS (λ_=>.slice none 0 0) (es.map (·.2)) vs/\Pa C x y σ es m h (I (k+1)))(b6:∀(m:MH)(h:PH),PH.le σ.h h->I xs.length m h->Q .normal (blank σ m h)):(Code.rangeFunc f ps x y).wp C.P (QM B Q) a w:=by
  obtain⟨a3⟩:=b4;have L:=U.mod.wrel
  have b7:a.eval f= .func (.func g) #[] cs:=by
   have:=U.mod.ev f;rw[c6]at this;exact this
  refine(wpIn_wide (n:=0)).1 (wpIn_rangeFunc ?_);intro fn e1;obtain⟨l,hl⟩:∃l,l=w.heap.size+1:=⟨_,rfl⟩
  obtain⟨D,hD⟩:∃D,D=w.heap.size:=⟨_,rfl⟩
  obtain⟨W1,H⟩:∃W1,(w.alloc (.deferred (some []))).alloc (.loop (CD fn a.tmps ps x y D .ready))=W1:=⟨_,rfl⟩
  have s1:W1.heap.size=w.heap.size+2:=by rw[<-H];simp
  have a7:∀b,b<w.heap.size->W1.heap[b]? =w.heap[b]? :=λb t=>by
   rw[<-H,RY _ _ bn,RY _ _ t]
  have b8:W1.heap[D]? =some (.deferred (some [])):=by
   rw[<-H,hD,RY _ _ bi];exact Y0 w _
  have e0:W1.heap[l]? =some (.loop (CD fn a.tmps ps x y D .ready)):=by
   rw[<-H,hl];have:=Y0 (w.alloc (.deferred (some []))) (.loop (CD fn a.tmps ps x y D .ready))
   rwa [World.size_alloc]at this
  have c7:∀b o,σ.m b=some o->b<w.heap.size:=λb o t=>(Array.getElem?_eq_some_iff.1 (L.msat b o t)).1;have a8:∀b i v,σ.h b i=some v->b<w.heap.size:=λb i v hv=>World.block_lt_of_cell? w ⟨b,i,none⟩ (L.hsat b i v hv)
  let m1:MH:=λb=>if b=l then some (.loop (CD fn a.tmps ps x y D .ready))else σ.m b
  have c8:m1 l=some (.loop (CD fn a.tmps ps x y D .ready)):=by simp[m1]
  have a9:∀b,b≠l->m1 b=σ.m b:=λb t=>if_neg t
  have c9:σ.m l=none:=by
   cases e:σ.m l with
   |none=>rfl
   |some o=>grind
  have b9:Dr W1 m1 σ.h (.val (.func (.yield l) #[] #[])::cs.toList.map .val) (.func (.yield l) #[] #[]::cs.toList):=by
   refine⟨⟨rfl,aDQ _ _⟩,?_,?_,?_,λi j c d u v b hi _ _ _ t _=>(P4 (.func (.yield l) #[] #[]::cs.toList) i c u b hi t).elim,λi c u b hi _ t=>(P4 (.func (.yield l) #[] #[]::cs.toList) i c u b hi t).elim⟩
   .intro b i v hv;rw[World.cell?_of_block (w:=w) (w':=W1) (a:=⟨b,i,none⟩) (a7 b (a8 b i v hv))];exact L.hsat b i v hv
   .intro b o t;by_cases e:b=l
    .grind
    .rw[a9 b e]at t;rw[a7 b (c7 b o t)];exact L.msat b o t
   .intro b o t i;by_cases e:b=l
    .subst e;cases e2:σ.h b i with
     |none=>rfl
     |some v=>grind
    .rw[a9 b e]at t;exact L.disj b o t i
  have z:∀b,m1 b=none->¬zU m1 (.val (.func (.yield l) #[] #[])::cs.toList.map .val) (.func (.yield l) #[] #[]::cs.toList) b:=by
   rintro b t (G|⟨i,c,u,hi,hu,hc⟩)
   .exact G t
   .exact P4 (.func (.yield l) #[] #[]::cs.toList) i c u b hi hc
  let J:Nat->MH->PH->Prop:=λk mm Z=>PH.le σ.h Z/\∃T,T l=none/\(∀b,b≠l->mm b=T b)/\mm l=some (.loop (CD fn a.tmps ps x y D .ready))/\I k T Z
  have b':=a3.2 (.val (.func (.yield l) #[] #[])::cs.toList.map .val) (.func (.yield l) #[] #[]::cs.toList) m1 σ.h W1 (λ_ mm Z=>J xs.length mm Z)
   ⟨l,cs.toList,xs,J,rfl,b5,⟨⟨λ_ _ _ e=>e⟩,σ.m,c9,a9,c8,h0⟩,?_,λ_ _ _ _ hJ=>hJ⟩ b9
  .have b0:(Instr.enterLoop fn a.tmps ps x y Fence.wide.round).run C.P w= .ok (l,[DL D]) W1:=by
    subst hD hl;rw[<-H];exact run_enterLoop_outer _ _ _ _ _
   refine⟨l,[DL D],W1,{target:=.fn (.func g) cs,args:= #[.func (.yield l) #[] #[]]},W1,g,(.func (.yield l) #[] #[]::cs.toList).toArray,W1,b0,?_,λ_ _=>trivial,?_,λe=>by simp[Fence.wide]at e,callsIn_wide.2 ?_⟩
   .simp only[resolve,rangeCall,b7];simp[go_sem]
   .obtain⟨gf,hf,c',c0⟩:=a3.1;have c':¬gf.body=none:=bo
    have c0:¬gf.name= "runtime.NumGoroutine" :=bo
    simp only[invoke,callFunc];simp[program,Sem.run,hf,c0,c']
   refine b'.mono ?_;rintro e V ⟨r,u,mm,Z,rfl,⟨a',T,a4,c1,b1,hI⟩,b4,A,_⟩;have c2:=A.msat l _ b1;refine⟨_,_,run_endLoop c2 (by simp[CD]),?_⟩;obtain⟨W,a0⟩:∃W,V.putObj l (.loop {CD fn a.tmps ps x y D .ready with state:=.exhausted})=W:=⟨_,rfl⟩
   rw[a0];have a1:∀b,b≠l->W.heap[b]? =V.heap[b]? :=λb t=>by rw[<-a0];exact World.putObj_heap_other (λe=>t e)
   have t4:W.tape=V.tape/\W.os=V.os/\W.output=V.output/\W.heap.size=V.heap.size:=by rw[<-a0];exact⟨rfl,rfl,rfl,bi⟩
   have t1:W1.tape=w.tape/\W1.os=w.os/\W1.output=w.output:=by rw[<-H];exact⟨rfl,rfl,rfl⟩
   have c5:W1.heap.size<=V.heap.size:=A.size
   have a5:∀b,b<w.heap.size->σ.m b=none->W.heap[b]? =w.heap[b]? :=λb t hn=>by
    have M:b≠l:=by omega
    rw[a1 b M,A.frame b bo (z b bo),a7 b t]
   have F:∀b o,T b=some o->mm b=some o/\b≠l:=λb o t=>by
    grind
   have d':∀b o,T b=some o->W1.heap.size<=b\/∃o',σ.m b=some o':=λb o t=>by
    obtain⟨G,M⟩:=F b o t;rcases A.mfr b o G with h2|h2
    .exact .inl h2
    .refine .inr ?_;cases e:σ.m b with
     |some o'=>grind
     |none=>grind
   have hB:B.w0.heap.size<=w.heap.size:=L.size
   have mB:∀b,b<B.w0.heap.size->¬B.E b->σ.m b=none:=λb t hn=>by
    cases e:σ.m b with
    |none=>rfl
    |some o=>
     rcases L.mfr b o e with G|G
     .grind
     grind
   have O:∀D',D'∈ds->D'<w.heap.size/\σ.m D'=none:=λD' R=>by
    refine⟨(Array.getElem?_eq_some_iff.1 (U.mark D' R)).1,?_⟩;cases e:σ.m D' with
    |none=>rfl
    |some o=>exact(U.mine D' R (.inl (by rw[e];simp))).elim
   have c3:∀b,¬(W1.heap.size<=b)->σ.m b=none->¬Sg (λ_=>.slice none 0 0) (blank σ T Z) b:=by
    rintro b G h2 (h3|⟨k,o,hk,_⟩)
    .cases e:T b with
     |none=>exact h3 e
     |some o=>
      grind
    .exact Iz _ _ _ hk
   have e3:σ.m D=none:=by
    cases e:σ.m D with
    |none=>rfl
    |some o=>grind
   refine⟨D::ds,λ_=>.slice none 0 0,blank σ T Z,⟨?_,?_,?_,?_,?_⟩,b6 T Z a' hI⟩
   .refine aR.blank' (HX U.mod.slots) ?_ ⟨?_,?_,?_,?_,?_,?_,?_,?_,?_,?_,?_,?_⟩
    .show[DL D]++a.defers=_;rw[U.mod.defers];rfl
    .rw[t4.1,A.tape];show W1.tape=_;rw[t1.1];exact L.tape
    .rw[t4.2.1,A.os];show W1.os=_;rw[t1.2.1];exact L.os
    .rw[t4.2.2.1,A.output];show W1.output=_;rw[t1.2.2];exact L.output
    .have d4:W.drawn=V.drawn:=by rw[<-a0];rfl
     have d3:W1.drawn<=V.drawn:=A.drawn;have d2:W1.drawn=w.drawn:=by rw[<-H];rfl
     have d1:B.w0.drawn<=w.drawn:=L.drawn
     grind
    .grind
    .intro b t a2;have t:b<B.w0.heap.size:=t;rw[a5 b aD (mB b t a2)];exact L.frame b t a2
    .intro b i v hv;have b2:=A.hsat b i v hv;have M:b≠l:=λe=>by rw[e,Qz c2]at b2;cases b2
     rw[World.cell?_of_block (w:=V) (w':=W) (a:=⟨b,i,none⟩) (a1 b M)];exact b2
    .intro b o t;obtain⟨G,M⟩:=F b o t;rw[a1 b M];exact A.msat b o G
    .intro b o t i;exact A.disj b o (F b o t).1 i
    .intro b i v hv;exact a'.le _ _ _ (L.hle b i v hv)
    .intro b t a2;have t:b<B.w0.heap.size:=t;have G:Z b=σ.h b:=A.hold b bo (z b bo);rw[G];exact L.hold b t a2
    grind
   .intro D' R;rcases mem_cons.1 R with rfl|G
    .omega
    .exact U.size D' G
   .grind
   .intro D' R;rcases mem_cons.1 R with rfl|G
    .rw[a1 D' aD,A.frame D' bo (z D' bo)];exact b8
    .obtain⟨h2,h3⟩:=O D' G;rw[a5 D' h2 h3];exact U.mark D' G
   .refine nodup_cons.2 ⟨λG=>?_,U.nodup⟩
    grind
  .rintro k e m' h' hk a' ⟨c4,T,a4,c1,b1,hI⟩;refine⟨λw5 hH=>?_⟩;obtain⟨es,d0,d5,hV⟩:=Y k e T h' hk a' hI;obtain⟨d6,b3,d7,d8,d9,hR⟩:=WV X (σ:=σ) (ι:=ι) hx hy U.mod.slots d0 d5 a4 c1 b1 hV w5 hH;refine⟨d6,b3,d7,d8,d9,hR.mono ?_⟩;rintro ex w6 ⟨u,m6,h6,rfl,⟨rfl,a6,m7,q1,q2,q3,q4⟩,e'⟩;exact⟨_,m6,h6,rfl,⟨rfl,a6,⟨λ_ _ _ e=>a6.le _ _ _ (c4.le _ _ _ e)⟩,m7,q1,q2,q3,q4⟩,e'⟩
theorem ZT(j:∀g S,assoc C.specs g=some S->Sound C.P g S){ds}(J:MM B ds ι σ a w){f ps x y Q}(h:ZU C f ps x y σ (Q .normal)):(Code.rangeFunc f ps x y).wp C.P (QM B Q) a w:=by
 unfold ZU at h;split at h
 .rename_i g O X E G;obtain⟨L,M⟩:=Bool.and_eq_true_iff.1 G;split at h
  .rename_i R;obtain rfl:O= #[]:=Array.toList_inj.1 aD;split at h
   .rename_i p T A V;obtain⟨Src,xs,I,D,n,H,c,t⟩:=h;refine Te j J E L M D n H (λk W m h u d F=>?_) (λm h d F=>t m h d bo);rw[getElem?_map]at u;cases e:xs[k]? with
    |none=>grind
    |some z=>
     rw[e]at u;simp only[Option.map_some,ck]at u;subst u;exact⟨[(p,mk C.P T (((C.dec T).enc z).map .val))],by rw[A];rfl,⟨Vz,trivial⟩,c k z m h e d F⟩
   .rename_i p q T U A V;obtain⟨Src,xs,I,D,n,H,c,t⟩:=h;refine Te j J E L M D n H (λk W m h u d F=>?_) (λm h d F=>t m h d bo);rw[getElem?_map]at u;cases e:xs[k]? with
    |none=>grind
    |some z=>
     rw[e]at u;simp only[Option.map_some,ck]at u;subst u;exact⟨[(p,mk C.P T (((C.dec T).enc z.1).map .val)),(q,mk C.P U (((C.dec U).enc z.2).map .val))],by rw[A];rfl,⟨Vz,Vz,trivial⟩,c k z.1 z.2 m h e d F⟩
   grind
  grind
 grind
theorem aWX(d:∀g S,assoc C.specs g=some S->Sound C.P g S):∀(c:Code)(σ:St)(Q:Hm->St->Prop)(ds:dq)(ι:dm)(a:Act)(w:World),MM B ds ι σ a w->VCF C c σ Q->c.wp C.P (QM B Q) a w:=by
 intro c
 induction c with
 |rangeFunc f ps x y _ _=>intro σ Q ds ι a w n h;exact ZT d n h
 |seq x y D E=>
  intro σ Q ds ι a w n h;simp only[VCF]at h;split at h
  .exact Ed d n h
  .split at h
   .obtain⟨I,h,F⟩:=h;refine wp_seq (wp_mono (D σ _ ds ι a w n h) ?_);intro e J L j;cases e with
    |normal=>
     obtain⟨z,G,H,u,V⟩:=j;obtain⟨W,X,M,O⟩:=B5 u.here V;exact E _ Q z X J L (u.retag O) (F W M)
    |exit id=>exact j
    |ret=>exact j
    |goto l=>exact j
    |panic U=>exact j
    |outgrown=>exact j
   .refine wp_seq (wp_mono (D σ _ ds ι a w n h) ?_);intro e J L j;cases e with
    |normal=>
     obtain⟨z,G,H,u,h'⟩:=j;exact E H Q z G J L u h'
    |exit id=>exact j
    |ret=>exact j
    |goto l=>exact j
    |panic U=>exact j
    |outgrown=>exact j
 |cond c x y D E=>
  intro σ Q ds ι a w n h;simp only[VCF]at h;split at h
  .exact Ed d n h
  .split at h
   .rename_i t R;have A:=n.mod.ev c;rw[R]at A;have A:a.eval c= .bool t:=A;rcases zS h with⟨rfl,h⟩|⟨rfl,h⟩
    .exact wp_cond_true A (D _ Q ds ι a w (n.retag (n.here.setTmp R)) h)
    .exact wp_cond_false A (E _ Q ds ι a w (n.retag (n.here.setTmp R)) h)
   grind
 |block id c Y=>
  intro σ Q ds ι a w n h;simp only[VCF]at h;split at h
  .exact Ed d n h
  .refine wp_block (wp_mono (Y σ _ ds ι a w n h) ?_);intro e J L j;cases e with
   |normal=>exact j
   |exit i=>
    obtain⟨z,G,H,u,h'⟩:=j;show if i=id then _ else _
    simp only at h';split at h'
    .rename_i T;rw[if_pos (cn T)];exact⟨z,G,H,u,h'⟩
    .rename_i T;rw[if_neg (λe=>by subst e;simp at T)];exact⟨z,G,H,u,h'⟩
   |ret=>exact j
   |goto l=>exact j
   |panic U=>exact j
   |outgrown=>exact j
 |_=>intro σ Q ds ι a w n h;exact Ed d n h
theorem Qn(e:aR B ι σ a w):∀{l:List ResultVar}{K:dc->Prop},ceJ C σ l K->∃vs,(l.mapM (Ng a.tmps)).run C.P w= .ok vs w/\K vs
 |[],K,h=>⟨[],bi,h⟩
 |.tmp t::r,K,h=>h.elim
 |.cell t T::r,K,h=>by
  simp only[ceJ]at h;split at h
  .rename_i b off n u;obtain⟨y,f,h⟩:=h;split at h
   .rename_i c;have c:=cn c;split at h
    .rename_i v x;obtain⟨vs,z,A⟩:=Qn e h;have d:=e.ev (.tmp t);have D:σ.ev (.tmp t)= .at (.val (.pointer (some ⟨b,off,none⟩))):=by simp only[St.ev,n]
     rw[D]at d;have g:a.tmps.getD t undef= .pointer (some ⟨b,off,none⟩):=d;have E:=B0 (w:=w) (b:=b) (off:=off) (cs:=(C.dec T).enc y) u c (FY e.wrel f);have F:=Ko (P:=C.P) (T:=T) (ι:=ι) (ats:=((C.dec T).enc y).map .val) (cs:=(C.dec T).enc y) (by rw[jX.vals]);have j:=F.val? x;refine⟨v::vs,?_,A⟩;simp only[mapM_cons,Ng,g,asAddr,Sem.run_bind,Sem.run_pure,Result.andThen_ok,E,z,j]
    grind
   grind
  grind
theorem Zt(d:aR B ι σ a w){fn K}(h:MS C fn K σ):
 ∃u,(results fn a.tmps).run C.P w= .ok u w/\∃r m' h',K r m' h'/\JK w r u/\D4 B m' h' w/\∀b,jF r u=some b->(B.w0.heap.size<=b\/B.E b)/\m' b=none/\∀i,h' b i=none:=by
 unfold MS at h;split at h
 .exact SX d h
 .obtain⟨c,f,g⟩:=Qn d h
  have n:(results fn a.tmps).run C.P w= .ok (if h:c.toArray.size=1 then c.toArray[0]else .tuple c.toArray) w:=by
   rw[Qm,Array.mapM_eq_mapM_toList];simp[f]
  split at g
  .rename_i v;exact⟨v,bo,.val v,σ.m,σ.h,g,rfl,d.wrel,λb j=>by simp[jF]at j⟩
  .rename_i t
   have x:c.length≠1:=λe=>by
    match c,e with
    |[v],_=>grind
   exact⟨.tuple c.toArray,bo,.tup (c.map .val),σ.m,σ.h,g,⟨c.toArray,rfl,bi⟩,d.wrel,λb j=>by simp[jF]at j⟩
theorem Oz{F:Fence}{n:Nat}{R:Ending->World->Prop}{fn:Func}{Kc:da}(g:MS C fn Kc σ)
 (x:∀u w',(∃r m' h',Kc r m' h'/\JK w' r u/\D4 B m' h' w'/\∀b,jF r u=some b->(B.w0.heap.size<=b\/B.E b)/\m' b=none/\∀i,h' b i=none)->R (.returned u) w'):
 ∀(ds:dq)(a:Act)(w:World),MM B ds ι σ a w->LeavesInM F n C.P fn a.tmps R (ds.map DL) .returning w
 |[],a,w,f=>by
  obtain⟨u,z,r,m',h',A,t,d,G⟩:=Zt f.mod g;refine⟨u,z,x u w ⟨r,m',h',A,t,⟨d.tape,d.os,d.output,d.drawn,d.size,d.frame,d.hsat,d.msat,d.disj,d.hle,d.hold,d.mfr⟩,G⟩⟩
 |D::ds,a,w,f=>by
  have y:=f.mark D (mem_cons_self ..);refine⟨bi,.inl ⟨D,_,rfl,run_takeDeferred y,Oz g x ds {a with defers:=ds.map DL} _ ?_⟩⟩;have H:w.grownBy (w.putObj D (.deferred none)) (some D):=grownBy_putObj' w D _
  have c:=f.mod.grown H (Nat.le_refl _) (λr e=>by
   cases e;exact⟨f.size D (mem_cons_self ..),f.mine D (mem_cons_self ..),_,y,rfl⟩)
  have j:=nodup_cons.1 f.nodup;refine⟨⟨c.slots,?_,c.own,c.dist,c.fresh,⟨c.wrel.tape,c.wrel.os,c.wrel.output,c.wrel.drawn,c.wrel.size,c.wrel.frame,c.wrel.hsat,c.wrel.msat,c.wrel.disj,c.wrel.hle,c.wrel.hold,c.wrel.mfr⟩,c.one⟩,λD' h=>f.size D' (mem_cons_of_mem _ h),λD' h=>f.mine D' (mem_cons_of_mem _ h),λD' h=>?_,j.2⟩
  .rfl
  .rw[World.putObj_heap_other (fun(e:D'=D)=>j.1 bo)];exact f.mark D' (mem_cons_of_mem _ h)
theorem a4X{P f fn c}(H:P.funcs[f]? =some fn)(I:fn.body=some c)(t:(fn.name== "runtime.NumGoroutine")=false){S}(E:∀d m h K,S d m h K->∃C:Ctx,C.P=P/\(∀g S,assoc C.specs g=some S->Sound P g S)/\bCJ C fn c (entry fn.ntmps d m h) K):Sound P f S:=by
 refine⟨⟨fn,H,by rw[I];rfl,t⟩,?_⟩;intro d x m h w K L M;obtain⟨C,rfl,j,O⟩:=E d m h K L;refine callsIn_wide.1 (callsIn_of_wp_marks (n:=0) H I trivial (wpIn_wide.2 ?_))
 have F:MM ⟨w,zU m d x,h,[]⟩ [] (OC fn.ntmps d x) (entry fn.ntmps d m h) {tmps:=x.toArray++Array.replicate (fn.ntmps-x.toArray.size) undef,defers:=[]} w:=
  ⟨Mk fn.ntmps M,λ_ A=>(not_mem_nil A).elim,λ_ A=>(not_mem_nil A).elim,λ_ A=>(not_mem_nil A).elim,nodup_nil⟩
 refine wp_mono (aWX j c _ _ _ _ _ w F O) ?_;intro e D y z
 have key:(∃G ι σ,MM ⟨w,zU m d x,h,[]⟩ G ι σ D y/\MS C fn K σ)->LeavesInM Fence.wide 0 C.P fn D.tmps (λe y=>∃r u m' h',e= .returned u/\K r m' h'/\JK y r u/\D4 ⟨w,zU m d x,h,[]⟩ m' h' y/\
  (∀b,jF r u=some b->(w.heap.size<=b\/zU m d x b)/\m' b=none/\∀i,h' b i=none)) D.defers .returning y:=by
  rintro⟨G,ι,σ,J,Q⟩;rw[J.mod.defers];exact Oz Q (λu R⟨r,m',h',T,U,V,W⟩=>⟨r,u,m',h',rfl,T,U,V,W⟩) G D y J
 cases e with
 |normal=>exact key z
 |ret=>exact key z
 |exit id=>obtain⟨_,_,_,_,h⟩:=z;exact h.elim
 |goto l=>exact z.elim
 |panic X=>exact z.elim
 |outgrown=>exact z.elim
theorem ZV{P f fn c}(j:P.funcs[f]? =some fn)(n:fn.body=some c)(e:(fn.name== "runtime.NumGoroutine")=false){S}(t:∀d m h K,S d m h K->∃C:Ctx,C.P=P/\(∀g S,assoc C.specs g=some S->Sound P g S)/\bCJ C fn c (entry fn.ntmps d m h) (fV h K)):Sound P f S:=
 .strong (a4X j n e (S:=λd m h K=>∃K',S d m h K'/\K=fV h K') (by
  grind))
end
end Go.Vc
namespace Go.Ps
open Go Go.Vc Go.Proofs List Tryz
variable{K:da}{m:MH}{h:PH}{s:jC}{ps:db}{cb:Nat}{sc:cK}{v:QV}{p:Pred}{l:db}{i:Nat}{N:Nat}{m':MH}{h':PH}{co:db}{gr:db}{od:di}{ta:Int}{li:Int}{xs:List dc}{sz:Nat}{ks:List db}{rs:db}{r:Sl}{a:db}{b:Nat}
def xZ(h:PH)(b:Nat)(l:dc):=λc i=>if c=b then l[i]? else h c i
theorem aIQ{l}(d:∀i,h b i=none):PH.le h (xZ h b l):=⟨λc i v e=>by
 have:c≠b:=λf=>bo
 simp only[xZ,if_neg this];exact e⟩
theorem ciX{l}:bU (xZ h b l) b 0 l:=⟨λi v e=>by simp only[xZ,if_true,Nat.zero_add];exact e⟩
structure VOk(v:VV):Prop where
 kind:xB v.kind
 int:xB v.int
 text:v.text.size<=64
structure Wf(r:dj):Prop where
 len:r.length<=12
 val:∀v∈r,VOk v
def pick(r:dj)(cols:db):=cols.map λc=>r.getD c.toNat zeroV
structure fE(n:Nat)(cols:db):Prop where
 at_:∀c∈cols,0<=c/\c<n
 len:cols.length<=100000
def fY(on:dh):=on.map Prod.fst
def fK(on:dh):=on.map Prod.snd
def ayJ:Vc.Spec:=λc m h K=>∃s on,c=[cS s]/\gS h s on/\∀a b h',PH.le h h'->Ints h' a (fY on)->Ints h' b (fK on)->K (.tup [cS a,cS b]) m h'
def Zk:Vc.Spec:=λd m h K=>∃s t r c,d=[cS s,cS t]/\bR h s r/\Ints h t c/\fE r.length c/\K (cB ((pick r c).all kM)) m h
def b8Z:Vc.Spec:=λc m h K=>∃n:Nat,c=[.val (.slice none 0 0),cI n]/\n<=1000/\K (.lst 30 3 []) m h
def Zi:Vc.Spec:=λc m h K=>∃d rs,c=[cS d]/\Rows h d rs/\rs.length<=10/\(∀r∈rs,r.length<=12)/\∀e h',PH.le h h'->bR h' e rs.flatten->K (cS e) m h'
noncomputable def bHZ s m h:=
 cZ [] [(2,{A:=Nat×db×db,st:=λ⟨i,l,k⟩=>bS 25 26 [(2,.at (.lst 16)),(3,.at (.lst 21)),(6,sv s),(7,iv s.len),(8,iv i)] [(16,.lst 3 1 (l.map eI)),(21,.lst 3 1 (k.map eI))] m h})] [] [] false
noncomputable def bHX s t m h:=
 cZ [(158,OR)] [(2,{A:=Nat,st:=λi=>bS 20 22 [(0,sv s),(7,sv t),(8,iv t.len),(9,iv i)] [] m h})] [] [] false
noncomputable def bMJ c m h:=
 cZ [(208,b8Z)] [(3,{A:=Nat×Nat,st:=λ⟨i,n⟩=>bS 36 37 [(0,sv c),(3,iv n),(9,sv c),(10,iv c.len),(11,iv i)] [] m h}),
  (11,{A:=Nat×dj,st:=λ⟨i,l⟩=>bS 36 37 [(6,.at (.lst 24)),(25,sv c),(26,iv c.len),(27,iv i)] [(24,.lst 30 3 (l.map VV.enc))] m h})] [] [] false
def Nt(s:Sl)(m:MH)(h:PH)(K:da):=
  ∃(I:Nat×db×db->Prop)(d:Nat×db×db->Nat),(∃(x:Nat×db×db),aA (I x) (eL 16) (aA (eL 21) (aJ s) (aA (bG s) (bA x.1) (aA (tN x.2.1) (tN x.2.2) (bO (m=m) h h)))))/\∀(x:Nat×db×db),I x->aZ (↑x.1:Int) (aG s) (bF (λb o=>aH (aM s.a b o) (0<=(↑x.1:Int)) ((↑x.1:Int)<aG s) (∃(y:Int×Int),aA (aL m h b (bK o x.1 2) (u7 y)) (cF 0) (aA CF (Lw x.2.1) (aA (mR (fS x.2.1)) rW (aA CG (Lw x.2.2) (mR (fS x.2.2)/\∃(c:Nat×db×db),aA (I c) (d c<d x) (aA (eL 16) (eL 21) (aA (aJ s) (bG s) (aA (fU (bC x.1 1)=bP c.1) (uZ x.2.1 y.1 c.2.1) (aH (uZ x.2.2 y.2 c.2.2) (m=m) (h=h) True))))))))))) (bN h 1 (fS x.2.1) (λe f=>
 bN f 1 (fS x.2.2) (λg j=>K (CV.tup (iH e g)) m j)))
def Ns(s t:Sl)(m:MH)(h:PH)(K:da):=
  mP (λI x=>aA (I x) (aJ s) (aA (aJ t) (bG t) (aH (bA x) (m=m) (h=h) True))) (λI d x=>I x->aZ (↑x:Int) (aG t) (bF (λb o=>aH (aM t.a b o) (0<=(↑x:Int)) ((↑x:Int)<aG t) (∃(y:Int),aL m h b (bK o x 1) (bM y)/\bF (λe f=>aH (aM s.a e f) (0<=y) (y<aG s) (∃(g:VV),aL m h e (fF f y 3) g.enc/\∃(v:VV),fT (rJ g=rJ v) (!(kM v)) (K bB m h) (∃(c:Nat),aA (I c) (d c<d x) (aA (aJ s) (aJ t) (aA (bG t) (fU (bC x 1)=bP c) (aA (m=m) (h=h) True))))))))) (K fM m h))
def TI(n:Nat)(m:MH)(h:PH)(K:da):=
  fX (kE ((↑n:Int)-kE ((0:Int)-0))) 0 (aA (cF 0) (cF 0) (aA (0<wI n) (Ka (wI n*32)) (aH (Ka (wI n)) ((0:Int)<=0) (cF (mG (vK (wI n) AL))) (K (CV.lst 30 3 []) m h)))) (K (CV.lst 30 3 []) m h)
noncomputable abbrev uT a:=List.map VV.enc a
attribute [push_cast] uT
def T2(d:Sl)(m:MH)(h:PH)(K:da):=
  I9 (λI x=>aA (I x) (aJ d) (aA (bA x.2) (aJ d) (aA (bG d) (bA x.1) (aA (m=m) (h=h) True)))) (λI g x=>I x->aZ (↑x.1:Int) (aG d) (bF (λb o=>aH (aM d.a b o) (0<=(↑x.1:Int)) ((↑x.1:Int)<aG d) (∃(y:Sl),aL m h b (bK o x.1 1) (bH y)/\aZ (bC x.2 (aG y)) 0 False (∃(c:Nat×Nat),aA (I c) (g c<g x) (aA (aJ d) (fU (bC x.2 (aG y))=bP c.2) (aA (aJ d) (bG d) (aA (fU (bC x.1 1)=bP c.1) (m=m) (bQ h h)))))))) (∃(n:Nat),aA (cA Dn (↑x.2:Int)=cA Dn (↑n:Int)) (oV n) (∃(I1:Nat×dj->Prop)(j:Nat×dj->Nat),(∃(c:Nat×dj),aA (I1 c) (eL 24) (aA (aJ d) (bG d) (aA (bA c.1) (oH 30 3 (bW 30 3 (uT c.2))) (aA (m=m) (h=h) True))))/\∀(c:Nat×dj),I1 c->
 aZ (↑c.1:Int) (aG d) (bF (λb o=>aH (aM d.a b o) (0<=(↑c.1:Int)) ((↑c.1:Int)<aG d) (∃(y:Sl),aL m h b (bK o c.1 1) (bH y)/\∃(e:List dc),aA (eU 3 e) (cO h (Sl.mk y.a y.len y.cap) 3 e) (aA (tJ (uT c.2) e 32) (oL (uT c.2) e) (∃(f:Nat×dj),aA (I1 f) (j f<j c) (aA (eL 24) (aJ d) (aA (bG d) (fU (bC c.1 1)=bP f.1) (aA (bW 30 3 (uT c.2++e)=bW 30 3 (uT f.2)) (m=m) (bQ h h))))))))) (bN h 3 (uT c.2) (λs t=>K (cM s) m t)))))
theorem W7{r cols}(e:fE r.length cols){v}(f:v∈pick r cols):v∈r:=by
 obtain⟨c,d,rfl⟩:=mem_map.1 f;have:=e.at_ c d
 grind
theorem Vr{r cols}{i:Nat}{c}(d:fE r.length cols)(e:cols[i]? =some c):∃v,r[c.toNat]? =some v/\(pick r cols)[i]? =some v/\0<=c/\c<r.length:=by
 have:=d.at_ c (ce e);refine⟨r[c.toNat]'(by omega),cd _,?_,this⟩;unfold pick
 grind
theorem cvQ{s on}(f:gS h s on)(z:∀a b h',PH.le h h'->Ints h' a (fY on)->Ints h' b (fK on)->K (.tup [cS a,cS b]) m h'):Nt s m h K:=by
 dsimp only[Nt,push_cast];have g:=f.slen;have G:=f.len;refine⟨λx=>x.1<=on.length/\x.2.1=(on.take x.1).map Prod.fst/\x.2.2=(on.take x.1).map Prod.snd,λx=>on.length-x.1,⟨(0,[],[]),⟨bi,bi,bi⟩,MT⟩,?_⟩;rintro⟨i,l,k⟩ ⟨A,t,u⟩;dsimp only at A t u;subst t u;refine aF (λc=>?_) (λj=>?_)
 .dsimp only at c;obtain⟨p,y⟩:=dW g c;obtain⟨b,o,e,rd⟩:=gS.at f y;refine⟨b,o,e,aD,c,p,.imm rd,aD,aD,?_,?_,aD,aD,?_,?_,(i+1,(on.take (i+1)).map Prod.fst,(on.take (i+1)).map Prod.snd),⟨aD,rfl,rfl⟩,bo,?_⟩
  all_goals (try (simp only[length_map,length_take];omega))
  dsimp only;rw[cq,y,Option.toList_some,cj,cj,cj,cj];exact MT
 .dsimp only at j⊢
  rw[ci aD];intro a H n D b E d F;exact z a b E (n.trans d) ⟨D.mono d,by simp[fY];omega⟩ ⟨F,by simp[fK];omega⟩
theorem cuJ{s t r cols}(z:bR h s r)(A:Ints h t cols)(D:fE r.length cols)(g:K (cB ((pick r cols).all kM)) m h):Ns s t m h K:=by
 dsimp only[Ns,push_cast];have G:=bI.slen z;have n:=A.slen;have H:=D.len;have I:(pick r cols).length=cols.length:=by simp[pick]
 refine⟨λi=>i<=cols.length/\∀j:Nat,j<i->∀v,(pick r cols)[j]? =some v->kM v=true,λi=>cols.length-i,⟨0,⟨aD,λj E=>by omega⟩,MT⟩,λi⟨T,F⟩=>aF (λd=>?_) (λJ=>?_)⟩
 .obtain⟨c,f⟩:=dW n d;obtain⟨b,o,e,rd⟩:=A.at f;obtain⟨v,x,L,M,U⟩:=Vr D f;obtain⟨O,P,w,Q,y,rfl⟩:=bI.at z x;refine⟨b,o,e,aD,d,c,.imm bo,O,P,Q,M,aD,v,.imm y,v,rfl,aC (λR=>?_) (λV=>⟨i+1,⟨aD,λj E u W=>?_⟩,(show cols.length-(i+1)<cols.length-i by omega),MT⟩)⟩
  .have:(pick r cols).all kM=false:=by
    grind
   rw[this]at g;exact g
  grind
 .have:(pick r cols).all kM=true:=by
   rw[all_eq_true];intro v S;obtain⟨j,E⟩:=getElem?_of_mem S
   grind
  rw[this]at g;exact g
theorem acQ:cz 208 b8Z:=by
 refine gW func208 ?_;rintro d m h K ⟨n,rfl,f,c⟩;refine⟨cZ [] [] [] [] true,rfl,aI,TI n m h K,bh,?_⟩;dsimp only[TI,push_cast];have e:IntKind.i64.wrap ((n:Int)-0)=n:=by rw[eM aD aD];omega
 have g:IntKind.i64.wrap ((n:Int)-IntKind.i64.wrap (0-0))=n:=by rw[show IntKind.i64.wrap (0-0)=0 from by rw[eM aD aD];rfl,e]
 exact aF (λj=>⟨aD,aD,aD,aD,aD,aD,aD,c⟩) (λ_=>c)
theorem CC{α}{ks:List (List α)}{k}(c:ks[i]? =some k):((ks.take (i+1)).map List.length).sum=((ks.take i).map List.length).sum+k.length:=by
 rw[cq,c];simp
theorem JU{α:Type}{ks:List (List α)}(h:∀k∈ks,k.length<=12):∀i,((ks.take i).map List.length).sum<=12*i
 |0=>bi
 |i+1=>by
  have c:=JU h i;cases e:ks[i]? with
  |none=>rw[cq,e];grind
  |some k=>rw[CC e];grind
theorem alX:cz 161 Zi:=by
 refine gW func161 ?_;rintro L m h K ⟨G,ks,rfl,y,V,d,M⟩;refine⟨bMJ G m h,rfl,aE acQ aI,T2 G m h K,bh,?_⟩;dsimp only[T2,push_cast];have j:=bI.slen y;refine⟨λ⟨i,n⟩=>i<=ks.length/\n=((ks.take i).map List.length).sum,λ⟨i,_⟩=>ks.length-i,⟨(0,0),⟨aD,bi⟩,MT⟩,?_⟩;rintro⟨i,n⟩ ⟨H,rfl⟩;dsimp only;have O:=JU d i;refine aF (λc=>?_) (λt=>?_)
 .obtain⟨k,e⟩:=dW j c;obtain⟨b,o,g,z,r,f⟩:=bI.at y e;have P:=bI.slen f;have u:=d k (ce e)
  have Q:IntKind.i64.wrap (((((ks.take i).map List.length).sum:Nat):Int)+(g.len:Int))=((((ks.take (i+1)).map List.length).sum:Nat):Int):=by
   rw[CC e,eM aD aD];omega
  refine⟨b,o,z,aD,c,g,.imm r,?_⟩;rw[Q];exact aF (λI=>by omega) (λ_=>⟨(i+1,((ks.take (i+1)).map List.length).sum),⟨aD,rfl⟩,aD,MT⟩)
 .refine⟨((ks.take i).map List.length).sum,rfl,aD,?_⟩;refine⟨λ⟨i,l⟩=>i<=ks.length/\l=(ks.take i).flatten,λ⟨i,_⟩=>ks.length-i,⟨(0,[]),⟨aD,bi⟩,MT⟩,?_⟩;clear O t H;rintro⟨i,l⟩ ⟨H,rfl⟩;dsimp only;have R:(ks.take i).flatten.length<=12*i:=by have:=JU d i;grind
  refine aF (λc=>?_) (λt g h' A J=>M g h' A ⟨⟨ks.flatten,?_,rfl,λi x S=>⟨x,S,rfl⟩⟩,?_⟩)
  .obtain⟨k,e⟩:=dW j c;obtain⟨b,o,g,z,r,f⟩:=bI.at y e;have u:=d k (ce e);obtain⟨D,E,T,U⟩:=f.ex
   have F:D=k:=by
    apply ext_getElem?
    grind
   subst F;refine⟨b,o,z,aD,c,g,.imm r,D.map VV.enc,HE D,E,?_,?_,(i+1,(ks.take (i+1)).flatten),⟨aD,rfl⟩,aD,?_⟩
   .grind
   .grind
   .rw[cq,e,Option.toList_some,flatten_append,cj,flatten_cons,flatten_nil,append_nil];exact MT
  .grind
  grind
theorem VX:∀(u:Nat)(b:UInt8),b∈Lib.decDigits u->48<=b.toNat/\b.toNat<=57:=by
 intro u
 induction u using Nat.strongRecOn with
 |_ u d=>
  intro b c;rw[Lib.decDigits]at c
  have one:∀k,k<10->48<=(UInt8.ofNat (48+k)).toNat/\(UInt8.ofNat (48+k)).toNat<=57:=λk e=>by
   rw[UInt8.toNat_ofNat'];omega
  grind
theorem aNJ:∀(u v:Nat),Lib.decDigits u=Lib.decDigits v->u=v:=by
 intro u
 induction u using Nat.strongRecOn with
 |_ u g=>
  intro v h;have f:=congrArg List.length h;rw[Lib.decDigits_length,Lib.decDigits_length]at f
  have one:∀a b,a<10->b<10->UInt8.ofNat (48+a)=UInt8.ofNat (48+b)->a=b:=λa b j n e=>by
   have:=congrArg UInt8.toNat e;rw[UInt8.toNat_ofNat',UInt8.toNat_ofNat']at this;omega
  by_cases d:u<10
  .have c:v<10:=by
    apply Classical.byContradiction;intro c;rw[Lib.nDigits_small d,Lib.nDigits_big c]at f;have:=Lib.nDigits_pos (v/10);omega
   rw[Lib.decDigits.eq_def u,Lib.decDigits.eq_def v,dif_pos d,dif_pos c]at h
   grind
  .have c:¬v<10:=λc=>by
    grind
   rw[Lib.decDigits.eq_def u,Lib.decDigits.eq_def v,dif_neg d,dif_neg c]at h;have t:=append_inj' h rfl
   grind
theorem SI{n}(c:0<=n)(d:n<18446744073709551616):IntKind.u64.wrap n=n:=by
 rw[IntKind.wrap_u64];omega
theorem aWQ{n}(c:n<0)(d: -9223372036854775808<=n):IntKind.u64.wrap (0-IntKind.u64.wrap n)= -n:=by
 rw[IntKind.wrap_u64,IntKind.wrap_u64];omega
theorem Fu{n}(h:xB n)(c:0<=n):nF n=Lib.decDigits n.toNat:=by
 unfold nF;rw[if_neg aD,SI c (by have:=h.2;omega)]
theorem Fv{n}(h:xB n)(c:n<0):nF n=45::Lib.decDigits (-n).toNat:=by
 unfold nF;rw[if_pos c,aWQ c h.1]
theorem a3Z{m n}(c:xB m)(d:xB n)(h:nF m=nF n):m=n:=by
 have f:∀u r,Lib.decDigits u=45::r->False:=λu r e=>by
  have:=VX u 45 (by rw[e];simp);simp at this
 by_cases g:0<=m<;>by_cases j:0<=n
 .rw[Fu c g,Fu d j]at h;have:=aNJ _ _ h;omega
 .rw[Fu c g,Fv d aD]at h
  grind
 .rw[Fv c aD,Fu d j]at h
  grind
 .rw[Fv c aD,Fv d aD]at h;have:=aNJ _ _ (List.cons.inj h).2;omega
theorem WM{α:Type}{x:α}:∀{a b r r':List α},x∉a->x∉b->a++x::r=b++x::r'->a=b/\r=r'
 |[],[],r,r',_,_,h=>⟨rfl,(List.cons.inj h).2⟩
 |[],c::b,r,r',_,e,h=>by
  grind
 |c::a,[],r,r',f,_,h=>by
  grind
 |c::a,d::b,r,r',f,e,h=>by
  have g:=List.cons.inj h;obtain⟨j,n⟩:=WM (λm=>f (by simp[m])) (λm=>e (by simp[m])) g.2
  grind
structure bqZ(κ:dj->ByteArray):Prop where
 inj:∀{a b:dj},a.length=b.length->(∀v∈a,VOk v)->(∀v∈b,VOk v)->(κ a=κ b↔a=b)
def Bf(r:dj)(o:OV):=if o.kind=3 then o.value else if o.kind=1/\0<=o.index/\o.index<r.length then r.getD o.index.toNat zeroV else zeroV
def WC(d c:Int):=if d=1 then c==0 else if d=2 then c !=0 else if d=3 then decide (c<0)else if d=4 then decide (c<=0)else if d=5 then decide (c>0)else if d=6 then decide (c>=0)else false
def uB c a b:=kM a&&kM b&&a.kind==b.kind&&WC c (kT a b)
mutual
def iX(r:dj):Pred->Bool
 |.mk op c a b args=>if op=1 then true else if op=3 then uB c (Bf r a) (Bf r b)else if op=4 then H4 r args else if op=5 then H2 r args else if op=6 then Q5 r args else false
def H4(r:dj):dp->Bool
 |[]=>true
 |p::ps=>iX r p&&H4 r ps
def H2(r:dj):dp->Bool
 |[]=>false
 |p::ps=>iX r p||H2 r ps
def Q5(r:dj):dp->Bool
 |[]=>false
 |p::_=> !iX r p
end
theorem H3(r:dj):∀ps,H4 r ps=ps.all (iX r)
 |[]=>by simp[H4]
 |p::ps=>by simp[H4,H3 r ps]
theorem H0(r:dj):∀ps,H2 r ps=ps.any (iX r)
 |[]=>by simp[H2]
 |p::ps=>by simp[H2,H0 r ps]
def DenS:Vc.Spec:=λc m h K=>∃o s r,c=[aO o,cS s,Dn]/\bR h s r/\K (aV (Bf r o)) m h
def O5(p:Int->Bool):Vc.Spec:=λd m h K=>∃c,d=[cI c]/\K (cB (p c)) m h
def cLZ:Vc.Spec:=λc m h K=>∃op,c=[cI op]/\
 branch (op==1) (K (fv 202) m h) (branch (op==2) (K (fv 203) m h) (branch (op==3) (K (fv 204) m h) (branch (op==4) (K (fv 205) m h) (branch (op==5) (K (fv 206) m h) (branch (op==6) (K (fv 207) m h) (K (.val .nilFunc) m h))))))
def Wh(N:Nat):Vc.Spec:=λc m h K=>∃v s p r,c=[aP v,cS s,Dn]/\fJ h p v/\bR h s r/\SizeOf.sizeOf p<N/\K (cB (iX r p)) m h
def Wi:Vc.Spec:=λc m h K=>∃v s p r,c=[aP v,cS s,Dn]/\fJ h p v/\bR h s r/\K (cB (iX r p)) m h
noncomputable def cjZ(N:Nat)(v:PV)(s:Sl)(m:MH)(h:PH):=
 cZ [(157,DenS),(158,OR),(159,cLZ),(156,OU),(97,Wh N),(202,O5 (λc=>c==0)),(203,O5 (λc=>c !=0)),(204,O5 (λc=>decide (c<0))),(205,O5 (λc=>decide (c<=0))),(206,O5 (λc=>decide (c>0))),(207,O5 (λc=>decide (c>=0)))] [(12,{A:=Nat,st:=λi=>bS 102 105 [(1,sv s),(2,vv rU),(60,sv v.args),(61,iv v.args.len),(62,iv i)] [] m h}),
  (20,{A:=Nat,st:=λi=>bS 102 105 [(1,sv s),(2,vv rU),(75,sv v.args),(76,iv v.args.len),(77,iv i)] [] m h})] [(6,{A:=VV×VV,st:=λ⟨a,b⟩=>bS 102 105 [(3,.at (.ptr 3 0)),(7,.at (.ptr 7 0)),(8,.at (.ptr 8 0))] [(3,.cells 35 (v.enc.map .val)),(7,.cells 30 (a.enc.map .val)),(8,.cells 30 (b.enc.map .val))] m h})] [] false
abbrev Ls(a:Int)(b:OV)(c:MH)(d:PH)(e:Nat)(g:VV->Prop):=bF (λx f=>aH (aM Option.none x f) (a<=b.index) (b.index<a) (∃(j:VV),aL c d x (fF f b.index e) j.enc/\g j))
attribute [push_cast] Ls
def T4(o:OV)(s:Sl)(m:MH)(h:PH)(K:da):=
  cW (o.kind==3) (K (xO o.value) m h) (o.kind==2) (aZ o.index 0 (K (qK AL) m h) (gQ o.index 0 (K (qK AL) m h) (Ls 0 o m h 3 (λy=>K (xO y) m h)))) (dO o.kind 1 (aZ o.index 0 (K (qK AL) m h) (gQ o.index (aG s) (K (qK AL) m h) (bF (λb c=>aH (aM s.a b c) (0<=o.index) (o.index<aG s) (∃(y:VV),aL m h b (fF c o.index 3) y.enc/\K (xO y) m h))))) (K (qK AL) m h))
def NA(op:Int)(m:MH)(h:PH)(K:da):=
  lG m h (λb e=>iR m e b (aU Value.nilFunc Value.nilFunc (aU Value.nilFunc Value.nilFunc (aU Value.nilFunc Value.nilFunc (lJ Value.nilFunc)))) 248) (λb e=>GU (λc E=>aA (Ze e b (B7 c E 0)) (7<=c.size) (∀(d:MH),iR e d b (aU Value.nilFunc (qS 202) (aU (qS 203) (qS 204) (aU (qS 205) (qS 206) (xP (qS 207) 7 c.toList)))) E->aZ op 0 (K (CV.val Value.nilFunc) d h) (gQ op 7 (K (CV.val Value.nilFunc) d h) (aA (cF op) (op<7) (∃(y:Option Nat),aL d h b (fF 0 op 1) (lJ (bXX y))/\K (CV.val (bXX y)) d h))))))
def biQ(c:Int)(m:MH)(h:PH)(K:da):=
  K (yF (c==0)) m h
def bhJ(c:Int)(m:MH)(h:PH)(K:da):=
  K (yF (c !=0)) m h
def bhZ(c:Int)(m:MH)(h:PH)(K:da):=
  K (yF (decide (c<0))) m h
def bhX(c:Int)(m:MH)(h:PH)(K:da):=
  K (yF (decide (c<=0))) m h
def bhQ(c:Int)(m:MH)(h:PH)(K:da):=
  K (yF (decide (c>0))) m h
def bgJ(c:Int)(m:MH)(h:PH)(K:da):=
  K (yF (decide (c>=0))) m h
noncomputable abbrev tK a b:=lZ a::aX (cM b) Dn
abbrev kL(a:dj)(b:OV)(c:VV):=oQ 30 (fC (At.val (eH (Bf a b).kind)) (At.val (eH (Bf a b).int)) (nR (At.val (Value.string (Bf a b).text))))=qO 30 c.enc
abbrev An(a:PV)(b:Sl)(c:PH)(d:OV->dj->(VV×VV)->Prop):=y8 (λx e f=>aA (tK a.right b=tK x e) (bR c e f) (∃(g:VV×VV),d x f g))
abbrev Gd(a:VV×VV)(b:Int->Prop):=HL (λx c=>A7 a.1 a.2=A7 x c/\∃(d:Int),vI (kT x c) d (b d))
abbrev sD:=eQ sQn
noncomputable abbrev Jg a b:=fL a::aX (cM b) Dn
abbrev Gl(a:PV)(b:Sl)(c:PH)(d:Nat)(e:Pred->dj->Prop):=GP (λx g f j=>aA (Jg a b=Jg x g) (fJ c f x) (aA (bR c g j) (uQ f d) (e f j)))
attribute [push_cast] tK kL An Gd sD Jg Gl
def Xx(N:Nat)(v:PV)(s:Sl)(m:MH)(h:PH)(K:da):=
  cW (v.op==1) (K fM m h) (v.op==3) (∃(I:VV×VV->Prop),aH (y8 (λo f r=>aA (tK v.left s=tK o f) (bR h f r) (aA (y8 (λd n e=>aH (tK v.right s=tK d n) (bR h n e) (∃(x:VV×VV),aA (I x) cH (aA (eP 7) fP (aA (hX v) (kL r o x.1) (aA (kL e d x.2) (m=m) (bQ h h))))) (∃(x:VV×VV),aA (I x) cH (aA (eP 7) fP (aA (hX v) (kL r o x.1) (aA (kL e d x.2) (m=m) (bQ h h))))))) (An v s h (λd e x=>aA (I x) cH (aA (eP 7) fP (aA (hX v) (kL r o x.1) (aA (kL e d x.2) (m=m) (bQ h h)))))/\An v s h (λd e x=>aA (I x) cH (aA (eP 7) fP (aA (hX v) (kL r o x.1) (aA (kL e d x.2) (m=m) (bQ h h)))))) (An v s h (λd e x=>aA (I x) cH (aA (eP 7) fP
 (aA (hX v) (kL r o x.1) (aA (kL e d x.2) (m=m) (bQ h h)))))/\An v s h (λd e x=>aA (I x) cH (aA (eP 7) fP (aA (hX v) (kL r o x.1) (aA (kL e d x.2) (m=m) (bQ h h))))))))) (y8 (λo f r=>aH (tK v.left s=tK o f) (bR h f r) (An v s h (λd e x=>aA (I x) cH (aA (eP 7) fP (aA (hX v) (kL r o x.1) (aA (kL e d x.2) (m=m) (bQ h h)))))) (An v s h (λd e x=>aA (I x) cH (aA (eP 7) fP (aA (hX v) (kL r o x.1) (aA (kL e d x.2) (m=m) (bQ h h)))))))/\y8 (λo f r=>aA (tK v.left s=tK o f) (bR h f r) (An v s h (λd e x=>aA (I x) cH (aA (eP 7) fP (aA (hX v) (kL r o x.1) (aA (kL e d x.2) (m=m) (bQ h h)))))))) (y8 (λo f r=>aH (tK
 v.left s=tK o f) (bR h f r) (An v s h (λd e x=>aA (I x) cH (aA (eP 7) fP (aA (hX v) (kL r o x.1) (aA (kL e d x.2) (m=m) (bQ h h)))))) (An v s h (λd e x=>aA (I x) cH (aA (eP 7) fP (aA (hX v) (kL r o x.1) (aA (kL e d x.2) (m=m) (bQ h h)))))))) (y8 (λo f r=>aA (tK v.left s=tK o f) (bR h f r) (An v s h (λd e x=>aA (I x) cH (aA (eP 7) fP (aA (hX v) (kL r o x.1) (aA (kL e d x.2) (m=m) (bQ h h))))))))/\∀(x:VV×VV),I x->∃(t:VV),fT (rJ x.1=rJ t) (!(kM t)) (K bB m h) (∃(u:VV),rJ x.2=rJ u/\cW (!(kM u)) (K bB m h) (x.1.kind !=x.2.kind) (K bB m h) (∃(o:Int),vI v.cmp o (cW (o==1) (Gd x (λc=>K (yF (c==0)) m h)) (o==2) (Gd
 x (λc=>K (yF (c !=0)) m h)) (cW (o==3) (Gd x (λc=>K (yF (decide (c<0))) m h)) (o==4) (Gd x (λc=>K (yF (decide (c<=0))) m h)) (cW (o==5) (Gd x (λc=>K (yF (decide (c>0))) m h)) (o==6) (Gd x (λc=>K (yF (decide (c>=0))) m h)) (K bB m h))))))) (cW (v.op==4) (mP (λI x=>aA (I x) (aJ s) (aA sD (aJ v.args) (aA (sO v) (bA x) (aA (m=m) (h=h) True)))) (λI j x=>I x->aZ (↑x:Int) (aG v.args) (bF (λb o=>aH (aM v.args.a b o) (0<=(↑x:Int)) ((↑x:Int)<aG v.args) (∃(y:PV),aL m h b (bK o x 13) y.enc/\Gl y s h N (λp r=>branch (!(iX r p)) (K bB m h) (∃(g:Nat),aA (I g) (j g<j x) (aA (aJ s) sD (aA (aJ v.args) (bG v.args) (aA (fU (bC x 1)=bP g) (m=m) (bQ h h))))))))) (K fM m h)))
 (v.op==5) (mP (λI x=>aA (I x) (aJ s) (aA sD (aJ v.args) (aA (sO v) (bA x) (aA (m=m) (h=h) True)))) (λI j x=>I x->aZ (↑x:Int) (aG v.args) (bF (λb o=>aH (aM v.args.a b o) (0<=(↑x:Int)) ((↑x:Int)<aG v.args) (∃(y:PV),aL m h b (bK o x 13) y.enc/\Gl y s h N (λp r=>branch (iX r p) (K fM m h) (∃(g:Nat),aA (I g) (j g<j x) (aA (aJ s) sD (aA (aJ v.args) (bG v.args) (aA (fU (bC x 1)=bP g) (m=m) (bQ h h))))))))) (K bB m h))) (dO v.op 6 (fX (aG v.args) 0 (bF (λb o=>aH (aM v.args.a b o) ((0:Int)<=0) (0<aG v.args) (∃(y:PV),aL m h b (o+0) y.enc/\Gl y s h N (λp r=>K (CV.val (Value.bool (!(iX r p)))) m h)))) (K bB m h)) (K bB m h)))
theorem amQ:cz 157 DenS:=by
 refine gW func157 ?_;rintro x m h K ⟨o,s,r,rfl,n,c⟩;refine⟨cZ [] [] [] [] false,rfl,aI,T4 o s m h K,bh,?_⟩;dsimp only[T4,push_cast];have y:=bI.slen n;unfold Bf at c;refine aC (λd=>?_) (λd=>aC (λt=>?_) (λt=>aC (λf=>?_) (λf=>?_)))
 .rw[if_pos bo]at c;exact c
 .have t:o.kind=2:=bo
  rw[if_neg aD,if_neg aD]at c;exact aF (λ_=>c) (λu=>aF (λ_=>c) (λg=>absurd (show o.index>=((0:Nat):Int)by omega) g))
 .have d:o.kind≠3:=bo
  have f:o.kind=1:=bo
  rw[if_neg d]at c;refine aF (λu=>?_) (λu=>aF (λg=>?_) (λg=>?_))
  .rw[if_neg aD]at c;exact c
  .rw[if_neg aD]at c;exact c
  .rw[if_pos ⟨f,aD,aD⟩]at c
   have z:r[o.index.toNat]? =some (r.getD o.index.toNat zeroV):=by
    grind
   obtain⟨b,j,v,e,rd,rfl⟩:=bI.at n z;exact⟨b,j,e,aD,aD,_,.imm rd,c⟩
 .have d:o.kind≠3:=bo
  have f:o.kind≠1:=bo
  rw[if_neg d,if_neg (λe=>f e.1)]at c;exact c
theorem alJ:cz 159 cLZ:=by
 refine Hr func159 ?_;rintro t m h K ⟨op,rfl,f⟩;refine⟨vO [] [] [] [] [248] [] false,rfl,aI,NA op m h (mK h K),bh,?_⟩;show NA op m h (mK h K);dsimp only[NA,push_cast];intro b H n g;refine⟨_,_,⟨g.at_⟩,bj,λu j=>?_⟩;have c:Sub m u:=((Sub.refl m).upd n.m_ g.other).upd n.m_ j.other;have e:=j.at_
 have d:∀k,¬(1<=op/\op<=6)->op=k->K (.val .nilFunc) m h:=λk I _=>by
  have:(op==1)=false/\(op==2)=false/\(op==3)=false/\(op==4)=false/\(op==5)=false/\(op==6)=false:=by
   grind
  obtain⟨x,y,z,A,D,E⟩:=this;rw[x,y,z,A,D,E]at f;exact f
 refine aF (λF=>.sub c (d _ aD rfl)) (λF=>aF (λG=>.sub c (d _ aD rfl)) (λG=>⟨aD,aD,?_⟩));have:op=0\/op=1\/op=2\/op=3\/op=4\/op=5\/op=6:=by omega
 rcases this with rfl|rfl|rfl|rfl|rfl|rfl|rfl
 .exact⟨none,.lent _ _ _ e rfl,.sub c (d 0 aD rfl)⟩
 .exact⟨some 202,.lent _ _ _ e rfl,.sub c f⟩
 .exact⟨some 203,.lent _ _ _ e rfl,.sub c f⟩
 .exact⟨some 204,.lent _ _ _ e rfl,.sub c f⟩
 .exact⟨some 205,.lent _ _ _ e rfl,.sub c f⟩
 .exact⟨some 206,.lent _ _ _ e rfl,.sub c f⟩
 .exact⟨some 207,.lent _ _ _ e rfl,.sub c f⟩
theorem adZ:cz 202 (O5 (λc=>c==0)):=by
 refine gW func202 ?_;rintro d m h K ⟨c,rfl,e⟩;refine⟨cZ [] [] [] [] false,rfl,aI,biQ c m h K,bh,?_⟩;exact e
theorem adX:cz 203 (O5 (λc=>c !=0)):=by
 refine gW func203 ?_;rintro d m h K ⟨c,rfl,e⟩;refine⟨cZ [] [] [] [] false,rfl,aI,bhJ c m h K,bh,?_⟩;exact e
theorem adQ:cz 204 (O5 (λc=>decide (c<0))):=by
 refine gW func204 ?_;rintro d m h K ⟨c,rfl,e⟩;refine⟨cZ [] [] [] [] false,rfl,aI,bhZ c m h K,bh,?_⟩;exact e
theorem acJ:cz 205 (O5 (λc=>decide (c<=0))):=by
 refine gW func205 ?_;rintro d m h K ⟨c,rfl,e⟩;refine⟨cZ [] [] [] [] false,rfl,aI,bhX c m h K,bh,?_⟩;exact e
theorem acZ:cz 206 (O5 (λc=>decide (c>0))):=by
 refine gW func206 ?_;rintro d m h K ⟨c,rfl,e⟩;refine⟨cZ [] [] [] [] false,rfl,aI,bhQ c m h K,bh,?_⟩;exact e
theorem acX:cz 207 (O5 (λc=>decide (c>=0))):=by
 refine gW func207 ?_;rintro d m h K ⟨c,rfl,e⟩;refine⟨cZ [] [] [] [] false,rfl,aI,bgJ c m h K,bh,?_⟩;exact e
theorem aJX:∀N,cz 97 (Wh N)
 |0=>by
  refine eG (fn:=Tryz.f97) (c:=dQ Tryz.f97) func97 rfl bj ?_;rintro U m h K ⟨v,s,p,r,rfl,_,_,hN,_⟩;omega
 |N+1=>by
  refine gW func97 ?_;rintro U m h K ⟨v,s,p,r,rfl,hp,E,hN,d⟩;refine⟨cjZ N v s m h,rfl,aE amQ (aE Kf (aE alJ (aE Kg (aE (aJX N) (aE adZ (aE adX (aE adQ (aE acJ (aE acZ (aE acX aI)))))))))),Xx N v s m h K,bh,?_⟩;dsimp only[Xx,push_cast];have t:=@yW p;obtain⟨op,a0,l,q,ps⟩:=p;obtain⟨rfl,rfl,rfl,rfl,F⟩:=hp.parts;have V:=F.slen;have a':=F.len;simp only[Pred.args]at t;simp only[iX]at d;refine aC (λh1=>?_) (λh1=>aC (λh3=>?_) (λh3=>aC (λh4=>?_) (λh4=>aC (λh5=>?_) (λh5=>aC (λh6=>?_) (λh6=>?_)))))
  .rw[if_pos bo]at d;exact d
  all_goals have n1:v.op≠1:=bx h1
  .rw[if_neg n1,if_pos bo]at d;refine⟨λx=>x=(Bf r v.left,Bf r v.right),?_,?_⟩
   .repeat' (first|exact⟨_,rfl,MT⟩|refine⟨v.left,s,r,rfl,E,?_⟩|refine⟨v.right,s,r,rfl,E,?_⟩|refine And.intro ?_ ?_)
   .rintro⟨a,b⟩ G;simp only[Prod.mk.injEq]at G;obtain⟨rfl,rfl⟩:=G;generalize Bf r v.left=a at d⊢
    generalize Bf r v.right=b at d⊢
    have W:uB v.cmp a b=false->K (cB false) m h:=λe=>bo
    refine⟨a,rfl,aC (λn=>W ?_) (λn=>⟨b,rfl,aC (λH=>W ?_) (λH=>aC (λI=>W ?_) (λI=>⟨v.cmp,rfl,?_⟩))⟩)⟩
    .have n:kM a=false:=bo
     simp[uB,n]
    .have H:kM b=false:=bo
     simp[uB,H]
    .have I:a.kind≠b.kind:=bo
     simp[uB,I]
    .have n:kM a=true:=bo
     have H:kM b=true:=bo
     have I:a.kind=b.kind:=bo
     have e4:uB v.cmp a b=WC v.cmp (kT a b):=by simp[uB,n,H,I]
     rw[e4]at d;unfold WC at d;refine aC (λz=>?_) (λz=>aC (λA=>?_) (λA=>aC (λD=>?_) (λD=>aC (λJ=>?_) (λJ=>aC (λS=>?_) (λS=>aC (λX=>?_) (λX=>?_))))))
     all_goals simp only[beq_iff_eq,beq_eq_false_iff_ne]at*
     .rw[if_pos z]at d;exact⟨a,b,rfl,_,rfl,d⟩
     .rw[if_neg z,if_pos A]at d;exact⟨a,b,rfl,_,rfl,d⟩
     .rw[if_neg z,if_neg A,if_pos D]at d;exact⟨a,b,rfl,_,rfl,d⟩
     .rw[if_neg z,if_neg A,if_neg D,if_pos J]at d;exact⟨a,b,rfl,_,rfl,d⟩
     .rw[if_neg z,if_neg A,if_neg D,if_neg J,if_pos S]at d;exact⟨a,b,rfl,_,rfl,d⟩
     .rw[if_neg z,if_neg A,if_neg D,if_neg J,if_neg S,if_pos X]at d;exact⟨a,b,rfl,_,rfl,d⟩
     .rw[if_neg z,if_neg A,if_neg D,if_neg J,if_neg S,if_neg X]at d;exact d
  all_goals have n3:v.op≠3:=bx h3
  all_goals rw[if_neg n1,if_neg n3]at d
  .rw[if_pos bo,H3]at d;refine⟨λi=>i<=ps.length/\∀j:Nat,j<i->∀x,ps[j]? =some x->iX r x=true,λi=>ps.length-i,⟨0,⟨aD,λj L=>by omega⟩,MT⟩,λi⟨hi,M⟩=>aF (λf=>?_) (λY=>?_)⟩
   .obtain⟨x,g⟩:=dW V f;obtain⟨O,P,u,n,T,Q⟩:=F.at g;have:=t (ce g);refine⟨O,P,n,aD,f,u,.imm T,u,s,x,r,rfl,Q,E,aD,aC (λZ=>?_) (λhe=>⟨i+1,⟨aD,λj L y R=>?_⟩,(show ps.length-(i+1)<ps.length-i by omega),MT⟩)⟩
    .have:ps.all (iX r)=false:=by
      grind
     rw[this]at d;exact d
    grind
   .have:ps.all (iX r)=true:=by
     rw[all_eq_true];intro y R;obtain⟨j,L⟩:=getElem?_of_mem R
     grind
    rw[this]at d;exact d
  all_goals have n4:v.op≠4:=bx h4
  all_goals rw[if_neg n4]at d
  .rw[if_pos bo,H0]at d;refine⟨λi=>i<=ps.length/\∀j:Nat,j<i->∀x,ps[j]? =some x->iX r x=false,λi=>ps.length-i,⟨0,⟨aD,λj L=>by omega⟩,MT⟩,λi⟨hi,M⟩=>aF (λf=>?_) (λY=>?_)⟩
   .obtain⟨x,g⟩:=dW V f;obtain⟨O,P,u,n,T,Q⟩:=F.at g;have:=t (ce g);refine⟨O,P,n,aD,f,u,.imm T,u,s,x,r,rfl,Q,E,aD,aC (λhe=>?_) (λZ=>⟨i+1,⟨aD,λj L y R=>?_⟩,(show ps.length-(i+1)<ps.length-i by omega),MT⟩)⟩
    .have:ps.any (iX r)=true:=any_eq_true.2 ⟨x,ce g,he⟩;rw[this]at d;exact d
    grind
   .have:ps.any (iX r)=false:=by
     rw[any_eq_false];intro y R;obtain⟨j,L⟩:=getElem?_of_mem R
     grind
    rw[this]at d;exact d
  all_goals have n5:v.op≠5:=bx h5
  all_goals rw[if_neg n5]at d
  .rw[if_pos bo]at d;refine aF (λh7=>?_) (λh7=>?_)
   .obtain⟨x,g⟩:=dW (i:=0) V aD;obtain⟨O,P,u,n,T,Q⟩:=F.at g;have:=t (ce g)
    have e7:Q5 r ps= !iX r x:=by
     cases ps with
     |nil=>simp at g
     |cons y _=>simp at g;subst g;rfl
    rw[e7]at d;exact⟨O,P,n,aD,aD,u,.imm aD,u,s,x,r,rfl,Q,E,aD,d⟩
   .have:ps=[]:=length_eq_zero_iff.1 aD;subst this;exact d
  .rw[if_neg bo]at d;exact d
theorem a5J:cz 97 Wi:=iE aJX λ_ _ _ _⟨v,s,p,r,e,c,d,f⟩=>⟨SizeOf.sizeOf p+1,v,s,p,r,e,c,d,aD,f⟩
structure iM(w:Nat)(l:de):Prop where
 row:∀r∈l,Wf r
 wid:∀r∈l,r.length=w
 srt:fW l
 len:l.length<=8000000
def Cg(l:de)(x:dj):=l.any λy=>eC x y==0
theorem uA{l x}:Cg l x=true↔x∈l:=by
 simp only[Cg,any_eq_true,beq_iff_eq,iZ]
 grind
def c8Z(m c:MH)(b:Nat):=∀x o,m x=some o->x≠b->c x=some o
theorem fV.sub{c r}(sub:Sub m m')(le:PH.le h c)(d:K r m c):fV h K r m' c:=λ_=>⟨m,c,sub,le,λ_ _ _ e=>.inl e,d⟩
structure Ff(m:MH)(y:Nat)(ks:List ByteArray):Prop where
 ex:∃kk:List ByteArray,zX m y (kk.map λk=>(Value.string k,Value.bool true))/\∀k,k∈kk↔k∈ks
theorem Ff.new{y}(h:m y=some (.map #[] 0)):Ff m y []:=⟨[],⟨#[],0,h,rfl,bi,bi⟩,bi⟩
theorem Ff.get{y ks key}{K:Bool->Prop}(s:Ff m y ks)(g:∀t:Bool,(t=true↔key∈ks)->K t):
 ∃(d:List (Value×Bool))(Ok:Value->Prop),zW m y (d.map λp=>(p.1,Value.bool p.2))/\KeyLaw Tryz.prog 9 Ok/\Ok (.string key)/\(∀e,List.Mem e d->Ok e.1)/\((∀e,List.Mem e d->e.1=Value.string key->False)->K false)/\∀t,List.Mem (Value.string key,t) d->K t:=by
 obtain⟨j,⟨u,c,x,z,_,_⟩,A⟩:=s.ex;refine⟨j.map λk=>(Value.string k,true),_,⟨u,c,x,by rw[z];simp⟩,DC,⟨key,rfl⟩,λe D=>?_,λE=>g false ⟨λe=>(by cases e),λf=>?_⟩,λt n=>g t ⟨λ_=>?_,λ_=>?_⟩⟩
 .obtain⟨k,_,rfl⟩:=mem_map.1 (show e∈_ from D)
  grind
 .exact(E (Value.string key,true) (mem_map.2 (⟨key,(A key).2 f,rfl⟩:∃a,a∈j/\(Value.string a,true)=(Value.string key,true))) rfl).elim
 .obtain⟨k,f,e⟩:=mem_map.1 (show(Value.string key,t)∈_ from n)
  grind
 .obtain⟨k,f,e⟩:=mem_map.1 (show(Value.string key,t)∈_ from n)
  grind
theorem WS key:Instr.sameBits 10000 (Value.string key) (Value.string key)=true:=by
 show(key==key)=true;cases key with
 |mk d=>exact beq_self_eq_true d
theorem Ff.put{y ks key}{Q:MH->Prop}(s:Ff m y ks)(u:∀m':MH,tG m m' y->Ff m' y (key::ks)->Q m'):
 ∃(c:dk)(Ok:Value->Prop),zX m y c/\KeyLaw Tryz.prog 9 Ok/\Ok (.string key)/\Instr.sameBits 10000 (Value.string key) (Value.string key)=true/\(∀e,List.Mem e c->Ok e.1)/\((∀e,List.Mem e c->e.1=Value.string key->False)->∀m':MH,tG m m' y->zX m' y (c++[(Value.string key,Value.bool true)])->Q m')/\
  ∀(g:dk)(d:Value)(j:dk),c=g++(Value.string key,d)::j->∀m':MH,tG m m' y->zX m' y (g++(Value.string key,Value.bool true)::j)->Q m':=by
 obtain⟨f,x,A⟩:=s.ex;refine⟨_,_,x,DC,⟨key,rfl⟩,WS key,λe z=>?_,λD m' n t=>u m' n ⟨f++[key],bo,λk=>?_⟩,λg d j e m' n t=>u m' n ⟨f,?_,λk=>?_⟩⟩
 .obtain⟨k,_,rfl⟩:=mem_map.1 (show e∈_ from z)
  grind
 .grind
 .have:(Value.string key,d)∈f.map λk=>(Value.string k,Value.bool true):=by rw[e];simp
  grind
 .have:(Value.string key,d)∈f.map λk=>(Value.string k,Value.bool true):=by rw[e];simp
  grind
theorem zR{α}{l:List α}{k x} p(c:l[k]? =some x):(l.take (k+1)).filter p=(l.take k).filter p++(if p x then[x]else[]):=by
 rw[cq,c,Option.toList_some,filter_append]
 grind
def aGJ(n:Nat):Query->List de->Prop:=λ_ c=>n<=c.length/\∀l∈c,∃w,iM w l
def cjQ(q:Query)(ls:List de):=match q with|.mk _ _ w _ _ _ _ _ _=>(ls.getD 0 []).filter λr=>iX r w
theorem awX{ls:List de}{i}(h:i<ls.length):ls[i]? =some (ls.getD i []):=by
 grind
theorem dR.app{us vs a b}(x:dR h us a)(y:dR h vs b):dR h (us++vs) (a++b):=by
 refine⟨by simp[x.len,y.len],λj r c=>?_⟩;have g:=x.len;by_cases d:j<a.length
 .rw[getElem?_append_left d]at c;obtain⟨u,e,f⟩:=x.at_ j r c
  grind
 .rw[getElem?_append_right aD]at c;obtain⟨u,e,f⟩:=y.at_ _ r c
  grind
def cPQ(_:Query)(ls:List de):=sK (ls.getD 0 []++ls.getD 1 [])
def cFJ(q:Query)(ls:List de):=match q with|.mk _ _ _ co _ _ _ _ _=>sK ((ls.getD 0 []).map λr=>pick r co)
def ZC(q:Query)(ls:List de):=match q with|.mk _ _ _ co _ _ _ _ _=>1<=ls.length/\co.length<=12/\∃w,iM w (ls.getD 0 [])/\fE w co
theorem bvZ{r y}(d:(pick r co)[i]? =some y)(e:i<co.length):((pick r co).take i++replicate (co.length-i) zeroV).set i y=(pick r co).take (i+1)++replicate (co.length-(i+1)) zeroV:=by
 have c:(pick r co).length=co.length:=by simp[pick]
 rw[set_append,if_neg bn];rw[cq,d,Option.toList_some,append_assoc];congr 1;rw[show co.length-i=(co.length-(i+1))+1 by omega,replicate_succ];simp[c,Nat.min_eq_left (Nat.le_of_lt e)]
theorem aZZ{r}(d:i<co.length):(((pick r co).take i++replicate (co.length-i) zeroV).map VV.enc)[i]? =some (VV.enc zeroV):=by
 have c:(pick r co).length=co.length:=by simp[pick]
 grind
theorem yH{m0 o}(c:Sub m0 m)(g:rT m h b)(j:pO m m' b o):Sub m0 m'/\m0 b=none:=by
 have d:m0 b=none:=by
  cases e:m0 b with
  |none=>rfl
  |some x=>have f:=c b x e;rw[g.m_]at f;cases f
 exact⟨c.upd d j.other,d⟩
def MY(_:Query)(ls:List de):=2<=ls.length/\∃w,∀l∈ls,iM w l
def cSQ(_:Query)(ls:List de):=(ls.getD 0 []).filter λx=>Cg (ls.getD 1 []) x==false
def bBJ(_:Query)(ls:List de):=(ls.getD 0 []).filter λx=>Cg (ls.getD 1 []) x==true
def jT:di->dj->dj->Int
 |[],a,b=>eC a b
 |(c,d)::r,a,b=>if 0<=c/\c<a.length/\c<b.length then(if kT (a.getD c.toNat zeroV) (b.getD c.toNat zeroV)≠0 then(if d then-kT (a.getD c.toNat zeroV) (b.getD c.toNat zeroV)else kT (a.getD c.toNat zeroV) (b.getD c.toNat zeroV))else jT r a b)else jT r a b
def Ir:Vc.Spec:=λc m h K=>∃o s t od a b,c=[cS o,cS s,cS t]/\jW h o od/\bR h s a/\bR h t b/\K (cI (jT od a b)) m h
noncomputable def bVX o s t m h:=
 cZ [(156,OU),(93,FL)] [(2,{A:=Nat,st:=λi=>bS 55 58 [(1,sv s),(2,sv t),(10,sv o),(11,iv o.len),(12,iv i)] [] m h})] [] [] false
abbrev Ap(a:Nat->Prop)(b:Nat->Nat)(c:Nat)(d e g:Sl)(i:MH)(j:PH):=∃(x:Nat),aA (a x) (b x<b c) (aA (aJ d) (aJ e) (aA (aJ g) (bG g) (aA (fU (bC c 1)=bP x) (i=i) (bQ j j))))
attribute [push_cast] Ap
def UD(o s t:Sl)(m:MH)(h:PH)(K:da):=
  mP (λI x=>aA (I x) (aJ s) (aA (aJ t) (aJ o) (aA (bG o) (bA x) (aA (m=m) (h=h) True)))) (λI c x=>I x->aZ (↑x:Int) (aG o) (bF (λb e=>aH (aM o.a b e) (0<=(↑x:Int)) ((↑x:Int)<aG o) (∃(y:Int×Bool),aL m h b (bK e x 2) (Az y)/\aZ y.1 0 (Ap I c x s t o m h) (cW (decide (y.1>=aG s)) (Ap I c x s t o m h) (decide (y.1>=aG t)) (Ap I c x s t o m h) (bF (λf g=>aH (aM s.a f g) (0<=y.1) (y.1<aG s) (∃(j:VV),aL m h f (fF g y.1 3) j.enc/\bF (λn u=>aH (aM t.a n u) (0<=y.1) (y.1<aG t) (∃(z:VV),aL m h n (fF u y.1 3) z.enc/\HL (λa d=>A7 j z=A7 a d/\cW (kT a d==0) (Ap I c x s t o m h) y.2 (K (fI (kE (0-kT a d))) m h) (K (fI (kT a d)) m h)))))))))))
 (wL s t h (λa b=>K (fI (eC a b)) m h)))
theorem RR a b: -1<=kT a b/\kT a b<=1:=by
 have c:∀x y:Int, -1<=D2 x y/\D2 x y<=1:=λx y=>by unfold D2;omega
 have d:=(QX a.text.data.toList b.text.data.toList).2;have e: -1<=SE a.text b.text/\SE a.text b.text<=1:=by unfold SE;omega
 have f:=c a.kind b.kind;have g:=c a.int b.int;unfold kT;omega
theorem UM{c d r a b}(h:¬(0<=c/\c<a.length/\c<b.length)):jT ((c,d)::r) a b=jT r a b:=by
 rw[jT,if_neg h]
theorem aOQ{c d r a b x y}(e:0<=c)(f:a[c.toNat]? =some x)(g:b[c.toNat]? =some y):jT ((c,d)::r) a b=if kT x y≠0 then(if d then-kT x y else kT x y)else jT r a b:=by
 have j:=(bz f);have n:=(bz g);rw[jT,if_pos ⟨e,aD,aD⟩]
 grind
theorem RM:cz 110 Ir:=by
 refine gW func110 ?_;rintro O m h K ⟨o,s,t,od,a,b,rfl,E,F,G,g⟩;refine⟨bVX o s t m h,rfl,aE Kg (aE Fy aI),UD o s t m h K,bh,?_⟩;dsimp only[UD,push_cast];have H:=E.slen;have P:=E.len;have Q:=bI.slen F;have R:=bI.slen G;refine⟨λi=>i<=od.length/\jT od a b=jT (od.drop i) a b,λi=>od.length-i,⟨0,⟨aD,bi⟩,MT⟩,λi⟨hi,j⟩=>aF (λn=>?_) (λS=>?_)⟩
 .obtain⟨⟨c,D⟩,I⟩:=dW H n;obtain⟨T,U,V,W⟩:=E.row.get (i:=i) (e:=Aa (c,D)) (by simp[I]);rw[drop_cons I]at j
  have skip:¬(0<=c/\c<a.length/\c<b.length)->∃d:Nat,(λi=>i<=od.length/\jT od a b=jT (od.drop i) a b) d/\(λi=>od.length-i) d<(λi=>od.length-i) i/\eQ (sQs s)/\eQ (sQs t)/\eQ (sQs o)/\eQ (fU ↑o.len)/\fU (IntKind.i64.wrap ((i:Int)+1))=fU ↑d/\m=m/\h=h/\True:=λX=>
   ⟨i+1,⟨aD,by rw[j,UM X]⟩,(show od.length-(i+1)<od.length-i by omega),MT⟩
  refine⟨T,U,V,aD,n,(c,D),.imm W,aF (λJ=>skip (λe=>by omega)) (λJ=>aF (λL=>skip (λe=>by omega)) (λL=>aF (λM=>skip (λe=>by omega)) (λM=>?_)))⟩;dsimp only at J L M⊢
  obtain⟨x,z⟩:∃x,a[c.toNat]? =some x:=⟨_,cd aD⟩
  obtain⟨y,A⟩:∃y,b[c.toNat]? =some y:=⟨_,cd aD⟩
  obtain⟨Y,Z,u,e2,r2,rfl⟩:=bI.at F z;obtain⟨b3,o3,u,e3,r3,rfl⟩:=bI.at G A;rw[aOQ aD z A]at j;have a':=RR x y;refine⟨Y,Z,e2,aD,aD,x,.imm r2,b3,o3,e3,aD,aD,y,.imm r3,x,y,rfl,aC (λh4=>⟨i+1,⟨aD,?_⟩,(show od.length-(i+1)<od.length-i by omega),MT⟩) (λh4=>aC (λf=>?_) (λf=>?_))⟩
  .grind
  .have f:D=true:=f;rw[j,if_pos bo,if_pos f]at g;rw[eM aD aD,Int.zero_sub];exact g
  .have f:D=false:=f;rw[j,if_pos bo,if_neg (by simp[f])]at g;exact g
 .rw[j,drop_eq_nil_of_le aD,jT]at g;exact⟨s,t,a,b,rfl,F,G,g⟩
def Ms(w:Nat):di->dj->dj->Int
 |[],a,b=>eC a b
 |(c,d)::r,a,b=>if 0<=c/\c<w then(if(if d then-kT (a.getD c.toNat zeroV) (b.getD c.toNat zeroV)else kT (a.getD c.toNat zeroV) (b.getD c.toNat zeroV))≠0 then(if d then-kT (a.getD c.toNat zeroV) (b.getD c.toNat zeroV)else kT (a.getD c.toNat zeroV) (b.getD c.toNat zeroV))else Ms w r a b)else Ms w r a b
theorem EO{w:Nat}:∀{od:di}{a b:dj},a.length=w->b.length=w->jT od a b=Ms w od a b
 |[],_,_,_,_=>rfl
 |(c,f)::r,a,b,d,e=>by
  rw[jT,Ms,d,e,EO (od:=r) d e];omega
theorem U3.neg{α}{c:α->α->Int}(h:U3 c):U3 (λx y=> -c x y):=by
 refine⟨λx y=>by have:=h.anti x y;omega,λx y z d e=>?_⟩;have f:=h.anti x y;have g:=h.anti y z;have j:=h.anti x z;have:=h.trans z y x aD aD;omega
theorem Mr(w:Nat):∀od,U3 (Ms w od)
 |[]=>Ih
 |(c,d)::r=>by
  have f:=Mr w r;have g:U3 (λa b:dj=>kT (a.getD c.toNat zeroV) (b.getD c.toNat zeroV)):=Mt.of λa:dj=>a.getD c.toNat zeroV;by_cases h:0<=c/\c<w
  .have e:Ms w ((c,d)::r)=λa b=>if(if d then-kT (a.getD c.toNat zeroV) (b.getD c.toNat zeroV)else kT (a.getD c.toNat zeroV) (b.getD c.toNat zeroV))≠0 then(if d then-kT (a.getD c.toNat zeroV) (b.getD c.toNat zeroV)else kT (a.getD c.toNat zeroV) (b.getD c.toNat zeroV))else Ms w r a b:=by
    funext a b;rw[Ms,if_pos h]
   rw[e];cases d
   .exact g.lex f
   .exact g.neg.lex f
  .have e:Ms w ((c,d)::r)=Ms w r:=by funext a b;rw[Ms,if_neg h]
   grind
theorem bYJ{w} od:Sort.SWO (Go.Proofs.ltOf (fun(x y:Io h (λl=>l.length=w))=>jT od x.l y.l)):=by
 have e:(fun(x y:Io h (λl=>l.length=w))=>jT od x.l y.l)=λx y=>Ms w od x.l y.l:=by
  funext x y;exact EO x.pr_ y.pr_
 rw[e];exact(Mr w od).swo
def bxJ(on:dh)(ls:List de):=2<=ls.length/\∃w c,iM w (ls.getD 0 [])/\iM c (ls.getD 1 [])/\fE w (fY on)/\fE c (fK on)
def bwJ(q:Query)(ls:List de):=match q with|.mk _ _ _ _ on _ _ _ _=>bxJ on ls
def agree on x y:=eC (pick x (fY on)) (pick y (fK on))==0
def cFX(q:Query)(ls:List de):=match q with|.mk _ _ _ _ on _ _ _ _=>(ls.getD 0 []).filter λx=>(ls.getD 1 []).any λy=>agree on x y
theorem sU{on x y}:agree on x y=true↔pick x (fY on)=pick y (fK on):=by
 simp only[agree,beq_iff_eq,iZ]
theorem KT{r cols}(c:Wf r)(d:fE r.length cols):∀v∈pick r cols,VOk v:=λv e=>c.val v (W7 d e)
theorem Nd{κ}(c:bqZ κ){on x y}(d:Wf x)(e:Wf y)(f:fE x.length (fY on))(g:fE y.length (fK on)):κ (pick x (fY on))=κ (pick y (fK on))↔agree on x y=true:=by
 rw[sU];exact c.inj (by simp[pick,fY,fK]) (KT d f) (KT e g)
structure uG(m0 m:MH)(y:Nat)(kk:ef)(us:ByteArray->dg):Prop where
 map_:zX m y (kk.map λp=>(Value.string p.1,gP p.2))
 nodup:(kk.map Prod.fst).Nodup
 row:∀p∈kk,fA m p.2 65 1 ((us p.1).map eS)
 fresh:∀p∈kk,∀x i,p.2.a=some ⟨x,i,none⟩->m0 x=none
 apart:∀p∈kk,∀q∈kk,p.1≠q.1->∀x i j,p.2.a=some ⟨x,i,none⟩->q.2.a≠some ⟨x,j,none⟩
 none_:∀k,k∉kk.map Prod.fst->us k=[]
 old:∀x o,m0 x=some o->x≠y->m x=some o
def Ho(kk:ef)(key:ByteArray)(s:Sl):=(s=⟨none,0,0⟩/\key∉kk.map Prod.fst)\/(key,s)∈kk
theorem uG.new{y}(h:m y=some (.map #[] 0)):uG m m y [] λ_=>[]:=⟨⟨#[],0,h,rfl,bi,bi⟩,bi,bi,bi,bi,λ_ _=>rfl,λ_ _ e _=>e⟩
theorem Ho.row{m0 y kk us key s}(g:uG m0 m y kk us)(d:Ho kk key s):fA m s 65 1 ((us key).map eS)/\∀x i,s.a=some ⟨x,i,none⟩->m0 x=none:=by
 rcases d with⟨rfl,f⟩|c
 .rw[g.none_ key f];exact⟨⟨Ad [],.inl ⟨rfl,rfl⟩⟩,λx i e=>by cases e⟩
 .exact⟨g.row _ c,g.fresh _ c⟩
def P5(us:ByteArray->dg)(key:ByteArray)(e:Sl):=λk=>if k=key then us k++[e]else us k
theorem uG.core{m0 V:MH}{y:Nat}{kk z us key s F e}(g:uG m0 m y kk us)(I:∃o,m0 y=some o)(J:Ho kk key s)(G:kK m V s F 65 1 ((us key).map eS++[[gP e]]))(W:zX m' y (z.map λp=>(Value.string p.1,gP p.2)))(t:tG V m' y)(L:(z.map Prod.fst).Nodup)(u:∀p∈z,p=(key,F)\/(p∈kk/\p.1≠key))(H:(key,F)∈z)(M:∀k,k∈kk.map Prod.fst->k∈z.map Prod.fst):uG m0 m' y z (P5 us key e):=by
 obtain⟨oy,I⟩:=I;obtain⟨X,a'⟩:=J.row g;obtain⟨es,c,h1,_⟩:=g.map_;have a0:∀i,s.a≠some ⟨y,i,none⟩:=λi f=>bo
 have Y:∀x,m x=none->m0 x=none:=λx O=>by
  cases P:m0 x with
  |none=>rfl
  |some o=>
   by_cases Q:x=y
   .grind
   .rw[g.old x o P Q]at O;cases O
 have Z:∀x i,F.a=some ⟨x,i,none⟩->m0 x=none:=λx i f=>by
  rcases G.fresh x i f with h|⟨j,h⟩
  .grind
  grind
 have E:∀p∈kk,∀x i,p.2.a=some ⟨x,i,none⟩->∃o,m x=some o:=λp A x i f=>by
  rcases(g.row p A).ex with⟨h,_⟩|⟨b,a1,a2,h,W,_⟩
  .grind
  grind
 have R:∀p∈kk,p.1≠key->∀x i j,p.2.a=some ⟨x,i,none⟩->s.a≠some ⟨x,j,none⟩:=λp A d x i j f D=>by
  rcases J with⟨rfl,_⟩|J
  .cases D
  .exact g.apart p A _ J d x i j f D
 refine⟨W,L,λp A=>?_,λp A x i f=>?_,λp A q hq d x i j f D=>?_,λk hk=>?_,λx o P d=>?_⟩
 .rcases u p A with rfl|⟨n,d⟩
  .have S:(P5 us key e key).map eS=(us key).map eS++[[gP e]]:=by simp[P5,eS]
   rw[S];exact fA.keep G.row λb i f=>t.other b (λD=>bo)
  .have S:P5 us key e p.1=us p.1:=if_neg d;rw[S];refine fA.keep (g.row p n) λb i f=>?_;obtain⟨o,ho⟩:=E p n b i f;rw[t.other b (λD=>by rw[D]at f;rw[g.fresh p n y i f]at I;cases I),ho];exact G.other b o ho (λj=>R p n d b i j f)
 .rcases u p A with rfl|⟨n,_⟩
  .grind
  .exact g.fresh p n x i f
 .have O:∀p∈kk,p.1≠key->∀i j,p.2.a=some ⟨x,i,none⟩->F.a≠some ⟨x,j,none⟩:=λp A d i j f D=>by
   rcases G.fresh x j D with h|⟨j',h⟩
   .grind
   grind
  rcases u p A with rfl|⟨n,a3⟩<;>rcases u q hq with rfl|⟨T,a4⟩
  .exact d rfl
  .grind
  .grind
  .exact g.apart p n q T d x i j f D
 .have U:k≠key:=λf=>hk (mem_map.2 ⟨_,H,f.symm⟩);simp only[P5,if_neg U];exact g.none_ k λh=>hk (M k h)
 .rw[t.other x d];exact G.other x o (g.old x o P d) (λi f=>bo)
theorem uG.put{m0 z y kk us key s t e}{Q:MH->Prop}(g:uG m0 m y kk us)(A:∃o,m0 y=some o)(D:Ho kk key s)(E:kK m z s t 65 1 ((us key).map eS++[[gP e]]))(L:∀m' F,uG m0 m' y F (P5 us key e)->Q m'):
 ∃(j:dk)(Ok:Value->Prop),zX z y j/\KeyLaw Tryz.prog 9 Ok/\Ok (.string key)/\Instr.sameBits 10000 (Value.string key) (Value.string key)=true/\(∀e,List.Mem e j->Ok e.1)/\((∀e,List.Mem e j->e.1=Value.string key->False)->∀m':MH,tG z m' y->zX m' y (j++[(Value.string key,gP t)])->Q m')/\
  ∀(G:dk)(M:Value)(H:dk),j=G++(Value.string key,M)::H->∀m':MH,tG z m' y->zX m' y (G++(Value.string key,gP t)::H)->Q m':=by
 have I:∀i,s.a≠some ⟨y,i,none⟩:=λi n=>by
  obtain⟨o,O⟩:=A;rw[(D.row g).2 y i n]at O;cases O
 obtain⟨S,c,T,U,V,W⟩:=g.map_;refine⟨kk.map λp=>(Value.string p.1,gP p.2),_,⟨S,c,E.other _ _ T I,U,V,W⟩,DC,⟨key,rfl⟩,WS key,λe X=>?_,λY m' d J=>?_,λG M H Z m' d J=>?_⟩
 .obtain⟨k,_,rfl⟩:=mem_map.1 (show e∈_ from X)
  grind
 .have a':key∉kk.map Prod.fst:=λh=>by
   obtain⟨p,hp,n⟩:=mem_map.1 h;subst n;exact Y _ (mem_map_of_mem (f:=λp:ByteArray×Sl=>(Value.string p.1,gP p.2)) hp) rfl
  refine L m' (kk++[(key,t)]) (g.core A D E bo d ?_ ?_ bi (λk hk=>bo))
  .rw[cj,nodup_append];refine⟨g.nodup,bi,λa ha b hb n=>?_⟩
   grind
  grind
 .obtain⟨k1,a0,e1,n,e3⟩:=map_eq_append_iff.1 Z;obtain⟨p,k2,e4,P,e6⟩:=map_eq_cons_iff.1 e3;subst e1 e4 n e6;simp only[Prod.mk.injEq,Value.string.injEq]at P;have u:=g.nodup;rw[cj,map_cons,P.1]at u;have x:=nodup_append.1 u;have R:=nodup_cons.1 x.2.1;refine L m' (k1++(key,t)::k2) (g.core A D E bo d bo ?_ bi (λk hk=>bo))
  grind
theorem uG.get2{m0 y kk us key K0}{K:Sl->Prop}(g:uG m0 m y kk us)(n:Ho kk key ⟨none,0,0⟩->K0)(u:∀s,Ho kk key s->K s):
 ∃(d:fb)(Ok:Value->Prop),zW m y (d.map λp=>(p.1,gP p.2))/\KeyLaw Tryz.prog 9 Ok/\Ok (.string key)/\(∀e,List.Mem e d->Ok e.1)/\((∀e,List.Mem e d->e.1=Value.string key->False)->K0)/\∀t,List.Mem (Value.string key,t) d->K t:=by
 obtain⟨x,c,z,A,_,_⟩:=g.map_;refine⟨kk.map λp=>(.string p.1,p.2),_,⟨x,c,z,by rw[A];simp⟩,DC,⟨key,rfl⟩,λe D=>?_,λE=>n (.inl ⟨rfl,λh=>?_⟩),λt F=>u t (.inr ?_)⟩
 .obtain⟨k,_,rfl⟩:=mem_map.1 (show e∈_ from D)
  grind
 .obtain⟨p,j,e⟩:=mem_map.1 h;subst e;exact E (.string p.1,p.2) (mem_map_of_mem (f:=λp:ByteArray×Sl=>(Value.string p.1,p.2)) j) rfl
 .obtain⟨p,j,e⟩:=mem_map.1 (show(Value.string key,t)∈_ from F)
  grind
structure aBQ(m0 m:MH)(h:PH)(y:Nat)(f:ByteArray->de):Prop where
 ex:∃kk us,uG m0 m y kk us/\∀k,dR h (us k) (f k)
theorem aBQ.upd{m0 y kk us}{f:ByteArray->de}{c key e r}(g:uG m0 m' y kk (P5 us key e))(j:∀k,dR h (us k) (f k))(n:bR h e r)(t:c key=f key++[r])(u:∀k,k≠key->c k=f k):aBQ m0 m' h y c:=by
 refine⟨kk,_,g,λk=>?_⟩;by_cases d:k=key
 .subst d;rw[t];have:P5 us k e k=us k++[e]:=if_pos rfl;rw[this];exact(j k).snoc n
 .rw[u k d];have:P5 us key e k=us k:=if_neg d
  grind
def kO cols r:=(pick r cols).all kM
def jS(on:dh)(b:de)(x:dj):=
 if kO (fY on) x then(b.filter λy=>kO (fK on) y&&agree on x y).map (x++ ·)else[]
def c0X(q:Query)(ls:List de):=match q with|.mk _ _ _ _ on _ _ _ _=>(ls.getD 0 []).flatMap (jS on (ls.getD 1 []))
def ZD(q:Query)(ls:List de):=match q with|.mk _ _ _ _ on _ _ _ _=>bxJ on ls/\(ls.getD 0 []).length*(ls.getD 1 []).length<=8000000
theorem zO{α β:Type}{f:α->List β}{n:Nat}:∀{l:List α},(∀x∈l,(f x).length<=n)->(l.flatMap f).length<=l.length*n
 |[],_=>bi
 |a::l,h=>by
  have d:=h a (mem_cons_self ..);have e:=zO (l:=l) λx c=>h x (mem_cons_of_mem _ c);simp only[flatMap_cons,cg,cu,Nat.add_mul,Nat.one_mul];omega
theorem G1{α β}{l:List α}{k x}(f:α->List β)(c:l[k]? =some x):(l.take (k+1)).flatMap f=(l.take k).flatMap f++f x:=by
 rw[cq,c];simp
theorem B8{on b x}:(jS on b x).length<=b.length:=by
 unfold jS;grind
def under(κ:dj->ByteArray)(cols:db)(l:de)(key:ByteArray):=l.filter λz=>kO cols z&&decide (κ (pick z cols)=key)
theorem JS{κ cols}{l:de}{k r}(c:l[k]? =some r) key:under κ cols (l.take (k+1)) key=under κ cols (l.take k) key++(if kO cols r&&decide (κ (pick r cols)=key)then[r]else[]):=zR _ c
def rC(κ:dj->ByteArray)(gr:db)(l:de)(k:ByteArray):=l.filter λz=>decide (κ (pick z gr)=k)
def xA(od:di)(l:de):=l.Pairwise λa b=>¬jT od b a<0
structure zL(κ:dj->ByteArray)(m:MH)(h:PH)(y:Nat)(gr:db)(od:di)(l:de)(kk:ef)(g:ByteArray->de):Prop where
 map_:zX m y (kk.map λp=>(Value.string p.1,gP p.2))
 nodup:(kk.map Prod.fst).Nodup
 rows:∀p∈kk,Rows h p.2 (g p.1)
 none_:∀k,k∉kk.map Prod.fst->g k=[]
 perm:∀k,(g k).Perm (rC κ gr l k)
 sort:∀k,xA od (g k)
structure cEX(m:MH)(h:PH)(od:di)(p:ByteArray×Sl)(f:ByteArray->de)(st:Prop):Prop where
 ex:∃ps:dy,fA m p.2 65 1 (ps.map λq=>eS q.1)/\(∀q∈ps,bR h q.1 q.2)/\(ps.map Prod.snd).Perm (f p.1)/\(st->xA od (ps.map Prod.snd))
noncomputable def leftOf(m:MH)(r:Nat):Nat:=match m r with
 |some (.mapIter (some b) _ c _)=>(match m b with|some (.map d _)=>(d.toList.filter λe=> !c.contains e.born).length|_=>0)
 |_=>0
theorem oR.left_{r d left}(i:oR m b r d left):leftOf m r=left.length:=by
 obtain⟨n,c,e,f,t,g,_,_,_,j,_,_,_,u⟩:=i.ex;simp only[leftOf,j,g]
 grind
theorem oR.mem{r d left}(i:oR m b r d left){x}(g:x∈left):x∈d:=by
 obtain⟨j,c,e,f,n,t,u,_,_,y,_,_,_,z⟩:=i.ex
 grind
theorem oR.keep{r e left}(i:oR m b r e left)(n:m' b=m b)(t:m' r=m r):oR m' b r e left:=by
 obtain⟨g,c,d,f,j,u,x⟩:=i.ex;exact⟨g,c,d,f,j,bo,bo⟩
theorem oR.nodup{r d left}(i:oR m b r d left)(g:d.Nodup):left.Nodup:=by
 obtain⟨j,c,e,f,n,t,u,_,_,x,_,_,_,y⟩:=i.ex
 grind
theorem cYX{us rs}(c:dR h us rs):∃ps:dy,ps.map Prod.fst=us/\ps.map Prod.snd=rs/\∀q∈ps,bR h q.1 q.2:=by
 refine⟨us.zip rs,map_fst_zip (Nat.le_of_eq c.len),map_snd_zip (Nat.le_of_eq c.len.symm),λq e=>?_⟩;obtain⟨i,d⟩:=mem_iff_getElem?.1 e;rw[getElem?_zip_eq_some]at d;obtain⟨u,f,g⟩:=c.at_ i _ d.2
 grind
theorem fA.ice{s}{us:dg}(n:fA m s 65 1 (us.map eS))(G:∀b c,s.a=some ⟨b,0,none⟩->m b=some (.cells c 65 (0,0))->∀i,h b i=c[i]?):cO h s 1 (us.map eS):=by
 rcases n.ex with⟨rfl,f⟩|⟨b,x,c,rfl,H,y,I,J,L⟩
 .rw[f];exact cO.nil _ _
 .refine⟨bi,?_,y⟩;by_cases z:us.map eS=[]
  .exact .inl z
  .refine .inr ⟨b,0,rfl,λi e d=>⟨λj v t=>?_⟩⟩;have A:=n.rows.len e (ce d);have D:j=0:=bo
   subst D;have E:=(bz d)
   have M:((us.map eS).flatten)[i]? =some v:=by
    rw[getElem?_map]at d;cases g:us[i]? with
    |none=>grind
    |some u=>
     rw[g]at d;simp at d;subst d;simp[eS]at t;subst t
     have:∀l:dg,(l.map eS).flatten=l.map λu=>Value.slice u.a u.len u.cap:=λl=>by
      induction l with
      |nil=>rfl
      |cons a l F=>simp only[map_cons,flatten_cons,F];rfl
     grind
   grind
theorem VM{kk:ef}(d:(kk.map Prod.fst).Nodup){p q}(c:p∈kk)(f:q∈kk)(e:p.1=q.1):p=q:=by
 induction kk with
 |nil=>cases c
 |cons a kk g=>
  grind
theorem Xr{κ:dj->ByteArray}{M Q:MH}{E t y r l kk X}(R:Sub m M)(ny:m y=none)(m4y:M y=some (.map #[] 0))(g:uG M Q y kk X)(hg:∀k,dR t (X k) (rC κ gr l k))(le:PH.le h t)(a0:l.length<=8000000)(S:∀b o,Q b=some o->(∀p∈kk,∀i,p.2.a≠some ⟨b,i,none⟩)->E b=some o)(T:oR E y r (kk.map λp=>(Value.string p.1,gP p.2)) [])(u:∀p∈kk,cEX E t od p (rC κ gr l) ((Value.string p.1,gP p.2)∉([]:dk)))(hK:∀y m2 d kk g,m y=none->(∀b,b≠y->m2 b=m b)->PH.le h d->zL κ m2 d y gr od l kk g->K (.val (.map (some y))) m2 d):fV h K (.val (.map (some y))) E t:=by
 intro hd;have A:∀b o,M b=some o->∀p∈kk,∀i,p.2.a≠some ⟨b,i,none⟩:=λb o e p f i H=>by rw[g.fresh p f b i H]at e;cases e
 have J:Sub m Q:=λz o H=>g.old z o (R z o H) (λe3=>bo)
 classical
 let B:Nat->Prop:=λb=>∃p∈kk,p.2.a=some ⟨b,0,none⟩
 have hB:∀b,B b->m b=none/\b≠y/\∀i,t b i=none:=by
  rintro b ⟨p,f,e⟩;obtain⟨ps,I,_⟩:=(u p f).ex;refine⟨?_,λH=>?_,hd b _ (I.blk e).choose_spec⟩
  .cases H:m b with
   |none=>rfl
   |some o=>exact(A b o (R b o H) p f 0 e).elim
  grind
 let d:PH:=λb i=>if B b then(match E b with|some (.cells cs _ _)=>cs[i]? |_=>none)else t b i
 have F:PH.le t d:=⟨λb i v e=>by
  grind⟩
 have a1:∀p∈kk,∃G,Rows d p.2 G/\G.Perm (rC κ gr l p.1)/\xA od G:=λp f=>by
  obtain⟨ps,I,Y,Z,L⟩:=(u p f).ex;refine⟨ps.map Prod.snd,?_,Z,L bi⟩;have e5:(ps.map λq=>eS q.1)=(ps.map Prod.fst).map eS:=by rw[map_map];rfl
  rw[e5]at I
  have U:cO d p.2 1 ((ps.map Prod.fst).map eS):=fA.ice I λb a2 ea hm i=>by
   show(if B b then _ else t b i)=_;rw[if_pos ⟨p,f,ea⟩,hm]
  refine dR.rows (us:=ps.map Prod.fst) ⟨bi,λj x O=>?_⟩ U ?_
  .rw[getElem?_map]at O;cases P:ps[j]? with
   |none=>grind
   |some q=>
    rw[P]at O;have O:q.2=x:=bo
    exact⟨q.1,bo,O▸bR.mono (Y q (ce P)) F⟩
  .have:=Z.length_eq;have h6:(rC κ gr l p.1).length<=l.length:=length_filter_le _ _;omega
 let G:ByteArray->de:=λk=>if e:∃p G,p∈kk/\p.1=k/\Rows d p.2 G/\G.Perm (rC κ gr l p.1)/\xA od G then e.choose_spec.choose else[]
 have hG:∀p∈kk,Rows d p.2 (G p.1)/\(G p.1).Perm (rC κ gr l p.1)/\xA od (G p.1):=λp f=>by
  have V:∃n G,n∈kk/\n.1=p.1/\Rows d n.2 G/\G.Perm (rC κ gr l n.1)/\xA od G:=by
   grind
  have P:G p.1=V.choose_spec.choose:=dif_pos V;rw[P];obtain⟨L,h6,h7⟩:=V.choose_spec.choose_spec
  have tr:∀n G',n∈kk->n.1=p.1->(Rows d n.2 G'/\G'.Perm (rC κ gr l n.1)/\xA od G')->Rows d p.2 G'/\G'.Perm (rC κ gr l p.1)/\xA od G':=λn G' I d Y=>by
   have e7:=VM g.nodup I f d
   grind
  exact tr _ _ L h6 h7
 have hN:∀k,k∉kk.map Prod.fst->G k=[]/\rC κ gr l k=[]:=λk D=>by
  refine⟨dif_neg ?_,?_⟩
  .grind
  .have L:=(hg k).len;rw[g.none_ k D]at L
   grind
 obtain⟨es,c,W,a',c0,i1,i2,i3,i4,_⟩:=T.ex;refine⟨λb=>if b=y then E y else m b,d,λb o e=>?_,le.trans F,λb i v' e=>?_,hK y _ d kk G ny (λb hb=>if_neg hb) (le.trans F) ⟨⟨es,c,(if_pos rfl).trans i1,i2,i3,i4⟩,g.nodup,λp f=>(hG p f).1,λk D=>(hN k D).1,λk=>?_,λk=>?_⟩⟩
 .have e:(if b=y then E y else m b)=some o:=e;split at e
  .grind
  .exact S b o (J b o e) (A b o (R b o e))
 .have e:(if B b then _ else t b i)=some v':=e;split at e
  .grind
  grind
 .by_cases D:k∈kk.map Prod.fst
  .obtain⟨p,f,rfl⟩:=mem_map.1 D
   grind
  grind
 .by_cases D:k∈kk.map Prod.fst
  .obtain⟨p,f,rfl⟩:=mem_map.1 D
   grind
  .rw[(hN k D).1];exact List.Pairwise.nil
theorem Xq{κ:dj->ByteArray}{X M O P:MH}{Z:PH}{y r w:Nat}{gr:db}{od:di}{l kk uk left l1 l2 x}(m4y:X y=some (.map #[] 0))(g:uG X M y kk uk)(Q:iM w l)(a5:M r=none)(a6:∀b o,M b=some o->(∀p∈kk,∀i,p.2.a≠some ⟨b,i,none⟩)->O b=some o)(R:oR O y r (kk.map λp=>(Value.string p.1,gP p.2)) left)(E:∀p∈kk,cEX O Z od p (rC κ gr l) ((Value.string p.1,gP p.2)∉left))(a':left=l1++x::l2)(D:tG O P r)(a0:Hc P y r (kk.map λp=>(Value.string p.1,gP p.2)) (l1++l2) x):
 ∃(c:ByteArray×Sl)(ps:dy),x=(Value.string c.1,gP c.2)/\(∀b o,X b=some o->b≠y->P b=some o/\∀i,c.2.a≠some ⟨b,i,none⟩)/\fA P c.2 65 1 (ps.map λp:Sl×dj=>eS p.1)/\(∀p∈ps,bR Z p.1 p.2)/\(∀p∈ps,p.2.length=w)/\ps.length<=l.length/\
  ∀(n:dy)(F:MH),n.Perm ps->n.Pairwise (λp q=>¬jT od q.2 p.2<0)->fA F c.2 65 1 (n.map λp=>eS p.1)->(∀b,(∀i,c.2.a≠some ⟨b,i,none⟩)->F b=P b)->
   (∀b o,M b=some o->(∀p∈kk,∀i,p.2.a≠some ⟨b,i,none⟩)->F b=some o)/\(∃left,oR F y r (kk.map λp=>(Value.string p.1,gP p.2)) left/\∀p∈kk,cEX F Z od p (rC κ gr l) ((Value.string p.1,gP p.2)∉left))/\leftOf F r<leftOf O r:=by
 have H:∀p∈kk,∀x i,p.2.a=some ⟨x,i,none⟩->∃o,M x=some o:=λp A x i Y=>⟨_,((g.row p A).blk Y).choose_spec⟩
 have I:∀{z o},M z=some o->z≠r:=fun{z o} Y e3=>bo
 have a1:x∈left:=bo
 obtain⟨c,d,rfl⟩:=mem_map.1 (oR.mem R a1);obtain⟨ps,h1,h3,h4,h5⟩:=(E c d).ex;have G:∀b o,X b=some o->∀p∈kk,∀i,p.2.a≠some ⟨b,i,none⟩:=λb o e p A i Y=>by rw[g.fresh p A b i Y]at e;cases e
 have t:∀p∈kk,∀b i,p.2.a=some ⟨b,i,none⟩->b≠r:=λp A b i e=>I (H p A b i e).choose_spec;have S:=h4.length_eq;have a2:(rC κ gr l c.1).length<=l.length:=length_filter_le _ _;rw[length_map]at S;refine⟨c,ps,rfl,λb o e a3=>⟨?_,G b o e c d⟩,fA.keep h1 λb i e=>D.other b (t c d b i e),h3,λq hq=>?_,aD,λn F u J L f=>?_⟩
 .have mb:=g.old b o e a3;rw[D.other b (I mb)]
  grind
 .have:q.2∈rC κ gr l c.1:=h4.mem_iff.1 (mem_map_of_mem hq);exact Q.wid _ (mem_filter.1 this).1
 .have T:∀i,c.2.a≠some ⟨y,i,none⟩:=G y _ m4y c d;have U:∀i,c.2.a≠some ⟨r,i,none⟩:=λi e=>t c d r i e rfl;have V:oR F y r (kk.map λp=>(Value.string p.1,gP p.2)) (l1++l2):=oR.keep a0.it (f y T) (f r U);refine⟨λb o e hb=>?_,⟨_,V,λp A=>?_⟩,?_⟩
  .rw[f b (hb c d),D.other b (I e)]
   grind
  .by_cases W:p=c
   .subst W;refine⟨n,L,λq hq=>h3 q (u.mem_iff.1 hq),(u.map _).trans h4,λ_=>?_⟩;rw[xA,pairwise_map];exact J
   .have a4:p.1≠c.1:=λe=>W (VM g.nodup A d e);obtain⟨qs,g1,g3,g4,g5⟩:=(E p A).ex;refine⟨qs,fA.keep g1 λb i e=>?_,g3,g4,λhn=>g5 λhl=>hn ?_⟩
    .rw[f b (λj=>g.apart p A c d a4 b i j e),D.other b (t p A b i e)]
    grind
  .rw[oR.left_ V,oR.left_ R,a'];simp
theorem NQ{w:Nat}:∀{od:di}{a b:dj},Ms w od a b=0->a=b
 |[],_,_,h=>iZ.1 h
 |(c,d)::r,a,b,h=>by
  rw[Ms]at h;generalize (if d then-kT (a.getD c.toNat zeroV) (b.getD c.toNat zeroV)else kT (a.getD c.toNat zeroV) (b.getD c.toNat zeroV))=x at h;split at h
  .split at h
   .omega
   .exact NQ h
  .exact NQ h
theorem FE{w od a b}(c:a.length=w)(d:b.length=w):jT od a b= -jT od b a:=by
 rw[EO c d,EO d c];exact(Mr w od).anti a b
theorem boQ{w a b}(c:a.length=w)(d:b.length=w)(h:jT od a b=0):a=b:=by
 rw[EO c d]at h;exact NQ h
theorem Oa{w:Nat}{od:di}{x:dj}:∀{G:de}{n:Nat},xA od G->(∀r∈G,r.length=w)->G.Nodup->(x∈G.take n↔x∈G/\(G.countP λy=>decide (jT od y x<0))<n)
 |[],n,_,_,_=>bi
 |a::G,0,_,_,_=>bi
 |a::G,n+1,g,j,t=>by
  have g:=pairwise_cons.1 g;have t:=nodup_cons.1 t;have z:=Oa (x:=x) (G:=G) (n:=n) g.2 (λr A=>j r (mem_cons_of_mem _ A)) t.2;have c:=j a (mem_cons_self ..);rw[take_succ_cons,mem_cons,z,mem_cons,countP_cons];by_cases u:x=a
  .subst u;have D:¬jT od x x<0:=by have:=FE (od:=od) c c;omega
   have E:(G.countP λy=>decide (jT od y x<0))=0:=countP_eq_zero.2 λy F=>bo
   grind
  .by_cases d:x∈G
   .have f:=j x (mem_cons_of_mem _ d);have D:=g.1 x d;have E:=FE (od:=od) c f;have H:jT od a x≠0:=λe=>u (boQ c f e).symm
    grind
   grind
theorem Sx{l}(h:fW l):l.Nodup:=by
 rw[nodup_iff_pairwise_ne];exact h.imp fun{a b} c e=>by subst e;have:=Ih.anti a a;omega
def jL gr x y:=eC (pick x gr) (pick y gr)==0
theorem Du{gr x y}:jL gr x y=true↔pick x gr=pick y gr:=by
 simp only[jL,beq_iff_eq,iZ]
def qH(gr:db)(od:di)(li:Int)(a b:de):=a.filter λx=>decide (((b.countP λy=>jL gr x y&&decide (jT od y x<0):Nat):Int)<li)
def cZQ(q:Query)(ls:List de):=match q with|.mk _ _ _ _ _ gr od li _=>qH gr od li (ls.getD 0 []) (ls.getD 0 [])
def ZB(q:Query)(ls:List de):=match q with|.mk _ _ _ _ _ gr _ li _=>1<=ls.length/\(∃w,iM w (ls.getD 0 [])/\fE w gr)/\0<=li
theorem bBQ{κ}(e:bqZ κ){w l}(c:iM w l)(f:fE w gr){x y}(g:Wf x)(j:x.length=w)(d:y∈l):κ (pick y gr)=κ (pick x gr)↔jL gr x y=true:=by
 rw[Du];have:=e.inj (a:=pick y gr) (b:=pick x gr) (by simp[pick]) (KT (c.row y d) (by rw[c.wid y d];exact f)) (KT g bo)
 grind
theorem OE{κ}(c:bqZ κ){w l}(d:iM w l)(e:fE w gr){x}(f:Wf x)(g:x.length=w):
 ((rC κ gr l (κ (pick x gr))).countP λy=>decide (jT od y x<0))=l.countP λy=>jL gr x y&&decide (jT od y x<0):=by
 rw[rC,countP_filter];refine countP_congr λy j=>?_;have n:=bBQ c d e f g j
 grind
theorem YM{α:Type}{p q:α->Bool}:∀{l:List α},(∀x∈l,¬(p x=true/\q x=true))->l.countP p+l.countP q=l.countP λx=>p x||q x
 |[],_=>rfl
 |a::l,h=>by
  have d:=YM (l:=l) λx c=>h x (mem_cons_of_mem _ c)
  grind
theorem a5Q{κ}(z:bqZ κ){y w l kk g}(e:zL κ m h y gr od l kk g)(c:iM w l)(d:fE w gr)(A:0<=li) x:
 x∈qH gr od li l l↔∃p∈kk,x∈(g p.1).take li.toNat:=by
 have D:∀k r,r∈g k->r∈l/\κ (pick r gr)=k:=λk r n=>by
  have:=(e.perm k).mem_iff.1 n;simpa[rC]using this
 have E:∀k,(g k).Nodup:=λk=>(e.perm k).nodup_iff.2 ((Sx c.srt).sublist filter_sublist);have F:∀k,x∈(g k).take li.toNat↔x∈g k/\((g k).countP λy=>decide (jT od y x<0))<li.toNat:=λk=>Oa (e.sort k) (λr n=>c.wid r (D k r n).1) (E k)
 have G:x∈l->((g (κ (pick x gr))).countP λy=>decide (jT od y x<0))=l.countP λy=>jL gr x y&&decide (jT od y x<0):=λj=>by
  rw[(e.perm _).countP_eq];exact OE z c d (c.row x j) (c.wid x j)
 rw[qH,mem_filter];constructor
 .rintro⟨j,u⟩;have u:=of_decide_eq_true u;have f:x∈g (κ (pick x gr)):=(e.perm _).mem_iff.2 (by simp[rC,j])
  have t:κ (pick x gr)∈kk.map Prod.fst:=by
   by_cases t:κ (pick x gr)∈kk.map Prod.fst
   .exact t
   .rw[e.none_ _ t]at f;cases f
  grind
 grind
open Classical in
structure Il(κ:dj->ByteArray)(gr:db)(li:Int)(l:de)(kk:ef)(g:ByteArray->de)(left:dk)(acc:de):Prop where
 mem:∀x,x∈acc↔∃p∈kk,(Value.string p.1,gP p.2)∉left/\x∈(g p.1).take li.toNat
 cnt:acc.length+(l.countP λz=>decide (Value.string (κ (pick z gr))∈left.map Prod.fst))<=l.length
open Classical in
theorem Il.start{κ gr li l kk g}:Il κ gr li l kk g (kk.map λp=>(Value.string p.1,gP p.2)) []:=by
 refine⟨λx=>⟨λe=>(by cases e),?_⟩,?_⟩
 .grind
 grind
theorem a2X{kk:ef}(c:(kk.map Prod.fst).Nodup):(kk.map λp=>(Value.string p.1,gP p.2)).Nodup:=by
 grind
open Classical in
theorem Il.step{κ:dj->ByteArray}{m H:MH}{h:PH}{y I r:Nat}{gr:db}{od li l f kk g left d e c}(st:Il κ gr li l kk g left f)(t:zL κ m h y gr od l kk g)(j:oR H I r (kk.map λp=>(Value.string p.1,gP p.2)) left)(u:c∈kk)(A:left=d++(Value.string c.1,gP c.2)::e):
 Il κ gr li l kk g (d++e) (f++(g c.1).take li.toNat):=by
 have D:=oR.nodup j (a2X t.nodup);rw[A]at D
 have G:(Value.string c.1,gP c.2)∉d++e:=λh=>by
  grind
 have E:∀x∈d++e,x∈left:=λx h=>bo
 refine⟨λx=>?_,?_⟩
 .rw[mem_append,st.mem]
  grind
 .have J:Value.string c.1∉(d++e).map Prod.fst:=λh=>by
   obtain⟨z,F,n⟩:=mem_map.1 h;obtain⟨p,L,rfl⟩:=mem_map.1 (oR.mem j (E _ F));simp only[Value.string.injEq]at n;have:=VM t.nodup L u n
   grind
  have O:=YM (l:=l) (p:=λz=>decide (Value.string (κ (pick z gr))∈(d++e).map Prod.fst)) (q:=λz=>decide (κ (pick z gr)=c.1)) (λz _⟨P,Q⟩=>by
   grind)
  have R:(l.countP λz=>decide (Value.string (κ (pick z gr))∈(d++e).map Prod.fst)||decide (κ (pick z gr)=c.1))=l.countP λz=>decide (Value.string (κ (pick z gr))∈left.map Prod.fst):=by
   grind
  have S:(rC κ gr l c.1).length=l.countP λz=>decide (κ (pick z gr)=c.1):=by rw[rC,countP_eq_length_filter]
  have M:=(t.perm c.1).length_eq;have:=st.cnt;rw[cg,length_take];omega
theorem Il.done{κ}(j:bqZ κ){y w l e kk g}(st:Il κ gr li l kk g [] e)(n:zL κ m h y gr od l kk g)(c:iM w l)(d:fE w gr)(f:0<=li):qH gr od li l l=sK e:=
 uV (c.srt.sublist filter_sublist) λx=>by rw[a5Q j n c d f,st.mem];simp
theorem btZ{h s l li}(f:Rows h s l)(g:0<=li):(0<=if(s.len:Int)<li then(s.len:Int)else li)/\(if(s.len:Int)<li then(s.len:Int)else li)<=s.cap/\∃us:dg,cO h ⟨s.a,(if(s.len:Int)<li then(s.len:Int)else li).toNat,s.cap⟩ 1 (us.map eS)/\dR h us (l.take li.toNat)/\us.length<=l.length:=by
 obtain⟨⟨c,d,n,t⟩,_⟩:=f;have u:s.len=c.length:=by have:=d.len;grind
 have y:((if(s.len:Int)<li then(s.len:Int)else li).toNat)=min c.length li.toNat:=by omega
 have e:=d.cap;refine⟨aD,aD,c.take (min c.length li.toNat),?_,⟨bo,λj x z=>?_⟩,bn⟩
 .rw[y,map_take];exact cO.cut d _ bn
 grind
theorem L9{w:World}{q c}(d:b<w.heap.size):(Sort.grow (w.drewN q) c).heap[b]? =w.heap[b]? :=by
 show((w.drewN q).heap++c)[b]? =_;rw[Array.getElem?_append_left (show b<(w.drewN q).heap.size from d)];rfl
theorem YS{P g}{cs:dc}{m h S r u}(M:Sound P g S)(O:S (cs.map .val) m h λr' m' h'=>r'=r/\m'=m/\h'=h)(Q:∀w D,JK w r D->D=u){w:World}(R:∀b o v,h b o=some v->w.cell? ⟨b,o,none⟩=some v)(Y:∀b o,m b=some o->w.heap[b]? =some o)(T:∀b o,m b=some o->∀i,h b i=none) E F:
 Calls P g cs.toArray (Sort.grow (w.drewN E) F) λe w'=>e= .returned u/\∃q G,w'=Sort.grow ((Sort.grow (w.drewN E) F).drewN q) G:=by
 obtain⟨W,J⟩:∃W,Sort.grow (w.drewN E) F=W:=⟨_,rfl⟩
 rw[J];have H:∀b,b<w.heap.size->W.heap[b]? =w.heap[b]? :=λb f=>by rw[<-J];exact L9 f
 have t:∀(l:dc)(w:World),DY w (l.map .val) l:=λl w=>by
  induction l with
  |nil=>trivial
  |cons a l U=>exact⟨rfl,U⟩
 have y:∀(l:dc)(i:Nat)(c:CV)(u:Value)(b:Nat),(l.map CV.val)[i]? =some c->jF c u=some b->False:=λl i c u b n f=>by
  rw[getElem?_map]at n;cases e:l[i]? with
  |none=>grind
  |some v=>rw[e]at n;simp at n;subst n;simp[jF]at f
 have z:Dr W m h (cs.map .val) cs:=by
  refine⟨t _ _,?_,?_,T,λi j c d u v b n _ _ _ f _=>(y _ i c u b n f).elim,λi c u b n _ f=>(y _ i c u b n f).elim⟩
  .intro b o v V;have A:=R b o v V;rw[World.cell?_of_block (w:=w) (w':=W) (a:=⟨b,o,none⟩) (H b (World.block_lt_of_cell? w ⟨b,o,none⟩ A))];exact A
  grind
 refine(M.2 _ _ m h W _ O z).mono ?_;rintro e w' ⟨r',D,m',h',rfl,⟨rfl,rfl,rfl⟩,I,x,_⟩;have X:=Q _ _ I;subst X;refine⟨rfl,N2 x.tape x.os x.output x.drawn x.size (λb f=>?_)⟩;cases L:m' b with
 |none=>
  refine x.frame b f ?_;rintro(A|⟨i,c,u,n,_,Z⟩)
  .exact A L
  grind
 |some o=>rw[x.msat b o L];grind
theorem Zr{g S R}(V:cz g S)(hR:∀A m h K,R A m h K->∃(n F G H wd:Nat)(od:di)(rs:de)(r:dj),A=[cI n,.val (.func (.func g) #[] #[.pointer (some ⟨F,0,none⟩),.pointer (some ⟨G,0,none⟩),.pointer (some ⟨H,0,none⟩)])]/\rs.length<=502633886983/\rs.length=n/\xA od rs/\(∀x∈rs,x.length=wd)/\r.length=wd/\
 (∀(i:Nat) x,rs[i]? =some x->S ([.int .i64 i,.pointer (some ⟨F,0,none⟩),.pointer (some ⟨G,0,none⟩),.pointer (some ⟨H,0,none⟩)].map .val) m h λr' m' h'=>r'=cB (decide (jT od x r>=0))/\m'=m/\h'=h)/\K (cI ((rs.countP λy=>decide (jT od y r<0):Nat):Int)) m h):cz 108 R:=by
 refine⟨⟨Tryz.f108,func108,rfl,bj⟩,?_⟩;intro A W m h w K h0 f;obtain⟨n,F,G,H,wd,od,rs,r,rfl,X,rfl,J,Y,j,hS,hK⟩:=hR _ _ _ _ h0
 obtain⟨v1,I,rfl⟩:∃v I,W=[v,I]:=by
  have:=(uD f.args).1
  match W,this with
  |[v,I],_=>grind
 have D:v1= .int .i64 rs.length:=f.args.1;have h2:I= .func (.func g) #[] #[.pointer (some ⟨F,0,none⟩),.pointer (some ⟨G,0,none⟩),.pointer (some ⟨H,0,none⟩)]:=f.args.2.1;subst D h2
 have eg:∀args w,(callFunc g args).run Tryz.prog w= .ok (.enter g args) w:=λargs w=>by
  obtain⟨Z,L,d,hn⟩:=V.1;have M:¬Z.body=none:=bo
  have O:¬Z.name= "runtime.NumGoroutine" :=bo
  simp[callFunc,program,Sem.run,L,O,M]
 have E:=Any.sort_Search Tryz.searchO g #[.pointer (some ⟨F,0,none⟩),.pointer (some ⟨G,0,none⟩),.pointer (some ⟨H,0,none⟩)] rs.length (λi=>decide (jT od (rs.toArray[i]!) r>=0)) w eg aD
  (λmm P i hi=>YS (cs:=[.int .i64 i,.pointer (some ⟨F,0,none⟩),.pointer (some ⟨G,0,none⟩),.pointer (some ⟨H,0,none⟩)]) V
   (hS i _ bo) (λw u' hu=>hu) f.hsat f.msat f.disj mm P)
  (λa b Q d c=>?_)
 .refine Calls.mono E ?_;rintro e w' ⟨rfl,q,P,rfl⟩
  have t:((List.range rs.length).countP λi=> !decide (jT od (rs.toArray[i]!) r>=0))=rs.countP λy=>decide (jT od y r<0):=by
   have:=Go.Lib.countP_range rs.toArray (λy=> !decide (jT od y r>=0))
   grind
  rw[t];refine⟨_,_,m,h,rfl,hK,rfl,⟨rfl,rfl,rfl,Nat.le_add_right _ _,?_,λb d _=>L9 d,λb o v T=>?_,λb o d=>?_,f.disj,λ_ _ _ e=>e,λ_ _ _=>rfl,λb o d=>.inr (.inl bo)⟩,λb d=>by cases d⟩
  .show w.heap.size<=((w.drewN q).heap++P).size;rw[Array.size_append];exact Nat.le_add_right _ _
  .have D:=f.hsat b o v T;rw[World.cell?_of_block (w:=w) (a:=⟨b,o,none⟩) (L9 (World.block_lt_of_cell? w ⟨b,o,none⟩ D))];exact D
  .have D:=f.msat b o d;rw[L9 (Array.getElem?_eq_some_iff.1 D).1];exact D
 .have c:=of_decide_eq_true c;refine decide_eq_true ?_;rcases Nat.lt_or_eq_of_le Q with U|rfl
  .have ha:a<rs.length:=by omega
   rw[getElem!_pos _ a aD]at c;rw[getElem!_pos _ b aD];simp only[getElem_toArray]at c⊢
   have u:=Y _ (getElem_mem ha);have z:=Y _ (getElem_mem d);have h5:=(pairwise_iff_getElem.1 J) a b ha d U;have h6:=FE (od:=od) u z;have h7:=FE (od:=od) u j;have h8:=FE (od:=od) z j;rw[EO u z]at h6;have:=(Mr wd od).trans r rs[a] rs[b] (by rw[<-EO j u];omega) aD;rw[<-EO j z]at this;omega
  .exact c
theorem zL.get2{κ y l kk G key K0}{K:Sl->Prop}(g:zL κ m h y gr od l kk G)(n:Ho kk key ⟨none,0,0⟩->K0)(u:∀s,Ho kk key s->K s):
 ∃(d:fb)(Ok:Value->Prop),zW m y (d.map λp=>(p.1,gP p.2))/\KeyLaw Tryz.prog 9 Ok/\Ok (.string key)/\(∀e,List.Mem e d->Ok e.1)/\((∀e,List.Mem e d->e.1=Value.string key->False)->K0)/\∀t,List.Mem (Value.string key,t) d->K t:=by
 obtain⟨x,c,z,A,_,_⟩:=g.map_;refine⟨kk.map λp=>(.string p.1,p.2),_,⟨x,c,z,by rw[A];simp⟩,DC,⟨key,rfl⟩,λe D=>?_,λE=>n (.inl ⟨rfl,λh=>?_⟩),λt F=>u t (.inr ?_)⟩
 .obtain⟨k,_,rfl⟩:=mem_map.1 (show e∈_ from D)
  grind
 .obtain⟨p,j,e⟩:=mem_map.1 h;subst e;exact E (.string p.1,p.2) (mem_map_of_mem (f:=λp:ByteArray×Sl=>(Value.string p.1,p.2)) j) rfl
 .obtain⟨p,j,e⟩:=mem_map.1 (show(Value.string key,t)∈_ from F)
  grind
theorem zL.keep{κ y l kk G}(g:zL κ m h y gr od l kk G)(d:∀o,m y=some o->m' y=some o)(le:PH.le h h'):zL κ m' h' y gr od l kk G:=by
 obtain⟨e,c,f,j,n,u⟩:=g.map_;exact⟨⟨e,c,d _ f,j,n,u⟩,g.nodup,λp x=>bI.mono (g.rows p x) le (λr t z=>bR.mono z le),g.none_,g.perm,g.sort⟩
theorem zL.at_{κ y l kk G key s}(g:zL κ m h y gr od l kk G)(c:Ho kk key s):Rows h s (G key):=by
 rcases c with⟨rfl,d⟩|e
 .rw[g.none_ key d];exact(dR.nil h).rows (cO.nil _ _) bi
 .exact g.rows _ e
def aFZ(q:Query)(ls:List de):=match q with|.mk _ _ _ _ _ gr od li _=>qH gr od li (ls.getD 0 []) (ls.getD 1 [])
def Qx(q:Query)(ls:List de):=match q with|.mk _ _ _ _ _ gr _ _ _=>2<=ls.length/\∃w,iM w (ls.getD 0 [])/\iM w (ls.getD 1 [])/\fE w gr
def F0(op:Int)(q:Query)(ls:List de):=
 if op=2 then cjQ q ls else if op=3 then cFJ q ls else if op=4 then c0X q ls else if op=5 then cFX q ls else if op=6 then cPQ q ls else if op=7 then cSQ q ls else if op=8 then bBJ q ls else if op=9 then cZQ q ls else aFZ q ls
def OX(op:Int)(q:Query)(ls:List de):=
 if op=2 then aGJ 1 q ls else if op=3 then ZC q ls else if op=4 then ZD q ls else if op=5 then bwJ q ls else if op=6 then aGJ 2 q ls else if op=7 then MY q ls else if op=8 then MY q ls else if op=9 then ZB q ls else Qx q ls
mutual
def iD(ls:List de):Query->Nat->de×Nat
 |.mk op ta w co on gr od li args,k=>if op=1 then(ls.getD k [],k+1)else(F0 op (.mk op ta w co on gr od li args) (lR ls args k).1,(lR ls args k).2)
def lR(ls:List de):dl->Nat->List de×Nat
 |[],k=>([],k)
 |q::qs,k=>((iD ls q k).1::(lR ls qs (iD ls q k).2).1,(lR ls qs (iD ls q k).2).2)
end
mutual
def okQ(ls:List de):Query->Nat->Prop
 |.mk op ta w co on gr od li args,k=>if op=1 then k<ls.length else OX op (.mk op ta w co on gr od li args) (lR ls args k).1/\bxQ ls args k
def bxQ(ls:List de):dl->Nat->Prop
 |[],_=>True
 |q::qs,k=>okQ ls q k/\bxQ ls qs (iD ls q k).2
end
def Leaves h s ls:=bI h 1 eS (λl t=>Rows h t l) s ls
def Wo:Vc.Spec:=λc m h K=>∃s r,c=[cS s]/\bR h s r/\r.length<=1000/\∀d h',PH.le h h'->bR h' d r->K (cS d) m h'
abbrev Lb(a:Nat)(b:PH)(c:Addr)(d e g i:Nat)(j:(List dc)->Prop):=∃(x:List dc),aA (eU a x) (cO b (Sl.mk (Option.some c) d e) a x) (aA (iK ((g+x.length)*i)) (iK (g+x.length)) (j x))
attribute [push_cast] Lb
def ah(a:Addr)(n c:Nat)(m:MH)(h:PH)(K:da):=
  Lb 3 h a n c 0 32 (λy=>bN h 3 (GS y) (λs d=>K (cM s) m d))
theorem av a n c m h K:ah a n c m h K=(yC (cZ [] [] [] [] false) Tryz.f57 (dQ Tryz.f57) (entry Tryz.f57.ntmps [.val (.slice (some a) n c)] m h) K):=bh
def ai(n c:Nat)(m:MH)(h:PH)(K:da):=
  K Dn m h
theorem aw n c m h K:ai n c m h K=(yC (cZ [] [] [] [] false) Tryz.f57 (dQ Tryz.f57) (entry Tryz.f57.ntmps [.val (.slice none n c)] m h) K):=bh
theorem aj:cz 57 Wo:=by
 refine eG (fn:=Tryz.f57) (c:=dQ Tryz.f57) func57 rfl bj ?_;rintro y m h K ⟨⟨a,n,c⟩,r,rfl,f,H,g⟩;refine⟨cZ [] [] [] [] false,rfl,aI,?_⟩;cases a with
 |none=>
  show yC _ Tryz.f57 (dQ Tryz.f57) (entry Tryz.f57.ntmps [.val (.slice none n c)] m h) K;rw[<-aw n c m h K];dsimp only[ai,push_cast];refine g ⟨none,0,0⟩ h (.refl _) ?_;cases r with
  |nil=>exact⟨⟨[],cO.nil _ _,rfl,λi x z=>by simp at z⟩,bi⟩
  |cons x r=>
   obtain⟨b,o,v,e,_⟩:=bI.at f (i:=0) (x:=x) rfl;cases e
 |some a=>
  show yC _ Tryz.f57 (dQ Tryz.f57) (entry Tryz.f57.ntmps [.val (.slice (some a) n c)] m h) K;rw[<-av a n c m h K];dsimp only[ah,push_cast];obtain⟨⟨j,A,D,E⟩,F⟩:=f;refine⟨j.map VV.enc,?_,A,bo,bo,λs h' le G=>g s h' le ⟨⟨j,bo,D,E⟩,F⟩⟩;constructor
  .intro e d;obtain⟨x,_,rfl⟩:=mem_map.1 d;rfl
  .intro e d u t;obtain⟨x,_,rfl⟩:=mem_map.1 d;simp[VV.enc]at t;rcases t with rfl|rfl|rfl<;>rfl
end Go.Ps
