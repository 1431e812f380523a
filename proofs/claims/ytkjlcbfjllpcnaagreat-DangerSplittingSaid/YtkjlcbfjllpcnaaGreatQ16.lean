/- Proof of the statement DangerSplitting: part 6 of 9, what it computes and why that answers true. -/
import Derived.Test.YtkjlcbfjllpcnaaGreatQ15
import Derived.Shelf.Small.Bits
import Derived.Shelf.Strconv.Itoa0
import Derived.Ground.Names2Prog
import Derived.Shelf.Slices.Clone
import Derived.Shelf.Slices.SearchI
import Derived.Ground.SlgnProg
import Derived.Shelf.SlicesE.Clone
import Derived.Ground.SlgfProg
import Derived.Shelf.SlicesE.IndexFunc
import Derived.Shelf.SlicesE.DeleteFunc
import Derived.Ground.SlsfProg
import Derived.Shelf.SlSortCmp.Insertion
import Derived.Shelf.SlSortCmp.SiftDown1
import Derived.Shelf.SlSortCmp.HeapSort1
import Derived.Shelf.SlSortCmp.Insertion1
import Derived.Shelf.SlSortCmp.Median1
import Derived.Shelf.SlSortCmp.Pivot1
import Derived.Shelf.SlSortCmp.ReverseRange1
import Derived.Shelf.SlSortCmp.PartialInsertion1
import Derived.Shelf.SlSortCmp.PartitionEqual1
import Derived.Shelf.SlSortCmp.Partition1
import Derived.Shelf.SlSortCmp.Pdq1
import Derived.Shelf.SlSortCmp.Whole1
import Derived.Shelf.SlSortCmp.NoneTotal
import Derived.Test.YtkjlcbfjllpcnaaGreatProg
import Derived.Sort.OwnSortedInts
set_option linter.unusedVariables false
set_option linter.unusedSimpArgs false
namespace Go.Proofs
open Go.Shelf
def Tryz.laysNm215_ren:Go.Shelf.Ren:=⟨fun|15=>158|n=>n,fun|22=>22|3=>3|4=>4|n=>n,fun|n=>n⟩
theorem Tryz.laysNm215:Go.Proofs.Lays2.n15 Tryz.prog Tryz.laysNm215_ren:={
 mixed:=by kernel_rfl
 f15:=Tryz.func158.trans (congrArg some (by kernel_rfl))
 t3:=Tryz.underlying3
 a3:=Tryz.isAgg3
 z3:=Tryz.sizeOf3
 v3:=Tryz.zeroValue3
 t4:=Tryz.underlying4
 a4:=Tryz.isAgg4
 z4:=Tryz.sizeOf4
 v4:=Tryz.zeroValue4
 t22:=Tryz.underlying22
 a22:=Tryz.isAgg22
 z22:=Tryz.sizeOf22
 v22:=Tryz.zeroValue22
 i3:=by kernel_rfl }
open Go.RowKit Go.Lib in
theorem Tryz.slices_Clone_int (b off n c:Nat) (zs:List Int) (w:World) (hz:n≤zs.length) (hbig:n * 8≤140737488355328) (hc:∀ j,j < zs.length→w.cell? ⟨b,off+j,none⟩=some (.int .i64 (zs.getD j 0))) :
  Calls Tryz.prog 158 #[.slice (some ⟨b,off,none⟩) n c] w fun e w'=>∃ v',e=.returned v'∧w'.ownsRow w.heap.size 3 1 v' n ((zs.take n).map (Value.int .i64))∧v' ≠ .slice none 0 0∧Below w.heap.size w w':=Any.slices_Clone_int Tryz.laysNm215 b off n c zs w hz hbig hc
open Go.RowKit Go.Lib in
theorem Tryz.slices_Clone_int_nil (n c:Nat) (w:World) :
  Calls Tryz.prog 158 #[.slice none n c] w fun e w'=>e=.returned (.slice none 0 0)∧w'=w:=Any.slices_Clone_int_nil Tryz.laysNm215 n c w
open Go.RowKit Go.Lib in
theorem Tryz.slices_Clone_int_zero (a:Addr) (c:Nat) (w:World) :
  Calls Tryz.prog 158 #[.slice (some a) 0 c] w fun e w'=>∃ v',e=.returned v'∧w'.ownsRow w.heap.size 3 1 v' 0 []∧v' ≠ .slice none 0 0∧Below w.heap.size w w':=Any.slices_Clone_int_zero Tryz.laysNm215 a c w
def Tryz.laysSlH6_f190_ren:Go.Shelf.Ren:=⟨fun|6=>190|n=>n,fun|22=>22|23=>3|25=>107|3=>3|0=>0|4=>4|n=>n,fun|n=>n⟩
theorem Tryz.laysSlH6_f190:Go.Proofs.SlLaysH.n6 Tryz.prog Tryz.laysSlH6_f190_ren:={
 mixed:=by kernel_rfl
 f6:=⟨Tryz.f190.name,by decide,Tryz.func190.trans (congrArg some (by kernel_rfl))⟩
 t0:=Tryz.underlying0
 a0:=Tryz.isAgg0
 z0:=Tryz.sizeOf0
 v0:=Tryz.zeroValue0
 t3:=Tryz.underlying3
 a3:=Tryz.isAgg3
 z3:=Tryz.sizeOf3
 v3:=Tryz.zeroValue3
 t4:=Tryz.underlying4
 a4:=Tryz.isAgg4
 z4:=Tryz.sizeOf4
 v4:=Tryz.zeroValue4
 t22:=Tryz.underlying22
 a22:=Tryz.isAgg22
 z22:=Tryz.sizeOf22
 v22:=Tryz.zeroValue22
 a23:=Tryz.isAgg3
 z23:=Tryz.sizeOf3
 t25:=Tryz.underlying107
 a25:=Tryz.isAgg107
 z25:=Tryz.sizeOf107
 v25:=Tryz.zeroValue107 }
open Go.RowKit Go.Lib in
theorem Tryz.slices_IndexFunc_empty {α:Type} [Inhabited α] (a:Option Addr) (c:Nat) (fv:Value) (w:World) :
  Calls Tryz.prog 190 #[.slice a 0 c,fv] w fun e w'=>e=.returned (.int .i64 (-1))∧w'=w:=AnyE.slices_IndexFunc_empty Tryz.laysSlH6_f190 a c fv w
def Tryz.laysSlH8_f163_ren:Go.Shelf.Ren:=⟨fun|8=>163|6=>190|n=>n,fun|22=>22|23=>3|25=>107|4=>4|3=>3|0=>0|n=>n,fun|n=>n⟩
theorem Tryz.laysSlH8_f163:Go.Proofs.SlLaysH.n8 Tryz.prog Tryz.laysSlH8_f163_ren:={
 mixed:=by kernel_rfl
 f6:=⟨Tryz.f190.name,by decide,Tryz.func190.trans (congrArg some (by kernel_rfl))⟩
 f8:=⟨Tryz.f163.name,by decide,Tryz.func163.trans (congrArg some (by kernel_rfl))⟩
 t0:=Tryz.underlying0
 a0:=Tryz.isAgg0
 z0:=Tryz.sizeOf0
 v0:=Tryz.zeroValue0
 t3:=Tryz.underlying3
 a3:=Tryz.isAgg3
 z3:=Tryz.sizeOf3
 v3:=Tryz.zeroValue3
 t4:=Tryz.underlying4
 a4:=Tryz.isAgg4
 z4:=Tryz.sizeOf4
 v4:=Tryz.zeroValue4
 t22:=Tryz.underlying22
 a22:=Tryz.isAgg22
 z22:=Tryz.sizeOf22
 v22:=Tryz.zeroValue22
 a23:=Tryz.isAgg3
 z23:=Tryz.sizeOf3
 t25:=Tryz.underlying107
 a25:=Tryz.isAgg107
 z25:=Tryz.sizeOf107
 v25:=Tryz.zeroValue107 }
open Go.RowKit Go.Lib in
theorem Tryz.slices_ContainsFunc {α:Type} [Inhabited α] (enc:α→Value) (p:α→Bool) (g:Nat) (lb:Array Value) (eg:∀ args w,(callFunc g args).run Tryz.prog w=.ok (.enter g args) w) (b off n c:Nat) (zs:List α) (w:World) (hp:PredAt Tryz.prog g lb enc p w) (hz:n≤zs.length) (hbig:n≤9223372036854775807) (hc:∀ j,j < zs.length→w.cell? ⟨b,off+j,none⟩=some (enc zs[j]!)) :
  Calls Tryz.prog 163 #[.slice (some ⟨b,off,none⟩) n c,.func (.func g) #[] lb] w fun e w'=>e=.returned (.bool ((zs.take n).any p))∧∃ q,w'=w.drewN q:=AnyE.slices_ContainsFunc Tryz.laysSlH8_f163 enc p g lb eg b off n c zs w hp hz hbig hc
open Go.RowKit Go.Lib in
theorem Tryz.slices_ContainsFunc_empty {α:Type} [Inhabited α] (a:Option Addr) (c:Nat) (fv:Value) (w:World) :
  Calls Tryz.prog 163 #[.slice a 0 c,fv] w fun e w'=>e=.returned (.bool false)∧w'=w:=AnyE.slices_ContainsFunc_empty Tryz.laysSlH8_f163 a c fv w
def Tryz.laysSlH10_f157_ren:Go.Shelf.Ren:=⟨fun|10=>157|6=>190|n=>n,fun|22=>22|23=>3|25=>107|3=>3|4=>4|0=>0|n=>n,fun|n=>n⟩
theorem Tryz.laysSlH10_f157:Go.Proofs.SlLaysH.n10 Tryz.prog Tryz.laysSlH10_f157_ren:={
 mixed:=by kernel_rfl
 f6:=⟨Tryz.f190.name,by decide,Tryz.func190.trans (congrArg some (by kernel_rfl))⟩
 f10:=⟨Tryz.f157.name,by decide,Tryz.func157.trans (congrArg some (by kernel_rfl))⟩
 t0:=Tryz.underlying0
 a0:=Tryz.isAgg0
 z0:=Tryz.sizeOf0
 v0:=Tryz.zeroValue0
 t3:=Tryz.underlying3
 a3:=Tryz.isAgg3
 z3:=Tryz.sizeOf3
 v3:=Tryz.zeroValue3
 t4:=Tryz.underlying4
 a4:=Tryz.isAgg4
 z4:=Tryz.sizeOf4
 v4:=Tryz.zeroValue4
 t22:=Tryz.underlying22
 a22:=Tryz.isAgg22
 z22:=Tryz.sizeOf22
 v22:=Tryz.zeroValue22
 a23:=Tryz.isAgg3
 z23:=Tryz.sizeOf3
 t25:=Tryz.underlying107
 a25:=Tryz.isAgg107
 z25:=Tryz.sizeOf107
 v25:=Tryz.zeroValue107 }
open Go.RowKit Go.Lib Go.Sort in
theorem Tryz.slices_DeleteFunc {α:Type} [Inhabited α] (enc:α→Value) (hO:OneCell enc) (p:α→Bool) (g:Nat) (lb:Array Value) (eg:∀ args w,(callFunc g args).run Tryz.prog w=.ok (.enter g args) w) (zr:α) (v23:∀ w,(zeroValue 3).run Tryz.prog w=.ok (enc zr) w) (blk off cap:Nat) (d:Array α) (w:World) (hp:PredAt Tryz.prog g lb enc p w) (hpo:PredOver Tryz.prog g lb enc p blk off d.size w) (hH:Holds enc w blk off d) (hsz:d.size≤9223372036854775807) (hcap:d.size≤cap) :
  Calls Tryz.prog 157 #[.slice (some ⟨blk,off,none⟩) d.size cap,.func (.func g) #[] lb] w fun e w'=>e=.returned (.slice (some ⟨blk,off,none⟩) (d.toList.filter fun x=>!p x).length cap)∧∃ q,w'=putRow enc (Sort.ahead w q) blk off ((d.toList.filter fun x=>!p x)++List.replicate (d.size - (d.toList.filter fun x=>!p x).length) zr).toArray:=AnyE.slices_DeleteFunc Tryz.laysSlH10_f157 enc hO p g lb eg zr v23 blk off cap d w hp hpo hH hsz hcap
def Tryz.laysSlF06_f161_ren:Go.Shelf.Ren:=⟨fun|6=>161|15=>193|14=>192|28=>220|29=>221|20=>212|21=>213|22=>214|23=>215|24=>216|25=>217|26=>218|27=>219|46=>229|47=>230|48=>231|49=>232|50=>233|57=>235|n=>n,fun|22=>22|24=>3|25=>96|3=>3|39=>145|0=>0|53=>160|55=>162|4=>4|46=>154|45=>153|50=>137|5=>5|9=>9|66=>164|70=>168|76=>170|77=>122|n=>n,fun|n=>n⟩
theorem Tryz.laysSlF06_f161:Go.Proofs.SlLaysF0.n6 Tryz.prog Tryz.laysSlF06_f161_ren:={
 mixed:=by kernel_rfl
 f6:=⟨Tryz.f161.name,by decide,Tryz.func161.trans (congrArg some (by kernel_rfl))⟩
 f14:=⟨Tryz.f192.name,by decide,Tryz.func192.trans (congrArg some (by kernel_rfl))⟩
 f15:=Tryz.func193.trans (congrArg some (by kernel_rfl))
 f20:=⟨Tryz.f212.name,by decide,Tryz.func212.trans (congrArg some (by kernel_rfl))⟩
 f21:=⟨Tryz.f213.name,by decide,Tryz.func213.trans (congrArg some (by kernel_rfl))⟩
 f22:=⟨Tryz.f214.name,by decide,Tryz.func214.trans (congrArg some (by kernel_rfl))⟩
 f23:=⟨Tryz.f215.name,by decide,Tryz.func215.trans (congrArg some (by kernel_rfl))⟩
 f24:=⟨Tryz.f216.name,by decide,Tryz.func216.trans (congrArg some (by kernel_rfl))⟩
 f25:=⟨Tryz.f217.name,by decide,Tryz.func217.trans (congrArg some (by kernel_rfl))⟩
 f26:=⟨Tryz.f218.name,by decide,Tryz.func218.trans (congrArg some (by kernel_rfl))⟩
 f27:=⟨Tryz.f219.name,by decide,Tryz.func219.trans (congrArg some (by kernel_rfl))⟩
 f28:=Tryz.func220.trans (congrArg some (by kernel_rfl))
 f29:=Tryz.func221.trans (congrArg some (by kernel_rfl))
 f46:=⟨Tryz.f229.name,by decide,Tryz.func229.trans (congrArg some (by kernel_rfl))⟩
 f47:=Tryz.func230.trans (congrArg some (by kernel_rfl))
 f48:=Tryz.func231.trans (congrArg some (by kernel_rfl))
 f49:=⟨Tryz.f232.name,by decide,Tryz.func232.trans (congrArg some (by kernel_rfl))⟩
 f50:=⟨Tryz.f233.name,by decide,Tryz.func233.trans (congrArg some (by kernel_rfl))⟩
 f57:=⟨Tryz.f235.name,by decide,Tryz.func235.trans (congrArg some (by kernel_rfl))⟩
 t0:=Tryz.underlying0
 a0:=Tryz.isAgg0
 z0:=Tryz.sizeOf0
 v0:=Tryz.zeroValue0
 t3:=Tryz.underlying3
 a3:=Tryz.isAgg3
 z3:=Tryz.sizeOf3
 v3:=Tryz.zeroValue3
 t4:=Tryz.underlying4
 a4:=Tryz.isAgg4
 z4:=Tryz.sizeOf4
 v4:=Tryz.zeroValue4
 t5:=Tryz.underlying5
 a5:=Tryz.isAgg5
 z5:=Tryz.sizeOf5
 v5:=Tryz.zeroValue5
 t9:=Tryz.underlying9
 a9:=Tryz.isAgg9
 z9:=Tryz.sizeOf9
 v9:=Tryz.zeroValue9
 t22:=Tryz.underlying22
 a22:=Tryz.isAgg22
 z22:=Tryz.sizeOf22
 v22:=Tryz.zeroValue22
 t25:=Tryz.underlying96
 a25:=Tryz.isAgg96
 z25:=Tryz.sizeOf96
 v25:=Tryz.zeroValue96
 t39:=Tryz.underlying145
 a39:=Tryz.isAgg145
 z39:=Tryz.sizeOf145
 v39:=Tryz.zeroValue145
 t45:=Tryz.underlying153
 a45:=Tryz.isAgg153
 z45:=Tryz.sizeOf153
 v45:=Tryz.zeroValue153
 t46:=Tryz.underlying154
 a46:=Tryz.isAgg154
 z46:=Tryz.sizeOf154
 v46:=Tryz.zeroValue154
 t50:=Tryz.underlying137
 a50:=Tryz.isAgg137
 z50:=Tryz.sizeOf137
 v50:=Tryz.zeroValue137
 t53:=Tryz.underlying160
 a53:=Tryz.isAgg160
 z53:=Tryz.sizeOf160
 v53:=Tryz.zeroValue160
 t55:=Tryz.underlying162
 a55:=Tryz.isAgg162
 z55:=Tryz.sizeOf162
 v55:=Tryz.zeroValue162
 t66:=Tryz.underlying164
 a66:=Tryz.isAgg164
 z66:=Tryz.sizeOf164
 v66:=Tryz.zeroValue164
 t70:=Tryz.underlying168
 a70:=Tryz.isAgg168
 z70:=Tryz.sizeOf168
 v70:=Tryz.zeroValue168
 t76:=Tryz.underlying170
 a76:=Tryz.isAgg170
 z76:=Tryz.sizeOf170
 v76:=Tryz.zeroValue170
 t77:=Tryz.underlying122
 a77:=Tryz.isAgg122
 z77:=Tryz.sizeOf122
 v77:=Tryz.zeroValue122 }
open Go.RowKit Go.Lib Go.Sort in
theorem Tryz.slices_SortFunc_none {α:Type} [Inhabited α] (p:Option Addr) (cap:Nat) (fv:Value) (w:World) :
  Calls Tryz.prog 161 #[.slice p 0 cap,fv] w fun e w'=>e=.returned (.tuple #[])∧w'=w:=AnyF.slices_SortFunc_none Tryz.laysSlF06_f161 p cap fv w
def Tryz.laysSlF6_f161_ren:Go.Shelf.Ren:=⟨fun|6=>161|15=>193|14=>192|28=>220|29=>221|20=>212|21=>213|22=>214|23=>215|24=>216|25=>217|26=>218|27=>219|46=>229|47=>230|48=>231|49=>232|50=>233|57=>235|n=>n,fun|22=>22|24=>3|25=>96|3=>3|39=>145|0=>0|53=>160|55=>162|4=>4|46=>154|45=>153|50=>137|5=>5|9=>9|66=>164|70=>168|76=>170|77=>122|n=>n,fun|n=>n⟩
theorem Tryz.laysSlF6_f161:Go.Proofs.SlLaysF.n6 Tryz.prog Tryz.laysSlF6_f161_ren:={
 mixed:=by kernel_rfl
 f6:=⟨Tryz.f161.name,by decide,Tryz.func161.trans (congrArg some (by kernel_rfl))⟩
 f14:=⟨Tryz.f192.name,by decide,Tryz.func192.trans (congrArg some (by kernel_rfl))⟩
 f15:=Tryz.func193.trans (congrArg some (by kernel_rfl))
 f20:=⟨Tryz.f212.name,by decide,Tryz.func212.trans (congrArg some (by kernel_rfl))⟩
 f21:=⟨Tryz.f213.name,by decide,Tryz.func213.trans (congrArg some (by kernel_rfl))⟩
 f22:=⟨Tryz.f214.name,by decide,Tryz.func214.trans (congrArg some (by kernel_rfl))⟩
 f23:=⟨Tryz.f215.name,by decide,Tryz.func215.trans (congrArg some (by kernel_rfl))⟩
 f24:=⟨Tryz.f216.name,by decide,Tryz.func216.trans (congrArg some (by kernel_rfl))⟩
 f25:=⟨Tryz.f217.name,by decide,Tryz.func217.trans (congrArg some (by kernel_rfl))⟩
 f26:=⟨Tryz.f218.name,by decide,Tryz.func218.trans (congrArg some (by kernel_rfl))⟩
 f27:=⟨Tryz.f219.name,by decide,Tryz.func219.trans (congrArg some (by kernel_rfl))⟩
 f28:=Tryz.func220.trans (congrArg some (by kernel_rfl))
 f29:=Tryz.func221.trans (congrArg some (by kernel_rfl))
 f46:=⟨Tryz.f229.name,by decide,Tryz.func229.trans (congrArg some (by kernel_rfl))⟩
 f47:=Tryz.func230.trans (congrArg some (by kernel_rfl))
 f48:=Tryz.func231.trans (congrArg some (by kernel_rfl))
 f49:=⟨Tryz.f232.name,by decide,Tryz.func232.trans (congrArg some (by kernel_rfl))⟩
 f50:=⟨Tryz.f233.name,by decide,Tryz.func233.trans (congrArg some (by kernel_rfl))⟩
 f57:=⟨Tryz.f235.name,by decide,Tryz.func235.trans (congrArg some (by kernel_rfl))⟩
 t0:=Tryz.underlying0
 a0:=Tryz.isAgg0
 z0:=Tryz.sizeOf0
 v0:=Tryz.zeroValue0
 t3:=Tryz.underlying3
 a3:=Tryz.isAgg3
 z3:=Tryz.sizeOf3
 v3:=Tryz.zeroValue3
 t4:=Tryz.underlying4
 a4:=Tryz.isAgg4
 z4:=Tryz.sizeOf4
 v4:=Tryz.zeroValue4
 t5:=Tryz.underlying5
 a5:=Tryz.isAgg5
 z5:=Tryz.sizeOf5
 v5:=Tryz.zeroValue5
 t9:=Tryz.underlying9
 a9:=Tryz.isAgg9
 z9:=Tryz.sizeOf9
 v9:=Tryz.zeroValue9
 t22:=Tryz.underlying22
 a22:=Tryz.isAgg22
 z22:=Tryz.sizeOf22
 v22:=Tryz.zeroValue22
 a24:=Tryz.isAgg3
 z24:=Tryz.sizeOf3
 t25:=Tryz.underlying96
 a25:=Tryz.isAgg96
 z25:=Tryz.sizeOf96
 v25:=Tryz.zeroValue96
 t39:=Tryz.underlying145
 a39:=Tryz.isAgg145
 z39:=Tryz.sizeOf145
 v39:=Tryz.zeroValue145
 t45:=Tryz.underlying153
 a45:=Tryz.isAgg153
 z45:=Tryz.sizeOf153
 v45:=Tryz.zeroValue153
 t46:=Tryz.underlying154
 a46:=Tryz.isAgg154
 z46:=Tryz.sizeOf154
 v46:=Tryz.zeroValue154
 t50:=Tryz.underlying137
 a50:=Tryz.isAgg137
 z50:=Tryz.sizeOf137
 v50:=Tryz.zeroValue137
 t53:=Tryz.underlying160
 a53:=Tryz.isAgg160
 z53:=Tryz.sizeOf160
 v53:=Tryz.zeroValue160
 t55:=Tryz.underlying162
 a55:=Tryz.isAgg162
 z55:=Tryz.sizeOf162
 v55:=Tryz.zeroValue162
 t66:=Tryz.underlying164
 a66:=Tryz.isAgg164
 z66:=Tryz.sizeOf164
 v66:=Tryz.zeroValue164
 t70:=Tryz.underlying168
 a70:=Tryz.isAgg168
 z70:=Tryz.sizeOf168
 v70:=Tryz.zeroValue168
 t76:=Tryz.underlying170
 a76:=Tryz.isAgg170
 z76:=Tryz.sizeOf170
 v76:=Tryz.zeroValue170
 t77:=Tryz.underlying122
 a77:=Tryz.isAgg122
 z77:=Tryz.sizeOf122
 v77:=Tryz.zeroValue122 }
open Go.RowKit Go.Lib Go.Sort in
theorem Tryz.slices_SortFunc_total {α:Type} [Inhabited α] (enc:α→Value) (h1:OneCell enc) (cf:α→α→Int) (hO:SWO (ltOf cf)) (g:Nat) (cb:Array Value) (blk off cap:Nat) (d:Array α) (w:World) (eg:∀ args w,(callFunc g args).run Tryz.prog w=.ok (.enter g args) w) (hcmp:CmpLays1 Tryz.prog g cb enc cf blk off d.size w) (hH:Holds enc w blk off d) (hblk:blk < w.heap.size) (hsz:d.size < 4611686018427387904) (hT:∀ x y,(ltOf cf) x y=false→(ltOf cf) y x=false→x=y) :
  Calls Tryz.prog 161 #[.slice (some ⟨blk,off,none⟩) d.size cap,.func (.func g) #[] cb] w fun e w' =>
   e=.returned (.tuple #[])∧∃ n os,w'=sortWorld enc w blk off n (d.toList.mergeSort fun x y=>!(ltOf cf) y x).toArray os:=Any.slices_SortFunc_total Tryz.laysSlF6_f161 enc h1 cf hO g cb blk off cap d w eg hcmp hH hblk hsz hT
end Go.Proofs
namespace Go.Proofs.YtkjlcbfjllpcnaaGreat.X
open Go.RowKit YtkjlcbfjllpcnaaGreatW.PrintWords YtkjlcbfjllpcnaaGreatW.PrintLast YtkjlcbfjllpcnaaGreatW.PrintMore
theorem rd_ (xs:List Int) (i:Int):YtkjlcbfjllpcnaaGreatW.PrintWords.rd xs i=xs.getD i.toNat 0:=rfl
theorem spot_none {w:World} {ad:Addr} {v:Value} (h:w.cell? ad=some v):ad.spot=none:=by
 unfold World.cell? at h
 split at h
 ·split at h
  ·cases h
  ·rename_i hs;simpa using hs
 ·cases h
theorem C_ints {w:World} {A:Option Addr} {xs:List Int} (h:(Kd.int .i64).C w A xs.length xs) (hn:0 < xs.length) :
  ∃ b off,A=some ⟨b,off,none⟩∧b < w.heap.size∧∀ j,j < xs.length→w.cell? ⟨b,off+j,none⟩=some (.int .i64 xs[j]!):=by
 obtain ⟨_,_,h2⟩:=h
 obtain ⟨ad,rfl,hc⟩:=h2 hn
 have hcell:∀ j,j < xs.length→w.cell? (ad.add j)=some (.int .i64 xs[j]!):=by
  intro j hj
  obtain ⟨c,hl,hr,hu⟩:=hc j xs[j] (List.getElem?_eq_getElem hj)
  have hr':c=[.int .i64 xs[j]]:=hr
  subst hr'
  have:=hu 0 _ rfl
  simpa [Kd.int,Kd.scalar,hj] using this
 have hs:ad.spot=none:=by
  have:=hcell 0 hn
  rw [show ad.add 0=ad by simp [Addr.add]] at this
  exact spot_none this
 obtain ⟨b,off,spot⟩:=ad
 simp only at hs
 subst hs
 refine ⟨b,off,rfl,?_,fun j hj=>?_⟩
 ·have:=World.block_lt_of_cell? w _ (hcell 0 hn)
  rw [show (⟨b,off,none⟩:Addr).add 0=⟨b,off,none⟩ by simp [Addr.add]] at this
  exact this
 ·have:=hcell j hj
  rcases Nat.eq_zero_or_pos j with rfl|hj0
  ·simpa [Addr.add] using this
  ·have he:(⟨b,off,none⟩:Addr).add j=⟨b,off+j,none⟩:=by simp [Addr.add,Nat.pos_iff_ne_zero.1 hj0]
   rwa [he] at this
theorem C_max {w:World} {A:Option Addr} {xs:List Int} (h:(Kd.int .i64).C w A xs.length xs):xs.length≤9223372036854775807:=h.2.1
end Go.Proofs.YtkjlcbfjllpcnaaGreat.X
namespace Go.Proofs.YtkjlcbfjllpcnaaGreat.X
open Go.RowKit YtkjlcbfjllpcnaaGreatW.PrintWords YtkjlcbfjllpcnaaGreatW.PrintLast YtkjlcbfjllpcnaaGreatW.PrintMore
attribute [local go_sem] max2_int min2_int max_two min_two max_three min_three max_four min_four
mutual
def qmake_trust.l0:Nat→Int→Int→List Int→Int→Int→List Int→Int→Int→List Int→Option (Int × List Int × (List (S90)) × Int)
 | 0,_,_,_,_,_,_,_,_,_=>none
 | k+1,x1,x2,x20,x21,x22,x1000,x1001,x142000,x142001=>if x22 < x21 then (if 0≤x22 then (if x22 < (x20.length:Int) then (if x142001.length < 17592186044416 then (qmake_trust.l0 k x1 x2 x20 x21 (wrap64 (x22+1)) x1000 x1001 x142000 (x142001++[rd x20 x22])) else (none)) else (none)) else (none)) else (if x2 > 1 then ((qmake_Tape_Pick.f x1000 x1001 (([0,0,1,1,2,3]:List Int))).bind fun bt159=>(qmake_trust.l1 k x1 x2 bt159.1 x1000 bt159.2 x142000 x142001 ([]:List (S90)))) else ((qmake_Tape_Range.f x1000 x1001 1 (wrap64 ((x142001.length:Int)+(([]:List (S90)).length:Int)))).bind fun bt180=>(some (bt180.1,x142001,([]:List (S90)),bt180.2))))
def qmake_trust.l1:Nat→Int→Int→Int→List Int→Int→Int→List Int→List (S90)→Option (Int × List Int × (List (S90)) × Int)
 | 0,_,_,_,_,_,_,_,_=>none
 | k+1,x1,x2,x11,x1000,x1001,x142000,x142001,x142002=>if x11 > 0 then ((qmake_trust.f k x1000 x1001 x1 (wrap64 (x2 - 1))).bind fun bt161=>(if x142002.length < 2513169434916 then (qmake_trust.l1 k x1 x2 (wrap64 (x11 - 1)) x1000 bt161.2.2.2 x142000 x142001 (x142002++[(⟨bt161.1,bt161.2.1,bt161.2.2.1⟩:S90)])) else (none))) else (if (x142002.length:Int) > 0 then ((qmake_Tape_N.f x1000 x1001 3).bind fun bt172=>(if bt172.1=0 then ((qmake_Tape_Range.f x1000 bt172.2 1 (wrap64 ((([]:List Int).length:Int)+(x142002.length:Int)))).bind fun bt174=>(some (bt174.1,([]:List Int),x142002,bt174.2))) else ((qmake_Tape_Range.f x1000 bt172.2 1 (wrap64 ((x142001.length:Int)+(x142002.length:Int)))).bind fun bt176=>(some (bt176.1,x142001,x142002,bt176.2))))) else ((qmake_Tape_Range.f x1000 x1001 1 (wrap64 ((x142001.length:Int)+(x142002.length:Int)))).bind fun bt178=>(some (bt178.1,x142001,x142002,bt178.2))))
def qmake_trust.f:Nat→List Int→Int→Int→Int→Option (Int × List Int × (List (S90)) × Int)
 | 0,_,_,_,_=>none
 | k+1,s0_0,s0_1,a1,a2=>(qmake_Tape_Order.f k s0_0 s0_1 a1).bind fun bt142=>((qmake_Tape_Range.f s0_0 bt142.2 1 (mn a1 5)).bind fun bt146=>(if 0≤bt146.1 then (if bt146.1≤(bt142.1.length:Int) then ((some (bt142.1.take (bt146.1:Int).toNat:List Int)).bind fun y148=>(qmake_trust.l0 k a1 a2 y148 (y148.length:Int) 0 s0_0 bt146.2 0 ([]:List Int))) else (none)) else (none)))
end
def qmake_trust.T12:Bool × List (List Nat × List Nat):=(true,[([],[]),([0],[0]),([],[]),([],[]),([],[]),([4],[4]),([2,3,5],[2,3,5]),([6],[6]),([1,7,6],[1,7]),([0,1,2,3,4,5,6,7,8],[]),([9,8,8,0,1,2,3,4,5,6,7,8],[8,9])])
def qmake_trust.B12:List Nat:=[0,1,0,0,0,16,60,124,255,511,1023]
theorem qmake_trust.tab12:rtab .any (opsOf Tryz.f154 12)=qmake_trust.T12:=by kernel_rfl
theorem qmake_trust.bits12:waitsOk qmake_trust.T12.2 qmake_trust.B12=true:=by kernel_rfl
set_option maxHeartbeats 8000000 in
set_option maxRecDepth 100000 in
theorem qmake_trust.calls (k:Nat):∀ (g:Nat) (s0_0:List Int) (s0_1:Int) (a1:Int) (a2:Int) (r1:Int) (r2:List Int) (r3:List (S90)) (r4:Int) (w0 w:World) (hI:IsS95 w0 w g s0_0 s0_1) (hB:Below w0.heap.size w0 w) (h:qmake_trust.f k s0_0 s0_1 a1 a2=some (r1,r2,r3,r4)),
  Calls Tryz.prog 154 #[.pointer (some ⟨g,0,none⟩),.int .i64 a1,.int .i64 a2] w fun e w'=>∃ v1_ v2_:Value,e=.returned (.agg #[.int .i64 r1,v1_,v2_])∧Kd.R (Kd.int .i64) 3 w' w.heap.size (fun _=>True) v1_ r2∧Kd.R k90 90 w' w.heap.size (fun k_=>some k_ ≠ (v1_:Value).ownBlock) v2_ r3∧IsS95 w0 w' g s0_0 r4∧Below w0.heap.size w0 w'∧KeepBut w w' g none:=by
 induction k using Nat.strongRecOn with
 | _ k ih =>
 intro g s0_0 s0_1 a1 a2 r1 r2 r3 r4 w0 w hI hB h
 cases k with
 | zero=>exact absurd h (by simp [qmake_trust.f])
 | succ k =>
 simp only [qmake_trust.f] at h
 have hu32:=Tryz.underlying90
 have HI0:=Z hI
 have HK:=Z (KeepBut.refl w g none)
 have HL:=Z hB.size
 clear hI
 have HW0:=Z hB.size
 have HB:=Z hB
 clear hB
 have H:((qmake_Tape_Order.f k s0_0 s0_1 a1).bind fun bt142=>((qmake_Tape_Range.f s0_0 bt142.2 1 (mn a1 5)).bind fun bt146=>(if 0≤bt146.1 then (if bt146.1≤(bt142.1.length:Int) then ((some (bt142.1.take (bt146.1:Int).toNat:List Int)).bind fun y148=>(qmake_trust.l0 k a1 a2 y148 (y148.length:Int) 0 s0_0 bt146.2 0 ([]:List Int))) else (none)) else (none))))=some (r1,r2,r3,r4):=h
 clear h
 replace H:=pO H
 obtain ⟨⟨t142,t145⟩,A40,H⟩:=H
 try dsimp only at H
 have A4:=Z A40
 clear A40
 obtain ⟨ji5,hji5⟩:∃ j_:Int,(mn a1 5)=j_:=⟨_,rfl⟩
 replace H:((qmake_Tape_Range.f s0_0 t145 1 (ji5)).bind fun bt146=>(if 0≤bt146.1 then (if bt146.1≤(t142.length:Int) then ((some (t142.take (bt146.1:Int).toNat:List Int)).bind fun y148=>(qmake_trust.l0 k a1 a2 y148 (y148.length:Int) 0 s0_0 bt146.2 0 ([]:List Int))) else (none)) else (none)))=some (r1,r2,r3,r4):=by first|(rw [hji5] at H;exact H)|(simp only [hji5] at H ⊢;exact H)
 (try rw [hji5] at A4)
 (try (have hji5h:ji5≤5:=by (rw [← hji5];unfold mn;(repeat' split) <;> omega)))
 (try (have hji5g:ji5≤64:=by omega))
 have hji5_:(if 5 < a1 then 5 else a1)=ji5:=hji5
 replace H:=pO H
 obtain ⟨⟨t146,t147⟩,A60,H⟩:=H
 try dsimp only at H
 have A6:=Z A60
 clear A60
 by_cases c7:0≤t146
 ·rw [if_pos c7] at H
  have c7b0:=eq_true c7
  have c7b1:decide (0≤t146)=true:=decide_eq_true c7
  clear c7
  by_cases c8:t146≤(t142.length:Int)
  ·rw [if_pos c8] at H
   have c8b0:=eq_true c8
   have c8b1:decide (t146≤(t142.length:Int))=true:=decide_eq_true c8
   clear c8
   obtain ⟨y148,hy148⟩:∃ y_:List Int,y_=(t142.take (t146:Int).toNat):=⟨_,rfl⟩
   first|rw [← hy148] at H|(replace H:=(Option.bind_some _ _).symm.trans H;rw [← hy148] at H)
   have Ny148:=Z hy148
   clear hy148
   have H':=Z H
   clear H
   go_enter Tryz.func154,Tryz.ntmps154
   go_wp2_with (first|((with_reducible refine gate_dst (N:=6) rfl ?_);refine box_event ?hg (N:=6) ?hd (cs:=#[.int .i64 0,.slice none 0 0,.slice none 0 0]) (t:=90) ?hr ?_;(case hd=>rfl);(case hg=>rfl);(case hr=>first|(go_simp;done)|(go_simp;rfl));intro gb140 hg w9 hbox hb;have n0_:=Z (IsS95.below pI hb);have n1_:=Z (KeepBut.trans pH (KeepBut.of_below hb g none) (.inl rfl));have n2_:=Z (below_step pB hb);have BK140:=Z (hbox);have GW140:=Z ((pS hg:w.heap.size≤gb140));have GE140:=Z ((Nat.le_trans HW0.out (pS hg:w.heap.size≤gb140):w0.heap.size≤gb140));have NB0_140:=Z ((pL71 hg (show IsS95 w0 _ g s0_0 s0_1 from pI):g ≠ gb140));have NB140_0:=Z ((pM71 hg (show IsS95 w0 _ g s0_0 s0_1 from pI):gb140 ≠ g));clear HI0 HK HB;have HI0:=n0_;have HK:=n1_;have HB:=n2_;clear n0_ n1_ n2_ hb hbox hg)|((with_reducible refine gate_dst (N:=7) rfl ?_);refine box_event ?hg (N:=7) ?hd (cs:=#[.int .i64 0,.slice none 0 0,.slice none 0 0]) (t:=90) ?hr ?_;(case hd=>rfl);(case hg=>rfl);(case hr=>first|(go_simp;done)|(go_simp;rfl));intro gb141 hg w10 hbox hb;have n0_:=Z (IsS95.below pI hb);have n1_:=Z (blk_below (g:=gb140) (o:=.cells #[.int .i64 0,.slice none 0 0,.slice none 0 0] 90 (0,0)) (pK BK140) hb);have n2_:=Z (KeepBut.trans pH (KeepBut.of_below hb g none) (.inl rfl));have n3_:=Z (below_step pB hb);have BK141:=Z (hbox);have GW141:=Z ((pS hg:w.heap.size≤gb141));have GE141:=Z ((Nat.le_trans HW0.out (pS hg:w.heap.size≤gb141):w0.heap.size≤gb141));have NB140_141:=Z ((pL hg (pK BK140):gb140 ≠ gb141));have NB141_140:=Z ((pM hg (pK BK140):gb141 ≠ gb140));have NB0_141:=Z ((pL71 hg (show IsS95 w0 _ g s0_0 s0_1 from pI):g ≠ gb141));have NB141_0:=Z ((pM71 hg (show IsS95 w0 _ g s0_0 s0_1 from pI):gb141 ≠ g));clear HI0 BK140 HK HB;have HI0:=n0_;have BK140:=n1_;have HK:=n2_;have HB:=n3_;clear n0_ n1_ n2_ n3_ hb hbox hg)|((with_reducible refine gate_callee (f:=184) rfl ?_);refine goesL_ (some 14) rfl rfl Tryz.func184 pU rfl #[.pointer (some ⟨g,0,none⟩),.int .i64 a1] rfl pG ?_;(with_reducible refine (qmake_Tape_Order.calls k g s0_0 s0_1 a1 t142 t145 w0 _ ?side1 ?side2 A4.out).mono ?_);(case side1=>exact pI);(case side2=>exact pB);rintro e w11 ⟨v143,rfl,ho0,hi,hb,hk⟩;refine ⟨_,rfl,?_⟩;replace BK140:=Z (KeepBut.blk hk (g':=gb140) (o:=.cells #[.int .i64 0,.slice none 0 0,.slice none 0 0] 90 (0,0)) (pK BK140) NB140_0.out (by simp));replace BK141:=Z (KeepBut.blk hk (g':=gb141) (o:=.cells #[.int .i64 0,.slice none 0 0,.slice none 0 0] 90 (0,0)) (pK BK141) NB141_0.out (by simp));have HO144:=Z (Kd.R_lower ho0 (keep_size (w:=w) (g:=g) (row:=none) pH));have n3_:=Z (KeepBut.trans pH hk (.inl rfl));have n4_:=Z (hb);have n5_:=Z (hi);clear HK HB HI0;have HK:=n3_;have HB:=n4_;have HI0:=n5_;clear n3_ n4_ n5_;(try clear hb);(try clear hb2);(try clear hk);(try clear hi);(try clear ho0))|((with_reducible refine gate_callee (f:=90) rfl ?_);refine goesL_ (some 19) rfl rfl Tryz.func90 pU rfl #[.pointer (some ⟨g,0,none⟩),.int .i64 1,.int .i64 ji5] rfl (by (try simp only [List.map_toArray,List.map_cons,List.map_nil]);first|done|(simp only [hji5];rfl)|rfl|(simp only [List.length_drop,List.length_take];rfl)) ?_;(with_reducible refine (qmake_Tape_Range.calls g s0_0 t145 1 ji5 t146 t147 w0 _ ?side1 ?side2 A6.out).mono ?_);(case side1=>exact pI);(case side2=>exact pB);rintro e w12 ⟨rfl,hi,hb,hk⟩;refine ⟨_,rfl,?_⟩;replace BK140:=Z (KeepBut.blk hk (g':=gb140) (o:=.cells #[.int .i64 0,.slice none 0 0,.slice none 0 0] 90 (0,0)) (pK BK140) NB140_0.out (by simp));replace BK141:=Z (KeepBut.blk hk (g':=gb141) (o:=.cells #[.int .i64 0,.slice none 0 0,.slice none 0 0] 90 (0,0)) (pK BK141) NB141_0.out (by simp));replace HO144:=Z (Kd.R_mono (Kd.R_keep (IsS95.apart (show IsS95 w0 _ g s0_0 t145 from pI) (pR HO144) (by decide)) hk (fun _ h=>h.2)) (fun _ h=>h.1));have n3_:=Z (KeepBut.trans pH hk (.inl rfl));have n4_:=Z (hb);have n5_:=Z (hi);clear HK HB HI0;have HK:=n3_;have HB:=n4_;have HI0:=n5_;clear n3_ n4_ n5_;(try clear hb);(try clear hb2);(try clear hk);(try clear hi);obtain ⟨Ao14,co14,eo14⟩:=Kd.R_slice HO144.out;subst eo14;have q13:(t146:Int)≤((t142.length:Int):Int):=of_decide_eq_true pA;obtain ⟨i013,hi013,_,hsz13,_⟩:=info_parts info3;have hroom13:t142.length≤co14:=(Kd.R_reads' HO144.out).2.1;have hC13:Kd.C (Kd.int .i64) _ Ao14 t142.length t142:=(Kd.R_reads' HO144.out).2.2;have hcut13:=cut_to (P:=Tryz.prog) 22 3 .i64 Tryz.underlying22 hi013 Ao14 t142.length co14 t146 (of_decide_eq_true pA) q13 hroom13;have hr13:=Kd.C_take (m:=(t146:Int).toNat) hC13 (by omega);have hy13:y148.length=(t146:Int).toNat:=(by rw [Ny148.out,List.length_take];omega);rw [← Ny148.out] at hr13;rw [← hy13] at hcut13;have HR151:=Z hr13;have HC151:=Z (show y148.length≤co14 from by omega);clear hr13 hC13 hroom13 hi013 hsz13;have KY13:=Z hy13;clear hy13;have KL13:=Z (show (t146:Int).toNat≤t142.length from by omega);replace q13:=eq_true q13))
   go_loopg [22] k (fun kq v22 w'=>∃ (x22_1:Int) (x142001_1:List Int) (u142001:Value),v22=.int .i64 x22_1∧Aside0 (qmake_trust.l0 kq a1 a2 y148 (y148.length:Int) x22_1 s0_0 t147 0 x142001_1=some (r1,r2,r3,r4))∧Aside0 (kq≤k)∧Aside0 (Kd.R (Kd.int .i64) 3 w' w.heap.size (fun _=>True) u142001 x142001_1)∧Aside0 (w'.heap[gb140]?=some (.cells #[.int .i64 0,(.slice none 0 0),(.slice none 0 0)] 90 (0,0)))∧Aside0 (w'.heap[gb141]?=some (.cells #[.int .i64 0,u142001,(.slice none 0 0)] 90 (0,0)))∧Aside0 (IsS95 w0 w' g s0_0 t147)∧Aside0 (KeepBut w w' g none)∧Aside0 (Below w0.heap.size w0 w')∧Aside0 (Kd.R (Kd.int .i64) 3 w' w.heap.size (fun k_=>True∧some k_ ≠ (u142001:Value).ownBlock) (.slice Ao14 t142.length co14) t142))
   case atStart=>exact ⟨(0),(([]:List Int)),(.slice none 0 0),pE,H',⟨Nat.le_refl _⟩,⟨pN⟩,⟨pK BK140⟩,⟨pK BK141⟩,⟨pI⟩,⟨pH⟩,⟨pB⟩,⟨Kd.R_mono (pR HO144) (fun _ _=>⟨trivial,by simp [Value.ownBlock]⟩)⟩⟩
   case round =>
    clear H'
    try clear q1
    try clear p2
    try clear c3
    try clear c4
    try clear c7
    try clear c7b0
    try clear c7b1
    try clear c8
    try clear c8b0
    try clear c8b1
    try clear q13
    obtain ⟨x22_1,x142001_1,u142001,rfl,HA,HK1,HO_142001,BK140,BK141,HI0,HK,HB,HZ⟩:=hrel
    cases gk with
    | zero=>exact absurd HA.out (by simp [qmake_trust.l0])
    | succ k1 =>
     have H:=HA.out
     clear HA
     simp only [qmake_trust.l0] at H
     by_cases c15:x22_1 < (y148.length:Int)
     ·rw [if_pos c15] at H
      have c15b0:decide (x22_1 < (y148.length:Int))=true:=decide_eq_true c15
      clear c15
      by_cases c16:0≤x22_1
      ·rw [if_pos c16] at H
       have c16b0:decide (0≤x22_1)=true:=decide_eq_true c16
       clear c16
       by_cases c17:x22_1 < (y148.length:Int)
       ·rw [if_pos c17] at H
        have c17b0:decide (x22_1 < (y148.length:Int))=true:=decide_eq_true c17
        clear c17
        by_cases c18:x142001_1.length < 17592186044416
        ·rw [if_pos c18] at H
         have LMc18:=Z c18
         clear c18
         obtain ⟨y153,hy153⟩:∃ y_:List Int,y_=(x142001_1++[rd y148 x22_1]):=⟨_,rfl⟩
         first|rw [← hy153] at H|(replace H:=(Option.bind_some _ _).symm.trans H;rw [← hy153] at H)
         have Ny153:=Z hy153
         clear hy153
         have H':=Z H
         clear H
         have p152:0≤(x22_1:Int):=of_decide_eq_true pA
         have q152:x22_1 < (y148.length:Int):=of_decide_eq_true pA
         have hz_:=Kd.C_take (m:=(t146:Int).toNat) (Kd.R_reads' HZ.out).2.2 KL13.out
         rw [← Ny148.out] at hz_
         obtain ⟨ad152,e152,hx152_0⟩:=Kd.at_int hz_ x22_1 p152 q152
         cases e152
         clear hz_
         replace p152:=eq_true p152
         replace q152:=eq_true q152
         have hnb19:=NB141_140.out
         have hnc19:=NB140_141.out
         have hnb20:=NB141_0.out
         have hnc20:=NB0_141.out
         have hcz21_0:=pV BK141 (.int .i64 0) 0 rfl
         have hcz21_1:=pV BK141 (u142001) 1 rfl
         have hcz21_2:=pV BK141 (.slice none 0 0) 2 rfl
         have hfz21_0:=kF BK141.out 0
         have hfz21_1:=kF BK141.out 1
         have hfz21_2:=kF BK141.out 2
         go_wp2_with (first|((with_reducible refine gate_builtin (b:=.append) (xs:=#[.tmp 27,.tmp 29]) rfl ?_);at_builtin;refine Kd.R_append (Kd.int .i64) w.heap.size rfl (.tmp 27) (.tmp 29) 22 3 (.int .i64 0) 8 rfl Tryz.underlying22 info3 rfl (by decide) (by omega) u142001 x142001_1 (rd y148 x22_1) [.int .i64 (rd y148 x22_1)] (fun _=>True) (fun _=>False) rfl rfl ?aP (fun _ hk=>hk.elim) ?aF ?aO (Below.refl _ _) ?aS ?aL ?_;(case aP=>exact rfl);(case aF=>exact (fun _ _=>trivial));(case aO=>exact (pR HO_142001));(case aS=>exact (keep_size (w:=w) (g:=g) (row:=none) pH));(case aL=>have:=LMc18.out;omega);intro v154 w22 ho hb hg hat;rw [← Ny153.out] at ho;have n0_:=Z (blk_grown (g:=gb140) (o:=.cells #[.int .i64 0,.slice none 0 0,.slice none 0 0] 90 (0,0)) (pK BK140) hg (Kd.R_ne HO_142001.out BK140.out (by decide)));have n1_:=Z (blk_grown (g:=gb141) (o:=.cells #[.int .i64 0,u142001,.slice none 0 0] 90 (0,0)) (pK BK141) hg (Kd.R_ne HO_142001.out BK141.out (by decide)));have n2_:=Z (IsS95.grown pI hg (IsS95.own_ne HI0.out HO_142001.out (by decide)));have n3_:=Z (below_weaken pB HL.out hb);have n4_:=Z (KeepBut.trans pH (KeepBut.of_grown hg g) (Kd.R_base2 HO_142001.out));have n5_:=Z (ho);have n6_:=Z (Kd.R_after (pR HZ) hg hat);clear HZ;have HZ:=n6_;clear BK140 BK141 HI0 HB HK HO_142001;have BK140:=n0_;have BK141:=n1_;have HI0:=n2_;have HB:=n3_;have HK:=n4_;have HO155:=n5_;clear n0_ n1_ n2_ n3_ n4_ n5_ ho hb hg hat;obtain ⟨Ao23,co23,eo23⟩:=Kd.R_slice HO155.out;subst eo23;obtain ⟨hcz24_0,hcz24_1,hcz24_2,hfz24_0,hfz24_1,hfz24_2⟩:=p3 BK141))
         go_roundg k1
         case measure=>have:=HK1.out;omega
         case rel=>exact ⟨(wrap64 (x22_1+1)),(y153),(.slice Ao23 y153.length co23),pE,H',⟨by have:=HK1.out;omega⟩,⟨by refine pP ?_;exact Kd.R_mono (Kd.R_far (p:=⟨gb141,1,none⟩) (Kd.R_types HO155.out BK141.out (by decide)) (fun _ hk=>hk.2) (.slice Ao23 y153.length co23)) (fun _ hk=>trivial)⟩,⟨by refine pQ ?_;refine blk_far ?_ NB140_141.out _;exact pK BK140⟩,⟨by refine pQ ?_;refine blk_put (cs:=#[.int .i64 0,u142001,.slice none 0 0]) ?_ 1 _ rfl;exact pK BK141⟩,⟨pI⟩,⟨pH⟩,⟨pB⟩,⟨by refine pP ?_;exact Kd.R_mono (Kd.R_far (p:=⟨gb141,1,none⟩) (Kd.R_types HZ.out BK141.out (by decide)) (fun _ hk=>hk.2) (.slice Ao23 y153.length co23)) (fun _ hk=>hk.1)⟩⟩
        ·rw [if_neg c18] at H
         exact absurd H (by simp)
       ·rw [if_neg c17] at H
        exact absurd H (by simp)
      ·rw [if_neg c16] at H
       exact absurd H (by simp)
     ·rw [if_neg c15] at H
      have c15b0:decide (x22_1 < (y148.length:Int))=false:=decide_eq_false c15
      clear c15
      by_cases c25:a2 > 1
      ·rw [if_pos c25] at H
       have c25b0:decide (1 < a2)=true:=decide_eq_true c25
       clear c25
       obtain ⟨y156,hy156⟩:∃ y_:List Int,y_=(([0,0,1,1,2,3]:List Int)):=⟨_,rfl⟩
       first|rw [← hy156] at H|(replace H:=(Option.bind_some _ _).symm.trans H;rw [← hy156] at H)
       have Ny156:=Z hy156
       clear hy156
       replace H:=pO H
       obtain ⟨⟨t159,t160⟩,A260,H⟩:=H
       try dsimp only at H
       have A26:=Z A260
       clear A260
       have H':=Z H
       clear H
       go_wp2_with (first|((with_reducible refine gate_dst (N:=36) rfl ?_);refine Kd.R_lit (Kd.int .i64) _ 3 ?hg (N:=36) ?hd (xs:=([0,0,1,1,2,3]:List Int)) (inner:=[.int .i64 0,.int .i64 0,.int .i64 1,.int .i64 1,.int .i64 2,.int .i64 3]) (ok:=fun _=>True) (okp:=fun _=>True) ?hr ?hp (fun _ hk=>hk) trivial (Below.refl _ _) (Nat.le_refl _) (by simp) ?_;(case hd=>rfl);(case hg=>rfl);(case hr=>first|(go_simp;done)|(go_simp;rfl));(case hp=>exact (Reps.one (show Kd.M (Kd.int .i64) _ _ _ 0 [.int .i64 0] from rfl) (Reps.one (show Kd.M (Kd.int .i64) _ _ _ 0 [.int .i64 0] from rfl) (Reps.one (show Kd.M (Kd.int .i64) _ _ _ 1 [.int .i64 1] from rfl) (Reps.one (show Kd.M (Kd.int .i64) _ _ _ 1 [.int .i64 1] from rfl) (Reps.one (show Kd.M (Kd.int .i64) _ _ _ 2 [.int .i64 2] from rfl) (Reps.one (show Kd.M (Kd.int .i64) _ _ _ 3 [.int .i64 3] from rfl) (Reps.none _ _))))))));intro v157 w27 ho28 hb hg_ hnew_;clear hg_ hnew_;(first|rw [← Ny156.out] at ho28|(simp only [Int.reduceToNat] at ho28;rw [← Ny156.out] at ho28));have n0_:=Z (Kd.R_elder' (pR HO_142001) (Kd.R_base ho28) hb);have HO158:=Z (Kd.R_lower (Kd.R_new' ho28 (Kd.R_lt (pR HO_142001))) (keep_size (w:=w) (g:=g) (row:=none) pH));replace BK140:=Z (blk_below (g:=gb140) (o:=.cells #[.int .i64 0,.slice none 0 0,.slice none 0 0] 90 (0,0)) (pK BK140) hb);replace BK141:=Z (blk_below (g:=gb141) (o:=.cells #[.int .i64 0,u142001,.slice none 0 0] 90 (0,0)) (pK BK141) hb);have n4_:=Z (IsS95.below pI hb);have n5_:=Z (KeepBut.trans pH (KeepBut.of_below hb g none) (.inl rfl));have n6_:=Z (below_step pB hb);clear HO_142001 HI0 HK HB;have HO_142001:=n0_;have HI0:=n4_;have HK:=n5_;have HB:=n6_;clear n0_ n4_ n5_ n6_ hb ho28;obtain ⟨Ao29,co29,eo29⟩:=Kd.R_slice HO158.out;subst eo29)|((with_reducible refine gate_callee (f:=87) rfl ?_);refine goesL_ (some 37) rfl rfl Tryz.func87 pU rfl #[.pointer (some ⟨g,0,none⟩),.slice Ao29 y156.length co29] rfl pG ?_;(with_reducible refine (qmake_Tape_Pick.calls g s0_0 t147 _ _ y156 t159 t160 w0 _ ?side1 ?side2 ?side3 ?side4 ?side5 A26.out).mono ?_);(case side1=>exact pI);(case side2=>exact pB);(case side3=>repeat (first|exact (Kd.R_reads' HO158.out).2.2|(with_reducible refine Kd.C_alloc ?_ _)|(with_reducible refine Kd.C_drewN ?_ _)|(with_reducible refine Kd.C_drew ?_)));(case side4=>exact (Kd.R_reads' HO158.out).2.1);(case side5=>exact far_slice (IsS95.own_ne HI0.out HO158.out (by decide)));rintro e w30 ⟨rfl,hi,hb,hk⟩;refine ⟨_,rfl,?_⟩;replace HO_142001:=Z (Kd.R_mono (Kd.R_keep (IsS95.apart (show IsS95 w0 _ g s0_0 t147 from pI) (pR HO_142001) (by decide)) hk (fun _ h=>h.2)) (fun _ h=>h.1));replace BK140:=Z (KeepBut.blk hk (g':=gb140) (o:=.cells #[.int .i64 0,.slice none 0 0,.slice none 0 0] 90 (0,0)) (pK BK140) NB140_0.out (by simp));replace BK141:=Z (KeepBut.blk hk (g':=gb141) (o:=.cells #[.int .i64 0,u142001,.slice none 0 0] 90 (0,0)) (pK BK141) NB141_0.out (by simp));replace HO158:=Z (Kd.R_mono (Kd.R_keep (IsS95.apart (show IsS95 w0 _ g s0_0 t147 from pI) (pR HO158) (by decide)) hk (fun _ h=>h.2)) (fun _ h=>h.1));have n4_:=Z (KeepBut.trans pH hk (.inl rfl));have n5_:=Z (hb);have n6_:=Z (hi);clear HK HB HI0;have HK:=n4_;have HB:=n5_;have HI0:=n6_;clear n4_ n5_ n6_;(try clear hb);(try clear hb2);(try clear hk);(try clear hi)))
       go_loopg [11] k1 (fun kq v11 w'=>∃ (x11_2:Int) (x1001_2:Int) (x142002_2:List (S90)) (u142002:Value),v11=.int .i64 x11_2∧Aside0 (qmake_trust.l1 kq a1 a2 x11_2 s0_0 x1001_2 0 x142001_1 x142002_2=some (r1,r2,r3,r4))∧Aside0 (kq≤k1)∧Aside0 (Kd.R (Kd.int .i64) 3 w' w.heap.size (fun _=>True) u142001 x142001_1)∧Aside0 (Kd.R k90 90 w' w.heap.size (fun k_=>some k_ ≠ (u142001:Value).ownBlock∧k_ ≠ gb140∧k_ ≠ gb141) u142002 x142002_2)∧Aside0 (w'.heap[gb140]?=some (.cells #[.int .i64 0,(.slice none 0 0),(.slice none 0 0)] 90 (0,0)))∧Aside0 (w'.heap[gb141]?=some (.cells #[.int .i64 0,u142001,u142002] 90 (0,0)))∧Aside0 (IsS95 w0 w' g s0_0 x1001_2)∧Aside0 (KeepBut w w' g none)∧Aside0 (Below w0.heap.size w0 w'))
       case atStart=>exact ⟨(t159),(t160),(([]:List (S90))),(.slice none 0 0),pE,H',⟨Nat.le_refl _⟩,⟨by refine pP ?_;exact Kd.R_mono HO_142001.out (fun _ hk=>trivial)⟩,⟨pN⟩,⟨pK BK140⟩,⟨pK BK141⟩,⟨pI⟩,⟨pH⟩,⟨pB⟩⟩
       case round =>
        clear H'
        try clear c1
        try clear p1
        try clear q1
        try clear hx1
        try clear c2
        try clear p2
        try clear c3
        try clear c4
        try clear p6
        try clear c7
        try clear c7b0
        try clear c7b1
        try clear c8
        try clear c8b0
        try clear c8b1
        try clear q13
        try clear c15
        try clear c15b0
        try clear p15
        try clear q15
        try clear hx15
        try clear hf15
        try clear c16
        try clear c16b0
        try clear c17
        try clear c17b0
        try clear c18
        try clear c19
        try clear c20
        try clear c25
        try clear c25b0
        try clear hcz21_0
        try clear hcz21_1
        try clear hcz21_2
        try clear hcz24_0
        try clear hcz24_1
        try clear hcz24_2
        try clear hfz21_0
        try clear hfz21_1
        try clear hfz21_2
        try clear hfz24_0
        try clear hfz24_1
        try clear hfz24_2
        try clear hx152_0
        try clear p152
        try clear q152
        obtain ⟨x11_2,x1001_2,x142002_2,u142002,rfl,HA,HK2,HO_142001,HO_142002,BK140,BK141,HI0,HK,HB⟩:=hrel
        cases gk with
        | zero=>exact absurd HA.out (by simp [qmake_trust.l1])
        | succ k2 =>
         have H:=HA.out
         clear HA
         simp only [qmake_trust.l1] at H
         by_cases c31:x11_2 > 0
         ·rw [if_pos c31] at H
          have c31b0:decide (0 < x11_2)=true:=decide_eq_true c31
          clear c31
          replace H:=pO H
          obtain ⟨⟨t161,t162,t165,t168⟩,A320,H⟩:=H
          try dsimp only at H
          have A32:=Z A320
          clear A320
          by_cases c33:x142002_2.length < 2513169434916
          ·rw [if_pos c33] at H
           have LMc33:=Z c33
           clear c33
           obtain ⟨y169,hy169⟩:∃ y_:List (S90),y_=(x142002_2++[(⟨t161,t162,t165⟩:S90)]):=⟨_,rfl⟩
           first|rw [← hy169] at H|(replace H:=(Option.bind_some _ _).symm.trans H;rw [← hy169] at H)
           have Ny169:=Z hy169
           clear hy169
           have H':=Z H
           clear H
           try go_wp2
           have n0_:=Z (Kd.R_drew HO_142001.out)
           have n1_:=Z (Kd.R_drew HO_142002.out)
           have n2_:=Z (kD BK140.out)
           have n3_:=Z (kD BK141.out)
           have n4_:=Z (IsS95.drew HI0.out)
           have n5_:=Z (keep_drew HK.out)
           have n6_:=Z (wD HB.out)
           clear HO_142001 HO_142002 BK140 BK141 HI0 HK HB
           have HO_142001:=n0_
           have HO_142002:=n1_
           have BK140:=n2_
           have BK141:=n3_
           have HI0:=n4_
           have HK:=n5_
           have HB:=n6_
           clear n0_ n1_ n2_ n3_ n4_ n5_ n6_
           refine start_ (n:=11) (S:=fun w'=>w'.cell? ⟨gb141,0,none⟩=some (.int .i64 0)∧w'.cell? ⟨gb141,1,none⟩=some (u142001)∧w'.cell? ⟨gb141,2,none⟩=some (u142002)) (ds:=[10]) #[false,false,false,false,false,false,false,false,false,false,false] pU rfl rfl ⟨(kC BK141.out 0).trans rfl,(kC BK141.out 1).trans rfl,(kC BK141.out 2).trans rfl⟩ (fun hHeld=>?_);refine with_tabW qmake_trust.tab12 qmake_trust.bits12 (fun HT_ HW_=>?_)
           generalize wr.drew=w34 at HO_142001 HO_142002 BK140 BK141 HI0 HK HB hHeld ⊢
           refine pure_ (i:=0) (N:=some 42) (v:=?_) (a':=?_) #[true,false,false,false,false,false,false,false,false,false,false] rfl rfl (any_of HT_.out pU) (fun _ _ _ h=>h) (Or.inl ⟨by rfl,?_⟩) ?_ ?_
           rotate_left
           ·intro w'
            go_simp
            with_reducible rfl
           rotate_left
           ·simp only [Act.put,List.setIfInBounds_toArray,List.set_cons_zero,List.set_cons_succ,i64_w,i32_w]
            rfl
           refine pure_ (i:=2) (N:=some 44) (v:=?_) (a':=?_) #[true,false,true,false,false,false,false,false,false,false,false] rfl rfl (any_of HT_.out pU) (fun _ _ _ h=>h) (Or.inl ⟨by rfl,?_⟩) ?_ ?_
           rotate_left
           ·intro w'
            go_simp
            with_reducible rfl
           rotate_left
           ·simp only [Act.put,List.setIfInBounds_toArray,List.set_cons_zero,List.set_cons_succ,i64_w,i32_w]
            rfl
           refine pure_ (i:=3) (N:=some 45) (v:=?_) (a':=?_) #[true,false,true,true,false,false,false,false,false,false,false] rfl rfl (any_of HT_.out pU) (fun _ _ _ h=>h) (Or.inl ⟨by rfl,?_⟩) ?_ ?_
           rotate_left
           ·intro w'
            go_simp
            with_reducible rfl
           rotate_left
           ·simp only [Act.put,List.setIfInBounds_toArray,List.set_cons_zero,List.set_cons_succ,i64_w,i32_w]
            rfl
           refine pure_ (i:=4) (N:=some 46) (v:=?_) (a':=?_) #[true,false,true,true,true,false,false,false,false,false,false] rfl rfl (any_of HT_.out pU) (fun _ _ _ h=>h) (Or.inl ⟨by rfl,?_⟩) ?_ ?_
           rotate_left
           ·intro w'
            go_simp
            with_reducible rfl
           rotate_left
           ·simp only [Act.put,List.setIfInBounds_toArray,List.set_cons_zero,List.set_cons_succ,i64_w,i32_w]
            rfl
           refine pure_ (i:=5) (N:=some 47) (v:=?_) (a':=?_) #[true,false,true,true,true,true,false,false,false,false,false] rfl rfl (any_of HT_.out pU) (fun _ _ _ h=>h) (Or.inl ⟨by rfl,?_⟩) ?_ ?_
           rotate_left
           ·intro w'
            go_simp
            with_reducible rfl
           rotate_left
           ·simp only [Act.put,List.setIfInBounds_toArray,List.set_cons_zero,List.set_cons_succ,i64_w,i32_w]
            rfl
           refine take_ (i:=1) (N:=some 43) (v:=?_) (a':=?_) #[true,true,true,true,true,true,false,false,false,false,false] rfl rfl (take_ofW HT_.out HW_.out pU) (fun _ _ _ h=>h) (Or.inl ⟨by rfl,?_⟩) hHeld ?_ ?_
           rotate_left
           ·rintro w' ⟨s0,s1,s2⟩
            go_simp
            with_reducible rfl
           rotate_left
           ·simp only [Act.put,List.setIfInBounds_toArray,List.set_cons_zero,List.set_cons_succ,i64_w,i32_w]
            rfl
           refine one_ (i:=6) (N:=some 48) #[true,true,true,true,true,true,true,false,false,false,false] rfl rfl (one_of HT_.out pU) (by decide) (fun K hK=>?_)
           refine goes_ Tryz.func154 pU rfl #[.pointer (some ⟨g,0,none⟩),.int .i64 a1,.int .i64 (wrap64 (a2 - 1))] (by rfl) rfl rfl pG ?_
           with_reducible refine (ih k2 (by have:=HK1.out;have:=HK2.out;omega) g s0_0 x1001_2 a1 (wrap64 (a2 - 1)) t161 t162 t165 t168 w0 _ ?side1 ?side2 A32.out).mono ?_
           (case side1=>exact pI)
           (case side2=>exact pB)
           rintro e w35 ⟨v163,v166,rfl,ho0,ho1,hi,hb,hk⟩
           refine ⟨_,rfl,?_⟩
           have n0_:=Z (Kd.R_mono (Kd.R_told (Kd.R_oldK (IsS95.apart (show IsS95 w0 _ g s0_0 x1001_2 from pI) (pR HO_142001) (by decide)) hk) (Kd.R_base ho0)) (fun _ h_=>h_.1))
           have n1_:=Z (Kd.R_mono (Kd.R_told (Kd.R_told (Kd.R_oldK (IsS95.apart (show IsS95 w0 _ g s0_0 x1001_2 from pI) (pR HO_142002) (by decide)) hk) (Kd.R_base ho0)) (Kd.R_base ho1)) (fun _ h_=>h_.1))
           have n2_:=Z (KeepBut.blk hk (g':=gb140) (o:=.cells #[.int .i64 0,.slice none 0 0,.slice none 0 0] 90 (0,0)) (pK BK140) NB140_0.out (by simp))
           have n3_:=Z (KeepBut.blk hk (g':=gb141) (o:=.cells #[.int .i64 0,u142001,u142002] 90 (0,0)) (pK BK141) NB141_0.out (by simp))
           have n4_:=Z (Kd.R_lower (Kd.R_new' ho0 (Kd.R_lt (pR HO_142001))) (keep_size (w:=w) (g:=g) (row:=none) pH))
           have n5_:=Z (Kd.R_lower (Kd.R_newB (Kd.R_newB (Kd.R_new' (Kd.R_new' ho1 (Kd.R_lt (pR HO_142001))) (Kd.R_lt (pR HO_142002))) (g:=gb140) (o:=.cells #[.int .i64 0,.slice none 0 0,.slice none 0 0] 90 (0,0)) (pK BK140)) (g:=gb141) (o:=.cells #[.int .i64 0,u142001,u142002] 90 (0,0)) (pK BK141)) (keep_size (w:=w) (g:=g) (row:=none) pH))
           have n6_:=Z (KeepBut.trans pH hk (.inl rfl))
           have n7_:=Z (hb)
           have n8_:=Z (hi)
           clear HO_142001 HO_142002 BK140 BK141 HK HB HI0
           have HO_142001:=n0_
           have HO_142002:=n1_
           have BK140:=n2_
           have BK141:=n3_
           have HO164:=n4_
           have HO167:=n5_
           have HK:=n6_
           have HB:=n7_
           have HI0:=n8_
           clear n0_ n1_ n2_ n3_ n4_ n5_ n6_ n7_ n8_
           (try clear hb)
           (try clear hb2)
           (try clear hk)
           (try clear hi)
           (try clear ho0)
           (try clear ho1)
           obtain ⟨Ao37,co37,eo37⟩:=Kd.R_slice HO164.out
           (first|subst eo37|(injection eo37 with f1_ f2_ f3_;have f4_:=f1_.symm;have f5_:=f3_.symm;clear f1_ f2_ f3_;subst f4_;subst f5_))
           obtain ⟨Ao38,co38,eo38⟩:=Kd.R_slice HO167.out
           (first|subst eo38|(injection eo38 with f1_ f2_ f3_;have f4_:=f1_.symm;have f5_:=f3_.symm;clear f1_ f2_ f3_;subst f4_;subst f5_))
           refine hK.out _ _ ⟨(kC BK141.out 0).trans rfl,(kC BK141.out 1).trans rfl,(kC BK141.out 2).trans rfl⟩ (fun hHeld=>?_)
           clear hK K
           refine norm_ (a':=?_) ?_ ?_
           rotate_left
           ·show Act.put _ (some 48) _=_
            simp only [Act.put,List.setIfInBounds_toArray,List.set_cons_zero,List.set_cons_succ,i64_w,i32_w]
            rfl
           refine one_ (i:=7) (N:=some 49) #[true,true,true,true,true,true,true,true,false,false,false] rfl rfl (one_of HT_.out pU) (by decide) (fun K hK=>?_)
           refine value_ (w1:=?_) (v:=?_) (by rfl) rfl ?_ ?_
           rotate_left 2
           ·go_simp
            constructor
            ·rfl
            ·rfl
           refine hK.out _ _ ⟨(kC (kA BK141.out _) 0).trans rfl,(kC (kA BK141.out _) 1).trans rfl,(kC (kA BK141.out _) 2).trans rfl⟩ (fun hHeld=>?_)
           clear hK K
           refine norm_ (a':=?_) ?_ ?_
           rotate_left
           ·show Act.put _ (some 49) _=_
            simp only [Act.put,List.setIfInBounds_toArray,List.set_cons_zero,List.set_cons_succ,i64_w,i32_w]
            rfl
           refine one_ (i:=8) (N:=some 50) #[true,true,true,true,true,true,true,true,true,false,false] rfl rfl (one_of HT_.out pU) (by decide) (fun K hK=>?_)
           refine Kd.R_append_step k90 w.heap.size (by rfl) (.tmp 43) (.tmp 49) 88 90 (.agg #[(.int .i64 0),(.slice none 0 0),(.slice none 0 0)]) 56 rfl Tryz.underlying88 info90 rfl (by decide) (by omega) u142002 x142002_2 (⟨t161,t162,t165⟩:S90) [.int .i64 t161,.slice Ao37 t162.length co37,.slice Ao38 t165.length co38] (fun k_=>some k_ ≠ (u142001:Value).ownBlock∧k_ ≠ gb140∧k_ ≠ gb141) (fun k_=>((fun k_=>some k_ ≠ (u142001:Value).ownBlock∧k_ ≠ gb140∧k_ ≠ gb141)) k_∧some k_ ≠ (u142002:Value).ownBlock) rfl rfl ?aP (fun _ hk=>hk) ?aF ?aO (Below.refl _ _) ?aS ?aL ?_
           (case aP=>exact k90_mkM _ _ _ (⟨t161,t162,t165⟩:S90) (Kd.R_mono (Kd.R_types (Kd.R_types (Kd.R_apart' (HO164.out) (Kd.R_typed HO_142002.out) (by decide)) BK140.out (by decide)) BK141.out (by decide)) (fun k_ hk=>⟨⟨hk.1.1.1.2,⟨hk.1.2,hk.2⟩⟩,hk.1.1.2⟩)) (Kd.R_mono (HO167.out) (fun k_ hk=>⟨⟨hk.1.1.1.2,⟨hk.1.2,hk.2⟩⟩,hk.1.1.2⟩)))
           (case aF=>exact (fun k_ hk=>⟨Kd.fresh' (Kd.R_lt (pR HO_142001)) k_ hk,Kd.freshB (g:=gb140) (o:=.cells #[.int .i64 0,.slice none 0 0,.slice none 0 0] 90 (0,0)) (pK BK140) k_ hk,Kd.freshB (g:=gb141) (o:=.cells #[.int .i64 0,u142001,u142002] 90 (0,0)) (pK BK141) k_ hk⟩))
           (case aO=>exact (by refine pP ?_;exact Kd.R_mono HO_142002.out (fun _ hk=>⟨hk.1.1.1,⟨hk.1.1.2.1,hk.1.1.2.2⟩⟩)))
           (case aS=>exact (keep_size (w:=w) (g:=g) (row:=none) pH))
           (case aL=>have:=LMc33.out;omega)
           intro v170 w36 ho hb hg hat
           rw [← Ny169.out] at ho
           have n0_:=Z (Kd.R_over' (pR HO_142001) (Kd.R_typed (pR HO_142002)) (by decide) hg)
           have n1_:=Z (blk_grown (g:=gb140) (o:=.cells #[.int .i64 0,.slice none 0 0,.slice none 0 0] 90 (0,0)) (pK BK140) hg (Kd.R_away HO_142002.out (fun _ hk=>hk.1.1.2.1)))
           have n2_:=Z (blk_grown (g:=gb141) (o:=.cells #[.int .i64 0,u142001,u142002] 90 (0,0)) (pK BK141) hg (Kd.R_away HO_142002.out (fun _ hk=>hk.1.1.2.2)))
           have n3_:=Z (IsS95.grown pI hg (IsS95.own_ne HI0.out HO_142002.out (by decide)))
           have n4_:=Z (below_weaken pB HL.out hb)
           have n5_:=Z (KeepBut.trans pH (KeepBut.of_grown hg g) (Kd.R_base2 HO_142002.out))
           have n6_:=Z (ho)
           clear HO_142001 BK140 BK141 HI0 HB HK HO_142002 HO164 HO167
           have HO_142001:=n0_
           have BK140:=n1_
           have BK141:=n2_
           have HI0:=n3_
           have HB:=n4_
           have HK:=n5_
           have HO171:=n6_
           clear n0_ n1_ n2_ n3_ n4_ n5_ n6_ ho hb hg hat
           obtain ⟨Ao39,co39,eo39⟩:=Kd.R_slice HO171.out
           (first|subst eo39|(injection eo39 with f1_ f2_ f3_;have f4_:=f1_.symm;have f5_:=f3_.symm;clear f1_ f2_ f3_;subst f4_;subst f5_))
           refine hK.out _ _ ⟨(kC BK141.out 0).trans rfl,(kC BK141.out 1).trans rfl,(kC BK141.out 2).trans rfl⟩ (fun hHeld=>?_)
           clear hK K
           refine norm_ (a':=?_) ?_ ?_
           rotate_left
           ·show Act.put _ (some 50) _=_
            simp only [Act.put,List.setIfInBounds_toArray,List.set_cons_zero,List.set_cons_succ,i64_w,i32_w]
            rfl
           refine pure_ (i:=9) (N:=some 51) (v:=?_) (a':=?_) #[true,true,true,true,true,true,true,true,true,true,false] rfl rfl (any_of HT_.out pU) (fun _ _ _ h=>h) (Or.inl ⟨by rfl,?_⟩) ?_ ?_
           rotate_left
           ·intro w'
            go_simp
            with_reducible rfl
           rotate_left
           ·simp only [Act.put,List.setIfInBounds_toArray,List.set_cons_zero,List.set_cons_succ,i64_w,i32_w]
            rfl
           refine last_ (i:=10) (N:=none) #[true,true,true,true,true,true,true,true,true,true,true] rfl rfl (one_of HT_.out pU) (by decide) (fun K hK=>?_)
           have hs40:w36.cell? ⟨gb141,2,none⟩=some (u142002):=(kC BK141.out 2).trans rfl
           have hfs40:=kF BK141.out 2
           have hns40_0:=NB140_141.out
           have hms40_0:=NB141_140.out
           refine skip_ (w1:=?_) (by rfl) rfl ?_ ?_
           rotate_left
           ·go_simp
            rfl
           refine hK.out _ _ ?_
           clear hK K
           refine done_ (done_of HT_.out pU) ?_
           try go_wp2
           go_roundg k2
           case measure=>have:=HK1.out;have:=HK2.out;omega
           case rel=>exact ⟨(wrap64 (x11_2 - 1)),(t168),(y169),(.slice Ao39 y169.length co39),pE,H',⟨by have:=HK1.out;have:=HK2.out;omega⟩,⟨by refine pP ?_;exact Kd.R_mono (Kd.R_far (p:=⟨gb141,2,none⟩) (Kd.R_types HO_142001.out BK141.out (by decide)) (fun _ hk=>hk.2) (.slice Ao39 y169.length co39)) (fun _ hk=>trivial)⟩,⟨by refine pP ?_;exact Kd.R_mono (Kd.R_far (p:=⟨gb141,2,none⟩) (Kd.R_mono HO171.out (fun k_ hk=>(⟨hk,hk.2.2⟩:_∧k_ ≠ gb141))) (fun _ hk=>hk.2) (.slice Ao39 y169.length co39)) (fun _ hk=>⟨hk.1.1,⟨hk.1.2.1,hk.1.2.2⟩⟩)⟩,⟨by refine pQ ?_;refine blk_far ?_ NB140_141.out _;exact pK BK140⟩,⟨by refine pQ ?_;refine blk_put (cs:=#[.int .i64 0,u142001,u142002]) ?_ 2 _ rfl;exact pK BK141⟩,⟨pI⟩,⟨pH⟩,⟨pB⟩⟩
          ·rw [if_neg c33] at H
           exact absurd H (by simp)
         ·rw [if_neg c31] at H
          have c31b0:decide (0 < x11_2)=false:=decide_eq_false c31
          clear c31
          by_cases c41:(x142002_2.length:Int) > 0
          ·rw [if_pos c41] at H
           have c41b0:decide (0 < (x142002_2.length:Int))=true:=decide_eq_true c41
           have c41b1:decide (0 < x142002_2.length)=true:=decide_eq_true (by omega)
           clear c41
           replace H:=pO H
           obtain ⟨⟨t172,t173⟩,A420,H⟩:=H
           try dsimp only at H
           have A42:=Z A420
           clear A420
           by_cases c43:t172=0
           ·rw [if_pos c43] at H
            have c43b0:(t172 == 0)=true:=beq_iff_eq.mpr c43
            have c43b1:(t172 != 0)=false:=bne_eq_false_iff_eq.mpr c43
            clear c43
            replace H:=pO H
            obtain ⟨⟨t174,t175⟩,A440,H⟩:=H
            try dsimp only at H
            have A44:=Z A440
            clear A440
            simp only [Option.some.injEq,Prod.mk.injEq] at H
            obtain ⟨rfl,rfl,rfl,rfl⟩:=H
            have hnb45:=NB141_140.out
            have hnc45:=NB140_141.out
            have hnb46:=NB141_0.out
            have hnc46:=NB0_141.out
            have hcz47_0:=pV BK141 (.int .i64 0) 0 rfl
            have hcz47_1:=pV BK141 (u142001) 1 rfl
            have hcz47_2:=pV BK141 (u142002) 2 rfl
            have hfz47_0:=kF BK141.out 0
            have hfz47_1:=kF BK141.out 1
            have hfz47_2:=kF BK141.out 2
            obtain ⟨Ao48,co48,eo48⟩:=Kd.R_slice HO_142002.out
            subst eo48
            go_wp2_with (first|(go_at_call 36;(with_reducible refine (qmake_Tape_N.calls g s0_0 x1001_2 3 t172 t173 w0 _ ?side1 ?side2 A42.out).mono ?_);(case side1=>exact pI);(case side2=>exact pB);rintro e w49 ⟨rfl,hi,hb,hk⟩;replace HO_142001:=Z (Kd.R_mono (Kd.R_keep (IsS95.apart (show IsS95 w0 _ g s0_0 x1001_2 from pI) (pR HO_142001) (by decide)) hk (fun _ h=>h.2)) (fun _ h=>h.1));replace HO_142002:=Z (Kd.R_mono (Kd.R_keep (IsS95.apart (show IsS95 w0 _ g s0_0 x1001_2 from pI) (pR HO_142002) (by decide)) hk (fun _ h=>h.2)) (fun _ h=>h.1));replace BK140:=Z (KeepBut.blk hk (g':=gb140) (o:=.cells #[.int .i64 0,.slice none 0 0,.slice none 0 0] 90 (0,0)) (pK BK140) NB140_0.out (by simp));replace BK141:=Z (KeepBut.blk hk (g':=gb141) (o:=.cells #[.int .i64 0,u142001,.slice Ao48 x142002_2.length co48] 90 (0,0)) (pK BK141) NB141_0.out (by simp));have n4_:=Z (KeepBut.trans pH hk (.inl rfl));have n5_:=Z (hb);have n6_:=Z (hi);clear HK HB HI0;have HK:=n4_;have HB:=n5_;have HI0:=n6_;clear n4_ n5_ n6_;(try clear hb);(try clear hb2);(try clear hk);(try clear hi);obtain ⟨hcz50_0,hcz50_1,hcz50_2,hfz50_0,hfz50_1,hfz50_2⟩:=p3 BK141)|((with_reducible refine gate_callee (f:=90) rfl ?_);refine goesL_ (some 70) rfl rfl Tryz.func90 pU rfl #[.pointer (some ⟨g,0,none⟩),.int .i64 1,.int .i64 (wrap64 (x142002_2.length:Int))] rfl pG ?_;(with_reducible refine (qmake_Tape_Range.calls g s0_0 t173 1 (wrap64 (x142002_2.length:Int)) t174 t175 w0 _ ?side1 ?side2 (by have h_:=A44.out;rw [show ((([]:List Int).length:Int)+(x142002_2.length:Int))=(x142002_2.length:Int) from by simp] at h_;exact h_)).mono ?_);(case side1=>exact pI);(case side2=>exact pB);rintro e w51 ⟨rfl,hi,hb,hk⟩;refine ⟨_,rfl,?_⟩;replace HO_142001:=Z (Kd.R_mono (Kd.R_keep (IsS95.apart (show IsS95 w0 _ g s0_0 t173 from pI) (by refine pP ?_;exact (Kd.R_mono (Kd.R_far (p:=⟨gb141,1,none⟩) (Kd.R_types HO_142001.out BK141.out (by decide)) (fun _ hk=>hk.2) (.slice none 0 0)) (fun _ h_=>h_.1))) (by decide)) hk (fun _ h=>h.2)) (fun _ h=>h.1));replace HO_142002:=Z (Kd.R_mono (Kd.R_keep (IsS95.apart (show IsS95 w0 _ g s0_0 t173 from pI) (by refine pP ?_;exact (Kd.R_mono (Kd.R_far (p:=⟨gb141,1,none⟩) (Kd.R_mono HO_142002.out (fun k_ hk=>(⟨hk,hk.2.2⟩:_∧k_ ≠ gb141))) (fun _ hk=>hk.2) (.slice none 0 0)) (fun _ h_=>h_.1))) (by decide)) hk (fun _ h=>h.2)) (fun _ h=>h.1));replace BK140:=Z (KeepBut.blk hk (g':=gb140) (o:=.cells #[.int .i64 0,.slice none 0 0,.slice none 0 0] 90 (0,0)) (by refine pQ ?_;refine blk_far ?_ NB140_141.out _;exact pK BK140) NB140_0.out (by simp));replace BK141:=Z (KeepBut.blk hk (g':=gb141) (o:=.cells #[.int .i64 0,.slice none 0 0,.slice Ao48 x142002_2.length co48] 90 (0,0)) (by refine pQ ?_;refine blk_put (cs:=#[.int .i64 0,u142001,.slice Ao48 x142002_2.length co48]) ?_ 1 _ rfl;exact pK BK141) NB141_0.out (by simp));have n4_:=Z (KeepBut.trans pH hk (.inl rfl));have n5_:=Z (hb);have n6_:=Z (hi);clear HK HB HI0;have HK:=n4_;have HB:=n5_;have HI0:=n6_;clear n4_ n5_ n6_;(try clear hb);(try clear hb2);(try clear hk);(try clear hi);obtain ⟨hcz52_0,hcz52_1,hcz52_2,hfz52_0,hfz52_1,hfz52_2⟩:=p3 BK141;have hnb53:=NB140_0.out;have hnc53:=NB0_140.out;obtain ⟨hcz54_0,hcz54_1,hcz54_2,hfz54_0,hfz54_1,hfz54_2⟩:=p3 BK140))
            refine bodyPost_ret (results_cell_row rfl _ _ gb140 90 #[.int .i64 t174,.slice none 0 0,.slice Ao48 x142002_2.length co48] (0,0) _ rfl (by refine pQ ?_;refine blk_put (cs:=#[.int .i64 t174,.slice none 0 0,.slice none 0 0]) ?_ 2 _ rfl;refine pQ ?_;refine blk_put (cs:=#[.int .i64 t174,.slice none 0 0,.slice none 0 0]) ?_ 1 _ rfl;refine pQ ?_;refine blk_put (cs:=#[.int .i64 0,.slice none 0 0,.slice none 0 0]) ?_ 0 _ rfl;refine pQ ?_;refine blk_far ?_ NB140_141.out _;exact pK BK140) Tryz.underlying90 rfl pU) rfl ?_
            exact ⟨_,_,by first|rfl|(simp [errW_none,errW_some] <;> rfl)|(simp only [← hji5];first|rfl|(simp [errW_none,errW_some] <;> rfl))|(simp [*,errW_none,errW_some] <;> rfl),pN,by refine pP ?_;exact Kd.R_mono (Kd.R_far (p:=⟨gb140,2,none⟩) (Kd.R_far (p:=⟨gb140,1,none⟩) (Kd.R_far (p:=⟨gb140,0,none⟩) (Kd.R_far (p:=⟨gb141,0,none⟩) (Kd.R_mono (Kd.R_mono HO_142002.out (fun k_ hk=>(⟨hk,hk.2.2⟩:_∧k_ ≠ gb141))) (fun k_ hk=>(⟨hk,hk.1.2.1⟩:_∧k_ ≠ gb140))) (fun _ hk=>hk.1.2) (.int .i64 t174)) (fun _ hk=>hk.2) (.int .i64 t174)) (fun _ hk=>hk.2) (.slice none 0 0)) (fun _ hk=>hk.2) (.slice Ao48 x142002_2.length co48)) (fun _ hk=>(by simp [Value.ownBlock])),pI,pB,pH⟩
           ·rw [if_neg c43] at H
            have c43b0:(t172 == 0)=false:=beq_eq_false_iff_ne.mpr c43
            have c43b1:(t172 != 0)=true:=bne_iff_ne.mpr c43
            replace H:=pO H
            obtain ⟨⟨t176,t177⟩,A550,H⟩:=H
            try dsimp only at H
            have A55:=Z A550
            clear A550
            simp only [Option.some.injEq,Prod.mk.injEq] at H
            obtain ⟨rfl,rfl,rfl,rfl⟩:=H
            have hnb56:=NB141_140.out
            have hnc56:=NB140_141.out
            have hnb57:=NB141_0.out
            have hnc57:=NB0_141.out
            have hcz58_0:=pV BK141 (.int .i64 0) 0 rfl
            have hcz58_1:=pV BK141 (u142001) 1 rfl
            have hcz58_2:=pV BK141 (u142002) 2 rfl
            have hfz58_0:=kF BK141.out 0
            have hfz58_1:=kF BK141.out 1
            have hfz58_2:=kF BK141.out 2
            obtain ⟨Ao59,co59,eo59⟩:=Kd.R_slice HO_142002.out
            subst eo59
            go_wp2_with (first|(go_at_call 36;(with_reducible refine (qmake_Tape_N.calls g s0_0 x1001_2 3 t172 t173 w0 _ ?side1 ?side2 A42.out).mono ?_);(case side1=>exact pI);(case side2=>exact pB);rintro e w60 ⟨rfl,hi,hb,hk⟩;replace HO_142001:=Z (Kd.R_mono (Kd.R_keep (IsS95.apart (show IsS95 w0 _ g s0_0 x1001_2 from pI) (pR HO_142001) (by decide)) hk (fun _ h=>h.2)) (fun _ h=>h.1));replace HO_142002:=Z (Kd.R_mono (Kd.R_keep (IsS95.apart (show IsS95 w0 _ g s0_0 x1001_2 from pI) (pR HO_142002) (by decide)) hk (fun _ h=>h.2)) (fun _ h=>h.1));replace BK140:=Z (KeepBut.blk hk (g':=gb140) (o:=.cells #[.int .i64 0,.slice none 0 0,.slice none 0 0] 90 (0,0)) (pK BK140) NB140_0.out (by simp));replace BK141:=Z (KeepBut.blk hk (g':=gb141) (o:=.cells #[.int .i64 0,u142001,.slice Ao59 x142002_2.length co59] 90 (0,0)) (pK BK141) NB141_0.out (by simp));have n4_:=Z (KeepBut.trans pH hk (.inl rfl));have n5_:=Z (hb);have n6_:=Z (hi);clear HK HB HI0;have HK:=n4_;have HB:=n5_;have HI0:=n6_;clear n4_ n5_ n6_;(try clear hb);(try clear hb2);(try clear hk);(try clear hi);obtain ⟨hcz61_0,hcz61_1,hcz61_2,hfz61_0,hfz61_1,hfz61_2⟩:=p3 BK141;obtain ⟨Ao62,co62,eo62⟩:=Kd.R_slice HO_142001.out;subst eo62)|((with_reducible refine gate_callee (f:=90) rfl ?_);refine goesL_ (some 70) rfl rfl Tryz.func90 pU rfl #[.pointer (some ⟨g,0,none⟩),.int .i64 1,.int .i64 (wrap64 ((x142001_1.length:Int)+(x142002_2.length:Int)))] rfl pG ?_;(with_reducible refine (qmake_Tape_Range.calls g s0_0 t173 1 (wrap64 ((x142001_1.length:Int)+(x142002_2.length:Int))) t176 t177 w0 _ ?side1 ?side2 A55.out).mono ?_);(case side1=>exact pI);(case side2=>exact pB);rintro e w63 ⟨rfl,hi,hb,hk⟩;refine ⟨_,rfl,?_⟩;replace HO_142001:=Z (Kd.R_mono (Kd.R_keep (IsS95.apart (show IsS95 w0 _ g s0_0 t173 from pI) (pR HO_142001) (by decide)) hk (fun _ h=>h.2)) (fun _ h=>h.1));replace HO_142002:=Z (Kd.R_mono (Kd.R_keep (IsS95.apart (show IsS95 w0 _ g s0_0 t173 from pI) (pR HO_142002) (by decide)) hk (fun _ h=>h.2)) (fun _ h=>h.1));replace BK140:=Z (KeepBut.blk hk (g':=gb140) (o:=.cells #[.int .i64 0,.slice none 0 0,.slice none 0 0] 90 (0,0)) (pK BK140) NB140_0.out (by simp));replace BK141:=Z (KeepBut.blk hk (g':=gb141) (o:=.cells #[.int .i64 0,.slice Ao62 x142001_1.length co62,.slice Ao59 x142002_2.length co59] 90 (0,0)) (pK BK141) NB141_0.out (by simp));have n4_:=Z (KeepBut.trans pH hk (.inl rfl));have n5_:=Z (hb);have n6_:=Z (hi);clear HK HB HI0;have HK:=n4_;have HB:=n5_;have HI0:=n6_;clear n4_ n5_ n6_;(try clear hb);(try clear hb2);(try clear hk);(try clear hi);obtain ⟨hcz64_0,hcz64_1,hcz64_2,hfz64_0,hfz64_1,hfz64_2⟩:=p3 BK141;have hnb65:=NB140_0.out;have hnc65:=NB0_140.out;obtain ⟨hcz66_0,hcz66_1,hcz66_2,hfz66_0,hfz66_1,hfz66_2⟩:=p3 BK140))
            refine bodyPost_ret (results_cell_row rfl _ _ gb140 90 #[.int .i64 t176,.slice Ao62 x142001_1.length co62,.slice Ao59 x142002_2.length co59] (0,0) _ rfl (by refine pQ ?_;refine blk_put (cs:=#[.int .i64 t176,.slice Ao62 x142001_1.length co62,.slice none 0 0]) ?_ 2 _ rfl;refine pQ ?_;refine blk_put (cs:=#[.int .i64 t176,.slice none 0 0,.slice none 0 0]) ?_ 1 _ rfl;refine pQ ?_;refine blk_put (cs:=#[.int .i64 0,.slice none 0 0,.slice none 0 0]) ?_ 0 _ rfl;refine pQ ?_;refine blk_far ?_ NB140_141.out _;exact pK BK140) Tryz.underlying90 rfl pU) rfl ?_
            exact ⟨_,_,by first|rfl|(simp [errW_none,errW_some] <;> rfl)|(simp only [← hji5];first|rfl|(simp [errW_none,errW_some] <;> rfl))|(simp [*,errW_none,errW_some] <;> rfl),by refine pP ?_;exact Kd.R_mono (Kd.R_far (p:=⟨gb140,2,none⟩) (Kd.R_far (p:=⟨gb140,1,none⟩) (Kd.R_far (p:=⟨gb140,0,none⟩) (Kd.R_far (p:=⟨gb141,0,none⟩) (Kd.R_types (Kd.R_types HO_142001.out BK141.out (by decide)) BK140.out (by decide)) (fun _ hk=>hk.1.2) (.int .i64 t176)) (fun _ hk=>hk.2) (.int .i64 t176)) (fun _ hk=>hk.2) (.slice Ao62 x142001_1.length co62)) (fun _ hk=>hk.2) (.slice Ao59 x142002_2.length co59)) (fun _ hk=>trivial),by refine pP ?_;exact Kd.R_mono (Kd.R_far (p:=⟨gb140,2,none⟩) (Kd.R_far (p:=⟨gb140,1,none⟩) (Kd.R_far (p:=⟨gb140,0,none⟩) (Kd.R_far (p:=⟨gb141,0,none⟩) (Kd.R_mono (Kd.R_mono HO_142002.out (fun k_ hk=>(⟨hk,hk.2.2⟩:_∧k_ ≠ gb141))) (fun k_ hk=>(⟨hk,hk.1.2.1⟩:_∧k_ ≠ gb140))) (fun _ hk=>hk.1.2) (.int .i64 t176)) (fun _ hk=>hk.2) (.int .i64 t176)) (fun _ hk=>hk.2) (.slice Ao62 x142001_1.length co62)) (fun _ hk=>hk.2) (.slice Ao59 x142002_2.length co59)) (fun _ hk=>hk.1.1.1),pI,pB,pH⟩
          ·rw [if_neg c41] at H
           have c41b0:decide (0 < (x142002_2.length:Int))=false:=decide_eq_false c41
           have c41b1:decide (0 < x142002_2.length)=false:=decide_eq_false (by omega)
           clear c41
           replace H:=pO H
           obtain ⟨⟨t178,t179⟩,A670,H⟩:=H
           try dsimp only at H
           have A67:=Z A670
           clear A670
           simp only [Option.some.injEq,Prod.mk.injEq] at H
           obtain ⟨rfl,rfl,rfl,rfl⟩:=H
           have hnb68:=NB141_140.out
           have hnc68:=NB140_141.out
           have hnb69:=NB141_0.out
           have hnc69:=NB0_141.out
           have hcz70_0:=pV BK141 (.int .i64 0) 0 rfl
           have hcz70_1:=pV BK141 (u142001) 1 rfl
           have hcz70_2:=pV BK141 (u142002) 2 rfl
           have hfz70_0:=kF BK141.out 0
           have hfz70_1:=kF BK141.out 1
           have hfz70_2:=kF BK141.out 2
           obtain ⟨Ao71,co71,eo71⟩:=Kd.R_slice HO_142002.out
           subst eo71
           obtain ⟨Ao72,co72,eo72⟩:=Kd.R_slice HO_142001.out
           subst eo72
           go_wp2_with (first|((with_reducible refine gate_callee (f:=90) rfl ?_);refine goesL_ (some 70) rfl rfl Tryz.func90 pU rfl #[.pointer (some ⟨g,0,none⟩),.int .i64 1,.int .i64 (wrap64 ((x142001_1.length:Int)+(x142002_2.length:Int)))] rfl pG ?_;(with_reducible refine (qmake_Tape_Range.calls g s0_0 x1001_2 1 (wrap64 ((x142001_1.length:Int)+(x142002_2.length:Int))) t178 t179 w0 _ ?side1 ?side2 A67.out).mono ?_);(case side1=>exact pI);(case side2=>exact pB);rintro e w73 ⟨rfl,hi,hb,hk⟩;refine ⟨_,rfl,?_⟩;replace HO_142001:=Z (Kd.R_mono (Kd.R_keep (IsS95.apart (show IsS95 w0 _ g s0_0 x1001_2 from pI) (pR HO_142001) (by decide)) hk (fun _ h=>h.2)) (fun _ h=>h.1));replace HO_142002:=Z (Kd.R_mono (Kd.R_keep (IsS95.apart (show IsS95 w0 _ g s0_0 x1001_2 from pI) (pR HO_142002) (by decide)) hk (fun _ h=>h.2)) (fun _ h=>h.1));replace BK140:=Z (KeepBut.blk hk (g':=gb140) (o:=.cells #[.int .i64 0,.slice none 0 0,.slice none 0 0] 90 (0,0)) (pK BK140) NB140_0.out (by simp));replace BK141:=Z (KeepBut.blk hk (g':=gb141) (o:=.cells #[.int .i64 0,.slice Ao72 x142001_1.length co72,.slice Ao71 x142002_2.length co71] 90 (0,0)) (pK BK141) NB141_0.out (by simp));have n4_:=Z (KeepBut.trans pH hk (.inl rfl));have n5_:=Z (hb);have n6_:=Z (hi);clear HK HB HI0;have HK:=n4_;have HB:=n5_;have HI0:=n6_;clear n4_ n5_ n6_;(try clear hb);(try clear hb2);(try clear hk);(try clear hi);obtain ⟨hcz74_0,hcz74_1,hcz74_2,hfz74_0,hfz74_1,hfz74_2⟩:=p3 BK141;have hnb75:=NB140_0.out;have hnc75:=NB0_140.out;obtain ⟨hcz76_0,hcz76_1,hcz76_2,hfz76_0,hfz76_1,hfz76_2⟩:=p3 BK140))
           refine bodyPost_ret (results_cell_row rfl _ _ gb140 90 #[.int .i64 t178,.slice Ao72 x142001_1.length co72,.slice Ao71 x142002_2.length co71] (0,0) _ rfl (by refine pQ ?_;refine blk_put (cs:=#[.int .i64 t178,.slice Ao72 x142001_1.length co72,.slice none 0 0]) ?_ 2 _ rfl;refine pQ ?_;refine blk_put (cs:=#[.int .i64 t178,.slice none 0 0,.slice none 0 0]) ?_ 1 _ rfl;refine pQ ?_;refine blk_put (cs:=#[.int .i64 0,.slice none 0 0,.slice none 0 0]) ?_ 0 _ rfl;refine pQ ?_;refine blk_far ?_ NB140_141.out _;exact pK BK140) Tryz.underlying90 rfl pU) rfl ?_
           exact ⟨_,_,by first|rfl|(simp [errW_none,errW_some] <;> rfl)|(simp only [← hji5];first|rfl|(simp [errW_none,errW_some] <;> rfl))|(simp [*,errW_none,errW_some] <;> rfl),by refine pP ?_;exact Kd.R_mono (Kd.R_far (p:=⟨gb140,2,none⟩) (Kd.R_far (p:=⟨gb140,1,none⟩) (Kd.R_far (p:=⟨gb140,0,none⟩) (Kd.R_far (p:=⟨gb141,0,none⟩) (Kd.R_types (Kd.R_types HO_142001.out BK141.out (by decide)) BK140.out (by decide)) (fun _ hk=>hk.1.2) (.int .i64 t178)) (fun _ hk=>hk.2) (.int .i64 t178)) (fun _ hk=>hk.2) (.slice Ao72 x142001_1.length co72)) (fun _ hk=>hk.2) (.slice Ao71 x142002_2.length co71)) (fun _ hk=>trivial),by refine pP ?_;exact Kd.R_mono (Kd.R_far (p:=⟨gb140,2,none⟩) (Kd.R_far (p:=⟨gb140,1,none⟩) (Kd.R_far (p:=⟨gb140,0,none⟩) (Kd.R_far (p:=⟨gb141,0,none⟩) (Kd.R_mono (Kd.R_mono HO_142002.out (fun k_ hk=>(⟨hk,hk.2.2⟩:_∧k_ ≠ gb141))) (fun k_ hk=>(⟨hk,hk.1.2.1⟩:_∧k_ ≠ gb140))) (fun _ hk=>hk.1.2) (.int .i64 t178)) (fun _ hk=>hk.2) (.int .i64 t178)) (fun _ hk=>hk.2) (.slice Ao72 x142001_1.length co72)) (fun _ hk=>hk.2) (.slice Ao71 x142002_2.length co71)) (fun _ hk=>hk.1.1.1),pI,pB,pH⟩
      ·rw [if_neg c25] at H
       have c25b0:decide (1 < a2)=false:=decide_eq_false c25
       clear c25
       replace H:=pO H
       obtain ⟨⟨t180,t181⟩,A770,H⟩:=H
       try dsimp only at H
       have A77:=Z A770
       clear A770
       simp only [Option.some.injEq,Prod.mk.injEq] at H
       obtain ⟨rfl,rfl,rfl,rfl⟩:=H
       have hnb78:=NB141_140.out
       have hnc78:=NB140_141.out
       have hnb79:=NB141_0.out
       have hnc79:=NB0_141.out
       have hcz80_0:=pV BK141 (.int .i64 0) 0 rfl
       have hcz80_1:=pV BK141 (u142001) 1 rfl
       have hcz80_2:=pV BK141 (.slice none 0 0) 2 rfl
       have hfz80_0:=kF BK141.out 0
       have hfz80_1:=kF BK141.out 1
       have hfz80_2:=kF BK141.out 2
       obtain ⟨Ao81,co81,eo81⟩:=Kd.R_slice HO_142001.out
       subst eo81
       go_wp2_with (first|((with_reducible refine gate_callee (f:=90) rfl ?_);refine goesL_ (some 70) rfl rfl Tryz.func90 pU rfl #[.pointer (some ⟨g,0,none⟩),.int .i64 1,.int .i64 (wrap64 ((x142001_1.length:Int)+(([]:List (S90)).length:Int)))] rfl pG ?_;(with_reducible refine (qmake_Tape_Range.calls g s0_0 t147 1 (wrap64 ((x142001_1.length:Int)+(([]:List (S90)).length:Int))) t180 t181 w0 _ ?side1 ?side2 A77.out).mono ?_);(case side1=>exact pI);(case side2=>exact pB);rintro e w82 ⟨rfl,hi,hb,hk⟩;refine ⟨_,rfl,?_⟩;replace HO_142001:=Z (Kd.R_mono (Kd.R_keep (IsS95.apart (show IsS95 w0 _ g s0_0 t147 from pI) (pR HO_142001) (by decide)) hk (fun _ h=>h.2)) (fun _ h=>h.1));replace BK140:=Z (KeepBut.blk hk (g':=gb140) (o:=.cells #[.int .i64 0,.slice none 0 0,.slice none 0 0] 90 (0,0)) (pK BK140) NB140_0.out (by simp));replace BK141:=Z (KeepBut.blk hk (g':=gb141) (o:=.cells #[.int .i64 0,.slice Ao81 x142001_1.length co81,.slice none 0 0] 90 (0,0)) (pK BK141) NB141_0.out (by simp));have n3_:=Z (KeepBut.trans pH hk (.inl rfl));have n4_:=Z (hb);have n5_:=Z (hi);clear HK HB HI0;have HK:=n3_;have HB:=n4_;have HI0:=n5_;clear n3_ n4_ n5_;(try clear hb);(try clear hb2);(try clear hk);(try clear hi);obtain ⟨hcz83_0,hcz83_1,hcz83_2,hfz83_0,hfz83_1,hfz83_2⟩:=p3 BK141;have hnb84:=NB140_0.out;have hnc84:=NB0_140.out;obtain ⟨hcz85_0,hcz85_1,hcz85_2,hfz85_0,hfz85_1,hfz85_2⟩:=p3 BK140))
       refine bodyPost_ret (results_cell_row rfl _ _ gb140 90 #[.int .i64 t180,.slice Ao81 x142001_1.length co81,.slice none 0 0] (0,0) _ rfl (by refine pQ ?_;refine blk_put (cs:=#[.int .i64 t180,.slice Ao81 x142001_1.length co81,.slice none 0 0]) ?_ 2 _ rfl;refine pQ ?_;refine blk_put (cs:=#[.int .i64 t180,.slice none 0 0,.slice none 0 0]) ?_ 1 _ rfl;refine pQ ?_;refine blk_put (cs:=#[.int .i64 0,.slice none 0 0,.slice none 0 0]) ?_ 0 _ rfl;refine pQ ?_;refine blk_far ?_ NB140_141.out _;exact pK BK140) Tryz.underlying90 rfl pU) rfl ?_
       exact ⟨_,_,by first|rfl|(simp [errW_none,errW_some] <;> rfl)|(simp only [← hji5];first|rfl|(simp [errW_none,errW_some] <;> rfl))|(simp [*,errW_none,errW_some] <;> rfl),by refine pP ?_;exact Kd.R_mono (Kd.R_far (p:=⟨gb140,2,none⟩) (Kd.R_far (p:=⟨gb140,1,none⟩) (Kd.R_far (p:=⟨gb140,0,none⟩) (Kd.R_far (p:=⟨gb141,0,none⟩) (Kd.R_types (Kd.R_types HO_142001.out BK141.out (by decide)) BK140.out (by decide)) (fun _ hk=>hk.1.2) (.int .i64 t180)) (fun _ hk=>hk.2) (.int .i64 t180)) (fun _ hk=>hk.2) (.slice Ao81 x142001_1.length co81)) (fun _ hk=>hk.2) (.slice none 0 0)) (fun _ hk=>trivial),pN,pI,pB,pH⟩
  ·rw [if_neg c8] at H
   exact absurd H (by simp)
 ·rw [if_neg c7] at H
  exact absurd H (by simp)
def qmake_Trust.f (k:Nat) (s0_0:List Int) (s0_1:Int) (a1:Int) (a2:Int):Option (Int × List Int × (List (S90)) × Int):=(qmake_trust.f k s0_0 s0_1 a1 a2).bind fun bt300=>((qref02_Valid.f k bt300.1 bt300.2.1 bt300.2.2.1).bind fun t309=>(if t309=0 then (some (bt300.1,bt300.2.1,bt300.2.2.1,bt300.2.2.2)) else ((qmake_Tape_N.f s0_0 bt300.2.2.2 a1).bind fun bt310=>(some (1,(([bt310.1]:List Int)),([]:List (S90)),bt310.2)))))
set_option maxHeartbeats 8000000 in
set_option maxRecDepth 100000 in
theorem qmake_Trust.calls (k:Nat) (g:Nat) (s0_0:List Int) (s0_1:Int) (a1:Int) (a2:Int) (r1:Int) (r2:List Int) (r3:List (S90)) (r4:Int) (w0 w:World) (hI:IsS95 w0 w g s0_0 s0_1) (hB:Below w0.heap.size w0 w) (h:qmake_Trust.f k s0_0 s0_1 a1 a2=some (r1,r2,r3,r4)) :
  Calls Tryz.prog 91 #[.pointer (some ⟨g,0,none⟩),.int .i64 a1,.int .i64 a2] w fun e w'=>∃ v1_ v2_:Value,e=.returned (.agg #[.int .i64 r1,v1_,v2_])∧Kd.R (Kd.int .i64) 3 w' w.heap.size (fun _=>True) v1_ r2∧Kd.R k90 90 w' w.heap.size (fun k_=>some k_ ≠ (v1_:Value).ownBlock) v2_ r3∧IsS95 w0 w' g s0_0 r4∧Below w0.heap.size w0 w'∧KeepBut w w' g none:=by
 have hu90:=Tryz.underlying90
 have HI0:=Z hI
 have HK:=Z (KeepBut.refl w g none)
 have HL:=Z hB.size
 clear hI
 have HW0:=Z hB.size
 have HB:=Z hB
 clear hB
 have H:((qmake_trust.f k s0_0 s0_1 a1 a2).bind fun bt300=>((qref02_Valid.f k bt300.1 bt300.2.1 bt300.2.2.1).bind fun t309=>(if t309=0 then (some (bt300.1,bt300.2.1,bt300.2.2.1,bt300.2.2.2)) else ((qmake_Tape_N.f s0_0 bt300.2.2.2 a1).bind fun bt310=>(some (1,(([bt310.1]:List Int)),([]:List (S90)),bt310.2))))))=some (r1,r2,r3,r4):=h
 clear h
 replace H:=pO H
 obtain ⟨⟨t300,t301,t304,t307⟩,A40,H⟩:=H
 try dsimp only at H
 have A4:=Z A40
 clear A40
 replace H:=pO H
 obtain ⟨t309,A50,H⟩:=H
 try dsimp only at H
 have A5:=Z A50
 clear A50
 by_cases c6:t309=0
 ·rw [if_pos c6] at H
  have c6b0:(t309 == 0)=true:=beq_iff_eq.mpr c6
  have c6b1:(t309 != 0)=false:=bne_eq_false_iff_eq.mpr c6
  clear c6
  simp only [Option.some.injEq,Prod.mk.injEq] at H
  obtain ⟨rfl,rfl,rfl,rfl⟩:=H
  go_enter Tryz.func91,Tryz.ntmps91
  go_wp2_with (first|((with_reducible refine gate_dst (N:=6) rfl ?_);refine box_event ?hg (N:=6) ?hd (cs:=#[.int .i64 0,.slice none 0 0,.slice none 0 0]) (t:=90) ?hr ?_;(case hd=>rfl);(case hg=>rfl);(case hr=>first|(go_simp;done)|(go_simp;rfl));intro gb299 hg w7 hbox hb;have n0_:=Z (IsS95.below pI hb);have n1_:=Z (KeepBut.trans pH (KeepBut.of_below hb g none) (.inl rfl));have n2_:=Z (below_step pB hb);have BK299:=Z (hbox);have GW299:=Z ((pS hg:w.heap.size≤gb299));have GE299:=Z ((Nat.le_trans HW0.out (pS hg:w.heap.size≤gb299):w0.heap.size≤gb299));have NB0_299:=Z ((pL71 hg (show IsS95 w0 _ g s0_0 s0_1 from pI):g ≠ gb299));have NB299_0:=Z ((pM71 hg (show IsS95 w0 _ g s0_0 s0_1 from pI):gb299 ≠ g));clear HI0 HK HB;have HI0:=n0_;have HK:=n1_;have HB:=n2_;clear n0_ n1_ n2_ hb hbox hg)|((with_reducible refine gate_callee (f:=154) rfl ?_);refine goesL_ (some 11) rfl rfl Tryz.func154 pU rfl #[.pointer (some ⟨g,0,none⟩),.int .i64 a1,.int .i64 a2] rfl pG ?_;(with_reducible refine (qmake_trust.calls k g s0_0 s0_1 a1 a2 t300 t301 t304 t307 w0 _ ?side1 ?side2 A4.out).mono ?_);(case side1=>exact pI);(case side2=>exact pB);rintro e w8 ⟨v302,v305,rfl,ho0,ho1,hi,hb,hk⟩;refine ⟨_,rfl,?_⟩;have n0_:=Z (KeepBut.blk hk (g':=gb299) (o:=.cells #[.int .i64 0,.slice none 0 0,.slice none 0 0] 90 (0,0)) (pK BK299) NB299_0.out (by simp));have HO303:=Z (Kd.R_lower ho0 (keep_size (w:=w) (g:=g) (row:=none) pH));have HO306:=Z (Kd.R_lower (Kd.R_newB ho1 (g:=gb299) (o:=.cells #[.int .i64 0,.slice none 0 0,.slice none 0 0] 90 (0,0)) (pK BK299)) (keep_size (w:=w) (g:=g) (row:=none) pH));have n3_:=Z (KeepBut.trans pH hk (.inl rfl));have n4_:=Z (hb);have n5_:=Z (hi);clear BK299 HK HB HI0;have BK299:=n0_;have HK:=n3_;have HB:=n4_;have HI0:=n5_;clear n0_ n3_ n4_ n5_;(try clear hb);(try clear hb2);(try clear hk);(try clear hi);(try clear ho0);(try clear ho1))|((with_reducible refine gate_dst (N:=7) rfl ?_);refine box_event ?hg (N:=7) ?hd (cs:=#[.int .i64 0,.slice none 0 0,.slice none 0 0]) (t:=90) ?hr ?_;(case hd=>rfl);(case hg=>rfl);(case hr=>first|(go_simp;done)|(go_simp;rfl));intro gb308 hg w9 hbox hb;replace HO303:=Z (Kd.R_below (pR HO303) hb);replace HO306:=Z (Kd.R_below (Kd.R_elderB (pR HO306) gb308 (Nat.le_of_eq hg.symm)) hb);have n2_:=Z (IsS95.below pI hb);have n3_:=Z (blk_below (g:=gb299) (o:=.cells #[.int .i64 0,.slice none 0 0,.slice none 0 0] 90 (0,0)) (pK BK299) hb);have n4_:=Z (KeepBut.trans pH (KeepBut.of_below hb g none) (.inl rfl));have n5_:=Z (below_step pB hb);have BK308:=Z (hbox);have GW308:=Z ((pS hg:w.heap.size≤gb308));have GE308:=Z ((Nat.le_trans HW0.out (pS hg:w.heap.size≤gb308):w0.heap.size≤gb308));have NB299_308:=Z ((pL hg (pK BK299):gb299 ≠ gb308));have NB308_299:=Z ((pM hg (pK BK299):gb308 ≠ gb299));have NB0_308:=Z ((pL71 hg (show IsS95 w0 _ g s0_0 t307 from pI):g ≠ gb308));have NB308_0:=Z ((pM71 hg (show IsS95 w0 _ g s0_0 t307 from pI):gb308 ≠ g));clear HI0 BK299 HK HB;have HI0:=n2_;have BK299:=n3_;have HK:=n4_;have HB:=n5_;clear n2_ n3_ n4_ n5_ hb hbox hg;have hnb10:=NB308_299.out;have hnc10:=NB299_308.out;have hnb11:=NB308_0.out;have hnc11:=NB0_308.out;obtain ⟨hcz12_0,hcz12_1,hcz12_2,hfz12_0,hfz12_1,hfz12_2⟩:=p3 BK308;obtain ⟨Ao13,co13,eo13⟩:=Kd.R_slice HO303.out;subst eo13;obtain ⟨Ao14,co14,eo14⟩:=Kd.R_slice HO306.out;subst eo14)|((with_reducible refine gate_callee (f:=155) rfl ?_);refine goesL_ (some 13) rfl rfl Tryz.func155 pU rfl #[.agg #[.int .i64 t300,.slice Ao13 t301.length co13,.slice Ao14 t304.length co14]] rfl pG ?_;(with_reducible refine (qref02_Valid.calls k t300 _ _ t301 _ _ t304 t309 _ ?side1 ?side2 ?side3 ?side4 A5.out).mono ?_);(case side1=>refine (Kd.R_reads' (e:=3) (base:=w.heap.size) (ok:=fun k_=>True) (n:=t301.length) (c:=co13) ?_).2.2;exact (by refine pP ?_;exact (Kd.R_mono (Kd.R_far (p:=⟨gb308,2,none⟩) (Kd.R_far (p:=⟨gb308,1,none⟩) (Kd.R_far (p:=⟨gb308,0,none⟩) (Kd.R_types HO303.out BK308.out (by decide)) (fun _ hk=>hk.2) (.int .i64 t300)) (fun _ hk=>hk.2) (.slice Ao13 t301.length co13)) (fun _ hk=>hk.2) (.slice Ao14 t304.length co14)) (fun _ h_=>h_.1))));(case side2=>exact (Kd.R_reads' HO303.out).2.1);(case side3=>refine (Kd.R_reads' (e:=90) (base:=w.heap.size) (ok:=fun k_=>((some k_ ≠ (.slice Ao13 t301.length co13:Value).ownBlock∧k_ ≠ gb299)∧k_ ≠ gb308)) (n:=t304.length) (c:=co14) ?_).2.2;exact (by refine pP ?_;exact (Kd.R_mono (Kd.R_far (p:=⟨gb308,2,none⟩) (Kd.R_far (p:=⟨gb308,1,none⟩) (Kd.R_far (p:=⟨gb308,0,none⟩) (Kd.R_mono HO306.out (fun k_ hk=>(⟨hk,hk.2⟩:_∧k_ ≠ gb308))) (fun _ hk=>hk.2) (.int .i64 t300)) (fun _ hk=>hk.2) (.slice Ao13 t301.length co13)) (fun _ hk=>hk.2) (.slice Ao14 t304.length co14)) (fun _ h_=>h_.1))));(case side4=>exact (Kd.R_reads' HO306.out).2.1);rintro e w15 ⟨rfl,hb⟩;refine ⟨_,rfl,?_⟩;replace HO303:=Z (Kd.R_below (by refine pP ?_;exact (Kd.R_mono (Kd.R_far (p:=⟨gb308,2,none⟩) (Kd.R_far (p:=⟨gb308,1,none⟩) (Kd.R_far (p:=⟨gb308,0,none⟩) (Kd.R_types HO303.out BK308.out (by decide)) (fun _ hk=>hk.2) (.int .i64 t300)) (fun _ hk=>hk.2) (.slice Ao13 t301.length co13)) (fun _ hk=>hk.2) (.slice Ao14 t304.length co14)) (fun _ h_=>h_.1))) hb);replace HO306:=Z (Kd.R_below (by refine pP ?_;exact (Kd.R_mono (Kd.R_far (p:=⟨gb308,2,none⟩) (Kd.R_far (p:=⟨gb308,1,none⟩) (Kd.R_far (p:=⟨gb308,0,none⟩) (Kd.R_mono HO306.out (fun k_ hk=>(⟨hk,hk.2⟩:_∧k_ ≠ gb308))) (fun _ hk=>hk.2) (.int .i64 t300)) (fun _ hk=>hk.2) (.slice Ao13 t301.length co13)) (fun _ hk=>hk.2) (.slice Ao14 t304.length co14)) (fun _ h_=>h_.1))) hb);have n2_:=Z (IsS95.below (show IsS95 w0 (((w9.setCell ⟨gb308,0,none⟩ (.int .i64 t300)).setCell ⟨gb308,1,none⟩ (.slice Ao13 t301.length co13)).setCell ⟨gb308,2,none⟩ (.slice Ao14 t304.length co14)) g s0_0 t307 from pI) hb);replace BK299:=Z (blk_below (g:=gb299) (o:=.cells #[.int .i64 0,.slice none 0 0,.slice none 0 0] 90 (0,0)) (by refine pQ ?_;refine blk_far ?_ NB299_308.out _;refine pQ ?_;refine blk_far ?_ NB299_308.out _;refine pQ ?_;refine blk_far ?_ NB299_308.out _;exact pK BK299) hb);replace BK308:=Z (blk_below (g:=gb308) (o:=.cells #[.int .i64 t300,.slice Ao13 t301.length co13,.slice Ao14 t304.length co14] 90 (0,0)) (by refine pQ ?_;refine blk_put (cs:=#[.int .i64 t300,.slice Ao13 t301.length co13,.slice none 0 0]) ?_ 2 _ rfl;refine pQ ?_;refine blk_put (cs:=#[.int .i64 t300,.slice none 0 0,.slice none 0 0]) ?_ 1 _ rfl;refine pQ ?_;refine blk_put (cs:=#[.int .i64 0,.slice none 0 0,.slice none 0 0]) ?_ 0 _ rfl;exact pK BK308) hb);have n5_:=Z (KeepBut.trans pH (KeepBut.of_below hb g none) (.inl rfl));have n6_:=Z (below_step pB hb);clear HI0 HK HB;have HI0:=n2_;have HK:=n5_;have HB:=n6_;clear n2_ n5_ n6_;(try clear hb);(try clear hb2);(try clear hk);(try clear hi);obtain ⟨hcz16_0,hcz16_1,hcz16_2,hfz16_0,hfz16_1,hfz16_2⟩:=p3 BK308;have hnb17:=NB299_0.out;have hnc17:=NB0_299.out;obtain ⟨hcz18_0,hcz18_1,hcz18_2,hfz18_0,hfz18_1,hfz18_2⟩:=p3 BK299))
  refine bodyPost_ret (results_cell_row rfl _ _ gb299 90 #[.int .i64 t300,.slice Ao13 t301.length co13,.slice Ao14 t304.length co14] (0,0) _ rfl (by refine pQ ?_;refine blk_put (cs:=#[.int .i64 t300,.slice Ao13 t301.length co13,.slice none 0 0]) ?_ 2 _ rfl;refine pQ ?_;refine blk_put (cs:=#[.int .i64 t300,.slice none 0 0,.slice none 0 0]) ?_ 1 _ rfl;refine pQ ?_;refine blk_put (cs:=#[.int .i64 0,.slice none 0 0,.slice none 0 0]) ?_ 0 _ rfl;exact pK BK299) Tryz.underlying90 rfl pU) rfl ?_
  exact ⟨_,_,pF,by refine pP ?_;exact Kd.R_mono (Kd.R_far (p:=⟨gb299,2,none⟩) (Kd.R_far (p:=⟨gb299,1,none⟩) (Kd.R_far (p:=⟨gb299,0,none⟩) (Kd.R_types HO303.out BK299.out (by decide)) (fun _ hk=>hk.2) (.int .i64 t300)) (fun _ hk=>hk.2) (.slice Ao13 t301.length co13)) (fun _ hk=>hk.2) (.slice Ao14 t304.length co14)) (fun _ hk=>trivial),by refine pP ?_;exact Kd.R_mono (Kd.R_far (p:=⟨gb299,2,none⟩) (Kd.R_far (p:=⟨gb299,1,none⟩) (Kd.R_far (p:=⟨gb299,0,none⟩) (Kd.R_mono HO306.out (fun k_ hk=>(⟨hk,hk.1.2⟩:_∧k_ ≠ gb299))) (fun _ hk=>hk.2) (.int .i64 t300)) (fun _ hk=>hk.2) (.slice Ao13 t301.length co13)) (fun _ hk=>hk.2) (.slice Ao14 t304.length co14)) (fun _ hk=>hk.1.1.1),pI,pB,pH⟩
 ·rw [if_neg c6] at H
  have c6b0:(t309 == 0)=false:=beq_eq_false_iff_ne.mpr c6
  have c6b1:(t309 != 0)=true:=bne_iff_ne.mpr c6
  replace H:=pO H
  obtain ⟨⟨t310,t311⟩,A190,H⟩:=H
  try dsimp only at H
  have A19:=Z A190
  clear A190
  obtain ⟨y312,hy312⟩:∃ y_:List Int,y_=(([t310]:List Int)):=⟨_,rfl⟩
  first|rw [← hy312] at H|(replace H:=(Option.bind_some _ _).symm.trans H;rw [← hy312] at H)
  have Ny312:=Z hy312
  clear hy312
  simp only [Option.some.injEq,Prod.mk.injEq] at H
  obtain ⟨rfl,rfl,rfl,rfl⟩:=H
  go_enter Tryz.func91,Tryz.ntmps91
  go_wp2_with (first|((with_reducible refine gate_dst (N:=6) rfl ?_);refine box_event ?hg (N:=6) ?hd (cs:=#[.int .i64 0,.slice none 0 0,.slice none 0 0]) (t:=90) ?hr ?_;(case hd=>rfl);(case hg=>rfl);(case hr=>first|(go_simp;done)|(go_simp;rfl));intro gb299 hg w20 hbox hb;have n0_:=Z (IsS95.below pI hb);have n1_:=Z (KeepBut.trans pH (KeepBut.of_below hb g none) (.inl rfl));have n2_:=Z (below_step pB hb);have BK299:=Z (hbox);have GW299:=Z ((pS hg:w.heap.size≤gb299));have GE299:=Z ((Nat.le_trans HW0.out (pS hg:w.heap.size≤gb299):w0.heap.size≤gb299));have NB0_299:=Z ((pL71 hg (show IsS95 w0 _ g s0_0 s0_1 from pI):g ≠ gb299));have NB299_0:=Z ((pM71 hg (show IsS95 w0 _ g s0_0 s0_1 from pI):gb299 ≠ g));clear HI0 HK HB;have HI0:=n0_;have HK:=n1_;have HB:=n2_;clear n0_ n1_ n2_ hb hbox hg)|((with_reducible refine gate_callee (f:=154) rfl ?_);refine goesL_ (some 11) rfl rfl Tryz.func154 pU rfl #[.pointer (some ⟨g,0,none⟩),.int .i64 a1,.int .i64 a2] rfl pG ?_;(with_reducible refine (qmake_trust.calls k g s0_0 s0_1 a1 a2 t300 t301 t304 t307 w0 _ ?side1 ?side2 A4.out).mono ?_);(case side1=>exact pI);(case side2=>exact pB);rintro e w21 ⟨v302,v305,rfl,ho0,ho1,hi,hb,hk⟩;refine ⟨_,rfl,?_⟩;have n0_:=Z (KeepBut.blk hk (g':=gb299) (o:=.cells #[.int .i64 0,.slice none 0 0,.slice none 0 0] 90 (0,0)) (pK BK299) NB299_0.out (by simp));have HO303:=Z (Kd.R_lower ho0 (keep_size (w:=w) (g:=g) (row:=none) pH));have HO306:=Z (Kd.R_lower (Kd.R_newB ho1 (g:=gb299) (o:=.cells #[.int .i64 0,.slice none 0 0,.slice none 0 0] 90 (0,0)) (pK BK299)) (keep_size (w:=w) (g:=g) (row:=none) pH));have n3_:=Z (KeepBut.trans pH hk (.inl rfl));have n4_:=Z (hb);have n5_:=Z (hi);clear BK299 HK HB HI0;have BK299:=n0_;have HK:=n3_;have HB:=n4_;have HI0:=n5_;clear n0_ n3_ n4_ n5_;(try clear hb);(try clear hb2);(try clear hk);(try clear hi);(try clear ho0);(try clear ho1))|((with_reducible refine gate_dst (N:=7) rfl ?_);refine box_event ?hg (N:=7) ?hd (cs:=#[.int .i64 0,.slice none 0 0,.slice none 0 0]) (t:=90) ?hr ?_;(case hd=>rfl);(case hg=>rfl);(case hr=>first|(go_simp;done)|(go_simp;rfl));intro gb308 hg w22 hbox hb;replace HO303:=Z (Kd.R_below (pR HO303) hb);replace HO306:=Z (Kd.R_below (Kd.R_elderB (pR HO306) gb308 (Nat.le_of_eq hg.symm)) hb);have n2_:=Z (IsS95.below pI hb);have n3_:=Z (blk_below (g:=gb299) (o:=.cells #[.int .i64 0,.slice none 0 0,.slice none 0 0] 90 (0,0)) (pK BK299) hb);have n4_:=Z (KeepBut.trans pH (KeepBut.of_below hb g none) (.inl rfl));have n5_:=Z (below_step pB hb);have BK308:=Z (hbox);have GW308:=Z ((pS hg:w.heap.size≤gb308));have GE308:=Z ((Nat.le_trans HW0.out (pS hg:w.heap.size≤gb308):w0.heap.size≤gb308));have NB299_308:=Z ((pL hg (pK BK299):gb299 ≠ gb308));have NB308_299:=Z ((pM hg (pK BK299):gb308 ≠ gb299));have NB0_308:=Z ((pL71 hg (show IsS95 w0 _ g s0_0 t307 from pI):g ≠ gb308));have NB308_0:=Z ((pM71 hg (show IsS95 w0 _ g s0_0 t307 from pI):gb308 ≠ g));clear HI0 BK299 HK HB;have HI0:=n2_;have BK299:=n3_;have HK:=n4_;have HB:=n5_;clear n2_ n3_ n4_ n5_ hb hbox hg;have hnb23:=NB308_299.out;have hnc23:=NB299_308.out;have hnb24:=NB308_0.out;have hnc24:=NB0_308.out;obtain ⟨hcz25_0,hcz25_1,hcz25_2,hfz25_0,hfz25_1,hfz25_2⟩:=p3 BK308;obtain ⟨Ao26,co26,eo26⟩:=Kd.R_slice HO303.out;subst eo26;obtain ⟨Ao27,co27,eo27⟩:=Kd.R_slice HO306.out;subst eo27)|((with_reducible refine gate_callee (f:=155) rfl ?_);refine goesL_ (some 13) rfl rfl Tryz.func155 pU rfl #[.agg #[.int .i64 t300,.slice Ao26 t301.length co26,.slice Ao27 t304.length co27]] rfl pG ?_;(with_reducible refine (qref02_Valid.calls k t300 _ _ t301 _ _ t304 t309 _ ?side1 ?side2 ?side3 ?side4 A5.out).mono ?_);(case side1=>refine (Kd.R_reads' (e:=3) (base:=w.heap.size) (ok:=fun k_=>True) (n:=t301.length) (c:=co26) ?_).2.2;exact (by refine pP ?_;exact (Kd.R_mono (Kd.R_far (p:=⟨gb308,2,none⟩) (Kd.R_far (p:=⟨gb308,1,none⟩) (Kd.R_far (p:=⟨gb308,0,none⟩) (Kd.R_types HO303.out BK308.out (by decide)) (fun _ hk=>hk.2) (.int .i64 t300)) (fun _ hk=>hk.2) (.slice Ao26 t301.length co26)) (fun _ hk=>hk.2) (.slice Ao27 t304.length co27)) (fun _ h_=>h_.1))));(case side2=>exact (Kd.R_reads' HO303.out).2.1);(case side3=>refine (Kd.R_reads' (e:=90) (base:=w.heap.size) (ok:=fun k_=>((some k_ ≠ (.slice Ao26 t301.length co26:Value).ownBlock∧k_ ≠ gb299)∧k_ ≠ gb308)) (n:=t304.length) (c:=co27) ?_).2.2;exact (by refine pP ?_;exact (Kd.R_mono (Kd.R_far (p:=⟨gb308,2,none⟩) (Kd.R_far (p:=⟨gb308,1,none⟩) (Kd.R_far (p:=⟨gb308,0,none⟩) (Kd.R_mono HO306.out (fun k_ hk=>(⟨hk,hk.2⟩:_∧k_ ≠ gb308))) (fun _ hk=>hk.2) (.int .i64 t300)) (fun _ hk=>hk.2) (.slice Ao26 t301.length co26)) (fun _ hk=>hk.2) (.slice Ao27 t304.length co27)) (fun _ h_=>h_.1))));(case side4=>exact (Kd.R_reads' HO306.out).2.1);rintro e w28 ⟨rfl,hb⟩;refine ⟨_,rfl,?_⟩;replace HO303:=Z (Kd.R_below (by refine pP ?_;exact (Kd.R_mono (Kd.R_far (p:=⟨gb308,2,none⟩) (Kd.R_far (p:=⟨gb308,1,none⟩) (Kd.R_far (p:=⟨gb308,0,none⟩) (Kd.R_types HO303.out BK308.out (by decide)) (fun _ hk=>hk.2) (.int .i64 t300)) (fun _ hk=>hk.2) (.slice Ao26 t301.length co26)) (fun _ hk=>hk.2) (.slice Ao27 t304.length co27)) (fun _ h_=>h_.1))) hb);replace HO306:=Z (Kd.R_below (by refine pP ?_;exact (Kd.R_mono (Kd.R_far (p:=⟨gb308,2,none⟩) (Kd.R_far (p:=⟨gb308,1,none⟩) (Kd.R_far (p:=⟨gb308,0,none⟩) (Kd.R_mono HO306.out (fun k_ hk=>(⟨hk,hk.2⟩:_∧k_ ≠ gb308))) (fun _ hk=>hk.2) (.int .i64 t300)) (fun _ hk=>hk.2) (.slice Ao26 t301.length co26)) (fun _ hk=>hk.2) (.slice Ao27 t304.length co27)) (fun _ h_=>h_.1))) hb);have n2_:=Z (IsS95.below (show IsS95 w0 (((w22.setCell ⟨gb308,0,none⟩ (.int .i64 t300)).setCell ⟨gb308,1,none⟩ (.slice Ao26 t301.length co26)).setCell ⟨gb308,2,none⟩ (.slice Ao27 t304.length co27)) g s0_0 t307 from pI) hb);replace BK299:=Z (blk_below (g:=gb299) (o:=.cells #[.int .i64 0,.slice none 0 0,.slice none 0 0] 90 (0,0)) (by refine pQ ?_;refine blk_far ?_ NB299_308.out _;refine pQ ?_;refine blk_far ?_ NB299_308.out _;refine pQ ?_;refine blk_far ?_ NB299_308.out _;exact pK BK299) hb);replace BK308:=Z (blk_below (g:=gb308) (o:=.cells #[.int .i64 t300,.slice Ao26 t301.length co26,.slice Ao27 t304.length co27] 90 (0,0)) (by refine pQ ?_;refine blk_put (cs:=#[.int .i64 t300,.slice Ao26 t301.length co26,.slice none 0 0]) ?_ 2 _ rfl;refine pQ ?_;refine blk_put (cs:=#[.int .i64 t300,.slice none 0 0,.slice none 0 0]) ?_ 1 _ rfl;refine pQ ?_;refine blk_put (cs:=#[.int .i64 0,.slice none 0 0,.slice none 0 0]) ?_ 0 _ rfl;exact pK BK308) hb);have n5_:=Z (KeepBut.trans pH (KeepBut.of_below hb g none) (.inl rfl));have n6_:=Z (below_step pB hb);clear HI0 HK HB;have HI0:=n2_;have HK:=n5_;have HB:=n6_;clear n2_ n5_ n6_;(try clear hb);(try clear hb2);(try clear hk);(try clear hi))|((with_reducible refine gate_callee (f:=36) rfl ?_);refine goesL_ (some 17) rfl rfl Tryz.func36 pU rfl #[.pointer (some ⟨g,0,none⟩),.int .i64 a1] rfl pG ?_;(with_reducible refine (qmake_Tape_N.calls g s0_0 t307 a1 t310 t311 w0 _ ?side1 ?side2 A19.out).mono ?_);(case side1=>exact pI);(case side2=>exact pB);rintro e w29 ⟨rfl,hi,hb,hk⟩;refine ⟨_,rfl,?_⟩;replace BK299:=Z (KeepBut.blk hk (g':=gb299) (o:=.cells #[.int .i64 0,.slice none 0 0,.slice none 0 0] 90 (0,0)) (pK BK299) NB299_0.out (by simp));replace HO303:=Z (Kd.R_mono (Kd.R_keep (IsS95.apart (show IsS95 w0 _ g s0_0 t307 from pI) (pR HO303) (by decide)) hk (fun _ h=>h.2)) (fun _ h=>h.1));replace HO306:=Z (Kd.R_mono (Kd.R_keep (IsS95.apart (show IsS95 w0 _ g s0_0 t307 from pI) (pR HO306) (by decide)) hk (fun _ h=>h.2)) (fun _ h=>h.1));replace BK308:=Z (KeepBut.blk hk (g':=gb308) (o:=.cells #[.int .i64 t300,.slice Ao26 t301.length co26,.slice Ao27 t304.length co27] 90 (0,0)) (pK BK308) NB308_0.out (by simp));have n4_:=Z (KeepBut.trans pH hk (.inl rfl));have n5_:=Z (hb);have n6_:=Z (hi);clear HK HB HI0;have HK:=n4_;have HB:=n5_;have HI0:=n6_;clear n4_ n5_ n6_;(try clear hb);(try clear hb2);(try clear hk);(try clear hi))|((with_reducible refine gate_dst (N:=18) rfl ?_);refine Kd.R_lit (Kd.int .i64) _ 3 ?hg (N:=18) ?hd (xs:=([t310]:List Int)) (inner:=[.int .i64 t310]) (ok:=fun _=>True) (okp:=fun _=>True) ?hr ?hp (fun _ hk=>hk) trivial (Below.refl _ _) (Nat.le_refl _) (by simp) ?_;(case hd=>rfl);(case hg=>rfl);(case hr=>first|(go_simp;done)|(go_simp;rfl));(case hp=>exact (Reps.one (show Kd.M (Kd.int .i64) _ _ _ t310 [.int .i64 t310] from rfl) (Reps.none _ _)));intro v313 w30 ho31 hb hg_ hnew_;clear hg_ hnew_;(first|rw [← Ny312.out] at ho31|(simp only [Int.reduceToNat] at ho31;rw [← Ny312.out] at ho31));have n0_:=Z (Kd.R_elder' (pR HO303) (Kd.R_base ho31) hb);replace HO306:=Z (Kd.R_elder' (pR HO306) (Kd.R_base ho31) hb);have HO314:=Z (Kd.R_lower (Kd.R_new' ho31 (Kd.R_lt (pR HO303))) (keep_size (w:=w) (g:=g) (row:=none) pH));have n3_:=Z (IsS95.below pI hb);replace BK299:=Z (blk_below (g:=gb299) (o:=.cells #[.int .i64 0,.slice none 0 0,.slice none 0 0] 90 (0,0)) (pK BK299) hb);replace BK308:=Z (blk_below (g:=gb308) (o:=.cells #[.int .i64 t300,.slice Ao26 t301.length co26,.slice Ao27 t304.length co27] 90 (0,0)) (pK BK308) hb);have n6_:=Z (KeepBut.trans pH (KeepBut.of_below hb g none) (.inl rfl));have n7_:=Z (below_step pB hb);clear HO303 HI0 HK HB;have HO303:=n0_;have HI0:=n3_;have HK:=n6_;have HB:=n7_;clear n0_ n3_ n6_ n7_ hb ho31;obtain ⟨Ao32,co32,eo32⟩:=Kd.R_slice HO314.out;subst eo32;have hnb33:=NB299_0.out;have hnc33:=NB0_299.out;obtain ⟨hcz34_0,hcz34_1,hcz34_2,hfz34_0,hfz34_1,hfz34_2⟩:=p3 BK299))
  refine bodyPost_ret (results_cell_row rfl _ _ gb299 90 #[.int .i64 1,.slice Ao32 y312.length co32,.slice none 0 0] (0,0) _ rfl (by refine pQ ?_;refine blk_put (cs:=#[.int .i64 1,.slice Ao32 y312.length co32,.slice none 0 0]) ?_ 2 _ rfl;refine pQ ?_;refine blk_put (cs:=#[.int .i64 1,.slice none 0 0,.slice none 0 0]) ?_ 1 _ rfl;refine pQ ?_;refine blk_put (cs:=#[.int .i64 0,.slice none 0 0,.slice none 0 0]) ?_ 0 _ rfl;exact pK BK299) Tryz.underlying90 rfl pU) rfl ?_
  exact ⟨_,_,pF,by refine pP ?_;exact Kd.R_mono (Kd.R_far (p:=⟨gb299,2,none⟩) (Kd.R_far (p:=⟨gb299,1,none⟩) (Kd.R_far (p:=⟨gb299,0,none⟩) (Kd.R_types HO314.out BK299.out (by decide)) (fun _ hk=>hk.2) (.int .i64 1)) (fun _ hk=>hk.2) (.slice Ao32 y312.length co32)) (fun _ hk=>hk.2) (.slice none 0 0)) (fun _ hk=>trivial),pN,pI,pB,pH⟩
theorem R_emptyOf {α:Type} {d:Kd α} {e:Nat} {w:World} {base:Nat} {ok ok':Nat→Prop} {v:Value} {xs:List α} (hx:xs=[]) (h:d.R e w base ok v xs) (hok:∀ k,v.ownBlock=some k→ok' k):d.R e w base ok' v xs:=by
 subst hx
 obtain ⟨_,inner,ho,hr⟩:=h
 exact ⟨hok,inner,ho,⟨hr.1,fun j p hj=>by simp at hj⟩⟩
theorem R_other {W:World} {base:Nat} {ok ok':Nat→Prop} {v u:Value} {xs:List S90} {ys:List Int} (h:k90.R 90 W base ok v xs) (hu:(Kd.int .i64).R 3 W base ok' u ys):∀ k,v.ownBlock=some k→some k ≠ u.ownBlock:=by
 intro k hk he
 obtain ⟨c1,h1⟩:=Kd.R_typed h k hk
 obtain ⟨c2,h2⟩:=Kd.R_typed hu k he.symm
 rw [h1] at h2
 injection h2 with h2
 injection h2 with _ h2
 exact absurd h2 (by decide)
theorem rd_T32_mem {xs:List S90} {i:Int} (h0:0≤i) (h1:i < (xs.length:Int)):rd_T90 xs i∈xs:=by
 unfold rd_T90
 have h2:i.toNat < xs.length:=by omega
 rw [List.getD_eq_getElem?_getD,List.getElem?_eq_getElem h2]
 exact List.getElem_mem h2
mutual
def qmake_group.l0:Nat→Int→Int→List (S90)→Int→List Int→Int→Option (Int × List Int × (List (S90)) × Int)
 | 0,_,_,_,_,_,_=>none
 | k+1,x1,x2,x7,x8,x1000,x1001=>if x8 < 3 then (qmake_group.l1 k x1 x2 x7 x8 x8 x1000 x1001 1 ([]:List Int)) else ((qmake_Tape_N.f x1000 x1001 4).bind fun bt186=>(if bt186.1=0 then (if (x7.length:Int)=0 then (none) else (if 0≤(Int.tmod x2 (x7.length:Int)) then (if (Int.tmod x2 (x7.length:Int)) < (x7.length:Int) then (some ((rd_T90 x7 (Int.tmod x2 (x7.length:Int))).f0,(rd_T90 x7 (Int.tmod x2 (x7.length:Int))).f1,(rd_T90 x7 (Int.tmod x2 (x7.length:Int))).f2,bt186.2)) else (none)) else (none))) else ((qmake_Tape_Range.f x1000 bt186.2 (mx 1 (wrap64 ((x7.length:Int) - 1))) (x7.length:Int)).bind fun bt189=>(some (bt189.1,([]:List Int),x7,bt189.2)))))
def qmake_group.l1:Nat→Int→Int→List (S90)→Int→Int→List Int→Int→Int→List Int→Option (Int × List Int × (List (S90)) × Int)
 | 0,_,_,_,_,_,_,_,_,_=>none
 | k+1,x1,x2,x7,x8,x10,x1000,x1001,x178000,x178001=>if x10 < x1 then (if x178001.length < 17592186044416 then (qmake_group.l1 k x1 x2 x7 x8 (wrap64 (x10+3)) x1000 x1001 x178000 (x178001++[x10])) else (none)) else (if (x178001.length:Int) > 0 then ((qmake_Tape_Range.f x1000 x1001 1 (x178001.length:Int)).bind fun bt181=>(if x7.length < 2513169434916 then (qmake_group.l0 k x1 x2 (x7++[(⟨bt181.1,x178001,([]:List (S90))⟩:S90)]) (wrap64 (x8+1)) x1000 bt181.2) else (none))) else (qmake_group.l0 k x1 x2 x7 (wrap64 (x8+1)) x1000 x1001))
end
def qmake_group.f (k:Nat) (s0_0:List Int) (s0_1:Int) (a1:Int) (a2:Int):Option (Int × List Int × (List (S90)) × Int):=qmake_group.l0 k a1 a2 ([]:List (S90)) 0 s0_0 s0_1
set_option maxHeartbeats 8000000 in
set_option maxRecDepth 100000 in
theorem qmake_group.calls (k:Nat) (g:Nat) (s0_0:List Int) (s0_1:Int) (a1:Int) (a2:Int) (r1:Int) (r2:List Int) (r3:List (S90)) (r4:Int) (w0 w:World) (hI:IsS95 w0 w g s0_0 s0_1) (hB:Below w0.heap.size w0 w) (h:qmake_group.f k s0_0 s0_1 a1 a2=some (r1,r2,r3,r4)) :
  Calls Tryz.prog 93 #[.pointer (some ⟨g,0,none⟩),.int .i64 a1,.int .i64 a2] w fun e w'=>∃ v1_ v2_:Value,e=.returned (.agg #[.int .i64 r1,v1_,v2_])∧Kd.R (Kd.int .i64) 3 w' w.heap.size (fun _=>True) v1_ r2∧Kd.R k90 90 w' w.heap.size (fun k_=>some k_ ≠ (v1_:Value).ownBlock) v2_ r3∧IsS95 w0 w' g s0_0 r4∧Below w0.heap.size w0 w'∧KeepBut w w' g none:=by
 have hu32:=Tryz.underlying90
 have HI0:=Z hI
 have HK:=Z (KeepBut.refl w g none)
 have HL:=Z hB.size
 clear hI
 have HW0:=Z hB.size
 have HB:=Z hB
 clear hB
 have H:(qmake_group.l0 k a1 a2 ([]:List (S90)) 0 s0_0 s0_1)=some (r1,r2,r3,r4):=h
 clear h
 have H':=Z H
 clear H
 go_enter Tryz.func93,Tryz.ntmps93
 go_wp2_with (first|((with_reducible refine gate_dst (N:=6) rfl ?_);refine box_event ?hg (N:=6) ?hd (cs:=#[.int .i64 0,.slice none 0 0,.slice none 0 0]) (t:=90) ?hr ?_;(case hd=>rfl);(case hg=>rfl);(case hr=>first|(go_simp;done)|(go_simp;rfl));intro gb176 hg w4 hbox hb;have n0_:=Z (IsS95.below pI hb);have n1_:=Z (KeepBut.trans pH (KeepBut.of_below hb g none) (.inl rfl));have n2_:=Z (below_step pB hb);have BK176:=Z (hbox);have GW176:=Z ((pS hg:w.heap.size≤gb176));have GE176:=Z ((Nat.le_trans HW0.out (pS hg:w.heap.size≤gb176):w0.heap.size≤gb176));have NB0_176:=Z ((pL71 hg (show IsS95 w0 _ g s0_0 s0_1 from pI):g ≠ gb176));have NB176_0:=Z ((pM71 hg (show IsS95 w0 _ g s0_0 s0_1 from pI):gb176 ≠ g));clear HI0 HK HB;have HI0:=n0_;have HK:=n1_;have HB:=n2_;clear n0_ n1_ n2_ hb hbox hg))
 go_loopg [7,8] k (fun kq v7 v8 w'=>∃ (x7_1:List (S90)) (x8_1:Int) (x1001_1:Int),v8=.int .i64 x8_1∧Aside0 (qmake_group.l0 kq a1 a2 x7_1 x8_1 s0_0 x1001_1=some (r1,r2,r3,r4))∧Aside0 (kq≤k)∧Aside0 (Kd.R k90 90 w' w.heap.size (fun k_=>k_ ≠ gb176) v7 x7_1)∧Aside0 (w'.heap[gb176]?=some (.cells #[.int .i64 0,(.slice none 0 0),(.slice none 0 0)] 90 (0,0)))∧Aside0 (IsS95 w0 w' g s0_0 x1001_1)∧Aside0 (KeepBut w w' g none)∧Aside0 (Below w0.heap.size w0 w')∧Aside0 (∀ y_∈x7_1,y_.f2=([]:List S90)))
 case atStart=>exact ⟨(([]:List (S90))),(0),(s0_1),pE,H',⟨Nat.le_refl _⟩,⟨pN⟩,⟨pK BK176⟩,⟨pI⟩,⟨pH⟩,⟨pB⟩,⟨by simp⟩⟩
 case round =>
  clear H'
  try clear p2
  obtain ⟨x7_1,x8_1,x1001_1,rfl,HA,HK1,HO_7,BK176,HI0,HK,HB,HEX⟩:=hrel
  cases gk with
  | zero=>exact absurd HA.out (by simp [qmake_group.l0])
  | succ k1 =>
   have H:=HA.out
   clear HA
   simp only [qmake_group.l0] at H
   by_cases c5:x8_1 < 3
   ·rw [if_pos c5] at H
    have c5b0:decide (x8_1 < 3)=true:=decide_eq_true c5
    clear c5
    have H':=Z H
    clear H
    go_wp2_with (first|((with_reducible refine gate_dst (N:=9) rfl ?_);refine box_event ?hg (N:=9) ?hd (cs:=#[.int .i64 0,.slice none 0 0,.slice none 0 0]) (t:=90) ?hr ?_;(case hd=>rfl);(case hg=>rfl);(case hr=>first|(go_simp;done)|(go_simp;rfl));intro gb177 hg w6 hbox hb;replace HO_7:=Z (Kd.R_below (Kd.R_elderB (pR HO_7) gb177 (Nat.le_of_eq hg.symm)) hb);have n1_:=Z (blk_below (g:=gb176) (o:=.cells #[.int .i64 0,.slice none 0 0,.slice none 0 0] 90 (0,0)) (pK BK176) hb);have n2_:=Z (IsS95.below pI hb);have n3_:=Z (KeepBut.trans pH (KeepBut.of_below hb g none) (.inl rfl));have n4_:=Z (below_step pB hb);have BK177:=Z (hbox);have GW177:=Z ((pS hg:w.heap.size≤gb177));have GE177:=Z ((Nat.le_trans HW0.out (pS hg:w.heap.size≤gb177):w0.heap.size≤gb177));have NB176_177:=Z ((pL hg (pK BK176):gb176 ≠ gb177));have NB177_176:=Z ((pM hg (pK BK176):gb177 ≠ gb176));have NB0_177:=Z ((pL71 hg (show IsS95 w0 _ g s0_0 x1001_1 from pI):g ≠ gb177));have NB177_0:=Z ((pM71 hg (show IsS95 w0 _ g s0_0 x1001_1 from pI):gb177 ≠ g));clear BK176 HI0 HK HB;have BK176:=n1_;have HI0:=n2_;have HK:=n3_;have HB:=n4_;clear n1_ n2_ n3_ n4_ hb hbox hg;have hnb7:=NB177_176.out;have hnc7:=NB176_177.out;have hnb8:=NB177_0.out;have hnc8:=NB0_177.out;obtain ⟨hcz9_0,hcz9_1,hcz9_2,hfz9_0,hfz9_1,hfz9_2⟩:=p3 BK177))
    go_loopg [10] k1 (fun kq v10 w'=>∃ (x10_2:Int) (x178001_2:List Int) (u178001:Value),v10=.int .i64 x10_2∧Aside0 (qmake_group.l1 kq a1 a2 x7_1 x8_1 x10_2 s0_0 x1001_1 1 x178001_2=some (r1,r2,r3,r4))∧Aside0 (kq≤k1)∧Aside0 (Kd.R k90 90 w' w.heap.size (fun k_=>some k_ ≠ (u178001:Value).ownBlock∧k_ ≠ gb176∧k_ ≠ gb177) u7 x7_1)∧Aside0 (Kd.R (Kd.int .i64) 3 w' w.heap.size (fun _=>True) u178001 x178001_2)∧Aside0 (w'.heap[gb176]?=some (.cells #[.int .i64 0,(.slice none 0 0),(.slice none 0 0)] 90 (0,0)))∧Aside0 (w'.heap[gb177]?=some (.cells #[.int .i64 1,u178001,(.slice none 0 0)] 90 (0,0)))∧Aside0 (IsS95 w0 w' g s0_0 x1001_1)∧Aside0 (KeepBut w w' g none)∧Aside0 (Below w0.heap.size w0 w'))
    case atStart=>exact ⟨(x8_1),(([]:List Int)),(.slice none 0 0),pE,H',⟨Nat.le_refl _⟩,⟨by refine pP ?_;exact Kd.R_mono (Kd.R_far (p:=⟨gb177,2,none⟩) (Kd.R_far (p:=⟨gb177,1,none⟩) (Kd.R_far (p:=⟨gb177,0,none⟩) (Kd.R_mono HO_7.out (fun k_ hk=>(⟨hk,hk.2⟩:_∧k_ ≠ gb177))) (fun _ hk=>hk.2) (.int .i64 1)) (fun _ hk=>hk.2) (.slice none 0 0)) (fun _ hk=>hk.2) (.slice none 0 0)) (fun _ hk=>⟨(by simp [Value.ownBlock]),⟨hk.1.1,hk.1.2⟩⟩)⟩,⟨pN⟩,⟨by refine pQ ?_;refine blk_far ?_ NB176_177.out _;refine pQ ?_;refine blk_far ?_ NB176_177.out _;refine pQ ?_;refine blk_far ?_ NB176_177.out _;exact pK BK176⟩,⟨by refine pQ ?_;refine blk_put (cs:=#[.int .i64 1,.slice none 0 0,.slice none 0 0]) ?_ 2 _ rfl;refine pQ ?_;refine blk_put (cs:=#[.int .i64 1,.slice none 0 0,.slice none 0 0]) ?_ 1 _ rfl;refine pQ ?_;refine blk_put (cs:=#[.int .i64 0,.slice none 0 0,.slice none 0 0]) ?_ 0 _ rfl;exact pK BK177⟩,⟨pI⟩,⟨pH⟩,⟨pB⟩⟩
    case round =>
     clear H'
     try clear p2
     try clear c5
     try clear c5b0
     try clear c7
     try clear c8
     try clear hcz9_0
     try clear hcz9_1
     try clear hcz9_2
     try clear hfz9_0
     try clear hfz9_1
     try clear hfz9_2
     obtain ⟨x10_2,x178001_2,u178001,rfl,HA,HK2,HO_7,HO_178001,BK176,BK177,HI0,HK,HB⟩:=hrel
     cases gk with
     | zero=>exact absurd HA.out (by simp [qmake_group.l1])
     | succ k2 =>
      have H:=HA.out
      clear HA
      simp only [qmake_group.l1] at H
      by_cases c10:x10_2 < a1
      ·rw [if_pos c10] at H
       have c10b0:decide (x10_2 < a1)=true:=decide_eq_true c10
       clear c10
       by_cases c11:x178001_2.length < 17592186044416
       ·rw [if_pos c11] at H
        have LMc11:=Z c11
        clear c11
        obtain ⟨y178,hy178⟩:∃ y_:List Int,y_=(x178001_2++[x10_2]):=⟨_,rfl⟩
        first|rw [← hy178] at H|(replace H:=(Option.bind_some _ _).symm.trans H;rw [← hy178] at H)
        have Ny178:=Z hy178
        clear hy178
        have H':=Z H
        clear H
        have hnb12:=NB177_176.out
        have hnc12:=NB176_177.out
        have hnb13:=NB177_0.out
        have hnc13:=NB0_177.out
        have hcz14_0:=pV BK177 (.int .i64 1) 0 rfl
        have hcz14_1:=pV BK177 (u178001) 1 rfl
        have hcz14_2:=pV BK177 (.slice none 0 0) 2 rfl
        have hfz14_0:=kF BK177.out 0
        have hfz14_1:=kF BK177.out 1
        have hfz14_2:=kF BK177.out 2
        go_wp2_with (first|((with_reducible refine gate_builtin (b:=.append) (xs:=#[.tmp 23,.tmp 25]) rfl ?_);at_builtin;refine Kd.R_append (Kd.int .i64) w.heap.size rfl (.tmp 23) (.tmp 25) 22 3 (.int .i64 0) 8 rfl Tryz.underlying22 info3 rfl (by decide) (by omega) u178001 x178001_2 x10_2 [.int .i64 x10_2] (fun _=>True) (fun _=>False) rfl rfl ?aP (fun _ hk=>hk.elim) ?aF ?aO (Below.refl _ _) ?aS ?aL ?_;(case aP=>exact rfl);(case aF=>exact (fun _ _=>trivial));(case aO=>exact (pR HO_178001));(case aS=>exact (keep_size (w:=w) (g:=g) (row:=none) pH));(case aL=>have:=LMc11.out;omega);intro v179 w15 ho hb hg hat;rw [← Ny178.out] at ho;have n0_:=Z (Kd.R_after (ok:=(fun k_=>k_ ≠ gb176∧k_ ≠ gb177)) (by refine pP ?_;exact Kd.R_mono HO_7.out (fun _ hk=>⟨⟨hk.2.1,hk.2.2⟩,hk.1⟩)) hg hat);have n1_:=Z (blk_grown (g:=gb176) (o:=.cells #[.int .i64 0,.slice none 0 0,.slice none 0 0] 90 (0,0)) (pK BK176) hg (Kd.R_ne HO_178001.out BK176.out (by decide)));have n2_:=Z (blk_grown (g:=gb177) (o:=.cells #[.int .i64 1,u178001,.slice none 0 0] 90 (0,0)) (pK BK177) hg (Kd.R_ne HO_178001.out BK177.out (by decide)));have n3_:=Z (IsS95.grown pI hg (IsS95.own_ne HI0.out HO_178001.out (by decide)));have n4_:=Z (below_weaken pB HL.out hb);have n5_:=Z (KeepBut.trans pH (KeepBut.of_grown hg g) (Kd.R_base2 HO_178001.out));have n6_:=Z (ho);clear HO_7 BK176 BK177 HI0 HB HK HO_178001;have HO_7:=n0_;have BK176:=n1_;have BK177:=n2_;have HI0:=n3_;have HB:=n4_;have HK:=n5_;have HO180:=n6_;clear n0_ n1_ n2_ n3_ n4_ n5_ n6_ ho hb hg hat;obtain ⟨Ao16,co16,eo16⟩:=Kd.R_slice HO180.out;subst eo16;obtain ⟨hcz17_0,hcz17_1,hcz17_2,hfz17_0,hfz17_1,hfz17_2⟩:=p3 BK177))
        go_roundg k2
        case measure=>have:=HK1.out;have:=HK2.out;omega
        case rel=>exact ⟨(wrap64 (x10_2+3)),(y178),(.slice Ao16 y178.length co16),pE,H',⟨by have:=HK1.out;have:=HK2.out;omega⟩,⟨by refine pP ?_;exact Kd.R_mono (Kd.R_far (p:=⟨gb177,1,none⟩) (Kd.R_mono HO_7.out (fun k_ hk=>(⟨hk,hk.1.2⟩:_∧k_ ≠ gb177))) (fun _ hk=>hk.2) (.slice Ao16 y178.length co16)) (fun _ hk=>⟨hk.1.2,⟨hk.1.1.1,hk.1.1.2⟩⟩)⟩,⟨by refine pP ?_;exact Kd.R_mono (Kd.R_far (p:=⟨gb177,1,none⟩) (Kd.R_types HO180.out BK177.out (by decide)) (fun _ hk=>hk.2) (.slice Ao16 y178.length co16)) (fun _ hk=>trivial)⟩,⟨by refine pQ ?_;refine blk_far ?_ NB176_177.out _;exact pK BK176⟩,⟨by refine pQ ?_;refine blk_put (cs:=#[.int .i64 1,u178001,.slice none 0 0]) ?_ 1 _ rfl;exact pK BK177⟩,⟨pI⟩,⟨pH⟩,⟨pB⟩⟩
       ·rw [if_neg c11] at H
        exact absurd H (by simp)
      ·rw [if_neg c10] at H
       have c10b0:decide (x10_2 < a1)=false:=decide_eq_false c10
       clear c10
       by_cases c18:(x178001_2.length:Int) > 0
       ·rw [if_pos c18] at H
        have c18b0:decide (0 < (x178001_2.length:Int))=true:=decide_eq_true c18
        have c18b1:decide (0 < x178001_2.length)=true:=decide_eq_true (by omega)
        clear c18
        replace H:=pO H
        obtain ⟨⟨t181,t182⟩,A190,H⟩:=H
        try dsimp only at H
        have A19:=Z A190
        clear A190
        by_cases c20:x7_1.length < 2513169434916
        ·rw [if_pos c20] at H
         have LMc20:=Z c20
         clear c20
         obtain ⟨y183,hy183⟩:∃ y_:List (S90),y_=(x7_1++[(⟨t181,x178001_2,([]:List (S90))⟩:S90)]):=⟨_,rfl⟩
         first|rw [← hy183] at H|(replace H:=(Option.bind_some _ _).symm.trans H;rw [← hy183] at H)
         have Ny183:=Z hy183
         clear hy183
         have H':=Z H
         clear H
         have hnb21:=NB177_176.out
         have hnc21:=NB176_177.out
         have hnb22:=NB177_0.out
         have hnc22:=NB0_177.out
         have hcz23_0:=pV BK177 (.int .i64 1) 0 rfl
         have hcz23_1:=pV BK177 (u178001) 1 rfl
         have hcz23_2:=pV BK177 (.slice none 0 0) 2 rfl
         have hfz23_0:=kF BK177.out 0
         have hfz23_1:=kF BK177.out 1
         have hfz23_2:=kF BK177.out 2
         obtain ⟨Ao24,co24,eo24⟩:=Kd.R_slice HO_178001.out
         subst eo24
         go_wp2_with (first|((with_reducible refine gate_callee (f:=90) rfl ?_);refine goesL_ (some 36) rfl rfl Tryz.func90 pU rfl #[.pointer (some ⟨g,0,none⟩),.int .i64 1,.int .i64 (x178001_2.length:Int)] rfl pG ?_;(with_reducible refine (qmake_Tape_Range.calls g s0_0 x1001_1 1 (x178001_2.length:Int) t181 t182 w0 _ ?side1 ?side2 A19.out).mono ?_);(case side1=>exact pI);(case side2=>exact pB);rintro e w25 ⟨rfl,hi,hb,hk⟩;refine ⟨_,rfl,?_⟩;replace HO_7:=Z (Kd.R_mono (Kd.R_keep (IsS95.apart (show IsS95 w0 _ g s0_0 x1001_1 from pI) (pR HO_7) (by decide)) hk (fun _ h=>h.2)) (fun _ h=>h.1));replace HO_178001:=Z (Kd.R_mono (Kd.R_keep (IsS95.apart (show IsS95 w0 _ g s0_0 x1001_1 from pI) (pR HO_178001) (by decide)) hk (fun _ h=>h.2)) (fun _ h=>h.1));replace BK176:=Z (KeepBut.blk hk (g':=gb176) (o:=.cells #[.int .i64 0,.slice none 0 0,.slice none 0 0] 90 (0,0)) (pK BK176) NB176_0.out (by simp));replace BK177:=Z (KeepBut.blk hk (g':=gb177) (o:=.cells #[.int .i64 1,.slice Ao24 x178001_2.length co24,.slice none 0 0] 90 (0,0)) (pK BK177) NB177_0.out (by simp));have n4_:=Z (KeepBut.trans pH hk (.inl rfl));have n5_:=Z (hb);have n6_:=Z (hi);clear HK HB HI0;have HK:=n4_;have HB:=n5_;have HI0:=n6_;clear n4_ n5_ n6_;(try clear hb);(try clear hb2);(try clear hk);(try clear hi);obtain ⟨hcz26_0,hcz26_1,hcz26_2,hfz26_0,hfz26_1,hfz26_2⟩:=p3 BK177)|((with_reducible refine gate_store (t:=3) (p:=37) rfl ?_);refine store_event (t:=3) (p:=37) (v:=?vo_w27) (w1:=(w25.setCell ⟨gb177,0,none⟩ (.int .i64 t181))) ?hg ?ho ?hn ?hr ?_;(case ho=>rfl);(case hg=>rfl);(case hn=>rfl);(case hr=>first|(go_simp;done)|(go_simp;rfl));intro w27 hw;have n0_:Aside0 (Kd.R k90 90 w27 w.heap.size (fun k_=>some k_ ≠ (.slice Ao24 x178001_2.length co24:Value).ownBlock∧k_ ≠ gb176∧k_ ≠ gb177) u7 x7_1):=⟨(by rw [hw];exact (by refine pP ?_;exact Kd.R_mono (Kd.R_far (p:=⟨gb177,0,none⟩) (Kd.R_mono HO_7.out (fun k_ hk=>(⟨hk,hk.2.2⟩:_∧k_ ≠ gb177))) (fun _ hk=>hk.2) (.int .i64 t181)) (fun _ hk=>⟨hk.1.1,⟨hk.1.2.1,hk.1.2.2⟩⟩)))⟩;have n1_:Aside0 (Kd.R (Kd.int .i64) 3 w27 w.heap.size (fun _=>True) (.slice Ao24 x178001_2.length co24) x178001_2):=⟨(by rw [hw];exact (by refine pP ?_;exact Kd.R_mono (Kd.R_far (p:=⟨gb177,0,none⟩) (Kd.R_types HO_178001.out BK177.out (by decide)) (fun _ hk=>hk.2) (.int .i64 t181)) (fun _ hk=>trivial)))⟩;have n2_:Aside0 (w27.heap[gb176]?=some (.cells #[.int .i64 0,.slice none 0 0,.slice none 0 0] 90 (0,0))):=⟨(by rw [hw];exact (by refine pQ ?_;refine blk_far ?_ NB176_177.out _;exact pK BK176))⟩;have n3_:Aside0 (w27.heap[gb177]?=some (.cells #[.int .i64 t181,.slice Ao24 x178001_2.length co24,.slice none 0 0] 90 (0,0))):=⟨(by rw [hw];exact (by refine pQ ?_;refine blk_put (cs:=#[.int .i64 1,.slice Ao24 x178001_2.length co24,.slice none 0 0]) ?_ 0 _ rfl;exact pK BK177))⟩;have n4_:Aside0 (IsS95 w0 w27 g s0_0 t182):=⟨(by rw [hw];exact pI)⟩;have n5_:Aside0 (KeepBut w w27 g none):=⟨(by rw [hw];exact pH)⟩;have n6_:Aside0 (Below w0.heap.size w0 w27):=⟨(by rw [hw];exact pB)⟩;clear hw HO_7 HO_178001 BK176 BK177 HI0 HK HB;have HO_7:=n0_;have HO_178001:=n1_;have BK176:=n2_;have BK177:=n3_;have HI0:=n4_;have HK:=n5_;have HB:=n6_;clear n0_ n1_ n2_ n3_ n4_ n5_ n6_;obtain ⟨hcz28_0,hcz28_1,hcz28_2,hfz28_0,hfz28_1,hfz28_2⟩:=p3 BK177)|((with_reducible refine gate_builtin (b:=.append) (xs:=#[.tmp 38,.tmp 40]) rfl ?_);at_builtin;refine Kd.R_append k90 w.heap.size rfl (.tmp 38) (.tmp 40) 88 90 (.agg #[(.int .i64 0),(.slice none 0 0),(.slice none 0 0)]) 56 rfl Tryz.underlying88 info90 rfl (by decide) (by omega) u7 x7_1 (⟨t181,x178001_2,([]:List (S90))⟩:S90) [.int .i64 t181,.slice Ao24 x178001_2.length co24,.slice none 0 0] (fun k_=>k_ ≠ gb176∧k_ ≠ gb177) (fun k_=>((fun k_=>k_ ≠ gb176∧k_ ≠ gb177)) k_∧some k_ ≠ (u7:Value).ownBlock) rfl rfl ?aP (fun _ hk=>hk) ?aF ?aO (Below.refl _ _) ?aS ?aL ?_;(case aP=>exact k90_mkM _ _ _ (⟨t181,x178001_2,([]:List (S90))⟩:S90) (Kd.R_mono (Kd.R_types (Kd.R_types (Kd.R_apart' (HO_178001.out) (Kd.R_typed HO_7.out) (by decide)) BK176.out (by decide)) BK177.out (by decide)) (fun k_ hk=>⟨⟨hk.1.2,hk.2⟩,hk.1.1.2⟩)) (Kd.R_nil _ _ _ _ _));(case aF=>exact (fun k_ hk=>⟨Kd.freshB (g:=gb176) (o:=.cells #[.int .i64 0,.slice none 0 0,.slice none 0 0] 90 (0,0)) (pK BK176) k_ hk,Kd.freshB (g:=gb177) (o:=.cells #[.int .i64 t181,.slice Ao24 x178001_2.length co24,.slice none 0 0] 90 (0,0)) (pK BK177) k_ hk⟩));(case aO=>exact (by refine pP ?_;exact Kd.R_mono HO_7.out (fun _ hk=>⟨hk.2.1,hk.2.2⟩)));(case aS=>exact (keep_size (w:=w) (g:=g) (row:=none) pH));(case aL=>have:=LMc20.out;omega);intro v184 w29 ho hb hg hat;rw [← Ny183.out] at ho;have n0_:=Z (blk_grown (g:=gb176) (o:=.cells #[.int .i64 0,.slice none 0 0,.slice none 0 0] 90 (0,0)) (pK BK176) hg (Kd.R_away HO_7.out (fun _ hk=>hk.2.1)));have n1_:=Z (blk_grown (g:=gb177) (o:=.cells #[.int .i64 t181,.slice Ao24 x178001_2.length co24,.slice none 0 0] 90 (0,0)) (pK BK177) hg (Kd.R_away HO_7.out (fun _ hk=>hk.2.2)));have n2_:=Z (IsS95.grown pI hg (IsS95.own_ne HI0.out HO_7.out (by decide)));have n3_:=Z (below_weaken pB HL.out hb);have n4_:=Z (KeepBut.trans pH (KeepBut.of_grown hg g) (Kd.R_base2 HO_7.out));have n5_:=Z (ho);clear BK176 BK177 HI0 HB HK HO_7 HO_178001;have BK176:=n0_;have BK177:=n1_;have HI0:=n2_;have HB:=n3_;have HK:=n4_;have HO185:=n5_;clear n0_ n1_ n2_ n3_ n4_ n5_ ho hb hg hat))
         go_roundg k2
         case measure=>have:=HK1.out;have:=HK2.out;omega
         case rel=>exact ⟨(y183),(wrap64 (x8_1+1)),(t182),pE,H',⟨by have:=HK1.out;have:=HK2.out;omega⟩,⟨by refine pP ?_;exact Kd.R_mono HO185.out (fun _ hk=>hk.1)⟩,⟨pK BK176⟩,⟨pI⟩,⟨pH⟩,⟨pB⟩,⟨by have h_:=HEX.out;intro y_ hy_;first|exact h_ y_ hy_|(rw [Ny183.out] at hy_;rcases List.mem_append.1 hy_ with hy_|hy_;exact h_ y_ hy_;simp at hy_;rw [hy_])⟩⟩
        ·rw [if_neg c20] at H
         exact absurd H (by simp)
       ·rw [if_neg c18] at H
        have c18b0:decide (0 < (x178001_2.length:Int))=false:=decide_eq_false c18
        have c18b1:decide (0 < x178001_2.length)=false:=decide_eq_false (by omega)
        clear c18
        have H':=Z H
        clear H
        have hnb30:=NB177_176.out
        have hnc30:=NB176_177.out
        have hnb31:=NB177_0.out
        have hnc31:=NB0_177.out
        have hcz32_0:=pV BK177 (.int .i64 1) 0 rfl
        have hcz32_1:=pV BK177 (u178001) 1 rfl
        have hcz32_2:=pV BK177 (.slice none 0 0) 2 rfl
        have hfz32_0:=kF BK177.out 0
        have hfz32_1:=kF BK177.out 1
        have hfz32_2:=kF BK177.out 2
        obtain ⟨Ao33,co33,eo33⟩:=Kd.R_slice HO_178001.out
        subst eo33
        go_wp2
        go_roundg k2
        case measure=>have:=HK1.out;have:=HK2.out;omega
        case rel=>exact ⟨(x7_1),(wrap64 (x8_1+1)),(x1001_1),pE,H',⟨by have:=HK1.out;have:=HK2.out;omega⟩,⟨by refine pP ?_;exact Kd.R_mono HO_7.out (fun _ hk=>hk.2.1)⟩,⟨pK BK176⟩,⟨pI⟩,⟨pH⟩,⟨pB⟩,⟨by have h_:=HEX.out;intro y_ hy_;first|exact h_ y_ hy_|(rw [Ny183.out] at hy_;rcases List.mem_append.1 hy_ with hy_|hy_;exact h_ y_ hy_;simp at hy_;rw [hy_])⟩⟩
   ·rw [if_neg c5] at H
    have c5b0:decide (x8_1 < 3)=false:=decide_eq_false c5
    clear c5
    replace H:=pO H
    obtain ⟨⟨t186,t187⟩,A340,H⟩:=H
    try dsimp only at H
    have A34:=Z A340
    clear A340
    by_cases c35:t186=0
    ·rw [if_pos c35] at H
     have c35b0:(t186 == 0)=true:=beq_iff_eq.mpr c35
     have c35b1:(t186 != 0)=false:=bne_eq_false_iff_eq.mpr c35
     clear c35
     by_cases c36:(x7_1.length:Int)=0
     ·rw [if_pos c36] at H
      exact absurd H (by simp)
     ·rw [if_neg c36] at H
      have c36b0:((x7_1.length:Int) == 0)=false:=beq_eq_false_iff_ne.mpr c36
      have c36b1:((x7_1.length:Int) != 0)=true:=bne_iff_ne.mpr c36
      have c36b2:¬ (x7_1=[]):=fun h_=>c36 (by rw [h_];rfl)
      obtain ⟨ji37,hji37⟩:∃ j_:Int,(Int.tmod a2 (x7_1.length:Int))=j_:=⟨_,rfl⟩
      replace H:(if 0≤(ji37) then (if (ji37) < (x7_1.length:Int) then (some ((rd_T90 x7_1 (ji37)).f0,(rd_T90 x7_1 (ji37)).f1,(rd_T90 x7_1 (ji37)).f2,t187)) else (none)) else (none))=some (r1,r2,r3,r4):=by first|(rw [hji37] at H;exact H)|(simp only [hji37] at H ⊢;exact H)
      (try rw [hji37] at A34)
      by_cases c38:0≤(ji37)
      ·rw [if_pos c38] at H
       have c38b0:decide (0≤(ji37))=true:=decide_eq_true c38
       clear c38
       by_cases c39:(ji37) < (x7_1.length:Int)
       ·rw [if_pos c39] at H
        have c39b0:decide ((ji37) < (x7_1.length:Int))=true:=decide_eq_true c39
        clear c39
        simp only [Option.some.injEq,Prod.mk.injEq] at H
        obtain ⟨rfl,rfl,rfl,rfl⟩:=H
        go_wp2_with (first|((with_reducible refine gate_callee (f:=36) rfl ?_);refine goesL_ (some 43) rfl rfl Tryz.func36 pU rfl #[.pointer (some ⟨g,0,none⟩),.int .i64 4] rfl pG ?_;(with_reducible refine (qmake_Tape_N.calls g s0_0 x1001_1 4 t186 t187 w0 _ ?side1 ?side2 A34.out).mono ?_);(case side1=>exact pI);(case side2=>exact pB);rintro e w40 ⟨rfl,hi,hb,hk⟩;refine ⟨_,rfl,?_⟩;replace HO_7:=Z (Kd.R_mono (Kd.R_keep (IsS95.apart (show IsS95 w0 _ g s0_0 x1001_1 from pI) (pR HO_7) (by decide)) hk (fun _ h=>h.2)) (fun _ h=>h.1));replace BK176:=Z (KeepBut.blk hk (g':=gb176) (o:=.cells #[.int .i64 0,.slice none 0 0,.slice none 0 0] 90 (0,0)) (pK BK176) NB176_0.out (by simp));have n2_:=Z (KeepBut.trans pH hk (.inl rfl));have n3_:=Z (hb);have n4_:=Z (hi);clear HK HB HI0;have HK:=n2_;have HB:=n3_;have HI0:=n4_;clear n2_ n3_ n4_;(try clear hb);(try clear hb2);(try clear hk);(try clear hi);obtain ⟨Ao41,co41,eo41⟩:=Kd.R_slice HO_7.out;subst eo41;have p188:0≤((ji37):Int):=of_decide_eq_true pA;have q188:(ji37) < (x7_1.length:Int):=of_decide_eq_true pA;obtain ⟨ad188,A188_1,c188_1,A188_2,c188_2,e188,hx188_0,hx188_1,hx188_2,hl188_1,hi188_1,hl188_2,hi188_2⟩:=at_T90 (Kd.R_reads' HO_7.out).2.2 (ji37) p188 q188;cases e188;obtain ⟨ce188,hce188,hMe188,hcc188⟩:=Kd.R_get HO_7.out z90 (ji37) p188 (by first|exact q188|exact of_decide_eq_true pA|(have e_:=(Kd.R_reads' HO_7.out).1;omega));obtain ⟨ve188_1,ve188_2,rfl,ge188_1,ge188_2⟩:=k90_openM hMe188;have hv188_1:=hcc188 1 _ rfl;rw [add_field _ _ 1 (by omega)] at hv188_1;replace hv188_1:=Option.some.inj (hv188_1.symm.trans hx188_1);rw [hv188_1] at ge188_1;have HL188_1:=Z (show Kd.R (Kd.int .i64) 3 _ _ _ _ ((rd_T90 x7_1 (ji37)).f1) from ge188_1);clear hv188_1 ge188_1;have hv188_2:=hcc188 2 _ rfl;rw [add_field _ _ 2 (by omega)] at hv188_2;replace hv188_2:=Option.some.inj (hv188_2.symm.trans hx188_2);rw [hv188_2] at ge188_2;have HL188_2:=Z (show Kd.R k90 90 _ _ _ _ ((rd_T90 x7_1 (ji37)).f2) from ge188_2);clear hv188_2 ge188_2 hcc188 hce188;have HR188_1:=Z hi188_1;have HC188_1:=Z hl188_1;clear hi188_1 hl188_1;have HR188_2:=Z hi188_2;have HC188_2:=Z hl188_2;clear hi188_2 hl188_2;replace p188:=eq_true p188;replace q188:=eq_true q188;have hnb42:=NB176_0.out;have hnc42:=NB0_176.out;obtain ⟨hcz43_0,hcz43_1,hcz43_2,hfz43_0,hfz43_1,hfz43_2⟩:=p3 BK176))
        refine bodyPost_ret (results_cell_row rfl _ _ gb176 90 #[.int .i64 ((rd_T90 x7_1 (ji37)).f0),.slice A188_1 ((rd_T90 x7_1 (ji37)).f1).length c188_1,.slice A188_2 ((rd_T90 x7_1 (ji37)).f2).length c188_2] (0,0) _ rfl (by refine pQ ?_;refine blk_put (cs:=#[.int .i64 ((rd_T90 x7_1 (ji37)).f0),.slice A188_1 ((rd_T90 x7_1 (ji37)).f1).length c188_1,.slice none 0 0]) ?_ 2 _ rfl;refine pQ ?_;refine blk_put (cs:=#[.int .i64 ((rd_T90 x7_1 (ji37)).f0),.slice none 0 0,.slice none 0 0]) ?_ 1 _ rfl;refine pQ ?_;refine blk_put (cs:=#[.int .i64 0,.slice none 0 0,.slice none 0 0]) ?_ 0 _ rfl;exact pK BK176) Tryz.underlying90 rfl pU) rfl ?_
        exact ⟨_,_,by first|rfl|(simp [errW_none,errW_some] <;> rfl)|(simp only [← hji37];first|rfl|(simp [errW_none,errW_some] <;> rfl))|(simp [*,errW_none,errW_some] <;> rfl),by refine pP ?_;exact Kd.R_mono (Kd.R_far (p:=⟨gb176,2,none⟩) (Kd.R_far (p:=⟨gb176,1,none⟩) (Kd.R_far (p:=⟨gb176,0,none⟩) (Kd.R_types HL188_1.out BK176.out (by decide)) (fun _ hk=>hk.2) (.int .i64 ((rd_T90 x7_1 (ji37)).f0))) (fun _ hk=>hk.2) (.slice A188_1 ((rd_T90 x7_1 (ji37)).f1).length c188_1)) (fun _ hk=>hk.2) (.slice A188_2 ((rd_T90 x7_1 (ji37)).f2).length c188_2)) (fun _ hk=>trivial),by refine pP ?_;exact R_emptyOf (HEX.out _ (rd_T32_mem (of_decide_eq_true pA) (of_decide_eq_true pA))) (Kd.R_far (p:=⟨gb176,2,none⟩) (Kd.R_far (p:=⟨gb176,1,none⟩) (Kd.R_far (p:=⟨gb176,0,none⟩) (Kd.R_mono HL188_2.out (fun k_ hk=>(⟨hk,hk.1⟩:_∧k_ ≠ gb176))) (fun _ hk=>hk.2) (.int .i64 ((rd_T90 x7_1 (ji37)).f0))) (fun _ hk=>hk.2) (.slice A188_1 ((rd_T90 x7_1 (ji37)).f1).length c188_1)) (fun _ hk=>hk.2) (.slice A188_2 ((rd_T90 x7_1 (ji37)).f2).length c188_2)) (R_other HL188_2.out HL188_1.out),pI,pB,pH⟩
       ·rw [if_neg c39] at H
        exact absurd H (by simp)
      ·rw [if_neg c38] at H
       exact absurd H (by simp)
    ·rw [if_neg c35] at H
     have c35b0:(t186 == 0)=false:=beq_eq_false_iff_ne.mpr c35
     have c35b1:(t186 != 0)=true:=bne_iff_ne.mpr c35
     obtain ⟨ji44,hji44⟩:∃ j_:Int,(mx 1 (wrap64 ((x7_1.length:Int) - 1)))=j_:=⟨_,rfl⟩
     replace H:((qmake_Tape_Range.f s0_0 t187 (ji44) (x7_1.length:Int)).bind fun bt189=>(some (bt189.1,([]:List Int),x7_1,bt189.2)))=some (r1,r2,r3,r4):=by first|(rw [hji44] at H;exact H)|(simp only [hji44] at H ⊢;exact H)
     (try rw [hji44] at A34)
     have hji44_:(if 1 < (wrap64 ((x7_1.length:Int) - 1)) then (wrap64 ((x7_1.length:Int) - 1)) else 1)=ji44:=hji44
     replace H:=pO H
     obtain ⟨⟨t189,t190⟩,A450,H⟩:=H
     try dsimp only at H
     have A45:=Z A450
     clear A450
     simp only [Option.some.injEq,Prod.mk.injEq] at H
     obtain ⟨rfl,rfl,rfl,rfl⟩:=H
     go_wp2_with (first|((with_reducible refine gate_callee (f:=36) rfl ?_);refine goesL_ (some 43) rfl rfl Tryz.func36 pU rfl #[.pointer (some ⟨g,0,none⟩),.int .i64 4] rfl pG ?_;(with_reducible refine (qmake_Tape_N.calls g s0_0 x1001_1 4 t186 t187 w0 _ ?side1 ?side2 A34.out).mono ?_);(case side1=>exact pI);(case side2=>exact pB);rintro e w46 ⟨rfl,hi,hb,hk⟩;refine ⟨_,rfl,?_⟩;replace HO_7:=Z (Kd.R_mono (Kd.R_keep (IsS95.apart (show IsS95 w0 _ g s0_0 x1001_1 from pI) (pR HO_7) (by decide)) hk (fun _ h=>h.2)) (fun _ h=>h.1));replace BK176:=Z (KeepBut.blk hk (g':=gb176) (o:=.cells #[.int .i64 0,.slice none 0 0,.slice none 0 0] 90 (0,0)) (pK BK176) NB176_0.out (by simp));have n2_:=Z (KeepBut.trans pH hk (.inl rfl));have n3_:=Z (hb);have n4_:=Z (hi);clear HK HB HI0;have HK:=n2_;have HB:=n3_;have HI0:=n4_;clear n2_ n3_ n4_;(try clear hb);(try clear hb2);(try clear hk);(try clear hi);obtain ⟨Ao47,co47,eo47⟩:=Kd.R_slice HO_7.out;subst eo47)|((with_reducible refine gate_callee (f:=90) rfl ?_);refine goesL_ (some 59) rfl rfl Tryz.func90 pU rfl #[.pointer (some ⟨g,0,none⟩),.int .i64 ji44,.int .i64 (x7_1.length:Int)] rfl (by (try simp only [List.map_toArray,List.map_cons,List.map_nil]);first|done|(simp only [hji44];rfl)|rfl|(simp only [List.length_drop,List.length_take];rfl)) ?_;(with_reducible refine (qmake_Tape_Range.calls g s0_0 t187 ji44 (x7_1.length:Int) t189 t190 w0 _ ?side1 ?side2 A45.out).mono ?_);(case side1=>exact pI);(case side2=>exact pB);rintro e w48 ⟨rfl,hi,hb,hk⟩;refine ⟨_,rfl,?_⟩;replace HO_7:=Z (Kd.R_mono (Kd.R_keep (IsS95.apart (show IsS95 w0 _ g s0_0 t187 from pI) (pR HO_7) (by decide)) hk (fun _ h=>h.2)) (fun _ h=>h.1));replace BK176:=Z (KeepBut.blk hk (g':=gb176) (o:=.cells #[.int .i64 0,.slice none 0 0,.slice none 0 0] 90 (0,0)) (pK BK176) NB176_0.out (by simp));have n2_:=Z (KeepBut.trans pH hk (.inl rfl));have n3_:=Z (hb);have n4_:=Z (hi);clear HK HB HI0;have HK:=n2_;have HB:=n3_;have HI0:=n4_;clear n2_ n3_ n4_;(try clear hb);(try clear hb2);(try clear hk);(try clear hi);have hnb49:=NB176_0.out;have hnc49:=NB0_176.out;obtain ⟨hcz50_0,hcz50_1,hcz50_2,hfz50_0,hfz50_1,hfz50_2⟩:=p3 BK176))
     refine bodyPost_ret (results_cell_row rfl _ _ gb176 90 #[.int .i64 t189,.slice none 0 0,.slice Ao47 x7_1.length co47] (0,0) _ rfl (by refine pQ ?_;refine blk_put (cs:=#[.int .i64 t189,.slice none 0 0,.slice none 0 0]) ?_ 2 _ rfl;refine pQ ?_;refine blk_put (cs:=#[.int .i64 t189,.slice none 0 0,.slice none 0 0]) ?_ 1 _ rfl;refine pQ ?_;refine blk_put (cs:=#[.int .i64 0,.slice none 0 0,.slice none 0 0]) ?_ 0 _ rfl;exact pK BK176) Tryz.underlying90 rfl pU) rfl ?_
     exact ⟨_,_,by first|rfl|(simp [errW_none,errW_some] <;> rfl)|(simp only [← hji44];first|rfl|(simp [errW_none,errW_some] <;> rfl))|(simp [*,errW_none,errW_some] <;> rfl),pN,by refine pP ?_;exact Kd.R_mono (Kd.R_far (p:=⟨gb176,2,none⟩) (Kd.R_far (p:=⟨gb176,1,none⟩) (Kd.R_far (p:=⟨gb176,0,none⟩) (Kd.R_mono HO_7.out (fun k_ hk=>(⟨hk,hk⟩:_∧k_ ≠ gb176))) (fun _ hk=>hk.2) (.int .i64 t189)) (fun _ hk=>hk.2) (.slice none 0 0)) (fun _ hk=>hk.2) (.slice Ao47 x7_1.length co47)) (fun _ hk=>(by simp [Value.ownBlock])),pI,pB,pH⟩
def qmake_Config.l0:Nat→Int→Int→Int→List Int→Int→List (S92)→Option ((List (S92)) × Int)
 | 0,_,_,_,_,_,_=>none
 | k+1,x5,x6,x8,x1000,x1001,x341000=>if x8 < x5 then (if x6=0 then ((qmake_Trust.f k x1000 x1001 x5 2).bind fun bt342=>((qmake_Tape_N.f x1000 bt342.2.2.2 12).bind fun bt350=>(if bt350.1=11 then (if x341000.length < 2199023255552 then (qmake_Config.l0 k x5 x6 (wrap64 (x8+1)) x1000 bt350.2 (x341000++[(⟨false,(⟨0,([]:List Int),([]:List (S90))⟩:S90)⟩:S92)])) else (none)) else (if x341000.length < 2199023255552 then (qmake_Config.l0 k x5 x6 (wrap64 (x8+1)) x1000 bt350.2 (x341000++[(⟨true,(⟨bt342.1,bt342.2.1,bt342.2.2.1⟩:S90)⟩:S92)])) else (none))))) else (if x6=1 then ((qmake_most.f k x1000 x1001 x5).bind fun bt358=>((qmake_Tape_N.f x1000 bt358.2.2.2 12).bind fun bt366=>(if bt366.1=11 then (if x341000.length < 2199023255552 then (qmake_Config.l0 k x5 x6 (wrap64 (x8+1)) x1000 bt366.2 (x341000++[(⟨false,(⟨0,([]:List Int),([]:List (S90))⟩:S90)⟩:S92)])) else (none)) else (if x341000.length < 2199023255552 then (qmake_Config.l0 k x5 x6 (wrap64 (x8+1)) x1000 bt366.2 (x341000++[(⟨true,(⟨bt358.1,bt358.2.1,bt358.2.2.1⟩:S90)⟩:S92)])) else (none))))) else ((qmake_group.f k x1000 x1001 x5 x8).bind fun bt374=>((qmake_Tape_N.f x1000 bt374.2.2.2 12).bind fun bt382=>(if bt382.1=11 then (if x341000.length < 2199023255552 then (qmake_Config.l0 k x5 x6 (wrap64 (x8+1)) x1000 bt382.2 (x341000++[(⟨false,(⟨0,([]:List Int),([]:List (S90))⟩:S90)⟩:S92)])) else (none)) else (if x341000.length < 2199023255552 then (qmake_Config.l0 k x5 x6 (wrap64 (x8+1)) x1000 bt382.2 (x341000++[(⟨true,(⟨bt374.1,bt374.2.1,bt374.2.2.1⟩:S90)⟩:S92)])) else (none))))))) else (some (x341000,x1001))
def qmake_Config.f (k:Nat) (s0_0:List Int) (s0_1:Int) (a1:Int):Option ((List (S92)) × Int):=(qmake_Tape_Range.f s0_0 s0_1 1 a1).bind fun bt336=>((qmake_Tape_N.f s0_0 bt336.2 3).bind fun bt338=>(qmake_Config.l0 k bt336.1 bt338.1 0 s0_0 bt338.2 ([]:List (S92))))
set_option maxHeartbeats 8000000 in
set_option maxRecDepth 100000 in
theorem qmake_Config.calls (k:Nat) (g:Nat) (s0_0:List Int) (s0_1:Int) (a1:Int) (r1:List (S92)) (r2:Int) (w0 w:World) (hI:IsS95 w0 w g s0_0 s0_1) (hB:Below w0.heap.size w0 w) (h:qmake_Config.f k s0_0 s0_1 a1=some (r1,r2)) :
  Calls Tryz.prog 21 #[.pointer (some ⟨g,0,none⟩),.int .i64 a1] w fun e w'=>∃ v0_:Value,e=.returned (.agg #[v0_])∧Kd.R k92 92 w' w.heap.size (fun _=>True) v0_ r1∧IsS95 w0 w' g s0_0 r2∧Below w0.heap.size w0 w'∧KeepBut w w' g none:=by
 have hu25:=Tryz.underlying25
 have hu90:=Tryz.underlying90
 have hu92:=Tryz.underlying92
 have HI0:=Z hI
 have HK:=Z (KeepBut.refl w g none)
 have HL:=Z hB.size
 clear hI
 have HW0:=Z hB.size
 have HB:=Z hB
 clear hB
 have H:((qmake_Tape_Range.f s0_0 s0_1 1 a1).bind fun bt336=>((qmake_Tape_N.f s0_0 bt336.2 3).bind fun bt338=>(qmake_Config.l0 k bt336.1 bt338.1 0 s0_0 bt338.2 ([]:List (S92)))))=some (r1,r2):=h
 clear h
 replace H:=pO H
 obtain ⟨⟨t336,t337⟩,A30,H⟩:=H
 try dsimp only at H
 have A3:=Z A30
 clear A30
 replace H:=pO H
 obtain ⟨⟨t338,t339⟩,A40,H⟩:=H
 try dsimp only at H
 have A4:=Z A40
 clear A40
 have H':=Z H
 clear H
 go_enter Tryz.func21,Tryz.ntmps21
 go_wp2_with (first|((with_reducible refine gate_dst (N:=4) rfl ?_);refine box_event ?hg (N:=4) ?hd (cs:=#[.slice none 0 0]) (t:=25) ?hr ?_;(case hd=>rfl);(case hg=>rfl);(case hr=>first|(go_simp;done)|(go_simp;rfl));intro gb335 hg w5 hbox hb;have n0_:=Z (IsS95.below pI hb);have n1_:=Z (KeepBut.trans pH (KeepBut.of_below hb g none) (.inl rfl));have n2_:=Z (below_step pB hb);have BK335:=Z (hbox);have GW335:=Z ((pS hg:w.heap.size≤gb335));have GE335:=Z ((Nat.le_trans HW0.out (pS hg:w.heap.size≤gb335):w0.heap.size≤gb335));have NB0_335:=Z ((pL71 hg (show IsS95 w0 _ g s0_0 s0_1 from pI):g ≠ gb335));have NB335_0:=Z ((pM71 hg (show IsS95 w0 _ g s0_0 s0_1 from pI):gb335 ≠ g));clear HI0 HK HB;have HI0:=n0_;have HK:=n1_;have HB:=n2_;clear n0_ n1_ n2_ hb hbox hg)|((with_reducible refine gate_callee (f:=90) rfl ?_);refine goesL_ (some 12) rfl rfl Tryz.func90 pU rfl #[.pointer (some ⟨g,0,none⟩),.int .i64 1,.int .i64 a1] rfl pG ?_;(with_reducible refine (qmake_Tape_Range.calls g s0_0 s0_1 1 a1 t336 t337 w0 _ ?side1 ?side2 A3.out).mono ?_);(case side1=>exact pI);(case side2=>exact pB);rintro e w6 ⟨rfl,hi,hb,hk⟩;refine ⟨_,rfl,?_⟩;replace BK335:=Z (KeepBut.blk hk (g':=gb335) (o:=.cells #[.slice none 0 0] 25 (0,0)) (pK BK335) NB335_0.out (by simp));have n1_:=Z (KeepBut.trans pH hk (.inl rfl));have n2_:=Z (hb);have n3_:=Z (hi);clear HK HB HI0;have HK:=n1_;have HB:=n2_;have HI0:=n3_;clear n1_ n2_ n3_;(try clear hb);(try clear hb2);(try clear hk);(try clear hi))|((with_reducible refine gate_callee (f:=36) rfl ?_);refine goesL_ (some 14) rfl rfl Tryz.func36 pU rfl #[.pointer (some ⟨g,0,none⟩),.int .i64 3] rfl pG ?_;(with_reducible refine (qmake_Tape_N.calls g s0_0 t337 3 t338 t339 w0 _ ?side1 ?side2 A4.out).mono ?_);(case side1=>exact pI);(case side2=>exact pB);rintro e w7 ⟨rfl,hi,hb,hk⟩;refine ⟨_,rfl,?_⟩;replace BK335:=Z (KeepBut.blk hk (g':=gb335) (o:=.cells #[.slice none 0 0] 25 (0,0)) (pK BK335) NB335_0.out (by simp));have n1_:=Z (KeepBut.trans pH hk (.inl rfl));have n2_:=Z (hb);have n3_:=Z (hi);clear HK HB HI0;have HK:=n1_;have HB:=n2_;have HI0:=n3_;clear n1_ n2_ n3_;(try clear hb);(try clear hb2);(try clear hk);(try clear hi))|((with_reducible refine gate_dst (N:=7) rfl ?_);refine box_event ?hg (N:=7) ?hd (cs:=#[.slice none 0 0]) (t:=25) ?hr ?_;(case hd=>rfl);(case hg=>rfl);(case hr=>first|(go_simp;done)|(go_simp;rfl));intro gb340 hg w8 hbox hb;have n0_:=Z (IsS95.below pI hb);have n1_:=Z (blk_below (g:=gb335) (o:=.cells #[.slice none 0 0] 25 (0,0)) (pK BK335) hb);have n2_:=Z (KeepBut.trans pH (KeepBut.of_below hb g none) (.inl rfl));have n3_:=Z (below_step pB hb);have BK340:=Z (hbox);have GW340:=Z ((pS hg:w.heap.size≤gb340));have GE340:=Z ((Nat.le_trans HW0.out (pS hg:w.heap.size≤gb340):w0.heap.size≤gb340));have NB335_340:=Z ((pL hg (pK BK335):gb335 ≠ gb340));have NB340_335:=Z ((pM hg (pK BK335):gb340 ≠ gb335));have NB0_340:=Z ((pL71 hg (show IsS95 w0 _ g s0_0 t339 from pI):g ≠ gb340));have NB340_0:=Z ((pM71 hg (show IsS95 w0 _ g s0_0 t339 from pI):gb340 ≠ g));clear HI0 BK335 HK HB;have HI0:=n0_;have BK335:=n1_;have HK:=n2_;have HB:=n3_;clear n0_ n1_ n2_ n3_ hb hbox hg))
 go_loopg [8] k (fun kq v8 w'=>∃ (x8_1:Int) (x1001_1:Int) (x341000_1:List (S92)) (u341000:Value),v8=.int .i64 x8_1∧Aside0 (qmake_Config.l0 kq t336 t338 x8_1 s0_0 x1001_1 x341000_1=some (r1,r2))∧Aside0 (kq≤k)∧Aside0 (Kd.R k92 92 w' w.heap.size (fun _=>True) u341000 x341000_1)∧Aside0 (w'.heap[gb335]?=some (.cells #[(.slice none 0 0)] 25 (0,0)))∧Aside0 (w'.heap[gb340]?=some (.cells #[u341000] 25 (0,0)))∧Aside0 (IsS95 w0 w' g s0_0 x1001_1)∧Aside0 (KeepBut w w' g none)∧Aside0 (Below w0.heap.size w0 w'))
 case atStart=>exact ⟨(0),(t339),(([]:List (S92))),(.slice none 0 0),pE,H',⟨Nat.le_refl _⟩,⟨pN⟩,⟨pK BK335⟩,⟨pK BK340⟩,⟨pI⟩,⟨pH⟩,⟨pB⟩⟩
 case round =>
  clear H'
  try clear c2
  try clear p2
  try clear c3
  obtain ⟨x8_1,x1001_1,x341000_1,u341000,rfl,HA,HK1,HO_341000,BK335,BK340,HI0,HK,HB⟩:=hrel
  cases gk with
  | zero=>exact absurd HA.out (by simp [qmake_Config.l0])
  | succ k1 =>
   have H:=HA.out
   clear HA
   simp only [qmake_Config.l0] at H
   by_cases c9:x8_1 < t336
   ·rw [if_pos c9] at H
    have c9b0:decide (x8_1 < t336)=true:=decide_eq_true c9
    clear c9
    by_cases c10:t338=0
    ·rw [if_pos c10] at H
     have c10b0:(t338 == 0)=true:=beq_iff_eq.mpr c10
     have c10b1:(t338 != 0)=false:=bne_eq_false_iff_eq.mpr c10
     clear c10
     replace H:=pO H
     obtain ⟨⟨t342,t343,t346,t349⟩,A110,H⟩:=H
     try dsimp only at H
     have A11:=Z A110
     clear A110
     replace H:=pO H
     obtain ⟨⟨t350,t351⟩,A120,H⟩:=H
     try dsimp only at H
     have A12:=Z A120
     clear A120
     by_cases c13:t350=11
     ·rw [if_pos c13] at H
      have c13b0:(t350 == 11)=true:=beq_iff_eq.mpr c13
      have c13b1:(t350 != 11)=false:=bne_eq_false_iff_eq.mpr c13
      clear c13
      by_cases c14:x341000_1.length < 2199023255552
      ·rw [if_pos c14] at H
       have LMc14:=Z c14
       clear c14
       obtain ⟨y352,hy352⟩:∃ y_:List (S92),y_=(x341000_1++[(⟨false,(⟨0,([]:List Int),([]:List (S90))⟩:S90)⟩:S92)]):=⟨_,rfl⟩
       first|rw [← hy352] at H|(replace H:=(Option.bind_some _ _).symm.trans H;rw [← hy352] at H)
       have Ny352:=Z hy352
       clear hy352
       have H':=Z H
       clear H
       go_wp2_with (first|((with_reducible refine gate_dst (N:=9) rfl ?_);refine box_event ?hg (N:=9) ?hd (cs:=#[.int .i64 0,.slice none 0 0,.slice none 0 0]) (t:=90) ?hr ?_;(case hd=>rfl);(case hg=>rfl);(case hr=>first|(go_simp;done)|(go_simp;rfl));intro gb341 hg w15 hbox hb;replace HO_341000:=Z (Kd.R_below (Kd.R_elderB (pR HO_341000) gb341 (Nat.le_of_eq hg.symm)) hb);have n1_:=Z (blk_below (g:=gb335) (o:=.cells #[.slice none 0 0] 25 (0,0)) (pK BK335) hb);have n2_:=Z (blk_below (g:=gb340) (o:=.cells #[u341000] 25 (0,0)) (pK BK340) hb);have n3_:=Z (IsS95.below pI hb);have n4_:=Z (KeepBut.trans pH (KeepBut.of_below hb g none) (.inl rfl));have n5_:=Z (below_step pB hb);have BK341:=Z (hbox);have GW341:=Z ((pS hg:w.heap.size≤gb341));have GE341:=Z ((Nat.le_trans HW0.out (pS hg:w.heap.size≤gb341):w0.heap.size≤gb341));have NB335_341:=Z ((pL hg (pK BK335):gb335 ≠ gb341));have NB341_335:=Z ((pM hg (pK BK335):gb341 ≠ gb335));have NB340_341:=Z ((pL hg (pK BK340):gb340 ≠ gb341));have NB341_340:=Z ((pM hg (pK BK340):gb341 ≠ gb340));have NB0_341:=Z ((pL71 hg (show IsS95 w0 _ g s0_0 x1001_1 from pI):g ≠ gb341));have NB341_0:=Z ((pM71 hg (show IsS95 w0 _ g s0_0 x1001_1 from pI):gb341 ≠ g));clear BK335 BK340 HI0 HK HB;have BK335:=n1_;have BK340:=n2_;have HI0:=n3_;have HK:=n4_;have HB:=n5_;clear n1_ n2_ n3_ n4_ n5_ hb hbox hg)|((with_reducible refine gate_callee (f:=91) rfl ?_);refine goesL_ (some 29) rfl rfl Tryz.func91 pU rfl #[.pointer (some ⟨g,0,none⟩),.int .i64 t336,.int .i64 2] rfl pG ?_;(with_reducible refine (qmake_Trust.calls k1 g s0_0 x1001_1 t336 2 t342 t343 t346 t349 w0 _ ?side1 ?side2 A11.out).mono ?_);(case side1=>exact pI);(case side2=>exact pB);rintro e w16 ⟨v344,v347,rfl,ho0,ho1,hi,hb,hk⟩;refine ⟨_,rfl,?_⟩;replace HO_341000:=Z (Kd.R_mono (Kd.R_told (Kd.R_told (Kd.R_oldK (IsS95.apart (show IsS95 w0 _ g s0_0 x1001_1 from pI) (pR HO_341000) (by decide)) hk) (Kd.R_base ho0)) (Kd.R_base ho1)) (fun _ h_=>h_.1));replace BK335:=Z (KeepBut.blk hk (g':=gb335) (o:=.cells #[.slice none 0 0] 25 (0,0)) (pK BK335) NB335_0.out (by simp));replace BK340:=Z (KeepBut.blk hk (g':=gb340) (o:=.cells #[u341000] 25 (0,0)) (pK BK340) NB340_0.out (by simp));have n3_:=Z (KeepBut.blk hk (g':=gb341) (o:=.cells #[.int .i64 0,.slice none 0 0,.slice none 0 0] 90 (0,0)) (pK BK341) NB341_0.out (by simp));have HO345:=Z (Kd.R_lower ho0 (keep_size (w:=w) (g:=g) (row:=none) pH));have HO348:=Z (Kd.R_lower (Kd.R_newB ho1 (g:=gb341) (o:=.cells #[.int .i64 0,.slice none 0 0,.slice none 0 0] 90 (0,0)) (pK BK341)) (keep_size (w:=w) (g:=g) (row:=none) pH));have n6_:=Z (KeepBut.trans pH hk (.inl rfl));have n7_:=Z (hb);have n8_:=Z (hi);clear BK341 HK HB HI0;have BK341:=n3_;have HK:=n6_;have HB:=n7_;have HI0:=n8_;clear n3_ n6_ n7_ n8_;(try clear hb);(try clear hb2);(try clear hk);(try clear hi);(try clear ho0);(try clear ho1);have hnb17:=NB341_335.out;have hnc17:=NB335_341.out;have hnb18:=NB341_340.out;have hnc18:=NB340_341.out;have hnb19:=NB341_0.out;have hnc19:=NB0_341.out;obtain ⟨hcz20_0,hcz20_1,hcz20_2,hfz20_0,hfz20_1,hfz20_2⟩:=p3 BK341;obtain ⟨Ao21,co21,eo21⟩:=Kd.R_slice HO345.out;subst eo21;obtain ⟨Ao22,co22,eo22⟩:=Kd.R_slice HO348.out;subst eo22)|((with_reducible refine gate_callee (f:=36) rfl ?_);refine goesL_ (some 36) rfl rfl Tryz.func36 pU rfl #[.pointer (some ⟨g,0,none⟩),.int .i64 12] rfl pG ?_;(with_reducible refine (qmake_Tape_N.calls g s0_0 t349 12 t350 t351 w0 _ ?side1 ?side2 A12.out).mono ?_);(case side1=>exact pI);(case side2=>exact pB);rintro e w23 ⟨rfl,hi,hb,hk⟩;refine ⟨_,rfl,?_⟩;replace HO_341000:=Z (Kd.R_mono (Kd.R_keep (IsS95.apart (show IsS95 w0 _ g s0_0 t349 from pI) (by refine pP ?_;exact (Kd.R_mono (Kd.R_far (p:=⟨gb341,2,none⟩) (Kd.R_far (p:=⟨gb341,1,none⟩) (Kd.R_far (p:=⟨gb341,0,none⟩) (Kd.R_mono HO_341000.out (fun k_ hk=>(⟨hk,hk.1.1.2⟩:_∧k_ ≠ gb341))) (fun _ hk=>hk.2) (.int .i64 t342)) (fun _ hk=>hk.2) (.slice Ao21 t343.length co21)) (fun _ hk=>hk.2) (.slice Ao22 t346.length co22)) (fun _ h_=>h_.1))) (by decide)) hk (fun _ h=>h.2)) (fun _ h=>h.1));replace BK335:=Z (KeepBut.blk hk (g':=gb335) (o:=.cells #[.slice none 0 0] 25 (0,0)) (by refine pQ ?_;refine blk_far ?_ NB335_341.out _;refine pQ ?_;refine blk_far ?_ NB335_341.out _;refine pQ ?_;refine blk_far ?_ NB335_341.out _;exact pK BK335) NB335_0.out (by simp));replace BK340:=Z (KeepBut.blk hk (g':=gb340) (o:=.cells #[u341000] 25 (0,0)) (by refine pQ ?_;refine blk_far ?_ NB340_341.out _;refine pQ ?_;refine blk_far ?_ NB340_341.out _;refine pQ ?_;refine blk_far ?_ NB340_341.out _;exact pK BK340) NB340_0.out (by simp));have n3_:=Z (KeepBut.blk hk (g':=gb341) (o:=.cells #[.int .i64 t342,.slice Ao21 t343.length co21,.slice Ao22 t346.length co22] 90 (0,0)) (by refine pQ ?_;refine blk_put (cs:=#[.int .i64 t342,.slice Ao21 t343.length co21,.slice none 0 0]) ?_ 2 _ rfl;refine pQ ?_;refine blk_put (cs:=#[.int .i64 t342,.slice none 0 0,.slice none 0 0]) ?_ 1 _ rfl;refine pQ ?_;refine blk_put (cs:=#[.int .i64 0,.slice none 0 0,.slice none 0 0]) ?_ 0 _ rfl;exact pK BK341) NB341_0.out (by simp));replace HO345:=Z (Kd.R_mono (Kd.R_keep (IsS95.apart (show IsS95 w0 _ g s0_0 t349 from pI) (by refine pP ?_;exact (Kd.R_mono (Kd.R_far (p:=⟨gb341,2,none⟩) (Kd.R_far (p:=⟨gb341,1,none⟩) (Kd.R_far (p:=⟨gb341,0,none⟩) (Kd.R_types HO345.out BK341.out (by decide)) (fun _ hk=>hk.2) (.int .i64 t342)) (fun _ hk=>hk.2) (.slice Ao21 t343.length co21)) (fun _ hk=>hk.2) (.slice Ao22 t346.length co22)) (fun _ h_=>h_.1))) (by decide)) hk (fun _ h=>h.2)) (fun _ h=>h.1));replace HO348:=Z (Kd.R_mono (Kd.R_keep (IsS95.apart (show IsS95 w0 _ g s0_0 t349 from pI) (by refine pP ?_;exact (Kd.R_mono (Kd.R_far (p:=⟨gb341,2,none⟩) (Kd.R_far (p:=⟨gb341,1,none⟩) (Kd.R_far (p:=⟨gb341,0,none⟩) (Kd.R_mono HO348.out (fun k_ hk=>(⟨hk,hk.2⟩:_∧k_ ≠ gb341))) (fun _ hk=>hk.2) (.int .i64 t342)) (fun _ hk=>hk.2) (.slice Ao21 t343.length co21)) (fun _ hk=>hk.2) (.slice Ao22 t346.length co22)) (fun _ h_=>h_.1))) (by decide)) hk (fun _ h=>h.2)) (fun _ h=>h.1));have n6_:=Z (KeepBut.trans pH hk (.inl rfl));have n7_:=Z (hb);have n8_:=Z (hi);clear BK341 HK HB HI0;have BK341:=n3_;have HK:=n6_;have HB:=n7_;have HI0:=n8_;clear n3_ n6_ n7_ n8_;(try clear hb);(try clear hb2);(try clear hk);(try clear hi);have hnb24:=NB340_335.out;have hnc24:=NB335_340.out;have hnb25:=NB340_0.out;have hnc25:=NB0_340.out;obtain ⟨hcz26_0,hfz26_0⟩:=p1 BK340)|((with_reducible refine gate_builtin (b:=.append) (xs:=#[.tmp 39,.tmp 41]) rfl ?_);at_builtin;refine Kd.R_append k92 w.heap.size rfl (.tmp 39) (.tmp 41) 23 92 (.agg #[(.bool false),(.int .i64 0),(.slice none 0 0),(.slice none 0 0)]) 64 rfl Tryz.underlying23 info92 rfl (by decide) (by omega) u341000 x341000_1 (⟨false,(⟨0,([]:List Int),([]:List (S90))⟩:S90)⟩:S92) [.bool false,.int .i64 0,.slice none 0 0,.slice none 0 0] (fun k_=>some k_ ≠ (.slice Ao21 t343.length co21:Value).ownBlock∧some k_ ≠ (.slice Ao22 t346.length co22:Value).ownBlock∧k_ ≠ gb341) (fun k_=>((fun k_=>some k_ ≠ (.slice Ao21 t343.length co21:Value).ownBlock∧some k_ ≠ (.slice Ao22 t346.length co22:Value).ownBlock∧k_ ≠ gb341)) k_∧some k_ ≠ (u341000:Value).ownBlock) rfl rfl ?aP (fun _ hk=>hk) ?aF ?aO (Below.refl _ _) ?aS ?aL ?_;(case aP=>exact k92_mkM _ _ _ (⟨false,(⟨0,([]:List Int),([]:List (S90))⟩:S90)⟩:S92) (Kd.R_nil _ _ _ _ _) (Kd.R_nil _ _ _ _ _));(case aF=>exact (fun k_ hk=>⟨Kd.fresh' (Kd.R_lt (pR HO345)) k_ hk,Kd.fresh' (Kd.R_lt (pR HO348)) k_ hk,Kd.freshB (g:=gb341) (o:=.cells #[.int .i64 t342,.slice Ao21 t343.length co21,.slice Ao22 t346.length co22] 90 (0,0)) (pK BK341) k_ hk⟩));(case aO=>exact (by refine pP ?_;exact Kd.R_mono HO_341000.out (fun _ hk=>⟨hk.1.2,⟨hk.2,hk.1.1.2⟩⟩)));(case aS=>exact (keep_size (w:=w) (g:=g) (row:=none) pH));(case aL=>have:=LMc14.out;omega);intro v353 w27 ho hb hg hat;rw [← Ny352.out] at ho;have n0_:=Z (blk_grown (g:=gb335) (o:=.cells #[.slice none 0 0] 25 (0,0)) (pK BK335) hg (Kd.R_ne HO_341000.out BK335.out (by decide)));have n1_:=Z (blk_grown (g:=gb340) (o:=.cells #[u341000] 25 (0,0)) (pK BK340) hg (Kd.R_ne HO_341000.out BK340.out (by decide)));have n2_:=Z (IsS95.grown pI hg (IsS95.own_ne HI0.out HO_341000.out (by decide)));have n3_:=Z (blk_grown (g:=gb341) (o:=.cells #[.int .i64 t342,.slice Ao21 t343.length co21,.slice Ao22 t346.length co22] 90 (0,0)) (pK BK341) hg (Kd.R_ne HO_341000.out BK341.out (by decide)));have n4_:=Z (Kd.R_over' (pR HO345) (Kd.R_typed (pR HO_341000)) (by decide) hg);have n5_:=Z (Kd.R_over' (pR HO348) (Kd.R_typed (pR HO_341000)) (by decide) hg);have n6_:=Z (below_weaken pB HL.out hb);have n7_:=Z (KeepBut.trans pH (KeepBut.of_grown hg g) (Kd.R_base2 HO_341000.out));have n8_:=Z (ho);clear BK335 BK340 HI0 BK341 HO345 HO348 HB HK HO_341000;have BK335:=n0_;have BK340:=n1_;have HI0:=n2_;have BK341:=n3_;have HO345:=n4_;have HO348:=n5_;have HB:=n6_;have HK:=n7_;have HO354:=n8_;clear n0_ n1_ n2_ n3_ n4_ n5_ n6_ n7_ n8_ ho hb hg hat;obtain ⟨Ao28,co28,eo28⟩:=Kd.R_slice HO354.out;subst eo28;obtain ⟨hcz29_0,hfz29_0⟩:=p1 BK340))
       go_roundg k1
       case measure=>have:=HK1.out;omega
       case rel=>exact ⟨(wrap64 (x8_1+1)),(t351),(y352),(.slice Ao28 y352.length co28),pE,H',⟨by have:=HK1.out;omega⟩,⟨by refine pP ?_;exact Kd.R_mono (Kd.R_far (p:=⟨gb340,0,none⟩) (Kd.R_types HO354.out BK340.out (by decide)) (fun _ hk=>hk.2) (.slice Ao28 y352.length co28)) (fun _ hk=>trivial)⟩,⟨by refine pQ ?_;refine blk_far ?_ NB335_340.out _;exact pK BK335⟩,⟨by refine pQ ?_;refine blk_put (cs:=#[u341000]) ?_ 0 _ rfl;exact pK BK340⟩,⟨pI⟩,⟨pH⟩,⟨pB⟩⟩
      ·rw [if_neg c14] at H
       exact absurd H (by simp)
     ·rw [if_neg c13] at H
      have c13b0:(t350 == 11)=false:=beq_eq_false_iff_ne.mpr c13
      have c13b1:(t350 != 11)=true:=bne_iff_ne.mpr c13
      by_cases c30:x341000_1.length < 2199023255552
      ·rw [if_pos c30] at H
       have LMc30:=Z c30
       clear c30
       obtain ⟨y355,hy355⟩:∃ y_:List (S92),y_=(x341000_1++[(⟨true,(⟨t342,t343,t346⟩:S90)⟩:S92)]):=⟨_,rfl⟩
       first|rw [← hy355] at H|(replace H:=(Option.bind_some _ _).symm.trans H;rw [← hy355] at H)
       have Ny355:=Z hy355
       clear hy355
       have H':=Z H
       clear H
       go_wp2_with (first|((with_reducible refine gate_dst (N:=9) rfl ?_);refine box_event ?hg (N:=9) ?hd (cs:=#[.int .i64 0,.slice none 0 0,.slice none 0 0]) (t:=90) ?hr ?_;(case hd=>rfl);(case hg=>rfl);(case hr=>first|(go_simp;done)|(go_simp;rfl));intro gb341 hg w31 hbox hb;replace HO_341000:=Z (Kd.R_below (Kd.R_elderB (pR HO_341000) gb341 (Nat.le_of_eq hg.symm)) hb);have n1_:=Z (blk_below (g:=gb335) (o:=.cells #[.slice none 0 0] 25 (0,0)) (pK BK335) hb);have n2_:=Z (blk_below (g:=gb340) (o:=.cells #[u341000] 25 (0,0)) (pK BK340) hb);have n3_:=Z (IsS95.below pI hb);have n4_:=Z (KeepBut.trans pH (KeepBut.of_below hb g none) (.inl rfl));have n5_:=Z (below_step pB hb);have BK341:=Z (hbox);have GW341:=Z ((pS hg:w.heap.size≤gb341));have GE341:=Z ((Nat.le_trans HW0.out (pS hg:w.heap.size≤gb341):w0.heap.size≤gb341));have NB335_341:=Z ((pL hg (pK BK335):gb335 ≠ gb341));have NB341_335:=Z ((pM hg (pK BK335):gb341 ≠ gb335));have NB340_341:=Z ((pL hg (pK BK340):gb340 ≠ gb341));have NB341_340:=Z ((pM hg (pK BK340):gb341 ≠ gb340));have NB0_341:=Z ((pL71 hg (show IsS95 w0 _ g s0_0 x1001_1 from pI):g ≠ gb341));have NB341_0:=Z ((pM71 hg (show IsS95 w0 _ g s0_0 x1001_1 from pI):gb341 ≠ g));clear BK335 BK340 HI0 HK HB;have BK335:=n1_;have BK340:=n2_;have HI0:=n3_;have HK:=n4_;have HB:=n5_;clear n1_ n2_ n3_ n4_ n5_ hb hbox hg)|((with_reducible refine gate_callee (f:=91) rfl ?_);refine goesL_ (some 29) rfl rfl Tryz.func91 pU rfl #[.pointer (some ⟨g,0,none⟩),.int .i64 t336,.int .i64 2] rfl pG ?_;(with_reducible refine (qmake_Trust.calls k1 g s0_0 x1001_1 t336 2 t342 t343 t346 t349 w0 _ ?side1 ?side2 A11.out).mono ?_);(case side1=>exact pI);(case side2=>exact pB);rintro e w32 ⟨v344,v347,rfl,ho0,ho1,hi,hb,hk⟩;refine ⟨_,rfl,?_⟩;replace HO_341000:=Z (Kd.R_mono (Kd.R_told (Kd.R_told (Kd.R_oldK (IsS95.apart (show IsS95 w0 _ g s0_0 x1001_1 from pI) (pR HO_341000) (by decide)) hk) (Kd.R_base ho0)) (Kd.R_base ho1)) (fun _ h_=>h_.1));replace BK335:=Z (KeepBut.blk hk (g':=gb335) (o:=.cells #[.slice none 0 0] 25 (0,0)) (pK BK335) NB335_0.out (by simp));replace BK340:=Z (KeepBut.blk hk (g':=gb340) (o:=.cells #[u341000] 25 (0,0)) (pK BK340) NB340_0.out (by simp));have n3_:=Z (KeepBut.blk hk (g':=gb341) (o:=.cells #[.int .i64 0,.slice none 0 0,.slice none 0 0] 90 (0,0)) (pK BK341) NB341_0.out (by simp));have HO345:=Z (Kd.R_lower ho0 (keep_size (w:=w) (g:=g) (row:=none) pH));have HO348:=Z (Kd.R_lower (Kd.R_newB ho1 (g:=gb341) (o:=.cells #[.int .i64 0,.slice none 0 0,.slice none 0 0] 90 (0,0)) (pK BK341)) (keep_size (w:=w) (g:=g) (row:=none) pH));have n6_:=Z (KeepBut.trans pH hk (.inl rfl));have n7_:=Z (hb);have n8_:=Z (hi);clear BK341 HK HB HI0;have BK341:=n3_;have HK:=n6_;have HB:=n7_;have HI0:=n8_;clear n3_ n6_ n7_ n8_;(try clear hb);(try clear hb2);(try clear hk);(try clear hi);(try clear ho0);(try clear ho1);have hnb33:=NB341_335.out;have hnc33:=NB335_341.out;have hnb34:=NB341_340.out;have hnc34:=NB340_341.out;have hnb35:=NB341_0.out;have hnc35:=NB0_341.out;obtain ⟨hcz36_0,hcz36_1,hcz36_2,hfz36_0,hfz36_1,hfz36_2⟩:=p3 BK341;obtain ⟨Ao37,co37,eo37⟩:=Kd.R_slice HO345.out;subst eo37;obtain ⟨Ao38,co38,eo38⟩:=Kd.R_slice HO348.out;subst eo38)|((with_reducible refine gate_callee (f:=36) rfl ?_);refine goesL_ (some 36) rfl rfl Tryz.func36 pU rfl #[.pointer (some ⟨g,0,none⟩),.int .i64 12] rfl pG ?_;(with_reducible refine (qmake_Tape_N.calls g s0_0 t349 12 t350 t351 w0 _ ?side1 ?side2 A12.out).mono ?_);(case side1=>exact pI);(case side2=>exact pB);rintro e w39 ⟨rfl,hi,hb,hk⟩;refine ⟨_,rfl,?_⟩;replace HO_341000:=Z (Kd.R_mono (Kd.R_keep (IsS95.apart (show IsS95 w0 _ g s0_0 t349 from pI) (by refine pP ?_;exact (Kd.R_mono (Kd.R_far (p:=⟨gb341,2,none⟩) (Kd.R_far (p:=⟨gb341,1,none⟩) (Kd.R_far (p:=⟨gb341,0,none⟩) (Kd.R_mono HO_341000.out (fun k_ hk=>(⟨hk,hk.1.1.2⟩:_∧k_ ≠ gb341))) (fun _ hk=>hk.2) (.int .i64 t342)) (fun _ hk=>hk.2) (.slice Ao37 t343.length co37)) (fun _ hk=>hk.2) (.slice Ao38 t346.length co38)) (fun _ h_=>h_.1))) (by decide)) hk (fun _ h=>h.2)) (fun _ h=>h.1));replace BK335:=Z (KeepBut.blk hk (g':=gb335) (o:=.cells #[.slice none 0 0] 25 (0,0)) (by refine pQ ?_;refine blk_far ?_ NB335_341.out _;refine pQ ?_;refine blk_far ?_ NB335_341.out _;refine pQ ?_;refine blk_far ?_ NB335_341.out _;exact pK BK335) NB335_0.out (by simp));replace BK340:=Z (KeepBut.blk hk (g':=gb340) (o:=.cells #[u341000] 25 (0,0)) (by refine pQ ?_;refine blk_far ?_ NB340_341.out _;refine pQ ?_;refine blk_far ?_ NB340_341.out _;refine pQ ?_;refine blk_far ?_ NB340_341.out _;exact pK BK340) NB340_0.out (by simp));have n3_:=Z (KeepBut.blk hk (g':=gb341) (o:=.cells #[.int .i64 t342,.slice Ao37 t343.length co37,.slice Ao38 t346.length co38] 90 (0,0)) (by refine pQ ?_;refine blk_put (cs:=#[.int .i64 t342,.slice Ao37 t343.length co37,.slice none 0 0]) ?_ 2 _ rfl;refine pQ ?_;refine blk_put (cs:=#[.int .i64 t342,.slice none 0 0,.slice none 0 0]) ?_ 1 _ rfl;refine pQ ?_;refine blk_put (cs:=#[.int .i64 0,.slice none 0 0,.slice none 0 0]) ?_ 0 _ rfl;exact pK BK341) NB341_0.out (by simp));replace HO345:=Z (Kd.R_mono (Kd.R_keep (IsS95.apart (show IsS95 w0 _ g s0_0 t349 from pI) (by refine pP ?_;exact (Kd.R_mono (Kd.R_far (p:=⟨gb341,2,none⟩) (Kd.R_far (p:=⟨gb341,1,none⟩) (Kd.R_far (p:=⟨gb341,0,none⟩) (Kd.R_types HO345.out BK341.out (by decide)) (fun _ hk=>hk.2) (.int .i64 t342)) (fun _ hk=>hk.2) (.slice Ao37 t343.length co37)) (fun _ hk=>hk.2) (.slice Ao38 t346.length co38)) (fun _ h_=>h_.1))) (by decide)) hk (fun _ h=>h.2)) (fun _ h=>h.1));replace HO348:=Z (Kd.R_mono (Kd.R_keep (IsS95.apart (show IsS95 w0 _ g s0_0 t349 from pI) (by refine pP ?_;exact (Kd.R_mono (Kd.R_far (p:=⟨gb341,2,none⟩) (Kd.R_far (p:=⟨gb341,1,none⟩) (Kd.R_far (p:=⟨gb341,0,none⟩) (Kd.R_mono HO348.out (fun k_ hk=>(⟨hk,hk.2⟩:_∧k_ ≠ gb341))) (fun _ hk=>hk.2) (.int .i64 t342)) (fun _ hk=>hk.2) (.slice Ao37 t343.length co37)) (fun _ hk=>hk.2) (.slice Ao38 t346.length co38)) (fun _ h_=>h_.1))) (by decide)) hk (fun _ h=>h.2)) (fun _ h=>h.1));have n6_:=Z (KeepBut.trans pH hk (.inl rfl));have n7_:=Z (hb);have n8_:=Z (hi);clear BK341 HK HB HI0;have BK341:=n3_;have HK:=n6_;have HB:=n7_;have HI0:=n8_;clear n3_ n6_ n7_ n8_;(try clear hb);(try clear hb2);(try clear hk);(try clear hi);have hnb40:=NB340_335.out;have hnc40:=NB335_340.out;have hnb41:=NB340_0.out;have hnc41:=NB0_340.out;obtain ⟨hcz42_0,hfz42_0⟩:=p1 BK340;obtain ⟨hcz43_0,hcz43_1,hcz43_2,hfz43_0,hfz43_1,hfz43_2⟩:=p3 BK341)|((with_reducible refine gate_builtin (b:=.append) (xs:=#[.tmp 45,.tmp 48]) rfl ?_);at_builtin;refine Kd.R_append k92 w.heap.size rfl (.tmp 45) (.tmp 48) 23 92 (.agg #[(.bool false),(.int .i64 0),(.slice none 0 0),(.slice none 0 0)]) 64 rfl Tryz.underlying23 info92 rfl (by decide) (by omega) u341000 x341000_1 (⟨true,(⟨t342,t343,t346⟩:S90)⟩:S92) [.bool true,.int .i64 t342,.slice Ao37 t343.length co37,.slice Ao38 t346.length co38] (fun k_=>k_ ≠ gb341) (fun k_=>((fun k_=>k_ ≠ gb341)) k_∧some k_ ≠ (u341000:Value).ownBlock) rfl rfl ?aP (fun _ hk=>hk) ?aF ?aO (Below.refl _ _) ?aS ?aL ?_;(case aP=>exact k92_mkM _ _ _ (⟨true,(⟨t342,t343,t346⟩:S90)⟩:S92) (Kd.R_mono (Kd.R_types (Kd.R_apart' (HO345.out) (Kd.R_typed HO_341000.out) (by decide)) BK341.out (by decide)) (fun k_ hk=>⟨hk.2,hk.1.2⟩)) (Kd.R_mono (Kd.R_apart' (HO348.out) (Kd.R_typed HO_341000.out) (by decide)) (fun k_ hk=>⟨hk.1.2,hk.2⟩)));(case aF=>exact (fun k_ hk=>Kd.freshB (g:=gb341) (o:=.cells #[.int .i64 t342,.slice Ao37 t343.length co37,.slice Ao38 t346.length co38] 90 (0,0)) (pK BK341) k_ hk));(case aO=>exact (by refine pP ?_;exact Kd.R_mono HO_341000.out (fun _ hk=>hk.1.1.2)));(case aS=>exact (keep_size (w:=w) (g:=g) (row:=none) pH));(case aL=>have:=LMc30.out;omega);intro v356 w44 ho hb hg hat;rw [← Ny355.out] at ho;have n0_:=Z (blk_grown (g:=gb335) (o:=.cells #[.slice none 0 0] 25 (0,0)) (pK BK335) hg (Kd.R_ne HO_341000.out BK335.out (by decide)));have n1_:=Z (blk_grown (g:=gb340) (o:=.cells #[u341000] 25 (0,0)) (pK BK340) hg (Kd.R_ne HO_341000.out BK340.out (by decide)));have n2_:=Z (IsS95.grown pI hg (IsS95.own_ne HI0.out HO_341000.out (by decide)));have n3_:=Z (blk_grown (g:=gb341) (o:=.cells #[.int .i64 t342,.slice Ao37 t343.length co37,.slice Ao38 t346.length co38] 90 (0,0)) (pK BK341) hg (Kd.R_ne HO_341000.out BK341.out (by decide)));have n4_:=Z (below_weaken pB HL.out hb);have n5_:=Z (KeepBut.trans pH (KeepBut.of_grown hg g) (Kd.R_base2 HO_341000.out));have n6_:=Z (ho);clear BK335 BK340 HI0 BK341 HB HK HO_341000 HO345 HO348;have BK335:=n0_;have BK340:=n1_;have HI0:=n2_;have BK341:=n3_;have HB:=n4_;have HK:=n5_;have HO357:=n6_;clear n0_ n1_ n2_ n3_ n4_ n5_ n6_ ho hb hg hat;obtain ⟨Ao45,co45,eo45⟩:=Kd.R_slice HO357.out;subst eo45;obtain ⟨hcz46_0,hfz46_0⟩:=p1 BK340))
       go_roundg k1
       case measure=>have:=HK1.out;omega
       case rel=>exact ⟨(wrap64 (x8_1+1)),(t351),(y355),(.slice Ao45 y355.length co45),pE,H',⟨by have:=HK1.out;omega⟩,⟨by refine pP ?_;exact Kd.R_mono (Kd.R_far (p:=⟨gb340,0,none⟩) (Kd.R_types HO357.out BK340.out (by decide)) (fun _ hk=>hk.2) (.slice Ao45 y355.length co45)) (fun _ hk=>trivial)⟩,⟨by refine pQ ?_;refine blk_far ?_ NB335_340.out _;exact pK BK335⟩,⟨by refine pQ ?_;refine blk_put (cs:=#[u341000]) ?_ 0 _ rfl;exact pK BK340⟩,⟨pI⟩,⟨pH⟩,⟨pB⟩⟩
      ·rw [if_neg c30] at H
       exact absurd H (by simp)
    ·rw [if_neg c10] at H
     have c10b0:(t338 == 0)=false:=beq_eq_false_iff_ne.mpr c10
     have c10b1:(t338 != 0)=true:=bne_iff_ne.mpr c10
     by_cases c47:t338=1
     ·rw [if_pos c47] at H
      have c47b0:(t338 == 1)=true:=beq_iff_eq.mpr c47
      have c47b1:(t338 != 1)=false:=bne_eq_false_iff_eq.mpr c47
      clear c47
      replace H:=pO H
      obtain ⟨⟨t358,t359,t362,t365⟩,A480,H⟩:=H
      try dsimp only at H
      have A48:=Z A480
      clear A480
      replace H:=pO H
      obtain ⟨⟨t366,t367⟩,A490,H⟩:=H
      try dsimp only at H
      have A49:=Z A490
      clear A490
      by_cases c50:t366=11
      ·rw [if_pos c50] at H
       have c50b0:(t366 == 11)=true:=beq_iff_eq.mpr c50
       have c50b1:(t366 != 11)=false:=bne_eq_false_iff_eq.mpr c50
       clear c50
       by_cases c51:x341000_1.length < 2199023255552
       ·rw [if_pos c51] at H
        have LMc51:=Z c51
        clear c51
        obtain ⟨y368,hy368⟩:∃ y_:List (S92),y_=(x341000_1++[(⟨false,(⟨0,([]:List Int),([]:List (S90))⟩:S90)⟩:S92)]):=⟨_,rfl⟩
        first|rw [← hy368] at H|(replace H:=(Option.bind_some _ _).symm.trans H;rw [← hy368] at H)
        have Ny368:=Z hy368
        clear hy368
        have H':=Z H
        clear H
        go_wp2_with (first|((with_reducible refine gate_dst (N:=9) rfl ?_);refine box_event ?hg (N:=9) ?hd (cs:=#[.int .i64 0,.slice none 0 0,.slice none 0 0]) (t:=90) ?hr ?_;(case hd=>rfl);(case hg=>rfl);(case hr=>first|(go_simp;done)|(go_simp;rfl));intro gb341 hg w52 hbox hb;replace HO_341000:=Z (Kd.R_below (Kd.R_elderB (pR HO_341000) gb341 (Nat.le_of_eq hg.symm)) hb);have n1_:=Z (blk_below (g:=gb335) (o:=.cells #[.slice none 0 0] 25 (0,0)) (pK BK335) hb);have n2_:=Z (blk_below (g:=gb340) (o:=.cells #[u341000] 25 (0,0)) (pK BK340) hb);have n3_:=Z (IsS95.below pI hb);have n4_:=Z (KeepBut.trans pH (KeepBut.of_below hb g none) (.inl rfl));have n5_:=Z (below_step pB hb);have BK341:=Z (hbox);have GW341:=Z ((pS hg:w.heap.size≤gb341));have GE341:=Z ((Nat.le_trans HW0.out (pS hg:w.heap.size≤gb341):w0.heap.size≤gb341));have NB335_341:=Z ((pL hg (pK BK335):gb335 ≠ gb341));have NB341_335:=Z ((pM hg (pK BK335):gb341 ≠ gb335));have NB340_341:=Z ((pL hg (pK BK340):gb340 ≠ gb341));have NB341_340:=Z ((pM hg (pK BK340):gb341 ≠ gb340));have NB0_341:=Z ((pL71 hg (show IsS95 w0 _ g s0_0 x1001_1 from pI):g ≠ gb341));have NB341_0:=Z ((pM71 hg (show IsS95 w0 _ g s0_0 x1001_1 from pI):gb341 ≠ g));clear BK335 BK340 HI0 HK HB;have BK335:=n1_;have BK340:=n2_;have HI0:=n3_;have HK:=n4_;have HB:=n5_;clear n1_ n2_ n3_ n4_ n5_ hb hbox hg)|((with_reducible refine gate_callee (f:=92) rfl ?_);refine goesL_ (some 34) rfl rfl Tryz.func92 pU rfl #[.pointer (some ⟨g,0,none⟩),.int .i64 t336] rfl pG ?_;(with_reducible refine (qmake_most.calls k1 g s0_0 x1001_1 t336 t358 t359 t362 t365 w0 _ ?side1 ?side2 A48.out).mono ?_);(case side1=>exact pI);(case side2=>exact pB);rintro e w53 ⟨v360,v363,rfl,ho0,ho1,hi,hb,hk⟩;refine ⟨_,rfl,?_⟩;replace HO_341000:=Z (Kd.R_mono (Kd.R_told (Kd.R_told (Kd.R_oldK (IsS95.apart (show IsS95 w0 _ g s0_0 x1001_1 from pI) (pR HO_341000) (by decide)) hk) (Kd.R_base ho0)) (Kd.R_base ho1)) (fun _ h_=>h_.1));replace BK335:=Z (KeepBut.blk hk (g':=gb335) (o:=.cells #[.slice none 0 0] 25 (0,0)) (pK BK335) NB335_0.out (by simp));replace BK340:=Z (KeepBut.blk hk (g':=gb340) (o:=.cells #[u341000] 25 (0,0)) (pK BK340) NB340_0.out (by simp));have n3_:=Z (KeepBut.blk hk (g':=gb341) (o:=.cells #[.int .i64 0,.slice none 0 0,.slice none 0 0] 90 (0,0)) (pK BK341) NB341_0.out (by simp));have HO361:=Z (Kd.R_lower ho0 (keep_size (w:=w) (g:=g) (row:=none) pH));have HO364:=Z (Kd.R_lower (Kd.R_newB ho1 (g:=gb341) (o:=.cells #[.int .i64 0,.slice none 0 0,.slice none 0 0] 90 (0,0)) (pK BK341)) (keep_size (w:=w) (g:=g) (row:=none) pH));have n6_:=Z (KeepBut.trans pH hk (.inl rfl));have n7_:=Z (hb);have n8_:=Z (hi);clear BK341 HK HB HI0;have BK341:=n3_;have HK:=n6_;have HB:=n7_;have HI0:=n8_;clear n3_ n6_ n7_ n8_;(try clear hb);(try clear hb2);(try clear hk);(try clear hi);(try clear ho0);(try clear ho1);have hnb54:=NB341_335.out;have hnc54:=NB335_341.out;have hnb55:=NB341_340.out;have hnc55:=NB340_341.out;have hnb56:=NB341_0.out;have hnc56:=NB0_341.out;obtain ⟨hcz57_0,hcz57_1,hcz57_2,hfz57_0,hfz57_1,hfz57_2⟩:=p3 BK341;obtain ⟨Ao58,co58,eo58⟩:=Kd.R_slice HO361.out;subst eo58;obtain ⟨Ao59,co59,eo59⟩:=Kd.R_slice HO364.out;subst eo59)|((with_reducible refine gate_callee (f:=36) rfl ?_);refine goesL_ (some 36) rfl rfl Tryz.func36 pU rfl #[.pointer (some ⟨g,0,none⟩),.int .i64 12] rfl pG ?_;(with_reducible refine (qmake_Tape_N.calls g s0_0 t365 12 t366 t367 w0 _ ?side1 ?side2 A49.out).mono ?_);(case side1=>exact pI);(case side2=>exact pB);rintro e w60 ⟨rfl,hi,hb,hk⟩;refine ⟨_,rfl,?_⟩;replace HO_341000:=Z (Kd.R_mono (Kd.R_keep (IsS95.apart (show IsS95 w0 _ g s0_0 t365 from pI) (by refine pP ?_;exact (Kd.R_mono (Kd.R_far (p:=⟨gb341,2,none⟩) (Kd.R_far (p:=⟨gb341,1,none⟩) (Kd.R_far (p:=⟨gb341,0,none⟩) (Kd.R_mono HO_341000.out (fun k_ hk=>(⟨hk,hk.1.1.2⟩:_∧k_ ≠ gb341))) (fun _ hk=>hk.2) (.int .i64 t358)) (fun _ hk=>hk.2) (.slice Ao58 t359.length co58)) (fun _ hk=>hk.2) (.slice Ao59 t362.length co59)) (fun _ h_=>h_.1))) (by decide)) hk (fun _ h=>h.2)) (fun _ h=>h.1));replace BK335:=Z (KeepBut.blk hk (g':=gb335) (o:=.cells #[.slice none 0 0] 25 (0,0)) (by refine pQ ?_;refine blk_far ?_ NB335_341.out _;refine pQ ?_;refine blk_far ?_ NB335_341.out _;refine pQ ?_;refine blk_far ?_ NB335_341.out _;exact pK BK335) NB335_0.out (by simp));replace BK340:=Z (KeepBut.blk hk (g':=gb340) (o:=.cells #[u341000] 25 (0,0)) (by refine pQ ?_;refine blk_far ?_ NB340_341.out _;refine pQ ?_;refine blk_far ?_ NB340_341.out _;refine pQ ?_;refine blk_far ?_ NB340_341.out _;exact pK BK340) NB340_0.out (by simp));have n3_:=Z (KeepBut.blk hk (g':=gb341) (o:=.cells #[.int .i64 t358,.slice Ao58 t359.length co58,.slice Ao59 t362.length co59] 90 (0,0)) (by refine pQ ?_;refine blk_put (cs:=#[.int .i64 t358,.slice Ao58 t359.length co58,.slice none 0 0]) ?_ 2 _ rfl;refine pQ ?_;refine blk_put (cs:=#[.int .i64 t358,.slice none 0 0,.slice none 0 0]) ?_ 1 _ rfl;refine pQ ?_;refine blk_put (cs:=#[.int .i64 0,.slice none 0 0,.slice none 0 0]) ?_ 0 _ rfl;exact pK BK341) NB341_0.out (by simp));replace HO361:=Z (Kd.R_mono (Kd.R_keep (IsS95.apart (show IsS95 w0 _ g s0_0 t365 from pI) (by refine pP ?_;exact (Kd.R_mono (Kd.R_far (p:=⟨gb341,2,none⟩) (Kd.R_far (p:=⟨gb341,1,none⟩) (Kd.R_far (p:=⟨gb341,0,none⟩) (Kd.R_types HO361.out BK341.out (by decide)) (fun _ hk=>hk.2) (.int .i64 t358)) (fun _ hk=>hk.2) (.slice Ao58 t359.length co58)) (fun _ hk=>hk.2) (.slice Ao59 t362.length co59)) (fun _ h_=>h_.1))) (by decide)) hk (fun _ h=>h.2)) (fun _ h=>h.1));replace HO364:=Z (Kd.R_mono (Kd.R_keep (IsS95.apart (show IsS95 w0 _ g s0_0 t365 from pI) (by refine pP ?_;exact (Kd.R_mono (Kd.R_far (p:=⟨gb341,2,none⟩) (Kd.R_far (p:=⟨gb341,1,none⟩) (Kd.R_far (p:=⟨gb341,0,none⟩) (Kd.R_mono HO364.out (fun k_ hk=>(⟨hk,hk.2⟩:_∧k_ ≠ gb341))) (fun _ hk=>hk.2) (.int .i64 t358)) (fun _ hk=>hk.2) (.slice Ao58 t359.length co58)) (fun _ hk=>hk.2) (.slice Ao59 t362.length co59)) (fun _ h_=>h_.1))) (by decide)) hk (fun _ h=>h.2)) (fun _ h=>h.1));have n6_:=Z (KeepBut.trans pH hk (.inl rfl));have n7_:=Z (hb);have n8_:=Z (hi);clear BK341 HK HB HI0;have BK341:=n3_;have HK:=n6_;have HB:=n7_;have HI0:=n8_;clear n3_ n6_ n7_ n8_;(try clear hb);(try clear hb2);(try clear hk);(try clear hi);have hnb61:=NB340_335.out;have hnc61:=NB335_340.out;have hnb62:=NB340_0.out;have hnc62:=NB0_340.out;obtain ⟨hcz63_0,hfz63_0⟩:=p1 BK340)|((with_reducible refine gate_builtin (b:=.append) (xs:=#[.tmp 39,.tmp 41]) rfl ?_);at_builtin;refine Kd.R_append k92 w.heap.size rfl (.tmp 39) (.tmp 41) 23 92 (.agg #[(.bool false),(.int .i64 0),(.slice none 0 0),(.slice none 0 0)]) 64 rfl Tryz.underlying23 info92 rfl (by decide) (by omega) u341000 x341000_1 (⟨false,(⟨0,([]:List Int),([]:List (S90))⟩:S90)⟩:S92) [.bool false,.int .i64 0,.slice none 0 0,.slice none 0 0] (fun k_=>some k_ ≠ (.slice Ao58 t359.length co58:Value).ownBlock∧some k_ ≠ (.slice Ao59 t362.length co59:Value).ownBlock∧k_ ≠ gb341) (fun k_=>((fun k_=>some k_ ≠ (.slice Ao58 t359.length co58:Value).ownBlock∧some k_ ≠ (.slice Ao59 t362.length co59:Value).ownBlock∧k_ ≠ gb341)) k_∧some k_ ≠ (u341000:Value).ownBlock) rfl rfl ?aP (fun _ hk=>hk) ?aF ?aO (Below.refl _ _) ?aS ?aL ?_;(case aP=>exact k92_mkM _ _ _ (⟨false,(⟨0,([]:List Int),([]:List (S90))⟩:S90)⟩:S92) (Kd.R_nil _ _ _ _ _) (Kd.R_nil _ _ _ _ _));(case aF=>exact (fun k_ hk=>⟨Kd.fresh' (Kd.R_lt (pR HO361)) k_ hk,Kd.fresh' (Kd.R_lt (pR HO364)) k_ hk,Kd.freshB (g:=gb341) (o:=.cells #[.int .i64 t358,.slice Ao58 t359.length co58,.slice Ao59 t362.length co59] 90 (0,0)) (pK BK341) k_ hk⟩));(case aO=>exact (by refine pP ?_;exact Kd.R_mono HO_341000.out (fun _ hk=>⟨hk.1.2,⟨hk.2,hk.1.1.2⟩⟩)));(case aS=>exact (keep_size (w:=w) (g:=g) (row:=none) pH));(case aL=>have:=LMc51.out;omega);intro v369 w64 ho hb hg hat;rw [← Ny368.out] at ho;have n0_:=Z (blk_grown (g:=gb335) (o:=.cells #[.slice none 0 0] 25 (0,0)) (pK BK335) hg (Kd.R_ne HO_341000.out BK335.out (by decide)));have n1_:=Z (blk_grown (g:=gb340) (o:=.cells #[u341000] 25 (0,0)) (pK BK340) hg (Kd.R_ne HO_341000.out BK340.out (by decide)));have n2_:=Z (IsS95.grown pI hg (IsS95.own_ne HI0.out HO_341000.out (by decide)));have n3_:=Z (blk_grown (g:=gb341) (o:=.cells #[.int .i64 t358,.slice Ao58 t359.length co58,.slice Ao59 t362.length co59] 90 (0,0)) (pK BK341) hg (Kd.R_ne HO_341000.out BK341.out (by decide)));have n4_:=Z (Kd.R_over' (pR HO361) (Kd.R_typed (pR HO_341000)) (by decide) hg);have n5_:=Z (Kd.R_over' (pR HO364) (Kd.R_typed (pR HO_341000)) (by decide) hg);have n6_:=Z (below_weaken pB HL.out hb);have n7_:=Z (KeepBut.trans pH (KeepBut.of_grown hg g) (Kd.R_base2 HO_341000.out));have n8_:=Z (ho);clear BK335 BK340 HI0 BK341 HO361 HO364 HB HK HO_341000;have BK335:=n0_;have BK340:=n1_;have HI0:=n2_;have BK341:=n3_;have HO361:=n4_;have HO364:=n5_;have HB:=n6_;have HK:=n7_;have HO370:=n8_;clear n0_ n1_ n2_ n3_ n4_ n5_ n6_ n7_ n8_ ho hb hg hat;obtain ⟨Ao65,co65,eo65⟩:=Kd.R_slice HO370.out;subst eo65;obtain ⟨hcz66_0,hfz66_0⟩:=p1 BK340))
        go_roundg k1
        case measure=>have:=HK1.out;omega
        case rel=>exact ⟨(wrap64 (x8_1+1)),(t367),(y368),(.slice Ao65 y368.length co65),pE,H',⟨by have:=HK1.out;omega⟩,⟨by refine pP ?_;exact Kd.R_mono (Kd.R_far (p:=⟨gb340,0,none⟩) (Kd.R_types HO370.out BK340.out (by decide)) (fun _ hk=>hk.2) (.slice Ao65 y368.length co65)) (fun _ hk=>trivial)⟩,⟨by refine pQ ?_;refine blk_far ?_ NB335_340.out _;exact pK BK335⟩,⟨by refine pQ ?_;refine blk_put (cs:=#[u341000]) ?_ 0 _ rfl;exact pK BK340⟩,⟨pI⟩,⟨pH⟩,⟨pB⟩⟩
       ·rw [if_neg c51] at H
        exact absurd H (by simp)
      ·rw [if_neg c50] at H
       have c50b0:(t366 == 11)=false:=beq_eq_false_iff_ne.mpr c50
       have c50b1:(t366 != 11)=true:=bne_iff_ne.mpr c50
       by_cases c67:x341000_1.length < 2199023255552
       ·rw [if_pos c67] at H
        have LMc67:=Z c67
        clear c67
        obtain ⟨y371,hy371⟩:∃ y_:List (S92),y_=(x341000_1++[(⟨true,(⟨t358,t359,t362⟩:S90)⟩:S92)]):=⟨_,rfl⟩
        first|rw [← hy371] at H|(replace H:=(Option.bind_some _ _).symm.trans H;rw [← hy371] at H)
        have Ny371:=Z hy371
        clear hy371
        have H':=Z H
        clear H
        go_wp2_with (first|((with_reducible refine gate_dst (N:=9) rfl ?_);refine box_event ?hg (N:=9) ?hd (cs:=#[.int .i64 0,.slice none 0 0,.slice none 0 0]) (t:=90) ?hr ?_;(case hd=>rfl);(case hg=>rfl);(case hr=>first|(go_simp;done)|(go_simp;rfl));intro gb341 hg w68 hbox hb;replace HO_341000:=Z (Kd.R_below (Kd.R_elderB (pR HO_341000) gb341 (Nat.le_of_eq hg.symm)) hb);have n1_:=Z (blk_below (g:=gb335) (o:=.cells #[.slice none 0 0] 25 (0,0)) (pK BK335) hb);have n2_:=Z (blk_below (g:=gb340) (o:=.cells #[u341000] 25 (0,0)) (pK BK340) hb);have n3_:=Z (IsS95.below pI hb);have n4_:=Z (KeepBut.trans pH (KeepBut.of_below hb g none) (.inl rfl));have n5_:=Z (below_step pB hb);have BK341:=Z (hbox);have GW341:=Z ((pS hg:w.heap.size≤gb341));have GE341:=Z ((Nat.le_trans HW0.out (pS hg:w.heap.size≤gb341):w0.heap.size≤gb341));have NB335_341:=Z ((pL hg (pK BK335):gb335 ≠ gb341));have NB341_335:=Z ((pM hg (pK BK335):gb341 ≠ gb335));have NB340_341:=Z ((pL hg (pK BK340):gb340 ≠ gb341));have NB341_340:=Z ((pM hg (pK BK340):gb341 ≠ gb340));have NB0_341:=Z ((pL71 hg (show IsS95 w0 _ g s0_0 x1001_1 from pI):g ≠ gb341));have NB341_0:=Z ((pM71 hg (show IsS95 w0 _ g s0_0 x1001_1 from pI):gb341 ≠ g));clear BK335 BK340 HI0 HK HB;have BK335:=n1_;have BK340:=n2_;have HI0:=n3_;have HK:=n4_;have HB:=n5_;clear n1_ n2_ n3_ n4_ n5_ hb hbox hg)|((with_reducible refine gate_callee (f:=92) rfl ?_);refine goesL_ (some 34) rfl rfl Tryz.func92 pU rfl #[.pointer (some ⟨g,0,none⟩),.int .i64 t336] rfl pG ?_;(with_reducible refine (qmake_most.calls k1 g s0_0 x1001_1 t336 t358 t359 t362 t365 w0 _ ?side1 ?side2 A48.out).mono ?_);(case side1=>exact pI);(case side2=>exact pB);rintro e w69 ⟨v360,v363,rfl,ho0,ho1,hi,hb,hk⟩;refine ⟨_,rfl,?_⟩;replace HO_341000:=Z (Kd.R_mono (Kd.R_told (Kd.R_told (Kd.R_oldK (IsS95.apart (show IsS95 w0 _ g s0_0 x1001_1 from pI) (pR HO_341000) (by decide)) hk) (Kd.R_base ho0)) (Kd.R_base ho1)) (fun _ h_=>h_.1));replace BK335:=Z (KeepBut.blk hk (g':=gb335) (o:=.cells #[.slice none 0 0] 25 (0,0)) (pK BK335) NB335_0.out (by simp));replace BK340:=Z (KeepBut.blk hk (g':=gb340) (o:=.cells #[u341000] 25 (0,0)) (pK BK340) NB340_0.out (by simp));have n3_:=Z (KeepBut.blk hk (g':=gb341) (o:=.cells #[.int .i64 0,.slice none 0 0,.slice none 0 0] 90 (0,0)) (pK BK341) NB341_0.out (by simp));have HO361:=Z (Kd.R_lower ho0 (keep_size (w:=w) (g:=g) (row:=none) pH));have HO364:=Z (Kd.R_lower (Kd.R_newB ho1 (g:=gb341) (o:=.cells #[.int .i64 0,.slice none 0 0,.slice none 0 0] 90 (0,0)) (pK BK341)) (keep_size (w:=w) (g:=g) (row:=none) pH));have n6_:=Z (KeepBut.trans pH hk (.inl rfl));have n7_:=Z (hb);have n8_:=Z (hi);clear BK341 HK HB HI0;have BK341:=n3_;have HK:=n6_;have HB:=n7_;have HI0:=n8_;clear n3_ n6_ n7_ n8_;(try clear hb);(try clear hb2);(try clear hk);(try clear hi);(try clear ho0);(try clear ho1);have hnb70:=NB341_335.out;have hnc70:=NB335_341.out;have hnb71:=NB341_340.out;have hnc71:=NB340_341.out;have hnb72:=NB341_0.out;have hnc72:=NB0_341.out;obtain ⟨hcz73_0,hcz73_1,hcz73_2,hfz73_0,hfz73_1,hfz73_2⟩:=p3 BK341;obtain ⟨Ao74,co74,eo74⟩:=Kd.R_slice HO361.out;subst eo74;obtain ⟨Ao75,co75,eo75⟩:=Kd.R_slice HO364.out;subst eo75)|((with_reducible refine gate_callee (f:=36) rfl ?_);refine goesL_ (some 36) rfl rfl Tryz.func36 pU rfl #[.pointer (some ⟨g,0,none⟩),.int .i64 12] rfl pG ?_;(with_reducible refine (qmake_Tape_N.calls g s0_0 t365 12 t366 t367 w0 _ ?side1 ?side2 A49.out).mono ?_);(case side1=>exact pI);(case side2=>exact pB);rintro e w76 ⟨rfl,hi,hb,hk⟩;refine ⟨_,rfl,?_⟩;replace HO_341000:=Z (Kd.R_mono (Kd.R_keep (IsS95.apart (show IsS95 w0 _ g s0_0 t365 from pI) (by refine pP ?_;exact (Kd.R_mono (Kd.R_far (p:=⟨gb341,2,none⟩) (Kd.R_far (p:=⟨gb341,1,none⟩) (Kd.R_far (p:=⟨gb341,0,none⟩) (Kd.R_mono HO_341000.out (fun k_ hk=>(⟨hk,hk.1.1.2⟩:_∧k_ ≠ gb341))) (fun _ hk=>hk.2) (.int .i64 t358)) (fun _ hk=>hk.2) (.slice Ao74 t359.length co74)) (fun _ hk=>hk.2) (.slice Ao75 t362.length co75)) (fun _ h_=>h_.1))) (by decide)) hk (fun _ h=>h.2)) (fun _ h=>h.1));replace BK335:=Z (KeepBut.blk hk (g':=gb335) (o:=.cells #[.slice none 0 0] 25 (0,0)) (by refine pQ ?_;refine blk_far ?_ NB335_341.out _;refine pQ ?_;refine blk_far ?_ NB335_341.out _;refine pQ ?_;refine blk_far ?_ NB335_341.out _;exact pK BK335) NB335_0.out (by simp));replace BK340:=Z (KeepBut.blk hk (g':=gb340) (o:=.cells #[u341000] 25 (0,0)) (by refine pQ ?_;refine blk_far ?_ NB340_341.out _;refine pQ ?_;refine blk_far ?_ NB340_341.out _;refine pQ ?_;refine blk_far ?_ NB340_341.out _;exact pK BK340) NB340_0.out (by simp));have n3_:=Z (KeepBut.blk hk (g':=gb341) (o:=.cells #[.int .i64 t358,.slice Ao74 t359.length co74,.slice Ao75 t362.length co75] 90 (0,0)) (by refine pQ ?_;refine blk_put (cs:=#[.int .i64 t358,.slice Ao74 t359.length co74,.slice none 0 0]) ?_ 2 _ rfl;refine pQ ?_;refine blk_put (cs:=#[.int .i64 t358,.slice none 0 0,.slice none 0 0]) ?_ 1 _ rfl;refine pQ ?_;refine blk_put (cs:=#[.int .i64 0,.slice none 0 0,.slice none 0 0]) ?_ 0 _ rfl;exact pK BK341) NB341_0.out (by simp));replace HO361:=Z (Kd.R_mono (Kd.R_keep (IsS95.apart (show IsS95 w0 _ g s0_0 t365 from pI) (by refine pP ?_;exact (Kd.R_mono (Kd.R_far (p:=⟨gb341,2,none⟩) (Kd.R_far (p:=⟨gb341,1,none⟩) (Kd.R_far (p:=⟨gb341,0,none⟩) (Kd.R_types HO361.out BK341.out (by decide)) (fun _ hk=>hk.2) (.int .i64 t358)) (fun _ hk=>hk.2) (.slice Ao74 t359.length co74)) (fun _ hk=>hk.2) (.slice Ao75 t362.length co75)) (fun _ h_=>h_.1))) (by decide)) hk (fun _ h=>h.2)) (fun _ h=>h.1));replace HO364:=Z (Kd.R_mono (Kd.R_keep (IsS95.apart (show IsS95 w0 _ g s0_0 t365 from pI) (by refine pP ?_;exact (Kd.R_mono (Kd.R_far (p:=⟨gb341,2,none⟩) (Kd.R_far (p:=⟨gb341,1,none⟩) (Kd.R_far (p:=⟨gb341,0,none⟩) (Kd.R_mono HO364.out (fun k_ hk=>(⟨hk,hk.2⟩:_∧k_ ≠ gb341))) (fun _ hk=>hk.2) (.int .i64 t358)) (fun _ hk=>hk.2) (.slice Ao74 t359.length co74)) (fun _ hk=>hk.2) (.slice Ao75 t362.length co75)) (fun _ h_=>h_.1))) (by decide)) hk (fun _ h=>h.2)) (fun _ h=>h.1));have n6_:=Z (KeepBut.trans pH hk (.inl rfl));have n7_:=Z (hb);have n8_:=Z (hi);clear BK341 HK HB HI0;have BK341:=n3_;have HK:=n6_;have HB:=n7_;have HI0:=n8_;clear n3_ n6_ n7_ n8_;(try clear hb);(try clear hb2);(try clear hk);(try clear hi);have hnb77:=NB340_335.out;have hnc77:=NB335_340.out;have hnb78:=NB340_0.out;have hnc78:=NB0_340.out;obtain ⟨hcz79_0,hfz79_0⟩:=p1 BK340;obtain ⟨hcz80_0,hcz80_1,hcz80_2,hfz80_0,hfz80_1,hfz80_2⟩:=p3 BK341)|((with_reducible refine gate_builtin (b:=.append) (xs:=#[.tmp 45,.tmp 48]) rfl ?_);at_builtin;refine Kd.R_append k92 w.heap.size rfl (.tmp 45) (.tmp 48) 23 92 (.agg #[(.bool false),(.int .i64 0),(.slice none 0 0),(.slice none 0 0)]) 64 rfl Tryz.underlying23 info92 rfl (by decide) (by omega) u341000 x341000_1 (⟨true,(⟨t358,t359,t362⟩:S90)⟩:S92) [.bool true,.int .i64 t358,.slice Ao74 t359.length co74,.slice Ao75 t362.length co75] (fun k_=>k_ ≠ gb341) (fun k_=>((fun k_=>k_ ≠ gb341)) k_∧some k_ ≠ (u341000:Value).ownBlock) rfl rfl ?aP (fun _ hk=>hk) ?aF ?aO (Below.refl _ _) ?aS ?aL ?_;(case aP=>exact k92_mkM _ _ _ (⟨true,(⟨t358,t359,t362⟩:S90)⟩:S92) (Kd.R_mono (Kd.R_types (Kd.R_apart' (HO361.out) (Kd.R_typed HO_341000.out) (by decide)) BK341.out (by decide)) (fun k_ hk=>⟨hk.2,hk.1.2⟩)) (Kd.R_mono (Kd.R_apart' (HO364.out) (Kd.R_typed HO_341000.out) (by decide)) (fun k_ hk=>⟨hk.1.2,hk.2⟩)));(case aF=>exact (fun k_ hk=>Kd.freshB (g:=gb341) (o:=.cells #[.int .i64 t358,.slice Ao74 t359.length co74,.slice Ao75 t362.length co75] 90 (0,0)) (pK BK341) k_ hk));(case aO=>exact (by refine pP ?_;exact Kd.R_mono HO_341000.out (fun _ hk=>hk.1.1.2)));(case aS=>exact (keep_size (w:=w) (g:=g) (row:=none) pH));(case aL=>have:=LMc67.out;omega);intro v372 w81 ho hb hg hat;rw [← Ny371.out] at ho;have n0_:=Z (blk_grown (g:=gb335) (o:=.cells #[.slice none 0 0] 25 (0,0)) (pK BK335) hg (Kd.R_ne HO_341000.out BK335.out (by decide)));have n1_:=Z (blk_grown (g:=gb340) (o:=.cells #[u341000] 25 (0,0)) (pK BK340) hg (Kd.R_ne HO_341000.out BK340.out (by decide)));have n2_:=Z (IsS95.grown pI hg (IsS95.own_ne HI0.out HO_341000.out (by decide)));have n3_:=Z (blk_grown (g:=gb341) (o:=.cells #[.int .i64 t358,.slice Ao74 t359.length co74,.slice Ao75 t362.length co75] 90 (0,0)) (pK BK341) hg (Kd.R_ne HO_341000.out BK341.out (by decide)));have n4_:=Z (below_weaken pB HL.out hb);have n5_:=Z (KeepBut.trans pH (KeepBut.of_grown hg g) (Kd.R_base2 HO_341000.out));have n6_:=Z (ho);clear BK335 BK340 HI0 BK341 HB HK HO_341000 HO361 HO364;have BK335:=n0_;have BK340:=n1_;have HI0:=n2_;have BK341:=n3_;have HB:=n4_;have HK:=n5_;have HO373:=n6_;clear n0_ n1_ n2_ n3_ n4_ n5_ n6_ ho hb hg hat;obtain ⟨Ao82,co82,eo82⟩:=Kd.R_slice HO373.out;subst eo82;obtain ⟨hcz83_0,hfz83_0⟩:=p1 BK340))
        go_roundg k1
        case measure=>have:=HK1.out;omega
        case rel=>exact ⟨(wrap64 (x8_1+1)),(t367),(y371),(.slice Ao82 y371.length co82),pE,H',⟨by have:=HK1.out;omega⟩,⟨by refine pP ?_;exact Kd.R_mono (Kd.R_far (p:=⟨gb340,0,none⟩) (Kd.R_types HO373.out BK340.out (by decide)) (fun _ hk=>hk.2) (.slice Ao82 y371.length co82)) (fun _ hk=>trivial)⟩,⟨by refine pQ ?_;refine blk_far ?_ NB335_340.out _;exact pK BK335⟩,⟨by refine pQ ?_;refine blk_put (cs:=#[u341000]) ?_ 0 _ rfl;exact pK BK340⟩,⟨pI⟩,⟨pH⟩,⟨pB⟩⟩
       ·rw [if_neg c67] at H
        exact absurd H (by simp)
     ·rw [if_neg c47] at H
      have c47b0:(t338 == 1)=false:=beq_eq_false_iff_ne.mpr c47
      have c47b1:(t338 != 1)=true:=bne_iff_ne.mpr c47
      replace H:=pO H
      obtain ⟨⟨t374,t375,t378,t381⟩,A840,H⟩:=H
      try dsimp only at H
      have A84:=Z A840
      clear A840
      replace H:=pO H
      obtain ⟨⟨t382,t383⟩,A850,H⟩:=H
      try dsimp only at H
      have A85:=Z A850
      clear A850
      by_cases c86:t382=11
      ·rw [if_pos c86] at H
       have c86b0:(t382 == 11)=true:=beq_iff_eq.mpr c86
       have c86b1:(t382 != 11)=false:=bne_eq_false_iff_eq.mpr c86
       clear c86
       by_cases c87:x341000_1.length < 2199023255552
       ·rw [if_pos c87] at H
        have LMc87:=Z c87
        clear c87
        obtain ⟨y384,hy384⟩:∃ y_:List (S92),y_=(x341000_1++[(⟨false,(⟨0,([]:List Int),([]:List (S90))⟩:S90)⟩:S92)]):=⟨_,rfl⟩
        first|rw [← hy384] at H|(replace H:=(Option.bind_some _ _).symm.trans H;rw [← hy384] at H)
        have Ny384:=Z hy384
        clear hy384
        have H':=Z H
        clear H
        go_wp2_with (first|((with_reducible refine gate_dst (N:=9) rfl ?_);refine box_event ?hg (N:=9) ?hd (cs:=#[.int .i64 0,.slice none 0 0,.slice none 0 0]) (t:=90) ?hr ?_;(case hd=>rfl);(case hg=>rfl);(case hr=>first|(go_simp;done)|(go_simp;rfl));intro gb341 hg w88 hbox hb;replace HO_341000:=Z (Kd.R_below (Kd.R_elderB (pR HO_341000) gb341 (Nat.le_of_eq hg.symm)) hb);have n1_:=Z (blk_below (g:=gb335) (o:=.cells #[.slice none 0 0] 25 (0,0)) (pK BK335) hb);have n2_:=Z (blk_below (g:=gb340) (o:=.cells #[u341000] 25 (0,0)) (pK BK340) hb);have n3_:=Z (IsS95.below pI hb);have n4_:=Z (KeepBut.trans pH (KeepBut.of_below hb g none) (.inl rfl));have n5_:=Z (below_step pB hb);have BK341:=Z (hbox);have GW341:=Z ((pS hg:w.heap.size≤gb341));have GE341:=Z ((Nat.le_trans HW0.out (pS hg:w.heap.size≤gb341):w0.heap.size≤gb341));have NB335_341:=Z ((pL hg (pK BK335):gb335 ≠ gb341));have NB341_335:=Z ((pM hg (pK BK335):gb341 ≠ gb335));have NB340_341:=Z ((pL hg (pK BK340):gb340 ≠ gb341));have NB341_340:=Z ((pM hg (pK BK340):gb341 ≠ gb340));have NB0_341:=Z ((pL71 hg (show IsS95 w0 _ g s0_0 x1001_1 from pI):g ≠ gb341));have NB341_0:=Z ((pM71 hg (show IsS95 w0 _ g s0_0 x1001_1 from pI):gb341 ≠ g));clear BK335 BK340 HI0 HK HB;have BK335:=n1_;have BK340:=n2_;have HI0:=n3_;have HK:=n4_;have HB:=n5_;clear n1_ n2_ n3_ n4_ n5_ hb hbox hg)|((with_reducible refine gate_callee (f:=93) rfl ?_);refine goesL_ (some 24) rfl rfl Tryz.func93 pU rfl #[.pointer (some ⟨g,0,none⟩),.int .i64 t336,.int .i64 x8_1] rfl pG ?_;(with_reducible refine (qmake_group.calls k1 g s0_0 x1001_1 t336 x8_1 t374 t375 t378 t381 w0 _ ?side1 ?side2 A84.out).mono ?_);(case side1=>exact pI);(case side2=>exact pB);rintro e w89 ⟨v376,v379,rfl,ho0,ho1,hi,hb,hk⟩;refine ⟨_,rfl,?_⟩;replace HO_341000:=Z (Kd.R_mono (Kd.R_told (Kd.R_told (Kd.R_oldK (IsS95.apart (show IsS95 w0 _ g s0_0 x1001_1 from pI) (pR HO_341000) (by decide)) hk) (Kd.R_base ho0)) (Kd.R_base ho1)) (fun _ h_=>h_.1));replace BK335:=Z (KeepBut.blk hk (g':=gb335) (o:=.cells #[.slice none 0 0] 25 (0,0)) (pK BK335) NB335_0.out (by simp));replace BK340:=Z (KeepBut.blk hk (g':=gb340) (o:=.cells #[u341000] 25 (0,0)) (pK BK340) NB340_0.out (by simp));have n3_:=Z (KeepBut.blk hk (g':=gb341) (o:=.cells #[.int .i64 0,.slice none 0 0,.slice none 0 0] 90 (0,0)) (pK BK341) NB341_0.out (by simp));have HO377:=Z (Kd.R_lower ho0 (keep_size (w:=w) (g:=g) (row:=none) pH));have HO380:=Z (Kd.R_lower (Kd.R_newB ho1 (g:=gb341) (o:=.cells #[.int .i64 0,.slice none 0 0,.slice none 0 0] 90 (0,0)) (pK BK341)) (keep_size (w:=w) (g:=g) (row:=none) pH));have n6_:=Z (KeepBut.trans pH hk (.inl rfl));have n7_:=Z (hb);have n8_:=Z (hi);clear BK341 HK HB HI0;have BK341:=n3_;have HK:=n6_;have HB:=n7_;have HI0:=n8_;clear n3_ n6_ n7_ n8_;(try clear hb);(try clear hb2);(try clear hk);(try clear hi);(try clear ho0);(try clear ho1);have hnb90:=NB341_335.out;have hnc90:=NB335_341.out;have hnb91:=NB341_340.out;have hnc91:=NB340_341.out;have hnb92:=NB341_0.out;have hnc92:=NB0_341.out;obtain ⟨hcz93_0,hcz93_1,hcz93_2,hfz93_0,hfz93_1,hfz93_2⟩:=p3 BK341;obtain ⟨Ao94,co94,eo94⟩:=Kd.R_slice HO377.out;subst eo94;obtain ⟨Ao95,co95,eo95⟩:=Kd.R_slice HO380.out;subst eo95)|((with_reducible refine gate_callee (f:=36) rfl ?_);refine goesL_ (some 36) rfl rfl Tryz.func36 pU rfl #[.pointer (some ⟨g,0,none⟩),.int .i64 12] rfl pG ?_;(with_reducible refine (qmake_Tape_N.calls g s0_0 t381 12 t382 t383 w0 _ ?side1 ?side2 A85.out).mono ?_);(case side1=>exact pI);(case side2=>exact pB);rintro e w96 ⟨rfl,hi,hb,hk⟩;refine ⟨_,rfl,?_⟩;replace HO_341000:=Z (Kd.R_mono (Kd.R_keep (IsS95.apart (show IsS95 w0 _ g s0_0 t381 from pI) (by refine pP ?_;exact (Kd.R_mono (Kd.R_far (p:=⟨gb341,2,none⟩) (Kd.R_far (p:=⟨gb341,1,none⟩) (Kd.R_far (p:=⟨gb341,0,none⟩) (Kd.R_mono HO_341000.out (fun k_ hk=>(⟨hk,hk.1.1.2⟩:_∧k_ ≠ gb341))) (fun _ hk=>hk.2) (.int .i64 t374)) (fun _ hk=>hk.2) (.slice Ao94 t375.length co94)) (fun _ hk=>hk.2) (.slice Ao95 t378.length co95)) (fun _ h_=>h_.1))) (by decide)) hk (fun _ h=>h.2)) (fun _ h=>h.1));replace BK335:=Z (KeepBut.blk hk (g':=gb335) (o:=.cells #[.slice none 0 0] 25 (0,0)) (by refine pQ ?_;refine blk_far ?_ NB335_341.out _;refine pQ ?_;refine blk_far ?_ NB335_341.out _;refine pQ ?_;refine blk_far ?_ NB335_341.out _;exact pK BK335) NB335_0.out (by simp));replace BK340:=Z (KeepBut.blk hk (g':=gb340) (o:=.cells #[u341000] 25 (0,0)) (by refine pQ ?_;refine blk_far ?_ NB340_341.out _;refine pQ ?_;refine blk_far ?_ NB340_341.out _;refine pQ ?_;refine blk_far ?_ NB340_341.out _;exact pK BK340) NB340_0.out (by simp));have n3_:=Z (KeepBut.blk hk (g':=gb341) (o:=.cells #[.int .i64 t374,.slice Ao94 t375.length co94,.slice Ao95 t378.length co95] 90 (0,0)) (by refine pQ ?_;refine blk_put (cs:=#[.int .i64 t374,.slice Ao94 t375.length co94,.slice none 0 0]) ?_ 2 _ rfl;refine pQ ?_;refine blk_put (cs:=#[.int .i64 t374,.slice none 0 0,.slice none 0 0]) ?_ 1 _ rfl;refine pQ ?_;refine blk_put (cs:=#[.int .i64 0,.slice none 0 0,.slice none 0 0]) ?_ 0 _ rfl;exact pK BK341) NB341_0.out (by simp));replace HO377:=Z (Kd.R_mono (Kd.R_keep (IsS95.apart (show IsS95 w0 _ g s0_0 t381 from pI) (by refine pP ?_;exact (Kd.R_mono (Kd.R_far (p:=⟨gb341,2,none⟩) (Kd.R_far (p:=⟨gb341,1,none⟩) (Kd.R_far (p:=⟨gb341,0,none⟩) (Kd.R_types HO377.out BK341.out (by decide)) (fun _ hk=>hk.2) (.int .i64 t374)) (fun _ hk=>hk.2) (.slice Ao94 t375.length co94)) (fun _ hk=>hk.2) (.slice Ao95 t378.length co95)) (fun _ h_=>h_.1))) (by decide)) hk (fun _ h=>h.2)) (fun _ h=>h.1));replace HO380:=Z (Kd.R_mono (Kd.R_keep (IsS95.apart (show IsS95 w0 _ g s0_0 t381 from pI) (by refine pP ?_;exact (Kd.R_mono (Kd.R_far (p:=⟨gb341,2,none⟩) (Kd.R_far (p:=⟨gb341,1,none⟩) (Kd.R_far (p:=⟨gb341,0,none⟩) (Kd.R_mono HO380.out (fun k_ hk=>(⟨hk,hk.2⟩:_∧k_ ≠ gb341))) (fun _ hk=>hk.2) (.int .i64 t374)) (fun _ hk=>hk.2) (.slice Ao94 t375.length co94)) (fun _ hk=>hk.2) (.slice Ao95 t378.length co95)) (fun _ h_=>h_.1))) (by decide)) hk (fun _ h=>h.2)) (fun _ h=>h.1));have n6_:=Z (KeepBut.trans pH hk (.inl rfl));have n7_:=Z (hb);have n8_:=Z (hi);clear BK341 HK HB HI0;have BK341:=n3_;have HK:=n6_;have HB:=n7_;have HI0:=n8_;clear n3_ n6_ n7_ n8_;(try clear hb);(try clear hb2);(try clear hk);(try clear hi);have hnb97:=NB340_335.out;have hnc97:=NB335_340.out;have hnb98:=NB340_0.out;have hnc98:=NB0_340.out;obtain ⟨hcz99_0,hfz99_0⟩:=p1 BK340)|((with_reducible refine gate_builtin (b:=.append) (xs:=#[.tmp 39,.tmp 41]) rfl ?_);at_builtin;refine Kd.R_append k92 w.heap.size rfl (.tmp 39) (.tmp 41) 23 92 (.agg #[(.bool false),(.int .i64 0),(.slice none 0 0),(.slice none 0 0)]) 64 rfl Tryz.underlying23 info92 rfl (by decide) (by omega) u341000 x341000_1 (⟨false,(⟨0,([]:List Int),([]:List (S90))⟩:S90)⟩:S92) [.bool false,.int .i64 0,.slice none 0 0,.slice none 0 0] (fun k_=>some k_ ≠ (.slice Ao94 t375.length co94:Value).ownBlock∧some k_ ≠ (.slice Ao95 t378.length co95:Value).ownBlock∧k_ ≠ gb341) (fun k_=>((fun k_=>some k_ ≠ (.slice Ao94 t375.length co94:Value).ownBlock∧some k_ ≠ (.slice Ao95 t378.length co95:Value).ownBlock∧k_ ≠ gb341)) k_∧some k_ ≠ (u341000:Value).ownBlock) rfl rfl ?aP (fun _ hk=>hk) ?aF ?aO (Below.refl _ _) ?aS ?aL ?_;(case aP=>exact k92_mkM _ _ _ (⟨false,(⟨0,([]:List Int),([]:List (S90))⟩:S90)⟩:S92) (Kd.R_nil _ _ _ _ _) (Kd.R_nil _ _ _ _ _));(case aF=>exact (fun k_ hk=>⟨Kd.fresh' (Kd.R_lt (pR HO377)) k_ hk,Kd.fresh' (Kd.R_lt (pR HO380)) k_ hk,Kd.freshB (g:=gb341) (o:=.cells #[.int .i64 t374,.slice Ao94 t375.length co94,.slice Ao95 t378.length co95] 90 (0,0)) (pK BK341) k_ hk⟩));(case aO=>exact (by refine pP ?_;exact Kd.R_mono HO_341000.out (fun _ hk=>⟨hk.1.2,⟨hk.2,hk.1.1.2⟩⟩)));(case aS=>exact (keep_size (w:=w) (g:=g) (row:=none) pH));(case aL=>have:=LMc87.out;omega);intro v385 w100 ho hb hg hat;rw [← Ny384.out] at ho;have n0_:=Z (blk_grown (g:=gb335) (o:=.cells #[.slice none 0 0] 25 (0,0)) (pK BK335) hg (Kd.R_ne HO_341000.out BK335.out (by decide)));have n1_:=Z (blk_grown (g:=gb340) (o:=.cells #[u341000] 25 (0,0)) (pK BK340) hg (Kd.R_ne HO_341000.out BK340.out (by decide)));have n2_:=Z (IsS95.grown pI hg (IsS95.own_ne HI0.out HO_341000.out (by decide)));have n3_:=Z (blk_grown (g:=gb341) (o:=.cells #[.int .i64 t374,.slice Ao94 t375.length co94,.slice Ao95 t378.length co95] 90 (0,0)) (pK BK341) hg (Kd.R_ne HO_341000.out BK341.out (by decide)));have n4_:=Z (Kd.R_over' (pR HO377) (Kd.R_typed (pR HO_341000)) (by decide) hg);have n5_:=Z (Kd.R_over' (pR HO380) (Kd.R_typed (pR HO_341000)) (by decide) hg);have n6_:=Z (below_weaken pB HL.out hb);have n7_:=Z (KeepBut.trans pH (KeepBut.of_grown hg g) (Kd.R_base2 HO_341000.out));have n8_:=Z (ho);clear BK335 BK340 HI0 BK341 HO377 HO380 HB HK HO_341000;have BK335:=n0_;have BK340:=n1_;have HI0:=n2_;have BK341:=n3_;have HO377:=n4_;have HO380:=n5_;have HB:=n6_;have HK:=n7_;have HO386:=n8_;clear n0_ n1_ n2_ n3_ n4_ n5_ n6_ n7_ n8_ ho hb hg hat;obtain ⟨Ao101,co101,eo101⟩:=Kd.R_slice HO386.out;subst eo101;obtain ⟨hcz102_0,hfz102_0⟩:=p1 BK340))
        go_roundg k1
        case measure=>have:=HK1.out;omega
        case rel=>exact ⟨(wrap64 (x8_1+1)),(t383),(y384),(.slice Ao101 y384.length co101),pE,H',⟨by have:=HK1.out;omega⟩,⟨by refine pP ?_;exact Kd.R_mono (Kd.R_far (p:=⟨gb340,0,none⟩) (Kd.R_types HO386.out BK340.out (by decide)) (fun _ hk=>hk.2) (.slice Ao101 y384.length co101)) (fun _ hk=>trivial)⟩,⟨by refine pQ ?_;refine blk_far ?_ NB335_340.out _;exact pK BK335⟩,⟨by refine pQ ?_;refine blk_put (cs:=#[u341000]) ?_ 0 _ rfl;exact pK BK340⟩,⟨pI⟩,⟨pH⟩,⟨pB⟩⟩
       ·rw [if_neg c87] at H
        exact absurd H (by simp)
      ·rw [if_neg c86] at H
       have c86b0:(t382 == 11)=false:=beq_eq_false_iff_ne.mpr c86
       have c86b1:(t382 != 11)=true:=bne_iff_ne.mpr c86
       by_cases c103:x341000_1.length < 2199023255552
       ·rw [if_pos c103] at H
        have LMc103:=Z c103
        clear c103
        obtain ⟨y387,hy387⟩:∃ y_:List (S92),y_=(x341000_1++[(⟨true,(⟨t374,t375,t378⟩:S90)⟩:S92)]):=⟨_,rfl⟩
        first|rw [← hy387] at H|(replace H:=(Option.bind_some _ _).symm.trans H;rw [← hy387] at H)
        have Ny387:=Z hy387
        clear hy387
        have H':=Z H
        clear H
        go_wp2_with (first|((with_reducible refine gate_dst (N:=9) rfl ?_);refine box_event ?hg (N:=9) ?hd (cs:=#[.int .i64 0,.slice none 0 0,.slice none 0 0]) (t:=90) ?hr ?_;(case hd=>rfl);(case hg=>rfl);(case hr=>first|(go_simp;done)|(go_simp;rfl));intro gb341 hg w104 hbox hb;replace HO_341000:=Z (Kd.R_below (Kd.R_elderB (pR HO_341000) gb341 (Nat.le_of_eq hg.symm)) hb);have n1_:=Z (blk_below (g:=gb335) (o:=.cells #[.slice none 0 0] 25 (0,0)) (pK BK335) hb);have n2_:=Z (blk_below (g:=gb340) (o:=.cells #[u341000] 25 (0,0)) (pK BK340) hb);have n3_:=Z (IsS95.below pI hb);have n4_:=Z (KeepBut.trans pH (KeepBut.of_below hb g none) (.inl rfl));have n5_:=Z (below_step pB hb);have BK341:=Z (hbox);have GW341:=Z ((pS hg:w.heap.size≤gb341));have GE341:=Z ((Nat.le_trans HW0.out (pS hg:w.heap.size≤gb341):w0.heap.size≤gb341));have NB335_341:=Z ((pL hg (pK BK335):gb335 ≠ gb341));have NB341_335:=Z ((pM hg (pK BK335):gb341 ≠ gb335));have NB340_341:=Z ((pL hg (pK BK340):gb340 ≠ gb341));have NB341_340:=Z ((pM hg (pK BK340):gb341 ≠ gb340));have NB0_341:=Z ((pL71 hg (show IsS95 w0 _ g s0_0 x1001_1 from pI):g ≠ gb341));have NB341_0:=Z ((pM71 hg (show IsS95 w0 _ g s0_0 x1001_1 from pI):gb341 ≠ g));clear BK335 BK340 HI0 HK HB;have BK335:=n1_;have BK340:=n2_;have HI0:=n3_;have HK:=n4_;have HB:=n5_;clear n1_ n2_ n3_ n4_ n5_ hb hbox hg)|((with_reducible refine gate_callee (f:=93) rfl ?_);refine goesL_ (some 24) rfl rfl Tryz.func93 pU rfl #[.pointer (some ⟨g,0,none⟩),.int .i64 t336,.int .i64 x8_1] rfl pG ?_;(with_reducible refine (qmake_group.calls k1 g s0_0 x1001_1 t336 x8_1 t374 t375 t378 t381 w0 _ ?side1 ?side2 A84.out).mono ?_);(case side1=>exact pI);(case side2=>exact pB);rintro e w105 ⟨v376,v379,rfl,ho0,ho1,hi,hb,hk⟩;refine ⟨_,rfl,?_⟩;replace HO_341000:=Z (Kd.R_mono (Kd.R_told (Kd.R_told (Kd.R_oldK (IsS95.apart (show IsS95 w0 _ g s0_0 x1001_1 from pI) (pR HO_341000) (by decide)) hk) (Kd.R_base ho0)) (Kd.R_base ho1)) (fun _ h_=>h_.1));replace BK335:=Z (KeepBut.blk hk (g':=gb335) (o:=.cells #[.slice none 0 0] 25 (0,0)) (pK BK335) NB335_0.out (by simp));replace BK340:=Z (KeepBut.blk hk (g':=gb340) (o:=.cells #[u341000] 25 (0,0)) (pK BK340) NB340_0.out (by simp));have n3_:=Z (KeepBut.blk hk (g':=gb341) (o:=.cells #[.int .i64 0,.slice none 0 0,.slice none 0 0] 90 (0,0)) (pK BK341) NB341_0.out (by simp));have HO377:=Z (Kd.R_lower ho0 (keep_size (w:=w) (g:=g) (row:=none) pH));have HO380:=Z (Kd.R_lower (Kd.R_newB ho1 (g:=gb341) (o:=.cells #[.int .i64 0,.slice none 0 0,.slice none 0 0] 90 (0,0)) (pK BK341)) (keep_size (w:=w) (g:=g) (row:=none) pH));have n6_:=Z (KeepBut.trans pH hk (.inl rfl));have n7_:=Z (hb);have n8_:=Z (hi);clear BK341 HK HB HI0;have BK341:=n3_;have HK:=n6_;have HB:=n7_;have HI0:=n8_;clear n3_ n6_ n7_ n8_;(try clear hb);(try clear hb2);(try clear hk);(try clear hi);(try clear ho0);(try clear ho1);have hnb106:=NB341_335.out;have hnc106:=NB335_341.out;have hnb107:=NB341_340.out;have hnc107:=NB340_341.out;have hnb108:=NB341_0.out;have hnc108:=NB0_341.out;obtain ⟨hcz109_0,hcz109_1,hcz109_2,hfz109_0,hfz109_1,hfz109_2⟩:=p3 BK341;obtain ⟨Ao110,co110,eo110⟩:=Kd.R_slice HO377.out;subst eo110;obtain ⟨Ao111,co111,eo111⟩:=Kd.R_slice HO380.out;subst eo111)|((with_reducible refine gate_callee (f:=36) rfl ?_);refine goesL_ (some 36) rfl rfl Tryz.func36 pU rfl #[.pointer (some ⟨g,0,none⟩),.int .i64 12] rfl pG ?_;(with_reducible refine (qmake_Tape_N.calls g s0_0 t381 12 t382 t383 w0 _ ?side1 ?side2 A85.out).mono ?_);(case side1=>exact pI);(case side2=>exact pB);rintro e w112 ⟨rfl,hi,hb,hk⟩;refine ⟨_,rfl,?_⟩;replace HO_341000:=Z (Kd.R_mono (Kd.R_keep (IsS95.apart (show IsS95 w0 _ g s0_0 t381 from pI) (by refine pP ?_;exact (Kd.R_mono (Kd.R_far (p:=⟨gb341,2,none⟩) (Kd.R_far (p:=⟨gb341,1,none⟩) (Kd.R_far (p:=⟨gb341,0,none⟩) (Kd.R_mono HO_341000.out (fun k_ hk=>(⟨hk,hk.1.1.2⟩:_∧k_ ≠ gb341))) (fun _ hk=>hk.2) (.int .i64 t374)) (fun _ hk=>hk.2) (.slice Ao110 t375.length co110)) (fun _ hk=>hk.2) (.slice Ao111 t378.length co111)) (fun _ h_=>h_.1))) (by decide)) hk (fun _ h=>h.2)) (fun _ h=>h.1));replace BK335:=Z (KeepBut.blk hk (g':=gb335) (o:=.cells #[.slice none 0 0] 25 (0,0)) (by refine pQ ?_;refine blk_far ?_ NB335_341.out _;refine pQ ?_;refine blk_far ?_ NB335_341.out _;refine pQ ?_;refine blk_far ?_ NB335_341.out _;exact pK BK335) NB335_0.out (by simp));replace BK340:=Z (KeepBut.blk hk (g':=gb340) (o:=.cells #[u341000] 25 (0,0)) (by refine pQ ?_;refine blk_far ?_ NB340_341.out _;refine pQ ?_;refine blk_far ?_ NB340_341.out _;refine pQ ?_;refine blk_far ?_ NB340_341.out _;exact pK BK340) NB340_0.out (by simp));have n3_:=Z (KeepBut.blk hk (g':=gb341) (o:=.cells #[.int .i64 t374,.slice Ao110 t375.length co110,.slice Ao111 t378.length co111] 90 (0,0)) (by refine pQ ?_;refine blk_put (cs:=#[.int .i64 t374,.slice Ao110 t375.length co110,.slice none 0 0]) ?_ 2 _ rfl;refine pQ ?_;refine blk_put (cs:=#[.int .i64 t374,.slice none 0 0,.slice none 0 0]) ?_ 1 _ rfl;refine pQ ?_;refine blk_put (cs:=#[.int .i64 0,.slice none 0 0,.slice none 0 0]) ?_ 0 _ rfl;exact pK BK341) NB341_0.out (by simp));replace HO377:=Z (Kd.R_mono (Kd.R_keep (IsS95.apart (show IsS95 w0 _ g s0_0 t381 from pI) (by refine pP ?_;exact (Kd.R_mono (Kd.R_far (p:=⟨gb341,2,none⟩) (Kd.R_far (p:=⟨gb341,1,none⟩) (Kd.R_far (p:=⟨gb341,0,none⟩) (Kd.R_types HO377.out BK341.out (by decide)) (fun _ hk=>hk.2) (.int .i64 t374)) (fun _ hk=>hk.2) (.slice Ao110 t375.length co110)) (fun _ hk=>hk.2) (.slice Ao111 t378.length co111)) (fun _ h_=>h_.1))) (by decide)) hk (fun _ h=>h.2)) (fun _ h=>h.1));replace HO380:=Z (Kd.R_mono (Kd.R_keep (IsS95.apart (show IsS95 w0 _ g s0_0 t381 from pI) (by refine pP ?_;exact (Kd.R_mono (Kd.R_far (p:=⟨gb341,2,none⟩) (Kd.R_far (p:=⟨gb341,1,none⟩) (Kd.R_far (p:=⟨gb341,0,none⟩) (Kd.R_mono HO380.out (fun k_ hk=>(⟨hk,hk.2⟩:_∧k_ ≠ gb341))) (fun _ hk=>hk.2) (.int .i64 t374)) (fun _ hk=>hk.2) (.slice Ao110 t375.length co110)) (fun _ hk=>hk.2) (.slice Ao111 t378.length co111)) (fun _ h_=>h_.1))) (by decide)) hk (fun _ h=>h.2)) (fun _ h=>h.1));have n6_:=Z (KeepBut.trans pH hk (.inl rfl));have n7_:=Z (hb);have n8_:=Z (hi);clear BK341 HK HB HI0;have BK341:=n3_;have HK:=n6_;have HB:=n7_;have HI0:=n8_;clear n3_ n6_ n7_ n8_;(try clear hb);(try clear hb2);(try clear hk);(try clear hi);have hnb113:=NB340_335.out;have hnc113:=NB335_340.out;have hnb114:=NB340_0.out;have hnc114:=NB0_340.out;obtain ⟨hcz115_0,hfz115_0⟩:=p1 BK340;obtain ⟨hcz116_0,hcz116_1,hcz116_2,hfz116_0,hfz116_1,hfz116_2⟩:=p3 BK341)|((with_reducible refine gate_builtin (b:=.append) (xs:=#[.tmp 45,.tmp 48]) rfl ?_);at_builtin;refine Kd.R_append k92 w.heap.size rfl (.tmp 45) (.tmp 48) 23 92 (.agg #[(.bool false),(.int .i64 0),(.slice none 0 0),(.slice none 0 0)]) 64 rfl Tryz.underlying23 info92 rfl (by decide) (by omega) u341000 x341000_1 (⟨true,(⟨t374,t375,t378⟩:S90)⟩:S92) [.bool true,.int .i64 t374,.slice Ao110 t375.length co110,.slice Ao111 t378.length co111] (fun k_=>k_ ≠ gb341) (fun k_=>((fun k_=>k_ ≠ gb341)) k_∧some k_ ≠ (u341000:Value).ownBlock) rfl rfl ?aP (fun _ hk=>hk) ?aF ?aO (Below.refl _ _) ?aS ?aL ?_;(case aP=>exact k92_mkM _ _ _ (⟨true,(⟨t374,t375,t378⟩:S90)⟩:S92) (Kd.R_mono (Kd.R_types (Kd.R_apart' (HO377.out) (Kd.R_typed HO_341000.out) (by decide)) BK341.out (by decide)) (fun k_ hk=>⟨hk.2,hk.1.2⟩)) (Kd.R_mono (Kd.R_apart' (HO380.out) (Kd.R_typed HO_341000.out) (by decide)) (fun k_ hk=>⟨hk.1.2,hk.2⟩)));(case aF=>exact (fun k_ hk=>Kd.freshB (g:=gb341) (o:=.cells #[.int .i64 t374,.slice Ao110 t375.length co110,.slice Ao111 t378.length co111] 90 (0,0)) (pK BK341) k_ hk));(case aO=>exact (by refine pP ?_;exact Kd.R_mono HO_341000.out (fun _ hk=>hk.1.1.2)));(case aS=>exact (keep_size (w:=w) (g:=g) (row:=none) pH));(case aL=>have:=LMc103.out;omega);intro v388 w117 ho hb hg hat;rw [← Ny387.out] at ho;have n0_:=Z (blk_grown (g:=gb335) (o:=.cells #[.slice none 0 0] 25 (0,0)) (pK BK335) hg (Kd.R_ne HO_341000.out BK335.out (by decide)));have n1_:=Z (blk_grown (g:=gb340) (o:=.cells #[u341000] 25 (0,0)) (pK BK340) hg (Kd.R_ne HO_341000.out BK340.out (by decide)));have n2_:=Z (IsS95.grown pI hg (IsS95.own_ne HI0.out HO_341000.out (by decide)));have n3_:=Z (blk_grown (g:=gb341) (o:=.cells #[.int .i64 t374,.slice Ao110 t375.length co110,.slice Ao111 t378.length co111] 90 (0,0)) (pK BK341) hg (Kd.R_ne HO_341000.out BK341.out (by decide)));have n4_:=Z (below_weaken pB HL.out hb);have n5_:=Z (KeepBut.trans pH (KeepBut.of_grown hg g) (Kd.R_base2 HO_341000.out));have n6_:=Z (ho);clear BK335 BK340 HI0 BK341 HB HK HO_341000 HO377 HO380;have BK335:=n0_;have BK340:=n1_;have HI0:=n2_;have BK341:=n3_;have HB:=n4_;have HK:=n5_;have HO389:=n6_;clear n0_ n1_ n2_ n3_ n4_ n5_ n6_ ho hb hg hat;obtain ⟨Ao118,co118,eo118⟩:=Kd.R_slice HO389.out;subst eo118;obtain ⟨hcz119_0,hfz119_0⟩:=p1 BK340))
        go_roundg k1
        case measure=>have:=HK1.out;omega
        case rel=>exact ⟨(wrap64 (x8_1+1)),(t383),(y387),(.slice Ao118 y387.length co118),pE,H',⟨by have:=HK1.out;omega⟩,⟨by refine pP ?_;exact Kd.R_mono (Kd.R_far (p:=⟨gb340,0,none⟩) (Kd.R_types HO389.out BK340.out (by decide)) (fun _ hk=>hk.2) (.slice Ao118 y387.length co118)) (fun _ hk=>trivial)⟩,⟨by refine pQ ?_;refine blk_far ?_ NB335_340.out _;exact pK BK335⟩,⟨by refine pQ ?_;refine blk_put (cs:=#[u341000]) ?_ 0 _ rfl;exact pK BK340⟩,⟨pI⟩,⟨pH⟩,⟨pB⟩⟩
       ·rw [if_neg c103] at H
        exact absurd H (by simp)
   ·rw [if_neg c9] at H
    have c9b0:decide (x8_1 < t336)=false:=decide_eq_false c9
    clear c9
    simp only [Option.some.injEq,Prod.mk.injEq] at H
    obtain ⟨rfl,rfl⟩:=H
    have hnb120:=NB340_335.out
    have hnc120:=NB335_340.out
    have hnb121:=NB340_0.out
    have hnc121:=NB0_340.out
    have hcz122_0:=pV BK340 (u341000) 0 rfl
    have hfz122_0:=kF BK340.out 0
    obtain ⟨Ao123,co123,eo123⟩:=Kd.R_slice HO_341000.out
    subst eo123
    have hnb124:=NB335_0.out
    have hnc124:=NB0_335.out
    have hcz125_0:=pV BK335 (.slice none 0 0) 0 rfl
    have hfz125_0:=kF BK335.out 0
    go_wp2
    refine bodyPost_ret (results_cell_row rfl _ _ gb335 25 #[.slice Ao123 x341000_1.length co123] (0,0) _ rfl (by refine pQ ?_;refine blk_put (cs:=#[.slice none 0 0]) ?_ 0 _ rfl;exact pK BK335) Tryz.underlying25 rfl pU) rfl ?_
    exact ⟨_,pF,by refine pP ?_;exact Kd.R_mono (Kd.R_far (p:=⟨gb335,0,none⟩) (Kd.R_types HO_341000.out BK335.out (by decide)) (fun _ hk=>hk.2) (.slice Ao123 x341000_1.length co123)) (fun _ hk=>trivial),pI,pB,pH⟩
end Go.Proofs.YtkjlcbfjllpcnaaGreat.X
namespace Go.Proofs.YtkjlcbfjllpcnaaGreat.X
open Go.RowKit YtkjlcbfjllpcnaaGreatW.PrintWords YtkjlcbfjllpcnaaGreatW.PrintLast YtkjlcbfjllpcnaaGreatW.PrintMore
def noNode (k:Int):Bool:=!(decide (0≤k) && decide (k < 10))
theorem node_eq (k:Int):threshold_node.f k=some (!noNode k):=by
 unfold threshold_node.f noNode
 by_cases h:k ≥ 0
 ·rw [if_pos h];simp [h]
 ·rw [if_neg h];simp [h]
def containsFunc_level.f (a0:List Int):Option Bool:=some (a0.any noNode)
theorem level1_calls (k:Int) (W:World):Calls Tryz.prog 227 #[.int .i64 k] W fun e w'=>e=.returned (.bool (noNode k))∧∃ q,w'=W.drewN q:=by
 go_enter Tryz.func227,Tryz.ntmps227
 go_wp2_with (go_at_call 198;(with_reducible refine (threshold_node.calls k (!noNode k) _ (node_eq k)).mono ?_);rintro e w' ⟨rfl,⟨nd,rfl⟩⟩)
 go_ret
 exact ⟨by simp,_,rfl⟩
theorem containsFunc_level.calls (A0:Option Addr) (c0:Nat) (l0:List Int) (r:Bool) (w:World) (hr0:Kd.C (Kd.int .i64) w A0 l0.length l0) (hc0:l0.length≤c0) (h:containsFunc_level.f l0=some r):Calls Tryz.prog 163 #[.slice A0 l0.length c0,.func (.func 227) #[] #[]] w fun e w'=>e=.returned (.bool r)∧Drawn0 w w':=by
 obtain rfl:=Option.some.inj h
 rcases Nat.eq_zero_or_pos l0.length with h0|h0
 ·obtain rfl:=List.eq_nil_of_length_eq_zero h0
  refine (Tryz.slices_ContainsFunc_empty (α:=Int) A0 c0 _ w).mono ?_
  rintro e w' ⟨rfl,rfl⟩
  exact ⟨rfl,Drawn0.refl _⟩
 ·obtain ⟨b,off,rfl,_,hc⟩:=C_ints hr0 h0
  refine (Tryz.slices_ContainsFunc (Value.int .i64) noNode 227 #[] (enters_of Tryz.func227 pU rfl) b off l0.length c0 l0 w (fun W x _=>level1_calls x W) (Nat.le_refl _) (C_max hr0) hc).mono ?_
  rintro e w' ⟨rfl,hq⟩
  rw [List.take_length]
  exact ⟨rfl,⟨hq⟩⟩
end Go.Proofs.YtkjlcbfjllpcnaaGreat.X
namespace Go.Proofs.YtkjlcbfjllpcnaaGreat.X
open Go.RowKit YtkjlcbfjllpcnaaGreatW.PrintWords YtkjlcbfjllpcnaaGreatW.PrintLast YtkjlcbfjllpcnaaGreatW.PrintMore
attribute [local go_sem] max2_int min2_int max_two min_two max_three min_three max_four min_four
mutual
def threshold_level.j0:Nat→Bool→Int→List Int→List (S90)→Option (Int)
 | 0,_,_,_,_=>none
 | k+1,x22,x127000,x127001,x127002=>if x22=true then (some 4) else ((containsFunc_level.f x127001).bind fun t127=>(if t127=true then (some 5) else ((nodeset_Of.f k x127001).bind fun bt128=>(if bt128.2=0 then (threshold_level.l0 k x127002 (x127002.length:Int) 0) else (some bt128.2)))))
def threshold_level.l0:Nat→List (S90)→Int→Int→Option (Int)
 | 0,_,_,_=>none
 | k+1,x36,x37,x38=>if x38 < x37 then (if 0≤x38 then (if x38 < (x36.length:Int) then ((threshold_level.f k ((rd_T90 x36 x38).f0) ((rd_T90 x36 x38).f1) ((rd_T90 x36 x38).f2)).bind fun t132=>(if t132=0 then (threshold_level.l0 k x36 x37 (wrap64 (x38+1))) else (some t132))) else (none)) else (none)) else (some 0)
def threshold_level.f:Nat→Int→List Int→List (S90)→Option (Int)
 | 0,_,_,_=>none
 | k+1,a0_0,l0_1,l0_2=>if a0_0 < 1 then (threshold_level.j0 k true a0_0 l0_1 l0_2) else (threshold_level.j0 k (decide (a0_0 > (wrap64 ((l0_1.length:Int)+(l0_2.length:Int))))) a0_0 l0_1 l0_2)
end
set_option maxHeartbeats 8000000 in
set_option maxRecDepth 100000 in
theorem threshold_level.calls (k:Nat):∀ (a0_0:Int) (A0_1:Option Addr) (c0_1:Nat) (l0_1:List Int) (A0_2:Option Addr) (c0_2:Nat) (l0_2:List (S90)) (r:Int) (w:World) (hr0_1:Kd.C (Kd.int .i64) w A0_1 l0_1.length l0_1) (hc0_1:l0_1.length≤c0_1) (hr0_2:Kd.C k90 w A0_2 l0_2.length l0_2) (hc0_2:l0_2.length≤c0_2) (h:threshold_level.f k a0_0 l0_1 l0_2=some r),
  Calls Tryz.prog 211 #[.agg #[.int .i64 a0_0,.slice A0_1 l0_1.length c0_1,.slice A0_2 l0_2.length c0_2]] w fun e w'=>e=.returned (.int .i64 r)∧Below w.heap.size w w':=by
 induction k using Nat.strongRecOn with
 | _ k ih =>
 intro a0_0 A0_1 c0_1 l0_1 A0_2 c0_2 l0_2 r w hr0_1 hc0_1 hr0_2 hc0_2 h
 cases k with
 | zero=>exact absurd h (by simp [threshold_level.f])
 | succ k =>
 simp only [threshold_level.f] at h
 have hu90:=Tryz.underlying90
 have HR0_1:=Z hr0_1
 have HC0_1:=Z hc0_1
 clear hr0_1 hc0_1
 have HR0_2:=Z hr0_2
 have HC0_2:=Z hc0_2
 clear hr0_2 hc0_2
 have HB:=Z (Below.refl w.heap.size w)
 have H:(if a0_0 < 1 then (threshold_level.j0 k true a0_0 l0_1 l0_2) else (threshold_level.j0 k (decide (a0_0 > (wrap64 ((l0_1.length:Int)+(l0_2.length:Int))))) a0_0 l0_1 l0_2))=some r:=h
 clear h
 have HC2:=Z H
 clear H
 go_enter Tryz.func211,Tryz.ntmps211
 go_upto_region 1 with (first|((with_reducible refine gate_dst (N:=1) rfl ?_);(try (refine gate_guard (by rfl) ?_;dsimp only));refine box_event ?hg (N:=1) ?hd (cs:=#[.int .i64 a0_0,.slice A0_1 l0_1.length c0_1,.slice A0_2 l0_2.length c0_2]) (t:=90) ?hr ?_;(case hd=>rfl);(case hg=>rfl);(case hr=>first|(go_simp;done)|(go_simp;rfl));intro gb126 hg w3 hbox hb;have n0_:=Z (below_step pB hb);have BK126:=Z (hbox);have GW126:=Z ((pT hg:w.heap.size≤gb126));have GE126:=Z ((pT hg:w.heap.size≤gb126));clear HB;have HB:=n0_;clear n0_ hb hbox hg))
 (try simp only [Act.put,List.setIfInBounds_toArray,List.set_cons_zero,List.set_cons_succ])
 go_cut [22] (fun v22 wc=>∃ (kq:Nat) (x22_1:Bool),v22=.bool x22_1∧Aside0 (threshold_level.j0 kq x22_1 a0_0 l0_1 l0_2=some r)∧Aside0 (kq≤k)∧Aside0 (wc.heap[gb126]?=some (.cells #[.int .i64 a0_0,(.slice A0_1 l0_1.length c0_1),(.slice A0_2 l0_2.length c0_2)] 90 (0,0)))∧Aside0 (Below w.heap.size w wc))
 case first =>
  have H:=HC2.out
  clear HC2
  by_cases c4:a0_0 < 1
  ·rw [if_pos c4] at H
   have c4b0:decide (a0_0 < 1)=true:=decide_eq_true c4
   clear c4
   (first|rw [c4b0]|(simp only [i64_w,i32_w];rw [c4b0])|skip)
   have H':=Z H
   clear H
   have hcz5_0:=pV BK126 (.int .i64 a0_0) 0 rfl
   have hcz5_1:=pV BK126 (.slice A0_1 l0_1.length c0_1) 1 rfl
   have hcz5_2:=pV BK126 (.slice A0_2 l0_2.length c0_2) 2 rfl
   have hfz5_0:=kF BK126.out 0
   have hfz5_1:=kF BK126.out 1
   have hfz5_2:=kF BK126.out 2
   go_wp2
   go_meet
   case rel=>exact ⟨_,(true),pE,H',⟨by first|omega|exact Nat.le_refl _⟩,⟨pK BK126⟩,⟨pB⟩⟩
  ·rw [if_neg c4] at H
   have c4b0:decide (a0_0 < 1)=false:=decide_eq_false c4
   clear c4
   (first|rw [c4b0]|(simp only [i64_w,i32_w];rw [c4b0])|skip)
   have H':=Z H
   clear H
   have hcz6_0:=pV BK126 (.int .i64 a0_0) 0 rfl
   have hcz6_1:=pV BK126 (.slice A0_1 l0_1.length c0_1) 1 rfl
   have hcz6_2:=pV BK126 (.slice A0_2 l0_2.length c0_2) 2 rfl
   have hfz6_0:=kF BK126.out 0
   have hfz6_1:=kF BK126.out 1
   have hfz6_2:=kF BK126.out 2
   go_wp2
   go_meet
   case rel=>exact ⟨_,(decide (a0_0 > (wrap64 ((l0_1.length:Int)+(l0_2.length:Int))))),pE,H',⟨by first|omega|exact Nat.le_refl _⟩,⟨pK BK126⟩,⟨pB⟩⟩
 case rest =>
  clear HC2
  try clear c2
  try clear p2
  try clear c4
  try clear c4b0
  try clear p6
  try clear hcz5_0
  try clear hcz5_1
  try clear hcz5_2
  try clear hcz6_0
  try clear hcz6_1
  try clear hcz6_2
  try clear hfz5_0
  try clear hfz5_1
  try clear hfz5_2
  try clear hfz6_0
  try clear hfz6_1
  try clear hfz6_2
  obtain ⟨kq,x22_1,rfl,HA,HJ1,BK126,HB⟩:=hcut
  cases kq with
  | zero=>exact absurd HA.out (by simp [threshold_level.j0])
  | succ kj1 =>
   have H:=HA.out
   clear HA
   simp only [threshold_level.j0] at H
   by_cases c7:x22_1=true
   ·subst c7
    rw [if_pos rfl] at H
    obtain rfl:=Option.some.inj H
    go_wp2
    go_ret
    exact ⟨pF,pB⟩
   ·replace c7:=Bool.eq_false_iff.mpr c7
    subst c7
    rw [if_neg (show ¬ (false=true) by decide)] at H
    replace H:=pO H
    obtain ⟨t127,A80,H⟩:=H
    try dsimp only at H
    have A8:=Z A80
    clear A80
    by_cases c9:t127=true
    ·subst c9
     rw [if_pos rfl] at H
     obtain rfl:=Option.some.inj H
     have hcz10_0:=pV BK126 (.int .i64 a0_0) 0 rfl
     have hcz10_1:=pV BK126 (.slice A0_1 l0_1.length c0_1) 1 rfl
     have hcz10_2:=pV BK126 (.slice A0_2 l0_2.length c0_2) 2 rfl
     have hfz10_0:=kF BK126.out 0
     have hfz10_1:=kF BK126.out 1
     have hfz10_2:=kF BK126.out 2
     go_wp2_with (first|((with_reducible refine gate_callee (f:=163) rfl ?_);refine goesL_ (some 25) rfl rfl Tryz.func163 pU rfl #[.slice A0_1 l0_1.length c0_1,.func (.func 227) #[] #[]] rfl pG ?_;(with_reducible refine (containsFunc_level.calls _ _ l0_1 true _ ?side1 ?side2 A8.out).mono ?_);(case side1=>exact pC HR0_1);(case side2=>exact HC0_1.out);rintro e w' ⟨rfl,⟨nd,rfl⟩⟩;refine ⟨_,rfl,?_⟩))
     go_ret
     exact ⟨pF,pB⟩
    ·replace c9:=Bool.eq_false_iff.mpr c9
     subst c9
     rw [if_neg (show ¬ (false=true) by decide)] at H
     replace H:=pO H
     obtain ⟨⟨t128,t129⟩,A110,H⟩:=H
     try dsimp only at H
     have A11:=Z A110
     clear A110
     by_cases c12:t129=0
     ·rw [if_pos c12] at H
      have c12b0:(t129 == 0)=true:=beq_iff_eq.mpr c12
      have c12b1:(t129 != 0)=false:=bne_eq_false_iff_eq.mpr c12
      clear c12
      have H':=Z H
      clear H
      have hcz13_0:=pV BK126 (.int .i64 a0_0) 0 rfl
      have hcz13_1:=pV BK126 (.slice A0_1 l0_1.length c0_1) 1 rfl
      have hcz13_2:=pV BK126 (.slice A0_2 l0_2.length c0_2) 2 rfl
      have hfz13_0:=kF BK126.out 0
      have hfz13_1:=kF BK126.out 1
      have hfz13_2:=kF BK126.out 2
      go_wp2_with (first|((with_reducible refine gate_callee (f:=163) rfl ?_);refine goesL_ (some 25) rfl rfl Tryz.func163 pU rfl #[.slice A0_1 l0_1.length c0_1,.func (.func 227) #[] #[]] rfl pG ?_;(with_reducible refine (containsFunc_level.calls _ _ l0_1 false _ ?side1 ?side2 A8.out).mono ?_);(case side1=>exact pC HR0_1);(case side2=>exact HC0_1.out);rintro e w' ⟨rfl,⟨nd,rfl⟩⟩;refine ⟨_,rfl,?_⟩)|((with_reducible refine gate_callee (f:=228) rfl ?_);refine goesL_ (some 29) rfl rfl Tryz.func228 pU rfl #[.slice A0_1 l0_1.length c0_1] rfl pG ?_;(with_reducible refine (nodeset_Of.calls kj1 _ _ l0_1 t128 t129 _ ?side1 ?side2 A11.out).mono ?_);(case side1=>exact pC HR0_1);(case side2=>exact HC0_1.out);rintro e w' ⟨rfl,⟨nd,rfl⟩⟩;refine ⟨_,rfl,?_⟩))
      go_loopg [38] kj1 (fun kq v38 w'=>∃ (x38_2:Int),v38=.int .i64 x38_2∧Aside0 (threshold_level.l0 kq l0_2 (l0_2.length:Int) x38_2=some r)∧Aside0 (kq≤kj1)∧Aside0 (w'.heap[gb126]?=some (.cells #[.int .i64 a0_0,(.slice A0_1 l0_1.length c0_1),(.slice A0_2 l0_2.length c0_2)] 90 (0,0)))∧Aside0 (Below w.heap.size w w'))
      case atStart=>exact ⟨(0),pE,H',⟨Nat.le_refl _⟩,⟨pK BK126⟩,⟨pB⟩⟩
      case round =>
       clear H'
       try clear c1
       try clear c2
       try clear p2
       try clear c4
       try clear c4b0
       try clear p6
       try clear c7
       try clear c9
       try clear c12
       try clear c12b0
       try clear c12b1
       try clear hcz10_0
       try clear hcz10_1
       try clear hcz10_2
       try clear hcz13_0
       try clear hcz13_1
       try clear hcz13_2
       try clear hcz5_0
       try clear hcz5_1
       try clear hcz5_2
       try clear hcz6_0
       try clear hcz6_1
       try clear hcz6_2
       try clear hfz10_0
       try clear hfz10_1
       try clear hfz10_2
       try clear hfz13_0
       try clear hfz13_1
       try clear hfz13_2
       try clear hfz5_0
       try clear hfz5_1
       try clear hfz5_2
       try clear hfz6_0
       try clear hfz6_1
       try clear hfz6_2
       obtain ⟨x38_2,rfl,HA,HK2,BK126,HB⟩:=hrel
       cases gk with
       | zero=>exact absurd HA.out (by simp [threshold_level.l0])
       | succ k2 =>
        have H:=HA.out
        clear HA
        simp only [threshold_level.l0] at H
        by_cases c14:x38_2 < (l0_2.length:Int)
        ·rw [if_pos c14] at H
         have c14b0:decide (x38_2 < (l0_2.length:Int))=true:=decide_eq_true c14
         clear c14
         by_cases c15:0≤x38_2
         ·rw [if_pos c15] at H
          have c15b0:decide (0≤x38_2)=true:=decide_eq_true c15
          clear c15
          by_cases c16:x38_2 < (l0_2.length:Int)
          ·rw [if_pos c16] at H
           have c16b0:decide (x38_2 < (l0_2.length:Int))=true:=decide_eq_true c16
           clear c16
           replace H:=pO H
           obtain ⟨t132,A170,H⟩:=H
           try dsimp only at H
           have A17:=Z A170
           clear A170
           by_cases c18:t132=0
           ·rw [if_pos c18] at H
            have c18b0:(t132 == 0)=true:=beq_iff_eq.mpr c18
            have c18b1:(t132 != 0)=false:=bne_eq_false_iff_eq.mpr c18
            clear c18
            have H':=Z H
            clear H
            have p130:0≤(x38_2:Int):=of_decide_eq_true pA
            have q130:x38_2 < (l0_2.length:Int):=of_decide_eq_true pA
            obtain ⟨ad130,A130_1,c130_1,A130_2,c130_2,e130,hx130_0,hx130_1,hx130_2,hl130_1,hi130_1,hl130_2,hi130_2⟩:=at_T90 HR0_2.out x38_2 p130 q130
            cases e130
            replace hx130_0:=pX HB hx130_0
            replace hx130_1:=pX HB hx130_1
            replace hx130_2:=pX HB hx130_2
            have HR130_1:=Z hi130_1
            have HC130_1:=Z hl130_1
            clear hi130_1 hl130_1
            have HR130_2:=Z hi130_2
            have HC130_2:=Z hl130_2
            clear hi130_2 hl130_2
            replace p130:=eq_true p130
            replace q130:=eq_true q130
            go_wp2_with (first|((with_reducible refine gate_dst (N:=6) rfl ?_);(try (refine gate_guard (by rfl) ?_;dsimp only));refine box_event ?hg (N:=6) ?hd (cs:=#[.int .i64 0,.slice none 0 0,.slice none 0 0]) (t:=90) ?hr ?_;(case hd=>rfl);(case hg=>rfl);(case hr=>first|(go_simp;done)|(go_simp;rfl));intro gb131 hg w19 hbox hb;have n0_:=Z (blk_below (g:=gb126) (o:=.cells #[.int .i64 a0_0,.slice A0_1 l0_1.length c0_1,.slice (some ad130) l0_2.length c0_2] 90 (0,0)) (pK BK126) hb);have n1_:=Z (below_step pB hb);have BK131:=Z (hbox);have GW131:=Z ((pT hg:w.heap.size≤gb131));have GE131:=Z ((pT hg:w.heap.size≤gb131));have NB126_131:=Z ((pL hg (pK BK126):gb126 ≠ gb131));have NB131_126:=Z ((pM hg (pK BK126):gb131 ≠ gb126));clear BK126 HB;have BK126:=n0_;have HB:=n1_;clear n0_ n1_ hb hbox hg;have hnb20:=NB131_126.out;have hnc20:=NB126_131.out;obtain ⟨hcz21_0,hcz21_1,hcz21_2,hfz21_0,hfz21_1,hfz21_2⟩:=p3 BK131)|((with_reducible refine gate_callee (f:=211) rfl ?_);refine goesL_ (some 43) rfl rfl Tryz.func211 pU rfl #[.agg #[.int .i64 ((rd_T90 l0_2 x38_2).f0),.slice A130_1 ((rd_T90 l0_2 x38_2).f1).length c130_1,.slice A130_2 ((rd_T90 l0_2 x38_2).f2).length c130_2]] rfl pG ?_;(with_reducible refine (ih k2 (by have:=HJ1.out;have:=HK2.out;omega) ((rd_T90 l0_2 x38_2).f0) _ _ ((rd_T90 l0_2 x38_2).f1) _ _ ((rd_T90 l0_2 x38_2).f2) t132 _ ?side1 ?side2 ?side3 ?side4 A17.out).mono ?_);(case side1=>exact Kd.C_below HR130_1.out pB);(case side2=>exact HC130_1.out);(case side3=>exact Kd.C_below HR130_2.out pB);(case side4=>exact HC130_2.out);rintro e w22 ⟨rfl,hb⟩;refine ⟨_,rfl,?_⟩;replace BK126:=Z (blk_below (g:=gb126) (o:=.cells #[.int .i64 a0_0,.slice A0_1 l0_1.length c0_1,.slice (some ad130) l0_2.length c0_2] 90 (0,0)) (by refine pQ ?_;refine blk_far ?_ NB126_131.out _;refine pQ ?_;refine blk_far ?_ NB126_131.out _;refine pQ ?_;refine blk_far ?_ NB126_131.out _;exact pK BK126) hb);replace BK131:=Z (blk_below (g:=gb131) (o:=.cells #[.int .i64 ((rd_T90 l0_2 x38_2).f0),.slice A130_1 ((rd_T90 l0_2 x38_2).f1).length c130_1,.slice A130_2 ((rd_T90 l0_2 x38_2).f2).length c130_2] 90 (0,0)) (by refine pQ ?_;refine blk_put (cs:=#[.int .i64 ((rd_T90 l0_2 x38_2).f0),.slice A130_1 ((rd_T90 l0_2 x38_2).f1).length c130_1,.slice none 0 0]) ?_ 2 _ rfl;refine pQ ?_;refine blk_put (cs:=#[.int .i64 ((rd_T90 l0_2 x38_2).f0),.slice none 0 0,.slice none 0 0]) ?_ 1 _ rfl;refine pQ ?_;refine blk_put (cs:=#[.int .i64 0,.slice none 0 0,.slice none 0 0]) ?_ 0 _ rfl;exact pK BK131) hb);have n2_:=Z (below_step pB hb);clear HB;have HB:=n2_;clear n2_;(try clear hb);(try clear hb2);(try clear hk);(try clear hi)))
            go_roundg k2
            case measure=>have:=HJ1.out;have:=HK2.out;omega
            case rel=>exact ⟨(wrap64 (x38_2+1)),pE,H',⟨by have:=HJ1.out;have:=HK2.out;omega⟩,⟨pK BK126⟩,⟨pB⟩⟩
           ·rw [if_neg c18] at H
            have c18b0:(t132 == 0)=false:=beq_eq_false_iff_ne.mpr c18
            have c18b1:(t132 != 0)=true:=bne_iff_ne.mpr c18
            obtain rfl:=Option.some.inj H
            have p130:0≤(x38_2:Int):=of_decide_eq_true pA
            have q130:x38_2 < (l0_2.length:Int):=of_decide_eq_true pA
            obtain ⟨ad130,A130_1,c130_1,A130_2,c130_2,e130,hx130_0,hx130_1,hx130_2,hl130_1,hi130_1,hl130_2,hi130_2⟩:=at_T90 HR0_2.out x38_2 p130 q130
            cases e130
            replace hx130_0:=pX HB hx130_0
            replace hx130_1:=pX HB hx130_1
            replace hx130_2:=pX HB hx130_2
            have HR130_1:=Z hi130_1
            have HC130_1:=Z hl130_1
            clear hi130_1 hl130_1
            have HR130_2:=Z hi130_2
            have HC130_2:=Z hl130_2
            clear hi130_2 hl130_2
            replace p130:=eq_true p130
            replace q130:=eq_true q130
            go_wp2_with (first|((with_reducible refine gate_dst (N:=6) rfl ?_);(try (refine gate_guard (by rfl) ?_;dsimp only));refine box_event ?hg (N:=6) ?hd (cs:=#[.int .i64 0,.slice none 0 0,.slice none 0 0]) (t:=90) ?hr ?_;(case hd=>rfl);(case hg=>rfl);(case hr=>first|(go_simp;done)|(go_simp;rfl));intro gb131 hg w23 hbox hb;have n0_:=Z (blk_below (g:=gb126) (o:=.cells #[.int .i64 a0_0,.slice A0_1 l0_1.length c0_1,.slice (some ad130) l0_2.length c0_2] 90 (0,0)) (pK BK126) hb);have n1_:=Z (below_step pB hb);have BK131:=Z (hbox);have GW131:=Z ((pT hg:w.heap.size≤gb131));have GE131:=Z ((pT hg:w.heap.size≤gb131));have NB126_131:=Z ((pL hg (pK BK126):gb126 ≠ gb131));have NB131_126:=Z ((pM hg (pK BK126):gb131 ≠ gb126));clear BK126 HB;have BK126:=n0_;have HB:=n1_;clear n0_ n1_ hb hbox hg;have hnb24:=NB131_126.out;have hnc24:=NB126_131.out;obtain ⟨hcz25_0,hcz25_1,hcz25_2,hfz25_0,hfz25_1,hfz25_2⟩:=p3 BK131)|((with_reducible refine gate_callee (f:=211) rfl ?_);refine goesL_ (some 43) rfl rfl Tryz.func211 pU rfl #[.agg #[.int .i64 ((rd_T90 l0_2 x38_2).f0),.slice A130_1 ((rd_T90 l0_2 x38_2).f1).length c130_1,.slice A130_2 ((rd_T90 l0_2 x38_2).f2).length c130_2]] rfl pG ?_;(with_reducible refine (ih k2 (by have:=HJ1.out;have:=HK2.out;omega) ((rd_T90 l0_2 x38_2).f0) _ _ ((rd_T90 l0_2 x38_2).f1) _ _ ((rd_T90 l0_2 x38_2).f2) t132 _ ?side1 ?side2 ?side3 ?side4 A17.out).mono ?_);(case side1=>exact Kd.C_below HR130_1.out pB);(case side2=>exact HC130_1.out);(case side3=>exact Kd.C_below HR130_2.out pB);(case side4=>exact HC130_2.out);rintro e w26 ⟨rfl,hb⟩;refine ⟨_,rfl,?_⟩;replace BK126:=Z (blk_below (g:=gb126) (o:=.cells #[.int .i64 a0_0,.slice A0_1 l0_1.length c0_1,.slice (some ad130) l0_2.length c0_2] 90 (0,0)) (by refine pQ ?_;refine blk_far ?_ NB126_131.out _;refine pQ ?_;refine blk_far ?_ NB126_131.out _;refine pQ ?_;refine blk_far ?_ NB126_131.out _;exact pK BK126) hb);replace BK131:=Z (blk_below (g:=gb131) (o:=.cells #[.int .i64 ((rd_T90 l0_2 x38_2).f0),.slice A130_1 ((rd_T90 l0_2 x38_2).f1).length c130_1,.slice A130_2 ((rd_T90 l0_2 x38_2).f2).length c130_2] 90 (0,0)) (by refine pQ ?_;refine blk_put (cs:=#[.int .i64 ((rd_T90 l0_2 x38_2).f0),.slice A130_1 ((rd_T90 l0_2 x38_2).f1).length c130_1,.slice none 0 0]) ?_ 2 _ rfl;refine pQ ?_;refine blk_put (cs:=#[.int .i64 ((rd_T90 l0_2 x38_2).f0),.slice none 0 0,.slice none 0 0]) ?_ 1 _ rfl;refine pQ ?_;refine blk_put (cs:=#[.int .i64 0,.slice none 0 0,.slice none 0 0]) ?_ 0 _ rfl;exact pK BK131) hb);have n2_:=Z (below_step pB hb);clear HB;have HB:=n2_;clear n2_;(try clear hb);(try clear hb2);(try clear hk);(try clear hi)))
            go_ret
            exact ⟨pF,pB⟩
          ·rw [if_neg c16] at H
           exact absurd H (by simp)
         ·rw [if_neg c15] at H
          exact absurd H (by simp)
        ·rw [if_neg c14] at H
         have c14b0:decide (x38_2 < (l0_2.length:Int))=false:=decide_eq_false c14
         clear c14
         obtain rfl:=Option.some.inj H
         go_wp2
         go_ret
         exact ⟨pF,pB⟩
     ·rw [if_neg c12] at H
      have c12b0:(t129 == 0)=false:=beq_eq_false_iff_ne.mpr c12
      have c12b1:(t129 != 0)=true:=bne_iff_ne.mpr c12
      obtain rfl:=Option.some.inj H
      have hcz27_0:=pV BK126 (.int .i64 a0_0) 0 rfl
      have hcz27_1:=pV BK126 (.slice A0_1 l0_1.length c0_1) 1 rfl
      have hcz27_2:=pV BK126 (.slice A0_2 l0_2.length c0_2) 2 rfl
      have hfz27_0:=kF BK126.out 0
      have hfz27_1:=kF BK126.out 1
      have hfz27_2:=kF BK126.out 2
      go_wp2_with (first|((with_reducible refine gate_callee (f:=163) rfl ?_);refine goesL_ (some 25) rfl rfl Tryz.func163 pU rfl #[.slice A0_1 l0_1.length c0_1,.func (.func 227) #[] #[]] rfl pG ?_;(with_reducible refine (containsFunc_level.calls _ _ l0_1 false _ ?side1 ?side2 A8.out).mono ?_);(case side1=>exact pC HR0_1);(case side2=>exact HC0_1.out);rintro e w' ⟨rfl,⟨nd,rfl⟩⟩;refine ⟨_,rfl,?_⟩)|((with_reducible refine gate_callee (f:=228) rfl ?_);refine goesL_ (some 29) rfl rfl Tryz.func228 pU rfl #[.slice A0_1 l0_1.length c0_1] rfl pG ?_;(with_reducible refine (nodeset_Of.calls kj1 _ _ l0_1 t128 t129 _ ?side1 ?side2 A11.out).mono ?_);(case side1=>exact pC HR0_1);(case side2=>exact HC0_1.out);rintro e w' ⟨rfl,⟨nd,rfl⟩⟩;refine ⟨_,rfl,?_⟩))
      go_ret
      exact ⟨pF,pB⟩
def threshold_Valid.f (k:Nat) (a0_0:Int) (l0_1:List Int) (l0_2:List (S90)):Option (Int):=(threshold_Depth.f k a0_0 l0_1 l0_2).bind fun t134=>(if t134 > 4 then (some 3) else ((threshold_Size.f k a0_0 l0_1 l0_2).bind fun t135=>(if t135 > 200 then (some 3) else ((threshold_level.f k a0_0 l0_1 l0_2).bind fun t136=>(some t136)))))
set_option maxHeartbeats 8000000 in
set_option maxRecDepth 100000 in
theorem threshold_Valid.calls (k:Nat) (a0_0:Int) (A0_1:Option Addr) (c0_1:Nat) (l0_1:List Int) (A0_2:Option Addr) (c0_2:Nat) (l0_2:List (S90)) (r:Int) (w:World) (hr0_1:Kd.C (Kd.int .i64) w A0_1 l0_1.length l0_1) (hc0_1:l0_1.length≤c0_1) (hr0_2:Kd.C k90 w A0_2 l0_2.length l0_2) (hc0_2:l0_2.length≤c0_2) (h:threshold_Valid.f k a0_0 l0_1 l0_2=some r) :
  Calls Tryz.prog 189 #[.agg #[.int .i64 a0_0,.slice A0_1 l0_1.length c0_1,.slice A0_2 l0_2.length c0_2]] w fun e w'=>e=.returned (.int .i64 r)∧Below w.heap.size w w':=by
 have hu90:=Tryz.underlying90
 have HR0_1:=Z hr0_1
 have HC0_1:=Z hc0_1
 clear hr0_1 hc0_1
 have HR0_2:=Z hr0_2
 have HC0_2:=Z hc0_2
 clear hr0_2 hc0_2
 have HB:=Z (Below.refl w.heap.size w)
 have H:((threshold_Depth.f k a0_0 l0_1 l0_2).bind fun t134=>(if t134 > 4 then (some 3) else ((threshold_Size.f k a0_0 l0_1 l0_2).bind fun t135=>(if t135 > 200 then (some 3) else ((threshold_level.f k a0_0 l0_1 l0_2).bind fun t136=>(some t136))))))=some r:=h
 clear h
 replace H:=pO H
 obtain ⟨t134,A20,H⟩:=H
 try dsimp only at H
 have A2:=Z A20
 clear A20
 by_cases c3:t134 > 4
 ·rw [if_pos c3] at H
  have c3b0:decide (4 < t134)=true:=decide_eq_true c3
  clear c3
  obtain rfl:=Option.some.inj H
  go_enter Tryz.func189,Tryz.ntmps189
  go_wp2_with (first|((with_reducible refine gate_dst (N:=1) rfl ?_);refine box_event ?hg (N:=1) ?hd (cs:=#[.int .i64 a0_0,.slice A0_1 l0_1.length c0_1,.slice A0_2 l0_2.length c0_2]) (t:=90) ?hr ?_;(case hd=>rfl);(case hg=>rfl);(case hr=>first|(go_simp;done)|(go_simp;rfl));intro gb133 hg w4 hbox hb;have n0_:=Z (below_step pB hb);have BK133:=Z (hbox);have GW133:=Z ((pT hg:w.heap.size≤gb133));have GE133:=Z ((pT hg:w.heap.size≤gb133));clear HB;have HB:=n0_;clear n0_ hb hbox hg;obtain ⟨hcz5_0,hcz5_1,hcz5_2,hfz5_0,hfz5_1,hfz5_2⟩:=p3 BK133)|((with_reducible refine gate_callee (f:=209) rfl ?_);refine goesL_ (some 4) rfl rfl Tryz.func209 pU rfl #[.agg #[.int .i64 a0_0,.slice A0_1 l0_1.length c0_1,.slice A0_2 l0_2.length c0_2]] rfl pG ?_;(with_reducible refine (threshold_Depth.calls k a0_0 _ _ l0_1 _ _ l0_2 t134 _ ?side1 ?side2 ?side3 ?side4 A2.out).mono ?_);(case side1=>exact pC HR0_1);(case side2=>exact HC0_1.out);(case side3=>exact pC HR0_2);(case side4=>exact HC0_2.out);rintro e w6 ⟨rfl,hb⟩;refine ⟨_,rfl,?_⟩;replace BK133:=Z (blk_below (g:=gb133) (o:=.cells #[.int .i64 a0_0,.slice A0_1 l0_1.length c0_1,.slice A0_2 l0_2.length c0_2] 90 (0,0)) (pK BK133) hb);have n1_:=Z (below_step pB hb);clear HB;have HB:=n1_;clear n1_;(try clear hb);(try clear hb2);(try clear hk);(try clear hi)))
  go_ret
  exact ⟨pF,pB⟩
 ·rw [if_neg c3] at H
  have c3b0:decide (4 < t134)=false:=decide_eq_false c3
  clear c3
  replace H:=pO H
  obtain ⟨t135,A70,H⟩:=H
  try dsimp only at H
  have A7:=Z A70
  clear A70
  by_cases c8:t135 > 200
  ·rw [if_pos c8] at H
   have c8b0:decide (200 < t135)=true:=decide_eq_true c8
   clear c8
   obtain rfl:=Option.some.inj H
   go_enter Tryz.func189,Tryz.ntmps189
   go_wp2_with (first|((with_reducible refine gate_dst (N:=1) rfl ?_);refine box_event ?hg (N:=1) ?hd (cs:=#[.int .i64 a0_0,.slice A0_1 l0_1.length c0_1,.slice A0_2 l0_2.length c0_2]) (t:=90) ?hr ?_;(case hd=>rfl);(case hg=>rfl);(case hr=>first|(go_simp;done)|(go_simp;rfl));intro gb133 hg w9 hbox hb;have n0_:=Z (below_step pB hb);have BK133:=Z (hbox);have GW133:=Z ((pT hg:w.heap.size≤gb133));have GE133:=Z ((pT hg:w.heap.size≤gb133));clear HB;have HB:=n0_;clear n0_ hb hbox hg;obtain ⟨hcz10_0,hcz10_1,hcz10_2,hfz10_0,hfz10_1,hfz10_2⟩:=p3 BK133)|((with_reducible refine gate_callee (f:=209) rfl ?_);refine goesL_ (some 4) rfl rfl Tryz.func209 pU rfl #[.agg #[.int .i64 a0_0,.slice A0_1 l0_1.length c0_1,.slice A0_2 l0_2.length c0_2]] rfl pG ?_;(with_reducible refine (threshold_Depth.calls k a0_0 _ _ l0_1 _ _ l0_2 t134 _ ?side1 ?side2 ?side3 ?side4 A2.out).mono ?_);(case side1=>exact pC HR0_1);(case side2=>exact HC0_1.out);(case side3=>exact pC HR0_2);(case side4=>exact HC0_2.out);rintro e w11 ⟨rfl,hb⟩;refine ⟨_,rfl,?_⟩;replace BK133:=Z (blk_below (g:=gb133) (o:=.cells #[.int .i64 a0_0,.slice A0_1 l0_1.length c0_1,.slice A0_2 l0_2.length c0_2] 90 (0,0)) (pK BK133) hb);have n1_:=Z (below_step pB hb);clear HB;have HB:=n1_;clear n1_;(try clear hb);(try clear hb2);(try clear hk);(try clear hi);obtain ⟨hcz12_0,hcz12_1,hcz12_2,hfz12_0,hfz12_1,hfz12_2⟩:=p3 BK133)|(go_at_call 210;(with_reducible refine (threshold_Size.calls k a0_0 _ _ l0_1 _ _ l0_2 t135 _ ?side1 ?side2 ?side3 ?side4 A7.out).mono ?_);(case side1=>exact pC HR0_1);(case side2=>exact HC0_1.out);(case side3=>exact pC HR0_2);(case side4=>exact HC0_2.out);rintro e w13 ⟨rfl,hb⟩;replace BK133:=Z (blk_below (g:=gb133) (o:=.cells #[.int .i64 a0_0,.slice A0_1 l0_1.length c0_1,.slice A0_2 l0_2.length c0_2] 90 (0,0)) (pK BK133) hb);have n1_:=Z (below_step pB hb);clear HB;have HB:=n1_;clear n1_;(try clear hb);(try clear hb2);(try clear hk);(try clear hi)))
   go_ret
   exact ⟨pF,pB⟩
  ·rw [if_neg c8] at H
   have c8b0:decide (200 < t135)=false:=decide_eq_false c8
   clear c8
   replace H:=pO H
   obtain ⟨t136,A140,H⟩:=H
   try dsimp only at H
   have A14:=Z A140
   clear A140
   obtain rfl:=Option.some.inj H
   go_enter Tryz.func189,Tryz.ntmps189
   go_wp2_with (first|((with_reducible refine gate_dst (N:=1) rfl ?_);refine box_event ?hg (N:=1) ?hd (cs:=#[.int .i64 a0_0,.slice A0_1 l0_1.length c0_1,.slice A0_2 l0_2.length c0_2]) (t:=90) ?hr ?_;(case hd=>rfl);(case hg=>rfl);(case hr=>first|(go_simp;done)|(go_simp;rfl));intro gb133 hg w15 hbox hb;have n0_:=Z (below_step pB hb);have BK133:=Z (hbox);have GW133:=Z ((pT hg:w.heap.size≤gb133));have GE133:=Z ((pT hg:w.heap.size≤gb133));clear HB;have HB:=n0_;clear n0_ hb hbox hg;obtain ⟨hcz16_0,hcz16_1,hcz16_2,hfz16_0,hfz16_1,hfz16_2⟩:=p3 BK133)|((with_reducible refine gate_callee (f:=209) rfl ?_);refine goesL_ (some 4) rfl rfl Tryz.func209 pU rfl #[.agg #[.int .i64 a0_0,.slice A0_1 l0_1.length c0_1,.slice A0_2 l0_2.length c0_2]] rfl pG ?_;(with_reducible refine (threshold_Depth.calls k a0_0 _ _ l0_1 _ _ l0_2 t134 _ ?side1 ?side2 ?side3 ?side4 A2.out).mono ?_);(case side1=>exact pC HR0_1);(case side2=>exact HC0_1.out);(case side3=>exact pC HR0_2);(case side4=>exact HC0_2.out);rintro e w17 ⟨rfl,hb⟩;refine ⟨_,rfl,?_⟩;replace BK133:=Z (blk_below (g:=gb133) (o:=.cells #[.int .i64 a0_0,.slice A0_1 l0_1.length c0_1,.slice A0_2 l0_2.length c0_2] 90 (0,0)) (pK BK133) hb);have n1_:=Z (below_step pB hb);clear HB;have HB:=n1_;clear n1_;(try clear hb);(try clear hb2);(try clear hk);(try clear hi);obtain ⟨hcz18_0,hcz18_1,hcz18_2,hfz18_0,hfz18_1,hfz18_2⟩:=p3 BK133)|(go_at_call 210;(with_reducible refine (threshold_Size.calls k a0_0 _ _ l0_1 _ _ l0_2 t135 _ ?side1 ?side2 ?side3 ?side4 A7.out).mono ?_);(case side1=>exact pC HR0_1);(case side2=>exact HC0_1.out);(case side3=>exact pC HR0_2);(case side4=>exact HC0_2.out);rintro e w19 ⟨rfl,hb⟩;replace BK133:=Z (blk_below (g:=gb133) (o:=.cells #[.int .i64 a0_0,.slice A0_1 l0_1.length c0_1,.slice A0_2 l0_2.length c0_2] 90 (0,0)) (pK BK133) hb);have n1_:=Z (below_step pB hb);clear HB;have HB:=n1_;clear n1_;(try clear hb);(try clear hb2);(try clear hk);(try clear hi);obtain ⟨hcz20_0,hcz20_1,hcz20_2,hfz20_0,hfz20_1,hfz20_2⟩:=p3 BK133)|((with_reducible refine gate_callee (f:=211) rfl ?_);refine goesL_ (some 12) rfl rfl Tryz.func211 pU rfl #[.agg #[.int .i64 a0_0,.slice A0_1 l0_1.length c0_1,.slice A0_2 l0_2.length c0_2]] rfl pG ?_;(with_reducible refine (threshold_level.calls k a0_0 _ _ l0_1 _ _ l0_2 t136 _ ?side1 ?side2 ?side3 ?side4 A14.out).mono ?_);(case side1=>exact pC HR0_1);(case side2=>exact HC0_1.out);(case side3=>exact pC HR0_2);(case side4=>exact HC0_2.out);rintro e w21 ⟨rfl,hb⟩;refine ⟨_,rfl,?_⟩;replace BK133:=Z (blk_below (g:=gb133) (o:=.cells #[.int .i64 a0_0,.slice A0_1 l0_1.length c0_1,.slice A0_2 l0_2.length c0_2] 90 (0,0)) (pK BK133) hb);have n1_:=Z (below_step pB hb);clear HB;have HB:=n1_;clear n1_;(try clear hb);(try clear hb2);(try clear hk);(try clear hi)))
   go_ret
   exact ⟨pF,pB⟩
def configuration_member.f (k:Nat) (a0_0:Bool) (a0_1:Int) (l0_2:List Int) (l0_3:List (S90)) (a1:Int):Option (Int):=if a0_0=true then ((threshold_Valid.f k a0_1 l0_2 l0_3).bind fun t139=>(if t139=0 then ((threshold_Uses.f k a0_1 l0_2 l0_3).bind fun t140=>(if 0≤a1 then (if t140 ≥ (shl .i64 1 a1) then (some 5) else (some 0)) else (none))) else (some t139))) else ((configuration_blank.f a0_1 l0_2 l0_3).bind fun t138=>(if t138=true then (some 0) else (some 1)))
set_option maxHeartbeats 8000000 in
set_option maxRecDepth 100000 in
theorem configuration_member.calls (k:Nat) (a0_0:Bool) (a0_1:Int) (A0_2:Option Addr) (c0_2:Nat) (l0_2:List Int) (A0_3:Option Addr) (c0_3:Nat) (l0_3:List (S90)) (a1:Int) (r:Int) (w:World) (hr0_2:Kd.C (Kd.int .i64) w A0_2 l0_2.length l0_2) (hc0_2:l0_2.length≤c0_2) (hr0_3:Kd.C k90 w A0_3 l0_3.length l0_3) (hc0_3:l0_3.length≤c0_3) (h:configuration_member.f k a0_0 a0_1 l0_2 l0_3 a1=some r) :
  Calls Tryz.prog 156 #[.agg #[.bool a0_0,.int .i64 a0_1,.slice A0_2 l0_2.length c0_2,.slice A0_3 l0_3.length c0_3],.int .i64 a1] w fun e w'=>e=.returned (.int .i64 r)∧Below w.heap.size w w':=by
 have hu92:=Tryz.underlying92
 have hu90:=Tryz.underlying90
 have HR0_2:=Z hr0_2
 have HC0_2:=Z hc0_2
 clear hr0_2 hc0_2
 have HR0_3:=Z hr0_3
 have HC0_3:=Z hc0_3
 clear hr0_3 hc0_3
 have HB:=Z (Below.refl w.heap.size w)
 have H:(if a0_0=true then ((threshold_Valid.f k a0_1 l0_2 l0_3).bind fun t139=>(if t139=0 then ((threshold_Uses.f k a0_1 l0_2 l0_3).bind fun t140=>(if 0≤a1 then (if t140 ≥ (shl .i64 1 a1) then (some 5) else (some 0)) else (none))) else (some t139))) else ((configuration_blank.f a0_1 l0_2 l0_3).bind fun t138=>(if t138=true then (some 0) else (some 1))))=some r:=h
 clear h
 by_cases c3:a0_0=true
 ·subst c3
  rw [if_pos rfl] at H
  replace H:=pO H
  obtain ⟨t139,A40,H⟩:=H
  try dsimp only at H
  have A4:=Z A40
  clear A40
  by_cases c5:t139=0
  ·rw [if_pos c5] at H
   have c5b0:(t139 == 0)=true:=beq_iff_eq.mpr c5
   have c5b1:(t139 != 0)=false:=bne_eq_false_iff_eq.mpr c5
   clear c5
   replace H:=pO H
   obtain ⟨t140,A60,H⟩:=H
   try dsimp only at H
   have A6:=Z A60
   clear A60
   by_cases c7:0≤a1
   ·rw [if_pos c7] at H
    have c7b0:=eq_true c7
    have c7b1:decide (0≤a1)=true:=decide_eq_true c7
    clear c7
    obtain ⟨ji8,hji8⟩:∃ j_:Int,(shl .i64 1 a1)=j_:=⟨_,rfl⟩
    replace H:(if t140 ≥ (ji8) then (some 5) else (some 0))=some r:=by first|(rw [hji8] at H;exact H)|(simp only [hji8] at H ⊢;exact H)
    (try rw [hji8] at A4)
    (try rw [hji8] at A6)
    have hji8_:(IntKind.i64.wrap (1 * 2 ^ min a1.toNat 64))=ji8:=hji8
    have hji8z:a1≤64→(IntKind.i64.wrap (1 * 2 ^ a1.toNat))=ji8:=shl_small hji8
    have hji8u:(IntKind.i64.wrap (2 ^ min a1.toNat 64))=ji8:=by have h_:=hji8_;rw [Int.one_mul] at h_;exact h_
    have hji8v:a1≤64→(IntKind.i64.wrap (2 ^ a1.toNat))=ji8:=fun hle_=>by have h_:=hji8z hle_;rw [Int.one_mul] at h_;exact h_
    have hji8y:(wrap64 (1 * 2 ^ min a1.toNat 64))=ji8:=(i64_w _).symm.trans hji8_
    have hji8x:a1≤64→(wrap64 (1 * 2 ^ a1.toNat))=ji8:=fun h_=>(i64_w _).symm.trans (hji8z h_)
    by_cases c9:t140 ≥ (ji8)
    ·rw [if_pos c9] at H
     have c9b0:decide ((ji8)≤t140)=true:=decide_eq_true c9
     clear c9
     obtain rfl:=Option.some.inj H
     go_enter Tryz.func156,Tryz.ntmps156
     try go_wp2_with (first|((with_reducible refine gate_dst (N:=2) rfl ?_);refine box_event ?hg (N:=2) ?hd (cs:=#[.bool true,.int .i64 a0_1,.slice A0_2 l0_2.length c0_2,.slice A0_3 l0_3.length c0_3]) (t:=92) ?hr ?_;(case hd=>rfl);(case hg=>rfl);(case hr=>first|(go_simp;done)|(go_simp;rfl));intro gb137 hg w10 hbox hb;have n0_:=Z (below_step pB hb);have BK137:=Z (hbox);have GW137:=Z ((pT hg:w.heap.size≤gb137));have GE137:=Z ((pT hg:w.heap.size≤gb137));clear HB;have HB:=n0_;clear n0_ hb hbox hg;obtain ⟨hcz11_0,hcz11_1,hcz11_2,hcz11_3,hfz11_0,hfz11_1,hfz11_2,hfz11_3⟩:=p4 BK137)|((with_reducible refine gate_callee (f:=189) rfl ?_);refine goesL_ (some 15) rfl rfl Tryz.func189 pU rfl #[.agg #[.int .i64 a0_1,.slice A0_2 l0_2.length c0_2,.slice A0_3 l0_3.length c0_3]] rfl pG ?_;(with_reducible refine (threshold_Valid.calls k a0_1 _ _ l0_2 _ _ l0_3 t139 _ ?side1 ?side2 ?side3 ?side4 A4.out).mono ?_);(case side1=>exact pC HR0_2);(case side2=>exact HC0_2.out);(case side3=>exact pC HR0_3);(case side4=>exact HC0_3.out);rintro e w12 ⟨rfl,hb⟩;refine ⟨_,rfl,?_⟩;replace BK137:=Z (blk_below (g:=gb137) (o:=.cells #[.bool true,.int .i64 a0_1,.slice A0_2 l0_2.length c0_2,.slice A0_3 l0_3.length c0_3] 92 (0,0)) (pK BK137) hb);have n1_:=Z (below_step pB hb);clear HB;have HB:=n1_;clear n1_;(try clear hb);(try clear hb2);(try clear hk);(try clear hi)))
     have n0_:=Z (kD BK137.out)
     have n1_:=Z (wD HB.out)
     clear BK137 HB
     have BK137:=n0_
     have HB:=n1_
     clear n0_ n1_
     refine start_ (n:=6) (S:=fun w'=>w'.cell? ⟨gb137,0,none⟩=some (.bool true)∧w'.cell? ⟨gb137,1,none⟩=some (.int .i64 a0_1)∧w'.cell? ⟨gb137,2,none⟩=some (.slice A0_2 l0_2.length c0_2)∧w'.cell? ⟨gb137,3,none⟩=some (.slice A0_3 l0_3.length c0_3)) (ds:=[]) #[false,false,false,false,false,false] pU rfl rfl ⟨(kC BK137.out 0).trans rfl,(kC BK137.out 1).trans rfl,(kC BK137.out 2).trans rfl,(kC BK137.out 3).trans rfl⟩ (fun hHeld=>?_)
     generalize w12.drew=w13 at BK137 HB hHeld ⊢
     refine pure_ (i:=0) (N:=some 19) (v:=?_) (a':=?_) #[true,false,false,false,false,false] rfl rfl pU (fun _ _ _ h=>h) (Or.inl ⟨by rfl,?_⟩) ?_ ?_
     rotate_left
     ·intro w'
      go_simp
      with_reducible rfl
     rotate_left
     ·simp only [Act.put,List.setIfInBounds_toArray,List.set_cons_zero,List.set_cons_succ,i64_w,i32_w]
      rfl
     refine pure_ (i:=3) (N:=some 22) (v:=?_) (a':=?_) #[true,false,false,true,false,false] rfl rfl pU (fun _ _ _ h=>h) (Or.inl ⟨by rfl,?_⟩) ?_ ?_
     rotate_left
     ·intro w'
      go_simp
      with_reducible rfl
     rotate_left
     ·simp only [Act.put,List.setIfInBounds_toArray,List.set_cons_zero,List.set_cons_succ,i64_w,i32_w]
      rfl
     refine pure_ (i:=4) (N:=some 23) (v:=?_) (a':=?_) #[true,false,false,true,true,false] rfl rfl pU (fun _ _ _ h=>h) (Or.inl ⟨by rfl,?_⟩) ?_ ?_
     rotate_left
     ·intro w'
      go_simp
      with_reducible rfl
     rotate_left
     ·simp only [Act.put,List.setIfInBounds_toArray,List.set_cons_zero,List.set_cons_succ,i64_w,i32_w]
      rfl
     refine take_ (i:=1) (N:=some 20) (v:=?_) (a':=?_) #[true,true,false,true,true,false] rfl rfl pU (fun _ _ _ h=>h) (Or.inl ⟨by rfl,?_⟩) hHeld ?_ ?_
     rotate_left
     ·rintro w' ⟨s0,s1,s2,s3⟩
      go_simp
      with_reducible rfl
     rotate_left
     ·simp only [Act.put,List.setIfInBounds_toArray,List.set_cons_zero,List.set_cons_succ,i64_w,i32_w]
      rfl
     refine one_ (i:=2) (N:=some 21) #[true,true,true,true,true,false] rfl rfl pU (by decide) (fun K hK=>?_)
     refine goes_ Tryz.func168 pU rfl #[.agg #[.int .i64 a0_1,.slice A0_2 l0_2.length c0_2,.slice A0_3 l0_3.length c0_3]] (by rfl) rfl rfl pG ?_
     with_reducible refine (threshold_Uses.calls k a0_1 _ _ l0_2 _ _ l0_3 t140 _ ?side1 ?side2 ?side3 ?side4 A6.out).mono ?_
     (case side1=>exact pC HR0_2)
     (case side2=>exact HC0_2.out)
     (case side3=>exact pC HR0_3)
     (case side4=>exact HC0_3.out)
     rintro e w14 ⟨rfl,hb⟩
     refine ⟨_,rfl,?_⟩
     have n0_:=Z (blk_below (g:=gb137) (o:=.cells #[.bool true,.int .i64 a0_1,.slice A0_2 l0_2.length c0_2,.slice A0_3 l0_3.length c0_3] 92 (0,0)) (pK BK137) hb)
     have n1_:=Z (below_step pB hb)
     clear BK137 HB
     have BK137:=n0_
     have HB:=n1_
     clear n0_ n1_
     (try clear hb)
     (try clear hb2)
     (try clear hk)
     (try clear hi)
     refine hK.out _ _ ⟨(kC BK137.out 0).trans rfl,(kC BK137.out 1).trans rfl,(kC BK137.out 2).trans rfl,(kC BK137.out 3).trans rfl⟩ (fun hHeld=>?_)
     clear hK K
     refine norm_ (a':=?_) ?_ ?_
     rotate_left
     ·show Act.put _ (some 21) _=_
      simp only [Act.put,List.setIfInBounds_toArray,List.set_cons_zero,List.set_cons_succ,i64_w,i32_w]
      rfl
     refine pure_ (i:=5) (N:=some 24) (v:=?_) (a':=?_) #[true,true,true,true,true,true] rfl rfl pU (fun _ _ _ h=>h) (Or.inl ⟨by rfl,?_⟩) ?_ ?_
     rotate_left
     ·intro w'
      go_simp
      with_reducible rfl
     rotate_left
     ·simp only [Act.put,List.setIfInBounds_toArray,List.set_cons_zero,List.set_cons_succ,i64_w,i32_w]
      rfl
     refine done_ pU ?_
     try go_wp2
     go_ret
     exact ⟨by first|rfl|(simp [errW_none,errW_some] <;> rfl)|(simp only [← hji8];first|rfl|(simp [errW_none,errW_some] <;> rfl))|(simp [*,errW_none,errW_some] <;> rfl),pB⟩
    ·rw [if_neg c9] at H
     have c9b0:decide ((ji8)≤t140)=false:=decide_eq_false c9
     clear c9
     obtain rfl:=Option.some.inj H
     go_enter Tryz.func156,Tryz.ntmps156
     try go_wp2_with (first|((with_reducible refine gate_dst (N:=2) rfl ?_);refine box_event ?hg (N:=2) ?hd (cs:=#[.bool true,.int .i64 a0_1,.slice A0_2 l0_2.length c0_2,.slice A0_3 l0_3.length c0_3]) (t:=92) ?hr ?_;(case hd=>rfl);(case hg=>rfl);(case hr=>first|(go_simp;done)|(go_simp;rfl));intro gb137 hg w15 hbox hb;have n0_:=Z (below_step pB hb);have BK137:=Z (hbox);have GW137:=Z ((pT hg:w.heap.size≤gb137));have GE137:=Z ((pT hg:w.heap.size≤gb137));clear HB;have HB:=n0_;clear n0_ hb hbox hg;obtain ⟨hcz16_0,hcz16_1,hcz16_2,hcz16_3,hfz16_0,hfz16_1,hfz16_2,hfz16_3⟩:=p4 BK137)|((with_reducible refine gate_callee (f:=189) rfl ?_);refine goesL_ (some 15) rfl rfl Tryz.func189 pU rfl #[.agg #[.int .i64 a0_1,.slice A0_2 l0_2.length c0_2,.slice A0_3 l0_3.length c0_3]] rfl pG ?_;(with_reducible refine (threshold_Valid.calls k a0_1 _ _ l0_2 _ _ l0_3 t139 _ ?side1 ?side2 ?side3 ?side4 A4.out).mono ?_);(case side1=>exact pC HR0_2);(case side2=>exact HC0_2.out);(case side3=>exact pC HR0_3);(case side4=>exact HC0_3.out);rintro e w17 ⟨rfl,hb⟩;refine ⟨_,rfl,?_⟩;replace BK137:=Z (blk_below (g:=gb137) (o:=.cells #[.bool true,.int .i64 a0_1,.slice A0_2 l0_2.length c0_2,.slice A0_3 l0_3.length c0_3] 92 (0,0)) (pK BK137) hb);have n1_:=Z (below_step pB hb);clear HB;have HB:=n1_;clear n1_;(try clear hb);(try clear hb2);(try clear hk);(try clear hi)))
     have n0_:=Z (kD BK137.out)
     have n1_:=Z (wD HB.out)
     clear BK137 HB
     have BK137:=n0_
     have HB:=n1_
     clear n0_ n1_
     refine start_ (n:=6) (S:=fun w'=>w'.cell? ⟨gb137,0,none⟩=some (.bool true)∧w'.cell? ⟨gb137,1,none⟩=some (.int .i64 a0_1)∧w'.cell? ⟨gb137,2,none⟩=some (.slice A0_2 l0_2.length c0_2)∧w'.cell? ⟨gb137,3,none⟩=some (.slice A0_3 l0_3.length c0_3)) (ds:=[]) #[false,false,false,false,false,false] pU rfl rfl ⟨(kC BK137.out 0).trans rfl,(kC BK137.out 1).trans rfl,(kC BK137.out 2).trans rfl,(kC BK137.out 3).trans rfl⟩ (fun hHeld=>?_)
     generalize w17.drew=w18 at BK137 HB hHeld ⊢
     refine pure_ (i:=0) (N:=some 19) (v:=?_) (a':=?_) #[true,false,false,false,false,false] rfl rfl pU (fun _ _ _ h=>h) (Or.inl ⟨by rfl,?_⟩) ?_ ?_
     rotate_left
     ·intro w'
      go_simp
      with_reducible rfl
     rotate_left
     ·simp only [Act.put,List.setIfInBounds_toArray,List.set_cons_zero,List.set_cons_succ,i64_w,i32_w]
      rfl
     refine pure_ (i:=3) (N:=some 22) (v:=?_) (a':=?_) #[true,false,false,true,false,false] rfl rfl pU (fun _ _ _ h=>h) (Or.inl ⟨by rfl,?_⟩) ?_ ?_
     rotate_left
     ·intro w'
      go_simp
      with_reducible rfl
     rotate_left
     ·simp only [Act.put,List.setIfInBounds_toArray,List.set_cons_zero,List.set_cons_succ,i64_w,i32_w]
      rfl
     refine pure_ (i:=4) (N:=some 23) (v:=?_) (a':=?_) #[true,false,false,true,true,false] rfl rfl pU (fun _ _ _ h=>h) (Or.inl ⟨by rfl,?_⟩) ?_ ?_
     rotate_left
     ·intro w'
      go_simp
      with_reducible rfl
     rotate_left
     ·simp only [Act.put,List.setIfInBounds_toArray,List.set_cons_zero,List.set_cons_succ,i64_w,i32_w]
      rfl
     refine take_ (i:=1) (N:=some 20) (v:=?_) (a':=?_) #[true,true,false,true,true,false] rfl rfl pU (fun _ _ _ h=>h) (Or.inl ⟨by rfl,?_⟩) hHeld ?_ ?_
     rotate_left
     ·rintro w' ⟨s0,s1,s2,s3⟩
      go_simp
      with_reducible rfl
     rotate_left
     ·simp only [Act.put,List.setIfInBounds_toArray,List.set_cons_zero,List.set_cons_succ,i64_w,i32_w]
      rfl
     refine one_ (i:=2) (N:=some 21) #[true,true,true,true,true,false] rfl rfl pU (by decide) (fun K hK=>?_)
     refine goes_ Tryz.func168 pU rfl #[.agg #[.int .i64 a0_1,.slice A0_2 l0_2.length c0_2,.slice A0_3 l0_3.length c0_3]] (by rfl) rfl rfl pG ?_
     with_reducible refine (threshold_Uses.calls k a0_1 _ _ l0_2 _ _ l0_3 t140 _ ?side1 ?side2 ?side3 ?side4 A6.out).mono ?_
     (case side1=>exact pC HR0_2)
     (case side2=>exact HC0_2.out)
     (case side3=>exact pC HR0_3)
     (case side4=>exact HC0_3.out)
     rintro e w19 ⟨rfl,hb⟩
     refine ⟨_,rfl,?_⟩
     have n0_:=Z (blk_below (g:=gb137) (o:=.cells #[.bool true,.int .i64 a0_1,.slice A0_2 l0_2.length c0_2,.slice A0_3 l0_3.length c0_3] 92 (0,0)) (pK BK137) hb)
     have n1_:=Z (below_step pB hb)
     clear BK137 HB
     have BK137:=n0_
     have HB:=n1_
     clear n0_ n1_
     (try clear hb)
     (try clear hb2)
     (try clear hk)
     (try clear hi)
     refine hK.out _ _ ⟨(kC BK137.out 0).trans rfl,(kC BK137.out 1).trans rfl,(kC BK137.out 2).trans rfl,(kC BK137.out 3).trans rfl⟩ (fun hHeld=>?_)
     clear hK K
     refine norm_ (a':=?_) ?_ ?_
     rotate_left
     ·show Act.put _ (some 21) _=_
      simp only [Act.put,List.setIfInBounds_toArray,List.set_cons_zero,List.set_cons_succ,i64_w,i32_w]
      rfl
     refine pure_ (i:=5) (N:=some 24) (v:=?_) (a':=?_) #[true,true,true,true,true,true] rfl rfl pU (fun _ _ _ h=>h) (Or.inl ⟨by rfl,?_⟩) ?_ ?_
     rotate_left
     ·intro w'
      go_simp
      with_reducible rfl
     rotate_left
     ·simp only [Act.put,List.setIfInBounds_toArray,List.set_cons_zero,List.set_cons_succ,i64_w,i32_w]
      rfl
     refine done_ pU ?_
     try go_wp2
     go_ret
     exact ⟨by first|rfl|(simp [errW_none,errW_some] <;> rfl)|(simp only [← hji8];first|rfl|(simp [errW_none,errW_some] <;> rfl))|(simp [*,errW_none,errW_some] <;> rfl),pB⟩
   ·rw [if_neg c7] at H
    exact absurd H (by simp)
  ·rw [if_neg c5] at H
   have c5b0:(t139 == 0)=false:=beq_eq_false_iff_ne.mpr c5
   have c5b1:(t139 != 0)=true:=bne_iff_ne.mpr c5
   obtain rfl:=Option.some.inj H
   go_enter Tryz.func156,Tryz.ntmps156
   go_wp2_with (first|((with_reducible refine gate_dst (N:=2) rfl ?_);refine box_event ?hg (N:=2) ?hd (cs:=#[.bool true,.int .i64 a0_1,.slice A0_2 l0_2.length c0_2,.slice A0_3 l0_3.length c0_3]) (t:=92) ?hr ?_;(case hd=>rfl);(case hg=>rfl);(case hr=>first|(go_simp;done)|(go_simp;rfl));intro gb137 hg w20 hbox hb;have n0_:=Z (below_step pB hb);have BK137:=Z (hbox);have GW137:=Z ((pT hg:w.heap.size≤gb137));have GE137:=Z ((pT hg:w.heap.size≤gb137));clear HB;have HB:=n0_;clear n0_ hb hbox hg;obtain ⟨hcz21_0,hcz21_1,hcz21_2,hcz21_3,hfz21_0,hfz21_1,hfz21_2,hfz21_3⟩:=p4 BK137)|((with_reducible refine gate_callee (f:=189) rfl ?_);refine goesL_ (some 15) rfl rfl Tryz.func189 pU rfl #[.agg #[.int .i64 a0_1,.slice A0_2 l0_2.length c0_2,.slice A0_3 l0_3.length c0_3]] rfl pG ?_;(with_reducible refine (threshold_Valid.calls k a0_1 _ _ l0_2 _ _ l0_3 t139 _ ?side1 ?side2 ?side3 ?side4 A4.out).mono ?_);(case side1=>exact pC HR0_2);(case side2=>exact HC0_2.out);(case side3=>exact pC HR0_3);(case side4=>exact HC0_3.out);rintro e w22 ⟨rfl,hb⟩;refine ⟨_,rfl,?_⟩;replace BK137:=Z (blk_below (g:=gb137) (o:=.cells #[.bool true,.int .i64 a0_1,.slice A0_2 l0_2.length c0_2,.slice A0_3 l0_3.length c0_3] 92 (0,0)) (pK BK137) hb);have n1_:=Z (below_step pB hb);clear HB;have HB:=n1_;clear n1_;(try clear hb);(try clear hb2);(try clear hk);(try clear hi)))
   go_ret
   exact ⟨pF,pB⟩
 ·replace c3:=Bool.eq_false_iff.mpr c3
  subst c3
  rw [if_neg (show ¬ (false=true) by decide)] at H
  replace H:=pO H
  obtain ⟨t138,A230,H⟩:=H
  try dsimp only at H
  have A23:=Z A230
  clear A230
  by_cases c24:t138=true
  ·subst c24
   rw [if_pos rfl] at H
   obtain rfl:=Option.some.inj H
   go_enter Tryz.func156,Tryz.ntmps156
   go_wp2_with (first|((with_reducible refine gate_dst (N:=2) rfl ?_);refine box_event ?hg (N:=2) ?hd (cs:=#[.bool false,.int .i64 a0_1,.slice A0_2 l0_2.length c0_2,.slice A0_3 l0_3.length c0_3]) (t:=92) ?hr ?_;(case hd=>rfl);(case hg=>rfl);(case hr=>first|(go_simp;done)|(go_simp;rfl));intro gb137 hg w25 hbox hb;have n0_:=Z (below_step pB hb);have BK137:=Z (hbox);have GW137:=Z ((pT hg:w.heap.size≤gb137));have GE137:=Z ((pT hg:w.heap.size≤gb137));clear HB;have HB:=n0_;clear n0_ hb hbox hg;obtain ⟨hcz26_0,hcz26_1,hcz26_2,hcz26_3,hfz26_0,hfz26_1,hfz26_2,hfz26_3⟩:=p4 BK137)|((with_reducible refine gate_callee (f:=188) rfl ?_);refine goesL_ (some 11) rfl rfl Tryz.func188 pU rfl #[.agg #[.int .i64 a0_1,.slice A0_2 l0_2.length c0_2,.slice A0_3 l0_3.length c0_3]] rfl pG ?_;(with_reducible refine (configuration_blank.calls a0_1 _ _ l0_2 _ _ l0_3 true _ ?side1 ?side2 ?side3 ?side4 A23.out).mono ?_);(case side1=>exact pC HR0_2);(case side2=>exact HC0_2.out);(case side3=>exact pC HR0_3);(case side4=>exact HC0_3.out);rintro e w27 ⟨rfl,hb⟩;refine ⟨_,rfl,?_⟩;replace BK137:=Z (blk_below (g:=gb137) (o:=.cells #[.bool false,.int .i64 a0_1,.slice A0_2 l0_2.length c0_2,.slice A0_3 l0_3.length c0_3] 92 (0,0)) (pK BK137) hb);have n1_:=Z (below_step pB hb);clear HB;have HB:=n1_;clear n1_;(try clear hb);(try clear hb2);(try clear hk);(try clear hi)))
   go_ret
   exact ⟨pF,pB⟩
  ·replace c24:=Bool.eq_false_iff.mpr c24
   subst c24
   rw [if_neg (show ¬ (false=true) by decide)] at H
   obtain rfl:=Option.some.inj H
   go_enter Tryz.func156,Tryz.ntmps156
   go_wp2_with (first|((with_reducible refine gate_dst (N:=2) rfl ?_);refine box_event ?hg (N:=2) ?hd (cs:=#[.bool false,.int .i64 a0_1,.slice A0_2 l0_2.length c0_2,.slice A0_3 l0_3.length c0_3]) (t:=92) ?hr ?_;(case hd=>rfl);(case hg=>rfl);(case hr=>first|(go_simp;done)|(go_simp;rfl));intro gb137 hg w28 hbox hb;have n0_:=Z (below_step pB hb);have BK137:=Z (hbox);have GW137:=Z ((pT hg:w.heap.size≤gb137));have GE137:=Z ((pT hg:w.heap.size≤gb137));clear HB;have HB:=n0_;clear n0_ hb hbox hg;obtain ⟨hcz29_0,hcz29_1,hcz29_2,hcz29_3,hfz29_0,hfz29_1,hfz29_2,hfz29_3⟩:=p4 BK137)|((with_reducible refine gate_callee (f:=188) rfl ?_);refine goesL_ (some 11) rfl rfl Tryz.func188 pU rfl #[.agg #[.int .i64 a0_1,.slice A0_2 l0_2.length c0_2,.slice A0_3 l0_3.length c0_3]] rfl pG ?_;(with_reducible refine (configuration_blank.calls a0_1 _ _ l0_2 _ _ l0_3 false _ ?side1 ?side2 ?side3 ?side4 A23.out).mono ?_);(case side1=>exact pC HR0_2);(case side2=>exact HC0_2.out);(case side3=>exact pC HR0_3);(case side4=>exact HC0_3.out);rintro e w30 ⟨rfl,hb⟩;refine ⟨_,rfl,?_⟩;replace BK137:=Z (blk_below (g:=gb137) (o:=.cells #[.bool false,.int .i64 a0_1,.slice A0_2 l0_2.length c0_2,.slice A0_3 l0_3.length c0_3] 92 (0,0)) (pK BK137) hb);have n1_:=Z (below_step pB hb);clear HB;have HB:=n1_;clear n1_;(try clear hb);(try clear hb2);(try clear hk);(try clear hi)))
   go_ret
   exact ⟨pF,pB⟩
def configuration_Valid.l0:Nat→List (S92)→Int→Int→List (S92)→Option (Int)
 | 0,_,_,_,_=>none
 | k+1,x11,x12,x13,x142000=>if x13 < x12 then (if 0≤x13 then (if x13 < (x11.length:Int) then ((configuration_member.f k ((rd_T92 x11 x13).f0) ((rd_T92 x11 x13).f1.f0) ((rd_T92 x11 x13).f1.f1) ((rd_T92 x11 x13).f1.f2) (x142000.length:Int)).bind fun t144=>(if t144=0 then (configuration_Valid.l0 k x11 x12 (wrap64 (x13+1)) x142000) else (some t144))) else (none)) else (none)) else (some 0)
def configuration_Valid.f (k:Nat) (l0_0:List (S92)):Option (Int):=if (l0_0.length:Int) > 10 then (some 3) else (configuration_Valid.l0 k l0_0 (l0_0.length:Int) 0 l0_0)
set_option maxHeartbeats 8000000 in
set_option maxRecDepth 100000 in
theorem configuration_Valid.calls (k:Nat) (A0_0:Option Addr) (c0_0:Nat) (l0_0:List (S92)) (r:Int) (w:World) (hr0_0:Kd.C k92 w A0_0 l0_0.length l0_0) (hc0_0:l0_0.length≤c0_0) (h:configuration_Valid.f k l0_0=some r) :
  Calls Tryz.prog 95 #[.agg #[.slice A0_0 l0_0.length c0_0]] w fun e w'=>e=.returned (.int .i64 r)∧Below w.heap.size w w':=by
 have hu25:=Tryz.underlying25
 have hu92:=Tryz.underlying92
 have HR0_0:=Z hr0_0
 have HC0_0:=Z hc0_0
 clear hr0_0 hc0_0
 have HB:=Z (Below.refl w.heap.size w)
 have H:(if (l0_0.length:Int) > 10 then (some 3) else (configuration_Valid.l0 k l0_0 (l0_0.length:Int) 0 l0_0))=some r:=h
 clear h
 by_cases c2:(l0_0.length:Int) > 10
 ·rw [if_pos c2] at H
  have c2b0:decide (10 < (l0_0.length:Int))=true:=decide_eq_true c2
  have c2b1:decide (10 < l0_0.length)=true:=decide_eq_true (by omega)
  clear c2
  obtain rfl:=Option.some.inj H
  go_enter Tryz.func95,Tryz.ntmps95
  go_wp2_with (first|((with_reducible refine gate_dst (N:=1) rfl ?_);refine box_event ?hg (N:=1) ?hd (cs:=#[.slice A0_0 l0_0.length c0_0]) (t:=25) ?hr ?_;(case hd=>rfl);(case hg=>rfl);(case hr=>first|(go_simp;done)|(go_simp;rfl));intro gb141 hg w3 hbox hb;have n0_:=Z (below_step pB hb);have BK141:=Z (hbox);have GW141:=Z ((pT hg:w.heap.size≤gb141));have GE141:=Z ((pT hg:w.heap.size≤gb141));clear HB;have HB:=n0_;clear n0_ hb hbox hg;obtain ⟨hcz4_0,hfz4_0⟩:=p1 BK141))
  go_ret
  exact ⟨pF,pB⟩
 ·rw [if_neg c2] at H
  have c2b0:decide (10 < (l0_0.length:Int))=false:=decide_eq_false c2
  have c2b1:decide (10 < l0_0.length)=false:=decide_eq_false (by omega)
  clear c2
  have H':=Z H
  clear H
  go_enter Tryz.func95,Tryz.ntmps95
  go_wp2_with (first|((with_reducible refine gate_dst (N:=1) rfl ?_);refine box_event ?hg (N:=1) ?hd (cs:=#[.slice A0_0 l0_0.length c0_0]) (t:=25) ?hr ?_;(case hd=>rfl);(case hg=>rfl);(case hr=>first|(go_simp;done)|(go_simp;rfl));intro gb141 hg w5 hbox hb;have n0_:=Z (below_step pB hb);have BK141:=Z (hbox);have GW141:=Z ((pT hg:w.heap.size≤gb141));have GE141:=Z ((pT hg:w.heap.size≤gb141));clear HB;have HB:=n0_;clear n0_ hb hbox hg;obtain ⟨hcz6_0,hfz6_0⟩:=p1 BK141))
  go_loopg [13] k (fun kq v13 w'=>∃ (x13_1:Int),v13=.int .i64 x13_1∧Aside0 (configuration_Valid.l0 kq l0_0 (l0_0.length:Int) x13_1 l0_0=some r)∧Aside0 (kq≤k)∧Aside0 (w'.heap[gb141]?=some (.cells #[(.slice A0_0 l0_0.length c0_0)] 25 (0,0)))∧Aside0 (Below w.heap.size w w'))
  case atStart=>exact ⟨(0),pE,H',⟨Nat.le_refl _⟩,⟨pK BK141⟩,⟨pB⟩⟩
  case round =>
   clear H'
   try clear c2
   try clear c2b0
   try clear c2b1
   try clear p2
   try clear hcz4_0
   try clear hcz6_0
   try clear hfz4_0
   try clear hfz6_0
   obtain ⟨x13_1,rfl,HA,HK1,BK141,HB⟩:=hrel
   cases gk with
   | zero=>exact absurd HA.out (by simp [configuration_Valid.l0])
   | succ k1 =>
    have H:=HA.out
    clear HA
    simp only [configuration_Valid.l0] at H
    by_cases c7:x13_1 < (l0_0.length:Int)
    ·rw [if_pos c7] at H
     have c7b0:decide (x13_1 < (l0_0.length:Int))=true:=decide_eq_true c7
     clear c7
     by_cases c8:0≤x13_1
     ·rw [if_pos c8] at H
      have c8b0:decide (0≤x13_1)=true:=decide_eq_true c8
      clear c8
      by_cases c9:x13_1 < (l0_0.length:Int)
      ·rw [if_pos c9] at H
       have c9b0:decide (x13_1 < (l0_0.length:Int))=true:=decide_eq_true c9
       clear c9
       replace H:=pO H
       obtain ⟨t144,A100,H⟩:=H
       try dsimp only at H
       have A10:=Z A100
       clear A100
       by_cases c11:t144=0
       ·rw [if_pos c11] at H
        have c11b0:(t144 == 0)=true:=beq_iff_eq.mpr c11
        have c11b1:(t144 != 0)=false:=bne_eq_false_iff_eq.mpr c11
        clear c11
        have H':=Z H
        clear H
        have p142:0≤(x13_1:Int):=of_decide_eq_true pA
        have q142:x13_1 < (l0_0.length:Int):=of_decide_eq_true pA
        obtain ⟨ad142,A142_2,c142_2,A142_3,c142_3,e142,hx142_0,hx142_1,hx142_2,hx142_3,hl142_2,hi142_2,hl142_3,hi142_3⟩:=at_T92 HR0_0.out x13_1 p142 q142
        cases e142
        replace hx142_0:=pX HB hx142_0
        replace hx142_1:=pX HB hx142_1
        replace hx142_2:=pX HB hx142_2
        replace hx142_3:=pX HB hx142_3
        have HR142_2:=Z hi142_2
        have HC142_2:=Z hl142_2
        clear hi142_2 hl142_2
        have HR142_3:=Z hi142_3
        have HC142_3:=Z hl142_3
        clear hi142_3 hl142_3
        replace p142:=eq_true p142
        replace q142:=eq_true q142
        go_wp2_with (first|((with_reducible refine gate_dst (N:=4) rfl ?_);refine box_event ?hg (N:=4) ?hd (cs:=#[.bool false,.int .i64 0,.slice none 0 0,.slice none 0 0]) (t:=92) ?hr ?_;(case hd=>rfl);(case hg=>rfl);(case hr=>first|(go_simp;done)|(go_simp;rfl));intro gb143 hg w12 hbox hb;have n0_:=Z (blk_below (g:=gb141) (o:=.cells #[.slice (some ad142) l0_0.length c0_0] 25 (0,0)) (pK BK141) hb);have n1_:=Z (below_step pB hb);have BK143:=Z (hbox);have GW143:=Z ((pT hg:w.heap.size≤gb143));have GE143:=Z ((pT hg:w.heap.size≤gb143));have NB141_143:=Z ((pL hg (pK BK141):gb141 ≠ gb143));have NB143_141:=Z ((pM hg (pK BK141):gb143 ≠ gb141));clear BK141 HB;have BK141:=n0_;have HB:=n1_;clear n0_ n1_ hb hbox hg;have hnb13:=NB143_141.out;have hnc13:=NB141_143.out;obtain ⟨hcz14_0,hcz14_1,hcz14_2,hcz14_3,hfz14_0,hfz14_1,hfz14_2,hfz14_3⟩:=p4 BK143;obtain ⟨hcz15_0,hfz15_0⟩:=p1 BK141)|((with_reducible refine gate_callee (f:=156) rfl ?_);refine goesL_ (some 21) rfl rfl Tryz.func156 pU rfl #[.agg #[.bool ((rd_T92 l0_0 x13_1).f0),.int .i64 ((rd_T92 l0_0 x13_1).f1.f0),.slice A142_2 ((rd_T92 l0_0 x13_1).f1.f1).length c142_2,.slice A142_3 ((rd_T92 l0_0 x13_1).f1.f2).length c142_3],.int .i64 (l0_0.length:Int)] rfl pG ?_;(with_reducible refine (configuration_member.calls k1 ((rd_T92 l0_0 x13_1).f0) ((rd_T92 l0_0 x13_1).f1.f0) _ _ ((rd_T92 l0_0 x13_1).f1.f1) _ _ ((rd_T92 l0_0 x13_1).f1.f2) (l0_0.length:Int) t144 _ ?side1 ?side2 ?side3 ?side4 A10.out).mono ?_);(case side1=>exact Kd.C_below HR142_2.out pB);(case side2=>exact HC142_2.out);(case side3=>exact Kd.C_below HR142_3.out pB);(case side4=>exact HC142_3.out);rintro e w16 ⟨rfl,hb⟩;refine ⟨_,rfl,?_⟩;replace BK141:=Z (blk_below (g:=gb141) (o:=.cells #[.slice (some ad142) l0_0.length c0_0] 25 (0,0)) (by refine pQ ?_;refine blk_far ?_ NB141_143.out _;refine pQ ?_;refine blk_far ?_ NB141_143.out _;refine pQ ?_;refine blk_far ?_ NB141_143.out _;refine pQ ?_;refine blk_far ?_ NB141_143.out _;exact pK BK141) hb);replace BK143:=Z (blk_below (g:=gb143) (o:=.cells #[.bool ((rd_T92 l0_0 x13_1).f0),.int .i64 ((rd_T92 l0_0 x13_1).f1.f0),.slice A142_2 ((rd_T92 l0_0 x13_1).f1.f1).length c142_2,.slice A142_3 ((rd_T92 l0_0 x13_1).f1.f2).length c142_3] 92 (0,0)) (by refine pQ ?_;refine blk_put (cs:=#[.bool ((rd_T92 l0_0 x13_1).f0),.int .i64 ((rd_T92 l0_0 x13_1).f1.f0),.slice A142_2 ((rd_T92 l0_0 x13_1).f1.f1).length c142_2,.slice none 0 0]) ?_ 3 _ rfl;refine pQ ?_;refine blk_put (cs:=#[.bool ((rd_T92 l0_0 x13_1).f0),.int .i64 ((rd_T92 l0_0 x13_1).f1.f0),.slice none 0 0,.slice none 0 0]) ?_ 2 _ rfl;refine pQ ?_;refine blk_put (cs:=#[.bool ((rd_T92 l0_0 x13_1).f0),.int .i64 0,.slice none 0 0,.slice none 0 0]) ?_ 1 _ rfl;refine pQ ?_;refine blk_put (cs:=#[.bool false,.int .i64 0,.slice none 0 0,.slice none 0 0]) ?_ 0 _ rfl;exact pK BK143) hb);have n2_:=Z (below_step pB hb);clear HB;have HB:=n2_;clear n2_;(try clear hb);(try clear hb2);(try clear hk);(try clear hi)))
        go_roundg k1
        case measure=>have:=HK1.out;omega
        case rel=>exact ⟨(wrap64 (x13_1+1)),pE,H',⟨by have:=HK1.out;omega⟩,⟨pK BK141⟩,⟨pB⟩⟩
       ·rw [if_neg c11] at H
        have c11b0:(t144 == 0)=false:=beq_eq_false_iff_ne.mpr c11
        have c11b1:(t144 != 0)=true:=bne_iff_ne.mpr c11
        obtain rfl:=Option.some.inj H
        have p142:0≤(x13_1:Int):=of_decide_eq_true pA
        have q142:x13_1 < (l0_0.length:Int):=of_decide_eq_true pA
        obtain ⟨ad142,A142_2,c142_2,A142_3,c142_3,e142,hx142_0,hx142_1,hx142_2,hx142_3,hl142_2,hi142_2,hl142_3,hi142_3⟩:=at_T92 HR0_0.out x13_1 p142 q142
        cases e142
        replace hx142_0:=pX HB hx142_0
        replace hx142_1:=pX HB hx142_1
        replace hx142_2:=pX HB hx142_2
        replace hx142_3:=pX HB hx142_3
        have HR142_2:=Z hi142_2
        have HC142_2:=Z hl142_2
        clear hi142_2 hl142_2
        have HR142_3:=Z hi142_3
        have HC142_3:=Z hl142_3
        clear hi142_3 hl142_3
        replace p142:=eq_true p142
        replace q142:=eq_true q142
        go_wp2_with (first|((with_reducible refine gate_dst (N:=4) rfl ?_);refine box_event ?hg (N:=4) ?hd (cs:=#[.bool false,.int .i64 0,.slice none 0 0,.slice none 0 0]) (t:=92) ?hr ?_;(case hd=>rfl);(case hg=>rfl);(case hr=>first|(go_simp;done)|(go_simp;rfl));intro gb143 hg w17 hbox hb;have n0_:=Z (blk_below (g:=gb141) (o:=.cells #[.slice (some ad142) l0_0.length c0_0] 25 (0,0)) (pK BK141) hb);have n1_:=Z (below_step pB hb);have BK143:=Z (hbox);have GW143:=Z ((pT hg:w.heap.size≤gb143));have GE143:=Z ((pT hg:w.heap.size≤gb143));have NB141_143:=Z ((pL hg (pK BK141):gb141 ≠ gb143));have NB143_141:=Z ((pM hg (pK BK141):gb143 ≠ gb141));clear BK141 HB;have BK141:=n0_;have HB:=n1_;clear n0_ n1_ hb hbox hg;have hnb18:=NB143_141.out;have hnc18:=NB141_143.out;obtain ⟨hcz19_0,hcz19_1,hcz19_2,hcz19_3,hfz19_0,hfz19_1,hfz19_2,hfz19_3⟩:=p4 BK143;obtain ⟨hcz20_0,hfz20_0⟩:=p1 BK141)|((with_reducible refine gate_callee (f:=156) rfl ?_);refine goesL_ (some 21) rfl rfl Tryz.func156 pU rfl #[.agg #[.bool ((rd_T92 l0_0 x13_1).f0),.int .i64 ((rd_T92 l0_0 x13_1).f1.f0),.slice A142_2 ((rd_T92 l0_0 x13_1).f1.f1).length c142_2,.slice A142_3 ((rd_T92 l0_0 x13_1).f1.f2).length c142_3],.int .i64 (l0_0.length:Int)] rfl pG ?_;(with_reducible refine (configuration_member.calls k1 ((rd_T92 l0_0 x13_1).f0) ((rd_T92 l0_0 x13_1).f1.f0) _ _ ((rd_T92 l0_0 x13_1).f1.f1) _ _ ((rd_T92 l0_0 x13_1).f1.f2) (l0_0.length:Int) t144 _ ?side1 ?side2 ?side3 ?side4 A10.out).mono ?_);(case side1=>exact Kd.C_below HR142_2.out pB);(case side2=>exact HC142_2.out);(case side3=>exact Kd.C_below HR142_3.out pB);(case side4=>exact HC142_3.out);rintro e w21 ⟨rfl,hb⟩;refine ⟨_,rfl,?_⟩;replace BK141:=Z (blk_below (g:=gb141) (o:=.cells #[.slice (some ad142) l0_0.length c0_0] 25 (0,0)) (by refine pQ ?_;refine blk_far ?_ NB141_143.out _;refine pQ ?_;refine blk_far ?_ NB141_143.out _;refine pQ ?_;refine blk_far ?_ NB141_143.out _;refine pQ ?_;refine blk_far ?_ NB141_143.out _;exact pK BK141) hb);replace BK143:=Z (blk_below (g:=gb143) (o:=.cells #[.bool ((rd_T92 l0_0 x13_1).f0),.int .i64 ((rd_T92 l0_0 x13_1).f1.f0),.slice A142_2 ((rd_T92 l0_0 x13_1).f1.f1).length c142_2,.slice A142_3 ((rd_T92 l0_0 x13_1).f1.f2).length c142_3] 92 (0,0)) (by refine pQ ?_;refine blk_put (cs:=#[.bool ((rd_T92 l0_0 x13_1).f0),.int .i64 ((rd_T92 l0_0 x13_1).f1.f0),.slice A142_2 ((rd_T92 l0_0 x13_1).f1.f1).length c142_2,.slice none 0 0]) ?_ 3 _ rfl;refine pQ ?_;refine blk_put (cs:=#[.bool ((rd_T92 l0_0 x13_1).f0),.int .i64 ((rd_T92 l0_0 x13_1).f1.f0),.slice none 0 0,.slice none 0 0]) ?_ 2 _ rfl;refine pQ ?_;refine blk_put (cs:=#[.bool ((rd_T92 l0_0 x13_1).f0),.int .i64 0,.slice none 0 0,.slice none 0 0]) ?_ 1 _ rfl;refine pQ ?_;refine blk_put (cs:=#[.bool false,.int .i64 0,.slice none 0 0,.slice none 0 0]) ?_ 0 _ rfl;exact pK BK143) hb);have n2_:=Z (below_step pB hb);clear HB;have HB:=n2_;clear n2_;(try clear hb);(try clear hb2);(try clear hk);(try clear hi)))
        go_ret
        exact ⟨pF,pB⟩
      ·rw [if_neg c9] at H
       exact absurd H (by simp)
     ·rw [if_neg c8] at H
      exact absurd H (by simp)
    ·rw [if_neg c7] at H
     have c7b0:decide (x13_1 < (l0_0.length:Int))=false:=decide_eq_false c7
     clear c7
     obtain rfl:=Option.some.inj H
     go_wp2
     go_ret
     exact ⟨pF,pB⟩
end Go.Proofs.YtkjlcbfjllpcnaaGreat.X
namespace Go.Proofs.YtkjlcbfjllpcnaaGreat.X
open Go.RowKit Go.Lib Go.Sort YtkjlcbfjllpcnaaGreatW.PrintWords YtkjlcbfjllpcnaaGreatW.PrintLast YtkjlcbfjllpcnaaGreatW.PrintMore
theorem C_lit (W:World) (xs:List Int) (hm:xs.length≤9223372036854775807):(Kd.int .i64).C (W.alloc (.cells (nums .i64 xs).toArray 3)) (some ⟨W.heap.size,0,none⟩) xs.length xs:=by
 obtain ⟨A,c,hv,hr⟩:=own_reads (own_lit W 0 3 .i64 xs (Nat.zero_le _) hm)
 injection hv with hA hn hc
 subst hA
 exact Kd.C_of_reads (d:=(0:Int)) (h1:=fun _=>rfl) hr
theorem rank_calls (a:Int) (w:World):Calls Tryz.prog 196 #[.int .i64 a] w fun e w'=>e=.returned (.int .i64 (rank a))∧Drawn0 w w':=nodeset_rank.calls a (rank a) w (rank_eq a)
theorem cmpI_calls (a b:Int) (w:World):Calls Tryz.prog 195 #[.int .i64 a,.int .i64 b] w fun e w'=>e=.returned (.int .i64 (cmpI a b))∧Drawn0 w w':=cmp_Compare_int.calls a b (cmpI a b) w (cmpI_eq a b)
theorem alloc_grow (W:World) (a b:Nat) (o:Obj):((W.drewN a).alloc o).drewN b=grow (W.drewN (a+b)) #[o]:=by
 simp [grow,World.alloc,World.drewN,Nat.add_assoc]
theorem compare_grow (x y : Int) (W : World) : Calls Tryz.prog 162 #[.int .i64 x, .int .i64 y] W fun e w' => e = .returned (.int .i64 (cmpS x y)) ∧ ∃ q os', w' = grow (W.drewN q) os' := by
  go_enter Tryz.func162, Tryz.ntmps162
  go_wp2_with (first
    | (go_at_call 196; refine (rank_calls _ _).mono ?_; rintro e w' ⟨rfl, ⟨nd, rfl⟩⟩)
    | (go_at_call 195; refine (cmpI_calls _ _ _).mono ?_; rintro e w' ⟨rfl, ⟨nd, rfl⟩⟩)
    | (go_at_call 194; refine (cmp_Or_int.calls 4 _ 2 [_, _] _ _ (C_lit _ [_, _] (by simp)) (by simp) (or2_eq _ _)).mono ?_; rintro e w' ⟨rfl, ⟨nd, rfl⟩⟩))
  go_ret
  exact ⟨rfl, _, #[_], alloc_grow _ _ _ _⟩
abbrev RI (w:World) (base:Nat) (ok:Nat→Prop) (v:Value) (xs:List Int):Prop:=(Kd.int .i64).R 3 w base ok v xs
theorem take1 {α:Type} {l:List α} {j:Nat} (h:j < l.length):(l.drop j).take 1=[l[j]]:=by rw [List.drop_eq_getElem_cons h];rfl
theorem reps_ints {w:World} {base:Nat} {ok:Nat→Prop} (xs:List Int):Reps ((Kd.int .i64).M w base ok) 1 xs (xs.map (Value.int .i64)):=by
 refine ⟨by simp,fun j p hj=>?_⟩
 obtain ⟨hl,rfl⟩:=List.getElem?_eq_some_iff.1 hj
 show List.take 1 (List.drop (j * 1) _)=[_]
 rw [Nat.mul_one,take1 (by simpa using hl)]
 simp
theorem ints_reps {w:World} {base:Nat} {ok:Nat→Prop} {xs:List Int} {cs:List Value} (h:Reps ((Kd.int .i64).M w base ok) 1 xs cs):cs=xs.map (Value.int .i64):=by
 obtain ⟨hl,h2⟩:=h
 apply List.ext_getElem (by simpa using hl)
 intro j h3 h4
 have h5:j < xs.length:=by simpa using h4
 have h6:(cs.drop (j * 1)).take 1=[.int .i64 xs[j]]:=h2 j xs[j] (List.getElem?_eq_getElem h5)
 rw [Nat.mul_one,take1 h3] at h6
 simpa using h6
theorem R_of_own {w:World} {base:Nat} {ok:Nat→Prop} {v:Value} {xs:List Int} (hok:∀ k,v.ownBlock=some k→ok k) (h:w.ownsRow base 3 1 v xs.length (xs.map (Value.int .i64))):RI w base ok v xs :=
 ⟨hok,_,h,reps_ints xs⟩
theorem own_of_R {w:World} {base:Nat} {ok:Nat→Prop} {v:Value} {xs:List Int} (h:RI w base ok v xs):w.ownsRow base 3 1 v xs.length (xs.map (Value.int .i64)):=by
 obtain ⟨_,inner,ho,hr⟩:=h
 rw [ints_reps hr] at ho
 exact ho
theorem cmpI_neg {a b:Int}:cmpI a b < 0 ↔ a < b:=by unfold cmpI;split <;> (try split) <;> omega
theorem cmpI_zero {a b:Int}:cmpI a b=0 ↔ a=b:=by unfold cmpI;split <;> (try split) <;> omega
def ltS (x y:Int):Prop:=rank x < rank y ∨ (rank x=rank y∧x < y)
theorem cmpS_neg {x y:Int}:cmpS x y < 0 ↔ ltS x y:=by
 unfold cmpS orI ltS
 split
 ·rename_i h;rw [cmpI_zero] at h;rw [cmpI_neg];omega
 ·rename_i h;rw [cmpI_neg];rw [cmpI_zero] at h;omega
theorem ltOf_iff {x y:Int}:ltOf cmpS x y=true ↔ ltS x y:=by simp [ltOf,cmpS_neg]
theorem ltOf_not {x y:Int}:ltOf cmpS x y=false ↔ ¬ ltS x y:=by rw [← ltOf_iff];simp
theorem ltS_swo:SWO (ltOf cmpS) where
 irrefl x:=by rw [ltOf_not];unfold ltS;omega
 trans x y z h1 h2:=by rw [ltOf_iff] at *;unfold ltS at *;omega
 ntrans x y z h1 h2:=by rw [ltOf_not] at *;unfold ltS at *;omega
theorem ltS_total (x y:Int) (h1:ltOf cmpS x y=false) (h2:ltOf cmpS y x=false):x=y:=by rw [ltOf_not] at *;unfold ltS at *;omega
def sortS (l:List Int):List Int:=l.mergeSort fun x y=>!(ltOf cmpS) y x
theorem sortS_length (l:List Int):(sortS l).length=l.length:=by simp [sortS]
theorem sort_row {w:World} {base:Nat} {ok:Nat→Prop} {v:Value} {l:List Int} (h:RI w base ok v l) (hl:l.length < 4611686018427387904) :
  Calls Tryz.prog 161 #[v,.func (.func 162) #[] #[]] w fun e w'=>e=.returned (.tuple #[])∧RI w' base ok v (sortS l)∧w.grownBy w' v.ownBlock:=by
 have ho:=own_of_R h
 rcases Nat.eq_zero_or_pos l.length with h0|h0
 ·obtain rfl:=List.eq_nil_of_length_eq_zero h0
  obtain ⟨A,c,rfl⟩:=own_slice ho
  refine (Tryz.slices_SortFunc_none (α:=Int) A c _ w).mono ?_
  rintro e w' ⟨rfl,rfl⟩
  exact ⟨rfl,by simpa [sortS] using h,grown_of_below (Below.refl _ _) _⟩
 ·rcases ho.2 with ⟨_,h1⟩|⟨g,cap,cur,rfl,hb,hh,h1,h2,h3,h4⟩
  ·omega
  ·have hH:=holds_of_blockI hh (by simpa using h4)
   refine (Tryz.slices_SortFunc_total (Value.int .i64) (fun _=>rfl) cmpS ltS_swo 162 #[] g 0 cap l.toArray w (enters_of Tryz.func162 pU rfl) (fun m os dk _ x y=>by simpa using compare_grow x y _) hH (Array.getElem?_eq_some_iff.1 hh).1 (by simpa using hl) ltS_total).mono ?_
   rintro e w' ⟨rfl,n,os,rfl⟩
   have hs:=sortS_length l
   refine ⟨rfl,R_of_own h.1 ?_,grownBy_sortedI _⟩
   rw [hs]
   exact ownsRow_sortedI hs hb hh h1 h2 h3
theorem clone_row {w:World} {A:Option Addr} {c:Nat} {l:List Int} (hr:Kd.C (Kd.int .i64) w A l.length l) (hl:l.length≤17592186044416) :
  Calls Tryz.prog 158 #[.slice A l.length c] w fun e w'=>∃ v,e=.returned v∧RI w' w.heap.size (fun _=>True) v l∧Below w.heap.size w w':=by
 rcases Nat.eq_zero_or_pos l.length with h0|h0
 ·obtain rfl:=List.eq_nil_of_length_eq_zero h0
  cases A with
  | none =>
   refine (Tryz.slices_Clone_int_nil _ c w).mono ?_
   rintro e w' ⟨rfl,rfl⟩
   exact ⟨_,rfl,Kd.R_nil _ _ _ _ _,Below.refl _ _⟩
  | some a =>
   refine (Tryz.slices_Clone_int_zero a c w).mono ?_
   rintro e w' ⟨v,rfl,ho,_,hb⟩
   exact ⟨v,rfl,R_of_own (fun _ _=>trivial) (by simpa using ho),hb⟩
 ·obtain ⟨b,off,rfl,_,hc⟩:=C_ints hr h0
  refine (Tryz.slices_Clone_int b off l.length c l w (Nat.le_refl _) (by omega) (fun j hj=>by rw [hc j hj];simp [List.getD,hj])).mono ?_
  rintro e w' ⟨v,rfl,ho,_,hb⟩
  exact ⟨v,rfl,R_of_own (fun _ _=>trivial) (by simpa using ho),hb⟩
theorem least1_calls (s:Int) (W:World):Calls Tryz.prog 159 #[.int .i64 s] W fun e w'=>e=.returned (.bool (!vld s))∧∃ q,w'=W.drewN q:=by
 go_enter Tryz.func159,Tryz.ntmps159
 go_wp2_with (go_at_call 160;(with_reducible refine (nodeset_Valid.calls s (vld s) _ (Valid_eq s)).mono ?_);rintro e w' ⟨rfl,⟨nd,rfl⟩⟩)
 go_ret
 exact ⟨rfl,_,rfl⟩
theorem delete_none (A:Option Addr) (c:Nat) (fv:Value) (w:World):Calls Tryz.prog 157 #[.slice A 0 c,fv] w fun e w'=>e=.returned (.slice A 0 c)∧w'=w:=by
 go_enter Tryz.func157,Tryz.ntmps157
 go_wp2_with (go_at_call 190;refine (Tryz.slices_IndexFunc_empty (α:=Int) A c fv _).mono ?_;rintro e w' ⟨rfl,rfl⟩)
 go_ret
 exact ⟨rfl,rfl⟩
theorem delete_row {w:World} {base:Nat} {ok:Nat→Prop} {v:Value} {l:List Int} (h:RI w base ok v l) (hl:l.length < 4611686018427387904) :
  Calls Tryz.prog 157 #[v,.func (.func 159) #[] #[]] w fun e w'=>∃ v',e=.returned v'∧RI w' base ok v' (l.filter vld)∧v'.ownBlock=v.ownBlock∧w.grownBy w' v.ownBlock:=by
 have ho:=own_of_R h
 rcases Nat.eq_zero_or_pos l.length with h0|h0
 ·obtain rfl:=List.eq_nil_of_length_eq_zero h0
  obtain ⟨A,c,rfl⟩:=own_slice ho
  refine (delete_none A c _ w).mono ?_
  rintro e w' ⟨rfl,rfl⟩
  exact ⟨_,rfl,by simpa using h,rfl,grown_of_below (Below.refl _ _) _⟩
 ·rcases ho.2 with ⟨_,h1⟩|⟨g,cap,cur,rfl,hb,hh,h1,h2,h3,h4⟩
  ·omega
  ·have hH:=holds_of_blockI hh (by simpa using h4)
   refine (Tryz.slices_DeleteFunc (Value.int .i64) (fun _=>rfl) (fun s=>!vld s) 159 #[] (enters_of Tryz.func159 pU rfl) 0 (fun _=>by kernel_rfl) g 0 cap l.toArray w (fun W x _=>by simpa [FnGives] using least1_calls x W) (fun n os dk x _=>by simpa [FnGives] using least1_calls x _) hH (by simp;unfold maxLen at h2;omega) (by simpa using h1)).mono ?_
   rintro e w' ⟨rfl,q,rfl⟩
   have hf:(l.toArray.toList.filter fun x=>!(!vld x))=l.filter vld:=by simp
   rw [hf]
   have hfl:=List.length_filter_le vld l
   have hgr:∀ d:Array Int,w.grownBy (putRow (Value.int .i64) (Sort.ahead w q) g 0 d) (some g):=fun d=>by
    have:=grownBy_sortedI (w:=w) (g:=g) (n:=q) (os:=#[]) d
    rwa [grow_empty] at this
   refine ⟨_,rfl,R_of_own (fun k hk=>h.1 k (by simpa [Value.ownBlock] using hk)) ?_,rfl,hgr _⟩
   have hz:((l.filter vld++List.replicate (l.toArray.size - (l.filter vld).length) (0:Int))).length=l.length:=by simp;omega
   have hs:=ownsRow_sortedI (n:=q) (os:=#[]) hz hb hh h1 h2 h3
   rw [grow_empty] at hs
   rcases hs.2 with ⟨hn,_⟩|⟨g',cap',cur',he,hb',hh',k1,k2,k3,k4⟩
   ·cases hn
   ·injection he with he1 he2 he3
    injection he1 with he1
    injection he1 with he1
    subst he1;subst he3
    refine ⟨by simp,.inr ⟨g,cap,cur',rfl,hb',hh',by omega,k2,k3,?_⟩⟩
    rw [Nat.mul_one] at k4 ⊢
    have h5:=congrArg (List.take (l.filter vld).length) k4
    rw [List.take_take,Nat.min_eq_left hfl,List.map_append,List.take_append_of_le_length (by simp)] at h5
    exact h5.trans (List.take_of_length_le (by simp))
def sub (t s:Int):Bool:=Go.bits .andNot .i64 t s == 0
def leastStep (out:List Int) (s:Int):List Int:=if (out.any fun t=>sub t s)=true then out else out++[s]
def leastFold (l:List Int):List Int:=l.foldl leastStep []
def leastS (l:List Int):List Int:=leastFold (sortS (l.filter vld))
def nodeset_Least.f (a0:List Int):Option (List Int):=if a0.length≤1048576 then some (leastS a0) else none
theorem leastFold_le (l:List Int):(leastFold l).length≤l.length:=by
 have h:∀ (l acc:List Int),(l.foldl leastStep acc).length≤acc.length+l.length:=by
  intro l
  induction l with
  | nil=>intro acc;simp
  | cons x r ih =>
   intro acc
   have:=ih (leastStep acc x)
   have h2:(leastStep acc x).length≤acc.length+1:=by unfold leastStep;split <;> simp
   simp only [List.foldl_cons,List.length_cons];omega
 simpa [leastFold] using h l []
theorem least2_calls (t s:Int) (B:Nat) (W:World) (hc:W.cell? ⟨B,0,none⟩=some (.int .i64 s)):Calls Tryz.prog 164 #[.int .i64 t,.pointer (some ⟨B,0,none⟩)] W fun e w'=>e=.returned (.bool (sub t s))∧∃ q,w'=W.drewN q:=by
 go_enter Tryz.func164,Tryz.ntmps164
 go_wp2
 go_ret
 exact ⟨rfl,0,rfl⟩
theorem contains_row {W:World} {A:Option Addr} {c:Nat} {l:List Int} {s:Int} {B:Nat} (hr:Kd.C (Kd.int .i64) W A l.length l) (hc:W.cell? ⟨B,0,none⟩=some (.int .i64 s)) :
  Calls Tryz.prog 163 #[.slice A l.length c,.func (.func 164) #[] #[.pointer (some ⟨B,0,none⟩)]] W fun e w'=>e=.returned (.bool (l.any fun t=>sub t s))∧∃ q,w'=W.drewN q:=by
 rcases Nat.eq_zero_or_pos l.length with h0|h0
 ·obtain rfl:=List.eq_nil_of_length_eq_zero h0
  refine (Tryz.slices_ContainsFunc_empty (α:=Int) A c _ W).mono ?_
  rintro e w' ⟨rfl,rfl⟩
  exact ⟨rfl,0,rfl⟩
 ·obtain ⟨b,off,rfl,_,hcc⟩:=C_ints hr h0
  have hB:=World.block_lt_of_cell? W _ hc
  refine (Tryz.slices_ContainsFunc (Value.int .i64) (fun t=>sub t s) 164 #[.pointer (some ⟨B,0,none⟩)] (enters_of Tryz.func164 pU rfl) b off l.length c l W (fun W' x hb=>least2_calls x s B W' ((hb.cell (p:=⟨B,0,none⟩) hB).trans hc)) (Nat.le_refl _) (C_max hr) hcc).mono ?_
  rintro e w' ⟨rfl,hq⟩
  rw [List.take_length]
  exact ⟨rfl,hq⟩
set_option maxHeartbeats 4000000 in
set_option maxRecDepth 100000 in
theorem nodeset_Least.calls (A0 : Option Addr) (c0 : Nat) (l0 : List Int) (r : List Int) (w : World) (hr0 : Kd.C (Kd.int .i64) w A0 l0.length l0) (hc0 : l0.length ≤ c0) (h : nodeset_Least.f l0 = some r) :
    Calls Tryz.prog 96 #[.slice A0 l0.length c0] w fun e w' => ∃ v0_ : Value, e = .returned (v0_) ∧ Kd.R (Kd.int .i64) 3 w' w.heap.size (fun _ => True) v0_ r ∧ Below w.heap.size w w' := by
  unfold nodeset_Least.f at h
  split at h
  case isFalse => cases h
  rename_i hlen
  obtain rfl := Option.some.inj h
  clear h
  have HL := Aside0.mk hlen
  have hfl := List.length_filter_le vld l0
  have HF : Aside0 ((l0.filter vld).length < 4611686018427387904) := ⟨by omega⟩
  have HR := Aside0.mk hr0
  clear hr0 hfl hlen
  unfold leastS
  obtain ⟨S, HS⟩ : ∃ S, Aside0 (S = sortS (l0.filter vld)) := ⟨_, ⟨rfl⟩⟩
  have HSl : Aside0 (S.length ≤ 1048576) := ⟨by rw [HS.out, sortS_length]; have := List.length_filter_le vld l0; have := HL.out; omega⟩
  rw [← HS.out]
  go_enter Tryz.func96, Tryz.ntmps96
  go_wp2_with (first
    | (go_at_call 158; refine (clone_row HR.out (by have := HL.out; omega)).mono ?_; rintro e w1 ⟨v1, rfl, h1, hb1⟩; have H1 := Aside0.mk h1; have B1 := Aside0.mk hb1; clear h1 hb1)
    | (go_at_call 157; refine (delete_row H1.out (by have := HL.out; omega)).mono ?_; rintro e w2 ⟨v2, rfl, h2, ho2, hg2⟩; have H2 := Aside0.mk h2; have B2 := Aside0.mk (B1.out.grown hg2 B1.out.size (own_base (own_of_R H1.out))); clear h2 ho2 hg2)
    | (go_at_call 161; refine (sort_row H2.out HF.out).mono ?_; rintro e w3 ⟨rfl, h3, hg3⟩; rw [← HS.out] at h3; have H3 := Aside0.mk h3; have B3 := Aside0.mk (B2.out.grown hg3 B2.out.size (own_base (own_of_R H2.out))); clear h3 hg3; obtain ⟨A2, c2, e2⟩ := Kd.R_slice H3.out; subst e2))
  have B1' := B1.out
  clear H1 H2 B1 B2 B1' HF HL HR
  go_loopw [3, 13] (fun o i wr => ∃ x : Int, i = .int .i64 x ∧ Aside0 (0 ≤ x ∧ x ≤ S.length) ∧ Aside0 (RI wr w.heap.size (fun _ => True) o (leastFold (S.take x.toNat))) ∧ Aside0 (RI wr w.heap.size (fun k => True ∧ some k ≠ o.ownBlock) (.slice A2 S.length c2) S) ∧ Aside0 (RowKit.Below w.heap.size w wr)) (fun _ i _ => S.length - (intOf i).toNat)
  case atStart => exact ⟨0, rfl, ⟨by omega⟩, ⟨Kd.R_nil _ _ _ _ _⟩, ⟨Kd.R_mono H3.out (fun k _ => ⟨trivial, by simp [Value.ownBlock]⟩)⟩, B3⟩
  case round =>
    obtain ⟨x, rfl, Hx, HO, HS3, HB⟩ := hrel
    clear H3 B3
    obtain ⟨ob, rfl⟩ : ∃ ob, ob = wr := ⟨_, rfl⟩
    by_cases hlt : x < S.length
    · have hd : decide (x < (S.length : Int)) = true := decide_eq_true hlt
      have p0 := Hx.out.1
      obtain ⟨F, HF⟩ : ∃ F, Aside0 (F = leastFold (S.take x.toNat)) := ⟨_, ⟨rfl⟩⟩
      rw [← HF.out] at HO
      obtain ⟨A, c, e0⟩ := Kd.R_slice HO.out
      subst e0
      obtain ⟨ad, ea, hx⟩ := Kd.at_int (Kd.R_reads' HS3.out).2.2 x p0 hlt
      cases ea
      obtain ⟨y, Hy⟩ : ∃ y, Aside0 (y = rd S x) := ⟨_, ⟨rfl⟩⟩
      rw [← Hy.out] at hx
      obtain ⟨b, Hb⟩ : ∃ b, Aside0 (b = F.any fun t => sub t y) := ⟨_, ⟨rfl⟩⟩
      have Hlt := Aside0.mk hlt
      have HFl : Aside0 (F.length ≤ 1048576) := ⟨by rw [HF.out]; have := leastFold_le (S.take x.toNat); have := HSl.out; simp at *; omega⟩
      have Hnext : Aside0 (leastFold (S.take (wrap64 (x + 1)).toNat) = leastStep F y ∧ wrap64 (x + 1) = x + 1) := by
        have h1 : wrap64 (x + 1) = x + 1 := by unfold wrap64; have := HSl.out; omega
        refine ⟨?_, h1⟩
        have h2 : (x + 1).toNat = x.toNat + 1 := by omega
        have h3 : x.toNat < S.length := by omega
        have h4 : YtkjlcbfjllpcnaaGreatW.PrintWords.rd S x = S[x.toNat] := by simp [rd_, List.getD, h3]
        rw [h1, h2, HF.out, Hy.out, h4, List.take_succ_eq_append_getElem h3]
        unfold leastFold
        rw [List.foldl_append]
        rfl
      replace hlt := eq_true hlt
      replace p0 := eq_true p0
      cases b
      all_goals
        go_wp2_with (first
          | (go_at_call 163; refine (contains_row (s := y) (B := ob.heap.size) (Kd.R_reads' (Kd.R_alloc HO.out _)).2.2 (by simp)).mono ?_; rintro e w1 ⟨he, hq⟩; rw [← Hb.out] at he; subst he; have HO1 : Aside0 (RI w1 w.heap.size (fun _ => True) (.slice A F.length c) F) := (by obtain ⟨q, rfl⟩ := hq; exact ⟨Kd.R_drewN (Kd.R_alloc HO.out _) _⟩); have HS1 : Aside0 (RI w1 w.heap.size (fun k => True ∧ some k ≠ (Value.slice A F.length c).ownBlock) (.slice (some ad) S.length c2) S) := (by obtain ⟨q, rfl⟩ := hq; exact ⟨Kd.R_drewN (Kd.R_alloc HS3.out _) _⟩); have HB1 : Aside0 (RowKit.Below w.heap.size w w1) := (by obtain ⟨q, rfl⟩ := hq; exact ⟨wN (wA HB.out _) _⟩); have hcl : w1.cell? ⟨ob.heap.size, 0, none⟩ = some (.int .i64 y) := (by obtain ⟨q, rfl⟩ := hq; simp); clear hq)
          | (at_builtin; go_loud (refine Kd.R_append (Kd.int .i64) (w0 := w) w.heap.size rfl (.tmp 21) (.tmp 23) 22 3 (.int .i64 0) 8 rfl Tryz.underlying22 info3 rfl (by decide) (by omega) (.slice A F.length c) F y [.int .i64 y] (fun _ => True) (fun _ => False) rfl rfl ?aP (fun _ hk => hk.elim) (fun _ _ => trivial) ?aO ?aB ?aS ?aL ?_; (case aP => exact rfl); (case aO => exact HO1.out); (case aB => exact HB1.out); (case aS => exact HB1.out.size); (case aL => have := HFl.out; omega); intro v4 w4 h4 hb4 hg4 hat4; have H4 := Aside0.mk h4; have B4 := Aside0.mk hb4; have HS4 := Aside0.mk (Kd.R_after HS1.out hg4 hat4); clear h4 hb4 hg4 hat4)))
        go_roundw
        case rel =>
          first
          | exact ⟨wrap64 (x + 1), rfl, ⟨by have := Hnext.out.2; have := Hlt.out; have := Hx.out; omega⟩, ⟨by rw [Hnext.out.1]; unfold leastStep; rw [← Hb.out]; exact H4.out⟩, HS4, B4⟩
          | exact ⟨wrap64 (x + 1), rfl, ⟨by have := Hnext.out.2; have := Hlt.out; have := Hx.out; omega⟩, ⟨by rw [Hnext.out.1]; unfold leastStep; rw [← Hb.out]; exact HO1.out⟩, HS1, HB1⟩
        case measure => have h1 := Hnext.out.2; have := Hlt.out; have := Hx.out; simp only [intOf]; simp [h1]; omega
    · have hd : decide (x < (S.length : Int)) = false := decide_eq_false hlt
      have Hlt := Aside0.mk hlt
      clear hlt
      go_wp2
      go_ret
      have hx : x = S.length := by have := Hx.out; have := Hlt.out; omega
      rw [hx] at HO
      exact ⟨_, rfl, by simpa using HO.out, HB.out⟩
end Go.Proofs.YtkjlcbfjllpcnaaGreat.X
