/- Proof of the statement DangerUniform: part 4 of 6, what it computes and why that answers true. -/
import Derived.Test.YtkjlcbfjllpcnaaKDU3
import Derived.Shelf.Small.Bits
import Derived.Shelf.Strconv.Itoa0
import Derived.Ground.Names2Prog
import Derived.Shelf.Slices.Clone
import Derived.Shelf.Slices.SearchI
import Derived.Ground.SlgnProg
import Derived.Shelf.SlicesE.Clone
import Derived.Ground.SlgfProg
import Derived.Shelf.SlicesE.IndexFunc
import Derived.Shelf.SlicesE.DeleteFunc
import Derived.Ground.SlsfProg
import Derived.Shelf.SlSortCmp.Insertion
import Derived.Shelf.SlSortCmp.SiftDown1
import Derived.Shelf.SlSortCmp.HeapSort1
import Derived.Shelf.SlSortCmp.Insertion1
import Derived.Shelf.SlSortCmp.Median1
import Derived.Shelf.SlSortCmp.Pivot1
import Derived.Shelf.SlSortCmp.ReverseRange1
import Derived.Shelf.SlSortCmp.PartialInsertion1
import Derived.Shelf.SlSortCmp.PartitionEqual1
import Derived.Shelf.SlSortCmp.Partition1
import Derived.Shelf.SlSortCmp.Pdq1
import Derived.Shelf.SlSortCmp.Whole1
import Derived.Shelf.SlSortCmp.NoneTotal
import Derived.Test.YtkjlcbfjllpcnaaProg
import Derived.Sort.OwnSortedInts
set_option linter.unusedVariables false
set_option linter.unusedSimpArgs false
namespace Go.Proofs
open Go.Shelf
def Try.laysNm215_ren:Go.Shelf.Ren:=⟨fun|15=>97|n=>n,fun|22=>22|3=>3|4=>4|n=>n,fun|n=>n⟩
theorem Try.laysNm215:Go.Proofs.Lays2.n15 Try.prog Try.laysNm215_ren:={
 mixed:=by kernel_rfl
 f15:=Try.func97.trans (congrArg some (by kernel_rfl))
 t3:=Try.underlying3
 a3:=Try.isAgg3
 z3:=Try.sizeOf3
 v3:=Try.zeroValue3
 t4:=Try.underlying4
 a4:=Try.isAgg4
 z4:=Try.sizeOf4
 v4:=Try.zeroValue4
 t22:=Try.underlying22
 a22:=Try.isAgg22
 z22:=Try.sizeOf22
 v22:=Try.zeroValue22
 i3:=by kernel_rfl }
open Go.RowKit Go.Lib in
theorem Try.slices_Clone_int (b off n c:Nat) (zs:List Int) (w:World) (hz:n≤zs.length) (hbig:n * 8≤140737488355328) (hc:∀ j,j < zs.length→w.cell? ⟨b,off+j,none⟩=some (.int .i64 (zs.getD j 0))) :
  Calls Try.prog 97 #[.slice (some ⟨b,off,none⟩) n c] w fun e w'=>∃ v',e=.returned v'∧w'.ownsRow w.heap.size 3 1 v' n ((zs.take n).map (Value.int .i64))∧v' ≠ .slice none 0 0∧Below w.heap.size w w':=Any.slices_Clone_int Try.laysNm215 b off n c zs w hz hbig hc
open Go.RowKit Go.Lib in
theorem Try.slices_Clone_int_nil (n c:Nat) (w:World) :
  Calls Try.prog 97 #[.slice none n c] w fun e w'=>e=.returned (.slice none 0 0)∧w'=w:=Any.slices_Clone_int_nil Try.laysNm215 n c w
open Go.RowKit Go.Lib in
theorem Try.slices_Clone_int_zero (a:Addr) (c:Nat) (w:World) :
  Calls Try.prog 97 #[.slice (some a) 0 c] w fun e w'=>∃ v',e=.returned v'∧w'.ownsRow w.heap.size 3 1 v' 0 []∧v' ≠ .slice none 0 0∧Below w.heap.size w w':=Any.slices_Clone_int_zero Try.laysNm215 a c w
def Try.laysSlH6_f117_ren:Go.Shelf.Ren:=⟨fun|6=>117|n=>n,fun|22=>22|23=>3|25=>77|3=>3|0=>0|4=>4|n=>n,fun|n=>n⟩
theorem Try.laysSlH6_f117:Go.Proofs.SlLaysH.n6 Try.prog Try.laysSlH6_f117_ren:={
 mixed:=by kernel_rfl
 f6:=⟨Try.f117.name,by decide,Try.func117.trans (congrArg some (by kernel_rfl))⟩
 t0:=Try.underlying0
 a0:=Try.isAgg0
 z0:=Try.sizeOf0
 v0:=Try.zeroValue0
 t3:=Try.underlying3
 a3:=Try.isAgg3
 z3:=Try.sizeOf3
 v3:=Try.zeroValue3
 t4:=Try.underlying4
 a4:=Try.isAgg4
 z4:=Try.sizeOf4
 v4:=Try.zeroValue4
 t22:=Try.underlying22
 a22:=Try.isAgg22
 z22:=Try.sizeOf22
 v22:=Try.zeroValue22
 a23:=Try.isAgg3
 z23:=Try.sizeOf3
 t25:=Try.underlying77
 a25:=Try.isAgg77
 z25:=Try.sizeOf77
 v25:=Try.zeroValue77 }
open Go.RowKit Go.Lib in
theorem Try.slices_IndexFunc_empty {α:Type} [Inhabited α] (a:Option Addr) (c:Nat) (fv:Value) (w:World) :
  Calls Try.prog 117 #[.slice a 0 c,fv] w fun e w'=>e=.returned (.int .i64 (-1))∧w'=w:=AnyE.slices_IndexFunc_empty Try.laysSlH6_f117 a c fv w
def Try.laysSlH8_f99_ren:Go.Shelf.Ren:=⟨fun|8=>99|6=>117|n=>n,fun|22=>22|23=>3|25=>77|4=>4|3=>3|0=>0|n=>n,fun|n=>n⟩
theorem Try.laysSlH8_f99:Go.Proofs.SlLaysH.n8 Try.prog Try.laysSlH8_f99_ren:={
 mixed:=by kernel_rfl
 f6:=⟨Try.f117.name,by decide,Try.func117.trans (congrArg some (by kernel_rfl))⟩
 f8:=⟨Try.f99.name,by decide,Try.func99.trans (congrArg some (by kernel_rfl))⟩
 t0:=Try.underlying0
 a0:=Try.isAgg0
 z0:=Try.sizeOf0
 v0:=Try.zeroValue0
 t3:=Try.underlying3
 a3:=Try.isAgg3
 z3:=Try.sizeOf3
 v3:=Try.zeroValue3
 t4:=Try.underlying4
 a4:=Try.isAgg4
 z4:=Try.sizeOf4
 v4:=Try.zeroValue4
 t22:=Try.underlying22
 a22:=Try.isAgg22
 z22:=Try.sizeOf22
 v22:=Try.zeroValue22
 a23:=Try.isAgg3
 z23:=Try.sizeOf3
 t25:=Try.underlying77
 a25:=Try.isAgg77
 z25:=Try.sizeOf77
 v25:=Try.zeroValue77 }
open Go.RowKit Go.Lib in
theorem Try.slices_ContainsFunc {α:Type} [Inhabited α] (enc:α→Value) (p:α→Bool) (g:Nat) (lb:Array Value) (eg:∀ args w,(callFunc g args).run Try.prog w=.ok (.enter g args) w) (b off n c:Nat) (zs:List α) (w:World) (hp:PredAt Try.prog g lb enc p w) (hz:n≤zs.length) (hbig:n≤9223372036854775807) (hc:∀ j,j < zs.length→w.cell? ⟨b,off+j,none⟩=some (enc zs[j]!)) :
  Calls Try.prog 99 #[.slice (some ⟨b,off,none⟩) n c,.func (.func g) #[] lb] w fun e w'=>e=.returned (.bool ((zs.take n).any p))∧∃ q,w'=w.drewN q:=AnyE.slices_ContainsFunc Try.laysSlH8_f99 enc p g lb eg b off n c zs w hp hz hbig hc
open Go.RowKit Go.Lib in
theorem Try.slices_ContainsFunc_empty {α:Type} [Inhabited α] (a:Option Addr) (c:Nat) (fv:Value) (w:World) :
  Calls Try.prog 99 #[.slice a 0 c,fv] w fun e w'=>e=.returned (.bool false)∧w'=w:=AnyE.slices_ContainsFunc_empty Try.laysSlH8_f99 a c fv w
def Try.laysSlH10_f96_ren:Go.Shelf.Ren:=⟨fun|10=>96|6=>117|n=>n,fun|22=>22|23=>3|25=>77|3=>3|4=>4|0=>0|n=>n,fun|n=>n⟩
theorem Try.laysSlH10_f96:Go.Proofs.SlLaysH.n10 Try.prog Try.laysSlH10_f96_ren:={
 mixed:=by kernel_rfl
 f6:=⟨Try.f117.name,by decide,Try.func117.trans (congrArg some (by kernel_rfl))⟩
 f10:=⟨Try.f96.name,by decide,Try.func96.trans (congrArg some (by kernel_rfl))⟩
 t0:=Try.underlying0
 a0:=Try.isAgg0
 z0:=Try.sizeOf0
 v0:=Try.zeroValue0
 t3:=Try.underlying3
 a3:=Try.isAgg3
 z3:=Try.sizeOf3
 v3:=Try.zeroValue3
 t4:=Try.underlying4
 a4:=Try.isAgg4
 z4:=Try.sizeOf4
 v4:=Try.zeroValue4
 t22:=Try.underlying22
 a22:=Try.isAgg22
 z22:=Try.sizeOf22
 v22:=Try.zeroValue22
 a23:=Try.isAgg3
 z23:=Try.sizeOf3
 t25:=Try.underlying77
 a25:=Try.isAgg77
 z25:=Try.sizeOf77
 v25:=Try.zeroValue77 }
open Go.RowKit Go.Lib Go.Sort in
theorem Try.slices_DeleteFunc {α:Type} [Inhabited α] (enc:α→Value) (hO:OneCell enc) (p:α→Bool) (g:Nat) (lb:Array Value) (eg:∀ args w,(callFunc g args).run Try.prog w=.ok (.enter g args) w) (zr:α) (v23:∀ w,(zeroValue 3).run Try.prog w=.ok (enc zr) w) (blk off cap:Nat) (d:Array α) (w:World) (hp:PredAt Try.prog g lb enc p w) (hpo:PredOver Try.prog g lb enc p blk off d.size w) (hH:Holds enc w blk off d) (hsz:d.size≤9223372036854775807) (hcap:d.size≤cap) :
  Calls Try.prog 96 #[.slice (some ⟨blk,off,none⟩) d.size cap,.func (.func g) #[] lb] w fun e w'=>e=.returned (.slice (some ⟨blk,off,none⟩) (d.toList.filter fun x=>!p x).length cap)∧∃ q,w'=putRow enc (Sort.ahead w q) blk off ((d.toList.filter fun x=>!p x)++List.replicate (d.size - (d.toList.filter fun x=>!p x).length) zr).toArray:=AnyE.slices_DeleteFunc Try.laysSlH10_f96 enc hO p g lb eg zr v23 blk off cap d w hp hpo hH hsz hcap
def Try.laysSlF06_f93_ren:Go.Shelf.Ren:=⟨fun|6=>93|15=>113|14=>112|28=>137|29=>138|20=>129|21=>130|22=>131|23=>132|24=>133|25=>134|26=>135|27=>136|46=>148|47=>149|48=>150|49=>151|50=>152|57=>154|n=>n,fun|22=>22|24=>3|25=>64|3=>3|39=>102|0=>0|53=>118|55=>120|4=>4|46=>112|45=>111|50=>81|5=>5|9=>9|66=>123|70=>127|76=>129|77=>104|n=>n,fun|n=>n⟩
theorem Try.laysSlF06_f93:Go.Proofs.SlLaysF0.n6 Try.prog Try.laysSlF06_f93_ren:={
 mixed:=by kernel_rfl
 f6:=⟨Try.f93.name,by decide,Try.func93.trans (congrArg some (by kernel_rfl))⟩
 f14:=⟨Try.f112.name,by decide,Try.func112.trans (congrArg some (by kernel_rfl))⟩
 f15:=Try.func113.trans (congrArg some (by kernel_rfl))
 f20:=⟨Try.f129.name,by decide,Try.func129.trans (congrArg some (by kernel_rfl))⟩
 f21:=⟨Try.f130.name,by decide,Try.func130.trans (congrArg some (by kernel_rfl))⟩
 f22:=⟨Try.f131.name,by decide,Try.func131.trans (congrArg some (by kernel_rfl))⟩
 f23:=⟨Try.f132.name,by decide,Try.func132.trans (congrArg some (by kernel_rfl))⟩
 f24:=⟨Try.f133.name,by decide,Try.func133.trans (congrArg some (by kernel_rfl))⟩
 f25:=⟨Try.f134.name,by decide,Try.func134.trans (congrArg some (by kernel_rfl))⟩
 f26:=⟨Try.f135.name,by decide,Try.func135.trans (congrArg some (by kernel_rfl))⟩
 f27:=⟨Try.f136.name,by decide,Try.func136.trans (congrArg some (by kernel_rfl))⟩
 f28:=Try.func137.trans (congrArg some (by kernel_rfl))
 f29:=Try.func138.trans (congrArg some (by kernel_rfl))
 f46:=⟨Try.f148.name,by decide,Try.func148.trans (congrArg some (by kernel_rfl))⟩
 f47:=Try.func149.trans (congrArg some (by kernel_rfl))
 f48:=Try.func150.trans (congrArg some (by kernel_rfl))
 f49:=⟨Try.f151.name,by decide,Try.func151.trans (congrArg some (by kernel_rfl))⟩
 f50:=⟨Try.f152.name,by decide,Try.func152.trans (congrArg some (by kernel_rfl))⟩
 f57:=⟨Try.f154.name,by decide,Try.func154.trans (congrArg some (by kernel_rfl))⟩
 t0:=Try.underlying0
 a0:=Try.isAgg0
 z0:=Try.sizeOf0
 v0:=Try.zeroValue0
 t3:=Try.underlying3
 a3:=Try.isAgg3
 z3:=Try.sizeOf3
 v3:=Try.zeroValue3
 t4:=Try.underlying4
 a4:=Try.isAgg4
 z4:=Try.sizeOf4
 v4:=Try.zeroValue4
 t5:=Try.underlying5
 a5:=Try.isAgg5
 z5:=Try.sizeOf5
 v5:=Try.zeroValue5
 t9:=Try.underlying9
 a9:=Try.isAgg9
 z9:=Try.sizeOf9
 v9:=Try.zeroValue9
 t22:=Try.underlying22
 a22:=Try.isAgg22
 z22:=Try.sizeOf22
 v22:=Try.zeroValue22
 t25:=Try.underlying64
 a25:=Try.isAgg64
 z25:=Try.sizeOf64
 v25:=Try.zeroValue64
 t39:=Try.underlying102
 a39:=Try.isAgg102
 z39:=Try.sizeOf102
 v39:=Try.zeroValue102
 t45:=Try.underlying111
 a45:=Try.isAgg111
 z45:=Try.sizeOf111
 v45:=Try.zeroValue111
 t46:=Try.underlying112
 a46:=Try.isAgg112
 z46:=Try.sizeOf112
 v46:=Try.zeroValue112
 t50:=Try.underlying81
 a50:=Try.isAgg81
 z50:=Try.sizeOf81
 v50:=Try.zeroValue81
 t53:=Try.underlying118
 a53:=Try.isAgg118
 z53:=Try.sizeOf118
 v53:=Try.zeroValue118
 t55:=Try.underlying120
 a55:=Try.isAgg120
 z55:=Try.sizeOf120
 v55:=Try.zeroValue120
 t66:=Try.underlying123
 a66:=Try.isAgg123
 z66:=Try.sizeOf123
 v66:=Try.zeroValue123
 t70:=Try.underlying127
 a70:=Try.isAgg127
 z70:=Try.sizeOf127
 v70:=Try.zeroValue127
 t76:=Try.underlying129
 a76:=Try.isAgg129
 z76:=Try.sizeOf129
 v76:=Try.zeroValue129
 t77:=Try.underlying104
 a77:=Try.isAgg104
 z77:=Try.sizeOf104
 v77:=Try.zeroValue104 }
open Go.RowKit Go.Lib Go.Sort in
theorem Try.slices_SortFunc_none {α:Type} [Inhabited α] (p:Option Addr) (cap:Nat) (fv:Value) (w:World) :
  Calls Try.prog 93 #[.slice p 0 cap,fv] w fun e w'=>e=.returned (.tuple #[])∧w'=w:=AnyF.slices_SortFunc_none Try.laysSlF06_f93 p cap fv w
def Try.laysSlF6_f93_ren:Go.Shelf.Ren:=⟨fun|6=>93|15=>113|14=>112|28=>137|29=>138|20=>129|21=>130|22=>131|23=>132|24=>133|25=>134|26=>135|27=>136|46=>148|47=>149|48=>150|49=>151|50=>152|57=>154|n=>n,fun|22=>22|24=>3|25=>64|3=>3|39=>102|0=>0|53=>118|55=>120|4=>4|46=>112|45=>111|50=>81|5=>5|9=>9|66=>123|70=>127|76=>129|77=>104|n=>n,fun|n=>n⟩
theorem Try.laysSlF6_f93:Go.Proofs.SlLaysF.n6 Try.prog Try.laysSlF6_f93_ren:={
 mixed:=by kernel_rfl
 f6:=⟨Try.f93.name,by decide,Try.func93.trans (congrArg some (by kernel_rfl))⟩
 f14:=⟨Try.f112.name,by decide,Try.func112.trans (congrArg some (by kernel_rfl))⟩
 f15:=Try.func113.trans (congrArg some (by kernel_rfl))
 f20:=⟨Try.f129.name,by decide,Try.func129.trans (congrArg some (by kernel_rfl))⟩
 f21:=⟨Try.f130.name,by decide,Try.func130.trans (congrArg some (by kernel_rfl))⟩
 f22:=⟨Try.f131.name,by decide,Try.func131.trans (congrArg some (by kernel_rfl))⟩
 f23:=⟨Try.f132.name,by decide,Try.func132.trans (congrArg some (by kernel_rfl))⟩
 f24:=⟨Try.f133.name,by decide,Try.func133.trans (congrArg some (by kernel_rfl))⟩
 f25:=⟨Try.f134.name,by decide,Try.func134.trans (congrArg some (by kernel_rfl))⟩
 f26:=⟨Try.f135.name,by decide,Try.func135.trans (congrArg some (by kernel_rfl))⟩
 f27:=⟨Try.f136.name,by decide,Try.func136.trans (congrArg some (by kernel_rfl))⟩
 f28:=Try.func137.trans (congrArg some (by kernel_rfl))
 f29:=Try.func138.trans (congrArg some (by kernel_rfl))
 f46:=⟨Try.f148.name,by decide,Try.func148.trans (congrArg some (by kernel_rfl))⟩
 f47:=Try.func149.trans (congrArg some (by kernel_rfl))
 f48:=Try.func150.trans (congrArg some (by kernel_rfl))
 f49:=⟨Try.f151.name,by decide,Try.func151.trans (congrArg some (by kernel_rfl))⟩
 f50:=⟨Try.f152.name,by decide,Try.func152.trans (congrArg some (by kernel_rfl))⟩
 f57:=⟨Try.f154.name,by decide,Try.func154.trans (congrArg some (by kernel_rfl))⟩
 t0:=Try.underlying0
 a0:=Try.isAgg0
 z0:=Try.sizeOf0
 v0:=Try.zeroValue0
 t3:=Try.underlying3
 a3:=Try.isAgg3
 z3:=Try.sizeOf3
 v3:=Try.zeroValue3
 t4:=Try.underlying4
 a4:=Try.isAgg4
 z4:=Try.sizeOf4
 v4:=Try.zeroValue4
 t5:=Try.underlying5
 a5:=Try.isAgg5
 z5:=Try.sizeOf5
 v5:=Try.zeroValue5
 t9:=Try.underlying9
 a9:=Try.isAgg9
 z9:=Try.sizeOf9
 v9:=Try.zeroValue9
 t22:=Try.underlying22
 a22:=Try.isAgg22
 z22:=Try.sizeOf22
 v22:=Try.zeroValue22
 a24:=Try.isAgg3
 z24:=Try.sizeOf3
 t25:=Try.underlying64
 a25:=Try.isAgg64
 z25:=Try.sizeOf64
 v25:=Try.zeroValue64
 t39:=Try.underlying102
 a39:=Try.isAgg102
 z39:=Try.sizeOf102
 v39:=Try.zeroValue102
 t45:=Try.underlying111
 a45:=Try.isAgg111
 z45:=Try.sizeOf111
 v45:=Try.zeroValue111
 t46:=Try.underlying112
 a46:=Try.isAgg112
 z46:=Try.sizeOf112
 v46:=Try.zeroValue112
 t50:=Try.underlying81
 a50:=Try.isAgg81
 z50:=Try.sizeOf81
 v50:=Try.zeroValue81
 t53:=Try.underlying118
 a53:=Try.isAgg118
 z53:=Try.sizeOf118
 v53:=Try.zeroValue118
 t55:=Try.underlying120
 a55:=Try.isAgg120
 z55:=Try.sizeOf120
 v55:=Try.zeroValue120
 t66:=Try.underlying123
 a66:=Try.isAgg123
 z66:=Try.sizeOf123
 v66:=Try.zeroValue123
 t70:=Try.underlying127
 a70:=Try.isAgg127
 z70:=Try.sizeOf127
 v70:=Try.zeroValue127
 t76:=Try.underlying129
 a76:=Try.isAgg129
 z76:=Try.sizeOf129
 v76:=Try.zeroValue129
 t77:=Try.underlying104
 a77:=Try.isAgg104
 z77:=Try.sizeOf104
 v77:=Try.zeroValue104 }
open Go.RowKit Go.Lib Go.Sort in
theorem Try.slices_SortFunc_total {α:Type} [Inhabited α] (enc:α→Value) (h1:OneCell enc) (cf:α→α→Int) (hO:SWO (ltOf cf)) (g:Nat) (cb:Array Value) (blk off cap:Nat) (d:Array α) (w:World) (eg:∀ args w,(callFunc g args).run Try.prog w=.ok (.enter g args) w) (hcmp:CmpLays1 Try.prog g cb enc cf blk off d.size w) (hH:Holds enc w blk off d) (hblk:blk < w.heap.size) (hsz:d.size < 4611686018427387904) (hT:∀ x y,(ltOf cf) x y=false→(ltOf cf) y x=false→x=y) :
  Calls Try.prog 93 #[.slice (some ⟨blk,off,none⟩) d.size cap,.func (.func g) #[] cb] w fun e w' =>
   e=.returned (.tuple #[])∧∃ n os,w'=sortWorld enc w blk off n (d.toList.mergeSort fun x y=>!(ltOf cf) y x).toArray os:=Any.slices_SortFunc_total Try.laysSlF6_f93 enc h1 cf hO g cb blk off cap d w eg hcmp hH hblk hsz hT
end Go.Proofs
namespace Go.Proofs.Ytkjlcbfjllpcnaa.X
open Go.RowKit Go.Proofs.YtkjlcbfjllpcnaaW.PrintWords Go.Proofs.YtkjlcbfjllpcnaaW.PrintLast Go.Proofs.YtkjlcbfjllpcnaaW.PrintMore
set_option linter.unusedVariables false
theorem spot_none {w:World} {ad:Addr} {v:Value} (h:w.cell? ad=some v):ad.spot=none:=by
 unfold World.cell? at h
 split at h
 ·split at h
  ·cases h
  ·rename_i hs;simpa using hs
 ·cases h
theorem C_ints {w:World} {A:Option Addr} {xs:List Int} (h:(Kd.int .i64).C w A xs.length xs) (hn:0 < xs.length) :
  ∃ b off,A=some ⟨b,off,none⟩∧b < w.heap.size∧∀ j,j < xs.length→w.cell? ⟨b,off+j,none⟩=some (.int .i64 xs[j]!):=by
 obtain ⟨_,_,h2⟩:=h
 obtain ⟨ad,rfl,hc⟩:=h2 hn
 have hcell:∀ j,j < xs.length→w.cell? (ad.add j)=some (.int .i64 xs[j]!):=by
  intro j hj
  obtain ⟨c,hl,hr,hu⟩:=hc j xs[j] (List.getElem?_eq_getElem hj)
  have hr':c=[.int .i64 xs[j]]:=hr
  subst hr'
  have:=hu 0 _ rfl
  simpa [Kd.int,Kd.scalar,hj] using this
 have hs:ad.spot=none:=by
  have:=hcell 0 hn
  rw [show ad.add 0=ad by simp [Addr.add]] at this
  exact spot_none this
 obtain ⟨b,off,spot⟩:=ad
 simp only at hs
 subst hs
 refine ⟨b,off,rfl,?_,fun j hj=>?_⟩
 ·have:=World.block_lt_of_cell? w _ (hcell 0 hn)
  rw [show (⟨b,off,none⟩:Addr).add 0=⟨b,off,none⟩ by simp [Addr.add]] at this
  exact this
 ·have:=hcell j hj
  rcases Nat.eq_zero_or_pos j with rfl|hj0
  ·simpa [Addr.add] using this
  ·have he:(⟨b,off,none⟩:Addr).add j=⟨b,off+j,none⟩:=by simp [Addr.add,Nat.pos_iff_ne_zero.1 hj0]
   rwa [he] at this
theorem C_max {w:World} {A:Option Addr} {xs:List Int} (h:(Kd.int .i64).C w A xs.length xs):xs.length≤9223372036854775807:=h.2.1
def noNode (k:Int):Bool:=!(decide (0≤k) && decide (k < 10))
theorem node_eq (k:Int):threshold_node.f k=some (!noNode k):=by
 unfold threshold_node.f noNode
 by_cases h:k ≥ 0
 ·rw [if_pos h];simp [h]
 ·rw [if_neg h];simp [h]
def containsFunc_level.f (a0:List Int):Option Bool:=some (a0.any noNode)
theorem level1_calls (k:Int) (W:World):Calls Try.prog 146 #[.int .i64 k] W fun e w'=>e=.returned (.bool (noNode k))∧∃ q,w'=W.drewN q:=by
 go_enter Try.func146,Try.ntmps146
 go_wp2_with (go_at_call 95;(with_reducible refine (threshold_node.calls k (!noNode k) _ (node_eq k)).mono ?_);rintro e w' ⟨rfl,⟨nd,rfl⟩⟩)
 go_ret
 exact ⟨by simp,_,rfl⟩
theorem containsFunc_level.calls (A0:Option Addr) (c0:Nat) (l0:List Int) (r:Bool) (w:World) (hr0:Kd.C (Kd.int .i64) w A0 l0.length l0) (hc0:l0.length≤c0) (h:containsFunc_level.f l0=some r):Calls Try.prog 99 #[.slice A0 l0.length c0,.func (.func 146) #[] #[]] w fun e w'=>e=.returned (.bool r)∧Drawn0 w w':=by
 obtain rfl:=Option.some.inj h
 rcases Nat.eq_zero_or_pos l0.length with h0|h0
 ·obtain rfl:=List.eq_nil_of_length_eq_zero h0
  refine (Try.slices_ContainsFunc_empty (α:=Int) A0 c0 _ w).mono ?_
  rintro e w' ⟨rfl,rfl⟩
  exact ⟨rfl,Drawn0.refl _⟩
 ·obtain ⟨b,off,rfl,_,hc⟩:=C_ints hr0 h0
  refine (Try.slices_ContainsFunc (Value.int .i64) noNode 146 #[] (enters_of Try.func146 (by kernel_rfl) rfl) b off l0.length c0 l0 w (fun W x _=>level1_calls x W) (Nat.le_refl _) (C_max hr0) hc).mono ?_
  rintro e w' ⟨rfl,hq⟩
  rw [List.take_length]
  exact ⟨rfl,⟨hq⟩⟩
end Go.Proofs.Ytkjlcbfjllpcnaa.X
namespace Go.Proofs.Ytkjlcbfjllpcnaa.X
open Go.RowKit Go.Proofs.YtkjlcbfjllpcnaaW.PrintWords Go.Proofs.YtkjlcbfjllpcnaaW.PrintLast Go.Proofs.YtkjlcbfjllpcnaaW.PrintMore
attribute [local go_sem] max2_int min2_int max_two min_two max_three min_three max_four min_four
set_option linter.unusedVariables false
set_option linter.unusedSimpArgs false
mutual
def threshold_level.j0:Nat→Bool→Int→List Int→List (S32)→Option (Int)
 | 0,_,_,_,_=>none
 | k+1,x22,x267000,x267001,x267002=>if x22=true then (some 4) else ((containsFunc_level.f x267001).bind fun t267=>(if t267=true then (some 5) else ((nodeset_Of.f k x267001).bind fun bt268=>(if bt268.2=0 then (threshold_level.l0 k x267002 (x267002.length:Int) 0) else (some bt268.2)))))
def threshold_level.l0:Nat→List (S32)→Int→Int→Option (Int)
 | 0,_,_,_=>none
 | k+1,x36,x37,x38=>if x38 < x37 then (if 0≤x38 then (if x38 < (x36.length:Int) then ((threshold_level.f k ((rd_T32 x36 x38).f0) ((rd_T32 x36 x38).f1) ((rd_T32 x36 x38).f2)).bind fun t272=>(if t272=0 then (threshold_level.l0 k x36 x37 (wrap64 (x38+1))) else (some t272))) else (none)) else (none)) else (some 0)
def threshold_level.f:Nat→Int→List Int→List (S32)→Option (Int)
 | 0,_,_,_=>none
 | k+1,a0_0,l0_1,l0_2=>if a0_0 < 1 then (threshold_level.j0 k true a0_0 l0_1 l0_2) else (threshold_level.j0 k (decide (a0_0 > (wrap64 ((l0_1.length:Int)+(l0_2.length:Int))))) a0_0 l0_1 l0_2)
end
set_option maxHeartbeats 8000000 in
set_option maxRecDepth 100000 in
theorem threshold_level.calls (k:Nat):∀ (a0_0:Int) (A0_1:Option Addr) (c0_1:Nat) (l0_1:List Int) (A0_2:Option Addr) (c0_2:Nat) (l0_2:List (S32)) (r:Int) (w:World) (hr0_1:Kd.C (Kd.int .i64) w A0_1 l0_1.length l0_1) (hc0_1:l0_1.length≤c0_1) (hr0_2:Kd.C k32 w A0_2 l0_2.length l0_2) (hc0_2:l0_2.length≤c0_2) (h:threshold_level.f k a0_0 l0_1 l0_2=some r),
  Calls Try.prog 128 #[.agg #[.int .i64 a0_0,.slice A0_1 l0_1.length c0_1,.slice A0_2 l0_2.length c0_2]] w fun e w'=>e=.returned (.int .i64 r)∧Below w.heap.size w w':=by
 induction k using Nat.strongRecOn with
 | _ k ih =>
 intro a0_0 A0_1 c0_1 l0_1 A0_2 c0_2 l0_2 r w hr0_1 hc0_1 hr0_2 hc0_2 h
 cases k with
 | zero=>exact absurd h (by simp [threshold_level.f])
 | succ k =>
 simp only [threshold_level.f] at h
 have hu32:=Try.underlying32
 have HR0_1:=Z hr0_1
 have HC0_1:=Z hc0_1
 clear hr0_1 hc0_1
 have HR0_2:=Z hr0_2
 have HC0_2:=Z hc0_2
 clear hr0_2 hc0_2
 have HB:=Z (Below.refl w.heap.size w)
 have H:(if a0_0 < 1 then (threshold_level.j0 k true a0_0 l0_1 l0_2) else (threshold_level.j0 k (decide (a0_0 > (wrap64 ((l0_1.length:Int)+(l0_2.length:Int))))) a0_0 l0_1 l0_2))=some r:=h
 clear h
 have HC2:=Z H
 clear H
 go_enter Try.func128,Try.ntmps128
 go_upto_region 1 with (first|((with_reducible refine gate_dst (N:=1) rfl ?_);(try (refine gate_guard (by rfl) ?_;dsimp only));refine box_event ?hg (N:=1) ?hd (cs:=#[.int .i64 a0_0,.slice A0_1 l0_1.length c0_1,.slice A0_2 l0_2.length c0_2]) (t:=32) ?hr ?_;(case hd=>rfl);(case hg=>rfl);(case hr=>first|(go_simp;done)|(go_simp;rfl));intro gb266 hg w3 hbox hb;have n0_:=Z (below_step pB hb);have n1_:=Z (hbox);have n2_:=Z ((pT hg:w.heap.size≤gb266));have n3_:=Z ((pT hg:w.heap.size≤gb266));clear HB;have HB:=n0_;have BK266:=n1_;have GW266:=n2_;have GE266:=n3_;clear n0_ n1_ n2_ n3_;clear hb hbox hg))
 (try simp only [Act.put,List.setIfInBounds_toArray,List.set_cons_zero,List.set_cons_succ])
 go_cut [22] (fun v22 wc=>∃ (kq:Nat) (x22_1:Bool),v22=.bool x22_1∧Aside0 (threshold_level.j0 kq x22_1 a0_0 l0_1 l0_2=some r)∧Aside0 (kq≤k)∧Aside0 (wc.heap[gb266]?=some (.cells #[.int .i64 a0_0,(.slice A0_1 l0_1.length c0_1),(.slice A0_2 l0_2.length c0_2)] 32 (0,0)))∧Aside0 (Below w.heap.size w wc))
 case first =>
  have H:=HC2.out
  clear HC2
  by_cases c4:a0_0 < 1
  ·rw [if_pos c4] at H
   have c4b0:decide (a0_0 < 1)=true:=decide_eq_true c4
   clear c4
   (first|rw [c4b0]|(simp only [i64_w,i32_w];rw [c4b0])|skip)
   have H':=Z H
   clear H
   have hcz5_0:w3.cell? ⟨gb266,0,none⟩=some (.int .i64 a0_0):=(kC BK266.out 0).trans rfl
   have hcz5_1:w3.cell? ⟨gb266,1,none⟩=some (.slice A0_1 l0_1.length c0_1):=(kC BK266.out 1).trans rfl
   have hcz5_2:w3.cell? ⟨gb266,2,none⟩=some (.slice A0_2 l0_2.length c0_2):=(kC BK266.out 2).trans rfl
   have hfz5_0:=kF BK266.out 0
   have hfz5_1:=kF BK266.out 1
   have hfz5_2:=kF BK266.out 2
   go_wp2
   go_meet
   case rel=>exact ⟨_,(true),pE,H',⟨by first|omega|exact Nat.le_refl _⟩,⟨pK BK266⟩,⟨pB⟩⟩
  ·rw [if_neg c4] at H
   have c4b0:decide (a0_0 < 1)=false:=decide_eq_false c4
   clear c4
   (first|rw [c4b0]|(simp only [i64_w,i32_w];rw [c4b0])|skip)
   have H':=Z H
   clear H
   have hcz6_0:w3.cell? ⟨gb266,0,none⟩=some (.int .i64 a0_0):=(kC BK266.out 0).trans rfl
   have hcz6_1:w3.cell? ⟨gb266,1,none⟩=some (.slice A0_1 l0_1.length c0_1):=(kC BK266.out 1).trans rfl
   have hcz6_2:w3.cell? ⟨gb266,2,none⟩=some (.slice A0_2 l0_2.length c0_2):=(kC BK266.out 2).trans rfl
   have hfz6_0:=kF BK266.out 0
   have hfz6_1:=kF BK266.out 1
   have hfz6_2:=kF BK266.out 2
   go_wp2
   go_meet
   case rel=>exact ⟨_,(decide (a0_0 > (wrap64 ((l0_1.length:Int)+(l0_2.length:Int))))),pE,H',⟨by first|omega|exact Nat.le_refl _⟩,⟨pK BK266⟩,⟨pB⟩⟩
 case rest =>
  clear HC2
  try clear c1
  try clear p2
  try clear c4
  try clear c4b0
  try clear p6
  try clear hcz5_0
  try clear hcz5_1
  try clear hcz5_2
  try clear hcz6_0
  try clear hcz6_1
  try clear hcz6_2
  try clear hfz5_0
  try clear hfz5_1
  try clear hfz5_2
  try clear hfz6_0
  try clear hfz6_1
  try clear hfz6_2
  obtain ⟨kq,x22_1,rfl,HA,HJ1,BK266,HB⟩:=hcut
  cases kq with
  | zero=>exact absurd HA.out (by simp [threshold_level.j0])
  | succ kj1 =>
   have H:=HA.out
   clear HA
   simp only [threshold_level.j0] at H
   by_cases c7:x22_1=true
   ·subst c7
    rw [if_pos rfl] at H
    obtain rfl:=Option.some.inj H
    go_wp2
    go_ret
    exact ⟨pF,pB⟩
   ·replace c7:=Bool.eq_false_iff.mpr c7
    subst c7
    rw [if_neg (show ¬ (false=true) by decide)] at H
    replace H:=Option.bind_eq_some_iff.mp H
    obtain ⟨t267,A80,H⟩:=H
    try dsimp only at H
    have A8:=Z A80
    clear A80
    by_cases c9:t267=true
    ·subst c9
     rw [if_pos rfl] at H
     obtain rfl:=Option.some.inj H
     have hcz10_0:wc.cell? ⟨gb266,0,none⟩=some (.int .i64 a0_0):=(kC BK266.out 0).trans rfl
     have hcz10_1:wc.cell? ⟨gb266,1,none⟩=some (.slice A0_1 l0_1.length c0_1):=(kC BK266.out 1).trans rfl
     have hcz10_2:wc.cell? ⟨gb266,2,none⟩=some (.slice A0_2 l0_2.length c0_2):=(kC BK266.out 2).trans rfl
     have hfz10_0:=kF BK266.out 0
     have hfz10_1:=kF BK266.out 1
     have hfz10_2:=kF BK266.out 2
     go_wp2_with (first|((with_reducible refine gate_callee (f:=99) rfl ?_);refine goesL_ (some 25) rfl rfl Try.func99 (by kernel_rfl) rfl #[.slice A0_1 l0_1.length c0_1,.func (.func 146) #[] #[]] rfl pG ?_;(with_reducible refine (containsFunc_level.calls _ _ l0_1 true _ ?side1 ?side2 A8.out).mono ?_);(case side1=>repeat (first|exact (Kd.C_below HR0_1.out HB.out)|(with_reducible refine Kd.C_alloc ?_ _)|(with_reducible refine Kd.C_drewN ?_ _)|(with_reducible refine Kd.C_drew ?_)));(case side2=>exact HC0_1.out);rintro e w' ⟨rfl,⟨nd,rfl⟩⟩;refine ⟨_,rfl,?_⟩))
     go_ret
     exact ⟨pF,pB⟩
    ·replace c9:=Bool.eq_false_iff.mpr c9
     subst c9
     rw [if_neg (show ¬ (false=true) by decide)] at H
     replace H:=Option.bind_eq_some_iff.mp H
     obtain ⟨⟨t268,t269⟩,A110,H⟩:=H
     try dsimp only at H
     have A11:=Z A110
     clear A110
     by_cases c12:t269=0
     ·rw [if_pos c12] at H
      have c12b0:(t269 == 0)=true:=beq_iff_eq.mpr c12
      have c12b1:(t269 != 0)=false:=bne_eq_false_iff_eq.mpr c12
      clear c12
      have H':=Z H
      clear H
      have hcz13_0:wc.cell? ⟨gb266,0,none⟩=some (.int .i64 a0_0):=(kC BK266.out 0).trans rfl
      have hcz13_1:wc.cell? ⟨gb266,1,none⟩=some (.slice A0_1 l0_1.length c0_1):=(kC BK266.out 1).trans rfl
      have hcz13_2:wc.cell? ⟨gb266,2,none⟩=some (.slice A0_2 l0_2.length c0_2):=(kC BK266.out 2).trans rfl
      have hfz13_0:=kF BK266.out 0
      have hfz13_1:=kF BK266.out 1
      have hfz13_2:=kF BK266.out 2
      go_wp2_with (first|((with_reducible refine gate_callee (f:=99) rfl ?_);refine goesL_ (some 25) rfl rfl Try.func99 (by kernel_rfl) rfl #[.slice A0_1 l0_1.length c0_1,.func (.func 146) #[] #[]] rfl pG ?_;(with_reducible refine (containsFunc_level.calls _ _ l0_1 false _ ?side1 ?side2 A8.out).mono ?_);(case side1=>repeat (first|exact (Kd.C_below HR0_1.out HB.out)|(with_reducible refine Kd.C_alloc ?_ _)|(with_reducible refine Kd.C_drewN ?_ _)|(with_reducible refine Kd.C_drew ?_)));(case side2=>exact HC0_1.out);rintro e w' ⟨rfl,⟨nd,rfl⟩⟩;refine ⟨_,rfl,?_⟩)|((with_reducible refine gate_callee (f:=147) rfl ?_);refine goesL_ (some 29) rfl rfl Try.func147 (by kernel_rfl) rfl #[.slice A0_1 l0_1.length c0_1] rfl pG ?_;(with_reducible refine (nodeset_Of.calls kj1 _ _ l0_1 t268 t269 _ ?side1 ?side2 A11.out).mono ?_);(case side1=>exact pC HR0_1);(case side2=>exact HC0_1.out);rintro e w' ⟨rfl,⟨nd,rfl⟩⟩;refine ⟨_,rfl,?_⟩))
      go_loopg [38] kj1 (fun kq v38 w'=>∃ (x38_2:Int),v38=.int .i64 x38_2∧Aside0 (threshold_level.l0 kq l0_2 (l0_2.length:Int) x38_2=some r)∧Aside0 (kq≤kj1)∧Aside0 (w'.heap[gb266]?=some (.cells #[.int .i64 a0_0,(.slice A0_1 l0_1.length c0_1),(.slice A0_2 l0_2.length c0_2)] 32 (0,0)))∧Aside0 (Below w.heap.size w w'))
      case atStart=>exact ⟨(0),pE,H',⟨Nat.le_refl _⟩,⟨pK BK266⟩,⟨pB⟩⟩
      case round =>
       clear H'
       try clear c1
       try clear p2
       try clear c4
       try clear c4b0
       try clear p6
       try clear c7
       try clear c9
       try clear c12
       try clear c12b0
       try clear c12b1
       try clear hcz10_0
       try clear hcz10_1
       try clear hcz10_2
       try clear hcz13_0
       try clear hcz13_1
       try clear hcz13_2
       try clear hcz5_0
       try clear hcz5_1
       try clear hcz5_2
       try clear hcz6_0
       try clear hcz6_1
       try clear hcz6_2
       try clear hfz10_0
       try clear hfz10_1
       try clear hfz10_2
       try clear hfz13_0
       try clear hfz13_1
       try clear hfz13_2
       try clear hfz5_0
       try clear hfz5_1
       try clear hfz5_2
       try clear hfz6_0
       try clear hfz6_1
       try clear hfz6_2
       obtain ⟨x38_2,rfl,HA,HK2,BK266,HB⟩:=hrel
       cases gk with
       | zero=>exact absurd HA.out (by simp [threshold_level.l0])
       | succ k2 =>
        have H:=HA.out
        clear HA
        simp only [threshold_level.l0] at H
        by_cases c14:x38_2 < (l0_2.length:Int)
        ·rw [if_pos c14] at H
         have c14b0:decide (x38_2 < (l0_2.length:Int))=true:=decide_eq_true c14
         clear c14
         by_cases c15:0≤x38_2
         ·rw [if_pos c15] at H
          have c15b0:decide (0≤x38_2)=true:=decide_eq_true c15
          clear c15
          by_cases c16:x38_2 < (l0_2.length:Int)
          ·rw [if_pos c16] at H
           have c16b0:decide (x38_2 < (l0_2.length:Int))=true:=decide_eq_true c16
           clear c16
           replace H:=Option.bind_eq_some_iff.mp H
           obtain ⟨t272,A170,H⟩:=H
           try dsimp only at H
           have A17:=Z A170
           clear A170
           by_cases c18:t272=0
           ·rw [if_pos c18] at H
            have c18b0:(t272 == 0)=true:=beq_iff_eq.mpr c18
            have c18b1:(t272 != 0)=false:=bne_eq_false_iff_eq.mpr c18
            clear c18
            have H':=Z H
            clear H
            have p270:0≤(x38_2:Int):=of_decide_eq_true (by first|(with_reducible assumption)|assumption)
            have q270:x38_2 < (l0_2.length:Int):=of_decide_eq_true (by first|(with_reducible assumption)|assumption)
            obtain ⟨ad270,A270_1,c270_1,A270_2,c270_2,e270,hx270_0,hx270_1,hx270_2,hl270_1,hi270_1,hl270_2,hi270_2⟩:=at_T32 HR0_2.out x38_2 p270 q270
            cases e270
            replace hx270_0:=(HB.out.cell (World.block_lt_of_cell? w _ hx270_0)).trans hx270_0
            replace hx270_1:=(HB.out.cell (World.block_lt_of_cell? w _ hx270_1)).trans hx270_1
            replace hx270_2:=(HB.out.cell (World.block_lt_of_cell? w _ hx270_2)).trans hx270_2
            have HR270_1:=Z hi270_1
            have HC270_1:=Z hl270_1
            clear hi270_1 hl270_1
            have HR270_2:=Z hi270_2
            have HC270_2:=Z hl270_2
            clear hi270_2 hl270_2
            replace p270:=eq_true p270
            replace q270:=eq_true q270
            go_wp2_with (first|((with_reducible refine gate_dst (N:=6) rfl ?_);(try (refine gate_guard (by rfl) ?_;dsimp only));refine box_event ?hg (N:=6) ?hd (cs:=#[.int .i64 0,.slice none 0 0,.slice none 0 0]) (t:=32) ?hr ?_;(case hd=>rfl);(case hg=>rfl);(case hr=>first|(go_simp;done)|(go_simp;rfl));intro gb271 hg w19 hbox hb;have n0_:=Z (blk_below (g:=gb266) (o:=.cells #[.int .i64 a0_0,.slice A0_1 l0_1.length c0_1,.slice (some ad270) l0_2.length c0_2] 32 (0,0)) (pK BK266) hb);have n1_:=Z (below_step pB hb);have n2_:=Z (hbox);have n3_:=Z ((pT hg:w.heap.size≤gb271));have n4_:=Z ((pT hg:w.heap.size≤gb271));have n5_:=Z ((pL hg (pK BK266):gb266 ≠ gb271));have n6_:=Z ((pM hg (pK BK266):gb271 ≠ gb266));clear BK266;clear HB;have BK266:=n0_;have HB:=n1_;have BK271:=n2_;have GW271:=n3_;have GE271:=n4_;have NB266_271:=n5_;have NB271_266:=n6_;clear n0_ n1_ n2_ n3_ n4_ n5_ n6_;clear hb hbox hg;have hnb20:=NB271_266.out;have hnc20:=NB266_271.out;have hcz21_0:w19.cell? ⟨gb271,0,none⟩=some (.int .i64 0):=(kC BK271.out 0).trans rfl;have hcz21_1:w19.cell? ⟨gb271,1,none⟩=some (.slice none 0 0):=(kC BK271.out 1).trans rfl;have hcz21_2:w19.cell? ⟨gb271,2,none⟩=some (.slice none 0 0):=(kC BK271.out 2).trans rfl;have hfz21_0:=kF BK271.out 0;have hfz21_1:=kF BK271.out 1;have hfz21_2:=kF BK271.out 2)|((with_reducible refine gate_callee (f:=128) rfl ?_);refine goesL_ (some 43) rfl rfl Try.func128 (by kernel_rfl) rfl #[.agg #[.int .i64 ((rd_T32 l0_2 x38_2).f0),.slice A270_1 ((rd_T32 l0_2 x38_2).f1).length c270_1,.slice A270_2 ((rd_T32 l0_2 x38_2).f2).length c270_2]] rfl pG ?_;(with_reducible refine (ih k2 (by have:=HJ1.out;have:=HK2.out;omega) ((rd_T32 l0_2 x38_2).f0) _ _ ((rd_T32 l0_2 x38_2).f1) _ _ ((rd_T32 l0_2 x38_2).f2) t272 _ ?side1 ?side2 ?side3 ?side4 A17.out).mono ?_);(case side1=>exact Kd.C_below HR270_1.out pB);(case side2=>exact HC270_1.out);(case side3=>exact Kd.C_below HR270_2.out pB);(case side4=>exact HC270_2.out);rintro e w22 ⟨rfl,hb⟩;refine ⟨_,rfl,?_⟩;have n0_:=Z (blk_below (g:=gb266) (o:=.cells #[.int .i64 a0_0,.slice A0_1 l0_1.length c0_1,.slice (some ad270) l0_2.length c0_2] 32 (0,0)) (by (with_reducible repeat (first|refine kN ?_ _|refine kD ?_|refine kA ?_ _));refine blk_far ?_ NB266_271.out _;(with_reducible repeat (first|refine kN ?_ _|refine kD ?_|refine kA ?_ _));refine blk_far ?_ NB266_271.out _;(with_reducible repeat (first|refine kN ?_ _|refine kD ?_|refine kA ?_ _));refine blk_far ?_ NB266_271.out _;(with_reducible repeat (first|refine kN ?_ _|refine kD ?_|refine kA ?_ _));exact BK266.out) hb);have n1_:=Z (blk_below (g:=gb271) (o:=.cells #[.int .i64 ((rd_T32 l0_2 x38_2).f0),.slice A270_1 ((rd_T32 l0_2 x38_2).f1).length c270_1,.slice A270_2 ((rd_T32 l0_2 x38_2).f2).length c270_2] 32 (0,0)) (by (with_reducible repeat (first|refine kN ?_ _|refine kD ?_|refine kA ?_ _));refine blk_put (cs:=#[.int .i64 ((rd_T32 l0_2 x38_2).f0),.slice A270_1 ((rd_T32 l0_2 x38_2).f1).length c270_1,.slice none 0 0]) ?_ 2 _ rfl;(with_reducible repeat (first|refine kN ?_ _|refine kD ?_|refine kA ?_ _));refine blk_put (cs:=#[.int .i64 ((rd_T32 l0_2 x38_2).f0),.slice none 0 0,.slice none 0 0]) ?_ 1 _ rfl;(with_reducible repeat (first|refine kN ?_ _|refine kD ?_|refine kA ?_ _));refine blk_put (cs:=#[.int .i64 0,.slice none 0 0,.slice none 0 0]) ?_ 0 _ rfl;(with_reducible repeat (first|refine kN ?_ _|refine kD ?_|refine kA ?_ _));exact BK271.out) hb);have n2_:=Z (below_step pB hb);clear BK266;clear BK271;clear HB;have BK266:=n0_;have BK271:=n1_;have HB:=n2_;clear n0_ n1_ n2_;(try clear hb);(try clear hb2);(try clear hk);(try clear hi)))
            go_roundg k2
            case measure=>have:=HJ1.out;have:=HK2.out;omega
            case rel=>exact ⟨(wrap64 (x38_2+1)),pE,H',⟨by have:=HJ1.out;have:=HK2.out;omega⟩,⟨pK BK266⟩,⟨pB⟩⟩
           ·rw [if_neg c18] at H
            have c18b0:(t272 == 0)=false:=beq_eq_false_iff_ne.mpr c18
            have c18b1:(t272 != 0)=true:=bne_iff_ne.mpr c18
            obtain rfl:=Option.some.inj H
            have p270:0≤(x38_2:Int):=of_decide_eq_true (by first|(with_reducible assumption)|assumption)
            have q270:x38_2 < (l0_2.length:Int):=of_decide_eq_true (by first|(with_reducible assumption)|assumption)
            obtain ⟨ad270,A270_1,c270_1,A270_2,c270_2,e270,hx270_0,hx270_1,hx270_2,hl270_1,hi270_1,hl270_2,hi270_2⟩:=at_T32 HR0_2.out x38_2 p270 q270
            cases e270
            replace hx270_0:=(HB.out.cell (World.block_lt_of_cell? w _ hx270_0)).trans hx270_0
            replace hx270_1:=(HB.out.cell (World.block_lt_of_cell? w _ hx270_1)).trans hx270_1
            replace hx270_2:=(HB.out.cell (World.block_lt_of_cell? w _ hx270_2)).trans hx270_2
            have HR270_1:=Z hi270_1
            have HC270_1:=Z hl270_1
            clear hi270_1 hl270_1
            have HR270_2:=Z hi270_2
            have HC270_2:=Z hl270_2
            clear hi270_2 hl270_2
            replace p270:=eq_true p270
            replace q270:=eq_true q270
            go_wp2_with (first|((with_reducible refine gate_dst (N:=6) rfl ?_);(try (refine gate_guard (by rfl) ?_;dsimp only));refine box_event ?hg (N:=6) ?hd (cs:=#[.int .i64 0,.slice none 0 0,.slice none 0 0]) (t:=32) ?hr ?_;(case hd=>rfl);(case hg=>rfl);(case hr=>first|(go_simp;done)|(go_simp;rfl));intro gb271 hg w23 hbox hb;have n0_:=Z (blk_below (g:=gb266) (o:=.cells #[.int .i64 a0_0,.slice A0_1 l0_1.length c0_1,.slice (some ad270) l0_2.length c0_2] 32 (0,0)) (pK BK266) hb);have n1_:=Z (below_step pB hb);have n2_:=Z (hbox);have n3_:=Z ((pT hg:w.heap.size≤gb271));have n4_:=Z ((pT hg:w.heap.size≤gb271));have n5_:=Z ((pL hg (pK BK266):gb266 ≠ gb271));have n6_:=Z ((pM hg (pK BK266):gb271 ≠ gb266));clear BK266;clear HB;have BK266:=n0_;have HB:=n1_;have BK271:=n2_;have GW271:=n3_;have GE271:=n4_;have NB266_271:=n5_;have NB271_266:=n6_;clear n0_ n1_ n2_ n3_ n4_ n5_ n6_;clear hb hbox hg;have hnb24:=NB271_266.out;have hnc24:=NB266_271.out;have hcz25_0:w23.cell? ⟨gb271,0,none⟩=some (.int .i64 0):=(kC BK271.out 0).trans rfl;have hcz25_1:w23.cell? ⟨gb271,1,none⟩=some (.slice none 0 0):=(kC BK271.out 1).trans rfl;have hcz25_2:w23.cell? ⟨gb271,2,none⟩=some (.slice none 0 0):=(kC BK271.out 2).trans rfl;have hfz25_0:=kF BK271.out 0;have hfz25_1:=kF BK271.out 1;have hfz25_2:=kF BK271.out 2)|((with_reducible refine gate_callee (f:=128) rfl ?_);refine goesL_ (some 43) rfl rfl Try.func128 (by kernel_rfl) rfl #[.agg #[.int .i64 ((rd_T32 l0_2 x38_2).f0),.slice A270_1 ((rd_T32 l0_2 x38_2).f1).length c270_1,.slice A270_2 ((rd_T32 l0_2 x38_2).f2).length c270_2]] rfl pG ?_;(with_reducible refine (ih k2 (by have:=HJ1.out;have:=HK2.out;omega) ((rd_T32 l0_2 x38_2).f0) _ _ ((rd_T32 l0_2 x38_2).f1) _ _ ((rd_T32 l0_2 x38_2).f2) t272 _ ?side1 ?side2 ?side3 ?side4 A17.out).mono ?_);(case side1=>exact Kd.C_below HR270_1.out pB);(case side2=>exact HC270_1.out);(case side3=>exact Kd.C_below HR270_2.out pB);(case side4=>exact HC270_2.out);rintro e w26 ⟨rfl,hb⟩;refine ⟨_,rfl,?_⟩;have n0_:=Z (blk_below (g:=gb266) (o:=.cells #[.int .i64 a0_0,.slice A0_1 l0_1.length c0_1,.slice (some ad270) l0_2.length c0_2] 32 (0,0)) (by (with_reducible repeat (first|refine kN ?_ _|refine kD ?_|refine kA ?_ _));refine blk_far ?_ NB266_271.out _;(with_reducible repeat (first|refine kN ?_ _|refine kD ?_|refine kA ?_ _));refine blk_far ?_ NB266_271.out _;(with_reducible repeat (first|refine kN ?_ _|refine kD ?_|refine kA ?_ _));refine blk_far ?_ NB266_271.out _;(with_reducible repeat (first|refine kN ?_ _|refine kD ?_|refine kA ?_ _));exact BK266.out) hb);have n1_:=Z (blk_below (g:=gb271) (o:=.cells #[.int .i64 ((rd_T32 l0_2 x38_2).f0),.slice A270_1 ((rd_T32 l0_2 x38_2).f1).length c270_1,.slice A270_2 ((rd_T32 l0_2 x38_2).f2).length c270_2] 32 (0,0)) (by (with_reducible repeat (first|refine kN ?_ _|refine kD ?_|refine kA ?_ _));refine blk_put (cs:=#[.int .i64 ((rd_T32 l0_2 x38_2).f0),.slice A270_1 ((rd_T32 l0_2 x38_2).f1).length c270_1,.slice none 0 0]) ?_ 2 _ rfl;(with_reducible repeat (first|refine kN ?_ _|refine kD ?_|refine kA ?_ _));refine blk_put (cs:=#[.int .i64 ((rd_T32 l0_2 x38_2).f0),.slice none 0 0,.slice none 0 0]) ?_ 1 _ rfl;(with_reducible repeat (first|refine kN ?_ _|refine kD ?_|refine kA ?_ _));refine blk_put (cs:=#[.int .i64 0,.slice none 0 0,.slice none 0 0]) ?_ 0 _ rfl;(with_reducible repeat (first|refine kN ?_ _|refine kD ?_|refine kA ?_ _));exact BK271.out) hb);have n2_:=Z (below_step pB hb);clear BK266;clear BK271;clear HB;have BK266:=n0_;have BK271:=n1_;have HB:=n2_;clear n0_ n1_ n2_;(try clear hb);(try clear hb2);(try clear hk);(try clear hi)))
            go_ret
            exact ⟨pF,pB⟩
          ·rw [if_neg c16] at H
           exact absurd H (by simp)
         ·rw [if_neg c15] at H
          exact absurd H (by simp)
        ·rw [if_neg c14] at H
         have c14b0:decide (x38_2 < (l0_2.length:Int))=false:=decide_eq_false c14
         clear c14
         obtain rfl:=Option.some.inj H
         go_wp2
         go_ret
         exact ⟨pF,pB⟩
     ·rw [if_neg c12] at H
      have c12b0:(t269 == 0)=false:=beq_eq_false_iff_ne.mpr c12
      have c12b1:(t269 != 0)=true:=bne_iff_ne.mpr c12
      obtain rfl:=Option.some.inj H
      have hcz27_0:wc.cell? ⟨gb266,0,none⟩=some (.int .i64 a0_0):=(kC BK266.out 0).trans rfl
      have hcz27_1:wc.cell? ⟨gb266,1,none⟩=some (.slice A0_1 l0_1.length c0_1):=(kC BK266.out 1).trans rfl
      have hcz27_2:wc.cell? ⟨gb266,2,none⟩=some (.slice A0_2 l0_2.length c0_2):=(kC BK266.out 2).trans rfl
      have hfz27_0:=kF BK266.out 0
      have hfz27_1:=kF BK266.out 1
      have hfz27_2:=kF BK266.out 2
      go_wp2_with (first|((with_reducible refine gate_callee (f:=99) rfl ?_);refine goesL_ (some 25) rfl rfl Try.func99 (by kernel_rfl) rfl #[.slice A0_1 l0_1.length c0_1,.func (.func 146) #[] #[]] rfl pG ?_;(with_reducible refine (containsFunc_level.calls _ _ l0_1 false _ ?side1 ?side2 A8.out).mono ?_);(case side1=>repeat (first|exact (Kd.C_below HR0_1.out HB.out)|(with_reducible refine Kd.C_alloc ?_ _)|(with_reducible refine Kd.C_drewN ?_ _)|(with_reducible refine Kd.C_drew ?_)));(case side2=>exact HC0_1.out);rintro e w' ⟨rfl,⟨nd,rfl⟩⟩;refine ⟨_,rfl,?_⟩)|((with_reducible refine gate_callee (f:=147) rfl ?_);refine goesL_ (some 29) rfl rfl Try.func147 (by kernel_rfl) rfl #[.slice A0_1 l0_1.length c0_1] rfl pG ?_;(with_reducible refine (nodeset_Of.calls kj1 _ _ l0_1 t268 t269 _ ?side1 ?side2 A11.out).mono ?_);(case side1=>exact pC HR0_1);(case side2=>exact HC0_1.out);rintro e w' ⟨rfl,⟨nd,rfl⟩⟩;refine ⟨_,rfl,?_⟩))
      go_ret
      exact ⟨pF,pB⟩
def threshold_Valid.f (k:Nat) (a0_0:Int) (l0_1:List Int) (l0_2:List (S32)):Option (Int):=(threshold_Depth.f k a0_0 l0_1 l0_2).bind fun t274=>(if t274 > 4 then (some 3) else ((threshold_Size.f k a0_0 l0_1 l0_2).bind fun t275=>(if t275 > 200 then (some 3) else ((threshold_level.f k a0_0 l0_1 l0_2).bind fun t276=>(some t276)))))
set_option maxHeartbeats 8000000 in
set_option maxRecDepth 100000 in
theorem threshold_Valid.calls (k:Nat) (a0_0:Int) (A0_1:Option Addr) (c0_1:Nat) (l0_1:List Int) (A0_2:Option Addr) (c0_2:Nat) (l0_2:List (S32)) (r:Int) (w:World) (hr0_1:Kd.C (Kd.int .i64) w A0_1 l0_1.length l0_1) (hc0_1:l0_1.length≤c0_1) (hr0_2:Kd.C k32 w A0_2 l0_2.length l0_2) (hc0_2:l0_2.length≤c0_2) (h:threshold_Valid.f k a0_0 l0_1 l0_2=some r) :
  Calls Try.prog 111 #[.agg #[.int .i64 a0_0,.slice A0_1 l0_1.length c0_1,.slice A0_2 l0_2.length c0_2]] w fun e w'=>e=.returned (.int .i64 r)∧Below w.heap.size w w':=by
 have hu32:=Try.underlying32
 have HR0_1:=Z hr0_1
 have HC0_1:=Z hc0_1
 clear hr0_1 hc0_1
 have HR0_2:=Z hr0_2
 have HC0_2:=Z hc0_2
 clear hr0_2 hc0_2
 have HB:=Z (Below.refl w.heap.size w)
 have H:((threshold_Depth.f k a0_0 l0_1 l0_2).bind fun t274=>(if t274 > 4 then (some 3) else ((threshold_Size.f k a0_0 l0_1 l0_2).bind fun t275=>(if t275 > 200 then (some 3) else ((threshold_level.f k a0_0 l0_1 l0_2).bind fun t276=>(some t276))))))=some r:=h
 clear h
 replace H:=Option.bind_eq_some_iff.mp H
 obtain ⟨t274,A20,H⟩:=H
 try dsimp only at H
 have A2:=Z A20
 clear A20
 by_cases c3:t274 > 4
 ·rw [if_pos c3] at H
  have c3b0:decide (4 < t274)=true:=decide_eq_true c3
  clear c3
  obtain rfl:=Option.some.inj H
  go_enter Try.func111,Try.ntmps111
  go_wp2_with (first|((with_reducible refine gate_dst (N:=1) rfl ?_);refine box_event ?hg (N:=1) ?hd (cs:=#[.int .i64 a0_0,.slice A0_1 l0_1.length c0_1,.slice A0_2 l0_2.length c0_2]) (t:=32) ?hr ?_;(case hd=>rfl);(case hg=>rfl);(case hr=>first|(go_simp;done)|(go_simp;rfl));intro gb273 hg w4 hbox hb;have n0_:=Z (below_step pB hb);have n1_:=Z (hbox);have n2_:=Z ((pT hg:w.heap.size≤gb273));have n3_:=Z ((pT hg:w.heap.size≤gb273));clear HB;have HB:=n0_;have BK273:=n1_;have GW273:=n2_;have GE273:=n3_;clear n0_ n1_ n2_ n3_;clear hb hbox hg;have hcz5_0:w4.cell? ⟨gb273,0,none⟩=some (.int .i64 a0_0):=(kC BK273.out 0).trans rfl;have hcz5_1:w4.cell? ⟨gb273,1,none⟩=some (.slice A0_1 l0_1.length c0_1):=(kC BK273.out 1).trans rfl;have hcz5_2:w4.cell? ⟨gb273,2,none⟩=some (.slice A0_2 l0_2.length c0_2):=(kC BK273.out 2).trans rfl;have hfz5_0:=kF BK273.out 0;have hfz5_1:=kF BK273.out 1;have hfz5_2:=kF BK273.out 2)|((with_reducible refine gate_callee (f:=126) rfl ?_);refine goesL_ (some 4) rfl rfl Try.func126 (by kernel_rfl) rfl #[.agg #[.int .i64 a0_0,.slice A0_1 l0_1.length c0_1,.slice A0_2 l0_2.length c0_2]] rfl pG ?_;(with_reducible refine (threshold_Depth.calls k a0_0 _ _ l0_1 _ _ l0_2 t274 _ ?side1 ?side2 ?side3 ?side4 A2.out).mono ?_);(case side1=>repeat (first|exact (Kd.C_below HR0_1.out HB.out)|(with_reducible refine Kd.C_alloc ?_ _)|(with_reducible refine Kd.C_drewN ?_ _)|(with_reducible refine Kd.C_drew ?_)));(case side2=>exact HC0_1.out);(case side3=>repeat (first|exact (Kd.C_below HR0_2.out HB.out)|(with_reducible refine Kd.C_alloc ?_ _)|(with_reducible refine Kd.C_drewN ?_ _)|(with_reducible refine Kd.C_drew ?_)));(case side4=>exact HC0_2.out);rintro e w6 ⟨rfl,hb⟩;refine ⟨_,rfl,?_⟩;have n0_:=Z (blk_below (g:=gb273) (o:=.cells #[.int .i64 a0_0,.slice A0_1 l0_1.length c0_1,.slice A0_2 l0_2.length c0_2] 32 (0,0)) (pK BK273) hb);have n1_:=Z (below_step pB hb);clear BK273;clear HB;have BK273:=n0_;have HB:=n1_;clear n0_ n1_;(try clear hb);(try clear hb2);(try clear hk);(try clear hi)))
  go_ret
  exact ⟨pF,pB⟩
 ·rw [if_neg c3] at H
  have c3b0:decide (4 < t274)=false:=decide_eq_false c3
  clear c3
  replace H:=Option.bind_eq_some_iff.mp H
  obtain ⟨t275,A70,H⟩:=H
  try dsimp only at H
  have A7:=Z A70
  clear A70
  by_cases c8:t275 > 200
  ·rw [if_pos c8] at H
   have c8b0:decide (200 < t275)=true:=decide_eq_true c8
   clear c8
   obtain rfl:=Option.some.inj H
   go_enter Try.func111,Try.ntmps111
   go_wp2_with (first|((with_reducible refine gate_dst (N:=1) rfl ?_);refine box_event ?hg (N:=1) ?hd (cs:=#[.int .i64 a0_0,.slice A0_1 l0_1.length c0_1,.slice A0_2 l0_2.length c0_2]) (t:=32) ?hr ?_;(case hd=>rfl);(case hg=>rfl);(case hr=>first|(go_simp;done)|(go_simp;rfl));intro gb273 hg w9 hbox hb;have n0_:=Z (below_step pB hb);have n1_:=Z (hbox);have n2_:=Z ((pT hg:w.heap.size≤gb273));have n3_:=Z ((pT hg:w.heap.size≤gb273));clear HB;have HB:=n0_;have BK273:=n1_;have GW273:=n2_;have GE273:=n3_;clear n0_ n1_ n2_ n3_;clear hb hbox hg;have hcz10_0:w9.cell? ⟨gb273,0,none⟩=some (.int .i64 a0_0):=(kC BK273.out 0).trans rfl;have hcz10_1:w9.cell? ⟨gb273,1,none⟩=some (.slice A0_1 l0_1.length c0_1):=(kC BK273.out 1).trans rfl;have hcz10_2:w9.cell? ⟨gb273,2,none⟩=some (.slice A0_2 l0_2.length c0_2):=(kC BK273.out 2).trans rfl;have hfz10_0:=kF BK273.out 0;have hfz10_1:=kF BK273.out 1;have hfz10_2:=kF BK273.out 2)|((with_reducible refine gate_callee (f:=126) rfl ?_);refine goesL_ (some 4) rfl rfl Try.func126 (by kernel_rfl) rfl #[.agg #[.int .i64 a0_0,.slice A0_1 l0_1.length c0_1,.slice A0_2 l0_2.length c0_2]] rfl pG ?_;(with_reducible refine (threshold_Depth.calls k a0_0 _ _ l0_1 _ _ l0_2 t274 _ ?side1 ?side2 ?side3 ?side4 A2.out).mono ?_);(case side1=>repeat (first|exact (Kd.C_below HR0_1.out HB.out)|(with_reducible refine Kd.C_alloc ?_ _)|(with_reducible refine Kd.C_drewN ?_ _)|(with_reducible refine Kd.C_drew ?_)));(case side2=>exact HC0_1.out);(case side3=>repeat (first|exact (Kd.C_below HR0_2.out HB.out)|(with_reducible refine Kd.C_alloc ?_ _)|(with_reducible refine Kd.C_drewN ?_ _)|(with_reducible refine Kd.C_drew ?_)));(case side4=>exact HC0_2.out);rintro e w11 ⟨rfl,hb⟩;refine ⟨_,rfl,?_⟩;have n0_:=Z (blk_below (g:=gb273) (o:=.cells #[.int .i64 a0_0,.slice A0_1 l0_1.length c0_1,.slice A0_2 l0_2.length c0_2] 32 (0,0)) (pK BK273) hb);have n1_:=Z (below_step pB hb);clear BK273;clear HB;have BK273:=n0_;have HB:=n1_;clear n0_ n1_;(try clear hb);(try clear hb2);(try clear hk);(try clear hi);have hcz12_0:w11.cell? ⟨gb273,0,none⟩=some (.int .i64 a0_0):=(kC BK273.out 0).trans rfl;have hcz12_1:w11.cell? ⟨gb273,1,none⟩=some (.slice A0_1 l0_1.length c0_1):=(kC BK273.out 1).trans rfl;have hcz12_2:w11.cell? ⟨gb273,2,none⟩=some (.slice A0_2 l0_2.length c0_2):=(kC BK273.out 2).trans rfl;have hfz12_0:=kF BK273.out 0;have hfz12_1:=kF BK273.out 1;have hfz12_2:=kF BK273.out 2)|(go_at_call 127;(with_reducible refine (threshold_Size.calls k a0_0 _ _ l0_1 _ _ l0_2 t275 _ ?side1 ?side2 ?side3 ?side4 A7.out).mono ?_);(case side1=>repeat (first|exact (Kd.C_below HR0_1.out HB.out)|(with_reducible refine Kd.C_alloc ?_ _)|(with_reducible refine Kd.C_drewN ?_ _)|(with_reducible refine Kd.C_drew ?_)));(case side2=>exact HC0_1.out);(case side3=>repeat (first|exact (Kd.C_below HR0_2.out HB.out)|(with_reducible refine Kd.C_alloc ?_ _)|(with_reducible refine Kd.C_drewN ?_ _)|(with_reducible refine Kd.C_drew ?_)));(case side4=>exact HC0_2.out);rintro e w13 ⟨rfl,hb⟩;have n0_:=Z (blk_below (g:=gb273) (o:=.cells #[.int .i64 a0_0,.slice A0_1 l0_1.length c0_1,.slice A0_2 l0_2.length c0_2] 32 (0,0)) (pK BK273) hb);have n1_:=Z (below_step pB hb);clear BK273;clear HB;have BK273:=n0_;have HB:=n1_;clear n0_ n1_;(try clear hb);(try clear hb2);(try clear hk);(try clear hi)))
   go_ret
   exact ⟨pF,pB⟩
  ·rw [if_neg c8] at H
   have c8b0:decide (200 < t275)=false:=decide_eq_false c8
   clear c8
   replace H:=Option.bind_eq_some_iff.mp H
   obtain ⟨t276,A140,H⟩:=H
   try dsimp only at H
   have A14:=Z A140
   clear A140
   obtain rfl:=Option.some.inj H
   go_enter Try.func111,Try.ntmps111
   go_wp2_with (first|((with_reducible refine gate_dst (N:=1) rfl ?_);refine box_event ?hg (N:=1) ?hd (cs:=#[.int .i64 a0_0,.slice A0_1 l0_1.length c0_1,.slice A0_2 l0_2.length c0_2]) (t:=32) ?hr ?_;(case hd=>rfl);(case hg=>rfl);(case hr=>first|(go_simp;done)|(go_simp;rfl));intro gb273 hg w15 hbox hb;have n0_:=Z (below_step pB hb);have n1_:=Z (hbox);have n2_:=Z ((pT hg:w.heap.size≤gb273));have n3_:=Z ((pT hg:w.heap.size≤gb273));clear HB;have HB:=n0_;have BK273:=n1_;have GW273:=n2_;have GE273:=n3_;clear n0_ n1_ n2_ n3_;clear hb hbox hg;have hcz16_0:w15.cell? ⟨gb273,0,none⟩=some (.int .i64 a0_0):=(kC BK273.out 0).trans rfl;have hcz16_1:w15.cell? ⟨gb273,1,none⟩=some (.slice A0_1 l0_1.length c0_1):=(kC BK273.out 1).trans rfl;have hcz16_2:w15.cell? ⟨gb273,2,none⟩=some (.slice A0_2 l0_2.length c0_2):=(kC BK273.out 2).trans rfl;have hfz16_0:=kF BK273.out 0;have hfz16_1:=kF BK273.out 1;have hfz16_2:=kF BK273.out 2)|((with_reducible refine gate_callee (f:=126) rfl ?_);refine goesL_ (some 4) rfl rfl Try.func126 (by kernel_rfl) rfl #[.agg #[.int .i64 a0_0,.slice A0_1 l0_1.length c0_1,.slice A0_2 l0_2.length c0_2]] rfl pG ?_;(with_reducible refine (threshold_Depth.calls k a0_0 _ _ l0_1 _ _ l0_2 t274 _ ?side1 ?side2 ?side3 ?side4 A2.out).mono ?_);(case side1=>repeat (first|exact (Kd.C_below HR0_1.out HB.out)|(with_reducible refine Kd.C_alloc ?_ _)|(with_reducible refine Kd.C_drewN ?_ _)|(with_reducible refine Kd.C_drew ?_)));(case side2=>exact HC0_1.out);(case side3=>repeat (first|exact (Kd.C_below HR0_2.out HB.out)|(with_reducible refine Kd.C_alloc ?_ _)|(with_reducible refine Kd.C_drewN ?_ _)|(with_reducible refine Kd.C_drew ?_)));(case side4=>exact HC0_2.out);rintro e w17 ⟨rfl,hb⟩;refine ⟨_,rfl,?_⟩;have n0_:=Z (blk_below (g:=gb273) (o:=.cells #[.int .i64 a0_0,.slice A0_1 l0_1.length c0_1,.slice A0_2 l0_2.length c0_2] 32 (0,0)) (pK BK273) hb);have n1_:=Z (below_step pB hb);clear BK273;clear HB;have BK273:=n0_;have HB:=n1_;clear n0_ n1_;(try clear hb);(try clear hb2);(try clear hk);(try clear hi);have hcz18_0:w17.cell? ⟨gb273,0,none⟩=some (.int .i64 a0_0):=(kC BK273.out 0).trans rfl;have hcz18_1:w17.cell? ⟨gb273,1,none⟩=some (.slice A0_1 l0_1.length c0_1):=(kC BK273.out 1).trans rfl;have hcz18_2:w17.cell? ⟨gb273,2,none⟩=some (.slice A0_2 l0_2.length c0_2):=(kC BK273.out 2).trans rfl;have hfz18_0:=kF BK273.out 0;have hfz18_1:=kF BK273.out 1;have hfz18_2:=kF BK273.out 2)|(go_at_call 127;(with_reducible refine (threshold_Size.calls k a0_0 _ _ l0_1 _ _ l0_2 t275 _ ?side1 ?side2 ?side3 ?side4 A7.out).mono ?_);(case side1=>repeat (first|exact (Kd.C_below HR0_1.out HB.out)|(with_reducible refine Kd.C_alloc ?_ _)|(with_reducible refine Kd.C_drewN ?_ _)|(with_reducible refine Kd.C_drew ?_)));(case side2=>exact HC0_1.out);(case side3=>repeat (first|exact (Kd.C_below HR0_2.out HB.out)|(with_reducible refine Kd.C_alloc ?_ _)|(with_reducible refine Kd.C_drewN ?_ _)|(with_reducible refine Kd.C_drew ?_)));(case side4=>exact HC0_2.out);rintro e w19 ⟨rfl,hb⟩;have n0_:=Z (blk_below (g:=gb273) (o:=.cells #[.int .i64 a0_0,.slice A0_1 l0_1.length c0_1,.slice A0_2 l0_2.length c0_2] 32 (0,0)) (pK BK273) hb);have n1_:=Z (below_step pB hb);clear BK273;clear HB;have BK273:=n0_;have HB:=n1_;clear n0_ n1_;(try clear hb);(try clear hb2);(try clear hk);(try clear hi);have hcz20_0:w19.cell? ⟨gb273,0,none⟩=some (.int .i64 a0_0):=(kC BK273.out 0).trans rfl;have hcz20_1:w19.cell? ⟨gb273,1,none⟩=some (.slice A0_1 l0_1.length c0_1):=(kC BK273.out 1).trans rfl;have hcz20_2:w19.cell? ⟨gb273,2,none⟩=some (.slice A0_2 l0_2.length c0_2):=(kC BK273.out 2).trans rfl;have hfz20_0:=kF BK273.out 0;have hfz20_1:=kF BK273.out 1;have hfz20_2:=kF BK273.out 2)|((with_reducible refine gate_callee (f:=128) rfl ?_);refine goesL_ (some 12) rfl rfl Try.func128 (by kernel_rfl) rfl #[.agg #[.int .i64 a0_0,.slice A0_1 l0_1.length c0_1,.slice A0_2 l0_2.length c0_2]] rfl pG ?_;(with_reducible refine (threshold_level.calls k a0_0 _ _ l0_1 _ _ l0_2 t276 _ ?side1 ?side2 ?side3 ?side4 A14.out).mono ?_);(case side1=>repeat (first|exact (Kd.C_below HR0_1.out HB.out)|(with_reducible refine Kd.C_alloc ?_ _)|(with_reducible refine Kd.C_drewN ?_ _)|(with_reducible refine Kd.C_drew ?_)));(case side2=>exact HC0_1.out);(case side3=>repeat (first|exact (Kd.C_below HR0_2.out HB.out)|(with_reducible refine Kd.C_alloc ?_ _)|(with_reducible refine Kd.C_drewN ?_ _)|(with_reducible refine Kd.C_drew ?_)));(case side4=>exact HC0_2.out);rintro e w21 ⟨rfl,hb⟩;refine ⟨_,rfl,?_⟩;have n0_:=Z (blk_below (g:=gb273) (o:=.cells #[.int .i64 a0_0,.slice A0_1 l0_1.length c0_1,.slice A0_2 l0_2.length c0_2] 32 (0,0)) (pK BK273) hb);have n1_:=Z (below_step pB hb);clear BK273;clear HB;have BK273:=n0_;have HB:=n1_;clear n0_ n1_;(try clear hb);(try clear hb2);(try clear hk);(try clear hi)))
   go_ret
   exact ⟨pF,pB⟩
def configuration_member.f (k:Nat) (a0_0:Bool) (a0_1:Int) (l0_2:List Int) (l0_3:List (S32)) (a1:Int):Option (Int):=if a0_0=true then ((threshold_Valid.f k a0_1 l0_2 l0_3).bind fun t279=>(if t279=0 then ((threshold_Uses.f k a0_1 l0_2 l0_3).bind fun t280=>(if 0≤a1 then (if t280 ≥ (shl .i64 1 a1) then (some 5) else (some 0)) else (none))) else (some t279))) else ((configuration_blank.f a0_1 l0_2 l0_3).bind fun t278=>(if t278=true then (some 0) else (some 1)))
set_option maxHeartbeats 8000000 in
set_option maxRecDepth 100000 in
theorem configuration_member.calls (k:Nat) (a0_0:Bool) (a0_1:Int) (A0_2:Option Addr) (c0_2:Nat) (l0_2:List Int) (A0_3:Option Addr) (c0_3:Nat) (l0_3:List (S32)) (a1:Int) (r:Int) (w:World) (hr0_2:Kd.C (Kd.int .i64) w A0_2 l0_2.length l0_2) (hc0_2:l0_2.length≤c0_2) (hr0_3:Kd.C k32 w A0_3 l0_3.length l0_3) (hc0_3:l0_3.length≤c0_3) (h:configuration_member.f k a0_0 a0_1 l0_2 l0_3 a1=some r) :
  Calls Try.prog 92 #[.agg #[.bool a0_0,.int .i64 a0_1,.slice A0_2 l0_2.length c0_2,.slice A0_3 l0_3.length c0_3],.int .i64 a1] w fun e w'=>e=.returned (.int .i64 r)∧Below w.heap.size w w':=by
 have hu34:=Try.underlying34
 have hu32:=Try.underlying32
 have HR0_2:=Z hr0_2
 have HC0_2:=Z hc0_2
 clear hr0_2 hc0_2
 have HR0_3:=Z hr0_3
 have HC0_3:=Z hc0_3
 clear hr0_3 hc0_3
 have HB:=Z (Below.refl w.heap.size w)
 have H:(if a0_0=true then ((threshold_Valid.f k a0_1 l0_2 l0_3).bind fun t279=>(if t279=0 then ((threshold_Uses.f k a0_1 l0_2 l0_3).bind fun t280=>(if 0≤a1 then (if t280 ≥ (shl .i64 1 a1) then (some 5) else (some 0)) else (none))) else (some t279))) else ((configuration_blank.f a0_1 l0_2 l0_3).bind fun t278=>(if t278=true then (some 0) else (some 1))))=some r:=h
 clear h
 by_cases c3:a0_0=true
 ·subst c3
  rw [if_pos rfl] at H
  replace H:=Option.bind_eq_some_iff.mp H
  obtain ⟨t279,A40,H⟩:=H
  try dsimp only at H
  have A4:=Z A40
  clear A40
  by_cases c5:t279=0
  ·rw [if_pos c5] at H
   have c5b0:(t279 == 0)=true:=beq_iff_eq.mpr c5
   have c5b1:(t279 != 0)=false:=bne_eq_false_iff_eq.mpr c5
   clear c5
   replace H:=Option.bind_eq_some_iff.mp H
   obtain ⟨t280,A60,H⟩:=H
   try dsimp only at H
   have A6:=Z A60
   clear A60
   by_cases c7:0≤a1
   ·rw [if_pos c7] at H
    have c7b0:=eq_true c7
    have c7b1:decide (0≤a1)=true:=decide_eq_true c7
    clear c7
    obtain ⟨ji8,hji8⟩:∃ j_:Int,(shl .i64 1 a1)=j_:=⟨_,rfl⟩
    replace H:(if t280 ≥ (ji8) then (some 5) else (some 0))=some r:=by first|(rw [hji8] at H;exact H)|(simp only [hji8] at H ⊢;exact H)
    (try rw [hji8] at A4)
    (try rw [hji8] at A6)
    have hji8_:(IntKind.i64.wrap (1 * 2 ^ min a1.toNat 64))=ji8:=hji8
    have hji8z:a1≤64→(IntKind.i64.wrap (1 * 2 ^ a1.toNat))=ji8:=shl_small hji8
    have hji8u:(IntKind.i64.wrap (2 ^ min a1.toNat 64))=ji8:=by have h_:=hji8_;rw [Int.one_mul] at h_;exact h_
    have hji8v:a1≤64→(IntKind.i64.wrap (2 ^ a1.toNat))=ji8:=fun hle_=>by have h_:=hji8z hle_;rw [Int.one_mul] at h_;exact h_
    have hji8y:(wrap64 (1 * 2 ^ min a1.toNat 64))=ji8:=(i64_w _).symm.trans hji8_
    have hji8x:a1≤64→(wrap64 (1 * 2 ^ a1.toNat))=ji8:=fun h_=>(i64_w _).symm.trans (hji8z h_)
    by_cases c9:t280 ≥ (ji8)
    ·rw [if_pos c9] at H
     have c9b0:decide ((ji8)≤t280)=true:=decide_eq_true c9
     clear c9
     obtain rfl:=Option.some.inj H
     go_enter Try.func92,Try.ntmps92
     try go_wp2_with (first|((with_reducible refine gate_dst (N:=2) rfl ?_);refine box_event ?hg (N:=2) ?hd (cs:=#[.bool true,.int .i64 a0_1,.slice A0_2 l0_2.length c0_2,.slice A0_3 l0_3.length c0_3]) (t:=34) ?hr ?_;(case hd=>rfl);(case hg=>rfl);(case hr=>first|(go_simp;done)|(go_simp;rfl));intro gb277 hg w10 hbox hb;have n0_:=Z (below_step pB hb);have n1_:=Z (hbox);have n2_:=Z ((pT hg:w.heap.size≤gb277));have n3_:=Z ((pT hg:w.heap.size≤gb277));clear HB;have HB:=n0_;have BK277:=n1_;have GW277:=n2_;have GE277:=n3_;clear n0_ n1_ n2_ n3_;clear hb hbox hg;have hcz11_0:w10.cell? ⟨gb277,0,none⟩=some (.bool true):=(kC BK277.out 0).trans rfl;have hcz11_1:w10.cell? ⟨gb277,1,none⟩=some (.int .i64 a0_1):=(kC BK277.out 1).trans rfl;have hcz11_2:w10.cell? ⟨gb277,2,none⟩=some (.slice A0_2 l0_2.length c0_2):=(kC BK277.out 2).trans rfl;have hcz11_3:w10.cell? ⟨gb277,3,none⟩=some (.slice A0_3 l0_3.length c0_3):=(kC BK277.out 3).trans rfl;have hfz11_0:=kF BK277.out 0;have hfz11_1:=kF BK277.out 1;have hfz11_2:=kF BK277.out 2;have hfz11_3:=kF BK277.out 3)|((with_reducible refine gate_callee (f:=111) rfl ?_);refine goesL_ (some 15) rfl rfl Try.func111 (by kernel_rfl) rfl #[.agg #[.int .i64 a0_1,.slice A0_2 l0_2.length c0_2,.slice A0_3 l0_3.length c0_3]] rfl pG ?_;(with_reducible refine (threshold_Valid.calls k a0_1 _ _ l0_2 _ _ l0_3 t279 _ ?side1 ?side2 ?side3 ?side4 A4.out).mono ?_);(case side1=>repeat (first|exact (Kd.C_below HR0_2.out HB.out)|(with_reducible refine Kd.C_alloc ?_ _)|(with_reducible refine Kd.C_drewN ?_ _)|(with_reducible refine Kd.C_drew ?_)));(case side2=>exact HC0_2.out);(case side3=>repeat (first|exact (Kd.C_below HR0_3.out HB.out)|(with_reducible refine Kd.C_alloc ?_ _)|(with_reducible refine Kd.C_drewN ?_ _)|(with_reducible refine Kd.C_drew ?_)));(case side4=>exact HC0_3.out);rintro e w12 ⟨rfl,hb⟩;refine ⟨_,rfl,?_⟩;have n0_:=Z (blk_below (g:=gb277) (o:=.cells #[.bool true,.int .i64 a0_1,.slice A0_2 l0_2.length c0_2,.slice A0_3 l0_3.length c0_3] 34 (0,0)) (pK BK277) hb);have n1_:=Z (below_step pB hb);clear BK277;clear HB;have BK277:=n0_;have HB:=n1_;clear n0_ n1_;(try clear hb);(try clear hb2);(try clear hk);(try clear hi)))
     have n0_:=Z (kD BK277.out)
     have n1_:=Z (wD HB.out)
     clear BK277
     clear HB
     have BK277:=n0_
     have HB:=n1_
     clear n0_ n1_
     refine start_ (n:=6) (S:=fun w'=>w'.cell? ⟨gb277,0,none⟩=some (.bool true)∧w'.cell? ⟨gb277,1,none⟩=some (.int .i64 a0_1)∧w'.cell? ⟨gb277,2,none⟩=some (.slice A0_2 l0_2.length c0_2)∧w'.cell? ⟨gb277,3,none⟩=some (.slice A0_3 l0_3.length c0_3)) (ds:=[]) #[false,false,false,false,false,false] (by kernel_rfl) rfl rfl ⟨(kC BK277.out 0).trans rfl,(kC BK277.out 1).trans rfl,(kC BK277.out 2).trans rfl,(kC BK277.out 3).trans rfl⟩ (fun hHeld=>?_)
     generalize w12.drew=w13 at BK277 HB hHeld ⊢
     refine pure_ (i:=0) (N:=some 19) (v:=?_) (a':=?_) #[true,false,false,false,false,false] rfl rfl (by kernel_rfl) (fun _ _ _ h=>h) (Or.inl ⟨by rfl,?_⟩) ?_ ?_
     rotate_left
     ·intro w'
      go_simp
      with_reducible rfl
     rotate_left
     ·simp only [Act.put,List.setIfInBounds_toArray,List.set_cons_zero,List.set_cons_succ,i64_w,i32_w]
      rfl
     refine pure_ (i:=3) (N:=some 22) (v:=?_) (a':=?_) #[true,false,false,true,false,false] rfl rfl (by kernel_rfl) (fun _ _ _ h=>h) (Or.inl ⟨by rfl,?_⟩) ?_ ?_
     rotate_left
     ·intro w'
      go_simp
      with_reducible rfl
     rotate_left
     ·simp only [Act.put,List.setIfInBounds_toArray,List.set_cons_zero,List.set_cons_succ,i64_w,i32_w]
      rfl
     refine pure_ (i:=4) (N:=some 23) (v:=?_) (a':=?_) #[true,false,false,true,true,false] rfl rfl (by kernel_rfl) (fun _ _ _ h=>h) (Or.inl ⟨by rfl,?_⟩) ?_ ?_
     rotate_left
     ·intro w'
      go_simp
      with_reducible rfl
     rotate_left
     ·simp only [Act.put,List.setIfInBounds_toArray,List.set_cons_zero,List.set_cons_succ,i64_w,i32_w]
      rfl
     refine take_ (i:=1) (N:=some 20) (v:=?_) (a':=?_) #[true,true,false,true,true,false] rfl rfl (by kernel_rfl) (fun _ _ _ h=>h) (Or.inl ⟨by rfl,?_⟩) hHeld ?_ ?_
     rotate_left
     ·rintro w' ⟨s0,s1,s2,s3⟩
      go_simp
      with_reducible rfl
     rotate_left
     ·simp only [Act.put,List.setIfInBounds_toArray,List.set_cons_zero,List.set_cons_succ,i64_w,i32_w]
      rfl
     refine one_ (i:=2) (N:=some 21) #[true,true,true,true,true,false] rfl rfl (by kernel_rfl) (by decide) (fun K hK=>?_)
     refine goes_ Try.func65 (by kernel_rfl) rfl #[.agg #[.int .i64 a0_1,.slice A0_2 l0_2.length c0_2,.slice A0_3 l0_3.length c0_3]] (by rfl) rfl rfl pG ?_
     with_reducible refine (threshold_Uses.calls k a0_1 _ _ l0_2 _ _ l0_3 t280 _ ?side1 ?side2 ?side3 ?side4 A6.out).mono ?_
     (case side1=>repeat (first|exact (Kd.C_below HR0_2.out HB.out)|(with_reducible refine Kd.C_alloc ?_ _)|(with_reducible refine Kd.C_drewN ?_ _)|(with_reducible refine Kd.C_drew ?_)))
     (case side2=>exact HC0_2.out)
     (case side3=>repeat (first|exact (Kd.C_below HR0_3.out HB.out)|(with_reducible refine Kd.C_alloc ?_ _)|(with_reducible refine Kd.C_drewN ?_ _)|(with_reducible refine Kd.C_drew ?_)))
     (case side4=>exact HC0_3.out)
     rintro e w14 ⟨rfl,hb⟩
     refine ⟨_,rfl,?_⟩
     have n0_:=Z (blk_below (g:=gb277) (o:=.cells #[.bool true,.int .i64 a0_1,.slice A0_2 l0_2.length c0_2,.slice A0_3 l0_3.length c0_3] 34 (0,0)) (pK BK277) hb)
     have n1_:=Z (below_step pB hb)
     clear BK277
     clear HB
     have BK277:=n0_
     have HB:=n1_
     clear n0_ n1_
     (try clear hb)
     (try clear hb2)
     (try clear hk)
     (try clear hi)
     refine hK.out _ _ ⟨(kC BK277.out 0).trans rfl,(kC BK277.out 1).trans rfl,(kC BK277.out 2).trans rfl,(kC BK277.out 3).trans rfl⟩ (fun hHeld=>?_)
     clear hK K
     refine norm_ (a':=?_) ?_ ?_
     rotate_left
     ·show Act.put _ (some 21) _=_
      simp only [Act.put,List.setIfInBounds_toArray,List.set_cons_zero,List.set_cons_succ,i64_w,i32_w]
      rfl
     refine pure_ (i:=5) (N:=some 24) (v:=?_) (a':=?_) #[true,true,true,true,true,true] rfl rfl (by kernel_rfl) (fun _ _ _ h=>h) (Or.inl ⟨by rfl,?_⟩) ?_ ?_
     rotate_left
     ·intro w'
      go_simp
      with_reducible rfl
     rotate_left
     ·simp only [Act.put,List.setIfInBounds_toArray,List.set_cons_zero,List.set_cons_succ,i64_w,i32_w]
      rfl
     refine done_ (by kernel_rfl) ?_
     try go_wp2
     go_ret
     exact ⟨by first|rfl|(simp [errW_none,errW_some] <;> rfl)|(simp only [← hji8];first|rfl|(simp [errW_none,errW_some] <;> rfl))|(simp [*,errW_none,errW_some] <;> rfl),pB⟩
    ·rw [if_neg c9] at H
     have c9b0:decide ((ji8)≤t280)=false:=decide_eq_false c9
     clear c9
     obtain rfl:=Option.some.inj H
     go_enter Try.func92,Try.ntmps92
     try go_wp2_with (first|((with_reducible refine gate_dst (N:=2) rfl ?_);refine box_event ?hg (N:=2) ?hd (cs:=#[.bool true,.int .i64 a0_1,.slice A0_2 l0_2.length c0_2,.slice A0_3 l0_3.length c0_3]) (t:=34) ?hr ?_;(case hd=>rfl);(case hg=>rfl);(case hr=>first|(go_simp;done)|(go_simp;rfl));intro gb277 hg w15 hbox hb;have n0_:=Z (below_step pB hb);have n1_:=Z (hbox);have n2_:=Z ((pT hg:w.heap.size≤gb277));have n3_:=Z ((pT hg:w.heap.size≤gb277));clear HB;have HB:=n0_;have BK277:=n1_;have GW277:=n2_;have GE277:=n3_;clear n0_ n1_ n2_ n3_;clear hb hbox hg;have hcz16_0:w15.cell? ⟨gb277,0,none⟩=some (.bool true):=(kC BK277.out 0).trans rfl;have hcz16_1:w15.cell? ⟨gb277,1,none⟩=some (.int .i64 a0_1):=(kC BK277.out 1).trans rfl;have hcz16_2:w15.cell? ⟨gb277,2,none⟩=some (.slice A0_2 l0_2.length c0_2):=(kC BK277.out 2).trans rfl;have hcz16_3:w15.cell? ⟨gb277,3,none⟩=some (.slice A0_3 l0_3.length c0_3):=(kC BK277.out 3).trans rfl;have hfz16_0:=kF BK277.out 0;have hfz16_1:=kF BK277.out 1;have hfz16_2:=kF BK277.out 2;have hfz16_3:=kF BK277.out 3)|((with_reducible refine gate_callee (f:=111) rfl ?_);refine goesL_ (some 15) rfl rfl Try.func111 (by kernel_rfl) rfl #[.agg #[.int .i64 a0_1,.slice A0_2 l0_2.length c0_2,.slice A0_3 l0_3.length c0_3]] rfl pG ?_;(with_reducible refine (threshold_Valid.calls k a0_1 _ _ l0_2 _ _ l0_3 t279 _ ?side1 ?side2 ?side3 ?side4 A4.out).mono ?_);(case side1=>repeat (first|exact (Kd.C_below HR0_2.out HB.out)|(with_reducible refine Kd.C_alloc ?_ _)|(with_reducible refine Kd.C_drewN ?_ _)|(with_reducible refine Kd.C_drew ?_)));(case side2=>exact HC0_2.out);(case side3=>repeat (first|exact (Kd.C_below HR0_3.out HB.out)|(with_reducible refine Kd.C_alloc ?_ _)|(with_reducible refine Kd.C_drewN ?_ _)|(with_reducible refine Kd.C_drew ?_)));(case side4=>exact HC0_3.out);rintro e w17 ⟨rfl,hb⟩;refine ⟨_,rfl,?_⟩;have n0_:=Z (blk_below (g:=gb277) (o:=.cells #[.bool true,.int .i64 a0_1,.slice A0_2 l0_2.length c0_2,.slice A0_3 l0_3.length c0_3] 34 (0,0)) (pK BK277) hb);have n1_:=Z (below_step pB hb);clear BK277;clear HB;have BK277:=n0_;have HB:=n1_;clear n0_ n1_;(try clear hb);(try clear hb2);(try clear hk);(try clear hi)))
     have n0_:=Z (kD BK277.out)
     have n1_:=Z (wD HB.out)
     clear BK277
     clear HB
     have BK277:=n0_
     have HB:=n1_
     clear n0_ n1_
     refine start_ (n:=6) (S:=fun w'=>w'.cell? ⟨gb277,0,none⟩=some (.bool true)∧w'.cell? ⟨gb277,1,none⟩=some (.int .i64 a0_1)∧w'.cell? ⟨gb277,2,none⟩=some (.slice A0_2 l0_2.length c0_2)∧w'.cell? ⟨gb277,3,none⟩=some (.slice A0_3 l0_3.length c0_3)) (ds:=[]) #[false,false,false,false,false,false] (by kernel_rfl) rfl rfl ⟨(kC BK277.out 0).trans rfl,(kC BK277.out 1).trans rfl,(kC BK277.out 2).trans rfl,(kC BK277.out 3).trans rfl⟩ (fun hHeld=>?_)
     generalize w17.drew=w18 at BK277 HB hHeld ⊢
     refine pure_ (i:=0) (N:=some 19) (v:=?_) (a':=?_) #[true,false,false,false,false,false] rfl rfl (by kernel_rfl) (fun _ _ _ h=>h) (Or.inl ⟨by rfl,?_⟩) ?_ ?_
     rotate_left
     ·intro w'
      go_simp
      with_reducible rfl
     rotate_left
     ·simp only [Act.put,List.setIfInBounds_toArray,List.set_cons_zero,List.set_cons_succ,i64_w,i32_w]
      rfl
     refine pure_ (i:=3) (N:=some 22) (v:=?_) (a':=?_) #[true,false,false,true,false,false] rfl rfl (by kernel_rfl) (fun _ _ _ h=>h) (Or.inl ⟨by rfl,?_⟩) ?_ ?_
     rotate_left
     ·intro w'
      go_simp
      with_reducible rfl
     rotate_left
     ·simp only [Act.put,List.setIfInBounds_toArray,List.set_cons_zero,List.set_cons_succ,i64_w,i32_w]
      rfl
     refine pure_ (i:=4) (N:=some 23) (v:=?_) (a':=?_) #[true,false,false,true,true,false] rfl rfl (by kernel_rfl) (fun _ _ _ h=>h) (Or.inl ⟨by rfl,?_⟩) ?_ ?_
     rotate_left
     ·intro w'
      go_simp
      with_reducible rfl
     rotate_left
     ·simp only [Act.put,List.setIfInBounds_toArray,List.set_cons_zero,List.set_cons_succ,i64_w,i32_w]
      rfl
     refine take_ (i:=1) (N:=some 20) (v:=?_) (a':=?_) #[true,true,false,true,true,false] rfl rfl (by kernel_rfl) (fun _ _ _ h=>h) (Or.inl ⟨by rfl,?_⟩) hHeld ?_ ?_
     rotate_left
     ·rintro w' ⟨s0,s1,s2,s3⟩
      go_simp
      with_reducible rfl
     rotate_left
     ·simp only [Act.put,List.setIfInBounds_toArray,List.set_cons_zero,List.set_cons_succ,i64_w,i32_w]
      rfl
     refine one_ (i:=2) (N:=some 21) #[true,true,true,true,true,false] rfl rfl (by kernel_rfl) (by decide) (fun K hK=>?_)
     refine goes_ Try.func65 (by kernel_rfl) rfl #[.agg #[.int .i64 a0_1,.slice A0_2 l0_2.length c0_2,.slice A0_3 l0_3.length c0_3]] (by rfl) rfl rfl pG ?_
     with_reducible refine (threshold_Uses.calls k a0_1 _ _ l0_2 _ _ l0_3 t280 _ ?side1 ?side2 ?side3 ?side4 A6.out).mono ?_
     (case side1=>repeat (first|exact (Kd.C_below HR0_2.out HB.out)|(with_reducible refine Kd.C_alloc ?_ _)|(with_reducible refine Kd.C_drewN ?_ _)|(with_reducible refine Kd.C_drew ?_)))
     (case side2=>exact HC0_2.out)
     (case side3=>repeat (first|exact (Kd.C_below HR0_3.out HB.out)|(with_reducible refine Kd.C_alloc ?_ _)|(with_reducible refine Kd.C_drewN ?_ _)|(with_reducible refine Kd.C_drew ?_)))
     (case side4=>exact HC0_3.out)
     rintro e w19 ⟨rfl,hb⟩
     refine ⟨_,rfl,?_⟩
     have n0_:=Z (blk_below (g:=gb277) (o:=.cells #[.bool true,.int .i64 a0_1,.slice A0_2 l0_2.length c0_2,.slice A0_3 l0_3.length c0_3] 34 (0,0)) (pK BK277) hb)
     have n1_:=Z (below_step pB hb)
     clear BK277
     clear HB
     have BK277:=n0_
     have HB:=n1_
     clear n0_ n1_
     (try clear hb)
     (try clear hb2)
     (try clear hk)
     (try clear hi)
     refine hK.out _ _ ⟨(kC BK277.out 0).trans rfl,(kC BK277.out 1).trans rfl,(kC BK277.out 2).trans rfl,(kC BK277.out 3).trans rfl⟩ (fun hHeld=>?_)
     clear hK K
     refine norm_ (a':=?_) ?_ ?_
     rotate_left
     ·show Act.put _ (some 21) _=_
      simp only [Act.put,List.setIfInBounds_toArray,List.set_cons_zero,List.set_cons_succ,i64_w,i32_w]
      rfl
     refine pure_ (i:=5) (N:=some 24) (v:=?_) (a':=?_) #[true,true,true,true,true,true] rfl rfl (by kernel_rfl) (fun _ _ _ h=>h) (Or.inl ⟨by rfl,?_⟩) ?_ ?_
     rotate_left
     ·intro w'
      go_simp
      with_reducible rfl
     rotate_left
     ·simp only [Act.put,List.setIfInBounds_toArray,List.set_cons_zero,List.set_cons_succ,i64_w,i32_w]
      rfl
     refine done_ (by kernel_rfl) ?_
     try go_wp2
     go_ret
     exact ⟨by first|rfl|(simp [errW_none,errW_some] <;> rfl)|(simp only [← hji8];first|rfl|(simp [errW_none,errW_some] <;> rfl))|(simp [*,errW_none,errW_some] <;> rfl),pB⟩
   ·rw [if_neg c7] at H
    exact absurd H (by simp)
  ·rw [if_neg c5] at H
   have c5b0:(t279 == 0)=false:=beq_eq_false_iff_ne.mpr c5
   have c5b1:(t279 != 0)=true:=bne_iff_ne.mpr c5
   obtain rfl:=Option.some.inj H
   go_enter Try.func92,Try.ntmps92
   go_wp2_with (first|((with_reducible refine gate_dst (N:=2) rfl ?_);refine box_event ?hg (N:=2) ?hd (cs:=#[.bool true,.int .i64 a0_1,.slice A0_2 l0_2.length c0_2,.slice A0_3 l0_3.length c0_3]) (t:=34) ?hr ?_;(case hd=>rfl);(case hg=>rfl);(case hr=>first|(go_simp;done)|(go_simp;rfl));intro gb277 hg w20 hbox hb;have n0_:=Z (below_step pB hb);have n1_:=Z (hbox);have n2_:=Z ((pT hg:w.heap.size≤gb277));have n3_:=Z ((pT hg:w.heap.size≤gb277));clear HB;have HB:=n0_;have BK277:=n1_;have GW277:=n2_;have GE277:=n3_;clear n0_ n1_ n2_ n3_;clear hb hbox hg;have hcz21_0:w20.cell? ⟨gb277,0,none⟩=some (.bool true):=(kC BK277.out 0).trans rfl;have hcz21_1:w20.cell? ⟨gb277,1,none⟩=some (.int .i64 a0_1):=(kC BK277.out 1).trans rfl;have hcz21_2:w20.cell? ⟨gb277,2,none⟩=some (.slice A0_2 l0_2.length c0_2):=(kC BK277.out 2).trans rfl;have hcz21_3:w20.cell? ⟨gb277,3,none⟩=some (.slice A0_3 l0_3.length c0_3):=(kC BK277.out 3).trans rfl;have hfz21_0:=kF BK277.out 0;have hfz21_1:=kF BK277.out 1;have hfz21_2:=kF BK277.out 2;have hfz21_3:=kF BK277.out 3)|((with_reducible refine gate_callee (f:=111) rfl ?_);refine goesL_ (some 15) rfl rfl Try.func111 (by kernel_rfl) rfl #[.agg #[.int .i64 a0_1,.slice A0_2 l0_2.length c0_2,.slice A0_3 l0_3.length c0_3]] rfl pG ?_;(with_reducible refine (threshold_Valid.calls k a0_1 _ _ l0_2 _ _ l0_3 t279 _ ?side1 ?side2 ?side3 ?side4 A4.out).mono ?_);(case side1=>repeat (first|exact (Kd.C_below HR0_2.out HB.out)|(with_reducible refine Kd.C_alloc ?_ _)|(with_reducible refine Kd.C_drewN ?_ _)|(with_reducible refine Kd.C_drew ?_)));(case side2=>exact HC0_2.out);(case side3=>repeat (first|exact (Kd.C_below HR0_3.out HB.out)|(with_reducible refine Kd.C_alloc ?_ _)|(with_reducible refine Kd.C_drewN ?_ _)|(with_reducible refine Kd.C_drew ?_)));(case side4=>exact HC0_3.out);rintro e w22 ⟨rfl,hb⟩;refine ⟨_,rfl,?_⟩;have n0_:=Z (blk_below (g:=gb277) (o:=.cells #[.bool true,.int .i64 a0_1,.slice A0_2 l0_2.length c0_2,.slice A0_3 l0_3.length c0_3] 34 (0,0)) (pK BK277) hb);have n1_:=Z (below_step pB hb);clear BK277;clear HB;have BK277:=n0_;have HB:=n1_;clear n0_ n1_;(try clear hb);(try clear hb2);(try clear hk);(try clear hi)))
   go_ret
   exact ⟨pF,pB⟩
 ·replace c3:=Bool.eq_false_iff.mpr c3
  subst c3
  rw [if_neg (show ¬ (false=true) by decide)] at H
  replace H:=Option.bind_eq_some_iff.mp H
  obtain ⟨t278,A230,H⟩:=H
  try dsimp only at H
  have A23:=Z A230
  clear A230
  by_cases c24:t278=true
  ·subst c24
   rw [if_pos rfl] at H
   obtain rfl:=Option.some.inj H
   go_enter Try.func92,Try.ntmps92
   go_wp2_with (first|((with_reducible refine gate_dst (N:=2) rfl ?_);refine box_event ?hg (N:=2) ?hd (cs:=#[.bool false,.int .i64 a0_1,.slice A0_2 l0_2.length c0_2,.slice A0_3 l0_3.length c0_3]) (t:=34) ?hr ?_;(case hd=>rfl);(case hg=>rfl);(case hr=>first|(go_simp;done)|(go_simp;rfl));intro gb277 hg w25 hbox hb;have n0_:=Z (below_step pB hb);have n1_:=Z (hbox);have n2_:=Z ((pT hg:w.heap.size≤gb277));have n3_:=Z ((pT hg:w.heap.size≤gb277));clear HB;have HB:=n0_;have BK277:=n1_;have GW277:=n2_;have GE277:=n3_;clear n0_ n1_ n2_ n3_;clear hb hbox hg;have hcz26_0:w25.cell? ⟨gb277,0,none⟩=some (.bool false):=(kC BK277.out 0).trans rfl;have hcz26_1:w25.cell? ⟨gb277,1,none⟩=some (.int .i64 a0_1):=(kC BK277.out 1).trans rfl;have hcz26_2:w25.cell? ⟨gb277,2,none⟩=some (.slice A0_2 l0_2.length c0_2):=(kC BK277.out 2).trans rfl;have hcz26_3:w25.cell? ⟨gb277,3,none⟩=some (.slice A0_3 l0_3.length c0_3):=(kC BK277.out 3).trans rfl;have hfz26_0:=kF BK277.out 0;have hfz26_1:=kF BK277.out 1;have hfz26_2:=kF BK277.out 2;have hfz26_3:=kF BK277.out 3)|((with_reducible refine gate_callee (f:=110) rfl ?_);refine goesL_ (some 11) rfl rfl Try.func110 (by kernel_rfl) rfl #[.agg #[.int .i64 a0_1,.slice A0_2 l0_2.length c0_2,.slice A0_3 l0_3.length c0_3]] rfl pG ?_;(with_reducible refine (configuration_blank.calls a0_1 _ _ l0_2 _ _ l0_3 true _ ?side1 ?side2 ?side3 ?side4 A23.out).mono ?_);(case side1=>repeat (first|exact (Kd.C_below HR0_2.out HB.out)|(with_reducible refine Kd.C_alloc ?_ _)|(with_reducible refine Kd.C_drewN ?_ _)|(with_reducible refine Kd.C_drew ?_)));(case side2=>exact HC0_2.out);(case side3=>repeat (first|exact (Kd.C_below HR0_3.out HB.out)|(with_reducible refine Kd.C_alloc ?_ _)|(with_reducible refine Kd.C_drewN ?_ _)|(with_reducible refine Kd.C_drew ?_)));(case side4=>exact HC0_3.out);rintro e w27 ⟨rfl,hb⟩;refine ⟨_,rfl,?_⟩;have n0_:=Z (blk_below (g:=gb277) (o:=.cells #[.bool false,.int .i64 a0_1,.slice A0_2 l0_2.length c0_2,.slice A0_3 l0_3.length c0_3] 34 (0,0)) (pK BK277) hb);have n1_:=Z (below_step pB hb);clear BK277;clear HB;have BK277:=n0_;have HB:=n1_;clear n0_ n1_;(try clear hb);(try clear hb2);(try clear hk);(try clear hi)))
   go_ret
   exact ⟨pF,pB⟩
  ·replace c24:=Bool.eq_false_iff.mpr c24
   subst c24
   rw [if_neg (show ¬ (false=true) by decide)] at H
   obtain rfl:=Option.some.inj H
   go_enter Try.func92,Try.ntmps92
   go_wp2_with (first|((with_reducible refine gate_dst (N:=2) rfl ?_);refine box_event ?hg (N:=2) ?hd (cs:=#[.bool false,.int .i64 a0_1,.slice A0_2 l0_2.length c0_2,.slice A0_3 l0_3.length c0_3]) (t:=34) ?hr ?_;(case hd=>rfl);(case hg=>rfl);(case hr=>first|(go_simp;done)|(go_simp;rfl));intro gb277 hg w28 hbox hb;have n0_:=Z (below_step pB hb);have n1_:=Z (hbox);have n2_:=Z ((pT hg:w.heap.size≤gb277));have n3_:=Z ((pT hg:w.heap.size≤gb277));clear HB;have HB:=n0_;have BK277:=n1_;have GW277:=n2_;have GE277:=n3_;clear n0_ n1_ n2_ n3_;clear hb hbox hg;have hcz29_0:w28.cell? ⟨gb277,0,none⟩=some (.bool false):=(kC BK277.out 0).trans rfl;have hcz29_1:w28.cell? ⟨gb277,1,none⟩=some (.int .i64 a0_1):=(kC BK277.out 1).trans rfl;have hcz29_2:w28.cell? ⟨gb277,2,none⟩=some (.slice A0_2 l0_2.length c0_2):=(kC BK277.out 2).trans rfl;have hcz29_3:w28.cell? ⟨gb277,3,none⟩=some (.slice A0_3 l0_3.length c0_3):=(kC BK277.out 3).trans rfl;have hfz29_0:=kF BK277.out 0;have hfz29_1:=kF BK277.out 1;have hfz29_2:=kF BK277.out 2;have hfz29_3:=kF BK277.out 3)|((with_reducible refine gate_callee (f:=110) rfl ?_);refine goesL_ (some 11) rfl rfl Try.func110 (by kernel_rfl) rfl #[.agg #[.int .i64 a0_1,.slice A0_2 l0_2.length c0_2,.slice A0_3 l0_3.length c0_3]] rfl pG ?_;(with_reducible refine (configuration_blank.calls a0_1 _ _ l0_2 _ _ l0_3 false _ ?side1 ?side2 ?side3 ?side4 A23.out).mono ?_);(case side1=>repeat (first|exact (Kd.C_below HR0_2.out HB.out)|(with_reducible refine Kd.C_alloc ?_ _)|(with_reducible refine Kd.C_drewN ?_ _)|(with_reducible refine Kd.C_drew ?_)));(case side2=>exact HC0_2.out);(case side3=>repeat (first|exact (Kd.C_below HR0_3.out HB.out)|(with_reducible refine Kd.C_alloc ?_ _)|(with_reducible refine Kd.C_drewN ?_ _)|(with_reducible refine Kd.C_drew ?_)));(case side4=>exact HC0_3.out);rintro e w30 ⟨rfl,hb⟩;refine ⟨_,rfl,?_⟩;have n0_:=Z (blk_below (g:=gb277) (o:=.cells #[.bool false,.int .i64 a0_1,.slice A0_2 l0_2.length c0_2,.slice A0_3 l0_3.length c0_3] 34 (0,0)) (pK BK277) hb);have n1_:=Z (below_step pB hb);clear BK277;clear HB;have BK277:=n0_;have HB:=n1_;clear n0_ n1_;(try clear hb);(try clear hb2);(try clear hk);(try clear hi)))
   go_ret
   exact ⟨pF,pB⟩
def configuration_Valid.l0:Nat→List (S34)→Int→Int→List (S34)→Option (Int)
 | 0,_,_,_,_=>none
 | k+1,x11,x12,x13,x282000=>if x13 < x12 then (if 0≤x13 then (if x13 < (x11.length:Int) then ((configuration_member.f k ((rd_T34 x11 x13).f0) ((rd_T34 x11 x13).f1.f0) ((rd_T34 x11 x13).f1.f1) ((rd_T34 x11 x13).f1.f2) (x282000.length:Int)).bind fun t284=>(if t284=0 then (configuration_Valid.l0 k x11 x12 (wrap64 (x13+1)) x282000) else (some t284))) else (none)) else (none)) else (some 0)
def configuration_Valid.f (k:Nat) (l0_0:List (S34)):Option (Int):=if (l0_0.length:Int) > 10 then (some 3) else (configuration_Valid.l0 k l0_0 (l0_0.length:Int) 0 l0_0)
set_option maxHeartbeats 8000000 in
set_option maxRecDepth 100000 in
theorem configuration_Valid.calls (k:Nat) (A0_0:Option Addr) (c0_0:Nat) (l0_0:List (S34)) (r:Int) (w:World) (hr0_0:Kd.C k34 w A0_0 l0_0.length l0_0) (hc0_0:l0_0.length≤c0_0) (h:configuration_Valid.f k l0_0=some r) :
  Calls Try.prog 63 #[.agg #[.slice A0_0 l0_0.length c0_0]] w fun e w'=>e=.returned (.int .i64 r)∧Below w.heap.size w w':=by
 have hu27:=Try.underlying27
 have hu34:=Try.underlying34
 have HR0_0:=Z hr0_0
 have HC0_0:=Z hc0_0
 clear hr0_0 hc0_0
 have HB:=Z (Below.refl w.heap.size w)
 have H:(if (l0_0.length:Int) > 10 then (some 3) else (configuration_Valid.l0 k l0_0 (l0_0.length:Int) 0 l0_0))=some r:=h
 clear h
 by_cases c2:(l0_0.length:Int) > 10
 ·rw [if_pos c2] at H
  have c2b0:decide (10 < (l0_0.length:Int))=true:=decide_eq_true c2
  have c2b1:decide (10 < l0_0.length)=true:=decide_eq_true (by omega)
  clear c2
  obtain rfl:=Option.some.inj H
  go_enter Try.func63,Try.ntmps63
  go_wp2_with (first|((with_reducible refine gate_dst (N:=1) rfl ?_);refine box_event ?hg (N:=1) ?hd (cs:=#[.slice A0_0 l0_0.length c0_0]) (t:=27) ?hr ?_;(case hd=>rfl);(case hg=>rfl);(case hr=>first|(go_simp;done)|(go_simp;rfl));intro gb281 hg w3 hbox hb;have n0_:=Z (below_step pB hb);have n1_:=Z (hbox);have n2_:=Z ((pT hg:w.heap.size≤gb281));have n3_:=Z ((pT hg:w.heap.size≤gb281));clear HB;have HB:=n0_;have BK281:=n1_;have GW281:=n2_;have GE281:=n3_;clear n0_ n1_ n2_ n3_;clear hb hbox hg;have hcz4_0:w3.cell? ⟨gb281,0,none⟩=some (.slice A0_0 l0_0.length c0_0):=(kC BK281.out 0).trans rfl;have hfz4_0:=kF BK281.out 0))
  go_ret
  exact ⟨pF,pB⟩
 ·rw [if_neg c2] at H
  have c2b0:decide (10 < (l0_0.length:Int))=false:=decide_eq_false c2
  have c2b1:decide (10 < l0_0.length)=false:=decide_eq_false (by omega)
  clear c2
  have H':=Z H
  clear H
  go_enter Try.func63,Try.ntmps63
  go_wp2_with (first|((with_reducible refine gate_dst (N:=1) rfl ?_);refine box_event ?hg (N:=1) ?hd (cs:=#[.slice A0_0 l0_0.length c0_0]) (t:=27) ?hr ?_;(case hd=>rfl);(case hg=>rfl);(case hr=>first|(go_simp;done)|(go_simp;rfl));intro gb281 hg w5 hbox hb;have n0_:=Z (below_step pB hb);have n1_:=Z (hbox);have n2_:=Z ((pT hg:w.heap.size≤gb281));have n3_:=Z ((pT hg:w.heap.size≤gb281));clear HB;have HB:=n0_;have BK281:=n1_;have GW281:=n2_;have GE281:=n3_;clear n0_ n1_ n2_ n3_;clear hb hbox hg;have hcz6_0:w5.cell? ⟨gb281,0,none⟩=some (.slice A0_0 l0_0.length c0_0):=(kC BK281.out 0).trans rfl;have hfz6_0:=kF BK281.out 0))
  go_loopg [13] k (fun kq v13 w'=>∃ (x13_1:Int),v13=.int .i64 x13_1∧Aside0 (configuration_Valid.l0 kq l0_0 (l0_0.length:Int) x13_1 l0_0=some r)∧Aside0 (kq≤k)∧Aside0 (w'.heap[gb281]?=some (.cells #[(.slice A0_0 l0_0.length c0_0)] 27 (0,0)))∧Aside0 (Below w.heap.size w w'))
  case atStart=>exact ⟨(0),pE,H',⟨Nat.le_refl _⟩,⟨pK BK281⟩,⟨pB⟩⟩
  case round =>
   clear H'
   try clear c2
   try clear c2b0
   try clear c2b1
   try clear p2
   try clear c6
   try clear hcz4_0
   try clear hcz6_0
   try clear hfz4_0
   try clear hfz6_0
   obtain ⟨x13_1,rfl,HA,HK1,BK281,HB⟩:=hrel
   cases gk with
   | zero=>exact absurd HA.out (by simp [configuration_Valid.l0])
   | succ k1 =>
    have H:=HA.out
    clear HA
    simp only [configuration_Valid.l0] at H
    by_cases c7:x13_1 < (l0_0.length:Int)
    ·rw [if_pos c7] at H
     have c7b0:decide (x13_1 < (l0_0.length:Int))=true:=decide_eq_true c7
     clear c7
     by_cases c8:0≤x13_1
     ·rw [if_pos c8] at H
      have c8b0:decide (0≤x13_1)=true:=decide_eq_true c8
      clear c8
      by_cases c9:x13_1 < (l0_0.length:Int)
      ·rw [if_pos c9] at H
       have c9b0:decide (x13_1 < (l0_0.length:Int))=true:=decide_eq_true c9
       clear c9
       replace H:=Option.bind_eq_some_iff.mp H
       obtain ⟨t284,A100,H⟩:=H
       try dsimp only at H
       have A10:=Z A100
       clear A100
       by_cases c11:t284=0
       ·rw [if_pos c11] at H
        have c11b0:(t284 == 0)=true:=beq_iff_eq.mpr c11
        have c11b1:(t284 != 0)=false:=bne_eq_false_iff_eq.mpr c11
        clear c11
        have H':=Z H
        clear H
        have p282:0≤(x13_1:Int):=of_decide_eq_true (by first|(with_reducible assumption)|assumption)
        have q282:x13_1 < (l0_0.length:Int):=of_decide_eq_true (by first|(with_reducible assumption)|assumption)
        obtain ⟨ad282,A282_2,c282_2,A282_3,c282_3,e282,hx282_0,hx282_1,hx282_2,hx282_3,hl282_2,hi282_2,hl282_3,hi282_3⟩:=at_T34 HR0_0.out x13_1 p282 q282
        cases e282
        replace hx282_0:=(HB.out.cell (World.block_lt_of_cell? w _ hx282_0)).trans hx282_0
        replace hx282_1:=(HB.out.cell (World.block_lt_of_cell? w _ hx282_1)).trans hx282_1
        replace hx282_2:=(HB.out.cell (World.block_lt_of_cell? w _ hx282_2)).trans hx282_2
        replace hx282_3:=(HB.out.cell (World.block_lt_of_cell? w _ hx282_3)).trans hx282_3
        have HR282_2:=Z hi282_2
        have HC282_2:=Z hl282_2
        clear hi282_2 hl282_2
        have HR282_3:=Z hi282_3
        have HC282_3:=Z hl282_3
        clear hi282_3 hl282_3
        replace p282:=eq_true p282
        replace q282:=eq_true q282
        go_wp2_with (first|((with_reducible refine gate_dst (N:=4) rfl ?_);refine box_event ?hg (N:=4) ?hd (cs:=#[.bool false,.int .i64 0,.slice none 0 0,.slice none 0 0]) (t:=34) ?hr ?_;(case hd=>rfl);(case hg=>rfl);(case hr=>first|(go_simp;done)|(go_simp;rfl));intro gb283 hg w12 hbox hb;have n0_:=Z (blk_below (g:=gb281) (o:=.cells #[.slice (some ad282) l0_0.length c0_0] 27 (0,0)) (pK BK281) hb);have n1_:=Z (below_step pB hb);have n2_:=Z (hbox);have n3_:=Z ((pT hg:w.heap.size≤gb283));have n4_:=Z ((pT hg:w.heap.size≤gb283));have n5_:=Z ((pL hg (pK BK281):gb281 ≠ gb283));have n6_:=Z ((pM hg (pK BK281):gb283 ≠ gb281));clear BK281;clear HB;have BK281:=n0_;have HB:=n1_;have BK283:=n2_;have GW283:=n3_;have GE283:=n4_;have NB281_283:=n5_;have NB283_281:=n6_;clear n0_ n1_ n2_ n3_ n4_ n5_ n6_;clear hb hbox hg;have hnb13:=NB283_281.out;have hnc13:=NB281_283.out;have hcz14_0:w12.cell? ⟨gb283,0,none⟩=some (.bool false):=(kC BK283.out 0).trans rfl;have hcz14_1:w12.cell? ⟨gb283,1,none⟩=some (.int .i64 0):=(kC BK283.out 1).trans rfl;have hcz14_2:w12.cell? ⟨gb283,2,none⟩=some (.slice none 0 0):=(kC BK283.out 2).trans rfl;have hcz14_3:w12.cell? ⟨gb283,3,none⟩=some (.slice none 0 0):=(kC BK283.out 3).trans rfl;have hfz14_0:=kF BK283.out 0;have hfz14_1:=kF BK283.out 1;have hfz14_2:=kF BK283.out 2;have hfz14_3:=kF BK283.out 3;have hcz15_0:w12.cell? ⟨gb281,0,none⟩=some (.slice (some ad282) l0_0.length c0_0):=(kC BK281.out 0).trans rfl;have hfz15_0:=kF BK281.out 0)|((with_reducible refine gate_callee (f:=92) rfl ?_);refine goesL_ (some 21) rfl rfl Try.func92 (by kernel_rfl) rfl #[.agg #[.bool ((rd_T34 l0_0 x13_1).f0),.int .i64 ((rd_T34 l0_0 x13_1).f1.f0),.slice A282_2 ((rd_T34 l0_0 x13_1).f1.f1).length c282_2,.slice A282_3 ((rd_T34 l0_0 x13_1).f1.f2).length c282_3],.int .i64 (l0_0.length:Int)] rfl pG ?_;(with_reducible refine (configuration_member.calls k1 ((rd_T34 l0_0 x13_1).f0) ((rd_T34 l0_0 x13_1).f1.f0) _ _ ((rd_T34 l0_0 x13_1).f1.f1) _ _ ((rd_T34 l0_0 x13_1).f1.f2) (l0_0.length:Int) t284 _ ?side1 ?side2 ?side3 ?side4 A10.out).mono ?_);(case side1=>exact Kd.C_below HR282_2.out pB);(case side2=>exact HC282_2.out);(case side3=>exact Kd.C_below HR282_3.out pB);(case side4=>exact HC282_3.out);rintro e w16 ⟨rfl,hb⟩;refine ⟨_,rfl,?_⟩;have n0_:=Z (blk_below (g:=gb281) (o:=.cells #[.slice (some ad282) l0_0.length c0_0] 27 (0,0)) (by (with_reducible repeat (first|refine kN ?_ _|refine kD ?_|refine kA ?_ _));refine blk_far ?_ NB281_283.out _;(with_reducible repeat (first|refine kN ?_ _|refine kD ?_|refine kA ?_ _));refine blk_far ?_ NB281_283.out _;(with_reducible repeat (first|refine kN ?_ _|refine kD ?_|refine kA ?_ _));refine blk_far ?_ NB281_283.out _;(with_reducible repeat (first|refine kN ?_ _|refine kD ?_|refine kA ?_ _));refine blk_far ?_ NB281_283.out _;(with_reducible repeat (first|refine kN ?_ _|refine kD ?_|refine kA ?_ _));exact BK281.out) hb);have n1_:=Z (blk_below (g:=gb283) (o:=.cells #[.bool ((rd_T34 l0_0 x13_1).f0),.int .i64 ((rd_T34 l0_0 x13_1).f1.f0),.slice A282_2 ((rd_T34 l0_0 x13_1).f1.f1).length c282_2,.slice A282_3 ((rd_T34 l0_0 x13_1).f1.f2).length c282_3] 34 (0,0)) (by (with_reducible repeat (first|refine kN ?_ _|refine kD ?_|refine kA ?_ _));refine blk_put (cs:=#[.bool ((rd_T34 l0_0 x13_1).f0),.int .i64 ((rd_T34 l0_0 x13_1).f1.f0),.slice A282_2 ((rd_T34 l0_0 x13_1).f1.f1).length c282_2,.slice none 0 0]) ?_ 3 _ rfl;(with_reducible repeat (first|refine kN ?_ _|refine kD ?_|refine kA ?_ _));refine blk_put (cs:=#[.bool ((rd_T34 l0_0 x13_1).f0),.int .i64 ((rd_T34 l0_0 x13_1).f1.f0),.slice none 0 0,.slice none 0 0]) ?_ 2 _ rfl;(with_reducible repeat (first|refine kN ?_ _|refine kD ?_|refine kA ?_ _));refine blk_put (cs:=#[.bool ((rd_T34 l0_0 x13_1).f0),.int .i64 0,.slice none 0 0,.slice none 0 0]) ?_ 1 _ rfl;(with_reducible repeat (first|refine kN ?_ _|refine kD ?_|refine kA ?_ _));refine blk_put (cs:=#[.bool false,.int .i64 0,.slice none 0 0,.slice none 0 0]) ?_ 0 _ rfl;(with_reducible repeat (first|refine kN ?_ _|refine kD ?_|refine kA ?_ _));exact BK283.out) hb);have n2_:=Z (below_step pB hb);clear BK281;clear BK283;clear HB;have BK281:=n0_;have BK283:=n1_;have HB:=n2_;clear n0_ n1_ n2_;(try clear hb);(try clear hb2);(try clear hk);(try clear hi)))
        go_roundg k1
        case measure=>have:=HK1.out;omega
        case rel=>exact ⟨(wrap64 (x13_1+1)),pE,H',⟨by have:=HK1.out;omega⟩,⟨pK BK281⟩,⟨pB⟩⟩
       ·rw [if_neg c11] at H
        have c11b0:(t284 == 0)=false:=beq_eq_false_iff_ne.mpr c11
        have c11b1:(t284 != 0)=true:=bne_iff_ne.mpr c11
        obtain rfl:=Option.some.inj H
        have p282:0≤(x13_1:Int):=of_decide_eq_true (by first|(with_reducible assumption)|assumption)
        have q282:x13_1 < (l0_0.length:Int):=of_decide_eq_true (by first|(with_reducible assumption)|assumption)
        obtain ⟨ad282,A282_2,c282_2,A282_3,c282_3,e282,hx282_0,hx282_1,hx282_2,hx282_3,hl282_2,hi282_2,hl282_3,hi282_3⟩:=at_T34 HR0_0.out x13_1 p282 q282
        cases e282
        replace hx282_0:=(HB.out.cell (World.block_lt_of_cell? w _ hx282_0)).trans hx282_0
        replace hx282_1:=(HB.out.cell (World.block_lt_of_cell? w _ hx282_1)).trans hx282_1
        replace hx282_2:=(HB.out.cell (World.block_lt_of_cell? w _ hx282_2)).trans hx282_2
        replace hx282_3:=(HB.out.cell (World.block_lt_of_cell? w _ hx282_3)).trans hx282_3
        have HR282_2:=Z hi282_2
        have HC282_2:=Z hl282_2
        clear hi282_2 hl282_2
        have HR282_3:=Z hi282_3
        have HC282_3:=Z hl282_3
        clear hi282_3 hl282_3
        replace p282:=eq_true p282
        replace q282:=eq_true q282
        go_wp2_with (first|((with_reducible refine gate_dst (N:=4) rfl ?_);refine box_event ?hg (N:=4) ?hd (cs:=#[.bool false,.int .i64 0,.slice none 0 0,.slice none 0 0]) (t:=34) ?hr ?_;(case hd=>rfl);(case hg=>rfl);(case hr=>first|(go_simp;done)|(go_simp;rfl));intro gb283 hg w17 hbox hb;have n0_:=Z (blk_below (g:=gb281) (o:=.cells #[.slice (some ad282) l0_0.length c0_0] 27 (0,0)) (pK BK281) hb);have n1_:=Z (below_step pB hb);have n2_:=Z (hbox);have n3_:=Z ((pT hg:w.heap.size≤gb283));have n4_:=Z ((pT hg:w.heap.size≤gb283));have n5_:=Z ((pL hg (pK BK281):gb281 ≠ gb283));have n6_:=Z ((pM hg (pK BK281):gb283 ≠ gb281));clear BK281;clear HB;have BK281:=n0_;have HB:=n1_;have BK283:=n2_;have GW283:=n3_;have GE283:=n4_;have NB281_283:=n5_;have NB283_281:=n6_;clear n0_ n1_ n2_ n3_ n4_ n5_ n6_;clear hb hbox hg;have hnb18:=NB283_281.out;have hnc18:=NB281_283.out;have hcz19_0:w17.cell? ⟨gb283,0,none⟩=some (.bool false):=(kC BK283.out 0).trans rfl;have hcz19_1:w17.cell? ⟨gb283,1,none⟩=some (.int .i64 0):=(kC BK283.out 1).trans rfl;have hcz19_2:w17.cell? ⟨gb283,2,none⟩=some (.slice none 0 0):=(kC BK283.out 2).trans rfl;have hcz19_3:w17.cell? ⟨gb283,3,none⟩=some (.slice none 0 0):=(kC BK283.out 3).trans rfl;have hfz19_0:=kF BK283.out 0;have hfz19_1:=kF BK283.out 1;have hfz19_2:=kF BK283.out 2;have hfz19_3:=kF BK283.out 3;have hcz20_0:w17.cell? ⟨gb281,0,none⟩=some (.slice (some ad282) l0_0.length c0_0):=(kC BK281.out 0).trans rfl;have hfz20_0:=kF BK281.out 0)|((with_reducible refine gate_callee (f:=92) rfl ?_);refine goesL_ (some 21) rfl rfl Try.func92 (by kernel_rfl) rfl #[.agg #[.bool ((rd_T34 l0_0 x13_1).f0),.int .i64 ((rd_T34 l0_0 x13_1).f1.f0),.slice A282_2 ((rd_T34 l0_0 x13_1).f1.f1).length c282_2,.slice A282_3 ((rd_T34 l0_0 x13_1).f1.f2).length c282_3],.int .i64 (l0_0.length:Int)] rfl pG ?_;(with_reducible refine (configuration_member.calls k1 ((rd_T34 l0_0 x13_1).f0) ((rd_T34 l0_0 x13_1).f1.f0) _ _ ((rd_T34 l0_0 x13_1).f1.f1) _ _ ((rd_T34 l0_0 x13_1).f1.f2) (l0_0.length:Int) t284 _ ?side1 ?side2 ?side3 ?side4 A10.out).mono ?_);(case side1=>exact Kd.C_below HR282_2.out pB);(case side2=>exact HC282_2.out);(case side3=>exact Kd.C_below HR282_3.out pB);(case side4=>exact HC282_3.out);rintro e w21 ⟨rfl,hb⟩;refine ⟨_,rfl,?_⟩;have n0_:=Z (blk_below (g:=gb281) (o:=.cells #[.slice (some ad282) l0_0.length c0_0] 27 (0,0)) (by (with_reducible repeat (first|refine kN ?_ _|refine kD ?_|refine kA ?_ _));refine blk_far ?_ NB281_283.out _;(with_reducible repeat (first|refine kN ?_ _|refine kD ?_|refine kA ?_ _));refine blk_far ?_ NB281_283.out _;(with_reducible repeat (first|refine kN ?_ _|refine kD ?_|refine kA ?_ _));refine blk_far ?_ NB281_283.out _;(with_reducible repeat (first|refine kN ?_ _|refine kD ?_|refine kA ?_ _));refine blk_far ?_ NB281_283.out _;(with_reducible repeat (first|refine kN ?_ _|refine kD ?_|refine kA ?_ _));exact BK281.out) hb);have n1_:=Z (blk_below (g:=gb283) (o:=.cells #[.bool ((rd_T34 l0_0 x13_1).f0),.int .i64 ((rd_T34 l0_0 x13_1).f1.f0),.slice A282_2 ((rd_T34 l0_0 x13_1).f1.f1).length c282_2,.slice A282_3 ((rd_T34 l0_0 x13_1).f1.f2).length c282_3] 34 (0,0)) (by (with_reducible repeat (first|refine kN ?_ _|refine kD ?_|refine kA ?_ _));refine blk_put (cs:=#[.bool ((rd_T34 l0_0 x13_1).f0),.int .i64 ((rd_T34 l0_0 x13_1).f1.f0),.slice A282_2 ((rd_T34 l0_0 x13_1).f1.f1).length c282_2,.slice none 0 0]) ?_ 3 _ rfl;(with_reducible repeat (first|refine kN ?_ _|refine kD ?_|refine kA ?_ _));refine blk_put (cs:=#[.bool ((rd_T34 l0_0 x13_1).f0),.int .i64 ((rd_T34 l0_0 x13_1).f1.f0),.slice none 0 0,.slice none 0 0]) ?_ 2 _ rfl;(with_reducible repeat (first|refine kN ?_ _|refine kD ?_|refine kA ?_ _));refine blk_put (cs:=#[.bool ((rd_T34 l0_0 x13_1).f0),.int .i64 0,.slice none 0 0,.slice none 0 0]) ?_ 1 _ rfl;(with_reducible repeat (first|refine kN ?_ _|refine kD ?_|refine kA ?_ _));refine blk_put (cs:=#[.bool false,.int .i64 0,.slice none 0 0,.slice none 0 0]) ?_ 0 _ rfl;(with_reducible repeat (first|refine kN ?_ _|refine kD ?_|refine kA ?_ _));exact BK283.out) hb);have n2_:=Z (below_step pB hb);clear BK281;clear BK283;clear HB;have BK281:=n0_;have BK283:=n1_;have HB:=n2_;clear n0_ n1_ n2_;(try clear hb);(try clear hb2);(try clear hk);(try clear hi)))
        go_ret
        exact ⟨pF,pB⟩
      ·rw [if_neg c9] at H
       exact absurd H (by simp)
     ·rw [if_neg c8] at H
      exact absurd H (by simp)
    ·rw [if_neg c7] at H
     have c7b0:decide (x13_1 < (l0_0.length:Int))=false:=decide_eq_false c7
     clear c7
     obtain rfl:=Option.some.inj H
     go_wp2
     go_ret
     exact ⟨pF,pB⟩
def danger_small.f (k:Nat) (l0_0:List (S34)):Option (Int):=(configuration_Valid.f k l0_0).bind fun t849=>(if t849=0 then (if (l0_0.length:Int) > 7 then (some 3) else (some 0)) else (some t849))
set_option maxHeartbeats 8000000 in
set_option maxRecDepth 100000 in
theorem danger_small.calls (k:Nat) (A0_0:Option Addr) (c0_0:Nat) (l0_0:List (S34)) (r:Int) (w:World) (hr0_0:Kd.C k34 w A0_0 l0_0.length l0_0) (hc0_0:l0_0.length≤c0_0) (h:danger_small.f k l0_0=some r) :
  Calls Try.prog 80 #[.agg #[.slice A0_0 l0_0.length c0_0]] w fun e w'=>e=.returned (.int .i64 r)∧Below w.heap.size w w':=by
 have hu27:=Try.underlying27
 have HR0_0:=Z hr0_0
 have HC0_0:=Z hc0_0
 clear hr0_0 hc0_0
 have HB:=Z (Below.refl w.heap.size w)
 have H:((configuration_Valid.f k l0_0).bind fun t849=>(if t849=0 then (if (l0_0.length:Int) > 7 then (some 3) else (some 0)) else (some t849)))=some r:=h
 clear h
 replace H:=Option.bind_eq_some_iff.mp H
 obtain ⟨t849,A20,H⟩:=H
 try dsimp only at H
 have A2:=Z A20
 clear A20
 by_cases c3:t849=0
 ·rw [if_pos c3] at H
  have c3b0:(t849 == 0)=true:=beq_iff_eq.mpr c3
  have c3b1:(t849 != 0)=false:=bne_eq_false_iff_eq.mpr c3
  clear c3
  by_cases c4:(l0_0.length:Int) > 7
  ·rw [if_pos c4] at H
   have c4b0:decide (7 < (l0_0.length:Int))=true:=decide_eq_true c4
   have c4b1:decide (7 < l0_0.length)=true:=decide_eq_true (by omega)
   clear c4
   obtain rfl:=Option.some.inj H
   go_enter Try.func80,Try.ntmps80
   go_wp2_with (first|((with_reducible refine gate_dst (N:=1) rfl ?_);refine box_event ?hg (N:=1) ?hd (cs:=#[.slice A0_0 l0_0.length c0_0]) (t:=27) ?hr ?_;(case hd=>rfl);(case hg=>rfl);(case hr=>first|(go_simp;done)|(go_simp;rfl));intro gb848 hg w5 hbox hb;have n0_:=Z (below_step pB hb);have n1_:=Z (hbox);have n2_:=Z ((pT hg:w.heap.size≤gb848));have n3_:=Z ((pT hg:w.heap.size≤gb848));clear HB;have HB:=n0_;have BK848:=n1_;have GW848:=n2_;have GE848:=n3_;clear n0_ n1_ n2_ n3_;clear hb hbox hg;have hcz6_0:w5.cell? ⟨gb848,0,none⟩=some (.slice A0_0 l0_0.length c0_0):=(kC BK848.out 0).trans rfl;have hfz6_0:=kF BK848.out 0)|((with_reducible refine gate_callee (f:=63) rfl ?_);refine goesL_ (some 5) rfl rfl Try.func63 (by kernel_rfl) rfl #[.agg #[.slice A0_0 l0_0.length c0_0]] rfl pG ?_;(with_reducible refine (configuration_Valid.calls k _ _ l0_0 t849 _ ?side1 ?side2 A2.out).mono ?_);(case side1=>repeat (first|exact (Kd.C_below HR0_0.out HB.out)|(with_reducible refine Kd.C_alloc ?_ _)|(with_reducible refine Kd.C_drewN ?_ _)|(with_reducible refine Kd.C_drew ?_)));(case side2=>exact HC0_0.out);rintro e w7 ⟨rfl,hb⟩;refine ⟨_,rfl,?_⟩;have n0_:=Z (blk_below (g:=gb848) (o:=.cells #[.slice A0_0 l0_0.length c0_0] 27 (0,0)) (pK BK848) hb);have n1_:=Z (below_step pB hb);clear BK848;clear HB;have BK848:=n0_;have HB:=n1_;clear n0_ n1_;(try clear hb);(try clear hb2);(try clear hk);(try clear hi);have hcz8_0:w7.cell? ⟨gb848,0,none⟩=some (.slice A0_0 l0_0.length c0_0):=(kC BK848.out 0).trans rfl;have hfz8_0:=kF BK848.out 0))
   go_ret
   exact ⟨pF,pB⟩
  ·rw [if_neg c4] at H
   have c4b0:decide (7 < (l0_0.length:Int))=false:=decide_eq_false c4
   have c4b1:decide (7 < l0_0.length)=false:=decide_eq_false (by omega)
   clear c4
   obtain rfl:=Option.some.inj H
   go_enter Try.func80,Try.ntmps80
   go_wp2_with (first|((with_reducible refine gate_dst (N:=1) rfl ?_);refine box_event ?hg (N:=1) ?hd (cs:=#[.slice A0_0 l0_0.length c0_0]) (t:=27) ?hr ?_;(case hd=>rfl);(case hg=>rfl);(case hr=>first|(go_simp;done)|(go_simp;rfl));intro gb848 hg w9 hbox hb;have n0_:=Z (below_step pB hb);have n1_:=Z (hbox);have n2_:=Z ((pT hg:w.heap.size≤gb848));have n3_:=Z ((pT hg:w.heap.size≤gb848));clear HB;have HB:=n0_;have BK848:=n1_;have GW848:=n2_;have GE848:=n3_;clear n0_ n1_ n2_ n3_;clear hb hbox hg;have hcz10_0:w9.cell? ⟨gb848,0,none⟩=some (.slice A0_0 l0_0.length c0_0):=(kC BK848.out 0).trans rfl;have hfz10_0:=kF BK848.out 0)|((with_reducible refine gate_callee (f:=63) rfl ?_);refine goesL_ (some 5) rfl rfl Try.func63 (by kernel_rfl) rfl #[.agg #[.slice A0_0 l0_0.length c0_0]] rfl pG ?_;(with_reducible refine (configuration_Valid.calls k _ _ l0_0 t849 _ ?side1 ?side2 A2.out).mono ?_);(case side1=>repeat (first|exact (Kd.C_below HR0_0.out HB.out)|(with_reducible refine Kd.C_alloc ?_ _)|(with_reducible refine Kd.C_drewN ?_ _)|(with_reducible refine Kd.C_drew ?_)));(case side2=>exact HC0_0.out);rintro e w11 ⟨rfl,hb⟩;refine ⟨_,rfl,?_⟩;have n0_:=Z (blk_below (g:=gb848) (o:=.cells #[.slice A0_0 l0_0.length c0_0] 27 (0,0)) (pK BK848) hb);have n1_:=Z (below_step pB hb);clear BK848;clear HB;have BK848:=n0_;have HB:=n1_;clear n0_ n1_;(try clear hb);(try clear hb2);(try clear hk);(try clear hi);have hcz12_0:w11.cell? ⟨gb848,0,none⟩=some (.slice A0_0 l0_0.length c0_0):=(kC BK848.out 0).trans rfl;have hfz12_0:=kF BK848.out 0))
   go_ret
   exact ⟨pF,pB⟩
 ·rw [if_neg c3] at H
  have c3b0:(t849 == 0)=false:=beq_eq_false_iff_ne.mpr c3
  have c3b1:(t849 != 0)=true:=bne_iff_ne.mpr c3
  obtain rfl:=Option.some.inj H
  go_enter Try.func80,Try.ntmps80
  go_wp2_with (first|((with_reducible refine gate_dst (N:=1) rfl ?_);refine box_event ?hg (N:=1) ?hd (cs:=#[.slice A0_0 l0_0.length c0_0]) (t:=27) ?hr ?_;(case hd=>rfl);(case hg=>rfl);(case hr=>first|(go_simp;done)|(go_simp;rfl));intro gb848 hg w13 hbox hb;have n0_:=Z (below_step pB hb);have n1_:=Z (hbox);have n2_:=Z ((pT hg:w.heap.size≤gb848));have n3_:=Z ((pT hg:w.heap.size≤gb848));clear HB;have HB:=n0_;have BK848:=n1_;have GW848:=n2_;have GE848:=n3_;clear n0_ n1_ n2_ n3_;clear hb hbox hg;have hcz14_0:w13.cell? ⟨gb848,0,none⟩=some (.slice A0_0 l0_0.length c0_0):=(kC BK848.out 0).trans rfl;have hfz14_0:=kF BK848.out 0)|((with_reducible refine gate_callee (f:=63) rfl ?_);refine goesL_ (some 5) rfl rfl Try.func63 (by kernel_rfl) rfl #[.agg #[.slice A0_0 l0_0.length c0_0]] rfl pG ?_;(with_reducible refine (configuration_Valid.calls k _ _ l0_0 t849 _ ?side1 ?side2 A2.out).mono ?_);(case side1=>repeat (first|exact (Kd.C_below HR0_0.out HB.out)|(with_reducible refine Kd.C_alloc ?_ _)|(with_reducible refine Kd.C_drewN ?_ _)|(with_reducible refine Kd.C_drew ?_)));(case side2=>exact HC0_0.out);rintro e w15 ⟨rfl,hb⟩;refine ⟨_,rfl,?_⟩;have n0_:=Z (blk_below (g:=gb848) (o:=.cells #[.slice A0_0 l0_0.length c0_0] 27 (0,0)) (pK BK848) hb);have n1_:=Z (below_step pB hb);clear BK848;clear HB;have BK848:=n0_;have HB:=n1_;clear n0_ n1_;(try clear hb);(try clear hb2);(try clear hk);(try clear hi)))
  go_ret
  exact ⟨pF,pB⟩
def intersection_Holds.f (k:Nat) (l0_0:List (S34)):Option (Bool × Int):=(configuration_Valid.f k l0_0).bind fun t878=>(if t878=0 then ((intersection_find.f k l0_0).bind fun bt879=>(some ((bt879.1 == 0),0))) else (some (false,t878)))
set_option maxHeartbeats 8000000 in
set_option maxRecDepth 100000 in
theorem intersection_Holds.calls (k:Nat) (A0_0:Option Addr) (c0_0:Nat) (l0_0:List (S34)) (r1:Bool) (r2:Int) (w:World) (hr0_0:Kd.C k34 w A0_0 l0_0.length l0_0) (hc0_0:l0_0.length≤c0_0) (h:intersection_Holds.f k l0_0=some (r1,r2)) :
  Calls Try.prog 105 #[.agg #[.slice A0_0 l0_0.length c0_0]] w fun e w'=>e=.returned (.tuple #[.bool r1,.int .i64 r2])∧Below w.heap.size w w':=by
 have hu27:=Try.underlying27
 have HR0_0:=Z hr0_0
 have HC0_0:=Z hc0_0
 clear hr0_0 hc0_0
 have HB:=Z (Below.refl w.heap.size w)
 have H:((configuration_Valid.f k l0_0).bind fun t878=>(if t878=0 then ((intersection_find.f k l0_0).bind fun bt879=>(some ((bt879.1 == 0),0))) else (some (false,t878))))=some (r1,r2):=h
 clear h
 replace H:=Option.bind_eq_some_iff.mp H
 obtain ⟨t878,A20,H⟩:=H
 try dsimp only at H
 have A2:=Z A20
 clear A20
 by_cases c3:t878=0
 ·rw [if_pos c3] at H
  have c3b0:(t878 == 0)=true:=beq_iff_eq.mpr c3
  have c3b1:(t878 != 0)=false:=bne_eq_false_iff_eq.mpr c3
  clear c3
  replace H:=Option.bind_eq_some_iff.mp H
  obtain ⟨⟨t879,t880⟩,A40,H⟩:=H
  try dsimp only at H
  have A4:=Z A40
  clear A40
  simp only [Option.some.injEq,Prod.mk.injEq] at H
  obtain ⟨rfl,rfl⟩:=H
  go_enter Try.func105,Try.ntmps105
  go_wp2_with (first|((with_reducible refine gate_dst (N:=1) rfl ?_);refine box_event ?hg (N:=1) ?hd (cs:=#[.slice A0_0 l0_0.length c0_0]) (t:=27) ?hr ?_;(case hd=>rfl);(case hg=>rfl);(case hr=>first|(go_simp;done)|(go_simp;rfl));intro gb877 hg w5 hbox hb;have n0_:=Z (below_step pB hb);have n1_:=Z (hbox);have n2_:=Z ((pT hg:w.heap.size≤gb877));have n3_:=Z ((pT hg:w.heap.size≤gb877));clear HB;have HB:=n0_;have BK877:=n1_;have GW877:=n2_;have GE877:=n3_;clear n0_ n1_ n2_ n3_;clear hb hbox hg;have hcz6_0:w5.cell? ⟨gb877,0,none⟩=some (.slice A0_0 l0_0.length c0_0):=(kC BK877.out 0).trans rfl;have hfz6_0:=kF BK877.out 0)|((with_reducible refine gate_callee (f:=63) rfl ?_);refine goesL_ (some 8) rfl rfl Try.func63 (by kernel_rfl) rfl #[.agg #[.slice A0_0 l0_0.length c0_0]] rfl pG ?_;(with_reducible refine (configuration_Valid.calls k _ _ l0_0 t878 _ ?side1 ?side2 A2.out).mono ?_);(case side1=>repeat (first|exact (Kd.C_below HR0_0.out HB.out)|(with_reducible refine Kd.C_alloc ?_ _)|(with_reducible refine Kd.C_drewN ?_ _)|(with_reducible refine Kd.C_drew ?_)));(case side2=>exact HC0_0.out);rintro e w7 ⟨rfl,hb⟩;refine ⟨_,rfl,?_⟩;have n0_:=Z (blk_below (g:=gb877) (o:=.cells #[.slice A0_0 l0_0.length c0_0] 27 (0,0)) (pK BK877) hb);have n1_:=Z (below_step pB hb);clear BK877;clear HB;have BK877:=n0_;have HB:=n1_;clear n0_ n1_;(try clear hb);(try clear hb2);(try clear hk);(try clear hi);have hcz8_0:w7.cell? ⟨gb877,0,none⟩=some (.slice A0_0 l0_0.length c0_0):=(kC BK877.out 0).trans rfl;have hfz8_0:=kF BK877.out 0)|((with_reducible refine gate_callee (f:=121) rfl ?_);refine goesL_ (some 14) rfl rfl Try.func121 (by kernel_rfl) rfl #[.agg #[.slice A0_0 l0_0.length c0_0]] rfl pG ?_;(with_reducible refine (intersection_find.calls k _ _ l0_0 t879 t880 _ ?side1 ?side2 A4.out).mono ?_);(case side1=>repeat (first|exact (Kd.C_below HR0_0.out HB.out)|(with_reducible refine Kd.C_alloc ?_ _)|(with_reducible refine Kd.C_drewN ?_ _)|(with_reducible refine Kd.C_drew ?_)));(case side2=>exact HC0_0.out);rintro e w9 ⟨rfl,hb⟩;refine ⟨_,rfl,?_⟩;have n0_:=Z (blk_below (g:=gb877) (o:=.cells #[.slice A0_0 l0_0.length c0_0] 27 (0,0)) (pK BK877) hb);have n1_:=Z (below_step pB hb);clear BK877;clear HB;have BK877:=n0_;have HB:=n1_;clear n0_ n1_;(try clear hb);(try clear hb2);(try clear hk);(try clear hi)))
  go_ret2
  exact ⟨pF,pB⟩
 ·rw [if_neg c3] at H
  have c3b0:(t878 == 0)=false:=beq_eq_false_iff_ne.mpr c3
  have c3b1:(t878 != 0)=true:=bne_iff_ne.mpr c3
  simp only [Option.some.injEq,Prod.mk.injEq] at H
  obtain ⟨rfl,rfl⟩:=H
  go_enter Try.func105,Try.ntmps105
  go_wp2_with (first|((with_reducible refine gate_dst (N:=1) rfl ?_);refine box_event ?hg (N:=1) ?hd (cs:=#[.slice A0_0 l0_0.length c0_0]) (t:=27) ?hr ?_;(case hd=>rfl);(case hg=>rfl);(case hr=>first|(go_simp;done)|(go_simp;rfl));intro gb877 hg w10 hbox hb;have n0_:=Z (below_step pB hb);have n1_:=Z (hbox);have n2_:=Z ((pT hg:w.heap.size≤gb877));have n3_:=Z ((pT hg:w.heap.size≤gb877));clear HB;have HB:=n0_;have BK877:=n1_;have GW877:=n2_;have GE877:=n3_;clear n0_ n1_ n2_ n3_;clear hb hbox hg;have hcz11_0:w10.cell? ⟨gb877,0,none⟩=some (.slice A0_0 l0_0.length c0_0):=(kC BK877.out 0).trans rfl;have hfz11_0:=kF BK877.out 0)|((with_reducible refine gate_callee (f:=63) rfl ?_);refine goesL_ (some 8) rfl rfl Try.func63 (by kernel_rfl) rfl #[.agg #[.slice A0_0 l0_0.length c0_0]] rfl pG ?_;(with_reducible refine (configuration_Valid.calls k _ _ l0_0 t878 _ ?side1 ?side2 A2.out).mono ?_);(case side1=>repeat (first|exact (Kd.C_below HR0_0.out HB.out)|(with_reducible refine Kd.C_alloc ?_ _)|(with_reducible refine Kd.C_drewN ?_ _)|(with_reducible refine Kd.C_drew ?_)));(case side2=>exact HC0_0.out);rintro e w12 ⟨rfl,hb⟩;refine ⟨_,rfl,?_⟩;have n0_:=Z (blk_below (g:=gb877) (o:=.cells #[.slice A0_0 l0_0.length c0_0] 27 (0,0)) (pK BK877) hb);have n1_:=Z (below_step pB hb);clear BK877;clear HB;have BK877:=n0_;have HB:=n1_;clear n0_ n1_;(try clear hb);(try clear hb2);(try clear hk);(try clear hi)))
  go_ret2
  exact ⟨pF,pB⟩
def danger_splits.f (k:Nat) (l0_0:List (S34)) (a1:Int):Option (Bool):=(deletion_Delete.f k l0_0 a1).bind fun t954=>((intersection_Holds.f k t954).bind fun bt957=>(some (!bt957.1)))
set_option maxHeartbeats 8000000 in
set_option maxRecDepth 100000 in
theorem danger_splits.calls (k:Nat) (A0_0:Option Addr) (c0_0:Nat) (l0_0:List (S34)) (a1:Int) (r:Bool) (w:World) (hr0_0:Kd.C k34 w A0_0 l0_0.length l0_0) (hc0_0:l0_0.length≤c0_0) (h:danger_splits.f k l0_0 a1=some r) :
  Calls Try.prog 82 #[.agg #[.slice A0_0 l0_0.length c0_0],.int .i64 a1] w fun e w'=>e=.returned (.bool r)∧Below w.heap.size w w':=by
 have hu27:=Try.underlying27
 have HR0_0:=Z hr0_0
 have HC0_0:=Z hc0_0
 clear hr0_0 hc0_0
 have HB:=Z (Below.refl w.heap.size w)
 have H:((deletion_Delete.f k l0_0 a1).bind fun t954=>((intersection_Holds.f k t954).bind fun bt957=>(some (!bt957.1))))=some r:=h
 clear h
 replace H:=Option.bind_eq_some_iff.mp H
 obtain ⟨t954,A30,H⟩:=H
 try dsimp only at H
 have A3:=Z A30
 clear A30
 replace H:=Option.bind_eq_some_iff.mp H
 obtain ⟨⟨t957,t958⟩,A40,H⟩:=H
 try dsimp only at H
 have A4:=Z A40
 clear A40
 obtain rfl:=Option.some.inj H
 go_enter Try.func82,Try.ntmps82
 go_wp2_with (first|((with_reducible refine gate_dst (N:=2) rfl ?_);refine box_event ?hg (N:=2) ?hd (cs:=#[.slice A0_0 l0_0.length c0_0]) (t:=27) ?hr ?_;(case hd=>rfl);(case hg=>rfl);(case hr=>first|(go_simp;done)|(go_simp;rfl));intro gb953 hg w5 hbox hb;have n0_:=Z (below_step pB hb);have n1_:=Z (hbox);have n2_:=Z ((pT hg:w.heap.size≤gb953));have n3_:=Z ((pT hg:w.heap.size≤gb953));clear HB;have HB:=n0_;have BK953:=n1_;have GW953:=n2_;have GE953:=n3_;clear n0_ n1_ n2_ n3_;clear hb hbox hg;have hcz6_0:w5.cell? ⟨gb953,0,none⟩=some (.slice A0_0 l0_0.length c0_0):=(kC BK953.out 0).trans rfl;have hfz6_0:=kF BK953.out 0)|((with_reducible refine gate_callee (f:=106) rfl ?_);refine goesL_ (some 10) rfl rfl Try.func106 (by kernel_rfl) rfl #[.agg #[.slice A0_0 l0_0.length c0_0],.int .i64 a1] rfl pG ?_;(with_reducible refine (deletion_Delete.calls k _ _ l0_0 a1 t954 _ ?side1 ?side2 A3.out).mono ?_);(case side1=>repeat (first|exact (Kd.C_below HR0_0.out HB.out)|(with_reducible refine Kd.C_alloc ?_ _)|(with_reducible refine Kd.C_drewN ?_ _)|(with_reducible refine Kd.C_drew ?_)));(case side2=>exact HC0_0.out);rintro e w7 ⟨v955,rfl,ho0,hb⟩;refine ⟨_,rfl,?_⟩;have n0_:=Z (Kd.R_lower ho0 (below_size pB));have n1_:=Z (blk_below (g:=gb953) (o:=.cells #[.slice A0_0 l0_0.length c0_0] 27 (0,0)) (pK BK953) hb);have n2_:=Z (below_step pB hb);clear BK953;clear HB;have HO956:=n0_;have BK953:=n1_;have HB:=n2_;clear n0_ n1_ n2_;(try clear hb);(try clear hb2);(try clear hk);(try clear hi);(try clear ho0);obtain ⟨Ao8,co8,eo8⟩:=Kd.R_slice HO956.out;subst eo8)|((with_reducible refine gate_callee (f:=105) rfl ?_);refine goesL_ (some 11) rfl rfl Try.func105 (by kernel_rfl) rfl #[.agg #[.slice Ao8 t954.length co8]] rfl pG ?_;(with_reducible refine (intersection_Holds.calls k _ _ t954 t957 t958 _ ?side1 ?side2 A4.out).mono ?_);(case side1=>repeat (first|exact (Kd.R_reads' HO956.out).2.2|(with_reducible refine Kd.C_alloc ?_ _)|(with_reducible refine Kd.C_drewN ?_ _)|(with_reducible refine Kd.C_drew ?_)));(case side2=>exact (Kd.R_reads' HO956.out).2.1);rintro e w9 ⟨rfl,hb⟩;refine ⟨_,rfl,?_⟩;have n0_:=Z (Kd.R_below (pR HO956) hb);have n1_:=Z (blk_below (g:=gb953) (o:=.cells #[.slice A0_0 l0_0.length c0_0] 27 (0,0)) (pK BK953) hb);have n2_:=Z (below_step pB hb);clear HO956;clear BK953;clear HB;have HO956:=n0_;have BK953:=n1_;have HB:=n2_;clear n0_ n1_ n2_;(try clear hb);(try clear hb2);(try clear hk);(try clear hi)))
 go_ret
 exact ⟨pF,pB⟩
end Go.Proofs.Ytkjlcbfjllpcnaa.X
namespace Go.Proofs.Ytkjlcbfjllpcnaa.X
open Go.RowKit Go.Lib Go.Sort Go.Proofs.YtkjlcbfjllpcnaaW.PrintWords Go.Proofs.YtkjlcbfjllpcnaaW.PrintLast Go.Proofs.YtkjlcbfjllpcnaaW.PrintMore
set_option linter.unusedVariables false
theorem C_lit (W:World) (xs:List Int) (hm:xs.length≤9223372036854775807):(Kd.int .i64).C (W.alloc (.cells (nums .i64 xs).toArray 3)) (some ⟨W.heap.size,0,none⟩) xs.length xs:=by
 obtain ⟨A,c,hv,hr⟩:=own_reads (own_lit W 0 3 .i64 xs (Nat.zero_le _) hm)
 injection hv with hA hn hc
 subst hA
 exact Kd.C_of_reads (d:=(0:Int)) (h1:=fun _=>rfl) hr
theorem rank_calls (a:Int) (w:World):Calls Try.prog 116 #[.int .i64 a] w fun e w'=>e=.returned (.int .i64 (rank a))∧Drawn0 w w':=nodeset_rank.calls a (rank a) w (rank_eq a)
theorem cmpI_calls (a b:Int) (w:World):Calls Try.prog 115 #[.int .i64 a,.int .i64 b] w fun e w'=>e=.returned (.int .i64 (cmpI a b))∧Drawn0 w w':=cmp_Compare_int.calls a b (cmpI a b) w (cmpI_eq a b)
theorem alloc_grow (W:World) (a b:Nat) (o:Obj):((W.drewN a).alloc o).drewN b=grow (W.drewN (a+b)) #[o]:=by
 simp [grow,World.alloc,World.drewN,Nat.add_assoc]
theorem compare_grow (x y : Int) (W : World) : Calls Try.prog 94 #[.int .i64 x, .int .i64 y] W fun e w' => e = .returned (.int .i64 (cmpS x y)) ∧ ∃ q os', w' = grow (W.drewN q) os' := by
  go_enter Try.func94, Try.ntmps94
  go_wp2_with (first
    | (go_at_call 116; refine (rank_calls _ _).mono ?_; rintro e w' ⟨rfl, ⟨nd, rfl⟩⟩)
    | (go_at_call 115; refine (cmpI_calls _ _ _).mono ?_; rintro e w' ⟨rfl, ⟨nd, rfl⟩⟩)
    | (go_at_call 114; refine (cmp_Or_int.calls 4 _ 2 [_, _] _ _ (C_lit _ [_, _] (by simp)) (by simp) (or2_eq _ _)).mono ?_; rintro e w' ⟨rfl, ⟨nd, rfl⟩⟩))
  go_ret
  exact ⟨rfl, _, #[_], alloc_grow _ _ _ _⟩
abbrev RI (w:World) (base:Nat) (ok:Nat→Prop) (v:Value) (xs:List Int):Prop:=(Kd.int .i64).R 3 w base ok v xs
theorem take1 {α:Type} {l:List α} {j:Nat} (h:j < l.length):(l.drop j).take 1=[l[j]]:=by rw [List.drop_eq_getElem_cons h];rfl
theorem reps_ints {w:World} {base:Nat} {ok:Nat→Prop} (xs:List Int):Reps ((Kd.int .i64).M w base ok) 1 xs (xs.map (Value.int .i64)):=by
 refine ⟨by simp,fun j p hj=>?_⟩
 obtain ⟨hl,rfl⟩:=List.getElem?_eq_some_iff.1 hj
 show List.take 1 (List.drop (j * 1) _)=[_]
 rw [Nat.mul_one,take1 (by simpa using hl)]
 simp
theorem ints_reps {w:World} {base:Nat} {ok:Nat→Prop} {xs:List Int} {cs:List Value} (h:Reps ((Kd.int .i64).M w base ok) 1 xs cs):cs=xs.map (Value.int .i64):=by
 obtain ⟨hl,h2⟩:=h
 apply List.ext_getElem (by simpa using hl)
 intro j h3 h4
 have h5:j < xs.length:=by simpa using h4
 have h6:(cs.drop (j * 1)).take 1=[.int .i64 xs[j]]:=h2 j xs[j] (List.getElem?_eq_getElem h5)
 rw [Nat.mul_one,take1 h3] at h6
 simpa using h6
theorem R_of_own {w:World} {base:Nat} {ok:Nat→Prop} {v:Value} {xs:List Int} (hok:∀ k,v.ownBlock=some k→ok k) (h:w.ownsRow base 3 1 v xs.length (xs.map (Value.int .i64))):RI w base ok v xs :=
 ⟨hok,_,h,reps_ints xs⟩
theorem own_of_R {w:World} {base:Nat} {ok:Nat→Prop} {v:Value} {xs:List Int} (h:RI w base ok v xs):w.ownsRow base 3 1 v xs.length (xs.map (Value.int .i64)):=by
 obtain ⟨_,inner,ho,hr⟩:=h
 rw [ints_reps hr] at ho
 exact ho
theorem cmpI_neg {a b:Int}:cmpI a b < 0 ↔ a < b:=by unfold cmpI;split <;> (try split) <;> omega
theorem cmpI_zero {a b:Int}:cmpI a b=0 ↔ a=b:=by unfold cmpI;split <;> (try split) <;> omega
def ltS (x y:Int):Prop:=rank x < rank y ∨ (rank x=rank y∧x < y)
theorem cmpS_neg {x y:Int}:cmpS x y < 0 ↔ ltS x y:=by
 unfold cmpS orI ltS
 split
 ·rename_i h;rw [cmpI_zero] at h;rw [cmpI_neg];omega
 ·rename_i h;rw [cmpI_neg];rw [cmpI_zero] at h;omega
theorem ltOf_iff {x y:Int}:ltOf cmpS x y=true ↔ ltS x y:=by simp [ltOf,cmpS_neg]
theorem ltOf_not {x y:Int}:ltOf cmpS x y=false ↔ ¬ ltS x y:=by rw [← ltOf_iff];simp
theorem ltS_swo:SWO (ltOf cmpS) where
 irrefl x:=by rw [ltOf_not];unfold ltS;omega
 trans x y z h1 h2:=by rw [ltOf_iff] at *;unfold ltS at *;omega
 ntrans x y z h1 h2:=by rw [ltOf_not] at *;unfold ltS at *;omega
theorem ltS_total (x y:Int) (h1:ltOf cmpS x y=false) (h2:ltOf cmpS y x=false):x=y:=by rw [ltOf_not] at *;unfold ltS at *;omega
def sortS (l:List Int):List Int:=l.mergeSort fun x y=>!(ltOf cmpS) y x
theorem sortS_length (l:List Int):(sortS l).length=l.length:=by simp [sortS]
theorem sort_row {w:World} {base:Nat} {ok:Nat→Prop} {v:Value} {l:List Int} (h:RI w base ok v l) (hl:l.length < 4611686018427387904) :
  Calls Try.prog 93 #[v,.func (.func 94) #[] #[]] w fun e w'=>e=.returned (.tuple #[])∧RI w' base ok v (sortS l)∧w.grownBy w' v.ownBlock:=by
 have ho:=own_of_R h
 rcases Nat.eq_zero_or_pos l.length with h0|h0
 ·obtain rfl:=List.eq_nil_of_length_eq_zero h0
  obtain ⟨A,c,rfl⟩:=own_slice ho
  refine (Try.slices_SortFunc_none (α:=Int) A c _ w).mono ?_
  rintro e w' ⟨rfl,rfl⟩
  exact ⟨rfl,by simpa [sortS] using h,grown_of_below (Below.refl _ _) _⟩
 ·rcases ho.2 with ⟨_,h1⟩|⟨g,cap,cur,rfl,hb,hh,h1,h2,h3,h4⟩
  ·omega
  ·have hH:=holds_of_blockI hh (by simpa using h4)
   refine (Try.slices_SortFunc_total (Value.int .i64) (fun _=>rfl) cmpS ltS_swo 94 #[] g 0 cap l.toArray w (enters_of Try.func94 (by kernel_rfl) rfl) (fun m os dk _ x y=>by simpa using compare_grow x y _) hH (Array.getElem?_eq_some_iff.1 hh).1 (by simpa using hl) ltS_total).mono ?_
   rintro e w' ⟨rfl,n,os,rfl⟩
   have hs:=sortS_length l
   refine ⟨rfl,R_of_own h.1 ?_,grownBy_sortedI _⟩
   rw [hs]
   exact ownsRow_sortedI hs hb hh h1 h2 h3
theorem clone_row {w:World} {A:Option Addr} {c:Nat} {l:List Int} (hr:Kd.C (Kd.int .i64) w A l.length l) (hl:l.length≤17592186044416) :
  Calls Try.prog 97 #[.slice A l.length c] w fun e w'=>∃ v,e=.returned v∧RI w' w.heap.size (fun _=>True) v l∧Below w.heap.size w w':=by
 rcases Nat.eq_zero_or_pos l.length with h0|h0
 ·obtain rfl:=List.eq_nil_of_length_eq_zero h0
  cases A with
  | none =>
   refine (Try.slices_Clone_int_nil _ c w).mono ?_
   rintro e w' ⟨rfl,rfl⟩
   exact ⟨_,rfl,Kd.R_nil _ _ _ _ _,Below.refl _ _⟩
  | some a =>
   refine (Try.slices_Clone_int_zero a c w).mono ?_
   rintro e w' ⟨v,rfl,ho,_,hb⟩
   exact ⟨v,rfl,R_of_own (fun _ _=>trivial) (by simpa using ho),hb⟩
 ·obtain ⟨b,off,rfl,_,hc⟩:=C_ints hr h0
  refine (Try.slices_Clone_int b off l.length c l w (Nat.le_refl _) (by omega) (fun j hj=>by rw [hc j hj];simp [List.getD,hj])).mono ?_
  rintro e w' ⟨v,rfl,ho,_,hb⟩
  exact ⟨v,rfl,R_of_own (fun _ _=>trivial) (by simpa using ho),hb⟩
theorem least1_calls (s:Int) (W:World):Calls Try.prog 98 #[.int .i64 s] W fun e w'=>e=.returned (.bool (!vld s))∧∃ q,w'=W.drewN q:=by
 go_enter Try.func98,Try.ntmps98
 go_wp2_with (go_at_call 59;(with_reducible refine (nodeset_Valid.calls s (vld s) _ (Valid_eq s)).mono ?_);rintro e w' ⟨rfl,⟨nd,rfl⟩⟩)
 go_ret
 exact ⟨rfl,_,rfl⟩
theorem delete_none (A:Option Addr) (c:Nat) (fv:Value) (w:World):Calls Try.prog 96 #[.slice A 0 c,fv] w fun e w'=>e=.returned (.slice A 0 c)∧w'=w:=by
 go_enter Try.func96,Try.ntmps96
 go_wp2_with (go_at_call 117;refine (Try.slices_IndexFunc_empty (α:=Int) A c fv _).mono ?_;rintro e w' ⟨rfl,rfl⟩)
 go_ret
 exact ⟨rfl,rfl⟩
theorem delete_row {w:World} {base:Nat} {ok:Nat→Prop} {v:Value} {l:List Int} (h:RI w base ok v l) (hl:l.length < 4611686018427387904) :
  Calls Try.prog 96 #[v,.func (.func 98) #[] #[]] w fun e w'=>∃ v',e=.returned v'∧RI w' base ok v' (l.filter vld)∧v'.ownBlock=v.ownBlock∧w.grownBy w' v.ownBlock:=by
 have ho:=own_of_R h
 rcases Nat.eq_zero_or_pos l.length with h0|h0
 ·obtain rfl:=List.eq_nil_of_length_eq_zero h0
  obtain ⟨A,c,rfl⟩:=own_slice ho
  refine (delete_none A c _ w).mono ?_
  rintro e w' ⟨rfl,rfl⟩
  exact ⟨_,rfl,by simpa using h,rfl,grown_of_below (Below.refl _ _) _⟩
 ·rcases ho.2 with ⟨_,h1⟩|⟨g,cap,cur,rfl,hb,hh,h1,h2,h3,h4⟩
  ·omega
  ·have hH:=holds_of_blockI hh (by simpa using h4)
   refine (Try.slices_DeleteFunc (Value.int .i64) (fun _=>rfl) (fun s=>!vld s) 98 #[] (enters_of Try.func98 (by kernel_rfl) rfl) 0 (fun _=>by kernel_rfl) g 0 cap l.toArray w (fun W x _=>by simpa [FnGives] using least1_calls x W) (fun n os dk x _=>by simpa [FnGives] using least1_calls x _) hH (by simp;unfold maxLen at h2;omega) (by simpa using h1)).mono ?_
   rintro e w' ⟨rfl,q,rfl⟩
   have hf:(l.toArray.toList.filter fun x=>!(!vld x))=l.filter vld:=by simp
   rw [hf]
   have hfl:=List.length_filter_le vld l
   have hgr:∀ d:Array Int,w.grownBy (putRow (Value.int .i64) (Sort.ahead w q) g 0 d) (some g):=fun d=>by
    have:=grownBy_sortedI (w:=w) (g:=g) (n:=q) (os:=#[]) d
    rwa [grow_empty] at this
   refine ⟨_,rfl,R_of_own (fun k hk=>h.1 k (by simpa [Value.ownBlock] using hk)) ?_,rfl,hgr _⟩
   have hz:((l.filter vld++List.replicate (l.toArray.size - (l.filter vld).length) (0:Int))).length=l.length:=by simp;omega
   have hs:=ownsRow_sortedI (n:=q) (os:=#[]) hz hb hh h1 h2 h3
   rw [grow_empty] at hs
   rcases hs.2 with ⟨hn,_⟩|⟨g',cap',cur',he,hb',hh',k1,k2,k3,k4⟩
   ·cases hn
   ·injection he with he1 he2 he3
    injection he1 with he1
    injection he1 with he1
    subst he1;subst he3
    refine ⟨by simp,.inr ⟨g,cap,cur',rfl,hb',hh',by omega,k2,k3,?_⟩⟩
    rw [Nat.mul_one] at k4 ⊢
    have h5:=congrArg (List.take (l.filter vld).length) k4
    rw [List.take_take,Nat.min_eq_left hfl,List.map_append,List.take_append_of_le_length (by simp)] at h5
    exact h5.trans (List.take_of_length_le (by simp))
def sub (t s:Int):Bool:=Go.bits .andNot .i64 t s == 0
def leastStep (out:List Int) (s:Int):List Int:=if (out.any fun t=>sub t s)=true then out else out++[s]
def leastFold (l:List Int):List Int:=l.foldl leastStep []
def leastS (l:List Int):List Int:=leastFold (sortS (l.filter vld))
def nodeset_Least.f (a0:List Int):Option (List Int):=if a0.length≤1048576 then some (leastS a0) else none
theorem leastFold_le (l:List Int):(leastFold l).length≤l.length:=by
 have h:∀ (l acc:List Int),(l.foldl leastStep acc).length≤acc.length+l.length:=by
  intro l
  induction l with
  | nil=>intro acc;simp
  | cons x r ih =>
   intro acc
   have:=ih (leastStep acc x)
   have h2:(leastStep acc x).length≤acc.length+1:=by unfold leastStep;split <;> simp
   simp only [List.foldl_cons,List.length_cons];omega
 simpa [leastFold] using h l []
theorem least2_calls (t s:Int) (B:Nat) (W:World) (hc:W.cell? ⟨B,0,none⟩=some (.int .i64 s)):Calls Try.prog 100 #[.int .i64 t,.pointer (some ⟨B,0,none⟩)] W fun e w'=>e=.returned (.bool (sub t s))∧∃ q,w'=W.drewN q:=by
 go_enter Try.func100,Try.ntmps100
 go_wp2
 go_ret
 exact ⟨rfl,0,rfl⟩
theorem contains_row {W:World} {A:Option Addr} {c:Nat} {l:List Int} {s:Int} {B:Nat} (hr:Kd.C (Kd.int .i64) W A l.length l) (hc:W.cell? ⟨B,0,none⟩=some (.int .i64 s)) :
  Calls Try.prog 99 #[.slice A l.length c,.func (.func 100) #[] #[.pointer (some ⟨B,0,none⟩)]] W fun e w'=>e=.returned (.bool (l.any fun t=>sub t s))∧∃ q,w'=W.drewN q:=by
 rcases Nat.eq_zero_or_pos l.length with h0|h0
 ·obtain rfl:=List.eq_nil_of_length_eq_zero h0
  refine (Try.slices_ContainsFunc_empty (α:=Int) A c _ W).mono ?_
  rintro e w' ⟨rfl,rfl⟩
  exact ⟨rfl,0,rfl⟩
 ·obtain ⟨b,off,rfl,_,hcc⟩:=C_ints hr h0
  have hB:=World.block_lt_of_cell? W _ hc
  refine (Try.slices_ContainsFunc (Value.int .i64) (fun t=>sub t s) 100 #[.pointer (some ⟨B,0,none⟩)] (enters_of Try.func100 (by kernel_rfl) rfl) b off l.length c l W (fun W' x hb=>least2_calls x s B W' ((hb.cell (p:=⟨B,0,none⟩) hB).trans hc)) (Nat.le_refl _) (C_max hr) hcc).mono ?_
  rintro e w' ⟨rfl,hq⟩
  rw [List.take_length]
  exact ⟨rfl,hq⟩
set_option maxHeartbeats 4000000 in
set_option maxRecDepth 100000 in
theorem nodeset_Least.calls (A0 : Option Addr) (c0 : Nat) (l0 : List Int) (r : List Int) (w : World) (hr0 : Kd.C (Kd.int .i64) w A0 l0.length l0) (hc0 : l0.length ≤ c0) (h : nodeset_Least.f l0 = some r) :
    Calls Try.prog 66 #[.slice A0 l0.length c0] w fun e w' => ∃ v0_ : Value, e = .returned (v0_) ∧ Kd.R (Kd.int .i64) 3 w' w.heap.size (fun _ => True) v0_ r ∧ Below w.heap.size w w' := by
  unfold nodeset_Least.f at h
  split at h
  case isFalse => cases h
  rename_i hlen
  obtain rfl := Option.some.inj h
  clear h
  have HL := Aside0.mk hlen
  have hfl := List.length_filter_le vld l0
  have HF : Aside0 ((l0.filter vld).length < 4611686018427387904) := ⟨by omega⟩
  have HR := Aside0.mk hr0
  clear hr0 hfl hlen
  unfold leastS
  obtain ⟨S, HS⟩ : ∃ S, Aside0 (S = sortS (l0.filter vld)) := ⟨_, ⟨rfl⟩⟩
  have HSl : Aside0 (S.length ≤ 1048576) := ⟨by rw [HS.out, sortS_length]; have := List.length_filter_le vld l0; have := HL.out; omega⟩
  rw [← HS.out]
  go_enter Try.func66, Try.ntmps66
  go_wp2_with (first
    | (go_at_call 97; refine (clone_row HR.out (by have := HL.out; omega)).mono ?_; rintro e w1 ⟨v1, rfl, h1, hb1⟩; have H1 := Aside0.mk h1; have B1 := Aside0.mk hb1; clear h1 hb1)
    | (go_at_call 96; refine (delete_row H1.out (by have := HL.out; omega)).mono ?_; rintro e w2 ⟨v2, rfl, h2, ho2, hg2⟩; have H2 := Aside0.mk h2; have B2 := Aside0.mk (B1.out.grown hg2 B1.out.size (own_base (own_of_R H1.out))); clear h2 ho2 hg2)
    | (go_at_call 93; refine (sort_row H2.out HF.out).mono ?_; rintro e w3 ⟨rfl, h3, hg3⟩; rw [← HS.out] at h3; have H3 := Aside0.mk h3; have B3 := Aside0.mk (B2.out.grown hg3 B2.out.size (own_base (own_of_R H2.out))); clear h3 hg3; obtain ⟨A2, c2, e2⟩ := Kd.R_slice H3.out; subst e2))
  have B1' := B1.out
  clear H1 H2 B1 B2 B1' HF HL HR
  go_loopw [3, 13] (fun o i wr => ∃ x : Int, i = .int .i64 x ∧ Aside0 (0 ≤ x ∧ x ≤ S.length) ∧ Aside0 (RI wr w.heap.size (fun _ => True) o (leastFold (S.take x.toNat))) ∧ Aside0 (RI wr w.heap.size (fun k => True ∧ some k ≠ o.ownBlock) (.slice A2 S.length c2) S) ∧ Aside0 (RowKit.Below w.heap.size w wr)) (fun _ i _ => S.length - (intOf i).toNat)
  case atStart => exact ⟨0, rfl, ⟨by omega⟩, ⟨Kd.R_nil _ _ _ _ _⟩, ⟨Kd.R_mono H3.out (fun k _ => ⟨trivial, by simp [Value.ownBlock]⟩)⟩, B3⟩
  case round =>
    obtain ⟨x, rfl, Hx, HO, HS3, HB⟩ := hrel
    clear H3 B3
    obtain ⟨ob, rfl⟩ : ∃ ob, ob = wr := ⟨_, rfl⟩
    by_cases hlt : x < S.length
    · have hd : decide (x < (S.length : Int)) = true := decide_eq_true hlt
      have p0 := Hx.out.1
      obtain ⟨F, HF⟩ : ∃ F, Aside0 (F = leastFold (S.take x.toNat)) := ⟨_, ⟨rfl⟩⟩
      rw [← HF.out] at HO
      obtain ⟨A, c, e0⟩ := Kd.R_slice HO.out
      subst e0
      obtain ⟨ad, ea, hx⟩ := Kd.at_int (Kd.R_reads' HS3.out).2.2 x p0 hlt
      cases ea
      obtain ⟨y, Hy⟩ : ∃ y, Aside0 (y = rd S x) := ⟨_, ⟨rfl⟩⟩
      rw [← Hy.out] at hx
      obtain ⟨b, Hb⟩ : ∃ b, Aside0 (b = F.any fun t => sub t y) := ⟨_, ⟨rfl⟩⟩
      have Hlt := Aside0.mk hlt
      have HFl : Aside0 (F.length ≤ 1048576) := ⟨by rw [HF.out]; have := leastFold_le (S.take x.toNat); have := HSl.out; simp at *; omega⟩
      have Hnext : Aside0 (leastFold (S.take (wrap64 (x + 1)).toNat) = leastStep F y ∧ wrap64 (x + 1) = x + 1) := by
        have h1 : wrap64 (x + 1) = x + 1 := by unfold wrap64; have := HSl.out; omega
        refine ⟨?_, h1⟩
        have h2 : (x + 1).toNat = x.toNat + 1 := by omega
        have h3 : x.toNat < S.length := by omega
        have h4 : Go.Proofs.YtkjlcbfjllpcnaaW.PrintWords.rd S x = S[x.toNat] := by simp [Go.Proofs.YtkjlcbfjllpcnaaW.PrintWords.rd, List.getD, h3]
        rw [h1, h2, HF.out, Hy.out, h4, List.take_succ_eq_append_getElem h3]
        unfold leastFold
        rw [List.foldl_append]
        rfl
      replace hlt := eq_true hlt
      replace p0 := eq_true p0
      cases b
      all_goals
        go_wp2_with (first
          | (go_at_call 99; refine (contains_row (s := y) (B := ob.heap.size) (Kd.R_reads' (Kd.R_alloc HO.out _)).2.2 (by simp)).mono ?_; rintro e w1 ⟨he, hq⟩; rw [← Hb.out] at he; subst he; have HO1 : Aside0 (RI w1 w.heap.size (fun _ => True) (.slice A F.length c) F) := (by obtain ⟨q, rfl⟩ := hq; exact ⟨Kd.R_drewN (Kd.R_alloc HO.out _) _⟩); have HS1 : Aside0 (RI w1 w.heap.size (fun k => True ∧ some k ≠ (Value.slice A F.length c).ownBlock) (.slice (some ad) S.length c2) S) := (by obtain ⟨q, rfl⟩ := hq; exact ⟨Kd.R_drewN (Kd.R_alloc HS3.out _) _⟩); have HB1 : Aside0 (RowKit.Below w.heap.size w w1) := (by obtain ⟨q, rfl⟩ := hq; exact ⟨wN (wA HB.out _) _⟩); have hcl : w1.cell? ⟨ob.heap.size, 0, none⟩ = some (.int .i64 y) := (by obtain ⟨q, rfl⟩ := hq; simp); clear hq)
          | (at_builtin; go_loud (refine Kd.R_append (Kd.int .i64) (w0 := w) w.heap.size rfl (.tmp 21) (.tmp 23) 22 3 (.int .i64 0) 8 rfl Try.underlying22 info3 rfl (by decide) (by omega) (.slice A F.length c) F y [.int .i64 y] (fun _ => True) (fun _ => False) rfl rfl ?aP (fun _ hk => hk.elim) (fun _ _ => trivial) ?aO ?aB ?aS ?aL ?_; (case aP => exact rfl); (case aO => exact HO1.out); (case aB => exact HB1.out); (case aS => exact HB1.out.size); (case aL => have := HFl.out; omega); intro v4 w4 h4 hb4 hg4 hat4; have H4 := Aside0.mk h4; have B4 := Aside0.mk hb4; have HS4 := Aside0.mk (Kd.R_after HS1.out hg4 hat4); clear h4 hb4 hg4 hat4)))
        go_roundw
        case rel =>
          first
          | exact ⟨wrap64 (x + 1), rfl, ⟨by have := Hnext.out.2; have := Hlt.out; have := Hx.out; omega⟩, ⟨by rw [Hnext.out.1]; unfold leastStep; rw [← Hb.out]; exact H4.out⟩, HS4, B4⟩
          | exact ⟨wrap64 (x + 1), rfl, ⟨by have := Hnext.out.2; have := Hlt.out; have := Hx.out; omega⟩, ⟨by rw [Hnext.out.1]; unfold leastStep; rw [← Hb.out]; exact HO1.out⟩, HS1, HB1⟩
        case measure => have h1 := Hnext.out.2; have := Hlt.out; have := Hx.out; simp only [intOf]; simp [h1]; omega
    · have hd : decide (x < (S.length : Int)) = false := decide_eq_false hlt
      have Hlt := Aside0.mk hlt
      clear hlt
      go_wp2
      go_ret
      have hx : x = S.length := by have := Hx.out; have := Hlt.out; omega
      rw [hx] at HO
      exact ⟨_, rfl, by simpa using HO.out, HB.out⟩
def subsBelow (s:Int) (m:Nat):List Int:=((List.range m).map Int.ofNat).filter fun t=>sub t s
def subsetsS (s:Int):List Int:=if vld s then sortS (subsBelow s (s.toNat+1)) else []
def nodeset_Subsets.f (a0:Int):Option (List Int):=some (subsetsS a0)
theorem subsBelow_le (s:Int) (m:Nat):(subsBelow s m).length≤m:=by
 unfold subsBelow
 have:=List.length_filter_le (fun t=>sub t s) ((List.range m).map Int.ofNat)
 simpa using this
theorem subsBelow_succ (s:Int) (m:Nat):subsBelow s (m+1)=if sub (m:Int) s=true then subsBelow s m++[(m:Int)] else subsBelow s m:=by
 unfold subsBelow
 rw [List.range_succ,List.map_append,List.filter_append]
 split
 ·rename_i h;simp [h]
 ·rename_i h;simp [h]
set_option maxHeartbeats 4000000 in
set_option maxRecDepth 100000 in
theorem nodeset_Subsets.calls (a0 : Int) (r : List Int) (w : World) (h : nodeset_Subsets.f a0 = some r) : Calls Try.prog 64 #[.int .i64 a0] w fun e w' => ∃ v0_ : Value, e = .returned (v0_) ∧ Kd.R (Kd.int .i64) 3 w' w.heap.size (fun _ => True) v0_ r ∧ Below w.heap.size w w' := by
  obtain rfl := Option.some.inj h
  clear h
  obtain ⟨b, Hb⟩ : ∃ b, Aside0 (b = vld a0) := ⟨_, ⟨rfl⟩⟩
  unfold subsetsS
  rw [← Hb.out]
  cases b with
  | false =>
    go_enter Try.func64, Try.ntmps64
    go_wp2
    go_loopw [3, 4] (fun o i wr => o = .slice none 0 0 ∧ i = .int .i64 0 ∧ Aside0 (RowKit.Below w.heap.size w wr)) (fun _ _ _ => 0)
    case atStart => exact ⟨rfl, rfl, ⟨Below.refl _ _⟩⟩
    case round =>
      obtain ⟨rfl, rfl, HB⟩ := hrel
      obtain ⟨ob, rfl⟩ : ∃ ob, ob = wr := ⟨_, rfl⟩
      go_wp2_with (first
        | (go_at_call 59; refine (nodeset_Valid.calls a0 false _ (by rw [Hb.out]; exact Valid_eq a0)).mono ?_; rintro e w1 ⟨rfl, ⟨q, rfl⟩⟩)
        | (go_at_call 93; refine (sort_row (base := w.heap.size) (ok := fun _ => True) (l := []) (Kd.R_nil _ _ _ _ _) (by simp)).mono ?_; rintro e w3 ⟨rfl, h3, hg3⟩))
      go_ret
      exact ⟨_, rfl, Kd.R_nil _ _ _ _ _, (wN HB.out _).grown hg3 (by have := HB.out.size; simpa using this) (by simp [Value.ownBlock])⟩
  | true =>
    simp only [if_true]
    have Hv : Aside0 (0 ≤ a0 ∧ a0 < 1024) := ⟨vld_iff.1 Hb.out.symm⟩
    go_enter Try.func64, Try.ntmps64
    go_wp2
    go_loopw [3, 4] (fun o i wr => ∃ x : Int, i = .int .i64 x ∧ Aside0 (0 ≤ x ∧ x ≤ a0 + 1) ∧ Aside0 (RI wr w.heap.size (fun _ => True) o (subsBelow a0 x.toNat)) ∧ Aside0 (RowKit.Below w.heap.size w wr)) (fun _ i _ => (a0 + 1 - intOf i).toNat)
    case atStart => exact ⟨0, rfl, ⟨by have := Hv.out; omega⟩, ⟨by exact Kd.R_nil _ _ _ _ _⟩, ⟨Below.refl _ _⟩⟩
    case round =>
      obtain ⟨x, rfl, Hx, HO, HB⟩ := hrel
      obtain ⟨ob, rfl⟩ : ∃ ob, ob = wr := ⟨_, rfl⟩
      obtain ⟨F, HF⟩ : ∃ F, Aside0 (F = subsBelow a0 x.toNat) := ⟨_, ⟨rfl⟩⟩
      rw [← HF.out] at HO
      have HFl : Aside0 (F.length ≤ 1025) := ⟨by rw [HF.out]; have := subsBelow_le a0 x.toNat; have := Hx.out; have := Hv.out; omega⟩
      have Hnext : Aside0 (wrap64 (x + 1) = x + 1 ∧ subsBelow a0 (x + 1).toNat = if sub x a0 = true then F ++ [x] else F) := ⟨by
        have h1 := Hx.out
        have h2 := Hv.out
        refine ⟨by unfold wrap64; omega, ?_⟩
        obtain ⟨m, rfl⟩ := Int.eq_ofNat_of_zero_le h1.1
        rw [HF.out, show ((m : Int) + 1).toNat = m + 1 from by omega, show (m : Int).toNat = m from by omega]
        exact subsBelow_succ a0 m⟩
      by_cases hlt : x ≤ a0
      · have hd : decide (x ≤ a0) = true := decide_eq_true hlt
        have Hlt := Aside0.mk hlt
        clear hlt
        obtain ⟨c, Hc⟩ : ∃ c, Aside0 (c = sub x a0) := ⟨_, ⟨rfl⟩⟩
        have hc : (Go.bits .andNot .i64 x a0 == 0) = c := by rw [Hc.out]; rfl
        cases c
        all_goals
          go_wp2_with (first
            | (go_at_call 59; refine (nodeset_Valid.calls a0 true _ (by rw [Hb.out]; exact Valid_eq a0)).mono ?_; rintro e w1 ⟨rfl, hq⟩; have HO1 := Aside0.mk (Kd.R_below HO.out hq.below); have HB1 := Aside0.mk (HB.out.trans (hq.below.mono HB.out.size)); clear hq)
            | (at_builtin; refine Kd.R_append (Kd.int .i64) (w0 := w) w.heap.size rfl (.tmp 18) (.tmp 20) 22 3 (.int .i64 0) 8 rfl Try.underlying22 info3 rfl (by decide) (by omega) _ F x [.int .i64 x] (fun _ => True) (fun _ => False) rfl rfl ?aP (fun _ hk => hk.elim) (fun _ _ => trivial) ?aO ?aB ?aS ?aL ?_; (case aP => exact rfl); (case aO => exact HO1.out); (case aB => exact HB1.out); (case aS => exact HB1.out.size); (case aL => have := HFl.out; omega); intro v4 w4 h4 hb4 hg4 hat4; have H4 := Aside0.mk h4; have B4 := Aside0.mk hb4; clear h4 hb4 hg4 hat4))
          go_roundw
          case rel =>
            first
            | exact ⟨wrap64 (x + 1), rfl, ⟨by have := Hnext.out.1; have := Hlt.out; have := Hx.out; omega⟩, ⟨by rw [Hnext.out.1, Hnext.out.2, ← Hc.out]; exact H4.out⟩, B4⟩
            | exact ⟨wrap64 (x + 1), rfl, ⟨by have := Hnext.out.1; have := Hlt.out; have := Hx.out; omega⟩, ⟨by rw [Hnext.out.1, Hnext.out.2, ← Hc.out]; exact HO1.out⟩, HB1⟩
          case measure => have h1 := Hnext.out.1; have := Hlt.out; have := Hx.out; simp [intOf, h1]; omega
      · have hd : decide (x ≤ a0) = false := decide_eq_false hlt
        have Hlt := Aside0.mk hlt
        clear hlt
        have hx : Aside0 (x.toNat = a0.toNat + 1) := ⟨by have := Hx.out; have := Hlt.out; have := Hv.out; omega⟩
        go_wp2_with (first
          | (go_at_call 59; refine (nodeset_Valid.calls a0 true _ (by rw [Hb.out]; exact Valid_eq a0)).mono ?_; rintro e w1 ⟨rfl, hq⟩; have HO1 := Aside0.mk (Kd.R_below HO.out hq.below); have HB1 := Aside0.mk (HB.out.trans (hq.below.mono HB.out.size)); clear hq)
          | (go_at_call 93; refine (sort_row HO1.out (by have := HFl.out; omega)).mono ?_; rintro e w3 ⟨rfl, h3, hg3⟩; have H3 := Aside0.mk h3; have B3 := Aside0.mk (HB1.out.grown hg3 HB1.out.size (own_base (own_of_R HO1.out))); clear h3 hg3))
        go_ret
        exact ⟨_, rfl, by rw [← hx.out, ← HF.out]; exact H3.out, B3.out⟩
end Go.Proofs.Ytkjlcbfjllpcnaa.X
namespace Go.Proofs.Ytkjlcbfjllpcnaa.X
open Go.RowKit Go.Proofs.YtkjlcbfjllpcnaaW.PrintWords Go.Proofs.YtkjlcbfjllpcnaaW.PrintLast Go.Proofs.YtkjlcbfjllpcnaaW.PrintMore
attribute [local go_sem] max2_int min2_int max_two min_two max_three min_three max_four min_four
set_option linter.unusedVariables false
set_option linter.unusedSimpArgs false
def danger_least_splits.l0:Nat→List Int→List Int→Int→Int→List (S34)→Option (List Int)
 | 0,_,_,_,_,_=>none
 | k+1,x5,x10,x11,x12,x287000=>if x12 < x11 then (if 0≤x12 then (if x12 < (x10.length:Int) then ((danger_splits.f k x287000 (rd x10 x12)).bind fun t292=>(if t292=true then (if x5.length < 17592186044416 then (danger_least_splits.l0 k (x5++[rd x10 x12]) x10 x11 (wrap64 (x12+1)) x287000) else (none)) else (danger_least_splits.l0 k x5 x10 x11 (wrap64 (x12+1)) x287000))) else (none)) else (none)) else ((nodeset_Least.f x5).bind fun t296=>(some t296))
def danger_least_splits.f (k:Nat) (l0_0:List (S34)):Option (List Int):=(danger_members.f l0_0).bind fun t287=>((nodeset_Subsets.f t287).bind fun t288=>(danger_least_splits.l0 k ([]:List Int) t288 (t288.length:Int) 0 l0_0))
set_option maxHeartbeats 8000000 in
set_option maxRecDepth 100000 in
theorem danger_least_splits.calls (k:Nat) (A0_0:Option Addr) (c0_0:Nat) (l0_0:List (S34)) (r:List Int) (w:World) (hr0_0:Kd.C k34 w A0_0 l0_0.length l0_0) (hc0_0:l0_0.length≤c0_0) (h:danger_least_splits.f k l0_0=some r) :
  Calls Try.prog 81 #[.agg #[.slice A0_0 l0_0.length c0_0],.func (.func 82) #[] #[]] w fun e w'=>∃ v0_:Value,e=.returned (v0_)∧Kd.R (Kd.int .i64) 3 w' w.heap.size (fun _=>True) v0_ r∧Below w.heap.size w w':=by
 have hu27:=Try.underlying27
 have HR0_0:=Z hr0_0
 have HC0_0:=Z hc0_0
 clear hr0_0 hc0_0
 have HB:=Z (Below.refl w.heap.size w)
 have H:((danger_members.f l0_0).bind fun t287=>((nodeset_Subsets.f t287).bind fun t288=>(danger_least_splits.l0 k ([]:List Int) t288 (t288.length:Int) 0 l0_0)))=some r:=h
 clear h
 replace H:=Option.bind_eq_some_iff.mp H
 obtain ⟨t287,A20,H⟩:=H
 try dsimp only at H
 have A2:=Z A20
 clear A20
 replace H:=Option.bind_eq_some_iff.mp H
 obtain ⟨t288,A30,H⟩:=H
 try dsimp only at H
 have A3:=Z A30
 clear A30
 have H':=Z H
 clear H
 go_enter Try.func81,Try.ntmps81
 go_wp2_with (first|((with_reducible refine gate_dst (N:=2) rfl ?_);refine box_event ?hg (N:=2) ?hd (cs:=#[.slice A0_0 l0_0.length c0_0]) (t:=27) ?hr ?_;(case hd=>rfl);(case hg=>rfl);(case hr=>first|(go_simp;done)|(go_simp;rfl));intro gb286 hg w4 hbox hb;have n0_:=Z (below_step pB hb);have n1_:=Z (hbox);have n2_:=Z ((pT hg:w.heap.size≤gb286));have n3_:=Z ((pT hg:w.heap.size≤gb286));clear HB;have HB:=n0_;have BK286:=n1_;have GW286:=n2_;have GE286:=n3_;clear n0_ n1_ n2_ n3_;clear hb hbox hg;have hcz5_0:w4.cell? ⟨gb286,0,none⟩=some (.slice A0_0 l0_0.length c0_0):=(kC BK286.out 0).trans rfl;have hfz5_0:=kF BK286.out 0)|((with_reducible refine gate_callee (f:=104) rfl ?_);refine goesL_ (some 9) rfl rfl Try.func104 (by kernel_rfl) rfl #[.agg #[.slice A0_0 l0_0.length c0_0]] rfl pG ?_;(with_reducible refine (danger_members.calls _ _ l0_0 t287 _ ?side1 ?side2 A2.out).mono ?_);(case side1=>repeat (first|exact (Kd.C_below HR0_0.out HB.out)|(with_reducible refine Kd.C_alloc ?_ _)|(with_reducible refine Kd.C_drewN ?_ _)|(with_reducible refine Kd.C_drew ?_)));(case side2=>exact HC0_0.out);rintro e w6 ⟨rfl,hb⟩;refine ⟨_,rfl,?_⟩;have n0_:=Z (blk_below (g:=gb286) (o:=.cells #[.slice A0_0 l0_0.length c0_0] 27 (0,0)) (pK BK286) hb);have n1_:=Z (below_step pB hb);clear BK286;clear HB;have BK286:=n0_;have HB:=n1_;clear n0_ n1_;(try clear hb);(try clear hb2);(try clear hk);(try clear hi))|((with_reducible refine gate_callee (f:=64) rfl ?_);refine goesL_ (some 10) rfl rfl Try.func64 (by kernel_rfl) rfl #[.int .i64 t287] rfl pG ?_;(with_reducible refine (nodeset_Subsets.calls t287 t288 _ A3.out).mono ?_);rintro e w7 ⟨v289,rfl,ho0,hb⟩;refine ⟨_,rfl,?_⟩;have n0_:=Z (Kd.R_lower ho0 (below_size pB));have n1_:=Z (blk_below (g:=gb286) (o:=.cells #[.slice A0_0 l0_0.length c0_0] 27 (0,0)) (pK BK286) hb);have n2_:=Z (below_step pB hb);clear BK286;clear HB;have HO290:=n0_;have BK286:=n1_;have HB:=n2_;clear n0_ n1_ n2_;(try clear hb);(try clear hb2);(try clear hk);(try clear hi);(try clear ho0);obtain ⟨Ao8,co8,eo8⟩:=Kd.R_slice HO290.out;subst eo8))
 go_loopg [5,12] k (fun kq v5 v12 w'=>∃ (x5_1:List Int) (x12_1:Int),v12=.int .i64 x12_1∧Aside0 (danger_least_splits.l0 kq x5_1 t288 (t288.length:Int) x12_1 l0_0=some r)∧Aside0 (kq≤k)∧Aside0 (Kd.R (Kd.int .i64) 3 w' w.heap.size (fun k_=>some k_ ≠ ((.slice Ao8 t288.length co8):Value).ownBlock) v5 x5_1)∧Aside0 (Kd.R (Kd.int .i64) 3 w' w.heap.size (fun k_=>some k_ ≠ (v5:Value).ownBlock) (.slice Ao8 t288.length co8) t288)∧Aside0 (w'.heap[gb286]?=some (.cells #[(.slice A0_0 l0_0.length c0_0)] 27 (0,0)))∧Aside0 (Below w.heap.size w w'))
 case atStart=>exact ⟨(([]:List Int)),(0),pE,H',⟨Nat.le_refl _⟩,⟨pN⟩,⟨by (with_reducible repeat (first|apply Kd.R_alloc|apply Kd.R_drewN|apply Kd.R_drew));exact Kd.R_mono HO290.out (fun _ hk=>(by simp [Value.ownBlock]))⟩,⟨pK BK286⟩,⟨pB⟩⟩
 case round =>
  clear H'
  try clear c1
  try clear p2
  try clear c6
  try clear c8
  try clear hcz5_0
  try clear hfz5_0
  obtain ⟨x5_1,x12_1,rfl,HA,HK1,HO_5,HO_10,BK286,HB⟩:=hrel
  cases gk with
  | zero=>exact absurd HA.out (by simp [danger_least_splits.l0])
  | succ k1 =>
   have H:=HA.out
   clear HA
   simp only [danger_least_splits.l0] at H
   by_cases c9:x12_1 < (t288.length:Int)
   ·rw [if_pos c9] at H
    have c9b0:decide (x12_1 < (t288.length:Int))=true:=decide_eq_true c9
    clear c9
    by_cases c10:0≤x12_1
    ·rw [if_pos c10] at H
     have c10b0:decide (0≤x12_1)=true:=decide_eq_true c10
     clear c10
     by_cases c11:x12_1 < (t288.length:Int)
     ·rw [if_pos c11] at H
      have c11b0:decide (x12_1 < (t288.length:Int))=true:=decide_eq_true c11
      clear c11
      replace H:=Option.bind_eq_some_iff.mp H
      obtain ⟨t292,A120,H⟩:=H
      try dsimp only at H
      have A12:=Z A120
      clear A120
      by_cases c13:t292=true
      ·subst c13
       rw [if_pos rfl] at H
       by_cases c14:x5_1.length < 17592186044416
       ·rw [if_pos c14] at H
        have LMc14:=Z c14
        clear c14
        obtain ⟨y293,hy293⟩:∃ y_:List Int,y_=(x5_1++[rd t288 x12_1]):=⟨_,rfl⟩
        first|rw [← hy293] at H|(replace H:=(Option.bind_some _ _).symm.trans H;rw [← hy293] at H)
        have Ny293:=Z hy293
        clear hy293
        have H':=Z H
        clear H
        have p291:0≤(x12_1:Int):=of_decide_eq_true (by first|(with_reducible assumption)|assumption)
        have q291:x12_1 < (t288.length:Int):=of_decide_eq_true (by first|(with_reducible assumption)|assumption)
        obtain ⟨ad291,e291,hx291_0⟩:=Kd.at_int (Kd.R_reads' HO_10.out).2.2 x12_1 p291 q291
        cases e291
        replace p291:=eq_true p291
        replace q291:=eq_true q291
        have hcz15_0:wr.cell? ⟨gb286,0,none⟩=some (.slice A0_0 l0_0.length c0_0):=(kC BK286.out 0).trans rfl
        have hfz15_0:=kF BK286.out 0
        go_wp2_with (first|((with_reducible refine gate_val (x:=.tmp 16) rfl ?_);refine goesV_ (some 19) rfl rfl (x:=.tmp 16) Try.func82 (by kernel_rfl) rfl #[.agg #[.slice A0_0 l0_0.length c0_0],.int .i64 (rd t288 x12_1)] rfl rfl pG ?_;(with_reducible refine (danger_splits.calls k1 _ _ l0_0 (rd t288 x12_1) true _ ?side1 ?side2 A12.out).mono ?_);(case side1=>repeat (first|exact (Kd.C_below HR0_0.out HB.out)|(with_reducible refine Kd.C_alloc ?_ _)|(with_reducible refine Kd.C_drewN ?_ _)|(with_reducible refine Kd.C_drew ?_)));(case side2=>exact HC0_0.out);rintro e w16 ⟨rfl,hb⟩;refine ⟨_,rfl,?_⟩;have n0_:=Z (Kd.R_below (pR HO_5) hb);have n1_:=Z (Kd.R_below (pR HO_10) hb);have n2_:=Z (blk_below (g:=gb286) (o:=.cells #[.slice A0_0 l0_0.length c0_0] 27 (0,0)) (pK BK286) hb);have n3_:=Z (below_step pB hb);clear HO_5;clear HO_10;clear BK286;clear HB;have HO_5:=n0_;have HO_10:=n1_;have BK286:=n2_;have HB:=n3_;clear n0_ n1_ n2_ n3_;(try clear hb);(try clear hb2);(try clear hk);(try clear hi))|((with_reducible refine gate_builtin (b:=.append) (xs:=#[.tmp 20,.tmp 22]) rfl ?_);at_builtin;refine Kd.R_append (Kd.int .i64) (w0:=w) w.heap.size rfl (.tmp 20) (.tmp 22) 22 3 (.int .i64 0) 8 rfl Try.underlying22 info3 rfl (by decide) (by omega) u5 x5_1 (rd t288 x12_1) [.int .i64 (rd t288 x12_1)] (fun k_=>some k_ ≠ (.slice (some ad291) t288.length co8:Value).ownBlock) (fun _=>False) rfl rfl ?aP (fun _ hk=>hk.elim) ?aF ?aO ?aB ?aS ?aL ?_;(case aP=>exact rfl);(case aB=>exact pB);(case aF=>exact (fun k_ hk=>Kd.fresh' (Kd.R_lt (pR HO_10)) k_ hk));(case aO=>exact (pR HO_5));(case aS=>exact (below_size pB));(case aL=>have:=LMc14.out;omega);intro v294 w17 ho hb hg hat;rw [← Ny293.out] at ho;have n0_:=Z (Kd.R_after (ok:=(fun _=>True)) (by (with_reducible repeat (first|apply Kd.R_alloc|apply Kd.R_drewN|apply Kd.R_drew));exact Kd.R_mono HO_10.out (fun _ hk=>⟨trivial,hk⟩)) hg hat);have n1_:=Z (blk_grown (g:=gb286) (o:=.cells #[.slice A0_0 l0_0.length c0_0] 27 (0,0)) (pK BK286) hg (Kd.R_ne HO_5.out BK286.out (by decide)));have n2_:=Z (hb);have n3_:=Z (ho);clear HO_10;clear BK286;clear HB;clear HO_5;have HO_10:=n0_;have BK286:=n1_;have HB:=n2_;have HO295:=n3_;clear n0_ n1_ n2_ n3_;clear ho hb hg hat))
        go_roundg k1
        case measure=>have:=HK1.out;omega
        case rel=>exact ⟨(y293),(wrap64 (x12_1+1)),pE,H',⟨by have:=HK1.out;omega⟩,⟨pR HO295⟩,⟨by (with_reducible repeat (first|apply Kd.R_alloc|apply Kd.R_drewN|apply Kd.R_drew));exact Kd.R_mono HO_10.out (fun _ hk=>hk.2)⟩,⟨pK BK286⟩,⟨pB⟩⟩
       ·rw [if_neg c14] at H
        exact absurd H (by simp)
      ·replace c13:=Bool.eq_false_iff.mpr c13
       subst c13
       rw [if_neg (show ¬ (false=true) by decide)] at H
       have H':=Z H
       clear H
       have p291:0≤(x12_1:Int):=of_decide_eq_true (by first|(with_reducible assumption)|assumption)
       have q291:x12_1 < (t288.length:Int):=of_decide_eq_true (by first|(with_reducible assumption)|assumption)
       obtain ⟨ad291,e291,hx291_0⟩:=Kd.at_int (Kd.R_reads' HO_10.out).2.2 x12_1 p291 q291
       cases e291
       replace p291:=eq_true p291
       replace q291:=eq_true q291
       have hcz18_0:wr.cell? ⟨gb286,0,none⟩=some (.slice A0_0 l0_0.length c0_0):=(kC BK286.out 0).trans rfl
       have hfz18_0:=kF BK286.out 0
       go_wp2_with (first|((with_reducible refine gate_val (x:=.tmp 16) rfl ?_);refine goesV_ (some 19) rfl rfl (x:=.tmp 16) Try.func82 (by kernel_rfl) rfl #[.agg #[.slice A0_0 l0_0.length c0_0],.int .i64 (rd t288 x12_1)] rfl rfl pG ?_;(with_reducible refine (danger_splits.calls k1 _ _ l0_0 (rd t288 x12_1) false _ ?side1 ?side2 A12.out).mono ?_);(case side1=>repeat (first|exact (Kd.C_below HR0_0.out HB.out)|(with_reducible refine Kd.C_alloc ?_ _)|(with_reducible refine Kd.C_drewN ?_ _)|(with_reducible refine Kd.C_drew ?_)));(case side2=>exact HC0_0.out);rintro e w19 ⟨rfl,hb⟩;refine ⟨_,rfl,?_⟩;have n0_:=Z (Kd.R_below (pR HO_5) hb);have n1_:=Z (Kd.R_below (pR HO_10) hb);have n2_:=Z (blk_below (g:=gb286) (o:=.cells #[.slice A0_0 l0_0.length c0_0] 27 (0,0)) (pK BK286) hb);have n3_:=Z (below_step pB hb);clear HO_5;clear HO_10;clear BK286;clear HB;have HO_5:=n0_;have HO_10:=n1_;have BK286:=n2_;have HB:=n3_;clear n0_ n1_ n2_ n3_;(try clear hb);(try clear hb2);(try clear hk);(try clear hi)))
       go_roundg k1
       case measure=>have:=HK1.out;omega
       case rel=>exact ⟨(x5_1),(wrap64 (x12_1+1)),pE,H',⟨by have:=HK1.out;omega⟩,⟨pR HO_5⟩,⟨pR HO_10⟩,⟨pK BK286⟩,⟨pB⟩⟩
     ·rw [if_neg c11] at H
      exact absurd H (by simp)
    ·rw [if_neg c10] at H
     exact absurd H (by simp)
   ·rw [if_neg c9] at H
    have c9b0:decide (x12_1 < (t288.length:Int))=false:=decide_eq_false c9
    clear c9
    replace H:=Option.bind_eq_some_iff.mp H
    obtain ⟨t296,A200,H⟩:=H
    try dsimp only at H
    have A20:=Z A200
    clear A200
    obtain rfl:=Option.some.inj H
    obtain ⟨Ao21,co21,eo21⟩:=Kd.R_slice HO_5.out
    subst eo21
    go_wp2_with (first|((with_reducible refine gate_callee (f:=66) rfl ?_);refine goesL_ (some 26) rfl rfl Try.func66 (by kernel_rfl) rfl #[.slice Ao21 x5_1.length co21] rfl pG ?_;(with_reducible refine (nodeset_Least.calls _ _ x5_1 t296 _ ?side1 ?side2 A20.out).mono ?_);(case side1=>repeat (first|exact (Kd.R_reads' HO_5.out).2.2|(with_reducible refine Kd.C_alloc ?_ _)|(with_reducible refine Kd.C_drewN ?_ _)|(with_reducible refine Kd.C_drew ?_)));(case side2=>exact (Kd.R_reads' HO_5.out).2.1);rintro e w22 ⟨v297,rfl,ho0,hb⟩;refine ⟨_,rfl,?_⟩;have n0_:=Z (Kd.R_elder' (pR HO_5) (Kd.R_base ho0) hb);have n1_:=Z (Kd.R_elder' (pR HO_10) (Kd.R_base ho0) hb);have n2_:=Z (Kd.R_lower (Kd.R_new' (Kd.R_new' ho0 (Kd.R_lt (pR HO_5))) (Kd.R_lt (pR HO_10))) (below_size pB));have n3_:=Z (blk_below (g:=gb286) (o:=.cells #[.slice A0_0 l0_0.length c0_0] 27 (0,0)) (pK BK286) hb);have n4_:=Z (below_step pB hb);clear HO_5;clear HO_10;clear BK286;clear HB;have HO_5:=n0_;have HO_10:=n1_;have HO298:=n2_;have BK286:=n3_;have HB:=n4_;clear n0_ n1_ n2_ n3_ n4_;(try clear hb);(try clear hb2);(try clear hk);(try clear hi);(try clear ho0)))
    go_ret
    exact ⟨_,pF,by (with_reducible repeat (first|apply Kd.R_alloc|apply Kd.R_drewN|apply Kd.R_drew));exact Kd.R_mono HO298.out (fun _ hk=>trivial),pB⟩
def danger_Splitting.f (k:Nat) (l0_0:List (S34)):Option (List Int × Int):=(danger_small.f k l0_0).bind fun t960=>(if t960=0 then ((danger_least_splits.f k l0_0).bind fun t961=>(some (t961,0))) else (some (([]:List Int),t960)))
set_option maxHeartbeats 8000000 in
set_option maxRecDepth 100000 in
theorem danger_Splitting.calls (k:Nat) (A0_0:Option Addr) (c0_0:Nat) (l0_0:List (S34)) (r1:List Int) (r2:Int) (w:World) (hr0_0:Kd.C k34 w A0_0 l0_0.length l0_0) (hc0_0:l0_0.length≤c0_0) (h:danger_Splitting.f k l0_0=some (r1,r2)) :
  Calls Try.prog 47 #[.agg #[.slice A0_0 l0_0.length c0_0]] w fun e w'=>∃ v0_:Value,e=.returned (.tuple #[v0_,.int .i64 r2])∧Kd.R (Kd.int .i64) 3 w' w.heap.size (fun _=>True) v0_ r1∧Below w.heap.size w w':=by
 have hu27:=Try.underlying27
 have HR0_0:=Z hr0_0
 have HC0_0:=Z hc0_0
 clear hr0_0 hc0_0
 have HB:=Z (Below.refl w.heap.size w)
 have H:((danger_small.f k l0_0).bind fun t960=>(if t960=0 then ((danger_least_splits.f k l0_0).bind fun t961=>(some (t961,0))) else (some (([]:List Int),t960))))=some (r1,r2):=h
 clear h
 replace H:=Option.bind_eq_some_iff.mp H
 obtain ⟨t960,A20,H⟩:=H
 try dsimp only at H
 have A2:=Z A20
 clear A20
 by_cases c3:t960=0
 ·rw [if_pos c3] at H
  have c3b0:(t960 == 0)=true:=beq_iff_eq.mpr c3
  have c3b1:(t960 != 0)=false:=bne_eq_false_iff_eq.mpr c3
  clear c3
  replace H:=Option.bind_eq_some_iff.mp H
  obtain ⟨t961,A40,H⟩:=H
  try dsimp only at H
  have A4:=Z A40
  clear A40
  simp only [Option.some.injEq,Prod.mk.injEq] at H
  obtain ⟨rfl,rfl⟩:=H
  go_enter Try.func47,Try.ntmps47
  go_wp2_with (first|((with_reducible refine gate_dst (N:=1) rfl ?_);refine box_event ?hg (N:=1) ?hd (cs:=#[.slice A0_0 l0_0.length c0_0]) (t:=27) ?hr ?_;(case hd=>rfl);(case hg=>rfl);(case hr=>first|(go_simp;done)|(go_simp;rfl));intro gb959 hg w5 hbox hb;have n0_:=Z (below_step pB hb);have n1_:=Z (hbox);have n2_:=Z ((pT hg:w.heap.size≤gb959));have n3_:=Z ((pT hg:w.heap.size≤gb959));clear HB;have HB:=n0_;have BK959:=n1_;have GW959:=n2_;have GE959:=n3_;clear n0_ n1_ n2_ n3_;clear hb hbox hg;have hcz6_0:w5.cell? ⟨gb959,0,none⟩=some (.slice A0_0 l0_0.length c0_0):=(kC BK959.out 0).trans rfl;have hfz6_0:=kF BK959.out 0)|((with_reducible refine gate_callee (f:=80) rfl ?_);refine goesL_ (some 6) rfl rfl Try.func80 (by kernel_rfl) rfl #[.agg #[.slice A0_0 l0_0.length c0_0]] rfl pG ?_;(with_reducible refine (danger_small.calls k _ _ l0_0 t960 _ ?side1 ?side2 A2.out).mono ?_);(case side1=>repeat (first|exact (Kd.C_below HR0_0.out HB.out)|(with_reducible refine Kd.C_alloc ?_ _)|(with_reducible refine Kd.C_drewN ?_ _)|(with_reducible refine Kd.C_drew ?_)));(case side2=>exact HC0_0.out);rintro e w7 ⟨rfl,hb⟩;refine ⟨_,rfl,?_⟩;have n0_:=Z (blk_below (g:=gb959) (o:=.cells #[.slice A0_0 l0_0.length c0_0] 27 (0,0)) (pK BK959) hb);have n1_:=Z (below_step pB hb);clear BK959;clear HB;have BK959:=n0_;have HB:=n1_;clear n0_ n1_;(try clear hb);(try clear hb2);(try clear hk);(try clear hi);have hcz8_0:w7.cell? ⟨gb959,0,none⟩=some (.slice A0_0 l0_0.length c0_0):=(kC BK959.out 0).trans rfl;have hfz8_0:=kF BK959.out 0)|((with_reducible refine gate_callee (f:=81) rfl ?_);refine goesL_ (some 11) rfl rfl Try.func81 (by kernel_rfl) rfl #[.agg #[.slice A0_0 l0_0.length c0_0],.func (.func 82) #[] #[]] rfl pG ?_;(with_reducible refine (danger_least_splits.calls k _ _ l0_0 t961 _ ?side1 ?side2 A4.out).mono ?_);(case side1=>repeat (first|exact (Kd.C_below HR0_0.out HB.out)|(with_reducible refine Kd.C_alloc ?_ _)|(with_reducible refine Kd.C_drewN ?_ _)|(with_reducible refine Kd.C_drew ?_)));(case side2=>exact HC0_0.out);rintro e w9 ⟨v962,rfl,ho0,hb⟩;refine ⟨_,rfl,?_⟩;have n0_:=Z (Kd.R_lower ho0 (below_size pB));have n1_:=Z (blk_below (g:=gb959) (o:=.cells #[.slice A0_0 l0_0.length c0_0] 27 (0,0)) (pK BK959) hb);have n2_:=Z (below_step pB hb);clear BK959;clear HB;have HO963:=n0_;have BK959:=n1_;have HB:=n2_;clear n0_ n1_ n2_;(try clear hb);(try clear hb2);(try clear hk);(try clear hi);(try clear ho0)))
  go_ret2
  exact ⟨_,pF,pR HO963,pB⟩
 ·rw [if_neg c3] at H
  have c3b0:(t960 == 0)=false:=beq_eq_false_iff_ne.mpr c3
  have c3b1:(t960 != 0)=true:=bne_iff_ne.mpr c3
  simp only [Option.some.injEq,Prod.mk.injEq] at H
  obtain ⟨rfl,rfl⟩:=H
  go_enter Try.func47,Try.ntmps47
  go_wp2_with (first|((with_reducible refine gate_dst (N:=1) rfl ?_);refine box_event ?hg (N:=1) ?hd (cs:=#[.slice A0_0 l0_0.length c0_0]) (t:=27) ?hr ?_;(case hd=>rfl);(case hg=>rfl);(case hr=>first|(go_simp;done)|(go_simp;rfl));intro gb959 hg w10 hbox hb;have n0_:=Z (below_step pB hb);have n1_:=Z (hbox);have n2_:=Z ((pT hg:w.heap.size≤gb959));have n3_:=Z ((pT hg:w.heap.size≤gb959));clear HB;have HB:=n0_;have BK959:=n1_;have GW959:=n2_;have GE959:=n3_;clear n0_ n1_ n2_ n3_;clear hb hbox hg;have hcz11_0:w10.cell? ⟨gb959,0,none⟩=some (.slice A0_0 l0_0.length c0_0):=(kC BK959.out 0).trans rfl;have hfz11_0:=kF BK959.out 0)|((with_reducible refine gate_callee (f:=80) rfl ?_);refine goesL_ (some 6) rfl rfl Try.func80 (by kernel_rfl) rfl #[.agg #[.slice A0_0 l0_0.length c0_0]] rfl pG ?_;(with_reducible refine (danger_small.calls k _ _ l0_0 t960 _ ?side1 ?side2 A2.out).mono ?_);(case side1=>repeat (first|exact (Kd.C_below HR0_0.out HB.out)|(with_reducible refine Kd.C_alloc ?_ _)|(with_reducible refine Kd.C_drewN ?_ _)|(with_reducible refine Kd.C_drew ?_)));(case side2=>exact HC0_0.out);rintro e w12 ⟨rfl,hb⟩;refine ⟨_,rfl,?_⟩;have n0_:=Z (blk_below (g:=gb959) (o:=.cells #[.slice A0_0 l0_0.length c0_0] 27 (0,0)) (pK BK959) hb);have n1_:=Z (below_step pB hb);clear BK959;clear HB;have BK959:=n0_;have HB:=n1_;clear n0_ n1_;(try clear hb);(try clear hb2);(try clear hk);(try clear hi)))
  go_ret2
  exact ⟨_,pF,pN,pB⟩
def danger_least_halts.l0:Nat→List Int→List Int→Int→Int→List (S34)→Option (List Int)
 | 0,_,_,_,_,_=>none
 | k+1,x5,x10,x11,x12,x152000=>if x12 < x11 then (if 0≤x12 then (if x12 < (x10.length:Int) then ((danger_halts.f k x152000 (rd x10 x12)).bind fun t157=>(if t157=true then (if x5.length < 17592186044416 then (danger_least_halts.l0 k (x5++[rd x10 x12]) x10 x11 (wrap64 (x12+1)) x152000) else (none)) else (danger_least_halts.l0 k x5 x10 x11 (wrap64 (x12+1)) x152000))) else (none)) else (none)) else ((nodeset_Least.f x5).bind fun t161=>(some t161))
def danger_least_halts.f (k:Nat) (l0_0:List (S34)):Option (List Int):=(danger_members.f l0_0).bind fun t152=>((nodeset_Subsets.f t152).bind fun t153=>(danger_least_halts.l0 k ([]:List Int) t153 (t153.length:Int) 0 l0_0))
set_option maxHeartbeats 8000000 in
set_option maxRecDepth 100000 in
theorem danger_least_halts.calls (k:Nat) (A0_0:Option Addr) (c0_0:Nat) (l0_0:List (S34)) (r:List Int) (w:World) (hr0_0:Kd.C k34 w A0_0 l0_0.length l0_0) (hc0_0:l0_0.length≤c0_0) (h:danger_least_halts.f k l0_0=some r) :
  Calls Try.prog 81 #[.agg #[.slice A0_0 l0_0.length c0_0],.func (.func 83) #[] #[]] w fun e w'=>∃ v0_:Value,e=.returned (v0_)∧Kd.R (Kd.int .i64) 3 w' w.heap.size (fun _=>True) v0_ r∧Below w.heap.size w w':=by
 have hu27:=Try.underlying27
 have HR0_0:=Z hr0_0
 have HC0_0:=Z hc0_0
 clear hr0_0 hc0_0
 have HB:=Z (Below.refl w.heap.size w)
 have H:((danger_members.f l0_0).bind fun t152=>((nodeset_Subsets.f t152).bind fun t153=>(danger_least_halts.l0 k ([]:List Int) t153 (t153.length:Int) 0 l0_0)))=some r:=h
 clear h
 replace H:=Option.bind_eq_some_iff.mp H
 obtain ⟨t152,A20,H⟩:=H
 try dsimp only at H
 have A2:=Z A20
 clear A20
 replace H:=Option.bind_eq_some_iff.mp H
 obtain ⟨t153,A30,H⟩:=H
 try dsimp only at H
 have A3:=Z A30
 clear A30
 have H':=Z H
 clear H
 go_enter Try.func81,Try.ntmps81
 go_wp2_with (first|((with_reducible refine gate_dst (N:=2) rfl ?_);refine box_event ?hg (N:=2) ?hd (cs:=#[.slice A0_0 l0_0.length c0_0]) (t:=27) ?hr ?_;(case hd=>rfl);(case hg=>rfl);(case hr=>first|(go_simp;done)|(go_simp;rfl));intro gb151 hg w4 hbox hb;have n0_:=Z (below_step pB hb);have n1_:=Z (hbox);have n2_:=Z ((pT hg:w.heap.size≤gb151));have n3_:=Z ((pT hg:w.heap.size≤gb151));clear HB;have HB:=n0_;have BK151:=n1_;have GW151:=n2_;have GE151:=n3_;clear n0_ n1_ n2_ n3_;clear hb hbox hg;have hcz5_0:w4.cell? ⟨gb151,0,none⟩=some (.slice A0_0 l0_0.length c0_0):=(kC BK151.out 0).trans rfl;have hfz5_0:=kF BK151.out 0)|((with_reducible refine gate_callee (f:=104) rfl ?_);refine goesL_ (some 9) rfl rfl Try.func104 (by kernel_rfl) rfl #[.agg #[.slice A0_0 l0_0.length c0_0]] rfl pG ?_;(with_reducible refine (danger_members.calls _ _ l0_0 t152 _ ?side1 ?side2 A2.out).mono ?_);(case side1=>repeat (first|exact (Kd.C_below HR0_0.out HB.out)|(with_reducible refine Kd.C_alloc ?_ _)|(with_reducible refine Kd.C_drewN ?_ _)|(with_reducible refine Kd.C_drew ?_)));(case side2=>exact HC0_0.out);rintro e w6 ⟨rfl,hb⟩;refine ⟨_,rfl,?_⟩;have n0_:=Z (blk_below (g:=gb151) (o:=.cells #[.slice A0_0 l0_0.length c0_0] 27 (0,0)) (pK BK151) hb);have n1_:=Z (below_step pB hb);clear BK151;clear HB;have BK151:=n0_;have HB:=n1_;clear n0_ n1_;(try clear hb);(try clear hb2);(try clear hk);(try clear hi))|((with_reducible refine gate_callee (f:=64) rfl ?_);refine goesL_ (some 10) rfl rfl Try.func64 (by kernel_rfl) rfl #[.int .i64 t152] rfl pG ?_;(with_reducible refine (nodeset_Subsets.calls t152 t153 _ A3.out).mono ?_);rintro e w7 ⟨v154,rfl,ho0,hb⟩;refine ⟨_,rfl,?_⟩;have n0_:=Z (Kd.R_lower ho0 (below_size pB));have n1_:=Z (blk_below (g:=gb151) (o:=.cells #[.slice A0_0 l0_0.length c0_0] 27 (0,0)) (pK BK151) hb);have n2_:=Z (below_step pB hb);clear BK151;clear HB;have HO155:=n0_;have BK151:=n1_;have HB:=n2_;clear n0_ n1_ n2_;(try clear hb);(try clear hb2);(try clear hk);(try clear hi);(try clear ho0);obtain ⟨Ao8,co8,eo8⟩:=Kd.R_slice HO155.out;subst eo8))
 go_loopg [5,12] k (fun kq v5 v12 w'=>∃ (x5_1:List Int) (x12_1:Int),v12=.int .i64 x12_1∧Aside0 (danger_least_halts.l0 kq x5_1 t153 (t153.length:Int) x12_1 l0_0=some r)∧Aside0 (kq≤k)∧Aside0 (Kd.R (Kd.int .i64) 3 w' w.heap.size (fun k_=>some k_ ≠ ((.slice Ao8 t153.length co8):Value).ownBlock) v5 x5_1)∧Aside0 (Kd.R (Kd.int .i64) 3 w' w.heap.size (fun k_=>some k_ ≠ (v5:Value).ownBlock) (.slice Ao8 t153.length co8) t153)∧Aside0 (w'.heap[gb151]?=some (.cells #[(.slice A0_0 l0_0.length c0_0)] 27 (0,0)))∧Aside0 (Below w.heap.size w w'))
 case atStart=>exact ⟨(([]:List Int)),(0),pE,H',⟨Nat.le_refl _⟩,⟨pN⟩,⟨by (with_reducible repeat (first|apply Kd.R_alloc|apply Kd.R_drewN|apply Kd.R_drew));exact Kd.R_mono HO155.out (fun _ hk=>(by simp [Value.ownBlock]))⟩,⟨pK BK151⟩,⟨pB⟩⟩
 case round =>
  clear H'
  try clear c1
  try clear p2
  try clear c6
  try clear c8
  try clear hcz5_0
  try clear hfz5_0
  obtain ⟨x5_1,x12_1,rfl,HA,HK1,HO_5,HO_10,BK151,HB⟩:=hrel
  cases gk with
  | zero=>exact absurd HA.out (by simp [danger_least_halts.l0])
  | succ k1 =>
   have H:=HA.out
   clear HA
   simp only [danger_least_halts.l0] at H
   by_cases c9:x12_1 < (t153.length:Int)
   ·rw [if_pos c9] at H
    have c9b0:decide (x12_1 < (t153.length:Int))=true:=decide_eq_true c9
    clear c9
    by_cases c10:0≤x12_1
    ·rw [if_pos c10] at H
     have c10b0:decide (0≤x12_1)=true:=decide_eq_true c10
     clear c10
     by_cases c11:x12_1 < (t153.length:Int)
     ·rw [if_pos c11] at H
      have c11b0:decide (x12_1 < (t153.length:Int))=true:=decide_eq_true c11
      clear c11
      replace H:=Option.bind_eq_some_iff.mp H
      obtain ⟨t157,A120,H⟩:=H
      try dsimp only at H
      have A12:=Z A120
      clear A120
      by_cases c13:t157=true
      ·subst c13
       rw [if_pos rfl] at H
       by_cases c14:x5_1.length < 17592186044416
       ·rw [if_pos c14] at H
        have LMc14:=Z c14
        clear c14
        obtain ⟨y158,hy158⟩:∃ y_:List Int,y_=(x5_1++[rd t153 x12_1]):=⟨_,rfl⟩
        first|rw [← hy158] at H|(replace H:=(Option.bind_some _ _).symm.trans H;rw [← hy158] at H)
        have Ny158:=Z hy158
        clear hy158
        have H':=Z H
        clear H
        have p156:0≤(x12_1:Int):=of_decide_eq_true (by first|(with_reducible assumption)|assumption)
        have q156:x12_1 < (t153.length:Int):=of_decide_eq_true (by first|(with_reducible assumption)|assumption)
        obtain ⟨ad156,e156,hx156_0⟩:=Kd.at_int (Kd.R_reads' HO_10.out).2.2 x12_1 p156 q156
        cases e156
        replace p156:=eq_true p156
        replace q156:=eq_true q156
        have hcz15_0:wr.cell? ⟨gb151,0,none⟩=some (.slice A0_0 l0_0.length c0_0):=(kC BK151.out 0).trans rfl
        have hfz15_0:=kF BK151.out 0
        go_wp2_with (first|((with_reducible refine gate_val (x:=.tmp 16) rfl ?_);refine goesV_ (some 19) rfl rfl (x:=.tmp 16) Try.func83 (by kernel_rfl) rfl #[.agg #[.slice A0_0 l0_0.length c0_0],.int .i64 (rd t153 x12_1)] rfl rfl pG ?_;(with_reducible refine (danger_halts.calls k1 _ _ l0_0 (rd t153 x12_1) true _ ?side1 ?side2 A12.out).mono ?_);(case side1=>repeat (first|exact (Kd.C_below HR0_0.out HB.out)|(with_reducible refine Kd.C_alloc ?_ _)|(with_reducible refine Kd.C_drewN ?_ _)|(with_reducible refine Kd.C_drew ?_)));(case side2=>exact HC0_0.out);rintro e w16 ⟨rfl,hb⟩;refine ⟨_,rfl,?_⟩;have n0_:=Z (Kd.R_below (pR HO_5) hb);have n1_:=Z (Kd.R_below (pR HO_10) hb);have n2_:=Z (blk_below (g:=gb151) (o:=.cells #[.slice A0_0 l0_0.length c0_0] 27 (0,0)) (pK BK151) hb);have n3_:=Z (below_step pB hb);clear HO_5;clear HO_10;clear BK151;clear HB;have HO_5:=n0_;have HO_10:=n1_;have BK151:=n2_;have HB:=n3_;clear n0_ n1_ n2_ n3_;(try clear hb);(try clear hb2);(try clear hk);(try clear hi))|((with_reducible refine gate_builtin (b:=.append) (xs:=#[.tmp 20,.tmp 22]) rfl ?_);at_builtin;refine Kd.R_append (Kd.int .i64) (w0:=w) w.heap.size rfl (.tmp 20) (.tmp 22) 22 3 (.int .i64 0) 8 rfl Try.underlying22 info3 rfl (by decide) (by omega) u5 x5_1 (rd t153 x12_1) [.int .i64 (rd t153 x12_1)] (fun k_=>some k_ ≠ (.slice (some ad156) t153.length co8:Value).ownBlock) (fun _=>False) rfl rfl ?aP (fun _ hk=>hk.elim) ?aF ?aO ?aB ?aS ?aL ?_;(case aP=>exact rfl);(case aB=>exact pB);(case aF=>exact (fun k_ hk=>Kd.fresh' (Kd.R_lt (pR HO_10)) k_ hk));(case aO=>exact (pR HO_5));(case aS=>exact (below_size pB));(case aL=>have:=LMc14.out;omega);intro v159 w17 ho hb hg hat;rw [← Ny158.out] at ho;have n0_:=Z (Kd.R_after (ok:=(fun _=>True)) (by (with_reducible repeat (first|apply Kd.R_alloc|apply Kd.R_drewN|apply Kd.R_drew));exact Kd.R_mono HO_10.out (fun _ hk=>⟨trivial,hk⟩)) hg hat);have n1_:=Z (blk_grown (g:=gb151) (o:=.cells #[.slice A0_0 l0_0.length c0_0] 27 (0,0)) (pK BK151) hg (Kd.R_ne HO_5.out BK151.out (by decide)));have n2_:=Z (hb);have n3_:=Z (ho);clear HO_10;clear BK151;clear HB;clear HO_5;have HO_10:=n0_;have BK151:=n1_;have HB:=n2_;have HO160:=n3_;clear n0_ n1_ n2_ n3_;clear ho hb hg hat))
        go_roundg k1
        case measure=>have:=HK1.out;omega
        case rel=>exact ⟨(y158),(wrap64 (x12_1+1)),pE,H',⟨by have:=HK1.out;omega⟩,⟨pR HO160⟩,⟨by (with_reducible repeat (first|apply Kd.R_alloc|apply Kd.R_drewN|apply Kd.R_drew));exact Kd.R_mono HO_10.out (fun _ hk=>hk.2)⟩,⟨pK BK151⟩,⟨pB⟩⟩
       ·rw [if_neg c14] at H
        exact absurd H (by simp)
      ·replace c13:=Bool.eq_false_iff.mpr c13
       subst c13
       rw [if_neg (show ¬ (false=true) by decide)] at H
       have H':=Z H
       clear H
       have p156:0≤(x12_1:Int):=of_decide_eq_true (by first|(with_reducible assumption)|assumption)
       have q156:x12_1 < (t153.length:Int):=of_decide_eq_true (by first|(with_reducible assumption)|assumption)
       obtain ⟨ad156,e156,hx156_0⟩:=Kd.at_int (Kd.R_reads' HO_10.out).2.2 x12_1 p156 q156
       cases e156
       replace p156:=eq_true p156
       replace q156:=eq_true q156
       have hcz18_0:wr.cell? ⟨gb151,0,none⟩=some (.slice A0_0 l0_0.length c0_0):=(kC BK151.out 0).trans rfl
       have hfz18_0:=kF BK151.out 0
       go_wp2_with (first|((with_reducible refine gate_val (x:=.tmp 16) rfl ?_);refine goesV_ (some 19) rfl rfl (x:=.tmp 16) Try.func83 (by kernel_rfl) rfl #[.agg #[.slice A0_0 l0_0.length c0_0],.int .i64 (rd t153 x12_1)] rfl rfl pG ?_;(with_reducible refine (danger_halts.calls k1 _ _ l0_0 (rd t153 x12_1) false _ ?side1 ?side2 A12.out).mono ?_);(case side1=>repeat (first|exact (Kd.C_below HR0_0.out HB.out)|(with_reducible refine Kd.C_alloc ?_ _)|(with_reducible refine Kd.C_drewN ?_ _)|(with_reducible refine Kd.C_drew ?_)));(case side2=>exact HC0_0.out);rintro e w19 ⟨rfl,hb⟩;refine ⟨_,rfl,?_⟩;have n0_:=Z (Kd.R_below (pR HO_5) hb);have n1_:=Z (Kd.R_below (pR HO_10) hb);have n2_:=Z (blk_below (g:=gb151) (o:=.cells #[.slice A0_0 l0_0.length c0_0] 27 (0,0)) (pK BK151) hb);have n3_:=Z (below_step pB hb);clear HO_5;clear HO_10;clear BK151;clear HB;have HO_5:=n0_;have HO_10:=n1_;have BK151:=n2_;have HB:=n3_;clear n0_ n1_ n2_ n3_;(try clear hb);(try clear hb2);(try clear hk);(try clear hi)))
       go_roundg k1
       case measure=>have:=HK1.out;omega
       case rel=>exact ⟨(x5_1),(wrap64 (x12_1+1)),pE,H',⟨by have:=HK1.out;omega⟩,⟨pR HO_5⟩,⟨pR HO_10⟩,⟨pK BK151⟩,⟨pB⟩⟩
     ·rw [if_neg c11] at H
      exact absurd H (by simp)
    ·rw [if_neg c10] at H
     exact absurd H (by simp)
   ·rw [if_neg c9] at H
    have c9b0:decide (x12_1 < (t153.length:Int))=false:=decide_eq_false c9
    clear c9
    replace H:=Option.bind_eq_some_iff.mp H
    obtain ⟨t161,A200,H⟩:=H
    try dsimp only at H
    have A20:=Z A200
    clear A200
    obtain rfl:=Option.some.inj H
    obtain ⟨Ao21,co21,eo21⟩:=Kd.R_slice HO_5.out
    subst eo21
    go_wp2_with (first|((with_reducible refine gate_callee (f:=66) rfl ?_);refine goesL_ (some 26) rfl rfl Try.func66 (by kernel_rfl) rfl #[.slice Ao21 x5_1.length co21] rfl pG ?_;(with_reducible refine (nodeset_Least.calls _ _ x5_1 t161 _ ?side1 ?side2 A20.out).mono ?_);(case side1=>repeat (first|exact (Kd.R_reads' HO_5.out).2.2|(with_reducible refine Kd.C_alloc ?_ _)|(with_reducible refine Kd.C_drewN ?_ _)|(with_reducible refine Kd.C_drew ?_)));(case side2=>exact (Kd.R_reads' HO_5.out).2.1);rintro e w22 ⟨v162,rfl,ho0,hb⟩;refine ⟨_,rfl,?_⟩;have n0_:=Z (Kd.R_elder' (pR HO_5) (Kd.R_base ho0) hb);have n1_:=Z (Kd.R_elder' (pR HO_10) (Kd.R_base ho0) hb);have n2_:=Z (Kd.R_lower (Kd.R_new' (Kd.R_new' ho0 (Kd.R_lt (pR HO_5))) (Kd.R_lt (pR HO_10))) (below_size pB));have n3_:=Z (blk_below (g:=gb151) (o:=.cells #[.slice A0_0 l0_0.length c0_0] 27 (0,0)) (pK BK151) hb);have n4_:=Z (below_step pB hb);clear HO_5;clear HO_10;clear BK151;clear HB;have HO_5:=n0_;have HO_10:=n1_;have HO163:=n2_;have BK151:=n3_;have HB:=n4_;clear n0_ n1_ n2_ n3_ n4_;(try clear hb);(try clear hb2);(try clear hk);(try clear hi);(try clear ho0)))
    go_ret
    exact ⟨_,pF,by (with_reducible repeat (first|apply Kd.R_alloc|apply Kd.R_drewN|apply Kd.R_drew));exact Kd.R_mono HO163.out (fun _ hk=>trivial),pB⟩
def danger_Halting.f (k:Nat) (l0_0:List (S34)):Option (List Int × Int):=(configuration_Valid.f k l0_0).bind fun t968=>(if t968=0 then ((danger_least_halts.f k l0_0).bind fun t969=>(some (t969,0))) else (some (([]:List Int),t968)))
set_option maxHeartbeats 8000000 in
set_option maxRecDepth 100000 in
theorem danger_Halting.calls (k:Nat) (A0_0:Option Addr) (c0_0:Nat) (l0_0:List (S34)) (r1:List Int) (r2:Int) (w:World) (hr0_0:Kd.C k34 w A0_0 l0_0.length l0_0) (hc0_0:l0_0.length≤c0_0) (h:danger_Halting.f k l0_0=some (r1,r2)) :
  Calls Try.prog 48 #[.agg #[.slice A0_0 l0_0.length c0_0]] w fun e w'=>∃ v0_:Value,e=.returned (.tuple #[v0_,.int .i64 r2])∧Kd.R (Kd.int .i64) 3 w' w.heap.size (fun _=>True) v0_ r1∧Below w.heap.size w w':=by
 have hu27:=Try.underlying27
 have HR0_0:=Z hr0_0
 have HC0_0:=Z hc0_0
 clear hr0_0 hc0_0
 have HB:=Z (Below.refl w.heap.size w)
 have H:((configuration_Valid.f k l0_0).bind fun t968=>(if t968=0 then ((danger_least_halts.f k l0_0).bind fun t969=>(some (t969,0))) else (some (([]:List Int),t968))))=some (r1,r2):=h
 clear h
 replace H:=Option.bind_eq_some_iff.mp H
 obtain ⟨t968,A20,H⟩:=H
 try dsimp only at H
 have A2:=Z A20
 clear A20
 by_cases c3:t968=0
 ·rw [if_pos c3] at H
  have c3b0:(t968 == 0)=true:=beq_iff_eq.mpr c3
  have c3b1:(t968 != 0)=false:=bne_eq_false_iff_eq.mpr c3
  clear c3
  replace H:=Option.bind_eq_some_iff.mp H
  obtain ⟨t969,A40,H⟩:=H
  try dsimp only at H
  have A4:=Z A40
  clear A40
  simp only [Option.some.injEq,Prod.mk.injEq] at H
  obtain ⟨rfl,rfl⟩:=H
  go_enter Try.func48,Try.ntmps48
  go_wp2_with (first|((with_reducible refine gate_dst (N:=1) rfl ?_);refine box_event ?hg (N:=1) ?hd (cs:=#[.slice A0_0 l0_0.length c0_0]) (t:=27) ?hr ?_;(case hd=>rfl);(case hg=>rfl);(case hr=>first|(go_simp;done)|(go_simp;rfl));intro gb967 hg w5 hbox hb;have n0_:=Z (below_step pB hb);have n1_:=Z (hbox);have n2_:=Z ((pT hg:w.heap.size≤gb967));have n3_:=Z ((pT hg:w.heap.size≤gb967));clear HB;have HB:=n0_;have BK967:=n1_;have GW967:=n2_;have GE967:=n3_;clear n0_ n1_ n2_ n3_;clear hb hbox hg;have hcz6_0:w5.cell? ⟨gb967,0,none⟩=some (.slice A0_0 l0_0.length c0_0):=(kC BK967.out 0).trans rfl;have hfz6_0:=kF BK967.out 0)|((with_reducible refine gate_callee (f:=63) rfl ?_);refine goesL_ (some 6) rfl rfl Try.func63 (by kernel_rfl) rfl #[.agg #[.slice A0_0 l0_0.length c0_0]] rfl pG ?_;(with_reducible refine (configuration_Valid.calls k _ _ l0_0 t968 _ ?side1 ?side2 A2.out).mono ?_);(case side1=>repeat (first|exact (Kd.C_below HR0_0.out HB.out)|(with_reducible refine Kd.C_alloc ?_ _)|(with_reducible refine Kd.C_drewN ?_ _)|(with_reducible refine Kd.C_drew ?_)));(case side2=>exact HC0_0.out);rintro e w7 ⟨rfl,hb⟩;refine ⟨_,rfl,?_⟩;have n0_:=Z (blk_below (g:=gb967) (o:=.cells #[.slice A0_0 l0_0.length c0_0] 27 (0,0)) (pK BK967) hb);have n1_:=Z (below_step pB hb);clear BK967;clear HB;have BK967:=n0_;have HB:=n1_;clear n0_ n1_;(try clear hb);(try clear hb2);(try clear hk);(try clear hi);have hcz8_0:w7.cell? ⟨gb967,0,none⟩=some (.slice A0_0 l0_0.length c0_0):=(kC BK967.out 0).trans rfl;have hfz8_0:=kF BK967.out 0)|((with_reducible refine gate_callee (f:=81) rfl ?_);refine goesL_ (some 11) rfl rfl Try.func81 (by kernel_rfl) rfl #[.agg #[.slice A0_0 l0_0.length c0_0],.func (.func 83) #[] #[]] rfl pG ?_;(with_reducible refine (danger_least_halts.calls k _ _ l0_0 t969 _ ?side1 ?side2 A4.out).mono ?_);(case side1=>repeat (first|exact (Kd.C_below HR0_0.out HB.out)|(with_reducible refine Kd.C_alloc ?_ _)|(with_reducible refine Kd.C_drewN ?_ _)|(with_reducible refine Kd.C_drew ?_)));(case side2=>exact HC0_0.out);rintro e w9 ⟨v970,rfl,ho0,hb⟩;refine ⟨_,rfl,?_⟩;have n0_:=Z (Kd.R_lower ho0 (below_size pB));have n1_:=Z (blk_below (g:=gb967) (o:=.cells #[.slice A0_0 l0_0.length c0_0] 27 (0,0)) (pK BK967) hb);have n2_:=Z (below_step pB hb);clear BK967;clear HB;have HO971:=n0_;have BK967:=n1_;have HB:=n2_;clear n0_ n1_ n2_;(try clear hb);(try clear hb2);(try clear hk);(try clear hi);(try clear ho0)))
  go_ret2
  exact ⟨_,pF,pR HO971,pB⟩
 ·rw [if_neg c3] at H
  have c3b0:(t968 == 0)=false:=beq_eq_false_iff_ne.mpr c3
  have c3b1:(t968 != 0)=true:=bne_iff_ne.mpr c3
  simp only [Option.some.injEq,Prod.mk.injEq] at H
  obtain ⟨rfl,rfl⟩:=H
  go_enter Try.func48,Try.ntmps48
  go_wp2_with (first|((with_reducible refine gate_dst (N:=1) rfl ?_);refine box_event ?hg (N:=1) ?hd (cs:=#[.slice A0_0 l0_0.length c0_0]) (t:=27) ?hr ?_;(case hd=>rfl);(case hg=>rfl);(case hr=>first|(go_simp;done)|(go_simp;rfl));intro gb967 hg w10 hbox hb;have n0_:=Z (below_step pB hb);have n1_:=Z (hbox);have n2_:=Z ((pT hg:w.heap.size≤gb967));have n3_:=Z ((pT hg:w.heap.size≤gb967));clear HB;have HB:=n0_;have BK967:=n1_;have GW967:=n2_;have GE967:=n3_;clear n0_ n1_ n2_ n3_;clear hb hbox hg;have hcz11_0:w10.cell? ⟨gb967,0,none⟩=some (.slice A0_0 l0_0.length c0_0):=(kC BK967.out 0).trans rfl;have hfz11_0:=kF BK967.out 0)|((with_reducible refine gate_callee (f:=63) rfl ?_);refine goesL_ (some 6) rfl rfl Try.func63 (by kernel_rfl) rfl #[.agg #[.slice A0_0 l0_0.length c0_0]] rfl pG ?_;(with_reducible refine (configuration_Valid.calls k _ _ l0_0 t968 _ ?side1 ?side2 A2.out).mono ?_);(case side1=>repeat (first|exact (Kd.C_below HR0_0.out HB.out)|(with_reducible refine Kd.C_alloc ?_ _)|(with_reducible refine Kd.C_drewN ?_ _)|(with_reducible refine Kd.C_drew ?_)));(case side2=>exact HC0_0.out);rintro e w12 ⟨rfl,hb⟩;refine ⟨_,rfl,?_⟩;have n0_:=Z (blk_below (g:=gb967) (o:=.cells #[.slice A0_0 l0_0.length c0_0] 27 (0,0)) (pK BK967) hb);have n1_:=Z (below_step pB hb);clear BK967;clear HB;have BK967:=n0_;have HB:=n1_;clear n0_ n1_;(try clear hb);(try clear hb2);(try clear hk);(try clear hi)))
  go_ret2
  exact ⟨_,pF,pN,pB⟩
def danger_Tolerates.f (k:Nat) (l0_0:List (S34)):Option (Int × Int × Int):=(danger_small.f k l0_0).bind fun t976=>(if t976=0 then ((danger_least_splits.f k l0_0).bind fun t977=>((danger_tolerated.f l0_0 t977).bind fun t980=>((danger_least_halts.f k l0_0).bind fun t981=>((danger_tolerated.f l0_0 t981).bind fun t984=>(some (t980,t984,0)))))) else (some (0,0,t976)))
def danger_Tolerates.T4:Bool × List (List Nat × List Nat):=(true,[([],[]),([],[]),([1],[1]),([0,2,2],[0,2]),([],[]),([],[]),([5,3],[5]),([4,6,6],[4,6]),([3,7,0,1,2,3],[3]),([7,8,0,1,2,3,4,5,6,7,8],[7]),([9,0,1,2,3,4,5,6,7,8,9],[])])
def danger_Tolerates.B4:List Nat:=[0,0,2,7,0,0,47,127,255,511,1023]
theorem danger_Tolerates.tab4:rtab .any (opsOf Try.f49 4)=danger_Tolerates.T4:=by kernel_rfl
theorem danger_Tolerates.bits4:waitsOk danger_Tolerates.T4.2 danger_Tolerates.B4=true:=by kernel_rfl
set_option maxHeartbeats 8000000 in
set_option maxRecDepth 100000 in
theorem danger_Tolerates.calls (k:Nat) (A0_0:Option Addr) (c0_0:Nat) (l0_0:List (S34)) (r1:Int) (r2:Int) (r3:Int) (w:World) (hr0_0:Kd.C k34 w A0_0 l0_0.length l0_0) (hc0_0:l0_0.length≤c0_0) (h:danger_Tolerates.f k l0_0=some (r1,r2,r3)) :
  Calls Try.prog 49 #[.agg #[.slice A0_0 l0_0.length c0_0]] w fun e w'=>e=.returned (.tuple #[.int .i64 r1,.int .i64 r2,.int .i64 r3])∧Below w.heap.size w w':=by
 have hu27:=Try.underlying27
 have HR0_0:=Z hr0_0
 have HC0_0:=Z hc0_0
 clear hr0_0 hc0_0
 have HB:=Z (Below.refl w.heap.size w)
 have H:((danger_small.f k l0_0).bind fun t976=>(if t976=0 then ((danger_least_splits.f k l0_0).bind fun t977=>((danger_tolerated.f l0_0 t977).bind fun t980=>((danger_least_halts.f k l0_0).bind fun t981=>((danger_tolerated.f l0_0 t981).bind fun t984=>(some (t980,t984,0)))))) else (some (0,0,t976))))=some (r1,r2,r3):=h
 clear h
 replace H:=Option.bind_eq_some_iff.mp H
 obtain ⟨t976,A20,H⟩:=H
 try dsimp only at H
 have A2:=Z A20
 clear A20
 by_cases c3:t976=0
 ·rw [if_pos c3] at H
  have c3b0:(t976 == 0)=true:=beq_iff_eq.mpr c3
  have c3b1:(t976 != 0)=false:=bne_eq_false_iff_eq.mpr c3
  clear c3
  replace H:=Option.bind_eq_some_iff.mp H
  obtain ⟨t977,A40,H⟩:=H
  try dsimp only at H
  have A4:=Z A40
  clear A40
  replace H:=Option.bind_eq_some_iff.mp H
  obtain ⟨t980,A50,H⟩:=H
  try dsimp only at H
  have A5:=Z A50
  clear A50
  replace H:=Option.bind_eq_some_iff.mp H
  obtain ⟨t981,A60,H⟩:=H
  try dsimp only at H
  have A6:=Z A60
  clear A60
  replace H:=Option.bind_eq_some_iff.mp H
  obtain ⟨t984,A70,H⟩:=H
  try dsimp only at H
  have A7:=Z A70
  clear A70
  simp only [Option.some.injEq,Prod.mk.injEq] at H
  obtain ⟨rfl,rfl,rfl⟩:=H
  go_enter Try.func49,Try.ntmps49
  try go_wp2_with (first|((with_reducible refine gate_dst (N:=1) rfl ?_);refine box_event ?hg (N:=1) ?hd (cs:=#[.slice A0_0 l0_0.length c0_0]) (t:=27) ?hr ?_;(case hd=>rfl);(case hg=>rfl);(case hr=>first|(go_simp;done)|(go_simp;rfl));intro gb975 hg w8 hbox hb;have n0_:=Z (below_step pB hb);have n1_:=Z (hbox);have n2_:=Z ((pT hg:w.heap.size≤gb975));have n3_:=Z ((pT hg:w.heap.size≤gb975));clear HB;have HB:=n0_;have BK975:=n1_;have GW975:=n2_;have GE975:=n3_;clear n0_ n1_ n2_ n3_;clear hb hbox hg;have hcz9_0:w8.cell? ⟨gb975,0,none⟩=some (.slice A0_0 l0_0.length c0_0):=(kC BK975.out 0).trans rfl;have hfz9_0:=kF BK975.out 0)|((with_reducible refine gate_callee (f:=80) rfl ?_);refine goesL_ (some 7) rfl rfl Try.func80 (by kernel_rfl) rfl #[.agg #[.slice A0_0 l0_0.length c0_0]] rfl pG ?_;(with_reducible refine (danger_small.calls k _ _ l0_0 t976 _ ?side1 ?side2 A2.out).mono ?_);(case side1=>repeat (first|exact (Kd.C_below HR0_0.out HB.out)|(with_reducible refine Kd.C_alloc ?_ _)|(with_reducible refine Kd.C_drewN ?_ _)|(with_reducible refine Kd.C_drew ?_)));(case side2=>exact HC0_0.out);rintro e w10 ⟨rfl,hb⟩;refine ⟨_,rfl,?_⟩;have n0_:=Z (blk_below (g:=gb975) (o:=.cells #[.slice A0_0 l0_0.length c0_0] 27 (0,0)) (pK BK975) hb);have n1_:=Z (below_step pB hb);clear BK975;clear HB;have BK975:=n0_;have HB:=n1_;clear n0_ n1_;(try clear hb);(try clear hb2);(try clear hk);(try clear hi)))
  have n0_:=Z (kD BK975.out)
  have n1_:=Z (wD HB.out)
  clear BK975
  clear HB
  have BK975:=n0_
  have HB:=n1_
  clear n0_ n1_
  refine start_ (n:=11) (S:=fun w'=>w'.cell? ⟨gb975,0,none⟩=some (.slice A0_0 l0_0.length c0_0)) (ds:=[]) #[false,false,false,false,false,false,false,false,false,false,false] (by kernel_rfl) rfl rfl ((kC BK975.out 0).trans rfl) (fun hHeld=>?_);refine with_tabW danger_Tolerates.tab4 danger_Tolerates.bits4 (fun HT_ HW_=>?_)
  generalize w10.drew=w11 at BK975 HB hHeld ⊢
  refine take_ (i:=0) (N:=some 11) (v:=?_) (a':=?_) #[true,false,false,false,false,false,false,false,false,false,false] rfl rfl (take_ofW HT_.out HW_.out (by kernel_rfl)) (fun _ _ _ h=>h) (Or.inl ⟨by rfl,?_⟩) hHeld ?_ ?_
  rotate_left
  ·intro w' s0
   go_simp
   with_reducible rfl
  rotate_left
  ·simp only [Act.put,List.setIfInBounds_toArray,List.set_cons_zero,List.set_cons_succ,i64_w,i32_w]
   rfl
  refine take_ (i:=1) (N:=some 12) (v:=?_) (a':=?_) #[true,true,false,false,false,false,false,false,false,false,false] rfl rfl (take_ofW HT_.out HW_.out (by kernel_rfl)) (fun _ _ _ h=>h) (Or.inl ⟨by rfl,?_⟩) hHeld ?_ ?_
  rotate_left
  ·intro w' s0
   go_simp
   with_reducible rfl
  rotate_left
  ·simp only [Act.put,List.setIfInBounds_toArray,List.set_cons_zero,List.set_cons_succ,i64_w,i32_w]
   rfl
  refine take_ (i:=4) (N:=some 15) (v:=?_) (a':=?_) #[true,true,false,false,true,false,false,false,false,false,false] rfl rfl (take_ofW HT_.out HW_.out (by kernel_rfl)) (fun _ _ _ h=>h) (Or.inl ⟨by rfl,?_⟩) hHeld ?_ ?_
  rotate_left
  ·intro w' s0
   go_simp
   with_reducible rfl
  rotate_left
  ·simp only [Act.put,List.setIfInBounds_toArray,List.set_cons_zero,List.set_cons_succ,i64_w,i32_w]
   rfl
  refine take_ (i:=5) (N:=some 16) (v:=?_) (a':=?_) #[true,true,false,false,true,true,false,false,false,false,false] rfl rfl (take_ofW HT_.out HW_.out (by kernel_rfl)) (fun _ _ _ h=>h) (Or.inl ⟨by rfl,?_⟩) hHeld ?_ ?_
  rotate_left
  ·intro w' s0
   go_simp
   with_reducible rfl
  rotate_left
  ·simp only [Act.put,List.setIfInBounds_toArray,List.set_cons_zero,List.set_cons_succ,i64_w,i32_w]
   rfl
  refine one_ (i:=2) (N:=some 13) #[true,true,true,false,true,true,false,false,false,false,false] rfl rfl (one_of HT_.out (by kernel_rfl)) (by decide) (fun K hK=>?_)
  refine goes_ Try.func81 (by kernel_rfl) rfl #[.agg #[.slice A0_0 l0_0.length c0_0],.func (.func 82) #[] #[]] (by rfl) rfl rfl pG ?_
  with_reducible refine (danger_least_splits.calls k _ _ l0_0 t977 _ ?side1 ?side2 A4.out).mono ?_
  (case side1=>repeat (first|exact (Kd.C_below HR0_0.out HB.out)|(with_reducible refine Kd.C_alloc ?_ _)|(with_reducible refine Kd.C_drewN ?_ _)|(with_reducible refine Kd.C_drew ?_)))
  (case side2=>exact HC0_0.out)
  rintro e w12 ⟨v978,rfl,ho0,hb⟩
  refine ⟨_,rfl,?_⟩
  have n0_:=Z (Kd.R_lower ho0 (below_size pB))
  have n1_:=Z (blk_below (g:=gb975) (o:=.cells #[.slice A0_0 l0_0.length c0_0] 27 (0,0)) (pK BK975) hb)
  have n2_:=Z (below_step pB hb)
  clear BK975
  clear HB
  have HO979:=n0_
  have BK975:=n1_
  have HB:=n2_
  clear n0_ n1_ n2_
  (try clear hb)
  (try clear hb2)
  (try clear hk)
  (try clear hi)
  (try clear ho0)
  obtain ⟨Ao13,co13,eo13⟩:=Kd.R_slice HO979.out
  (first|subst eo13|(injection eo13 with f1_ f2_ f3_;have f4_:=f1_.symm;have f5_:=f3_.symm;clear f1_ f2_ f3_;subst f4_;subst f5_))
  refine hK.out _ _ ((kC BK975.out 0).trans rfl) (fun hHeld=>?_)
  clear hK K
  refine norm_ (a':=?_) ?_ ?_
  rotate_left
  ·show Act.put _ (some 13) _=_
   simp only [Act.put,List.setIfInBounds_toArray,List.set_cons_zero,List.set_cons_succ,i64_w,i32_w]
   rfl
  refine one_ (i:=3) (N:=some 14) #[true,true,true,true,true,true,false,false,false,false,false] rfl rfl (one_of HT_.out (by kernel_rfl)) (by decide) (fun K hK=>?_)
  refine goes_ Try.func84 (by kernel_rfl) rfl #[.agg #[.slice A0_0 l0_0.length c0_0],.slice Ao13 t977.length co13] (by rfl) rfl rfl pG ?_
  with_reducible refine (danger_tolerated.calls _ _ l0_0 _ _ t977 t980 _ ?side1 ?side2 ?side3 ?side4 A5.out).mono ?_
  (case side1=>repeat (first|exact (Kd.C_below HR0_0.out HB.out)|(with_reducible refine Kd.C_alloc ?_ _)|(with_reducible refine Kd.C_drewN ?_ _)|(with_reducible refine Kd.C_drew ?_)))
  (case side2=>exact HC0_0.out)
  (case side3=>repeat (first|exact (Kd.R_reads' HO979.out).2.2|(with_reducible refine Kd.C_alloc ?_ _)|(with_reducible refine Kd.C_drewN ?_ _)|(with_reducible refine Kd.C_drew ?_)))
  (case side4=>exact (Kd.R_reads' HO979.out).2.1)
  rintro e w14 ⟨rfl,hb⟩
  refine ⟨_,rfl,?_⟩
  have n0_:=Z (Kd.R_below (pR HO979) hb)
  have n1_:=Z (blk_below (g:=gb975) (o:=.cells #[.slice A0_0 l0_0.length c0_0] 27 (0,0)) (pK BK975) hb)
  have n2_:=Z (below_step pB hb)
  clear HO979
  clear BK975
  clear HB
  have HO979:=n0_
  have BK975:=n1_
  have HB:=n2_
  clear n0_ n1_ n2_
  (try clear hb)
  (try clear hb2)
  (try clear hk)
  (try clear hi)
  refine hK.out _ _ ((kC BK975.out 0).trans rfl) (fun hHeld=>?_)
  clear hK K
  refine norm_ (a':=?_) ?_ ?_
  rotate_left
  ·show Act.put _ (some 14) _=_
   simp only [Act.put,List.setIfInBounds_toArray,List.set_cons_zero,List.set_cons_succ,i64_w,i32_w]
   rfl
  refine one_ (i:=6) (N:=some 17) #[true,true,true,true,true,true,true,false,false,false,false] rfl rfl (one_of HT_.out (by kernel_rfl)) (by decide) (fun K hK=>?_)
  refine goes_ Try.func81 (by kernel_rfl) rfl #[.agg #[.slice A0_0 l0_0.length c0_0],.func (.func 83) #[] #[]] (by rfl) rfl rfl pG ?_
  with_reducible refine (danger_least_halts.calls k _ _ l0_0 t981 _ ?side1 ?side2 A6.out).mono ?_
  (case side1=>repeat (first|exact (Kd.C_below HR0_0.out HB.out)|(with_reducible refine Kd.C_alloc ?_ _)|(with_reducible refine Kd.C_drewN ?_ _)|(with_reducible refine Kd.C_drew ?_)))
  (case side2=>exact HC0_0.out)
  rintro e w15 ⟨v982,rfl,ho0,hb⟩
  refine ⟨_,rfl,?_⟩
  have n0_:=Z (Kd.R_elder' (pR HO979) (Kd.R_base ho0) hb)
  have n1_:=Z (Kd.R_lower (Kd.R_new' ho0 (Kd.R_lt (pR HO979))) (below_size pB))
  have n2_:=Z (blk_below (g:=gb975) (o:=.cells #[.slice A0_0 l0_0.length c0_0] 27 (0,0)) (pK BK975) hb)
  have n3_:=Z (below_step pB hb)
  clear HO979
  clear BK975
  clear HB
  have HO979:=n0_
  have HO983:=n1_
  have BK975:=n2_
  have HB:=n3_
  clear n0_ n1_ n2_ n3_
  (try clear hb)
  (try clear hb2)
  (try clear hk)
  (try clear hi)
  (try clear ho0)
  obtain ⟨Ao16,co16,eo16⟩:=Kd.R_slice HO983.out
  (first|subst eo16|(injection eo16 with f1_ f2_ f3_;have f4_:=f1_.symm;have f5_:=f3_.symm;clear f1_ f2_ f3_;subst f4_;subst f5_))
  refine hK.out _ _ ((kC BK975.out 0).trans rfl) (fun hHeld=>?_)
  clear hK K
  refine norm_ (a':=?_) ?_ ?_
  rotate_left
  ·show Act.put _ (some 17) _=_
   simp only [Act.put,List.setIfInBounds_toArray,List.set_cons_zero,List.set_cons_succ,i64_w,i32_w]
   rfl
  refine one_ (i:=7) (N:=some 18) #[true,true,true,true,true,true,true,true,false,false,false] rfl rfl (one_of HT_.out (by kernel_rfl)) (by decide) (fun K hK=>?_)
  refine goes_ Try.func84 (by kernel_rfl) rfl #[.agg #[.slice A0_0 l0_0.length c0_0],.slice Ao16 t981.length co16] (by rfl) rfl rfl pG ?_
  with_reducible refine (danger_tolerated.calls _ _ l0_0 _ _ t981 t984 _ ?side1 ?side2 ?side3 ?side4 A7.out).mono ?_
  (case side1=>repeat (first|exact (Kd.C_below HR0_0.out HB.out)|(with_reducible refine Kd.C_alloc ?_ _)|(with_reducible refine Kd.C_drewN ?_ _)|(with_reducible refine Kd.C_drew ?_)))
  (case side2=>exact HC0_0.out)
  (case side3=>repeat (first|exact (Kd.R_reads' HO983.out).2.2|(with_reducible refine Kd.C_alloc ?_ _)|(with_reducible refine Kd.C_drewN ?_ _)|(with_reducible refine Kd.C_drew ?_)))
  (case side4=>exact (Kd.R_reads' HO983.out).2.1)
  rintro e w17 ⟨rfl,hb⟩
  refine ⟨_,rfl,?_⟩
  have n0_:=Z (Kd.R_below (pR HO979) hb)
  have n1_:=Z (Kd.R_below (pR HO983) hb)
  have n2_:=Z (blk_below (g:=gb975) (o:=.cells #[.slice A0_0 l0_0.length c0_0] 27 (0,0)) (pK BK975) hb)
  have n3_:=Z (below_step pB hb)
  clear HO979
  clear HO983
  clear BK975
  clear HB
  have HO979:=n0_
  have HO983:=n1_
  have BK975:=n2_
  have HB:=n3_
  clear n0_ n1_ n2_ n3_
  (try clear hb)
  (try clear hb2)
  (try clear hk)
  (try clear hi)
  refine hK.out _ _ ((kC BK975.out 0).trans rfl) (fun hHeld=>?_)
  clear hK K
  refine norm_ (a':=?_) ?_ ?_
  rotate_left
  ·show Act.put _ (some 18) _=_
   simp only [Act.put,List.setIfInBounds_toArray,List.set_cons_zero,List.set_cons_succ,i64_w,i32_w]
   rfl
  refine pure_ (i:=8) (N:=some 2) (v:=?_) (a':=?_) #[true,true,true,true,true,true,true,true,true,false,false] rfl rfl (any_of HT_.out (by kernel_rfl)) (fun _ _ _ h=>h) (Or.inl ⟨by rfl,?_⟩) ?_ ?_
  rotate_left
  ·intro w'
   go_simp
   with_reducible rfl
  rotate_left
  ·simp only [Act.put,List.setIfInBounds_toArray,List.set_cons_zero,List.set_cons_succ,i64_w,i32_w]
   rfl
  refine pure_ (i:=9) (N:=some 3) (v:=?_) (a':=?_) #[true,true,true,true,true,true,true,true,true,true,false] rfl rfl (any_of HT_.out (by kernel_rfl)) (fun _ _ _ h=>h) (Or.inl ⟨by rfl,?_⟩) ?_ ?_
  rotate_left
  ·intro w'
   go_simp
   with_reducible rfl
  rotate_left
  ·simp only [Act.put,List.setIfInBounds_toArray,List.set_cons_zero,List.set_cons_succ,i64_w,i32_w]
   rfl
  refine pure_ (i:=10) (N:=some 4) (v:=?_) (a':=?_) #[true,true,true,true,true,true,true,true,true,true,true] rfl rfl (any_of HT_.out (by kernel_rfl)) (fun _ _ _ h=>h) (Or.inl ⟨by rfl,?_⟩) ?_ ?_
  rotate_left
  ·intro w'
   go_simp
   with_reducible rfl
  rotate_left
  ·simp only [Act.put,List.setIfInBounds_toArray,List.set_cons_zero,List.set_cons_succ,i64_w,i32_w]
   rfl
  refine done_ (done_of HT_.out (by kernel_rfl)) ?_
  try go_wp2
  go_ret3
  exact ⟨pF,pB⟩
 ·rw [if_neg c3] at H
  have c3b0:(t976 == 0)=false:=beq_eq_false_iff_ne.mpr c3
  have c3b1:(t976 != 0)=true:=bne_iff_ne.mpr c3
  simp only [Option.some.injEq,Prod.mk.injEq] at H
  obtain ⟨rfl,rfl,rfl⟩:=H
  go_enter Try.func49,Try.ntmps49
  go_wp2_with (first|((with_reducible refine gate_dst (N:=1) rfl ?_);refine box_event ?hg (N:=1) ?hd (cs:=#[.slice A0_0 l0_0.length c0_0]) (t:=27) ?hr ?_;(case hd=>rfl);(case hg=>rfl);(case hr=>first|(go_simp;done)|(go_simp;rfl));intro gb975 hg w18 hbox hb;have n0_:=Z (below_step pB hb);have n1_:=Z (hbox);have n2_:=Z ((pT hg:w.heap.size≤gb975));have n3_:=Z ((pT hg:w.heap.size≤gb975));clear HB;have HB:=n0_;have BK975:=n1_;have GW975:=n2_;have GE975:=n3_;clear n0_ n1_ n2_ n3_;clear hb hbox hg;have hcz19_0:w18.cell? ⟨gb975,0,none⟩=some (.slice A0_0 l0_0.length c0_0):=(kC BK975.out 0).trans rfl;have hfz19_0:=kF BK975.out 0)|((with_reducible refine gate_callee (f:=80) rfl ?_);refine goesL_ (some 7) rfl rfl Try.func80 (by kernel_rfl) rfl #[.agg #[.slice A0_0 l0_0.length c0_0]] rfl pG ?_;(with_reducible refine (danger_small.calls k _ _ l0_0 t976 _ ?side1 ?side2 A2.out).mono ?_);(case side1=>repeat (first|exact (Kd.C_below HR0_0.out HB.out)|(with_reducible refine Kd.C_alloc ?_ _)|(with_reducible refine Kd.C_drewN ?_ _)|(with_reducible refine Kd.C_drew ?_)));(case side2=>exact HC0_0.out);rintro e w20 ⟨rfl,hb⟩;refine ⟨_,rfl,?_⟩;have n0_:=Z (blk_below (g:=gb975) (o:=.cells #[.slice A0_0 l0_0.length c0_0] 27 (0,0)) (pK BK975) hb);have n1_:=Z (below_step pB hb);clear BK975;clear HB;have BK975:=n0_;have HB:=n1_;clear n0_ n1_;(try clear hb);(try clear hb2);(try clear hk);(try clear hi)))
  go_ret3
  exact ⟨pF,pB⟩
def trustquorumlaw16_awake.f (k:Nat) :Option (Bool):=(trustquorumlaw16_same.f k 4 3).bind fun t985=>((danger_Splitting.f k t985).bind fun bt988=>((trustquorumlaw16_same.f k 4 3).bind fun t992=>((danger_Halting.f k t992).bind fun bt995=>((trustquorumlaw16_same.f k 4 3).bind fun t999=>((danger_Tolerates.f k t999).bind fun bt1002=>(if bt988.2=0 then (if bt995.2=0 then (if bt1002.2.2=0 then ((trustquorummake_Ints.f k bt988.1 (([3,5,6,9,10,12]:List Int))).bind fun t1008=>(if t1008=true then ((trustquorummake_Ints.f k bt995.1 bt988.1).bind fun t1009=>(if t1009=true then (if bt1002.1=1 then (some (bt1002.2.1 == 1)) else (some false)) else (some false))) else (some false))) else (some false)) else (some false)) else (some false)))))))
set_option maxHeartbeats 8000000 in
set_option maxRecDepth 100000 in
theorem trustquorumlaw16_awake.calls (k:Nat)  (w:World) (h:trustquorumlaw16_awake.f k =some true) :
  Calls Try.prog 50 #[] w fun e w'=>e=.returned (.bool true)∧Below w.heap.size w w':=by
 have HB:=Z (Below.refl w.heap.size w)
 have H:((trustquorumlaw16_same.f k 4 3).bind fun t985=>((danger_Splitting.f k t985).bind fun bt988=>((trustquorumlaw16_same.f k 4 3).bind fun t992=>((danger_Halting.f k t992).bind fun bt995=>((trustquorumlaw16_same.f k 4 3).bind fun t999=>((danger_Tolerates.f k t999).bind fun bt1002=>(if bt988.2=0 then (if bt995.2=0 then (if bt1002.2.2=0 then ((trustquorummake_Ints.f k bt988.1 (([3,5,6,9,10,12]:List Int))).bind fun t1008=>(if t1008=true then ((trustquorummake_Ints.f k bt995.1 bt988.1).bind fun t1009=>(if t1009=true then (if bt1002.1=1 then (some (bt1002.2.1 == 1)) else (some false)) else (some false))) else (some false))) else (some false)) else (some false)) else (some false))))))))=some true:=h
 clear h
 replace H:=Option.bind_eq_some_iff.mp H
 obtain ⟨t985,A10,H⟩:=H
 try dsimp only at H
 have A1:=Z A10
 clear A10
 replace H:=Option.bind_eq_some_iff.mp H
 obtain ⟨⟨t988,t991⟩,A20,H⟩:=H
 try dsimp only at H
 have A2:=Z A20
 clear A20
 replace H:=Option.bind_eq_some_iff.mp H
 obtain ⟨t992,A30,H⟩:=H
 try dsimp only at H
 have A3:=Z A30
 clear A30
 replace H:=Option.bind_eq_some_iff.mp H
 obtain ⟨⟨t995,t998⟩,A40,H⟩:=H
 try dsimp only at H
 have A4:=Z A40
 clear A40
 replace H:=Option.bind_eq_some_iff.mp H
 obtain ⟨t999,A50,H⟩:=H
 try dsimp only at H
 have A5:=Z A50
 clear A50
 replace H:=Option.bind_eq_some_iff.mp H
 obtain ⟨⟨t1002,t1003,t1004⟩,A60,H⟩:=H
 try dsimp only at H
 have A6:=Z A60
 clear A60
 by_cases c7:t991=0
 ·rw [if_pos c7] at H
  have c7b0:(t991 == 0)=true:=beq_iff_eq.mpr c7
  have c7b1:(t991 != 0)=false:=bne_eq_false_iff_eq.mpr c7
  clear c7
  by_cases c8:t998=0
  ·rw [if_pos c8] at H
   have c8b0:(t998 == 0)=true:=beq_iff_eq.mpr c8
   have c8b1:(t998 != 0)=false:=bne_eq_false_iff_eq.mpr c8
   clear c8
   by_cases c9:t1004=0
   ·rw [if_pos c9] at H
    have c9b0:(t1004 == 0)=true:=beq_iff_eq.mpr c9
    have c9b1:(t1004 != 0)=false:=bne_eq_false_iff_eq.mpr c9
    clear c9
    obtain ⟨y1005,hy1005⟩:∃ y_:List Int,y_=(([3,5,6,9,10,12]:List Int)):=⟨_,rfl⟩
    first|rw [← hy1005] at H|(replace H:=(Option.bind_some _ _).symm.trans H;rw [← hy1005] at H)
    have Ny1005:=Z hy1005
    clear hy1005
    replace H:=Option.bind_eq_some_iff.mp H
    obtain ⟨t1008,A100,H⟩:=H
    try dsimp only at H
    have A10:=Z A100
    clear A100
    by_cases c11:t1008=true
    ·subst c11
     rw [if_pos rfl] at H
     replace H:=Option.bind_eq_some_iff.mp H
     obtain ⟨t1009,A120,H⟩:=H
     try dsimp only at H
     have A12:=Z A120
     clear A120
     by_cases c13:t1009=true
     ·subst c13
      rw [if_pos rfl] at H
      by_cases c14:t1002=1
      ·rw [if_pos c14] at H
       have c14b0:(t1002 == 1)=true:=beq_iff_eq.mpr c14
       have c14b1:(t1002 != 1)=false:=bne_eq_false_iff_eq.mpr c14
       clear c14
       have HT:=Z (Option.some.inj H)
       clear H
       go_enter Try.func50,Try.ntmps50
       go_wp2_with (first|((with_reducible refine gate_callee (f:=46) rfl ?_);refine goesL_ (some 9) rfl rfl Try.func46 (by kernel_rfl) rfl #[.int .i64 4,.int .i64 3] rfl pG ?_;(with_reducible refine (trustquorumlaw16_same.calls k 4 3 t985 _ A1.out).mono ?_);rintro e w15 ⟨v986,rfl,ho0,hb⟩;refine ⟨_,rfl,?_⟩;have n0_:=Z (Kd.R_lower ho0 (below_size pB));have n1_:=Z (below_step pB hb);clear HB;have HO987:=n0_;have HB:=n1_;clear n0_ n1_;(try clear hb);(try clear hb2);(try clear hk);(try clear hi);(try clear ho0);obtain ⟨Ao16,co16,eo16⟩:=Kd.R_slice HO987.out;subst eo16)|((with_reducible refine gate_callee (f:=47) rfl ?_);refine goesL_ (some 10) rfl rfl Try.func47 (by kernel_rfl) rfl #[.agg #[.slice Ao16 t985.length co16]] rfl pG ?_;(with_reducible refine (danger_Splitting.calls k _ _ t985 t988 t991 _ ?side1 ?side2 A2.out).mono ?_);(case side1=>repeat (first|exact (Kd.R_reads' HO987.out).2.2|(with_reducible refine Kd.C_alloc ?_ _)|(with_reducible refine Kd.C_drewN ?_ _)|(with_reducible refine Kd.C_drew ?_)));(case side2=>exact (Kd.R_reads' HO987.out).2.1);rintro e w17 ⟨v989,rfl,ho0,hb⟩;refine ⟨_,rfl,?_⟩;have n0_:=Z (Kd.R_elder' (pR HO987) (Kd.R_base ho0) hb);have n1_:=Z (Kd.R_lower ho0 (below_size pB));have n2_:=Z (below_step pB hb);clear HO987;clear HB;have HO987:=n0_;have HO990:=n1_;have HB:=n2_;clear n0_ n1_ n2_;(try clear hb);(try clear hb2);(try clear hk);(try clear hi);(try clear ho0))|((with_reducible refine gate_callee (f:=46) rfl ?_);refine goesL_ (some 14) rfl rfl Try.func46 (by kernel_rfl) rfl #[.int .i64 4,.int .i64 3] rfl pG ?_;(with_reducible refine (trustquorumlaw16_same.calls k 4 3 t992 _ A3.out).mono ?_);rintro e w18 ⟨v993,rfl,ho0,hb⟩;refine ⟨_,rfl,?_⟩;have n0_:=Z (Kd.R_elder' (pR HO987) (Kd.R_base ho0) hb);have n1_:=Z (Kd.R_below (pR HO990) hb);have n2_:=Z (Kd.R_lower (Kd.R_new' (Kd.R_new' ho0 (Kd.R_lt (pR HO987))) (Kd.R_lt (pR HO990))) (below_size pB));have n3_:=Z (below_step pB hb);clear HO987;clear HO990;clear HB;have HO987:=n0_;have HO990:=n1_;have HO994:=n2_;have HB:=n3_;clear n0_ n1_ n2_ n3_;(try clear hb);(try clear hb2);(try clear hk);(try clear hi);(try clear ho0);obtain ⟨Ao19,co19,eo19⟩:=Kd.R_slice HO994.out;subst eo19)|((with_reducible refine gate_callee (f:=48) rfl ?_);refine goesL_ (some 15) rfl rfl Try.func48 (by kernel_rfl) rfl #[.agg #[.slice Ao19 t992.length co19]] rfl pG ?_;(with_reducible refine (danger_Halting.calls k _ _ t992 t995 t998 _ ?side1 ?side2 A4.out).mono ?_);(case side1=>repeat (first|exact (Kd.R_reads' HO994.out).2.2|(with_reducible refine Kd.C_alloc ?_ _)|(with_reducible refine Kd.C_drewN ?_ _)|(with_reducible refine Kd.C_drew ?_)));(case side2=>exact (Kd.R_reads' HO994.out).2.1);rintro e w20 ⟨v996,rfl,ho0,hb⟩;refine ⟨_,rfl,?_⟩;have n0_:=Z (Kd.R_elder' (pR HO987) (Kd.R_base ho0) hb);have n1_:=Z (Kd.R_elder' (pR HO990) (Kd.R_base ho0) hb);have n2_:=Z (Kd.R_elder' (pR HO994) (Kd.R_base ho0) hb);have n3_:=Z (Kd.R_lower (Kd.R_new' ho0 (Kd.R_lt (pR HO990))) (below_size pB));have n4_:=Z (below_step pB hb);clear HO987;clear HO990;clear HO994;clear HB;have HO987:=n0_;have HO990:=n1_;have HO994:=n2_;have HO997:=n3_;have HB:=n4_;clear n0_ n1_ n2_ n3_ n4_;(try clear hb);(try clear hb2);(try clear hk);(try clear hi);(try clear ho0))|((with_reducible refine gate_callee (f:=46) rfl ?_);refine goesL_ (some 19) rfl rfl Try.func46 (by kernel_rfl) rfl #[.int .i64 4,.int .i64 3] rfl pG ?_;(with_reducible refine (trustquorumlaw16_same.calls k 4 3 t999 _ A5.out).mono ?_);rintro e w21 ⟨v1000,rfl,ho0,hb⟩;refine ⟨_,rfl,?_⟩;have n0_:=Z (Kd.R_elder' (pR HO987) (Kd.R_base ho0) hb);have n1_:=Z (Kd.R_below (pR HO990) hb);have n2_:=Z (Kd.R_elder' (pR HO994) (Kd.R_base ho0) hb);have n3_:=Z (Kd.R_below (pR HO997) hb);have n4_:=Z (Kd.R_lower (Kd.R_new' (Kd.R_new' (Kd.R_new' (Kd.R_new' ho0 (Kd.R_lt (pR HO987))) (Kd.R_lt (pR HO990))) (Kd.R_lt (pR HO994))) (Kd.R_lt (pR HO997))) (below_size pB));have n5_:=Z (below_step pB hb);clear HO987;clear HO990;clear HO994;clear HO997;clear HB;have HO987:=n0_;have HO990:=n1_;have HO994:=n2_;have HO997:=n3_;have HO1001:=n4_;have HB:=n5_;clear n0_ n1_ n2_ n3_ n4_ n5_;(try clear hb);(try clear hb2);(try clear hk);(try clear hi);(try clear ho0);obtain ⟨Ao22,co22,eo22⟩:=Kd.R_slice HO1001.out;subst eo22)|((with_reducible refine gate_callee (f:=49) rfl ?_);refine goesL_ (some 20) rfl rfl Try.func49 (by kernel_rfl) rfl #[.agg #[.slice Ao22 t999.length co22]] rfl pG ?_;(with_reducible refine (danger_Tolerates.calls k _ _ t999 t1002 t1003 t1004 _ ?side1 ?side2 A6.out).mono ?_);(case side1=>repeat (first|exact (Kd.R_reads' HO1001.out).2.2|(with_reducible refine Kd.C_alloc ?_ _)|(with_reducible refine Kd.C_drewN ?_ _)|(with_reducible refine Kd.C_drew ?_)));(case side2=>exact (Kd.R_reads' HO1001.out).2.1);rintro e w23 ⟨rfl,hb⟩;refine ⟨_,rfl,?_⟩;have n0_:=Z (Kd.R_below (pR HO987) hb);have n1_:=Z (Kd.R_below (pR HO990) hb);have n2_:=Z (Kd.R_below (pR HO994) hb);have n3_:=Z (Kd.R_below (pR HO997) hb);have n4_:=Z (Kd.R_below (pR HO1001) hb);have n5_:=Z (below_step pB hb);clear HO987;clear HO990;clear HO994;clear HO997;clear HO1001;clear HB;have HO987:=n0_;have HO990:=n1_;have HO994:=n2_;have HO997:=n3_;have HO1001:=n4_;have HB:=n5_;clear n0_ n1_ n2_ n3_ n4_ n5_;(try clear hb);(try clear hb2);(try clear hk);(try clear hi))|((with_reducible refine gate_dst (N:=36) rfl ?_);(try (refine gate_guard (by rfl) ?_;dsimp only));refine Kd.R_lit (Kd.int .i64) _ 3 ?hg (N:=36) ?hd (xs:=([3,5,6,9,10,12]:List Int)) (inner:=[.int .i64 3,.int .i64 5,.int .i64 6,.int .i64 9,.int .i64 10,.int .i64 12]) (ok:=fun _=>True) (okp:=fun _=>True) ?hr ?hp (fun _ hk=>hk) trivial (Below.refl _ _) (Nat.le_refl _) (by simp) ?_;(case hd=>rfl);(case hg=>rfl);(case hr=>first|(go_simp;done)|(go_simp;rfl));(case hp=>exact (Reps.one (show Kd.M (Kd.int .i64) _ _ _ 3 [.int .i64 3] from rfl) (Reps.one (show Kd.M (Kd.int .i64) _ _ _ 5 [.int .i64 5] from rfl) (Reps.one (show Kd.M (Kd.int .i64) _ _ _ 6 [.int .i64 6] from rfl) (Reps.one (show Kd.M (Kd.int .i64) _ _ _ 9 [.int .i64 9] from rfl) (Reps.one (show Kd.M (Kd.int .i64) _ _ _ 10 [.int .i64 10] from rfl) (Reps.one (show Kd.M (Kd.int .i64) _ _ _ 12 [.int .i64 12] from rfl) (Reps.none _ _))))))));intro v1006 w24 ho25 hb hg_ hnew_;clear hg_ hnew_;(first|rw [← Ny1005.out] at ho25|(simp only [Int.reduceToNat] at ho25;rw [← Ny1005.out] at ho25));have n0_:=Z (Kd.R_elder' (pR HO987) (Kd.R_base ho25) hb);have n1_:=Z (Kd.R_elder' (pR HO990) (Kd.R_base ho25) hb);have n2_:=Z (Kd.R_elder' (pR HO994) (Kd.R_base ho25) hb);have n3_:=Z (Kd.R_elder' (pR HO997) (Kd.R_base ho25) hb);have n4_:=Z (Kd.R_elder' (pR HO1001) (Kd.R_base ho25) hb);have n5_:=Z (Kd.R_lower (Kd.R_new' (Kd.R_new' ho25 (Kd.R_lt (pR HO990))) (Kd.R_lt (pR HO997))) (below_size pB));have n6_:=Z (below_step pB hb);clear HO987;clear HO990;clear HO994;clear HO997;clear HO1001;clear HB;have HO987:=n0_;have HO990:=n1_;have HO994:=n2_;have HO997:=n3_;have HO1001:=n4_;have HO1007:=n5_;have HB:=n6_;clear n0_ n1_ n2_ n3_ n4_ n5_ n6_;clear hb ho25;obtain ⟨Ao26,co26,eo26⟩:=Kd.R_slice HO990.out;subst eo26;obtain ⟨Ao27,co27,eo27⟩:=Kd.R_slice HO1007.out;subst eo27)|(go_at_call 22;(with_reducible refine (trustquorummake_Ints.calls k _ _ t988 _ _ y1005 true _ ?side1 ?side2 ?side3 ?side4 A10.out).mono ?_);(case side1=>repeat (first|exact (Kd.R_reads' HO990.out).2.2|(with_reducible refine Kd.C_alloc ?_ _)|(with_reducible refine Kd.C_drewN ?_ _)|(with_reducible refine Kd.C_drew ?_)));(case side2=>exact (Kd.R_reads' HO990.out).2.1);(case side3=>repeat (first|exact (Kd.R_reads' HO1007.out).2.2|(with_reducible refine Kd.C_alloc ?_ _)|(with_reducible refine Kd.C_drewN ?_ _)|(with_reducible refine Kd.C_drew ?_)));(case side4=>exact (Kd.R_reads' HO1007.out).2.1);rintro e w' ⟨rfl,⟨nd,rfl⟩⟩;obtain ⟨Ao28,co28,eo28⟩:=Kd.R_slice HO997.out;subst eo28)|(go_at_call 22;(with_reducible refine (trustquorummake_Ints.calls k _ _ t995 _ _ t988 true _ ?side1 ?side2 ?side3 ?side4 A12.out).mono ?_);(case side1=>repeat (first|exact (Kd.R_reads' HO997.out).2.2|(with_reducible refine Kd.C_alloc ?_ _)|(with_reducible refine Kd.C_drewN ?_ _)|(with_reducible refine Kd.C_drew ?_)));(case side2=>exact (Kd.R_reads' HO997.out).2.1);(case side3=>repeat (first|exact (Kd.R_reads' HO990.out).2.2|(with_reducible refine Kd.C_alloc ?_ _)|(with_reducible refine Kd.C_drewN ?_ _)|(with_reducible refine Kd.C_drew ?_)));(case side4=>exact (Kd.R_reads' HO990.out).2.1);rintro e w' ⟨rfl,⟨nd,rfl⟩⟩))
       go_ret
       exact ⟨by first|rfl|exact congrArg (fun b_:Bool=>Ending.returned (Value.bool b_)) HT.out|(simp [errW_none,errW_some] <;> rfl)|(simp [*,errW_none,errW_some] <;> rfl),pB⟩
      ·rw [if_neg c14] at H
       have c14b0:(t1002 == 1)=false:=beq_eq_false_iff_ne.mpr c14
       have c14b1:(t1002 != 1)=true:=bne_iff_ne.mpr c14
       exact absurd H (by simp)
     ·replace c13:=Bool.eq_false_iff.mpr c13
      subst c13
      rw [if_neg (show ¬ (false=true) by decide)] at H
      exact absurd H (by simp)
    ·replace c11:=Bool.eq_false_iff.mpr c11
     subst c11
     rw [if_neg (show ¬ (false=true) by decide)] at H
     exact absurd H (by simp)
   ·rw [if_neg c9] at H
    have c9b0:(t1004 == 0)=false:=beq_eq_false_iff_ne.mpr c9
    have c9b1:(t1004 != 0)=true:=bne_iff_ne.mpr c9
    exact absurd H (by simp)
  ·rw [if_neg c8] at H
   have c8b0:(t998 == 0)=false:=beq_eq_false_iff_ne.mpr c8
   have c8b1:(t998 != 0)=true:=bne_iff_ne.mpr c8
   exact absurd H (by simp)
 ·rw [if_neg c7] at H
  have c7b0:(t991 == 0)=false:=beq_eq_false_iff_ne.mpr c7
  have c7b1:(t991 != 0)=true:=bne_iff_ne.mpr c7
  exact absurd H (by simp)
mutual
def trustquorumlaw16_DangerUniform.j0:Nat→Int→Int→List Int→List Int→Int→Bool→Option (Bool)
 | 0,_,_,_,_,_,_=>none
 | k+1,x5,x6,x8,x10,x12,x67=>if x67=true then (some false) else (trustquorumlaw16_DangerUniform.l0 k x5 x6 x8 x10 x12 0 0 (mx 0 (wrap64 ((wrap64 (2 * x6)) - x5))) 0)
def trustquorumlaw16_DangerUniform.l0:Nat→Int→Int→List Int→List Int→Int→Int→Int→Int→Int→Option (Bool)
 | 0,_,_,_,_,_,_,_,_,_=>none
 | k+1,x5,x6,x8,x10,x12,x15,x16,x17,x18=>if 0≤x5 then (if x18 < (shl .i64 1 x5) then ((trustquorumref01_Size.f k x18).bind fun t1025=>(if t1025=x17 then (trustquorumlaw16_DangerUniform.j2 k x5 x6 x8 x10 x12 x15 x16 x17 x18 (decide (x6 < x5))) else (trustquorumlaw16_DangerUniform.j2 k x5 x6 x8 x10 x12 x15 x16 x17 x18 false))) else (trustquorumlaw16_DangerUniform.l1 k x5 x6 x8 x10 x12 x15 x16 x17 x8 (x8.length:Int) 0)) else (none)
def trustquorumlaw16_DangerUniform.j2:Nat→Int→Int→List Int→List Int→Int→Int→Int→Int→Int→Bool→Option (Bool)
 | 0,_,_,_,_,_,_,_,_,_,_=>none
 | k+1,x5,x6,x8,x10,x12,x15,x16,x17,x18,x87=>if x87=true then ((trustquorumref01_Size.f k x18).bind fun t1026=>(if t1026=(wrap64 ((wrap64 (x5 - x6))+1)) then (trustquorumlaw16_DangerUniform.l0 k x5 x6 x8 x10 x12 (wrap64 (x15+1)) (wrap64 (x16+1)) x17 (wrap64 (x18+1))) else (trustquorumlaw16_DangerUniform.l0 k x5 x6 x8 x10 x12 (wrap64 (x15+1)) x16 x17 (wrap64 (x18+1))))) else ((trustquorumref01_Size.f k x18).bind fun t1027=>(if t1027=(wrap64 ((wrap64 (x5 - x6))+1)) then (trustquorumlaw16_DangerUniform.l0 k x5 x6 x8 x10 x12 x15 (wrap64 (x16+1)) x17 (wrap64 (x18+1))) else (trustquorumlaw16_DangerUniform.l0 k x5 x6 x8 x10 x12 x15 x16 x17 (wrap64 (x18+1)))))
def trustquorumlaw16_DangerUniform.l1:Nat→Int→Int→List Int→List Int→Int→Int→Int→Int→List Int→Int→Int→Option (Bool)
 | 0,_,_,_,_,_,_,_,_,_,_,_=>none
 | k+1,x5,x6,x8,x10,x12,x15,x16,x17,x99,x100,x101=>if x101 < x100 then (if 0≤x101 then (if x101 < (x99.length:Int) then ((trustquorumref01_Size.f k (rd x99 x101)).bind fun t1029=>(if t1029=x17 then (trustquorumlaw16_DangerUniform.l1 k x5 x6 x8 x10 x12 x15 x16 x17 x99 x100 (wrap64 (x101+1))) else (some false))) else (none)) else (none)) else (trustquorumlaw16_DangerUniform.l2 k x5 x6 x8 x10 x12 x15 x16 x17 x10 (x10.length:Int) 0)
def trustquorumlaw16_DangerUniform.l2:Nat→Int→Int→List Int→List Int→Int→Int→Int→Int→List Int→Int→Int→Option (Bool)
 | 0,_,_,_,_,_,_,_,_,_,_,_=>none
 | k+1,x5,x6,x8,x10,x12,x15,x16,x17,x110,x111,x112=>if x112 < x111 then (if 0≤x112 then (if x112 < (x110.length:Int) then ((trustquorumref01_Size.f k (rd x110 x112)).bind fun t1031=>(if t1031=(wrap64 ((wrap64 (x5 - x6))+1)) then (trustquorumlaw16_DangerUniform.l2 k x5 x6 x8 x10 x12 x15 x16 x17 x110 x111 (wrap64 (x112+1))) else (some false))) else (none)) else (none)) else (if x6=x5 then (if (x8.length:Int)=0 then (if x12=x5 then (if (x10.length:Int)=x16 then ((trustquorumlaw16_awake.f k).bind fun t1032=>(some t1032)) else (some false)) else (some false)) else (some false)) else (if (x8.length:Int)=x15 then (if (x10.length:Int)=x16 then (if x12=(wrap64 (x17 - 1)) then ((trustquorumlaw16_awake.f k).bind fun t1033=>(some t1033)) else (some false)) else (some false)) else (some false)))
end
def trustquorumlaw16_DangerUniform.f (k:Nat) (a0:Int) (a1:Int):Option (Bool):=if (wrap64 (1+(Int.tmod (wrap64 (a0)) 7)))=0 then (none) else ((trustquorumlaw16_same.f k (wrap64 (1+(Int.tmod (wrap64 (a0)) 7))) (wrap64 (1+(Int.tmod (wrap64 (a1)) (wrap64 (1+(Int.tmod (wrap64 (a0)) 7))))))).bind fun t1010=>((danger_Splitting.f k t1010).bind fun bt1014=>((danger_Halting.f k t1010).bind fun bt1018=>((danger_Tolerates.f k t1010).bind fun bt1022=>(if bt1014.2=0 then (if bt1018.2=0 then (if bt1022.2.2=0 then (trustquorumlaw16_DangerUniform.j0 k (wrap64 (1+(Int.tmod (wrap64 (a0)) 7))) (wrap64 (1+(Int.tmod (wrap64 (a1)) (wrap64 (1+(Int.tmod (wrap64 (a0)) 7)))))) bt1014.1 bt1018.1 bt1022.1 (bt1022.2.1 != (wrap64 ((wrap64 (1+(Int.tmod (wrap64 (a0)) 7))) - (wrap64 (1+(Int.tmod (wrap64 (a1)) (wrap64 (1+(Int.tmod (wrap64 (a0)) 7)))))))))) else (trustquorumlaw16_DangerUniform.j0 k (wrap64 (1+(Int.tmod (wrap64 (a0)) 7))) (wrap64 (1+(Int.tmod (wrap64 (a1)) (wrap64 (1+(Int.tmod (wrap64 (a0)) 7)))))) bt1014.1 bt1018.1 bt1022.1 true)) else (trustquorumlaw16_DangerUniform.j0 k (wrap64 (1+(Int.tmod (wrap64 (a0)) 7))) (wrap64 (1+(Int.tmod (wrap64 (a1)) (wrap64 (1+(Int.tmod (wrap64 (a0)) 7)))))) bt1014.1 bt1018.1 bt1022.1 true)) else (trustquorumlaw16_DangerUniform.j0 k (wrap64 (1+(Int.tmod (wrap64 (a0)) 7))) (wrap64 (1+(Int.tmod (wrap64 (a1)) (wrap64 (1+(Int.tmod (wrap64 (a0)) 7)))))) bt1014.1 bt1018.1 bt1022.1 true))))))
set_option maxHeartbeats 8000000 in
set_option maxRecDepth 100000 in
theorem trustquorumlaw16_DangerUniform.calls (k:Nat) (a0:Int) (a1:Int) (w:World) (h:trustquorumlaw16_DangerUniform.f k a0 a1=some true) :
  Calls Try.prog 12 #[.int .u8 a0,.int .u8 a1] w fun e w'=>e=.returned (.bool true)∧Below w.heap.size w w':=by
 have hu27:=Try.underlying27
 have HB:=Z (Below.refl w.heap.size w)
 have H:(if (wrap64 (1+(Int.tmod (wrap64 (a0)) 7)))=0 then (none) else ((trustquorumlaw16_same.f k (wrap64 (1+(Int.tmod (wrap64 (a0)) 7))) (wrap64 (1+(Int.tmod (wrap64 (a1)) (wrap64 (1+(Int.tmod (wrap64 (a0)) 7))))))).bind fun t1010=>((danger_Splitting.f k t1010).bind fun bt1014=>((danger_Halting.f k t1010).bind fun bt1018=>((danger_Tolerates.f k t1010).bind fun bt1022=>(if bt1014.2=0 then (if bt1018.2=0 then (if bt1022.2.2=0 then (trustquorumlaw16_DangerUniform.j0 k (wrap64 (1+(Int.tmod (wrap64 (a0)) 7))) (wrap64 (1+(Int.tmod (wrap64 (a1)) (wrap64 (1+(Int.tmod (wrap64 (a0)) 7)))))) bt1014.1 bt1018.1 bt1022.1 (bt1022.2.1 != (wrap64 ((wrap64 (1+(Int.tmod (wrap64 (a0)) 7))) - (wrap64 (1+(Int.tmod (wrap64 (a1)) (wrap64 (1+(Int.tmod (wrap64 (a0)) 7)))))))))) else (trustquorumlaw16_DangerUniform.j0 k (wrap64 (1+(Int.tmod (wrap64 (a0)) 7))) (wrap64 (1+(Int.tmod (wrap64 (a1)) (wrap64 (1+(Int.tmod (wrap64 (a0)) 7)))))) bt1014.1 bt1018.1 bt1022.1 true)) else (trustquorumlaw16_DangerUniform.j0 k (wrap64 (1+(Int.tmod (wrap64 (a0)) 7))) (wrap64 (1+(Int.tmod (wrap64 (a1)) (wrap64 (1+(Int.tmod (wrap64 (a0)) 7)))))) bt1014.1 bt1018.1 bt1022.1 true)) else (trustquorumlaw16_DangerUniform.j0 k (wrap64 (1+(Int.tmod (wrap64 (a0)) 7))) (wrap64 (1+(Int.tmod (wrap64 (a1)) (wrap64 (1+(Int.tmod (wrap64 (a0)) 7)))))) bt1014.1 bt1018.1 bt1022.1 true)))))))=some true:=h
 clear h
 obtain ⟨ji23,hji23⟩:∃ j_:Int,(wrap64 (1+(Int.tmod (wrap64 (a0)) 7)))=j_:=⟨_,rfl⟩
 simp only [hji23] at H
 have hji23w:(IntKind.i64.wrap (1+(Int.tmod (wrap64 (a0)) 7)))=ji23:=(i64_w _).trans hji23
 by_cases c3:ji23=0
 ·rw [if_pos c3] at H
  exact absurd H (by simp)
 ·rw [if_neg c3] at H
  have c3b0:(ji23 == 0)=false:=beq_eq_false_iff_ne.mpr c3
  have c3b1:(ji23 != 0)=true:=bne_iff_ne.mpr c3
  replace H:=Option.bind_eq_some_iff.mp H
  obtain ⟨t1010,A40,H⟩:=H
  try dsimp only at H
  have A4:=Z A40
  clear A40
  replace H:=Option.bind_eq_some_iff.mp H
  obtain ⟨⟨t1014,t1017⟩,A50,H⟩:=H
  try dsimp only at H
  have A5:=Z A50
  clear A50
  replace H:=Option.bind_eq_some_iff.mp H
  obtain ⟨⟨t1018,t1021⟩,A60,H⟩:=H
  try dsimp only at H
  have A6:=Z A60
  clear A60
  replace H:=Option.bind_eq_some_iff.mp H
  obtain ⟨⟨t1022,t1023,t1024⟩,A70,H⟩:=H
  try dsimp only at H
  have A7:=Z A70
  clear A70
  have HC8:=Z H
  clear H
  go_enter Try.func12,Try.ntmps12
  go_upto_region 7 with (first|((with_reducible refine gate_callee (f:=46) rfl ?_);refine goesL_ (some 34) rfl rfl Try.func46 (by kernel_rfl) rfl #[.int .i64 ji23,.int .i64 (wrap64 (1+(Int.tmod (wrap64 (a1)) ji23)))] rfl pG ?_;(with_reducible refine (trustquorumlaw16_same.calls k ji23 (wrap64 (1+(Int.tmod (wrap64 (a1)) ji23))) t1010 _ A4.out).mono ?_);rintro e w9 ⟨v1011,rfl,ho0,hb⟩;refine ⟨_,rfl,?_⟩;have n0_:=Z (Kd.R_lower ho0 (below_size pB));have n1_:=Z (below_step pB hb);clear HB;have HO1012:=n0_;have HB:=n1_;clear n0_ n1_;(try clear hb);(try clear hb2);(try clear hk);(try clear hi);(try clear ho0))|((with_reducible refine gate_dst (N:=7) rfl ?_);(try (refine gate_guard (by rfl) ?_;dsimp only));refine box_event ?hg (N:=7) ?hd (cs:=#[.slice none 0 0]) (t:=27) ?hr ?_;(case hd=>rfl);(case hg=>rfl);(case hr=>first|(go_simp;done)|(go_simp;rfl));intro gb1013 hg w10 hbox hb;have n0_:=Z (Kd.R_below (pR HO1012) hb);have n1_:=Z (below_step pB hb);have n2_:=Z (hbox);have n3_:=Z ((pT hg:w.heap.size≤gb1013));have n4_:=Z ((pT hg:w.heap.size≤gb1013));clear HO1012;clear HB;have HO1012:=n0_;have HB:=n1_;have BK1013:=n2_;have GW1013:=n3_;have GE1013:=n4_;clear n0_ n1_ n2_ n3_ n4_;clear hb hbox hg;obtain ⟨Ao11,co11,eo11⟩:=Kd.R_slice HO1012.out;subst eo11;have hcz12_0:w10.cell? ⟨gb1013,0,none⟩=some (.slice none 0 0):=(kC BK1013.out 0).trans rfl;have hfz12_0:=kF BK1013.out 0)|((with_reducible refine gate_callee (f:=47) rfl ?_);refine goesL_ (some 37) rfl rfl Try.func47 (by kernel_rfl) rfl #[.agg #[.slice Ao11 t1010.length co11]] rfl pG ?_;(with_reducible refine (danger_Splitting.calls k _ _ t1010 t1014 t1017 _ ?side1 ?side2 A5.out).mono ?_);(case side1=>refine (Kd.R_reads' (e:=34) (base:=w.heap.size) (ok:=fun k_=>True) (n:=t1010.length) (c:=co11) ?_).2.2;exact (by (with_reducible repeat (first|apply Kd.R_alloc|apply Kd.R_drewN|apply Kd.R_drew));exact (Kd.R_mono (Kd.R_far (p:=⟨gb1013,0,none⟩) (Kd.R_types HO1012.out BK1013.out (by decide)) (fun _ hk=>hk.2) (.slice Ao11 t1010.length co11)) (fun _ h_=>h_.1))));(case side2=>exact (Kd.R_reads' HO1012.out).2.1);rintro e w13 ⟨v1015,rfl,ho0,hb⟩;refine ⟨_,rfl,?_⟩;have n0_:=Z (Kd.R_elder' (by (with_reducible repeat (first|apply Kd.R_alloc|apply Kd.R_drewN|apply Kd.R_drew));exact (Kd.R_mono (Kd.R_far (p:=⟨gb1013,0,none⟩) (Kd.R_types HO1012.out BK1013.out (by decide)) (fun _ hk=>hk.2) (.slice Ao11 t1010.length co11)) (fun _ h_=>h_.1))) (Kd.R_base ho0) hb);have n1_:=Z (Kd.R_lower ho0 (below_size pB));have n2_:=Z (blk_below (g:=gb1013) (o:=.cells #[.slice Ao11 t1010.length co11] 27 (0,0)) (by (with_reducible repeat (first|refine kN ?_ _|refine kD ?_|refine kA ?_ _));refine blk_put (cs:=#[.slice none 0 0]) ?_ 0 _ rfl;(with_reducible repeat (first|refine kN ?_ _|refine kD ?_|refine kA ?_ _));exact BK1013.out) hb);have n3_:=Z (below_step pB hb);clear HO1012;clear BK1013;clear HB;have HO1012:=n0_;have HO1016:=n1_;have BK1013:=n2_;have HB:=n3_;clear n0_ n1_ n2_ n3_;(try clear hb);(try clear hb2);(try clear hk);(try clear hi);(try clear ho0);have hcz14_0:w13.cell? ⟨gb1013,0,none⟩=some (.slice Ao11 t1010.length co11):=(kC BK1013.out 0).trans rfl;have hfz14_0:=kF BK1013.out 0)|((with_reducible refine gate_callee (f:=48) rfl ?_);refine goesL_ (some 42) rfl rfl Try.func48 (by kernel_rfl) rfl #[.agg #[.slice Ao11 t1010.length co11]] rfl pG ?_;(with_reducible refine (danger_Halting.calls k _ _ t1010 t1018 t1021 _ ?side1 ?side2 A6.out).mono ?_);(case side1=>repeat (first|exact (Kd.R_reads' HO1012.out).2.2|(with_reducible refine Kd.C_alloc ?_ _)|(with_reducible refine Kd.C_drewN ?_ _)|(with_reducible refine Kd.C_drew ?_)));(case side2=>exact (Kd.R_reads' HO1012.out).2.1);rintro e w15 ⟨v1019,rfl,ho0,hb⟩;refine ⟨_,rfl,?_⟩;have n0_:=Z (Kd.R_elder' (pR HO1012) (Kd.R_base ho0) hb);have n1_:=Z (Kd.R_elder' (pR HO1016) (Kd.R_base ho0) hb);have n2_:=Z (Kd.R_lower (Kd.R_new' ho0 (Kd.R_lt (pR HO1016))) (below_size pB));have n3_:=Z (blk_below (g:=gb1013) (o:=.cells #[.slice Ao11 t1010.length co11] 27 (0,0)) (pK BK1013) hb);have n4_:=Z (below_step pB hb);clear HO1012;clear HO1016;clear BK1013;clear HB;have HO1012:=n0_;have HO1016:=n1_;have HO1020:=n2_;have BK1013:=n3_;have HB:=n4_;clear n0_ n1_ n2_ n3_ n4_;(try clear hb);(try clear hb2);(try clear hk);(try clear hi);(try clear ho0);have hcz16_0:w15.cell? ⟨gb1013,0,none⟩=some (.slice Ao11 t1010.length co11):=(kC BK1013.out 0).trans rfl;have hfz16_0:=kF BK1013.out 0)|((with_reducible refine gate_callee (f:=49) rfl ?_);refine goesL_ (some 47) rfl rfl Try.func49 (by kernel_rfl) rfl #[.agg #[.slice Ao11 t1010.length co11]] rfl pG ?_;(with_reducible refine (danger_Tolerates.calls k _ _ t1010 t1022 t1023 t1024 _ ?side1 ?side2 A7.out).mono ?_);(case side1=>repeat (first|exact (Kd.R_reads' HO1012.out).2.2|(with_reducible refine Kd.C_alloc ?_ _)|(with_reducible refine Kd.C_drewN ?_ _)|(with_reducible refine Kd.C_drew ?_)));(case side2=>exact (Kd.R_reads' HO1012.out).2.1);rintro e w17 ⟨rfl,hb⟩;refine ⟨_,rfl,?_⟩;have n0_:=Z (Kd.R_below (pR HO1012) hb);have n1_:=Z (Kd.R_below (pR HO1016) hb);have n2_:=Z (Kd.R_below (pR HO1020) hb);have n3_:=Z (blk_below (g:=gb1013) (o:=.cells #[.slice Ao11 t1010.length co11] 27 (0,0)) (pK BK1013) hb);have n4_:=Z (below_step pB hb);clear HO1012;clear HO1016;clear HO1020;clear BK1013;clear HB;have HO1012:=n0_;have HO1016:=n1_;have HO1020:=n2_;have BK1013:=n3_;have HB:=n4_;clear n0_ n1_ n2_ n3_ n4_;(try clear hb);(try clear hb2);(try clear hk);(try clear hi)))
  (try simp only [Act.put,List.setIfInBounds_toArray,List.set_cons_zero,List.set_cons_succ])
  go_cut [67] (fun v67 wc=>∃ (kq:Nat) (x67_7:Bool),v67=.bool x67_7∧Aside0 (trustquorumlaw16_DangerUniform.j0 kq ji23 (wrap64 (1+(Int.tmod (wrap64 (a1)) ji23))) t1014 t1018 t1022 x67_7=some true)∧Aside0 (kq≤k)∧Aside0 (Kd.R (Kd.int .i64) 3 wc w.heap.size (fun k_=>some k_ ≠ (v1019:Value).ownBlock) v1015 t1014)∧Aside0 (Kd.R (Kd.int .i64) 3 wc w.heap.size (fun k_=>some k_ ≠ (v1015:Value).ownBlock) v1019 t1018)∧Aside0 (Kd.R k34 34 wc w.heap.size (fun k_=>some k_ ≠ (v1015:Value).ownBlock∧some k_ ≠ (v1019:Value).ownBlock) (.slice Ao11 t1010.length co11) t1010)∧Aside0 (wc.heap[gb1013]?=some (.cells #[(.slice Ao11 t1010.length co11)] 27 (0,0)))∧Aside0 (Below w.heap.size w wc))
  case first =>
   have H:=HC8.out
   clear HC8
   by_cases c18:t1017=0
   ·rw [if_pos c18] at H
    have c18b0:(t1017 == 0)=true:=beq_iff_eq.mpr c18
    have c18b1:(t1017 != 0)=false:=bne_eq_false_iff_eq.mpr c18
    clear c18
    (first|rw [c18b0]|(simp only [i64_w,i32_w];rw [c18b0])|skip)
    by_cases c19:t1021=0
    ·rw [if_pos c19] at H
     have c19b0:(t1021 == 0)=true:=beq_iff_eq.mpr c19
     have c19b1:(t1021 != 0)=false:=bne_eq_false_iff_eq.mpr c19
     clear c19
     by_cases c20:t1024=0
     ·rw [if_pos c20] at H
      have c20b0:(t1024 == 0)=true:=beq_iff_eq.mpr c20
      have c20b1:(t1024 != 0)=false:=bne_eq_false_iff_eq.mpr c20
      clear c20
      have H':=Z H
      clear H
      go_wp2
      go_meet
      case rel=>exact ⟨_,((t1023 != (wrap64 (ji23 - (wrap64 (1+(Int.tmod (wrap64 (a1)) ji23))))))),pE,H',⟨by first|omega|exact Nat.le_refl _⟩,⟨by (with_reducible repeat (first|apply Kd.R_alloc|apply Kd.R_drewN|apply Kd.R_drew));exact Kd.R_mono HO1016.out (fun _ hk=>hk.2)⟩,⟨by (with_reducible repeat (first|apply Kd.R_alloc|apply Kd.R_drewN|apply Kd.R_drew));exact Kd.R_mono HO1020.out (fun _ hk=>hk.2)⟩,⟨by (with_reducible repeat (first|apply Kd.R_alloc|apply Kd.R_drewN|apply Kd.R_drew));exact Kd.R_mono HO1012.out (fun _ hk=>⟨hk.1.2,hk.2⟩)⟩,⟨pK BK1013⟩,⟨pB⟩⟩
     ·rw [if_neg c20] at H
      have c20b0:(t1024 == 0)=false:=beq_eq_false_iff_ne.mpr c20
      have c20b1:(t1024 != 0)=true:=bne_iff_ne.mpr c20
      have H':=Z H
      clear H
      go_wp2
      go_meet
      case rel=>exact ⟨_,(true),pE,H',⟨by first|omega|exact Nat.le_refl _⟩,⟨by (with_reducible repeat (first|apply Kd.R_alloc|apply Kd.R_drewN|apply Kd.R_drew));exact Kd.R_mono HO1016.out (fun _ hk=>hk.2)⟩,⟨by (with_reducible repeat (first|apply Kd.R_alloc|apply Kd.R_drewN|apply Kd.R_drew));exact Kd.R_mono HO1020.out (fun _ hk=>hk.2)⟩,⟨by (with_reducible repeat (first|apply Kd.R_alloc|apply Kd.R_drewN|apply Kd.R_drew));exact Kd.R_mono HO1012.out (fun _ hk=>⟨hk.1.2,hk.2⟩)⟩,⟨pK BK1013⟩,⟨pB⟩⟩
    ·rw [if_neg c19] at H
     have c19b0:(t1021 == 0)=false:=beq_eq_false_iff_ne.mpr c19
     have c19b1:(t1021 != 0)=true:=bne_iff_ne.mpr c19
     have H':=Z H
     clear H
     go_wp2
     go_meet
     case rel=>exact ⟨_,(true),pE,H',⟨by first|omega|exact Nat.le_refl _⟩,⟨by (with_reducible repeat (first|apply Kd.R_alloc|apply Kd.R_drewN|apply Kd.R_drew));exact Kd.R_mono HO1016.out (fun _ hk=>hk.2)⟩,⟨by (with_reducible repeat (first|apply Kd.R_alloc|apply Kd.R_drewN|apply Kd.R_drew));exact Kd.R_mono HO1020.out (fun _ hk=>hk.2)⟩,⟨by (with_reducible repeat (first|apply Kd.R_alloc|apply Kd.R_drewN|apply Kd.R_drew));exact Kd.R_mono HO1012.out (fun _ hk=>⟨hk.1.2,hk.2⟩)⟩,⟨pK BK1013⟩,⟨pB⟩⟩
   ·rw [if_neg c18] at H
    have c18b0:(t1017 == 0)=false:=beq_eq_false_iff_ne.mpr c18
    have c18b1:(t1017 != 0)=true:=bne_iff_ne.mpr c18
    (first|rw [c18b0]|(simp only [i64_w,i32_w];rw [c18b0])|skip)
    have H':=Z H
    clear H
    go_wp2
    go_meet
    case rel=>exact ⟨_,(true),pE,H',⟨by first|omega|exact Nat.le_refl _⟩,⟨by (with_reducible repeat (first|apply Kd.R_alloc|apply Kd.R_drewN|apply Kd.R_drew));exact Kd.R_mono HO1016.out (fun _ hk=>hk.2)⟩,⟨by (with_reducible repeat (first|apply Kd.R_alloc|apply Kd.R_drewN|apply Kd.R_drew));exact Kd.R_mono HO1020.out (fun _ hk=>hk.2)⟩,⟨by (with_reducible repeat (first|apply Kd.R_alloc|apply Kd.R_drewN|apply Kd.R_drew));exact Kd.R_mono HO1012.out (fun _ hk=>⟨hk.1.2,hk.2⟩)⟩,⟨pK BK1013⟩,⟨pB⟩⟩
  case rest =>
   clear HC8
   try clear c1
   try clear c2
   try clear p2
   try clear c3
   try clear c3b0
   try clear c3b1
   try clear c4
   try clear p6
   try clear c12
   try clear c18
   try clear c18b0
   try clear c18b1
   try clear c19
   try clear c19b0
   try clear c19b1
   try clear c20
   try clear c20b0
   try clear c20b1
   try clear hcz12_0
   try clear hcz14_0
   try clear hcz16_0
   try clear hfz12_0
   try clear hfz14_0
   try clear hfz16_0
   obtain ⟨kq,x67_7,rfl,HA,HJ7,HO_8,HO_10,HO_1014000,BK1013,HB⟩:=hcut
   cases kq with
   | zero=>exact absurd HA.out (by simp [trustquorumlaw16_DangerUniform.j0])
   | succ kj7 =>
    have H:=HA.out
    clear HA
    simp only [trustquorumlaw16_DangerUniform.j0] at H
    by_cases c21:x67_7=true
    ·subst c21
     rw [if_pos rfl] at H
     exact absurd H (by simp)
    ·replace c21:=Bool.eq_false_iff.mpr c21
     subst c21
     rw [if_neg (show ¬ (false=true) by decide)] at H
     obtain ⟨ji22,hji22⟩:∃ j_:Int,(mx 0 (wrap64 ((wrap64 (2 * (wrap64 (1+(Int.tmod (wrap64 (a1)) ji23))))) - ji23)))=j_:=⟨_,rfl⟩
     replace H:(trustquorumlaw16_DangerUniform.l0 kj7 ji23 (wrap64 (1+(Int.tmod (wrap64 (a1)) ji23))) t1014 t1018 t1022 0 0 ji22 0)=some true:=by first|(rw [hji22] at H;exact H)|(simp only [hji22] at H ⊢;exact H)
     have hji22_:(if 0 < (wrap64 ((wrap64 (2 * (wrap64 (1+(Int.tmod (wrap64 (a1)) ji23))))) - ji23)) then (wrap64 ((wrap64 (2 * (wrap64 (1+(Int.tmod (wrap64 (a1)) ji23))))) - ji23)) else 0)=ji22:=hji22
     have H':=Z H
     clear H
     go_wp2
     go_loopg [15,16,18] kj7 (fun kq v15 v16 v18 w'=>∃ (x15_2:Int) (x16_2:Int) (x18_2:Int),v15=.int .i64 x15_2∧v16=.int .i64 x16_2∧v18=.int .i64 x18_2∧Aside0 (trustquorumlaw16_DangerUniform.l0 kq ji23 (wrap64 (1+(Int.tmod (wrap64 (a1)) ji23))) t1014 t1018 t1022 x15_2 x16_2 ji22 x18_2=some true)∧Aside0 (kq≤kj7)∧Aside0 (Kd.R (Kd.int .i64) 3 w' w.heap.size (fun k_=>some k_ ≠ (v1019:Value).ownBlock) v1015 t1014)∧Aside0 (Kd.R (Kd.int .i64) 3 w' w.heap.size (fun k_=>some k_ ≠ (v1015:Value).ownBlock) v1019 t1018)∧Aside0 (Kd.R k34 34 w' w.heap.size (fun k_=>some k_ ≠ (v1015:Value).ownBlock∧some k_ ≠ (v1019:Value).ownBlock) (.slice Ao11 t1010.length co11) t1010)∧Aside0 (w'.heap[gb1013]?=some (.cells #[(.slice Ao11 t1010.length co11)] 27 (0,0)))∧Aside0 (Below w.heap.size w w'))
     case atStart=>exact ⟨(0),(0),(0),pE,pE,pE,H',⟨Nat.le_refl _⟩,⟨pR HO_8⟩,⟨pR HO_10⟩,⟨pR HO_1014000⟩,⟨pK BK1013⟩,⟨pB⟩⟩
     case round =>
      clear H'
      try clear c1
      try clear c2
      try clear p2
      try clear c3
      try clear c3b0
      try clear c3b1
      try clear c4
      try clear p6
      try clear c12
      try clear c18
      try clear c18b0
      try clear c18b1
      try clear c19
      try clear c19b0
      try clear c19b1
      try clear c20
      try clear c20b0
      try clear c20b1
      try clear c21
      try clear hcz12_0
      try clear hcz14_0
      try clear hcz16_0
      try clear hfz12_0
      try clear hfz14_0
      try clear hfz16_0
      obtain ⟨x15_2,x16_2,x18_2,rfl,rfl,rfl,HA,HK2,HO_8,HO_10,HO_1014000,BK1013,HB⟩:=hrel
      cases gk with
      | zero=>exact absurd HA.out (by simp [trustquorumlaw16_DangerUniform.l0])
      | succ k2 =>
       have H:=HA.out
       clear HA
       simp only [trustquorumlaw16_DangerUniform.l0] at H
       by_cases c24:0≤(ji23)
       ·rw [if_pos c24] at H
        have c24b0:=eq_true c24
        have c24b1:decide (0≤(ji23))=true:=decide_eq_true c24
        clear c24
        obtain ⟨ji25,hji25⟩:∃ j_:Int,(shl .i64 1 (ji23))=j_:=⟨_,rfl⟩
        replace H:(if x18_2 < (ji25) then ((trustquorumref01_Size.f k2 x18_2).bind fun t1025=>(if t1025=ji22 then (trustquorumlaw16_DangerUniform.j2 k2 (ji23) (wrap64 (1+(Int.tmod (wrap64 (a1)) (ji23)))) t1014 t1018 t1022 x15_2 x16_2 ji22 x18_2 (decide ((wrap64 (1+(Int.tmod (wrap64 (a1)) (ji23)))) < (ji23)))) else (trustquorumlaw16_DangerUniform.j2 k2 (ji23) (wrap64 (1+(Int.tmod (wrap64 (a1)) (ji23)))) t1014 t1018 t1022 x15_2 x16_2 ji22 x18_2 false))) else (trustquorumlaw16_DangerUniform.l1 k2 (ji23) (wrap64 (1+(Int.tmod (wrap64 (a1)) (ji23)))) t1014 t1018 t1022 x15_2 x16_2 ji22 t1014 (t1014.length:Int) 0))=some true:=by first|(rw [hji25] at H;exact H)|(simp only [hji25] at H ⊢;exact H)
        have hji25_:(IntKind.i64.wrap (1 * 2 ^ min (ji23).toNat 64))=ji25:=hji25
        have hji25z:(ji23)≤64→(IntKind.i64.wrap (1 * 2 ^ (ji23).toNat))=ji25:=shl_small hji25
        have hji25u:(IntKind.i64.wrap (2 ^ min (ji23).toNat 64))=ji25:=by have h_:=hji25_;rw [Int.one_mul] at h_;exact h_
        have hji25v:(ji23)≤64→(IntKind.i64.wrap (2 ^ (ji23).toNat))=ji25:=fun hle_=>by have h_:=hji25z hle_;rw [Int.one_mul] at h_;exact h_
        have hji25y:(wrap64 (1 * 2 ^ min (ji23).toNat 64))=ji25:=(i64_w _).symm.trans hji25_
        have hji25x:(ji23)≤64→(wrap64 (1 * 2 ^ (ji23).toNat))=ji25:=fun h_=>(i64_w _).symm.trans (hji25z h_)
        by_cases c26:x18_2 < (ji25)
        ·rw [if_pos c26] at H
         have c26b0:decide (x18_2 < (ji25))=true:=decide_eq_true c26
         clear c26
         have HC27:=Z H
         clear H
         go_upto_region 14 with (fail)
         go_cut [87] (fun v87 wc=>∃ (kq:Nat) (x87_26:Bool),v87=.bool x87_26∧Aside0 (trustquorumlaw16_DangerUniform.j2 kq (ji23) (wrap64 (1+(Int.tmod (wrap64 (a1)) (ji23)))) t1014 t1018 t1022 x15_2 x16_2 ji22 x18_2 x87_26=some true)∧Aside0 (kq≤k2)∧Aside0 (Kd.R (Kd.int .i64) 3 wc w.heap.size (fun k_=>some k_ ≠ (v1019:Value).ownBlock) v1015 t1014)∧Aside0 (Kd.R (Kd.int .i64) 3 wc w.heap.size (fun k_=>some k_ ≠ (v1015:Value).ownBlock) v1019 t1018)∧Aside0 (Kd.R k34 34 wc w.heap.size (fun k_=>some k_ ≠ (v1015:Value).ownBlock∧some k_ ≠ (v1019:Value).ownBlock) (.slice Ao11 t1010.length co11) t1010)∧Aside0 (wc.heap[gb1013]?=some (.cells #[(.slice Ao11 t1010.length co11)] 27 (0,0)))∧Aside0 (Below w.heap.size w wc))
         case first =>
          have H:=HC27.out
          clear HC27
          replace H:=Option.bind_eq_some_iff.mp H
          obtain ⟨t1025,A280,H⟩:=H
          try dsimp only at H
          have A28:=Z A280
          clear A280
          by_cases c29:t1025=ji22
          ·rw [if_pos c29] at H
           have c29b0:(t1025 == ji22)=true:=beq_iff_eq.mpr c29
           have c29b1:(t1025 != ji22)=false:=bne_eq_false_iff_eq.mpr c29
           clear c29
           (first|rw [c29b0]|(simp only [i64_w,i32_w];rw [c29b0])|skip)
           have H':=Z H
           clear H
           go_wp2_with (first|((with_reducible refine gate_callee (f:=43) rfl ?_);refine goesL_ (some 80) rfl rfl Try.func43 (by kernel_rfl) rfl #[.int .i64 x18_2] rfl pG ?_;(with_reducible refine (trustquorumref01_Size.calls k2 x18_2 t1025 _ A28.out).mono ?_);rintro e w' ⟨rfl,⟨nd,rfl⟩⟩;refine ⟨_,rfl,?_⟩))
           go_meet
           case rel=>exact ⟨_,(decide ((wrap64 (1+(Int.tmod (wrap64 (a1)) (ji23)))) < (ji23))),(by first|exact pE|(simp only [← hji23] <;> (first|rfl|simp))),H',⟨by have:=HJ7.out;have:=HK2.out;first|omega|exact Nat.le_refl _⟩,⟨pR HO_8⟩,⟨pR HO_10⟩,⟨pR HO_1014000⟩,⟨pK BK1013⟩,⟨pB⟩⟩
          ·rw [if_neg c29] at H
           have c29b0:(t1025 == ji22)=false:=beq_eq_false_iff_ne.mpr c29
           have c29b1:(t1025 != ji22)=true:=bne_iff_ne.mpr c29
           (first|rw [c29b0]|(simp only [i64_w,i32_w];rw [c29b0])|skip)
           have H':=Z H
           clear H
           go_wp2_with (first|((with_reducible refine gate_callee (f:=43) rfl ?_);refine goesL_ (some 80) rfl rfl Try.func43 (by kernel_rfl) rfl #[.int .i64 x18_2] rfl pG ?_;(with_reducible refine (trustquorumref01_Size.calls k2 x18_2 t1025 _ A28.out).mono ?_);rintro e w' ⟨rfl,⟨nd,rfl⟩⟩;refine ⟨_,rfl,?_⟩))
           go_meet
           case rel=>exact ⟨_,(false),pE,H',⟨by have:=HJ7.out;have:=HK2.out;first|omega|exact Nat.le_refl _⟩,⟨pR HO_8⟩,⟨pR HO_10⟩,⟨pR HO_1014000⟩,⟨pK BK1013⟩,⟨pB⟩⟩
         case rest =>
          clear HC27
          try clear c1
          try clear c2
          try clear p2
          try clear c3
          try clear c3b0
          try clear c3b1
          try clear c4
          try clear p6
          try clear c12
          try clear c18
          try clear c18b0
          try clear c18b1
          try clear c19
          try clear c19b0
          try clear c19b1
          try clear c20
          try clear c20b0
          try clear c20b1
          try clear c21
          try clear c24
          try clear c24b0
          try clear c24b1
          try clear c26
          try clear c26b0
          try clear c29
          try clear c29b0
          try clear c29b1
          try clear hcz12_0
          try clear hcz14_0
          try clear hcz16_0
          try clear hfz12_0
          try clear hfz14_0
          try clear hfz16_0
          obtain ⟨kq,x87_26,rfl,HA,HJ26,HO_8,HO_10,HO_1014000,BK1013,HB⟩:=hcut
          cases kq with
          | zero=>exact absurd HA.out (by simp [trustquorumlaw16_DangerUniform.j2])
          | succ kj26 =>
           have H:=HA.out
           clear HA
           simp only [trustquorumlaw16_DangerUniform.j2] at H
           by_cases c30:x87_26=true
           ·subst c30
            rw [if_pos rfl] at H
            replace H:=Option.bind_eq_some_iff.mp H
            obtain ⟨t1026,A310,H⟩:=H
            try dsimp only at H
            have A31:=Z A310
            clear A310
            by_cases c32:t1026=(wrap64 ((wrap64 ((ji23) - (wrap64 (1+(Int.tmod (wrap64 (a1)) (ji23))))))+1))
            ·rw [if_pos c32] at H
             have c32b0:(t1026 == (wrap64 ((wrap64 ((ji23) - (wrap64 (1+(Int.tmod (wrap64 (a1)) (ji23))))))+1)))=true:=beq_iff_eq.mpr c32
             have c32b1:(t1026 != (wrap64 ((wrap64 ((ji23) - (wrap64 (1+(Int.tmod (wrap64 (a1)) (ji23))))))+1)))=false:=bne_eq_false_iff_eq.mpr c32
             clear c32
             have H':=Z H
             clear H
             go_wp2_with (first|((with_reducible refine gate_callee (f:=43) rfl ?_);refine goesL_ (some 91) rfl rfl Try.func43 (by kernel_rfl) rfl #[.int .i64 x18_2] rfl pG ?_;(with_reducible refine (trustquorumref01_Size.calls kj26 x18_2 t1026 _ A31.out).mono ?_);rintro e w' ⟨rfl,⟨nd,rfl⟩⟩;refine ⟨_,rfl,?_⟩))
             go_roundg kj26
             case measure=>have:=HJ7.out;have:=HK2.out;have:=HJ26.out;omega
             case rel=>exact ⟨(wrap64 (x15_2+1)),(wrap64 (x16_2+1)),(wrap64 (x18_2+1)),pE,pE,pE,H',⟨by have:=HJ7.out;have:=HK2.out;have:=HJ26.out;omega⟩,⟨pR HO_8⟩,⟨pR HO_10⟩,⟨pR HO_1014000⟩,⟨pK BK1013⟩,⟨pB⟩⟩
            ·rw [if_neg c32] at H
             have c32b0:(t1026 == (wrap64 ((wrap64 ((ji23) - (wrap64 (1+(Int.tmod (wrap64 (a1)) (ji23))))))+1)))=false:=beq_eq_false_iff_ne.mpr c32
             have c32b1:(t1026 != (wrap64 ((wrap64 ((ji23) - (wrap64 (1+(Int.tmod (wrap64 (a1)) (ji23))))))+1)))=true:=bne_iff_ne.mpr c32
             have H':=Z H
             clear H
             go_wp2_with (first|((with_reducible refine gate_callee (f:=43) rfl ?_);refine goesL_ (some 91) rfl rfl Try.func43 (by kernel_rfl) rfl #[.int .i64 x18_2] rfl pG ?_;(with_reducible refine (trustquorumref01_Size.calls kj26 x18_2 t1026 _ A31.out).mono ?_);rintro e w' ⟨rfl,⟨nd,rfl⟩⟩;refine ⟨_,rfl,?_⟩))
             go_roundg kj26
             case measure=>have:=HJ7.out;have:=HK2.out;have:=HJ26.out;omega
             case rel=>exact ⟨(wrap64 (x15_2+1)),(x16_2),(wrap64 (x18_2+1)),pE,pE,pE,H',⟨by have:=HJ7.out;have:=HK2.out;have:=HJ26.out;omega⟩,⟨pR HO_8⟩,⟨pR HO_10⟩,⟨pR HO_1014000⟩,⟨pK BK1013⟩,⟨pB⟩⟩
           ·replace c30:=Bool.eq_false_iff.mpr c30
            subst c30
            rw [if_neg (show ¬ (false=true) by decide)] at H
            replace H:=Option.bind_eq_some_iff.mp H
            obtain ⟨t1027,A330,H⟩:=H
            try dsimp only at H
            have A33:=Z A330
            clear A330
            by_cases c34:t1027=(wrap64 ((wrap64 ((ji23) - (wrap64 (1+(Int.tmod (wrap64 (a1)) (ji23))))))+1))
            ·rw [if_pos c34] at H
             have c34b0:(t1027 == (wrap64 ((wrap64 ((ji23) - (wrap64 (1+(Int.tmod (wrap64 (a1)) (ji23))))))+1)))=true:=beq_iff_eq.mpr c34
             have c34b1:(t1027 != (wrap64 ((wrap64 ((ji23) - (wrap64 (1+(Int.tmod (wrap64 (a1)) (ji23))))))+1)))=false:=bne_eq_false_iff_eq.mpr c34
             clear c34
             have H':=Z H
             clear H
             go_wp2_with (first|((with_reducible refine gate_callee (f:=43) rfl ?_);refine goesL_ (some 91) rfl rfl Try.func43 (by kernel_rfl) rfl #[.int .i64 x18_2] rfl pG ?_;(with_reducible refine (trustquorumref01_Size.calls kj26 x18_2 t1027 _ A33.out).mono ?_);rintro e w' ⟨rfl,⟨nd,rfl⟩⟩;refine ⟨_,rfl,?_⟩))
             go_roundg kj26
             case measure=>have:=HJ7.out;have:=HK2.out;have:=HJ26.out;omega
             case rel=>exact ⟨(x15_2),(wrap64 (x16_2+1)),(wrap64 (x18_2+1)),pE,pE,pE,H',⟨by have:=HJ7.out;have:=HK2.out;have:=HJ26.out;omega⟩,⟨pR HO_8⟩,⟨pR HO_10⟩,⟨pR HO_1014000⟩,⟨pK BK1013⟩,⟨pB⟩⟩
            ·rw [if_neg c34] at H
             have c34b0:(t1027 == (wrap64 ((wrap64 ((ji23) - (wrap64 (1+(Int.tmod (wrap64 (a1)) (ji23))))))+1)))=false:=beq_eq_false_iff_ne.mpr c34
             have c34b1:(t1027 != (wrap64 ((wrap64 ((ji23) - (wrap64 (1+(Int.tmod (wrap64 (a1)) (ji23))))))+1)))=true:=bne_iff_ne.mpr c34
             have H':=Z H
             clear H
             go_wp2_with (first|((with_reducible refine gate_callee (f:=43) rfl ?_);refine goesL_ (some 91) rfl rfl Try.func43 (by kernel_rfl) rfl #[.int .i64 x18_2] rfl pG ?_;(with_reducible refine (trustquorumref01_Size.calls kj26 x18_2 t1027 _ A33.out).mono ?_);rintro e w' ⟨rfl,⟨nd,rfl⟩⟩;refine ⟨_,rfl,?_⟩))
             go_roundg kj26
             case measure=>have:=HJ7.out;have:=HK2.out;have:=HJ26.out;omega
             case rel=>exact ⟨(x15_2),(x16_2),(wrap64 (x18_2+1)),pE,pE,pE,H',⟨by have:=HJ7.out;have:=HK2.out;have:=HJ26.out;omega⟩,⟨pR HO_8⟩,⟨pR HO_10⟩,⟨pR HO_1014000⟩,⟨pK BK1013⟩,⟨pB⟩⟩
        ·rw [if_neg c26] at H
         have c26b0:decide (x18_2 < (ji25))=false:=decide_eq_false c26
         clear c26
         have H':=Z H
         clear H
         obtain ⟨Ao35,co35,eo35⟩:=Kd.R_slice HO_8.out
         subst eo35
         go_wp2
         go_loopg [101] k2 (fun kq v101 w'=>∃ (x101_3:Int),v101=.int .i64 x101_3∧Aside0 (trustquorumlaw16_DangerUniform.l1 kq (ji23) (wrap64 (1+(Int.tmod (wrap64 (a1)) (ji23)))) t1014 t1018 t1022 x15_2 x16_2 ji22 t1014 (t1014.length:Int) x101_3=some true)∧Aside0 (kq≤k2)∧Aside0 (Kd.R (Kd.int .i64) 3 w' w.heap.size (fun k_=>some k_ ≠ (v1019:Value).ownBlock) (.slice Ao35 t1014.length co35) t1014)∧Aside0 (Kd.R (Kd.int .i64) 3 w' w.heap.size (fun k_=>some k_ ≠ ((.slice Ao35 t1014.length co35):Value).ownBlock∧some k_ ≠ ((.slice Ao35 t1014.length co35):Value).ownBlock) v1019 t1018)∧Aside0 (Kd.R (Kd.int .i64) 3 w' w.heap.size (fun k_=>some k_ ≠ (v1019:Value).ownBlock) (.slice Ao35 t1014.length co35) t1014)∧Aside0 (Kd.R k34 34 w' w.heap.size (fun k_=>some k_ ≠ ((.slice Ao35 t1014.length co35):Value).ownBlock∧some k_ ≠ (v1019:Value).ownBlock∧some k_ ≠ ((.slice Ao35 t1014.length co35):Value).ownBlock) (.slice Ao11 t1010.length co11) t1010)∧Aside0 (w'.heap[gb1013]?=some (.cells #[(.slice Ao11 t1010.length co11)] 27 (0,0)))∧Aside0 (Below w.heap.size w w'))
         case atStart=>exact ⟨(0),pE,H',⟨Nat.le_refl _⟩,⟨pR HO_8⟩,⟨by (with_reducible repeat (first|apply Kd.R_alloc|apply Kd.R_drewN|apply Kd.R_drew));exact Kd.R_mono HO_10.out (fun _ hk=>⟨hk,hk⟩)⟩,⟨pR HO_8⟩,⟨by (with_reducible repeat (first|apply Kd.R_alloc|apply Kd.R_drewN|apply Kd.R_drew));exact Kd.R_mono HO_1014000.out (fun _ hk=>⟨hk.1,⟨hk.2,hk.1⟩⟩)⟩,⟨pK BK1013⟩,⟨pB⟩⟩
         case round =>
          clear H'
          try clear c1
          try clear c2
          try clear p2
          try clear c3
          try clear c3b0
          try clear c3b1
          try clear c4
          try clear p6
          try clear c12
          try clear c18
          try clear c18b0
          try clear c18b1
          try clear c19
          try clear c19b0
          try clear c19b1
          try clear c20
          try clear c20b0
          try clear c20b1
          try clear c21
          try clear c24
          try clear c24b0
          try clear c24b1
          try clear c26
          try clear c26b0
          try clear c29
          try clear c29b0
          try clear c29b1
          try clear c30
          try clear c32
          try clear c32b0
          try clear c32b1
          try clear c34
          try clear c34b0
          try clear c34b1
          try clear hcz12_0
          try clear hcz14_0
          try clear hcz16_0
          try clear hfz12_0
          try clear hfz14_0
          try clear hfz16_0
          obtain ⟨x101_3,rfl,HA,HK3,HO_8,HO_10,HO_99,HO_1014000,BK1013,HB⟩:=hrel
          cases gk with
          | zero=>exact absurd HA.out (by simp [trustquorumlaw16_DangerUniform.l1])
          | succ k3 =>
           have H:=HA.out
           clear HA
           simp only [trustquorumlaw16_DangerUniform.l1] at H
           by_cases c36:x101_3 < (t1014.length:Int)
           ·rw [if_pos c36] at H
            have c36b0:decide (x101_3 < (t1014.length:Int))=true:=decide_eq_true c36
            clear c36
            by_cases c37:0≤x101_3
            ·rw [if_pos c37] at H
             have c37b0:decide (0≤x101_3)=true:=decide_eq_true c37
             clear c37
             by_cases c38:x101_3 < (t1014.length:Int)
             ·rw [if_pos c38] at H
              have c38b0:decide (x101_3 < (t1014.length:Int))=true:=decide_eq_true c38
              clear c38
              replace H:=Option.bind_eq_some_iff.mp H
              obtain ⟨t1029,A390,H⟩:=H
              try dsimp only at H
              have A39:=Z A390
              clear A390
              by_cases c40:t1029=ji22
              ·rw [if_pos c40] at H
               have c40b0:(t1029 == ji22)=true:=beq_iff_eq.mpr c40
               have c40b1:(t1029 != ji22)=false:=bne_eq_false_iff_eq.mpr c40
               clear c40
               have H':=Z H
               clear H
               have p1028:0≤(x101_3:Int):=of_decide_eq_true (by first|(with_reducible assumption)|assumption)
               have q1028:x101_3 < (t1014.length:Int):=of_decide_eq_true (by first|(with_reducible assumption)|assumption)
               obtain ⟨ad1028,e1028,hx1028_0⟩:=Kd.at_int (Kd.R_reads' HO_99.out).2.2 x101_3 p1028 q1028
               cases e1028
               replace p1028:=eq_true p1028
               replace q1028:=eq_true q1028
               go_wp2_with (first|((with_reducible refine gate_callee (f:=43) rfl ?_);refine goesL_ (some 106) rfl rfl Try.func43 (by kernel_rfl) rfl #[.int .i64 (rd t1014 x101_3)] rfl pG ?_;(with_reducible refine (trustquorumref01_Size.calls k3 (rd t1014 x101_3) t1029 _ A39.out).mono ?_);rintro e w' ⟨rfl,⟨nd,rfl⟩⟩;refine ⟨_,rfl,?_⟩))
               go_roundg k3
               case measure=>have:=HJ7.out;have:=HK2.out;have:=HK3.out;omega
               case rel=>exact ⟨(wrap64 (x101_3+1)),pE,H',⟨by have:=HJ7.out;have:=HK2.out;have:=HK3.out;omega⟩,⟨pR HO_8⟩,⟨pR HO_10⟩,⟨pR HO_99⟩,⟨pR HO_1014000⟩,⟨pK BK1013⟩,⟨pB⟩⟩
              ·rw [if_neg c40] at H
               have c40b0:(t1029 == ji22)=false:=beq_eq_false_iff_ne.mpr c40
               have c40b1:(t1029 != ji22)=true:=bne_iff_ne.mpr c40
               exact absurd H (by simp)
             ·rw [if_neg c38] at H
              exact absurd H (by simp)
            ·rw [if_neg c37] at H
             exact absurd H (by simp)
           ·rw [if_neg c36] at H
            have c36b0:decide (x101_3 < (t1014.length:Int))=false:=decide_eq_false c36
            clear c36
            have H':=Z H
            clear H
            obtain ⟨Ao41,co41,eo41⟩:=Kd.R_slice HO_10.out
            subst eo41
            go_wp2
            go_loopg [112] k3 (fun kq v112 w'=>∃ (x112_4:Int),v112=.int .i64 x112_4∧Aside0 (trustquorumlaw16_DangerUniform.l2 kq (ji23) (wrap64 (1+(Int.tmod (wrap64 (a1)) (ji23)))) t1014 t1018 t1022 x15_2 x16_2 ji22 t1018 (t1018.length:Int) x112_4=some true)∧Aside0 (kq≤k3)∧Aside0 (Kd.R (Kd.int .i64) 3 w' w.heap.size (fun k_=>some k_ ≠ ((.slice Ao41 t1018.length co41):Value).ownBlock∧some k_ ≠ ((.slice Ao41 t1018.length co41):Value).ownBlock) (.slice Ao35 t1014.length co35) t1014)∧Aside0 (Kd.R (Kd.int .i64) 3 w' w.heap.size (fun k_=>some k_ ≠ ((.slice Ao35 t1014.length co35):Value).ownBlock) (.slice Ao41 t1018.length co41) t1018)∧Aside0 (Kd.R (Kd.int .i64) 3 w' w.heap.size (fun k_=>some k_ ≠ ((.slice Ao35 t1014.length co35):Value).ownBlock) (.slice Ao41 t1018.length co41) t1018)∧Aside0 (Kd.R k34 34 w' w.heap.size (fun k_=>some k_ ≠ ((.slice Ao35 t1014.length co35):Value).ownBlock∧some k_ ≠ ((.slice Ao41 t1018.length co41):Value).ownBlock∧some k_ ≠ ((.slice Ao41 t1018.length co41):Value).ownBlock) (.slice Ao11 t1010.length co11) t1010)∧Aside0 (w'.heap[gb1013]?=some (.cells #[(.slice Ao11 t1010.length co11)] 27 (0,0)))∧Aside0 (Below w.heap.size w w'))
            case atStart=>exact ⟨(0),pE,H',⟨Nat.le_refl _⟩,⟨by (with_reducible repeat (first|apply Kd.R_alloc|apply Kd.R_drewN|apply Kd.R_drew));exact Kd.R_mono HO_8.out (fun _ hk=>⟨hk,hk⟩)⟩,⟨by (with_reducible repeat (first|apply Kd.R_alloc|apply Kd.R_drewN|apply Kd.R_drew));exact Kd.R_mono HO_10.out (fun _ hk=>hk.1)⟩,⟨by (with_reducible repeat (first|apply Kd.R_alloc|apply Kd.R_drewN|apply Kd.R_drew));exact Kd.R_mono HO_10.out (fun _ hk=>hk.1)⟩,⟨by (with_reducible repeat (first|apply Kd.R_alloc|apply Kd.R_drewN|apply Kd.R_drew));exact Kd.R_mono HO_1014000.out (fun _ hk=>⟨hk.1,⟨hk.2.1,hk.2.1⟩⟩)⟩,⟨pK BK1013⟩,⟨pB⟩⟩
            case round =>
             clear H'
             try clear c1
             try clear p1
             try clear q1
             try clear hx1
             try clear c2
             try clear p2
             try clear c3
             try clear c3b0
             try clear c3b1
             try clear c4
             try clear p6
             try clear p10
             try clear q10
             try clear hx10
             try clear c12
             try clear c18
             try clear c18b0
             try clear c18b1
             try clear c19
             try clear c19b0
             try clear c19b1
             try clear c20
             try clear c20b0
             try clear c20b1
             try clear c21
             try clear c24
             try clear c24b0
             try clear c24b1
             try clear c26
             try clear c26b0
             try clear c29
             try clear c29b0
             try clear c29b1
             try clear c30
             try clear c32
             try clear c32b0
             try clear c32b1
             try clear c34
             try clear c34b0
             try clear c34b1
             try clear c36
             try clear c36b0
             try clear c37
             try clear c37b0
             try clear c38
             try clear c38b0
             try clear c40
             try clear c40b0
             try clear c40b1
             try clear hcz12_0
             try clear hcz14_0
             try clear hcz16_0
             try clear hfz12_0
             try clear hfz14_0
             try clear hfz16_0
             try clear hx1028_0
             try clear p1028
             try clear q1028
             obtain ⟨x112_4,rfl,HA,HK4,HO_8,HO_10,HO_110,HO_1014000,BK1013,HB⟩:=hrel
             cases gk with
             | zero=>exact absurd HA.out (by simp [trustquorumlaw16_DangerUniform.l2])
             | succ k4 =>
              have H:=HA.out
              clear HA
              simp only [trustquorumlaw16_DangerUniform.l2] at H
              by_cases c42:x112_4 < (t1018.length:Int)
              ·rw [if_pos c42] at H
               have c42b0:decide (x112_4 < (t1018.length:Int))=true:=decide_eq_true c42
               clear c42
               by_cases c43:0≤x112_4
               ·rw [if_pos c43] at H
                have c43b0:decide (0≤x112_4)=true:=decide_eq_true c43
                clear c43
                by_cases c44:x112_4 < (t1018.length:Int)
                ·rw [if_pos c44] at H
                 have c44b0:decide (x112_4 < (t1018.length:Int))=true:=decide_eq_true c44
                 clear c44
                 replace H:=Option.bind_eq_some_iff.mp H
                 obtain ⟨t1031,A450,H⟩:=H
                 try dsimp only at H
                 have A45:=Z A450
                 clear A450
                 by_cases c46:t1031=(wrap64 ((wrap64 ((ji23) - (wrap64 (1+(Int.tmod (wrap64 (a1)) (ji23))))))+1))
                 ·rw [if_pos c46] at H
                  have c46b0:(t1031 == (wrap64 ((wrap64 ((ji23) - (wrap64 (1+(Int.tmod (wrap64 (a1)) (ji23))))))+1)))=true:=beq_iff_eq.mpr c46
                  have c46b1:(t1031 != (wrap64 ((wrap64 ((ji23) - (wrap64 (1+(Int.tmod (wrap64 (a1)) (ji23))))))+1)))=false:=bne_eq_false_iff_eq.mpr c46
                  clear c46
                  have H':=Z H
                  clear H
                  have p1030:0≤(x112_4:Int):=of_decide_eq_true (by first|(with_reducible assumption)|assumption)
                  have q1030:x112_4 < (t1018.length:Int):=of_decide_eq_true (by first|(with_reducible assumption)|assumption)
                  obtain ⟨ad1030,e1030,hx1030_0⟩:=Kd.at_int (Kd.R_reads' HO_110.out).2.2 x112_4 p1030 q1030
                  cases e1030
                  replace p1030:=eq_true p1030
                  replace q1030:=eq_true q1030
                  go_wp2_with (first|((with_reducible refine gate_callee (f:=43) rfl ?_);refine goesL_ (some 117) rfl rfl Try.func43 (by kernel_rfl) rfl #[.int .i64 (rd t1018 x112_4)] rfl pG ?_;(with_reducible refine (trustquorumref01_Size.calls k4 (rd t1018 x112_4) t1031 _ A45.out).mono ?_);rintro e w' ⟨rfl,⟨nd,rfl⟩⟩;refine ⟨_,rfl,?_⟩))
                  go_roundg k4
                  case measure=>have:=HJ7.out;have:=HK2.out;have:=HK3.out;have:=HK4.out;omega
                  case rel=>exact ⟨(wrap64 (x112_4+1)),pE,H',⟨by have:=HJ7.out;have:=HK2.out;have:=HK3.out;have:=HK4.out;omega⟩,⟨pR HO_8⟩,⟨pR HO_10⟩,⟨pR HO_110⟩,⟨pR HO_1014000⟩,⟨pK BK1013⟩,⟨pB⟩⟩
                 ·rw [if_neg c46] at H
                  have c46b0:(t1031 == (wrap64 ((wrap64 ((ji23) - (wrap64 (1+(Int.tmod (wrap64 (a1)) (ji23))))))+1)))=false:=beq_eq_false_iff_ne.mpr c46
                  have c46b1:(t1031 != (wrap64 ((wrap64 ((ji23) - (wrap64 (1+(Int.tmod (wrap64 (a1)) (ji23))))))+1)))=true:=bne_iff_ne.mpr c46
                  exact absurd H (by simp)
                ·rw [if_neg c44] at H
                 exact absurd H (by simp)
               ·rw [if_neg c43] at H
                exact absurd H (by simp)
              ·rw [if_neg c42] at H
               have c42b0:decide (x112_4 < (t1018.length:Int))=false:=decide_eq_false c42
               clear c42
               by_cases c47:(wrap64 (1+(Int.tmod (wrap64 (a1)) (ji23))))=(ji23)
               ·rw [if_pos c47] at H
                have c47b0:((wrap64 (1+(Int.tmod (wrap64 (a1)) (ji23)))) == (ji23))=true:=beq_iff_eq.mpr c47
                have c47b1:((wrap64 (1+(Int.tmod (wrap64 (a1)) (ji23)))) != (ji23))=false:=bne_eq_false_iff_eq.mpr c47
                clear c47
                by_cases c48:(t1014.length:Int)=0
                ·rw [if_pos c48] at H
                 have c48b0:((t1014.length:Int) == 0)=true:=beq_iff_eq.mpr c48
                 have c48b1:((t1014.length:Int) != 0)=false:=bne_eq_false_iff_eq.mpr c48
                 clear c48
                 by_cases c49:t1022=(ji23)
                 ·rw [if_pos c49] at H
                  have c49b0:(t1022 == (ji23))=true:=beq_iff_eq.mpr c49
                  have c49b1:(t1022 != (ji23))=false:=bne_eq_false_iff_eq.mpr c49
                  clear c49
                  by_cases c50:(t1018.length:Int)=x16_2
                  ·rw [if_pos c50] at H
                   have c50b0:((t1018.length:Int) == x16_2)=true:=beq_iff_eq.mpr c50
                   have c50b1:((t1018.length:Int) != x16_2)=false:=bne_eq_false_iff_eq.mpr c50
                   clear c50
                   replace H:=Option.bind_eq_some_iff.mp H
                   obtain ⟨t1032,A510,H⟩:=H
                   try dsimp only at H
                   have A51:=Z A510
                   clear A510
                   obtain rfl:=Option.some.inj H
                   go_wp2_with (first|(go_at_call 50;(with_reducible refine (trustquorumlaw16_awake.calls k4   _ A51.out).mono ?_);rintro e w52 ⟨rfl,hb⟩;have n0_:=Z (Kd.R_below (pR HO_8) hb);have n1_:=Z (Kd.R_below (pR HO_10) hb);have n2_:=Z (Kd.R_below (pR HO_110) hb);have n3_:=Z (Kd.R_below (pR HO_1014000) hb);have n4_:=Z (blk_below (g:=gb1013) (o:=.cells #[.slice Ao11 t1010.length co11] 27 (0,0)) (pK BK1013) hb);have n5_:=Z (below_step pB hb);clear HO_8;clear HO_10;clear HO_110;clear HO_1014000;clear BK1013;clear HB;have HO_8:=n0_;have HO_10:=n1_;have HO_110:=n2_;have HO_1014000:=n3_;have BK1013:=n4_;have HB:=n5_;clear n0_ n1_ n2_ n3_ n4_ n5_;(try clear hb);(try clear hb2);(try clear hk);(try clear hi)))
                   go_ret
                   exact ⟨by first|rfl|exact congrArg (fun b_:Bool=>Ending.returned (Value.bool b_)) HT.out|(simp [errW_none,errW_some] <;> rfl)|(simp only [← hji22,← hji23,← hji25];first|rfl|(simp [errW_none,errW_some] <;> rfl))|(simp [*,errW_none,errW_some] <;> rfl),pB⟩
                  ·rw [if_neg c50] at H
                   have c50b0:((t1018.length:Int) == x16_2)=false:=beq_eq_false_iff_ne.mpr c50
                   have c50b1:((t1018.length:Int) != x16_2)=true:=bne_iff_ne.mpr c50
                   exact absurd H (by simp)
                 ·rw [if_neg c49] at H
                  have c49b0:(t1022 == (ji23))=false:=beq_eq_false_iff_ne.mpr c49
                  have c49b1:(t1022 != (ji23))=true:=bne_iff_ne.mpr c49
                  exact absurd H (by simp)
                ·rw [if_neg c48] at H
                 have c48b0:((t1014.length:Int) == 0)=false:=beq_eq_false_iff_ne.mpr c48
                 have c48b1:((t1014.length:Int) != 0)=true:=bne_iff_ne.mpr c48
                 have c48b2:¬ (t1014=[]):=fun h_=>c48 (by rw [h_];rfl)
                 exact absurd H (by simp)
               ·rw [if_neg c47] at H
                have c47b0:((wrap64 (1+(Int.tmod (wrap64 (a1)) (ji23)))) == (ji23))=false:=beq_eq_false_iff_ne.mpr c47
                have c47b1:((wrap64 (1+(Int.tmod (wrap64 (a1)) (ji23)))) != (ji23))=true:=bne_iff_ne.mpr c47
                by_cases c53:(t1014.length:Int)=x15_2
                ·rw [if_pos c53] at H
                 have c53b0:((t1014.length:Int) == x15_2)=true:=beq_iff_eq.mpr c53
                 have c53b1:((t1014.length:Int) != x15_2)=false:=bne_eq_false_iff_eq.mpr c53
                 clear c53
                 by_cases c54:(t1018.length:Int)=x16_2
                 ·rw [if_pos c54] at H
                  have c54b0:((t1018.length:Int) == x16_2)=true:=beq_iff_eq.mpr c54
                  have c54b1:((t1018.length:Int) != x16_2)=false:=bne_eq_false_iff_eq.mpr c54
                  clear c54
                  by_cases c55:t1022=(wrap64 (ji22 - 1))
                  ·rw [if_pos c55] at H
                   have c55b0:(t1022 == (wrap64 (ji22 - 1)))=true:=beq_iff_eq.mpr c55
                   have c55b1:(t1022 != (wrap64 (ji22 - 1)))=false:=bne_eq_false_iff_eq.mpr c55
                   clear c55
                   replace H:=Option.bind_eq_some_iff.mp H
                   obtain ⟨t1033,A560,H⟩:=H
                   try dsimp only at H
                   have A56:=Z A560
                   clear A560
                   obtain rfl:=Option.some.inj H
                   go_wp2_with (first|(go_at_call 50;(with_reducible refine (trustquorumlaw16_awake.calls k4   _ A56.out).mono ?_);rintro e w57 ⟨rfl,hb⟩;have n0_:=Z (Kd.R_below (pR HO_8) hb);have n1_:=Z (Kd.R_below (pR HO_10) hb);have n2_:=Z (Kd.R_below (pR HO_110) hb);have n3_:=Z (Kd.R_below (pR HO_1014000) hb);have n4_:=Z (blk_below (g:=gb1013) (o:=.cells #[.slice Ao11 t1010.length co11] 27 (0,0)) (pK BK1013) hb);have n5_:=Z (below_step pB hb);clear HO_8;clear HO_10;clear HO_110;clear HO_1014000;clear BK1013;clear HB;have HO_8:=n0_;have HO_10:=n1_;have HO_110:=n2_;have HO_1014000:=n3_;have BK1013:=n4_;have HB:=n5_;clear n0_ n1_ n2_ n3_ n4_ n5_;(try clear hb);(try clear hb2);(try clear hk);(try clear hi)))
                   go_ret
                   exact ⟨by first|rfl|exact congrArg (fun b_:Bool=>Ending.returned (Value.bool b_)) HT.out|(simp [errW_none,errW_some] <;> rfl)|(simp only [← hji22,← hji23,← hji25];first|rfl|(simp [errW_none,errW_some] <;> rfl))|(simp [*,errW_none,errW_some] <;> rfl),pB⟩
                  ·rw [if_neg c55] at H
                   have c55b0:(t1022 == (wrap64 (ji22 - 1)))=false:=beq_eq_false_iff_ne.mpr c55
                   have c55b1:(t1022 != (wrap64 (ji22 - 1)))=true:=bne_iff_ne.mpr c55
                   exact absurd H (by simp)
                 ·rw [if_neg c54] at H
                  have c54b0:((t1018.length:Int) == x16_2)=false:=beq_eq_false_iff_ne.mpr c54
                  have c54b1:((t1018.length:Int) != x16_2)=true:=bne_iff_ne.mpr c54
                  exact absurd H (by simp)
                ·rw [if_neg c53] at H
                 have c53b0:((t1014.length:Int) == x15_2)=false:=beq_eq_false_iff_ne.mpr c53
                 have c53b1:((t1014.length:Int) != x15_2)=true:=bne_iff_ne.mpr c53
                 exact absurd H (by simp)
       ·rw [if_neg c24] at H
        exact absurd H (by simp)
def trustquorumlaw16_DangerUniform.Pure:Prop:=∀ (a0:Int) (a1:Int),(Lit.int .u8 a0).wf=true→(Lit.int .u8 a1).wf=true→∃ k,trustquorumlaw16_DangerUniform.f k a0 a1=some true
theorem trustquorumlaw16_DangerUniform.walk (P:trustquorumlaw16_DangerUniform.Pure) (a0:Int) (a1:Int) (w:World) (w0:(Lit.int .u8 a0).wf=true) (w1:(Lit.int .u8 a1).wf=true) :
  Calls Try.prog 12 #[.int .u8 a0,.int .u8 a1] w fun e w'=>e=.returned (.bool true)∧Below w.heap.size w w':=by
 obtain ⟨k,h⟩:=P a0 a1 w0 w1
 refine (trustquorumlaw16_DangerUniform.calls k a0 a1 w h).mono ?_
 rintro e w' ⟨rfl,hd⟩
 exact ⟨rfl,hd⟩
end Go.Proofs.Ytkjlcbfjllpcnaa.X
namespace Go.Proofs.Ytkjlcbfjllpcnaa.X
open Go.RowKit Go.Proofs.YtkjlcbfjllpcnaaW.PrintWords Go.Proofs.YtkjlcbfjllpcnaaW.PrintLast Go.Proofs.YtkjlcbfjllpcnaaW.PrintMore
set_option linter.unusedVariables false
mutual
def depL : List S32 → Nat
  | [] => 0
  | t :: ts => max (dep t) (depL ts)
def dep : S32 → Nat
  | ⟨_, _, ts⟩ => depL ts + 1
end
mutual
def sizL : List S32 → Nat
  | [] => 0
  | t :: ts => siz t + sizL ts
def siz : S32 → Nat
  | ⟨_, l, ts⟩ => l.length + ts.length + sizL ts
end
mutual
def useL : List S32 → Nat
  | [] => 0
  | t :: ts => uses t ||| useL ts
def uses : S32 → Nat
  | ⟨_, l, ts⟩ => l.foldl (fun a x => if noNode x = true then a else a ||| 2 ^ x.toNat) 0 ||| useL ts
end
def ofS (a : Nat) : List Int → Nat × Int
  | [] => (a, 0)
  | x :: xs => if noNode x = true then (0, 5) else if inS a x = true then (0, 6) else ofS (a ||| 2 ^ x.toNat) xs
mutual
def chkL : List S32 → Int
  | [] => 0
  | t :: ts => if chk t = 0 then chkL ts else chk t
def chk : S32 → Int
  | ⟨n, l, ts⟩ => if n < 1 ∨ n > ((l.length + ts.length : Nat) : Int) then 4 else if (l.any noNode) = true then 5 else if (ofS 0 l).2 = 0 then chkL ts else (ofS 0 l).2
end
def validT (t : S32) : Int := if dep t > 4 then 3 else if siz t > 200 then 3 else chk t
theorem dep_eq (t : S32) : dep t = depL t.f2 + 1 := by cases t; rw [dep]
theorem siz_eq (t : S32) : siz t = t.f1.length + t.f2.length + sizL t.f2 := by cases t; rw [siz]
theorem chk_eq (t : S32) : chk t = if t.f0 < 1 ∨ t.f0 > ((t.f1.length + t.f2.length : Nat) : Int) then 4 else if (t.f1.any noNode) = true then 5 else if (ofS 0 t.f1).2 = 0 then chkL t.f2 else (ofS 0 t.f1).2 := by cases t; rw [chk]
theorem uses_eq (t : S32) : uses t = t.f1.foldl (fun a x => if noNode x = true then a else a ||| 2 ^ x.toNat) 0 ||| useL t.f2 := by cases t; rw [uses]
mutual
theorem dep_le : ∀ t : S32, dep t ≤ wt t
  | ⟨_, l, ts⟩ => by rw [dep, wt]; have := depL_le ts; omega
theorem depL_le : ∀ l : List S32, depL l ≤ wtL l
  | [] => Nat.le_refl _
  | t :: ts => by rw [depL, wtL]; have := dep_le t; have := depL_le ts; omega
end
mutual
theorem siz_le : ∀ t : S32, siz t ≤ 2 * wt t
  | ⟨_, l, ts⟩ => by rw [siz, wt]; have := sizL_le ts; omega
theorem sizL_le : ∀ l : List S32, l.length + sizL l ≤ 2 * wtL l
  | [] => Nat.le_refl _
  | t :: ts => by rw [sizL, wtL, List.length_cons]; have := siz_le t; have := sizL_le ts; have := wt_pos t; have : 1 + siz t ≤ 2 * wt t := by
                    cases t with | mk n l xs => rw [siz, wt]; have := sizL_le xs; omega
                  omega
end
theorem or_lt {a b n : Nat} (ha : a < 2 ^ n) (hb : b < 2 ^ n) : a ||| b < 2 ^ n := Nat.or_lt_two_pow ha hb
theorem or_lt10 {a b : Nat} (ha : a < 1024) (hb : b < 1024) : a ||| b < 1024 := or_lt (n := 10) ha hb
theorem two_lt10 {k : Nat} (h : k < 10) : 2 ^ k < 1024 := Nat.pow_lt_pow_right (a := 2) (by decide) h
theorem noNode_not {x : Int} (h : noNode x = false) : 0 ≤ x ∧ x < 10 := by simp [noNode] at h; omega
theorem foldUse_lt (l : List Int) : ∀ a, a < 1024 → l.foldl (fun a x => if noNode x = true then a else a ||| 2 ^ x.toNat) a < 1024 := by
  induction l with
  | nil => intro a h; exact h
  | cons x xs ih =>
    intro a h
    rw [List.foldl_cons]
    refine ih _ ?_
    cases hx : noNode x
    · have := noNode_not hx
      exact or_lt10 h (two_lt10 (by omega))
    · exact h
mutual
theorem uses_lt : ∀ t : S32, uses t < 1024
  | ⟨_, l, ts⟩ => by rw [uses]; exact or_lt10 (foldUse_lt l 0 (by decide)) (useL_lt ts)
theorem useL_lt : ∀ l : List S32, useL l < 1024
  | [] => by rw [useL]; decide
  | t :: ts => by rw [useL]; exact or_lt10 (uses_lt t) (useL_lt ts)
end
theorem mx_nat (a b : Nat) : mx (a : Int) (b : Int) = ((max a b : Nat) : Int) := by unfold mx; split <;> omega
theorem Depth_ev : ∀ (n : Nat) (t : S32), wt t < n → n < 1152921504606846976 → Ev (fun k => threshold_Depth.f k t.f0 t.f1 t.f2) (dep t : Int)
  | 0, t, h, _ => absurd h (by omega)
  | n + 1, t, h, hn => by
    rw [wt_eq] at h
    have hl := len_wtL t.f2
    have hd := depL_le t.f2
    rw [dep_eq]
    (refine Ev.shift ?_; simp only [threshold_Depth.f, Option.bind_some, ↓reduceIte, Bool.false_eq_true, reduceCtorEq, decide_eq_true_eq, Go.Proofs.YtkjlcbfjllpcnaaW.PrintWords.rd, rd_T32, rd_T34])
    refine Ev.fold (xs := t.f2) (L := fun (c : Nat) i k => threshold_Depth.l0 k (c : Int) t.f2 (t.f2.length : Int) i) (by omega) (fun pre ys c => max c (depL ys) = depL t.f2) ?_ ?_ 0 (by omega)
    · intro c i hI hi
      rw [depL] at hI
      (refine Ev.shift ?_; simp only [threshold_Depth.l0, hi, Option.bind_some, ↓reduceIte, Bool.false_eq_true, reduceCtorEq, decide_eq_true_eq, Go.Proofs.YtkjlcbfjllpcnaaW.PrintWords.rd, rd_T32, rd_T34])
      rw [show wrap64 ((c : Int) + 1) = ((depL t.f2 + 1 : Nat) : Int) by rw [w64 (by omega) (by omega)]; omega]
      exact Ev.now _
    · intro pre y ys c i e hI hi h0 hlt hw hrd
      rw [depL] at hI
      refine Or.inl ⟨max c (dep y), by omega, fun k => ?_⟩
      (refine Ev.shift ?_; simp only [threshold_Depth.l0, h0, hlt, hw, hrd, Option.bind_some, ↓reduceIte, Bool.false_eq_true, reduceCtorEq, decide_eq_true_eq, Go.Proofs.YtkjlcbfjllpcnaaW.PrintWords.rd, rd_T32, rd_T34])
      refine Ev.bind1 (Depth_ev n y (by have := wt_mem (show y ∈ t.f2 by rw [e]; simp); omega) (by omega)) ?_
      rw [mx_nat]
      exact k
theorem Size_ev : ∀ (n : Nat) (t : S32), wt t < n → n < 1152921504606846976 → Ev (fun k => threshold_Size.f k t.f0 t.f1 t.f2) (siz t : Int)
  | 0, t, h, _ => absurd h (by omega)
  | n + 1, t, h, hn => by
    have hs := siz_le t
    have hw := h
    rw [wt_eq] at h
    have hl := len_wtL t.f2
    rw [siz_eq] at hs ⊢
    (refine Ev.shift ?_; simp only [threshold_Size.f, Option.bind_some, ↓reduceIte, Bool.false_eq_true, reduceCtorEq, decide_eq_true_eq, Go.Proofs.YtkjlcbfjllpcnaaW.PrintWords.rd, rd_T32, rd_T34])
    rw [show wrap64 ((t.f1.length : Int) + (t.f2.length : Int)) = ((t.f1.length + t.f2.length : Nat) : Int) by rw [w64 (by omega) (by omega)]; omega]
    refine Ev.fold (L := fun (c : Nat) i k => threshold_Size.l0 k (c : Int) t.f2 (t.f2.length : Int) i) (by omega) (fun pre ys c => c + sizL ys = t.f1.length + t.f2.length + sizL t.f2) ?_ ?_ (t.f1.length + t.f2.length) rfl
    · intro c i hI hi
      rw [sizL] at hI
      (refine Ev.shift ?_; simp only [threshold_Size.l0, hi, Option.bind_some, ↓reduceIte, Bool.false_eq_true, reduceCtorEq, decide_eq_true_eq, Go.Proofs.YtkjlcbfjllpcnaaW.PrintWords.rd, rd_T32, rd_T34])
      rw [← hI]
      exact Ev.now _
    · intro pre y ys c i e hI hi h0 hlt hw hrd
      rw [sizL] at hI
      refine Or.inl ⟨c + siz y, by omega, fun k => ?_⟩
      (refine Ev.shift ?_; simp only [threshold_Size.l0, h0, hlt, hw, hrd, Option.bind_some, ↓reduceIte, Bool.false_eq_true, reduceCtorEq, decide_eq_true_eq, Go.Proofs.YtkjlcbfjllpcnaaW.PrintWords.rd, rd_T32, rd_T34])
      refine Ev.bind1 (Size_ev n y (by have := wt_mem (show y ∈ t.f2 by rw [e]; simp); omega) (by omega)) ?_
      rw [show wrap64 ((c : Int) + (siz y : Int)) = ((c + siz y : Nat) : Int) by rw [w64 (by omega) (by omega)]; omega]
      exact k
theorem Of_ev (l : List Int) (hl : l.length < 1152921504606846976) : Ev (fun k => nodeset_Of.f k l) (((ofS 0 l).1 : Int), (ofS 0 l).2) := by
  refine Ev.congr (f := fun k => nodeset_Of.l0 k ((0 : Nat) : Int) l (l.length : Int) 0) (fun k => rfl) ?_
  refine Ev.fold (L := fun (c : Nat) i k => nodeset_Of.l0 k (c : Int) l (l.length : Int) i) (by omega) (fun pre ys c => ofS c ys = ofS 0 l ∧ c < 1024) ?_ ?_ 0 ⟨rfl, by decide⟩
  · rintro c i ⟨hI, hc⟩ hi
    (refine Ev.shift ?_; simp only [nodeset_Of.l0, hi, Option.bind_some, ↓reduceIte, Bool.false_eq_true, reduceCtorEq, decide_eq_true_eq, Go.Proofs.YtkjlcbfjllpcnaaW.PrintWords.rd, rd_T32, rd_T34])
    rw [← hI]
    exact Ev.now _
  · rintro pre y ys c i e ⟨hI, hc⟩ hi h0 hlt hw hrd
    rw [ofS] at hI
    cases hn : noNode y
    · have hb := noNode_not hn
      simp only [hn, Bool.false_eq_true, if_false] at hI
      cases hs : inS c y
      · refine Or.inl ⟨c ||| 2 ^ y.toNat, ⟨by simpa [hs] using hI, or_lt10 hc (two_lt10 (by omega))⟩, fun k => ?_⟩
        have h2 := two_lt10 (show y.toNat < 10 by omega)
        have e2 : Go.bits .or .i64 (c : Int) (shl .i64 1 y) = ((c ||| 2 ^ y.toNat : Nat) : Int) := by
          rw [show y = (y.toNat : Int) by omega, shl_nat (by omega), Int.toNat_natCast, or_nat (by omega) (by omega)]
        have h1 : ¬ y < 0 := by omega
        have h3 : decide (y ≥ 10) = false := by simp; omega
        (refine Ev.shift ?_; simp only [nodeset_Of.l0, h0, hlt, hw, hrd, h1, h3, Option.bind_some, ↓reduceIte, Bool.false_eq_true, reduceCtorEq, decide_eq_true_eq, Go.Proofs.YtkjlcbfjllpcnaaW.PrintWords.rd, rd_T32, rd_T34])
        (refine Ev.shift ?_; simp only [nodeset_Of.j1, Has_eq hc, hs, hb.1, hw, Option.bind_some, ↓reduceIte, Bool.false_eq_true, reduceCtorEq, decide_eq_true_eq, Go.Proofs.YtkjlcbfjllpcnaaW.PrintWords.rd, rd_T32, rd_T34])
        rw [e2]
        exact k
      · refine Or.inr ?_
        simp only [hs, if_true] at hI
        have h1 : ¬ y < 0 := by omega
        have h3 : decide (y ≥ 10) = false := by simp; omega
        (refine Ev.shift ?_; simp only [nodeset_Of.l0, h0, hlt, hw, hrd, h1, h3, Option.bind_some, ↓reduceIte, Bool.false_eq_true, reduceCtorEq, decide_eq_true_eq, Go.Proofs.YtkjlcbfjllpcnaaW.PrintWords.rd, rd_T32, rd_T34])
        (refine Ev.shift ?_; simp only [nodeset_Of.j1, Has_eq hc, hs, Option.bind_some, ↓reduceIte, Bool.false_eq_true, reduceCtorEq, decide_eq_true_eq, Go.Proofs.YtkjlcbfjllpcnaaW.PrintWords.rd, rd_T32, rd_T34])
        rw [← hI]
        exact Ev.now _
    · refine Or.inr ?_
      simp only [hn, if_true] at hI
      rw [← hI]
      by_cases h1 : y < 0
      · (refine Ev.shift ?_; simp only [nodeset_Of.l0, h0, hlt, hw, hrd, h1, Option.bind_some, ↓reduceIte, Bool.false_eq_true, reduceCtorEq, decide_eq_true_eq, Go.Proofs.YtkjlcbfjllpcnaaW.PrintWords.rd, rd_T32, rd_T34])
        (refine Ev.shift ?_; simp only [nodeset_Of.j1, Option.bind_some, ↓reduceIte, Bool.false_eq_true, reduceCtorEq, decide_eq_true_eq, Go.Proofs.YtkjlcbfjllpcnaaW.PrintWords.rd, rd_T32, rd_T34])
        exact Ev.now _
      · have h3 : decide (y ≥ 10) = true := by simp [noNode] at hn ⊢; omega
        (refine Ev.shift ?_; simp only [nodeset_Of.l0, h0, hlt, hw, hrd, h1, h3, Option.bind_some, ↓reduceIte, Bool.false_eq_true, reduceCtorEq, decide_eq_true_eq, Go.Proofs.YtkjlcbfjllpcnaaW.PrintWords.rd, rd_T32, rd_T34])
        (refine Ev.shift ?_; simp only [nodeset_Of.j1, Option.bind_some, ↓reduceIte, Bool.false_eq_true, reduceCtorEq, decide_eq_true_eq, Go.Proofs.YtkjlcbfjllpcnaaW.PrintWords.rd, rd_T32, rd_T34])
        exact Ev.now _
theorem Uses_ev : ∀ (n : Nat) (t : S32), wt t < n → n < 1152921504606846976 → Ev (fun k => threshold_Uses.f k t.f0 t.f1 t.f2) (uses t : Int)
  | 0, t, h, _ => absurd h (by omega)
  | n + 1, t, h, hn => by
    rw [wt_eq] at h
    have hl := len_wtL t.f2
    have hU := uses_lt t
    rw [uses_eq] at hU ⊢
    generalize hT : (t.f1.foldl (fun a x => if noNode x = true then a else a ||| 2 ^ x.toNat) 0 ||| useL t.f2) = T at hU
    have l1 : ∀ c, c < 1024 → c ||| useL t.f2 = T → Ev (fun k => threshold_Uses.l1 k (c : Int) t.f2 (t.f2.length : Int) 0) (T : Int) := by
      intro c hc hcT
      refine Ev.fold (L := fun (c : Nat) i k => threshold_Uses.l1 k (c : Int) t.f2 (t.f2.length : Int) i) (by omega) (fun pre ys c => c ||| useL ys = T ∧ c < 1024) ?_ ?_ c ⟨hcT, hc⟩
      · rintro c i ⟨hI, hc⟩ hi
        rw [useL, Nat.or_zero] at hI
        (refine Ev.shift ?_; simp only [threshold_Uses.l1, hi, Option.bind_some, ↓reduceIte, Bool.false_eq_true, reduceCtorEq, decide_eq_true_eq, Go.Proofs.YtkjlcbfjllpcnaaW.PrintWords.rd, rd_T32, rd_T34])
        rw [← hI]
        exact Ev.now _
      · rintro pre y ys c i e ⟨hI, hc⟩ hi h0 hlt hw hrd
        rw [useL] at hI
        refine Or.inl ⟨c ||| uses y, ⟨by rw [Nat.or_assoc]; exact hI, or_lt10 hc (uses_lt y)⟩, fun k => ?_⟩
        (refine Ev.shift ?_; simp only [threshold_Uses.l1, h0, hlt, hw, hrd, Option.bind_some, ↓reduceIte, Bool.false_eq_true, reduceCtorEq, decide_eq_true_eq, Go.Proofs.YtkjlcbfjllpcnaaW.PrintWords.rd, rd_T32, rd_T34])
        refine Ev.bind1 (Uses_ev n y (by have := wt_mem (show y ∈ t.f2 by rw [e]; simp); omega) (by omega)) ?_
        have := uses_lt y
        rw [or_nat (by omega) (by omega)]
        exact k
    (refine Ev.shift ?_; simp only [threshold_Uses.f, Option.bind_some, ↓reduceIte, Bool.false_eq_true, reduceCtorEq, decide_eq_true_eq, Go.Proofs.YtkjlcbfjllpcnaaW.PrintWords.rd, rd_T32, rd_T34])
    refine Ev.fold (L := fun (c : Nat) i k => threshold_Uses.l0 k (c : Int) t.f1 (t.f1.length : Int) i t.f0 t.f1 t.f2) (by omega) (fun pre ys c => (ys.foldl (fun a x => if noNode x = true then a else a ||| 2 ^ x.toNat) c) ||| useL t.f2 = T ∧ c < 1024) ?_ ?_ 0 ⟨hT, by decide⟩
    · rintro c i ⟨hI, hc⟩ hi
      (refine Ev.shift ?_; simp only [threshold_Uses.l0, hi, Option.bind_some, ↓reduceIte, Bool.false_eq_true, reduceCtorEq, decide_eq_true_eq, Go.Proofs.YtkjlcbfjllpcnaaW.PrintWords.rd, rd_T32, rd_T34])
      exact l1 c hc hI
    · rintro pre y ys c i e ⟨hI, hc⟩ hi h0 hlt hw hrd
      rw [List.foldl_cons] at hI
      cases hn : noNode y
      · have hb := noNode_not hn
        have h2 := two_lt10 (show y.toNat < 10 by omega)
        refine Or.inl ⟨c ||| 2 ^ y.toNat, ⟨by simpa [hn] using hI, or_lt10 hc h2⟩, fun k => ?_⟩
        have e2 : Go.bits .or .i64 (c : Int) (shl .i64 1 y) = ((c ||| 2 ^ y.toNat : Nat) : Int) := by
          rw [show y = (y.toNat : Int) by omega, shl_nat (by omega), Int.toNat_natCast, or_nat (by omega) (by omega)]
        have h3 : y ≥ 0 := by omega
        have h4 : y < 10 := by omega
        (refine Ev.shift ?_; simp only [threshold_Uses.l0, threshold_node.f, h0, hlt, hw, hrd, h3, h4, decide_true, hb.1, Option.bind_some, ↓reduceIte, Bool.false_eq_true, reduceCtorEq, decide_eq_true_eq, Go.Proofs.YtkjlcbfjllpcnaaW.PrintWords.rd, rd_T32, rd_T34])
        rw [e2]
        exact k
      · refine Or.inl ⟨c, ⟨by simpa [hn] using hI, hc⟩, fun k => ?_⟩
        by_cases h3 : y ≥ 0
        · have h4 : ¬ y < 10 := by simp [noNode] at hn; omega
          (refine Ev.shift ?_; simp only [threshold_Uses.l0, threshold_node.f, h0, hlt, hw, hrd, h3, h4, decide_false, Option.bind_some, ↓reduceIte, Bool.false_eq_true, reduceCtorEq, decide_eq_true_eq, Go.Proofs.YtkjlcbfjllpcnaaW.PrintWords.rd, rd_T32, rd_T34])
          exact k
        · (refine Ev.shift ?_; simp only [threshold_Uses.l0, threshold_node.f, h0, hlt, hw, hrd, h3, Option.bind_some, ↓reduceIte, Bool.false_eq_true, reduceCtorEq, decide_eq_true_eq, Go.Proofs.YtkjlcbfjllpcnaaW.PrintWords.rd, rd_T32, rd_T34])
          exact k
theorem level_ev : ∀ (n : Nat) (t : S32), wt t < n → n < 1152921504606846976 → Ev (fun k => threshold_level.f k t.f0 t.f1 t.f2) (chk t)
  | 0, t, h, _ => absurd h (by omega)
  | n + 1, t, h, hn => by
    rw [wt_eq] at h
    have hl := len_wtL t.f2
    rw [chk_eq]
    have el : wrap64 ((t.f1.length : Int) + (t.f2.length : Int)) = ((t.f1.length + t.f2.length : Nat) : Int) := by rw [w64 (by omega) (by omega)]; omega
    by_cases h1 : t.f0 < 1
    · (refine Ev.shift ?_; simp only [threshold_level.f, h1, true_or, Option.bind_some, ↓reduceIte, Bool.false_eq_true, reduceCtorEq, decide_eq_true_eq, Go.Proofs.YtkjlcbfjllpcnaaW.PrintWords.rd, rd_T32, rd_T34])
      (refine Ev.shift ?_; simp only [threshold_level.j0, Option.bind_some, ↓reduceIte, Bool.false_eq_true, reduceCtorEq, decide_eq_true_eq, Go.Proofs.YtkjlcbfjllpcnaaW.PrintWords.rd, rd_T32, rd_T34])
      exact Ev.now _
    by_cases h2 : t.f0 > ((t.f1.length + t.f2.length : Nat) : Int)
    · (refine Ev.shift ?_; simp only [threshold_level.f, h1, h2, el, or_true, decide_true, Option.bind_some, ↓reduceIte, Bool.false_eq_true, reduceCtorEq, decide_eq_true_eq, Go.Proofs.YtkjlcbfjllpcnaaW.PrintWords.rd, rd_T32, rd_T34])
      (refine Ev.shift ?_; simp only [threshold_level.j0, Option.bind_some, ↓reduceIte, Bool.false_eq_true, reduceCtorEq, decide_eq_true_eq, Go.Proofs.YtkjlcbfjllpcnaaW.PrintWords.rd, rd_T32, rd_T34])
      exact Ev.now _
    (refine Ev.shift ?_; simp only [threshold_level.f, h1, h2, el, or_false, decide_false, Option.bind_some, ↓reduceIte, Bool.false_eq_true, reduceCtorEq, decide_eq_true_eq, Go.Proofs.YtkjlcbfjllpcnaaW.PrintWords.rd, rd_T32, rd_T34])
    (refine Ev.shift ?_; simp only [threshold_level.j0, containsFunc_level.f, Option.bind_some, ↓reduceIte, Bool.false_eq_true, reduceCtorEq, decide_eq_true_eq, Go.Proofs.YtkjlcbfjllpcnaaW.PrintWords.rd, rd_T32, rd_T34])
    cases hn : t.f1.any noNode
    · simp only [Bool.false_eq_true, if_false]
      refine Ev.bind1 (Of_ev t.f1 (by omega)) ?_
      by_cases h3 : (ofS 0 t.f1).2 = 0
      · simp only [h3, if_true]
        refine Ev.fold (L := fun (c : Unit) i k => threshold_level.l0 k t.f2 (t.f2.length : Int) i) (by omega) (fun pre ys c => chkL ys = chkL t.f2) ?_ ?_ () rfl
        · intro c i hI hi
          rw [chkL] at hI
          (refine Ev.shift ?_; simp only [threshold_level.l0, hi, Option.bind_some, ↓reduceIte, Bool.false_eq_true, reduceCtorEq, decide_eq_true_eq, Go.Proofs.YtkjlcbfjllpcnaaW.PrintWords.rd, rd_T32, rd_T34])
          rw [← hI]
          exact Ev.now _
        · intro pre y ys c i e hI hi h0 hlt hw hrd
          rw [chkL] at hI
          have hy := level_ev n y (by have := wt_mem (show y ∈ t.f2 by rw [e]; simp); omega) (by omega)
          by_cases h4 : chk y = 0
          · refine Or.inl ⟨(), by rw [← hI, if_pos h4], fun k => ?_⟩
            (refine Ev.shift ?_; simp only [threshold_level.l0, h0, hlt, hw, hrd, Option.bind_some, ↓reduceIte, Bool.false_eq_true, reduceCtorEq, decide_eq_true_eq, Go.Proofs.YtkjlcbfjllpcnaaW.PrintWords.rd, rd_T32, rd_T34])
            refine Ev.bind1 hy ?_
            simp only [h4, if_true]
            exact k
          · refine Or.inr ?_
            rw [← hI, if_neg h4]
            (refine Ev.shift ?_; simp only [threshold_level.l0, h0, hlt, hw, hrd, Option.bind_some, ↓reduceIte, Bool.false_eq_true, reduceCtorEq, decide_eq_true_eq, Go.Proofs.YtkjlcbfjllpcnaaW.PrintWords.rd, rd_T32, rd_T34])
            refine Ev.bind1 hy ?_
            simp only [h4, if_false]
            exact Ev.now _
      · simp only [h3, if_false]
        exact Ev.now _
    · simp only [if_true]
      exact Ev.now _
theorem Valid_ev (t : S32) (h : wt t < 1000000) : Ev (fun k => threshold_Valid.f k t.f0 t.f1 t.f2) (validT t) := by
  simp only [threshold_Valid.f, validT, Option.bind_some, ↓reduceIte, Bool.false_eq_true, reduceCtorEq, decide_eq_true_eq, Go.Proofs.YtkjlcbfjllpcnaaW.PrintWords.rd, rd_T32, rd_T34]
  refine Ev.bind1 (Depth_ev 1000000 t h (by decide)) ?_
  by_cases h1 : dep t > 4
  · have : (dep t : Int) > 4 := by omega
    simp only [h1, this, Option.bind_some, ↓reduceIte, Bool.false_eq_true, reduceCtorEq, decide_eq_true_eq, Go.Proofs.YtkjlcbfjllpcnaaW.PrintWords.rd, rd_T32, rd_T34]
    exact Ev.now _
  have h2 : ¬ (dep t : Int) > 4 := by omega
  simp only [h1, h2, Option.bind_some, ↓reduceIte, Bool.false_eq_true, reduceCtorEq, decide_eq_true_eq, Go.Proofs.YtkjlcbfjllpcnaaW.PrintWords.rd, rd_T32, rd_T34]
  refine Ev.bind1 (Size_ev 1000000 t h (by decide)) ?_
  by_cases h3 : siz t > 200
  · have : (siz t : Int) > 200 := by omega
    simp only [h3, this, Option.bind_some, ↓reduceIte, Bool.false_eq_true, reduceCtorEq, decide_eq_true_eq, Go.Proofs.YtkjlcbfjllpcnaaW.PrintWords.rd, rd_T32, rd_T34]
    exact Ev.now _
  have h4 : ¬ (siz t : Int) > 200 := by omega
  simp only [h3, h4, Option.bind_some, ↓reduceIte, Bool.false_eq_true, reduceCtorEq, decide_eq_true_eq, Go.Proofs.YtkjlcbfjllpcnaaW.PrintWords.rd, rd_T32, rd_T34]
  refine Ev.bind1 (level_ev 1000000 t h (by decide)) ?_
  exact Ev.now _
end Go.Proofs.Ytkjlcbfjllpcnaa.X
namespace Go.Proofs.Ytkjlcbfjllpcnaa.X
open Go.RowKit Go.Proofs.YtkjlcbfjllpcnaaW.PrintWords Go.Proofs.YtkjlcbfjllpcnaaW.PrintLast Go.Proofs.YtkjlcbfjllpcnaaW.PrintMore
attribute [local go_sem] max2_int min2_int max_two min_two max_three min_three max_four min_four
set_option linter.unusedVariables false
set_option linter.unusedSimpArgs false
end Go.Proofs.Ytkjlcbfjllpcnaa.X
namespace Go.Proofs.Ytkjlcbfjllpcnaa.X
open Go.RowKit Go.Proofs.YtkjlcbfjllpcnaaW.PrintWords Go.Proofs.YtkjlcbfjllpcnaaW.PrintLast Go.Proofs.YtkjlcbfjllpcnaaW.PrintMore
set_option linter.unusedVariables false
def EvP {α : Type} (g : Nat → Option α) (P : α → Prop) : Prop := ∃ r, P r ∧ Ev g r
theorem EvP.now {α : Type} {P : α → Prop} {r : α} (h : P r) : EvP (fun _ => some r) P := ⟨r, h, Ev.now r⟩
theorem EvP.shift {α : Type} {g : Nat → Option α} {P : α → Prop} (h : EvP (fun k => g (k + 1)) P) : EvP g P := by
  obtain ⟨r, h1, h2⟩ := h
  exact ⟨r, h1, Ev.shift h2⟩
theorem EvP.bind {α β : Type} {g : Nat → Option α} {f : Nat → α → Option β} {P : α → Prop} {Q : β → Prop} (h : EvP g P) (k : ∀ a, P a → EvP (fun n => f n a) Q) : EvP (fun n => (g n).bind (f n)) Q := by
  obtain ⟨a, h1, h2⟩ := h
  obtain ⟨r, k1, k2⟩ := k a h1
  exact ⟨r, k1, Ev.bind h2 k2⟩
theorem EvP.imp {α : Type} {g : Nat → Option α} {P Q : α → Prop} (h : EvP g P) (k : ∀ a, P a → Q a) : EvP g Q := by
  obtain ⟨r, h1, h2⟩ := h
  exact ⟨r, k r h1, h2⟩
theorem EvP.ofEv {α : Type} {g : Nat → Option α} {r : α} (h : Ev g r) : EvP g (fun x => x = r) := ⟨r, rfl, h⟩
theorem EvP.loop {σ ρ : Type} {L : σ → Nat → Option ρ} {Q : ρ → Prop} (I : σ → Prop) (m : σ → Nat)
    (hstep : ∀ c, I c → (∀ c', I c' → m c' < m c → EvP (L c') Q) → EvP (L c) Q) (c0 : σ) (h0 : I c0) : EvP (L c0) Q := by
  have key : ∀ n c, m c < n → I c → EvP (L c) Q := by
    intro n
    induction n with
    | zero => intro c h; exact absurd h (by omega)
    | succ n ih => intro c h hc; exact hstep c hc fun c' h' hm => ih c' (by omega) h'
  exact key (m c0 + 1) c0 (by omega) h0
def foldU (l : List Int) (a : Nat) : Nat := l.foldl (fun a x => if noNode x = true then a else a ||| 2 ^ x.toNat) a
theorem foldU_lt {n : Nat} (hn : n ≤ 10) : ∀ (l : List Int) (a : Nat), a < 2 ^ n → (∀ x ∈ l, 0 ≤ x ∧ x < (n : Int)) → foldU l a < 2 ^ n := by
  intro l
  induction l with
  | nil => intro a h _; exact h
  | cons x xs ih =>
    intro a h hx
    have h1 := hx x (by simp)
    show foldU xs (if noNode x = true then a else a ||| 2 ^ x.toNat) < 2 ^ n
    refine ih _ ?_ fun y hy => hx y (by simp [hy])
    split
    · exact h
    · exact or_lt h (Nat.pow_lt_pow_right (by decide) (by omega))
theorem useL_lt2 {n : Nat} : ∀ (l : List S32), (∀ t ∈ l, uses t < 2 ^ n) → useL l < 2 ^ n
  | [], _ => by rw [useL]; exact Nat.two_pow_pos n
  | t :: ts, h => by rw [useL]; exact or_lt (h t (by simp)) (useL_lt2 ts fun y hy => h y (by simp [hy]))
theorem wtL_le {b : Nat} : ∀ (l : List S32), (∀ t ∈ l, wt t ≤ b) → wtL l ≤ l.length * b
  | [], _ => by rw [wtL]; omega
  | t :: ts, h => by
    rw [wtL, List.length_cons, Nat.add_mul]
    have := h t (by simp)
    have := wtL_le ts fun y hy => h y (by simp [hy])
    omega
def In (n b : Nat) (t : S32) : Prop := wt t ≤ b ∧ uses t < 2 ^ n
theorem In_mk {n b : Nat} (hn : n ≤ 10) {v : Int} {l : List Int} {ts : List S32} (h2 : ∀ x ∈ l, 0 ≤ x ∧ x < (n : Int)) (h4 : ∀ t ∈ ts, In n b t) (B : Nat) (hB : 1 + l.length + ts.length * b ≤ B) : In n B ⟨v, l, ts⟩ := by
  constructor
  · rw [wt_eq]
    have := wtL_le ts fun t ht => (h4 t ht).1
    simp only
    omega
  · rw [uses_eq]
    exact or_lt (foldU_lt hn l 0 (Nat.two_pow_pos n) h2) (useL_lt2 ts fun t ht => (h4 t ht).2)
def Okt (n : Nat) (t : S32) : Prop := validT t = 0 ∧ In n 100 t
theorem one_ok {n : Nat} {v : Int} (h0 : 0 ≤ v) (h1 : v < (n : Int)) (hn : n ≤ 10) : Okt n ⟨1, [v], []⟩ := by
  constructor
  · have hv : noNode v = false := by simp [noNode]; omega
    have : (ofS 0 [v]).2 = 0 := by
      rw [ofS, hv, ofS]; simp [inS]
    simp [validT, dep, siz, depL, sizL, chk, chkL, hv, this]
  · exact In_mk hn (b := 0) (by simp; omega) (by simp) _ (by simp)
def Asc (n : Nat) (l : List Int) : Prop := l.length ≤ n ∧ (ofS 0 l).2 = 0 ∧ (ofS 0 l).1 < 2 ^ n ∧ ∀ x ∈ l, 0 ≤ x ∧ x < (n : Int)
theorem Asc.mono {n m : Nat} {l : List Int} (h : Asc n l) (hnm : n ≤ m) : Asc m l := by
  obtain ⟨h1, h2, h3, h4⟩ := h
  exact ⟨by omega, h2, Nat.lt_of_lt_of_le h3 (Nat.pow_le_pow_right (by decide) hnm), fun x hx => by have := h4 x hx; omega⟩
theorem Asc.any {n : Nat} {l : List Int} (h : Asc n l) (hn : n ≤ 10) : l.any noNode = false := by
  rw [List.any_eq_false]
  intro x hx
  have := h.2.2.2 x hx
  simp [noNode]; omega
theorem getD_mem' {α : Type} {l : List α} {i : Nat} (d : α) (h : i < l.length) : l.getD i d ∈ l := by
  rw [List.getD_eq_getElem?_getD, List.getElem?_eq_getElem h]; exact List.getElem_mem h
def OkM (n : Nat) (m : S34) : Prop := if m.f0 = true then Okt n m.f1 else m.f1 = ⟨0, [], []⟩
def OkC (c : List S34) : Prop := 1 ≤ c.length ∧ c.length ≤ 10 ∧ ∀ m ∈ c, OkM c.length m
end Go.Proofs.Ytkjlcbfjllpcnaa.X
