/- Proof of the statement QuorumsUniform: part 3 of 5, what it computes and why that answers true. -/
import Derived.Test.YtkjlcbfjllpcnaaKQU2
import Derived.Shelf.Small.Bits
import Derived.Shelf.Strconv.Itoa0
import Derived.Ground.Names2Prog
import Derived.Shelf.Slices.Clone
import Derived.Shelf.Slices.SearchI
import Derived.Ground.SlgnProg
import Derived.Shelf.SlicesE.Clone
import Derived.Ground.SlgfProg
import Derived.Shelf.SlicesE.IndexFunc
import Derived.Shelf.SlicesE.DeleteFunc
import Derived.Ground.SlsfProg
import Derived.Shelf.SlSortCmp.Insertion
import Derived.Shelf.SlSortCmp.SiftDown1
import Derived.Shelf.SlSortCmp.HeapSort1
import Derived.Shelf.SlSortCmp.Insertion1
import Derived.Shelf.SlSortCmp.Median1
import Derived.Shelf.SlSortCmp.Pivot1
import Derived.Shelf.SlSortCmp.ReverseRange1
import Derived.Shelf.SlSortCmp.PartialInsertion1
import Derived.Shelf.SlSortCmp.PartitionEqual1
import Derived.Shelf.SlSortCmp.Partition1
import Derived.Shelf.SlSortCmp.Pdq1
import Derived.Shelf.SlSortCmp.Whole1
import Derived.Shelf.SlSortCmp.NoneTotal
import Derived.Test.YtkjlcbfjllpcnaaProg
import Derived.Sort.OwnSortedInts
set_option linter.unusedVariables false
set_option linter.unusedSimpArgs false
namespace Go.Proofs
open Go.Shelf
def Try.laysNm215_ren:Go.Shelf.Ren:=⟨fun|15=>97|n=>n,fun|22=>22|3=>3|4=>4|n=>n,fun|n=>n⟩
theorem Try.laysNm215:Go.Proofs.Lays2.n15 Try.prog Try.laysNm215_ren:={
 mixed:=by kernel_rfl
 f15:=Try.func97.trans (congrArg some (by kernel_rfl))
 t3:=Try.underlying3
 a3:=Try.isAgg3
 z3:=Try.sizeOf3
 v3:=Try.zeroValue3
 t4:=Try.underlying4
 a4:=Try.isAgg4
 z4:=Try.sizeOf4
 v4:=Try.zeroValue4
 t22:=Try.underlying22
 a22:=Try.isAgg22
 z22:=Try.sizeOf22
 v22:=Try.zeroValue22
 i3:=by kernel_rfl }
open Go.RowKit Go.Lib in
theorem Try.slices_Clone_int (b off n c:Nat) (zs:List Int) (w:World) (hz:n≤zs.length) (hbig:n * 8≤140737488355328) (hc:∀ j,j < zs.length→w.cell? ⟨b,off+j,none⟩=some (.int .i64 (zs.getD j 0))) :
  Calls Try.prog 97 #[.slice (some ⟨b,off,none⟩) n c] w fun e w'=>∃ v',e=.returned v'∧w'.ownsRow w.heap.size 3 1 v' n ((zs.take n).map (Value.int .i64))∧v' ≠ .slice none 0 0∧Below w.heap.size w w':=Any.slices_Clone_int Try.laysNm215 b off n c zs w hz hbig hc
open Go.RowKit Go.Lib in
theorem Try.slices_Clone_int_nil (n c:Nat) (w:World) :
  Calls Try.prog 97 #[.slice none n c] w fun e w'=>e=.returned (.slice none 0 0)∧w'=w:=Any.slices_Clone_int_nil Try.laysNm215 n c w
open Go.RowKit Go.Lib in
theorem Try.slices_Clone_int_zero (a:Addr) (c:Nat) (w:World) :
  Calls Try.prog 97 #[.slice (some a) 0 c] w fun e w'=>∃ v',e=.returned v'∧w'.ownsRow w.heap.size 3 1 v' 0 []∧v' ≠ .slice none 0 0∧Below w.heap.size w w':=Any.slices_Clone_int_zero Try.laysNm215 a c w
def Try.laysSlH6_f117_ren:Go.Shelf.Ren:=⟨fun|6=>117|n=>n,fun|22=>22|23=>3|25=>77|3=>3|0=>0|4=>4|n=>n,fun|n=>n⟩
theorem Try.laysSlH6_f117:Go.Proofs.SlLaysH.n6 Try.prog Try.laysSlH6_f117_ren:={
 mixed:=by kernel_rfl
 f6:=⟨Try.f117.name,by decide,Try.func117.trans (congrArg some (by kernel_rfl))⟩
 t0:=Try.underlying0
 a0:=Try.isAgg0
 z0:=Try.sizeOf0
 v0:=Try.zeroValue0
 t3:=Try.underlying3
 a3:=Try.isAgg3
 z3:=Try.sizeOf3
 v3:=Try.zeroValue3
 t4:=Try.underlying4
 a4:=Try.isAgg4
 z4:=Try.sizeOf4
 v4:=Try.zeroValue4
 t22:=Try.underlying22
 a22:=Try.isAgg22
 z22:=Try.sizeOf22
 v22:=Try.zeroValue22
 a23:=Try.isAgg3
 z23:=Try.sizeOf3
 t25:=Try.underlying77
 a25:=Try.isAgg77
 z25:=Try.sizeOf77
 v25:=Try.zeroValue77 }
open Go.RowKit Go.Lib in
theorem Try.slices_IndexFunc_empty {α:Type} [Inhabited α] (a:Option Addr) (c:Nat) (fv:Value) (w:World) :
  Calls Try.prog 117 #[.slice a 0 c,fv] w fun e w'=>e=.returned (.int .i64 (-1))∧w'=w:=AnyE.slices_IndexFunc_empty Try.laysSlH6_f117 a c fv w
def Try.laysSlH8_f99_ren:Go.Shelf.Ren:=⟨fun|8=>99|6=>117|n=>n,fun|22=>22|23=>3|25=>77|4=>4|3=>3|0=>0|n=>n,fun|n=>n⟩
theorem Try.laysSlH8_f99:Go.Proofs.SlLaysH.n8 Try.prog Try.laysSlH8_f99_ren:={
 mixed:=by kernel_rfl
 f6:=⟨Try.f117.name,by decide,Try.func117.trans (congrArg some (by kernel_rfl))⟩
 f8:=⟨Try.f99.name,by decide,Try.func99.trans (congrArg some (by kernel_rfl))⟩
 t0:=Try.underlying0
 a0:=Try.isAgg0
 z0:=Try.sizeOf0
 v0:=Try.zeroValue0
 t3:=Try.underlying3
 a3:=Try.isAgg3
 z3:=Try.sizeOf3
 v3:=Try.zeroValue3
 t4:=Try.underlying4
 a4:=Try.isAgg4
 z4:=Try.sizeOf4
 v4:=Try.zeroValue4
 t22:=Try.underlying22
 a22:=Try.isAgg22
 z22:=Try.sizeOf22
 v22:=Try.zeroValue22
 a23:=Try.isAgg3
 z23:=Try.sizeOf3
 t25:=Try.underlying77
 a25:=Try.isAgg77
 z25:=Try.sizeOf77
 v25:=Try.zeroValue77 }
open Go.RowKit Go.Lib in
theorem Try.slices_ContainsFunc {α:Type} [Inhabited α] (enc:α→Value) (p:α→Bool) (g:Nat) (lb:Array Value) (eg:∀ args w,(callFunc g args).run Try.prog w=.ok (.enter g args) w) (b off n c:Nat) (zs:List α) (w:World) (hp:PredAt Try.prog g lb enc p w) (hz:n≤zs.length) (hbig:n≤9223372036854775807) (hc:∀ j,j < zs.length→w.cell? ⟨b,off+j,none⟩=some (enc zs[j]!)) :
  Calls Try.prog 99 #[.slice (some ⟨b,off,none⟩) n c,.func (.func g) #[] lb] w fun e w'=>e=.returned (.bool ((zs.take n).any p))∧∃ q,w'=w.drewN q:=AnyE.slices_ContainsFunc Try.laysSlH8_f99 enc p g lb eg b off n c zs w hp hz hbig hc
open Go.RowKit Go.Lib in
theorem Try.slices_ContainsFunc_empty {α:Type} [Inhabited α] (a:Option Addr) (c:Nat) (fv:Value) (w:World) :
  Calls Try.prog 99 #[.slice a 0 c,fv] w fun e w'=>e=.returned (.bool false)∧w'=w:=AnyE.slices_ContainsFunc_empty Try.laysSlH8_f99 a c fv w
def Try.laysSlH10_f96_ren:Go.Shelf.Ren:=⟨fun|10=>96|6=>117|n=>n,fun|22=>22|23=>3|25=>77|3=>3|4=>4|0=>0|n=>n,fun|n=>n⟩
theorem Try.laysSlH10_f96:Go.Proofs.SlLaysH.n10 Try.prog Try.laysSlH10_f96_ren:={
 mixed:=by kernel_rfl
 f6:=⟨Try.f117.name,by decide,Try.func117.trans (congrArg some (by kernel_rfl))⟩
 f10:=⟨Try.f96.name,by decide,Try.func96.trans (congrArg some (by kernel_rfl))⟩
 t0:=Try.underlying0
 a0:=Try.isAgg0
 z0:=Try.sizeOf0
 v0:=Try.zeroValue0
 t3:=Try.underlying3
 a3:=Try.isAgg3
 z3:=Try.sizeOf3
 v3:=Try.zeroValue3
 t4:=Try.underlying4
 a4:=Try.isAgg4
 z4:=Try.sizeOf4
 v4:=Try.zeroValue4
 t22:=Try.underlying22
 a22:=Try.isAgg22
 z22:=Try.sizeOf22
 v22:=Try.zeroValue22
 a23:=Try.isAgg3
 z23:=Try.sizeOf3
 t25:=Try.underlying77
 a25:=Try.isAgg77
 z25:=Try.sizeOf77
 v25:=Try.zeroValue77 }
open Go.RowKit Go.Lib Go.Sort in
theorem Try.slices_DeleteFunc {α:Type} [Inhabited α] (enc:α→Value) (hO:OneCell enc) (p:α→Bool) (g:Nat) (lb:Array Value) (eg:∀ args w,(callFunc g args).run Try.prog w=.ok (.enter g args) w) (zr:α) (v23:∀ w,(zeroValue 3).run Try.prog w=.ok (enc zr) w) (blk off cap:Nat) (d:Array α) (w:World) (hp:PredAt Try.prog g lb enc p w) (hpo:PredOver Try.prog g lb enc p blk off d.size w) (hH:Holds enc w blk off d) (hsz:d.size≤9223372036854775807) (hcap:d.size≤cap) :
  Calls Try.prog 96 #[.slice (some ⟨blk,off,none⟩) d.size cap,.func (.func g) #[] lb] w fun e w'=>e=.returned (.slice (some ⟨blk,off,none⟩) (d.toList.filter fun x=>!p x).length cap)∧∃ q,w'=putRow enc (Sort.ahead w q) blk off ((d.toList.filter fun x=>!p x)++List.replicate (d.size - (d.toList.filter fun x=>!p x).length) zr).toArray:=AnyE.slices_DeleteFunc Try.laysSlH10_f96 enc hO p g lb eg zr v23 blk off cap d w hp hpo hH hsz hcap
def Try.laysSlF06_f93_ren:Go.Shelf.Ren:=⟨fun|6=>93|15=>113|14=>112|28=>137|29=>138|20=>129|21=>130|22=>131|23=>132|24=>133|25=>134|26=>135|27=>136|46=>148|47=>149|48=>150|49=>151|50=>152|57=>154|n=>n,fun|22=>22|24=>3|25=>64|3=>3|39=>102|0=>0|53=>118|55=>120|4=>4|46=>112|45=>111|50=>81|5=>5|9=>9|66=>123|70=>127|76=>129|77=>104|n=>n,fun|n=>n⟩
theorem Try.laysSlF06_f93:Go.Proofs.SlLaysF0.n6 Try.prog Try.laysSlF06_f93_ren:={
 mixed:=by kernel_rfl
 f6:=⟨Try.f93.name,by decide,Try.func93.trans (congrArg some (by kernel_rfl))⟩
 f14:=⟨Try.f112.name,by decide,Try.func112.trans (congrArg some (by kernel_rfl))⟩
 f15:=Try.func113.trans (congrArg some (by kernel_rfl))
 f20:=⟨Try.f129.name,by decide,Try.func129.trans (congrArg some (by kernel_rfl))⟩
 f21:=⟨Try.f130.name,by decide,Try.func130.trans (congrArg some (by kernel_rfl))⟩
 f22:=⟨Try.f131.name,by decide,Try.func131.trans (congrArg some (by kernel_rfl))⟩
 f23:=⟨Try.f132.name,by decide,Try.func132.trans (congrArg some (by kernel_rfl))⟩
 f24:=⟨Try.f133.name,by decide,Try.func133.trans (congrArg some (by kernel_rfl))⟩
 f25:=⟨Try.f134.name,by decide,Try.func134.trans (congrArg some (by kernel_rfl))⟩
 f26:=⟨Try.f135.name,by decide,Try.func135.trans (congrArg some (by kernel_rfl))⟩
 f27:=⟨Try.f136.name,by decide,Try.func136.trans (congrArg some (by kernel_rfl))⟩
 f28:=Try.func137.trans (congrArg some (by kernel_rfl))
 f29:=Try.func138.trans (congrArg some (by kernel_rfl))
 f46:=⟨Try.f148.name,by decide,Try.func148.trans (congrArg some (by kernel_rfl))⟩
 f47:=Try.func149.trans (congrArg some (by kernel_rfl))
 f48:=Try.func150.trans (congrArg some (by kernel_rfl))
 f49:=⟨Try.f151.name,by decide,Try.func151.trans (congrArg some (by kernel_rfl))⟩
 f50:=⟨Try.f152.name,by decide,Try.func152.trans (congrArg some (by kernel_rfl))⟩
 f57:=⟨Try.f154.name,by decide,Try.func154.trans (congrArg some (by kernel_rfl))⟩
 t0:=Try.underlying0
 a0:=Try.isAgg0
 z0:=Try.sizeOf0
 v0:=Try.zeroValue0
 t3:=Try.underlying3
 a3:=Try.isAgg3
 z3:=Try.sizeOf3
 v3:=Try.zeroValue3
 t4:=Try.underlying4
 a4:=Try.isAgg4
 z4:=Try.sizeOf4
 v4:=Try.zeroValue4
 t5:=Try.underlying5
 a5:=Try.isAgg5
 z5:=Try.sizeOf5
 v5:=Try.zeroValue5
 t9:=Try.underlying9
 a9:=Try.isAgg9
 z9:=Try.sizeOf9
 v9:=Try.zeroValue9
 t22:=Try.underlying22
 a22:=Try.isAgg22
 z22:=Try.sizeOf22
 v22:=Try.zeroValue22
 t25:=Try.underlying64
 a25:=Try.isAgg64
 z25:=Try.sizeOf64
 v25:=Try.zeroValue64
 t39:=Try.underlying102
 a39:=Try.isAgg102
 z39:=Try.sizeOf102
 v39:=Try.zeroValue102
 t45:=Try.underlying111
 a45:=Try.isAgg111
 z45:=Try.sizeOf111
 v45:=Try.zeroValue111
 t46:=Try.underlying112
 a46:=Try.isAgg112
 z46:=Try.sizeOf112
 v46:=Try.zeroValue112
 t50:=Try.underlying81
 a50:=Try.isAgg81
 z50:=Try.sizeOf81
 v50:=Try.zeroValue81
 t53:=Try.underlying118
 a53:=Try.isAgg118
 z53:=Try.sizeOf118
 v53:=Try.zeroValue118
 t55:=Try.underlying120
 a55:=Try.isAgg120
 z55:=Try.sizeOf120
 v55:=Try.zeroValue120
 t66:=Try.underlying123
 a66:=Try.isAgg123
 z66:=Try.sizeOf123
 v66:=Try.zeroValue123
 t70:=Try.underlying127
 a70:=Try.isAgg127
 z70:=Try.sizeOf127
 v70:=Try.zeroValue127
 t76:=Try.underlying129
 a76:=Try.isAgg129
 z76:=Try.sizeOf129
 v76:=Try.zeroValue129
 t77:=Try.underlying104
 a77:=Try.isAgg104
 z77:=Try.sizeOf104
 v77:=Try.zeroValue104 }
open Go.RowKit Go.Lib Go.Sort in
theorem Try.slices_SortFunc_none {α:Type} [Inhabited α] (p:Option Addr) (cap:Nat) (fv:Value) (w:World) :
  Calls Try.prog 93 #[.slice p 0 cap,fv] w fun e w'=>e=.returned (.tuple #[])∧w'=w:=AnyF.slices_SortFunc_none Try.laysSlF06_f93 p cap fv w
def Try.laysSlF6_f93_ren:Go.Shelf.Ren:=⟨fun|6=>93|15=>113|14=>112|28=>137|29=>138|20=>129|21=>130|22=>131|23=>132|24=>133|25=>134|26=>135|27=>136|46=>148|47=>149|48=>150|49=>151|50=>152|57=>154|n=>n,fun|22=>22|24=>3|25=>64|3=>3|39=>102|0=>0|53=>118|55=>120|4=>4|46=>112|45=>111|50=>81|5=>5|9=>9|66=>123|70=>127|76=>129|77=>104|n=>n,fun|n=>n⟩
theorem Try.laysSlF6_f93:Go.Proofs.SlLaysF.n6 Try.prog Try.laysSlF6_f93_ren:={
 mixed:=by kernel_rfl
 f6:=⟨Try.f93.name,by decide,Try.func93.trans (congrArg some (by kernel_rfl))⟩
 f14:=⟨Try.f112.name,by decide,Try.func112.trans (congrArg some (by kernel_rfl))⟩
 f15:=Try.func113.trans (congrArg some (by kernel_rfl))
 f20:=⟨Try.f129.name,by decide,Try.func129.trans (congrArg some (by kernel_rfl))⟩
 f21:=⟨Try.f130.name,by decide,Try.func130.trans (congrArg some (by kernel_rfl))⟩
 f22:=⟨Try.f131.name,by decide,Try.func131.trans (congrArg some (by kernel_rfl))⟩
 f23:=⟨Try.f132.name,by decide,Try.func132.trans (congrArg some (by kernel_rfl))⟩
 f24:=⟨Try.f133.name,by decide,Try.func133.trans (congrArg some (by kernel_rfl))⟩
 f25:=⟨Try.f134.name,by decide,Try.func134.trans (congrArg some (by kernel_rfl))⟩
 f26:=⟨Try.f135.name,by decide,Try.func135.trans (congrArg some (by kernel_rfl))⟩
 f27:=⟨Try.f136.name,by decide,Try.func136.trans (congrArg some (by kernel_rfl))⟩
 f28:=Try.func137.trans (congrArg some (by kernel_rfl))
 f29:=Try.func138.trans (congrArg some (by kernel_rfl))
 f46:=⟨Try.f148.name,by decide,Try.func148.trans (congrArg some (by kernel_rfl))⟩
 f47:=Try.func149.trans (congrArg some (by kernel_rfl))
 f48:=Try.func150.trans (congrArg some (by kernel_rfl))
 f49:=⟨Try.f151.name,by decide,Try.func151.trans (congrArg some (by kernel_rfl))⟩
 f50:=⟨Try.f152.name,by decide,Try.func152.trans (congrArg some (by kernel_rfl))⟩
 f57:=⟨Try.f154.name,by decide,Try.func154.trans (congrArg some (by kernel_rfl))⟩
 t0:=Try.underlying0
 a0:=Try.isAgg0
 z0:=Try.sizeOf0
 v0:=Try.zeroValue0
 t3:=Try.underlying3
 a3:=Try.isAgg3
 z3:=Try.sizeOf3
 v3:=Try.zeroValue3
 t4:=Try.underlying4
 a4:=Try.isAgg4
 z4:=Try.sizeOf4
 v4:=Try.zeroValue4
 t5:=Try.underlying5
 a5:=Try.isAgg5
 z5:=Try.sizeOf5
 v5:=Try.zeroValue5
 t9:=Try.underlying9
 a9:=Try.isAgg9
 z9:=Try.sizeOf9
 v9:=Try.zeroValue9
 t22:=Try.underlying22
 a22:=Try.isAgg22
 z22:=Try.sizeOf22
 v22:=Try.zeroValue22
 a24:=Try.isAgg3
 z24:=Try.sizeOf3
 t25:=Try.underlying64
 a25:=Try.isAgg64
 z25:=Try.sizeOf64
 v25:=Try.zeroValue64
 t39:=Try.underlying102
 a39:=Try.isAgg102
 z39:=Try.sizeOf102
 v39:=Try.zeroValue102
 t45:=Try.underlying111
 a45:=Try.isAgg111
 z45:=Try.sizeOf111
 v45:=Try.zeroValue111
 t46:=Try.underlying112
 a46:=Try.isAgg112
 z46:=Try.sizeOf112
 v46:=Try.zeroValue112
 t50:=Try.underlying81
 a50:=Try.isAgg81
 z50:=Try.sizeOf81
 v50:=Try.zeroValue81
 t53:=Try.underlying118
 a53:=Try.isAgg118
 z53:=Try.sizeOf118
 v53:=Try.zeroValue118
 t55:=Try.underlying120
 a55:=Try.isAgg120
 z55:=Try.sizeOf120
 v55:=Try.zeroValue120
 t66:=Try.underlying123
 a66:=Try.isAgg123
 z66:=Try.sizeOf123
 v66:=Try.zeroValue123
 t70:=Try.underlying127
 a70:=Try.isAgg127
 z70:=Try.sizeOf127
 v70:=Try.zeroValue127
 t76:=Try.underlying129
 a76:=Try.isAgg129
 z76:=Try.sizeOf129
 v76:=Try.zeroValue129
 t77:=Try.underlying104
 a77:=Try.isAgg104
 z77:=Try.sizeOf104
 v77:=Try.zeroValue104 }
open Go.RowKit Go.Lib Go.Sort in
theorem Try.slices_SortFunc_total {α:Type} [Inhabited α] (enc:α→Value) (h1:OneCell enc) (cf:α→α→Int) (hO:SWO (ltOf cf)) (g:Nat) (cb:Array Value) (blk off cap:Nat) (d:Array α) (w:World) (eg:∀ args w,(callFunc g args).run Try.prog w=.ok (.enter g args) w) (hcmp:CmpLays1 Try.prog g cb enc cf blk off d.size w) (hH:Holds enc w blk off d) (hblk:blk < w.heap.size) (hsz:d.size < 4611686018427387904) (hT:∀ x y,(ltOf cf) x y=false→(ltOf cf) y x=false→x=y) :
  Calls Try.prog 93 #[.slice (some ⟨blk,off,none⟩) d.size cap,.func (.func g) #[] cb] w fun e w' =>
   e=.returned (.tuple #[])∧∃ n os,w'=sortWorld enc w blk off n (d.toList.mergeSort fun x y=>!(ltOf cf) y x).toArray os:=Any.slices_SortFunc_total Try.laysSlF6_f93 enc h1 cf hO g cb blk off cap d w eg hcmp hH hblk hsz hT
end Go.Proofs
namespace Go.Proofs.Ytkjlcbfjllpcnaa.X
open Go.RowKit Go.Proofs.YtkjlcbfjllpcnaaW.PrintWords Go.Proofs.YtkjlcbfjllpcnaaW.PrintLast Go.Proofs.YtkjlcbfjllpcnaaW.PrintMore
set_option linter.unusedVariables false
theorem spot_none {w:World} {ad:Addr} {v:Value} (h:w.cell? ad=some v):ad.spot=none:=by
 unfold World.cell? at h
 split at h
 ·split at h
  ·cases h
  ·rename_i hs;simpa using hs
 ·cases h
theorem C_ints {w:World} {A:Option Addr} {xs:List Int} (h:(Kd.int .i64).C w A xs.length xs) (hn:0 < xs.length) :
  ∃ b off,A=some ⟨b,off,none⟩∧b < w.heap.size∧∀ j,j < xs.length→w.cell? ⟨b,off+j,none⟩=some (.int .i64 xs[j]!):=by
 obtain ⟨_,_,h2⟩:=h
 obtain ⟨ad,rfl,hc⟩:=h2 hn
 have hcell:∀ j,j < xs.length→w.cell? (ad.add j)=some (.int .i64 xs[j]!):=by
  intro j hj
  obtain ⟨c,hl,hr,hu⟩:=hc j xs[j] (List.getElem?_eq_getElem hj)
  have hr':c=[.int .i64 xs[j]]:=hr
  subst hr'
  have:=hu 0 _ rfl
  simpa [Kd.int,Kd.scalar,hj] using this
 have hs:ad.spot=none:=by
  have:=hcell 0 hn
  rw [show ad.add 0=ad by simp [Addr.add]] at this
  exact spot_none this
 obtain ⟨b,off,spot⟩:=ad
 simp only at hs
 subst hs
 refine ⟨b,off,rfl,?_,fun j hj=>?_⟩
 ·have:=World.block_lt_of_cell? w _ (hcell 0 hn)
  rw [show (⟨b,off,none⟩:Addr).add 0=⟨b,off,none⟩ by simp [Addr.add]] at this
  exact this
 ·have:=hcell j hj
  rcases Nat.eq_zero_or_pos j with rfl|hj0
  ·simpa [Addr.add] using this
  ·have he:(⟨b,off,none⟩:Addr).add j=⟨b,off+j,none⟩:=by simp [Addr.add,Nat.pos_iff_ne_zero.1 hj0]
   rwa [he] at this
theorem C_max {w:World} {A:Option Addr} {xs:List Int} (h:(Kd.int .i64).C w A xs.length xs):xs.length≤9223372036854775807:=h.2.1
def noNode (k:Int):Bool:=!(decide (0≤k) && decide (k < 10))
theorem node_eq (k:Int):threshold_node.f k=some (!noNode k):=by
 unfold threshold_node.f noNode
 by_cases h:k ≥ 0
 ·rw [if_pos h];simp [h]
 ·rw [if_neg h];simp [h]
def containsFunc_level.f (a0:List Int):Option Bool:=some (a0.any noNode)
theorem level1_calls (k:Int) (W:World):Calls Try.prog 146 #[.int .i64 k] W fun e w'=>e=.returned (.bool (noNode k))∧∃ q,w'=W.drewN q:=by
 go_enter Try.func146,Try.ntmps146
 go_wp2_with (go_at_call 95;(with_reducible refine (threshold_node.calls k (!noNode k) _ (node_eq k)).mono ?_);rintro e w' ⟨rfl,⟨nd,rfl⟩⟩)
 go_ret
 exact ⟨by simp,_,rfl⟩
theorem containsFunc_level.calls (A0:Option Addr) (c0:Nat) (l0:List Int) (r:Bool) (w:World) (hr0:Kd.C (Kd.int .i64) w A0 l0.length l0) (hc0:l0.length≤c0) (h:containsFunc_level.f l0=some r):Calls Try.prog 99 #[.slice A0 l0.length c0,.func (.func 146) #[] #[]] w fun e w'=>e=.returned (.bool r)∧Drawn0 w w':=by
 obtain rfl:=Option.some.inj h
 rcases Nat.eq_zero_or_pos l0.length with h0|h0
 ·obtain rfl:=List.eq_nil_of_length_eq_zero h0
  refine (Try.slices_ContainsFunc_empty (α:=Int) A0 c0 _ w).mono ?_
  rintro e w' ⟨rfl,rfl⟩
  exact ⟨rfl,Drawn0.refl _⟩
 ·obtain ⟨b,off,rfl,_,hc⟩:=C_ints hr0 h0
  refine (Try.slices_ContainsFunc (Value.int .i64) noNode 146 #[] (enters_of Try.func146 (by kernel_rfl) rfl) b off l0.length c0 l0 w (fun W x _=>level1_calls x W) (Nat.le_refl _) (C_max hr0) hc).mono ?_
  rintro e w' ⟨rfl,hq⟩
  rw [List.take_length]
  exact ⟨rfl,⟨hq⟩⟩
end Go.Proofs.Ytkjlcbfjllpcnaa.X
namespace Go.Proofs.Ytkjlcbfjllpcnaa.X
open Go.RowKit Go.Proofs.YtkjlcbfjllpcnaaW.PrintWords Go.Proofs.YtkjlcbfjllpcnaaW.PrintLast Go.Proofs.YtkjlcbfjllpcnaaW.PrintMore
attribute [local go_sem] max2_int min2_int max_two min_two max_three min_three max_four min_four
set_option linter.unusedVariables false
set_option linter.unusedSimpArgs false
mutual
def threshold_level.j0:Nat→Bool→Int→List Int→List (S32)→Option (Int)
 | 0,_,_,_,_=>none
 | k+1,x22,x267000,x267001,x267002=>if x22=true then (some 4) else ((containsFunc_level.f x267001).bind fun t267=>(if t267=true then (some 5) else ((nodeset_Of.f k x267001).bind fun bt268=>(if bt268.2=0 then (threshold_level.l0 k x267002 (x267002.length:Int) 0) else (some bt268.2)))))
def threshold_level.l0:Nat→List (S32)→Int→Int→Option (Int)
 | 0,_,_,_=>none
 | k+1,x36,x37,x38=>if x38 < x37 then (if 0≤x38 then (if x38 < (x36.length:Int) then ((threshold_level.f k ((rd_T32 x36 x38).f0) ((rd_T32 x36 x38).f1) ((rd_T32 x36 x38).f2)).bind fun t272=>(if t272=0 then (threshold_level.l0 k x36 x37 (wrap64 (x38+1))) else (some t272))) else (none)) else (none)) else (some 0)
def threshold_level.f:Nat→Int→List Int→List (S32)→Option (Int)
 | 0,_,_,_=>none
 | k+1,a0_0,l0_1,l0_2=>if a0_0 < 1 then (threshold_level.j0 k true a0_0 l0_1 l0_2) else (threshold_level.j0 k (decide (a0_0 > (wrap64 ((l0_1.length:Int)+(l0_2.length:Int))))) a0_0 l0_1 l0_2)
end
set_option maxHeartbeats 8000000 in
set_option maxRecDepth 100000 in
theorem threshold_level.calls (k:Nat):∀ (a0_0:Int) (A0_1:Option Addr) (c0_1:Nat) (l0_1:List Int) (A0_2:Option Addr) (c0_2:Nat) (l0_2:List (S32)) (r:Int) (w:World) (hr0_1:Kd.C (Kd.int .i64) w A0_1 l0_1.length l0_1) (hc0_1:l0_1.length≤c0_1) (hr0_2:Kd.C k32 w A0_2 l0_2.length l0_2) (hc0_2:l0_2.length≤c0_2) (h:threshold_level.f k a0_0 l0_1 l0_2=some r),
  Calls Try.prog 128 #[.agg #[.int .i64 a0_0,.slice A0_1 l0_1.length c0_1,.slice A0_2 l0_2.length c0_2]] w fun e w'=>e=.returned (.int .i64 r)∧Below w.heap.size w w':=by
 induction k using Nat.strongRecOn with
 | _ k ih =>
 intro a0_0 A0_1 c0_1 l0_1 A0_2 c0_2 l0_2 r w hr0_1 hc0_1 hr0_2 hc0_2 h
 cases k with
 | zero=>exact absurd h (by simp [threshold_level.f])
 | succ k =>
 simp only [threshold_level.f] at h
 have hu32:=Try.underlying32
 have HR0_1:=Z hr0_1
 have HC0_1:=Z hc0_1
 clear hr0_1 hc0_1
 have HR0_2:=Z hr0_2
 have HC0_2:=Z hc0_2
 clear hr0_2 hc0_2
 have HB:=Z (Below.refl w.heap.size w)
 have H:(if a0_0 < 1 then (threshold_level.j0 k true a0_0 l0_1 l0_2) else (threshold_level.j0 k (decide (a0_0 > (wrap64 ((l0_1.length:Int)+(l0_2.length:Int))))) a0_0 l0_1 l0_2))=some r:=h
 clear h
 have HC2:=Z H
 clear H
 go_enter Try.func128,Try.ntmps128
 go_upto_region 1 with (first|((with_reducible refine gate_dst (N:=1) rfl ?_);(try (refine gate_guard (by rfl) ?_;dsimp only));refine box_event ?hg (N:=1) ?hd (cs:=#[.int .i64 a0_0,.slice A0_1 l0_1.length c0_1,.slice A0_2 l0_2.length c0_2]) (t:=32) ?hr ?_;(case hd=>rfl);(case hg=>rfl);(case hr=>first|(go_simp;done)|(go_simp;rfl));intro gb266 hg w3 hbox hb;have n0_:=Z (below_step pB hb);have n1_:=Z (hbox);have n2_:=Z ((pT hg:w.heap.size≤gb266));have n3_:=Z ((pT hg:w.heap.size≤gb266));clear HB;have HB:=n0_;have BK266:=n1_;have GW266:=n2_;have GE266:=n3_;clear n0_ n1_ n2_ n3_;clear hb hbox hg))
 (try simp only [Act.put,List.setIfInBounds_toArray,List.set_cons_zero,List.set_cons_succ])
 go_cut [22] (fun v22 wc=>∃ (kq:Nat) (x22_1:Bool),v22=.bool x22_1∧Aside0 (threshold_level.j0 kq x22_1 a0_0 l0_1 l0_2=some r)∧Aside0 (kq≤k)∧Aside0 (wc.heap[gb266]?=some (.cells #[.int .i64 a0_0,(.slice A0_1 l0_1.length c0_1),(.slice A0_2 l0_2.length c0_2)] 32 (0,0)))∧Aside0 (Below w.heap.size w wc))
 case first =>
  have H:=HC2.out
  clear HC2
  by_cases c4:a0_0 < 1
  ·rw [if_pos c4] at H
   have c4b0:decide (a0_0 < 1)=true:=decide_eq_true c4
   clear c4
   (first|rw [c4b0]|(simp only [i64_w,i32_w];rw [c4b0])|skip)
   have H':=Z H
   clear H
   have hcz5_0:w3.cell? ⟨gb266,0,none⟩=some (.int .i64 a0_0):=(kC BK266.out 0).trans rfl
   have hcz5_1:w3.cell? ⟨gb266,1,none⟩=some (.slice A0_1 l0_1.length c0_1):=(kC BK266.out 1).trans rfl
   have hcz5_2:w3.cell? ⟨gb266,2,none⟩=some (.slice A0_2 l0_2.length c0_2):=(kC BK266.out 2).trans rfl
   have hfz5_0:=kF BK266.out 0
   have hfz5_1:=kF BK266.out 1
   have hfz5_2:=kF BK266.out 2
   go_wp2
   go_meet
   case rel=>exact ⟨_,(true),pE,H',⟨by first|omega|exact Nat.le_refl _⟩,⟨pK BK266⟩,⟨pB⟩⟩
  ·rw [if_neg c4] at H
   have c4b0:decide (a0_0 < 1)=false:=decide_eq_false c4
   clear c4
   (first|rw [c4b0]|(simp only [i64_w,i32_w];rw [c4b0])|skip)
   have H':=Z H
   clear H
   have hcz6_0:w3.cell? ⟨gb266,0,none⟩=some (.int .i64 a0_0):=(kC BK266.out 0).trans rfl
   have hcz6_1:w3.cell? ⟨gb266,1,none⟩=some (.slice A0_1 l0_1.length c0_1):=(kC BK266.out 1).trans rfl
   have hcz6_2:w3.cell? ⟨gb266,2,none⟩=some (.slice A0_2 l0_2.length c0_2):=(kC BK266.out 2).trans rfl
   have hfz6_0:=kF BK266.out 0
   have hfz6_1:=kF BK266.out 1
   have hfz6_2:=kF BK266.out 2
   go_wp2
   go_meet
   case rel=>exact ⟨_,(decide (a0_0 > (wrap64 ((l0_1.length:Int)+(l0_2.length:Int))))),pE,H',⟨by first|omega|exact Nat.le_refl _⟩,⟨pK BK266⟩,⟨pB⟩⟩
 case rest =>
  clear HC2
  try clear c1
  try clear p2
  try clear c4
  try clear c4b0
  try clear p6
  try clear hcz5_0
  try clear hcz5_1
  try clear hcz5_2
  try clear hcz6_0
  try clear hcz6_1
  try clear hcz6_2
  try clear hfz5_0
  try clear hfz5_1
  try clear hfz5_2
  try clear hfz6_0
  try clear hfz6_1
  try clear hfz6_2
  obtain ⟨kq,x22_1,rfl,HA,HJ1,BK266,HB⟩:=hcut
  cases kq with
  | zero=>exact absurd HA.out (by simp [threshold_level.j0])
  | succ kj1 =>
   have H:=HA.out
   clear HA
   simp only [threshold_level.j0] at H
   by_cases c7:x22_1=true
   ·subst c7
    rw [if_pos rfl] at H
    obtain rfl:=Option.some.inj H
    go_wp2
    go_ret
    exact ⟨pF,pB⟩
   ·replace c7:=Bool.eq_false_iff.mpr c7
    subst c7
    rw [if_neg (show ¬ (false=true) by decide)] at H
    replace H:=Option.bind_eq_some_iff.mp H
    obtain ⟨t267,A80,H⟩:=H
    try dsimp only at H
    have A8:=Z A80
    clear A80
    by_cases c9:t267=true
    ·subst c9
     rw [if_pos rfl] at H
     obtain rfl:=Option.some.inj H
     have hcz10_0:wc.cell? ⟨gb266,0,none⟩=some (.int .i64 a0_0):=(kC BK266.out 0).trans rfl
     have hcz10_1:wc.cell? ⟨gb266,1,none⟩=some (.slice A0_1 l0_1.length c0_1):=(kC BK266.out 1).trans rfl
     have hcz10_2:wc.cell? ⟨gb266,2,none⟩=some (.slice A0_2 l0_2.length c0_2):=(kC BK266.out 2).trans rfl
     have hfz10_0:=kF BK266.out 0
     have hfz10_1:=kF BK266.out 1
     have hfz10_2:=kF BK266.out 2
     go_wp2_with (first|((with_reducible refine gate_callee (f:=99) rfl ?_);refine goesL_ (some 25) rfl rfl Try.func99 (by kernel_rfl) rfl #[.slice A0_1 l0_1.length c0_1,.func (.func 146) #[] #[]] rfl pG ?_;(with_reducible refine (containsFunc_level.calls _ _ l0_1 true _ ?side1 ?side2 A8.out).mono ?_);(case side1=>repeat (first|exact (Kd.C_below HR0_1.out HB.out)|(with_reducible refine Kd.C_alloc ?_ _)|(with_reducible refine Kd.C_drewN ?_ _)|(with_reducible refine Kd.C_drew ?_)));(case side2=>exact HC0_1.out);rintro e w' ⟨rfl,⟨nd,rfl⟩⟩;refine ⟨_,rfl,?_⟩))
     go_ret
     exact ⟨pF,pB⟩
    ·replace c9:=Bool.eq_false_iff.mpr c9
     subst c9
     rw [if_neg (show ¬ (false=true) by decide)] at H
     replace H:=Option.bind_eq_some_iff.mp H
     obtain ⟨⟨t268,t269⟩,A110,H⟩:=H
     try dsimp only at H
     have A11:=Z A110
     clear A110
     by_cases c12:t269=0
     ·rw [if_pos c12] at H
      have c12b0:(t269 == 0)=true:=beq_iff_eq.mpr c12
      have c12b1:(t269 != 0)=false:=bne_eq_false_iff_eq.mpr c12
      clear c12
      have H':=Z H
      clear H
      have hcz13_0:wc.cell? ⟨gb266,0,none⟩=some (.int .i64 a0_0):=(kC BK266.out 0).trans rfl
      have hcz13_1:wc.cell? ⟨gb266,1,none⟩=some (.slice A0_1 l0_1.length c0_1):=(kC BK266.out 1).trans rfl
      have hcz13_2:wc.cell? ⟨gb266,2,none⟩=some (.slice A0_2 l0_2.length c0_2):=(kC BK266.out 2).trans rfl
      have hfz13_0:=kF BK266.out 0
      have hfz13_1:=kF BK266.out 1
      have hfz13_2:=kF BK266.out 2
      go_wp2_with (first|((with_reducible refine gate_callee (f:=99) rfl ?_);refine goesL_ (some 25) rfl rfl Try.func99 (by kernel_rfl) rfl #[.slice A0_1 l0_1.length c0_1,.func (.func 146) #[] #[]] rfl pG ?_;(with_reducible refine (containsFunc_level.calls _ _ l0_1 false _ ?side1 ?side2 A8.out).mono ?_);(case side1=>repeat (first|exact (Kd.C_below HR0_1.out HB.out)|(with_reducible refine Kd.C_alloc ?_ _)|(with_reducible refine Kd.C_drewN ?_ _)|(with_reducible refine Kd.C_drew ?_)));(case side2=>exact HC0_1.out);rintro e w' ⟨rfl,⟨nd,rfl⟩⟩;refine ⟨_,rfl,?_⟩)|((with_reducible refine gate_callee (f:=147) rfl ?_);refine goesL_ (some 29) rfl rfl Try.func147 (by kernel_rfl) rfl #[.slice A0_1 l0_1.length c0_1] rfl pG ?_;(with_reducible refine (nodeset_Of.calls kj1 _ _ l0_1 t268 t269 _ ?side1 ?side2 A11.out).mono ?_);(case side1=>exact pC HR0_1);(case side2=>exact HC0_1.out);rintro e w' ⟨rfl,⟨nd,rfl⟩⟩;refine ⟨_,rfl,?_⟩))
      go_loopg [38] kj1 (fun kq v38 w'=>∃ (x38_2:Int),v38=.int .i64 x38_2∧Aside0 (threshold_level.l0 kq l0_2 (l0_2.length:Int) x38_2=some r)∧Aside0 (kq≤kj1)∧Aside0 (w'.heap[gb266]?=some (.cells #[.int .i64 a0_0,(.slice A0_1 l0_1.length c0_1),(.slice A0_2 l0_2.length c0_2)] 32 (0,0)))∧Aside0 (Below w.heap.size w w'))
      case atStart=>exact ⟨(0),pE,H',⟨Nat.le_refl _⟩,⟨pK BK266⟩,⟨pB⟩⟩
      case round =>
       clear H'
       try clear c1
       try clear p2
       try clear c4
       try clear c4b0
       try clear p6
       try clear c7
       try clear c9
       try clear c12
       try clear c12b0
       try clear c12b1
       try clear hcz10_0
       try clear hcz10_1
       try clear hcz10_2
       try clear hcz13_0
       try clear hcz13_1
       try clear hcz13_2
       try clear hcz5_0
       try clear hcz5_1
       try clear hcz5_2
       try clear hcz6_0
       try clear hcz6_1
       try clear hcz6_2
       try clear hfz10_0
       try clear hfz10_1
       try clear hfz10_2
       try clear hfz13_0
       try clear hfz13_1
       try clear hfz13_2
       try clear hfz5_0
       try clear hfz5_1
       try clear hfz5_2
       try clear hfz6_0
       try clear hfz6_1
       try clear hfz6_2
       obtain ⟨x38_2,rfl,HA,HK2,BK266,HB⟩:=hrel
       cases gk with
       | zero=>exact absurd HA.out (by simp [threshold_level.l0])
       | succ k2 =>
        have H:=HA.out
        clear HA
        simp only [threshold_level.l0] at H
        by_cases c14:x38_2 < (l0_2.length:Int)
        ·rw [if_pos c14] at H
         have c14b0:decide (x38_2 < (l0_2.length:Int))=true:=decide_eq_true c14
         clear c14
         by_cases c15:0≤x38_2
         ·rw [if_pos c15] at H
          have c15b0:decide (0≤x38_2)=true:=decide_eq_true c15
          clear c15
          by_cases c16:x38_2 < (l0_2.length:Int)
          ·rw [if_pos c16] at H
           have c16b0:decide (x38_2 < (l0_2.length:Int))=true:=decide_eq_true c16
           clear c16
           replace H:=Option.bind_eq_some_iff.mp H
           obtain ⟨t272,A170,H⟩:=H
           try dsimp only at H
           have A17:=Z A170
           clear A170
           by_cases c18:t272=0
           ·rw [if_pos c18] at H
            have c18b0:(t272 == 0)=true:=beq_iff_eq.mpr c18
            have c18b1:(t272 != 0)=false:=bne_eq_false_iff_eq.mpr c18
            clear c18
            have H':=Z H
            clear H
            have p270:0≤(x38_2:Int):=of_decide_eq_true (by first|(with_reducible assumption)|assumption)
            have q270:x38_2 < (l0_2.length:Int):=of_decide_eq_true (by first|(with_reducible assumption)|assumption)
            obtain ⟨ad270,A270_1,c270_1,A270_2,c270_2,e270,hx270_0,hx270_1,hx270_2,hl270_1,hi270_1,hl270_2,hi270_2⟩:=at_T32 HR0_2.out x38_2 p270 q270
            cases e270
            replace hx270_0:=(HB.out.cell (World.block_lt_of_cell? w _ hx270_0)).trans hx270_0
            replace hx270_1:=(HB.out.cell (World.block_lt_of_cell? w _ hx270_1)).trans hx270_1
            replace hx270_2:=(HB.out.cell (World.block_lt_of_cell? w _ hx270_2)).trans hx270_2
            have HR270_1:=Z hi270_1
            have HC270_1:=Z hl270_1
            clear hi270_1 hl270_1
            have HR270_2:=Z hi270_2
            have HC270_2:=Z hl270_2
            clear hi270_2 hl270_2
            replace p270:=eq_true p270
            replace q270:=eq_true q270
            go_wp2_with (first|((with_reducible refine gate_dst (N:=6) rfl ?_);(try (refine gate_guard (by rfl) ?_;dsimp only));refine box_event ?hg (N:=6) ?hd (cs:=#[.int .i64 0,.slice none 0 0,.slice none 0 0]) (t:=32) ?hr ?_;(case hd=>rfl);(case hg=>rfl);(case hr=>first|(go_simp;done)|(go_simp;rfl));intro gb271 hg w19 hbox hb;have n0_:=Z (blk_below (g:=gb266) (o:=.cells #[.int .i64 a0_0,.slice A0_1 l0_1.length c0_1,.slice (some ad270) l0_2.length c0_2] 32 (0,0)) (pK BK266) hb);have n1_:=Z (below_step pB hb);have n2_:=Z (hbox);have n3_:=Z ((pT hg:w.heap.size≤gb271));have n4_:=Z ((pT hg:w.heap.size≤gb271));have n5_:=Z ((pL hg (pK BK266):gb266 ≠ gb271));have n6_:=Z ((pM hg (pK BK266):gb271 ≠ gb266));clear BK266;clear HB;have BK266:=n0_;have HB:=n1_;have BK271:=n2_;have GW271:=n3_;have GE271:=n4_;have NB266_271:=n5_;have NB271_266:=n6_;clear n0_ n1_ n2_ n3_ n4_ n5_ n6_;clear hb hbox hg;have hnb20:=NB271_266.out;have hnc20:=NB266_271.out;have hcz21_0:w19.cell? ⟨gb271,0,none⟩=some (.int .i64 0):=(kC BK271.out 0).trans rfl;have hcz21_1:w19.cell? ⟨gb271,1,none⟩=some (.slice none 0 0):=(kC BK271.out 1).trans rfl;have hcz21_2:w19.cell? ⟨gb271,2,none⟩=some (.slice none 0 0):=(kC BK271.out 2).trans rfl;have hfz21_0:=kF BK271.out 0;have hfz21_1:=kF BK271.out 1;have hfz21_2:=kF BK271.out 2)|((with_reducible refine gate_callee (f:=128) rfl ?_);refine goesL_ (some 43) rfl rfl Try.func128 (by kernel_rfl) rfl #[.agg #[.int .i64 ((rd_T32 l0_2 x38_2).f0),.slice A270_1 ((rd_T32 l0_2 x38_2).f1).length c270_1,.slice A270_2 ((rd_T32 l0_2 x38_2).f2).length c270_2]] rfl pG ?_;(with_reducible refine (ih k2 (by have:=HJ1.out;have:=HK2.out;omega) ((rd_T32 l0_2 x38_2).f0) _ _ ((rd_T32 l0_2 x38_2).f1) _ _ ((rd_T32 l0_2 x38_2).f2) t272 _ ?side1 ?side2 ?side3 ?side4 A17.out).mono ?_);(case side1=>exact Kd.C_below HR270_1.out pB);(case side2=>exact HC270_1.out);(case side3=>exact Kd.C_below HR270_2.out pB);(case side4=>exact HC270_2.out);rintro e w22 ⟨rfl,hb⟩;refine ⟨_,rfl,?_⟩;have n0_:=Z (blk_below (g:=gb266) (o:=.cells #[.int .i64 a0_0,.slice A0_1 l0_1.length c0_1,.slice (some ad270) l0_2.length c0_2] 32 (0,0)) (by (with_reducible repeat (first|refine kN ?_ _|refine kD ?_|refine kA ?_ _));refine blk_far ?_ NB266_271.out _;(with_reducible repeat (first|refine kN ?_ _|refine kD ?_|refine kA ?_ _));refine blk_far ?_ NB266_271.out _;(with_reducible repeat (first|refine kN ?_ _|refine kD ?_|refine kA ?_ _));refine blk_far ?_ NB266_271.out _;(with_reducible repeat (first|refine kN ?_ _|refine kD ?_|refine kA ?_ _));exact BK266.out) hb);have n1_:=Z (blk_below (g:=gb271) (o:=.cells #[.int .i64 ((rd_T32 l0_2 x38_2).f0),.slice A270_1 ((rd_T32 l0_2 x38_2).f1).length c270_1,.slice A270_2 ((rd_T32 l0_2 x38_2).f2).length c270_2] 32 (0,0)) (by (with_reducible repeat (first|refine kN ?_ _|refine kD ?_|refine kA ?_ _));refine blk_put (cs:=#[.int .i64 ((rd_T32 l0_2 x38_2).f0),.slice A270_1 ((rd_T32 l0_2 x38_2).f1).length c270_1,.slice none 0 0]) ?_ 2 _ rfl;(with_reducible repeat (first|refine kN ?_ _|refine kD ?_|refine kA ?_ _));refine blk_put (cs:=#[.int .i64 ((rd_T32 l0_2 x38_2).f0),.slice none 0 0,.slice none 0 0]) ?_ 1 _ rfl;(with_reducible repeat (first|refine kN ?_ _|refine kD ?_|refine kA ?_ _));refine blk_put (cs:=#[.int .i64 0,.slice none 0 0,.slice none 0 0]) ?_ 0 _ rfl;(with_reducible repeat (first|refine kN ?_ _|refine kD ?_|refine kA ?_ _));exact BK271.out) hb);have n2_:=Z (below_step pB hb);clear BK266;clear BK271;clear HB;have BK266:=n0_;have BK271:=n1_;have HB:=n2_;clear n0_ n1_ n2_;(try clear hb);(try clear hb2);(try clear hk);(try clear hi)))
            go_roundg k2
            case measure=>have:=HJ1.out;have:=HK2.out;omega
            case rel=>exact ⟨(wrap64 (x38_2+1)),pE,H',⟨by have:=HJ1.out;have:=HK2.out;omega⟩,⟨pK BK266⟩,⟨pB⟩⟩
           ·rw [if_neg c18] at H
            have c18b0:(t272 == 0)=false:=beq_eq_false_iff_ne.mpr c18
            have c18b1:(t272 != 0)=true:=bne_iff_ne.mpr c18
            obtain rfl:=Option.some.inj H
            have p270:0≤(x38_2:Int):=of_decide_eq_true (by first|(with_reducible assumption)|assumption)
            have q270:x38_2 < (l0_2.length:Int):=of_decide_eq_true (by first|(with_reducible assumption)|assumption)
            obtain ⟨ad270,A270_1,c270_1,A270_2,c270_2,e270,hx270_0,hx270_1,hx270_2,hl270_1,hi270_1,hl270_2,hi270_2⟩:=at_T32 HR0_2.out x38_2 p270 q270
            cases e270
            replace hx270_0:=(HB.out.cell (World.block_lt_of_cell? w _ hx270_0)).trans hx270_0
            replace hx270_1:=(HB.out.cell (World.block_lt_of_cell? w _ hx270_1)).trans hx270_1
            replace hx270_2:=(HB.out.cell (World.block_lt_of_cell? w _ hx270_2)).trans hx270_2
            have HR270_1:=Z hi270_1
            have HC270_1:=Z hl270_1
            clear hi270_1 hl270_1
            have HR270_2:=Z hi270_2
            have HC270_2:=Z hl270_2
            clear hi270_2 hl270_2
            replace p270:=eq_true p270
            replace q270:=eq_true q270
            go_wp2_with (first|((with_reducible refine gate_dst (N:=6) rfl ?_);(try (refine gate_guard (by rfl) ?_;dsimp only));refine box_event ?hg (N:=6) ?hd (cs:=#[.int .i64 0,.slice none 0 0,.slice none 0 0]) (t:=32) ?hr ?_;(case hd=>rfl);(case hg=>rfl);(case hr=>first|(go_simp;done)|(go_simp;rfl));intro gb271 hg w23 hbox hb;have n0_:=Z (blk_below (g:=gb266) (o:=.cells #[.int .i64 a0_0,.slice A0_1 l0_1.length c0_1,.slice (some ad270) l0_2.length c0_2] 32 (0,0)) (pK BK266) hb);have n1_:=Z (below_step pB hb);have n2_:=Z (hbox);have n3_:=Z ((pT hg:w.heap.size≤gb271));have n4_:=Z ((pT hg:w.heap.size≤gb271));have n5_:=Z ((pL hg (pK BK266):gb266 ≠ gb271));have n6_:=Z ((pM hg (pK BK266):gb271 ≠ gb266));clear BK266;clear HB;have BK266:=n0_;have HB:=n1_;have BK271:=n2_;have GW271:=n3_;have GE271:=n4_;have NB266_271:=n5_;have NB271_266:=n6_;clear n0_ n1_ n2_ n3_ n4_ n5_ n6_;clear hb hbox hg;have hnb24:=NB271_266.out;have hnc24:=NB266_271.out;have hcz25_0:w23.cell? ⟨gb271,0,none⟩=some (.int .i64 0):=(kC BK271.out 0).trans rfl;have hcz25_1:w23.cell? ⟨gb271,1,none⟩=some (.slice none 0 0):=(kC BK271.out 1).trans rfl;have hcz25_2:w23.cell? ⟨gb271,2,none⟩=some (.slice none 0 0):=(kC BK271.out 2).trans rfl;have hfz25_0:=kF BK271.out 0;have hfz25_1:=kF BK271.out 1;have hfz25_2:=kF BK271.out 2)|((with_reducible refine gate_callee (f:=128) rfl ?_);refine goesL_ (some 43) rfl rfl Try.func128 (by kernel_rfl) rfl #[.agg #[.int .i64 ((rd_T32 l0_2 x38_2).f0),.slice A270_1 ((rd_T32 l0_2 x38_2).f1).length c270_1,.slice A270_2 ((rd_T32 l0_2 x38_2).f2).length c270_2]] rfl pG ?_;(with_reducible refine (ih k2 (by have:=HJ1.out;have:=HK2.out;omega) ((rd_T32 l0_2 x38_2).f0) _ _ ((rd_T32 l0_2 x38_2).f1) _ _ ((rd_T32 l0_2 x38_2).f2) t272 _ ?side1 ?side2 ?side3 ?side4 A17.out).mono ?_);(case side1=>exact Kd.C_below HR270_1.out pB);(case side2=>exact HC270_1.out);(case side3=>exact Kd.C_below HR270_2.out pB);(case side4=>exact HC270_2.out);rintro e w26 ⟨rfl,hb⟩;refine ⟨_,rfl,?_⟩;have n0_:=Z (blk_below (g:=gb266) (o:=.cells #[.int .i64 a0_0,.slice A0_1 l0_1.length c0_1,.slice (some ad270) l0_2.length c0_2] 32 (0,0)) (by (with_reducible repeat (first|refine kN ?_ _|refine kD ?_|refine kA ?_ _));refine blk_far ?_ NB266_271.out _;(with_reducible repeat (first|refine kN ?_ _|refine kD ?_|refine kA ?_ _));refine blk_far ?_ NB266_271.out _;(with_reducible repeat (first|refine kN ?_ _|refine kD ?_|refine kA ?_ _));refine blk_far ?_ NB266_271.out _;(with_reducible repeat (first|refine kN ?_ _|refine kD ?_|refine kA ?_ _));exact BK266.out) hb);have n1_:=Z (blk_below (g:=gb271) (o:=.cells #[.int .i64 ((rd_T32 l0_2 x38_2).f0),.slice A270_1 ((rd_T32 l0_2 x38_2).f1).length c270_1,.slice A270_2 ((rd_T32 l0_2 x38_2).f2).length c270_2] 32 (0,0)) (by (with_reducible repeat (first|refine kN ?_ _|refine kD ?_|refine kA ?_ _));refine blk_put (cs:=#[.int .i64 ((rd_T32 l0_2 x38_2).f0),.slice A270_1 ((rd_T32 l0_2 x38_2).f1).length c270_1,.slice none 0 0]) ?_ 2 _ rfl;(with_reducible repeat (first|refine kN ?_ _|refine kD ?_|refine kA ?_ _));refine blk_put (cs:=#[.int .i64 ((rd_T32 l0_2 x38_2).f0),.slice none 0 0,.slice none 0 0]) ?_ 1 _ rfl;(with_reducible repeat (first|refine kN ?_ _|refine kD ?_|refine kA ?_ _));refine blk_put (cs:=#[.int .i64 0,.slice none 0 0,.slice none 0 0]) ?_ 0 _ rfl;(with_reducible repeat (first|refine kN ?_ _|refine kD ?_|refine kA ?_ _));exact BK271.out) hb);have n2_:=Z (below_step pB hb);clear BK266;clear BK271;clear HB;have BK266:=n0_;have BK271:=n1_;have HB:=n2_;clear n0_ n1_ n2_;(try clear hb);(try clear hb2);(try clear hk);(try clear hi)))
            go_ret
            exact ⟨pF,pB⟩
          ·rw [if_neg c16] at H
           exact absurd H (by simp)
         ·rw [if_neg c15] at H
          exact absurd H (by simp)
        ·rw [if_neg c14] at H
         have c14b0:decide (x38_2 < (l0_2.length:Int))=false:=decide_eq_false c14
         clear c14
         obtain rfl:=Option.some.inj H
         go_wp2
         go_ret
         exact ⟨pF,pB⟩
     ·rw [if_neg c12] at H
      have c12b0:(t269 == 0)=false:=beq_eq_false_iff_ne.mpr c12
      have c12b1:(t269 != 0)=true:=bne_iff_ne.mpr c12
      obtain rfl:=Option.some.inj H
      have hcz27_0:wc.cell? ⟨gb266,0,none⟩=some (.int .i64 a0_0):=(kC BK266.out 0).trans rfl
      have hcz27_1:wc.cell? ⟨gb266,1,none⟩=some (.slice A0_1 l0_1.length c0_1):=(kC BK266.out 1).trans rfl
      have hcz27_2:wc.cell? ⟨gb266,2,none⟩=some (.slice A0_2 l0_2.length c0_2):=(kC BK266.out 2).trans rfl
      have hfz27_0:=kF BK266.out 0
      have hfz27_1:=kF BK266.out 1
      have hfz27_2:=kF BK266.out 2
      go_wp2_with (first|((with_reducible refine gate_callee (f:=99) rfl ?_);refine goesL_ (some 25) rfl rfl Try.func99 (by kernel_rfl) rfl #[.slice A0_1 l0_1.length c0_1,.func (.func 146) #[] #[]] rfl pG ?_;(with_reducible refine (containsFunc_level.calls _ _ l0_1 false _ ?side1 ?side2 A8.out).mono ?_);(case side1=>repeat (first|exact (Kd.C_below HR0_1.out HB.out)|(with_reducible refine Kd.C_alloc ?_ _)|(with_reducible refine Kd.C_drewN ?_ _)|(with_reducible refine Kd.C_drew ?_)));(case side2=>exact HC0_1.out);rintro e w' ⟨rfl,⟨nd,rfl⟩⟩;refine ⟨_,rfl,?_⟩)|((with_reducible refine gate_callee (f:=147) rfl ?_);refine goesL_ (some 29) rfl rfl Try.func147 (by kernel_rfl) rfl #[.slice A0_1 l0_1.length c0_1] rfl pG ?_;(with_reducible refine (nodeset_Of.calls kj1 _ _ l0_1 t268 t269 _ ?side1 ?side2 A11.out).mono ?_);(case side1=>exact pC HR0_1);(case side2=>exact HC0_1.out);rintro e w' ⟨rfl,⟨nd,rfl⟩⟩;refine ⟨_,rfl,?_⟩))
      go_ret
      exact ⟨pF,pB⟩
def threshold_Valid.f (k:Nat) (a0_0:Int) (l0_1:List Int) (l0_2:List (S32)):Option (Int):=(threshold_Depth.f k a0_0 l0_1 l0_2).bind fun t274=>(if t274 > 4 then (some 3) else ((threshold_Size.f k a0_0 l0_1 l0_2).bind fun t275=>(if t275 > 200 then (some 3) else ((threshold_level.f k a0_0 l0_1 l0_2).bind fun t276=>(some t276)))))
set_option maxHeartbeats 8000000 in
set_option maxRecDepth 100000 in
theorem threshold_Valid.calls (k:Nat) (a0_0:Int) (A0_1:Option Addr) (c0_1:Nat) (l0_1:List Int) (A0_2:Option Addr) (c0_2:Nat) (l0_2:List (S32)) (r:Int) (w:World) (hr0_1:Kd.C (Kd.int .i64) w A0_1 l0_1.length l0_1) (hc0_1:l0_1.length≤c0_1) (hr0_2:Kd.C k32 w A0_2 l0_2.length l0_2) (hc0_2:l0_2.length≤c0_2) (h:threshold_Valid.f k a0_0 l0_1 l0_2=some r) :
  Calls Try.prog 111 #[.agg #[.int .i64 a0_0,.slice A0_1 l0_1.length c0_1,.slice A0_2 l0_2.length c0_2]] w fun e w'=>e=.returned (.int .i64 r)∧Below w.heap.size w w':=by
 have hu32:=Try.underlying32
 have HR0_1:=Z hr0_1
 have HC0_1:=Z hc0_1
 clear hr0_1 hc0_1
 have HR0_2:=Z hr0_2
 have HC0_2:=Z hc0_2
 clear hr0_2 hc0_2
 have HB:=Z (Below.refl w.heap.size w)
 have H:((threshold_Depth.f k a0_0 l0_1 l0_2).bind fun t274=>(if t274 > 4 then (some 3) else ((threshold_Size.f k a0_0 l0_1 l0_2).bind fun t275=>(if t275 > 200 then (some 3) else ((threshold_level.f k a0_0 l0_1 l0_2).bind fun t276=>(some t276))))))=some r:=h
 clear h
 replace H:=Option.bind_eq_some_iff.mp H
 obtain ⟨t274,A20,H⟩:=H
 try dsimp only at H
 have A2:=Z A20
 clear A20
 by_cases c3:t274 > 4
 ·rw [if_pos c3] at H
  have c3b0:decide (4 < t274)=true:=decide_eq_true c3
  clear c3
  obtain rfl:=Option.some.inj H
  go_enter Try.func111,Try.ntmps111
  go_wp2_with (first|((with_reducible refine gate_dst (N:=1) rfl ?_);refine box_event ?hg (N:=1) ?hd (cs:=#[.int .i64 a0_0,.slice A0_1 l0_1.length c0_1,.slice A0_2 l0_2.length c0_2]) (t:=32) ?hr ?_;(case hd=>rfl);(case hg=>rfl);(case hr=>first|(go_simp;done)|(go_simp;rfl));intro gb273 hg w4 hbox hb;have n0_:=Z (below_step pB hb);have n1_:=Z (hbox);have n2_:=Z ((pT hg:w.heap.size≤gb273));have n3_:=Z ((pT hg:w.heap.size≤gb273));clear HB;have HB:=n0_;have BK273:=n1_;have GW273:=n2_;have GE273:=n3_;clear n0_ n1_ n2_ n3_;clear hb hbox hg;have hcz5_0:w4.cell? ⟨gb273,0,none⟩=some (.int .i64 a0_0):=(kC BK273.out 0).trans rfl;have hcz5_1:w4.cell? ⟨gb273,1,none⟩=some (.slice A0_1 l0_1.length c0_1):=(kC BK273.out 1).trans rfl;have hcz5_2:w4.cell? ⟨gb273,2,none⟩=some (.slice A0_2 l0_2.length c0_2):=(kC BK273.out 2).trans rfl;have hfz5_0:=kF BK273.out 0;have hfz5_1:=kF BK273.out 1;have hfz5_2:=kF BK273.out 2)|((with_reducible refine gate_callee (f:=126) rfl ?_);refine goesL_ (some 4) rfl rfl Try.func126 (by kernel_rfl) rfl #[.agg #[.int .i64 a0_0,.slice A0_1 l0_1.length c0_1,.slice A0_2 l0_2.length c0_2]] rfl pG ?_;(with_reducible refine (threshold_Depth.calls k a0_0 _ _ l0_1 _ _ l0_2 t274 _ ?side1 ?side2 ?side3 ?side4 A2.out).mono ?_);(case side1=>repeat (first|exact (Kd.C_below HR0_1.out HB.out)|(with_reducible refine Kd.C_alloc ?_ _)|(with_reducible refine Kd.C_drewN ?_ _)|(with_reducible refine Kd.C_drew ?_)));(case side2=>exact HC0_1.out);(case side3=>repeat (first|exact (Kd.C_below HR0_2.out HB.out)|(with_reducible refine Kd.C_alloc ?_ _)|(with_reducible refine Kd.C_drewN ?_ _)|(with_reducible refine Kd.C_drew ?_)));(case side4=>exact HC0_2.out);rintro e w6 ⟨rfl,hb⟩;refine ⟨_,rfl,?_⟩;have n0_:=Z (blk_below (g:=gb273) (o:=.cells #[.int .i64 a0_0,.slice A0_1 l0_1.length c0_1,.slice A0_2 l0_2.length c0_2] 32 (0,0)) (pK BK273) hb);have n1_:=Z (below_step pB hb);clear BK273;clear HB;have BK273:=n0_;have HB:=n1_;clear n0_ n1_;(try clear hb);(try clear hb2);(try clear hk);(try clear hi)))
  go_ret
  exact ⟨pF,pB⟩
 ·rw [if_neg c3] at H
  have c3b0:decide (4 < t274)=false:=decide_eq_false c3
  clear c3
  replace H:=Option.bind_eq_some_iff.mp H
  obtain ⟨t275,A70,H⟩:=H
  try dsimp only at H
  have A7:=Z A70
  clear A70
  by_cases c8:t275 > 200
  ·rw [if_pos c8] at H
   have c8b0:decide (200 < t275)=true:=decide_eq_true c8
   clear c8
   obtain rfl:=Option.some.inj H
   go_enter Try.func111,Try.ntmps111
   go_wp2_with (first|((with_reducible refine gate_dst (N:=1) rfl ?_);refine box_event ?hg (N:=1) ?hd (cs:=#[.int .i64 a0_0,.slice A0_1 l0_1.length c0_1,.slice A0_2 l0_2.length c0_2]) (t:=32) ?hr ?_;(case hd=>rfl);(case hg=>rfl);(case hr=>first|(go_simp;done)|(go_simp;rfl));intro gb273 hg w9 hbox hb;have n0_:=Z (below_step pB hb);have n1_:=Z (hbox);have n2_:=Z ((pT hg:w.heap.size≤gb273));have n3_:=Z ((pT hg:w.heap.size≤gb273));clear HB;have HB:=n0_;have BK273:=n1_;have GW273:=n2_;have GE273:=n3_;clear n0_ n1_ n2_ n3_;clear hb hbox hg;have hcz10_0:w9.cell? ⟨gb273,0,none⟩=some (.int .i64 a0_0):=(kC BK273.out 0).trans rfl;have hcz10_1:w9.cell? ⟨gb273,1,none⟩=some (.slice A0_1 l0_1.length c0_1):=(kC BK273.out 1).trans rfl;have hcz10_2:w9.cell? ⟨gb273,2,none⟩=some (.slice A0_2 l0_2.length c0_2):=(kC BK273.out 2).trans rfl;have hfz10_0:=kF BK273.out 0;have hfz10_1:=kF BK273.out 1;have hfz10_2:=kF BK273.out 2)|((with_reducible refine gate_callee (f:=126) rfl ?_);refine goesL_ (some 4) rfl rfl Try.func126 (by kernel_rfl) rfl #[.agg #[.int .i64 a0_0,.slice A0_1 l0_1.length c0_1,.slice A0_2 l0_2.length c0_2]] rfl pG ?_;(with_reducible refine (threshold_Depth.calls k a0_0 _ _ l0_1 _ _ l0_2 t274 _ ?side1 ?side2 ?side3 ?side4 A2.out).mono ?_);(case side1=>repeat (first|exact (Kd.C_below HR0_1.out HB.out)|(with_reducible refine Kd.C_alloc ?_ _)|(with_reducible refine Kd.C_drewN ?_ _)|(with_reducible refine Kd.C_drew ?_)));(case side2=>exact HC0_1.out);(case side3=>repeat (first|exact (Kd.C_below HR0_2.out HB.out)|(with_reducible refine Kd.C_alloc ?_ _)|(with_reducible refine Kd.C_drewN ?_ _)|(with_reducible refine Kd.C_drew ?_)));(case side4=>exact HC0_2.out);rintro e w11 ⟨rfl,hb⟩;refine ⟨_,rfl,?_⟩;have n0_:=Z (blk_below (g:=gb273) (o:=.cells #[.int .i64 a0_0,.slice A0_1 l0_1.length c0_1,.slice A0_2 l0_2.length c0_2] 32 (0,0)) (pK BK273) hb);have n1_:=Z (below_step pB hb);clear BK273;clear HB;have BK273:=n0_;have HB:=n1_;clear n0_ n1_;(try clear hb);(try clear hb2);(try clear hk);(try clear hi);have hcz12_0:w11.cell? ⟨gb273,0,none⟩=some (.int .i64 a0_0):=(kC BK273.out 0).trans rfl;have hcz12_1:w11.cell? ⟨gb273,1,none⟩=some (.slice A0_1 l0_1.length c0_1):=(kC BK273.out 1).trans rfl;have hcz12_2:w11.cell? ⟨gb273,2,none⟩=some (.slice A0_2 l0_2.length c0_2):=(kC BK273.out 2).trans rfl;have hfz12_0:=kF BK273.out 0;have hfz12_1:=kF BK273.out 1;have hfz12_2:=kF BK273.out 2)|(go_at_call 127;(with_reducible refine (threshold_Size.calls k a0_0 _ _ l0_1 _ _ l0_2 t275 _ ?side1 ?side2 ?side3 ?side4 A7.out).mono ?_);(case side1=>repeat (first|exact (Kd.C_below HR0_1.out HB.out)|(with_reducible refine Kd.C_alloc ?_ _)|(with_reducible refine Kd.C_drewN ?_ _)|(with_reducible refine Kd.C_drew ?_)));(case side2=>exact HC0_1.out);(case side3=>repeat (first|exact (Kd.C_below HR0_2.out HB.out)|(with_reducible refine Kd.C_alloc ?_ _)|(with_reducible refine Kd.C_drewN ?_ _)|(with_reducible refine Kd.C_drew ?_)));(case side4=>exact HC0_2.out);rintro e w13 ⟨rfl,hb⟩;have n0_:=Z (blk_below (g:=gb273) (o:=.cells #[.int .i64 a0_0,.slice A0_1 l0_1.length c0_1,.slice A0_2 l0_2.length c0_2] 32 (0,0)) (pK BK273) hb);have n1_:=Z (below_step pB hb);clear BK273;clear HB;have BK273:=n0_;have HB:=n1_;clear n0_ n1_;(try clear hb);(try clear hb2);(try clear hk);(try clear hi)))
   go_ret
   exact ⟨pF,pB⟩
  ·rw [if_neg c8] at H
   have c8b0:decide (200 < t275)=false:=decide_eq_false c8
   clear c8
   replace H:=Option.bind_eq_some_iff.mp H
   obtain ⟨t276,A140,H⟩:=H
   try dsimp only at H
   have A14:=Z A140
   clear A140
   obtain rfl:=Option.some.inj H
   go_enter Try.func111,Try.ntmps111
   go_wp2_with (first|((with_reducible refine gate_dst (N:=1) rfl ?_);refine box_event ?hg (N:=1) ?hd (cs:=#[.int .i64 a0_0,.slice A0_1 l0_1.length c0_1,.slice A0_2 l0_2.length c0_2]) (t:=32) ?hr ?_;(case hd=>rfl);(case hg=>rfl);(case hr=>first|(go_simp;done)|(go_simp;rfl));intro gb273 hg w15 hbox hb;have n0_:=Z (below_step pB hb);have n1_:=Z (hbox);have n2_:=Z ((pT hg:w.heap.size≤gb273));have n3_:=Z ((pT hg:w.heap.size≤gb273));clear HB;have HB:=n0_;have BK273:=n1_;have GW273:=n2_;have GE273:=n3_;clear n0_ n1_ n2_ n3_;clear hb hbox hg;have hcz16_0:w15.cell? ⟨gb273,0,none⟩=some (.int .i64 a0_0):=(kC BK273.out 0).trans rfl;have hcz16_1:w15.cell? ⟨gb273,1,none⟩=some (.slice A0_1 l0_1.length c0_1):=(kC BK273.out 1).trans rfl;have hcz16_2:w15.cell? ⟨gb273,2,none⟩=some (.slice A0_2 l0_2.length c0_2):=(kC BK273.out 2).trans rfl;have hfz16_0:=kF BK273.out 0;have hfz16_1:=kF BK273.out 1;have hfz16_2:=kF BK273.out 2)|((with_reducible refine gate_callee (f:=126) rfl ?_);refine goesL_ (some 4) rfl rfl Try.func126 (by kernel_rfl) rfl #[.agg #[.int .i64 a0_0,.slice A0_1 l0_1.length c0_1,.slice A0_2 l0_2.length c0_2]] rfl pG ?_;(with_reducible refine (threshold_Depth.calls k a0_0 _ _ l0_1 _ _ l0_2 t274 _ ?side1 ?side2 ?side3 ?side4 A2.out).mono ?_);(case side1=>repeat (first|exact (Kd.C_below HR0_1.out HB.out)|(with_reducible refine Kd.C_alloc ?_ _)|(with_reducible refine Kd.C_drewN ?_ _)|(with_reducible refine Kd.C_drew ?_)));(case side2=>exact HC0_1.out);(case side3=>repeat (first|exact (Kd.C_below HR0_2.out HB.out)|(with_reducible refine Kd.C_alloc ?_ _)|(with_reducible refine Kd.C_drewN ?_ _)|(with_reducible refine Kd.C_drew ?_)));(case side4=>exact HC0_2.out);rintro e w17 ⟨rfl,hb⟩;refine ⟨_,rfl,?_⟩;have n0_:=Z (blk_below (g:=gb273) (o:=.cells #[.int .i64 a0_0,.slice A0_1 l0_1.length c0_1,.slice A0_2 l0_2.length c0_2] 32 (0,0)) (pK BK273) hb);have n1_:=Z (below_step pB hb);clear BK273;clear HB;have BK273:=n0_;have HB:=n1_;clear n0_ n1_;(try clear hb);(try clear hb2);(try clear hk);(try clear hi);have hcz18_0:w17.cell? ⟨gb273,0,none⟩=some (.int .i64 a0_0):=(kC BK273.out 0).trans rfl;have hcz18_1:w17.cell? ⟨gb273,1,none⟩=some (.slice A0_1 l0_1.length c0_1):=(kC BK273.out 1).trans rfl;have hcz18_2:w17.cell? ⟨gb273,2,none⟩=some (.slice A0_2 l0_2.length c0_2):=(kC BK273.out 2).trans rfl;have hfz18_0:=kF BK273.out 0;have hfz18_1:=kF BK273.out 1;have hfz18_2:=kF BK273.out 2)|(go_at_call 127;(with_reducible refine (threshold_Size.calls k a0_0 _ _ l0_1 _ _ l0_2 t275 _ ?side1 ?side2 ?side3 ?side4 A7.out).mono ?_);(case side1=>repeat (first|exact (Kd.C_below HR0_1.out HB.out)|(with_reducible refine Kd.C_alloc ?_ _)|(with_reducible refine Kd.C_drewN ?_ _)|(with_reducible refine Kd.C_drew ?_)));(case side2=>exact HC0_1.out);(case side3=>repeat (first|exact (Kd.C_below HR0_2.out HB.out)|(with_reducible refine Kd.C_alloc ?_ _)|(with_reducible refine Kd.C_drewN ?_ _)|(with_reducible refine Kd.C_drew ?_)));(case side4=>exact HC0_2.out);rintro e w19 ⟨rfl,hb⟩;have n0_:=Z (blk_below (g:=gb273) (o:=.cells #[.int .i64 a0_0,.slice A0_1 l0_1.length c0_1,.slice A0_2 l0_2.length c0_2] 32 (0,0)) (pK BK273) hb);have n1_:=Z (below_step pB hb);clear BK273;clear HB;have BK273:=n0_;have HB:=n1_;clear n0_ n1_;(try clear hb);(try clear hb2);(try clear hk);(try clear hi);have hcz20_0:w19.cell? ⟨gb273,0,none⟩=some (.int .i64 a0_0):=(kC BK273.out 0).trans rfl;have hcz20_1:w19.cell? ⟨gb273,1,none⟩=some (.slice A0_1 l0_1.length c0_1):=(kC BK273.out 1).trans rfl;have hcz20_2:w19.cell? ⟨gb273,2,none⟩=some (.slice A0_2 l0_2.length c0_2):=(kC BK273.out 2).trans rfl;have hfz20_0:=kF BK273.out 0;have hfz20_1:=kF BK273.out 1;have hfz20_2:=kF BK273.out 2)|((with_reducible refine gate_callee (f:=128) rfl ?_);refine goesL_ (some 12) rfl rfl Try.func128 (by kernel_rfl) rfl #[.agg #[.int .i64 a0_0,.slice A0_1 l0_1.length c0_1,.slice A0_2 l0_2.length c0_2]] rfl pG ?_;(with_reducible refine (threshold_level.calls k a0_0 _ _ l0_1 _ _ l0_2 t276 _ ?side1 ?side2 ?side3 ?side4 A14.out).mono ?_);(case side1=>repeat (first|exact (Kd.C_below HR0_1.out HB.out)|(with_reducible refine Kd.C_alloc ?_ _)|(with_reducible refine Kd.C_drewN ?_ _)|(with_reducible refine Kd.C_drew ?_)));(case side2=>exact HC0_1.out);(case side3=>repeat (first|exact (Kd.C_below HR0_2.out HB.out)|(with_reducible refine Kd.C_alloc ?_ _)|(with_reducible refine Kd.C_drewN ?_ _)|(with_reducible refine Kd.C_drew ?_)));(case side4=>exact HC0_2.out);rintro e w21 ⟨rfl,hb⟩;refine ⟨_,rfl,?_⟩;have n0_:=Z (blk_below (g:=gb273) (o:=.cells #[.int .i64 a0_0,.slice A0_1 l0_1.length c0_1,.slice A0_2 l0_2.length c0_2] 32 (0,0)) (pK BK273) hb);have n1_:=Z (below_step pB hb);clear BK273;clear HB;have BK273:=n0_;have HB:=n1_;clear n0_ n1_;(try clear hb);(try clear hb2);(try clear hk);(try clear hi)))
   go_ret
   exact ⟨pF,pB⟩
def configuration_member.f (k:Nat) (a0_0:Bool) (a0_1:Int) (l0_2:List Int) (l0_3:List (S32)) (a1:Int):Option (Int):=if a0_0=true then ((threshold_Valid.f k a0_1 l0_2 l0_3).bind fun t279=>(if t279=0 then ((threshold_Uses.f k a0_1 l0_2 l0_3).bind fun t280=>(if 0≤a1 then (if t280 ≥ (shl .i64 1 a1) then (some 5) else (some 0)) else (none))) else (some t279))) else ((configuration_blank.f a0_1 l0_2 l0_3).bind fun t278=>(if t278=true then (some 0) else (some 1)))
set_option maxHeartbeats 8000000 in
set_option maxRecDepth 100000 in
theorem configuration_member.calls (k:Nat) (a0_0:Bool) (a0_1:Int) (A0_2:Option Addr) (c0_2:Nat) (l0_2:List Int) (A0_3:Option Addr) (c0_3:Nat) (l0_3:List (S32)) (a1:Int) (r:Int) (w:World) (hr0_2:Kd.C (Kd.int .i64) w A0_2 l0_2.length l0_2) (hc0_2:l0_2.length≤c0_2) (hr0_3:Kd.C k32 w A0_3 l0_3.length l0_3) (hc0_3:l0_3.length≤c0_3) (h:configuration_member.f k a0_0 a0_1 l0_2 l0_3 a1=some r) :
  Calls Try.prog 92 #[.agg #[.bool a0_0,.int .i64 a0_1,.slice A0_2 l0_2.length c0_2,.slice A0_3 l0_3.length c0_3],.int .i64 a1] w fun e w'=>e=.returned (.int .i64 r)∧Below w.heap.size w w':=by
 have hu34:=Try.underlying34
 have hu32:=Try.underlying32
 have HR0_2:=Z hr0_2
 have HC0_2:=Z hc0_2
 clear hr0_2 hc0_2
 have HR0_3:=Z hr0_3
 have HC0_3:=Z hc0_3
 clear hr0_3 hc0_3
 have HB:=Z (Below.refl w.heap.size w)
 have H:(if a0_0=true then ((threshold_Valid.f k a0_1 l0_2 l0_3).bind fun t279=>(if t279=0 then ((threshold_Uses.f k a0_1 l0_2 l0_3).bind fun t280=>(if 0≤a1 then (if t280 ≥ (shl .i64 1 a1) then (some 5) else (some 0)) else (none))) else (some t279))) else ((configuration_blank.f a0_1 l0_2 l0_3).bind fun t278=>(if t278=true then (some 0) else (some 1))))=some r:=h
 clear h
 by_cases c3:a0_0=true
 ·subst c3
  rw [if_pos rfl] at H
  replace H:=Option.bind_eq_some_iff.mp H
  obtain ⟨t279,A40,H⟩:=H
  try dsimp only at H
  have A4:=Z A40
  clear A40
  by_cases c5:t279=0
  ·rw [if_pos c5] at H
   have c5b0:(t279 == 0)=true:=beq_iff_eq.mpr c5
   have c5b1:(t279 != 0)=false:=bne_eq_false_iff_eq.mpr c5
   clear c5
   replace H:=Option.bind_eq_some_iff.mp H
   obtain ⟨t280,A60,H⟩:=H
   try dsimp only at H
   have A6:=Z A60
   clear A60
   by_cases c7:0≤a1
   ·rw [if_pos c7] at H
    have c7b0:=eq_true c7
    have c7b1:decide (0≤a1)=true:=decide_eq_true c7
    clear c7
    obtain ⟨ji8,hji8⟩:∃ j_:Int,(shl .i64 1 a1)=j_:=⟨_,rfl⟩
    replace H:(if t280 ≥ (ji8) then (some 5) else (some 0))=some r:=by first|(rw [hji8] at H;exact H)|(simp only [hji8] at H ⊢;exact H)
    (try rw [hji8] at A4)
    (try rw [hji8] at A6)
    have hji8_:(IntKind.i64.wrap (1 * 2 ^ min a1.toNat 64))=ji8:=hji8
    have hji8z:a1≤64→(IntKind.i64.wrap (1 * 2 ^ a1.toNat))=ji8:=shl_small hji8
    have hji8u:(IntKind.i64.wrap (2 ^ min a1.toNat 64))=ji8:=by have h_:=hji8_;rw [Int.one_mul] at h_;exact h_
    have hji8v:a1≤64→(IntKind.i64.wrap (2 ^ a1.toNat))=ji8:=fun hle_=>by have h_:=hji8z hle_;rw [Int.one_mul] at h_;exact h_
    have hji8y:(wrap64 (1 * 2 ^ min a1.toNat 64))=ji8:=(i64_w _).symm.trans hji8_
    have hji8x:a1≤64→(wrap64 (1 * 2 ^ a1.toNat))=ji8:=fun h_=>(i64_w _).symm.trans (hji8z h_)
    by_cases c9:t280 ≥ (ji8)
    ·rw [if_pos c9] at H
     have c9b0:decide ((ji8)≤t280)=true:=decide_eq_true c9
     clear c9
     obtain rfl:=Option.some.inj H
     go_enter Try.func92,Try.ntmps92
     try go_wp2_with (first|((with_reducible refine gate_dst (N:=2) rfl ?_);refine box_event ?hg (N:=2) ?hd (cs:=#[.bool true,.int .i64 a0_1,.slice A0_2 l0_2.length c0_2,.slice A0_3 l0_3.length c0_3]) (t:=34) ?hr ?_;(case hd=>rfl);(case hg=>rfl);(case hr=>first|(go_simp;done)|(go_simp;rfl));intro gb277 hg w10 hbox hb;have n0_:=Z (below_step pB hb);have n1_:=Z (hbox);have n2_:=Z ((pT hg:w.heap.size≤gb277));have n3_:=Z ((pT hg:w.heap.size≤gb277));clear HB;have HB:=n0_;have BK277:=n1_;have GW277:=n2_;have GE277:=n3_;clear n0_ n1_ n2_ n3_;clear hb hbox hg;have hcz11_0:w10.cell? ⟨gb277,0,none⟩=some (.bool true):=(kC BK277.out 0).trans rfl;have hcz11_1:w10.cell? ⟨gb277,1,none⟩=some (.int .i64 a0_1):=(kC BK277.out 1).trans rfl;have hcz11_2:w10.cell? ⟨gb277,2,none⟩=some (.slice A0_2 l0_2.length c0_2):=(kC BK277.out 2).trans rfl;have hcz11_3:w10.cell? ⟨gb277,3,none⟩=some (.slice A0_3 l0_3.length c0_3):=(kC BK277.out 3).trans rfl;have hfz11_0:=kF BK277.out 0;have hfz11_1:=kF BK277.out 1;have hfz11_2:=kF BK277.out 2;have hfz11_3:=kF BK277.out 3)|((with_reducible refine gate_callee (f:=111) rfl ?_);refine goesL_ (some 15) rfl rfl Try.func111 (by kernel_rfl) rfl #[.agg #[.int .i64 a0_1,.slice A0_2 l0_2.length c0_2,.slice A0_3 l0_3.length c0_3]] rfl pG ?_;(with_reducible refine (threshold_Valid.calls k a0_1 _ _ l0_2 _ _ l0_3 t279 _ ?side1 ?side2 ?side3 ?side4 A4.out).mono ?_);(case side1=>repeat (first|exact (Kd.C_below HR0_2.out HB.out)|(with_reducible refine Kd.C_alloc ?_ _)|(with_reducible refine Kd.C_drewN ?_ _)|(with_reducible refine Kd.C_drew ?_)));(case side2=>exact HC0_2.out);(case side3=>repeat (first|exact (Kd.C_below HR0_3.out HB.out)|(with_reducible refine Kd.C_alloc ?_ _)|(with_reducible refine Kd.C_drewN ?_ _)|(with_reducible refine Kd.C_drew ?_)));(case side4=>exact HC0_3.out);rintro e w12 ⟨rfl,hb⟩;refine ⟨_,rfl,?_⟩;have n0_:=Z (blk_below (g:=gb277) (o:=.cells #[.bool true,.int .i64 a0_1,.slice A0_2 l0_2.length c0_2,.slice A0_3 l0_3.length c0_3] 34 (0,0)) (pK BK277) hb);have n1_:=Z (below_step pB hb);clear BK277;clear HB;have BK277:=n0_;have HB:=n1_;clear n0_ n1_;(try clear hb);(try clear hb2);(try clear hk);(try clear hi)))
     have n0_:=Z (kD BK277.out)
     have n1_:=Z (wD HB.out)
     clear BK277
     clear HB
     have BK277:=n0_
     have HB:=n1_
     clear n0_ n1_
     refine start_ (n:=6) (S:=fun w'=>w'.cell? ⟨gb277,0,none⟩=some (.bool true)∧w'.cell? ⟨gb277,1,none⟩=some (.int .i64 a0_1)∧w'.cell? ⟨gb277,2,none⟩=some (.slice A0_2 l0_2.length c0_2)∧w'.cell? ⟨gb277,3,none⟩=some (.slice A0_3 l0_3.length c0_3)) (ds:=[]) #[false,false,false,false,false,false] (by kernel_rfl) rfl rfl ⟨(kC BK277.out 0).trans rfl,(kC BK277.out 1).trans rfl,(kC BK277.out 2).trans rfl,(kC BK277.out 3).trans rfl⟩ (fun hHeld=>?_)
     generalize w12.drew=w13 at BK277 HB hHeld ⊢
     refine pure_ (i:=0) (N:=some 19) (v:=?_) (a':=?_) #[true,false,false,false,false,false] rfl rfl (by kernel_rfl) (fun _ _ _ h=>h) (Or.inl ⟨by rfl,?_⟩) ?_ ?_
     rotate_left
     ·intro w'
      go_simp
      with_reducible rfl
     rotate_left
     ·simp only [Act.put,List.setIfInBounds_toArray,List.set_cons_zero,List.set_cons_succ,i64_w,i32_w]
      rfl
     refine pure_ (i:=3) (N:=some 22) (v:=?_) (a':=?_) #[true,false,false,true,false,false] rfl rfl (by kernel_rfl) (fun _ _ _ h=>h) (Or.inl ⟨by rfl,?_⟩) ?_ ?_
     rotate_left
     ·intro w'
      go_simp
      with_reducible rfl
     rotate_left
     ·simp only [Act.put,List.setIfInBounds_toArray,List.set_cons_zero,List.set_cons_succ,i64_w,i32_w]
      rfl
     refine pure_ (i:=4) (N:=some 23) (v:=?_) (a':=?_) #[true,false,false,true,true,false] rfl rfl (by kernel_rfl) (fun _ _ _ h=>h) (Or.inl ⟨by rfl,?_⟩) ?_ ?_
     rotate_left
     ·intro w'
      go_simp
      with_reducible rfl
     rotate_left
     ·simp only [Act.put,List.setIfInBounds_toArray,List.set_cons_zero,List.set_cons_succ,i64_w,i32_w]
      rfl
     refine take_ (i:=1) (N:=some 20) (v:=?_) (a':=?_) #[true,true,false,true,true,false] rfl rfl (by kernel_rfl) (fun _ _ _ h=>h) (Or.inl ⟨by rfl,?_⟩) hHeld ?_ ?_
     rotate_left
     ·rintro w' ⟨s0,s1,s2,s3⟩
      go_simp
      with_reducible rfl
     rotate_left
     ·simp only [Act.put,List.setIfInBounds_toArray,List.set_cons_zero,List.set_cons_succ,i64_w,i32_w]
      rfl
     refine one_ (i:=2) (N:=some 21) #[true,true,true,true,true,false] rfl rfl (by kernel_rfl) (by decide) (fun K hK=>?_)
     refine goes_ Try.func65 (by kernel_rfl) rfl #[.agg #[.int .i64 a0_1,.slice A0_2 l0_2.length c0_2,.slice A0_3 l0_3.length c0_3]] (by rfl) rfl rfl pG ?_
     with_reducible refine (threshold_Uses.calls k a0_1 _ _ l0_2 _ _ l0_3 t280 _ ?side1 ?side2 ?side3 ?side4 A6.out).mono ?_
     (case side1=>repeat (first|exact (Kd.C_below HR0_2.out HB.out)|(with_reducible refine Kd.C_alloc ?_ _)|(with_reducible refine Kd.C_drewN ?_ _)|(with_reducible refine Kd.C_drew ?_)))
     (case side2=>exact HC0_2.out)
     (case side3=>repeat (first|exact (Kd.C_below HR0_3.out HB.out)|(with_reducible refine Kd.C_alloc ?_ _)|(with_reducible refine Kd.C_drewN ?_ _)|(with_reducible refine Kd.C_drew ?_)))
     (case side4=>exact HC0_3.out)
     rintro e w14 ⟨rfl,hb⟩
     refine ⟨_,rfl,?_⟩
     have n0_:=Z (blk_below (g:=gb277) (o:=.cells #[.bool true,.int .i64 a0_1,.slice A0_2 l0_2.length c0_2,.slice A0_3 l0_3.length c0_3] 34 (0,0)) (pK BK277) hb)
     have n1_:=Z (below_step pB hb)
     clear BK277
     clear HB
     have BK277:=n0_
     have HB:=n1_
     clear n0_ n1_
     (try clear hb)
     (try clear hb2)
     (try clear hk)
     (try clear hi)
     refine hK.out _ _ ⟨(kC BK277.out 0).trans rfl,(kC BK277.out 1).trans rfl,(kC BK277.out 2).trans rfl,(kC BK277.out 3).trans rfl⟩ (fun hHeld=>?_)
     clear hK K
     refine norm_ (a':=?_) ?_ ?_
     rotate_left
     ·show Act.put _ (some 21) _=_
      simp only [Act.put,List.setIfInBounds_toArray,List.set_cons_zero,List.set_cons_succ,i64_w,i32_w]
      rfl
     refine pure_ (i:=5) (N:=some 24) (v:=?_) (a':=?_) #[true,true,true,true,true,true] rfl rfl (by kernel_rfl) (fun _ _ _ h=>h) (Or.inl ⟨by rfl,?_⟩) ?_ ?_
     rotate_left
     ·intro w'
      go_simp
      with_reducible rfl
     rotate_left
     ·simp only [Act.put,List.setIfInBounds_toArray,List.set_cons_zero,List.set_cons_succ,i64_w,i32_w]
      rfl
     refine done_ (by kernel_rfl) ?_
     try go_wp2
     go_ret
     exact ⟨by first|rfl|(simp [errW_none,errW_some] <;> rfl)|(simp only [← hji8];first|rfl|(simp [errW_none,errW_some] <;> rfl))|(simp [*,errW_none,errW_some] <;> rfl),pB⟩
    ·rw [if_neg c9] at H
     have c9b0:decide ((ji8)≤t280)=false:=decide_eq_false c9
     clear c9
     obtain rfl:=Option.some.inj H
     go_enter Try.func92,Try.ntmps92
     try go_wp2_with (first|((with_reducible refine gate_dst (N:=2) rfl ?_);refine box_event ?hg (N:=2) ?hd (cs:=#[.bool true,.int .i64 a0_1,.slice A0_2 l0_2.length c0_2,.slice A0_3 l0_3.length c0_3]) (t:=34) ?hr ?_;(case hd=>rfl);(case hg=>rfl);(case hr=>first|(go_simp;done)|(go_simp;rfl));intro gb277 hg w15 hbox hb;have n0_:=Z (below_step pB hb);have n1_:=Z (hbox);have n2_:=Z ((pT hg:w.heap.size≤gb277));have n3_:=Z ((pT hg:w.heap.size≤gb277));clear HB;have HB:=n0_;have BK277:=n1_;have GW277:=n2_;have GE277:=n3_;clear n0_ n1_ n2_ n3_;clear hb hbox hg;have hcz16_0:w15.cell? ⟨gb277,0,none⟩=some (.bool true):=(kC BK277.out 0).trans rfl;have hcz16_1:w15.cell? ⟨gb277,1,none⟩=some (.int .i64 a0_1):=(kC BK277.out 1).trans rfl;have hcz16_2:w15.cell? ⟨gb277,2,none⟩=some (.slice A0_2 l0_2.length c0_2):=(kC BK277.out 2).trans rfl;have hcz16_3:w15.cell? ⟨gb277,3,none⟩=some (.slice A0_3 l0_3.length c0_3):=(kC BK277.out 3).trans rfl;have hfz16_0:=kF BK277.out 0;have hfz16_1:=kF BK277.out 1;have hfz16_2:=kF BK277.out 2;have hfz16_3:=kF BK277.out 3)|((with_reducible refine gate_callee (f:=111) rfl ?_);refine goesL_ (some 15) rfl rfl Try.func111 (by kernel_rfl) rfl #[.agg #[.int .i64 a0_1,.slice A0_2 l0_2.length c0_2,.slice A0_3 l0_3.length c0_3]] rfl pG ?_;(with_reducible refine (threshold_Valid.calls k a0_1 _ _ l0_2 _ _ l0_3 t279 _ ?side1 ?side2 ?side3 ?side4 A4.out).mono ?_);(case side1=>repeat (first|exact (Kd.C_below HR0_2.out HB.out)|(with_reducible refine Kd.C_alloc ?_ _)|(with_reducible refine Kd.C_drewN ?_ _)|(with_reducible refine Kd.C_drew ?_)));(case side2=>exact HC0_2.out);(case side3=>repeat (first|exact (Kd.C_below HR0_3.out HB.out)|(with_reducible refine Kd.C_alloc ?_ _)|(with_reducible refine Kd.C_drewN ?_ _)|(with_reducible refine Kd.C_drew ?_)));(case side4=>exact HC0_3.out);rintro e w17 ⟨rfl,hb⟩;refine ⟨_,rfl,?_⟩;have n0_:=Z (blk_below (g:=gb277) (o:=.cells #[.bool true,.int .i64 a0_1,.slice A0_2 l0_2.length c0_2,.slice A0_3 l0_3.length c0_3] 34 (0,0)) (pK BK277) hb);have n1_:=Z (below_step pB hb);clear BK277;clear HB;have BK277:=n0_;have HB:=n1_;clear n0_ n1_;(try clear hb);(try clear hb2);(try clear hk);(try clear hi)))
     have n0_:=Z (kD BK277.out)
     have n1_:=Z (wD HB.out)
     clear BK277
     clear HB
     have BK277:=n0_
     have HB:=n1_
     clear n0_ n1_
     refine start_ (n:=6) (S:=fun w'=>w'.cell? ⟨gb277,0,none⟩=some (.bool true)∧w'.cell? ⟨gb277,1,none⟩=some (.int .i64 a0_1)∧w'.cell? ⟨gb277,2,none⟩=some (.slice A0_2 l0_2.length c0_2)∧w'.cell? ⟨gb277,3,none⟩=some (.slice A0_3 l0_3.length c0_3)) (ds:=[]) #[false,false,false,false,false,false] (by kernel_rfl) rfl rfl ⟨(kC BK277.out 0).trans rfl,(kC BK277.out 1).trans rfl,(kC BK277.out 2).trans rfl,(kC BK277.out 3).trans rfl⟩ (fun hHeld=>?_)
     generalize w17.drew=w18 at BK277 HB hHeld ⊢
     refine pure_ (i:=0) (N:=some 19) (v:=?_) (a':=?_) #[true,false,false,false,false,false] rfl rfl (by kernel_rfl) (fun _ _ _ h=>h) (Or.inl ⟨by rfl,?_⟩) ?_ ?_
     rotate_left
     ·intro w'
      go_simp
      with_reducible rfl
     rotate_left
     ·simp only [Act.put,List.setIfInBounds_toArray,List.set_cons_zero,List.set_cons_succ,i64_w,i32_w]
      rfl
     refine pure_ (i:=3) (N:=some 22) (v:=?_) (a':=?_) #[true,false,false,true,false,false] rfl rfl (by kernel_rfl) (fun _ _ _ h=>h) (Or.inl ⟨by rfl,?_⟩) ?_ ?_
     rotate_left
     ·intro w'
      go_simp
      with_reducible rfl
     rotate_left
     ·simp only [Act.put,List.setIfInBounds_toArray,List.set_cons_zero,List.set_cons_succ,i64_w,i32_w]
      rfl
     refine pure_ (i:=4) (N:=some 23) (v:=?_) (a':=?_) #[true,false,false,true,true,false] rfl rfl (by kernel_rfl) (fun _ _ _ h=>h) (Or.inl ⟨by rfl,?_⟩) ?_ ?_
     rotate_left
     ·intro w'
      go_simp
      with_reducible rfl
     rotate_left
     ·simp only [Act.put,List.setIfInBounds_toArray,List.set_cons_zero,List.set_cons_succ,i64_w,i32_w]
      rfl
     refine take_ (i:=1) (N:=some 20) (v:=?_) (a':=?_) #[true,true,false,true,true,false] rfl rfl (by kernel_rfl) (fun _ _ _ h=>h) (Or.inl ⟨by rfl,?_⟩) hHeld ?_ ?_
     rotate_left
     ·rintro w' ⟨s0,s1,s2,s3⟩
      go_simp
      with_reducible rfl
     rotate_left
     ·simp only [Act.put,List.setIfInBounds_toArray,List.set_cons_zero,List.set_cons_succ,i64_w,i32_w]
      rfl
     refine one_ (i:=2) (N:=some 21) #[true,true,true,true,true,false] rfl rfl (by kernel_rfl) (by decide) (fun K hK=>?_)
     refine goes_ Try.func65 (by kernel_rfl) rfl #[.agg #[.int .i64 a0_1,.slice A0_2 l0_2.length c0_2,.slice A0_3 l0_3.length c0_3]] (by rfl) rfl rfl pG ?_
     with_reducible refine (threshold_Uses.calls k a0_1 _ _ l0_2 _ _ l0_3 t280 _ ?side1 ?side2 ?side3 ?side4 A6.out).mono ?_
     (case side1=>repeat (first|exact (Kd.C_below HR0_2.out HB.out)|(with_reducible refine Kd.C_alloc ?_ _)|(with_reducible refine Kd.C_drewN ?_ _)|(with_reducible refine Kd.C_drew ?_)))
     (case side2=>exact HC0_2.out)
     (case side3=>repeat (first|exact (Kd.C_below HR0_3.out HB.out)|(with_reducible refine Kd.C_alloc ?_ _)|(with_reducible refine Kd.C_drewN ?_ _)|(with_reducible refine Kd.C_drew ?_)))
     (case side4=>exact HC0_3.out)
     rintro e w19 ⟨rfl,hb⟩
     refine ⟨_,rfl,?_⟩
     have n0_:=Z (blk_below (g:=gb277) (o:=.cells #[.bool true,.int .i64 a0_1,.slice A0_2 l0_2.length c0_2,.slice A0_3 l0_3.length c0_3] 34 (0,0)) (pK BK277) hb)
     have n1_:=Z (below_step pB hb)
     clear BK277
     clear HB
     have BK277:=n0_
     have HB:=n1_
     clear n0_ n1_
     (try clear hb)
     (try clear hb2)
     (try clear hk)
     (try clear hi)
     refine hK.out _ _ ⟨(kC BK277.out 0).trans rfl,(kC BK277.out 1).trans rfl,(kC BK277.out 2).trans rfl,(kC BK277.out 3).trans rfl⟩ (fun hHeld=>?_)
     clear hK K
     refine norm_ (a':=?_) ?_ ?_
     rotate_left
     ·show Act.put _ (some 21) _=_
      simp only [Act.put,List.setIfInBounds_toArray,List.set_cons_zero,List.set_cons_succ,i64_w,i32_w]
      rfl
     refine pure_ (i:=5) (N:=some 24) (v:=?_) (a':=?_) #[true,true,true,true,true,true] rfl rfl (by kernel_rfl) (fun _ _ _ h=>h) (Or.inl ⟨by rfl,?_⟩) ?_ ?_
     rotate_left
     ·intro w'
      go_simp
      with_reducible rfl
     rotate_left
     ·simp only [Act.put,List.setIfInBounds_toArray,List.set_cons_zero,List.set_cons_succ,i64_w,i32_w]
      rfl
     refine done_ (by kernel_rfl) ?_
     try go_wp2
     go_ret
     exact ⟨by first|rfl|(simp [errW_none,errW_some] <;> rfl)|(simp only [← hji8];first|rfl|(simp [errW_none,errW_some] <;> rfl))|(simp [*,errW_none,errW_some] <;> rfl),pB⟩
   ·rw [if_neg c7] at H
    exact absurd H (by simp)
  ·rw [if_neg c5] at H
   have c5b0:(t279 == 0)=false:=beq_eq_false_iff_ne.mpr c5
   have c5b1:(t279 != 0)=true:=bne_iff_ne.mpr c5
   obtain rfl:=Option.some.inj H
   go_enter Try.func92,Try.ntmps92
   go_wp2_with (first|((with_reducible refine gate_dst (N:=2) rfl ?_);refine box_event ?hg (N:=2) ?hd (cs:=#[.bool true,.int .i64 a0_1,.slice A0_2 l0_2.length c0_2,.slice A0_3 l0_3.length c0_3]) (t:=34) ?hr ?_;(case hd=>rfl);(case hg=>rfl);(case hr=>first|(go_simp;done)|(go_simp;rfl));intro gb277 hg w20 hbox hb;have n0_:=Z (below_step pB hb);have n1_:=Z (hbox);have n2_:=Z ((pT hg:w.heap.size≤gb277));have n3_:=Z ((pT hg:w.heap.size≤gb277));clear HB;have HB:=n0_;have BK277:=n1_;have GW277:=n2_;have GE277:=n3_;clear n0_ n1_ n2_ n3_;clear hb hbox hg;have hcz21_0:w20.cell? ⟨gb277,0,none⟩=some (.bool true):=(kC BK277.out 0).trans rfl;have hcz21_1:w20.cell? ⟨gb277,1,none⟩=some (.int .i64 a0_1):=(kC BK277.out 1).trans rfl;have hcz21_2:w20.cell? ⟨gb277,2,none⟩=some (.slice A0_2 l0_2.length c0_2):=(kC BK277.out 2).trans rfl;have hcz21_3:w20.cell? ⟨gb277,3,none⟩=some (.slice A0_3 l0_3.length c0_3):=(kC BK277.out 3).trans rfl;have hfz21_0:=kF BK277.out 0;have hfz21_1:=kF BK277.out 1;have hfz21_2:=kF BK277.out 2;have hfz21_3:=kF BK277.out 3)|((with_reducible refine gate_callee (f:=111) rfl ?_);refine goesL_ (some 15) rfl rfl Try.func111 (by kernel_rfl) rfl #[.agg #[.int .i64 a0_1,.slice A0_2 l0_2.length c0_2,.slice A0_3 l0_3.length c0_3]] rfl pG ?_;(with_reducible refine (threshold_Valid.calls k a0_1 _ _ l0_2 _ _ l0_3 t279 _ ?side1 ?side2 ?side3 ?side4 A4.out).mono ?_);(case side1=>repeat (first|exact (Kd.C_below HR0_2.out HB.out)|(with_reducible refine Kd.C_alloc ?_ _)|(with_reducible refine Kd.C_drewN ?_ _)|(with_reducible refine Kd.C_drew ?_)));(case side2=>exact HC0_2.out);(case side3=>repeat (first|exact (Kd.C_below HR0_3.out HB.out)|(with_reducible refine Kd.C_alloc ?_ _)|(with_reducible refine Kd.C_drewN ?_ _)|(with_reducible refine Kd.C_drew ?_)));(case side4=>exact HC0_3.out);rintro e w22 ⟨rfl,hb⟩;refine ⟨_,rfl,?_⟩;have n0_:=Z (blk_below (g:=gb277) (o:=.cells #[.bool true,.int .i64 a0_1,.slice A0_2 l0_2.length c0_2,.slice A0_3 l0_3.length c0_3] 34 (0,0)) (pK BK277) hb);have n1_:=Z (below_step pB hb);clear BK277;clear HB;have BK277:=n0_;have HB:=n1_;clear n0_ n1_;(try clear hb);(try clear hb2);(try clear hk);(try clear hi)))
   go_ret
   exact ⟨pF,pB⟩
 ·replace c3:=Bool.eq_false_iff.mpr c3
  subst c3
  rw [if_neg (show ¬ (false=true) by decide)] at H
  replace H:=Option.bind_eq_some_iff.mp H
  obtain ⟨t278,A230,H⟩:=H
  try dsimp only at H
  have A23:=Z A230
  clear A230
  by_cases c24:t278=true
  ·subst c24
   rw [if_pos rfl] at H
   obtain rfl:=Option.some.inj H
   go_enter Try.func92,Try.ntmps92
   go_wp2_with (first|((with_reducible refine gate_dst (N:=2) rfl ?_);refine box_event ?hg (N:=2) ?hd (cs:=#[.bool false,.int .i64 a0_1,.slice A0_2 l0_2.length c0_2,.slice A0_3 l0_3.length c0_3]) (t:=34) ?hr ?_;(case hd=>rfl);(case hg=>rfl);(case hr=>first|(go_simp;done)|(go_simp;rfl));intro gb277 hg w25 hbox hb;have n0_:=Z (below_step pB hb);have n1_:=Z (hbox);have n2_:=Z ((pT hg:w.heap.size≤gb277));have n3_:=Z ((pT hg:w.heap.size≤gb277));clear HB;have HB:=n0_;have BK277:=n1_;have GW277:=n2_;have GE277:=n3_;clear n0_ n1_ n2_ n3_;clear hb hbox hg;have hcz26_0:w25.cell? ⟨gb277,0,none⟩=some (.bool false):=(kC BK277.out 0).trans rfl;have hcz26_1:w25.cell? ⟨gb277,1,none⟩=some (.int .i64 a0_1):=(kC BK277.out 1).trans rfl;have hcz26_2:w25.cell? ⟨gb277,2,none⟩=some (.slice A0_2 l0_2.length c0_2):=(kC BK277.out 2).trans rfl;have hcz26_3:w25.cell? ⟨gb277,3,none⟩=some (.slice A0_3 l0_3.length c0_3):=(kC BK277.out 3).trans rfl;have hfz26_0:=kF BK277.out 0;have hfz26_1:=kF BK277.out 1;have hfz26_2:=kF BK277.out 2;have hfz26_3:=kF BK277.out 3)|((with_reducible refine gate_callee (f:=110) rfl ?_);refine goesL_ (some 11) rfl rfl Try.func110 (by kernel_rfl) rfl #[.agg #[.int .i64 a0_1,.slice A0_2 l0_2.length c0_2,.slice A0_3 l0_3.length c0_3]] rfl pG ?_;(with_reducible refine (configuration_blank.calls a0_1 _ _ l0_2 _ _ l0_3 true _ ?side1 ?side2 ?side3 ?side4 A23.out).mono ?_);(case side1=>repeat (first|exact (Kd.C_below HR0_2.out HB.out)|(with_reducible refine Kd.C_alloc ?_ _)|(with_reducible refine Kd.C_drewN ?_ _)|(with_reducible refine Kd.C_drew ?_)));(case side2=>exact HC0_2.out);(case side3=>repeat (first|exact (Kd.C_below HR0_3.out HB.out)|(with_reducible refine Kd.C_alloc ?_ _)|(with_reducible refine Kd.C_drewN ?_ _)|(with_reducible refine Kd.C_drew ?_)));(case side4=>exact HC0_3.out);rintro e w27 ⟨rfl,hb⟩;refine ⟨_,rfl,?_⟩;have n0_:=Z (blk_below (g:=gb277) (o:=.cells #[.bool false,.int .i64 a0_1,.slice A0_2 l0_2.length c0_2,.slice A0_3 l0_3.length c0_3] 34 (0,0)) (pK BK277) hb);have n1_:=Z (below_step pB hb);clear BK277;clear HB;have BK277:=n0_;have HB:=n1_;clear n0_ n1_;(try clear hb);(try clear hb2);(try clear hk);(try clear hi)))
   go_ret
   exact ⟨pF,pB⟩
  ·replace c24:=Bool.eq_false_iff.mpr c24
   subst c24
   rw [if_neg (show ¬ (false=true) by decide)] at H
   obtain rfl:=Option.some.inj H
   go_enter Try.func92,Try.ntmps92
   go_wp2_with (first|((with_reducible refine gate_dst (N:=2) rfl ?_);refine box_event ?hg (N:=2) ?hd (cs:=#[.bool false,.int .i64 a0_1,.slice A0_2 l0_2.length c0_2,.slice A0_3 l0_3.length c0_3]) (t:=34) ?hr ?_;(case hd=>rfl);(case hg=>rfl);(case hr=>first|(go_simp;done)|(go_simp;rfl));intro gb277 hg w28 hbox hb;have n0_:=Z (below_step pB hb);have n1_:=Z (hbox);have n2_:=Z ((pT hg:w.heap.size≤gb277));have n3_:=Z ((pT hg:w.heap.size≤gb277));clear HB;have HB:=n0_;have BK277:=n1_;have GW277:=n2_;have GE277:=n3_;clear n0_ n1_ n2_ n3_;clear hb hbox hg;have hcz29_0:w28.cell? ⟨gb277,0,none⟩=some (.bool false):=(kC BK277.out 0).trans rfl;have hcz29_1:w28.cell? ⟨gb277,1,none⟩=some (.int .i64 a0_1):=(kC BK277.out 1).trans rfl;have hcz29_2:w28.cell? ⟨gb277,2,none⟩=some (.slice A0_2 l0_2.length c0_2):=(kC BK277.out 2).trans rfl;have hcz29_3:w28.cell? ⟨gb277,3,none⟩=some (.slice A0_3 l0_3.length c0_3):=(kC BK277.out 3).trans rfl;have hfz29_0:=kF BK277.out 0;have hfz29_1:=kF BK277.out 1;have hfz29_2:=kF BK277.out 2;have hfz29_3:=kF BK277.out 3)|((with_reducible refine gate_callee (f:=110) rfl ?_);refine goesL_ (some 11) rfl rfl Try.func110 (by kernel_rfl) rfl #[.agg #[.int .i64 a0_1,.slice A0_2 l0_2.length c0_2,.slice A0_3 l0_3.length c0_3]] rfl pG ?_;(with_reducible refine (configuration_blank.calls a0_1 _ _ l0_2 _ _ l0_3 false _ ?side1 ?side2 ?side3 ?side4 A23.out).mono ?_);(case side1=>repeat (first|exact (Kd.C_below HR0_2.out HB.out)|(with_reducible refine Kd.C_alloc ?_ _)|(with_reducible refine Kd.C_drewN ?_ _)|(with_reducible refine Kd.C_drew ?_)));(case side2=>exact HC0_2.out);(case side3=>repeat (first|exact (Kd.C_below HR0_3.out HB.out)|(with_reducible refine Kd.C_alloc ?_ _)|(with_reducible refine Kd.C_drewN ?_ _)|(with_reducible refine Kd.C_drew ?_)));(case side4=>exact HC0_3.out);rintro e w30 ⟨rfl,hb⟩;refine ⟨_,rfl,?_⟩;have n0_:=Z (blk_below (g:=gb277) (o:=.cells #[.bool false,.int .i64 a0_1,.slice A0_2 l0_2.length c0_2,.slice A0_3 l0_3.length c0_3] 34 (0,0)) (pK BK277) hb);have n1_:=Z (below_step pB hb);clear BK277;clear HB;have BK277:=n0_;have HB:=n1_;clear n0_ n1_;(try clear hb);(try clear hb2);(try clear hk);(try clear hi)))
   go_ret
   exact ⟨pF,pB⟩
def configuration_Valid.l0:Nat→List (S34)→Int→Int→List (S34)→Option (Int)
 | 0,_,_,_,_=>none
 | k+1,x11,x12,x13,x282000=>if x13 < x12 then (if 0≤x13 then (if x13 < (x11.length:Int) then ((configuration_member.f k ((rd_T34 x11 x13).f0) ((rd_T34 x11 x13).f1.f0) ((rd_T34 x11 x13).f1.f1) ((rd_T34 x11 x13).f1.f2) (x282000.length:Int)).bind fun t284=>(if t284=0 then (configuration_Valid.l0 k x11 x12 (wrap64 (x13+1)) x282000) else (some t284))) else (none)) else (none)) else (some 0)
def configuration_Valid.f (k:Nat) (l0_0:List (S34)):Option (Int):=if (l0_0.length:Int) > 10 then (some 3) else (configuration_Valid.l0 k l0_0 (l0_0.length:Int) 0 l0_0)
set_option maxHeartbeats 8000000 in
set_option maxRecDepth 100000 in
theorem configuration_Valid.calls (k:Nat) (A0_0:Option Addr) (c0_0:Nat) (l0_0:List (S34)) (r:Int) (w:World) (hr0_0:Kd.C k34 w A0_0 l0_0.length l0_0) (hc0_0:l0_0.length≤c0_0) (h:configuration_Valid.f k l0_0=some r) :
  Calls Try.prog 63 #[.agg #[.slice A0_0 l0_0.length c0_0]] w fun e w'=>e=.returned (.int .i64 r)∧Below w.heap.size w w':=by
 have hu27:=Try.underlying27
 have hu34:=Try.underlying34
 have HR0_0:=Z hr0_0
 have HC0_0:=Z hc0_0
 clear hr0_0 hc0_0
 have HB:=Z (Below.refl w.heap.size w)
 have H:(if (l0_0.length:Int) > 10 then (some 3) else (configuration_Valid.l0 k l0_0 (l0_0.length:Int) 0 l0_0))=some r:=h
 clear h
 by_cases c2:(l0_0.length:Int) > 10
 ·rw [if_pos c2] at H
  have c2b0:decide (10 < (l0_0.length:Int))=true:=decide_eq_true c2
  have c2b1:decide (10 < l0_0.length)=true:=decide_eq_true (by omega)
  clear c2
  obtain rfl:=Option.some.inj H
  go_enter Try.func63,Try.ntmps63
  go_wp2_with (first|((with_reducible refine gate_dst (N:=1) rfl ?_);refine box_event ?hg (N:=1) ?hd (cs:=#[.slice A0_0 l0_0.length c0_0]) (t:=27) ?hr ?_;(case hd=>rfl);(case hg=>rfl);(case hr=>first|(go_simp;done)|(go_simp;rfl));intro gb281 hg w3 hbox hb;have n0_:=Z (below_step pB hb);have n1_:=Z (hbox);have n2_:=Z ((pT hg:w.heap.size≤gb281));have n3_:=Z ((pT hg:w.heap.size≤gb281));clear HB;have HB:=n0_;have BK281:=n1_;have GW281:=n2_;have GE281:=n3_;clear n0_ n1_ n2_ n3_;clear hb hbox hg;have hcz4_0:w3.cell? ⟨gb281,0,none⟩=some (.slice A0_0 l0_0.length c0_0):=(kC BK281.out 0).trans rfl;have hfz4_0:=kF BK281.out 0))
  go_ret
  exact ⟨pF,pB⟩
 ·rw [if_neg c2] at H
  have c2b0:decide (10 < (l0_0.length:Int))=false:=decide_eq_false c2
  have c2b1:decide (10 < l0_0.length)=false:=decide_eq_false (by omega)
  clear c2
  have H':=Z H
  clear H
  go_enter Try.func63,Try.ntmps63
  go_wp2_with (first|((with_reducible refine gate_dst (N:=1) rfl ?_);refine box_event ?hg (N:=1) ?hd (cs:=#[.slice A0_0 l0_0.length c0_0]) (t:=27) ?hr ?_;(case hd=>rfl);(case hg=>rfl);(case hr=>first|(go_simp;done)|(go_simp;rfl));intro gb281 hg w5 hbox hb;have n0_:=Z (below_step pB hb);have n1_:=Z (hbox);have n2_:=Z ((pT hg:w.heap.size≤gb281));have n3_:=Z ((pT hg:w.heap.size≤gb281));clear HB;have HB:=n0_;have BK281:=n1_;have GW281:=n2_;have GE281:=n3_;clear n0_ n1_ n2_ n3_;clear hb hbox hg;have hcz6_0:w5.cell? ⟨gb281,0,none⟩=some (.slice A0_0 l0_0.length c0_0):=(kC BK281.out 0).trans rfl;have hfz6_0:=kF BK281.out 0))
  go_loopg [13] k (fun kq v13 w'=>∃ (x13_1:Int),v13=.int .i64 x13_1∧Aside0 (configuration_Valid.l0 kq l0_0 (l0_0.length:Int) x13_1 l0_0=some r)∧Aside0 (kq≤k)∧Aside0 (w'.heap[gb281]?=some (.cells #[(.slice A0_0 l0_0.length c0_0)] 27 (0,0)))∧Aside0 (Below w.heap.size w w'))
  case atStart=>exact ⟨(0),pE,H',⟨Nat.le_refl _⟩,⟨pK BK281⟩,⟨pB⟩⟩
  case round =>
   clear H'
   try clear c2
   try clear c2b0
   try clear c2b1
   try clear p2
   try clear c6
   try clear hcz4_0
   try clear hcz6_0
   try clear hfz4_0
   try clear hfz6_0
   obtain ⟨x13_1,rfl,HA,HK1,BK281,HB⟩:=hrel
   cases gk with
   | zero=>exact absurd HA.out (by simp [configuration_Valid.l0])
   | succ k1 =>
    have H:=HA.out
    clear HA
    simp only [configuration_Valid.l0] at H
    by_cases c7:x13_1 < (l0_0.length:Int)
    ·rw [if_pos c7] at H
     have c7b0:decide (x13_1 < (l0_0.length:Int))=true:=decide_eq_true c7
     clear c7
     by_cases c8:0≤x13_1
     ·rw [if_pos c8] at H
      have c8b0:decide (0≤x13_1)=true:=decide_eq_true c8
      clear c8
      by_cases c9:x13_1 < (l0_0.length:Int)
      ·rw [if_pos c9] at H
       have c9b0:decide (x13_1 < (l0_0.length:Int))=true:=decide_eq_true c9
       clear c9
       replace H:=Option.bind_eq_some_iff.mp H
       obtain ⟨t284,A100,H⟩:=H
       try dsimp only at H
       have A10:=Z A100
       clear A100
       by_cases c11:t284=0
       ·rw [if_pos c11] at H
        have c11b0:(t284 == 0)=true:=beq_iff_eq.mpr c11
        have c11b1:(t284 != 0)=false:=bne_eq_false_iff_eq.mpr c11
        clear c11
        have H':=Z H
        clear H
        have p282:0≤(x13_1:Int):=of_decide_eq_true (by first|(with_reducible assumption)|assumption)
        have q282:x13_1 < (l0_0.length:Int):=of_decide_eq_true (by first|(with_reducible assumption)|assumption)
        obtain ⟨ad282,A282_2,c282_2,A282_3,c282_3,e282,hx282_0,hx282_1,hx282_2,hx282_3,hl282_2,hi282_2,hl282_3,hi282_3⟩:=at_T34 HR0_0.out x13_1 p282 q282
        cases e282
        replace hx282_0:=(HB.out.cell (World.block_lt_of_cell? w _ hx282_0)).trans hx282_0
        replace hx282_1:=(HB.out.cell (World.block_lt_of_cell? w _ hx282_1)).trans hx282_1
        replace hx282_2:=(HB.out.cell (World.block_lt_of_cell? w _ hx282_2)).trans hx282_2
        replace hx282_3:=(HB.out.cell (World.block_lt_of_cell? w _ hx282_3)).trans hx282_3
        have HR282_2:=Z hi282_2
        have HC282_2:=Z hl282_2
        clear hi282_2 hl282_2
        have HR282_3:=Z hi282_3
        have HC282_3:=Z hl282_3
        clear hi282_3 hl282_3
        replace p282:=eq_true p282
        replace q282:=eq_true q282
        go_wp2_with (first|((with_reducible refine gate_dst (N:=4) rfl ?_);refine box_event ?hg (N:=4) ?hd (cs:=#[.bool false,.int .i64 0,.slice none 0 0,.slice none 0 0]) (t:=34) ?hr ?_;(case hd=>rfl);(case hg=>rfl);(case hr=>first|(go_simp;done)|(go_simp;rfl));intro gb283 hg w12 hbox hb;have n0_:=Z (blk_below (g:=gb281) (o:=.cells #[.slice (some ad282) l0_0.length c0_0] 27 (0,0)) (pK BK281) hb);have n1_:=Z (below_step pB hb);have n2_:=Z (hbox);have n3_:=Z ((pT hg:w.heap.size≤gb283));have n4_:=Z ((pT hg:w.heap.size≤gb283));have n5_:=Z ((pL hg (pK BK281):gb281 ≠ gb283));have n6_:=Z ((pM hg (pK BK281):gb283 ≠ gb281));clear BK281;clear HB;have BK281:=n0_;have HB:=n1_;have BK283:=n2_;have GW283:=n3_;have GE283:=n4_;have NB281_283:=n5_;have NB283_281:=n6_;clear n0_ n1_ n2_ n3_ n4_ n5_ n6_;clear hb hbox hg;have hnb13:=NB283_281.out;have hnc13:=NB281_283.out;have hcz14_0:w12.cell? ⟨gb283,0,none⟩=some (.bool false):=(kC BK283.out 0).trans rfl;have hcz14_1:w12.cell? ⟨gb283,1,none⟩=some (.int .i64 0):=(kC BK283.out 1).trans rfl;have hcz14_2:w12.cell? ⟨gb283,2,none⟩=some (.slice none 0 0):=(kC BK283.out 2).trans rfl;have hcz14_3:w12.cell? ⟨gb283,3,none⟩=some (.slice none 0 0):=(kC BK283.out 3).trans rfl;have hfz14_0:=kF BK283.out 0;have hfz14_1:=kF BK283.out 1;have hfz14_2:=kF BK283.out 2;have hfz14_3:=kF BK283.out 3;have hcz15_0:w12.cell? ⟨gb281,0,none⟩=some (.slice (some ad282) l0_0.length c0_0):=(kC BK281.out 0).trans rfl;have hfz15_0:=kF BK281.out 0)|((with_reducible refine gate_callee (f:=92) rfl ?_);refine goesL_ (some 21) rfl rfl Try.func92 (by kernel_rfl) rfl #[.agg #[.bool ((rd_T34 l0_0 x13_1).f0),.int .i64 ((rd_T34 l0_0 x13_1).f1.f0),.slice A282_2 ((rd_T34 l0_0 x13_1).f1.f1).length c282_2,.slice A282_3 ((rd_T34 l0_0 x13_1).f1.f2).length c282_3],.int .i64 (l0_0.length:Int)] rfl pG ?_;(with_reducible refine (configuration_member.calls k1 ((rd_T34 l0_0 x13_1).f0) ((rd_T34 l0_0 x13_1).f1.f0) _ _ ((rd_T34 l0_0 x13_1).f1.f1) _ _ ((rd_T34 l0_0 x13_1).f1.f2) (l0_0.length:Int) t284 _ ?side1 ?side2 ?side3 ?side4 A10.out).mono ?_);(case side1=>exact Kd.C_below HR282_2.out pB);(case side2=>exact HC282_2.out);(case side3=>exact Kd.C_below HR282_3.out pB);(case side4=>exact HC282_3.out);rintro e w16 ⟨rfl,hb⟩;refine ⟨_,rfl,?_⟩;have n0_:=Z (blk_below (g:=gb281) (o:=.cells #[.slice (some ad282) l0_0.length c0_0] 27 (0,0)) (by (with_reducible repeat (first|refine kN ?_ _|refine kD ?_|refine kA ?_ _));refine blk_far ?_ NB281_283.out _;(with_reducible repeat (first|refine kN ?_ _|refine kD ?_|refine kA ?_ _));refine blk_far ?_ NB281_283.out _;(with_reducible repeat (first|refine kN ?_ _|refine kD ?_|refine kA ?_ _));refine blk_far ?_ NB281_283.out _;(with_reducible repeat (first|refine kN ?_ _|refine kD ?_|refine kA ?_ _));refine blk_far ?_ NB281_283.out _;(with_reducible repeat (first|refine kN ?_ _|refine kD ?_|refine kA ?_ _));exact BK281.out) hb);have n1_:=Z (blk_below (g:=gb283) (o:=.cells #[.bool ((rd_T34 l0_0 x13_1).f0),.int .i64 ((rd_T34 l0_0 x13_1).f1.f0),.slice A282_2 ((rd_T34 l0_0 x13_1).f1.f1).length c282_2,.slice A282_3 ((rd_T34 l0_0 x13_1).f1.f2).length c282_3] 34 (0,0)) (by (with_reducible repeat (first|refine kN ?_ _|refine kD ?_|refine kA ?_ _));refine blk_put (cs:=#[.bool ((rd_T34 l0_0 x13_1).f0),.int .i64 ((rd_T34 l0_0 x13_1).f1.f0),.slice A282_2 ((rd_T34 l0_0 x13_1).f1.f1).length c282_2,.slice none 0 0]) ?_ 3 _ rfl;(with_reducible repeat (first|refine kN ?_ _|refine kD ?_|refine kA ?_ _));refine blk_put (cs:=#[.bool ((rd_T34 l0_0 x13_1).f0),.int .i64 ((rd_T34 l0_0 x13_1).f1.f0),.slice none 0 0,.slice none 0 0]) ?_ 2 _ rfl;(with_reducible repeat (first|refine kN ?_ _|refine kD ?_|refine kA ?_ _));refine blk_put (cs:=#[.bool ((rd_T34 l0_0 x13_1).f0),.int .i64 0,.slice none 0 0,.slice none 0 0]) ?_ 1 _ rfl;(with_reducible repeat (first|refine kN ?_ _|refine kD ?_|refine kA ?_ _));refine blk_put (cs:=#[.bool false,.int .i64 0,.slice none 0 0,.slice none 0 0]) ?_ 0 _ rfl;(with_reducible repeat (first|refine kN ?_ _|refine kD ?_|refine kA ?_ _));exact BK283.out) hb);have n2_:=Z (below_step pB hb);clear BK281;clear BK283;clear HB;have BK281:=n0_;have BK283:=n1_;have HB:=n2_;clear n0_ n1_ n2_;(try clear hb);(try clear hb2);(try clear hk);(try clear hi)))
        go_roundg k1
        case measure=>have:=HK1.out;omega
        case rel=>exact ⟨(wrap64 (x13_1+1)),pE,H',⟨by have:=HK1.out;omega⟩,⟨pK BK281⟩,⟨pB⟩⟩
       ·rw [if_neg c11] at H
        have c11b0:(t284 == 0)=false:=beq_eq_false_iff_ne.mpr c11
        have c11b1:(t284 != 0)=true:=bne_iff_ne.mpr c11
        obtain rfl:=Option.some.inj H
        have p282:0≤(x13_1:Int):=of_decide_eq_true (by first|(with_reducible assumption)|assumption)
        have q282:x13_1 < (l0_0.length:Int):=of_decide_eq_true (by first|(with_reducible assumption)|assumption)
        obtain ⟨ad282,A282_2,c282_2,A282_3,c282_3,e282,hx282_0,hx282_1,hx282_2,hx282_3,hl282_2,hi282_2,hl282_3,hi282_3⟩:=at_T34 HR0_0.out x13_1 p282 q282
        cases e282
        replace hx282_0:=(HB.out.cell (World.block_lt_of_cell? w _ hx282_0)).trans hx282_0
        replace hx282_1:=(HB.out.cell (World.block_lt_of_cell? w _ hx282_1)).trans hx282_1
        replace hx282_2:=(HB.out.cell (World.block_lt_of_cell? w _ hx282_2)).trans hx282_2
        replace hx282_3:=(HB.out.cell (World.block_lt_of_cell? w _ hx282_3)).trans hx282_3
        have HR282_2:=Z hi282_2
        have HC282_2:=Z hl282_2
        clear hi282_2 hl282_2
        have HR282_3:=Z hi282_3
        have HC282_3:=Z hl282_3
        clear hi282_3 hl282_3
        replace p282:=eq_true p282
        replace q282:=eq_true q282
        go_wp2_with (first|((with_reducible refine gate_dst (N:=4) rfl ?_);refine box_event ?hg (N:=4) ?hd (cs:=#[.bool false,.int .i64 0,.slice none 0 0,.slice none 0 0]) (t:=34) ?hr ?_;(case hd=>rfl);(case hg=>rfl);(case hr=>first|(go_simp;done)|(go_simp;rfl));intro gb283 hg w17 hbox hb;have n0_:=Z (blk_below (g:=gb281) (o:=.cells #[.slice (some ad282) l0_0.length c0_0] 27 (0,0)) (pK BK281) hb);have n1_:=Z (below_step pB hb);have n2_:=Z (hbox);have n3_:=Z ((pT hg:w.heap.size≤gb283));have n4_:=Z ((pT hg:w.heap.size≤gb283));have n5_:=Z ((pL hg (pK BK281):gb281 ≠ gb283));have n6_:=Z ((pM hg (pK BK281):gb283 ≠ gb281));clear BK281;clear HB;have BK281:=n0_;have HB:=n1_;have BK283:=n2_;have GW283:=n3_;have GE283:=n4_;have NB281_283:=n5_;have NB283_281:=n6_;clear n0_ n1_ n2_ n3_ n4_ n5_ n6_;clear hb hbox hg;have hnb18:=NB283_281.out;have hnc18:=NB281_283.out;have hcz19_0:w17.cell? ⟨gb283,0,none⟩=some (.bool false):=(kC BK283.out 0).trans rfl;have hcz19_1:w17.cell? ⟨gb283,1,none⟩=some (.int .i64 0):=(kC BK283.out 1).trans rfl;have hcz19_2:w17.cell? ⟨gb283,2,none⟩=some (.slice none 0 0):=(kC BK283.out 2).trans rfl;have hcz19_3:w17.cell? ⟨gb283,3,none⟩=some (.slice none 0 0):=(kC BK283.out 3).trans rfl;have hfz19_0:=kF BK283.out 0;have hfz19_1:=kF BK283.out 1;have hfz19_2:=kF BK283.out 2;have hfz19_3:=kF BK283.out 3;have hcz20_0:w17.cell? ⟨gb281,0,none⟩=some (.slice (some ad282) l0_0.length c0_0):=(kC BK281.out 0).trans rfl;have hfz20_0:=kF BK281.out 0)|((with_reducible refine gate_callee (f:=92) rfl ?_);refine goesL_ (some 21) rfl rfl Try.func92 (by kernel_rfl) rfl #[.agg #[.bool ((rd_T34 l0_0 x13_1).f0),.int .i64 ((rd_T34 l0_0 x13_1).f1.f0),.slice A282_2 ((rd_T34 l0_0 x13_1).f1.f1).length c282_2,.slice A282_3 ((rd_T34 l0_0 x13_1).f1.f2).length c282_3],.int .i64 (l0_0.length:Int)] rfl pG ?_;(with_reducible refine (configuration_member.calls k1 ((rd_T34 l0_0 x13_1).f0) ((rd_T34 l0_0 x13_1).f1.f0) _ _ ((rd_T34 l0_0 x13_1).f1.f1) _ _ ((rd_T34 l0_0 x13_1).f1.f2) (l0_0.length:Int) t284 _ ?side1 ?side2 ?side3 ?side4 A10.out).mono ?_);(case side1=>exact Kd.C_below HR282_2.out pB);(case side2=>exact HC282_2.out);(case side3=>exact Kd.C_below HR282_3.out pB);(case side4=>exact HC282_3.out);rintro e w21 ⟨rfl,hb⟩;refine ⟨_,rfl,?_⟩;have n0_:=Z (blk_below (g:=gb281) (o:=.cells #[.slice (some ad282) l0_0.length c0_0] 27 (0,0)) (by (with_reducible repeat (first|refine kN ?_ _|refine kD ?_|refine kA ?_ _));refine blk_far ?_ NB281_283.out _;(with_reducible repeat (first|refine kN ?_ _|refine kD ?_|refine kA ?_ _));refine blk_far ?_ NB281_283.out _;(with_reducible repeat (first|refine kN ?_ _|refine kD ?_|refine kA ?_ _));refine blk_far ?_ NB281_283.out _;(with_reducible repeat (first|refine kN ?_ _|refine kD ?_|refine kA ?_ _));refine blk_far ?_ NB281_283.out _;(with_reducible repeat (first|refine kN ?_ _|refine kD ?_|refine kA ?_ _));exact BK281.out) hb);have n1_:=Z (blk_below (g:=gb283) (o:=.cells #[.bool ((rd_T34 l0_0 x13_1).f0),.int .i64 ((rd_T34 l0_0 x13_1).f1.f0),.slice A282_2 ((rd_T34 l0_0 x13_1).f1.f1).length c282_2,.slice A282_3 ((rd_T34 l0_0 x13_1).f1.f2).length c282_3] 34 (0,0)) (by (with_reducible repeat (first|refine kN ?_ _|refine kD ?_|refine kA ?_ _));refine blk_put (cs:=#[.bool ((rd_T34 l0_0 x13_1).f0),.int .i64 ((rd_T34 l0_0 x13_1).f1.f0),.slice A282_2 ((rd_T34 l0_0 x13_1).f1.f1).length c282_2,.slice none 0 0]) ?_ 3 _ rfl;(with_reducible repeat (first|refine kN ?_ _|refine kD ?_|refine kA ?_ _));refine blk_put (cs:=#[.bool ((rd_T34 l0_0 x13_1).f0),.int .i64 ((rd_T34 l0_0 x13_1).f1.f0),.slice none 0 0,.slice none 0 0]) ?_ 2 _ rfl;(with_reducible repeat (first|refine kN ?_ _|refine kD ?_|refine kA ?_ _));refine blk_put (cs:=#[.bool ((rd_T34 l0_0 x13_1).f0),.int .i64 0,.slice none 0 0,.slice none 0 0]) ?_ 1 _ rfl;(with_reducible repeat (first|refine kN ?_ _|refine kD ?_|refine kA ?_ _));refine blk_put (cs:=#[.bool false,.int .i64 0,.slice none 0 0,.slice none 0 0]) ?_ 0 _ rfl;(with_reducible repeat (first|refine kN ?_ _|refine kD ?_|refine kA ?_ _));exact BK283.out) hb);have n2_:=Z (below_step pB hb);clear BK281;clear BK283;clear HB;have BK281:=n0_;have BK283:=n1_;have HB:=n2_;clear n0_ n1_ n2_;(try clear hb);(try clear hb2);(try clear hk);(try clear hi)))
        go_ret
        exact ⟨pF,pB⟩
      ·rw [if_neg c9] at H
       exact absurd H (by simp)
     ·rw [if_neg c8] at H
      exact absurd H (by simp)
    ·rw [if_neg c7] at H
     have c7b0:decide (x13_1 < (l0_0.length:Int))=false:=decide_eq_false c7
     clear c7
     obtain rfl:=Option.some.inj H
     go_wp2
     go_ret
     exact ⟨pF,pB⟩
end Go.Proofs.Ytkjlcbfjllpcnaa.X
namespace Go.Proofs.Ytkjlcbfjllpcnaa.X
open Go.RowKit Go.Lib Go.Sort Go.Proofs.YtkjlcbfjllpcnaaW.PrintWords Go.Proofs.YtkjlcbfjllpcnaaW.PrintLast Go.Proofs.YtkjlcbfjllpcnaaW.PrintMore
set_option linter.unusedVariables false
theorem C_lit (W:World) (xs:List Int) (hm:xs.length≤9223372036854775807):(Kd.int .i64).C (W.alloc (.cells (nums .i64 xs).toArray 3)) (some ⟨W.heap.size,0,none⟩) xs.length xs:=by
 obtain ⟨A,c,hv,hr⟩:=own_reads (own_lit W 0 3 .i64 xs (Nat.zero_le _) hm)
 injection hv with hA hn hc
 subst hA
 exact Kd.C_of_reads (d:=(0:Int)) (h1:=fun _=>rfl) hr
theorem rank_calls (a:Int) (w:World):Calls Try.prog 116 #[.int .i64 a] w fun e w'=>e=.returned (.int .i64 (rank a))∧Drawn0 w w':=nodeset_rank.calls a (rank a) w (rank_eq a)
theorem cmpI_calls (a b:Int) (w:World):Calls Try.prog 115 #[.int .i64 a,.int .i64 b] w fun e w'=>e=.returned (.int .i64 (cmpI a b))∧Drawn0 w w':=cmp_Compare_int.calls a b (cmpI a b) w (cmpI_eq a b)
theorem alloc_grow (W:World) (a b:Nat) (o:Obj):((W.drewN a).alloc o).drewN b=grow (W.drewN (a+b)) #[o]:=by
 simp [grow,World.alloc,World.drewN,Nat.add_assoc]
theorem compare_grow (x y : Int) (W : World) : Calls Try.prog 94 #[.int .i64 x, .int .i64 y] W fun e w' => e = .returned (.int .i64 (cmpS x y)) ∧ ∃ q os', w' = grow (W.drewN q) os' := by
  go_enter Try.func94, Try.ntmps94
  go_wp2_with (first
    | (go_at_call 116; refine (rank_calls _ _).mono ?_; rintro e w' ⟨rfl, ⟨nd, rfl⟩⟩)
    | (go_at_call 115; refine (cmpI_calls _ _ _).mono ?_; rintro e w' ⟨rfl, ⟨nd, rfl⟩⟩)
    | (go_at_call 114; refine (cmp_Or_int.calls 4 _ 2 [_, _] _ _ (C_lit _ [_, _] (by simp)) (by simp) (or2_eq _ _)).mono ?_; rintro e w' ⟨rfl, ⟨nd, rfl⟩⟩))
  go_ret
  exact ⟨rfl, _, #[_], alloc_grow _ _ _ _⟩
abbrev RI (w:World) (base:Nat) (ok:Nat→Prop) (v:Value) (xs:List Int):Prop:=(Kd.int .i64).R 3 w base ok v xs
theorem take1 {α:Type} {l:List α} {j:Nat} (h:j < l.length):(l.drop j).take 1=[l[j]]:=by rw [List.drop_eq_getElem_cons h];rfl
theorem reps_ints {w:World} {base:Nat} {ok:Nat→Prop} (xs:List Int):Reps ((Kd.int .i64).M w base ok) 1 xs (xs.map (Value.int .i64)):=by
 refine ⟨by simp,fun j p hj=>?_⟩
 obtain ⟨hl,rfl⟩:=List.getElem?_eq_some_iff.1 hj
 show List.take 1 (List.drop (j * 1) _)=[_]
 rw [Nat.mul_one,take1 (by simpa using hl)]
 simp
theorem ints_reps {w:World} {base:Nat} {ok:Nat→Prop} {xs:List Int} {cs:List Value} (h:Reps ((Kd.int .i64).M w base ok) 1 xs cs):cs=xs.map (Value.int .i64):=by
 obtain ⟨hl,h2⟩:=h
 apply List.ext_getElem (by simpa using hl)
 intro j h3 h4
 have h5:j < xs.length:=by simpa using h4
 have h6:(cs.drop (j * 1)).take 1=[.int .i64 xs[j]]:=h2 j xs[j] (List.getElem?_eq_getElem h5)
 rw [Nat.mul_one,take1 h3] at h6
 simpa using h6
theorem R_of_own {w:World} {base:Nat} {ok:Nat→Prop} {v:Value} {xs:List Int} (hok:∀ k,v.ownBlock=some k→ok k) (h:w.ownsRow base 3 1 v xs.length (xs.map (Value.int .i64))):RI w base ok v xs :=
 ⟨hok,_,h,reps_ints xs⟩
theorem own_of_R {w:World} {base:Nat} {ok:Nat→Prop} {v:Value} {xs:List Int} (h:RI w base ok v xs):w.ownsRow base 3 1 v xs.length (xs.map (Value.int .i64)):=by
 obtain ⟨_,inner,ho,hr⟩:=h
 rw [ints_reps hr] at ho
 exact ho
theorem cmpI_neg {a b:Int}:cmpI a b < 0 ↔ a < b:=by unfold cmpI;split <;> (try split) <;> omega
theorem cmpI_zero {a b:Int}:cmpI a b=0 ↔ a=b:=by unfold cmpI;split <;> (try split) <;> omega
def ltS (x y:Int):Prop:=rank x < rank y ∨ (rank x=rank y∧x < y)
theorem cmpS_neg {x y:Int}:cmpS x y < 0 ↔ ltS x y:=by
 unfold cmpS orI ltS
 split
 ·rename_i h;rw [cmpI_zero] at h;rw [cmpI_neg];omega
 ·rename_i h;rw [cmpI_neg];rw [cmpI_zero] at h;omega
theorem ltOf_iff {x y:Int}:ltOf cmpS x y=true ↔ ltS x y:=by simp [ltOf,cmpS_neg]
theorem ltOf_not {x y:Int}:ltOf cmpS x y=false ↔ ¬ ltS x y:=by rw [← ltOf_iff];simp
theorem ltS_swo:SWO (ltOf cmpS) where
 irrefl x:=by rw [ltOf_not];unfold ltS;omega
 trans x y z h1 h2:=by rw [ltOf_iff] at *;unfold ltS at *;omega
 ntrans x y z h1 h2:=by rw [ltOf_not] at *;unfold ltS at *;omega
theorem ltS_total (x y:Int) (h1:ltOf cmpS x y=false) (h2:ltOf cmpS y x=false):x=y:=by rw [ltOf_not] at *;unfold ltS at *;omega
def sortS (l:List Int):List Int:=l.mergeSort fun x y=>!(ltOf cmpS) y x
theorem sortS_length (l:List Int):(sortS l).length=l.length:=by simp [sortS]
theorem sort_row {w:World} {base:Nat} {ok:Nat→Prop} {v:Value} {l:List Int} (h:RI w base ok v l) (hl:l.length < 4611686018427387904) :
  Calls Try.prog 93 #[v,.func (.func 94) #[] #[]] w fun e w'=>e=.returned (.tuple #[])∧RI w' base ok v (sortS l)∧w.grownBy w' v.ownBlock:=by
 have ho:=own_of_R h
 rcases Nat.eq_zero_or_pos l.length with h0|h0
 ·obtain rfl:=List.eq_nil_of_length_eq_zero h0
  obtain ⟨A,c,rfl⟩:=own_slice ho
  refine (Try.slices_SortFunc_none (α:=Int) A c _ w).mono ?_
  rintro e w' ⟨rfl,rfl⟩
  exact ⟨rfl,by simpa [sortS] using h,grown_of_below (Below.refl _ _) _⟩
 ·rcases ho.2 with ⟨_,h1⟩|⟨g,cap,cur,rfl,hb,hh,h1,h2,h3,h4⟩
  ·omega
  ·have hH:=holds_of_blockI hh (by simpa using h4)
   refine (Try.slices_SortFunc_total (Value.int .i64) (fun _=>rfl) cmpS ltS_swo 94 #[] g 0 cap l.toArray w (enters_of Try.func94 (by kernel_rfl) rfl) (fun m os dk _ x y=>by simpa using compare_grow x y _) hH (Array.getElem?_eq_some_iff.1 hh).1 (by simpa using hl) ltS_total).mono ?_
   rintro e w' ⟨rfl,n,os,rfl⟩
   have hs:=sortS_length l
   refine ⟨rfl,R_of_own h.1 ?_,grownBy_sortedI _⟩
   rw [hs]
   exact ownsRow_sortedI hs hb hh h1 h2 h3
theorem clone_row {w:World} {A:Option Addr} {c:Nat} {l:List Int} (hr:Kd.C (Kd.int .i64) w A l.length l) (hl:l.length≤17592186044416) :
  Calls Try.prog 97 #[.slice A l.length c] w fun e w'=>∃ v,e=.returned v∧RI w' w.heap.size (fun _=>True) v l∧Below w.heap.size w w':=by
 rcases Nat.eq_zero_or_pos l.length with h0|h0
 ·obtain rfl:=List.eq_nil_of_length_eq_zero h0
  cases A with
  | none =>
   refine (Try.slices_Clone_int_nil _ c w).mono ?_
   rintro e w' ⟨rfl,rfl⟩
   exact ⟨_,rfl,Kd.R_nil _ _ _ _ _,Below.refl _ _⟩
  | some a =>
   refine (Try.slices_Clone_int_zero a c w).mono ?_
   rintro e w' ⟨v,rfl,ho,_,hb⟩
   exact ⟨v,rfl,R_of_own (fun _ _=>trivial) (by simpa using ho),hb⟩
 ·obtain ⟨b,off,rfl,_,hc⟩:=C_ints hr h0
  refine (Try.slices_Clone_int b off l.length c l w (Nat.le_refl _) (by omega) (fun j hj=>by rw [hc j hj];simp [List.getD,hj])).mono ?_
  rintro e w' ⟨v,rfl,ho,_,hb⟩
  exact ⟨v,rfl,R_of_own (fun _ _=>trivial) (by simpa using ho),hb⟩
theorem least1_calls (s:Int) (W:World):Calls Try.prog 98 #[.int .i64 s] W fun e w'=>e=.returned (.bool (!vld s))∧∃ q,w'=W.drewN q:=by
 go_enter Try.func98,Try.ntmps98
 go_wp2_with (go_at_call 59;(with_reducible refine (nodeset_Valid.calls s (vld s) _ (Valid_eq s)).mono ?_);rintro e w' ⟨rfl,⟨nd,rfl⟩⟩)
 go_ret
 exact ⟨rfl,_,rfl⟩
theorem delete_none (A:Option Addr) (c:Nat) (fv:Value) (w:World):Calls Try.prog 96 #[.slice A 0 c,fv] w fun e w'=>e=.returned (.slice A 0 c)∧w'=w:=by
 go_enter Try.func96,Try.ntmps96
 go_wp2_with (go_at_call 117;refine (Try.slices_IndexFunc_empty (α:=Int) A c fv _).mono ?_;rintro e w' ⟨rfl,rfl⟩)
 go_ret
 exact ⟨rfl,rfl⟩
theorem delete_row {w:World} {base:Nat} {ok:Nat→Prop} {v:Value} {l:List Int} (h:RI w base ok v l) (hl:l.length < 4611686018427387904) :
  Calls Try.prog 96 #[v,.func (.func 98) #[] #[]] w fun e w'=>∃ v',e=.returned v'∧RI w' base ok v' (l.filter vld)∧v'.ownBlock=v.ownBlock∧w.grownBy w' v.ownBlock:=by
 have ho:=own_of_R h
 rcases Nat.eq_zero_or_pos l.length with h0|h0
 ·obtain rfl:=List.eq_nil_of_length_eq_zero h0
  obtain ⟨A,c,rfl⟩:=own_slice ho
  refine (delete_none A c _ w).mono ?_
  rintro e w' ⟨rfl,rfl⟩
  exact ⟨_,rfl,by simpa using h,rfl,grown_of_below (Below.refl _ _) _⟩
 ·rcases ho.2 with ⟨_,h1⟩|⟨g,cap,cur,rfl,hb,hh,h1,h2,h3,h4⟩
  ·omega
  ·have hH:=holds_of_blockI hh (by simpa using h4)
   refine (Try.slices_DeleteFunc (Value.int .i64) (fun _=>rfl) (fun s=>!vld s) 98 #[] (enters_of Try.func98 (by kernel_rfl) rfl) 0 (fun _=>by kernel_rfl) g 0 cap l.toArray w (fun W x _=>by simpa [FnGives] using least1_calls x W) (fun n os dk x _=>by simpa [FnGives] using least1_calls x _) hH (by simp;unfold maxLen at h2;omega) (by simpa using h1)).mono ?_
   rintro e w' ⟨rfl,q,rfl⟩
   have hf:(l.toArray.toList.filter fun x=>!(!vld x))=l.filter vld:=by simp
   rw [hf]
   have hfl:=List.length_filter_le vld l
   have hgr:∀ d:Array Int,w.grownBy (putRow (Value.int .i64) (Sort.ahead w q) g 0 d) (some g):=fun d=>by
    have:=grownBy_sortedI (w:=w) (g:=g) (n:=q) (os:=#[]) d
    rwa [grow_empty] at this
   refine ⟨_,rfl,R_of_own (fun k hk=>h.1 k (by simpa [Value.ownBlock] using hk)) ?_,rfl,hgr _⟩
   have hz:((l.filter vld++List.replicate (l.toArray.size - (l.filter vld).length) (0:Int))).length=l.length:=by simp;omega
   have hs:=ownsRow_sortedI (n:=q) (os:=#[]) hz hb hh h1 h2 h3
   rw [grow_empty] at hs
   rcases hs.2 with ⟨hn,_⟩|⟨g',cap',cur',he,hb',hh',k1,k2,k3,k4⟩
   ·cases hn
   ·injection he with he1 he2 he3
    injection he1 with he1
    injection he1 with he1
    subst he1;subst he3
    refine ⟨by simp,.inr ⟨g,cap,cur',rfl,hb',hh',by omega,k2,k3,?_⟩⟩
    rw [Nat.mul_one] at k4 ⊢
    have h5:=congrArg (List.take (l.filter vld).length) k4
    rw [List.take_take,Nat.min_eq_left hfl,List.map_append,List.take_append_of_le_length (by simp)] at h5
    exact h5.trans (List.take_of_length_le (by simp))
def sub (t s:Int):Bool:=Go.bits .andNot .i64 t s == 0
def leastStep (out:List Int) (s:Int):List Int:=if (out.any fun t=>sub t s)=true then out else out++[s]
def leastFold (l:List Int):List Int:=l.foldl leastStep []
def leastS (l:List Int):List Int:=leastFold (sortS (l.filter vld))
def nodeset_Least.f (a0:List Int):Option (List Int):=if a0.length≤1048576 then some (leastS a0) else none
theorem leastFold_le (l:List Int):(leastFold l).length≤l.length:=by
 have h:∀ (l acc:List Int),(l.foldl leastStep acc).length≤acc.length+l.length:=by
  intro l
  induction l with
  | nil=>intro acc;simp
  | cons x r ih =>
   intro acc
   have:=ih (leastStep acc x)
   have h2:(leastStep acc x).length≤acc.length+1:=by unfold leastStep;split <;> simp
   simp only [List.foldl_cons,List.length_cons];omega
 simpa [leastFold] using h l []
theorem least2_calls (t s:Int) (B:Nat) (W:World) (hc:W.cell? ⟨B,0,none⟩=some (.int .i64 s)):Calls Try.prog 100 #[.int .i64 t,.pointer (some ⟨B,0,none⟩)] W fun e w'=>e=.returned (.bool (sub t s))∧∃ q,w'=W.drewN q:=by
 go_enter Try.func100,Try.ntmps100
 go_wp2
 go_ret
 exact ⟨rfl,0,rfl⟩
theorem contains_row {W:World} {A:Option Addr} {c:Nat} {l:List Int} {s:Int} {B:Nat} (hr:Kd.C (Kd.int .i64) W A l.length l) (hc:W.cell? ⟨B,0,none⟩=some (.int .i64 s)) :
  Calls Try.prog 99 #[.slice A l.length c,.func (.func 100) #[] #[.pointer (some ⟨B,0,none⟩)]] W fun e w'=>e=.returned (.bool (l.any fun t=>sub t s))∧∃ q,w'=W.drewN q:=by
 rcases Nat.eq_zero_or_pos l.length with h0|h0
 ·obtain rfl:=List.eq_nil_of_length_eq_zero h0
  refine (Try.slices_ContainsFunc_empty (α:=Int) A c _ W).mono ?_
  rintro e w' ⟨rfl,rfl⟩
  exact ⟨rfl,0,rfl⟩
 ·obtain ⟨b,off,rfl,_,hcc⟩:=C_ints hr h0
  have hB:=World.block_lt_of_cell? W _ hc
  refine (Try.slices_ContainsFunc (Value.int .i64) (fun t=>sub t s) 100 #[.pointer (some ⟨B,0,none⟩)] (enters_of Try.func100 (by kernel_rfl) rfl) b off l.length c l W (fun W' x hb=>least2_calls x s B W' ((hb.cell (p:=⟨B,0,none⟩) hB).trans hc)) (Nat.le_refl _) (C_max hr) hcc).mono ?_
  rintro e w' ⟨rfl,hq⟩
  rw [List.take_length]
  exact ⟨rfl,hq⟩
set_option maxHeartbeats 4000000 in
set_option maxRecDepth 100000 in
theorem nodeset_Least.calls (A0 : Option Addr) (c0 : Nat) (l0 : List Int) (r : List Int) (w : World) (hr0 : Kd.C (Kd.int .i64) w A0 l0.length l0) (hc0 : l0.length ≤ c0) (h : nodeset_Least.f l0 = some r) :
    Calls Try.prog 66 #[.slice A0 l0.length c0] w fun e w' => ∃ v0_ : Value, e = .returned (v0_) ∧ Kd.R (Kd.int .i64) 3 w' w.heap.size (fun _ => True) v0_ r ∧ Below w.heap.size w w' := by
  unfold nodeset_Least.f at h
  split at h
  case isFalse => cases h
  rename_i hlen
  obtain rfl := Option.some.inj h
  clear h
  have HL := Aside0.mk hlen
  have hfl := List.length_filter_le vld l0
  have HF : Aside0 ((l0.filter vld).length < 4611686018427387904) := ⟨by omega⟩
  have HR := Aside0.mk hr0
  clear hr0 hfl hlen
  unfold leastS
  obtain ⟨S, HS⟩ : ∃ S, Aside0 (S = sortS (l0.filter vld)) := ⟨_, ⟨rfl⟩⟩
  have HSl : Aside0 (S.length ≤ 1048576) := ⟨by rw [HS.out, sortS_length]; have := List.length_filter_le vld l0; have := HL.out; omega⟩
  rw [← HS.out]
  go_enter Try.func66, Try.ntmps66
  go_wp2_with (first
    | (go_at_call 97; refine (clone_row HR.out (by have := HL.out; omega)).mono ?_; rintro e w1 ⟨v1, rfl, h1, hb1⟩; have H1 := Aside0.mk h1; have B1 := Aside0.mk hb1; clear h1 hb1)
    | (go_at_call 96; refine (delete_row H1.out (by have := HL.out; omega)).mono ?_; rintro e w2 ⟨v2, rfl, h2, ho2, hg2⟩; have H2 := Aside0.mk h2; have B2 := Aside0.mk (B1.out.grown hg2 B1.out.size (own_base (own_of_R H1.out))); clear h2 ho2 hg2)
    | (go_at_call 93; refine (sort_row H2.out HF.out).mono ?_; rintro e w3 ⟨rfl, h3, hg3⟩; rw [← HS.out] at h3; have H3 := Aside0.mk h3; have B3 := Aside0.mk (B2.out.grown hg3 B2.out.size (own_base (own_of_R H2.out))); clear h3 hg3; obtain ⟨A2, c2, e2⟩ := Kd.R_slice H3.out; subst e2))
  have B1' := B1.out
  clear H1 H2 B1 B2 B1' HF HL HR
  go_loopw [3, 13] (fun o i wr => ∃ x : Int, i = .int .i64 x ∧ Aside0 (0 ≤ x ∧ x ≤ S.length) ∧ Aside0 (RI wr w.heap.size (fun _ => True) o (leastFold (S.take x.toNat))) ∧ Aside0 (RI wr w.heap.size (fun k => True ∧ some k ≠ o.ownBlock) (.slice A2 S.length c2) S) ∧ Aside0 (RowKit.Below w.heap.size w wr)) (fun _ i _ => S.length - (intOf i).toNat)
  case atStart => exact ⟨0, rfl, ⟨by omega⟩, ⟨Kd.R_nil _ _ _ _ _⟩, ⟨Kd.R_mono H3.out (fun k _ => ⟨trivial, by simp [Value.ownBlock]⟩)⟩, B3⟩
  case round =>
    obtain ⟨x, rfl, Hx, HO, HS3, HB⟩ := hrel
    clear H3 B3
    obtain ⟨ob, rfl⟩ : ∃ ob, ob = wr := ⟨_, rfl⟩
    by_cases hlt : x < S.length
    · have hd : decide (x < (S.length : Int)) = true := decide_eq_true hlt
      have p0 := Hx.out.1
      obtain ⟨F, HF⟩ : ∃ F, Aside0 (F = leastFold (S.take x.toNat)) := ⟨_, ⟨rfl⟩⟩
      rw [← HF.out] at HO
      obtain ⟨A, c, e0⟩ := Kd.R_slice HO.out
      subst e0
      obtain ⟨ad, ea, hx⟩ := Kd.at_int (Kd.R_reads' HS3.out).2.2 x p0 hlt
      cases ea
      obtain ⟨y, Hy⟩ : ∃ y, Aside0 (y = rd S x) := ⟨_, ⟨rfl⟩⟩
      rw [← Hy.out] at hx
      obtain ⟨b, Hb⟩ : ∃ b, Aside0 (b = F.any fun t => sub t y) := ⟨_, ⟨rfl⟩⟩
      have Hlt := Aside0.mk hlt
      have HFl : Aside0 (F.length ≤ 1048576) := ⟨by rw [HF.out]; have := leastFold_le (S.take x.toNat); have := HSl.out; simp at *; omega⟩
      have Hnext : Aside0 (leastFold (S.take (wrap64 (x + 1)).toNat) = leastStep F y ∧ wrap64 (x + 1) = x + 1) := by
        have h1 : wrap64 (x + 1) = x + 1 := by unfold wrap64; have := HSl.out; omega
        refine ⟨?_, h1⟩
        have h2 : (x + 1).toNat = x.toNat + 1 := by omega
        have h3 : x.toNat < S.length := by omega
        have h4 : Go.Proofs.YtkjlcbfjllpcnaaW.PrintWords.rd S x = S[x.toNat] := by simp [Go.Proofs.YtkjlcbfjllpcnaaW.PrintWords.rd, List.getD, h3]
        rw [h1, h2, HF.out, Hy.out, h4, List.take_succ_eq_append_getElem h3]
        unfold leastFold
        rw [List.foldl_append]
        rfl
      replace hlt := eq_true hlt
      replace p0 := eq_true p0
      cases b
      all_goals
        go_wp2_with (first
          | (go_at_call 99; refine (contains_row (s := y) (B := ob.heap.size) (Kd.R_reads' (Kd.R_alloc HO.out _)).2.2 (by simp)).mono ?_; rintro e w1 ⟨he, hq⟩; rw [← Hb.out] at he; subst he; have HO1 : Aside0 (RI w1 w.heap.size (fun _ => True) (.slice A F.length c) F) := (by obtain ⟨q, rfl⟩ := hq; exact ⟨Kd.R_drewN (Kd.R_alloc HO.out _) _⟩); have HS1 : Aside0 (RI w1 w.heap.size (fun k => True ∧ some k ≠ (Value.slice A F.length c).ownBlock) (.slice (some ad) S.length c2) S) := (by obtain ⟨q, rfl⟩ := hq; exact ⟨Kd.R_drewN (Kd.R_alloc HS3.out _) _⟩); have HB1 : Aside0 (RowKit.Below w.heap.size w w1) := (by obtain ⟨q, rfl⟩ := hq; exact ⟨wN (wA HB.out _) _⟩); have hcl : w1.cell? ⟨ob.heap.size, 0, none⟩ = some (.int .i64 y) := (by obtain ⟨q, rfl⟩ := hq; simp); clear hq)
          | (at_builtin; go_loud (refine Kd.R_append (Kd.int .i64) (w0 := w) w.heap.size rfl (.tmp 21) (.tmp 23) 22 3 (.int .i64 0) 8 rfl Try.underlying22 info3 rfl (by decide) (by omega) (.slice A F.length c) F y [.int .i64 y] (fun _ => True) (fun _ => False) rfl rfl ?aP (fun _ hk => hk.elim) (fun _ _ => trivial) ?aO ?aB ?aS ?aL ?_; (case aP => exact rfl); (case aO => exact HO1.out); (case aB => exact HB1.out); (case aS => exact HB1.out.size); (case aL => have := HFl.out; omega); intro v4 w4 h4 hb4 hg4 hat4; have H4 := Aside0.mk h4; have B4 := Aside0.mk hb4; have HS4 := Aside0.mk (Kd.R_after HS1.out hg4 hat4); clear h4 hb4 hg4 hat4)))
        go_roundw
        case rel =>
          first
          | exact ⟨wrap64 (x + 1), rfl, ⟨by have := Hnext.out.2; have := Hlt.out; have := Hx.out; omega⟩, ⟨by rw [Hnext.out.1]; unfold leastStep; rw [← Hb.out]; exact H4.out⟩, HS4, B4⟩
          | exact ⟨wrap64 (x + 1), rfl, ⟨by have := Hnext.out.2; have := Hlt.out; have := Hx.out; omega⟩, ⟨by rw [Hnext.out.1]; unfold leastStep; rw [← Hb.out]; exact HO1.out⟩, HS1, HB1⟩
        case measure => have h1 := Hnext.out.2; have := Hlt.out; have := Hx.out; simp only [intOf]; simp [h1]; omega
    · have hd : decide (x < (S.length : Int)) = false := decide_eq_false hlt
      have Hlt := Aside0.mk hlt
      clear hlt
      go_wp2
      go_ret
      have hx : x = S.length := by have := Hx.out; have := Hlt.out; omega
      rw [hx] at HO
      exact ⟨_, rfl, by simpa using HO.out, HB.out⟩
end Go.Proofs.Ytkjlcbfjllpcnaa.X
namespace Go.Proofs.Ytkjlcbfjllpcnaa.X
open Go.RowKit Go.Proofs.YtkjlcbfjllpcnaaW.PrintWords Go.Proofs.YtkjlcbfjllpcnaaW.PrintLast Go.Proofs.YtkjlcbfjllpcnaaW.PrintMore
attribute [local go_sem] max2_int min2_int max_two min_two max_three min_three max_four min_four
set_option linter.unusedVariables false
set_option linter.unusedSimpArgs false
def quorums_Minimal.f (k:Nat) (l0_0:List (S34)):Option (List Int × Int):=(configuration_Valid.f k l0_0).bind fun t648=>(if t648=0 then ((quorums_all.f k l0_0).bind fun t649=>((nodeset_Least.f t649).bind fun t652=>(some (t652,0)))) else (some (([]:List Int),t648)))
set_option maxHeartbeats 8000000 in
set_option maxRecDepth 100000 in
theorem quorums_Minimal.calls (k:Nat) (A0_0:Option Addr) (c0_0:Nat) (l0_0:List (S34)) (r1:List Int) (r2:Int) (w:World) (hr0_0:Kd.C k34 w A0_0 l0_0.length l0_0) (hc0_0:l0_0.length≤c0_0) (h:quorums_Minimal.f k l0_0=some (r1,r2)) :
  Calls Try.prog 36 #[.agg #[.slice A0_0 l0_0.length c0_0]] w fun e w'=>∃ v0_:Value,e=.returned (.tuple #[v0_,.int .i64 r2])∧Kd.R (Kd.int .i64) 3 w' w.heap.size (fun _=>True) v0_ r1∧Below w.heap.size w w':=by
 have hu27:=Try.underlying27
 have HR0_0:=Z hr0_0
 have HC0_0:=Z hc0_0
 clear hr0_0 hc0_0
 have HB:=Z (Below.refl w.heap.size w)
 have H:((configuration_Valid.f k l0_0).bind fun t648=>(if t648=0 then ((quorums_all.f k l0_0).bind fun t649=>((nodeset_Least.f t649).bind fun t652=>(some (t652,0)))) else (some (([]:List Int),t648))))=some (r1,r2):=h
 clear h
 replace H:=Option.bind_eq_some_iff.mp H
 obtain ⟨t648,A20,H⟩:=H
 try dsimp only at H
 have A2:=Z A20
 clear A20
 by_cases c3:t648=0
 ·rw [if_pos c3] at H
  have c3b0:(t648 == 0)=true:=beq_iff_eq.mpr c3
  have c3b1:(t648 != 0)=false:=bne_eq_false_iff_eq.mpr c3
  clear c3
  replace H:=Option.bind_eq_some_iff.mp H
  obtain ⟨t649,A40,H⟩:=H
  try dsimp only at H
  have A4:=Z A40
  clear A40
  replace H:=Option.bind_eq_some_iff.mp H
  obtain ⟨t652,A50,H⟩:=H
  try dsimp only at H
  have A5:=Z A50
  clear A50
  simp only [Option.some.injEq,Prod.mk.injEq] at H
  obtain ⟨rfl,rfl⟩:=H
  go_enter Try.func36,Try.ntmps36
  go_wp2_with (first|((with_reducible refine gate_dst (N:=1) rfl ?_);refine box_event ?hg (N:=1) ?hd (cs:=#[.slice A0_0 l0_0.length c0_0]) (t:=27) ?hr ?_;(case hd=>rfl);(case hg=>rfl);(case hr=>first|(go_simp;done)|(go_simp;rfl));intro gb647 hg w6 hbox hb;have n0_:=Z (below_step pB hb);have n1_:=Z (hbox);have n2_:=Z ((pT hg:w.heap.size≤gb647));have n3_:=Z ((pT hg:w.heap.size≤gb647));clear HB;have HB:=n0_;have BK647:=n1_;have GW647:=n2_;have GE647:=n3_;clear n0_ n1_ n2_ n3_;clear hb hbox hg;have hcz7_0:w6.cell? ⟨gb647,0,none⟩=some (.slice A0_0 l0_0.length c0_0):=(kC BK647.out 0).trans rfl;have hfz7_0:=kF BK647.out 0)|((with_reducible refine gate_callee (f:=63) rfl ?_);refine goesL_ (some 6) rfl rfl Try.func63 (by kernel_rfl) rfl #[.agg #[.slice A0_0 l0_0.length c0_0]] rfl pG ?_;(with_reducible refine (configuration_Valid.calls k _ _ l0_0 t648 _ ?side1 ?side2 A2.out).mono ?_);(case side1=>repeat (first|exact (Kd.C_below HR0_0.out HB.out)|(with_reducible refine Kd.C_alloc ?_ _)|(with_reducible refine Kd.C_drewN ?_ _)|(with_reducible refine Kd.C_drew ?_)));(case side2=>exact HC0_0.out);rintro e w8 ⟨rfl,hb⟩;refine ⟨_,rfl,?_⟩;have n0_:=Z (blk_below (g:=gb647) (o:=.cells #[.slice A0_0 l0_0.length c0_0] 27 (0,0)) (pK BK647) hb);have n1_:=Z (below_step pB hb);clear BK647;clear HB;have BK647:=n0_;have HB:=n1_;clear n0_ n1_;(try clear hb);(try clear hb2);(try clear hk);(try clear hi);have hcz9_0:w8.cell? ⟨gb647,0,none⟩=some (.slice A0_0 l0_0.length c0_0):=(kC BK647.out 0).trans rfl;have hfz9_0:=kF BK647.out 0)|((with_reducible refine gate_callee (f:=75) rfl ?_);refine goesL_ (some 11) rfl rfl Try.func75 (by kernel_rfl) rfl #[.agg #[.slice A0_0 l0_0.length c0_0]] rfl pG ?_;(with_reducible refine (quorums_all.calls k _ _ l0_0 t649 _ ?side1 ?side2 A4.out).mono ?_);(case side1=>repeat (first|exact (Kd.C_below HR0_0.out HB.out)|(with_reducible refine Kd.C_alloc ?_ _)|(with_reducible refine Kd.C_drewN ?_ _)|(with_reducible refine Kd.C_drew ?_)));(case side2=>exact HC0_0.out);rintro e w10 ⟨v650,rfl,ho0,hb⟩;refine ⟨_,rfl,?_⟩;have n0_:=Z (Kd.R_lower ho0 (below_size pB));have n1_:=Z (blk_below (g:=gb647) (o:=.cells #[.slice A0_0 l0_0.length c0_0] 27 (0,0)) (pK BK647) hb);have n2_:=Z (below_step pB hb);clear BK647;clear HB;have HO651:=n0_;have BK647:=n1_;have HB:=n2_;clear n0_ n1_ n2_;(try clear hb);(try clear hb2);(try clear hk);(try clear hi);(try clear ho0);obtain ⟨Ao11,co11,eo11⟩:=Kd.R_slice HO651.out;subst eo11)|((with_reducible refine gate_callee (f:=66) rfl ?_);refine goesL_ (some 12) rfl rfl Try.func66 (by kernel_rfl) rfl #[.slice Ao11 t649.length co11] rfl pG ?_;(with_reducible refine (nodeset_Least.calls _ _ t649 t652 _ ?side1 ?side2 A5.out).mono ?_);(case side1=>repeat (first|exact (Kd.R_reads' HO651.out).2.2|(with_reducible refine Kd.C_alloc ?_ _)|(with_reducible refine Kd.C_drewN ?_ _)|(with_reducible refine Kd.C_drew ?_)));(case side2=>exact (Kd.R_reads' HO651.out).2.1);rintro e w12 ⟨v653,rfl,ho0,hb⟩;refine ⟨_,rfl,?_⟩;have n0_:=Z (Kd.R_elder' (pR HO651) (Kd.R_base ho0) hb);have n1_:=Z (Kd.R_lower (Kd.R_new' ho0 (Kd.R_lt (pR HO651))) (below_size pB));have n2_:=Z (blk_below (g:=gb647) (o:=.cells #[.slice A0_0 l0_0.length c0_0] 27 (0,0)) (pK BK647) hb);have n3_:=Z (below_step pB hb);clear HO651;clear BK647;clear HB;have HO651:=n0_;have HO654:=n1_;have BK647:=n2_;have HB:=n3_;clear n0_ n1_ n2_ n3_;(try clear hb);(try clear hb2);(try clear hk);(try clear hi);(try clear ho0)))
  go_ret2
  exact ⟨_,pF,by (with_reducible repeat (first|apply Kd.R_alloc|apply Kd.R_drewN|apply Kd.R_drew));exact Kd.R_mono HO654.out (fun _ hk=>trivial),pB⟩
 ·rw [if_neg c3] at H
  have c3b0:(t648 == 0)=false:=beq_eq_false_iff_ne.mpr c3
  have c3b1:(t648 != 0)=true:=bne_iff_ne.mpr c3
  simp only [Option.some.injEq,Prod.mk.injEq] at H
  obtain ⟨rfl,rfl⟩:=H
  go_enter Try.func36,Try.ntmps36
  go_wp2_with (first|((with_reducible refine gate_dst (N:=1) rfl ?_);refine box_event ?hg (N:=1) ?hd (cs:=#[.slice A0_0 l0_0.length c0_0]) (t:=27) ?hr ?_;(case hd=>rfl);(case hg=>rfl);(case hr=>first|(go_simp;done)|(go_simp;rfl));intro gb647 hg w13 hbox hb;have n0_:=Z (below_step pB hb);have n1_:=Z (hbox);have n2_:=Z ((pT hg:w.heap.size≤gb647));have n3_:=Z ((pT hg:w.heap.size≤gb647));clear HB;have HB:=n0_;have BK647:=n1_;have GW647:=n2_;have GE647:=n3_;clear n0_ n1_ n2_ n3_;clear hb hbox hg;have hcz14_0:w13.cell? ⟨gb647,0,none⟩=some (.slice A0_0 l0_0.length c0_0):=(kC BK647.out 0).trans rfl;have hfz14_0:=kF BK647.out 0)|((with_reducible refine gate_callee (f:=63) rfl ?_);refine goesL_ (some 6) rfl rfl Try.func63 (by kernel_rfl) rfl #[.agg #[.slice A0_0 l0_0.length c0_0]] rfl pG ?_;(with_reducible refine (configuration_Valid.calls k _ _ l0_0 t648 _ ?side1 ?side2 A2.out).mono ?_);(case side1=>repeat (first|exact (Kd.C_below HR0_0.out HB.out)|(with_reducible refine Kd.C_alloc ?_ _)|(with_reducible refine Kd.C_drewN ?_ _)|(with_reducible refine Kd.C_drew ?_)));(case side2=>exact HC0_0.out);rintro e w15 ⟨rfl,hb⟩;refine ⟨_,rfl,?_⟩;have n0_:=Z (blk_below (g:=gb647) (o:=.cells #[.slice A0_0 l0_0.length c0_0] 27 (0,0)) (pK BK647) hb);have n1_:=Z (below_step pB hb);clear BK647;clear HB;have BK647:=n0_;have HB:=n1_;clear n0_ n1_;(try clear hb);(try clear hb2);(try clear hk);(try clear hi)))
  go_ret2
  exact ⟨_,pF,pN,pB⟩
mutual
def quorums_Parts.l0:Nat→List Int→List Int→Int→Int→List (S34)→Option (List Int × Int)
 | 0,_,_,_,_,_=>none
 | k+1,x5,x26,x27,x28,x683000=>if x28 < x27 then (if 0≤x28 then (if x28 < (x26.length:Int) then ((quorums_reached.f k x683000 (rd x26 x28)).bind fun t692=>(if 0≤(rd x26 x28) then (if (rd x26 x28) < (x5.length:Int) then (quorums_Parts.l0 k (x5.set ((rd x26 x28):Int).toNat t692) x26 x27 (wrap64 (x28+1)) x683000) else (none)) else (none))) else (none)) else (none)) else (quorums_Parts.l1 k x5 ([]:List Int) 0 x5 (x5.length:Int) 0)
def quorums_Parts.l1:Nat→List Int→List Int→Int→List Int→Int→Int→Option (List Int × Int)
 | 0,_,_,_,_,_,_=>none
 | k+1,x5,x8,x9,x39,x40,x41=>if x41 < x40 then (if 0≤x41 then (if x41 < (x39.length:Int) then (if (Go.bits .and .i64 x9 (shl .i64 1 x41))=0 then (quorums_Parts.j2 k x5 x8 x9 x41 (rd x39 x41) x39 x40 x41 ((rd x39 x41) == 0)) else (quorums_Parts.j2 k x5 x8 x9 x41 (rd x39 x41) x39 x40 x41 true)) else (none)) else (none)) else (some (x8,0))
def quorums_Parts.j2:Nat→List Int→List Int→Int→Int→Int→List Int→Int→Int→Bool→Option (List Int × Int)
 | 0,_,_,_,_,_,_,_,_,_=>none
 | k+1,x5,x8,x9,x10,x11,x39,x40,x41,x54=>if x54=true then (quorums_Parts.l1 k x5 x8 x9 x39 x40 (wrap64 (x41+1))) else ((nodeset_Nodes.f k x11).bind fun t695=>(quorums_Parts.l2 k x5 x8 x9 x10 0 x39 x40 x41 t695 (t695.length:Int) 0))
def quorums_Parts.l2:Nat→List Int→List Int→Int→Int→Int→List Int→Int→Int→List Int→Int→Int→Option (List Int × Int)
 | 0,_,_,_,_,_,_,_,_,_,_,_=>none
 | k+1,x5,x8,x9,x10,x12,x39,x40,x41,x56,x57,x58=>if x58 < x57 then (if 0≤x58 then (if x58 < (x56.length:Int) then (if 0≤(rd x56 x58) then (if (rd x56 x58) < (x5.length:Int) then ((nodeset_Has.f (rd x5 (rd x56 x58)) x10).bind fun t700=>(if t700=true then (quorums_Parts.l2 k x5 x8 x9 x10 (Go.bits .or .i64 x12 (shl .i64 1 (rd x56 x58))) x39 x40 x41 x56 x57 (wrap64 (x58+1))) else (quorums_Parts.l2 k x5 x8 x9 x10 x12 x39 x40 x41 x56 x57 (wrap64 (x58+1))))) else (none)) else (none)) else (none)) else (none)) else (if x8.length < 17592186044416 then (quorums_Parts.l1 k x5 (x8++[x12]) (Go.bits .or .i64 x9 x12) x39 x40 (wrap64 (x41+1))) else (none))
end
def quorums_Parts.f (k:Nat) (l0_0:List (S34)):Option (List Int × Int):=(configuration_Valid.f k l0_0).bind fun t683=>(if t683=0 then (if 0≤(l0_0.length:Int) then (if ((l0_0.length:Int):Int).toNat≤35184372088832 then ((configuration_Declared.f k l0_0).bind fun t687=>((nodeset_Nodes.f k t687).bind fun t688=>(quorums_Parts.l0 k (List.replicate ((l0_0.length:Int):Int).toNat 0) t688 (t688.length:Int) 0 l0_0))) else (none)) else (none)) else (some (([]:List Int),t683)))
set_option maxHeartbeats 8000000 in
set_option maxRecDepth 100000 in
theorem quorums_Parts.calls (k:Nat) (A0_0:Option Addr) (c0_0:Nat) (l0_0:List (S34)) (r1:List Int) (r2:Int) (w:World) (hr0_0:Kd.C k34 w A0_0 l0_0.length l0_0) (hc0_0:l0_0.length≤c0_0) (h:quorums_Parts.f k l0_0=some (r1,r2)) :
  Calls Try.prog 39 #[.agg #[.slice A0_0 l0_0.length c0_0]] w fun e w'=>∃ v0_:Value,e=.returned (.tuple #[v0_,.int .i64 r2])∧Kd.R (Kd.int .i64) 3 w' w.heap.size (fun _=>True) v0_ r1∧Below w.heap.size w w':=by
 have hu27:=Try.underlying27
 have HR0_0:=Z hr0_0
 have HC0_0:=Z hc0_0
 clear hr0_0 hc0_0
 have HB:=Z (Below.refl w.heap.size w)
 have H:((configuration_Valid.f k l0_0).bind fun t683=>(if t683=0 then (if 0≤(l0_0.length:Int) then (if ((l0_0.length:Int):Int).toNat≤35184372088832 then ((configuration_Declared.f k l0_0).bind fun t687=>((nodeset_Nodes.f k t687).bind fun t688=>(quorums_Parts.l0 k (List.replicate ((l0_0.length:Int):Int).toNat 0) t688 (t688.length:Int) 0 l0_0))) else (none)) else (none)) else (some (([]:List Int),t683))))=some (r1,r2):=h
 clear h
 replace H:=Option.bind_eq_some_iff.mp H
 obtain ⟨t683,A20,H⟩:=H
 try dsimp only at H
 have A2:=Z A20
 clear A20
 by_cases c3:t683=0
 ·rw [if_pos c3] at H
  have c3b0:(t683 == 0)=true:=beq_iff_eq.mpr c3
  have c3b1:(t683 != 0)=false:=bne_eq_false_iff_eq.mpr c3
  clear c3
  by_cases c4:0≤(l0_0.length:Int)
  ·rw [if_pos c4] at H
   have c4b0:=eq_true c4
   have c4b1:decide (0≤(l0_0.length:Int))=true:=decide_eq_true c4
   clear c4
   by_cases c5:((l0_0.length:Int):Int).toNat≤35184372088832
   ·rw [if_pos c5] at H
    have c5b0:=eq_true c5
    have c5b1:decide (((l0_0.length:Int):Int).toNat≤35184372088832)=true:=decide_eq_true c5
    clear c5
    obtain ⟨y684,hy684⟩:∃ y_:List Int,y_=(List.replicate ((l0_0.length:Int):Int).toNat 0):=⟨_,rfl⟩
    first|rw [← hy684] at H|(replace H:=(Option.bind_some _ _).symm.trans H;rw [← hy684] at H)
    have Ny684:=Z hy684
    clear hy684
    replace H:=Option.bind_eq_some_iff.mp H
    obtain ⟨t687,A60,H⟩:=H
    try dsimp only at H
    have A6:=Z A60
    clear A60
    replace H:=Option.bind_eq_some_iff.mp H
    obtain ⟨t688,A70,H⟩:=H
    try dsimp only at H
    have A7:=Z A70
    clear A70
    have H':=Z H
    clear H
    go_enter Try.func39,Try.ntmps39
    go_wp2_with (first|((with_reducible refine gate_dst (N:=1) rfl ?_);refine box_event ?hg (N:=1) ?hd (cs:=#[.slice A0_0 l0_0.length c0_0]) (t:=27) ?hr ?_;(case hd=>rfl);(case hg=>rfl);(case hr=>first|(go_simp;done)|(go_simp;rfl));intro gb682 hg w8 hbox hb;have n0_:=Z (below_step pB hb);have n1_:=Z (hbox);have n2_:=Z ((pT hg:w.heap.size≤gb682));have n3_:=Z ((pT hg:w.heap.size≤gb682));clear HB;have HB:=n0_;have BK682:=n1_;have GW682:=n2_;have GE682:=n3_;clear n0_ n1_ n2_ n3_;clear hb hbox hg;have hcz9_0:w8.cell? ⟨gb682,0,none⟩=some (.slice A0_0 l0_0.length c0_0):=(kC BK682.out 0).trans rfl;have hfz9_0:=kF BK682.out 0)|((with_reducible refine gate_callee (f:=63) rfl ?_);refine goesL_ (some 16) rfl rfl Try.func63 (by kernel_rfl) rfl #[.agg #[.slice A0_0 l0_0.length c0_0]] rfl pG ?_;(with_reducible refine (configuration_Valid.calls k _ _ l0_0 t683 _ ?side1 ?side2 A2.out).mono ?_);(case side1=>repeat (first|exact (Kd.C_below HR0_0.out HB.out)|(with_reducible refine Kd.C_alloc ?_ _)|(with_reducible refine Kd.C_drewN ?_ _)|(with_reducible refine Kd.C_drew ?_)));(case side2=>exact HC0_0.out);rintro e w10 ⟨rfl,hb⟩;refine ⟨_,rfl,?_⟩;have n0_:=Z (blk_below (g:=gb682) (o:=.cells #[.slice A0_0 l0_0.length c0_0] 27 (0,0)) (pK BK682) hb);have n1_:=Z (below_step pB hb);clear BK682;clear HB;have BK682:=n0_;have HB:=n1_;clear n0_ n1_;(try clear hb);(try clear hb2);(try clear hk);(try clear hi);have hcz11_0:w10.cell? ⟨gb682,0,none⟩=some (.slice A0_0 l0_0.length c0_0):=(kC BK682.out 0).trans rfl;have hfz11_0:=kF BK682.out 0)|((with_reducible refine gate_dst (N:=23) rfl ?_);refine Kd.R_make (Kd.int .i64) _ 3 rfl (N:=23) rfl 22 _ _ rfl (l0_0.length:Int) rfl rfl Try.underlying22 (.int .i64 0) 8 info3 rfl (by decide) (by omega) 0 (ok:=fun _=>True) (okp:=fun _=>True) rfl (fun _ hk=>hk) trivial (of_decide_eq_true (by first|(with_reducible assumption)|assumption)) (Nat.le_trans (Nat.mul_le_mul_right _ (of_decide_eq_true (by first|(with_reducible assumption)|assumption):(l0_0.length:Int).toNat≤35184372088832)) (by omega)) (Below.refl _ _) (Nat.le_refl _) ?_;intro v685 w12 ho13 hb hg_ hnew_;clear hg_ hnew_;(first|rw [← Ny684.out] at ho13|(simp only [Int.reduceToNat] at ho13;rw [← Ny684.out] at ho13));have n0_:=Z (Kd.R_lower ho13 (below_size pB));have n1_:=Z (blk_below (g:=gb682) (o:=.cells #[.slice A0_0 l0_0.length c0_0] 27 (0,0)) (pK BK682) hb);have n2_:=Z (below_step pB hb);clear BK682;clear HB;have HO686:=n0_;have BK682:=n1_;have HB:=n2_;clear n0_ n1_ n2_;clear hb ho13;have hcz14_0:w12.cell? ⟨gb682,0,none⟩=some (.slice A0_0 l0_0.length c0_0):=(kC BK682.out 0).trans rfl;have hfz14_0:=kF BK682.out 0)|((with_reducible refine gate_callee (f:=61) rfl ?_);refine goesL_ (some 25) rfl rfl Try.func61 (by kernel_rfl) rfl #[.agg #[.slice A0_0 l0_0.length c0_0]] rfl pG ?_;(with_reducible refine (configuration_Declared.calls k _ _ l0_0 t687 _ ?side1 ?side2 A6.out).mono ?_);(case side1=>repeat (first|exact (Kd.C_below HR0_0.out HB.out)|(with_reducible refine Kd.C_alloc ?_ _)|(with_reducible refine Kd.C_drewN ?_ _)|(with_reducible refine Kd.C_drew ?_)));(case side2=>exact HC0_0.out);rintro e w15 ⟨rfl,hb⟩;refine ⟨_,rfl,?_⟩;have n0_:=Z (Kd.R_below (pR HO686) hb);have n1_:=Z (blk_below (g:=gb682) (o:=.cells #[.slice A0_0 l0_0.length c0_0] 27 (0,0)) (pK BK682) hb);have n2_:=Z (below_step pB hb);clear HO686;clear BK682;clear HB;have HO686:=n0_;have BK682:=n1_;have HB:=n2_;clear n0_ n1_ n2_;(try clear hb);(try clear hb2);(try clear hk);(try clear hi))|((with_reducible refine gate_callee (f:=77) rfl ?_);refine goesL_ (some 26) rfl rfl Try.func77 (by kernel_rfl) rfl #[.int .i64 t687] rfl pG ?_;(with_reducible refine (nodeset_Nodes.calls k t687 t688 _ A7.out).mono ?_);rintro e w16 ⟨v689,rfl,ho0,hb⟩;refine ⟨_,rfl,?_⟩;have n0_:=Z (Kd.R_elder' (pR HO686) (Kd.R_base ho0) hb);have n1_:=Z (Kd.R_lower (Kd.R_new' ho0 (Kd.R_lt (pR HO686))) (below_size pB));have n2_:=Z (blk_below (g:=gb682) (o:=.cells #[.slice A0_0 l0_0.length c0_0] 27 (0,0)) (pK BK682) hb);have n3_:=Z (below_step pB hb);clear HO686;clear BK682;clear HB;have HO686:=n0_;have HO690:=n1_;have BK682:=n2_;have HB:=n3_;clear n0_ n1_ n2_ n3_;(try clear hb);(try clear hb2);(try clear hk);(try clear hi);(try clear ho0);obtain ⟨Ao17,co17,eo17⟩:=Kd.R_slice HO690.out;subst eo17))
    go_loopg [28] k (fun kq v28 w'=>∃ (x5_1:List Int) (x28_1:Int),v28=.int .i64 x28_1∧Aside0 (quorums_Parts.l0 kq x5_1 t688 (t688.length:Int) x28_1 l0_0=some (r1,r2))∧Aside0 (kq≤k)∧Aside0 (Kd.R (Kd.int .i64) 3 w' w.heap.size (fun k_=>some k_ ≠ ((.slice Ao17 t688.length co17):Value).ownBlock) v685 x5_1)∧Aside0 (Kd.R (Kd.int .i64) 3 w' w.heap.size (fun k_=>some k_ ≠ (v685:Value).ownBlock) (.slice Ao17 t688.length co17) t688)∧Aside0 (w'.heap[gb682]?=some (.cells #[(.slice A0_0 l0_0.length c0_0)] 27 (0,0)))∧Aside0 (Below w.heap.size w w'))
    case atStart=>exact ⟨(y684),(0),pE,H',⟨Nat.le_refl _⟩,⟨by (with_reducible repeat (first|apply Kd.R_alloc|apply Kd.R_drewN|apply Kd.R_drew));exact Kd.R_mono HO686.out (fun _ hk=>hk.2)⟩,⟨by (with_reducible repeat (first|apply Kd.R_alloc|apply Kd.R_drewN|apply Kd.R_drew));exact Kd.R_mono HO690.out (fun _ hk=>hk.2)⟩,⟨pK BK682⟩,⟨pB⟩⟩
    case round =>
     clear H'
     try clear p2
     try clear c3
     try clear c3b0
     try clear c3b1
     try clear c4
     try clear c4b0
     try clear c4b1
     try clear c5
     try clear c5b0
     try clear c5b1
     try clear c6
     try clear c7
     try clear hcz11_0
     try clear hcz14_0
     try clear hcz9_0
     try clear hfz11_0
     try clear hfz14_0
     try clear hfz9_0
     obtain ⟨x5_1,x28_1,rfl,HA,HK1,HO_5,HO_26,BK682,HB⟩:=hrel
     cases gk with
     | zero=>exact absurd HA.out (by simp [quorums_Parts.l0])
     | succ k1 =>
      have H:=HA.out
      clear HA
      simp only [quorums_Parts.l0] at H
      by_cases c18:x28_1 < (t688.length:Int)
      ·rw [if_pos c18] at H
       have c18b0:decide (x28_1 < (t688.length:Int))=true:=decide_eq_true c18
       clear c18
       by_cases c19:0≤x28_1
       ·rw [if_pos c19] at H
        have c19b0:decide (0≤x28_1)=true:=decide_eq_true c19
        clear c19
        by_cases c20:x28_1 < (t688.length:Int)
        ·rw [if_pos c20] at H
         have c20b0:decide (x28_1 < (t688.length:Int))=true:=decide_eq_true c20
         clear c20
         replace H:=Option.bind_eq_some_iff.mp H
         obtain ⟨t692,A210,H⟩:=H
         try dsimp only at H
         have A21:=Z A210
         clear A210
         by_cases c22:0≤(rd t688 x28_1)
         ·rw [if_pos c22] at H
          have c22b0:decide (0≤(rd t688 x28_1))=true:=decide_eq_true c22
          clear c22
          by_cases c23:(rd t688 x28_1) < (x5_1.length:Int)
          ·rw [if_pos c23] at H
           have c23b0:decide ((rd t688 x28_1) < (x5_1.length:Int))=true:=decide_eq_true c23
           clear c23
           obtain ⟨y693,hy693⟩:∃ y_:List Int,y_=(x5_1.set ((rd t688 x28_1):Int).toNat t692):=⟨_,rfl⟩
           first|rw [← hy693] at H|(replace H:=(Option.bind_some _ _).symm.trans H;rw [← hy693] at H)
           have Ny693:=Z hy693
           clear hy693
           have H':=Z H
           clear H
           have p691:0≤(x28_1:Int):=of_decide_eq_true (by first|(with_reducible assumption)|assumption)
           have q691:x28_1 < (t688.length:Int):=of_decide_eq_true (by first|(with_reducible assumption)|assumption)
           obtain ⟨ad691,e691,hx691_0⟩:=Kd.at_int (Kd.R_reads' HO_26.out).2.2 x28_1 p691 q691
           cases e691
           replace p691:=eq_true p691
           replace q691:=eq_true q691
           have hcz25_0:wr.cell? ⟨gb682,0,none⟩=some (.slice A0_0 l0_0.length c0_0):=(kC BK682.out 0).trans rfl
           have hfz25_0:=kF BK682.out 0
           go_wp2_with (first|((with_reducible refine gate_callee (f:=78) rfl ?_);refine goesL_ (some 36) rfl rfl Try.func78 (by kernel_rfl) rfl #[.agg #[.slice A0_0 l0_0.length c0_0],.int .i64 (rd t688 x28_1)] rfl pG ?_;(with_reducible refine (quorums_reached.calls k1 _ _ l0_0 (rd t688 x28_1) t692 _ ?side1 ?side2 A21.out).mono ?_);(case side1=>repeat (first|exact (Kd.C_below HR0_0.out HB.out)|(with_reducible refine Kd.C_alloc ?_ _)|(with_reducible refine Kd.C_drewN ?_ _)|(with_reducible refine Kd.C_drew ?_)));(case side2=>exact HC0_0.out);rintro e w26 ⟨rfl,hb⟩;refine ⟨_,rfl,?_⟩;have n0_:=Z (Kd.R_below (pR HO_5) hb);have n1_:=Z (Kd.R_below (pR HO_26) hb);have n2_:=Z (blk_below (g:=gb682) (o:=.cells #[.slice A0_0 l0_0.length c0_0] 27 (0,0)) (pK BK682) hb);have n3_:=Z (below_step pB hb);clear HO_5;clear HO_26;clear BK682;clear HB;have HO_5:=n0_;have HO_26:=n1_;have BK682:=n2_;have HB:=n3_;clear n0_ n1_ n2_ n3_;(try clear hb);(try clear hb2);(try clear hk);(try clear hi);have p24:0≤((rd t688 x28_1):Int):=of_decide_eq_true (by first|(with_reducible assumption)|assumption);have q24:((rd t688 x28_1):Int) < ((x5_1.length:Int):Int):=of_decide_eq_true (by first|(with_reducible assumption)|assumption);obtain ⟨go24,co24,eo24,gb24,gl24,cl24,HG24⟩:=Kd.R_form HO_5.out (by omega);(first|cases eo24|(injection eo24 with ea_ en_ ec_;(first|subst ea_|(injection ea_ with ea_;subst ea_));subst ec_;clear en_));have GB24:=Z gb24;have GG24:=Z HG24;clear gb24 gl24 HG24;obtain ⟨hx24_0,hf24_0⟩:=Kd.R_celln 0 HO_5.out ((rd t688 x28_1):Int) p24 q24;replace p24:=eq_true p24;replace q24:=eq_true q24;obtain ⟨hy27_,hz27_⟩:=Kd.R_celln 0 HO_5.out ((rd t688 x28_1):Int) (of_decide_eq_true (by first|(with_reducible assumption)|assumption)) (of_decide_eq_true (by first|(with_reducible assumption)|assumption));have HP27:=Kd.R_putg HO_5.out ((rd t688 x28_1):Int) t692)|((with_reducible refine gate_store (t:=3) (p:=37) rfl ?_);refine store_event (t:=3) (p:=37) (v:=?vo_w28) (w1:=(w26.setCell ⟨go24,((rd t688 x28_1):Int).toNat,none⟩ (.int .i64 t692))) ?hg ?ho ?hn ?hr ?_;(case ho=>rfl);(case hg=>rfl);(case hn=>rfl);(case hr=>first|(go_simp;done)|(go_simp;rfl));intro w28 hw;have hg:w26.grownBy w28 (some go24):=(by rw [hw];exact HP27.2);have hp_:Kd.R (Kd.int .i64) 3 w28 w.heap.size (fun k_=>some k_ ≠ (.slice (some ad691) t688.length co17:Value).ownBlock) (.slice (some ⟨go24,0,none⟩) x5_1.length co24) y693:=(by rw [hw,Ny693.out];exact HP27.1);clear HP27;have n0_:=Z (hp_);have n1_:=Z (Kd.R_after (v:=(.slice (some ⟨go24,0,none⟩) x5_1.length co24)) (v1:=(.slice (some ⟨go24,0,none⟩) x5_1.length co24)) (ok:=(fun _=>True)) (by (with_reducible repeat (first|apply Kd.R_alloc|apply Kd.R_drewN|apply Kd.R_drew));exact Kd.R_mono HO_26.out (fun _ hk=>⟨trivial,hk⟩)) hg (.inl rfl));have n2_:=Z (blk_grown (g:=gb682) (o:=.cells #[.slice A0_0 l0_0.length c0_0] 27 (0,0)) (pK BK682) hg (Kd.R_ne HO_5.out BK682.out (by decide)));have n3_:=Z ((by rw [hw];exact wS (HB.out) GB24.out:Below w.heap.size w w28));clear HO_5;clear HO_26;clear BK682;clear HB;have HO_5:=n0_;have HO_26:=n1_;have BK682:=n2_;have HB:=n3_;clear n0_ n1_ n2_ n3_;clear hg hw hp_))
           go_roundg k1
           case measure=>have:=HK1.out;omega
           case rel=>exact ⟨(y693),(wrap64 (x28_1+1)),pE,H',⟨by have:=HK1.out;omega⟩,⟨pR HO_5⟩,⟨by (with_reducible repeat (first|apply Kd.R_alloc|apply Kd.R_drewN|apply Kd.R_drew));exact Kd.R_mono HO_26.out (fun _ hk=>hk.2)⟩,⟨pK BK682⟩,⟨pB⟩⟩
          ·rw [if_neg c23] at H
           exact absurd H (by simp)
         ·rw [if_neg c22] at H
          exact absurd H (by simp)
        ·rw [if_neg c20] at H
         exact absurd H (by simp)
       ·rw [if_neg c19] at H
        exact absurd H (by simp)
      ·rw [if_neg c18] at H
       have c18b0:decide (x28_1 < (t688.length:Int))=false:=decide_eq_false c18
       clear c18
       have H':=Z H
       clear H
       obtain ⟨Ao29,co29,eo29⟩:=Kd.R_slice HO_5.out
       subst eo29
       go_wp2
       go_loopg [8,9,41] k1 (fun kq v8 v9 v41 w'=>∃ (x8_2:List Int) (x9_2:Int) (x41_2:Int),v9=.int .i64 x9_2∧v41=.int .i64 x41_2∧Aside0 (quorums_Parts.l1 kq x5_1 x8_2 x9_2 x5_1 (x5_1.length:Int) x41_2=some (r1,r2))∧Aside0 (kq≤k1)∧Aside0 (Kd.R (Kd.int .i64) 3 w' w.heap.size (fun k_=>some k_ ≠ (v8:Value).ownBlock) (.slice Ao29 x5_1.length co29) x5_1)∧Aside0 (Kd.R (Kd.int .i64) 3 w' w.heap.size (fun k_=>some k_ ≠ ((.slice Ao29 x5_1.length co29):Value).ownBlock∧some k_ ≠ ((.slice Ao29 x5_1.length co29):Value).ownBlock) v8 x8_2)∧Aside0 (Kd.R (Kd.int .i64) 3 w' w.heap.size (fun k_=>some k_ ≠ (v8:Value).ownBlock) (.slice Ao29 x5_1.length co29) x5_1)∧Aside0 (w'.heap[gb682]?=some (.cells #[(.slice A0_0 l0_0.length c0_0)] 27 (0,0)))∧Aside0 (Below w.heap.size w w'))
       case atStart=>exact ⟨(([]:List Int)),(0),(0),pE,pE,H',⟨Nat.le_refl _⟩,⟨by (with_reducible repeat (first|apply Kd.R_alloc|apply Kd.R_drewN|apply Kd.R_drew));exact Kd.R_mono HO_5.out (fun _ hk=>(by simp [Value.ownBlock]))⟩,⟨pN⟩,⟨by (with_reducible repeat (first|apply Kd.R_alloc|apply Kd.R_drewN|apply Kd.R_drew));exact Kd.R_mono HO_5.out (fun _ hk=>(by simp [Value.ownBlock]))⟩,⟨pK BK682⟩,⟨pB⟩⟩
       case round =>
        clear H'
        try clear c1
        try clear c2
        try clear p2
        try clear q2
        try clear hx2
        try clear hf2
        try clear c3
        try clear c3b0
        try clear c3b1
        try clear c4
        try clear c4b0
        try clear c4b1
        try clear c5
        try clear c5b0
        try clear c5b1
        try clear c6
        try clear p6
        try clear q6
        try clear hx6
        try clear c7
        try clear c18
        try clear c18b0
        try clear c19
        try clear c19b0
        try clear c20
        try clear c20b0
        try clear c22
        try clear c22b0
        try clear c23
        try clear c23b0
        try clear p24
        try clear q24
        try clear hx24
        try clear hf24
        try clear hcz11_0
        try clear hcz14_0
        try clear hcz25_0
        try clear hcz9_0
        try clear hfz11_0
        try clear hfz14_0
        try clear hfz25_0
        try clear hfz9_0
        try clear hx24_0
        try clear hx691_0
        try clear p691
        try clear q691
        obtain ⟨x8_2,x9_2,x41_2,rfl,rfl,HA,HK2,HO_5,HO_8,HO_39,BK682,HB⟩:=hrel
        cases gk with
        | zero=>exact absurd HA.out (by simp [quorums_Parts.l1])
        | succ k2 =>
         have H:=HA.out
         clear HA
         simp only [quorums_Parts.l1] at H
         by_cases c30:x41_2 < (x5_1.length:Int)
         ·rw [if_pos c30] at H
          have c30b0:decide (x41_2 < (x5_1.length:Int))=true:=decide_eq_true c30
          clear c30
          by_cases c31:0≤x41_2
          ·rw [if_pos c31] at H
           have c31b0:decide (0≤x41_2)=true:=decide_eq_true c31
           clear c31
           by_cases c32:x41_2 < (x5_1.length:Int)
           ·rw [if_pos c32] at H
            have c32b0:decide (x41_2 < (x5_1.length:Int))=true:=decide_eq_true c32
            clear c32
            have HC33:=Z H
            clear H
            have p694:0≤(x41_2:Int):=of_decide_eq_true (by first|(with_reducible assumption)|assumption)
            have q694:x41_2 < (x5_1.length:Int):=of_decide_eq_true (by first|(with_reducible assumption)|assumption)
            obtain ⟨ad694,e694,hx694_0⟩:=Kd.at_int (Kd.R_reads' HO_39.out).2.2 x41_2 p694 q694
            cases e694
            replace p694:=eq_true p694
            replace q694:=eq_true q694
            go_upto_region 15 with (fail)
            go_cut [54] (fun v54 wc=>∃ (kq:Nat) (x54_32:Bool),v54=.bool x54_32∧Aside0 (quorums_Parts.j2 kq x5_1 x8_2 x9_2 x41_2 (rd x5_1 x41_2) x5_1 (x5_1.length:Int) x41_2 x54_32=some (r1,r2))∧Aside0 (kq≤k2)∧Aside0 (Kd.R (Kd.int .i64) 3 wc w.heap.size (fun k_=>some k_ ≠ (u8:Value).ownBlock) (.slice (some ad694) x5_1.length co29) x5_1)∧Aside0 (Kd.R (Kd.int .i64) 3 wc w.heap.size (fun k_=>some k_ ≠ ((.slice (some ad694) x5_1.length co29):Value).ownBlock∧some k_ ≠ ((.slice (some ad694) x5_1.length co29):Value).ownBlock) u8 x8_2)∧Aside0 (Kd.R (Kd.int .i64) 3 wc w.heap.size (fun k_=>some k_ ≠ (u8:Value).ownBlock) (.slice (some ad694) x5_1.length co29) x5_1)∧Aside0 (wc.heap[gb682]?=some (.cells #[(.slice A0_0 l0_0.length c0_0)] 27 (0,0)))∧Aside0 (Below w.heap.size w wc))
            case first =>
             have H:=HC33.out
             clear HC33
             have c34b0:=eq_true (of_decide_eq_true (by first|(with_reducible assumption)|assumption):0≤x41_2)
             obtain ⟨ji35,hji35⟩:∃ j_:Int,(shl .i64 1 x41_2)=j_:=⟨_,rfl⟩
             replace H:(if (Go.bits .and .i64 x9_2 (ji35))=0 then (quorums_Parts.j2 k2 x5_1 x8_2 x9_2 x41_2 (rd x5_1 x41_2) x5_1 (x5_1.length:Int) x41_2 ((rd x5_1 x41_2) == 0)) else (quorums_Parts.j2 k2 x5_1 x8_2 x9_2 x41_2 (rd x5_1 x41_2) x5_1 (x5_1.length:Int) x41_2 true))=some (r1,r2):=by first|(rw [hji35] at H;exact H)|(simp only [hji35] at H ⊢;exact H)
             have hji35_:(IntKind.i64.wrap (1 * 2 ^ min x41_2.toNat 64))=ji35:=hji35
             have hji35z:x41_2≤64→(IntKind.i64.wrap (1 * 2 ^ x41_2.toNat))=ji35:=shl_small hji35
             have hji35u:(IntKind.i64.wrap (2 ^ min x41_2.toNat 64))=ji35:=by have h_:=hji35_;rw [Int.one_mul] at h_;exact h_
             have hji35v:x41_2≤64→(IntKind.i64.wrap (2 ^ x41_2.toNat))=ji35:=fun hle_=>by have h_:=hji35z hle_;rw [Int.one_mul] at h_;exact h_
             have hji35y:(wrap64 (1 * 2 ^ min x41_2.toNat 64))=ji35:=(i64_w _).symm.trans hji35_
             have hji35x:x41_2≤64→(wrap64 (1 * 2 ^ x41_2.toNat))=ji35:=fun h_=>(i64_w _).symm.trans (hji35z h_)
             by_cases c36:(Go.bits .and .i64 x9_2 (ji35))=0
             ·rw [if_pos c36] at H
              have c36b0:((Go.bits .and .i64 x9_2 (ji35)) == 0)=true:=beq_iff_eq.mpr c36
              have c36b1:((Go.bits .and .i64 x9_2 (ji35)) != 0)=false:=bne_eq_false_iff_eq.mpr c36
              clear c36
              (first|rw [c36b0]|(simp only [i64_w,i32_w];rw [c36b0])|skip)
              have H':=Z H
              clear H
              go_wp2
              go_meet
              case rel=>exact ⟨_,(((rd x5_1 x41_2) == 0)),pE,H',⟨by have:=HK1.out;have:=HK2.out;first|omega|exact Nat.le_refl _⟩,⟨pR HO_5⟩,⟨pR HO_8⟩,⟨pR HO_39⟩,⟨pK BK682⟩,⟨pB⟩⟩
             ·rw [if_neg c36] at H
              have c36b0:((Go.bits .and .i64 x9_2 (ji35)) == 0)=false:=beq_eq_false_iff_ne.mpr c36
              have c36b1:((Go.bits .and .i64 x9_2 (ji35)) != 0)=true:=bne_iff_ne.mpr c36
              (first|rw [c36b0]|(simp only [i64_w,i32_w];rw [c36b0])|skip)
              have H':=Z H
              clear H
              go_wp2
              go_meet
              case rel=>exact ⟨_,(true),pE,H',⟨by have:=HK1.out;have:=HK2.out;first|omega|exact Nat.le_refl _⟩,⟨pR HO_5⟩,⟨pR HO_8⟩,⟨pR HO_39⟩,⟨pK BK682⟩,⟨pB⟩⟩
            case rest =>
             clear HC33
             try clear c1
             try clear c2
             try clear p2
             try clear q2
             try clear hx2
             try clear hf2
             try clear c3
             try clear c3b0
             try clear c3b1
             try clear c4
             try clear c4b0
             try clear c4b1
             try clear c5
             try clear c5b0
             try clear c5b1
             try clear c6
             try clear p6
             try clear q6
             try clear hx6
             try clear c7
             try clear c18
             try clear c18b0
             try clear c19
             try clear c19b0
             try clear c20
             try clear c20b0
             try clear c22
             try clear c22b0
             try clear c23
             try clear c23b0
             try clear p24
             try clear q24
             try clear hx24
             try clear hf24
             try clear c30
             try clear c30b0
             try clear c31
             try clear c31b0
             try clear c32
             try clear c32b0
             try clear c34
             try clear c34b0
             try clear c36
             try clear c36b0
             try clear c36b1
             try clear hcz11_0
             try clear hcz14_0
             try clear hcz25_0
             try clear hcz9_0
             try clear hfz11_0
             try clear hfz14_0
             try clear hfz25_0
             try clear hfz9_0
             try clear hx24_0
             try clear hx691_0
             try clear hx694_0
             try clear p691
             try clear p694
             try clear q691
             try clear q694
             obtain ⟨kq,x54_32,rfl,HA,HJ32,HO_5,HO_8,HO_39,BK682,HB⟩:=hcut
             cases kq with
             | zero=>exact absurd HA.out (by simp [quorums_Parts.j2])
             | succ kj32 =>
              have H:=HA.out
              clear HA
              simp only [quorums_Parts.j2] at H
              by_cases c37:x54_32=true
              ·subst c37
               rw [if_pos rfl] at H
               have H':=Z H
               clear H
               go_wp2
               go_roundg kj32
               case measure=>have:=HK1.out;have:=HK2.out;have:=HJ32.out;omega
               case rel=>exact ⟨(x8_2),(x9_2),(wrap64 (x41_2+1)),pE,pE,H',⟨by have:=HK1.out;have:=HK2.out;have:=HJ32.out;omega⟩,⟨pR HO_5⟩,⟨pR HO_8⟩,⟨pR HO_39⟩,⟨pK BK682⟩,⟨pB⟩⟩
              ·replace c37:=Bool.eq_false_iff.mpr c37
               subst c37
               rw [if_neg (show ¬ (false=true) by decide)] at H
               replace H:=Option.bind_eq_some_iff.mp H
               obtain ⟨t695,A380,H⟩:=H
               try dsimp only at H
               have A38:=Z A380
               clear A380
               have H':=Z H
               clear H
               go_wp2_with (first|((with_reducible refine gate_callee (f:=77) rfl ?_);refine goesL_ (some 56) rfl rfl Try.func77 (by kernel_rfl) rfl #[.int .i64 (rd x5_1 x41_2)] rfl pG ?_;(with_reducible refine (nodeset_Nodes.calls kj32 (rd x5_1 x41_2) t695 _ A38.out).mono ?_);rintro e w39 ⟨v696,rfl,ho0,hb⟩;refine ⟨_,rfl,?_⟩;have n0_:=Z (Kd.R_elder' (pR HO_5) (Kd.R_base ho0) hb);have n1_:=Z (Kd.R_elder' (pR HO_8) (Kd.R_base ho0) hb);have n2_:=Z (Kd.R_elder' (pR HO_39) (Kd.R_base ho0) hb);have n3_:=Z (Kd.R_lower (Kd.R_new' (Kd.R_new' (Kd.R_new' ho0 (Kd.R_lt (pR HO_5))) (Kd.R_lt (pR HO_8))) (Kd.R_lt (pR HO_39))) (below_size pB));have n4_:=Z (blk_below (g:=gb682) (o:=.cells #[.slice A0_0 l0_0.length c0_0] 27 (0,0)) (pK BK682) hb);have n5_:=Z (below_step pB hb);clear HO_5;clear HO_8;clear HO_39;clear BK682;clear HB;have HO_5:=n0_;have HO_8:=n1_;have HO_39:=n2_;have HO697:=n3_;have BK682:=n4_;have HB:=n5_;clear n0_ n1_ n2_ n3_ n4_ n5_;(try clear hb);(try clear hb2);(try clear hk);(try clear hi);(try clear ho0);obtain ⟨Ao40,co40,eo40⟩:=Kd.R_slice HO697.out;subst eo40))
               go_loopg [12,58] kj32 (fun kq v12 v58 w'=>∃ (x12_4:Int) (x58_4:Int),v12=.int .i64 x12_4∧v58=.int .i64 x58_4∧Aside0 (quorums_Parts.l2 kq x5_1 x8_2 x9_2 x41_2 x12_4 x5_1 (x5_1.length:Int) x41_2 t695 (t695.length:Int) x58_4=some (r1,r2))∧Aside0 (kq≤kj32)∧Aside0 (Kd.R (Kd.int .i64) 3 w' w.heap.size (fun k_=>some k_ ≠ (u8:Value).ownBlock∧some k_ ≠ ((.slice Ao40 t695.length co40):Value).ownBlock) (.slice (some ad694) x5_1.length co29) x5_1)∧Aside0 (Kd.R (Kd.int .i64) 3 w' w.heap.size (fun k_=>some k_ ≠ ((.slice (some ad694) x5_1.length co29):Value).ownBlock∧some k_ ≠ ((.slice (some ad694) x5_1.length co29):Value).ownBlock∧some k_ ≠ ((.slice Ao40 t695.length co40):Value).ownBlock) u8 x8_2)∧Aside0 (Kd.R (Kd.int .i64) 3 w' w.heap.size (fun k_=>some k_ ≠ (u8:Value).ownBlock∧some k_ ≠ ((.slice Ao40 t695.length co40):Value).ownBlock) (.slice (some ad694) x5_1.length co29) x5_1)∧Aside0 (Kd.R (Kd.int .i64) 3 w' w.heap.size (fun k_=>some k_ ≠ ((.slice (some ad694) x5_1.length co29):Value).ownBlock∧some k_ ≠ (u8:Value).ownBlock∧some k_ ≠ ((.slice (some ad694) x5_1.length co29):Value).ownBlock) (.slice Ao40 t695.length co40) t695)∧Aside0 (w'.heap[gb682]?=some (.cells #[(.slice A0_0 l0_0.length c0_0)] 27 (0,0)))∧Aside0 (Below w.heap.size w w'))
               case atStart=>exact ⟨(0),(0),pE,pE,H',⟨Nat.le_refl _⟩,⟨pR HO_5⟩,⟨by (with_reducible repeat (first|apply Kd.R_alloc|apply Kd.R_drewN|apply Kd.R_drew));exact Kd.R_mono HO_8.out (fun _ hk=>⟨hk.1.1,⟨hk.1.2,hk.2⟩⟩)⟩,⟨pR HO_39⟩,⟨by (with_reducible repeat (first|apply Kd.R_alloc|apply Kd.R_drewN|apply Kd.R_drew));exact Kd.R_mono HO697.out (fun _ hk=>⟨hk.1.1.2,⟨hk.1.2,hk.2⟩⟩)⟩,⟨pK BK682⟩,⟨pB⟩⟩
               case round =>
                clear H'
                try clear c1
                try clear c2
                try clear p2
                try clear q2
                try clear hx2
                try clear hf2
                try clear c3
                try clear c3b0
                try clear c3b1
                try clear c4
                try clear c4b0
                try clear c4b1
                try clear c5
                try clear c5b0
                try clear c5b1
                try clear c6
                try clear p6
                try clear q6
                try clear hx6
                try clear c7
                try clear c18
                try clear c18b0
                try clear c19
                try clear c19b0
                try clear c20
                try clear c20b0
                try clear c22
                try clear c22b0
                try clear c23
                try clear c23b0
                try clear p24
                try clear q24
                try clear hx24
                try clear hf24
                try clear c30
                try clear c30b0
                try clear c31
                try clear c31b0
                try clear c32
                try clear c32b0
                try clear c34
                try clear c34b0
                try clear c36
                try clear c36b0
                try clear c36b1
                try clear c37
                try clear c39
                try clear hcz11_0
                try clear hcz14_0
                try clear hcz25_0
                try clear hcz9_0
                try clear hfz11_0
                try clear hfz14_0
                try clear hfz25_0
                try clear hfz9_0
                try clear hx24_0
                try clear hx691_0
                try clear hx694_0
                try clear p691
                try clear p694
                try clear q691
                try clear q694
                obtain ⟨x12_4,x58_4,rfl,rfl,HA,HK4,HO_5,HO_8,HO_39,HO_56,BK682,HB⟩:=hrel
                cases gk with
                | zero=>exact absurd HA.out (by simp [quorums_Parts.l2])
                | succ k4 =>
                 have H:=HA.out
                 clear HA
                 simp only [quorums_Parts.l2] at H
                 by_cases c41:x58_4 < (t695.length:Int)
                 ·rw [if_pos c41] at H
                  have c41b0:decide (x58_4 < (t695.length:Int))=true:=decide_eq_true c41
                  clear c41
                  by_cases c42:0≤x58_4
                  ·rw [if_pos c42] at H
                   have c42b0:decide (0≤x58_4)=true:=decide_eq_true c42
                   clear c42
                   by_cases c43:x58_4 < (t695.length:Int)
                   ·rw [if_pos c43] at H
                    have c43b0:decide (x58_4 < (t695.length:Int))=true:=decide_eq_true c43
                    clear c43
                    by_cases c44:0≤(rd t695 x58_4)
                    ·rw [if_pos c44] at H
                     have c44b0:decide (0≤(rd t695 x58_4))=true:=decide_eq_true c44
                     clear c44
                     by_cases c45:(rd t695 x58_4) < (x5_1.length:Int)
                     ·rw [if_pos c45] at H
                      have c45b0:decide ((rd t695 x58_4) < (x5_1.length:Int))=true:=decide_eq_true c45
                      clear c45
                      replace H:=Option.bind_eq_some_iff.mp H
                      obtain ⟨t700,A460,H⟩:=H
                      try dsimp only at H
                      have A46:=Z A460
                      clear A460
                      by_cases c47:t700=true
                      ·subst c47
                       rw [if_pos rfl] at H
                       have c48b0:=eq_true (of_decide_eq_true (by first|(with_reducible assumption)|assumption):0≤(rd t695 x58_4))
                       obtain ⟨ji49,hji49⟩:∃ j_:Int,(shl .i64 1 (rd t695 x58_4))=j_:=⟨_,rfl⟩
                       replace H:(quorums_Parts.l2 k4 x5_1 x8_2 x9_2 x41_2 (Go.bits .or .i64 x12_4 (ji49)) x5_1 (x5_1.length:Int) x41_2 t695 (t695.length:Int) (wrap64 (x58_4+1)))=some (r1,r2):=by first|(rw [hji49] at H;exact H)|(simp only [hji49] at H ⊢;exact H)
                       (try rw [hji49] at A46)
                       have hji49_:(IntKind.i64.wrap (1 * 2 ^ min (rd t695 x58_4).toNat 64))=ji49:=hji49
                       have hji49z:(rd t695 x58_4)≤64→(IntKind.i64.wrap (1 * 2 ^ (rd t695 x58_4).toNat))=ji49:=shl_small hji49
                       have hji49u:(IntKind.i64.wrap (2 ^ min (rd t695 x58_4).toNat 64))=ji49:=by have h_:=hji49_;rw [Int.one_mul] at h_;exact h_
                       have hji49v:(rd t695 x58_4)≤64→(IntKind.i64.wrap (2 ^ (rd t695 x58_4).toNat))=ji49:=fun hle_=>by have h_:=hji49z hle_;rw [Int.one_mul] at h_;exact h_
                       have hji49y:(wrap64 (1 * 2 ^ min (rd t695 x58_4).toNat 64))=ji49:=(i64_w _).symm.trans hji49_
                       have hji49x:(rd t695 x58_4)≤64→(wrap64 (1 * 2 ^ (rd t695 x58_4).toNat))=ji49:=fun h_=>(i64_w _).symm.trans (hji49z h_)
                       have H':=Z H
                       clear H
                       have p698:0≤(x58_4:Int):=of_decide_eq_true (by first|(with_reducible assumption)|assumption)
                       have q698:x58_4 < (t695.length:Int):=of_decide_eq_true (by first|(with_reducible assumption)|assumption)
                       obtain ⟨ad698,e698,hx698_0⟩:=Kd.at_int (Kd.R_reads' HO_56.out).2.2 x58_4 p698 q698
                       cases e698
                       replace p698:=eq_true p698
                       replace q698:=eq_true q698
                       have p699:0≤((rd t695 x58_4):Int):=of_decide_eq_true (by first|(with_reducible assumption)|assumption)
                       have q699:(rd t695 x58_4) < (x5_1.length:Int):=of_decide_eq_true (by first|(with_reducible assumption)|assumption)
                       obtain ⟨ad699,e699,hx699_0⟩:=Kd.at_int (Kd.R_reads' HO_5.out).2.2 (rd t695 x58_4) p699 q699
                       obtain rfl:ad694=ad699:=(by injection e699)
                       replace p699:=eq_true p699
                       replace q699:=eq_true q699
                       go_wp2_with (first|((with_reducible refine gate_callee (f:=60) rfl ?_);refine goesL_ (some 67) rfl rfl Try.func60 (by kernel_rfl) rfl #[.int .i64 (rd x5_1 (rd t695 x58_4)),.int .i64 x41_2] rfl pG ?_;(with_reducible refine (nodeset_Has.calls (rd x5_1 (rd t695 x58_4)) x41_2 true _ A46.out).mono ?_);rintro e w' ⟨rfl,⟨nd,rfl⟩⟩;refine ⟨_,rfl,?_⟩))
                       go_roundg k4
                       case measure=>have:=HK1.out;have:=HK2.out;have:=HJ32.out;have:=HK4.out;omega
                       case rel=>exact ⟨(Go.bits .or .i64 x12_4 (ji49)),(wrap64 (x58_4+1)),(by first|exact pE|(simp only [← hji49] <;> (first|rfl|simp))),pE,H',⟨by have:=HK1.out;have:=HK2.out;have:=HJ32.out;have:=HK4.out;omega⟩,⟨pR HO_5⟩,⟨pR HO_8⟩,⟨pR HO_39⟩,⟨pR HO_56⟩,⟨pK BK682⟩,⟨pB⟩⟩
                      ·replace c47:=Bool.eq_false_iff.mpr c47
                       subst c47
                       rw [if_neg (show ¬ (false=true) by decide)] at H
                       have H':=Z H
                       clear H
                       have p698:0≤(x58_4:Int):=of_decide_eq_true (by first|(with_reducible assumption)|assumption)
                       have q698:x58_4 < (t695.length:Int):=of_decide_eq_true (by first|(with_reducible assumption)|assumption)
                       obtain ⟨ad698,e698,hx698_0⟩:=Kd.at_int (Kd.R_reads' HO_56.out).2.2 x58_4 p698 q698
                       cases e698
                       replace p698:=eq_true p698
                       replace q698:=eq_true q698
                       have p699:0≤((rd t695 x58_4):Int):=of_decide_eq_true (by first|(with_reducible assumption)|assumption)
                       have q699:(rd t695 x58_4) < (x5_1.length:Int):=of_decide_eq_true (by first|(with_reducible assumption)|assumption)
                       obtain ⟨ad699,e699,hx699_0⟩:=Kd.at_int (Kd.R_reads' HO_5.out).2.2 (rd t695 x58_4) p699 q699
                       obtain rfl:ad694=ad699:=(by injection e699)
                       replace p699:=eq_true p699
                       replace q699:=eq_true q699
                       go_wp2_with (first|((with_reducible refine gate_callee (f:=60) rfl ?_);refine goesL_ (some 67) rfl rfl Try.func60 (by kernel_rfl) rfl #[.int .i64 (rd x5_1 (rd t695 x58_4)),.int .i64 x41_2] rfl pG ?_;(with_reducible refine (nodeset_Has.calls (rd x5_1 (rd t695 x58_4)) x41_2 false _ A46.out).mono ?_);rintro e w' ⟨rfl,⟨nd,rfl⟩⟩;refine ⟨_,rfl,?_⟩))
                       go_roundg k4
                       case measure=>have:=HK1.out;have:=HK2.out;have:=HJ32.out;have:=HK4.out;omega
                       case rel=>exact ⟨(x12_4),(wrap64 (x58_4+1)),pE,pE,H',⟨by have:=HK1.out;have:=HK2.out;have:=HJ32.out;have:=HK4.out;omega⟩,⟨pR HO_5⟩,⟨pR HO_8⟩,⟨pR HO_39⟩,⟨pR HO_56⟩,⟨pK BK682⟩,⟨pB⟩⟩
                     ·rw [if_neg c45] at H
                      exact absurd H (by simp)
                    ·rw [if_neg c44] at H
                     exact absurd H (by simp)
                   ·rw [if_neg c43] at H
                    exact absurd H (by simp)
                  ·rw [if_neg c42] at H
                   exact absurd H (by simp)
                 ·rw [if_neg c41] at H
                  have c41b0:decide (x58_4 < (t695.length:Int))=false:=decide_eq_false c41
                  clear c41
                  by_cases c50:x8_2.length < 17592186044416
                  ·rw [if_pos c50] at H
                   have LMc50:=Z c50
                   clear c50
                   obtain ⟨y701,hy701⟩:∃ y_:List Int,y_=(x8_2++[x12_4]):=⟨_,rfl⟩
                   first|rw [← hy701] at H|(replace H:=(Option.bind_some _ _).symm.trans H;rw [← hy701] at H)
                   have Ny701:=Z hy701
                   clear hy701
                   have H':=Z H
                   clear H
                   go_wp2_with (first|((with_reducible refine gate_builtin (b:=.append) (xs:=#[.tmp 73,.tmp 75]) rfl ?_);at_builtin;refine Kd.R_append (Kd.int .i64) (w0:=w) w.heap.size rfl (.tmp 73) (.tmp 75) 22 3 (.int .i64 0) 8 rfl Try.underlying22 info3 rfl (by decide) (by omega) u8 x8_2 x12_4 [.int .i64 x12_4] (fun k_=>some k_ ≠ (.slice (some ad694) x5_1.length co29:Value).ownBlock∧some k_ ≠ (.slice (some ad694) x5_1.length co29:Value).ownBlock∧some k_ ≠ (.slice Ao40 t695.length co40:Value).ownBlock) (fun _=>False) rfl rfl ?aP (fun _ hk=>hk.elim) ?aF ?aO ?aB ?aS ?aL ?_;(case aP=>exact rfl);(case aB=>exact pB);(case aF=>exact (fun k_ hk=>⟨Kd.fresh' (Kd.R_lt (pR HO_5)) k_ hk,Kd.fresh' (Kd.R_lt (pR HO_39)) k_ hk,Kd.fresh' (Kd.R_lt (pR HO_56)) k_ hk⟩));(case aO=>exact (pR HO_8));(case aS=>exact (below_size pB));(case aL=>have:=LMc50.out;omega);intro v702 w51 ho hb hg hat;rw [← Ny701.out] at ho;have n0_:=Z (Kd.R_after (ok:=(fun k_=>some k_ ≠ (.slice Ao40 t695.length co40:Value).ownBlock)) (by (with_reducible repeat (first|apply Kd.R_alloc|apply Kd.R_drewN|apply Kd.R_drew));exact Kd.R_mono HO_5.out (fun _ hk=>⟨hk.2,hk.1⟩)) hg hat);have n1_:=Z (Kd.R_after (ok:=(fun k_=>some k_ ≠ (.slice Ao40 t695.length co40:Value).ownBlock)) (by (with_reducible repeat (first|apply Kd.R_alloc|apply Kd.R_drewN|apply Kd.R_drew));exact Kd.R_mono HO_39.out (fun _ hk=>⟨hk.2,hk.1⟩)) hg hat);have n2_:=Z (Kd.R_after (ok:=(fun k_=>some k_ ≠ (.slice (some ad694) x5_1.length co29:Value).ownBlock∧some k_ ≠ (.slice (some ad694) x5_1.length co29:Value).ownBlock)) (by (with_reducible repeat (first|apply Kd.R_alloc|apply Kd.R_drewN|apply Kd.R_drew));exact Kd.R_mono HO_56.out (fun _ hk=>⟨⟨hk.1,hk.2.2⟩,hk.2.1⟩)) hg hat);have n3_:=Z (blk_grown (g:=gb682) (o:=.cells #[.slice A0_0 l0_0.length c0_0] 27 (0,0)) (pK BK682) hg (Kd.R_ne HO_8.out BK682.out (by decide)));have n4_:=Z (hb);have n5_:=Z (ho);clear HO_5;clear HO_39;clear HO_56;clear BK682;clear HB;clear HO_8;have HO_5:=n0_;have HO_39:=n1_;have HO_56:=n2_;have BK682:=n3_;have HB:=n4_;have HO703:=n5_;clear n0_ n1_ n2_ n3_ n4_ n5_;clear ho hb hg hat))
                   go_roundg k4
                   case measure=>have:=HK1.out;have:=HK2.out;have:=HJ32.out;have:=HK4.out;omega
                   case rel=>exact ⟨(y701),(Go.bits .or .i64 x9_2 x12_4),(wrap64 (x41_2+1)),pE,pE,H',⟨by have:=HK1.out;have:=HK2.out;have:=HJ32.out;have:=HK4.out;omega⟩,⟨by (with_reducible repeat (first|apply Kd.R_alloc|apply Kd.R_drewN|apply Kd.R_drew));exact Kd.R_mono HO_5.out (fun _ hk=>hk.2)⟩,⟨by (with_reducible repeat (first|apply Kd.R_alloc|apply Kd.R_drewN|apply Kd.R_drew));exact Kd.R_mono HO703.out (fun _ hk=>⟨hk.1,hk.2.1⟩)⟩,⟨by (with_reducible repeat (first|apply Kd.R_alloc|apply Kd.R_drewN|apply Kd.R_drew));exact Kd.R_mono HO_39.out (fun _ hk=>hk.2)⟩,⟨pK BK682⟩,⟨pB⟩⟩
                  ·rw [if_neg c50] at H
                   exact absurd H (by simp)
           ·rw [if_neg c32] at H
            exact absurd H (by simp)
          ·rw [if_neg c31] at H
           exact absurd H (by simp)
         ·rw [if_neg c30] at H
          have c30b0:decide (x41_2 < (x5_1.length:Int))=false:=decide_eq_false c30
          clear c30
          simp only [Option.some.injEq,Prod.mk.injEq] at H
          obtain ⟨rfl,rfl⟩:=H
          go_wp2
          go_ret2
          exact ⟨_,pF,by (with_reducible repeat (first|apply Kd.R_alloc|apply Kd.R_drewN|apply Kd.R_drew));exact Kd.R_mono HO_8.out (fun _ hk=>trivial),pB⟩
   ·rw [if_neg c5] at H
    exact absurd H (by simp)
  ·rw [if_neg c4] at H
   exact absurd H (by simp)
 ·rw [if_neg c3] at H
  have c3b0:(t683 == 0)=false:=beq_eq_false_iff_ne.mpr c3
  have c3b1:(t683 != 0)=true:=bne_iff_ne.mpr c3
  simp only [Option.some.injEq,Prod.mk.injEq] at H
  obtain ⟨rfl,rfl⟩:=H
  go_enter Try.func39,Try.ntmps39
  go_wp2_with (first|((with_reducible refine gate_dst (N:=1) rfl ?_);refine box_event ?hg (N:=1) ?hd (cs:=#[.slice A0_0 l0_0.length c0_0]) (t:=27) ?hr ?_;(case hd=>rfl);(case hg=>rfl);(case hr=>first|(go_simp;done)|(go_simp;rfl));intro gb682 hg w52 hbox hb;have n0_:=Z (below_step pB hb);have n1_:=Z (hbox);have n2_:=Z ((pT hg:w.heap.size≤gb682));have n3_:=Z ((pT hg:w.heap.size≤gb682));clear HB;have HB:=n0_;have BK682:=n1_;have GW682:=n2_;have GE682:=n3_;clear n0_ n1_ n2_ n3_;clear hb hbox hg;have hcz53_0:w52.cell? ⟨gb682,0,none⟩=some (.slice A0_0 l0_0.length c0_0):=(kC BK682.out 0).trans rfl;have hfz53_0:=kF BK682.out 0)|((with_reducible refine gate_callee (f:=63) rfl ?_);refine goesL_ (some 16) rfl rfl Try.func63 (by kernel_rfl) rfl #[.agg #[.slice A0_0 l0_0.length c0_0]] rfl pG ?_;(with_reducible refine (configuration_Valid.calls k _ _ l0_0 t683 _ ?side1 ?side2 A2.out).mono ?_);(case side1=>repeat (first|exact (Kd.C_below HR0_0.out HB.out)|(with_reducible refine Kd.C_alloc ?_ _)|(with_reducible refine Kd.C_drewN ?_ _)|(with_reducible refine Kd.C_drew ?_)));(case side2=>exact HC0_0.out);rintro e w54 ⟨rfl,hb⟩;refine ⟨_,rfl,?_⟩;have n0_:=Z (blk_below (g:=gb682) (o:=.cells #[.slice A0_0 l0_0.length c0_0] 27 (0,0)) (pK BK682) hb);have n1_:=Z (below_step pB hb);clear BK682;clear HB;have BK682:=n0_;have HB:=n1_;clear n0_ n1_;(try clear hb);(try clear hb2);(try clear hk);(try clear hi)))
  go_ret2
  exact ⟨_,pF,pN,pB⟩
def quorums_Count.f (k:Nat) (l0_0:List (S34)):Option (Int × Int):=(configuration_Valid.f k l0_0).bind fun t705=>(if t705=0 then ((quorums_all.f k l0_0).bind fun t706=>(some ((t706.length:Int),0))) else (some (0,t705)))
set_option maxHeartbeats 8000000 in
set_option maxRecDepth 100000 in
theorem quorums_Count.calls (k:Nat) (A0_0:Option Addr) (c0_0:Nat) (l0_0:List (S34)) (r1:Int) (r2:Int) (w:World) (hr0_0:Kd.C k34 w A0_0 l0_0.length l0_0) (hc0_0:l0_0.length≤c0_0) (h:quorums_Count.f k l0_0=some (r1,r2)) :
  Calls Try.prog 41 #[.agg #[.slice A0_0 l0_0.length c0_0]] w fun e w'=>e=.returned (.tuple #[.int .i64 r1,.int .i64 r2])∧Below w.heap.size w w':=by
 have hu27:=Try.underlying27
 have HR0_0:=Z hr0_0
 have HC0_0:=Z hc0_0
 clear hr0_0 hc0_0
 have HB:=Z (Below.refl w.heap.size w)
 have H:((configuration_Valid.f k l0_0).bind fun t705=>(if t705=0 then ((quorums_all.f k l0_0).bind fun t706=>(some ((t706.length:Int),0))) else (some (0,t705))))=some (r1,r2):=h
 clear h
 replace H:=Option.bind_eq_some_iff.mp H
 obtain ⟨t705,A20,H⟩:=H
 try dsimp only at H
 have A2:=Z A20
 clear A20
 by_cases c3:t705=0
 ·rw [if_pos c3] at H
  have c3b0:(t705 == 0)=true:=beq_iff_eq.mpr c3
  have c3b1:(t705 != 0)=false:=bne_eq_false_iff_eq.mpr c3
  clear c3
  replace H:=Option.bind_eq_some_iff.mp H
  obtain ⟨t706,A40,H⟩:=H
  try dsimp only at H
  have A4:=Z A40
  clear A40
  simp only [Option.some.injEq,Prod.mk.injEq] at H
  obtain ⟨rfl,rfl⟩:=H
  go_enter Try.func41,Try.ntmps41
  go_wp2_with (first|((with_reducible refine gate_dst (N:=1) rfl ?_);refine box_event ?hg (N:=1) ?hd (cs:=#[.slice A0_0 l0_0.length c0_0]) (t:=27) ?hr ?_;(case hd=>rfl);(case hg=>rfl);(case hr=>first|(go_simp;done)|(go_simp;rfl));intro gb704 hg w5 hbox hb;have n0_:=Z (below_step pB hb);have n1_:=Z (hbox);have n2_:=Z ((pT hg:w.heap.size≤gb704));have n3_:=Z ((pT hg:w.heap.size≤gb704));clear HB;have HB:=n0_;have BK704:=n1_;have GW704:=n2_;have GE704:=n3_;clear n0_ n1_ n2_ n3_;clear hb hbox hg;have hcz6_0:w5.cell? ⟨gb704,0,none⟩=some (.slice A0_0 l0_0.length c0_0):=(kC BK704.out 0).trans rfl;have hfz6_0:=kF BK704.out 0)|((with_reducible refine gate_callee (f:=63) rfl ?_);refine goesL_ (some 6) rfl rfl Try.func63 (by kernel_rfl) rfl #[.agg #[.slice A0_0 l0_0.length c0_0]] rfl pG ?_;(with_reducible refine (configuration_Valid.calls k _ _ l0_0 t705 _ ?side1 ?side2 A2.out).mono ?_);(case side1=>repeat (first|exact (Kd.C_below HR0_0.out HB.out)|(with_reducible refine Kd.C_alloc ?_ _)|(with_reducible refine Kd.C_drewN ?_ _)|(with_reducible refine Kd.C_drew ?_)));(case side2=>exact HC0_0.out);rintro e w7 ⟨rfl,hb⟩;refine ⟨_,rfl,?_⟩;have n0_:=Z (blk_below (g:=gb704) (o:=.cells #[.slice A0_0 l0_0.length c0_0] 27 (0,0)) (pK BK704) hb);have n1_:=Z (below_step pB hb);clear BK704;clear HB;have BK704:=n0_;have HB:=n1_;clear n0_ n1_;(try clear hb);(try clear hb2);(try clear hk);(try clear hi);have hcz8_0:w7.cell? ⟨gb704,0,none⟩=some (.slice A0_0 l0_0.length c0_0):=(kC BK704.out 0).trans rfl;have hfz8_0:=kF BK704.out 0)|((with_reducible refine gate_callee (f:=75) rfl ?_);refine goesL_ (some 11) rfl rfl Try.func75 (by kernel_rfl) rfl #[.agg #[.slice A0_0 l0_0.length c0_0]] rfl pG ?_;(with_reducible refine (quorums_all.calls k _ _ l0_0 t706 _ ?side1 ?side2 A4.out).mono ?_);(case side1=>repeat (first|exact (Kd.C_below HR0_0.out HB.out)|(with_reducible refine Kd.C_alloc ?_ _)|(with_reducible refine Kd.C_drewN ?_ _)|(with_reducible refine Kd.C_drew ?_)));(case side2=>exact HC0_0.out);rintro e w9 ⟨v707,rfl,ho0,hb⟩;refine ⟨_,rfl,?_⟩;have n0_:=Z (Kd.R_lower ho0 (below_size pB));have n1_:=Z (blk_below (g:=gb704) (o:=.cells #[.slice A0_0 l0_0.length c0_0] 27 (0,0)) (pK BK704) hb);have n2_:=Z (below_step pB hb);clear BK704;clear HB;have HO708:=n0_;have BK704:=n1_;have HB:=n2_;clear n0_ n1_ n2_;(try clear hb);(try clear hb2);(try clear hk);(try clear hi);(try clear ho0);obtain ⟨Ao10,co10,eo10⟩:=Kd.R_slice HO708.out;subst eo10))
  go_ret2
  exact ⟨pF,pB⟩
 ·rw [if_neg c3] at H
  have c3b0:(t705 == 0)=false:=beq_eq_false_iff_ne.mpr c3
  have c3b1:(t705 != 0)=true:=bne_iff_ne.mpr c3
  simp only [Option.some.injEq,Prod.mk.injEq] at H
  obtain ⟨rfl,rfl⟩:=H
  go_enter Try.func41,Try.ntmps41
  go_wp2_with (first|((with_reducible refine gate_dst (N:=1) rfl ?_);refine box_event ?hg (N:=1) ?hd (cs:=#[.slice A0_0 l0_0.length c0_0]) (t:=27) ?hr ?_;(case hd=>rfl);(case hg=>rfl);(case hr=>first|(go_simp;done)|(go_simp;rfl));intro gb704 hg w11 hbox hb;have n0_:=Z (below_step pB hb);have n1_:=Z (hbox);have n2_:=Z ((pT hg:w.heap.size≤gb704));have n3_:=Z ((pT hg:w.heap.size≤gb704));clear HB;have HB:=n0_;have BK704:=n1_;have GW704:=n2_;have GE704:=n3_;clear n0_ n1_ n2_ n3_;clear hb hbox hg;have hcz12_0:w11.cell? ⟨gb704,0,none⟩=some (.slice A0_0 l0_0.length c0_0):=(kC BK704.out 0).trans rfl;have hfz12_0:=kF BK704.out 0)|((with_reducible refine gate_callee (f:=63) rfl ?_);refine goesL_ (some 6) rfl rfl Try.func63 (by kernel_rfl) rfl #[.agg #[.slice A0_0 l0_0.length c0_0]] rfl pG ?_;(with_reducible refine (configuration_Valid.calls k _ _ l0_0 t705 _ ?side1 ?side2 A2.out).mono ?_);(case side1=>repeat (first|exact (Kd.C_below HR0_0.out HB.out)|(with_reducible refine Kd.C_alloc ?_ _)|(with_reducible refine Kd.C_drewN ?_ _)|(with_reducible refine Kd.C_drew ?_)));(case side2=>exact HC0_0.out);rintro e w13 ⟨rfl,hb⟩;refine ⟨_,rfl,?_⟩;have n0_:=Z (blk_below (g:=gb704) (o:=.cells #[.slice A0_0 l0_0.length c0_0] 27 (0,0)) (pK BK704) hb);have n1_:=Z (below_step pB hb);clear BK704;clear HB;have BK704:=n0_;have HB:=n1_;clear n0_ n1_;(try clear hb);(try clear hb2);(try clear hk);(try clear hi)))
  go_ret2
  exact ⟨pF,pB⟩
def trustquorumlaw10_awake.f (k:Nat) :Option (Bool):=(trustquorumlaw10_same.f k 3 2).bind fun t709=>((quorums_Minimal.f k t709).bind fun bt712=>((trustquorumlaw10_same.f k 3 2).bind fun t716=>((quorums_Count.f k t716).bind fun bt719=>((trustquorumlaw10_same.f k 3 2).bind fun t721=>((quorums_Parts.f k t721).bind fun bt724=>(if bt712.2=0 then (if bt719.2=0 then (if bt724.2=0 then ((trustquorummake_Ints.f k bt712.1 (([3,5,6]:List Int))).bind fun t731=>(if t731=true then (if bt719.1=4 then ((trustquorummake_Ints.f k bt724.1 (([7]:List Int))).bind fun t735=>(some t735)) else (some false)) else (some false))) else (some false)) else (some false)) else (some false)))))))
set_option maxHeartbeats 8000000 in
set_option maxRecDepth 100000 in
theorem trustquorumlaw10_awake.calls (k:Nat)  (w:World) (h:trustquorumlaw10_awake.f k =some true) :
  Calls Try.prog 38 #[] w fun e w'=>e=.returned (.bool true)∧Below w.heap.size w w':=by
 have HB:=Z (Below.refl w.heap.size w)
 have H:((trustquorumlaw10_same.f k 3 2).bind fun t709=>((quorums_Minimal.f k t709).bind fun bt712=>((trustquorumlaw10_same.f k 3 2).bind fun t716=>((quorums_Count.f k t716).bind fun bt719=>((trustquorumlaw10_same.f k 3 2).bind fun t721=>((quorums_Parts.f k t721).bind fun bt724=>(if bt712.2=0 then (if bt719.2=0 then (if bt724.2=0 then ((trustquorummake_Ints.f k bt712.1 (([3,5,6]:List Int))).bind fun t731=>(if t731=true then (if bt719.1=4 then ((trustquorummake_Ints.f k bt724.1 (([7]:List Int))).bind fun t735=>(some t735)) else (some false)) else (some false))) else (some false)) else (some false)) else (some false))))))))=some true:=h
 clear h
 replace H:=Option.bind_eq_some_iff.mp H
 obtain ⟨t709,A10,H⟩:=H
 try dsimp only at H
 have A1:=Z A10
 clear A10
 replace H:=Option.bind_eq_some_iff.mp H
 obtain ⟨⟨t712,t715⟩,A20,H⟩:=H
 try dsimp only at H
 have A2:=Z A20
 clear A20
 replace H:=Option.bind_eq_some_iff.mp H
 obtain ⟨t716,A30,H⟩:=H
 try dsimp only at H
 have A3:=Z A30
 clear A30
 replace H:=Option.bind_eq_some_iff.mp H
 obtain ⟨⟨t719,t720⟩,A40,H⟩:=H
 try dsimp only at H
 have A4:=Z A40
 clear A40
 replace H:=Option.bind_eq_some_iff.mp H
 obtain ⟨t721,A50,H⟩:=H
 try dsimp only at H
 have A5:=Z A50
 clear A50
 replace H:=Option.bind_eq_some_iff.mp H
 obtain ⟨⟨t724,t727⟩,A60,H⟩:=H
 try dsimp only at H
 have A6:=Z A60
 clear A60
 by_cases c7:t715=0
 ·rw [if_pos c7] at H
  have c7b0:(t715 == 0)=true:=beq_iff_eq.mpr c7
  have c7b1:(t715 != 0)=false:=bne_eq_false_iff_eq.mpr c7
  clear c7
  by_cases c8:t720=0
  ·rw [if_pos c8] at H
   have c8b0:(t720 == 0)=true:=beq_iff_eq.mpr c8
   have c8b1:(t720 != 0)=false:=bne_eq_false_iff_eq.mpr c8
   clear c8
   by_cases c9:t727=0
   ·rw [if_pos c9] at H
    have c9b0:(t727 == 0)=true:=beq_iff_eq.mpr c9
    have c9b1:(t727 != 0)=false:=bne_eq_false_iff_eq.mpr c9
    clear c9
    obtain ⟨y728,hy728⟩:∃ y_:List Int,y_=(([3,5,6]:List Int)):=⟨_,rfl⟩
    first|rw [← hy728] at H|(replace H:=(Option.bind_some _ _).symm.trans H;rw [← hy728] at H)
    have Ny728:=Z hy728
    clear hy728
    replace H:=Option.bind_eq_some_iff.mp H
    obtain ⟨t731,A100,H⟩:=H
    try dsimp only at H
    have A10:=Z A100
    clear A100
    by_cases c11:t731=true
    ·subst c11
     rw [if_pos rfl] at H
     by_cases c12:t719=4
     ·rw [if_pos c12] at H
      have c12b0:(t719 == 4)=true:=beq_iff_eq.mpr c12
      have c12b1:(t719 != 4)=false:=bne_eq_false_iff_eq.mpr c12
      clear c12
      obtain ⟨y732,hy732⟩:∃ y_:List Int,y_=(([7]:List Int)):=⟨_,rfl⟩
      first|rw [← hy732] at H|(replace H:=(Option.bind_some _ _).symm.trans H;rw [← hy732] at H)
      have Ny732:=Z hy732
      clear hy732
      replace H:=Option.bind_eq_some_iff.mp H
      obtain ⟨t735,A130,H⟩:=H
      try dsimp only at H
      have A13:=Z A130
      clear A130
      have HT:=Z (Option.some.inj H)
      clear H
      go_enter Try.func38,Try.ntmps38
      go_wp2_with (first|((with_reducible refine gate_callee (f:=40) rfl ?_);refine goesL_ (some 8) rfl rfl Try.func40 (by kernel_rfl) rfl #[.int .i64 3,.int .i64 2] rfl pG ?_;(with_reducible refine (trustquorumlaw10_same.calls k 3 2 t709 _ A1.out).mono ?_);rintro e w14 ⟨v710,rfl,ho0,hb⟩;refine ⟨_,rfl,?_⟩;have n0_:=Z (Kd.R_lower ho0 (below_size pB));have n1_:=Z (below_step pB hb);clear HB;have HO711:=n0_;have HB:=n1_;clear n0_ n1_;(try clear hb);(try clear hb2);(try clear hk);(try clear hi);(try clear ho0);obtain ⟨Ao15,co15,eo15⟩:=Kd.R_slice HO711.out;subst eo15)|((with_reducible refine gate_callee (f:=36) rfl ?_);refine goesL_ (some 9) rfl rfl Try.func36 (by kernel_rfl) rfl #[.agg #[.slice Ao15 t709.length co15]] rfl pG ?_;(with_reducible refine (quorums_Minimal.calls k _ _ t709 t712 t715 _ ?side1 ?side2 A2.out).mono ?_);(case side1=>repeat (first|exact (Kd.R_reads' HO711.out).2.2|(with_reducible refine Kd.C_alloc ?_ _)|(with_reducible refine Kd.C_drewN ?_ _)|(with_reducible refine Kd.C_drew ?_)));(case side2=>exact (Kd.R_reads' HO711.out).2.1);rintro e w16 ⟨v713,rfl,ho0,hb⟩;refine ⟨_,rfl,?_⟩;have n0_:=Z (Kd.R_elder' (pR HO711) (Kd.R_base ho0) hb);have n1_:=Z (Kd.R_lower ho0 (below_size pB));have n2_:=Z (below_step pB hb);clear HO711;clear HB;have HO711:=n0_;have HO714:=n1_;have HB:=n2_;clear n0_ n1_ n2_;(try clear hb);(try clear hb2);(try clear hk);(try clear hi);(try clear ho0))|((with_reducible refine gate_callee (f:=40) rfl ?_);refine goesL_ (some 13) rfl rfl Try.func40 (by kernel_rfl) rfl #[.int .i64 3,.int .i64 2] rfl pG ?_;(with_reducible refine (trustquorumlaw10_same.calls k 3 2 t716 _ A3.out).mono ?_);rintro e w17 ⟨v717,rfl,ho0,hb⟩;refine ⟨_,rfl,?_⟩;have n0_:=Z (Kd.R_elder' (pR HO711) (Kd.R_base ho0) hb);have n1_:=Z (Kd.R_below (pR HO714) hb);have n2_:=Z (Kd.R_lower (Kd.R_new' (Kd.R_new' ho0 (Kd.R_lt (pR HO711))) (Kd.R_lt (pR HO714))) (below_size pB));have n3_:=Z (below_step pB hb);clear HO711;clear HO714;clear HB;have HO711:=n0_;have HO714:=n1_;have HO718:=n2_;have HB:=n3_;clear n0_ n1_ n2_ n3_;(try clear hb);(try clear hb2);(try clear hk);(try clear hi);(try clear ho0);obtain ⟨Ao18,co18,eo18⟩:=Kd.R_slice HO718.out;subst eo18)|((with_reducible refine gate_callee (f:=41) rfl ?_);refine goesL_ (some 14) rfl rfl Try.func41 (by kernel_rfl) rfl #[.agg #[.slice Ao18 t716.length co18]] rfl pG ?_;(with_reducible refine (quorums_Count.calls k _ _ t716 t719 t720 _ ?side1 ?side2 A4.out).mono ?_);(case side1=>repeat (first|exact (Kd.R_reads' HO718.out).2.2|(with_reducible refine Kd.C_alloc ?_ _)|(with_reducible refine Kd.C_drewN ?_ _)|(with_reducible refine Kd.C_drew ?_)));(case side2=>exact (Kd.R_reads' HO718.out).2.1);rintro e w19 ⟨rfl,hb⟩;refine ⟨_,rfl,?_⟩;have n0_:=Z (Kd.R_below (pR HO711) hb);have n1_:=Z (Kd.R_below (pR HO714) hb);have n2_:=Z (Kd.R_below (pR HO718) hb);have n3_:=Z (below_step pB hb);clear HO711;clear HO714;clear HO718;clear HB;have HO711:=n0_;have HO714:=n1_;have HO718:=n2_;have HB:=n3_;clear n0_ n1_ n2_ n3_;(try clear hb);(try clear hb2);(try clear hk);(try clear hi))|((with_reducible refine gate_callee (f:=40) rfl ?_);refine goesL_ (some 18) rfl rfl Try.func40 (by kernel_rfl) rfl #[.int .i64 3,.int .i64 2] rfl pG ?_;(with_reducible refine (trustquorumlaw10_same.calls k 3 2 t721 _ A5.out).mono ?_);rintro e w20 ⟨v722,rfl,ho0,hb⟩;refine ⟨_,rfl,?_⟩;have n0_:=Z (Kd.R_elder' (pR HO711) (Kd.R_base ho0) hb);have n1_:=Z (Kd.R_below (pR HO714) hb);have n2_:=Z (Kd.R_elder' (pR HO718) (Kd.R_base ho0) hb);have n3_:=Z (Kd.R_lower (Kd.R_new' (Kd.R_new' (Kd.R_new' ho0 (Kd.R_lt (pR HO711))) (Kd.R_lt (pR HO714))) (Kd.R_lt (pR HO718))) (below_size pB));have n4_:=Z (below_step pB hb);clear HO711;clear HO714;clear HO718;clear HB;have HO711:=n0_;have HO714:=n1_;have HO718:=n2_;have HO723:=n3_;have HB:=n4_;clear n0_ n1_ n2_ n3_ n4_;(try clear hb);(try clear hb2);(try clear hk);(try clear hi);(try clear ho0);obtain ⟨Ao21,co21,eo21⟩:=Kd.R_slice HO723.out;subst eo21)|((with_reducible refine gate_callee (f:=39) rfl ?_);refine goesL_ (some 19) rfl rfl Try.func39 (by kernel_rfl) rfl #[.agg #[.slice Ao21 t721.length co21]] rfl pG ?_;(with_reducible refine (quorums_Parts.calls k _ _ t721 t724 t727 _ ?side1 ?side2 A6.out).mono ?_);(case side1=>repeat (first|exact (Kd.R_reads' HO723.out).2.2|(with_reducible refine Kd.C_alloc ?_ _)|(with_reducible refine Kd.C_drewN ?_ _)|(with_reducible refine Kd.C_drew ?_)));(case side2=>exact (Kd.R_reads' HO723.out).2.1);rintro e w22 ⟨v725,rfl,ho0,hb⟩;refine ⟨_,rfl,?_⟩;have n0_:=Z (Kd.R_elder' (pR HO711) (Kd.R_base ho0) hb);have n1_:=Z (Kd.R_elder' (pR HO714) (Kd.R_base ho0) hb);have n2_:=Z (Kd.R_elder' (pR HO718) (Kd.R_base ho0) hb);have n3_:=Z (Kd.R_elder' (pR HO723) (Kd.R_base ho0) hb);have n4_:=Z (Kd.R_lower (Kd.R_new' ho0 (Kd.R_lt (pR HO714))) (below_size pB));have n5_:=Z (below_step pB hb);clear HO711;clear HO714;clear HO718;clear HO723;clear HB;have HO711:=n0_;have HO714:=n1_;have HO718:=n2_;have HO723:=n3_;have HO726:=n4_;have HB:=n5_;clear n0_ n1_ n2_ n3_ n4_ n5_;(try clear hb);(try clear hb2);(try clear hk);(try clear hi);(try clear ho0))|((with_reducible refine gate_dst (N:=34) rfl ?_);(try (refine gate_guard (by rfl) ?_;dsimp only));refine Kd.R_lit (Kd.int .i64) _ 3 ?hg (N:=34) ?hd (xs:=([3,5,6]:List Int)) (inner:=[.int .i64 3,.int .i64 5,.int .i64 6]) (ok:=fun _=>True) (okp:=fun _=>True) ?hr ?hp (fun _ hk=>hk) trivial (Below.refl _ _) (Nat.le_refl _) (by simp) ?_;(case hd=>rfl);(case hg=>rfl);(case hr=>first|(go_simp;done)|(go_simp;rfl));(case hp=>exact (Reps.one (show Kd.M (Kd.int .i64) _ _ _ 3 [.int .i64 3] from rfl) (Reps.one (show Kd.M (Kd.int .i64) _ _ _ 5 [.int .i64 5] from rfl) (Reps.one (show Kd.M (Kd.int .i64) _ _ _ 6 [.int .i64 6] from rfl) (Reps.none _ _)))));intro v729 w23 ho24 hb hg_ hnew_;clear hg_ hnew_;(first|rw [← Ny728.out] at ho24|(simp only [Int.reduceToNat] at ho24;rw [← Ny728.out] at ho24));have n0_:=Z (Kd.R_elder' (pR HO711) (Kd.R_base ho24) hb);have n1_:=Z (Kd.R_elder' (pR HO714) (Kd.R_base ho24) hb);have n2_:=Z (Kd.R_elder' (pR HO718) (Kd.R_base ho24) hb);have n3_:=Z (Kd.R_elder' (pR HO723) (Kd.R_base ho24) hb);have n4_:=Z (Kd.R_elder' (pR HO726) (Kd.R_base ho24) hb);have n5_:=Z (Kd.R_lower (Kd.R_new' (Kd.R_new' ho24 (Kd.R_lt (pR HO714))) (Kd.R_lt (pR HO726))) (below_size pB));have n6_:=Z (below_step pB hb);clear HO711;clear HO714;clear HO718;clear HO723;clear HO726;clear HB;have HO711:=n0_;have HO714:=n1_;have HO718:=n2_;have HO723:=n3_;have HO726:=n4_;have HO730:=n5_;have HB:=n6_;clear n0_ n1_ n2_ n3_ n4_ n5_ n6_;clear hb ho24;obtain ⟨Ao25,co25,eo25⟩:=Kd.R_slice HO714.out;subst eo25;obtain ⟨Ao26,co26,eo26⟩:=Kd.R_slice HO730.out;subst eo26)|(go_at_call 22;(with_reducible refine (trustquorummake_Ints.calls k _ _ t712 _ _ y728 true _ ?side1 ?side2 ?side3 ?side4 A10.out).mono ?_);(case side1=>repeat (first|exact (Kd.R_reads' HO714.out).2.2|(with_reducible refine Kd.C_alloc ?_ _)|(with_reducible refine Kd.C_drewN ?_ _)|(with_reducible refine Kd.C_drew ?_)));(case side2=>exact (Kd.R_reads' HO714.out).2.1);(case side3=>repeat (first|exact (Kd.R_reads' HO730.out).2.2|(with_reducible refine Kd.C_alloc ?_ _)|(with_reducible refine Kd.C_drewN ?_ _)|(with_reducible refine Kd.C_drew ?_)));(case side4=>exact (Kd.R_reads' HO730.out).2.1);rintro e w' ⟨rfl,⟨nd,rfl⟩⟩)|((with_reducible refine gate_dst (N:=43) rfl ?_);(try (refine gate_guard (by rfl) ?_;dsimp only));refine Kd.R_lit (Kd.int .i64) _ 3 ?hg (N:=43) ?hd (xs:=([7]:List Int)) (inner:=[.int .i64 7]) (ok:=fun _=>True) (okp:=fun _=>True) ?hr ?hp (fun _ hk=>hk) trivial (Below.refl _ _) (Nat.le_refl _) (by simp) ?_;(case hd=>rfl);(case hg=>rfl);(case hr=>first|(go_simp;done)|(go_simp;rfl));(case hp=>exact (Reps.one (show Kd.M (Kd.int .i64) _ _ _ 7 [.int .i64 7] from rfl) (Reps.none _ _)));intro v733 w27 ho28 hb hg_ hnew_;clear hg_ hnew_;(first|rw [← Ny732.out] at ho28|(simp only [Int.reduceToNat] at ho28;rw [← Ny732.out] at ho28));have n0_:=Z (Kd.R_elder' (pR HO711) (Kd.R_base ho28) hb);have n1_:=Z (Kd.R_elder' (pR HO714) (Kd.R_base ho28) hb);have n2_:=Z (Kd.R_elder' (pR HO718) (Kd.R_base ho28) hb);have n3_:=Z (Kd.R_elder' (pR HO723) (Kd.R_base ho28) hb);have n4_:=Z (Kd.R_elder' (pR HO726) (Kd.R_base ho28) hb);have n5_:=Z (Kd.R_elder' (pR HO730) (Kd.R_base ho28) hb);have n6_:=Z (Kd.R_lower (Kd.R_new' (Kd.R_new' (Kd.R_new' ho28 (Kd.R_lt (pR HO714))) (Kd.R_lt (pR HO726))) (Kd.R_lt (pR HO730))) (below_size pB));have n7_:=Z (below_step pB hb);clear HO711;clear HO714;clear HO718;clear HO723;clear HO726;clear HO730;clear HB;have HO711:=n0_;have HO714:=n1_;have HO718:=n2_;have HO723:=n3_;have HO726:=n4_;have HO730:=n5_;have HO734:=n6_;have HB:=n7_;clear n0_ n1_ n2_ n3_ n4_ n5_ n6_ n7_;clear hb ho28;obtain ⟨Ao29,co29,eo29⟩:=Kd.R_slice HO726.out;subst eo29;obtain ⟨Ao30,co30,eo30⟩:=Kd.R_slice HO734.out;subst eo30)|(go_at_call 22;(with_reducible refine (trustquorummake_Ints.calls k _ _ t724 _ _ y732 t735 _ ?side1 ?side2 ?side3 ?side4 A13.out).mono ?_);(case side1=>repeat (first|exact (Kd.R_reads' HO726.out).2.2|(with_reducible refine Kd.C_alloc ?_ _)|(with_reducible refine Kd.C_drewN ?_ _)|(with_reducible refine Kd.C_drew ?_)));(case side2=>exact (Kd.R_reads' HO726.out).2.1);(case side3=>repeat (first|exact (Kd.R_reads' HO734.out).2.2|(with_reducible refine Kd.C_alloc ?_ _)|(with_reducible refine Kd.C_drewN ?_ _)|(with_reducible refine Kd.C_drew ?_)));(case side4=>exact (Kd.R_reads' HO734.out).2.1);rintro e w' ⟨rfl,⟨nd,rfl⟩⟩))
      go_ret
      exact ⟨by first|rfl|exact congrArg (fun b_:Bool=>Ending.returned (Value.bool b_)) HT.out|(simp [errW_none,errW_some] <;> rfl)|(simp [*,errW_none,errW_some] <;> rfl),pB⟩
     ·rw [if_neg c12] at H
      have c12b0:(t719 == 4)=false:=beq_eq_false_iff_ne.mpr c12
      have c12b1:(t719 != 4)=true:=bne_iff_ne.mpr c12
      exact absurd H (by simp)
    ·replace c11:=Bool.eq_false_iff.mpr c11
     subst c11
     rw [if_neg (show ¬ (false=true) by decide)] at H
     exact absurd H (by simp)
   ·rw [if_neg c9] at H
    have c9b0:(t727 == 0)=false:=beq_eq_false_iff_ne.mpr c9
    have c9b1:(t727 != 0)=true:=bne_iff_ne.mpr c9
    exact absurd H (by simp)
  ·rw [if_neg c8] at H
   have c8b0:(t720 == 0)=false:=beq_eq_false_iff_ne.mpr c8
   have c8b1:(t720 != 0)=true:=bne_iff_ne.mpr c8
   exact absurd H (by simp)
 ·rw [if_neg c7] at H
  have c7b0:(t715 == 0)=false:=beq_eq_false_iff_ne.mpr c7
  have c7b1:(t715 != 0)=true:=bne_iff_ne.mpr c7
  exact absurd H (by simp)
mutual
def quorums_Symmetric.l0:Nat→List Int→Int→Int→List (S34)→Option (Bool × Int)
 | 0,_,_,_,_=>none
 | k+1,x5,x20,x21,x778000=>if x21 < x20 then (quorums_Symmetric.l1 k x5 x21 x20 x21 x5 (x5.length:Int) 0 x778000) else (some (true,0))
def quorums_Symmetric.l1:Nat→List Int→Int→Int→Int→List Int→Int→Int→List (S34)→Option (Bool × Int)
 | 0,_,_,_,_,_,_,_,_=>none
 | k+1,x5,x6,x20,x21,x24,x25,x26,x778000=>if x26 < x25 then (if 0≤x26 then (if x26 < (x24.length:Int) then (if 0≤(rd x24 x26) then (if (rd x24 x26) < (x778000.length:Int) then ((threshold_Satisfied.f k ((rd_T34 x778000 (rd x24 x26)).f1.f0) ((rd_T34 x778000 (rd x24 x26)).f1.f1) ((rd_T34 x778000 (rd x24 x26)).f1.f2) x6).bind fun t785=>(if 0 < (x5.length:Int) then (if 0≤(rd x5 0) then (if (rd x5 0) < (x778000.length:Int) then ((threshold_Satisfied.f k ((rd_T34 x778000 (rd x5 0)).f1.f0) ((rd_T34 x778000 (rd x5 0)).f1.f1) ((rd_T34 x778000 (rd x5 0)).f1.f2) x6).bind fun t788=>(if (t785 != t788)=true then (some (false,0)) else (quorums_Symmetric.l1 k x5 x6 x20 x21 x24 x25 (wrap64 (x26+1)) x778000))) else (none)) else (none)) else (none))) else (none)) else (none)) else (none)) else (none)) else (quorums_Symmetric.l0 k x5 x20 (wrap64 (x21+1)) x778000)
end
def quorums_Symmetric.f (k:Nat) (l0_0:List (S34)):Option (Bool × Int):=(configuration_Valid.f k l0_0).bind fun t778=>(if t778=0 then ((configuration_Declared.f k l0_0).bind fun t779=>((nodeset_Nodes.f k t779).bind fun t780=>(quorums_Symmetric.l0 k t780 (shl .i64 1 (l0_0.length:Int)) 0 l0_0))) else (some (false,t778)))
def quorums_Symmetric.T11:Bool × List (List Nat × List Nat):=(true,[([],[]),([0],[0]),([],[]),([1,2],[1,2]),([3],[3]),([4],[4]),([],[]),([5,6],[5,6]),([],[]),([8],[8]),([],[]),([10],[10]),([11],[11]),([9,12],[9,12]),([13],[13]),([14],[14]),([],[]),([15,16,7],[15,16]),([7,17],[7,17])])
def quorums_Symmetric.B11:List Nat:=[0,1,0,7,15,31,0,127,0,256,0,1024,3072,7936,16128,32512,0,131071,262143]
theorem quorums_Symmetric.tab11:rtab .any (opsOf Try.f42 11)=quorums_Symmetric.T11:=by kernel_rfl
theorem quorums_Symmetric.bits11:waitsOk quorums_Symmetric.T11.2 quorums_Symmetric.B11=true:=by kernel_rfl
set_option maxHeartbeats 8000000 in
set_option maxRecDepth 100000 in
theorem quorums_Symmetric.calls (k:Nat) (A0_0:Option Addr) (c0_0:Nat) (l0_0:List (S34)) (r1:Bool) (r2:Int) (w:World) (hr0_0:Kd.C k34 w A0_0 l0_0.length l0_0) (hc0_0:l0_0.length≤c0_0) (h:quorums_Symmetric.f k l0_0=some (r1,r2)) :
  Calls Try.prog 42 #[.agg #[.slice A0_0 l0_0.length c0_0]] w fun e w'=>e=.returned (.tuple #[.bool r1,.int .i64 r2])∧Below w.heap.size w w':=by
 have hu27:=Try.underlying27
 have hu32:=Try.underlying32
 have HR0_0:=Z hr0_0
 have HC0_0:=Z hc0_0
 clear hr0_0 hc0_0
 have HB:=Z (Below.refl w.heap.size w)
 have H:((configuration_Valid.f k l0_0).bind fun t778=>(if t778=0 then ((configuration_Declared.f k l0_0).bind fun t779=>((nodeset_Nodes.f k t779).bind fun t780=>(quorums_Symmetric.l0 k t780 (shl .i64 1 (l0_0.length:Int)) 0 l0_0))) else (some (false,t778))))=some (r1,r2):=h
 clear h
 replace H:=Option.bind_eq_some_iff.mp H
 obtain ⟨t778,A20,H⟩:=H
 try dsimp only at H
 have A2:=Z A20
 clear A20
 by_cases c3:t778=0
 ·rw [if_pos c3] at H
  have c3b0:(t778 == 0)=true:=beq_iff_eq.mpr c3
  have c3b1:(t778 != 0)=false:=bne_eq_false_iff_eq.mpr c3
  clear c3
  replace H:=Option.bind_eq_some_iff.mp H
  obtain ⟨t779,A40,H⟩:=H
  try dsimp only at H
  have A4:=Z A40
  clear A40
  replace H:=Option.bind_eq_some_iff.mp H
  obtain ⟨t780,A50,H⟩:=H
  try dsimp only at H
  have A5:=Z A50
  clear A50
  obtain ⟨ji6,hji6⟩:∃ j_:Int,(shl .i64 1 (l0_0.length:Int))=j_:=⟨_,rfl⟩
  replace H:(quorums_Symmetric.l0 k t780 ji6 0 l0_0)=some (r1,r2):=by first|(rw [hji6] at H;exact H)|(simp only [hji6] at H ⊢;exact H)
  (try rw [hji6] at A2)
  (try rw [hji6] at A4)
  (try rw [hji6] at A5)
  have hji6_:(IntKind.i64.wrap (1 * 2 ^ min (l0_0.length:Int).toNat 64))=ji6:=hji6
  have hji6z:(l0_0.length:Int)≤64→(IntKind.i64.wrap (1 * 2 ^ (l0_0.length:Int).toNat))=ji6:=shl_small hji6
  have hji6p:(IntKind.i64.wrap (1 * 2 ^ min l0_0.length 64))=ji6:=hji6_
  have hji6q:(l0_0.length:Int)≤64→(IntKind.i64.wrap (1 * 2 ^ l0_0.length))=ji6:=hji6z
  have hji6r:(IntKind.i64.wrap (2 ^ min l0_0.length 64))=ji6:=by have h_:=hji6p;rw [Int.one_mul] at h_;exact h_
  have hji6s:(l0_0.length:Int)≤64→(IntKind.i64.wrap (2 ^ l0_0.length))=ji6:=fun hle_=>by have h_:=hji6q hle_;rw [Int.one_mul] at h_;exact h_
  have hji6u:(IntKind.i64.wrap (2 ^ min (l0_0.length:Int).toNat 64))=ji6:=by have h_:=hji6_;rw [Int.one_mul] at h_;exact h_
  have hji6v:(l0_0.length:Int)≤64→(IntKind.i64.wrap (2 ^ (l0_0.length:Int).toNat))=ji6:=fun hle_=>by have h_:=hji6z hle_;rw [Int.one_mul] at h_;exact h_
  have hji6y:(wrap64 (1 * 2 ^ min (l0_0.length:Int).toNat 64))=ji6:=(i64_w _).symm.trans hji6_
  have hji6x:(l0_0.length:Int)≤64→(wrap64 (1 * 2 ^ (l0_0.length:Int).toNat))=ji6:=fun h_=>(i64_w _).symm.trans (hji6z h_)
  have H':=Z H
  clear H
  go_enter Try.func42,Try.ntmps42
  go_wp2_with (first|((with_reducible refine gate_dst (N:=1) rfl ?_);refine box_event ?hg (N:=1) ?hd (cs:=#[.slice A0_0 l0_0.length c0_0]) (t:=27) ?hr ?_;(case hd=>rfl);(case hg=>rfl);(case hr=>first|(go_simp;done)|(go_simp;rfl));intro gb777 hg w7 hbox hb;have n0_:=Z (below_step pB hb);have n1_:=Z (hbox);have n2_:=Z ((pT hg:w.heap.size≤gb777));have n3_:=Z ((pT hg:w.heap.size≤gb777));clear HB;have HB:=n0_;have BK777:=n1_;have GW777:=n2_;have GE777:=n3_;clear n0_ n1_ n2_ n3_;clear hb hbox hg;have hcz8_0:w7.cell? ⟨gb777,0,none⟩=some (.slice A0_0 l0_0.length c0_0):=(kC BK777.out 0).trans rfl;have hfz8_0:=kF BK777.out 0)|((with_reducible refine gate_callee (f:=63) rfl ?_);refine goesL_ (some 10) rfl rfl Try.func63 (by kernel_rfl) rfl #[.agg #[.slice A0_0 l0_0.length c0_0]] rfl pG ?_;(with_reducible refine (configuration_Valid.calls k _ _ l0_0 t778 _ ?side1 ?side2 A2.out).mono ?_);(case side1=>repeat (first|exact (Kd.C_below HR0_0.out HB.out)|(with_reducible refine Kd.C_alloc ?_ _)|(with_reducible refine Kd.C_drewN ?_ _)|(with_reducible refine Kd.C_drew ?_)));(case side2=>exact HC0_0.out);rintro e w9 ⟨rfl,hb⟩;refine ⟨_,rfl,?_⟩;have n0_:=Z (blk_below (g:=gb777) (o:=.cells #[.slice A0_0 l0_0.length c0_0] 27 (0,0)) (pK BK777) hb);have n1_:=Z (below_step pB hb);clear BK777;clear HB;have BK777:=n0_;have HB:=n1_;clear n0_ n1_;(try clear hb);(try clear hb2);(try clear hk);(try clear hi);have hcz10_0:w9.cell? ⟨gb777,0,none⟩=some (.slice A0_0 l0_0.length c0_0):=(kC BK777.out 0).trans rfl;have hfz10_0:=kF BK777.out 0)|((with_reducible refine gate_callee (f:=61) rfl ?_);refine goesL_ (some 15) rfl rfl Try.func61 (by kernel_rfl) rfl #[.agg #[.slice A0_0 l0_0.length c0_0]] rfl pG ?_;(with_reducible refine (configuration_Declared.calls k _ _ l0_0 t779 _ ?side1 ?side2 A4.out).mono ?_);(case side1=>repeat (first|exact (Kd.C_below HR0_0.out HB.out)|(with_reducible refine Kd.C_alloc ?_ _)|(with_reducible refine Kd.C_drewN ?_ _)|(with_reducible refine Kd.C_drew ?_)));(case side2=>exact HC0_0.out);rintro e w11 ⟨rfl,hb⟩;refine ⟨_,rfl,?_⟩;have n0_:=Z (blk_below (g:=gb777) (o:=.cells #[.slice A0_0 l0_0.length c0_0] 27 (0,0)) (pK BK777) hb);have n1_:=Z (below_step pB hb);clear BK777;clear HB;have BK777:=n0_;have HB:=n1_;clear n0_ n1_;(try clear hb);(try clear hb2);(try clear hk);(try clear hi))|((with_reducible refine gate_callee (f:=77) rfl ?_);refine goesL_ (some 16) rfl rfl Try.func77 (by kernel_rfl) rfl #[.int .i64 t779] rfl pG ?_;(with_reducible refine (nodeset_Nodes.calls k t779 t780 _ A5.out).mono ?_);rintro e w12 ⟨v781,rfl,ho0,hb⟩;refine ⟨_,rfl,?_⟩;have n0_:=Z (Kd.R_lower ho0 (below_size pB));have n1_:=Z (blk_below (g:=gb777) (o:=.cells #[.slice A0_0 l0_0.length c0_0] 27 (0,0)) (pK BK777) hb);have n2_:=Z (below_step pB hb);clear BK777;clear HB;have HO782:=n0_;have BK777:=n1_;have HB:=n2_;clear n0_ n1_ n2_;(try clear hb);(try clear hb2);(try clear hk);(try clear hi);(try clear ho0);have hcz13_0:w12.cell? ⟨gb777,0,none⟩=some (.slice A0_0 l0_0.length c0_0):=(kC BK777.out 0).trans rfl;have hfz13_0:=kF BK777.out 0))
  go_loopg [21] k (fun kq v21 w'=>∃ (x21_1:Int),v21=.int .i64 x21_1∧Aside0 (quorums_Symmetric.l0 kq t780 ji6 x21_1 l0_0=some (r1,r2))∧Aside0 (kq≤k)∧Aside0 (Kd.R (Kd.int .i64) 3 w' w.heap.size (fun _=>True) v781 t780)∧Aside0 (w'.heap[gb777]?=some (.cells #[(.slice A0_0 l0_0.length c0_0)] 27 (0,0)))∧Aside0 (Below w.heap.size w w'))
  case atStart=>exact ⟨(0),pE,H',⟨Nat.le_refl _⟩,⟨pR HO782⟩,⟨pK BK777⟩,⟨pB⟩⟩
  case round =>
   clear H'
   try clear p2
   try clear c3
   try clear c3b0
   try clear c3b1
   try clear c4
   try clear c6
   try clear p6
   try clear c7
   try clear hcz10_0
   try clear hcz13_0
   try clear hcz8_0
   try clear hfz10_0
   try clear hfz13_0
   try clear hfz8_0
   obtain ⟨x21_1,rfl,HA,HK1,HO_5,BK777,HB⟩:=hrel
   cases gk with
   | zero=>exact absurd HA.out (by simp [quorums_Symmetric.l0])
   | succ k1 =>
    have H:=HA.out
    clear HA
    simp only [quorums_Symmetric.l0] at H
    by_cases c14:x21_1 < ji6
    ·rw [if_pos c14] at H
     have c14b0:decide (x21_1 < ji6)=true:=decide_eq_true c14
     clear c14
     have H':=Z H
     clear H
     obtain ⟨Ao15,co15,eo15⟩:=Kd.R_slice HO_5.out
     subst eo15
     go_wp2
     go_loopg [26] k1 (fun kq v26 w'=>∃ (x26_2:Int),v26=.int .i64 x26_2∧Aside0 (quorums_Symmetric.l1 kq t780 x21_1 ji6 x21_1 t780 (t780.length:Int) x26_2 l0_0=some (r1,r2))∧Aside0 (kq≤k1)∧Aside0 (Kd.R (Kd.int .i64) 3 w' w.heap.size (fun _=>True) (.slice Ao15 t780.length co15) t780)∧Aside0 (Kd.R (Kd.int .i64) 3 w' w.heap.size (fun _=>True) (.slice Ao15 t780.length co15) t780)∧Aside0 (w'.heap[gb777]?=some (.cells #[(.slice A0_0 l0_0.length c0_0)] 27 (0,0)))∧Aside0 (Below w.heap.size w w'))
     case atStart=>exact ⟨(0),pE,H',⟨Nat.le_refl _⟩,⟨pR HO_5⟩,⟨pR HO_5⟩,⟨pK BK777⟩,⟨pB⟩⟩
     case round =>
      clear H'
      try clear c1
      try clear p2
      try clear c3
      try clear c3b0
      try clear c3b1
      try clear c4
      try clear c6
      try clear p6
      try clear c7
      try clear c14
      try clear c14b0
      try clear hcz10_0
      try clear hcz13_0
      try clear hcz8_0
      try clear hfz10_0
      try clear hfz13_0
      try clear hfz8_0
      obtain ⟨x26_2,rfl,HA,HK2,HO_5,HO_24,BK777,HB⟩:=hrel
      cases gk with
      | zero=>exact absurd HA.out (by simp [quorums_Symmetric.l1])
      | succ k2 =>
       have H:=HA.out
       clear HA
       simp only [quorums_Symmetric.l1] at H
       by_cases c16:x26_2 < (t780.length:Int)
       ·rw [if_pos c16] at H
        have c16b0:decide (x26_2 < (t780.length:Int))=true:=decide_eq_true c16
        clear c16
        by_cases c17:0≤x26_2
        ·rw [if_pos c17] at H
         have c17b0:decide (0≤x26_2)=true:=decide_eq_true c17
         clear c17
         by_cases c18:x26_2 < (t780.length:Int)
         ·rw [if_pos c18] at H
          have c18b0:decide (x26_2 < (t780.length:Int))=true:=decide_eq_true c18
          clear c18
          by_cases c19:0≤(rd t780 x26_2)
          ·rw [if_pos c19] at H
           have c19b0:decide (0≤(rd t780 x26_2))=true:=decide_eq_true c19
           clear c19
           by_cases c20:(rd t780 x26_2) < (l0_0.length:Int)
           ·rw [if_pos c20] at H
            have c20b0:decide ((rd t780 x26_2) < (l0_0.length:Int))=true:=decide_eq_true c20
            clear c20
            replace H:=Option.bind_eq_some_iff.mp H
            obtain ⟨t785,A210,H⟩:=H
            try dsimp only at H
            have A21:=Z A210
            clear A210
            by_cases c22:0 < (t780.length:Int)
            ·rw [if_pos c22] at H
             have c22b0:decide (0 < (t780.length:Int))=true:=decide_eq_true c22
             have c22b1:decide (0 < t780.length)=true:=decide_eq_true (by omega)
             clear c22
             by_cases c23:0≤(rd t780 0)
             ·rw [if_pos c23] at H
              have c23b0:decide (0≤(rd t780 0))=true:=decide_eq_true c23
              clear c23
              by_cases c24:(rd t780 0) < (l0_0.length:Int)
              ·rw [if_pos c24] at H
               have c24b0:decide ((rd t780 0) < (l0_0.length:Int))=true:=decide_eq_true c24
               clear c24
               replace H:=Option.bind_eq_some_iff.mp H
               obtain ⟨t788,A250,H⟩:=H
               try dsimp only at H
               have A25:=Z A250
               clear A250
               by_cases c26:(t785 != t788)=true
               ·rw [if_pos c26] at H
                have c26b0:(t785 != t788)=true:=c26
                (try (have c26b1:decide (t785=t788)=false:=by simpa using c26))
                (try (have c26b2:(t785 == t788)=false:=by simpa using c26))
                (try (have c26b3:¬ (t785=t788):=by simpa using c26))
                clear c26
                simp only [Option.some.injEq,Prod.mk.injEq] at H
                obtain ⟨rfl,rfl⟩:=H
                have p783:0≤(x26_2:Int):=of_decide_eq_true (by first|(with_reducible assumption)|assumption)
                have q783:x26_2 < (t780.length:Int):=of_decide_eq_true (by first|(with_reducible assumption)|assumption)
                obtain ⟨ad783,e783,hx783_0⟩:=Kd.at_int (Kd.R_reads' HO_24.out).2.2 x26_2 p783 q783
                cases e783
                replace p783:=eq_true p783
                replace q783:=eq_true q783
                try go_wp2
                have n0_:=Z (Kd.R_drew HO_5.out)
                have n1_:=Z (Kd.R_drew HO_24.out)
                have n2_:=Z (kD BK777.out)
                have n3_:=Z (wD HB.out)
                clear HO_5
                clear HO_24
                clear BK777
                clear HB
                have HO_5:=n0_
                have HO_24:=n1_
                have BK777:=n2_
                have HB:=n3_
                clear n0_ n1_ n2_ n3_
                have p784:0≤((rd t780 x26_2):Int):=of_decide_eq_true (by first|(with_reducible assumption)|assumption)
                have q784:(rd t780 x26_2) < (l0_0.length:Int):=of_decide_eq_true (by first|(with_reducible assumption)|assumption)
                obtain ⟨ad784,A784_2,c784_2,A784_3,c784_3,e784,hx784_0,hx784_1,hx784_2,hx784_3,hl784_2,hi784_2,hl784_3,hi784_3⟩:=at_T34 HR0_0.out (rd t780 x26_2) p784 q784
                have hw784_3:=hx784_3
                have hw784_2:=hx784_2
                have hw784_1:=hx784_1
                have hw784_0:=hx784_0
                cases e784
                replace hx784_0:=(HB.out.cell (World.block_lt_of_cell? w _ hx784_0)).trans hx784_0
                replace hx784_1:=(HB.out.cell (World.block_lt_of_cell? w _ hx784_1)).trans hx784_1
                replace hx784_2:=(HB.out.cell (World.block_lt_of_cell? w _ hx784_2)).trans hx784_2
                replace hx784_3:=(HB.out.cell (World.block_lt_of_cell? w _ hx784_3)).trans hx784_3
                have HR784_2:=Z hi784_2
                have HC784_2:=Z hl784_2
                clear hi784_2 hl784_2
                have HR784_3:=Z hi784_3
                have HC784_3:=Z hl784_3
                clear hi784_3 hl784_3
                replace p784:=eq_true p784
                replace q784:=eq_true q784
                have p786:0≤(0:Int):=(by omega)
                have q786:0 < (t780.length:Int):=of_decide_eq_true (by first|(with_reducible assumption)|assumption)
                obtain ⟨ad786,e786,hx786_0⟩:=Kd.at_int (Kd.R_reads' HO_5.out).2.2 0 p786 q786
                obtain rfl:ad783=ad786:=(by injection e786)
                have qi786:(0 < t780.length)=True:=eq_true (by omega)
                (try rw [show ((0:Int)).toNat=0 from rfl] at hx786_0)
                (try rw [Addr.add_zero'] at hx786_0)
                replace p786:=eq_true p786
                replace q786:=eq_true q786
                have p787:0≤((rd t780 0):Int):=of_decide_eq_true (by first|(with_reducible assumption)|assumption)
                have q787:(rd t780 0) < (l0_0.length:Int):=of_decide_eq_true (by first|(with_reducible assumption)|assumption)
                obtain ⟨ad787,A787_2,c787_2,A787_3,c787_3,e787,hx787_0,hx787_1,hx787_2,hx787_3,hl787_2,hi787_2,hl787_3,hi787_3⟩:=at_T34 HR0_0.out (rd t780 0) p787 q787
                have hw787_3:=hx787_3
                have hw787_2:=hx787_2
                have hw787_1:=hx787_1
                have hw787_0:=hx787_0
                obtain rfl:ad784=ad787:=(by injection e787)
                replace hx787_0:=(HB.out.cell (World.block_lt_of_cell? w _ hx787_0)).trans hx787_0
                replace hx787_1:=(HB.out.cell (World.block_lt_of_cell? w _ hx787_1)).trans hx787_1
                replace hx787_2:=(HB.out.cell (World.block_lt_of_cell? w _ hx787_2)).trans hx787_2
                replace hx787_3:=(HB.out.cell (World.block_lt_of_cell? w _ hx787_3)).trans hx787_3
                have HR787_2:=Z hi787_2
                have HC787_2:=Z hl787_2
                clear hi787_2 hl787_2
                have HR787_3:=Z hi787_3
                have HC787_3:=Z hl787_3
                clear hi787_3 hl787_3
                replace p787:=eq_true p787
                replace q787:=eq_true q787
                refine start_ (n:=19) (S:=fun w'=>w'.cell? ⟨gb777,0,none⟩=some (.slice (some ad784) l0_0.length c0_0)∧w'.cell? (ad784.add (((rd t780 x26_2)).toNat * 4))=some (.bool ((rd_T34 l0_0 (rd t780 x26_2)).f0))∧w'.cell? ⟨(ad784.add (((rd t780 x26_2)).toNat * 4)).block,(ad784.add (((rd t780 x26_2)).toNat * 4)).off+1,none⟩=some (.int .i64 ((rd_T34 l0_0 (rd t780 x26_2)).f1.f0))∧w'.cell? ⟨(ad784.add (((rd t780 x26_2)).toNat * 4)).block,(ad784.add (((rd t780 x26_2)).toNat * 4)).off+2,none⟩=some (.slice A784_2 ((rd_T34 l0_0 (rd t780 x26_2)).f1.f1).length c784_2)∧w'.cell? ⟨(ad784.add (((rd t780 x26_2)).toNat * 4)).block,(ad784.add (((rd t780 x26_2)).toNat * 4)).off+3,none⟩=some (.slice A784_3 ((rd_T34 l0_0 (rd t780 x26_2)).f1.f2).length c784_3)∧w'.cell? ad783=some (.int .i64 (rd t780 0))∧w'.cell? (ad784.add (((rd t780 0)).toNat * 4))=some (.bool ((rd_T34 l0_0 (rd t780 0)).f0))∧w'.cell? ⟨(ad784.add (((rd t780 0)).toNat * 4)).block,(ad784.add (((rd t780 0)).toNat * 4)).off+1,none⟩=some (.int .i64 ((rd_T34 l0_0 (rd t780 0)).f1.f0))∧w'.cell? ⟨(ad784.add (((rd t780 0)).toNat * 4)).block,(ad784.add (((rd t780 0)).toNat * 4)).off+2,none⟩=some (.slice A787_2 ((rd_T34 l0_0 (rd t780 0)).f1.f1).length c787_2)∧w'.cell? ⟨(ad784.add (((rd t780 0)).toNat * 4)).block,(ad784.add (((rd t780 0)).toNat * 4)).off+3,none⟩=some (.slice A787_3 ((rd_T34 l0_0 (rd t780 0)).f1.f2).length c787_3)) (ds:=[]) #[false,false,false,false,false,false,false,false,false,false,false,false,false,false,false,false,false,false,false] (by kernel_rfl) rfl rfl ⟨(kC BK777.out 0).trans rfl,((HB.out.cell (World.block_lt_of_cell? w _ hw784_0)).trans hw784_0),((HB.out.cell (World.block_lt_of_cell? w _ hw784_1)).trans hw784_1),((HB.out.cell (World.block_lt_of_cell? w _ hw784_2)).trans hw784_2),((HB.out.cell (World.block_lt_of_cell? w _ hw784_3)).trans hw784_3),hx786_0,((HB.out.cell (World.block_lt_of_cell? w _ hw787_0)).trans hw787_0),((HB.out.cell (World.block_lt_of_cell? w _ hw787_1)).trans hw787_1),((HB.out.cell (World.block_lt_of_cell? w _ hw787_2)).trans hw787_2),((HB.out.cell (World.block_lt_of_cell? w _ hw787_3)).trans hw787_3)⟩ (fun hHeld=>?_);refine with_tabW quorums_Symmetric.tab11 quorums_Symmetric.bits11 (fun HT_ HW_=>?_)
                generalize wr.drew=w27 at HO_5 HO_24 BK777 HB HR784_2 HR784_3 HR787_2 HR787_3 hx784_0 hx784_1 hx784_2 hx784_3 hx786_0 hx787_0 hx787_1 hx787_2 hx787_3 hHeld ⊢
                refine pure_ (i:=0) (N:=some 30) (v:=?_) (a':=?_) #[true,false,false,false,false,false,false,false,false,false,false,false,false,false,false,false,false,false,false] rfl rfl (any_of HT_.out (by kernel_rfl)) (fun _ _ _ h=>h) (Or.inl ⟨by rfl,?_⟩) ?_ ?_
                rotate_left
                ·intro w'
                 go_simp
                 with_reducible rfl
                rotate_left
                ·simp only [Act.put,List.setIfInBounds_toArray,List.set_cons_zero,List.set_cons_succ,i64_w,i32_w]
                 rfl
                refine pure_ (i:=2) (N:=some 32) (v:=?_) (a':=?_) #[true,false,true,false,false,false,false,false,false,false,false,false,false,false,false,false,false,false,false] rfl rfl (any_of HT_.out (by kernel_rfl)) (fun _ _ _ h=>h) (Or.inl ⟨by rfl,?_⟩) ?_ ?_
                rotate_left
                ·intro w'
                 go_simp
                 with_reducible rfl
                rotate_left
                ·simp only [Act.put,List.setIfInBounds_toArray,List.set_cons_zero,List.set_cons_succ,i64_w,i32_w]
                 rfl
                refine pure_ (i:=6) (N:=some 36) (v:=?_) (a':=?_) #[true,false,true,false,false,false,true,false,false,false,false,false,false,false,false,false,false,false,false] rfl rfl (any_of HT_.out (by kernel_rfl)) (fun _ _ _ h=>h) (Or.inl ⟨by rfl,?_⟩) ?_ ?_
                rotate_left
                ·intro w'
                 go_simp
                 with_reducible rfl
                rotate_left
                ·simp only [Act.put,List.setIfInBounds_toArray,List.set_cons_zero,List.set_cons_succ,i64_w,i32_w]
                 rfl
                refine pure_ (i:=8) (N:=some 38) (v:=?_) (a':=?_) #[true,false,true,false,false,false,true,false,true,false,false,false,false,false,false,false,false,false,false] rfl rfl (any_of HT_.out (by kernel_rfl)) (fun _ _ _ h=>h) (Or.inl ⟨by rfl,?_⟩) ?_ ?_
                rotate_left
                ·intro w'
                 go_simp
                 with_reducible rfl
                rotate_left
                ·simp only [Act.put,List.setIfInBounds_toArray,List.set_cons_zero,List.set_cons_succ,i64_w,i32_w]
                 rfl
                refine pure_ (i:=10) (N:=some 40) (v:=?_) (a':=?_) #[true,false,true,false,false,false,true,false,true,false,true,false,false,false,false,false,false,false,false] rfl rfl (any_of HT_.out (by kernel_rfl)) (fun _ _ _ h=>h) (Or.inl ⟨by rfl,?_⟩) ?_ ?_
                rotate_left
                ·intro w'
                 go_simp
                 with_reducible rfl
                rotate_left
                ·simp only [Act.put,List.setIfInBounds_toArray,List.set_cons_zero,List.set_cons_succ,i64_w,i32_w]
                 rfl
                refine pure_ (i:=11) (N:=some 41) (v:=?_) (a':=?_) #[true,false,true,false,false,false,true,false,true,false,true,true,false,false,false,false,false,false,false] rfl rfl (any_of HT_.out (by kernel_rfl)) (fun _ _ _ h=>h) (Or.inl ⟨by rfl,?_⟩) ?_ ?_
                rotate_left
                ·intro w'
                 go_simp
                 with_reducible rfl
                rotate_left
                ·simp only [Act.put,List.setIfInBounds_toArray,List.set_cons_zero,List.set_cons_succ,i64_w,i32_w]
                 rfl
                refine pure_ (i:=16) (N:=some 46) (v:=?_) (a':=?_) #[true,false,true,false,false,false,true,false,true,false,true,true,false,false,false,false,true,false,false] rfl rfl (any_of HT_.out (by kernel_rfl)) (fun _ _ _ h=>h) (Or.inl ⟨by rfl,?_⟩) ?_ ?_
                rotate_left
                ·intro w'
                 go_simp
                 with_reducible rfl
                rotate_left
                ·simp only [Act.put,List.setIfInBounds_toArray,List.set_cons_zero,List.set_cons_succ,i64_w,i32_w]
                 rfl
                refine take_ (i:=1) (N:=some 31) (v:=?_) (a':=?_) #[true,true,true,false,false,false,true,false,true,false,true,true,false,false,false,false,true,false,false] rfl rfl (take_ofW HT_.out HW_.out (by kernel_rfl)) (fun _ _ _ h=>h) (Or.inl ⟨by rfl,?_⟩) hHeld ?_ ?_
                rotate_left
                ·rintro w' ⟨s0,s1,s2,s3,s4,s5,s6,s7,s8,s9⟩
                 go_simp
                 with_reducible rfl
                rotate_left
                ·simp only [Act.put,List.setIfInBounds_toArray,List.set_cons_zero,List.set_cons_succ,i64_w,i32_w]
                 rfl
                refine pure_ (i:=3) (N:=some 33) (v:=?_) (a':=?_) #[true,true,true,true,false,false,true,false,true,false,true,true,false,false,false,false,true,false,false] rfl rfl (any_of HT_.out (by kernel_rfl)) (fun _ _ _ h=>h) (Or.inl ⟨by rfl,?_⟩) ?_ ?_
                rotate_left
                ·intro w'
                 go_simp
                 with_reducible rfl
                rotate_left
                ·simp only [Act.put,List.setIfInBounds_toArray,List.set_cons_zero,List.set_cons_succ,i64_w,i32_w]
                 rfl
                refine pure_ (i:=4) (N:=some 34) (v:=?_) (a':=?_) #[true,true,true,true,true,false,true,false,true,false,true,true,false,false,false,false,true,false,false] rfl rfl (any_of HT_.out (by kernel_rfl)) (fun _ _ _ h=>h) (Or.inl ⟨by rfl,?_⟩) ?_ ?_
                rotate_left
                ·intro w'
                 go_simp
                 with_reducible rfl
                rotate_left
                ·simp only [Act.put,List.setIfInBounds_toArray,List.set_cons_zero,List.set_cons_succ,i64_w,i32_w]
                 rfl
                refine take_ (i:=5) (N:=some 35) (v:=?_) (a':=?_) #[true,true,true,true,true,true,true,false,true,false,true,true,false,false,false,false,true,false,false] rfl rfl (take_ofW HT_.out HW_.out (by kernel_rfl)) (fun _ _ _ h=>h) (Or.inl ⟨by rfl,?_⟩) hHeld ?_ ?_
                rotate_left
                ·rintro w' ⟨s0,s1,s2,s3,s4,s5,s6,s7,s8,s9⟩
                 go_simp
                 with_reducible rfl
                rotate_left
                ·simp only [Act.put,List.setIfInBounds_toArray,List.set_cons_zero,List.set_cons_succ,i64_w,i32_w]
                 rfl
                refine take_ (i:=9) (N:=some 39) (v:=?_) (a':=?_) #[true,true,true,true,true,true,true,false,true,true,true,true,false,false,false,false,true,false,false] rfl rfl (take_ofW HT_.out HW_.out (by kernel_rfl)) (fun _ _ _ h=>h) (Or.inl ⟨by rfl,?_⟩) hHeld ?_ ?_
                rotate_left
                ·rintro w' ⟨s0,s1,s2,s3,s4,s5,s6,s7,s8,s9⟩
                 go_simp
                 with_reducible rfl
                rotate_left
                ·simp only [Act.put,List.setIfInBounds_toArray,List.set_cons_zero,List.set_cons_succ,i64_w,i32_w]
                 rfl
                refine take_ (i:=12) (N:=some 42) (v:=?_) (a':=?_) #[true,true,true,true,true,true,true,false,true,true,true,true,true,false,false,false,true,false,false] rfl rfl (take_ofW HT_.out HW_.out (by kernel_rfl)) (fun _ _ _ h=>h) (Or.inl ⟨by rfl,?_⟩) hHeld ?_ ?_
                rotate_left
                ·rintro w' ⟨s0,s1,s2,s3,s4,s5,s6,s7,s8,s9⟩
                 go_simp
                 with_reducible rfl
                rotate_left
                ·simp only [Act.put,List.setIfInBounds_toArray,List.set_cons_zero,List.set_cons_succ,i64_w,i32_w]
                 rfl
                refine pure_ (i:=13) (N:=some 43) (v:=?_) (a':=?_) #[true,true,true,true,true,true,true,false,true,true,true,true,true,true,false,false,true,false,false] rfl rfl (any_of HT_.out (by kernel_rfl)) (fun _ _ _ h=>h) (Or.inl ⟨by rfl,?_⟩) ?_ ?_
                rotate_left
                ·intro w'
                 go_simp
                 with_reducible rfl
                rotate_left
                ·simp only [Act.put,List.setIfInBounds_toArray,List.set_cons_zero,List.set_cons_succ,i64_w,i32_w]
                 rfl
                refine pure_ (i:=14) (N:=some 44) (v:=?_) (a':=?_) #[true,true,true,true,true,true,true,false,true,true,true,true,true,true,true,false,true,false,false] rfl rfl (any_of HT_.out (by kernel_rfl)) (fun _ _ _ h=>h) (Or.inl ⟨by rfl,?_⟩) ?_ ?_
                rotate_left
                ·intro w'
                 go_simp
                 with_reducible rfl
                rotate_left
                ·simp only [Act.put,List.setIfInBounds_toArray,List.set_cons_zero,List.set_cons_succ,i64_w,i32_w]
                 rfl
                refine take_ (i:=15) (N:=some 45) (v:=?_) (a':=?_) #[true,true,true,true,true,true,true,false,true,true,true,true,true,true,true,true,true,false,false] rfl rfl (take_ofW HT_.out HW_.out (by kernel_rfl)) (fun _ _ _ h=>h) (Or.inl ⟨by rfl,?_⟩) hHeld ?_ ?_
                rotate_left
                ·rintro w' ⟨s0,s1,s2,s3,s4,s5,s6,s7,s8,s9⟩
                 go_simp
                 with_reducible rfl
                rotate_left
                ·simp only [Act.put,List.setIfInBounds_toArray,List.set_cons_zero,List.set_cons_succ,i64_w,i32_w]
                 rfl
                refine one_ (i:=7) (N:=some 37) #[true,true,true,true,true,true,true,true,true,true,true,true,true,true,true,true,true,false,false] rfl rfl (one_of HT_.out (by kernel_rfl)) (by decide) (fun K hK=>?_)
                refine goes_ Try.func62 (by kernel_rfl) rfl #[.agg #[.int .i64 ((rd_T34 l0_0 (rd t780 x26_2)).f1.f0),.slice A784_2 ((rd_T34 l0_0 (rd t780 x26_2)).f1.f1).length c784_2,.slice A784_3 ((rd_T34 l0_0 (rd t780 x26_2)).f1.f2).length c784_3],.int .i64 x21_1] (by rfl) rfl rfl pG ?_
                with_reducible refine (threshold_Satisfied.calls k2 ((rd_T34 l0_0 (rd t780 x26_2)).f1.f0) _ _ ((rd_T34 l0_0 (rd t780 x26_2)).f1.f1) _ _ ((rd_T34 l0_0 (rd t780 x26_2)).f1.f2) x21_1 t785 _ ?side1 ?side2 ?side3 ?side4 A21.out).mono ?_
                (case side1=>repeat (first|exact (Kd.C_below HR784_2.out HB.out)|(with_reducible refine Kd.C_alloc ?_ _)|(with_reducible refine Kd.C_drewN ?_ _)|(with_reducible refine Kd.C_drew ?_)))
                (case side2=>exact HC784_2.out)
                (case side3=>repeat (first|exact (Kd.C_below HR784_3.out HB.out)|(with_reducible refine Kd.C_alloc ?_ _)|(with_reducible refine Kd.C_drewN ?_ _)|(with_reducible refine Kd.C_drew ?_)))
                (case side4=>exact HC784_3.out)
                rintro e w28 ⟨rfl,hb⟩
                have HS5_:=(hb.cell (World.block_lt_of_cell? _ _ (hHeld.2.2.2.2.2.1))).trans (hHeld.2.2.2.2.2.1)
                refine ⟨_,rfl,?_⟩
                have n0_:=Z (Kd.R_below (pR HO_5) hb)
                have n1_:=Z (Kd.R_below (pR HO_24) hb)
                have n2_:=Z (blk_below (g:=gb777) (o:=.cells #[.slice (some ad784) l0_0.length c0_0] 27 (0,0)) (pK BK777) hb)
                have n3_:=Z (below_step pB hb)
                clear HO_5
                clear HO_24
                clear BK777
                clear HB
                have HO_5:=n0_
                have HO_24:=n1_
                have BK777:=n2_
                have HB:=n3_
                clear n0_ n1_ n2_ n3_
                (try clear hb)
                (try clear hb2)
                (try clear hk)
                (try clear hi)
                refine hK.out _ _ ⟨(kC BK777.out 0).trans rfl,((HB.out.cell (World.block_lt_of_cell? w _ hw784_0)).trans hw784_0),((HB.out.cell (World.block_lt_of_cell? w _ hw784_1)).trans hw784_1),((HB.out.cell (World.block_lt_of_cell? w _ hw784_2)).trans hw784_2),((HB.out.cell (World.block_lt_of_cell? w _ hw784_3)).trans hw784_3),HS5_,((HB.out.cell (World.block_lt_of_cell? w _ hw787_0)).trans hw787_0),((HB.out.cell (World.block_lt_of_cell? w _ hw787_1)).trans hw787_1),((HB.out.cell (World.block_lt_of_cell? w _ hw787_2)).trans hw787_2),((HB.out.cell (World.block_lt_of_cell? w _ hw787_3)).trans hw787_3)⟩ (fun hHeld=>?_)
                clear hK K
                refine norm_ (a':=?_) ?_ ?_
                rotate_left
                ·show Act.put _ (some 37) _=_
                 simp only [Act.put,List.setIfInBounds_toArray,List.set_cons_zero,List.set_cons_succ,i64_w,i32_w]
                 rfl
                refine one_ (i:=17) (N:=some 47) #[true,true,true,true,true,true,true,true,true,true,true,true,true,true,true,true,true,true,false] rfl rfl (one_of HT_.out (by kernel_rfl)) (by decide) (fun K hK=>?_)
                refine goes_ Try.func62 (by kernel_rfl) rfl #[.agg #[.int .i64 ((rd_T34 l0_0 (rd t780 0)).f1.f0),.slice A787_2 ((rd_T34 l0_0 (rd t780 0)).f1.f1).length c787_2,.slice A787_3 ((rd_T34 l0_0 (rd t780 0)).f1.f2).length c787_3],.int .i64 x21_1] (by rfl) rfl rfl pG ?_
                with_reducible refine (threshold_Satisfied.calls k2 ((rd_T34 l0_0 (rd t780 0)).f1.f0) _ _ ((rd_T34 l0_0 (rd t780 0)).f1.f1) _ _ ((rd_T34 l0_0 (rd t780 0)).f1.f2) x21_1 t788 _ ?side1 ?side2 ?side3 ?side4 A25.out).mono ?_
                (case side1=>repeat (first|exact (Kd.C_below HR787_2.out HB.out)|(with_reducible refine Kd.C_alloc ?_ _)|(with_reducible refine Kd.C_drewN ?_ _)|(with_reducible refine Kd.C_drew ?_)))
                (case side2=>exact HC787_2.out)
                (case side3=>repeat (first|exact (Kd.C_below HR787_3.out HB.out)|(with_reducible refine Kd.C_alloc ?_ _)|(with_reducible refine Kd.C_drewN ?_ _)|(with_reducible refine Kd.C_drew ?_)))
                (case side4=>exact HC787_3.out)
                rintro e w29 ⟨rfl,hb⟩
                have HS5_:=(hb.cell (World.block_lt_of_cell? _ _ (hHeld.2.2.2.2.2.1))).trans (hHeld.2.2.2.2.2.1)
                refine ⟨_,rfl,?_⟩
                have n0_:=Z (Kd.R_below (pR HO_5) hb)
                have n1_:=Z (Kd.R_below (pR HO_24) hb)
                have n2_:=Z (blk_below (g:=gb777) (o:=.cells #[.slice (some ad784) l0_0.length c0_0] 27 (0,0)) (pK BK777) hb)
                have n3_:=Z (below_step pB hb)
                clear HO_5
                clear HO_24
                clear BK777
                clear HB
                have HO_5:=n0_
                have HO_24:=n1_
                have BK777:=n2_
                have HB:=n3_
                clear n0_ n1_ n2_ n3_
                (try clear hb)
                (try clear hb2)
                (try clear hk)
                (try clear hi)
                refine hK.out _ _ ⟨(kC BK777.out 0).trans rfl,((HB.out.cell (World.block_lt_of_cell? w _ hw784_0)).trans hw784_0),((HB.out.cell (World.block_lt_of_cell? w _ hw784_1)).trans hw784_1),((HB.out.cell (World.block_lt_of_cell? w _ hw784_2)).trans hw784_2),((HB.out.cell (World.block_lt_of_cell? w _ hw784_3)).trans hw784_3),HS5_,((HB.out.cell (World.block_lt_of_cell? w _ hw787_0)).trans hw787_0),((HB.out.cell (World.block_lt_of_cell? w _ hw787_1)).trans hw787_1),((HB.out.cell (World.block_lt_of_cell? w _ hw787_2)).trans hw787_2),((HB.out.cell (World.block_lt_of_cell? w _ hw787_3)).trans hw787_3)⟩ (fun hHeld=>?_)
                clear hK K
                refine norm_ (a':=?_) ?_ ?_
                rotate_left
                ·show Act.put _ (some 47) _=_
                 simp only [Act.put,List.setIfInBounds_toArray,List.set_cons_zero,List.set_cons_succ,i64_w,i32_w]
                 rfl
                refine pure_ (i:=18) (N:=some 48) (v:=?_) (a':=?_) #[true,true,true,true,true,true,true,true,true,true,true,true,true,true,true,true,true,true,true] rfl rfl (any_of HT_.out (by kernel_rfl)) (fun _ _ _ h=>h) (Or.inl ⟨by rfl,?_⟩) ?_ ?_
                rotate_left
                ·intro w'
                 go_simp
                 with_reducible rfl
                rotate_left
                ·simp only [Act.put,List.setIfInBounds_toArray,List.set_cons_zero,List.set_cons_succ,i64_w,i32_w]
                 rfl
                refine done_ (done_of HT_.out (by kernel_rfl)) ?_
                try go_wp2
                go_ret2
                exact ⟨by first|rfl|(simp [errW_none,errW_some] <;> rfl)|(simp only [← hji6];first|rfl|(simp [errW_none,errW_some] <;> rfl))|(simp [*,errW_none,errW_some] <;> rfl),pB⟩
               ·rw [if_neg c26] at H
                have c26b0:(t785 != t788)=false:=by simpa using c26
                (try (have c26b1:decide (t785=t788)=true:=by simpa using c26))
                (try (have c26b2:(t785 == t788)=true:=by simpa using c26))
                clear c26
                have H':=Z H
                clear H
                have p783:0≤(x26_2:Int):=of_decide_eq_true (by first|(with_reducible assumption)|assumption)
                have q783:x26_2 < (t780.length:Int):=of_decide_eq_true (by first|(with_reducible assumption)|assumption)
                obtain ⟨ad783,e783,hx783_0⟩:=Kd.at_int (Kd.R_reads' HO_24.out).2.2 x26_2 p783 q783
                cases e783
                replace p783:=eq_true p783
                replace q783:=eq_true q783
                try go_wp2
                have n0_:=Z (Kd.R_drew HO_5.out)
                have n1_:=Z (Kd.R_drew HO_24.out)
                have n2_:=Z (kD BK777.out)
                have n3_:=Z (wD HB.out)
                clear HO_5
                clear HO_24
                clear BK777
                clear HB
                have HO_5:=n0_
                have HO_24:=n1_
                have BK777:=n2_
                have HB:=n3_
                clear n0_ n1_ n2_ n3_
                have p784:0≤((rd t780 x26_2):Int):=of_decide_eq_true (by first|(with_reducible assumption)|assumption)
                have q784:(rd t780 x26_2) < (l0_0.length:Int):=of_decide_eq_true (by first|(with_reducible assumption)|assumption)
                obtain ⟨ad784,A784_2,c784_2,A784_3,c784_3,e784,hx784_0,hx784_1,hx784_2,hx784_3,hl784_2,hi784_2,hl784_3,hi784_3⟩:=at_T34 HR0_0.out (rd t780 x26_2) p784 q784
                have hw784_3:=hx784_3
                have hw784_2:=hx784_2
                have hw784_1:=hx784_1
                have hw784_0:=hx784_0
                cases e784
                replace hx784_0:=(HB.out.cell (World.block_lt_of_cell? w _ hx784_0)).trans hx784_0
                replace hx784_1:=(HB.out.cell (World.block_lt_of_cell? w _ hx784_1)).trans hx784_1
                replace hx784_2:=(HB.out.cell (World.block_lt_of_cell? w _ hx784_2)).trans hx784_2
                replace hx784_3:=(HB.out.cell (World.block_lt_of_cell? w _ hx784_3)).trans hx784_3
                have HR784_2:=Z hi784_2
                have HC784_2:=Z hl784_2
                clear hi784_2 hl784_2
                have HR784_3:=Z hi784_3
                have HC784_3:=Z hl784_3
                clear hi784_3 hl784_3
                replace p784:=eq_true p784
                replace q784:=eq_true q784
                have p786:0≤(0:Int):=(by omega)
                have q786:0 < (t780.length:Int):=of_decide_eq_true (by first|(with_reducible assumption)|assumption)
                obtain ⟨ad786,e786,hx786_0⟩:=Kd.at_int (Kd.R_reads' HO_5.out).2.2 0 p786 q786
                obtain rfl:ad783=ad786:=(by injection e786)
                have qi786:(0 < t780.length)=True:=eq_true (by omega)
                (try rw [show ((0:Int)).toNat=0 from rfl] at hx786_0)
                (try rw [Addr.add_zero'] at hx786_0)
                replace p786:=eq_true p786
                replace q786:=eq_true q786
                have p787:0≤((rd t780 0):Int):=of_decide_eq_true (by first|(with_reducible assumption)|assumption)
                have q787:(rd t780 0) < (l0_0.length:Int):=of_decide_eq_true (by first|(with_reducible assumption)|assumption)
                obtain ⟨ad787,A787_2,c787_2,A787_3,c787_3,e787,hx787_0,hx787_1,hx787_2,hx787_3,hl787_2,hi787_2,hl787_3,hi787_3⟩:=at_T34 HR0_0.out (rd t780 0) p787 q787
                have hw787_3:=hx787_3
                have hw787_2:=hx787_2
                have hw787_1:=hx787_1
                have hw787_0:=hx787_0
                obtain rfl:ad784=ad787:=(by injection e787)
                replace hx787_0:=(HB.out.cell (World.block_lt_of_cell? w _ hx787_0)).trans hx787_0
                replace hx787_1:=(HB.out.cell (World.block_lt_of_cell? w _ hx787_1)).trans hx787_1
                replace hx787_2:=(HB.out.cell (World.block_lt_of_cell? w _ hx787_2)).trans hx787_2
                replace hx787_3:=(HB.out.cell (World.block_lt_of_cell? w _ hx787_3)).trans hx787_3
                have HR787_2:=Z hi787_2
                have HC787_2:=Z hl787_2
                clear hi787_2 hl787_2
                have HR787_3:=Z hi787_3
                have HC787_3:=Z hl787_3
                clear hi787_3 hl787_3
                replace p787:=eq_true p787
                replace q787:=eq_true q787
                refine start_ (n:=19) (S:=fun w'=>w'.cell? ⟨gb777,0,none⟩=some (.slice (some ad784) l0_0.length c0_0)∧w'.cell? (ad784.add (((rd t780 x26_2)).toNat * 4))=some (.bool ((rd_T34 l0_0 (rd t780 x26_2)).f0))∧w'.cell? ⟨(ad784.add (((rd t780 x26_2)).toNat * 4)).block,(ad784.add (((rd t780 x26_2)).toNat * 4)).off+1,none⟩=some (.int .i64 ((rd_T34 l0_0 (rd t780 x26_2)).f1.f0))∧w'.cell? ⟨(ad784.add (((rd t780 x26_2)).toNat * 4)).block,(ad784.add (((rd t780 x26_2)).toNat * 4)).off+2,none⟩=some (.slice A784_2 ((rd_T34 l0_0 (rd t780 x26_2)).f1.f1).length c784_2)∧w'.cell? ⟨(ad784.add (((rd t780 x26_2)).toNat * 4)).block,(ad784.add (((rd t780 x26_2)).toNat * 4)).off+3,none⟩=some (.slice A784_3 ((rd_T34 l0_0 (rd t780 x26_2)).f1.f2).length c784_3)∧w'.cell? ad783=some (.int .i64 (rd t780 0))∧w'.cell? (ad784.add (((rd t780 0)).toNat * 4))=some (.bool ((rd_T34 l0_0 (rd t780 0)).f0))∧w'.cell? ⟨(ad784.add (((rd t780 0)).toNat * 4)).block,(ad784.add (((rd t780 0)).toNat * 4)).off+1,none⟩=some (.int .i64 ((rd_T34 l0_0 (rd t780 0)).f1.f0))∧w'.cell? ⟨(ad784.add (((rd t780 0)).toNat * 4)).block,(ad784.add (((rd t780 0)).toNat * 4)).off+2,none⟩=some (.slice A787_2 ((rd_T34 l0_0 (rd t780 0)).f1.f1).length c787_2)∧w'.cell? ⟨(ad784.add (((rd t780 0)).toNat * 4)).block,(ad784.add (((rd t780 0)).toNat * 4)).off+3,none⟩=some (.slice A787_3 ((rd_T34 l0_0 (rd t780 0)).f1.f2).length c787_3)) (ds:=[]) #[false,false,false,false,false,false,false,false,false,false,false,false,false,false,false,false,false,false,false] (by kernel_rfl) rfl rfl ⟨(kC BK777.out 0).trans rfl,((HB.out.cell (World.block_lt_of_cell? w _ hw784_0)).trans hw784_0),((HB.out.cell (World.block_lt_of_cell? w _ hw784_1)).trans hw784_1),((HB.out.cell (World.block_lt_of_cell? w _ hw784_2)).trans hw784_2),((HB.out.cell (World.block_lt_of_cell? w _ hw784_3)).trans hw784_3),hx786_0,((HB.out.cell (World.block_lt_of_cell? w _ hw787_0)).trans hw787_0),((HB.out.cell (World.block_lt_of_cell? w _ hw787_1)).trans hw787_1),((HB.out.cell (World.block_lt_of_cell? w _ hw787_2)).trans hw787_2),((HB.out.cell (World.block_lt_of_cell? w _ hw787_3)).trans hw787_3)⟩ (fun hHeld=>?_);refine with_tabW quorums_Symmetric.tab11 quorums_Symmetric.bits11 (fun HT_ HW_=>?_)
                generalize wr.drew=w30 at HO_5 HO_24 BK777 HB HR784_2 HR784_3 HR787_2 HR787_3 hx784_0 hx784_1 hx784_2 hx784_3 hx786_0 hx787_0 hx787_1 hx787_2 hx787_3 hHeld ⊢
                refine pure_ (i:=0) (N:=some 30) (v:=?_) (a':=?_) #[true,false,false,false,false,false,false,false,false,false,false,false,false,false,false,false,false,false,false] rfl rfl (any_of HT_.out (by kernel_rfl)) (fun _ _ _ h=>h) (Or.inl ⟨by rfl,?_⟩) ?_ ?_
                rotate_left
                ·intro w'
                 go_simp
                 with_reducible rfl
                rotate_left
                ·simp only [Act.put,List.setIfInBounds_toArray,List.set_cons_zero,List.set_cons_succ,i64_w,i32_w]
                 rfl
                refine pure_ (i:=2) (N:=some 32) (v:=?_) (a':=?_) #[true,false,true,false,false,false,false,false,false,false,false,false,false,false,false,false,false,false,false] rfl rfl (any_of HT_.out (by kernel_rfl)) (fun _ _ _ h=>h) (Or.inl ⟨by rfl,?_⟩) ?_ ?_
                rotate_left
                ·intro w'
                 go_simp
                 with_reducible rfl
                rotate_left
                ·simp only [Act.put,List.setIfInBounds_toArray,List.set_cons_zero,List.set_cons_succ,i64_w,i32_w]
                 rfl
                refine pure_ (i:=6) (N:=some 36) (v:=?_) (a':=?_) #[true,false,true,false,false,false,true,false,false,false,false,false,false,false,false,false,false,false,false] rfl rfl (any_of HT_.out (by kernel_rfl)) (fun _ _ _ h=>h) (Or.inl ⟨by rfl,?_⟩) ?_ ?_
                rotate_left
                ·intro w'
                 go_simp
                 with_reducible rfl
                rotate_left
                ·simp only [Act.put,List.setIfInBounds_toArray,List.set_cons_zero,List.set_cons_succ,i64_w,i32_w]
                 rfl
                refine pure_ (i:=8) (N:=some 38) (v:=?_) (a':=?_) #[true,false,true,false,false,false,true,false,true,false,false,false,false,false,false,false,false,false,false] rfl rfl (any_of HT_.out (by kernel_rfl)) (fun _ _ _ h=>h) (Or.inl ⟨by rfl,?_⟩) ?_ ?_
                rotate_left
                ·intro w'
                 go_simp
                 with_reducible rfl
                rotate_left
                ·simp only [Act.put,List.setIfInBounds_toArray,List.set_cons_zero,List.set_cons_succ,i64_w,i32_w]
                 rfl
                refine pure_ (i:=10) (N:=some 40) (v:=?_) (a':=?_) #[true,false,true,false,false,false,true,false,true,false,true,false,false,false,false,false,false,false,false] rfl rfl (any_of HT_.out (by kernel_rfl)) (fun _ _ _ h=>h) (Or.inl ⟨by rfl,?_⟩) ?_ ?_
                rotate_left
                ·intro w'
                 go_simp
                 with_reducible rfl
                rotate_left
                ·simp only [Act.put,List.setIfInBounds_toArray,List.set_cons_zero,List.set_cons_succ,i64_w,i32_w]
                 rfl
                refine pure_ (i:=11) (N:=some 41) (v:=?_) (a':=?_) #[true,false,true,false,false,false,true,false,true,false,true,true,false,false,false,false,false,false,false] rfl rfl (any_of HT_.out (by kernel_rfl)) (fun _ _ _ h=>h) (Or.inl ⟨by rfl,?_⟩) ?_ ?_
                rotate_left
                ·intro w'
                 go_simp
                 with_reducible rfl
                rotate_left
                ·simp only [Act.put,List.setIfInBounds_toArray,List.set_cons_zero,List.set_cons_succ,i64_w,i32_w]
                 rfl
                refine pure_ (i:=16) (N:=some 46) (v:=?_) (a':=?_) #[true,false,true,false,false,false,true,false,true,false,true,true,false,false,false,false,true,false,false] rfl rfl (any_of HT_.out (by kernel_rfl)) (fun _ _ _ h=>h) (Or.inl ⟨by rfl,?_⟩) ?_ ?_
                rotate_left
                ·intro w'
                 go_simp
                 with_reducible rfl
                rotate_left
                ·simp only [Act.put,List.setIfInBounds_toArray,List.set_cons_zero,List.set_cons_succ,i64_w,i32_w]
                 rfl
                refine take_ (i:=1) (N:=some 31) (v:=?_) (a':=?_) #[true,true,true,false,false,false,true,false,true,false,true,true,false,false,false,false,true,false,false] rfl rfl (take_ofW HT_.out HW_.out (by kernel_rfl)) (fun _ _ _ h=>h) (Or.inl ⟨by rfl,?_⟩) hHeld ?_ ?_
                rotate_left
                ·rintro w' ⟨s0,s1,s2,s3,s4,s5,s6,s7,s8,s9⟩
                 go_simp
                 with_reducible rfl
                rotate_left
                ·simp only [Act.put,List.setIfInBounds_toArray,List.set_cons_zero,List.set_cons_succ,i64_w,i32_w]
                 rfl
                refine pure_ (i:=3) (N:=some 33) (v:=?_) (a':=?_) #[true,true,true,true,false,false,true,false,true,false,true,true,false,false,false,false,true,false,false] rfl rfl (any_of HT_.out (by kernel_rfl)) (fun _ _ _ h=>h) (Or.inl ⟨by rfl,?_⟩) ?_ ?_
                rotate_left
                ·intro w'
                 go_simp
                 with_reducible rfl
                rotate_left
                ·simp only [Act.put,List.setIfInBounds_toArray,List.set_cons_zero,List.set_cons_succ,i64_w,i32_w]
                 rfl
                refine pure_ (i:=4) (N:=some 34) (v:=?_) (a':=?_) #[true,true,true,true,true,false,true,false,true,false,true,true,false,false,false,false,true,false,false] rfl rfl (any_of HT_.out (by kernel_rfl)) (fun _ _ _ h=>h) (Or.inl ⟨by rfl,?_⟩) ?_ ?_
                rotate_left
                ·intro w'
                 go_simp
                 with_reducible rfl
                rotate_left
                ·simp only [Act.put,List.setIfInBounds_toArray,List.set_cons_zero,List.set_cons_succ,i64_w,i32_w]
                 rfl
                refine take_ (i:=5) (N:=some 35) (v:=?_) (a':=?_) #[true,true,true,true,true,true,true,false,true,false,true,true,false,false,false,false,true,false,false] rfl rfl (take_ofW HT_.out HW_.out (by kernel_rfl)) (fun _ _ _ h=>h) (Or.inl ⟨by rfl,?_⟩) hHeld ?_ ?_
                rotate_left
                ·rintro w' ⟨s0,s1,s2,s3,s4,s5,s6,s7,s8,s9⟩
                 go_simp
                 with_reducible rfl
                rotate_left
                ·simp only [Act.put,List.setIfInBounds_toArray,List.set_cons_zero,List.set_cons_succ,i64_w,i32_w]
                 rfl
                refine take_ (i:=9) (N:=some 39) (v:=?_) (a':=?_) #[true,true,true,true,true,true,true,false,true,true,true,true,false,false,false,false,true,false,false] rfl rfl (take_ofW HT_.out HW_.out (by kernel_rfl)) (fun _ _ _ h=>h) (Or.inl ⟨by rfl,?_⟩) hHeld ?_ ?_
                rotate_left
                ·rintro w' ⟨s0,s1,s2,s3,s4,s5,s6,s7,s8,s9⟩
                 go_simp
                 with_reducible rfl
                rotate_left
                ·simp only [Act.put,List.setIfInBounds_toArray,List.set_cons_zero,List.set_cons_succ,i64_w,i32_w]
                 rfl
                refine take_ (i:=12) (N:=some 42) (v:=?_) (a':=?_) #[true,true,true,true,true,true,true,false,true,true,true,true,true,false,false,false,true,false,false] rfl rfl (take_ofW HT_.out HW_.out (by kernel_rfl)) (fun _ _ _ h=>h) (Or.inl ⟨by rfl,?_⟩) hHeld ?_ ?_
                rotate_left
                ·rintro w' ⟨s0,s1,s2,s3,s4,s5,s6,s7,s8,s9⟩
                 go_simp
                 with_reducible rfl
                rotate_left
                ·simp only [Act.put,List.setIfInBounds_toArray,List.set_cons_zero,List.set_cons_succ,i64_w,i32_w]
                 rfl
                refine pure_ (i:=13) (N:=some 43) (v:=?_) (a':=?_) #[true,true,true,true,true,true,true,false,true,true,true,true,true,true,false,false,true,false,false] rfl rfl (any_of HT_.out (by kernel_rfl)) (fun _ _ _ h=>h) (Or.inl ⟨by rfl,?_⟩) ?_ ?_
                rotate_left
                ·intro w'
                 go_simp
                 with_reducible rfl
                rotate_left
                ·simp only [Act.put,List.setIfInBounds_toArray,List.set_cons_zero,List.set_cons_succ,i64_w,i32_w]
                 rfl
                refine pure_ (i:=14) (N:=some 44) (v:=?_) (a':=?_) #[true,true,true,true,true,true,true,false,true,true,true,true,true,true,true,false,true,false,false] rfl rfl (any_of HT_.out (by kernel_rfl)) (fun _ _ _ h=>h) (Or.inl ⟨by rfl,?_⟩) ?_ ?_
                rotate_left
                ·intro w'
                 go_simp
                 with_reducible rfl
                rotate_left
                ·simp only [Act.put,List.setIfInBounds_toArray,List.set_cons_zero,List.set_cons_succ,i64_w,i32_w]
                 rfl
                refine take_ (i:=15) (N:=some 45) (v:=?_) (a':=?_) #[true,true,true,true,true,true,true,false,true,true,true,true,true,true,true,true,true,false,false] rfl rfl (take_ofW HT_.out HW_.out (by kernel_rfl)) (fun _ _ _ h=>h) (Or.inl ⟨by rfl,?_⟩) hHeld ?_ ?_
                rotate_left
                ·rintro w' ⟨s0,s1,s2,s3,s4,s5,s6,s7,s8,s9⟩
                 go_simp
                 with_reducible rfl
                rotate_left
                ·simp only [Act.put,List.setIfInBounds_toArray,List.set_cons_zero,List.set_cons_succ,i64_w,i32_w]
                 rfl
                refine one_ (i:=7) (N:=some 37) #[true,true,true,true,true,true,true,true,true,true,true,true,true,true,true,true,true,false,false] rfl rfl (one_of HT_.out (by kernel_rfl)) (by decide) (fun K hK=>?_)
                refine goes_ Try.func62 (by kernel_rfl) rfl #[.agg #[.int .i64 ((rd_T34 l0_0 (rd t780 x26_2)).f1.f0),.slice A784_2 ((rd_T34 l0_0 (rd t780 x26_2)).f1.f1).length c784_2,.slice A784_3 ((rd_T34 l0_0 (rd t780 x26_2)).f1.f2).length c784_3],.int .i64 x21_1] (by rfl) rfl rfl pG ?_
                with_reducible refine (threshold_Satisfied.calls k2 ((rd_T34 l0_0 (rd t780 x26_2)).f1.f0) _ _ ((rd_T34 l0_0 (rd t780 x26_2)).f1.f1) _ _ ((rd_T34 l0_0 (rd t780 x26_2)).f1.f2) x21_1 t785 _ ?side1 ?side2 ?side3 ?side4 A21.out).mono ?_
                (case side1=>repeat (first|exact (Kd.C_below HR784_2.out HB.out)|(with_reducible refine Kd.C_alloc ?_ _)|(with_reducible refine Kd.C_drewN ?_ _)|(with_reducible refine Kd.C_drew ?_)))
                (case side2=>exact HC784_2.out)
                (case side3=>repeat (first|exact (Kd.C_below HR784_3.out HB.out)|(with_reducible refine Kd.C_alloc ?_ _)|(with_reducible refine Kd.C_drewN ?_ _)|(with_reducible refine Kd.C_drew ?_)))
                (case side4=>exact HC784_3.out)
                rintro e w31 ⟨rfl,hb⟩
                have HS5_:=(hb.cell (World.block_lt_of_cell? _ _ (hHeld.2.2.2.2.2.1))).trans (hHeld.2.2.2.2.2.1)
                refine ⟨_,rfl,?_⟩
                have n0_:=Z (Kd.R_below (pR HO_5) hb)
                have n1_:=Z (Kd.R_below (pR HO_24) hb)
                have n2_:=Z (blk_below (g:=gb777) (o:=.cells #[.slice (some ad784) l0_0.length c0_0] 27 (0,0)) (pK BK777) hb)
                have n3_:=Z (below_step pB hb)
                clear HO_5
                clear HO_24
                clear BK777
                clear HB
                have HO_5:=n0_
                have HO_24:=n1_
                have BK777:=n2_
                have HB:=n3_
                clear n0_ n1_ n2_ n3_
                (try clear hb)
                (try clear hb2)
                (try clear hk)
                (try clear hi)
                refine hK.out _ _ ⟨(kC BK777.out 0).trans rfl,((HB.out.cell (World.block_lt_of_cell? w _ hw784_0)).trans hw784_0),((HB.out.cell (World.block_lt_of_cell? w _ hw784_1)).trans hw784_1),((HB.out.cell (World.block_lt_of_cell? w _ hw784_2)).trans hw784_2),((HB.out.cell (World.block_lt_of_cell? w _ hw784_3)).trans hw784_3),HS5_,((HB.out.cell (World.block_lt_of_cell? w _ hw787_0)).trans hw787_0),((HB.out.cell (World.block_lt_of_cell? w _ hw787_1)).trans hw787_1),((HB.out.cell (World.block_lt_of_cell? w _ hw787_2)).trans hw787_2),((HB.out.cell (World.block_lt_of_cell? w _ hw787_3)).trans hw787_3)⟩ (fun hHeld=>?_)
                clear hK K
                refine norm_ (a':=?_) ?_ ?_
                rotate_left
                ·show Act.put _ (some 37) _=_
                 simp only [Act.put,List.setIfInBounds_toArray,List.set_cons_zero,List.set_cons_succ,i64_w,i32_w]
                 rfl
                refine one_ (i:=17) (N:=some 47) #[true,true,true,true,true,true,true,true,true,true,true,true,true,true,true,true,true,true,false] rfl rfl (one_of HT_.out (by kernel_rfl)) (by decide) (fun K hK=>?_)
                refine goes_ Try.func62 (by kernel_rfl) rfl #[.agg #[.int .i64 ((rd_T34 l0_0 (rd t780 0)).f1.f0),.slice A787_2 ((rd_T34 l0_0 (rd t780 0)).f1.f1).length c787_2,.slice A787_3 ((rd_T34 l0_0 (rd t780 0)).f1.f2).length c787_3],.int .i64 x21_1] (by rfl) rfl rfl pG ?_
                with_reducible refine (threshold_Satisfied.calls k2 ((rd_T34 l0_0 (rd t780 0)).f1.f0) _ _ ((rd_T34 l0_0 (rd t780 0)).f1.f1) _ _ ((rd_T34 l0_0 (rd t780 0)).f1.f2) x21_1 t788 _ ?side1 ?side2 ?side3 ?side4 A25.out).mono ?_
                (case side1=>repeat (first|exact (Kd.C_below HR787_2.out HB.out)|(with_reducible refine Kd.C_alloc ?_ _)|(with_reducible refine Kd.C_drewN ?_ _)|(with_reducible refine Kd.C_drew ?_)))
                (case side2=>exact HC787_2.out)
                (case side3=>repeat (first|exact (Kd.C_below HR787_3.out HB.out)|(with_reducible refine Kd.C_alloc ?_ _)|(with_reducible refine Kd.C_drewN ?_ _)|(with_reducible refine Kd.C_drew ?_)))
                (case side4=>exact HC787_3.out)
                rintro e w32 ⟨rfl,hb⟩
                have HS5_:=(hb.cell (World.block_lt_of_cell? _ _ (hHeld.2.2.2.2.2.1))).trans (hHeld.2.2.2.2.2.1)
                refine ⟨_,rfl,?_⟩
                have n0_:=Z (Kd.R_below (pR HO_5) hb)
                have n1_:=Z (Kd.R_below (pR HO_24) hb)
                have n2_:=Z (blk_below (g:=gb777) (o:=.cells #[.slice (some ad784) l0_0.length c0_0] 27 (0,0)) (pK BK777) hb)
                have n3_:=Z (below_step pB hb)
                clear HO_5
                clear HO_24
                clear BK777
                clear HB
                have HO_5:=n0_
                have HO_24:=n1_
                have BK777:=n2_
                have HB:=n3_
                clear n0_ n1_ n2_ n3_
                (try clear hb)
                (try clear hb2)
                (try clear hk)
                (try clear hi)
                refine hK.out _ _ ⟨(kC BK777.out 0).trans rfl,((HB.out.cell (World.block_lt_of_cell? w _ hw784_0)).trans hw784_0),((HB.out.cell (World.block_lt_of_cell? w _ hw784_1)).trans hw784_1),((HB.out.cell (World.block_lt_of_cell? w _ hw784_2)).trans hw784_2),((HB.out.cell (World.block_lt_of_cell? w _ hw784_3)).trans hw784_3),HS5_,((HB.out.cell (World.block_lt_of_cell? w _ hw787_0)).trans hw787_0),((HB.out.cell (World.block_lt_of_cell? w _ hw787_1)).trans hw787_1),((HB.out.cell (World.block_lt_of_cell? w _ hw787_2)).trans hw787_2),((HB.out.cell (World.block_lt_of_cell? w _ hw787_3)).trans hw787_3)⟩ (fun hHeld=>?_)
                clear hK K
                refine norm_ (a':=?_) ?_ ?_
                rotate_left
                ·show Act.put _ (some 47) _=_
                 simp only [Act.put,List.setIfInBounds_toArray,List.set_cons_zero,List.set_cons_succ,i64_w,i32_w]
                 rfl
                refine pure_ (i:=18) (N:=some 48) (v:=?_) (a':=?_) #[true,true,true,true,true,true,true,true,true,true,true,true,true,true,true,true,true,true,true] rfl rfl (any_of HT_.out (by kernel_rfl)) (fun _ _ _ h=>h) (Or.inl ⟨by rfl,?_⟩) ?_ ?_
                rotate_left
                ·intro w'
                 go_simp
                 with_reducible rfl
                rotate_left
                ·simp only [Act.put,List.setIfInBounds_toArray,List.set_cons_zero,List.set_cons_succ,i64_w,i32_w]
                 rfl
                refine done_ (done_of HT_.out (by kernel_rfl)) ?_
                try go_wp2
                go_roundg k2
                case measure=>have:=HK1.out;have:=HK2.out;omega
                case rel=>exact ⟨(wrap64 (x26_2+1)),pE,H',⟨by have:=HK1.out;have:=HK2.out;omega⟩,⟨pR HO_5⟩,⟨pR HO_24⟩,⟨pK BK777⟩,⟨pB⟩⟩
              ·rw [if_neg c24] at H
               exact absurd H (by simp)
             ·rw [if_neg c23] at H
              exact absurd H (by simp)
            ·rw [if_neg c22] at H
             exact absurd H (by simp)
           ·rw [if_neg c20] at H
            exact absurd H (by simp)
          ·rw [if_neg c19] at H
           exact absurd H (by simp)
         ·rw [if_neg c18] at H
          exact absurd H (by simp)
        ·rw [if_neg c17] at H
         exact absurd H (by simp)
       ·rw [if_neg c16] at H
        have c16b0:decide (x26_2 < (t780.length:Int))=false:=decide_eq_false c16
        clear c16
        have H':=Z H
        clear H
        go_wp2
        go_roundg k2
        case measure=>have:=HK1.out;have:=HK2.out;omega
        case rel=>exact ⟨(wrap64 (x21_1+1)),pE,H',⟨by have:=HK1.out;have:=HK2.out;omega⟩,⟨pR HO_5⟩,⟨pK BK777⟩,⟨pB⟩⟩
    ·rw [if_neg c14] at H
     have c14b0:decide (x21_1 < ji6)=false:=decide_eq_false c14
     clear c14
     simp only [Option.some.injEq,Prod.mk.injEq] at H
     obtain ⟨rfl,rfl⟩:=H
     go_wp2
     go_ret2
     exact ⟨by first|rfl|(simp [errW_none,errW_some] <;> rfl)|(simp only [← hji6];first|rfl|(simp [errW_none,errW_some] <;> rfl))|(simp [*,errW_none,errW_some] <;> rfl),pB⟩
 ·rw [if_neg c3] at H
  have c3b0:(t778 == 0)=false:=beq_eq_false_iff_ne.mpr c3
  have c3b1:(t778 != 0)=true:=bne_iff_ne.mpr c3
  simp only [Option.some.injEq,Prod.mk.injEq] at H
  obtain ⟨rfl,rfl⟩:=H
  go_enter Try.func42,Try.ntmps42
  go_wp2_with (first|((with_reducible refine gate_dst (N:=1) rfl ?_);refine box_event ?hg (N:=1) ?hd (cs:=#[.slice A0_0 l0_0.length c0_0]) (t:=27) ?hr ?_;(case hd=>rfl);(case hg=>rfl);(case hr=>first|(go_simp;done)|(go_simp;rfl));intro gb777 hg w33 hbox hb;have n0_:=Z (below_step pB hb);have n1_:=Z (hbox);have n2_:=Z ((pT hg:w.heap.size≤gb777));have n3_:=Z ((pT hg:w.heap.size≤gb777));clear HB;have HB:=n0_;have BK777:=n1_;have GW777:=n2_;have GE777:=n3_;clear n0_ n1_ n2_ n3_;clear hb hbox hg;have hcz34_0:w33.cell? ⟨gb777,0,none⟩=some (.slice A0_0 l0_0.length c0_0):=(kC BK777.out 0).trans rfl;have hfz34_0:=kF BK777.out 0)|((with_reducible refine gate_callee (f:=63) rfl ?_);refine goesL_ (some 10) rfl rfl Try.func63 (by kernel_rfl) rfl #[.agg #[.slice A0_0 l0_0.length c0_0]] rfl pG ?_;(with_reducible refine (configuration_Valid.calls k _ _ l0_0 t778 _ ?side1 ?side2 A2.out).mono ?_);(case side1=>repeat (first|exact (Kd.C_below HR0_0.out HB.out)|(with_reducible refine Kd.C_alloc ?_ _)|(with_reducible refine Kd.C_drewN ?_ _)|(with_reducible refine Kd.C_drew ?_)));(case side2=>exact HC0_0.out);rintro e w35 ⟨rfl,hb⟩;refine ⟨_,rfl,?_⟩;have n0_:=Z (blk_below (g:=gb777) (o:=.cells #[.slice A0_0 l0_0.length c0_0] 27 (0,0)) (pK BK777) hb);have n1_:=Z (below_step pB hb);clear BK777;clear HB;have BK777:=n0_;have HB:=n1_;clear n0_ n1_;(try clear hb);(try clear hb2);(try clear hk);(try clear hi)))
  go_ret2
  exact ⟨pF,pB⟩
end Go.Proofs.Ytkjlcbfjllpcnaa.X
